/- Part 8 of 15 of the proof of the law DagStays: what is proved is the statement at the end of the last part; its conditions are those of the given row. -/
import Derived.Test.YtndjfdakflaggaaGreatZDagStaysF
import Derived.Test.YtndjfdakflaggaaGreatZDagStaysG
namespace Go.Proofs.YtndjfdakflaggaaGreat.Px
open Go.RowKit Go.Proofs.YtndjfdakflaggaaGreatW.PrintWords Go.Proofs.YtndjfdakflaggaaGreatW.PrintLast Go.Proofs.YtndjfdakflaggaaGreatW.PrintMore
attribute [local go_sem] zA zC zH zI zv zw zB zD
set_option linter.unusedVariables false
set_option linter.unusedSimpArgs false
def zay.f (a0_0 : Int) (a0_1 : Int) (l0_2 : List (S75)) (l0_3 : List ByteArray) (a0_4 : Int) (a0_5 : Int) (a1 : Int) : Option (ByteArray × Int) := (zaz.f a0_0 a0_1 l0_2 l0_3 a0_4 a0_5 a1).bind fun yp => (if yp = true then ((zaF.f l0_2).bind fun yj => ((zau.f (([a0_0,a0_1,a0_4,a0_5] : List Int))).bind fun ya => (if 0 < (ya.length : Int) then (if 1 < (ya.length : Int) then (if (zz ByteArray.empty ya 0).size + (zz ByteArray.empty ya 1).size ≤ 9223372036854775807 then ((zZ.f yj).bind fun yc => (if ((zz ByteArray.empty ya 0) ++ (zz ByteArray.empty ya 1)).size + yc.size ≤ 9223372036854775807 then ((zZ.f l0_3).bind fun yd => (if (((zz ByteArray.empty ya 0) ++ (zz ByteArray.empty ya 1)) ++ yc).size + yd.size ≤ 9223372036854775807 then (if 2 < (ya.length : Int) then (if ((((zz ByteArray.empty ya 0) ++ (zz ByteArray.empty ya 1)) ++ yc) ++ yd).size + (zz ByteArray.empty ya 2).size ≤ 9223372036854775807 then (if 3 < (ya.length : Int) then (if (((((zz ByteArray.empty ya 0) ++ (zz ByteArray.empty ya 1)) ++ yc) ++ yd) ++ (zz ByteArray.empty ya 2)).size + (zz ByteArray.empty ya 3).size ≤ 9223372036854775807 then (some ((((((zz ByteArray.empty ya 0) ++ (zz ByteArray.empty ya 1)) ++ yc) ++ yd) ++ (zz ByteArray.empty ya 2)) ++ (zz ByteArray.empty ya 3),0)) else (none)) else (none)) else (none)) else (none)) else (none))) else (none))) else (none)) else (none)) else (none)))) else (some ((⟨#[]⟩ : ByteArray),1)))
def zay.T5 : Bool × List (List Nat × List Nat) := (true,[([],[]),([0],[0]),([1],[1]),([],[]),([3],[3]),([4],[4]),([2,5],[2,5]),([],[]),([7],[7]),([6,8],[6,8]),([],[]),([10],[10]),([11,8],[11]),([9,12],[9,12]),([],[]),([14],[14]),([15],[15]),([13,16],[13,16]),([],[]),([18],[18]),([19],[19]),([17,20],[17,20]),([21,12,0,1,2,3,4,5,6,7,8,9,10,11,12,13,14,15,16,17,18,19,20,21],[21]),([22,0,1,2,3,4,5,6,7,8,9,10,11,12,13,14,15,16,17,18,19,20,21,22],[])])
def zay.B5 : List Nat := [0,1,3,0,8,24,63,0,128,511,0,1024,3456,8191,0,16384,49152,131071,0,262144,786432,2097151,4194303,8388607]
theorem zay.tab5 : zb5 .any (zdW Tryz.f29 5) = zay.T5 := by kernel_rfl
theorem zay.bits5 : zbJ zay.T5.2 zay.B5 = true := by kernel_rfl
set_option maxHeartbeats 8000000 in
set_option maxRecDepth 100000 in
theorem zay.calls (a0_0 : Int) (a0_1 : Int) (A0_2 : Option Addr) (c0_2 : Nat) (l0_2 : List (S75)) (A0_3 : Option Addr) (c0_3 : Nat) (l0_3 : List ByteArray) (a0_4 : Int) (a0_5 : Int) (a1 : Int) (r1 : ByteArray) (r2 : Int) (w : World) (hr0_2 : Kd.C k75 w A0_2 l0_2.length l0_2) (hc0_2 : l0_2.length ≤ c0_2) (hr0_3 : Kd.C Kd.string w A0_3 l0_3.length l0_3) (hc0_3 : l0_3.length ≤ c0_3) (h : zay.f a0_0 a0_1 l0_2 l0_3 a0_4 a0_5 a1 = some (r1,r2)) :
  Calls Tryz.prog 29 #[.agg #[.int .i64 a0_0,.int .i64 a0_1,.slice A0_2 l0_2.length c0_2,.slice A0_3 l0_3.length c0_3,.int .i64 a0_4,.int .i64 a0_5],.int .i64 a1] w fun e w' => e = .returned (.tuple #[.string r1,.int .i64 r2]) ∧ Below w.heap.size w w' := by
 have hu35 := Tryz.underlying35
 have HR0_2 := za.mk hr0_2
 have HC0_2 := za.mk hc0_2
 clear hr0_2 hc0_2
 have HR0_3 := za.mk hr0_3
 have HC0_3 := za.mk hc0_3
 clear hr0_3 hc0_3
 have HB := za.mk (Below.refl w.heap.size w)
 have H : ((zaz.f a0_0 a0_1 l0_2 l0_3 a0_4 a0_5 a1).bind fun yp => (if yp = true then ((zaF.f l0_2).bind fun yj => ((zau.f (([a0_0,a0_1,a0_4,a0_5] : List Int))).bind fun ya => (if 0 < (ya.length : Int) then (if 1 < (ya.length : Int) then (if (zz ByteArray.empty ya 0).size + (zz ByteArray.empty ya 1).size ≤ 9223372036854775807 then ((zZ.f yj).bind fun yc => (if ((zz ByteArray.empty ya 0) ++ (zz ByteArray.empty ya 1)).size + yc.size ≤ 9223372036854775807 then ((zZ.f l0_3).bind fun yd => (if (((zz ByteArray.empty ya 0) ++ (zz ByteArray.empty ya 1)) ++ yc).size + yd.size ≤ 9223372036854775807 then (if 2 < (ya.length : Int) then (if ((((zz ByteArray.empty ya 0) ++ (zz ByteArray.empty ya 1)) ++ yc) ++ yd).size + (zz ByteArray.empty ya 2).size ≤ 9223372036854775807 then (if 3 < (ya.length : Int) then (if (((((zz ByteArray.empty ya 0) ++ (zz ByteArray.empty ya 1)) ++ yc) ++ yd) ++ (zz ByteArray.empty ya 2)).size + (zz ByteArray.empty ya 3).size ≤ 9223372036854775807 then (some ((((((zz ByteArray.empty ya 0) ++ (zz ByteArray.empty ya 1)) ++ yc) ++ yd) ++ (zz ByteArray.empty ya 2)) ++ (zz ByteArray.empty ya 3),0)) else (none)) else (none)) else (none)) else (none)) else (none))) else (none))) else (none)) else (none)) else (none)))) else (some ((⟨#[]⟩ : ByteArray),1)))) = some (r1,r2) := h
 clear h
 replace H := Option.bind_eq_some_iff.mp H
 obtain ⟨yp,A30,H⟩ := H
 replace H : (if yp = true then ((zaF.f l0_2).bind fun yj => ((zau.f (([a0_0,a0_1,a0_4,a0_5] : List Int))).bind fun ya => (if 0 < (ya.length : Int) then (if 1 < (ya.length : Int) then (if (zz ByteArray.empty ya 0).size + (zz ByteArray.empty ya 1).size ≤ 9223372036854775807 then ((zZ.f yj).bind fun yc => (if ((zz ByteArray.empty ya 0) ++ (zz ByteArray.empty ya 1)).size + yc.size ≤ 9223372036854775807 then ((zZ.f l0_3).bind fun yd => (if (((zz ByteArray.empty ya 0) ++ (zz ByteArray.empty ya 1)) ++ yc).size + yd.size ≤ 9223372036854775807 then (if 2 < (ya.length : Int) then (if ((((zz ByteArray.empty ya 0) ++ (zz ByteArray.empty ya 1)) ++ yc) ++ yd).size + (zz ByteArray.empty ya 2).size ≤ 9223372036854775807 then (if 3 < (ya.length : Int) then (if (((((zz ByteArray.empty ya 0) ++ (zz ByteArray.empty ya 1)) ++ yc) ++ yd) ++ (zz ByteArray.empty ya 2)).size + (zz ByteArray.empty ya 3).size ≤ 9223372036854775807 then (some ((((((zz ByteArray.empty ya 0) ++ (zz ByteArray.empty ya 1)) ++ yc) ++ yd) ++ (zz ByteArray.empty ya 2)) ++ (zz ByteArray.empty ya 3),0)) else (none)) else (none)) else (none)) else (none)) else (none))) else (none))) else (none)) else (none)) else (none)))) else (some ((⟨#[]⟩ : ByteArray),1))) = some (r1,r2) := H
 have A3 := za.mk A30
 clear A30
 by_cases c4 : yp = true
 ·subst c4
  have H1 : ((zaF.f l0_2).bind fun yj => ((zau.f (([a0_0,a0_1,a0_4,a0_5] : List Int))).bind fun ya => (if 0 < (ya.length : Int) then (if 1 < (ya.length : Int) then (if (zz ByteArray.empty ya 0).size + (zz ByteArray.empty ya 1).size ≤ 9223372036854775807 then ((zZ.f yj).bind fun yc => (if ((zz ByteArray.empty ya 0) ++ (zz ByteArray.empty ya 1)).size + yc.size ≤ 9223372036854775807 then ((zZ.f l0_3).bind fun yd => (if (((zz ByteArray.empty ya 0) ++ (zz ByteArray.empty ya 1)) ++ yc).size + yd.size ≤ 9223372036854775807 then (if 2 < (ya.length : Int) then (if ((((zz ByteArray.empty ya 0) ++ (zz ByteArray.empty ya 1)) ++ yc) ++ yd).size + (zz ByteArray.empty ya 2).size ≤ 9223372036854775807 then (if 3 < (ya.length : Int) then (if (((((zz ByteArray.empty ya 0) ++ (zz ByteArray.empty ya 1)) ++ yc) ++ yd) ++ (zz ByteArray.empty ya 2)).size + (zz ByteArray.empty ya 3).size ≤ 9223372036854775807 then (some ((((((zz ByteArray.empty ya 0) ++ (zz ByteArray.empty ya 1)) ++ yc) ++ yd) ++ (zz ByteArray.empty ya 2)) ++ (zz ByteArray.empty ya 3),0)) else (none)) else (none)) else (none)) else (none)) else (none))) else (none))) else (none)) else (none)) else (none)))) = some (r1,r2) := by rw [if_pos rfl] at H;exact H
  clear H
  have H := H1
  clear H1
  replace H := Option.bind_eq_some_iff.mp H
  obtain ⟨yj,A50,H⟩ := H
  replace H : ((zau.f (([a0_0,a0_1,a0_4,a0_5] : List Int))).bind fun ya => (if 0 < (ya.length : Int) then (if 1 < (ya.length : Int) then (if (zz ByteArray.empty ya 0).size + (zz ByteArray.empty ya 1).size ≤ 9223372036854775807 then ((zZ.f yj).bind fun yc => (if ((zz ByteArray.empty ya 0) ++ (zz ByteArray.empty ya 1)).size + yc.size ≤ 9223372036854775807 then ((zZ.f l0_3).bind fun yd => (if (((zz ByteArray.empty ya 0) ++ (zz ByteArray.empty ya 1)) ++ yc).size + yd.size ≤ 9223372036854775807 then (if 2 < (ya.length : Int) then (if ((((zz ByteArray.empty ya 0) ++ (zz ByteArray.empty ya 1)) ++ yc) ++ yd).size + (zz ByteArray.empty ya 2).size ≤ 9223372036854775807 then (if 3 < (ya.length : Int) then (if (((((zz ByteArray.empty ya 0) ++ (zz ByteArray.empty ya 1)) ++ yc) ++ yd) ++ (zz ByteArray.empty ya 2)).size + (zz ByteArray.empty ya 3).size ≤ 9223372036854775807 then (some ((((((zz ByteArray.empty ya 0) ++ (zz ByteArray.empty ya 1)) ++ yc) ++ yd) ++ (zz ByteArray.empty ya 2)) ++ (zz ByteArray.empty ya 3),0)) else (none)) else (none)) else (none)) else (none)) else (none))) else (none))) else (none)) else (none)) else (none))) = some (r1,r2) := H
  have A5 := za.mk A50
  clear A50
  obtain ⟨yA,yo⟩ : ∃ y_ : List Int,y_ = (([a0_0,a0_1,a0_4,a0_5] : List Int)) := ⟨_,rfl⟩
  replace H : ((zau.f yA).bind fun ya => (if 0 < (ya.length : Int) then (if 1 < (ya.length : Int) then (if (zz ByteArray.empty ya 0).size + (zz ByteArray.empty ya 1).size ≤ 9223372036854775807 then ((zZ.f yj).bind fun yc => (if ((zz ByteArray.empty ya 0) ++ (zz ByteArray.empty ya 1)).size + yc.size ≤ 9223372036854775807 then ((zZ.f l0_3).bind fun yd => (if (((zz ByteArray.empty ya 0) ++ (zz ByteArray.empty ya 1)) ++ yc).size + yd.size ≤ 9223372036854775807 then (if 2 < (ya.length : Int) then (if ((((zz ByteArray.empty ya 0) ++ (zz ByteArray.empty ya 1)) ++ yc) ++ yd).size + (zz ByteArray.empty ya 2).size ≤ 9223372036854775807 then (if 3 < (ya.length : Int) then (if (((((zz ByteArray.empty ya 0) ++ (zz ByteArray.empty ya 1)) ++ yc) ++ yd) ++ (zz ByteArray.empty ya 2)).size + (zz ByteArray.empty ya 3).size ≤ 9223372036854775807 then (some ((((((zz ByteArray.empty ya 0) ++ (zz ByteArray.empty ya 1)) ++ yc) ++ yd) ++ (zz ByteArray.empty ya 2)) ++ (zz ByteArray.empty ya 3),0)) else (none)) else (none)) else (none)) else (none)) else (none))) else (none))) else (none)) else (none)) else (none))) = some (r1,r2) := by first | (rw [yo];with_reducible exact H) | (have H2_ := (Option.bind_some _ _).symm.trans H;rw [yo];with_reducible exact H2_) | (have H2_ := (Option.bind_some _ _).symm.trans H;with_reducible exact H2_) | with_reducible exact H | (rw [yo];exact H) | exact H
  have yq := za.mk yo
  clear yo
  replace H := Option.bind_eq_some_iff.mp H
  obtain ⟨ya,A60,H⟩ := H
  replace H : (if 0 < (ya.length : Int) then (if 1 < (ya.length : Int) then (if (zz ByteArray.empty ya 0).size + (zz ByteArray.empty ya 1).size ≤ 9223372036854775807 then ((zZ.f yj).bind fun yc => (if ((zz ByteArray.empty ya 0) ++ (zz ByteArray.empty ya 1)).size + yc.size ≤ 9223372036854775807 then ((zZ.f l0_3).bind fun yd => (if (((zz ByteArray.empty ya 0) ++ (zz ByteArray.empty ya 1)) ++ yc).size + yd.size ≤ 9223372036854775807 then (if 2 < (ya.length : Int) then (if ((((zz ByteArray.empty ya 0) ++ (zz ByteArray.empty ya 1)) ++ yc) ++ yd).size + (zz ByteArray.empty ya 2).size ≤ 9223372036854775807 then (if 3 < (ya.length : Int) then (if (((((zz ByteArray.empty ya 0) ++ (zz ByteArray.empty ya 1)) ++ yc) ++ yd) ++ (zz ByteArray.empty ya 2)).size + (zz ByteArray.empty ya 3).size ≤ 9223372036854775807 then (some ((((((zz ByteArray.empty ya 0) ++ (zz ByteArray.empty ya 1)) ++ yc) ++ yd) ++ (zz ByteArray.empty ya 2)) ++ (zz ByteArray.empty ya 3),0)) else (none)) else (none)) else (none)) else (none)) else (none))) else (none))) else (none)) else (none)) else (none)) = some (r1,r2) := H
  have A6 := za.mk A60
  clear A60
  by_cases c7 : 0 < (ya.length : Int)
  ·rw [if_pos c7] at H
   have c7b0 : decide (0 < (ya.length : Int)) = true := decide_eq_true c7
   have c7b1 : decide (0 < ya.length) = true := decide_eq_true (by omega)
   clear c7
   by_cases c8 : 1 < (ya.length : Int)
   ·rw [if_pos c8] at H
    have c8b0 : decide (1 < (ya.length : Int)) = true := decide_eq_true c8
    have c8b1 : decide (1 < ya.length) = true := decide_eq_true (by omega)
    clear c8
    by_cases c9 : (zz ByteArray.empty ya 0).size + (zz ByteArray.empty ya 1).size ≤ 9223372036854775807
    ·rw [if_pos c9] at H
     have c9b0 := eq_true c9
     have c9b1 : decide ((zz ByteArray.empty ya 0).size + (zz ByteArray.empty ya 1).size ≤ 9223372036854775807) = true := decide_eq_true c9
     try have c9b2 : (9223372036854775807 < (zz ByteArray.empty ya 0).size + (zz ByteArray.empty ya 1).size) = False := eq_false (Nat.not_lt.2 c9)
     replace H := Option.bind_eq_some_iff.mp H
     obtain ⟨yc,yB,H⟩ := H
     replace H : (if ((zz ByteArray.empty ya 0) ++ (zz ByteArray.empty ya 1)).size + yc.size ≤ 9223372036854775807 then ((zZ.f l0_3).bind fun yd => (if (((zz ByteArray.empty ya 0) ++ (zz ByteArray.empty ya 1)) ++ yc).size + yd.size ≤ 9223372036854775807 then (if 2 < (ya.length : Int) then (if ((((zz ByteArray.empty ya 0) ++ (zz ByteArray.empty ya 1)) ++ yc) ++ yd).size + (zz ByteArray.empty ya 2).size ≤ 9223372036854775807 then (if 3 < (ya.length : Int) then (if (((((zz ByteArray.empty ya 0) ++ (zz ByteArray.empty ya 1)) ++ yc) ++ yd) ++ (zz ByteArray.empty ya 2)).size + (zz ByteArray.empty ya 3).size ≤ 9223372036854775807 then (some ((((((zz ByteArray.empty ya 0) ++ (zz ByteArray.empty ya 1)) ++ yc) ++ yd) ++ (zz ByteArray.empty ya 2)) ++ (zz ByteArray.empty ya 3),0)) else (none)) else (none)) else (none)) else (none)) else (none))) else (none)) = some (r1,r2) := H
     have A10 := za.mk yB
     clear yB
     by_cases c11 : ((zz ByteArray.empty ya 0) ++ (zz ByteArray.empty ya 1)).size + yc.size ≤ 9223372036854775807
     ·rw [if_pos c11] at H
      have c11b0 := eq_true c11
      have c11b1 : decide (((zz ByteArray.empty ya 0) ++ (zz ByteArray.empty ya 1)).size + yc.size ≤ 9223372036854775807) = true := decide_eq_true c11
      try have c11b2 : (9223372036854775807 < ((zz ByteArray.empty ya 0) ++ (zz ByteArray.empty ya 1)).size + yc.size) = False := eq_false (Nat.not_lt.2 c11)
      try (have c11b3 := c11;simp [ByteArray.size_append] at c11b3;have c11b4 := eq_false (Nat.not_lt.2 c11b3);clear c11b3)
      replace H := Option.bind_eq_some_iff.mp H
      obtain ⟨yd,yC,H⟩ := H
      replace H : (if (((zz ByteArray.empty ya 0) ++ (zz ByteArray.empty ya 1)) ++ yc).size + yd.size ≤ 9223372036854775807 then (if 2 < (ya.length : Int) then (if ((((zz ByteArray.empty ya 0) ++ (zz ByteArray.empty ya 1)) ++ yc) ++ yd).size + (zz ByteArray.empty ya 2).size ≤ 9223372036854775807 then (if 3 < (ya.length : Int) then (if (((((zz ByteArray.empty ya 0) ++ (zz ByteArray.empty ya 1)) ++ yc) ++ yd) ++ (zz ByteArray.empty ya 2)).size + (zz ByteArray.empty ya 3).size ≤ 9223372036854775807 then (some ((((((zz ByteArray.empty ya 0) ++ (zz ByteArray.empty ya 1)) ++ yc) ++ yd) ++ (zz ByteArray.empty ya 2)) ++ (zz ByteArray.empty ya 3),0)) else (none)) else (none)) else (none)) else (none)) else (none)) = some (r1,r2) := H
      have A12 := za.mk yC
      clear yC
      by_cases c13 : (((zz ByteArray.empty ya 0) ++ (zz ByteArray.empty ya 1)) ++ yc).size + yd.size ≤ 9223372036854775807
      ·rw [if_pos c13] at H
       have c13b0 := eq_true c13
       have c13b1 : decide ((((zz ByteArray.empty ya 0) ++ (zz ByteArray.empty ya 1)) ++ yc).size + yd.size ≤ 9223372036854775807) = true := decide_eq_true c13
       try have c13b2 : (9223372036854775807 < (((zz ByteArray.empty ya 0) ++ (zz ByteArray.empty ya 1)) ++ yc).size + yd.size) = False := eq_false (Nat.not_lt.2 c13)
       try (have c13b3 := c13;simp [ByteArray.size_append] at c13b3;have c13b4 := eq_false (Nat.not_lt.2 c13b3);clear c13b3)
       by_cases c14 : 2 < (ya.length : Int)
       ·rw [if_pos c14] at H
        have c14b0 : decide (2 < (ya.length : Int)) = true := decide_eq_true c14
        have c14b1 : decide (2 < ya.length) = true := decide_eq_true (by omega)
        clear c14
        by_cases c15 : ((((zz ByteArray.empty ya 0) ++ (zz ByteArray.empty ya 1)) ++ yc) ++ yd).size + (zz ByteArray.empty ya 2).size ≤ 9223372036854775807
        ·rw [if_pos c15] at H
         have c15b0 := eq_true c15
         have c15b1 : decide (((((zz ByteArray.empty ya 0) ++ (zz ByteArray.empty ya 1)) ++ yc) ++ yd).size + (zz ByteArray.empty ya 2).size ≤ 9223372036854775807) = true := decide_eq_true c15
         try have c15b2 : (9223372036854775807 < ((((zz ByteArray.empty ya 0) ++ (zz ByteArray.empty ya 1)) ++ yc) ++ yd).size + (zz ByteArray.empty ya 2).size) = False := eq_false (Nat.not_lt.2 c15)
         try (have c15b3 := c15;simp [ByteArray.size_append] at c15b3;have c15b4 := eq_false (Nat.not_lt.2 c15b3);clear c15b3)
         by_cases c16 : 3 < (ya.length : Int)
         ·rw [if_pos c16] at H
          have c16b0 : decide (3 < (ya.length : Int)) = true := decide_eq_true c16
          have c16b1 : decide (3 < ya.length) = true := decide_eq_true (by omega)
          clear c16
          by_cases c17 : (((((zz ByteArray.empty ya 0) ++ (zz ByteArray.empty ya 1)) ++ yc) ++ yd) ++ (zz ByteArray.empty ya 2)).size + (zz ByteArray.empty ya 3).size ≤ 9223372036854775807
          ·rw [if_pos c17] at H
           have c17b0 := eq_true c17
           have c17b1 : decide ((((((zz ByteArray.empty ya 0) ++ (zz ByteArray.empty ya 1)) ++ yc) ++ yd) ++ (zz ByteArray.empty ya 2)).size + (zz ByteArray.empty ya 3).size ≤ 9223372036854775807) = true := decide_eq_true c17
           try have c17b2 : (9223372036854775807 < (((((zz ByteArray.empty ya 0) ++ (zz ByteArray.empty ya 1)) ++ yc) ++ yd) ++ (zz ByteArray.empty ya 2)).size + (zz ByteArray.empty ya 3).size) = False := eq_false (Nat.not_lt.2 c17)
           try (have c17b3 := c17;simp [ByteArray.size_append] at c17b3;have c17b4 := eq_false (Nat.not_lt.2 c17b3);clear c17b3)
           simp only [Option.some.injEq,Prod.mk.injEq] at H
           obtain ⟨rfl,rfl⟩ := H
           go_enter Tryz.func29,Tryz.ntmps29
           try go_wp2_with (first | ((with_reducible refine zq (N := 2) rfl ?_);refine zn rfl (N := 2) rfl (cs := #[.int .i64 a0_0,.int .i64 a0_1,.slice A0_2 l0_2.length c0_2,.slice A0_3 l0_3.length c0_3,.int .i64 a0_4,.int .i64 a0_5]) (t := 35) hrq ?_;intro yh hg w18 hbox hb;have n_ := haq (ze hBq hb) <| haq (hbox) <| haq ((by rw [hg];exact (zh hBq) : w.heap.size ≤ yh)) <| haq ((by rw [hg];exact (zh hBq) : w.heap.size ≤ yh)) <| trivial;clear HB;obtain ⟨HB,yb,yE,yD,_⟩ := n_;clear hb hbox hg;obtain ⟨hcz19_0,hcz19_1,hcz19_2,hcz19_3,hcz19_4,hcz19_5,hfz19_0,hfz19_1,hfz19_2,hfz19_3,hfz19_4,hfz19_5⟩ := hcq6 yb.out) | ((with_reducible refine zQ (f := 43) rfl ?_);refine zaB (some 10) rfl rfl Tryz.func43 (by kernel_rfl) rfl #[.agg #[.int .i64 a0_0,.int .i64 a0_1,.slice A0_2 l0_2.length c0_2,.slice A0_3 l0_3.length c0_3,.int .i64 a0_4,.int .i64 a0_5],.int .i64 a1] rfl hMq ?_;(with_reducible refine (zaz.calls a0_0 a0_1 _ _ l0_2 _ _ l0_3 a0_4 a0_5 a1 true _ ?side1 ?side2 ?side3 ?side4 A3.out).mono ?_);(case side1 => exact hKq (Kd.C_below HR0_2.out HB.out));(case side2 => exact HC0_2.out);(case side3 => exact hKq (Kd.C_below HR0_3.out HB.out));(case side4 => exact HC0_3.out);rintro e w20 ⟨rfl,hb⟩;refine ⟨_,rfl,?_⟩;have n_ := haq (hbq yb.out hb) <| haq (ze hCq hb) <| trivial;clear yb HB;obtain ⟨yb,HB,_⟩ := n_;(try clear hb);(try clear hb2);(try clear hk);(try clear hi);obtain ⟨hcz21_0,hcz21_1,hcz21_2,hcz21_3,hcz21_4,hcz21_5,hfz21_0,hfz21_1,hfz21_2,hfz21_3,hfz21_4,hfz21_5⟩ := hcq6 yb.out) | ((with_reducible refine zQ (f := 44) rfl ?_);refine zaB (some 14) rfl rfl Tryz.func44 (by kernel_rfl) rfl #[.slice A0_2 l0_2.length c0_2,.func (.func 45) #[] #[]] rfl hMq ?_;(with_reducible refine (zaF.calls _ _ l0_2 yj _ ?side1 ?side2 A5.out).mono ?_);(case side1 => exact hKq (Kd.C_below HR0_2.out HB.out));(case side2 => exact HC0_2.out);rintro e w22 ⟨yQ,rfl,ho0,hb⟩;refine ⟨_,rfl,?_⟩;have n_ := haq (Kd.R_lower ho0 (zh hCq)) <| haq (hbq yb.out hb) <| haq (ze hCq hb) <| trivial;clear yb HB;obtain ⟨ye,yb,HB,_⟩ := n_;(try clear hb);(try clear hb2);(try clear hk);(try clear hi);(try clear ho0);obtain ⟨hcz23_0,hcz23_1,hcz23_2,hcz23_3,hcz23_4,hcz23_5,hfz23_0,hfz23_1,hfz23_2,hfz23_3,hfz23_4,hfz23_5⟩ := hcq6 yb.out) | ((with_reducible refine zq (N := 25) rfl ?_);refine Kd.R_lit (Kd.int .i64) _ 3 ?hg (N := 25) ?hd (xs := ([a0_0,a0_1,a0_4,a0_5] : List Int)) (inner := [.int .i64 a0_0,.int .i64 a0_1,.int .i64 a0_4,.int .i64 a0_5]) (ok := fun _ => True) (okp := fun _ => True) ?hr ?hp (fun _ hk => hk) trivial (Below.refl _ _) (Nat.le_refl _) (by simp) ?_;(case hd => rfl);(case hg => rfl);(case hr => first | (go_simp;done) | (go_simp;rfl));(case hp => exact (zaA.one (show Kd.M (Kd.int .i64) _ _ _ a0_0 [.int .i64 a0_0] from rfl) (zaA.one (show Kd.M (Kd.int .i64) _ _ _ a0_1 [.int .i64 a0_1] from rfl) (zaA.one (show Kd.M (Kd.int .i64) _ _ _ a0_4 [.int .i64 a0_4] from rfl) (zaA.one (show Kd.M (Kd.int .i64) _ _ _ a0_5 [.int .i64 a0_5] from rfl) (zaA.none _ _))))));intro yR w24 ho25 hb hg_ hnew_;clear hg_ hnew_;(first | rw [← yq.out] at ho25 | (simp only [Int.reduceToNat] at ho25;rw [← yq.out] at ho25));have n_ := haq (Kd.R_below (hRq ye.out) hb) <| haq (Kd.R_lower ho25 (zh hCq)) <| haq (hbq yb.out hb) <| haq (ze hCq hb) <| trivial;clear ye yb HB;obtain ⟨ye,yf,yb,HB,_⟩ := n_;clear hb ho25;obtain ⟨Ao26,co26,eo26⟩ := Kd.R_slice yf.out;subst eo26) | ((with_reducible refine zQ (f := 47) rfl ?_);refine zaB (some 26) rfl rfl Tryz.func47 (by kernel_rfl) rfl #[.slice Ao26 yA.length co26,.func (.func 48) #[] #[]] rfl hMq ?_;(with_reducible refine (zau.calls _ _ yA ya _ ?side1 ?side2 A6.out).mono ?_);(case side1 => repeat (first | exact (Kd.R_reads' yf.out).2.2 | (with_reducible refine Kd.C_alloc ?_ _) | (with_reducible refine Kd.C_drewN ?_ _) | (with_reducible refine Kd.C_drew ?_)));(case side2 => exact (Kd.R_reads' yf.out).2.1);rintro e w27 ⟨yS,rfl,ho0,hb⟩;refine ⟨_,rfl,?_⟩;have n_ := haq (Kd.R_elder' (hRq ye.out) (Kd.R_base ho0) hb) <| haq (Kd.R_below (hRq yf.out) hb) <| haq (Kd.R_lower (Kd.R_new' ho0 (Kd.R_lt (hRq ye.out))) (zh hCq)) <| haq (hbq yb.out hb) <| haq (ze hCq hb) <| trivial;clear ye yf yb HB;obtain ⟨ye,yf,yg,yb,HB,_⟩ := n_;(try clear hb);(try clear hb2);(try clear hk);(try clear hi);(try clear ho0)))
           have n0_ := za.mk (Kd.R_drew ye.out)
           have n1_ := za.mk (Kd.R_drew yf.out)
           have n2_ := za.mk (Kd.R_drew yg.out)
           have n3_ := za.mk (zaf yb.out)
           have n4_ := za.mk (zp HB.out)
           clear ye
           clear yf
           clear yg
           clear yb
           clear HB
           have ye := n0_
           have yf := n1_
           have yg := n2_
           have yb := n3_
           have HB := n4_
           clear n0_ n1_ n2_ n3_ n4_
           obtain ⟨Ao29,co29,eo29⟩ := Kd.R_slice yg.out
           (first | subst eo29 | (injection eo29 with f1_ f2_ f3_;have f4_ := f1_.symm;have f5_ := f3_.symm;clear f1_ f2_ f3_;subst f4_;subst f5_))
           have yr : 0 ≤ (0 : Int) := (by omega)
           have yw : 0 < (ya.length : Int) := hFq
           obtain ⟨yi,yI,yk⟩ := Kd.at_string (Kd.R_reads' yg.out).2.2 0 yr yw
           cases yI
           have yM : (0 < ya.length) = True := eq_true (by omega)
           (try rw [show ((0 : Int)).toNat = 0 from rfl] at yk)
           (try rw [Addr.add_zero'] at yk)
           replace yr := eq_true yr
           replace yw := eq_true yw
           have yt : 0 ≤ (1 : Int) := (by omega)
           have yx : 1 < (ya.length : Int) := hFq
           obtain ⟨yF,yJ,yl⟩ := Kd.at_string (Kd.R_reads' yg.out).2.2 1 yt yx
           obtain rfl : yi = yF := (by injection yJ)
           (try simp only [show (1 : Int).toNat = 1 from rfl,Nat.reduceMul,Nat.reduceEqDiff,Go.Addr.add,↓reduceIte] at yl)
           have yN : (1 < ya.length) = True := eq_true (by omega)
           (try rw [show ((1 : Int)).toNat = 1 from rfl] at yl)
           replace yt := eq_true yt
           replace yx := eq_true yx
           have yu : 0 ≤ (2 : Int) := (by omega)
           have yy : 2 < (ya.length : Int) := hFq
           obtain ⟨yG,yK,ym⟩ := Kd.at_string (Kd.R_reads' yg.out).2.2 2 yu yy
           obtain rfl : yi = yG := (by injection yK)
           (try simp only [show (2 : Int).toNat = 2 from rfl,Nat.reduceMul,Nat.reduceEqDiff,Go.Addr.add,↓reduceIte] at ym)
           have yO : (2 < ya.length) = True := eq_true (by omega)
           (try rw [show ((2 : Int)).toNat = 2 from rfl] at ym)
           replace yu := eq_true yu
           replace yy := eq_true yy
           have yv : 0 ≤ (3 : Int) := (by omega)
           have yz : 3 < (ya.length : Int) := hFq
           obtain ⟨yH,yL,yn⟩ := Kd.at_string (Kd.R_reads' yg.out).2.2 3 yv yz
           obtain rfl : yi = yH := (by injection yL)
           (try simp only [show (3 : Int).toNat = 3 from rfl,Nat.reduceMul,Nat.reduceEqDiff,Go.Addr.add,↓reduceIte] at yn)
           have yP : (3 < ya.length) = True := eq_true (by omega)
           (try rw [show ((3 : Int)).toNat = 3 from rfl] at yn)
           replace yv := eq_true yv
           replace yz := eq_true yz
           obtain ⟨Ao30,co30,eo30⟩ := Kd.R_slice ye.out
           (first | subst eo30 | (injection eo30 with f1_ f2_ f3_;have f4_ := f1_.symm;have f5_ := f3_.symm;clear f1_ f2_ f3_;subst f4_;subst f5_))
           refine zbV (n := 24) (S := fun w' => w'.cell? ⟨yh,0,none⟩ = some (.int .i64 a0_0) ∧ w'.cell? ⟨yh,1,none⟩ = some (.int .i64 a0_1) ∧ w'.cell? ⟨yh,2,none⟩ = some (.slice A0_2 l0_2.length c0_2) ∧ w'.cell? ⟨yh,3,none⟩ = some (.slice A0_3 l0_3.length c0_3) ∧ w'.cell? ⟨yh,4,none⟩ = some (.int .i64 a0_4) ∧ w'.cell? ⟨yh,5,none⟩ = some (.int .i64 a0_5) ∧ w'.cell? yi = some (.string (zz ByteArray.empty ya 0)) ∧ w'.cell? ⟨yi.block,yi.off + 1,none⟩ = some (.string (zz ByteArray.empty ya 1)) ∧ w'.cell? ⟨yi.block,yi.off + 2,none⟩ = some (.string (zz ByteArray.empty ya 2)) ∧ w'.cell? ⟨yi.block,yi.off + 3,none⟩ = some (.string (zz ByteArray.empty ya 3))) (ds := []) (uQ 24 0) (by kernel_rfl) rfl rfl ⟨(zb yb.out 0).trans rfl,(zb yb.out 1).trans rfl,(zb yb.out 2).trans rfl,(zb yb.out 3).trans rfl,(zb yb.out 4).trans rfl,(zb yb.out 5).trans rfl,yk,yl,ym,yn⟩ (fun hHeld => ?_);refine zaQ zay.tab5 zay.bits5 (fun HT_ HW_ => ?_)
           generalize w27.drew = w28 at ye yf yg yb HB yk yl ym yn hHeld ⊢
           refine puq (i := 0) (N := some 27) HT_.out (uQ 24 1) ?_
           refine puq (i := 1) (N := some 28) HT_.out (uQ 24 2) ?_
           refine puq (i := 3) (N := some 30) HT_.out #[true,true,false,true,false,false,false,false,false,false,false,false,false,false,false,false,false,false,false,false,false,false,false,false] ?_
           refine puq (i := 4) (N := some 31) HT_.out #[true,true,false,true,true,false,false,false,false,false,false,false,false,false,false,false,false,false,false,false,false,false,false,false] ?_
           refine puq (i := 7) (N := some 34) HT_.out #[true,true,false,true,true,false,false,true,false,false,false,false,false,false,false,false,false,false,false,false,false,false,false,false] ?_
           refine puq (i := 10) (N := some 37) HT_.out #[true,true,false,true,true,false,false,true,false,false,true,false,false,false,false,false,false,false,false,false,false,false,false,false] ?_
           refine puq (i := 14) (N := some 41) HT_.out #[true,true,false,true,true,false,false,true,false,false,true,false,false,false,true,false,false,false,false,false,false,false,false,false] ?_
           refine puq (i := 15) (N := some 42) HT_.out #[true,true,false,true,true,false,false,true,false,false,true,false,false,false,true,true,false,false,false,false,false,false,false,false] ?_
           refine puq (i := 18) (N := some 45) HT_.out #[true,true,false,true,true,false,false,true,false,false,true,false,false,false,true,true,false,false,true,false,false,false,false,false] ?_
           refine puq (i := 19) (N := some 46) HT_.out #[true,true,false,true,true,false,false,true,false,false,true,false,false,false,true,true,false,false,true,true,false,false,false,false] ?_
           refine take_ (i := 2) (N := some 29) #[true,true,true,true,true,false,false,true,false,false,true,false,false,false,true,true,false,false,true,true,false,false,false,false] rfl rfl (zU HT_.out HW_.out (by kernel_rfl)) (fun _ _ _ h => h) (Or.inl ⟨by rfl,by rintro w' ⟨s0,s1,s2,s3,s4,s5,s6,s7,s8,s9⟩;go_simp;with_reducible rfl⟩) hHeld hPq ?_
           refine take_ (i := 5) (N := some 32) #[true,true,true,true,true,true,false,true,false,false,true,false,false,false,true,true,false,false,true,true,false,false,false,false] rfl rfl (zU HT_.out HW_.out (by kernel_rfl)) (fun _ _ _ h => h) (Or.inl ⟨by rfl,by rintro w' ⟨s0,s1,s2,s3,s4,s5,s6,s7,s8,s9⟩;go_simp;with_reducible rfl⟩) hHeld hPq ?_
           refine puq (i := 6) (N := some 33) HT_.out #[true,true,true,true,true,true,true,true,false,false,true,false,false,false,true,true,false,false,true,true,false,false,false,false] ?_
           refine take_ (i := 11) (N := some 38) #[true,true,true,true,true,true,true,true,false,false,true,true,false,false,true,true,false,false,true,true,false,false,false,false] rfl rfl (zU HT_.out HW_.out (by kernel_rfl)) (fun _ _ _ h => h) (Or.inl ⟨by rfl,by rintro w' ⟨s0,s1,s2,s3,s4,s5,s6,s7,s8,s9⟩;go_simp;with_reducible rfl⟩) hHeld hPq ?_
           refine take_ (i := 16) (N := some 43) #[true,true,true,true,true,true,true,true,false,false,true,true,false,false,true,true,true,false,true,true,false,false,false,false] rfl rfl (zU HT_.out HW_.out (by kernel_rfl)) (fun _ _ _ h => h) (Or.inl ⟨by rfl,by rintro w' ⟨s0,s1,s2,s3,s4,s5,s6,s7,s8,s9⟩;go_simp;with_reducible rfl⟩) hHeld hPq ?_
           refine take_ (i := 20) (N := some 47) #[true,true,true,true,true,true,true,true,false,false,true,true,false,false,true,true,true,false,true,true,true,false,false,false] rfl rfl (zU HT_.out HW_.out (by kernel_rfl)) (fun _ _ _ h => h) (Or.inl ⟨by rfl,by rintro w' ⟨s0,s1,s2,s3,s4,s5,s6,s7,s8,s9⟩;go_simp;with_reducible rfl⟩) hHeld hPq ?_
           refine zct (i := 8) (N := some 35) #[true,true,true,true,true,true,true,true,true,false,true,true,false,false,true,true,true,false,true,true,true,false,false,false] rfl rfl (za0 HT_.out (by kernel_rfl)) (by decide) (fun K hK => ?_)
           refine zbG Tryz.func50 (by kernel_rfl) rfl #[.slice Ao30 yj.length co30] (by rfl) rfl rfl hMq ?_
           with_reducible refine (zZ.calls _ _ yj yc _ ?side1 ?side2 A10.out).mono ?_
           (case side1 => repeat (first | exact (Kd.R_reads' ye.out).2.2 | (with_reducible refine Kd.C_alloc ?_ _) | (with_reducible refine Kd.C_drewN ?_ _) | (with_reducible refine Kd.C_drew ?_)))
           (case side2 => exact (Kd.R_reads' ye.out).2.1)
           rintro e w31 ⟨rfl,hb⟩
           have HS6_ := (hb.cell (World.block_lt_of_cell? _ _ (hHeld.2.2.2.2.2.2.1))).trans (hHeld.2.2.2.2.2.2.1)
           have HS7_ := (hb.cell (World.block_lt_of_cell? _ _ (hHeld.2.2.2.2.2.2.2.1))).trans (hHeld.2.2.2.2.2.2.2.1)
           have HS8_ := (hb.cell (World.block_lt_of_cell? _ _ (hHeld.2.2.2.2.2.2.2.2.1))).trans (hHeld.2.2.2.2.2.2.2.2.1)
           have HS9_ := (hb.cell (World.block_lt_of_cell? _ _ (hHeld.2.2.2.2.2.2.2.2.2))).trans (hHeld.2.2.2.2.2.2.2.2.2)
           refine ⟨_,rfl,?_⟩
           have n0_ := za.mk (Kd.R_below (hRq ye.out) hb)
           have n1_ := za.mk (Kd.R_below (hRq yf.out) hb)
           have n2_ := za.mk (Kd.R_below (hRq yg.out) hb)
           have n3_ := za.mk (hbq yb.out hb)
           have n4_ := za.mk (ze hCq hb)
           clear ye
           clear yf
           clear yg
           clear yb
           clear HB
           have ye := n0_
           have yf := n1_
           have yg := n2_
           have yb := n3_
           have HB := n4_
           clear n0_ n1_ n2_ n3_ n4_
           (try clear hb)
           (try clear hb2)
           (try clear hk)
           (try clear hi)
           refine hK.out _ _ ⟨(zb yb.out 0).trans rfl,(zb yb.out 1).trans rfl,(zb yb.out 2).trans rfl,(zb yb.out 3).trans rfl,(zb yb.out 4).trans rfl,(zb yb.out 5).trans rfl,HS6_,HS7_,HS8_,HS9_⟩ (fun hHeld => ?_)
           clear hK K
           refine za5 (a' := ?_) ?_ ?_
           rotate_left
           ·show Act.put _ (some 35) _ = _
            simp only [Act.put,List.setIfInBounds_toArray,List.set_cons_zero,List.set_cons_succ,zam,zap]
            rfl
           refine puq (i := 9) (N := some 36) HT_.out #[true,true,true,true,true,true,true,true,true,true,true,true,false,false,true,true,true,false,true,true,true,false,false,false] ?_
           refine zct (i := 12) (N := some 39) #[true,true,true,true,true,true,true,true,true,true,true,true,true,false,true,true,true,false,true,true,true,false,false,false] rfl rfl (za0 HT_.out (by kernel_rfl)) (by decide) (fun K hK => ?_)
           refine zbG Tryz.func50 (by kernel_rfl) rfl #[.slice A0_3 l0_3.length c0_3] (by rfl) rfl rfl hMq ?_
           with_reducible refine (zZ.calls _ _ l0_3 yd _ ?side1 ?side2 A12.out).mono ?_
           (case side1 => exact hKq (Kd.C_below HR0_3.out HB.out))
           (case side2 => exact HC0_3.out)
           rintro e w32 ⟨rfl,hb⟩
           have HS6_ := (hb.cell (World.block_lt_of_cell? _ _ (hHeld.2.2.2.2.2.2.1))).trans (hHeld.2.2.2.2.2.2.1)
           have HS7_ := (hb.cell (World.block_lt_of_cell? _ _ (hHeld.2.2.2.2.2.2.2.1))).trans (hHeld.2.2.2.2.2.2.2.1)
           have HS8_ := (hb.cell (World.block_lt_of_cell? _ _ (hHeld.2.2.2.2.2.2.2.2.1))).trans (hHeld.2.2.2.2.2.2.2.2.1)
           have HS9_ := (hb.cell (World.block_lt_of_cell? _ _ (hHeld.2.2.2.2.2.2.2.2.2))).trans (hHeld.2.2.2.2.2.2.2.2.2)
           refine ⟨_,rfl,?_⟩
           have n0_ := za.mk (Kd.R_below (hRq ye.out) hb)
           have n1_ := za.mk (Kd.R_below (hRq yf.out) hb)
           have n2_ := za.mk (Kd.R_below (hRq yg.out) hb)
           have n3_ := za.mk (hbq yb.out hb)
           have n4_ := za.mk (ze hCq hb)
           clear ye
           clear yf
           clear yg
           clear yb
           clear HB
           have ye := n0_
           have yf := n1_
           have yg := n2_
           have yb := n3_
           have HB := n4_
           clear n0_ n1_ n2_ n3_ n4_
           (try clear hb)
           (try clear hb2)
           (try clear hk)
           (try clear hi)
           refine hK.out _ _ ⟨(zb yb.out 0).trans rfl,(zb yb.out 1).trans rfl,(zb yb.out 2).trans rfl,(zb yb.out 3).trans rfl,(zb yb.out 4).trans rfl,(zb yb.out 5).trans rfl,HS6_,HS7_,HS8_,HS9_⟩ (fun hHeld => ?_)
           clear hK K
           refine za5 (a' := ?_) ?_ ?_
           rotate_left
           ·show Act.put _ (some 39) _ = _
            simp only [Act.put,List.setIfInBounds_toArray,List.set_cons_zero,List.set_cons_succ,zam,zap]
            rfl
           refine puq (i := 13) (N := some 40) HT_.out #[true,true,true,true,true,true,true,true,true,true,true,true,true,true,true,true,true,false,true,true,true,false,false,false] ?_
           refine puq (i := 17) (N := some 44) HT_.out (uQ 24 21) ?_
           refine puq (i := 21) (N := some 48) HT_.out (uQ 24 22) ?_
           refine puq (i := 22) (N := some 4) HT_.out (uQ 24 23) ?_
           refine puq (i := 23) (N := some 5) HT_.out (uQ 24 24) ?_
           refine zbX (zaX HT_.out (by kernel_rfl)) ?_
           try go_wp2
           go_ret2
           exact ⟨hHq,hCq⟩
          ·rw [if_neg c17] at H
           exact absurd H (by simp)
         ·rw [if_neg c16] at H
          exact absurd H (by simp)
        ·rw [if_neg c15] at H
         exact absurd H (by simp)
       ·rw [if_neg c14] at H
        exact absurd H (by simp)
      ·rw [if_neg c13] at H
       exact absurd H (by simp)
     ·rw [if_neg c11] at H
      exact absurd H (by simp)
    ·rw [if_neg c9] at H
     exact absurd H (by simp)
   ·rw [if_neg c8] at H
    exact absurd H (by simp)
  ·rw [if_neg c7] at H
   exact absurd H (by simp)
 ·replace c4 := Bool.eq_false_iff.mpr c4
  subst c4
  have H1 : (some ((⟨#[]⟩ : ByteArray),1)) = some (r1,r2) := by rw [if_neg (show ¬ (false = true) by decide)] at H;exact H
  clear H
  have H := H1
  clear H1
  simp only [Option.some.injEq,Prod.mk.injEq] at H
  obtain ⟨rfl,rfl⟩ := H
  go_enter Tryz.func29,Tryz.ntmps29
  go_wp2_with (first | ((with_reducible refine zq (N := 2) rfl ?_);refine zn rfl (N := 2) rfl (cs := #[.int .i64 a0_0,.int .i64 a0_1,.slice A0_2 l0_2.length c0_2,.slice A0_3 l0_3.length c0_3,.int .i64 a0_4,.int .i64 a0_5]) (t := 35) hrq ?_;intro yh hg w33 hbox hb;have n_ := haq (ze hBq hb) <| haq (hbox) <| haq ((by rw [hg];exact (zh hBq) : w.heap.size ≤ yh)) <| haq ((by rw [hg];exact (zh hBq) : w.heap.size ≤ yh)) <| trivial;clear HB;obtain ⟨HB,yb,yE,yD,_⟩ := n_;clear hb hbox hg;obtain ⟨hcz34_0,hcz34_1,hcz34_2,hcz34_3,hcz34_4,hcz34_5,hfz34_0,hfz34_1,hfz34_2,hfz34_3,hfz34_4,hfz34_5⟩ := hcq6 yb.out) | ((with_reducible refine zQ (f := 43) rfl ?_);refine zaB (some 10) rfl rfl Tryz.func43 (by kernel_rfl) rfl #[.agg #[.int .i64 a0_0,.int .i64 a0_1,.slice A0_2 l0_2.length c0_2,.slice A0_3 l0_3.length c0_3,.int .i64 a0_4,.int .i64 a0_5],.int .i64 a1] rfl hMq ?_;(with_reducible refine (zaz.calls a0_0 a0_1 _ _ l0_2 _ _ l0_3 a0_4 a0_5 a1 false _ ?side1 ?side2 ?side3 ?side4 A3.out).mono ?_);(case side1 => exact hKq (Kd.C_below HR0_2.out HB.out));(case side2 => exact HC0_2.out);(case side3 => exact hKq (Kd.C_below HR0_3.out HB.out));(case side4 => exact HC0_3.out);rintro e w35 ⟨rfl,hb⟩;refine ⟨_,rfl,?_⟩;have n_ := haq (hbq yb.out hb) <| haq (ze hCq hb) <| trivial;clear yb HB;obtain ⟨yb,HB,_⟩ := n_;(try clear hb);(try clear hb2);(try clear hk);(try clear hi)))
  go_ret2
  exact ⟨hHq,hCq⟩
def za1.f (a0_0 : Int) (a0_1 : Int) (l0_2 : List (S75)) (l0_3 : List ByteArray) (a0_4 : Int) (a0_5 : Int) (a1 : Int) : Option (ByteArray × Int) := (zay.f a0_0 a0_1 l0_2 l0_3 a0_4 a0_5 a1).bind fun yb => (if yb.2 = 0 then (if 1 + yb.1.size ≤ 9223372036854775807 then ((zcO.f ((⟨#[118]⟩ : ByteArray) ++ yb.1)).bind fun yf => (some (yf,0))) else (none)) else (some ((⟨#[]⟩ : ByteArray),yb.2)))
set_option maxHeartbeats 8000000 in
set_option maxRecDepth 100000 in
theorem za1.calls (a0_0 : Int) (a0_1 : Int) (A0_2 : Option Addr) (c0_2 : Nat) (l0_2 : List (S75)) (A0_3 : Option Addr) (c0_3 : Nat) (l0_3 : List ByteArray) (a0_4 : Int) (a0_5 : Int) (a1 : Int) (r1 : ByteArray) (r2 : Int) (w : World) (hr0_2 : Kd.C k75 w A0_2 l0_2.length l0_2) (hc0_2 : l0_2.length ≤ c0_2) (hr0_3 : Kd.C Kd.string w A0_3 l0_3.length l0_3) (hc0_3 : l0_3.length ≤ c0_3) (h : za1.f a0_0 a0_1 l0_2 l0_3 a0_4 a0_5 a1 = some (r1,r2)) :
  Calls Tryz.prog 11 #[.agg #[.int .i64 a0_0,.int .i64 a0_1,.slice A0_2 l0_2.length c0_2,.slice A0_3 l0_3.length c0_3,.int .i64 a0_4,.int .i64 a0_5],.int .i64 a1] w fun e w' => e = .returned (.tuple #[.string r1,.int .i64 r2]) ∧ Below w.heap.size w w' := by
 have hu35 := Tryz.underlying35
 have HR0_2 := za.mk hr0_2
 have HC0_2 := za.mk hc0_2
 clear hr0_2 hc0_2
 have HR0_3 := za.mk hr0_3
 have HC0_3 := za.mk hc0_3
 clear hr0_3 hc0_3
 have HB := za.mk (Below.refl w.heap.size w)
 have H : ((zay.f a0_0 a0_1 l0_2 l0_3 a0_4 a0_5 a1).bind fun yb => (if yb.2 = 0 then (if 1 + yb.1.size ≤ 9223372036854775807 then ((zcO.f ((⟨#[118]⟩ : ByteArray) ++ yb.1)).bind fun yf => (some (yf,0))) else (none)) else (some ((⟨#[]⟩ : ByteArray),yb.2)))) = some (r1,r2) := h
 clear h
 replace H := Option.bind_eq_some_iff.mp H
 obtain ⟨⟨yc,yd⟩,A30,H⟩ := H
 replace H : (if yd = 0 then (if 1 + yc.size ≤ 9223372036854775807 then ((zcO.f ((⟨#[118]⟩ : ByteArray) ++ yc)).bind fun yf => (some (yf,0))) else (none)) else (some ((⟨#[]⟩ : ByteArray),yd))) = some (r1,r2) := H
 have A3 := za.mk A30
 clear A30
 by_cases c4 : yd = 0
 ·rw [if_pos c4] at H
  have c4b0 : (yd == 0) = true := beq_iff_eq.mpr c4
  have c4b1 : (yd != 0) = false := bne_eq_false_iff_eq.mpr c4
  clear c4
  by_cases c5 : 1 + yc.size ≤ 9223372036854775807
  ·rw [if_pos c5] at H
   have c5b0 := eq_true c5
   have c5b1 : decide (1 + yc.size ≤ 9223372036854775807) = true := decide_eq_true c5
   try have c5b2 : (9223372036854775807 < 1 + yc.size) = False := eq_false (Nat.not_lt.2 c5)
   replace H := Option.bind_eq_some_iff.mp H
   obtain ⟨yf,A60,H⟩ := H
   replace H : (some (yf,0)) = some (r1,r2) := H
   have A6 := za.mk A60
   clear A60
   simp only [Option.some.injEq,Prod.mk.injEq] at H
   obtain ⟨rfl,rfl⟩ := H
   go_enter Tryz.func11,Tryz.ntmps11
   go_wp2_with (first | ((with_reducible refine zq (N := 2) rfl ?_);refine zn rfl (N := 2) rfl (cs := #[.int .i64 a0_0,.int .i64 a0_1,.slice A0_2 l0_2.length c0_2,.slice A0_3 l0_3.length c0_3,.int .i64 a0_4,.int .i64 a0_5]) (t := 35) hrq ?_;intro ye hg w7 hbox hb;have n_ := haq (ze hBq hb) <| haq (hbox) <| haq ((by rw [hg];exact (zh hBq) : w.heap.size ≤ ye)) <| haq ((by rw [hg];exact (zh hBq) : w.heap.size ≤ ye)) <| trivial;clear HB;obtain ⟨HB,ya,yh,yg,_⟩ := n_;clear hb hbox hg;obtain ⟨hcz8_0,hcz8_1,hcz8_2,hcz8_3,hcz8_4,hcz8_5,hfz8_0,hfz8_1,hfz8_2,hfz8_3,hfz8_4,hfz8_5⟩ := hcq6 ya.out) | ((with_reducible refine zQ (f := 29) rfl ?_);refine zaB (some 11) rfl rfl Tryz.func29 (by kernel_rfl) rfl #[.agg #[.int .i64 a0_0,.int .i64 a0_1,.slice A0_2 l0_2.length c0_2,.slice A0_3 l0_3.length c0_3,.int .i64 a0_4,.int .i64 a0_5],.int .i64 a1] rfl hMq ?_;(with_reducible refine (zay.calls a0_0 a0_1 _ _ l0_2 _ _ l0_3 a0_4 a0_5 a1 yc yd _ ?side1 ?side2 ?side3 ?side4 A3.out).mono ?_);(case side1 => exact hKq (Kd.C_below HR0_2.out HB.out));(case side2 => exact HC0_2.out);(case side3 => exact hKq (Kd.C_below HR0_3.out HB.out));(case side4 => exact HC0_3.out);rintro e w9 ⟨rfl,hb⟩;refine ⟨_,rfl,?_⟩;have n_ := haq (hbq ya.out hb) <| haq (ze hCq hb) <| trivial;clear ya HB;obtain ⟨ya,HB,_⟩ := n_;(try clear hb);(try clear hb2);(try clear hk);(try clear hi)) | ((with_reducible refine zQ (f := 30) rfl ?_);refine zaB (some 19) rfl rfl Tryz.func30 (by kernel_rfl) rfl #[.string ((⟨#[118]⟩ : ByteArray) ++ yc)] rfl hMq ?_;(with_reducible refine (zcO.calls ((⟨#[118]⟩ : ByteArray) ++ yc) yf _ A6.out).mono ?_);rintro e w10 ⟨rfl,hb⟩;refine ⟨_,rfl,?_⟩;have n_ := haq (hbq ya.out hb) <| haq (ze hCq hb) <| trivial;clear ya HB;obtain ⟨ya,HB,_⟩ := n_;(try clear hb);(try clear hb2);(try clear hk);(try clear hi)))
   go_ret2
   exact ⟨hHq,hCq⟩
  ·rw [if_neg c5] at H
   exact absurd H (by simp)
 ·rw [if_neg c4] at H
  have c4b0 : (yd == 0) = false := beq_eq_false_iff_ne.mpr c4
  have c4b1 : (yd != 0) = true := bne_iff_ne.mpr c4
  simp only [Option.some.injEq,Prod.mk.injEq] at H
  obtain ⟨rfl,rfl⟩ := H
  go_enter Tryz.func11,Tryz.ntmps11
  go_wp2_with (first | ((with_reducible refine zq (N := 2) rfl ?_);refine zn rfl (N := 2) rfl (cs := #[.int .i64 a0_0,.int .i64 a0_1,.slice A0_2 l0_2.length c0_2,.slice A0_3 l0_3.length c0_3,.int .i64 a0_4,.int .i64 a0_5]) (t := 35) hrq ?_;intro ye hg w11 hbox hb;have n_ := haq (ze hBq hb) <| haq (hbox) <| haq ((by rw [hg];exact (zh hBq) : w.heap.size ≤ ye)) <| haq ((by rw [hg];exact (zh hBq) : w.heap.size ≤ ye)) <| trivial;clear HB;obtain ⟨HB,ya,yh,yg,_⟩ := n_;clear hb hbox hg;obtain ⟨hcz12_0,hcz12_1,hcz12_2,hcz12_3,hcz12_4,hcz12_5,hfz12_0,hfz12_1,hfz12_2,hfz12_3,hfz12_4,hfz12_5⟩ := hcq6 ya.out) | ((with_reducible refine zQ (f := 29) rfl ?_);refine zaB (some 11) rfl rfl Tryz.func29 (by kernel_rfl) rfl #[.agg #[.int .i64 a0_0,.int .i64 a0_1,.slice A0_2 l0_2.length c0_2,.slice A0_3 l0_3.length c0_3,.int .i64 a0_4,.int .i64 a0_5],.int .i64 a1] rfl hMq ?_;(with_reducible refine (zay.calls a0_0 a0_1 _ _ l0_2 _ _ l0_3 a0_4 a0_5 a1 yc yd _ ?side1 ?side2 ?side3 ?side4 A3.out).mono ?_);(case side1 => exact hKq (Kd.C_below HR0_2.out HB.out));(case side2 => exact HC0_2.out);(case side3 => exact hKq (Kd.C_below HR0_3.out HB.out));(case side4 => exact HC0_3.out);rintro e w13 ⟨rfl,hb⟩;refine ⟨_,rfl,?_⟩;have n_ := haq (hbq ya.out hb) <| haq (ze hCq hb) <| trivial;clear ya HB;obtain ⟨ya,HB,_⟩ := n_;(try clear hb);(try clear hb2);(try clear hk);(try clear hi)))
  go_ret2
  exact ⟨hHq,hCq⟩
def zy.l0 : Nat → List (S75) → List (S75) → Int → Option (Bool)
 | 0,_,_,_ => none
 | k + 1,x0,x1,x5 => if x5 < (x0.length : Int) then (if 0 ≤ x5 then (if x5 < (x1.length : Int) then ((zba.f k ((zO x0 x5).f0) ((zO x0 x5).f1) ((zO x0 x5).f2) ((zO x1 x5).f0) ((zO x1 x5).f1) ((zO x1 x5).f2)).bind fun yF => (if yF = true then (zy.l0 k x0 x1 (wrap64 (x5 + 1))) else (some false))) else (none)) else (none)) else (some true)
def zy.f (k : Nat) (l0 : List (S75)) (l1 : List (S75)) : Option (Bool) := if (l0.length : Int) = (l1.length : Int) then (zy.l0 k l0 l1 0) else (some false)
def zy.T6 : Bool × List (List Nat × List Nat) := (true,[([],[]),([],[]),([0,1],[0,1]),([2],[2]),([],[]),([],[]),([4,5],[4,5]),([6],[6]),([3,7],[3,7]),([8,8,0,1,2,3,4,5,6,7,8],[8])])
def zy.B6 : List Nat := [0,0,3,7,0,0,48,112,255,511]
theorem zy.tab6 : zb5 .any (zdW Tryz.f38 6) = zy.T6 := by kernel_rfl
theorem zy.bits6 : zbJ zy.T6.2 zy.B6 = true := by kernel_rfl
set_option maxHeartbeats 8000000 in
set_option maxRecDepth 100000 in
theorem zy.calls (k : Nat) (A0 : Option Addr) (c0 : Nat) (l0 : List (S75)) (A1 : Option Addr) (c1 : Nat) (l1 : List (S75)) (r : Bool) (w : World) (hr0 : Kd.C k75 w A0 l0.length l0) (hc0 : l0.length ≤ c0) (hr1 : Kd.C k75 w A1 l1.length l1) (hc1 : l1.length ≤ c1) (h : zy.f k l0 l1 = some r) :
  Calls Tryz.prog 38 #[.slice A0 l0.length c0,.slice A1 l1.length c1] w fun e w' => e = .returned (.bool r) ∧ Below w.heap.size w w' := by
 have hu75 := Tryz.underlying75
 have HR0 := za.mk hr0
 have HC0 := za.mk hc0
 clear hr0 hc0
 have HR1 := za.mk hr1
 have HC1 := za.mk hc1
 clear hr1 hc1
 have HB := za.mk (Below.refl w.heap.size w)
 have H : (if (l0.length : Int) = (l1.length : Int) then (zy.l0 k l0 l1 0) else (some false)) = some r := h
 clear h
 by_cases c3 : (l0.length : Int) = (l1.length : Int)
 ·rw [if_pos c3] at H
  have c3b0 : ((l0.length : Int) == (l1.length : Int)) = true := beq_iff_eq.mpr c3
  have c3b1 : ((l0.length : Int) != (l1.length : Int)) = false := bne_eq_false_iff_eq.mpr c3
  have c3b2 : (l0.length == l1.length) = true := by first | simpa using c3 | (simp at c3 ⊢;omega)
  clear c3
  have H' := za.mk H
  clear H
  go_enter Tryz.func38,Tryz.ntmps38
  go_wp2
  go_loopg [5] k (fun kq v5 w' => ∃ (x5_1 : Int),v5 = .int .i64 x5_1 ∧ za (zy.l0 kq l0 l1 x5_1 = some r) ∧ za (kq ≤ k) ∧ za (Below w.heap.size w w'))
  case atStart => exact ⟨(0),(hDq),H',⟨Nat.le_refl _⟩,⟨by repeat (first | (with_reducible first | exact HB.out | apply zl | apply zi | apply zp) | exact HB.out)⟩⟩
  case round =>
   clear H'
   try clear c1;try clear p2;try clear c3;try clear c3b0;try clear c3b1;try clear c3b2
   obtain ⟨x5_1,rfl,HA,HK1,HB⟩ := hrel
   cases gk with
   | zero => exact absurd HA.out (by simp [zy.l0])
   | succ k1 =>
    have H := HA.out
    clear HA
    simp only [zy.l0] at H
    by_cases c4 : x5_1 < (l0.length : Int)
    ·rw [if_pos c4] at H
     have c4b0 : decide (x5_1 < (l0.length : Int)) = true := decide_eq_true c4
     clear c4
     by_cases c5 : 0 ≤ x5_1
     ·rw [if_pos c5] at H
      have c5b0 : decide (0 ≤ x5_1) = true := decide_eq_true c5
      clear c5
      by_cases c6 : x5_1 < (l1.length : Int)
      ·rw [if_pos c6] at H
       have c6b0 : decide (x5_1 < (l1.length : Int)) = true := decide_eq_true c6
       clear c6
       replace H := Option.bind_eq_some_iff.mp H
       obtain ⟨yF,A70,H⟩ := H
       replace H : (if yF = true then (zy.l0 k1 l0 l1 (wrap64 (x5_1 + 1))) else (some false)) = some r := H
       have A7 := za.mk A70
       clear A70
       by_cases c8 : yF = true
       ·subst c8
        have H1 : (zy.l0 k1 l0 l1 (wrap64 (x5_1 + 1))) = some r := by rw [if_pos rfl] at H;exact H
        clear H
        have H := H1
        clear H1
        have H' := za.mk H
        clear H
        try go_wp2
        have n0_ := za.mk (zp HB.out)
        clear HB
        have HB := n0_
        clear n0_
        have yB : 0 ≤ (x5_1 : Int) := hFq
        have yD : x5_1 < (l0.length : Int) := hFq
        obtain ⟨ym,yv,yx,yG,ya,yb,yc,yt,yq⟩ := zcd HR0.out x5_1 yB yD
        have yi := yc
        have yh := yb
        have yg := ya
        cases yG
        replace ya := (HB.out.cell (World.block_lt_of_cell? w _ ya)).trans ya
        replace yb := (HB.out.cell (World.block_lt_of_cell? w _ yb)).trans yb
        replace yc := (HB.out.cell (World.block_lt_of_cell? w _ yc)).trans yc
        have yo := za.mk yq
        have yz := za.mk yt
        clear yq yt
        replace yB := eq_true yB
        replace yD := eq_true yD
        have yC : 0 ≤ (x5_1 : Int) := hFq
        have yE : x5_1 < (l1.length : Int) := hFq
        obtain ⟨yn,yw,yy,yH,yd,ye,yf,yu,yr⟩ := zcd HR1.out x5_1 yC yE
        have yl := yf
        have yk := ye
        have yj := yd
        cases yH
        replace yd := (HB.out.cell (World.block_lt_of_cell? w _ yd)).trans yd
        replace ye := (HB.out.cell (World.block_lt_of_cell? w _ ye)).trans ye
        replace yf := (HB.out.cell (World.block_lt_of_cell? w _ yf)).trans yf
        have yp := za.mk yr
        have yA := za.mk yu
        clear yr yu
        replace yC := eq_true yC
        replace yE := eq_true yE
        refine zbV (n := 10) (S := fun w' => w'.cell? (ym.add ((x5_1).toNat * 3)) = some (.int .i64 ((zO l0 x5_1).f0)) ∧ w'.cell? ⟨(ym.add ((x5_1).toNat * 3)).block,(ym.add ((x5_1).toNat * 3)).off + 1,none⟩ = some (.int .i64 ((zO l0 x5_1).f1)) ∧ w'.cell? ⟨(ym.add ((x5_1).toNat * 3)).block,(ym.add ((x5_1).toNat * 3)).off + 2,none⟩ = some (.slice yv ((zO l0 x5_1).f2).length yx) ∧ w'.cell? (yn.add ((x5_1).toNat * 3)) = some (.int .i64 ((zO l1 x5_1).f0)) ∧ w'.cell? ⟨(yn.add ((x5_1).toNat * 3)).block,(yn.add ((x5_1).toNat * 3)).off + 1,none⟩ = some (.int .i64 ((zO l1 x5_1).f1)) ∧ w'.cell? ⟨(yn.add ((x5_1).toNat * 3)).block,(yn.add ((x5_1).toNat * 3)).off + 2,none⟩ = some (.slice yw ((zO l1 x5_1).f2).length yy)) (ds := []) (uQ 10 0) (by kernel_rfl) rfl rfl ⟨((HB.out.cell (World.block_lt_of_cell? w _ yg)).trans yg),((HB.out.cell (World.block_lt_of_cell? w _ yh)).trans yh),((HB.out.cell (World.block_lt_of_cell? w _ yi)).trans yi),((HB.out.cell (World.block_lt_of_cell? w _ yj)).trans yj),((HB.out.cell (World.block_lt_of_cell? w _ yk)).trans yk),((HB.out.cell (World.block_lt_of_cell? w _ yl)).trans yl)⟩ (fun hHeld => ?_);refine zaQ zy.tab6 zy.bits6 (fun HT_ HW_ => ?_)
        generalize wr.drew = w9 at HB yo yp ya yb yc yd ye yf hHeld ⊢
        refine puq (i := 0) (N := some 18) HT_.out (uQ 10 1) ?_
        refine puq (i := 1) (N := some 19) HT_.out (uQ 10 2) ?_
        refine puq (i := 2) (N := some 20) HT_.out (uQ 10 3) ?_
        refine puq (i := 4) (N := some 22) HT_.out #[true,true,true,false,true,false,false,false,false,false] ?_
        refine puq (i := 5) (N := some 23) HT_.out #[true,true,true,false,true,true,false,false,false,false] ?_
        refine puq (i := 6) (N := some 24) HT_.out #[true,true,true,false,true,true,true,false,false,false] ?_
        refine take_ (i := 3) (N := some 21) (uQ 10 7) rfl rfl (zU HT_.out HW_.out (by kernel_rfl)) (fun _ _ _ h => h) (Or.inl ⟨by rfl,by rintro w' ⟨s0,s1,s2,s3,s4,s5⟩;go_simp;with_reducible rfl⟩) hHeld hPq ?_
        refine take_ (i := 7) (N := some 25) (uQ 10 8) rfl rfl (zU HT_.out HW_.out (by kernel_rfl)) (fun _ _ _ h => h) (Or.inl ⟨by rfl,by rintro w' ⟨s0,s1,s2,s3,s4,s5⟩;go_simp;with_reducible rfl⟩) hHeld hPq ?_
        refine zct (i := 8) (N := some 26) (uQ 10 9) rfl rfl (za0 HT_.out (by kernel_rfl)) (by decide) (fun K hK => ?_)
        refine zbG Tryz.func56 (by kernel_rfl) rfl #[.agg #[.int .i64 ((zO l0 x5_1).f0),.int .i64 ((zO l0 x5_1).f1),.slice yv ((zO l0 x5_1).f2).length yx],.agg #[.int .i64 ((zO l1 x5_1).f0),.int .i64 ((zO l1 x5_1).f1),.slice yw ((zO l1 x5_1).f2).length yy]] (by rfl) rfl rfl hMq ?_
        with_reducible refine (zba.calls k1 ((zO l0 x5_1).f0) ((zO l0 x5_1).f1) _ _ ((zO l0 x5_1).f2) ((zO l1 x5_1).f0) ((zO l1 x5_1).f1) _ _ ((zO l1 x5_1).f2) true _ ?side1 ?side2 ?side3 ?side4 A7.out).mono ?_
        (case side1 => exact hKq (Kd.C_below yo.out HB.out))
        (case side2 => exact yz.out)
        (case side3 => exact hKq (Kd.C_below yp.out HB.out))
        (case side4 => exact yA.out)
        rintro e w10 ⟨rfl,hb⟩
        refine ⟨_,rfl,?_⟩
        have n0_ := za.mk (ze hBq hb)
        clear HB
        have HB := n0_
        clear n0_
        (try clear hb)
        (try clear hb2)
        (try clear hk)
        (try clear hi)
        refine hK.out _ _ ⟨((HB.out.cell (World.block_lt_of_cell? w _ yg)).trans yg),((HB.out.cell (World.block_lt_of_cell? w _ yh)).trans yh),((HB.out.cell (World.block_lt_of_cell? w _ yi)).trans yi),((HB.out.cell (World.block_lt_of_cell? w _ yj)).trans yj),((HB.out.cell (World.block_lt_of_cell? w _ yk)).trans yk),((HB.out.cell (World.block_lt_of_cell? w _ yl)).trans yl)⟩ (fun hHeld => ?_)
        clear hK K
        refine za5 (a' := ?_) ?_ ?_
        rotate_left
        ·show Act.put _ (some 26) _ = _
         simp only [Act.put,List.setIfInBounds_toArray,List.set_cons_zero,List.set_cons_succ,zam,zap]
         rfl
        refine puq (i := 9) (N := some 6) HT_.out (uQ 10 10) ?_
        refine zbX (zaX HT_.out (by kernel_rfl)) ?_
        try go_wp2
        go_roundg k1
        case measure => have := HK1.out;omega
        case rel => exact ⟨(wrap64 (x5_1 + 1)),(hDq),H',⟨by have := HK1.out;omega⟩,⟨by repeat (first | (with_reducible first | exact HB.out | apply zl | apply zi | apply zp) | exact HB.out)⟩⟩
       ·replace c8 := Bool.eq_false_iff.mpr c8
        subst c8
        have H1 : (some false) = some r := by rw [if_neg (show ¬ (false = true) by decide)] at H;exact H
        clear H
        have H := H1
        clear H1
        obtain rfl := Option.some.inj H
        try go_wp2
        have n0_ := za.mk (zp HB.out)
        clear HB
        have HB := n0_
        clear n0_
        have yB : 0 ≤ (x5_1 : Int) := hFq
        have yD : x5_1 < (l0.length : Int) := hFq
        obtain ⟨ym,yv,yx,yG,ya,yb,yc,yt,yq⟩ := zcd HR0.out x5_1 yB yD
        have yi := yc
        have yh := yb
        have yg := ya
        cases yG
        replace ya := (HB.out.cell (World.block_lt_of_cell? w _ ya)).trans ya
        replace yb := (HB.out.cell (World.block_lt_of_cell? w _ yb)).trans yb
        replace yc := (HB.out.cell (World.block_lt_of_cell? w _ yc)).trans yc
        have yo := za.mk yq
        have yz := za.mk yt
        clear yq yt
        replace yB := eq_true yB
        replace yD := eq_true yD
        have yC : 0 ≤ (x5_1 : Int) := hFq
        have yE : x5_1 < (l1.length : Int) := hFq
        obtain ⟨yn,yw,yy,yH,yd,ye,yf,yu,yr⟩ := zcd HR1.out x5_1 yC yE
        have yl := yf
        have yk := ye
        have yj := yd
        cases yH
        replace yd := (HB.out.cell (World.block_lt_of_cell? w _ yd)).trans yd
        replace ye := (HB.out.cell (World.block_lt_of_cell? w _ ye)).trans ye
        replace yf := (HB.out.cell (World.block_lt_of_cell? w _ yf)).trans yf
        have yp := za.mk yr
        have yA := za.mk yu
        clear yr yu
        replace yC := eq_true yC
        replace yE := eq_true yE
        refine zbV (n := 10) (S := fun w' => w'.cell? (ym.add ((x5_1).toNat * 3)) = some (.int .i64 ((zO l0 x5_1).f0)) ∧ w'.cell? ⟨(ym.add ((x5_1).toNat * 3)).block,(ym.add ((x5_1).toNat * 3)).off + 1,none⟩ = some (.int .i64 ((zO l0 x5_1).f1)) ∧ w'.cell? ⟨(ym.add ((x5_1).toNat * 3)).block,(ym.add ((x5_1).toNat * 3)).off + 2,none⟩ = some (.slice yv ((zO l0 x5_1).f2).length yx) ∧ w'.cell? (yn.add ((x5_1).toNat * 3)) = some (.int .i64 ((zO l1 x5_1).f0)) ∧ w'.cell? ⟨(yn.add ((x5_1).toNat * 3)).block,(yn.add ((x5_1).toNat * 3)).off + 1,none⟩ = some (.int .i64 ((zO l1 x5_1).f1)) ∧ w'.cell? ⟨(yn.add ((x5_1).toNat * 3)).block,(yn.add ((x5_1).toNat * 3)).off + 2,none⟩ = some (.slice yw ((zO l1 x5_1).f2).length yy)) (ds := []) (uQ 10 0) (by kernel_rfl) rfl rfl ⟨((HB.out.cell (World.block_lt_of_cell? w _ yg)).trans yg),((HB.out.cell (World.block_lt_of_cell? w _ yh)).trans yh),((HB.out.cell (World.block_lt_of_cell? w _ yi)).trans yi),((HB.out.cell (World.block_lt_of_cell? w _ yj)).trans yj),((HB.out.cell (World.block_lt_of_cell? w _ yk)).trans yk),((HB.out.cell (World.block_lt_of_cell? w _ yl)).trans yl)⟩ (fun hHeld => ?_);refine zaQ zy.tab6 zy.bits6 (fun HT_ HW_ => ?_)
        generalize wr.drew = w11 at HB yo yp ya yb yc yd ye yf hHeld ⊢
        refine puq (i := 0) (N := some 18) HT_.out (uQ 10 1) ?_
        refine puq (i := 1) (N := some 19) HT_.out (uQ 10 2) ?_
        refine puq (i := 2) (N := some 20) HT_.out (uQ 10 3) ?_
        refine puq (i := 4) (N := some 22) HT_.out #[true,true,true,false,true,false,false,false,false,false] ?_
        refine puq (i := 5) (N := some 23) HT_.out #[true,true,true,false,true,true,false,false,false,false] ?_
        refine puq (i := 6) (N := some 24) HT_.out #[true,true,true,false,true,true,true,false,false,false] ?_
        refine take_ (i := 3) (N := some 21) (uQ 10 7) rfl rfl (zU HT_.out HW_.out (by kernel_rfl)) (fun _ _ _ h => h) (Or.inl ⟨by rfl,by rintro w' ⟨s0,s1,s2,s3,s4,s5⟩;go_simp;with_reducible rfl⟩) hHeld hPq ?_
        refine take_ (i := 7) (N := some 25) (uQ 10 8) rfl rfl (zU HT_.out HW_.out (by kernel_rfl)) (fun _ _ _ h => h) (Or.inl ⟨by rfl,by rintro w' ⟨s0,s1,s2,s3,s4,s5⟩;go_simp;with_reducible rfl⟩) hHeld hPq ?_
        refine zct (i := 8) (N := some 26) (uQ 10 9) rfl rfl (za0 HT_.out (by kernel_rfl)) (by decide) (fun K hK => ?_)
        refine zbG Tryz.func56 (by kernel_rfl) rfl #[.agg #[.int .i64 ((zO l0 x5_1).f0),.int .i64 ((zO l0 x5_1).f1),.slice yv ((zO l0 x5_1).f2).length yx],.agg #[.int .i64 ((zO l1 x5_1).f0),.int .i64 ((zO l1 x5_1).f1),.slice yw ((zO l1 x5_1).f2).length yy]] (by rfl) rfl rfl hMq ?_
        with_reducible refine (zba.calls k1 ((zO l0 x5_1).f0) ((zO l0 x5_1).f1) _ _ ((zO l0 x5_1).f2) ((zO l1 x5_1).f0) ((zO l1 x5_1).f1) _ _ ((zO l1 x5_1).f2) false _ ?side1 ?side2 ?side3 ?side4 A7.out).mono ?_
        (case side1 => exact hKq (Kd.C_below yo.out HB.out))
        (case side2 => exact yz.out)
        (case side3 => exact hKq (Kd.C_below yp.out HB.out))
        (case side4 => exact yA.out)
        rintro e w12 ⟨rfl,hb⟩
        refine ⟨_,rfl,?_⟩
        have n0_ := za.mk (ze hBq hb)
        clear HB
        have HB := n0_
        clear n0_
        (try clear hb)
        (try clear hb2)
        (try clear hk)
        (try clear hi)
        refine hK.out _ _ ⟨((HB.out.cell (World.block_lt_of_cell? w _ yg)).trans yg),((HB.out.cell (World.block_lt_of_cell? w _ yh)).trans yh),((HB.out.cell (World.block_lt_of_cell? w _ yi)).trans yi),((HB.out.cell (World.block_lt_of_cell? w _ yj)).trans yj),((HB.out.cell (World.block_lt_of_cell? w _ yk)).trans yk),((HB.out.cell (World.block_lt_of_cell? w _ yl)).trans yl)⟩ (fun hHeld => ?_)
        clear hK K
        refine za5 (a' := ?_) ?_ ?_
        rotate_left
        ·show Act.put _ (some 26) _ = _
         simp only [Act.put,List.setIfInBounds_toArray,List.set_cons_zero,List.set_cons_succ,zam,zap]
         rfl
        refine puq (i := 9) (N := some 6) HT_.out (uQ 10 10) ?_
        refine zbX (zaX HT_.out (by kernel_rfl)) ?_
        try go_wp2
        go_ret
        exact ⟨hHq,hBq⟩
      ·rw [if_neg c6] at H
       exact absurd H (by simp)
     ·rw [if_neg c5] at H
      exact absurd H (by simp)
    ·rw [if_neg c4] at H
     have c4b0 : decide (x5_1 < (l0.length : Int)) = false := decide_eq_false c4
     clear c4
     obtain rfl := Option.some.inj H
     go_wp2
     go_ret
     exact ⟨hHq,hBq⟩
 ·rw [if_neg c3] at H
  have c3b0 : ((l0.length : Int) == (l1.length : Int)) = false := beq_eq_false_iff_ne.mpr c3
  have c3b1 : ((l0.length : Int) != (l1.length : Int)) = true := bne_iff_ne.mpr c3
  have c3b2 : (l0.length == l1.length) = false := by first | simpa using c3 | (simp at c3 ⊢;omega)
  obtain rfl := Option.some.inj H
  go_enter Tryz.func38,Tryz.ntmps38
  go_wp2
  go_ret
  exact ⟨hHq,hBq⟩
theorem eqA33 (d : Nat) (w : World) (x0 y0 : Int) (x1 y1 : Int) :
  (Op.equalIn (d + 2) 33 (.agg #[.int .i64 x0,.int .i64 x1]) (.agg #[.int .i64 y0,.int .i64 y1])).run Tryz.prog w = .ok (x0 == y0 && (x1 == y1)) w := by
 refine eqA_of Tryz.underlying33 (by kernel_rfl) ?_
 refine eqf_cons (by rfl) (by go_simp;rfl) (by go_simp;rfl) (by go_simp) ?_
 exact eqf_last (by rfl) (by go_simp;rfl) (by go_simp;rfl) (by go_simp)
end Go.Proofs.YtndjfdakflaggaaGreat.Px
namespace Go.Proofs.YtndjfdakflaggaaGreat.Px
open Go.RowKit Go.Proofs.YtndjfdakflaggaaGreatW.PrintWords Go.Proofs.YtndjfdakflaggaaGreatW.PrintLast Go.Proofs.YtndjfdakflaggaaGreatW.PrintMore
attribute [local go_sem] zA zC zH zI zv zw zB zD
set_option linter.unusedVariables false
set_option linter.unusedSimpArgs false
attribute [local go_sem high] eqA33
def zbQ.f (k : Nat) (a0_0 : Int) (a0_1 : Int) (l0_2 : List (S75)) (l0_3 : List ByteArray) (a0_4 : Int) (a0_5 : Int) (a1_0 : Int) (a1_1 : Int) (l1_2 : List (S75)) (l1_3 : List ByteArray) (a1_4 : Int) (a1_5 : Int) : Option (Bool) := (zT.f k l0_3 l1_3).bind fun yd => ((zy.f k l0_2 l1_2).bind fun yc => (if yd = true then (if yc = true then (if a0_0 = a1_0 then (if a0_1 = a1_1 then (some (a0_4 == a1_4 && (a0_5 == a1_5))) else (some false)) else (some false)) else (some false)) else (some false)))
set_option maxHeartbeats 8000000 in
set_option maxRecDepth 100000 in
theorem zbQ.calls (k : Nat) (a0_0 : Int) (a0_1 : Int) (A0_2 : Option Addr) (c0_2 : Nat) (l0_2 : List (S75)) (A0_3 : Option Addr) (c0_3 : Nat) (l0_3 : List ByteArray) (a0_4 : Int) (a0_5 : Int) (a1_0 : Int) (a1_1 : Int) (A1_2 : Option Addr) (c1_2 : Nat) (l1_2 : List (S75)) (A1_3 : Option Addr) (c1_3 : Nat) (l1_3 : List ByteArray) (a1_4 : Int) (a1_5 : Int) (r : Bool) (w : World) (hr0_2 : Kd.C k75 w A0_2 l0_2.length l0_2) (hc0_2 : l0_2.length ≤ c0_2) (hr0_3 : Kd.C Kd.string w A0_3 l0_3.length l0_3) (hc0_3 : l0_3.length ≤ c0_3) (hr1_2 : Kd.C k75 w A1_2 l1_2.length l1_2) (hc1_2 : l1_2.length ≤ c1_2) (hr1_3 : Kd.C Kd.string w A1_3 l1_3.length l1_3) (hc1_3 : l1_3.length ≤ c1_3) (h : zbQ.f k a0_0 a0_1 l0_2 l0_3 a0_4 a0_5 a1_0 a1_1 l1_2 l1_3 a1_4 a1_5 = some r) :
  Calls Tryz.prog 20 #[.agg #[.int .i64 a0_0,.int .i64 a0_1,.slice A0_2 l0_2.length c0_2,.slice A0_3 l0_3.length c0_3,.int .i64 a0_4,.int .i64 a0_5],.agg #[.int .i64 a1_0,.int .i64 a1_1,.slice A1_2 l1_2.length c1_2,.slice A1_3 l1_3.length c1_3,.int .i64 a1_4,.int .i64 a1_5]] w fun e w' => e = .returned (.bool r) ∧ Below w.heap.size w w' := by
 have hu35 := Tryz.underlying35
 have hu33 := Tryz.underlying33
 have HR0_2 := za.mk hr0_2
 have HC0_2 := za.mk hc0_2
 clear hr0_2 hc0_2
 have HR0_3 := za.mk hr0_3
 have HC0_3 := za.mk hc0_3
 clear hr0_3 hc0_3
 have HR1_2 := za.mk hr1_2
 have HC1_2 := za.mk hc1_2
 clear hr1_2 hc1_2
 have HR1_3 := za.mk hr1_3
 have HC1_3 := za.mk hc1_3
 clear hr1_3 hc1_3
 have HB := za.mk (Below.refl w.heap.size w)
 have H : ((zT.f k l0_3 l1_3).bind fun yd => ((zy.f k l0_2 l1_2).bind fun yc => (if yd = true then (if yc = true then (if a0_0 = a1_0 then (if a0_1 = a1_1 then (some (a0_4 == a1_4 && (a0_5 == a1_5))) else (some false)) else (some false)) else (some false)) else (some false)))) = some r := h
 clear h
 replace H := Option.bind_eq_some_iff.mp H
 obtain ⟨yd,A30,H⟩ := H
 replace H : ((zy.f k l0_2 l1_2).bind fun yc => (if yd = true then (if yc = true then (if a0_0 = a1_0 then (if a0_1 = a1_1 then (some (a0_4 == a1_4 && (a0_5 == a1_5))) else (some false)) else (some false)) else (some false)) else (some false))) = some r := H
 have A3 := za.mk A30
 clear A30
 replace H := Option.bind_eq_some_iff.mp H
 obtain ⟨yc,A40,H⟩ := H
 replace H : (if yd = true then (if yc = true then (if a0_0 = a1_0 then (if a0_1 = a1_1 then (some (a0_4 == a1_4 && (a0_5 == a1_5))) else (some false)) else (some false)) else (some false)) else (some false)) = some r := H
 have A4 := za.mk A40
 clear A40
 by_cases c5 : yd = true
 focus
  subst c5
  have H1 : (if yc = true then (if a0_0 = a1_0 then (if a0_1 = a1_1 then (some (a0_4 == a1_4 && (a0_5 == a1_5))) else (some false)) else (some false)) else (some false)) = some r := by rw [if_pos rfl] at H;exact H
  clear H
  have H := H1
  clear H1
  by_cases c6 : yc = true
  focus
   subst c6
   have H1 : (if a0_0 = a1_0 then (if a0_1 = a1_1 then (some (a0_4 == a1_4 && (a0_5 == a1_5))) else (some false)) else (some false)) = some r := by rw [if_pos rfl] at H;exact H
   clear H
   have H := H1
   clear H1
   by_cases c7 : a0_0 = a1_0
   focus
    rw [if_pos c7] at H
    have c7b0 : (a0_0 == a1_0) = true := beq_iff_eq.mpr c7
    have c7b1 : (a0_0 != a1_0) = false := bne_eq_false_iff_eq.mpr c7
    clear c7
    by_cases c8 : a0_1 = a1_1
    focus
     rw [if_pos c8] at H
     have c8b0 : (a0_1 == a1_1) = true := beq_iff_eq.mpr c8
     have c8b1 : (a0_1 != a1_1) = false := bne_eq_false_iff_eq.mpr c8
     clear c8
     obtain rfl := Option.some.inj H
     have EQ0 := True.intro
     have EQ1 := True.intro
    rotate_left
    focus
     rw [if_neg c8] at H
     have c8b0 : (a0_1 == a1_1) = false := beq_eq_false_iff_ne.mpr c8
     have c8b1 : (a0_1 != a1_1) = true := bne_iff_ne.mpr c8
     obtain rfl := Option.some.inj H
     have EQ0 := True.intro
     have EQ1 := True.intro
   rotate_left 2
   focus
    rw [if_neg c7] at H
    have c7b0 : (a0_0 == a1_0) = false := beq_eq_false_iff_ne.mpr c7
    have c7b1 : (a0_0 != a1_0) = true := bne_iff_ne.mpr c7
    obtain rfl := Option.some.inj H
    have EQ0 := True.intro
    have EQ1 := True.intro
  rotate_left 3
  focus
   replace c6 := Bool.eq_false_iff.mpr c6
   subst c6
   have H1 : (some false) = some r := by rw [if_neg (show ¬ (false = true) by decide)] at H;exact H
   clear H
   have H := H1
   clear H1
   obtain rfl := Option.some.inj H
   have EQ0 := True.intro
   have EQ2 := True.intro
 rotate_left 4
 focus
  replace c5 := Bool.eq_false_iff.mpr c5
  subst c5
  have H1 : (some false) = some r := by rw [if_neg (show ¬ (false = true) by decide)] at H;exact H
  clear H
  have H := H1
  clear H1
  obtain rfl := Option.some.inj H
  have EQ3 := True.intro
 all_goals
  go_enter Tryz.func20,Tryz.ntmps20
  go_wp2_with (first | ((with_reducible refine zq (N := 2) rfl ?_);refine zn rfl (N := 2) rfl (cs := #[.int .i64 a0_0,.int .i64 a0_1,.slice A0_2 l0_2.length c0_2,.slice A0_3 l0_3.length c0_3,.int .i64 a0_4,.int .i64 a0_5]) (t := 35) hrq ?_;intro ye hg wQN22 hbox hb;have n_ := haq (ze hBq hb) <| haq (hbox) <| haq ((by rw [hg];exact (zh hBq) : w.heap.size ≤ ye)) <| haq ((by rw [hg];exact (zh hBq) : w.heap.size ≤ ye)) <| trivial;clear HB;obtain ⟨HB,ya,y8,yY,_⟩ := n_;clear hb hbox hg) | ((with_reducible refine zq (N := 3) rfl ?_);refine zn rfl (N := 3) rfl (cs := #[.int .i64 a1_0,.int .i64 a1_1,.slice A1_2 l1_2.length c1_2,.slice A1_3 l1_3.length c1_3,.int .i64 a1_4,.int .i64 a1_5]) (t := 35) hrq ?_;intro yf hg wQN32 hbox hb;have n_ := haq (hbq ya.out hb) <| haq (ze hCq hb) <| haq (hbox) <| haq ((by rw [hg];exact (zh hCq) : w.heap.size ≤ yf)) <| haq ((by rw [hg];exact (zh hCq) : w.heap.size ≤ yf)) <| haq (hnq hg ya.out) <| haq (hmq hg ya.out) <| trivial;clear ya HB;obtain ⟨ya,HB,yb,y9,yZ,NBQN37,NBQN38,_⟩ := n_;clear hb hbox hg;have hnbQN39 := NBQN37.out;have yX := NBQN38.out;obtain ⟨yz,yA,yB,yC,yD,yE,yL,yM,yN,yO,yP,yQ⟩ := hcq6 ya.out;obtain ⟨yF,yG,yH,yI,yJ,yK,yR,yS,yT,yU,yV,yW⟩ := hcq6 yb.out) | (have _ := EQ0;((with_reducible refine zQ (f := 37) rfl ?_);refine zaB (some 11) rfl rfl Tryz.func37 (by kernel_rfl) rfl #[.slice A0_3 l0_3.length c0_3,.slice A1_3 l1_3.length c1_3] rfl hMq ?_;(with_reducible refine (zT.calls k _ _ l0_3 _ _ l1_3 true _ ?side1 ?side2 ?side3 ?side4 A3.out).mono ?_);(case side1 => exact hKq (Kd.C_below HR0_3.out HB.out));(case side2 => exact HC0_3.out);(case side3 => exact hKq (Kd.C_below HR1_3.out HB.out));(case side4 => exact HC1_3.out);rintro e w' ⟨rfl,⟨nd,rfl⟩⟩;refine ⟨_,rfl,?_⟩)) | (have _ := EQ1;((with_reducible refine zQ (f := 38) rfl ?_);refine zaB (some 16) rfl rfl Tryz.func38 (by kernel_rfl) rfl #[.slice A0_2 l0_2.length c0_2,.slice A1_2 l1_2.length c1_2] rfl hMq ?_;(with_reducible refine (zy.calls k _ _ l0_2 _ _ l1_2 true _ ?side1 ?side2 ?side3 ?side4 A4.out).mono ?_);(case side1 => repeat (first | exact (Kd.C_below HR0_2.out hCq) | (with_reducible refine Kd.C_alloc ?_ _) | (with_reducible refine Kd.C_drewN ?_ _) | (with_reducible refine Kd.C_drew ?_)));(case side2 => exact HC0_2.out);(case side3 => repeat (first | exact (Kd.C_below HR1_2.out hCq) | (with_reducible refine Kd.C_alloc ?_ _) | (with_reducible refine Kd.C_drewN ?_ _) | (with_reducible refine Kd.C_drew ?_)));(case side4 => exact HC1_2.out);rintro e wQF38A41 ⟨rfl,hb⟩;refine ⟨_,rfl,?_⟩;have n_ := haq (hbq ya.out hb) <| haq (hbq yb.out hb) <| haq (ze hCq hb) <| trivial;clear ya yb HB;obtain ⟨ya,yb,HB,_⟩ := n_;(try clear hb);(try clear hb2);(try clear hk);(try clear hi);obtain ⟨hczQF38A44,hczQF38A45,hczQF38A46,hczQF38A47,hczQF38A48,hczQF38A49,ym,yn,yo,yp,yq,yr⟩ := hcq6 ya.out;obtain ⟨yg,yh,yi,yj,yk,yl,yt,yu,yv,yw,yx,yy⟩ := hcq6 yb.out)) | (have _ := EQ2;((with_reducible refine zQ (f := 38) rfl ?_);refine zaB (some 16) rfl rfl Tryz.func38 (by kernel_rfl) rfl #[.slice A0_2 l0_2.length c0_2,.slice A1_2 l1_2.length c1_2] rfl hMq ?_;(with_reducible refine (zy.calls k _ _ l0_2 _ _ l1_2 false _ ?side1 ?side2 ?side3 ?side4 A4.out).mono ?_);(case side1 => repeat (first | exact (Kd.C_below HR0_2.out hCq) | (with_reducible refine Kd.C_alloc ?_ _) | (with_reducible refine Kd.C_drewN ?_ _) | (with_reducible refine Kd.C_drew ?_)));(case side2 => exact HC0_2.out);(case side3 => repeat (first | exact (Kd.C_below HR1_2.out hCq) | (with_reducible refine Kd.C_alloc ?_ _) | (with_reducible refine Kd.C_drewN ?_ _) | (with_reducible refine Kd.C_drew ?_)));(case side4 => exact HC1_2.out);rintro e wQF38A41 ⟨rfl,hb⟩;refine ⟨_,rfl,?_⟩;have n_ := haq (hbq ya.out hb) <| haq (hbq yb.out hb) <| haq (ze hCq hb) <| trivial;clear ya yb HB;obtain ⟨ya,yb,HB,_⟩ := n_;(try clear hb);(try clear hb2);(try clear hk);(try clear hi))) | (have _ := EQ3;((with_reducible refine zQ (f := 37) rfl ?_);refine zaB (some 11) rfl rfl Tryz.func37 (by kernel_rfl) rfl #[.slice A0_3 l0_3.length c0_3,.slice A1_3 l1_3.length c1_3] rfl hMq ?_;(with_reducible refine (zT.calls k _ _ l0_3 _ _ l1_3 false _ ?side1 ?side2 ?side3 ?side4 A3.out).mono ?_);(case side1 => exact hKq (Kd.C_below HR0_3.out HB.out));(case side2 => exact HC0_3.out);(case side3 => exact hKq (Kd.C_below HR1_3.out HB.out));(case side4 => exact HC1_3.out);rintro e w' ⟨rfl,⟨nd,rfl⟩⟩;refine ⟨_,rfl,?_⟩)) | (have _ := EQ3;((with_reducible refine zQ (f := 38) rfl ?_);refine zaB (some 16) rfl rfl Tryz.func38 (by kernel_rfl) rfl #[.slice A0_2 l0_2.length c0_2,.slice A1_2 l1_2.length c1_2] rfl hMq ?_;(with_reducible refine (zy.calls k _ _ l0_2 _ _ l1_2 yc _ ?side1 ?side2 ?side3 ?side4 A4.out).mono ?_);(case side1 => repeat (first | exact (Kd.C_below HR0_2.out hCq) | (with_reducible refine Kd.C_alloc ?_ _) | (with_reducible refine Kd.C_drewN ?_ _) | (with_reducible refine Kd.C_drew ?_)));(case side2 => exact HC0_2.out);(case side3 => repeat (first | exact (Kd.C_below HR1_2.out hCq) | (with_reducible refine Kd.C_alloc ?_ _) | (with_reducible refine Kd.C_drewN ?_ _) | (with_reducible refine Kd.C_drew ?_)));(case side4 => exact HC1_2.out);rintro e wQF38A41 ⟨rfl,hb⟩;refine ⟨_,rfl,?_⟩;have n_ := haq (hbq ya.out hb) <| haq (hbq yb.out hb) <| haq (ze hCq hb) <| trivial;clear ya yb HB;obtain ⟨ya,yb,HB,_⟩ := n_;(try clear hb);(try clear hb2);(try clear hk);(try clear hi))))
  go_ret
  exact ⟨hHq,hCq⟩
end Go.Proofs.YtndjfdakflaggaaGreat.Px
namespace Go.Proofs.YtndjfdakflaggaaGreat.Px
open Go.RowKit Go.Proofs.YtndjfdakflaggaaGreatW.PrintWords Go.Proofs.YtndjfdakflaggaaGreatW.PrintLast Go.Proofs.YtndjfdakflaggaaGreatW.PrintMore
attribute [local go_sem] zA zC zH zI zv zw zB zD
set_option linter.unusedVariables false
set_option linter.unusedSimpArgs false
def zci (a r : Int) (bs : List S75) (ps : List ByteArray) (x y : Int) : Bs :=
 zds a.toNat ++ zds r.toNat ++ zck (bs.map bB) ++ zck ps ++ zds x.toNat ++ zds y.toNat
theorem zcW (a r : Int) (bs : List S75) (ps : List ByteArray) (x y n : Int) : zbo a r bs ps x y n = true ↔ zcy n = true ∧ 1 ≤ a ∧ a ≤ n ∧ 1 ≤ r ∧ r ≤ 1048576 ∧ bs.length ≤ 4 ∧ bs.any (zdi n) = false ∧ zfP x y = true ∧ (zdv r = true ∨ x = 0 ∧ y = 0) ∧ zb4 ps r n = true := by
 unfold zbo
 simp [and_assoc]
theorem ziF (l : List ByteArray) (d : Nat) : ∀ j,zbf l d j = true → ∀ i,j ≤ i → i < j + d → (l.getD i ByteArray.empty).size = 32 := by
 induction d with
 | zero => intro j _ i h1 h2;omega
 | succ d ih =>
  intro j h i h1 h2
  rw [zbf,Bool.and_eq_true] at h
  rcases Nat.lt_or_ge j i with h3 | h3
  ·exact ih (j + 1) h.2 i (by omega) (by omega)
  ·obtain rfl : i = j := by omega
   have := h.1
   rw [zg0,Bool.and_eq_true] at this
   exact of_decide_eq_true this.1
theorem zbL {l : List ByteArray} {r n : Int} (hn : zcy n = true) (h : zb4 l r n = true) : l.length ≤ 64 ∧ ∀ t ∈ l,t.size = 32 := by
 unfold zb4 at h
 split at h
 ·have h0 := of_decide_eq_true h
  obtain rfl := List.eq_nil_of_length_eq_zero h0
  simp
 ·obtain ⟨_,h2,_⟩ := (zcV n).1 hn
  rw [Bool.and_eq_true,Bool.and_eq_true] at h
  have h3 := of_decide_eq_true h.2
  refine ⟨by omega,fun t ht => ?_⟩
  obtain ⟨i,hi,rfl⟩ := List.mem_iff_getElem.1 ht
  have := ziF l l.length 0 h.1.1 i (by omega) (by omega)
  rwa [List.getD_eq_getElem?_getD,List.getElem?_eq_getElem hi] at this
theorem bB_size (b : S75) : (bB b).size ≤ 400 := by
 unfold bB
 split
 ·rename_i h
  obtain ⟨h1,h2,h3,h4,h5,h6,h7⟩ := (zd6 _ _ _).1 h
  have r1 := zeg b.f2 48 (by omega) (fun t ht => (h7 t ht).2)
  have r2 := zaU (v := b.f2.length) (by omega)
  have r4 := zaU (v := b.f0.toNat) (by omega)
  have r5 := zaU (v := b.f1.toNat) (by omega)
  rw [zax,zfg,List.length_append,List.length_append,zck,List.length_append];omega
 ·show 0 ≤ 400;omega
theorem zhO {bs : List S75} (h : bs.length ≤ 4) : (zck (bs.map bB)).length ≤ 1700 := by
 have r1 := zeg (bs.map bB) 400 (by omega) (fun t ht => by obtain ⟨b,_,rfl⟩ := List.mem_map.1 ht;exact bB_size b)
 rw [List.length_map] at r1
 have r2 := zaU (v := (bs.map bB).length) (by rw [List.length_map];omega)
 rw [zck,List.length_append];omega
theorem zhP {ps : List ByteArray} (h : ps.length ≤ 64 ∧ ∀ t ∈ ps,t.size = 32) : (zck ps).length ≤ 2700 := by
 have r1 := zeg ps 32 (by omega) (fun t ht => by have := h.2 t ht;omega)
 have r2 := zaU (v := ps.length) (by have := h.1;omega)
 rw [zck,List.length_append];have := h.1;omega
theorem any_odd {n : Int} {bs : List S75} (h : bs.any (zdi n) = false) : ∀ b ∈ bs,zd5 b.f0 b.f1 b.f2 = true ∧ b.f0 ≤ n := by
 intro b hb
 rw [List.any_eq_false] at h
 have := h b hb
 rw [zdi] at this
 simp at this
 exact ⟨this.1,by omega⟩
theorem rd_four (a b c d : ByteArray) : zz ByteArray.empty [a,b,c,d] 0 = a ∧ zz ByteArray.empty [a,b,c,d] 1 = b ∧ zz ByteArray.empty [a,b,c,d] 2 = c ∧ zz ByteArray.empty [a,b,c,d] 3 = d := ⟨rfl,rfl,rfl,rfl⟩
theorem zfY (a r : Int) (bs : List S75) (ps : List ByteArray) (x y n : Int) :
  zay.f a r bs ps x y n = some (if zbo a r bs ps x y n = true then (toB (zci a r bs ps x y),0) else ((⟨#[]⟩ : ByteArray),1)) := by
 unfold zay.f
 rw [show zaz.f a r bs ps x y n = some (zbo a r bs ps x y n) from rfl]
 simp only [Option.bind_some]
 by_cases h : zbo a r bs ps x y n = true
 ·rw [if_pos h,if_pos h]
  obtain ⟨h0,h1,h2,h3,h4,h5,h6,h7,h8,h9⟩ := (zcW ..).1 h
  obtain ⟨k1,k2,k3⟩ := (zcV n).1 h0
  obtain ⟨x1,x2,y1,y2⟩ := (ze0 x y).1 h7
  have e1 : zaF.f bs = some (bs.map bB) := if_pos h5
  have e2 : zau.f [a,r,x,y] = some [zbl a.toNat,zbl r.toNat,zbl x.toNat,zbl y.toNat] := by
   rw [zau.f,if_pos]
   ·rfl
   ·refine ⟨Nat.le_refl 4,fun k hk => ?_⟩
    simp only [List.mem_cons,List.not_mem_nil,or_false] at hk
    rcases hk with rfl | rfl | rfl | rfl <;> omega
  have s0 := za4 (v := a.toNat) (by omega)
  have s1 := za4 (v := r.toNat) (by omega)
  have s2 := za4 (v := x.toNat) (by omega)
  have s3 := za4 (v := y.toNat) (by omega)
  have r1 := zhO h5
  have r2 := zhP (zbL h0 h9)
  have d1 : zZ.f (bs.map bB) = some (toB (zck (bs.map bB))) := if_pos (by omega)
  have d2 : zZ.f ps = some (toB (zck ps)) := if_pos (by omega)
  rw [e1,e2]
  simp only [Option.bind_some,d1,d2]
  obtain ⟨q0,q1,q2,q3⟩ := rd_four (zbl a.toNat) (zbl r.toNat) (zbl x.toNat) (zbl y.toNat)
  rw [q0,q1,q2,q3]
  simp only [ByteArray.size_append,zax]
  rw [if_pos (by simp),if_pos (by simp),if_pos (by omega),if_pos (by omega),if_pos (by omega),if_pos (by simp),if_pos (by omega),if_pos (by simp),if_pos (by omega)]
  simp only [zci,zbl,zbb]
 ·rw [if_neg h,if_neg h]
instance decBatch : DecidableEq S75 := fun a b => decidable_of_iff (a.f0 = b.f0 ∧ a.f1 = b.f1 ∧ a.f2 = b.f2) ⟨fun ⟨h0,h1,h2⟩ => by obtain ⟨a0,a1,a2⟩ := a;obtain ⟨b0,b1,b2⟩ := b;simp only at h0 h1 h2;rw [h0,h1,h2],fun h => by rw [h];exact ⟨rfl,rfl,rfl⟩⟩
theorem zdo (l : List S75) (j : Nat) (h : j < l.length) : zO l (j : Int) = l[j] := by
 rw [zO,Int.toNat_natCast,List.getD_eq_getElem?_getD,List.getElem?_eq_getElem h];rfl
theorem zfT (a b : List S75) (hl : a.length = b.length) (hb : a.length < 4611686018427387904) (hs : ∀ x ∈ a,x.f2.length < 4611686018427387904) (d : Nat) : ∀ j,j + d = a.length →
  Ev (fun k => zy.l0 k a b (j : Int)) (decide (a.drop j = b.drop j)) := by
 induction d with
 | zero =>
  intro j hj
  refine Ev.step (fun k => by rw [zy.l0]) ?_
  refine zS (by omega) (zad (Ev.now _) ?_)
  rw [List.drop_eq_nil_of_le (by omega),List.drop_eq_nil_of_le (by omega)];rfl
 | succ d ih =>
  intro j hj
  have ha : j < a.length := by omega
  have hb' : j < b.length := by omega
  refine Ev.step (fun k => by rw [zy.l0]) ?_
  refine zE (by omega) (zE (by omega) (zE (by omega) ?_))
  rw [zdo a j ha,zdo b j hb']
  refine Ev.bind (zfS _ _ _ _ _ _ (hs _ (List.getElem_mem ha))) ?_
  rw [z4 (by omega) (by omega),List.drop_eq_getElem_cons ha,List.drop_eq_getElem_cons hb']
  by_cases e : a[j] = b[j]
  ·refine zE (by rw [e];simp [zhp]) (zad (ih (j + 1) (by omega)) ?_)
   rw [e];exact decide_eq_decide.2 ⟨fun h => by rw [h],fun h => (List.cons.inj h).2⟩
  ·refine zS ?_ (zad (Ev.now _) ?_)
   ·intro hh
    apply e
    obtain ⟨h0,h1,h2⟩ := of_decide_eq_true hh
    generalize a[j] = p at *
    generalize b[j] = q at *
    obtain ⟨p0,p1,p2⟩ := p;obtain ⟨q0,q1,q2⟩ := q
    simp only at h0 h1 h2;rw [h0,h1,h2]
   ·exact (decide_eq_false (fun h => e (List.cons.inj h).1)).symm
theorem zgX (a b : List S75) (hb : a.length < 4611686018427387904) (hs : ∀ x ∈ a,x.f2.length < 4611686018427387904) : Ev (fun k => zy.f k a b) (decide (a = b)) := by
 by_cases h : a.length = b.length
 ·exact zE (by omega) (zfT a b h hb hs a.length 0 (by omega))
 ·refine zS (by omega) (zad (Ev.now _) ?_)
  have : ¬ a = b := fun e => h (by rw [e])
  simp [this]
def zdh (a r : Int) (bs : List S75) (ps : List ByteArray) (x y a' r' : Int) (bs' : List S75) (ps' : List ByteArray) (x' y' : Int) : Bool := decide (a = a' ∧ r = r' ∧ bs = bs' ∧ ps = ps' ∧ x = x' ∧ y = y')
theorem zfs (a r : Int) (bs : List S75) (ps : List ByteArray) (x y a' r' : Int) (bs' : List S75) (ps' : List ByteArray) (x' y' : Int) (hb : bs.length < 4611686018427387904) (hs : ∀ b ∈ bs,b.f2.length < 4611686018427387904) (hp : ps.length < 4611686018427387904) :
  Ev (fun k => zbQ.f k a r bs ps x y a' r' bs' ps' x' y') (zdh a r bs ps x y a' r' bs' ps' x' y') := by
 refine Ev.bind (zgD _ _ hp) (Ev.bind (zgX _ _ hb hs) ?_)
 unfold zdh
 by_cases h1 : ps = ps'
 ·refine zE (by simp [h1]) ?_
  by_cases h2 : bs = bs'
  ·refine zE (by simp [h2]) ?_
   by_cases h3 : a = a'
   ·refine zE h3 ?_
    by_cases h4 : r = r'
    ·refine zE h4 (zad (Ev.now _) ?_)
     by_cases h5 : x = x' <;> by_cases h6 : y = y' <;> simp [h1,h2,h3,h4,h5,h6]
    ·exact zS h4 (zad (Ev.now _) (by simp [h4]))
   ·exact zS h3 (zad (Ev.now _) (by simp [h3]))
  ·exact zS (by simp [h2]) (zad (Ev.now _) (by simp [h2]))
 ·exact zS (by simp [h1]) (zad (Ev.now _) (by simp [h1]))
theorem zdS {a r : Int} {bs : List S75} {ps : List ByteArray} {x y a' r' : Int} {bs' : List S75} {ps' : List ByteArray} {x' y' : Int} : zdh a r bs ps x y a' r' bs' ps' x' y' = true ↔ a = a' ∧ r = r' ∧ bs = bs' ∧ ps = ps' ∧ x = x' ∧ y = y' := by
 rw [zdh,decide_eq_true_iff]
theorem mayV_small {a r : Int} {bs : List S75} {ps : List ByteArray} {x y n : Int} (h : zbo a r bs ps x y n = true) : bs.length < 4611686018427387904 ∧ (∀ b ∈ bs,b.f2.length < 4611686018427387904) ∧ ps.length < 4611686018427387904 := by
 obtain ⟨h0,_,_,_,_,h5,h6,_,_,h9⟩ := (zcW ..).1 h
 refine ⟨by omega,fun b hb => ?_,by have := (zbL h0 h9).1;omega⟩
 obtain ⟨_,_,_,_,_,k,_⟩ := (zd6 _ _ _).1 (any_odd h6 b hb).1
 omega
theorem ziw (o q : Int) (l : List ByteArray) (hl : l.length < 4611686018427387904) (d : Nat) : ∀ j,j + d = l.length →
  Ev (fun k => zt.l0 k (j : Int) o q l) (!(l.drop j).any zcG) := by
 induction d with
 | zero =>
  intro j hj
  refine Ev.step (fun k => by rw [zt.l0]) ?_
  refine zS (by omega) (zad (Ev.now _) ?_)
  rw [List.drop_eq_nil_of_le (by omega)];rfl
 | succ d ih =>
  intro j hj
  have hjl : j < l.length := by omega
  refine Ev.step (fun k => by rw [zt.l0]) ?_
  refine zE (by omega) (zE (by omega) ?_)
  rw [zes l j hjl,List.drop_eq_getElem_cons hjl,z4 (by omega) (by omega),List.any_cons]
  by_cases h1 : (l[j].size : Int) < 1
  ·refine zE h1 (zad (Ev.now _) ?_)
   have : l[j].size = 0 := by omega
   simp [zcG,this]
  ·refine zS h1 ?_
   by_cases h2 : (l[j].size : Int) > 48
   ·refine zE h2 (zad (Ev.now _) ?_)
    have : 48 < l[j].size := by omega
    simp [zcG,this]
   ·refine zS h2 (zad (ih (j + 1) (by omega)) ?_)
    have e1 : zcG l[j] = false := by
     have : ¬ l[j].size = 0 := by omega
     have h3 : ¬ 48 < l[j].size := by omega
     simp [zcG,this,h3]
    rw [e1,Bool.false_or]
theorem zhi (o q : Int) (l : List ByteArray) (hl : l.length < 4611686018427387904) : Ev (fun k => zt.f k o q l) (zd5 o q l) := by
 have key : ∀ b : Bool,(b = true ↔ ¬ (1 ≤ o ∧ o ≤ 64 ∧ 1 ≤ q ∧ q ≤ 1073741824 ∧ 1 ≤ l.length ∧ l.length ≤ 4)) → Ev (fun k => zt.j0 k b o q l) (zd5 o q l) := by
  intro b hb
  refine Ev.step (fun k => by rw [zt.j0]) ?_
  by_cases h : 1 ≤ o ∧ o ≤ 64 ∧ 1 ≤ q ∧ q ≤ 1073741824 ∧ 1 ≤ l.length ∧ l.length ≤ 4
  ·refine zS (fun hh => hb.1 hh h) (zad (ziw o q l hl l.length 0 (by omega)) ?_)
   obtain ⟨h1,h2,h3,h4,h5,h6⟩ := h
   simp [zd5,h1,h2,h3,h4,h5,h6]
  ·refine zE (hb.2 h) (zad (Ev.now _) ?_)
   symm
   rw [← Bool.not_eq_true,zd6]
   exact fun ⟨h1,h2,h3,h4,h5,h6,_⟩ => h ⟨h1,h2,h3,h4,h5,h6⟩
 by_cases h1 : o < 1
 ·exact zE h1 (key true (by simp;omega))
 refine zS h1 ?_
 by_cases h2 : o > 64
 ·exact zE h2 (key true (by simp;omega))
 refine zS h2 ?_
 by_cases h3 : q < 1
 ·exact zE h3 (key true (by simp;omega))
 refine zS h3 ?_
 by_cases h4 : q > 1073741824
 ·exact zE h4 (key true (by simp;omega))
 refine zS h4 ?_
 by_cases h5 : (l.length : Int) < 1
 ·exact zE h5 (key true (by simp;omega))
 exact zS h5 (key _ (by simp;omega))
theorem zdO (n : Int) : zab.f n = some (zcy n) := by
 unfold zab.f zcy
 by_cases h4 : n = 4
 ·subst h4;rfl
 ·rw [if_neg h4]
  by_cases h : n > 4
  ·rw [if_pos h]
   by_cases h1 : n ≤ 64
   ·rw [if_pos h1,z4 (by omega) (by omega),Int.tmod_eq_emod_of_nonneg (by omega)]
    by_cases h2 : n % 3 = 1
    ·have : (n - 1) % 3 = 0 := by omega
     simp [h1,h2,this];omega
    ·have : ¬ (n - 1) % 3 = 0 := by omega
     simp [h2,this]
   ·rw [if_neg h1];simp [h1]
  ·rw [if_neg h]
   have : ¬ 4 ≤ n := by omega
   simp [this]
theorem zfR (n : Int) : zah.f n = some (zbZ n) := by
 unfold zah.f zbZ
 rw [zdO]
 simp only [Option.bind_some]
 by_cases h : zcy n = true
 ·rw [if_pos h,if_pos h]
  obtain ⟨h1,h2,h3⟩ := (zcV n).1 h
  rw [z4 (x := n - 1) (by omega) (by omega),Int.tdiv_eq_ediv_of_nonneg (by omega),z4 (x := (n - 1) / 3) (by omega) (by omega),z4 (by omega) (by omega)]
 ·rw [if_neg h,if_neg h]
theorem zhJ (a b : Int) : zak.f a b = some (zfP a b) := by
 unfold zak.f zfP
 by_cases h1 : 0 ≤ a <;> by_cases h2 : a < 10007 <;> by_cases h3 : 0 ≤ b <;> simp [h1,h2,h3]
theorem zgB (r : Int) : z9.f r = some (zdv r) := by
 unfold z9.f zdv
 by_cases h : r > 0
 ·rw [if_pos h,Int.tmod_eq_emod_of_nonneg (by omega)]
  by_cases h2 : r % 3 = 0
  ·have : 3 ≤ r := by omega
   simp [h2,this]
  ·simp [h2]
 ·rw [if_neg h]
  have : ¬ 3 ≤ r := by omega
  simp [this]
def zfv (r x y : Int) : Bool := zfP x y && (zdv r || (decide (x = 0) && decide (y = 0)))
theorem refVMay_l1 (a r : Int) (bs : List S75) (ps : List ByteArray) (x y : Int) (hl : ps.length < 4611686018427387904) (hp : ∀ t ∈ ps,t.size < 4611686018427387904) (d : Nat) : ∀ j,j + d = ps.length →
  Ev (fun k => zj.l1 k (j : Int) a r bs ps x y) (zbf ps d j && zfv r x y) := by
 induction d with
 | zero =>
  intro j hj
  refine Ev.step (fun k => by rw [zj.l1]) ?_
  refine zS (by omega) (zaw (zhJ x y) (zaw (zgB r) ?_))
  unfold zfv
  by_cases h1 : zfP x y = true
  ·refine zE h1 ?_
   by_cases h2 : zdv r = true
   ·exact zE h2 (zad (Ev.now _) (by simp [zbf,h1,h2]))
   ·refine zS h2 ?_
    by_cases h3 : x = 0
    ·refine zE h3 (zad (Ev.now _) ?_)
     rw [Bool.not_eq_true] at h2
     subst h3
     by_cases h4 : y = 0
     ·subst h4;simp [zbf,h1,h2]
     ·simp [zbf,h1,h2,h4]
    ·rw [Bool.not_eq_true] at h2
     exact zS h3 (zad (Ev.now _) (by simp [zbf,h2,h3]))
  ·rw [Bool.not_eq_true] at h1
   exact zS (by rw [h1];simp) (zad (Ev.now _) (by simp [zbf,h1]))
 | succ d ih =>
  intro j hj
  have hj' : j < ps.length := by omega
  refine Ev.step (fun k => by rw [zj.l1]) ?_
  refine zE (by omega) (zE (by omega) ?_)
  have e1 : zz ByteArray.empty ps (j : Int) = ps.getD j ByteArray.empty := by rw [zz,Int.toNat_natCast]
  rw [e1]
  by_cases h : (ps.getD j ByteArray.empty).size = 32
  ·refine zE (by omega) ?_
   rw [z4 (x := (j : Int) + 1) (by omega) (by omega)]
   by_cases h0 : j = 0
   ·subst h0
    refine zS (by omega) (zad (ih 1 (by omega)) ?_)
    simp only [zbf,zg0,h];simp
   ·refine zE (by omega) ?_
    have e2 : wrap64 ((j : Int) - 1) = ((j - 1 : Nat) : Int) := by rw [z4 (by omega) (by omega)];omega
    rw [e2]
    refine zE (by omega) (zE (by omega) ?_)
    have e3 : zz ByteArray.empty ps ((j - 1 : Nat) : Int) = ps.getD (j - 1) ByteArray.empty := by rw [zz,Int.toNat_natCast]
    rw [e3]
    have hsz : (ps.getD (j - 1) ByteArray.empty).size < 4611686018427387904 := by
     rw [List.getD_eq_getElem?_getD,List.getElem?_eq_getElem (show j - 1 < ps.length by omega)]
     exact hp _ (List.getElem_mem _)
    refine Ev.bind (less_ev _ _ hsz) ?_
    by_cases h2 : zd4 (ofB (ps.getD (j - 1) ByteArray.empty)) (ofB (ps.getD j ByteArray.empty)) = true
    ·refine zE h2 (zad (ih (j + 1) (by omega)) ?_)
     simp only [zbf,zg0,h,h2];simp
    ·refine zS h2 (zad (Ev.now _) ?_)
     rw [Bool.not_eq_true] at h2
     simp only [zbf,zg0,h,h0,h2];simp
  ·refine zS (by omega) (zad (Ev.now _) ?_)
   simp only [zbf,zg0,h];simp
def zf5 (r : Int) (ps : List ByteArray) (x y n : Int) : Bool :=
 !(decide (r = 1) && decide (0 < ps.length)) && !(decide (1 < r) && (decide ((ps.length : Int) < zbZ n) || decide (n < ps.length))) && (zbf ps ps.length 0 && zfv r x y)
theorem refVMay_l0 (a r : Int) (bs : List S75) (ps : List ByteArray) (x y n : Int) (hb : bs.length < 4611686018427387904) (hbs : ∀ b ∈ bs,b.f2.length < 4611686018427387904) (hl : ps.length < 4611686018427387904) (hp : ∀ t ∈ ps,t.size < 4611686018427387904) (d : Nat) : ∀ j,j + d = bs.length →
  Ev (fun k => zj.l0 k n (j : Int) a r bs ps x y) (!(bs.drop j).any (zdi n) && zf5 r ps x y n) := by
 induction d with
 | zero =>
  intro j hj
  refine Ev.step (fun k => by rw [zj.l0]) ?_
  rw [List.drop_eq_nil_of_le (by omega)]
  refine zS (by omega) ?_
  have J3 : ∀ b : Bool,Ev (fun k => zj.j3 k b a r bs ps x y) (!b && (zbf ps ps.length 0 && zfv r x y)) := by
   intro b
   refine Ev.step (fun k => by rw [zj.j3]) ?_
   rcases b with _ | _
   ·exact zS (by simp) (zad (refVMay_l1 a r bs ps x y hl hp ps.length 0 (by omega)) (by simp))
   ·exact zE rfl (zad (Ev.now _) (by simp))
  have J2 : ∀ b : Bool,Ev (fun k => zj.j2 k n b a r bs ps x y) (!b && (!(decide (1 < r) && (decide ((ps.length : Int) < zbZ n) || decide (n < ps.length))) && (zbf ps ps.length 0 && zfv r x y))) := by
   intro b
   refine Ev.step (fun k => by rw [zj.j2]) ?_
   rcases b with _ | _
   ·refine zS (by simp) ?_
    by_cases h : r > 1
    ·have h' : 1 < r := h
     refine zE h (zaw (zfR n) ?_)
     by_cases h2 : (ps.length : Int) < zbZ n
     ·exact zE h2 (zad (J3 true) (by simp [h',h2]))
     ·exact zS h2 (zad (J3 _) (by simp [h',h2]))
    ·have h' : ¬ 1 < r := h
     exact zS h (zad (J3 false) (by simp [h']))
   ·exact zE rfl (zad (Ev.now _) (by simp))
  unfold zf5
  by_cases h : r = 1
  ·refine zE h (zad (J2 _) ?_)
   subst h
   by_cases h0 : 0 < ps.length
   ·have : decide ((ps.length : Int) > 0) = true := decide_eq_true (by omega)
    simp [this,h0]
   ·have : decide ((ps.length : Int) > 0) = false := decide_eq_false (by omega)
    simp [this,h0]
  ·exact zS h (zad (J2 false) (by simp [h]))
 | succ d ih =>
  intro j hj
  have hj' : j < bs.length := by omega
  refine Ev.step (fun k => by rw [zj.l0]) ?_
  refine zE (by omega) (zE (by omega) ?_)
  rw [zdo bs j hj',z4 (by omega) (by omega),List.drop_eq_getElem_cons hj',List.any_cons]
  refine Ev.bind (zhi _ _ _ (hbs _ (List.getElem_mem hj'))) ?_
  by_cases h : zd5 bs[j].f0 bs[j].f1 bs[j].f2 = true
  ·refine zE h ?_
   by_cases h2 : bs[j].f0 > n
   ·have h3 : n < bs[j].f0 := h2
    exact zE h2 (zad (Ev.now _) (by simp [zdi,h3]))
   ·have h3 : ¬ n < bs[j].f0 := h2
    refine zS h2 (zad (ih (j + 1) (by omega)) ?_)
    have : zdi n bs[j] = false := by simp [zdi,h,h3]
    rw [this,Bool.false_or]
  ·refine zS h (zad (Ev.now _) ?_)
   rw [Bool.not_eq_true] at h
   simp [zdi,h]
theorem mayV_ref (a r : Int) (bs : List S75) (ps : List ByteArray) (x y n : Int) (h0 : zcy n = true) (h1 : 1 ≤ a) (h2 : a ≤ n) (h3 : 1 ≤ r) (h4 : r ≤ 1048576) (h5 : bs.length ≤ 4) :
  zbo a r bs ps x y n = (!bs.any (zdi n) && zf5 r ps x y n) := by
 unfold zbo zf5 zb4 zfv
 simp only [h0,h1,h2,h3,h4,h5]
 by_cases e : r = 1
 ·subst e
  rcases ps with _ | ⟨p,ps⟩
  ·simp [zbf,Bool.and_assoc]
  ·simp
 ·have h6 : 1 < r := by omega
  simp only [if_neg e,e,h6]
  have q1 : decide ((ps.length : Int) < zbZ n) = !decide (zbZ n ≤ (ps.length : Int)) := by
   by_cases q : zbZ n ≤ (ps.length : Int) <;> simp [q] <;> omega
  have q2 : decide (n < (ps.length : Int)) = !decide ((ps.length : Int) ≤ n) := by
   by_cases q : (ps.length : Int) ≤ n <;> simp [q] <;> omega
  rw [q1,q2]
  cases bs.any (zdi n) <;> cases zfP x y <;> cases zdv r <;> cases zbf ps ps.length 0 <;> cases decide (zbZ n ≤ (ps.length : Int)) <;> cases decide ((ps.length : Int) ≤ n) <;> simp
theorem refVMay_ev (a r : Int) (bs : List S75) (ps : List ByteArray) (x y n : Int) (hb : bs.length < 4611686018427387904) (hbs : ∀ b ∈ bs,b.f2.length < 4611686018427387904) (hl : ps.length < 4611686018427387904) (hp : ∀ t ∈ ps,t.size < 4611686018427387904) :
  Ev (fun k => zj.f k a r bs ps x y n) (zbo a r bs ps x y n) := by
 have key : ∀ b : Bool,(b = true ↔ ¬ (zcy n = true ∧ 1 ≤ a ∧ a ≤ n ∧ 1 ≤ r ∧ r ≤ 1048576 ∧ bs.length ≤ 4)) → Ev (fun k => zj.j0 k n b a r bs ps x y) (zbo a r bs ps x y n) := by
  intro b hb'
  refine Ev.step (fun k => by rw [zj.j0]) ?_
  by_cases h : zcy n = true ∧ 1 ≤ a ∧ a ≤ n ∧ 1 ≤ r ∧ r ≤ 1048576 ∧ bs.length ≤ 4
  ·refine zS (fun hh => hb'.1 hh h) (zad (refVMay_l0 a r bs ps x y n hb hbs hl hp bs.length 0 (by omega)) ?_)
   obtain ⟨h0,h1,h2,h3,h4,h5⟩ := h
   rw [mayV_ref a r bs ps x y n h0 h1 h2 h3 h4 h5,List.drop_zero]
  ·refine zE (hb'.2 h) (zad (Ev.now _) ?_)
   symm
   rw [← Bool.not_eq_true,zcW]
   exact fun ⟨h0,h1,h2,h3,h4,h5,_⟩ => h ⟨h0,h1,h2,h3,h4,h5⟩
 refine zaw (zdO n) ?_
 by_cases h0 : zcy n = true
 ·refine zE h0 ?_
  by_cases h1 : a < 1
  ·exact zE h1 (key true (by simp;omega))
  refine zS h1 ?_
  by_cases h2 : a > n
  ·exact zE h2 (key true (by simp;omega))
  refine zS h2 ?_
  by_cases h3 : r < 1
  ·exact zE h3 (key true (by simp;omega))
  refine zS h3 ?_
  by_cases h4 : r > 1048576
  ·exact zE h4 (key true (by simp;omega))
  exact zS h4 (key _ (by simp [h0];omega))
 ·exact zS h0 (key true (by simp [h0]))
theorem zcK {x : Int} (h0 : 0 ≤ x) (h1 : x < 9223372036854775808) : Ev (fun k => zr.f k (IntKind.u64.wrap x)) (zbl x.toNat) := by
 obtain ⟨n,rfl⟩ := Int.eq_ofNat_of_zero_le h0
 rw [zb6 (by omega) (by omega),Int.toNat_natCast]
 exact zfr n (by omega)
def zhq (o q : Int) (l : List ByteArray) : ByteArray × Int := if zd5 o q l = true then (toB (zfg o q l),0) else ((⟨#[]⟩ : ByteArray),1)
theorem zfq (o q : Int) (l : List ByteArray) (hl : l.length < 4611686018427387904) : Ev (fun k => zac.f k o q l) (zhq o q l) := by
 refine Ev.bind (zhi _ _ _ hl) ?_
 unfold zhq
 by_cases h : zd5 o q l = true
 ·rw [if_pos h]
  obtain ⟨h1,h2,h3,h4,h5,h6,h7⟩ := (zd6 o q l).1 h
  have r1 := zeg l 48 (by omega) (fun t ht => (h7 t ht).2)
  have r2 := zaU (v := l.length) (by omega)
  have r3 : (zck l).length ≤ 300 := by rw [zck,List.length_append];omega
  have n1 := za4 (v := o.toNat) (by omega)
  have n2 := za4 (v := q.toNat) (by omega)
  have r4 : zL.f l = some (toB (zck l)) := if_pos (by omega)
  refine zE h (Ev.bind (zcK (by omega) (by omega)) (Ev.bind (zcK (by omega) (by omega)) (zE (by omega) (zaw r4 (zE (by rw [ByteArray.size_append,zax];omega) (zad (Ev.now _) ?_))))))
  rw [zfg,zbb,zbb];rfl
 ·rw [if_neg h];exact zS h (Ev.now _)
theorem ziQ (b : S75) : (zhq b.f0 b.f1 b.f2).1 = bB b := by
 unfold zhq bB;split <;> rfl
def zhY (a r : Int) (bs : List S75) (ps : List ByteArray) (x y n : Int) : ByteArray × Int := if zbo a r bs ps x y n = true then (toB (zci a r bs ps x y),0) else ((⟨#[]⟩ : ByteArray),1)
theorem zhL {a r : Int} {bs : List S75} {ps : List ByteArray} {x y n : Int} (h : zbo a r bs ps x y n = true) (d : Nat) : ∀ j,j + d = bs.length →
  Ev (fun k => zu.l0 k ((bs.take j).map bB) (j : Int) a r bs ps x y) (toB (zci a r bs ps x y),0) := by
 obtain ⟨h0,h1,h2,h3,h4,h5,h6,h7,h8,h9⟩ := (zcW ..).1 h
 obtain ⟨k1,k2,k3⟩ := (zcV n).1 h0
 obtain ⟨x1,x2,y1,y2⟩ := (ze0 x y).1 h7
 induction d with
 | zero =>
  intro j hj
  refine Ev.step (fun k => by rw [zu.l0]) ?_
  rw [List.take_of_length_le (by omega)]
  have s0 := za4 (v := a.toNat) (by omega)
  have s1 := za4 (v := r.toNat) (by omega)
  have s2 := za4 (v := x.toNat) (by omega)
  have s3 := za4 (v := y.toNat) (by omega)
  have r1 := zhO h5
  have r2 := zhP (zbL h0 h9)
  have d1 : zL.f (bs.map bB) = some (toB (zck (bs.map bB))) := if_pos (by omega)
  have d2 : zL.f ps = some (toB (zck ps)) := if_pos (by omega)
  refine zS (by omega) (Ev.bind (zcK (by omega) (by omega)) (Ev.bind (zcK (by omega) (by omega)) (zE (by omega) (zaw d1 (zE (by simp only [ByteArray.size_append,zax];omega) (zaw d2 (zE (by simp only [ByteArray.size_append,zax];omega)
   (Ev.bind (zcK (by omega) (by omega)) (zE (by simp only [ByteArray.size_append,zax];omega) (Ev.bind (zcK (by omega) (by omega)) (zE (by simp only [ByteArray.size_append,zax];omega) (zad (Ev.now _) ?_))))))))))))
  simp only [zci,zbl,zbb]
 | succ d ih =>
  intro j hj
  have hj' : j < bs.length := by omega
  refine Ev.step (fun k => by rw [zu.l0]) ?_
  refine zE (by omega) (zE (by omega) ?_)
  rw [zdo bs j hj',z4 (by omega) (by omega)]
  have hl := (mayV_small h).2.1 _ (List.getElem_mem hj')
  refine Ev.bind (zfq _ _ _ hl) (zE (by rw [List.length_map,List.length_take];omega) ?_)
  rw [ziQ]
  have e : (bs.take j).map bB ++ [bB bs[j]] = (bs.take (j + 1)).map bB := by
   rw [List.take_succ_eq_append_getElem hj',List.map_append];rfl
  rw [e]
  exact ih (j + 1) (by omega)
theorem ze7 (a r : Int) (bs : List S75) (ps : List ByteArray) (x y n : Int) (hb : bs.length < 4611686018427387904) (hbs : ∀ b ∈ bs,b.f2.length < 4611686018427387904) (hl : ps.length < 4611686018427387904) (hp : ∀ t ∈ ps,t.size < 4611686018427387904) :
  Ev (fun k => zu.f k a r bs ps x y n) (zhY a r bs ps x y n) := by
 refine Ev.bind (refVMay_ev a r bs ps x y n hb hbs hl hp) ?_
 unfold zhY
 by_cases h : zbo a r bs ps x y n = true
 ·rw [if_pos h]
  exact zE h (zad (zhL h bs.length 0 (by omega)) rfl)
 ·rw [if_neg h];exact zS h (Ev.now _)
theorem sha_Sum_of {s : ByteArray} (h : s.size ≤ 10000) : zcO.f s = some (zgH s) := by rw [zcO.f,if_pos (by omega)]
theorem refSum_of {s : ByteArray} (h : s.size ≤ 10000) : zaH.f s = some (zgH s) := by rw [zaH.f,if_pos (by omega)]
theorem zis (b : UInt8) (s : ByteArray) : ((⟨#[b]⟩ : ByteArray) ++ s).size = 1 + s.size := by rw [ByteArray.size_append];rfl
theorem zfb {a r : Int} {bs : List S75} {ps : List ByteArray} {x y n : Int} (h : zbo a r bs ps x y n = true) : (toB (zci a r bs ps x y)).size ≤ 5000 := by
 obtain ⟨h0,h1,h2,h3,h4,h5,h6,h7,h8,h9⟩ := (zcW ..).1 h
 obtain ⟨k1,k2,k3⟩ := (zcV n).1 h0
 obtain ⟨x1,x2,y1,y2⟩ := (ze0 x y).1 h7
 have r1 := zhO (bs := bs) (by omega)
 have r2 := zhP (zbL h0 h9)
 have r3 := zaU (v := a.toNat) (by omega)
 have r4 := zaU (v := r.toNat) (by omega)
 have r5 := zaU (v := x.toNat) (by omega)
 have r6 := zaU (v := y.toNat) (by omega)
 rw [zax,zci]
 simp only [List.length_append]
 omega
def z6 (a r : Int) (bs : List S75) (ps : List ByteArray) (x y n : Int) : ByteArray × Int := if zbo a r bs ps x y n = true then (zgH ((⟨#[118]⟩ : ByteArray) ++ toB (zci a r bs ps x y)),0) else ((⟨#[]⟩ : ByteArray),1)
theorem zdG (a r : Int) (bs : List S75) (ps : List ByteArray) (x y n : Int) : za1.f a r bs ps x y n = some (z6 a r bs ps x y n) := by
 unfold za1.f z6
 rw [zfY]
 simp only [Option.bind_some]
 by_cases h : zbo a r bs ps x y n = true
 ·have hs := zfb h
  rw [if_pos h,if_pos h,if_pos rfl,if_pos (by show 1 + (toB (zci a r bs ps x y)).size ≤ _;omega)]
  show (zcO.f ((⟨#[118]⟩ : ByteArray) ++ toB (zci a r bs ps x y))).bind _ = _
  rw [sha_Sum_of (by rw [zis];omega)]
  rfl
 ·rw [if_neg h,if_neg h,if_neg (by simp)]
theorem zeR (a r : Int) (bs : List S75) (ps : List ByteArray) (x y n : Int) (hb : bs.length < 4611686018427387904) (hbs : ∀ b ∈ bs,b.f2.length < 4611686018427387904) (hl : ps.length < 4611686018427387904) (hp : ∀ t ∈ ps,t.size < 4611686018427387904) :
  Ev (fun k => zaV.f k a r bs ps x y n) (z6 a r bs ps x y n) := by
 unfold zaV.f
 refine Ev.bind (ze7 a r bs ps x y n hb hbs hl hp) ?_
 unfold zhY z6
 by_cases h : zbo a r bs ps x y n = true
 ·have hs := zfb h
  rw [if_pos h,if_pos h]
  refine zE rfl (zE (by show 1 + (toB (zci a r bs ps x y)).size ≤ _;omega) ?_)
  refine zaw (refSum_of (s := (⟨#[118]⟩ : ByteArray) ++ toB (zci a r bs ps x y)) (by rw [zis];omega)) ?_
  exact Ev.now _
 ·rw [if_neg h,if_neg h]
  exact zS (by simp) (Ev.now _)
abbrev Ent := S39
abbrev Vtx := S35
abbrev TE := ByteArray × Int × Int × List S75 × List ByteArray × Int × Int × Bool
def zbr (L : List Ent) (low r : Int) (ps : List ByteArray) : List ByteArray := if wrap64 (r - 1) ≤ low then [] else ps.filter fun p => !L.any fun x => decide (x.f1.f1 = wrap64 (r - 1) ∧ x.f0 = p)
def tupE (x : Ent) : TE := (x.f0,x.f1.f0,x.f1.f1,x.f1.f2,x.f1.f3,x.f1.f4.f0,x.f1.f4.f1,true)
def noE : TE := ((⟨#[]⟩ : ByteArray),0,0,[],[],0,0,false)
def zda (L : List Ent) (g : ByteArray) : Option Ent := L.find? fun x => decide (x.f0 = g)
def byE (L : List Ent) (a r : Int) : Option Ent := L.find? fun x => decide (x.f1.f0 = a ∧ x.f1.f1 = r)
def zgl (o : Option Ent) : TE := match o with | some x => tupE x | none => noE
def zbd (a r a' r' : Int) : Bool := decide (r < r' ∨ r = r' ∧ a < a')
def zea (L : List Ent) (x : Ent) : List Ent := match L with
 | [] => [x]
 | y :: L => if zbd x.f1.f0 x.f1.f1 y.f1.f0 y.f1.f1 = true then x :: y :: L else y :: zea L x
def zfZ (n low : Int) (L : List Ent) (a r : Int) (bs : List S75) (ps : List ByteArray) (x y : Int) : Int :=
 if (z6 a r bs ps x y n).2 ≠ 0 then (z6 a r bs ps x y n).2
 else if r ≤ low then 9
 else if (zda L (z6 a r bs ps x y n).1).isSome then 8
 else if (byE L a r).isSome then 13
 else if 0 < (zbr L low r ps).length then 11
 else 0
def addE (n low : Int) (L : List Ent) (a r : Int) (bs : List S75) (ps : List ByteArray) (x y : Int) : List Ent :=
 if zfZ n low L a r bs ps x y = 0 then zea L ⟨(z6 a r bs ps x y n).1,⟨a,r,bs,ps,⟨x,y⟩⟩⟩ else L
def zc9 (L : List Ent) (low : Int) : List Ent := L.filter fun x => decide (low < x.f1.f1)
def okE (n low : Int) (L : List Ent) (i : Nat) (x : Ent) : Bool :=
 (decide ((z6 x.f1.f0 x.f1.f1 x.f1.f2 x.f1.f3 x.f1.f4.f0 x.f1.f4.f1 n).2 = 0) && decide ((z6 x.f1.f0 x.f1.f1 x.f1.f2 x.f1.f3 x.f1.f4.f0 x.f1.f4.f1 n).1 = x.f0) && decide (low < x.f1.f1) && decide ((zbr L low x.f1.f1 x.f1.f3).length = 0)) && (decide (i = 0) || zbd (L.getD (i - 1) z39).f1.f0 (L.getD (i - 1) z39).f1.f1 x.f1.f0 x.f1.f1)
def zbO (n low : Int) (L : List Ent) : Bool := zcy n && decide (0 ≤ low) && (List.range L.length).all fun i => okE n low L i (L.getD i z39)
theorem ent_at {W : World} {base : Nat} {ok : Nat → Prop} {A : Option Addr} {n c : Nat} {L : List Ent} (h : Kd.V k39 39 W base ok (.slice A n c) L) (k : Nat) (hk : k < n) (x : Ent) (hx : L[k]? = some x) :
  ∃ ad A3 c3 A4 c4,A = some ad ∧ W.cell? (ad.add (k * 7)) = some (.string x.f0) ∧ W.cell? ⟨(ad.add (k * 7)).block,(ad.add (k * 7)).off + 1,none⟩ = some (.int .i64 x.f1.f0) ∧ W.cell? ⟨(ad.add (k * 7)).block,(ad.add (k * 7)).off + 2,none⟩ = some (.int .i64 x.f1.f1) ∧ W.cell? ⟨(ad.add (k * 7)).block,(ad.add (k * 7)).off + 3,none⟩ = some (.slice A3 x.f1.f2.length c3) ∧ W.cell? ⟨(ad.add (k * 7)).block,(ad.add (k * 7)).off + 4,none⟩ = some (.slice A4 x.f1.f3.length c4) ∧ W.cell? ⟨(ad.add (k * 7)).block,(ad.add (k * 7)).off + 5,none⟩ = some (.int .i64 x.f1.f4.f0) ∧ W.cell? ⟨(ad.add (k * 7)).block,(ad.add (k * 7)).off + 6,none⟩ = some (.int .i64 x.f1.f4.f1) ∧
   Kd.V k75 75 W base ok (.slice A3 x.f1.f2.length c3) x.f1.f2 ∧ Kd.V Kd.string 9 W base ok (.slice A4 x.f1.f3.length c4) x.f1.f3 := by
 obtain rfl := (Kd.V_reads' h).1
 obtain ⟨ad,_,_,_,_,rfl,_⟩ := zbe (Kd.V_reads' h).2.2 (k : Int) (by omega) (by omega)
 obtain ⟨cs,_,hF,hc0⟩ := Kd.V_get h z39 (k : Int) (by omega) (by omega)
 rw [List.getD_eq_getElem?_getD,Int.toNat_natCast,hx] at hF
 have hc : ∀ j u,cs[j]? = some u → W.cell? (ad.add (k * 7 + j)) = some u := fun j u hj => by have := hc0 j u hj;rwa [Int.toNat_natCast] at this
 obtain ⟨A3,c3,A4,c4,rfl,l3,g3,l4,g4⟩ := zaN hF
 exact ⟨ad,A3,c3,A4,c4,rfl,hc 0 _ rfl,by rw [← zM _ _ 1 (by omega)];exact hc 1 _ rfl,by rw [← zM _ _ 2 (by omega)];exact hc 2 _ rfl,by rw [← zM _ _ 3 (by omega)];exact hc 3 _ rfl,by rw [← zM _ _ 4 (by omega)];exact hc 4 _ rfl,by rw [← zM _ _ 5 (by omega)];exact hc 5 _ rfl,by rw [← zM _ _ 6 (by omega)];exact hc 6 _ rfl,Kd.V_mk l3 g3,Kd.V_mk l4 g4⟩
theorem zg9 {α : Type} (p : α → Bool) (l : List α) : (∃ (i : Nat) (x : α),i < l.length ∧ l[i]? = some x ∧ l.find? p = some x ∧ zcT p l = i) ∨ (l.find? p = none ∧ zcT p l = -1) := by
 rw [zcT]
 rcases h : l.findIdx? p with _ | i
 ·right
  rw [List.findIdx?_eq_none_iff] at h
  exact ⟨List.find?_eq_none.2 (fun x hx => by simp [h x hx]),rfl⟩
 ·left
  rw [List.findIdx?_eq_some_iff_getElem] at h
  obtain ⟨hi,hp,hn⟩ := h
  refine ⟨i,l[i],hi,List.getElem?_eq_getElem hi,?_,rfl⟩
  rw [List.find?_eq_some_iff_getElem]
  exact ⟨hp,i,hi,rfl,fun j hj => by simpa using hn j hj⟩
set_option maxHeartbeats 4000000 in
set_option maxRecDepth 100000 in
theorem zfh.walk (a r : Int) (A2 : Option Addr) (n2 c2 : Nat) (A3 : Option Addr) (n3 c3 : Nat) (x y a' r' : Int) (B2 : Option Addr) (m2 d2 : Nat) (B3 : Option Addr) (m3 d3 : Nat) (x' y' : Int) (w : World) :
  Calls Tryz.prog 17 #[.agg #[.int .i64 a,.int .i64 r,.slice A2 n2 c2,.slice A3 n3 c3,.int .i64 x,.int .i64 y],.agg #[.int .i64 a',.int .i64 r',.slice B2 m2 d2,.slice B3 m3 d3,.int .i64 x',.int .i64 y']] w fun e w' => e = .returned (.bool (zbd a r a' r')) ∧ Below w.heap.size w w' := by
 by_cases h1 : r < r'
 ·have HP : za (zbd a r a' r' = true) := ⟨decide_eq_true (.inl h1)⟩
  have d1 : decide (r < r') = true := decide_eq_true h1
  clear h1
  go_enter Tryz.func17,Tryz.ntmps17
  go_wp2
  go_ret
  exact ⟨by rw [HP.out];rfl,zl (zl (Below.refl _ _) _) _⟩
 ·have d1 : decide (r < r') = false := decide_eq_false h1
  by_cases h2 : r = r'
  ·have d2 : (r == r') = true := beq_iff_eq.2 h2
   have HP : za (zbd a r a' r' = decide (a < a')) := ⟨by unfold zbd;rw [Bool.eq_iff_iff,decide_eq_true_eq,decide_eq_true_eq];omega⟩
   clear h1 h2
   go_enter Tryz.func17,Tryz.ntmps17
   go_wp2
   go_ret
   exact ⟨by rw [HP.out];rfl,zl (zl (Below.refl _ _) _) _⟩
  ·have d2 : (r == r') = false := beq_eq_false_iff_ne.2 h2
   have HP : za (zbd a r a' r' = false) := ⟨decide_eq_false (by omega)⟩
   clear h1 h2
   go_enter Tryz.func17,Tryz.ntmps17
   go_wp2
   go_ret
   exact ⟨by rw [HP.out];rfl,zl (zl (Below.refl _ _) _) _⟩
end Go.Proofs.YtndjfdakflaggaaGreat.Px