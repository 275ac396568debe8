/- Part 24 of 30 of the proof of the law CertBack: what is proved is the statement at the end of the last part; its conditions are those of the given row. -/
import Derived.Test.YtgdpiegkoeikiaaZCertBackQ
import Derived.Test.YtgdpiegkoeikiaaZCertBackS
import Derived.Test.YtgdpiegkoeikiaaZCertBackW
namespace Go.Proofs.Ytgdpiegkoeikiaa.Px
open Go.RowKit Go.Proofs.YtgdpiegkoeikiaaW.PrintWords Go.Proofs.YtgdpiegkoeikiaaW.PrintLast Go.Proofs.YtgdpiegkoeikiaaW.PrintMore
attribute [local go_sem] zx zz zJ zK zn zo zy zA
set_option linter.unusedVariables false
set_option linter.unusedSimpArgs false
def zaT.f (k : Nat) (a0_0 : Int) (a0_1 : Int) (l0_2 : List (zW)) (l0_3 : List ByteArray) (a0_4 : Int) (a0_5 : Int) (a1 : Int) : Option (ByteArray × Int) := (zv.f k a0_0 a0_1 l0_2 l0_3 a0_4 a0_5 a1).bind fun bt425 => (if bt425.2 = 0 then (if 1 + bt425.1.size ≤ 9223372036854775807 then ((zaP.f ((⟨#[118]⟩ : ByteArray) ++ bt425.1)).bind fun t427 => (some (t427,0))) else (none)) else (some ((⟨#[]⟩ : ByteArray),bt425.2)))
set_option maxHeartbeats 8000000 in
set_option maxRecDepth 100000 in
theorem zaT.calls (k : Nat) (a0_0 : Int) (a0_1 : Int) (A0_2 : Option Addr) (c0_2 : Nat) (l0_2 : List (zW)) (A0_3 : Option Addr) (c0_3 : Nat) (l0_3 : List ByteArray) (a0_4 : Int) (a0_5 : Int) (a1 : Int) (r1 : ByteArray) (r2 : Int) (w : World) (hr0_2 : Kd.C zb0 w A0_2 l0_2.length l0_2) (hc0_2 : l0_2.length ≤ c0_2) (hr0_3 : Kd.C Kd.string w A0_3 l0_3.length l0_3) (hc0_3 : l0_3.length ≤ c0_3) (h : zaT.f k a0_0 a0_1 l0_2 l0_3 a0_4 a0_5 a1 = some (r1,r2)) :
  Calls Try.prog 45 #[.agg #[.int .i64 a0_0,.int .i64 a0_1,.slice A0_2 l0_2.length c0_2,.slice A0_3 l0_3.length c0_3,.int .i64 a0_4,.int .i64 a0_5],.int .i64 a1] w fun e w' => e = .returned (.tuple #[.string r1,.int .i64 r2]) ∧ Below w.heap.size w w' := by
 have hu28 := Try.underlying28
 have HR0_2 := zc.mk hr0_2
 have HC0_2 := zc.mk hc0_2
 clear hr0_2 hc0_2
 have HR0_3 := zc.mk hr0_3
 have HC0_3 := zc.mk hc0_3
 clear hr0_3 hc0_3
 have HB := zc.mk (Below.refl w.heap.size w)
 have H : ((zv.f k a0_0 a0_1 l0_2 l0_3 a0_4 a0_5 a1).bind fun bt425 => (if bt425.2 = 0 then (if 1 + bt425.1.size ≤ 9223372036854775807 then ((zaP.f ((⟨#[118]⟩ : ByteArray) ++ bt425.1)).bind fun t427 => (some (t427,0))) else (none)) else (some ((⟨#[]⟩ : ByteArray),bt425.2)))) = some (r1,r2) := h
 clear h
 replace H := Option.bind_eq_some_iff.mp H
 obtain ⟨⟨t425,t426⟩,A30,H⟩ := H
 replace H : (if t426 = 0 then (if 1 + t425.size ≤ 9223372036854775807 then ((zaP.f ((⟨#[118]⟩ : ByteArray) ++ t425)).bind fun t427 => (some (t427,0))) else (none)) else (some ((⟨#[]⟩ : ByteArray),t426))) = some (r1,r2) := H
 have A3 := zc.mk A30
 clear A30
 by_cases c4 : t426 = 0
 ·rw [if_pos c4] at H
  have c4b0 : (t426 == 0) = true := beq_iff_eq.mpr c4
  have c4b1 : (t426 != 0) = false := bne_eq_false_iff_eq.mpr c4
  clear c4
  by_cases c5 : 1 + t425.size ≤ 9223372036854775807
  ·rw [if_pos c5] at H
   have c5b0 := eq_true c5
   have c5b1 : decide (1 + t425.size ≤ 9223372036854775807) = true := decide_eq_true c5
   try have c5b2 : (9223372036854775807 < 1 + t425.size) = False := eq_false (Nat.not_lt.2 c5)
   replace H := Option.bind_eq_some_iff.mp H
   obtain ⟨t427,A60,H⟩ := H
   replace H : (some (t427,0)) = some (r1,r2) := H
   have A6 := zc.mk A60
   clear A60
   simp only [Option.some.injEq,Prod.mk.injEq] at H
   obtain ⟨rfl,rfl⟩ := H
   go_enter Try.func45,Try.ntmps45
   go_wp2_with (first | ((with_reducible refine zD (N := 2) rfl ?_);refine zq ?hg (N := 2) ?hd (cs := #[.int .i64 a0_0,.int .i64 a0_1,.slice A0_2 l0_2.length c0_2,.slice A0_3 l0_3.length c0_3,.int .i64 a0_4,.int .i64 a0_5]) (t := 28) ?hr ?_;(case hd => rfl);(case hg => rfl);(case hr => first | (go_simp;done) | (go_simp;rfl));intro gb424 hg w7 hbox hb;have n0_ := zc.mk (zg hBq hb);have n1_ := zc.mk (hbox);have n2_ := zc.mk ((by rw [hg];exact (zj hBq) : w.heap.size ≤ gb424));have n3_ := zc.mk ((by rw [hg];exact (zj hBq) : w.heap.size ≤ gb424));clear HB;have HB := n0_;have BK424 := n1_;have GW424 := n2_;have GE424 := n3_;clear n0_ n1_ n2_ n3_;clear hb hbox hg;have hcz8_0 : w7.cell? ⟨gb424,0,none⟩ = some (.int .i64 a0_0) := (zb BK424.out 0).trans rfl;have hcz8_1 : w7.cell? ⟨gb424,1,none⟩ = some (.int .i64 a0_1) := (zb BK424.out 1).trans rfl;have hcz8_2 : w7.cell? ⟨gb424,2,none⟩ = some (.slice A0_2 l0_2.length c0_2) := (zb BK424.out 2).trans rfl;have hcz8_3 : w7.cell? ⟨gb424,3,none⟩ = some (.slice A0_3 l0_3.length c0_3) := (zb BK424.out 3).trans rfl;have hcz8_4 : w7.cell? ⟨gb424,4,none⟩ = some (.int .i64 a0_4) := (zb BK424.out 4).trans rfl;have hcz8_5 : w7.cell? ⟨gb424,5,none⟩ = some (.int .i64 a0_5) := (zb BK424.out 5).trans rfl;have hfz8_0 := za BK424.out 0;have hfz8_1 := za BK424.out 1;have hfz8_2 := za BK424.out 2;have hfz8_3 := za BK424.out 3;have hfz8_4 := za BK424.out 4;have hfz8_5 := za BK424.out 5) | ((with_reducible refine zp (f := 71) rfl ?_);refine z6 (some 11) rfl rfl Try.func71 (by kernel_rfl) rfl #[.agg #[.int .i64 a0_0,.int .i64 a0_1,.slice A0_2 l0_2.length c0_2,.slice A0_3 l0_3.length c0_3,.int .i64 a0_4,.int .i64 a0_5],.int .i64 a1] rfl (by (try simp only [List.map_toArray,List.map_cons,List.map_nil]);first | done | rfl | (simp only [List.length_drop,List.length_take];rfl)) ?_;(with_reducible refine (zv.calls k a0_0 a0_1 _ _ l0_2 _ _ l0_3 a0_4 a0_5 a1 t425 t426 _ ?side1 ?side2 ?side3 ?side4 A3.out).mono ?_);(case side1 => repeat (first | exact (Kd.C_below HR0_2.out HB.out) | (with_reducible refine Kd.C_alloc ?_ _) | (with_reducible refine Kd.C_drewN ?_ _) | (with_reducible refine Kd.C_drew ?_)));(case side2 => exact HC0_2.out);(case side3 => repeat (first | exact (Kd.C_below HR0_3.out HB.out) | (with_reducible refine Kd.C_alloc ?_ _) | (with_reducible refine Kd.C_drewN ?_ _) | (with_reducible refine Kd.C_drew ?_)));(case side4 => exact HC0_3.out);rintro e w9 ⟨rfl,hb⟩;refine ⟨_,rfl,?_⟩;have n0_ := zc.mk (zh (g := gb424) (o := .cells #[.int .i64 a0_0,.int .i64 a0_1,.slice A0_2 l0_2.length c0_2,.slice A0_3 l0_3.length c0_3,.int .i64 a0_4,.int .i64 a0_5] 28 (0,0)) (hGq BK424.out) hb);have n1_ := zc.mk (zg hCq hb);clear BK424;clear HB;have BK424 := n0_;have HB := n1_;clear n0_ n1_;(try clear hb);(try clear hb2);(try clear hk);(try clear hi)) | ((with_reducible refine zp (f := 72) rfl ?_);refine z6 (some 19) rfl rfl Try.func72 (by kernel_rfl) rfl #[.string ((⟨#[118]⟩ : ByteArray) ++ t425)] rfl (by (try simp only [List.map_toArray,List.map_cons,List.map_nil]);first | done | rfl | (simp only [List.length_drop,List.length_take];rfl)) ?_;(with_reducible refine (zaP.calls ((⟨#[118]⟩ : ByteArray) ++ t425) t427 _ A6.out).mono ?_);rintro e w10 ⟨rfl,hb⟩;refine ⟨_,rfl,?_⟩;have n0_ := zc.mk (zh (g := gb424) (o := .cells #[.int .i64 a0_0,.int .i64 a0_1,.slice A0_2 l0_2.length c0_2,.slice A0_3 l0_3.length c0_3,.int .i64 a0_4,.int .i64 a0_5] 28 (0,0)) (hGq BK424.out) hb);have n1_ := zc.mk (zg hCq hb);clear BK424;clear HB;have BK424 := n0_;have HB := n1_;clear n0_ n1_;(try clear hb);(try clear hb2);(try clear hk);(try clear hi)))
   go_ret2
   exact ⟨hHq,hCq⟩
  ·rw [if_neg c5] at H
   exact absurd H (by simp)
 ·rw [if_neg c4] at H
  have c4b0 : (t426 == 0) = false := beq_eq_false_iff_ne.mpr c4
  have c4b1 : (t426 != 0) = true := bne_iff_ne.mpr c4
  simp only [Option.some.injEq,Prod.mk.injEq] at H
  obtain ⟨rfl,rfl⟩ := H
  go_enter Try.func45,Try.ntmps45
  go_wp2_with (first | ((with_reducible refine zD (N := 2) rfl ?_);refine zq ?hg (N := 2) ?hd (cs := #[.int .i64 a0_0,.int .i64 a0_1,.slice A0_2 l0_2.length c0_2,.slice A0_3 l0_3.length c0_3,.int .i64 a0_4,.int .i64 a0_5]) (t := 28) ?hr ?_;(case hd => rfl);(case hg => rfl);(case hr => first | (go_simp;done) | (go_simp;rfl));intro gb424 hg w11 hbox hb;have n0_ := zc.mk (zg hBq hb);have n1_ := zc.mk (hbox);have n2_ := zc.mk ((by rw [hg];exact (zj hBq) : w.heap.size ≤ gb424));have n3_ := zc.mk ((by rw [hg];exact (zj hBq) : w.heap.size ≤ gb424));clear HB;have HB := n0_;have BK424 := n1_;have GW424 := n2_;have GE424 := n3_;clear n0_ n1_ n2_ n3_;clear hb hbox hg;have hcz12_0 : w11.cell? ⟨gb424,0,none⟩ = some (.int .i64 a0_0) := (zb BK424.out 0).trans rfl;have hcz12_1 : w11.cell? ⟨gb424,1,none⟩ = some (.int .i64 a0_1) := (zb BK424.out 1).trans rfl;have hcz12_2 : w11.cell? ⟨gb424,2,none⟩ = some (.slice A0_2 l0_2.length c0_2) := (zb BK424.out 2).trans rfl;have hcz12_3 : w11.cell? ⟨gb424,3,none⟩ = some (.slice A0_3 l0_3.length c0_3) := (zb BK424.out 3).trans rfl;have hcz12_4 : w11.cell? ⟨gb424,4,none⟩ = some (.int .i64 a0_4) := (zb BK424.out 4).trans rfl;have hcz12_5 : w11.cell? ⟨gb424,5,none⟩ = some (.int .i64 a0_5) := (zb BK424.out 5).trans rfl;have hfz12_0 := za BK424.out 0;have hfz12_1 := za BK424.out 1;have hfz12_2 := za BK424.out 2;have hfz12_3 := za BK424.out 3;have hfz12_4 := za BK424.out 4;have hfz12_5 := za BK424.out 5) | ((with_reducible refine zp (f := 71) rfl ?_);refine z6 (some 11) rfl rfl Try.func71 (by kernel_rfl) rfl #[.agg #[.int .i64 a0_0,.int .i64 a0_1,.slice A0_2 l0_2.length c0_2,.slice A0_3 l0_3.length c0_3,.int .i64 a0_4,.int .i64 a0_5],.int .i64 a1] rfl (by (try simp only [List.map_toArray,List.map_cons,List.map_nil]);first | done | rfl | (simp only [List.length_drop,List.length_take];rfl)) ?_;(with_reducible refine (zv.calls k a0_0 a0_1 _ _ l0_2 _ _ l0_3 a0_4 a0_5 a1 t425 t426 _ ?side1 ?side2 ?side3 ?side4 A3.out).mono ?_);(case side1 => repeat (first | exact (Kd.C_below HR0_2.out HB.out) | (with_reducible refine Kd.C_alloc ?_ _) | (with_reducible refine Kd.C_drewN ?_ _) | (with_reducible refine Kd.C_drew ?_)));(case side2 => exact HC0_2.out);(case side3 => repeat (first | exact (Kd.C_below HR0_3.out HB.out) | (with_reducible refine Kd.C_alloc ?_ _) | (with_reducible refine Kd.C_drewN ?_ _) | (with_reducible refine Kd.C_drew ?_)));(case side4 => exact HC0_3.out);rintro e w13 ⟨rfl,hb⟩;refine ⟨_,rfl,?_⟩;have n0_ := zc.mk (zh (g := gb424) (o := .cells #[.int .i64 a0_0,.int .i64 a0_1,.slice A0_2 l0_2.length c0_2,.slice A0_3 l0_3.length c0_3,.int .i64 a0_4,.int .i64 a0_5] 28 (0,0)) (hGq BK424.out) hb);have n1_ := zc.mk (zg hCq hb);clear BK424;clear HB;have BK424 := n0_;have HB := n1_;clear n0_ n1_;(try clear hb);(try clear hb2);(try clear hk);(try clear hi)))
  go_ret2
  exact ⟨hHq,hCq⟩
def zaE.f (k : Nat)  : Option (Bool) := (zaT.f k 1 1 ([] : List (zW)) ([] : List ByteArray) 0 0 4).bind fun bt467 => (if 1 + bt467.1.size ≤ 9223372036854775807 then ((some (([(⟨1,(⟨#[121]⟩ : ByteArray) ++ bt467.1⟩ : S86),(⟨2,(⟨#[121]⟩ : ByteArray) ++ bt467.1⟩ : S86),(⟨3,(⟨#[121]⟩ : ByteArray) ++ bt467.1⟩ : S86)] : List (S86)) : List (S86))).bind fun y469 => ((za1.f k 4 y469 1 1 ([] : List (zW)) ([] : List ByteArray) 0 0 7).bind fun t472 => ((za1.f k 4 y469 1 1 ([] : List (zW)) ([] : List ByteArray) 0 0 3).bind fun t473 => ((za3.f bt467.1).bind fun t474 => (if t474.toList = ((⟨#[121]⟩ : ByteArray) ++ bt467.1).toList then (if t472 = 0 then (some (t473 == 2)) else (some false)) else (some false)))))) else (none))
set_option maxHeartbeats 8000000 in
set_option maxRecDepth 100000 in
theorem zaE.calls (k : Nat)  (r : Bool) (w : World) (h : zaE.f k  = some r) :
  Calls Try.prog 18 #[] w fun e w' => e = .returned (.bool r) ∧ Below w.heap.size w w' := by
 have hu28 := Try.underlying28
 have hu86 := Try.underlying86
 have hu36 := Try.underlying36
 have HB := zc.mk (Below.refl w.heap.size w)
 have H : ((zaT.f k 1 1 ([] : List (zW)) ([] : List ByteArray) 0 0 4).bind fun bt467 => (if 1 + bt467.1.size ≤ 9223372036854775807 then ((some (([(⟨1,(⟨#[121]⟩ : ByteArray) ++ bt467.1⟩ : S86),(⟨2,(⟨#[121]⟩ : ByteArray) ++ bt467.1⟩ : S86),(⟨3,(⟨#[121]⟩ : ByteArray) ++ bt467.1⟩ : S86)] : List (S86)) : List (S86))).bind fun y469 => ((za1.f k 4 y469 1 1 ([] : List (zW)) ([] : List ByteArray) 0 0 7).bind fun t472 => ((za1.f k 4 y469 1 1 ([] : List (zW)) ([] : List ByteArray) 0 0 3).bind fun t473 => ((za3.f bt467.1).bind fun t474 => (if t474.toList = ((⟨#[121]⟩ : ByteArray) ++ bt467.1).toList then (if t472 = 0 then (some (t473 == 2)) else (some false)) else (some false)))))) else (none))) = some r := h
 clear h
 replace H := Option.bind_eq_some_iff.mp H
 obtain ⟨⟨t467,t468⟩,A10,H⟩ := H
 replace H : (if 1 + t467.size ≤ 9223372036854775807 then ((some (([(⟨1,(⟨#[121]⟩ : ByteArray) ++ t467⟩ : S86),(⟨2,(⟨#[121]⟩ : ByteArray) ++ t467⟩ : S86),(⟨3,(⟨#[121]⟩ : ByteArray) ++ t467⟩ : S86)] : List (S86)) : List (S86))).bind fun y469 => ((za1.f k 4 y469 1 1 ([] : List (zW)) ([] : List ByteArray) 0 0 7).bind fun t472 => ((za1.f k 4 y469 1 1 ([] : List (zW)) ([] : List ByteArray) 0 0 3).bind fun t473 => ((za3.f t467).bind fun t474 => (if t474.toList = ((⟨#[121]⟩ : ByteArray) ++ t467).toList then (if t472 = 0 then (some (t473 == 2)) else (some false)) else (some false)))))) else (none)) = some r := H
 have A1 := zc.mk A10
 clear A10
 by_cases c2 : 1 + t467.size ≤ 9223372036854775807
 focus
  rw [if_pos c2] at H
  have c2b0 := eq_true c2
  have c2b1 : decide (1 + t467.size ≤ 9223372036854775807) = true := decide_eq_true c2
  try have c2b2 : (9223372036854775807 < 1 + t467.size) = False := eq_false (Nat.not_lt.2 c2)
  obtain ⟨y469,hy469⟩ : ∃ y_ : List (S86),y_ = (([(⟨1,(⟨#[121]⟩ : ByteArray) ++ t467⟩ : S86),(⟨2,(⟨#[121]⟩ : ByteArray) ++ t467⟩ : S86),(⟨3,(⟨#[121]⟩ : ByteArray) ++ t467⟩ : S86)] : List (S86))) := ⟨_,rfl⟩
  replace H : ((za1.f k 4 y469 1 1 ([] : List (zW)) ([] : List ByteArray) 0 0 7).bind fun t472 => ((za1.f k 4 y469 1 1 ([] : List (zW)) ([] : List ByteArray) 0 0 3).bind fun t473 => ((za3.f t467).bind fun t474 => (if t474.toList = ((⟨#[121]⟩ : ByteArray) ++ t467).toList then (if t472 = 0 then (some (t473 == 2)) else (some false)) else (some false))))) = some r := by first | (rw [hy469];with_reducible exact H) | (have H2_ := (Option.bind_some _ _).symm.trans H;rw [hy469];with_reducible exact H2_) | (have H2_ := (Option.bind_some _ _).symm.trans H;with_reducible exact H2_) | with_reducible exact H | (rw [hy469];exact H) | exact H
  have Ny469 := zc.mk hy469
  clear hy469
  replace H := Option.bind_eq_some_iff.mp H
  obtain ⟨t472,A30,H⟩ := H
  replace H : ((za1.f k 4 y469 1 1 ([] : List (zW)) ([] : List ByteArray) 0 0 3).bind fun t473 => ((za3.f t467).bind fun t474 => (if t474.toList = ((⟨#[121]⟩ : ByteArray) ++ t467).toList then (if t472 = 0 then (some (t473 == 2)) else (some false)) else (some false)))) = some r := H
  have A3 := zc.mk A30
  clear A30
  replace H := Option.bind_eq_some_iff.mp H
  obtain ⟨t473,A40,H⟩ := H
  replace H : ((za3.f t467).bind fun t474 => (if t474.toList = ((⟨#[121]⟩ : ByteArray) ++ t467).toList then (if t472 = 0 then (some (t473 == 2)) else (some false)) else (some false))) = some r := H
  have A4 := zc.mk A40
  clear A40
  replace H := Option.bind_eq_some_iff.mp H
  obtain ⟨t474,A50,H⟩ := H
  replace H : (if t474.toList = ((⟨#[121]⟩ : ByteArray) ++ t467).toList then (if t472 = 0 then (some (t473 == 2)) else (some false)) else (some false)) = some r := H
  have A5 := zc.mk A50
  clear A50
  by_cases c6 : t474.toList = ((⟨#[121]⟩ : ByteArray) ++ t467).toList
  focus
   rw [if_pos c6] at H
   have c6b0 : (t474.toList == ((⟨#[121]⟩ : ByteArray) ++ t467).toList) = true := beq_iff_eq.mpr c6
   have c6b1 : (t474.toList != ((⟨#[121]⟩ : ByteArray) ++ t467).toList) = false := bne_eq_false_iff_eq.mpr c6
   clear c6
   by_cases c7 : t472 = 0
   focus
    rw [if_pos c7] at H
    have c7b0 : (t472 == 0) = true := beq_iff_eq.mpr c7
    have c7b1 : (t472 != 0) = false := bne_eq_false_iff_eq.mpr c7
    clear c7
    obtain rfl := Option.some.inj H
   rotate_left
   focus
    rw [if_neg c7] at H
    have c7b0 : (t472 == 0) = false := beq_eq_false_iff_ne.mpr c7
    have c7b1 : (t472 != 0) = true := bne_iff_ne.mpr c7
    obtain rfl := Option.some.inj H
  rotate_left 2
  focus
   rw [if_neg c6] at H
   have c6b0 : (t474.toList == ((⟨#[121]⟩ : ByteArray) ++ t467).toList) = false := beq_eq_false_iff_ne.mpr c6
   have c6b1 : (t474.toList != ((⟨#[121]⟩ : ByteArray) ++ t467).toList) = true := bne_iff_ne.mpr c6
   obtain rfl := Option.some.inj H
 rotate_left 3
 ·rw [if_neg c2] at H
  exact absurd H (by simp)
 all_goals
  go_enter Try.func18,Try.ntmps18
  go_wp2_with (first | ((with_reducible refine zD (N := 1) rfl ?_);refine zq ?hg (N := 1) ?hd (cs := #[.int .i64 0,.int .i64 0,.slice none 0 0,.slice none 0 0,.int .i64 0,.int .i64 0]) (t := 28) ?hr ?_;(case hd => rfl);(case hg => rfl);(case hr => first | (go_simp;done) | (go_simp;rfl));intro gb466 hg wQN12 hbox hb;have n0_ := zc.mk (zg hBq hb);have n1_ := zc.mk (hbox);have n2_ := zc.mk ((by rw [hg];exact (zj hBq) : w.heap.size ≤ gb466));have n3_ := zc.mk ((by rw [hg];exact (zj hBq) : w.heap.size ≤ gb466));clear HB;have HB := n0_;have BK466 := n1_;have GW466 := n2_;have GE466 := n3_;clear n0_ n1_ n2_ n3_;clear hb hbox hg;have hczQN16 : wQN12.cell? ⟨gb466,0,none⟩ = some (.int .i64 0) := (zb BK466.out 0).trans rfl;have hczQN17 : wQN12.cell? ⟨gb466,1,none⟩ = some (.int .i64 0) := (zb BK466.out 1).trans rfl;have hczQN18 : wQN12.cell? ⟨gb466,2,none⟩ = some (.slice none 0 0) := (zb BK466.out 2).trans rfl;have hczQN19 : wQN12.cell? ⟨gb466,3,none⟩ = some (.slice none 0 0) := (zb BK466.out 3).trans rfl;have hczQN110 : wQN12.cell? ⟨gb466,4,none⟩ = some (.int .i64 0) := (zb BK466.out 4).trans rfl;have hczQN111 : wQN12.cell? ⟨gb466,5,none⟩ = some (.int .i64 0) := (zb BK466.out 5).trans rfl;have hfzQN112 := za BK466.out 0;have hfzQN113 := za BK466.out 1;have hfzQN114 := za BK466.out 2;have hfzQN115 := za BK466.out 3;have hfzQN116 := za BK466.out 4;have hfzQN117 := za BK466.out 5) | ((with_reducible refine zp (f := 45) rfl ?_);refine z6 (some 10) rfl rfl Try.func45 (by kernel_rfl) rfl #[.agg #[.int .i64 1,.int .i64 1,.slice none 0 0,.slice none 0 0,.int .i64 0,.int .i64 0],.int .i64 4] rfl (by (try simp only [List.map_toArray,List.map_cons,List.map_nil]);first | done | rfl | (simp only [List.length_drop,List.length_take];rfl)) ?_;(refine (zaT.calls k 1 1 _ _ ([] : List (zW)) _ _ ([] : List ByteArray) 0 0 4 t467 t468 _ ?side1 ?side2 ?side3 ?side4 A1.out).mono ?_);(case side1 => exact Kd.C_nil _ _);(case side2 => exact Nat.le_refl _);(case side3 => exact Kd.C_nil _ _);(case side4 => exact Nat.le_refl _);rintro e wQF45A11 ⟨rfl,hb⟩;refine ⟨_,rfl,?_⟩;have n0_ := zc.mk (zh (g := gb466) (o := .cells #[.int .i64 1,.int .i64 1,.slice none 0 0,.slice none 0 0,.int .i64 0,.int .i64 0] 28 (0,0)) (by (with_reducible repeat (first | refine zd ?_ _ | refine zf ?_ | refine ze ?_ _));refine zm (cs := #[.int .i64 1,.int .i64 1,.slice none 0 0,.slice none 0 0,.int .i64 0,.int .i64 0]) ?_ 5 _ rfl;(with_reducible repeat (first | refine zd ?_ _ | refine zf ?_ | refine ze ?_ _));refine zm (cs := #[.int .i64 1,.int .i64 1,.slice none 0 0,.slice none 0 0,.int .i64 0,.int .i64 0]) ?_ 4 _ rfl;(with_reducible repeat (first | refine zd ?_ _ | refine zf ?_ | refine ze ?_ _));refine zm (cs := #[.int .i64 1,.int .i64 1,.slice none 0 0,.slice none 0 0,.int .i64 0,.int .i64 0]) ?_ 3 _ rfl;(with_reducible repeat (first | refine zd ?_ _ | refine zf ?_ | refine ze ?_ _));refine zm (cs := #[.int .i64 1,.int .i64 1,.slice none 0 0,.slice none 0 0,.int .i64 0,.int .i64 0]) ?_ 2 _ rfl;(with_reducible repeat (first | refine zd ?_ _ | refine zf ?_ | refine ze ?_ _));refine zm (cs := #[.int .i64 1,.int .i64 0,.slice none 0 0,.slice none 0 0,.int .i64 0,.int .i64 0]) ?_ 1 _ rfl;(with_reducible repeat (first | refine zd ?_ _ | refine zf ?_ | refine ze ?_ _));refine zm (cs := #[.int .i64 0,.int .i64 0,.slice none 0 0,.slice none 0 0,.int .i64 0,.int .i64 0]) ?_ 0 _ rfl;(with_reducible repeat (first | refine zd ?_ _ | refine zf ?_ | refine ze ?_ _));exact BK466.out) hb);have n1_ := zc.mk (zg hCq hb);clear BK466;clear HB;have BK466 := n0_;have HB := n1_;clear n0_ n1_;(try clear hb);(try clear hb2);(try clear hk);(try clear hi)) | ((with_reducible refine zD (N := 22) rfl ?_);refine Kd.R_lit k86 _ 86 ?hg (N := 22) ?hd (xs := ([(⟨1,(⟨#[121]⟩ : ByteArray) ++ t467⟩ : S86),(⟨2,(⟨#[121]⟩ : ByteArray) ++ t467⟩ : S86),(⟨3,(⟨#[121]⟩ : ByteArray) ++ t467⟩ : S86)] : List (S86))) (inner := [.int .i64 1,.string ((⟨#[121]⟩ : ByteArray) ++ t467),.int .i64 2,.string ((⟨#[121]⟩ : ByteArray) ++ t467),.int .i64 3,.string ((⟨#[121]⟩ : ByteArray) ++ t467)]) (ok := fun _ => True) (okp := fun _ => True) ?hr ?hp (fun _ hk => hk) trivial (Below.refl _ _) (Nat.le_refl _) (by simp) ?_;(case hd => rfl);(case hg => rfl);(case hr => first | (go_simp;done) | (go_simp;rfl));(case hp => exact (zaR.c2 (show Kd.M k86 _ _ _ (⟨1,(⟨#[121]⟩ : ByteArray) ++ t467⟩ : S86) [.int .i64 1,.string ((⟨#[121]⟩ : ByteArray) ++ t467)] from (zha _ _ _ (⟨1,(⟨#[121]⟩ : ByteArray) ++ t467⟩ : S86) )) (zaR.c2 (show Kd.M k86 _ _ _ (⟨2,(⟨#[121]⟩ : ByteArray) ++ t467⟩ : S86) [.int .i64 2,.string ((⟨#[121]⟩ : ByteArray) ++ t467)] from (zha _ _ _ (⟨2,(⟨#[121]⟩ : ByteArray) ++ t467⟩ : S86) )) (zaR.c2 (show Kd.M k86 _ _ _ (⟨3,(⟨#[121]⟩ : ByteArray) ++ t467⟩ : S86) [.int .i64 3,.string ((⟨#[121]⟩ : ByteArray) ++ t467)] from (zha _ _ _ (⟨3,(⟨#[121]⟩ : ByteArray) ++ t467⟩ : S86) )) (zaR.none _ _)))));intro vQN221 wQN222 hoQN223 hb hg_ hnew_;clear hg_ hnew_;(first | rw [← Ny469.out] at hoQN223 | (simp only [Int.reduceToNat] at hoQN223;rw [← Ny469.out] at hoQN223));have n0_ := zc.mk (Kd.R_lower hoQN223 (zj hCq));have n1_ := zc.mk (zh (g := gb466) (o := .cells #[.int .i64 1,.int .i64 1,.slice none 0 0,.slice none 0 0,.int .i64 0,.int .i64 0] 28 (0,0)) (hGq BK466.out) hb);have n2_ := zc.mk (zg hCq hb);clear BK466;clear HB;have HOQN224 := n0_;have BK466 := n1_;have HB := n2_;clear n0_ n1_ n2_;clear hb hoQN223;have hczQN226 : wQN222.cell? ⟨gb466,0,none⟩ = some (.int .i64 1) := (zb BK466.out 0).trans rfl;have hczQN227 : wQN222.cell? ⟨gb466,1,none⟩ = some (.int .i64 1) := (zb BK466.out 1).trans rfl;have hczQN228 : wQN222.cell? ⟨gb466,2,none⟩ = some (.slice none 0 0) := (zb BK466.out 2).trans rfl;have hczQN229 : wQN222.cell? ⟨gb466,3,none⟩ = some (.slice none 0 0) := (zb BK466.out 3).trans rfl;have hczQN2210 : wQN222.cell? ⟨gb466,4,none⟩ = some (.int .i64 0) := (zb BK466.out 4).trans rfl;have hczQN2211 : wQN222.cell? ⟨gb466,5,none⟩ = some (.int .i64 0) := (zb BK466.out 5).trans rfl;have hfzQN2212 := za BK466.out 0;have hfzQN2213 := za BK466.out 1;have hfzQN2214 := za BK466.out 2;have hfzQN2215 := za BK466.out 3;have hfzQN2216 := za BK466.out 4;have hfzQN2217 := za BK466.out 5;obtain ⟨AoQN2218,coQN2219,eoQN2220⟩ := Kd.R_slice HOQN224.out;subst eoQN2220) | ((with_reducible refine zp (f := 46) rfl ?_);refine z6 (some 26) rfl rfl Try.func46 (by kernel_rfl) rfl #[.int .i64 4,.slice AoQN2218 y469.length coQN2219,.agg #[.int .i64 1,.int .i64 1,.slice none 0 0,.slice none 0 0,.int .i64 0,.int .i64 0,.int .u64 7]] rfl (by (try simp only [List.map_toArray,List.map_cons,List.map_nil]);first | done | rfl | (simp only [List.length_drop,List.length_take];rfl)) ?_;(refine (za1.calls k 4 _ _ y469 1 1 _ _ ([] : List (zW)) _ _ ([] : List ByteArray) 0 0 7 t472 _ ?side1 ?side2 ?side3 ?side4 ?side5 ?side6 A3.out).mono ?_);(case side1 => repeat (first | exact (Kd.R_reads' HOQN224.out).2.2 | (with_reducible refine Kd.C_alloc ?_ _) | (with_reducible refine Kd.C_drewN ?_ _) | (with_reducible refine Kd.C_drew ?_)));(case side2 => exact (Kd.R_reads' HOQN224.out).2.1);(case side3 => exact Kd.C_nil _ _);(case side4 => exact Nat.le_refl _);(case side5 => exact Kd.C_nil _ _);(case side6 => exact Nat.le_refl _);rintro e wQF46A31 ⟨rfl,hb⟩;refine ⟨_,rfl,?_⟩;have n0_ := zc.mk (Kd.R_below (by (with_reducible repeat (first | apply Kd.R_alloc | apply Kd.R_drewN | apply Kd.R_drew));exact HOQN224.out) hb);have n1_ := zc.mk (zh (g := gb466) (o := .cells #[.int .i64 1,.int .i64 1,.slice none 0 0,.slice none 0 0,.int .i64 0,.int .i64 0] 28 (0,0)) (hGq BK466.out) hb);have n2_ := zc.mk (zg hCq hb);clear HOQN224;clear BK466;clear HB;have HOQN224 := n0_;have BK466 := n1_;have HB := n2_;clear n0_ n1_ n2_;(try clear hb);(try clear hb2);(try clear hk);(try clear hi);have hczQF46A34 : wQF46A31.cell? ⟨gb466,0,none⟩ = some (.int .i64 1) := (zb BK466.out 0).trans rfl;have hczQF46A35 : wQF46A31.cell? ⟨gb466,1,none⟩ = some (.int .i64 1) := (zb BK466.out 1).trans rfl;have hczQF46A36 : wQF46A31.cell? ⟨gb466,2,none⟩ = some (.slice none 0 0) := (zb BK466.out 2).trans rfl;have hczQF46A37 : wQF46A31.cell? ⟨gb466,3,none⟩ = some (.slice none 0 0) := (zb BK466.out 3).trans rfl;have hczQF46A38 : wQF46A31.cell? ⟨gb466,4,none⟩ = some (.int .i64 0) := (zb BK466.out 4).trans rfl;have hczQF46A39 : wQF46A31.cell? ⟨gb466,5,none⟩ = some (.int .i64 0) := (zb BK466.out 5).trans rfl;have hfzQF46A310 := za BK466.out 0;have hfzQF46A311 := za BK466.out 1;have hfzQF46A312 := za BK466.out 2;have hfzQF46A313 := za BK466.out 3;have hfzQF46A314 := za BK466.out 4;have hfzQF46A315 := za BK466.out 5) | ((with_reducible refine zp (f := 46) rfl ?_);refine z6 (some 30) rfl rfl Try.func46 (by kernel_rfl) rfl #[.int .i64 4,.slice AoQN2218 y469.length coQN2219,.agg #[.int .i64 1,.int .i64 1,.slice none 0 0,.slice none 0 0,.int .i64 0,.int .i64 0,.int .u64 3]] rfl (by (try simp only [List.map_toArray,List.map_cons,List.map_nil]);first | done | rfl | (simp only [List.length_drop,List.length_take];rfl)) ?_;(refine (za1.calls k 4 _ _ y469 1 1 _ _ ([] : List (zW)) _ _ ([] : List ByteArray) 0 0 3 t473 _ ?side1 ?side2 ?side3 ?side4 ?side5 ?side6 A4.out).mono ?_);(case side1 => repeat (first | exact (Kd.R_reads' HOQN224.out).2.2 | (with_reducible refine Kd.C_alloc ?_ _) | (with_reducible refine Kd.C_drewN ?_ _) | (with_reducible refine Kd.C_drew ?_)));(case side2 => exact (Kd.R_reads' HOQN224.out).2.1);(case side3 => exact Kd.C_nil _ _);(case side4 => exact Nat.le_refl _);(case side5 => exact Kd.C_nil _ _);(case side6 => exact Nat.le_refl _);rintro e wQF46A41 ⟨rfl,hb⟩;refine ⟨_,rfl,?_⟩;have n0_ := zc.mk (Kd.R_below (by (with_reducible repeat (first | apply Kd.R_alloc | apply Kd.R_drewN | apply Kd.R_drew));exact HOQN224.out) hb);have n1_ := zc.mk (zh (g := gb466) (o := .cells #[.int .i64 1,.int .i64 1,.slice none 0 0,.slice none 0 0,.int .i64 0,.int .i64 0] 28 (0,0)) (hGq BK466.out) hb);have n2_ := zc.mk (zg hCq hb);clear HOQN224;clear BK466;clear HB;have HOQN224 := n0_;have BK466 := n1_;have HB := n2_;clear n0_ n1_ n2_;(try clear hb);(try clear hb2);(try clear hk);(try clear hi)) | ((with_reducible refine zp (f := 47) rfl ?_);refine z6 (some 32) rfl rfl Try.func47 (by kernel_rfl) rfl #[.string t467] rfl (by (try simp only [List.map_toArray,List.map_cons,List.map_nil]);first | done | rfl | (simp only [List.length_drop,List.length_take];rfl)) ?_;(with_reducible refine (za3.calls t467 t474 _ A5.out).mono ?_);rintro e w' ⟨rfl,⟨nd,rfl⟩⟩;refine ⟨_,rfl,?_⟩))
  go_ret
  exact ⟨hHq,hCq⟩
theorem eqA26 (d : Nat) (w : World) (x0 y0 : Int) (x1 y1 : Int) :
  (Op.equalIn (d + 2) 26 (.agg #[.int .i64 x0,.int .i64 x1]) (.agg #[.int .i64 y0,.int .i64 y1])).run Try.prog w = .ok (x0 == y0 && (x1 == y1)) w := by
 refine eqA_of Try.underlying26 (by kernel_rfl) ?_
 refine eqf_cons (by rfl) (by go_simp;rfl) (by go_simp;rfl) (by go_simp) ?_
 exact eqf_last (by rfl) (by go_simp;rfl) (by go_simp;rfl) (by go_simp)
end Go.Proofs.Ytgdpiegkoeikiaa.Px