/- Part 17 of 30 of the proof of the law CertBack: what is proved is the statement at the end of the last part; its conditions are those of the given row. -/
import Derived.Test.YtgdpiegkoeikiaaZCertBackJ
import Derived.Test.YtgdpiegkoeikiaaZCertBackP
namespace Go.Proofs.Ytgdpiegkoeikiaa.Px
open Go.RowKit Go.Proofs.YtgdpiegkoeikiaaW.PrintWords Go.Proofs.YtgdpiegkoeikiaaW.PrintLast Go.Proofs.YtgdpiegkoeikiaaW.PrintMore
attribute [local go_sem] zx zz zJ zK zn zo zy zA
set_option linter.unusedVariables false
set_option linter.unusedSimpArgs false
def zbf.f (a0_0 : Int) (a0_1 : Int) (l0_2 : List (zW)) (l0_3 : List ByteArray) (a0_4 : Int) (a0_5 : Int) (a1 : Int) : Option (ByteArray × Int) := (zar.f a0_0 a0_1 l0_2 l0_3 a0_4 a0_5 a1).bind fun bt451 => (if bt451.2 = 0 then (if 1 + bt451.1.size ≤ 9223372036854775807 then ((zcL.f ((⟨#[118]⟩ : ByteArray) ++ bt451.1)).bind fun t453 => (some (t453,0))) else (none)) else (some ((⟨#[]⟩ : ByteArray),bt451.2)))
set_option maxHeartbeats 8000000 in
set_option maxRecDepth 100000 in
theorem zbf.calls (a0_0 : Int) (a0_1 : Int) (A0_2 : Option Addr) (c0_2 : Nat) (l0_2 : List (zW)) (A0_3 : Option Addr) (c0_3 : Nat) (l0_3 : List ByteArray) (a0_4 : Int) (a0_5 : Int) (a1 : Int) (r1 : ByteArray) (r2 : Int) (w : World) (hr0_2 : Kd.C zb0 w A0_2 l0_2.length l0_2) (hc0_2 : l0_2.length ≤ c0_2) (hr0_3 : Kd.C Kd.string w A0_3 l0_3.length l0_3) (hc0_3 : l0_3.length ≤ c0_3) (h : zbf.f a0_0 a0_1 l0_2 l0_3 a0_4 a0_5 a1 = some (r1,r2)) :
  Calls Try.prog 73 #[.agg #[.int .i64 a0_0,.int .i64 a0_1,.slice A0_2 l0_2.length c0_2,.slice A0_3 l0_3.length c0_3,.int .i64 a0_4,.int .i64 a0_5],.int .i64 a1] w fun e w' => e = .returned (.tuple #[.string r1,.int .i64 r2]) ∧ Below w.heap.size w w' := by
 have hu28 := Try.underlying28
 have HR0_2 := zc.mk hr0_2
 have HC0_2 := zc.mk hc0_2
 clear hr0_2 hc0_2
 have HR0_3 := zc.mk hr0_3
 have HC0_3 := zc.mk hc0_3
 clear hr0_3 hc0_3
 have HB := zc.mk (Below.refl w.heap.size w)
 have H : ((zar.f a0_0 a0_1 l0_2 l0_3 a0_4 a0_5 a1).bind fun bt451 => (if bt451.2 = 0 then (if 1 + bt451.1.size ≤ 9223372036854775807 then ((zcL.f ((⟨#[118]⟩ : ByteArray) ++ bt451.1)).bind fun t453 => (some (t453,0))) else (none)) else (some ((⟨#[]⟩ : ByteArray),bt451.2)))) = some (r1,r2) := h
 clear h
 replace H := Option.bind_eq_some_iff.mp H
 obtain ⟨⟨t451,t452⟩,A30,H⟩ := H
 replace H : (if t452 = 0 then (if 1 + t451.size ≤ 9223372036854775807 then ((zcL.f ((⟨#[118]⟩ : ByteArray) ++ t451)).bind fun t453 => (some (t453,0))) else (none)) else (some ((⟨#[]⟩ : ByteArray),t452))) = some (r1,r2) := H
 have A3 := zc.mk A30
 clear A30
 by_cases c4 : t452 = 0
 ·rw [if_pos c4] at H
  have c4b0 : (t452 == 0) = true := beq_iff_eq.mpr c4
  have c4b1 : (t452 != 0) = false := bne_eq_false_iff_eq.mpr c4
  clear c4
  by_cases c5 : 1 + t451.size ≤ 9223372036854775807
  ·rw [if_pos c5] at H
   have c5b0 := eq_true c5
   have c5b1 : decide (1 + t451.size ≤ 9223372036854775807) = true := decide_eq_true c5
   try have c5b2 : (9223372036854775807 < 1 + t451.size) = False := eq_false (Nat.not_lt.2 c5)
   replace H := Option.bind_eq_some_iff.mp H
   obtain ⟨t453,A60,H⟩ := H
   replace H : (some (t453,0)) = some (r1,r2) := H
   have A6 := zc.mk A60
   clear A60
   simp only [Option.some.injEq,Prod.mk.injEq] at H
   obtain ⟨rfl,rfl⟩ := H
   go_enter Try.func73,Try.ntmps73
   go_wp2_with (first | ((with_reducible refine zD (N := 2) rfl ?_);refine zq ?hg (N := 2) ?hd (cs := #[.int .i64 a0_0,.int .i64 a0_1,.slice A0_2 l0_2.length c0_2,.slice A0_3 l0_3.length c0_3,.int .i64 a0_4,.int .i64 a0_5]) (t := 28) ?hr ?_;(case hd => rfl);(case hg => rfl);(case hr => first | (go_simp;done) | (go_simp;rfl));intro gb450 hg w7 hbox hb;have n0_ := zc.mk (zg hBq hb);have n1_ := zc.mk (hbox);have n2_ := zc.mk ((by rw [hg];exact (zj hBq) : w.heap.size ≤ gb450));have n3_ := zc.mk ((by rw [hg];exact (zj hBq) : w.heap.size ≤ gb450));clear HB;have HB := n0_;have BK450 := n1_;have GW450 := n2_;have GE450 := n3_;clear n0_ n1_ n2_ n3_;clear hb hbox hg;have hcz8_0 : w7.cell? ⟨gb450,0,none⟩ = some (.int .i64 a0_0) := (zb BK450.out 0).trans rfl;have hcz8_1 : w7.cell? ⟨gb450,1,none⟩ = some (.int .i64 a0_1) := (zb BK450.out 1).trans rfl;have hcz8_2 : w7.cell? ⟨gb450,2,none⟩ = some (.slice A0_2 l0_2.length c0_2) := (zb BK450.out 2).trans rfl;have hcz8_3 : w7.cell? ⟨gb450,3,none⟩ = some (.slice A0_3 l0_3.length c0_3) := (zb BK450.out 3).trans rfl;have hcz8_4 : w7.cell? ⟨gb450,4,none⟩ = some (.int .i64 a0_4) := (zb BK450.out 4).trans rfl;have hcz8_5 : w7.cell? ⟨gb450,5,none⟩ = some (.int .i64 a0_5) := (zb BK450.out 5).trans rfl;have hfz8_0 := za BK450.out 0;have hfz8_1 := za BK450.out 1;have hfz8_2 := za BK450.out 2;have hfz8_3 := za BK450.out 3;have hfz8_4 := za BK450.out 4;have hfz8_5 := za BK450.out 5) | ((with_reducible refine zp (f := 49) rfl ?_);refine z6 (some 11) rfl rfl Try.func49 (by kernel_rfl) rfl #[.agg #[.int .i64 a0_0,.int .i64 a0_1,.slice A0_2 l0_2.length c0_2,.slice A0_3 l0_3.length c0_3,.int .i64 a0_4,.int .i64 a0_5],.int .i64 a1] rfl (by (try simp only [List.map_toArray,List.map_cons,List.map_nil]);first | done | rfl | (simp only [List.length_drop,List.length_take];rfl)) ?_;(with_reducible refine (zar.calls a0_0 a0_1 _ _ l0_2 _ _ l0_3 a0_4 a0_5 a1 t451 t452 _ ?side1 ?side2 ?side3 ?side4 A3.out).mono ?_);(case side1 => repeat (first | exact (Kd.C_below HR0_2.out HB.out) | (with_reducible refine Kd.C_alloc ?_ _) | (with_reducible refine Kd.C_drewN ?_ _) | (with_reducible refine Kd.C_drew ?_)));(case side2 => exact HC0_2.out);(case side3 => repeat (first | exact (Kd.C_below HR0_3.out HB.out) | (with_reducible refine Kd.C_alloc ?_ _) | (with_reducible refine Kd.C_drewN ?_ _) | (with_reducible refine Kd.C_drew ?_)));(case side4 => exact HC0_3.out);rintro e w9 ⟨rfl,hb⟩;refine ⟨_,rfl,?_⟩;have n0_ := zc.mk (zh (g := gb450) (o := .cells #[.int .i64 a0_0,.int .i64 a0_1,.slice A0_2 l0_2.length c0_2,.slice A0_3 l0_3.length c0_3,.int .i64 a0_4,.int .i64 a0_5] 28 (0,0)) (hGq BK450.out) hb);have n1_ := zc.mk (zg hCq hb);clear BK450;clear HB;have BK450 := n0_;have HB := n1_;clear n0_ n1_;(try clear hb);(try clear hb2);(try clear hk);(try clear hi)) | ((with_reducible refine zp (f := 108) rfl ?_);refine z6 (some 19) rfl rfl Try.func108 (by kernel_rfl) rfl #[.string ((⟨#[118]⟩ : ByteArray) ++ t451)] rfl (by (try simp only [List.map_toArray,List.map_cons,List.map_nil]);first | done | rfl | (simp only [List.length_drop,List.length_take];rfl)) ?_;(with_reducible refine (zcL.calls ((⟨#[118]⟩ : ByteArray) ++ t451) t453 _ A6.out).mono ?_);rintro e w10 ⟨rfl,hb⟩;refine ⟨_,rfl,?_⟩;have n0_ := zc.mk (zh (g := gb450) (o := .cells #[.int .i64 a0_0,.int .i64 a0_1,.slice A0_2 l0_2.length c0_2,.slice A0_3 l0_3.length c0_3,.int .i64 a0_4,.int .i64 a0_5] 28 (0,0)) (hGq BK450.out) hb);have n1_ := zc.mk (zg hCq hb);clear BK450;clear HB;have BK450 := n0_;have HB := n1_;clear n0_ n1_;(try clear hb);(try clear hb2);(try clear hk);(try clear hi)))
   go_ret2
   exact ⟨hHq,hCq⟩
  ·rw [if_neg c5] at H
   exact absurd H (by simp)
 ·rw [if_neg c4] at H
  have c4b0 : (t452 == 0) = false := beq_eq_false_iff_ne.mpr c4
  have c4b1 : (t452 != 0) = true := bne_iff_ne.mpr c4
  simp only [Option.some.injEq,Prod.mk.injEq] at H
  obtain ⟨rfl,rfl⟩ := H
  go_enter Try.func73,Try.ntmps73
  go_wp2_with (first | ((with_reducible refine zD (N := 2) rfl ?_);refine zq ?hg (N := 2) ?hd (cs := #[.int .i64 a0_0,.int .i64 a0_1,.slice A0_2 l0_2.length c0_2,.slice A0_3 l0_3.length c0_3,.int .i64 a0_4,.int .i64 a0_5]) (t := 28) ?hr ?_;(case hd => rfl);(case hg => rfl);(case hr => first | (go_simp;done) | (go_simp;rfl));intro gb450 hg w11 hbox hb;have n0_ := zc.mk (zg hBq hb);have n1_ := zc.mk (hbox);have n2_ := zc.mk ((by rw [hg];exact (zj hBq) : w.heap.size ≤ gb450));have n3_ := zc.mk ((by rw [hg];exact (zj hBq) : w.heap.size ≤ gb450));clear HB;have HB := n0_;have BK450 := n1_;have GW450 := n2_;have GE450 := n3_;clear n0_ n1_ n2_ n3_;clear hb hbox hg;have hcz12_0 : w11.cell? ⟨gb450,0,none⟩ = some (.int .i64 a0_0) := (zb BK450.out 0).trans rfl;have hcz12_1 : w11.cell? ⟨gb450,1,none⟩ = some (.int .i64 a0_1) := (zb BK450.out 1).trans rfl;have hcz12_2 : w11.cell? ⟨gb450,2,none⟩ = some (.slice A0_2 l0_2.length c0_2) := (zb BK450.out 2).trans rfl;have hcz12_3 : w11.cell? ⟨gb450,3,none⟩ = some (.slice A0_3 l0_3.length c0_3) := (zb BK450.out 3).trans rfl;have hcz12_4 : w11.cell? ⟨gb450,4,none⟩ = some (.int .i64 a0_4) := (zb BK450.out 4).trans rfl;have hcz12_5 : w11.cell? ⟨gb450,5,none⟩ = some (.int .i64 a0_5) := (zb BK450.out 5).trans rfl;have hfz12_0 := za BK450.out 0;have hfz12_1 := za BK450.out 1;have hfz12_2 := za BK450.out 2;have hfz12_3 := za BK450.out 3;have hfz12_4 := za BK450.out 4;have hfz12_5 := za BK450.out 5) | ((with_reducible refine zp (f := 49) rfl ?_);refine z6 (some 11) rfl rfl Try.func49 (by kernel_rfl) rfl #[.agg #[.int .i64 a0_0,.int .i64 a0_1,.slice A0_2 l0_2.length c0_2,.slice A0_3 l0_3.length c0_3,.int .i64 a0_4,.int .i64 a0_5],.int .i64 a1] rfl (by (try simp only [List.map_toArray,List.map_cons,List.map_nil]);first | done | rfl | (simp only [List.length_drop,List.length_take];rfl)) ?_;(with_reducible refine (zar.calls a0_0 a0_1 _ _ l0_2 _ _ l0_3 a0_4 a0_5 a1 t451 t452 _ ?side1 ?side2 ?side3 ?side4 A3.out).mono ?_);(case side1 => repeat (first | exact (Kd.C_below HR0_2.out HB.out) | (with_reducible refine Kd.C_alloc ?_ _) | (with_reducible refine Kd.C_drewN ?_ _) | (with_reducible refine Kd.C_drew ?_)));(case side2 => exact HC0_2.out);(case side3 => repeat (first | exact (Kd.C_below HR0_3.out HB.out) | (with_reducible refine Kd.C_alloc ?_ _) | (with_reducible refine Kd.C_drewN ?_ _) | (with_reducible refine Kd.C_drew ?_)));(case side4 => exact HC0_3.out);rintro e w13 ⟨rfl,hb⟩;refine ⟨_,rfl,?_⟩;have n0_ := zc.mk (zh (g := gb450) (o := .cells #[.int .i64 a0_0,.int .i64 a0_1,.slice A0_2 l0_2.length c0_2,.slice A0_3 l0_3.length c0_3,.int .i64 a0_4,.int .i64 a0_5] 28 (0,0)) (hGq BK450.out) hb);have n1_ := zc.mk (zg hCq hb);clear BK450;clear HB;have BK450 := n0_;have HB := n1_;clear n0_ n1_;(try clear hb);(try clear hb2);(try clear hk);(try clear hi)))
  go_ret2
  exact ⟨hHq,hCq⟩
def za1.f (k : Nat) (a0 : Int) (l1 : List (S86)) (a2_0 : Int) (a2_1 : Int) (l2_2 : List (zW)) (l2_3 : List ByteArray) (a2_4 : Int) (a2_5 : Int) (a2_6 : Int) : Option (Int) := (zaM.f a2_0 a2_1 l2_2 l2_3 a2_4 a2_5 a2_6 a0).bind fun t461 => (if t461 = 0 then ((zbf.f a2_0 a2_1 l2_2 l2_3 a2_4 a2_5 a0).bind fun bt462 => ((za3.f bt462.1).bind fun t464 => ((zb7.f k l1 a2_6 t464).bind fun t465 => (if t465 = true then (some 0) else (some 10))))) else (some t461))
set_option maxHeartbeats 8000000 in
set_option maxRecDepth 100000 in
theorem za1.calls (k : Nat) (a0 : Int) (A1 : Option Addr) (c1 : Nat) (l1 : List (S86)) (a2_0 : Int) (a2_1 : Int) (A2_2 : Option Addr) (c2_2 : Nat) (l2_2 : List (zW)) (A2_3 : Option Addr) (c2_3 : Nat) (l2_3 : List ByteArray) (a2_4 : Int) (a2_5 : Int) (a2_6 : Int) (r : Int) (w : World) (hr1 : Kd.C k86 w A1 l1.length l1) (hc1 : l1.length ≤ c1) (hr2_2 : Kd.C zb0 w A2_2 l2_2.length l2_2) (hc2_2 : l2_2.length ≤ c2_2) (hr2_3 : Kd.C Kd.string w A2_3 l2_3.length l2_3) (hc2_3 : l2_3.length ≤ c2_3) (h : za1.f k a0 l1 a2_0 a2_1 l2_2 l2_3 a2_4 a2_5 a2_6 = some r) :
  Calls Try.prog 46 #[.int .i64 a0,.slice A1 l1.length c1,.agg #[.int .i64 a2_0,.int .i64 a2_1,.slice A2_2 l2_2.length c2_2,.slice A2_3 l2_3.length c2_3,.int .i64 a2_4,.int .i64 a2_5,.int .u64 a2_6]] w fun e w' => e = .returned (.int .i64 r) ∧ Below w.heap.size w w' := by
 have hu36 := Try.underlying36
 have hu28 := Try.underlying28
 have HR1 := zc.mk hr1
 have HC1 := zc.mk hc1
 clear hr1 hc1
 have HR2_2 := zc.mk hr2_2
 have HC2_2 := zc.mk hc2_2
 clear hr2_2 hc2_2
 have HR2_3 := zc.mk hr2_3
 have HC2_3 := zc.mk hc2_3
 clear hr2_3 hc2_3
 have HB := zc.mk (Below.refl w.heap.size w)
 have H : ((zaM.f a2_0 a2_1 l2_2 l2_3 a2_4 a2_5 a2_6 a0).bind fun t461 => (if t461 = 0 then ((zbf.f a2_0 a2_1 l2_2 l2_3 a2_4 a2_5 a0).bind fun bt462 => ((za3.f bt462.1).bind fun t464 => ((zb7.f k l1 a2_6 t464).bind fun t465 => (if t465 = true then (some 0) else (some 10))))) else (some t461))) = some r := h
 clear h
 replace H := Option.bind_eq_some_iff.mp H
 obtain ⟨t461,A40,H⟩ := H
 replace H : (if t461 = 0 then ((zbf.f a2_0 a2_1 l2_2 l2_3 a2_4 a2_5 a0).bind fun bt462 => ((za3.f bt462.1).bind fun t464 => ((zb7.f k l1 a2_6 t464).bind fun t465 => (if t465 = true then (some 0) else (some 10))))) else (some t461)) = some r := H
 have A4 := zc.mk A40
 clear A40
 by_cases c5 : t461 = 0
 ·rw [if_pos c5] at H
  have c5b0 : (t461 == 0) = true := beq_iff_eq.mpr c5
  have c5b1 : (t461 != 0) = false := bne_eq_false_iff_eq.mpr c5
  clear c5
  replace H := Option.bind_eq_some_iff.mp H
  obtain ⟨⟨t462,t463⟩,A60,H⟩ := H
  replace H : ((za3.f t462).bind fun t464 => ((zb7.f k l1 a2_6 t464).bind fun t465 => (if t465 = true then (some 0) else (some 10)))) = some r := H
  have A6 := zc.mk A60
  clear A60
  replace H := Option.bind_eq_some_iff.mp H
  obtain ⟨t464,A70,H⟩ := H
  replace H : ((zb7.f k l1 a2_6 t464).bind fun t465 => (if t465 = true then (some 0) else (some 10))) = some r := H
  have A7 := zc.mk A70
  clear A70
  replace H := Option.bind_eq_some_iff.mp H
  obtain ⟨t465,A80,H⟩ := H
  replace H : (if t465 = true then (some 0) else (some 10)) = some r := H
  have A8 := zc.mk A80
  clear A80
  by_cases c9 : t465 = true
  ·subst c9
   have H1 : (some 0) = some r := by rw [if_pos rfl] at H;exact H
   clear H
   have H := H1
   clear H1
   obtain rfl := Option.some.inj H
   go_enter Try.func46,Try.ntmps46
   try go_wp2_with (first | ((with_reducible refine zD (N := 5) rfl ?_);refine zq ?hg (N := 5) ?hd (cs := #[.int .i64 a2_0,.int .i64 a2_1,.slice A2_2 l2_2.length c2_2,.slice A2_3 l2_3.length c2_3,.int .i64 a2_4,.int .i64 a2_5,.int .u64 a2_6]) (t := 36) ?hr ?_;(case hd => rfl);(case hg => rfl);(case hr => first | (go_simp;done) | (go_simp;rfl));intro gb460 hg w10 hbox hb;have n0_ := zc.mk (zg hBq hb);have n1_ := zc.mk (hbox);have n2_ := zc.mk ((by rw [hg];exact (zj hBq) : w.heap.size ≤ gb460));have n3_ := zc.mk ((by rw [hg];exact (zj hBq) : w.heap.size ≤ gb460));clear HB;have HB := n0_;have BK460 := n1_;have GW460 := n2_;have GE460 := n3_;clear n0_ n1_ n2_ n3_;clear hb hbox hg;have hcz11_0 : w10.cell? ⟨gb460,0,none⟩ = some (.int .i64 a2_0) := (zb BK460.out 0).trans rfl;have hcz11_1 : w10.cell? ⟨gb460,1,none⟩ = some (.int .i64 a2_1) := (zb BK460.out 1).trans rfl;have hcz11_2 : w10.cell? ⟨gb460,2,none⟩ = some (.slice A2_2 l2_2.length c2_2) := (zb BK460.out 2).trans rfl;have hcz11_3 : w10.cell? ⟨gb460,3,none⟩ = some (.slice A2_3 l2_3.length c2_3) := (zb BK460.out 3).trans rfl;have hcz11_4 : w10.cell? ⟨gb460,4,none⟩ = some (.int .i64 a2_4) := (zb BK460.out 4).trans rfl;have hcz11_5 : w10.cell? ⟨gb460,5,none⟩ = some (.int .i64 a2_5) := (zb BK460.out 5).trans rfl;have hcz11_6 : w10.cell? ⟨gb460,6,none⟩ = some (.int .u64 a2_6) := (zb BK460.out 6).trans rfl;have hfz11_0 := za BK460.out 0;have hfz11_1 := za BK460.out 1;have hfz11_2 := za BK460.out 2;have hfz11_3 := za BK460.out 3;have hfz11_4 := za BK460.out 4;have hfz11_5 := za BK460.out 5;have hfz11_6 := za BK460.out 6) | ((with_reducible refine zp (f := 48) rfl ?_);refine z6 (some 12) rfl rfl Try.func48 (by kernel_rfl) rfl #[.agg #[.int .i64 a2_0,.int .i64 a2_1,.slice A2_2 l2_2.length c2_2,.slice A2_3 l2_3.length c2_3,.int .i64 a2_4,.int .i64 a2_5,.int .u64 a2_6],.int .i64 a0] rfl (by (try simp only [List.map_toArray,List.map_cons,List.map_nil]);first | done | rfl | (simp only [List.length_drop,List.length_take];rfl)) ?_;(with_reducible refine (zaM.calls a2_0 a2_1 _ _ l2_2 _ _ l2_3 a2_4 a2_5 a2_6 a0 t461 _ ?side1 ?side2 ?side3 ?side4 A4.out).mono ?_);(case side1 => repeat (first | exact (Kd.C_below HR2_2.out HB.out) | (with_reducible refine Kd.C_alloc ?_ _) | (with_reducible refine Kd.C_drewN ?_ _) | (with_reducible refine Kd.C_drew ?_)));(case side2 => exact HC2_2.out);(case side3 => repeat (first | exact (Kd.C_below HR2_3.out HB.out) | (with_reducible refine Kd.C_alloc ?_ _) | (with_reducible refine Kd.C_drewN ?_ _) | (with_reducible refine Kd.C_drew ?_)));(case side4 => exact HC2_3.out);rintro e w12 ⟨rfl,hb⟩;refine ⟨_,rfl,?_⟩;have n0_ := zc.mk (zh (g := gb460) (o := .cells #[.int .i64 a2_0,.int .i64 a2_1,.slice A2_2 l2_2.length c2_2,.slice A2_3 l2_3.length c2_3,.int .i64 a2_4,.int .i64 a2_5,.int .u64 a2_6] 36 (0,0)) (hGq BK460.out) hb);have n1_ := zc.mk (zg hCq hb);clear BK460;clear HB;have BK460 := n0_;have HB := n1_;clear n0_ n1_;(try clear hb);(try clear hb2);(try clear hk);(try clear hi);have hcz13_0 : w12.cell? ⟨gb460,0,none⟩ = some (.int .i64 a2_0) := (zb BK460.out 0).trans rfl;have hcz13_1 : w12.cell? ⟨gb460,1,none⟩ = some (.int .i64 a2_1) := (zb BK460.out 1).trans rfl;have hcz13_2 : w12.cell? ⟨gb460,2,none⟩ = some (.slice A2_2 l2_2.length c2_2) := (zb BK460.out 2).trans rfl;have hcz13_3 : w12.cell? ⟨gb460,3,none⟩ = some (.slice A2_3 l2_3.length c2_3) := (zb BK460.out 3).trans rfl;have hcz13_4 : w12.cell? ⟨gb460,4,none⟩ = some (.int .i64 a2_4) := (zb BK460.out 4).trans rfl;have hcz13_5 : w12.cell? ⟨gb460,5,none⟩ = some (.int .i64 a2_5) := (zb BK460.out 5).trans rfl;have hcz13_6 : w12.cell? ⟨gb460,6,none⟩ = some (.int .u64 a2_6) := (zb BK460.out 6).trans rfl;have hfz13_0 := za BK460.out 0;have hfz13_1 := za BK460.out 1;have hfz13_2 := za BK460.out 2;have hfz13_3 := za BK460.out 3;have hfz13_4 := za BK460.out 4;have hfz13_5 := za BK460.out 5;have hfz13_6 := za BK460.out 6) | ((with_reducible refine zp (f := 73) rfl ?_);refine z6 (some 20) rfl rfl Try.func73 (by kernel_rfl) rfl #[.agg #[.int .i64 a2_0,.int .i64 a2_1,.slice A2_2 l2_2.length c2_2,.slice A2_3 l2_3.length c2_3,.int .i64 a2_4,.int .i64 a2_5],.int .i64 a0] rfl (by (try simp only [List.map_toArray,List.map_cons,List.map_nil]);first | done | rfl | (simp only [List.length_drop,List.length_take];rfl)) ?_;(with_reducible refine (zbf.calls a2_0 a2_1 _ _ l2_2 _ _ l2_3 a2_4 a2_5 a0 t462 t463 _ ?side1 ?side2 ?side3 ?side4 A6.out).mono ?_);(case side1 => repeat (first | exact (Kd.C_below HR2_2.out HB.out) | (with_reducible refine Kd.C_alloc ?_ _) | (with_reducible refine Kd.C_drewN ?_ _) | (with_reducible refine Kd.C_drew ?_)));(case side2 => exact HC2_2.out);(case side3 => repeat (first | exact (Kd.C_below HR2_3.out HB.out) | (with_reducible refine Kd.C_alloc ?_ _) | (with_reducible refine Kd.C_drewN ?_ _) | (with_reducible refine Kd.C_drew ?_)));(case side4 => exact HC2_3.out);rintro e w14 ⟨rfl,hb⟩;refine ⟨_,rfl,?_⟩;have n0_ := zc.mk (zh (g := gb460) (o := .cells #[.int .i64 a2_0,.int .i64 a2_1,.slice A2_2 l2_2.length c2_2,.slice A2_3 l2_3.length c2_3,.int .i64 a2_4,.int .i64 a2_5,.int .u64 a2_6] 36 (0,0)) (hGq BK460.out) hb);have n1_ := zc.mk (zg hCq hb);clear BK460;clear HB;have BK460 := n0_;have HB := n1_;clear n0_ n1_;(try clear hb);(try clear hb2);(try clear hk);(try clear hi)))
   have n0_ := zc.mk (zf BK460.out)
   have n1_ := zc.mk (zB HB.out)
   clear BK460
   clear HB
   have BK460 := n0_
   have HB := n1_
   clear n0_ n1_
   refine zdg (n := 7) (S := fun w' => w'.cell? ⟨gb460,0,none⟩ = some (.int .i64 a2_0) ∧ w'.cell? ⟨gb460,1,none⟩ = some (.int .i64 a2_1) ∧ w'.cell? ⟨gb460,2,none⟩ = some (.slice A2_2 l2_2.length c2_2) ∧ w'.cell? ⟨gb460,3,none⟩ = some (.slice A2_3 l2_3.length c2_3) ∧ w'.cell? ⟨gb460,4,none⟩ = some (.int .i64 a2_4) ∧ w'.cell? ⟨gb460,5,none⟩ = some (.int .i64 a2_5) ∧ w'.cell? ⟨gb460,6,none⟩ = some (.int .u64 a2_6)) (ds := []) #[false,false,false,false,false,false,false] (by kernel_rfl) rfl rfl ⟨(zb BK460.out 0).trans rfl,(zb BK460.out 1).trans rfl,(zb BK460.out 2).trans rfl,(zb BK460.out 3).trans rfl,(zb BK460.out 4).trans rfl,(zb BK460.out 5).trans rfl,(zb BK460.out 6).trans rfl⟩ (fun hHeld => ?_)
   generalize w14.drew = w15 at BK460 HB hHeld ⊢
   refine zai (i := 0) (N := some 23) (v := ?_) (a' := ?_) #[true,false,false,false,false,false,false] rfl rfl (by kernel_rfl) (fun _ _ _ h => h) (Or.inl ⟨by rfl,?_⟩) ?_ ?_
   rotate_left
   ·intro w'
    go_simp
    with_reducible rfl
   rotate_left
   ·simp only [Act.put,List.setIfInBounds_toArray,List.set_cons_zero,List.set_cons_succ,zN,zQ]
    rfl
   refine zai (i := 1) (N := some 24) (v := ?_) (a' := ?_) #[true,true,false,false,false,false,false] rfl rfl (by kernel_rfl) (fun _ _ _ h => h) (Or.inl ⟨by rfl,?_⟩) ?_ ?_
   rotate_left
   ·intro w'
    go_simp
    with_reducible rfl
   rotate_left
   ·simp only [Act.put,List.setIfInBounds_toArray,List.set_cons_zero,List.set_cons_succ,zN,zQ]
    rfl
   refine zai (i := 3) (N := some 26) (v := ?_) (a' := ?_) #[true,true,false,true,false,false,false] rfl rfl (by kernel_rfl) (fun _ _ _ h => h) (Or.inl ⟨by rfl,?_⟩) ?_ ?_
   rotate_left
   ·intro w'
    go_simp
    with_reducible rfl
   rotate_left
   ·simp only [Act.put,List.setIfInBounds_toArray,List.set_cons_zero,List.set_cons_succ,zN,zQ]
    rfl
   refine take_ (i := 2) (N := some 25) (v := ?_) (a' := ?_) #[true,true,true,true,false,false,false] rfl rfl (by kernel_rfl) (fun _ _ _ h => h) (Or.inl ⟨by rfl,?_⟩) hHeld ?_ ?_
   rotate_left
   ·rintro w' ⟨s0,s1,s2,s3,s4,s5,s6⟩
    go_simp
    with_reducible rfl
   rotate_left
   ·simp only [Act.put,List.setIfInBounds_toArray,List.set_cons_zero,List.set_cons_succ,zN,zQ]
    rfl
   refine zc7 (i := 4) (N := some 27) #[true,true,true,true,true,false,false] rfl rfl (by kernel_rfl) (by decide) (fun K hK => ?_)
   refine zb4 Try.func47 (by kernel_rfl) rfl #[.string t462] (by rfl) rfl rfl (by (try simp only [List.map_toArray,List.map_cons,List.map_nil]);first | done | rfl | (simp only [List.length_drop,List.length_take];rfl)) ?_
   with_reducible refine (za3.calls t462 t464 _ A7.out).mono ?_
   rintro e w' ⟨rfl,⟨nd,rfl⟩⟩
   refine ⟨_,rfl,?_⟩
   refine hK.out _ _ ⟨(zb BK460.out 0).trans rfl,(zb BK460.out 1).trans rfl,(zb BK460.out 2).trans rfl,(zb BK460.out 3).trans rfl,(zb BK460.out 4).trans rfl,(zb BK460.out 5).trans rfl,(zb BK460.out 6).trans rfl⟩ (fun hHeld => ?_)
   clear hK K
   refine zb5 (a' := ?_) ?_ ?_
   rotate_left
   ·show Act.put _ (some 27) _ = _
    simp only [Act.put,List.setIfInBounds_toArray,List.set_cons_zero,List.set_cons_succ,zN,zQ]
    rfl
   refine zc7 (i := 5) (N := some 28) #[true,true,true,true,true,true,false] rfl rfl (by kernel_rfl) (by decide) (fun K hK => ?_)
   refine zb4 Try.func74 (by kernel_rfl) rfl #[.slice A1 l1.length c1,.int .u64 a2_6,.string t464] (by rfl) rfl rfl (by (try simp only [List.map_toArray,List.map_cons,List.map_nil]);first | done | rfl | (simp only [List.length_drop,List.length_take];rfl)) ?_
   with_reducible refine (zb7.calls k _ _ l1 a2_6 t464 true _ ?side1 ?side2 A8.out).mono ?_
   (case side1 => repeat (first | exact (Kd.C_below HR1.out hCq) | (with_reducible refine Kd.C_alloc ?_ _) | (with_reducible refine Kd.C_drewN ?_ _) | (with_reducible refine Kd.C_drew ?_)))
   (case side2 => exact HC1.out)
   rintro e w16 ⟨rfl,hb⟩
   refine ⟨_,rfl,?_⟩
   have n0_ := zc.mk (zh (g := gb460) (o := .cells #[.int .i64 a2_0,.int .i64 a2_1,.slice A2_2 l2_2.length c2_2,.slice A2_3 l2_3.length c2_3,.int .i64 a2_4,.int .i64 a2_5,.int .u64 a2_6] 36 (0,0)) (hGq BK460.out) hb)
   have n1_ := zc.mk (zg hCq hb)
   clear BK460
   clear HB
   have BK460 := n0_
   have HB := n1_
   clear n0_ n1_
   (try clear hb)
   (try clear hb2)
   (try clear hk)
   (try clear hi)
   refine hK.out _ _ ⟨(zb BK460.out 0).trans rfl,(zb BK460.out 1).trans rfl,(zb BK460.out 2).trans rfl,(zb BK460.out 3).trans rfl,(zb BK460.out 4).trans rfl,(zb BK460.out 5).trans rfl,(zb BK460.out 6).trans rfl⟩ (fun hHeld => ?_)
   clear hK K
   refine zb5 (a' := ?_) ?_ ?_
   rotate_left
   ·show Act.put _ (some 28) _ = _
    simp only [Act.put,List.setIfInBounds_toArray,List.set_cons_zero,List.set_cons_succ,zN,zQ]
    rfl
   refine zai (i := 6) (N := some 29) (v := ?_) (a' := ?_) #[true,true,true,true,true,true,true] rfl rfl (by kernel_rfl) (fun _ _ _ h => h) (Or.inl ⟨by rfl,?_⟩) ?_ ?_
   rotate_left
   ·intro w'
    go_simp
    with_reducible rfl
   rotate_left
   ·simp only [Act.put,List.setIfInBounds_toArray,List.set_cons_zero,List.set_cons_succ,zN,zQ]
    rfl
   refine zeg (by kernel_rfl) ?_
   try go_wp2
   go_ret
   exact ⟨hHq,hCq⟩
  ·replace c9 := Bool.eq_false_iff.mpr c9
   subst c9
   have H1 : (some 10) = some r := by rw [if_neg (show ¬ (false = true) by decide)] at H;exact H
   clear H
   have H := H1
   clear H1
   obtain rfl := Option.some.inj H
   go_enter Try.func46,Try.ntmps46
   try go_wp2_with (first | ((with_reducible refine zD (N := 5) rfl ?_);refine zq ?hg (N := 5) ?hd (cs := #[.int .i64 a2_0,.int .i64 a2_1,.slice A2_2 l2_2.length c2_2,.slice A2_3 l2_3.length c2_3,.int .i64 a2_4,.int .i64 a2_5,.int .u64 a2_6]) (t := 36) ?hr ?_;(case hd => rfl);(case hg => rfl);(case hr => first | (go_simp;done) | (go_simp;rfl));intro gb460 hg w17 hbox hb;have n0_ := zc.mk (zg hBq hb);have n1_ := zc.mk (hbox);have n2_ := zc.mk ((by rw [hg];exact (zj hBq) : w.heap.size ≤ gb460));have n3_ := zc.mk ((by rw [hg];exact (zj hBq) : w.heap.size ≤ gb460));clear HB;have HB := n0_;have BK460 := n1_;have GW460 := n2_;have GE460 := n3_;clear n0_ n1_ n2_ n3_;clear hb hbox hg;have hcz18_0 : w17.cell? ⟨gb460,0,none⟩ = some (.int .i64 a2_0) := (zb BK460.out 0).trans rfl;have hcz18_1 : w17.cell? ⟨gb460,1,none⟩ = some (.int .i64 a2_1) := (zb BK460.out 1).trans rfl;have hcz18_2 : w17.cell? ⟨gb460,2,none⟩ = some (.slice A2_2 l2_2.length c2_2) := (zb BK460.out 2).trans rfl;have hcz18_3 : w17.cell? ⟨gb460,3,none⟩ = some (.slice A2_3 l2_3.length c2_3) := (zb BK460.out 3).trans rfl;have hcz18_4 : w17.cell? ⟨gb460,4,none⟩ = some (.int .i64 a2_4) := (zb BK460.out 4).trans rfl;have hcz18_5 : w17.cell? ⟨gb460,5,none⟩ = some (.int .i64 a2_5) := (zb BK460.out 5).trans rfl;have hcz18_6 : w17.cell? ⟨gb460,6,none⟩ = some (.int .u64 a2_6) := (zb BK460.out 6).trans rfl;have hfz18_0 := za BK460.out 0;have hfz18_1 := za BK460.out 1;have hfz18_2 := za BK460.out 2;have hfz18_3 := za BK460.out 3;have hfz18_4 := za BK460.out 4;have hfz18_5 := za BK460.out 5;have hfz18_6 := za BK460.out 6) | ((with_reducible refine zp (f := 48) rfl ?_);refine z6 (some 12) rfl rfl Try.func48 (by kernel_rfl) rfl #[.agg #[.int .i64 a2_0,.int .i64 a2_1,.slice A2_2 l2_2.length c2_2,.slice A2_3 l2_3.length c2_3,.int .i64 a2_4,.int .i64 a2_5,.int .u64 a2_6],.int .i64 a0] rfl (by (try simp only [List.map_toArray,List.map_cons,List.map_nil]);first | done | rfl | (simp only [List.length_drop,List.length_take];rfl)) ?_;(with_reducible refine (zaM.calls a2_0 a2_1 _ _ l2_2 _ _ l2_3 a2_4 a2_5 a2_6 a0 t461 _ ?side1 ?side2 ?side3 ?side4 A4.out).mono ?_);(case side1 => repeat (first | exact (Kd.C_below HR2_2.out HB.out) | (with_reducible refine Kd.C_alloc ?_ _) | (with_reducible refine Kd.C_drewN ?_ _) | (with_reducible refine Kd.C_drew ?_)));(case side2 => exact HC2_2.out);(case side3 => repeat (first | exact (Kd.C_below HR2_3.out HB.out) | (with_reducible refine Kd.C_alloc ?_ _) | (with_reducible refine Kd.C_drewN ?_ _) | (with_reducible refine Kd.C_drew ?_)));(case side4 => exact HC2_3.out);rintro e w19 ⟨rfl,hb⟩;refine ⟨_,rfl,?_⟩;have n0_ := zc.mk (zh (g := gb460) (o := .cells #[.int .i64 a2_0,.int .i64 a2_1,.slice A2_2 l2_2.length c2_2,.slice A2_3 l2_3.length c2_3,.int .i64 a2_4,.int .i64 a2_5,.int .u64 a2_6] 36 (0,0)) (hGq BK460.out) hb);have n1_ := zc.mk (zg hCq hb);clear BK460;clear HB;have BK460 := n0_;have HB := n1_;clear n0_ n1_;(try clear hb);(try clear hb2);(try clear hk);(try clear hi);have hcz20_0 : w19.cell? ⟨gb460,0,none⟩ = some (.int .i64 a2_0) := (zb BK460.out 0).trans rfl;have hcz20_1 : w19.cell? ⟨gb460,1,none⟩ = some (.int .i64 a2_1) := (zb BK460.out 1).trans rfl;have hcz20_2 : w19.cell? ⟨gb460,2,none⟩ = some (.slice A2_2 l2_2.length c2_2) := (zb BK460.out 2).trans rfl;have hcz20_3 : w19.cell? ⟨gb460,3,none⟩ = some (.slice A2_3 l2_3.length c2_3) := (zb BK460.out 3).trans rfl;have hcz20_4 : w19.cell? ⟨gb460,4,none⟩ = some (.int .i64 a2_4) := (zb BK460.out 4).trans rfl;have hcz20_5 : w19.cell? ⟨gb460,5,none⟩ = some (.int .i64 a2_5) := (zb BK460.out 5).trans rfl;have hcz20_6 : w19.cell? ⟨gb460,6,none⟩ = some (.int .u64 a2_6) := (zb BK460.out 6).trans rfl;have hfz20_0 := za BK460.out 0;have hfz20_1 := za BK460.out 1;have hfz20_2 := za BK460.out 2;have hfz20_3 := za BK460.out 3;have hfz20_4 := za BK460.out 4;have hfz20_5 := za BK460.out 5;have hfz20_6 := za BK460.out 6) | ((with_reducible refine zp (f := 73) rfl ?_);refine z6 (some 20) rfl rfl Try.func73 (by kernel_rfl) rfl #[.agg #[.int .i64 a2_0,.int .i64 a2_1,.slice A2_2 l2_2.length c2_2,.slice A2_3 l2_3.length c2_3,.int .i64 a2_4,.int .i64 a2_5],.int .i64 a0] rfl (by (try simp only [List.map_toArray,List.map_cons,List.map_nil]);first | done | rfl | (simp only [List.length_drop,List.length_take];rfl)) ?_;(with_reducible refine (zbf.calls a2_0 a2_1 _ _ l2_2 _ _ l2_3 a2_4 a2_5 a0 t462 t463 _ ?side1 ?side2 ?side3 ?side4 A6.out).mono ?_);(case side1 => repeat (first | exact (Kd.C_below HR2_2.out HB.out) | (with_reducible refine Kd.C_alloc ?_ _) | (with_reducible refine Kd.C_drewN ?_ _) | (with_reducible refine Kd.C_drew ?_)));(case side2 => exact HC2_2.out);(case side3 => repeat (first | exact (Kd.C_below HR2_3.out HB.out) | (with_reducible refine Kd.C_alloc ?_ _) | (with_reducible refine Kd.C_drewN ?_ _) | (with_reducible refine Kd.C_drew ?_)));(case side4 => exact HC2_3.out);rintro e w21 ⟨rfl,hb⟩;refine ⟨_,rfl,?_⟩;have n0_ := zc.mk (zh (g := gb460) (o := .cells #[.int .i64 a2_0,.int .i64 a2_1,.slice A2_2 l2_2.length c2_2,.slice A2_3 l2_3.length c2_3,.int .i64 a2_4,.int .i64 a2_5,.int .u64 a2_6] 36 (0,0)) (hGq BK460.out) hb);have n1_ := zc.mk (zg hCq hb);clear BK460;clear HB;have BK460 := n0_;have HB := n1_;clear n0_ n1_;(try clear hb);(try clear hb2);(try clear hk);(try clear hi)))
   have n0_ := zc.mk (zf BK460.out)
   have n1_ := zc.mk (zB HB.out)
   clear BK460
   clear HB
   have BK460 := n0_
   have HB := n1_
   clear n0_ n1_
   refine zdg (n := 7) (S := fun w' => w'.cell? ⟨gb460,0,none⟩ = some (.int .i64 a2_0) ∧ w'.cell? ⟨gb460,1,none⟩ = some (.int .i64 a2_1) ∧ w'.cell? ⟨gb460,2,none⟩ = some (.slice A2_2 l2_2.length c2_2) ∧ w'.cell? ⟨gb460,3,none⟩ = some (.slice A2_3 l2_3.length c2_3) ∧ w'.cell? ⟨gb460,4,none⟩ = some (.int .i64 a2_4) ∧ w'.cell? ⟨gb460,5,none⟩ = some (.int .i64 a2_5) ∧ w'.cell? ⟨gb460,6,none⟩ = some (.int .u64 a2_6)) (ds := []) #[false,false,false,false,false,false,false] (by kernel_rfl) rfl rfl ⟨(zb BK460.out 0).trans rfl,(zb BK460.out 1).trans rfl,(zb BK460.out 2).trans rfl,(zb BK460.out 3).trans rfl,(zb BK460.out 4).trans rfl,(zb BK460.out 5).trans rfl,(zb BK460.out 6).trans rfl⟩ (fun hHeld => ?_)
   generalize w21.drew = w22 at BK460 HB hHeld ⊢
   refine zai (i := 0) (N := some 23) (v := ?_) (a' := ?_) #[true,false,false,false,false,false,false] rfl rfl (by kernel_rfl) (fun _ _ _ h => h) (Or.inl ⟨by rfl,?_⟩) ?_ ?_
   rotate_left
   ·intro w'
    go_simp
    with_reducible rfl
   rotate_left
   ·simp only [Act.put,List.setIfInBounds_toArray,List.set_cons_zero,List.set_cons_succ,zN,zQ]
    rfl
   refine zai (i := 1) (N := some 24) (v := ?_) (a' := ?_) #[true,true,false,false,false,false,false] rfl rfl (by kernel_rfl) (fun _ _ _ h => h) (Or.inl ⟨by rfl,?_⟩) ?_ ?_
   rotate_left
   ·intro w'
    go_simp
    with_reducible rfl
   rotate_left
   ·simp only [Act.put,List.setIfInBounds_toArray,List.set_cons_zero,List.set_cons_succ,zN,zQ]
    rfl
   refine zai (i := 3) (N := some 26) (v := ?_) (a' := ?_) #[true,true,false,true,false,false,false] rfl rfl (by kernel_rfl) (fun _ _ _ h => h) (Or.inl ⟨by rfl,?_⟩) ?_ ?_
   rotate_left
   ·intro w'
    go_simp
    with_reducible rfl
   rotate_left
   ·simp only [Act.put,List.setIfInBounds_toArray,List.set_cons_zero,List.set_cons_succ,zN,zQ]
    rfl
   refine take_ (i := 2) (N := some 25) (v := ?_) (a' := ?_) #[true,true,true,true,false,false,false] rfl rfl (by kernel_rfl) (fun _ _ _ h => h) (Or.inl ⟨by rfl,?_⟩) hHeld ?_ ?_
   rotate_left
   ·rintro w' ⟨s0,s1,s2,s3,s4,s5,s6⟩
    go_simp
    with_reducible rfl
   rotate_left
   ·simp only [Act.put,List.setIfInBounds_toArray,List.set_cons_zero,List.set_cons_succ,zN,zQ]
    rfl
   refine zc7 (i := 4) (N := some 27) #[true,true,true,true,true,false,false] rfl rfl (by kernel_rfl) (by decide) (fun K hK => ?_)
   refine zb4 Try.func47 (by kernel_rfl) rfl #[.string t462] (by rfl) rfl rfl (by (try simp only [List.map_toArray,List.map_cons,List.map_nil]);first | done | rfl | (simp only [List.length_drop,List.length_take];rfl)) ?_
   with_reducible refine (za3.calls t462 t464 _ A7.out).mono ?_
   rintro e w' ⟨rfl,⟨nd,rfl⟩⟩
   refine ⟨_,rfl,?_⟩
   refine hK.out _ _ ⟨(zb BK460.out 0).trans rfl,(zb BK460.out 1).trans rfl,(zb BK460.out 2).trans rfl,(zb BK460.out 3).trans rfl,(zb BK460.out 4).trans rfl,(zb BK460.out 5).trans rfl,(zb BK460.out 6).trans rfl⟩ (fun hHeld => ?_)
   clear hK K
   refine zb5 (a' := ?_) ?_ ?_
   rotate_left
   ·show Act.put _ (some 27) _ = _
    simp only [Act.put,List.setIfInBounds_toArray,List.set_cons_zero,List.set_cons_succ,zN,zQ]
    rfl
   refine zc7 (i := 5) (N := some 28) #[true,true,true,true,true,true,false] rfl rfl (by kernel_rfl) (by decide) (fun K hK => ?_)
   refine zb4 Try.func74 (by kernel_rfl) rfl #[.slice A1 l1.length c1,.int .u64 a2_6,.string t464] (by rfl) rfl rfl (by (try simp only [List.map_toArray,List.map_cons,List.map_nil]);first | done | rfl | (simp only [List.length_drop,List.length_take];rfl)) ?_
   with_reducible refine (zb7.calls k _ _ l1 a2_6 t464 false _ ?side1 ?side2 A8.out).mono ?_
   (case side1 => repeat (first | exact (Kd.C_below HR1.out hCq) | (with_reducible refine Kd.C_alloc ?_ _) | (with_reducible refine Kd.C_drewN ?_ _) | (with_reducible refine Kd.C_drew ?_)))
   (case side2 => exact HC1.out)
   rintro e w23 ⟨rfl,hb⟩
   refine ⟨_,rfl,?_⟩
   have n0_ := zc.mk (zh (g := gb460) (o := .cells #[.int .i64 a2_0,.int .i64 a2_1,.slice A2_2 l2_2.length c2_2,.slice A2_3 l2_3.length c2_3,.int .i64 a2_4,.int .i64 a2_5,.int .u64 a2_6] 36 (0,0)) (hGq BK460.out) hb)
   have n1_ := zc.mk (zg hCq hb)
   clear BK460
   clear HB
   have BK460 := n0_
   have HB := n1_
   clear n0_ n1_
   (try clear hb)
   (try clear hb2)
   (try clear hk)
   (try clear hi)
   refine hK.out _ _ ⟨(zb BK460.out 0).trans rfl,(zb BK460.out 1).trans rfl,(zb BK460.out 2).trans rfl,(zb BK460.out 3).trans rfl,(zb BK460.out 4).trans rfl,(zb BK460.out 5).trans rfl,(zb BK460.out 6).trans rfl⟩ (fun hHeld => ?_)
   clear hK K
   refine zb5 (a' := ?_) ?_ ?_
   rotate_left
   ·show Act.put _ (some 28) _ = _
    simp only [Act.put,List.setIfInBounds_toArray,List.set_cons_zero,List.set_cons_succ,zN,zQ]
    rfl
   refine zai (i := 6) (N := some 29) (v := ?_) (a' := ?_) #[true,true,true,true,true,true,true] rfl rfl (by kernel_rfl) (fun _ _ _ h => h) (Or.inl ⟨by rfl,?_⟩) ?_ ?_
   rotate_left
   ·intro w'
    go_simp
    with_reducible rfl
   rotate_left
   ·simp only [Act.put,List.setIfInBounds_toArray,List.set_cons_zero,List.set_cons_succ,zN,zQ]
    rfl
   refine zeg (by kernel_rfl) ?_
   try go_wp2
   go_ret
   exact ⟨hHq,hCq⟩
 ·rw [if_neg c5] at H
  have c5b0 : (t461 == 0) = false := beq_eq_false_iff_ne.mpr c5
  have c5b1 : (t461 != 0) = true := bne_iff_ne.mpr c5
  obtain rfl := Option.some.inj H
  go_enter Try.func46,Try.ntmps46
  go_wp2_with (first | ((with_reducible refine zD (N := 5) rfl ?_);refine zq ?hg (N := 5) ?hd (cs := #[.int .i64 a2_0,.int .i64 a2_1,.slice A2_2 l2_2.length c2_2,.slice A2_3 l2_3.length c2_3,.int .i64 a2_4,.int .i64 a2_5,.int .u64 a2_6]) (t := 36) ?hr ?_;(case hd => rfl);(case hg => rfl);(case hr => first | (go_simp;done) | (go_simp;rfl));intro gb460 hg w24 hbox hb;have n0_ := zc.mk (zg hBq hb);have n1_ := zc.mk (hbox);have n2_ := zc.mk ((by rw [hg];exact (zj hBq) : w.heap.size ≤ gb460));have n3_ := zc.mk ((by rw [hg];exact (zj hBq) : w.heap.size ≤ gb460));clear HB;have HB := n0_;have BK460 := n1_;have GW460 := n2_;have GE460 := n3_;clear n0_ n1_ n2_ n3_;clear hb hbox hg;have hcz25_0 : w24.cell? ⟨gb460,0,none⟩ = some (.int .i64 a2_0) := (zb BK460.out 0).trans rfl;have hcz25_1 : w24.cell? ⟨gb460,1,none⟩ = some (.int .i64 a2_1) := (zb BK460.out 1).trans rfl;have hcz25_2 : w24.cell? ⟨gb460,2,none⟩ = some (.slice A2_2 l2_2.length c2_2) := (zb BK460.out 2).trans rfl;have hcz25_3 : w24.cell? ⟨gb460,3,none⟩ = some (.slice A2_3 l2_3.length c2_3) := (zb BK460.out 3).trans rfl;have hcz25_4 : w24.cell? ⟨gb460,4,none⟩ = some (.int .i64 a2_4) := (zb BK460.out 4).trans rfl;have hcz25_5 : w24.cell? ⟨gb460,5,none⟩ = some (.int .i64 a2_5) := (zb BK460.out 5).trans rfl;have hcz25_6 : w24.cell? ⟨gb460,6,none⟩ = some (.int .u64 a2_6) := (zb BK460.out 6).trans rfl;have hfz25_0 := za BK460.out 0;have hfz25_1 := za BK460.out 1;have hfz25_2 := za BK460.out 2;have hfz25_3 := za BK460.out 3;have hfz25_4 := za BK460.out 4;have hfz25_5 := za BK460.out 5;have hfz25_6 := za BK460.out 6) | ((with_reducible refine zp (f := 48) rfl ?_);refine z6 (some 12) rfl rfl Try.func48 (by kernel_rfl) rfl #[.agg #[.int .i64 a2_0,.int .i64 a2_1,.slice A2_2 l2_2.length c2_2,.slice A2_3 l2_3.length c2_3,.int .i64 a2_4,.int .i64 a2_5,.int .u64 a2_6],.int .i64 a0] rfl (by (try simp only [List.map_toArray,List.map_cons,List.map_nil]);first | done | rfl | (simp only [List.length_drop,List.length_take];rfl)) ?_;(with_reducible refine (zaM.calls a2_0 a2_1 _ _ l2_2 _ _ l2_3 a2_4 a2_5 a2_6 a0 t461 _ ?side1 ?side2 ?side3 ?side4 A4.out).mono ?_);(case side1 => repeat (first | exact (Kd.C_below HR2_2.out HB.out) | (with_reducible refine Kd.C_alloc ?_ _) | (with_reducible refine Kd.C_drewN ?_ _) | (with_reducible refine Kd.C_drew ?_)));(case side2 => exact HC2_2.out);(case side3 => repeat (first | exact (Kd.C_below HR2_3.out HB.out) | (with_reducible refine Kd.C_alloc ?_ _) | (with_reducible refine Kd.C_drewN ?_ _) | (with_reducible refine Kd.C_drew ?_)));(case side4 => exact HC2_3.out);rintro e w26 ⟨rfl,hb⟩;refine ⟨_,rfl,?_⟩;have n0_ := zc.mk (zh (g := gb460) (o := .cells #[.int .i64 a2_0,.int .i64 a2_1,.slice A2_2 l2_2.length c2_2,.slice A2_3 l2_3.length c2_3,.int .i64 a2_4,.int .i64 a2_5,.int .u64 a2_6] 36 (0,0)) (hGq BK460.out) hb);have n1_ := zc.mk (zg hCq hb);clear BK460;clear HB;have BK460 := n0_;have HB := n1_;clear n0_ n1_;(try clear hb);(try clear hb2);(try clear hk);(try clear hi)))
  go_ret
  exact ⟨hHq,hCq⟩
end Go.Proofs.Ytgdpiegkoeikiaa.Px