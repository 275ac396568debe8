/- Part 13 of 24 of the proof of the law CertGrows: what is proved is the statement at the end of the last part; its conditions are those of the given row. -/
import Derived.Test.YtcncoepijagadaaZCertGrowsI
import Derived.Test.YtcncoepijagadaaZCertGrowsL
namespace Go.Proofs.Ytcncoepijagadaa.Px
open Go.RowKit Go.Proofs.YtcncoepijagadaaW.PrintWords Go.Proofs.YtcncoepijagadaaW.PrintLast Go.Proofs.YtcncoepijagadaaW.PrintMore
attribute [local go_sem] zp zr zy zz zl zm zq zs
set_option linter.unusedVariables false
set_option linter.unusedSimpArgs false
def zam.f (a0_0 : Int) (a0_1 : Int) (l0_2 : List (S50)) (l0_3 : List ByteArray) (a0_4 : Int) (a0_5 : Int) (a1 : Int) : Option (ByteArray × Int) := (zae.f a0_0 a0_1 l0_2 l0_3 a0_4 a0_5 a1).bind fun bt138 => (if bt138.2 = 0 then (if 1 + bt138.1.size ≤ 9223372036854775807 then ((zbk.f ((⟨#[118]⟩ : ByteArray) ++ bt138.1)).bind fun t140 => (some (t140,0))) else (none)) else (some ((⟨#[]⟩ : ByteArray),bt138.2)))
set_option maxHeartbeats 8000000 in
set_option maxRecDepth 100000 in
theorem zam.calls (a0_0 : Int) (a0_1 : Int) (A0_2 : Option Addr) (c0_2 : Nat) (l0_2 : List (S50)) (A0_3 : Option Addr) (c0_3 : Nat) (l0_3 : List ByteArray) (a0_4 : Int) (a0_5 : Int) (a1 : Int) (r1 : ByteArray) (r2 : Int) (w : World) (hr0_2 : Kd.C k50 w A0_2 l0_2.length l0_2) (hc0_2 : l0_2.length ≤ c0_2) (hr0_3 : Kd.C Kd.string w A0_3 l0_3.length l0_3) (hc0_3 : l0_3.length ≤ c0_3) (h : zam.f a0_0 a0_1 l0_2 l0_3 a0_4 a0_5 a1 = some (r1,r2)) :
  Calls Try.prog 11 #[.agg #[.int .i64 a0_0,.int .i64 a0_1,.slice A0_2 l0_2.length c0_2,.slice A0_3 l0_3.length c0_3,.int .i64 a0_4,.int .i64 a0_5],.int .i64 a1] w fun e w' => e = .returned (.tuple #[.string r1,.int .i64 r2]) ∧ Below w.heap.size w w' := by
 have hu28 := Try.underlying28
 have HR0_2 := za.mk hr0_2
 have HC0_2 := za.mk hc0_2
 clear hr0_2 hc0_2
 have HR0_3 := za.mk hr0_3
 have HC0_3 := za.mk hc0_3
 clear hr0_3 hc0_3
 have HB := za.mk (Below.refl w.heap.size w)
 have H : ((zae.f a0_0 a0_1 l0_2 l0_3 a0_4 a0_5 a1).bind fun bt138 => (if bt138.2 = 0 then (if 1 + bt138.1.size ≤ 9223372036854775807 then ((zbk.f ((⟨#[118]⟩ : ByteArray) ++ bt138.1)).bind fun t140 => (some (t140,0))) else (none)) else (some ((⟨#[]⟩ : ByteArray),bt138.2)))) = some (r1,r2) := h
 clear h
 replace H := Option.bind_eq_some_iff.mp H
 obtain ⟨⟨t138,t139⟩,A30,H⟩ := H
 replace H : (if t139 = 0 then (if 1 + t138.size ≤ 9223372036854775807 then ((zbk.f ((⟨#[118]⟩ : ByteArray) ++ t138)).bind fun t140 => (some (t140,0))) else (none)) else (some ((⟨#[]⟩ : ByteArray),t139))) = some (r1,r2) := H
 have A3 := za.mk A30
 clear A30
 by_cases c4 : t139 = 0
 ·rw [if_pos c4] at H
  have c4b0 : (t139 == 0) = true := beq_iff_eq.mpr c4
  have c4b1 : (t139 != 0) = false := bne_eq_false_iff_eq.mpr c4
  clear c4
  by_cases c5 : 1 + t138.size ≤ 9223372036854775807
  ·rw [if_pos c5] at H
   have c5b0 := eq_true c5
   have c5b1 : decide (1 + t138.size ≤ 9223372036854775807) = true := decide_eq_true c5
   try have c5b2 : (9223372036854775807 < 1 + t138.size) = False := eq_false (Nat.not_lt.2 c5)
   replace H := Option.bind_eq_some_iff.mp H
   obtain ⟨t140,A60,H⟩ := H
   replace H : (some (t140,0)) = some (r1,r2) := H
   have A6 := za.mk A60
   clear A60
   simp only [Option.some.injEq,Prod.mk.injEq] at H
   obtain ⟨rfl,rfl⟩ := H
   go_enter Try.func11,Try.ntmps11
   go_wp2_with (first | ((with_reducible refine zo (N := 2) rfl ?_);refine zk rfl (N := 2) rfl (cs := #[.int .i64 a0_0,.int .i64 a0_1,.slice A0_2 l0_2.length c0_2,.slice A0_3 l0_3.length c0_3,.int .i64 a0_4,.int .i64 a0_5]) (t := 28) hrq ?_;intro gb137 hg w7 hbox hb;have n_ := haq (zd hBq hb) <| haq (hbox) <| haq ((by rw [hg];exact (zf hBq) : w.heap.size ≤ gb137)) <| haq ((by rw [hg];exact (zf hBq) : w.heap.size ≤ gb137)) <| trivial;clear HB;obtain ⟨HB,BK137,GW137,GE137,_⟩ := n_;clear hb hbox hg;obtain ⟨hcz8_0,hcz8_1,hcz8_2,hcz8_3,hcz8_4,hcz8_5,hfz8_0,hfz8_1,hfz8_2,hfz8_3,hfz8_4,hfz8_5⟩ := hcq6 BK137.out) | ((with_reducible refine zv (f := 25) rfl ?_);refine zT (some 11) rfl rfl Try.func25 (by kernel_rfl) rfl #[.agg #[.int .i64 a0_0,.int .i64 a0_1,.slice A0_2 l0_2.length c0_2,.slice A0_3 l0_3.length c0_3,.int .i64 a0_4,.int .i64 a0_5],.int .i64 a1] rfl hMq ?_;(with_reducible refine (zae.calls a0_0 a0_1 _ _ l0_2 _ _ l0_3 a0_4 a0_5 a1 t138 t139 _ ?side1 ?side2 ?side3 ?side4 A3.out).mono ?_);(case side1 => exact hKq (Kd.C_below HR0_2.out HB.out));(case side2 => exact HC0_2.out);(case side3 => exact hKq (Kd.C_below HR0_3.out HB.out));(case side4 => exact HC0_3.out);rintro e w9 ⟨rfl,hb⟩;refine ⟨_,rfl,?_⟩;have n_ := haq (hbq BK137.out hb) <| haq (zd hCq hb) <| trivial;clear BK137 HB;obtain ⟨BK137,HB,_⟩ := n_;(try clear hb);(try clear hb2);(try clear hk);(try clear hi)) | ((with_reducible refine zv (f := 26) rfl ?_);refine zT (some 19) rfl rfl Try.func26 (by kernel_rfl) rfl #[.string ((⟨#[118]⟩ : ByteArray) ++ t138)] rfl hMq ?_;(with_reducible refine (zbk.calls ((⟨#[118]⟩ : ByteArray) ++ t138) t140 _ A6.out).mono ?_);rintro e w10 ⟨rfl,hb⟩;refine ⟨_,rfl,?_⟩;have n_ := haq (hbq BK137.out hb) <| haq (zd hCq hb) <| trivial;clear BK137 HB;obtain ⟨BK137,HB,_⟩ := n_;(try clear hb);(try clear hb2);(try clear hk);(try clear hi)))
   go_ret2
   exact ⟨hHq,hCq⟩
  ·rw [if_neg c5] at H
   exact absurd H (by simp)
 ·rw [if_neg c4] at H
  have c4b0 : (t139 == 0) = false := beq_eq_false_iff_ne.mpr c4
  have c4b1 : (t139 != 0) = true := bne_iff_ne.mpr c4
  simp only [Option.some.injEq,Prod.mk.injEq] at H
  obtain ⟨rfl,rfl⟩ := H
  go_enter Try.func11,Try.ntmps11
  go_wp2_with (first | ((with_reducible refine zo (N := 2) rfl ?_);refine zk rfl (N := 2) rfl (cs := #[.int .i64 a0_0,.int .i64 a0_1,.slice A0_2 l0_2.length c0_2,.slice A0_3 l0_3.length c0_3,.int .i64 a0_4,.int .i64 a0_5]) (t := 28) hrq ?_;intro gb137 hg w11 hbox hb;have n_ := haq (zd hBq hb) <| haq (hbox) <| haq ((by rw [hg];exact (zf hBq) : w.heap.size ≤ gb137)) <| haq ((by rw [hg];exact (zf hBq) : w.heap.size ≤ gb137)) <| trivial;clear HB;obtain ⟨HB,BK137,GW137,GE137,_⟩ := n_;clear hb hbox hg;obtain ⟨hcz12_0,hcz12_1,hcz12_2,hcz12_3,hcz12_4,hcz12_5,hfz12_0,hfz12_1,hfz12_2,hfz12_3,hfz12_4,hfz12_5⟩ := hcq6 BK137.out) | ((with_reducible refine zv (f := 25) rfl ?_);refine zT (some 11) rfl rfl Try.func25 (by kernel_rfl) rfl #[.agg #[.int .i64 a0_0,.int .i64 a0_1,.slice A0_2 l0_2.length c0_2,.slice A0_3 l0_3.length c0_3,.int .i64 a0_4,.int .i64 a0_5],.int .i64 a1] rfl hMq ?_;(with_reducible refine (zae.calls a0_0 a0_1 _ _ l0_2 _ _ l0_3 a0_4 a0_5 a1 t138 t139 _ ?side1 ?side2 ?side3 ?side4 A3.out).mono ?_);(case side1 => exact hKq (Kd.C_below HR0_2.out HB.out));(case side2 => exact HC0_2.out);(case side3 => exact hKq (Kd.C_below HR0_3.out HB.out));(case side4 => exact HC0_3.out);rintro e w13 ⟨rfl,hb⟩;refine ⟨_,rfl,?_⟩;have n_ := haq (hbq BK137.out hb) <| haq (zd hCq hb) <| trivial;clear BK137 HB;obtain ⟨BK137,HB,_⟩ := n_;(try clear hb);(try clear hb2);(try clear hk);(try clear hi)))
  go_ret2
  exact ⟨hHq,hCq⟩
def zaj.f (k : Nat) (a0 : Int) (l1 : List (S40)) (a2_0 : Int) (a2_1 : Int) (l2_2 : List (S50)) (l2_3 : List ByteArray) (a2_4 : Int) (a2_5 : Int) (a2_6 : Int) : Option (Int) := (zbv.f a2_0 a2_1 l2_2 l2_3 a2_4 a2_5 a2_6 a0).bind fun t148 => (if t148 = 0 then ((zam.f a2_0 a2_1 l2_2 l2_3 a2_4 a2_5 a0).bind fun bt149 => ((zaz.f bt149.1).bind fun t151 => ((zby.f k l1 a2_6 t151).bind fun t152 => (if t152 = true then (some 0) else (some 10))))) else (some t148))
set_option maxHeartbeats 8000000 in
set_option maxRecDepth 100000 in
theorem zaj.calls (k : Nat) (a0 : Int) (A1 : Option Addr) (c1 : Nat) (l1 : List (S40)) (a2_0 : Int) (a2_1 : Int) (A2_2 : Option Addr) (c2_2 : Nat) (l2_2 : List (S50)) (A2_3 : Option Addr) (c2_3 : Nat) (l2_3 : List ByteArray) (a2_4 : Int) (a2_5 : Int) (a2_6 : Int) (r : Int) (w : World) (hr1 : Kd.C k40 w A1 l1.length l1) (hc1 : l1.length ≤ c1) (hr2_2 : Kd.C k50 w A2_2 l2_2.length l2_2) (hc2_2 : l2_2.length ≤ c2_2) (hr2_3 : Kd.C Kd.string w A2_3 l2_3.length l2_3) (hc2_3 : l2_3.length ≤ c2_3) (h : zaj.f k a0 l1 a2_0 a2_1 l2_2 l2_3 a2_4 a2_5 a2_6 = some r) :
  Calls Try.prog 5 #[.int .i64 a0,.slice A1 l1.length c1,.agg #[.int .i64 a2_0,.int .i64 a2_1,.slice A2_2 l2_2.length c2_2,.slice A2_3 l2_3.length c2_3,.int .i64 a2_4,.int .i64 a2_5,.int .u64 a2_6]] w fun e w' => e = .returned (.int .i64 r) ∧ Below w.heap.size w w' := by
 have hu31 := Try.underlying31
 have hu28 := Try.underlying28
 have HR1 := za.mk hr1
 have HC1 := za.mk hc1
 clear hr1 hc1
 have HR2_2 := za.mk hr2_2
 have HC2_2 := za.mk hc2_2
 clear hr2_2 hc2_2
 have HR2_3 := za.mk hr2_3
 have HC2_3 := za.mk hc2_3
 clear hr2_3 hc2_3
 have HB := za.mk (Below.refl w.heap.size w)
 have H : ((zbv.f a2_0 a2_1 l2_2 l2_3 a2_4 a2_5 a2_6 a0).bind fun t148 => (if t148 = 0 then ((zam.f a2_0 a2_1 l2_2 l2_3 a2_4 a2_5 a0).bind fun bt149 => ((zaz.f bt149.1).bind fun t151 => ((zby.f k l1 a2_6 t151).bind fun t152 => (if t152 = true then (some 0) else (some 10))))) else (some t148))) = some r := h
 clear h
 replace H := Option.bind_eq_some_iff.mp H
 obtain ⟨t148,A40,H⟩ := H
 replace H : (if t148 = 0 then ((zam.f a2_0 a2_1 l2_2 l2_3 a2_4 a2_5 a0).bind fun bt149 => ((zaz.f bt149.1).bind fun t151 => ((zby.f k l1 a2_6 t151).bind fun t152 => (if t152 = true then (some 0) else (some 10))))) else (some t148)) = some r := H
 have A4 := za.mk A40
 clear A40
 by_cases c5 : t148 = 0
 ·rw [if_pos c5] at H
  have c5b0 : (t148 == 0) = true := beq_iff_eq.mpr c5
  have c5b1 : (t148 != 0) = false := bne_eq_false_iff_eq.mpr c5
  clear c5
  replace H := Option.bind_eq_some_iff.mp H
  obtain ⟨⟨t149,t150⟩,A60,H⟩ := H
  replace H : ((zaz.f t149).bind fun t151 => ((zby.f k l1 a2_6 t151).bind fun t152 => (if t152 = true then (some 0) else (some 10)))) = some r := H
  have A6 := za.mk A60
  clear A60
  replace H := Option.bind_eq_some_iff.mp H
  obtain ⟨t151,A70,H⟩ := H
  replace H : ((zby.f k l1 a2_6 t151).bind fun t152 => (if t152 = true then (some 0) else (some 10))) = some r := H
  have A7 := za.mk A70
  clear A70
  replace H := Option.bind_eq_some_iff.mp H
  obtain ⟨t152,A80,H⟩ := H
  replace H : (if t152 = true then (some 0) else (some 10)) = some r := H
  have A8 := za.mk A80
  clear A80
  by_cases c9 : t152 = true
  ·subst c9
   have H1 : (some 0) = some r := by rw [if_pos rfl] at H;exact H
   clear H
   have H := H1
   clear H1
   obtain rfl := Option.some.inj H
   go_enter Try.func5,Try.ntmps5
   try go_wp2_with (first | ((with_reducible refine zo (N := 5) rfl ?_);refine zk rfl (N := 5) rfl (cs := #[.int .i64 a2_0,.int .i64 a2_1,.slice A2_2 l2_2.length c2_2,.slice A2_3 l2_3.length c2_3,.int .i64 a2_4,.int .i64 a2_5,.int .u64 a2_6]) (t := 31) hrq ?_;intro gb147 hg w10 hbox hb;have n_ := haq (zd hBq hb) <| haq (hbox) <| haq ((by rw [hg];exact (zf hBq) : w.heap.size ≤ gb147)) <| haq ((by rw [hg];exact (zf hBq) : w.heap.size ≤ gb147)) <| trivial;clear HB;obtain ⟨HB,BK147,GW147,GE147,_⟩ := n_;clear hb hbox hg;obtain ⟨hcz11_0,hcz11_1,hcz11_2,hcz11_3,hcz11_4,hcz11_5,hcz11_6,hfz11_0,hfz11_1,hfz11_2,hfz11_3,hfz11_4,hfz11_5,hfz11_6⟩ := hcq7 BK147.out) | ((with_reducible refine zv (f := 10) rfl ?_);refine zT (some 12) rfl rfl Try.func10 (by kernel_rfl) rfl #[.agg #[.int .i64 a2_0,.int .i64 a2_1,.slice A2_2 l2_2.length c2_2,.slice A2_3 l2_3.length c2_3,.int .i64 a2_4,.int .i64 a2_5,.int .u64 a2_6],.int .i64 a0] rfl hMq ?_;(with_reducible refine (zbv.calls a2_0 a2_1 _ _ l2_2 _ _ l2_3 a2_4 a2_5 a2_6 a0 t148 _ ?side1 ?side2 ?side3 ?side4 A4.out).mono ?_);(case side1 => exact hKq (Kd.C_below HR2_2.out HB.out));(case side2 => exact HC2_2.out);(case side3 => exact hKq (Kd.C_below HR2_3.out HB.out));(case side4 => exact HC2_3.out);rintro e w12 ⟨rfl,hb⟩;refine ⟨_,rfl,?_⟩;have n_ := haq (hbq BK147.out hb) <| haq (zd hCq hb) <| trivial;clear BK147 HB;obtain ⟨BK147,HB,_⟩ := n_;(try clear hb);(try clear hb2);(try clear hk);(try clear hi);obtain ⟨hcz13_0,hcz13_1,hcz13_2,hcz13_3,hcz13_4,hcz13_5,hcz13_6,hfz13_0,hfz13_1,hfz13_2,hfz13_3,hfz13_4,hfz13_5,hfz13_6⟩ := hcq7 BK147.out) | ((with_reducible refine zv (f := 11) rfl ?_);refine zT (some 20) rfl rfl Try.func11 (by kernel_rfl) rfl #[.agg #[.int .i64 a2_0,.int .i64 a2_1,.slice A2_2 l2_2.length c2_2,.slice A2_3 l2_3.length c2_3,.int .i64 a2_4,.int .i64 a2_5],.int .i64 a0] rfl hMq ?_;(with_reducible refine (zam.calls a2_0 a2_1 _ _ l2_2 _ _ l2_3 a2_4 a2_5 a0 t149 t150 _ ?side1 ?side2 ?side3 ?side4 A6.out).mono ?_);(case side1 => exact hKq (Kd.C_below HR2_2.out HB.out));(case side2 => exact HC2_2.out);(case side3 => exact hKq (Kd.C_below HR2_3.out HB.out));(case side4 => exact HC2_3.out);rintro e w14 ⟨rfl,hb⟩;refine ⟨_,rfl,?_⟩;have n_ := haq (hbq BK147.out hb) <| haq (zd hCq hb) <| trivial;clear BK147 HB;obtain ⟨BK147,HB,_⟩ := n_;(try clear hb);(try clear hb2);(try clear hk);(try clear hi)))
   have n0_ := za.mk (zav BK147.out)
   have n1_ := za.mk (zn HB.out)
   clear BK147
   clear HB
   have BK147 := n0_
   have HB := n1_
   clear n0_ n1_
   refine zcq (n := 7) (S := fun w' => w'.cell? ⟨gb147,0,none⟩ = some (.int .i64 a2_0) ∧ w'.cell? ⟨gb147,1,none⟩ = some (.int .i64 a2_1) ∧ w'.cell? ⟨gb147,2,none⟩ = some (.slice A2_2 l2_2.length c2_2) ∧ w'.cell? ⟨gb147,3,none⟩ = some (.slice A2_3 l2_3.length c2_3) ∧ w'.cell? ⟨gb147,4,none⟩ = some (.int .i64 a2_4) ∧ w'.cell? ⟨gb147,5,none⟩ = some (.int .i64 a2_5) ∧ w'.cell? ⟨gb147,6,none⟩ = some (.int .u64 a2_6)) (ds := []) (uQ 7 0) (by kernel_rfl) rfl rfl ⟨(zb BK147.out 0).trans rfl,(zb BK147.out 1).trans rfl,(zb BK147.out 2).trans rfl,(zb BK147.out 3).trans rfl,(zb BK147.out 4).trans rfl,(zb BK147.out 5).trans rfl,(zb BK147.out 6).trans rfl⟩ (fun hHeld => ?_)
   generalize w14.drew = w15 at BK147 HB hHeld ⊢
   refine za4 (i := 0) (N := some 23) (uQ 7 1) rfl rfl (by kernel_rfl) (fun _ _ _ h => h) (Or.inl ⟨by rfl,by intro w';go_simp;with_reducible rfl⟩) hPq ?_
   refine za4 (i := 1) (N := some 24) (uQ 7 2) rfl rfl (by kernel_rfl) (fun _ _ _ h => h) (Or.inl ⟨by rfl,by intro w';go_simp;with_reducible rfl⟩) hPq ?_
   refine za4 (i := 3) (N := some 26) #[true,true,false,true,false,false,false] rfl rfl (by kernel_rfl) (fun _ _ _ h => h) (Or.inl ⟨by rfl,by intro w';go_simp;with_reducible rfl⟩) hPq ?_
   refine take_ (i := 2) (N := some 25) (uQ 7 4) rfl rfl (by kernel_rfl) (fun _ _ _ h => h) (Or.inl ⟨by rfl,by rintro w' ⟨s0,s1,s2,s3,s4,s5,s6⟩;go_simp;with_reducible rfl⟩) hHeld hPq ?_
   refine zcg (i := 4) (N := some 27) (uQ 7 5) rfl rfl (by kernel_rfl) (by decide) (fun K hK => ?_)
   refine zbz Try.func9 (by kernel_rfl) rfl #[.string t149] (by rfl) rfl rfl hMq ?_
   with_reducible refine (zaz.calls t149 t151 _ A7.out).mono ?_
   rintro e w' ⟨rfl,⟨nd,rfl⟩⟩
   refine ⟨_,rfl,?_⟩
   refine hK.out _ _ ⟨(zb BK147.out 0).trans rfl,(zb BK147.out 1).trans rfl,(zb BK147.out 2).trans rfl,(zb BK147.out 3).trans rfl,(zb BK147.out 4).trans rfl,(zb BK147.out 5).trans rfl,(zb BK147.out 6).trans rfl⟩ (fun hHeld => ?_)
   clear hK K
   refine zbr (a' := ?_) ?_ ?_
   rotate_left
   ·show Act.put _ (some 27) _ = _
    simp only [Act.put,List.setIfInBounds_toArray,List.set_cons_zero,List.set_cons_succ,zaB,zaL]
    rfl
   refine zcg (i := 5) (N := some 28) (uQ 7 6) rfl rfl (by kernel_rfl) (by decide) (fun K hK => ?_)
   refine zbz Try.func12 (by kernel_rfl) rfl #[.slice A1 l1.length c1,.int .u64 a2_6,.string t151] (by rfl) rfl rfl hMq ?_
   with_reducible refine (zby.calls k _ _ l1 a2_6 t151 true _ ?side1 ?side2 A8.out).mono ?_
   (case side1 => repeat (first | exact (Kd.C_below HR1.out hCq) | (with_reducible refine Kd.C_alloc ?_ _) | (with_reducible refine Kd.C_drewN ?_ _) | (with_reducible refine Kd.C_drew ?_)))
   (case side2 => exact HC1.out)
   rintro e w16 ⟨rfl,hb⟩
   refine ⟨_,rfl,?_⟩
   have n0_ := za.mk (hbq BK147.out hb)
   have n1_ := za.mk (zd hCq hb)
   clear BK147
   clear HB
   have BK147 := n0_
   have HB := n1_
   clear n0_ n1_
   (try clear hb)
   (try clear hb2)
   (try clear hk)
   (try clear hi)
   refine hK.out _ _ ⟨(zb BK147.out 0).trans rfl,(zb BK147.out 1).trans rfl,(zb BK147.out 2).trans rfl,(zb BK147.out 3).trans rfl,(zb BK147.out 4).trans rfl,(zb BK147.out 5).trans rfl,(zb BK147.out 6).trans rfl⟩ (fun hHeld => ?_)
   clear hK K
   refine zbr (a' := ?_) ?_ ?_
   rotate_left
   ·show Act.put _ (some 28) _ = _
    simp only [Act.put,List.setIfInBounds_toArray,List.set_cons_zero,List.set_cons_succ,zaB,zaL]
    rfl
   refine za4 (i := 6) (N := some 29) (uQ 7 7) rfl rfl (by kernel_rfl) (fun _ _ _ h => h) (Or.inl ⟨by rfl,by intro w';go_simp;with_reducible rfl⟩) hPq ?_
   refine zdc (by kernel_rfl) ?_
   try go_wp2
   go_ret
   exact ⟨hHq,hCq⟩
  ·replace c9 := Bool.eq_false_iff.mpr c9
   subst c9
   have H1 : (some 10) = some r := by rw [if_neg (show ¬ (false = true) by decide)] at H;exact H
   clear H
   have H := H1
   clear H1
   obtain rfl := Option.some.inj H
   go_enter Try.func5,Try.ntmps5
   try go_wp2_with (first | ((with_reducible refine zo (N := 5) rfl ?_);refine zk rfl (N := 5) rfl (cs := #[.int .i64 a2_0,.int .i64 a2_1,.slice A2_2 l2_2.length c2_2,.slice A2_3 l2_3.length c2_3,.int .i64 a2_4,.int .i64 a2_5,.int .u64 a2_6]) (t := 31) hrq ?_;intro gb147 hg w17 hbox hb;have n_ := haq (zd hBq hb) <| haq (hbox) <| haq ((by rw [hg];exact (zf hBq) : w.heap.size ≤ gb147)) <| haq ((by rw [hg];exact (zf hBq) : w.heap.size ≤ gb147)) <| trivial;clear HB;obtain ⟨HB,BK147,GW147,GE147,_⟩ := n_;clear hb hbox hg;obtain ⟨hcz18_0,hcz18_1,hcz18_2,hcz18_3,hcz18_4,hcz18_5,hcz18_6,hfz18_0,hfz18_1,hfz18_2,hfz18_3,hfz18_4,hfz18_5,hfz18_6⟩ := hcq7 BK147.out) | ((with_reducible refine zv (f := 10) rfl ?_);refine zT (some 12) rfl rfl Try.func10 (by kernel_rfl) rfl #[.agg #[.int .i64 a2_0,.int .i64 a2_1,.slice A2_2 l2_2.length c2_2,.slice A2_3 l2_3.length c2_3,.int .i64 a2_4,.int .i64 a2_5,.int .u64 a2_6],.int .i64 a0] rfl hMq ?_;(with_reducible refine (zbv.calls a2_0 a2_1 _ _ l2_2 _ _ l2_3 a2_4 a2_5 a2_6 a0 t148 _ ?side1 ?side2 ?side3 ?side4 A4.out).mono ?_);(case side1 => exact hKq (Kd.C_below HR2_2.out HB.out));(case side2 => exact HC2_2.out);(case side3 => exact hKq (Kd.C_below HR2_3.out HB.out));(case side4 => exact HC2_3.out);rintro e w19 ⟨rfl,hb⟩;refine ⟨_,rfl,?_⟩;have n_ := haq (hbq BK147.out hb) <| haq (zd hCq hb) <| trivial;clear BK147 HB;obtain ⟨BK147,HB,_⟩ := n_;(try clear hb);(try clear hb2);(try clear hk);(try clear hi);obtain ⟨hcz20_0,hcz20_1,hcz20_2,hcz20_3,hcz20_4,hcz20_5,hcz20_6,hfz20_0,hfz20_1,hfz20_2,hfz20_3,hfz20_4,hfz20_5,hfz20_6⟩ := hcq7 BK147.out) | ((with_reducible refine zv (f := 11) rfl ?_);refine zT (some 20) rfl rfl Try.func11 (by kernel_rfl) rfl #[.agg #[.int .i64 a2_0,.int .i64 a2_1,.slice A2_2 l2_2.length c2_2,.slice A2_3 l2_3.length c2_3,.int .i64 a2_4,.int .i64 a2_5],.int .i64 a0] rfl hMq ?_;(with_reducible refine (zam.calls a2_0 a2_1 _ _ l2_2 _ _ l2_3 a2_4 a2_5 a0 t149 t150 _ ?side1 ?side2 ?side3 ?side4 A6.out).mono ?_);(case side1 => exact hKq (Kd.C_below HR2_2.out HB.out));(case side2 => exact HC2_2.out);(case side3 => exact hKq (Kd.C_below HR2_3.out HB.out));(case side4 => exact HC2_3.out);rintro e w21 ⟨rfl,hb⟩;refine ⟨_,rfl,?_⟩;have n_ := haq (hbq BK147.out hb) <| haq (zd hCq hb) <| trivial;clear BK147 HB;obtain ⟨BK147,HB,_⟩ := n_;(try clear hb);(try clear hb2);(try clear hk);(try clear hi)))
   have n0_ := za.mk (zav BK147.out)
   have n1_ := za.mk (zn HB.out)
   clear BK147
   clear HB
   have BK147 := n0_
   have HB := n1_
   clear n0_ n1_
   refine zcq (n := 7) (S := fun w' => w'.cell? ⟨gb147,0,none⟩ = some (.int .i64 a2_0) ∧ w'.cell? ⟨gb147,1,none⟩ = some (.int .i64 a2_1) ∧ w'.cell? ⟨gb147,2,none⟩ = some (.slice A2_2 l2_2.length c2_2) ∧ w'.cell? ⟨gb147,3,none⟩ = some (.slice A2_3 l2_3.length c2_3) ∧ w'.cell? ⟨gb147,4,none⟩ = some (.int .i64 a2_4) ∧ w'.cell? ⟨gb147,5,none⟩ = some (.int .i64 a2_5) ∧ w'.cell? ⟨gb147,6,none⟩ = some (.int .u64 a2_6)) (ds := []) (uQ 7 0) (by kernel_rfl) rfl rfl ⟨(zb BK147.out 0).trans rfl,(zb BK147.out 1).trans rfl,(zb BK147.out 2).trans rfl,(zb BK147.out 3).trans rfl,(zb BK147.out 4).trans rfl,(zb BK147.out 5).trans rfl,(zb BK147.out 6).trans rfl⟩ (fun hHeld => ?_)
   generalize w21.drew = w22 at BK147 HB hHeld ⊢
   refine za4 (i := 0) (N := some 23) (uQ 7 1) rfl rfl (by kernel_rfl) (fun _ _ _ h => h) (Or.inl ⟨by rfl,by intro w';go_simp;with_reducible rfl⟩) hPq ?_
   refine za4 (i := 1) (N := some 24) (uQ 7 2) rfl rfl (by kernel_rfl) (fun _ _ _ h => h) (Or.inl ⟨by rfl,by intro w';go_simp;with_reducible rfl⟩) hPq ?_
   refine za4 (i := 3) (N := some 26) #[true,true,false,true,false,false,false] rfl rfl (by kernel_rfl) (fun _ _ _ h => h) (Or.inl ⟨by rfl,by intro w';go_simp;with_reducible rfl⟩) hPq ?_
   refine take_ (i := 2) (N := some 25) (uQ 7 4) rfl rfl (by kernel_rfl) (fun _ _ _ h => h) (Or.inl ⟨by rfl,by rintro w' ⟨s0,s1,s2,s3,s4,s5,s6⟩;go_simp;with_reducible rfl⟩) hHeld hPq ?_
   refine zcg (i := 4) (N := some 27) (uQ 7 5) rfl rfl (by kernel_rfl) (by decide) (fun K hK => ?_)
   refine zbz Try.func9 (by kernel_rfl) rfl #[.string t149] (by rfl) rfl rfl hMq ?_
   with_reducible refine (zaz.calls t149 t151 _ A7.out).mono ?_
   rintro e w' ⟨rfl,⟨nd,rfl⟩⟩
   refine ⟨_,rfl,?_⟩
   refine hK.out _ _ ⟨(zb BK147.out 0).trans rfl,(zb BK147.out 1).trans rfl,(zb BK147.out 2).trans rfl,(zb BK147.out 3).trans rfl,(zb BK147.out 4).trans rfl,(zb BK147.out 5).trans rfl,(zb BK147.out 6).trans rfl⟩ (fun hHeld => ?_)
   clear hK K
   refine zbr (a' := ?_) ?_ ?_
   rotate_left
   ·show Act.put _ (some 27) _ = _
    simp only [Act.put,List.setIfInBounds_toArray,List.set_cons_zero,List.set_cons_succ,zaB,zaL]
    rfl
   refine zcg (i := 5) (N := some 28) (uQ 7 6) rfl rfl (by kernel_rfl) (by decide) (fun K hK => ?_)
   refine zbz Try.func12 (by kernel_rfl) rfl #[.slice A1 l1.length c1,.int .u64 a2_6,.string t151] (by rfl) rfl rfl hMq ?_
   with_reducible refine (zby.calls k _ _ l1 a2_6 t151 false _ ?side1 ?side2 A8.out).mono ?_
   (case side1 => repeat (first | exact (Kd.C_below HR1.out hCq) | (with_reducible refine Kd.C_alloc ?_ _) | (with_reducible refine Kd.C_drewN ?_ _) | (with_reducible refine Kd.C_drew ?_)))
   (case side2 => exact HC1.out)
   rintro e w23 ⟨rfl,hb⟩
   refine ⟨_,rfl,?_⟩
   have n0_ := za.mk (hbq BK147.out hb)
   have n1_ := za.mk (zd hCq hb)
   clear BK147
   clear HB
   have BK147 := n0_
   have HB := n1_
   clear n0_ n1_
   (try clear hb)
   (try clear hb2)
   (try clear hk)
   (try clear hi)
   refine hK.out _ _ ⟨(zb BK147.out 0).trans rfl,(zb BK147.out 1).trans rfl,(zb BK147.out 2).trans rfl,(zb BK147.out 3).trans rfl,(zb BK147.out 4).trans rfl,(zb BK147.out 5).trans rfl,(zb BK147.out 6).trans rfl⟩ (fun hHeld => ?_)
   clear hK K
   refine zbr (a' := ?_) ?_ ?_
   rotate_left
   ·show Act.put _ (some 28) _ = _
    simp only [Act.put,List.setIfInBounds_toArray,List.set_cons_zero,List.set_cons_succ,zaB,zaL]
    rfl
   refine za4 (i := 6) (N := some 29) (uQ 7 7) rfl rfl (by kernel_rfl) (fun _ _ _ h => h) (Or.inl ⟨by rfl,by intro w';go_simp;with_reducible rfl⟩) hPq ?_
   refine zdc (by kernel_rfl) ?_
   try go_wp2
   go_ret
   exact ⟨hHq,hCq⟩
 ·rw [if_neg c5] at H
  have c5b0 : (t148 == 0) = false := beq_eq_false_iff_ne.mpr c5
  have c5b1 : (t148 != 0) = true := bne_iff_ne.mpr c5
  obtain rfl := Option.some.inj H
  go_enter Try.func5,Try.ntmps5
  go_wp2_with (first | ((with_reducible refine zo (N := 5) rfl ?_);refine zk rfl (N := 5) rfl (cs := #[.int .i64 a2_0,.int .i64 a2_1,.slice A2_2 l2_2.length c2_2,.slice A2_3 l2_3.length c2_3,.int .i64 a2_4,.int .i64 a2_5,.int .u64 a2_6]) (t := 31) hrq ?_;intro gb147 hg w24 hbox hb;have n_ := haq (zd hBq hb) <| haq (hbox) <| haq ((by rw [hg];exact (zf hBq) : w.heap.size ≤ gb147)) <| haq ((by rw [hg];exact (zf hBq) : w.heap.size ≤ gb147)) <| trivial;clear HB;obtain ⟨HB,BK147,GW147,GE147,_⟩ := n_;clear hb hbox hg;obtain ⟨hcz25_0,hcz25_1,hcz25_2,hcz25_3,hcz25_4,hcz25_5,hcz25_6,hfz25_0,hfz25_1,hfz25_2,hfz25_3,hfz25_4,hfz25_5,hfz25_6⟩ := hcq7 BK147.out) | ((with_reducible refine zv (f := 10) rfl ?_);refine zT (some 12) rfl rfl Try.func10 (by kernel_rfl) rfl #[.agg #[.int .i64 a2_0,.int .i64 a2_1,.slice A2_2 l2_2.length c2_2,.slice A2_3 l2_3.length c2_3,.int .i64 a2_4,.int .i64 a2_5,.int .u64 a2_6],.int .i64 a0] rfl hMq ?_;(with_reducible refine (zbv.calls a2_0 a2_1 _ _ l2_2 _ _ l2_3 a2_4 a2_5 a2_6 a0 t148 _ ?side1 ?side2 ?side3 ?side4 A4.out).mono ?_);(case side1 => exact hKq (Kd.C_below HR2_2.out HB.out));(case side2 => exact HC2_2.out);(case side3 => exact hKq (Kd.C_below HR2_3.out HB.out));(case side4 => exact HC2_3.out);rintro e w26 ⟨rfl,hb⟩;refine ⟨_,rfl,?_⟩;have n_ := haq (hbq BK147.out hb) <| haq (zd hCq hb) <| trivial;clear BK147 HB;obtain ⟨BK147,HB,_⟩ := n_;(try clear hb);(try clear hb2);(try clear hk);(try clear hi)))
  go_ret
  exact ⟨hHq,hCq⟩
def zbu.f (a0_0 : Int) (a0_1 : Int) (l0_2 : List ByteArray) : Option (ByteArray × Int) := (zad.f a0_0 a0_1 l0_2).bind fun bt209 => (if bt209.2 = 0 then (if 1 + bt209.1.size ≤ 9223372036854775807 then ((zbk.f ((⟨#[98]⟩ : ByteArray) ++ bt209.1)).bind fun t211 => (some (t211,0))) else (none)) else (some ((⟨#[]⟩ : ByteArray),bt209.2)))
set_option maxHeartbeats 8000000 in
set_option maxRecDepth 100000 in
theorem zbu.calls (a0_0 : Int) (a0_1 : Int) (A0_2 : Option Addr) (c0_2 : Nat) (l0_2 : List ByteArray) (r1 : ByteArray) (r2 : Int) (w : World) (hr0_2 : Kd.C Kd.string w A0_2 l0_2.length l0_2) (hc0_2 : l0_2.length ≤ c0_2) (h : zbu.f a0_0 a0_1 l0_2 = some (r1,r2)) :
  Calls Try.prog 14 #[.agg #[.int .i64 a0_0,.int .i64 a0_1,.slice A0_2 l0_2.length c0_2]] w fun e w' => e = .returned (.tuple #[.string r1,.int .i64 r2]) ∧ Below w.heap.size w w' := by
 have hu50 := Try.underlying50
 have HR0_2 := za.mk hr0_2
 have HC0_2 := za.mk hc0_2
 clear hr0_2 hc0_2
 have HB := za.mk (Below.refl w.heap.size w)
 have H : ((zad.f a0_0 a0_1 l0_2).bind fun bt209 => (if bt209.2 = 0 then (if 1 + bt209.1.size ≤ 9223372036854775807 then ((zbk.f ((⟨#[98]⟩ : ByteArray) ++ bt209.1)).bind fun t211 => (some (t211,0))) else (none)) else (some ((⟨#[]⟩ : ByteArray),bt209.2)))) = some (r1,r2) := h
 clear h
 replace H := Option.bind_eq_some_iff.mp H
 obtain ⟨⟨t209,t210⟩,A20,H⟩ := H
 replace H : (if t210 = 0 then (if 1 + t209.size ≤ 9223372036854775807 then ((zbk.f ((⟨#[98]⟩ : ByteArray) ++ t209)).bind fun t211 => (some (t211,0))) else (none)) else (some ((⟨#[]⟩ : ByteArray),t210))) = some (r1,r2) := H
 have A2 := za.mk A20
 clear A20
 by_cases c3 : t210 = 0
 ·rw [if_pos c3] at H
  have c3b0 : (t210 == 0) = true := beq_iff_eq.mpr c3
  have c3b1 : (t210 != 0) = false := bne_eq_false_iff_eq.mpr c3
  clear c3
  by_cases c4 : 1 + t209.size ≤ 9223372036854775807
  ·rw [if_pos c4] at H
   have c4b0 := eq_true c4
   have c4b1 : decide (1 + t209.size ≤ 9223372036854775807) = true := decide_eq_true c4
   try have c4b2 : (9223372036854775807 < 1 + t209.size) = False := eq_false (Nat.not_lt.2 c4)
   replace H := Option.bind_eq_some_iff.mp H
   obtain ⟨t211,A50,H⟩ := H
   replace H : (some (t211,0)) = some (r1,r2) := H
   have A5 := za.mk A50
   clear A50
   simp only [Option.some.injEq,Prod.mk.injEq] at H
   obtain ⟨rfl,rfl⟩ := H
   go_enter Try.func14,Try.ntmps14
   go_wp2_with (first | ((with_reducible refine zo (N := 1) rfl ?_);refine zk rfl (N := 1) rfl (cs := #[.int .i64 a0_0,.int .i64 a0_1,.slice A0_2 l0_2.length c0_2]) (t := 50) hrq ?_;intro gb208 hg w6 hbox hb;have n_ := haq (zd hBq hb) <| haq (hbox) <| haq ((by rw [hg];exact (zf hBq) : w.heap.size ≤ gb208)) <| haq ((by rw [hg];exact (zf hBq) : w.heap.size ≤ gb208)) <| trivial;clear HB;obtain ⟨HB,BK208,GW208,GE208,_⟩ := n_;clear hb hbox hg;obtain ⟨hcz7_0,hcz7_1,hcz7_2,hfz7_0,hfz7_1,hfz7_2⟩ := hcq3 BK208.out) | ((with_reducible refine zv (f := 28) rfl ?_);refine zT (some 8) rfl rfl Try.func28 (by kernel_rfl) rfl #[.agg #[.int .i64 a0_0,.int .i64 a0_1,.slice A0_2 l0_2.length c0_2]] rfl hMq ?_;(with_reducible refine (zad.calls a0_0 a0_1 _ _ l0_2 t209 t210 _ ?side1 ?side2 A2.out).mono ?_);(case side1 => exact hKq (Kd.C_below HR0_2.out HB.out));(case side2 => exact HC0_2.out);rintro e w8 ⟨rfl,hb⟩;refine ⟨_,rfl,?_⟩;have n_ := haq (hbq BK208.out hb) <| haq (zd hCq hb) <| trivial;clear BK208 HB;obtain ⟨BK208,HB,_⟩ := n_;(try clear hb);(try clear hb2);(try clear hk);(try clear hi)) | ((with_reducible refine zv (f := 26) rfl ?_);refine zT (some 16) rfl rfl Try.func26 (by kernel_rfl) rfl #[.string ((⟨#[98]⟩ : ByteArray) ++ t209)] rfl hMq ?_;(with_reducible refine (zbk.calls ((⟨#[98]⟩ : ByteArray) ++ t209) t211 _ A5.out).mono ?_);rintro e w9 ⟨rfl,hb⟩;refine ⟨_,rfl,?_⟩;have n_ := haq (hbq BK208.out hb) <| haq (zd hCq hb) <| trivial;clear BK208 HB;obtain ⟨BK208,HB,_⟩ := n_;(try clear hb);(try clear hb2);(try clear hk);(try clear hi)))
   go_ret2
   exact ⟨hHq,hCq⟩
  ·rw [if_neg c4] at H
   exact absurd H (by simp)
 ·rw [if_neg c3] at H
  have c3b0 : (t210 == 0) = false := beq_eq_false_iff_ne.mpr c3
  have c3b1 : (t210 != 0) = true := bne_iff_ne.mpr c3
  simp only [Option.some.injEq,Prod.mk.injEq] at H
  obtain ⟨rfl,rfl⟩ := H
  go_enter Try.func14,Try.ntmps14
  go_wp2_with (first | ((with_reducible refine zo (N := 1) rfl ?_);refine zk rfl (N := 1) rfl (cs := #[.int .i64 a0_0,.int .i64 a0_1,.slice A0_2 l0_2.length c0_2]) (t := 50) hrq ?_;intro gb208 hg w10 hbox hb;have n_ := haq (zd hBq hb) <| haq (hbox) <| haq ((by rw [hg];exact (zf hBq) : w.heap.size ≤ gb208)) <| haq ((by rw [hg];exact (zf hBq) : w.heap.size ≤ gb208)) <| trivial;clear HB;obtain ⟨HB,BK208,GW208,GE208,_⟩ := n_;clear hb hbox hg;obtain ⟨hcz11_0,hcz11_1,hcz11_2,hfz11_0,hfz11_1,hfz11_2⟩ := hcq3 BK208.out) | ((with_reducible refine zv (f := 28) rfl ?_);refine zT (some 8) rfl rfl Try.func28 (by kernel_rfl) rfl #[.agg #[.int .i64 a0_0,.int .i64 a0_1,.slice A0_2 l0_2.length c0_2]] rfl hMq ?_;(with_reducible refine (zad.calls a0_0 a0_1 _ _ l0_2 t209 t210 _ ?side1 ?side2 A2.out).mono ?_);(case side1 => exact hKq (Kd.C_below HR0_2.out HB.out));(case side2 => exact HC0_2.out);rintro e w12 ⟨rfl,hb⟩;refine ⟨_,rfl,?_⟩;have n_ := haq (hbq BK208.out hb) <| haq (zd hCq hb) <| trivial;clear BK208 HB;obtain ⟨BK208,HB,_⟩ := n_;(try clear hb);(try clear hb2);(try clear hk);(try clear hi)))
  go_ret2
  exact ⟨hHq,hCq⟩
theorem eqA40 (d : Nat) (w : World) (x0 y0 : Int) (x1 y1 : ByteArray) :
  (Op.equalIn (d + 2) 40 (.agg #[.int .i64 x0,.string x1]) (.agg #[.int .i64 y0,.string y1])).run Try.prog w = .ok (x0 == y0 && (x1.toList == y1.toList)) w := by
 refine eqA_of Try.underlying40 (by kernel_rfl) ?_
 refine zh5 (by rfl) (by go_simp;rfl) (by go_simp;rfl) (by go_simp) ?_
 exact zh6 (by rfl) (by go_simp;rfl) (by go_simp;rfl) (by go_simp)
end Go.Proofs.Ytcncoepijagadaa.Px
namespace Go.Proofs.Ytcncoepijagadaa.Px
open Go.RowKit Go.Proofs.YtcncoepijagadaaW.PrintWords Go.Proofs.YtcncoepijagadaaW.PrintLast Go.Proofs.YtcncoepijagadaaW.PrintMore
attribute [local go_sem] zp zr zy zz zl zm zq zs
set_option linter.unusedVariables false
set_option linter.unusedSimpArgs false
attribute [local go_sem high] eqA40
def za8.l0 : Nat → List (S40) → Int → Int → Int → ByteArray → Option (Bool)
 | 0,_,_,_,_,_ => none
 | k + 1,x7,x8,x9,x213000,x213001 => if x9 < x8 then (if 0 ≤ x9 then (if x9 < (x7.length : Int) then (if (((zR x7 x9).f0) == x213000 && ((((zR x7 x9).f1).toList) == x213001.toList)) = true then (some true) else (za8.l0 k x7 x8 (wrap64 (x9 + 1)) x213000 x213001)) else (none)) else (none)) else (some false)
def za8.f (k : Nat) (l0 : List (S40)) (a1_0 : Int) (a1_1 : ByteArray) : Option (Bool) := za8.l0 k l0 (l0.length : Int) 0 a1_0 a1_1
set_option maxHeartbeats 8000000 in
set_option maxRecDepth 100000 in
theorem za8.calls (k : Nat) (A0 : Option Addr) (c0 : Nat) (l0 : List (S40)) (a1_0 : Int) (a1_1 : ByteArray) (r : Bool) (w : World) (hr0 : Kd.C k40 w A0 l0.length l0) (hc0 : l0.length ≤ c0) (h : za8.f k l0 a1_0 a1_1 = some r) :
  Calls Try.prog 31 #[.slice A0 l0.length c0,.agg #[.int .i64 a1_0,.string a1_1]] w fun e w' => e = .returned (.bool r) ∧ Below w.heap.size w w' := by
 have hu40 := Try.underlying40
 have HR0 := za.mk hr0
 have HC0 := za.mk hc0
 clear hr0 hc0
 have HB := za.mk (Below.refl w.heap.size w)
 have H : (za8.l0 k l0 (l0.length : Int) 0 a1_0 a1_1) = some r := h
 clear h
 have H' := za.mk H
 clear H
 go_enter Try.func31,Try.ntmps31
 go_wp2_with (first | ((with_reducible refine zo (N := 3) rfl ?_);refine zk rfl (N := 3) rfl (cs := #[.int .i64 a1_0,.string a1_1]) (t := 40) hrq ?_;intro gb212 hg w3 hbox hb;have n_ := haq (zd hBq hb) <| haq (hbox) <| haq ((by rw [hg];exact (zf hBq) : w.heap.size ≤ gb212)) <| haq ((by rw [hg];exact (zf hBq) : w.heap.size ≤ gb212)) <| trivial;clear HB;obtain ⟨HB,BK212,GW212,GE212,_⟩ := n_;clear hb hbox hg))
 go_loopg [9] k (fun kq v9 w' => ∃ (x9_1 : Int),v9 = .int .i64 x9_1 ∧ za (za8.l0 kq l0 (l0.length : Int) x9_1 a1_0 a1_1 = some r) ∧ za (kq ≤ k) ∧ za (w'.heap[gb212]? = some (.cells #[.int .i64 a1_0,.string a1_1] 40 (0,0))) ∧ za (Below w.heap.size w w'))
 case atStart => exact ⟨(0),(hDq),H',⟨Nat.le_refl _⟩,⟨hGq BK212.out⟩,⟨by repeat (first | (with_reducible first | exact HB.out | apply zw | apply zg | apply zn | refine zE ?_ GE212.out) | exact HB.out)⟩⟩
 case round =>
  clear H'
  try clear p2;try clear c3
  obtain ⟨x9_1,rfl,HA,HK1,BK212,HB⟩ := hrel
  cases gk with
  | zero => exact absurd HA.out (by simp [za8.l0])
  | succ k1 =>
   have H := HA.out
   clear HA
   simp only [za8.l0] at H
   by_cases c4 : x9_1 < (l0.length : Int)
   ·rw [if_pos c4] at H
    have c4b0 : decide (x9_1 < (l0.length : Int)) = true := decide_eq_true c4
    clear c4
    by_cases c5 : 0 ≤ x9_1
    ·rw [if_pos c5] at H
     have c5b0 : decide (0 ≤ x9_1) = true := decide_eq_true c5
     clear c5
     by_cases c6 : x9_1 < (l0.length : Int)
     ·rw [if_pos c6] at H
      have c6b0 : decide (x9_1 < (l0.length : Int)) = true := decide_eq_true c6
      clear c6
      by_cases c7 : (((zR l0 x9_1).f0) == a1_0 && ((((zR l0 x9_1).f1).toList) == a1_1.toList)) = true
      ·rw [if_pos c7] at H
       have c7b0 : (((zR l0 x9_1).f0) == a1_0 && ((((zR l0 x9_1).f1).toList) == a1_1.toList)) = true := c7
       (try (have c7b1 : decide (((zR l0 x9_1).f0) = a1_0 && ((((zR l0 x9_1).f1).toList) == a1_1.toList)) = true := by simpa using c7))
       (try (have c7b2 : (((zR l0 x9_1).f0) == a1_0 && ((((zR l0 x9_1).f1).toList) == a1_1.toList)) = true := by simpa using c7))
       clear c7
       obtain rfl := Option.some.inj H
       have p213 : 0 ≤ (x9_1 : Int) := hFq
       have q213 : x9_1 < (l0.length : Int) := hFq
       obtain ⟨ad213,e213,hx213_0,hx213_1⟩ := zcy HR0.out x9_1 p213 q213
       cases e213
       replace hx213_0 := (HB.out.cell (World.block_lt_of_cell? w _ hx213_0)).trans hx213_0
       replace hx213_1 := (HB.out.cell (World.block_lt_of_cell? w _ hx213_1)).trans hx213_1
       replace p213 := eq_true p213
       replace q213 := eq_true q213
       go_wp2_with (first | ((with_reducible refine zo (N := 6) rfl ?_);refine zk rfl (N := 6) rfl (cs := #[.int .i64 0,.string (⟨#[]⟩ : ByteArray)]) (t := 40) hrq ?_;intro gb214 hg w8 hbox hb;have n_ := haq (hbq BK212.out hb) <| haq (zd hCq hb) <| haq (hbox) <| haq ((by rw [hg];exact (zf hCq) : w.heap.size ≤ gb214)) <| haq ((by rw [hg];exact (zf hCq) : w.heap.size ≤ gb214)) <| haq (hnq hg BK212.out) <| haq (hmq hg BK212.out) <| trivial;clear BK212 HB;obtain ⟨BK212,HB,BK214,GW214,GE214,NB212_214,NB214_212,_⟩ := n_;clear hb hbox hg;have hnb9 := NB214_212.out;have hnc9 := NB212_214.out;obtain ⟨hcz10_0,hcz10_1,hfz10_0,hfz10_1⟩ := hcq2 BK214.out;obtain ⟨hcz11_0,hcz11_1,hfz11_0,hfz11_1⟩ := hcq2 BK212.out))
       go_ret
       exact ⟨hHq,hCq⟩
      ·rw [if_neg c7] at H
       have c7b0 : (((zR l0 x9_1).f0) == a1_0 && ((((zR l0 x9_1).f1).toList) == a1_1.toList)) = false := by simpa using c7
       (try (have c7b1 : decide (((zR l0 x9_1).f0) = a1_0 && ((((zR l0 x9_1).f1).toList) == a1_1.toList)) = false := by simpa using c7))
       (try (have c7b2 : (((zR l0 x9_1).f0) == a1_0 && ((((zR l0 x9_1).f1).toList) == a1_1.toList)) = false := by simpa using c7))
       (try (have c7b3 : ¬ (((zR l0 x9_1).f0) = a1_0 && ((((zR l0 x9_1).f1).toList) == a1_1.toList)) := by simpa using c7))
       clear c7
       have H' := za.mk H
       clear H
       have p213 : 0 ≤ (x9_1 : Int) := hFq
       have q213 : x9_1 < (l0.length : Int) := hFq
       obtain ⟨ad213,e213,hx213_0,hx213_1⟩ := zcy HR0.out x9_1 p213 q213
       cases e213
       replace hx213_0 := (HB.out.cell (World.block_lt_of_cell? w _ hx213_0)).trans hx213_0
       replace hx213_1 := (HB.out.cell (World.block_lt_of_cell? w _ hx213_1)).trans hx213_1
       replace p213 := eq_true p213
       replace q213 := eq_true q213
       go_wp2_with (first | ((with_reducible refine zo (N := 6) rfl ?_);refine zk rfl (N := 6) rfl (cs := #[.int .i64 0,.string (⟨#[]⟩ : ByteArray)]) (t := 40) hrq ?_;intro gb214 hg w12 hbox hb;have n_ := haq (hbq BK212.out hb) <| haq (zd hCq hb) <| haq (hbox) <| haq ((by rw [hg];exact (zf hCq) : w.heap.size ≤ gb214)) <| haq ((by rw [hg];exact (zf hCq) : w.heap.size ≤ gb214)) <| haq (hnq hg BK212.out) <| haq (hmq hg BK212.out) <| trivial;clear BK212 HB;obtain ⟨BK212,HB,BK214,GW214,GE214,NB212_214,NB214_212,_⟩ := n_;clear hb hbox hg;have hnb13 := NB214_212.out;have hnc13 := NB212_214.out;obtain ⟨hcz14_0,hcz14_1,hfz14_0,hfz14_1⟩ := hcq2 BK214.out;obtain ⟨hcz15_0,hcz15_1,hfz15_0,hfz15_1⟩ := hcq2 BK212.out))
       go_roundg k1
       case measure => have := HK1.out;omega
       case rel => exact ⟨(wrap64 (x9_1 + 1)),(hDq),H',⟨by have := HK1.out;omega⟩,⟨hxq1 NB212_214.out BK212.out⟩,⟨by repeat (first | (with_reducible first | exact HB.out | apply zw | apply zg | apply zn | refine zE ?_ GE212.out | refine zE ?_ GE214.out) | exact HB.out)⟩⟩
     ·rw [if_neg c6] at H
      exact absurd H (by simp)
    ·rw [if_neg c5] at H
     exact absurd H (by simp)
   ·rw [if_neg c4] at H
    have c4b0 : decide (x9_1 < (l0.length : Int)) = false := decide_eq_false c4
    clear c4
    obtain rfl := Option.some.inj H
    go_wp2
    go_ret
    exact ⟨hHq,hCq⟩
end Go.Proofs.Ytcncoepijagadaa.Px