/- Part 20 of 35 of the proof of the law CertBytes: what is proved is the statement at the end of the last part; its conditions are those of the given row. -/
import Derived.Test.YtfhbeonhnhjikaaGreatZCertBytesS
namespace Go.Proofs.YtfhbeonhnhjikaaGreat.Px
open Go.RowKit Go.Proofs.YtfhbeonhnhjikaaGreatW.PrintWords Go.Proofs.YtfhbeonhnhjikaaGreatW.PrintLast Go.Proofs.YtfhbeonhnhjikaaGreatW.PrintMore
attribute [local go_sem] zz zB zI zJ zp zq zA zC
set_option linter.unusedVariables false
set_option linter.unusedSimpArgs false
def zbA.f (a0_0 : Int) (a0_1 : Int) (l0_2 : List (S73)) (l0_3 : List ByteArray) (a0_4 : Int) (a0_5 : Int) (a1 : Int) : Option (ByteArray × Int) := (zat.f a0_0 a0_1 l0_2 l0_3 a0_4 a0_5 a1).bind fun bt184 => (if bt184.2 = 0 then (if 1 + bt184.1.size ≤ 9223372036854775807 then ((zc5.f ((⟨#[118]⟩ : ByteArray) ++ bt184.1)).bind fun t186 => (some (t186,0))) else (none)) else (some ((⟨#[]⟩ : ByteArray),bt184.2)))
set_option maxHeartbeats 8000000 in
set_option maxRecDepth 100000 in
theorem zbA.calls (a0_0 : Int) (a0_1 : Int) (A0_2 : Option Addr) (c0_2 : Nat) (l0_2 : List (S73)) (A0_3 : Option Addr) (c0_3 : Nat) (l0_3 : List ByteArray) (a0_4 : Int) (a0_5 : Int) (a1 : Int) (r1 : ByteArray) (r2 : Int) (w : World) (hr0_2 : Kd.C k73 w A0_2 l0_2.length l0_2) (hc0_2 : l0_2.length ≤ c0_2) (hr0_3 : Kd.C Kd.string w A0_3 l0_3.length l0_3) (hc0_3 : l0_3.length ≤ c0_3) (h : zbA.f a0_0 a0_1 l0_2 l0_3 a0_4 a0_5 a1 = some (r1,r2)) :
  Calls Tryz.prog 31 #[.agg #[.int .i64 a0_0,.int .i64 a0_1,.slice A0_2 l0_2.length c0_2,.slice A0_3 l0_3.length c0_3,.int .i64 a0_4,.int .i64 a0_5],.int .i64 a1] w fun e w' => e = .returned (.tuple #[.string r1,.int .i64 r2]) ∧ Below w.heap.size w w' := by
 have hu27 := Tryz.underlying27
 have HR0_2 := za.mk hr0_2
 have HC0_2 := za.mk hc0_2
 clear hr0_2 hc0_2
 have HR0_3 := za.mk hr0_3
 have HC0_3 := za.mk hc0_3
 clear hr0_3 hc0_3
 have HB := za.mk (Below.refl w.heap.size w)
 have H : ((zat.f a0_0 a0_1 l0_2 l0_3 a0_4 a0_5 a1).bind fun bt184 => (if bt184.2 = 0 then (if 1 + bt184.1.size ≤ 9223372036854775807 then ((zc5.f ((⟨#[118]⟩ : ByteArray) ++ bt184.1)).bind fun t186 => (some (t186,0))) else (none)) else (some ((⟨#[]⟩ : ByteArray),bt184.2)))) = some (r1,r2) := h
 clear h
 replace H := Option.bind_eq_some_iff.mp H
 obtain ⟨⟨t184,t185⟩,A30,H⟩ := H
 replace H : (if t185 = 0 then (if 1 + t184.size ≤ 9223372036854775807 then ((zc5.f ((⟨#[118]⟩ : ByteArray) ++ t184)).bind fun t186 => (some (t186,0))) else (none)) else (some ((⟨#[]⟩ : ByteArray),t185))) = some (r1,r2) := H
 have A3 := za.mk A30
 clear A30
 by_cases c4 : t185 = 0
 ·rw [if_pos c4] at H
  have c4b0 : (t185 == 0) = true := beq_iff_eq.mpr c4
  have c4b1 : (t185 != 0) = false := bne_eq_false_iff_eq.mpr c4
  clear c4
  by_cases c5 : 1 + t184.size ≤ 9223372036854775807
  ·rw [if_pos c5] at H
   have c5b0 := eq_true c5
   have c5b1 : decide (1 + t184.size ≤ 9223372036854775807) = true := decide_eq_true c5
   try have c5b2 : (9223372036854775807 < 1 + t184.size) = False := eq_false (Nat.not_lt.2 c5)
   replace H := Option.bind_eq_some_iff.mp H
   obtain ⟨t186,A60,H⟩ := H
   replace H : (some (t186,0)) = some (r1,r2) := H
   have A6 := za.mk A60
   clear A60
   simp only [Option.some.injEq,Prod.mk.injEq] at H
   obtain ⟨rfl,rfl⟩ := H
   go_enter Tryz.func31,Tryz.ntmps31
   go_wp2_with (first | ((with_reducible refine zy (N := 2) rfl ?_);refine zo ?hg (N := 2) ?hd (cs := #[.int .i64 a0_0,.int .i64 a0_1,.slice A0_2 l0_2.length c0_2,.slice A0_3 l0_3.length c0_3,.int .i64 a0_4,.int .i64 a0_5]) (t := 27) ?hr ?_;(case hd => rfl);(case hg => rfl);(case hr => first | (go_simp;done) | (go_simp;rfl));intro gb183 hg w7 hbox hb;have n_ := haq (zd hBq hb) <| haq (hbox) <| haq ((by rw [hg];exact (ze hBq) : w.heap.size ≤ gb183)) <| haq ((by rw [hg];exact (ze hBq) : w.heap.size ≤ gb183)) <| trivial;clear HB;obtain ⟨HB,BK183,GW183,GE183,_⟩ := n_;clear hb hbox hg;obtain ⟨hcz8_0,hcz8_1,hcz8_2,hcz8_3,hcz8_4,hcz8_5,hfz8_0,hfz8_1,hfz8_2,hfz8_3,hfz8_4,hfz8_5⟩ := hcq6 BK183.out) | ((with_reducible refine zj (f := 15) rfl ?_);refine zQ (some 11) rfl rfl Tryz.func15 (by kernel_rfl) rfl #[.agg #[.int .i64 a0_0,.int .i64 a0_1,.slice A0_2 l0_2.length c0_2,.slice A0_3 l0_3.length c0_3,.int .i64 a0_4,.int .i64 a0_5],.int .i64 a1] rfl hMq ?_;(with_reducible refine (zat.calls a0_0 a0_1 _ _ l0_2 _ _ l0_3 a0_4 a0_5 a1 t184 t185 _ ?side1 ?side2 ?side3 ?side4 A3.out).mono ?_);(case side1 => exact hKq (Kd.C_below HR0_2.out HB.out));(case side2 => exact HC0_2.out);(case side3 => exact hKq (Kd.C_below HR0_3.out HB.out));(case side4 => exact HC0_3.out);rintro e w9 ⟨rfl,hb⟩;refine ⟨_,rfl,?_⟩;have n_ := haq (hbq BK183.out hb) <| haq (zd hCq hb) <| trivial;clear BK183 HB;obtain ⟨BK183,HB,_⟩ := n_;(try clear hb);(try clear hb2);(try clear hk);(try clear hi)) | ((with_reducible refine zj (f := 62) rfl ?_);refine zQ (some 19) rfl rfl Tryz.func62 (by kernel_rfl) rfl #[.string ((⟨#[118]⟩ : ByteArray) ++ t184)] rfl hMq ?_;(with_reducible refine (zc5.calls ((⟨#[118]⟩ : ByteArray) ++ t184) t186 _ A6.out).mono ?_);rintro e w10 ⟨rfl,hb⟩;refine ⟨_,rfl,?_⟩;have n_ := haq (hbq BK183.out hb) <| haq (zd hCq hb) <| trivial;clear BK183 HB;obtain ⟨BK183,HB,_⟩ := n_;(try clear hb);(try clear hb2);(try clear hk);(try clear hi)))
   go_ret2
   exact ⟨hHq,hCq⟩
  ·rw [if_neg c5] at H
   exact absurd H (by simp)
 ·rw [if_neg c4] at H
  have c4b0 : (t185 == 0) = false := beq_eq_false_iff_ne.mpr c4
  have c4b1 : (t185 != 0) = true := bne_iff_ne.mpr c4
  simp only [Option.some.injEq,Prod.mk.injEq] at H
  obtain ⟨rfl,rfl⟩ := H
  go_enter Tryz.func31,Tryz.ntmps31
  go_wp2_with (first | ((with_reducible refine zy (N := 2) rfl ?_);refine zo ?hg (N := 2) ?hd (cs := #[.int .i64 a0_0,.int .i64 a0_1,.slice A0_2 l0_2.length c0_2,.slice A0_3 l0_3.length c0_3,.int .i64 a0_4,.int .i64 a0_5]) (t := 27) ?hr ?_;(case hd => rfl);(case hg => rfl);(case hr => first | (go_simp;done) | (go_simp;rfl));intro gb183 hg w11 hbox hb;have n_ := haq (zd hBq hb) <| haq (hbox) <| haq ((by rw [hg];exact (ze hBq) : w.heap.size ≤ gb183)) <| haq ((by rw [hg];exact (ze hBq) : w.heap.size ≤ gb183)) <| trivial;clear HB;obtain ⟨HB,BK183,GW183,GE183,_⟩ := n_;clear hb hbox hg;obtain ⟨hcz12_0,hcz12_1,hcz12_2,hcz12_3,hcz12_4,hcz12_5,hfz12_0,hfz12_1,hfz12_2,hfz12_3,hfz12_4,hfz12_5⟩ := hcq6 BK183.out) | ((with_reducible refine zj (f := 15) rfl ?_);refine zQ (some 11) rfl rfl Tryz.func15 (by kernel_rfl) rfl #[.agg #[.int .i64 a0_0,.int .i64 a0_1,.slice A0_2 l0_2.length c0_2,.slice A0_3 l0_3.length c0_3,.int .i64 a0_4,.int .i64 a0_5],.int .i64 a1] rfl hMq ?_;(with_reducible refine (zat.calls a0_0 a0_1 _ _ l0_2 _ _ l0_3 a0_4 a0_5 a1 t184 t185 _ ?side1 ?side2 ?side3 ?side4 A3.out).mono ?_);(case side1 => exact hKq (Kd.C_below HR0_2.out HB.out));(case side2 => exact HC0_2.out);(case side3 => exact hKq (Kd.C_below HR0_3.out HB.out));(case side4 => exact HC0_3.out);rintro e w13 ⟨rfl,hb⟩;refine ⟨_,rfl,?_⟩;have n_ := haq (hbq BK183.out hb) <| haq (zd hCq hb) <| trivial;clear BK183 HB;obtain ⟨BK183,HB,_⟩ := n_;(try clear hb);(try clear hb2);(try clear hk);(try clear hi)))
  go_ret2
  exact ⟨hHq,hCq⟩
def zbg.f (k : Nat) (a0 : Int) (l1 : List (S45)) (a2_0 : Int) (a2_1 : Int) (l2_2 : List (S73)) (l2_3 : List ByteArray) (a2_4 : Int) (a2_5 : Int) (a2_6 : Int) : Option (Int) := (zaV.f a2_0 a2_1 l2_2 l2_3 a2_4 a2_5 a2_6 a0).bind fun t194 => (if t194 = 0 then ((zbA.f a2_0 a2_1 l2_2 l2_3 a2_4 a2_5 a0).bind fun bt195 => ((zbl.f bt195.1).bind fun t197 => ((zcs.f k l1 a2_6 t197).bind fun t198 => (if t198 = true then (some 0) else (some 10))))) else (some t194))
set_option maxHeartbeats 8000000 in
set_option maxRecDepth 100000 in
theorem zbg.calls (k : Nat) (a0 : Int) (A1 : Option Addr) (c1 : Nat) (l1 : List (S45)) (a2_0 : Int) (a2_1 : Int) (A2_2 : Option Addr) (c2_2 : Nat) (l2_2 : List (S73)) (A2_3 : Option Addr) (c2_3 : Nat) (l2_3 : List ByteArray) (a2_4 : Int) (a2_5 : Int) (a2_6 : Int) (r : Int) (w : World) (hr1 : Kd.C k45 w A1 l1.length l1) (hc1 : l1.length ≤ c1) (hr2_2 : Kd.C k73 w A2_2 l2_2.length l2_2) (hc2_2 : l2_2.length ≤ c2_2) (hr2_3 : Kd.C Kd.string w A2_3 l2_3.length l2_3) (hc2_3 : l2_3.length ≤ c2_3) (h : zbg.f k a0 l1 a2_0 a2_1 l2_2 l2_3 a2_4 a2_5 a2_6 = some r) :
  Calls Tryz.prog 12 #[.int .i64 a0,.slice A1 l1.length c1,.agg #[.int .i64 a2_0,.int .i64 a2_1,.slice A2_2 l2_2.length c2_2,.slice A2_3 l2_3.length c2_3,.int .i64 a2_4,.int .i64 a2_5,.int .u64 a2_6]] w fun e w' => e = .returned (.int .i64 r) ∧ Below w.heap.size w w' := by
 have hu30 := Tryz.underlying30
 have hu27 := Tryz.underlying27
 have HR1 := za.mk hr1
 have HC1 := za.mk hc1
 clear hr1 hc1
 have HR2_2 := za.mk hr2_2
 have HC2_2 := za.mk hc2_2
 clear hr2_2 hc2_2
 have HR2_3 := za.mk hr2_3
 have HC2_3 := za.mk hc2_3
 clear hr2_3 hc2_3
 have HB := za.mk (Below.refl w.heap.size w)
 have H : ((zaV.f a2_0 a2_1 l2_2 l2_3 a2_4 a2_5 a2_6 a0).bind fun t194 => (if t194 = 0 then ((zbA.f a2_0 a2_1 l2_2 l2_3 a2_4 a2_5 a0).bind fun bt195 => ((zbl.f bt195.1).bind fun t197 => ((zcs.f k l1 a2_6 t197).bind fun t198 => (if t198 = true then (some 0) else (some 10))))) else (some t194))) = some r := h
 clear h
 replace H := Option.bind_eq_some_iff.mp H
 obtain ⟨t194,A40,H⟩ := H
 replace H : (if t194 = 0 then ((zbA.f a2_0 a2_1 l2_2 l2_3 a2_4 a2_5 a0).bind fun bt195 => ((zbl.f bt195.1).bind fun t197 => ((zcs.f k l1 a2_6 t197).bind fun t198 => (if t198 = true then (some 0) else (some 10))))) else (some t194)) = some r := H
 have A4 := za.mk A40
 clear A40
 by_cases c5 : t194 = 0
 ·rw [if_pos c5] at H
  have c5b0 : (t194 == 0) = true := beq_iff_eq.mpr c5
  have c5b1 : (t194 != 0) = false := bne_eq_false_iff_eq.mpr c5
  clear c5
  replace H := Option.bind_eq_some_iff.mp H
  obtain ⟨⟨t195,t196⟩,A60,H⟩ := H
  replace H : ((zbl.f t195).bind fun t197 => ((zcs.f k l1 a2_6 t197).bind fun t198 => (if t198 = true then (some 0) else (some 10)))) = some r := H
  have A6 := za.mk A60
  clear A60
  replace H := Option.bind_eq_some_iff.mp H
  obtain ⟨t197,A70,H⟩ := H
  replace H : ((zcs.f k l1 a2_6 t197).bind fun t198 => (if t198 = true then (some 0) else (some 10))) = some r := H
  have A7 := za.mk A70
  clear A70
  replace H := Option.bind_eq_some_iff.mp H
  obtain ⟨t198,A80,H⟩ := H
  replace H : (if t198 = true then (some 0) else (some 10)) = some r := H
  have A8 := za.mk A80
  clear A80
  by_cases c9 : t198 = true
  ·subst c9
   have H1 : (some 0) = some r := by rw [if_pos rfl] at H;exact H
   clear H
   have H := H1
   clear H1
   obtain rfl := Option.some.inj H
   go_enter Tryz.func12,Tryz.ntmps12
   try go_wp2_with (first | ((with_reducible refine zy (N := 5) rfl ?_);refine zo ?hg (N := 5) ?hd (cs := #[.int .i64 a2_0,.int .i64 a2_1,.slice A2_2 l2_2.length c2_2,.slice A2_3 l2_3.length c2_3,.int .i64 a2_4,.int .i64 a2_5,.int .u64 a2_6]) (t := 30) ?hr ?_;(case hd => rfl);(case hg => rfl);(case hr => first | (go_simp;done) | (go_simp;rfl));intro gb193 hg w10 hbox hb;have n_ := haq (zd hBq hb) <| haq (hbox) <| haq ((by rw [hg];exact (ze hBq) : w.heap.size ≤ gb193)) <| haq ((by rw [hg];exact (ze hBq) : w.heap.size ≤ gb193)) <| trivial;clear HB;obtain ⟨HB,BK193,GW193,GE193,_⟩ := n_;clear hb hbox hg;obtain ⟨hcz11_0,hcz11_1,hcz11_2,hcz11_3,hcz11_4,hcz11_5,hcz11_6,hfz11_0,hfz11_1,hfz11_2,hfz11_3,hfz11_4,hfz11_5,hfz11_6⟩ := hcq7 BK193.out) | ((with_reducible refine zj (f := 14) rfl ?_);refine zQ (some 12) rfl rfl Tryz.func14 (by kernel_rfl) rfl #[.agg #[.int .i64 a2_0,.int .i64 a2_1,.slice A2_2 l2_2.length c2_2,.slice A2_3 l2_3.length c2_3,.int .i64 a2_4,.int .i64 a2_5,.int .u64 a2_6],.int .i64 a0] rfl hMq ?_;(with_reducible refine (zaV.calls a2_0 a2_1 _ _ l2_2 _ _ l2_3 a2_4 a2_5 a2_6 a0 t194 _ ?side1 ?side2 ?side3 ?side4 A4.out).mono ?_);(case side1 => exact hKq (Kd.C_below HR2_2.out HB.out));(case side2 => exact HC2_2.out);(case side3 => exact hKq (Kd.C_below HR2_3.out HB.out));(case side4 => exact HC2_3.out);rintro e w12 ⟨rfl,hb⟩;refine ⟨_,rfl,?_⟩;have n_ := haq (hbq BK193.out hb) <| haq (zd hCq hb) <| trivial;clear BK193 HB;obtain ⟨BK193,HB,_⟩ := n_;(try clear hb);(try clear hb2);(try clear hk);(try clear hi);obtain ⟨hcz13_0,hcz13_1,hcz13_2,hcz13_3,hcz13_4,hcz13_5,hcz13_6,hfz13_0,hfz13_1,hfz13_2,hfz13_3,hfz13_4,hfz13_5,hfz13_6⟩ := hcq7 BK193.out) | ((with_reducible refine zj (f := 31) rfl ?_);refine zQ (some 20) rfl rfl Tryz.func31 (by kernel_rfl) rfl #[.agg #[.int .i64 a2_0,.int .i64 a2_1,.slice A2_2 l2_2.length c2_2,.slice A2_3 l2_3.length c2_3,.int .i64 a2_4,.int .i64 a2_5],.int .i64 a0] rfl hMq ?_;(with_reducible refine (zbA.calls a2_0 a2_1 _ _ l2_2 _ _ l2_3 a2_4 a2_5 a0 t195 t196 _ ?side1 ?side2 ?side3 ?side4 A6.out).mono ?_);(case side1 => exact hKq (Kd.C_below HR2_2.out HB.out));(case side2 => exact HC2_2.out);(case side3 => exact hKq (Kd.C_below HR2_3.out HB.out));(case side4 => exact HC2_3.out);rintro e w14 ⟨rfl,hb⟩;refine ⟨_,rfl,?_⟩;have n_ := haq (hbq BK193.out hb) <| haq (zd hCq hb) <| trivial;clear BK193 HB;obtain ⟨BK193,HB,_⟩ := n_;(try clear hb);(try clear hb2);(try clear hk);(try clear hi)))
   have n0_ := za.mk (zbq BK193.out)
   have n1_ := za.mk (zm HB.out)
   clear BK193
   clear HB
   have BK193 := n0_
   have HB := n1_
   clear n0_ n1_
   refine zds (n := 7) (S := fun w' => w'.cell? ⟨gb193,0,none⟩ = some (.int .i64 a2_0) ∧ w'.cell? ⟨gb193,1,none⟩ = some (.int .i64 a2_1) ∧ w'.cell? ⟨gb193,2,none⟩ = some (.slice A2_2 l2_2.length c2_2) ∧ w'.cell? ⟨gb193,3,none⟩ = some (.slice A2_3 l2_3.length c2_3) ∧ w'.cell? ⟨gb193,4,none⟩ = some (.int .i64 a2_4) ∧ w'.cell? ⟨gb193,5,none⟩ = some (.int .i64 a2_5) ∧ w'.cell? ⟨gb193,6,none⟩ = some (.int .u64 a2_6)) (ds := []) #[false,false,false,false,false,false,false] (by kernel_rfl) rfl rfl ⟨(zb BK193.out 0).trans rfl,(zb BK193.out 1).trans rfl,(zb BK193.out 2).trans rfl,(zb BK193.out 3).trans rfl,(zb BK193.out 4).trans rfl,(zb BK193.out 5).trans rfl,(zb BK193.out 6).trans rfl⟩ (fun hHeld => ?_)
   generalize w14.drew = w15 at BK193 HB hHeld ⊢
   refine zaj (i := 0) (N := some 23) (v := ?_) (a' := ?_) #[true,false,false,false,false,false,false] rfl rfl (by kernel_rfl) (fun _ _ _ h => h) (Or.inl ⟨by rfl,?_⟩) ?_ ?_
   rotate_left
   ·intro w'
    go_simp
    with_reducible rfl
   rotate_left
   ·simp only [Act.put,List.setIfInBounds_toArray,List.set_cons_zero,List.set_cons_succ,zK,zL]
    rfl
   refine zaj (i := 1) (N := some 24) (v := ?_) (a' := ?_) #[true,true,false,false,false,false,false] rfl rfl (by kernel_rfl) (fun _ _ _ h => h) (Or.inl ⟨by rfl,?_⟩) ?_ ?_
   rotate_left
   ·intro w'
    go_simp
    with_reducible rfl
   rotate_left
   ·simp only [Act.put,List.setIfInBounds_toArray,List.set_cons_zero,List.set_cons_succ,zK,zL]
    rfl
   refine zaj (i := 3) (N := some 26) (v := ?_) (a' := ?_) #[true,true,false,true,false,false,false] rfl rfl (by kernel_rfl) (fun _ _ _ h => h) (Or.inl ⟨by rfl,?_⟩) ?_ ?_
   rotate_left
   ·intro w'
    go_simp
    with_reducible rfl
   rotate_left
   ·simp only [Act.put,List.setIfInBounds_toArray,List.set_cons_zero,List.set_cons_succ,zK,zL]
    rfl
   refine take_ (i := 2) (N := some 25) (v := ?_) (a' := ?_) #[true,true,true,true,false,false,false] rfl rfl (by kernel_rfl) (fun _ _ _ h => h) (Or.inl ⟨by rfl,?_⟩) hHeld ?_ ?_
   rotate_left
   ·rintro w' ⟨s0,s1,s2,s3,s4,s5,s6⟩
    go_simp
    with_reducible rfl
   rotate_left
   ·simp only [Act.put,List.setIfInBounds_toArray,List.set_cons_zero,List.set_cons_succ,zK,zL]
    rfl
   refine zdl (i := 4) (N := some 27) #[true,true,true,true,true,false,false] rfl rfl (by kernel_rfl) (by decide) (fun K hK => ?_)
   refine zci Tryz.func13 (by kernel_rfl) rfl #[.string t195] (by rfl) rfl rfl hMq ?_
   with_reducible refine (zbl.calls t195 t197 _ A7.out).mono ?_
   rintro e w' ⟨rfl,⟨nd,rfl⟩⟩
   refine ⟨_,rfl,?_⟩
   refine hK.out _ _ ⟨(zb BK193.out 0).trans rfl,(zb BK193.out 1).trans rfl,(zb BK193.out 2).trans rfl,(zb BK193.out 3).trans rfl,(zb BK193.out 4).trans rfl,(zb BK193.out 5).trans rfl,(zb BK193.out 6).trans rfl⟩ (fun hHeld => ?_)
   clear hK K
   refine zck (a' := ?_) ?_ ?_
   rotate_left
   ·show Act.put _ (some 27) _ = _
    simp only [Act.put,List.setIfInBounds_toArray,List.set_cons_zero,List.set_cons_succ,zK,zL]
    rfl
   refine zdl (i := 5) (N := some 28) #[true,true,true,true,true,true,false] rfl rfl (by kernel_rfl) (by decide) (fun K hK => ?_)
   refine zci Tryz.func32 (by kernel_rfl) rfl #[.slice A1 l1.length c1,.int .u64 a2_6,.string t197] (by rfl) rfl rfl hMq ?_
   with_reducible refine (zcs.calls k _ _ l1 a2_6 t197 true _ ?side1 ?side2 A8.out).mono ?_
   (case side1 => repeat (first | exact (Kd.C_below HR1.out hCq) | (with_reducible refine Kd.C_alloc ?_ _) | (with_reducible refine Kd.C_drewN ?_ _) | (with_reducible refine Kd.C_drew ?_)))
   (case side2 => exact HC1.out)
   rintro e w16 ⟨rfl,hb⟩
   refine ⟨_,rfl,?_⟩
   have n0_ := za.mk (hbq BK193.out hb)
   have n1_ := za.mk (zd hCq hb)
   clear BK193
   clear HB
   have BK193 := n0_
   have HB := n1_
   clear n0_ n1_
   (try clear hb)
   (try clear hb2)
   (try clear hk)
   (try clear hi)
   refine hK.out _ _ ⟨(zb BK193.out 0).trans rfl,(zb BK193.out 1).trans rfl,(zb BK193.out 2).trans rfl,(zb BK193.out 3).trans rfl,(zb BK193.out 4).trans rfl,(zb BK193.out 5).trans rfl,(zb BK193.out 6).trans rfl⟩ (fun hHeld => ?_)
   clear hK K
   refine zck (a' := ?_) ?_ ?_
   rotate_left
   ·show Act.put _ (some 28) _ = _
    simp only [Act.put,List.setIfInBounds_toArray,List.set_cons_zero,List.set_cons_succ,zK,zL]
    rfl
   refine zaj (i := 6) (N := some 29) (v := ?_) (a' := ?_) #[true,true,true,true,true,true,true] rfl rfl (by kernel_rfl) (fun _ _ _ h => h) (Or.inl ⟨by rfl,?_⟩) ?_ ?_
   rotate_left
   ·intro w'
    go_simp
    with_reducible rfl
   rotate_left
   ·simp only [Act.put,List.setIfInBounds_toArray,List.set_cons_zero,List.set_cons_succ,zK,zL]
    rfl
   refine zek (by kernel_rfl) ?_
   try go_wp2
   go_ret
   exact ⟨hHq,hCq⟩
  ·replace c9 := Bool.eq_false_iff.mpr c9
   subst c9
   have H1 : (some 10) = some r := by rw [if_neg (show ¬ (false = true) by decide)] at H;exact H
   clear H
   have H := H1
   clear H1
   obtain rfl := Option.some.inj H
   go_enter Tryz.func12,Tryz.ntmps12
   try go_wp2_with (first | ((with_reducible refine zy (N := 5) rfl ?_);refine zo ?hg (N := 5) ?hd (cs := #[.int .i64 a2_0,.int .i64 a2_1,.slice A2_2 l2_2.length c2_2,.slice A2_3 l2_3.length c2_3,.int .i64 a2_4,.int .i64 a2_5,.int .u64 a2_6]) (t := 30) ?hr ?_;(case hd => rfl);(case hg => rfl);(case hr => first | (go_simp;done) | (go_simp;rfl));intro gb193 hg w17 hbox hb;have n_ := haq (zd hBq hb) <| haq (hbox) <| haq ((by rw [hg];exact (ze hBq) : w.heap.size ≤ gb193)) <| haq ((by rw [hg];exact (ze hBq) : w.heap.size ≤ gb193)) <| trivial;clear HB;obtain ⟨HB,BK193,GW193,GE193,_⟩ := n_;clear hb hbox hg;obtain ⟨hcz18_0,hcz18_1,hcz18_2,hcz18_3,hcz18_4,hcz18_5,hcz18_6,hfz18_0,hfz18_1,hfz18_2,hfz18_3,hfz18_4,hfz18_5,hfz18_6⟩ := hcq7 BK193.out) | ((with_reducible refine zj (f := 14) rfl ?_);refine zQ (some 12) rfl rfl Tryz.func14 (by kernel_rfl) rfl #[.agg #[.int .i64 a2_0,.int .i64 a2_1,.slice A2_2 l2_2.length c2_2,.slice A2_3 l2_3.length c2_3,.int .i64 a2_4,.int .i64 a2_5,.int .u64 a2_6],.int .i64 a0] rfl hMq ?_;(with_reducible refine (zaV.calls a2_0 a2_1 _ _ l2_2 _ _ l2_3 a2_4 a2_5 a2_6 a0 t194 _ ?side1 ?side2 ?side3 ?side4 A4.out).mono ?_);(case side1 => exact hKq (Kd.C_below HR2_2.out HB.out));(case side2 => exact HC2_2.out);(case side3 => exact hKq (Kd.C_below HR2_3.out HB.out));(case side4 => exact HC2_3.out);rintro e w19 ⟨rfl,hb⟩;refine ⟨_,rfl,?_⟩;have n_ := haq (hbq BK193.out hb) <| haq (zd hCq hb) <| trivial;clear BK193 HB;obtain ⟨BK193,HB,_⟩ := n_;(try clear hb);(try clear hb2);(try clear hk);(try clear hi);obtain ⟨hcz20_0,hcz20_1,hcz20_2,hcz20_3,hcz20_4,hcz20_5,hcz20_6,hfz20_0,hfz20_1,hfz20_2,hfz20_3,hfz20_4,hfz20_5,hfz20_6⟩ := hcq7 BK193.out) | ((with_reducible refine zj (f := 31) rfl ?_);refine zQ (some 20) rfl rfl Tryz.func31 (by kernel_rfl) rfl #[.agg #[.int .i64 a2_0,.int .i64 a2_1,.slice A2_2 l2_2.length c2_2,.slice A2_3 l2_3.length c2_3,.int .i64 a2_4,.int .i64 a2_5],.int .i64 a0] rfl hMq ?_;(with_reducible refine (zbA.calls a2_0 a2_1 _ _ l2_2 _ _ l2_3 a2_4 a2_5 a0 t195 t196 _ ?side1 ?side2 ?side3 ?side4 A6.out).mono ?_);(case side1 => exact hKq (Kd.C_below HR2_2.out HB.out));(case side2 => exact HC2_2.out);(case side3 => exact hKq (Kd.C_below HR2_3.out HB.out));(case side4 => exact HC2_3.out);rintro e w21 ⟨rfl,hb⟩;refine ⟨_,rfl,?_⟩;have n_ := haq (hbq BK193.out hb) <| haq (zd hCq hb) <| trivial;clear BK193 HB;obtain ⟨BK193,HB,_⟩ := n_;(try clear hb);(try clear hb2);(try clear hk);(try clear hi)))
   have n0_ := za.mk (zbq BK193.out)
   have n1_ := za.mk (zm HB.out)
   clear BK193
   clear HB
   have BK193 := n0_
   have HB := n1_
   clear n0_ n1_
   refine zds (n := 7) (S := fun w' => w'.cell? ⟨gb193,0,none⟩ = some (.int .i64 a2_0) ∧ w'.cell? ⟨gb193,1,none⟩ = some (.int .i64 a2_1) ∧ w'.cell? ⟨gb193,2,none⟩ = some (.slice A2_2 l2_2.length c2_2) ∧ w'.cell? ⟨gb193,3,none⟩ = some (.slice A2_3 l2_3.length c2_3) ∧ w'.cell? ⟨gb193,4,none⟩ = some (.int .i64 a2_4) ∧ w'.cell? ⟨gb193,5,none⟩ = some (.int .i64 a2_5) ∧ w'.cell? ⟨gb193,6,none⟩ = some (.int .u64 a2_6)) (ds := []) #[false,false,false,false,false,false,false] (by kernel_rfl) rfl rfl ⟨(zb BK193.out 0).trans rfl,(zb BK193.out 1).trans rfl,(zb BK193.out 2).trans rfl,(zb BK193.out 3).trans rfl,(zb BK193.out 4).trans rfl,(zb BK193.out 5).trans rfl,(zb BK193.out 6).trans rfl⟩ (fun hHeld => ?_)
   generalize w21.drew = w22 at BK193 HB hHeld ⊢
   refine zaj (i := 0) (N := some 23) (v := ?_) (a' := ?_) #[true,false,false,false,false,false,false] rfl rfl (by kernel_rfl) (fun _ _ _ h => h) (Or.inl ⟨by rfl,?_⟩) ?_ ?_
   rotate_left
   ·intro w'
    go_simp
    with_reducible rfl
   rotate_left
   ·simp only [Act.put,List.setIfInBounds_toArray,List.set_cons_zero,List.set_cons_succ,zK,zL]
    rfl
   refine zaj (i := 1) (N := some 24) (v := ?_) (a' := ?_) #[true,true,false,false,false,false,false] rfl rfl (by kernel_rfl) (fun _ _ _ h => h) (Or.inl ⟨by rfl,?_⟩) ?_ ?_
   rotate_left
   ·intro w'
    go_simp
    with_reducible rfl
   rotate_left
   ·simp only [Act.put,List.setIfInBounds_toArray,List.set_cons_zero,List.set_cons_succ,zK,zL]
    rfl
   refine zaj (i := 3) (N := some 26) (v := ?_) (a' := ?_) #[true,true,false,true,false,false,false] rfl rfl (by kernel_rfl) (fun _ _ _ h => h) (Or.inl ⟨by rfl,?_⟩) ?_ ?_
   rotate_left
   ·intro w'
    go_simp
    with_reducible rfl
   rotate_left
   ·simp only [Act.put,List.setIfInBounds_toArray,List.set_cons_zero,List.set_cons_succ,zK,zL]
    rfl
   refine take_ (i := 2) (N := some 25) (v := ?_) (a' := ?_) #[true,true,true,true,false,false,false] rfl rfl (by kernel_rfl) (fun _ _ _ h => h) (Or.inl ⟨by rfl,?_⟩) hHeld ?_ ?_
   rotate_left
   ·rintro w' ⟨s0,s1,s2,s3,s4,s5,s6⟩
    go_simp
    with_reducible rfl
   rotate_left
   ·simp only [Act.put,List.setIfInBounds_toArray,List.set_cons_zero,List.set_cons_succ,zK,zL]
    rfl
   refine zdl (i := 4) (N := some 27) #[true,true,true,true,true,false,false] rfl rfl (by kernel_rfl) (by decide) (fun K hK => ?_)
   refine zci Tryz.func13 (by kernel_rfl) rfl #[.string t195] (by rfl) rfl rfl hMq ?_
   with_reducible refine (zbl.calls t195 t197 _ A7.out).mono ?_
   rintro e w' ⟨rfl,⟨nd,rfl⟩⟩
   refine ⟨_,rfl,?_⟩
   refine hK.out _ _ ⟨(zb BK193.out 0).trans rfl,(zb BK193.out 1).trans rfl,(zb BK193.out 2).trans rfl,(zb BK193.out 3).trans rfl,(zb BK193.out 4).trans rfl,(zb BK193.out 5).trans rfl,(zb BK193.out 6).trans rfl⟩ (fun hHeld => ?_)
   clear hK K
   refine zck (a' := ?_) ?_ ?_
   rotate_left
   ·show Act.put _ (some 27) _ = _
    simp only [Act.put,List.setIfInBounds_toArray,List.set_cons_zero,List.set_cons_succ,zK,zL]
    rfl
   refine zdl (i := 5) (N := some 28) #[true,true,true,true,true,true,false] rfl rfl (by kernel_rfl) (by decide) (fun K hK => ?_)
   refine zci Tryz.func32 (by kernel_rfl) rfl #[.slice A1 l1.length c1,.int .u64 a2_6,.string t197] (by rfl) rfl rfl hMq ?_
   with_reducible refine (zcs.calls k _ _ l1 a2_6 t197 false _ ?side1 ?side2 A8.out).mono ?_
   (case side1 => repeat (first | exact (Kd.C_below HR1.out hCq) | (with_reducible refine Kd.C_alloc ?_ _) | (with_reducible refine Kd.C_drewN ?_ _) | (with_reducible refine Kd.C_drew ?_)))
   (case side2 => exact HC1.out)
   rintro e w23 ⟨rfl,hb⟩
   refine ⟨_,rfl,?_⟩
   have n0_ := za.mk (hbq BK193.out hb)
   have n1_ := za.mk (zd hCq hb)
   clear BK193
   clear HB
   have BK193 := n0_
   have HB := n1_
   clear n0_ n1_
   (try clear hb)
   (try clear hb2)
   (try clear hk)
   (try clear hi)
   refine hK.out _ _ ⟨(zb BK193.out 0).trans rfl,(zb BK193.out 1).trans rfl,(zb BK193.out 2).trans rfl,(zb BK193.out 3).trans rfl,(zb BK193.out 4).trans rfl,(zb BK193.out 5).trans rfl,(zb BK193.out 6).trans rfl⟩ (fun hHeld => ?_)
   clear hK K
   refine zck (a' := ?_) ?_ ?_
   rotate_left
   ·show Act.put _ (some 28) _ = _
    simp only [Act.put,List.setIfInBounds_toArray,List.set_cons_zero,List.set_cons_succ,zK,zL]
    rfl
   refine zaj (i := 6) (N := some 29) (v := ?_) (a' := ?_) #[true,true,true,true,true,true,true] rfl rfl (by kernel_rfl) (fun _ _ _ h => h) (Or.inl ⟨by rfl,?_⟩) ?_ ?_
   rotate_left
   ·intro w'
    go_simp
    with_reducible rfl
   rotate_left
   ·simp only [Act.put,List.setIfInBounds_toArray,List.set_cons_zero,List.set_cons_succ,zK,zL]
    rfl
   refine zek (by kernel_rfl) ?_
   try go_wp2
   go_ret
   exact ⟨hHq,hCq⟩
 ·rw [if_neg c5] at H
  have c5b0 : (t194 == 0) = false := beq_eq_false_iff_ne.mpr c5
  have c5b1 : (t194 != 0) = true := bne_iff_ne.mpr c5
  obtain rfl := Option.some.inj H
  go_enter Tryz.func12,Tryz.ntmps12
  go_wp2_with (first | ((with_reducible refine zy (N := 5) rfl ?_);refine zo ?hg (N := 5) ?hd (cs := #[.int .i64 a2_0,.int .i64 a2_1,.slice A2_2 l2_2.length c2_2,.slice A2_3 l2_3.length c2_3,.int .i64 a2_4,.int .i64 a2_5,.int .u64 a2_6]) (t := 30) ?hr ?_;(case hd => rfl);(case hg => rfl);(case hr => first | (go_simp;done) | (go_simp;rfl));intro gb193 hg w24 hbox hb;have n_ := haq (zd hBq hb) <| haq (hbox) <| haq ((by rw [hg];exact (ze hBq) : w.heap.size ≤ gb193)) <| haq ((by rw [hg];exact (ze hBq) : w.heap.size ≤ gb193)) <| trivial;clear HB;obtain ⟨HB,BK193,GW193,GE193,_⟩ := n_;clear hb hbox hg;obtain ⟨hcz25_0,hcz25_1,hcz25_2,hcz25_3,hcz25_4,hcz25_5,hcz25_6,hfz25_0,hfz25_1,hfz25_2,hfz25_3,hfz25_4,hfz25_5,hfz25_6⟩ := hcq7 BK193.out) | ((with_reducible refine zj (f := 14) rfl ?_);refine zQ (some 12) rfl rfl Tryz.func14 (by kernel_rfl) rfl #[.agg #[.int .i64 a2_0,.int .i64 a2_1,.slice A2_2 l2_2.length c2_2,.slice A2_3 l2_3.length c2_3,.int .i64 a2_4,.int .i64 a2_5,.int .u64 a2_6],.int .i64 a0] rfl hMq ?_;(with_reducible refine (zaV.calls a2_0 a2_1 _ _ l2_2 _ _ l2_3 a2_4 a2_5 a2_6 a0 t194 _ ?side1 ?side2 ?side3 ?side4 A4.out).mono ?_);(case side1 => exact hKq (Kd.C_below HR2_2.out HB.out));(case side2 => exact HC2_2.out);(case side3 => exact hKq (Kd.C_below HR2_3.out HB.out));(case side4 => exact HC2_3.out);rintro e w26 ⟨rfl,hb⟩;refine ⟨_,rfl,?_⟩;have n_ := haq (hbq BK193.out hb) <| haq (zd hCq hb) <| trivial;clear BK193 HB;obtain ⟨BK193,HB,_⟩ := n_;(try clear hb);(try clear hb2);(try clear hk);(try clear hi)))
  go_ret
  exact ⟨hHq,hCq⟩
def za1 (w : World) (base : Nat) (e : TypeId) (v : Value) (l : Bs) : Prop :=
 ∃ g cap cur fz,v = .slice (some ⟨g,0,none⟩) l.length cap ∧ base ≤ g ∧ w.heap[g]? = some (.cells cur e fz) ∧ (fz.2 ≤ l.length ∨ cap ≤ fz.1) ∧ l.length ≤ cap ∧ cap ≤ maxLen ∧ cur.size = cap ∧ cur.toList.take l.length = Lib.byteCells l
theorem za1.below {w w' : World} {base : Nat} {e : TypeId} {v : Value} {l : Bs} (h : za1 w base e v l) (hb : Below w.heap.size w w') : za1 w' base e v l := by
 obtain ⟨g,cap,cur,fz,rfl,hg,hh,r⟩ := h
 exact ⟨g,cap,cur,fz,rfl,hg,(hb.block g (Array.getElem?_eq_some_iff.1 hh).1).trans hh,r⟩
theorem za1.start (W : World) (base : Nat) (e : TypeId) (s : ByteArray) (hb : base ≤ W.heap.size) (hs : s.size ≤ maxLen) : za1 (Lib.bytesWorld W e s) base e (.slice (some ⟨W.heap.size,0,none⟩) s.size (grownCap W s.size 0 e)) (ofB s) := by
 have hc := grownCap_ge W s.size 0 e
 have hd : s.data.size = s.size := rfl
 have hz : (Lib.bytesCells W e s).size = grownCap W s.size 0 e := by
  rw [Lib.bytesCells,Array.size_append,Array.size_map,Array.size_replicate,hd];omega
 refine ⟨W.heap.size,grownCap W s.size 0 e,Lib.bytesCells W e s,_,by rw [zae],hb,Lib.bytesWorld_at_new W e s,.inr (by rw [hz];exact Nat.le_refl _),by rw [zae];exact hc,grownCap_le_maxLen W s.size 0 e hs,hz,?_⟩
 rw [Lib.bytesCells,Array.toList_append,List.take_left' (by rw [Array.length_toList,Array.size_map,hd,zae])]
 simp [Lib.byteCells,ofB]
theorem zcD (P : Program) (g o : Nat) (t : TypeId) (fz : Nat × Nat) : ∀ (vs : List Value) (i : Nat) (cur : Array Value) (w : World),w.heap[g]? = some (.cells cur t fz) → (fz.2 ≤ o + i ∨ cur.size ≤ fz.1) → o + i + vs.length ≤ cur.size → (∀ v ∈ vs,v.oneCell' = true) →
  (storeCells ⟨g,o,none⟩ vs i).run P w = .ok () (w.setRow g (cur.toList.take (o + i) ++ vs ++ cur.toList.drop (o + i + vs.length)).toArray)
 | [],i,cur,w,hg,_,_,_ => by
  simp only [storeCells,List.append_nil,List.length_nil,Nat.add_zero,List.take_append_drop,Array.toArray_toList]
  rw [setRow_self w g cur t fz hg]
  rfl
 | v :: rest,i,cur,w,hg,hfz,hl,h1 => by
  have hi : o + i < cur.size := by simp at hl;omega
  have hadd : (⟨g,o,none⟩ : Addr).add i = ⟨g,o + i,none⟩ := by unfold Addr.add;split <;> simp_all
  have hcell : w.cell? ⟨g,o + i,none⟩ = some cur[o + i] := by simp [World.cell?,hg,hi]
  have hfro : w.frozen? ⟨g,o + i,none⟩ = false := by
   obtain ⟨lo,hi'⟩ := fz
   simp only [World.frozen?,hg,Bool.and_eq_false_iff,decide_eq_false_iff_not]
   simp only at hfz
   omega
  have hst : (store ((⟨g,o,none⟩ : Addr).add i) v).run P w = .ok () (w.setRow g (cur.setIfInBounds (o + i) v)) := by
   rw [hadd,run_store P w _ v _ (h1 v (by simp)),hcell]
   simp [hfro,setCell_eq_setRow w g (o + i) cur t fz v hg]
  have ih := zcD P g o t fz rest (i + 1) (cur.setIfInBounds (o + i) v) (w.setRow g (cur.setIfInBounds (o + i) v)) (setRow_heap w g cur _ t _ hg) (by rw [Array.size_setIfInBounds];omega) (by simp at hl ⊢;omega) (fun x hx => h1 x (by simp [hx]))
  simp only [storeCells,Sem.run_bind,hst,Result.andThen_ok,ih,setRow_setRow]
  congr 3
  have e := list_seg_step cur.toList (o + i) v rest (by simp at hl ⊢;omega)
  simpa [Array.toList_setIfInBounds,Nat.add_assoc] using e
theorem zfc {P : Program} {w : World} (base : Nat) (t u ty e : TypeId) (i : TypeInfo) (ht : P.underlying t = some (.slice e)) (hu : P.underlying u = some .string) (hi : P.info? e = some i) (hz : i.zero = some (.int .u8 0))
  (hsize : i.size = 1) (hby : i.bytes = 1) (v : Value) (l : Bs) (hown : za1 w base e v l) (s : ByteArray) (hbytes : l.length + s.size ≤ 140737488355328) (hbase : base ≤ w.heap.size) :
  ∃ v' w',(Builtin.append_ #[t,u] ty #[v,.string s]).run P w = .ok v' w' ∧ za1 w' base e v' (l ++ ofB s) ∧ Below base w w' := by
 obtain ⟨g,cap,cur,fz,rfl,hbg,hg,hfz,hnc,hcm,hcs,htake⟩ := hown
 have hsmall : l.length + s.size ≤ maxLen := by unfold maxLen;omega
 have hlen : (l ++ ofB s).length = l.length + s.size := by rw [List.length_append,zae]
 have hcells : Lib.byteCells (l ++ ofB s) = Lib.byteCells l ++ Lib.strCells s := by rw [Lib.strCells_eq];simp [Lib.byteCells,ofB]
 have hcl : (Lib.byteCells l ++ Lib.strCells s).length = l.length + s.size := by rw [List.length_append,Lib.byteCells_length,Lib.strCells_length]
 by_cases hroom : l.length + s.size ≤ cap
 ·have hf := Lib.run_firstCells_string (P := P) w 1 s
  have hst := zcD P g l.length e fz (Lib.strCells s) 0 cur w hg (by omega) (by rw [Lib.strCells_length];omega) (Lib.strCells_oneCell s)
  simp only [Nat.add_zero,Lib.strCells_length] at hst
  refine ⟨.slice (some ⟨g,0,none⟩) (l.length + s.size) cap,w.setRow g (cur.toList.take l.length ++ Lib.strCells s ++ cur.toList.drop (l.length + s.size)).toArray,?_,?_,?_⟩
  ·simp [Builtin.append_,run_underlying ht,run_underlying hu,sizeOf,typeInfo,hi,hsize,Builtin.lenOf,hroom,hf,Addr.add_lit,hst]
  ·refine ⟨g,cap,_,fz,by rw [hlen],hbg,setRow_heap w g cur _ e _ hg,by rw [hlen];omega,by rw [hlen];exact hroom,hcm,?_,?_⟩
   ·simp only [List.size_toArray,List.length_append,List.length_take,List.length_drop,Array.length_toList,Lib.strCells_length]
    omega
   ·rw [htake,hlen,hcells,← hcl]
    exact List.take_left
  ·exact ⟨rfl,rfl,rfl,by simp,fun k hk => setRow_other w g k _ (by omega)⟩
 ·have holds : ∀ j u,(Lib.byteCells l)[j]? = some u → w.cell? ((⟨g,0,none⟩ : Addr).add j) = some u := by
   intro j u hu
   rw [← htake,List.getElem?_take] at hu
   split at hu
   ·rw [zdL]
    simp [World.cell?,hg]
    simpa using hu
   ·cases hu
  have hr := Lib.run_append_grow_string (P := P) w t u ty e i (.int .u8 0) ht hu hi hz ⟨g,0,none⟩ l.length cap (Lib.byteCells l) (by rw [hsize,Lib.byteCells_length];omega) holds s (by omega) (by omega) (by rw [hby];exact growslice_fits (by omega) (by omega))
  have hge := grownCap_ge w (l.length + s.size) cap e
  have hcm2 : grownCap w (l.length + s.size) cap e ≤ maxLen := grownCap_le_maxLen w (l.length + s.size) cap e hsmall
  refine ⟨_,_,hr,⟨w.heap.size,_,_,(0,0),by rw [hlen],hbase,heap_alloc_new w.drew _,.inl (Nat.zero_le _),by rw [hlen];exact hge,hcm2,?_,?_⟩,⟨rfl,rfl,rfl,by simp,fun k hk => Lib.alloc_old w.drew _ k (Nat.lt_of_lt_of_le hk hbase)⟩⟩
  ·have hz1 : (Value.int IntKind.u8 0).cells.size = 1 := rfl
   simp only [Array.size_append,List.size_toArray,size_zeroCells,hz1,Lib.byteCells_length,Lib.strCells_length]
   omega
  ·simp only [Array.toList_append,List.append_assoc]
   rw [← List.append_assoc,hlen,hcells,← hcl]
   exact List.take_left
theorem zfk {P : Program} {w w0 : World} {ops : Array Oper} {rest : List Oper} {o : Oper} {a : Act} {Q : Exit → Act → World → Prop} (hgd : o.guard = none) (sl x : Operand) (t u : TypeId)
  (ho : o.op = .call { callee := .builtin .append,args := #[sl,x],argTypes := #[t,u] })
  (base : Nat) (e : TypeId) (ht : P.underlying t = some (.slice e)) (hu : P.underlying u = some .string) (hinfo : (P.info? e).map (fun i => (i.zero,i.size,i.bytes)) = some (some (.int .u8 0),1,1))
  (v : Value) (l : Bs) (hs : a.eval sl = v) (hown : za1 w base e v l) (s : ByteArray) (hx : a.eval x = .string s) (HB : Below base w0 w) (hbytes : l.length + s.size ≤ 140737488355328) (hbase : base ≤ w.heap.size)
  (h : ∀ v' w',za1 w' base e v' (l ++ ofB s) → Below base w0 w' → wpList P ops Q rest (a.put o.dst v') w') : wpList P ops Q (o :: rest) a w := by
 obtain ⟨i0,hi,hzz⟩ := Option.map_eq_some_iff.1 hinfo
 simp only [Prod.mk.injEq] at hzz
 obtain ⟨hz0,hz1,hz2⟩ := hzz
 refine wpList_plain hgd fun K hK => ?_
 obtain ⟨v',w',hr,h2,h3⟩ := zfc (P := P) base t u o.type e i0 ht hu hi hz0 hz1 hz2 v l hown s hbytes hbase
 unfold Oper.wp execOp
 simp only [ho,resolve,invoke,builtin,Sem.run_bind,Sem.run_pure,Result.andThen_ok,List.map_toArray,List.map_cons,List.map_nil,hs,hx,hr]
 exact hK _ _ (h v' w' h2 (HB.trans h3))
theorem za1.string {P : Program} {w : World} {base : Nat} {e src : TypeId} {v : Value} {l : Bs} (hown : za1 w base e v l) (hs : P.underlying src = some (.slice e)) (he : P.underlying e = some (.int .u8)) :
  ∀ dst,P.underlying dst = some .string → (convert src dst v).run P w = .ok (.string (toB l)) w := by
 obtain ⟨g,cap,cur,fz,rfl,hbg,hg,hfz,hnc,hcm,hcs,htake⟩ := hown
 intro dst hd
 have h := run_convert_bytes_arg (P := P) w src e hs he g 0 l.length cap (l.map fun b => (b.toNat : Int)) (by simp) (fun i hi => by
  have h1 : (Lib.byteCells l)[i]? = some (.int .u8 ((l.map fun b => (b.toNat : Int)).getD i 0)) := by
   simp [Lib.byteCells,List.getElem?_eq_getElem hi]
  rw [← htake,List.getElem?_take,if_pos hi] at h1
  rw [Nat.zero_add]
  simp [World.cell?,hg]
  simpa using h1) dst hd
 rw [h]
 congr 3
 rw [zce,List.map_map]
 congr 1
 rw [List.map_congr_left (g := id) (fun b _ => by simp),List.map_id]
end Go.Proofs.YtfhbeonhnhjikaaGreat.Px