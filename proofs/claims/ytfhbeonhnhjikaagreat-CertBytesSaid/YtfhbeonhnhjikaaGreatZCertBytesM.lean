/- Part 13 of 35 of the proof of the law CertBytes: what is proved is the statement at the end of the last part; its conditions are those of the given row. -/
import Derived.Test.YtfhbeonhnhjikaaGreatZCertBytesL
namespace Go.Proofs.YtfhbeonhnhjikaaGreat.Px
open Go.RowKit Go.Proofs.YtfhbeonhnhjikaaGreatW.PrintWords Go.Proofs.YtfhbeonhnhjikaaGreatW.PrintLast Go.Proofs.YtfhbeonhnhjikaaGreatW.PrintMore
attribute [local go_sem] zz zB zI zJ zp zq zA zC
set_option linter.unusedVariables false
set_option linter.unusedSimpArgs false
def zbf.f (a0_0 : Int) (a0_1 : Int) (l0_2 : List (S73)) (l0_3 : List ByteArray) (a0_4 : Int) (a0_5 : Int) (a0_6 : Int) (a1 : Int) : Option (ByteArray × Int) := (zaV.f a0_0 a0_1 l0_2 l0_3 a0_4 a0_5 a0_6 a1).bind fun t209 => (if t209 = 0 then ((zat.f a0_0 a0_1 l0_2 l0_3 a0_4 a0_5 a1).bind fun bt210 => ((zbC.f bt210.1).bind fun t212 => ((zal.f a0_6).bind fun t213 => (if t212.size + t213.size ≤ 9223372036854775807 then (some (t212 ++ t213,0)) else (none))))) else (some ((⟨#[]⟩ : ByteArray),t209)))
def zbf.T5 : Bool × List (List Nat × List Nat) := (true,[([],[]),([0],[0]),([],[]),([2],[2]),([3,1],[3]),([1,4],[1,4]),([5,4,0,1,2,3,4,5],[5]),([6,0,1,2,3,4,5,6],[])])
def zbf.B5 : List Nat := [0,1,0,4,15,31,63,127]
theorem zbf.tab5 : zcT .any (zfN Tryz.f5 5) = zbf.T5 := by kernel_rfl
theorem zbf.bits5 : zcB zbf.T5.2 zbf.B5 = true := by kernel_rfl
set_option maxHeartbeats 8000000 in
set_option maxRecDepth 100000 in
theorem zbf.calls (a0_0 : Int) (a0_1 : Int) (A0_2 : Option Addr) (c0_2 : Nat) (l0_2 : List (S73)) (A0_3 : Option Addr) (c0_3 : Nat) (l0_3 : List ByteArray) (a0_4 : Int) (a0_5 : Int) (a0_6 : Int) (a1 : Int) (r1 : ByteArray) (r2 : Int) (w : World) (hr0_2 : Kd.C k73 w A0_2 l0_2.length l0_2) (hc0_2 : l0_2.length ≤ c0_2) (hr0_3 : Kd.C Kd.string w A0_3 l0_3.length l0_3) (hc0_3 : l0_3.length ≤ c0_3) (h : zbf.f a0_0 a0_1 l0_2 l0_3 a0_4 a0_5 a0_6 a1 = some (r1,r2)) :
  Calls Tryz.prog 5 #[.agg #[.int .i64 a0_0,.int .i64 a0_1,.slice A0_2 l0_2.length c0_2,.slice A0_3 l0_3.length c0_3,.int .i64 a0_4,.int .i64 a0_5,.int .u64 a0_6],.int .i64 a1] w fun e w' => e = .returned (.tuple #[.string r1,.int .i64 r2]) ∧ Below w.heap.size w w' := by
 have hu30 := Tryz.underlying30
 have hu27 := Tryz.underlying27
 have HR0_2 := za.mk hr0_2
 have HC0_2 := za.mk hc0_2
 clear hr0_2 hc0_2
 have HR0_3 := za.mk hr0_3
 have HC0_3 := za.mk hc0_3
 clear hr0_3 hc0_3
 have HB := za.mk (Below.refl w.heap.size w)
 have H : ((zaV.f a0_0 a0_1 l0_2 l0_3 a0_4 a0_5 a0_6 a1).bind fun t209 => (if t209 = 0 then ((zat.f a0_0 a0_1 l0_2 l0_3 a0_4 a0_5 a1).bind fun bt210 => ((zbC.f bt210.1).bind fun t212 => ((zal.f a0_6).bind fun t213 => (if t212.size + t213.size ≤ 9223372036854775807 then (some (t212 ++ t213,0)) else (none))))) else (some ((⟨#[]⟩ : ByteArray),t209)))) = some (r1,r2) := h
 clear h
 replace H := Option.bind_eq_some_iff.mp H
 obtain ⟨t209,A30,H⟩ := H
 replace H : (if t209 = 0 then ((zat.f a0_0 a0_1 l0_2 l0_3 a0_4 a0_5 a1).bind fun bt210 => ((zbC.f bt210.1).bind fun t212 => ((zal.f a0_6).bind fun t213 => (if t212.size + t213.size ≤ 9223372036854775807 then (some (t212 ++ t213,0)) else (none))))) else (some ((⟨#[]⟩ : ByteArray),t209))) = some (r1,r2) := H
 have A3 := za.mk A30
 clear A30
 by_cases c4 : t209 = 0
 ·rw [if_pos c4] at H
  have c4b0 : (t209 == 0) = true := beq_iff_eq.mpr c4
  have c4b1 : (t209 != 0) = false := bne_eq_false_iff_eq.mpr c4
  clear c4
  replace H := Option.bind_eq_some_iff.mp H
  obtain ⟨⟨t210,t211⟩,A50,H⟩ := H
  replace H : ((zbC.f t210).bind fun t212 => ((zal.f a0_6).bind fun t213 => (if t212.size + t213.size ≤ 9223372036854775807 then (some (t212 ++ t213,0)) else (none)))) = some (r1,r2) := H
  have A5 := za.mk A50
  clear A50
  replace H := Option.bind_eq_some_iff.mp H
  obtain ⟨t212,A60,H⟩ := H
  replace H : ((zal.f a0_6).bind fun t213 => (if t212.size + t213.size ≤ 9223372036854775807 then (some (t212 ++ t213,0)) else (none))) = some (r1,r2) := H
  have A6 := za.mk A60
  clear A60
  replace H := Option.bind_eq_some_iff.mp H
  obtain ⟨t213,A70,H⟩ := H
  replace H : (if t212.size + t213.size ≤ 9223372036854775807 then (some (t212 ++ t213,0)) else (none)) = some (r1,r2) := H
  have A7 := za.mk A70
  clear A70
  by_cases c8 : t212.size + t213.size ≤ 9223372036854775807
  ·rw [if_pos c8] at H
   have c8b0 := eq_true c8
   have c8b1 : decide (t212.size + t213.size ≤ 9223372036854775807) = true := decide_eq_true c8
   try have c8b2 : (9223372036854775807 < t212.size + t213.size) = False := eq_false (Nat.not_lt.2 c8)
   simp only [Option.some.injEq,Prod.mk.injEq] at H
   obtain ⟨rfl,rfl⟩ := H
   go_enter Tryz.func5,Tryz.ntmps5
   try go_wp2_with (first | ((with_reducible refine zy (N := 2) rfl ?_);refine zo ?hg (N := 2) ?hd (cs := #[.int .i64 a0_0,.int .i64 a0_1,.slice A0_2 l0_2.length c0_2,.slice A0_3 l0_3.length c0_3,.int .i64 a0_4,.int .i64 a0_5,.int .u64 a0_6]) (t := 30) ?hr ?_;(case hd => rfl);(case hg => rfl);(case hr => first | (go_simp;done) | (go_simp;rfl));intro gb208 hg w9 hbox hb;have n_ := haq (zd hBq hb) <| haq (hbox) <| haq ((by rw [hg];exact (ze hBq) : w.heap.size ≤ gb208)) <| haq ((by rw [hg];exact (ze hBq) : w.heap.size ≤ gb208)) <| trivial;clear HB;obtain ⟨HB,BK208,GW208,GE208,_⟩ := n_;clear hb hbox hg;obtain ⟨hcz10_0,hcz10_1,hcz10_2,hcz10_3,hcz10_4,hcz10_5,hcz10_6,hfz10_0,hfz10_1,hfz10_2,hfz10_3,hfz10_4,hfz10_5,hfz10_6⟩ := hcq7 BK208.out) | ((with_reducible refine zj (f := 14) rfl ?_);refine zQ (some 11) rfl rfl Tryz.func14 (by kernel_rfl) rfl #[.agg #[.int .i64 a0_0,.int .i64 a0_1,.slice A0_2 l0_2.length c0_2,.slice A0_3 l0_3.length c0_3,.int .i64 a0_4,.int .i64 a0_5,.int .u64 a0_6],.int .i64 a1] rfl hMq ?_;(with_reducible refine (zaV.calls a0_0 a0_1 _ _ l0_2 _ _ l0_3 a0_4 a0_5 a0_6 a1 t209 _ ?side1 ?side2 ?side3 ?side4 A3.out).mono ?_);(case side1 => exact hKq (Kd.C_below HR0_2.out HB.out));(case side2 => exact HC0_2.out);(case side3 => exact hKq (Kd.C_below HR0_3.out HB.out));(case side4 => exact HC0_3.out);rintro e w11 ⟨rfl,hb⟩;refine ⟨_,rfl,?_⟩;have n_ := haq (hbq BK208.out hb) <| haq (zd hCq hb) <| trivial;clear BK208 HB;obtain ⟨BK208,HB,_⟩ := n_;(try clear hb);(try clear hb2);(try clear hk);(try clear hi);obtain ⟨hcz12_0,hcz12_1,hcz12_2,hcz12_3,hcz12_4,hcz12_5,hcz12_6,hfz12_0,hfz12_1,hfz12_2,hfz12_3,hfz12_4,hfz12_5,hfz12_6⟩ := hcq7 BK208.out) | ((with_reducible refine zj (f := 15) rfl ?_);refine zQ (some 19) rfl rfl Tryz.func15 (by kernel_rfl) rfl #[.agg #[.int .i64 a0_0,.int .i64 a0_1,.slice A0_2 l0_2.length c0_2,.slice A0_3 l0_3.length c0_3,.int .i64 a0_4,.int .i64 a0_5],.int .i64 a1] rfl hMq ?_;(with_reducible refine (zat.calls a0_0 a0_1 _ _ l0_2 _ _ l0_3 a0_4 a0_5 a1 t210 t211 _ ?side1 ?side2 ?side3 ?side4 A5.out).mono ?_);(case side1 => exact hKq (Kd.C_below HR0_2.out HB.out));(case side2 => exact HC0_2.out);(case side3 => exact hKq (Kd.C_below HR0_3.out HB.out));(case side4 => exact HC0_3.out);rintro e w13 ⟨rfl,hb⟩;refine ⟨_,rfl,?_⟩;have n_ := haq (hbq BK208.out hb) <| haq (zd hCq hb) <| trivial;clear BK208 HB;obtain ⟨BK208,HB,_⟩ := n_;(try clear hb);(try clear hb2);(try clear hk);(try clear hi)))
   have n0_ := za.mk (zbq BK208.out)
   have n1_ := za.mk (zm HB.out)
   clear BK208
   clear HB
   have BK208 := n0_
   have HB := n1_
   clear n0_ n1_
   refine zds (n := 8) (S := fun w' => w'.cell? ⟨gb208,0,none⟩ = some (.int .i64 a0_0) ∧ w'.cell? ⟨gb208,1,none⟩ = some (.int .i64 a0_1) ∧ w'.cell? ⟨gb208,2,none⟩ = some (.slice A0_2 l0_2.length c0_2) ∧ w'.cell? ⟨gb208,3,none⟩ = some (.slice A0_3 l0_3.length c0_3) ∧ w'.cell? ⟨gb208,4,none⟩ = some (.int .i64 a0_4) ∧ w'.cell? ⟨gb208,5,none⟩ = some (.int .i64 a0_5) ∧ w'.cell? ⟨gb208,6,none⟩ = some (.int .u64 a0_6)) (ds := []) #[false,false,false,false,false,false,false,false] (by kernel_rfl) rfl rfl ⟨(zb BK208.out 0).trans rfl,(zb BK208.out 1).trans rfl,(zb BK208.out 2).trans rfl,(zb BK208.out 3).trans rfl,(zb BK208.out 4).trans rfl,(zb BK208.out 5).trans rfl,(zb BK208.out 6).trans rfl⟩ (fun hHeld => ?_);refine zcq zbf.tab5 zbf.bits5 (fun HT_ HW_ => ?_)
   generalize w13.drew = w14 at BK208 HB hHeld ⊢
   refine zaj (i := 0) (N := some 22) (v := ?_) (a' := ?_) #[true,false,false,false,false,false,false,false] rfl rfl (zab HT_.out (by kernel_rfl)) (fun _ _ _ h => h) (Or.inl ⟨by rfl,?_⟩) ?_ ?_
   rotate_left
   ·intro w'
    go_simp
    with_reducible rfl
   rotate_left
   ·simp only [Act.put,List.setIfInBounds_toArray,List.set_cons_zero,List.set_cons_succ,zK,zL]
    rfl
   refine zaj (i := 2) (N := some 24) (v := ?_) (a' := ?_) #[true,false,true,false,false,false,false,false] rfl rfl (zab HT_.out (by kernel_rfl)) (fun _ _ _ h => h) (Or.inl ⟨by rfl,?_⟩) ?_ ?_
   rotate_left
   ·intro w'
    go_simp
    with_reducible rfl
   rotate_left
   ·simp only [Act.put,List.setIfInBounds_toArray,List.set_cons_zero,List.set_cons_succ,zK,zL]
    rfl
   refine take_ (i := 3) (N := some 25) (v := ?_) (a' := ?_) #[true,false,true,true,false,false,false,false] rfl rfl (za9 HT_.out HW_.out (by kernel_rfl)) (fun _ _ _ h => h) (Or.inl ⟨by rfl,?_⟩) hHeld ?_ ?_
   rotate_left
   ·rintro w' ⟨s0,s1,s2,s3,s4,s5,s6⟩
    go_simp
    with_reducible rfl
   rotate_left
   ·simp only [Act.put,List.setIfInBounds_toArray,List.set_cons_zero,List.set_cons_succ,zK,zL]
    rfl
   refine zdl (i := 1) (N := some 23) #[true,true,true,true,false,false,false,false] rfl rfl (zb5 HT_.out (by kernel_rfl)) (by decide) (fun K hK => ?_)
   refine zci Tryz.func16 (by kernel_rfl) rfl #[.string t210] (by rfl) rfl rfl hMq ?_
   with_reducible refine (zbC.calls t210 t212 _ A6.out).mono ?_
   rintro e w15 ⟨rfl,hb⟩
   refine ⟨_,rfl,?_⟩
   have n0_ := za.mk (hbq BK208.out hb)
   have n1_ := za.mk (zd hCq hb)
   clear BK208
   clear HB
   have BK208 := n0_
   have HB := n1_
   clear n0_ n1_
   (try clear hb)
   (try clear hb2)
   (try clear hk)
   (try clear hi)
   refine hK.out _ _ ⟨(zb BK208.out 0).trans rfl,(zb BK208.out 1).trans rfl,(zb BK208.out 2).trans rfl,(zb BK208.out 3).trans rfl,(zb BK208.out 4).trans rfl,(zb BK208.out 5).trans rfl,(zb BK208.out 6).trans rfl⟩ (fun hHeld => ?_)
   clear hK K
   refine zck (a' := ?_) ?_ ?_
   rotate_left
   ·show Act.put _ (some 23) _ = _
    simp only [Act.put,List.setIfInBounds_toArray,List.set_cons_zero,List.set_cons_succ,zK,zL]
    rfl
   refine zdl (i := 4) (N := some 26) #[true,true,true,true,true,false,false,false] rfl rfl (zb5 HT_.out (by kernel_rfl)) (by decide) (fun K hK => ?_)
   refine zci Tryz.func17 (by kernel_rfl) rfl #[.int .u64 a0_6] (by rfl) rfl rfl hMq ?_
   with_reducible refine (zal.calls a0_6 t213 _ A7.out).mono ?_
   rintro e w16 ⟨rfl,hb⟩
   refine ⟨_,rfl,?_⟩
   have n0_ := za.mk (hbq BK208.out hb)
   have n1_ := za.mk (zd hCq hb)
   clear BK208
   clear HB
   have BK208 := n0_
   have HB := n1_
   clear n0_ n1_
   (try clear hb)
   (try clear hb2)
   (try clear hk)
   (try clear hi)
   refine hK.out _ _ ⟨(zb BK208.out 0).trans rfl,(zb BK208.out 1).trans rfl,(zb BK208.out 2).trans rfl,(zb BK208.out 3).trans rfl,(zb BK208.out 4).trans rfl,(zb BK208.out 5).trans rfl,(zb BK208.out 6).trans rfl⟩ (fun hHeld => ?_)
   clear hK K
   refine zck (a' := ?_) ?_ ?_
   rotate_left
   ·show Act.put _ (some 26) _ = _
    simp only [Act.put,List.setIfInBounds_toArray,List.set_cons_zero,List.set_cons_succ,zK,zL]
    rfl
   refine zaj (i := 5) (N := some 27) (v := ?_) (a' := ?_) #[true,true,true,true,true,true,false,false] rfl rfl (zab HT_.out (by kernel_rfl)) (fun _ _ _ h => h) (Or.inl ⟨by rfl,?_⟩) ?_ ?_
   rotate_left
   ·intro w'
    go_simp
    with_reducible rfl
   rotate_left
   ·simp only [Act.put,List.setIfInBounds_toArray,List.set_cons_zero,List.set_cons_succ,zK,zL]
    rfl
   refine zaj (i := 6) (N := some 4) (v := ?_) (a' := ?_) #[true,true,true,true,true,true,true,false] rfl rfl (zab HT_.out (by kernel_rfl)) (fun _ _ _ h => h) (Or.inl ⟨by rfl,?_⟩) ?_ ?_
   rotate_left
   ·intro w'
    go_simp
    with_reducible rfl
   rotate_left
   ·simp only [Act.put,List.setIfInBounds_toArray,List.set_cons_zero,List.set_cons_succ,zK,zL]
    rfl
   refine zaj (i := 7) (N := some 5) (v := ?_) (a' := ?_) #[true,true,true,true,true,true,true,true] rfl rfl (zab HT_.out (by kernel_rfl)) (fun _ _ _ h => h) (Or.inl ⟨by rfl,?_⟩) ?_ ?_
   rotate_left
   ·intro w'
    go_simp
    with_reducible rfl
   rotate_left
   ·simp only [Act.put,List.setIfInBounds_toArray,List.set_cons_zero,List.set_cons_succ,zK,zL]
    rfl
   refine zek (zdk HT_.out (by kernel_rfl)) ?_
   try go_wp2
   go_ret2
   exact ⟨hHq,hCq⟩
  ·rw [if_neg c8] at H
   exact absurd H (by simp)
 ·rw [if_neg c4] at H
  have c4b0 : (t209 == 0) = false := beq_eq_false_iff_ne.mpr c4
  have c4b1 : (t209 != 0) = true := bne_iff_ne.mpr c4
  simp only [Option.some.injEq,Prod.mk.injEq] at H
  obtain ⟨rfl,rfl⟩ := H
  go_enter Tryz.func5,Tryz.ntmps5
  go_wp2_with (first | ((with_reducible refine zy (N := 2) rfl ?_);refine zo ?hg (N := 2) ?hd (cs := #[.int .i64 a0_0,.int .i64 a0_1,.slice A0_2 l0_2.length c0_2,.slice A0_3 l0_3.length c0_3,.int .i64 a0_4,.int .i64 a0_5,.int .u64 a0_6]) (t := 30) ?hr ?_;(case hd => rfl);(case hg => rfl);(case hr => first | (go_simp;done) | (go_simp;rfl));intro gb208 hg w17 hbox hb;have n_ := haq (zd hBq hb) <| haq (hbox) <| haq ((by rw [hg];exact (ze hBq) : w.heap.size ≤ gb208)) <| haq ((by rw [hg];exact (ze hBq) : w.heap.size ≤ gb208)) <| trivial;clear HB;obtain ⟨HB,BK208,GW208,GE208,_⟩ := n_;clear hb hbox hg;obtain ⟨hcz18_0,hcz18_1,hcz18_2,hcz18_3,hcz18_4,hcz18_5,hcz18_6,hfz18_0,hfz18_1,hfz18_2,hfz18_3,hfz18_4,hfz18_5,hfz18_6⟩ := hcq7 BK208.out) | ((with_reducible refine zj (f := 14) rfl ?_);refine zQ (some 11) rfl rfl Tryz.func14 (by kernel_rfl) rfl #[.agg #[.int .i64 a0_0,.int .i64 a0_1,.slice A0_2 l0_2.length c0_2,.slice A0_3 l0_3.length c0_3,.int .i64 a0_4,.int .i64 a0_5,.int .u64 a0_6],.int .i64 a1] rfl hMq ?_;(with_reducible refine (zaV.calls a0_0 a0_1 _ _ l0_2 _ _ l0_3 a0_4 a0_5 a0_6 a1 t209 _ ?side1 ?side2 ?side3 ?side4 A3.out).mono ?_);(case side1 => exact hKq (Kd.C_below HR0_2.out HB.out));(case side2 => exact HC0_2.out);(case side3 => exact hKq (Kd.C_below HR0_3.out HB.out));(case side4 => exact HC0_3.out);rintro e w19 ⟨rfl,hb⟩;refine ⟨_,rfl,?_⟩;have n_ := haq (hbq BK208.out hb) <| haq (zd hCq hb) <| trivial;clear BK208 HB;obtain ⟨BK208,HB,_⟩ := n_;(try clear hb);(try clear hb2);(try clear hk);(try clear hi)))
  go_ret2
  exact ⟨hHq,hCq⟩
end Go.Proofs.YtfhbeonhnhjikaaGreat.Px
namespace Go.Proofs.YtfhbeonhnhjikaaGreat.Px
open Go.RowKit Go.Proofs.YtfhbeonhnhjikaaGreatW.PrintWords Go.Proofs.YtfhbeonhnhjikaaGreatW.PrintLast Go.Proofs.YtfhbeonhnhjikaaGreatW.PrintMore
attribute [local go_sem] zz zB zI zJ zp zq zA zC
set_option linter.unusedVariables false
set_option linter.unusedSimpArgs false
attribute [local go_sem high] eqA25
def zcJ.f (k : Nat) (a0_0 : Int) (a0_1 : Int) (l0_2 : List (S73)) (l0_3 : List ByteArray) (a0_4 : Int) (a0_5 : Int) (a1_0 : Int) (a1_1 : Int) (l1_2 : List (S73)) (l1_3 : List ByteArray) (a1_4 : Int) (a1_5 : Int) : Option (Bool) := if a0_0 = a1_0 then (if a0_1 = a1_1 then (if (a0_4 == a1_4 && (a0_5 == a1_5)) = true then ((zM.f k l0_3 l1_3).bind fun t412 => (if t412 = true then ((zaW.f l0_2 l1_2).bind fun t413 => (some t413)) else (some false))) else (some false)) else (some false)) else (some false)
set_option maxHeartbeats 8000000 in
set_option maxRecDepth 100000 in
theorem zcJ.calls (k : Nat) (a0_0 : Int) (a0_1 : Int) (A0_2 : Option Addr) (c0_2 : Nat) (l0_2 : List (S73)) (A0_3 : Option Addr) (c0_3 : Nat) (l0_3 : List ByteArray) (a0_4 : Int) (a0_5 : Int) (a1_0 : Int) (a1_1 : Int) (A1_2 : Option Addr) (c1_2 : Nat) (l1_2 : List (S73)) (A1_3 : Option Addr) (c1_3 : Nat) (l1_3 : List ByteArray) (a1_4 : Int) (a1_5 : Int) (r : Bool) (w : World) (hr0_2 : Kd.C k73 w A0_2 l0_2.length l0_2) (hc0_2 : l0_2.length ≤ c0_2) (hr0_3 : Kd.C Kd.string w A0_3 l0_3.length l0_3) (hc0_3 : l0_3.length ≤ c0_3) (hr1_2 : Kd.C k73 w A1_2 l1_2.length l1_2) (hc1_2 : l1_2.length ≤ c1_2) (hr1_3 : Kd.C Kd.string w A1_3 l1_3.length l1_3) (hc1_3 : l1_3.length ≤ c1_3) (h : zcJ.f k a0_0 a0_1 l0_2 l0_3 a0_4 a0_5 a1_0 a1_1 l1_2 l1_3 a1_4 a1_5 = some r) :
  Calls Tryz.prog 29 #[.agg #[.int .i64 a0_0,.int .i64 a0_1,.slice A0_2 l0_2.length c0_2,.slice A0_3 l0_3.length c0_3,.int .i64 a0_4,.int .i64 a0_5],.agg #[.int .i64 a1_0,.int .i64 a1_1,.slice A1_2 l1_2.length c1_2,.slice A1_3 l1_3.length c1_3,.int .i64 a1_4,.int .i64 a1_5]] w fun e w' => e = .returned (.bool r) ∧ Below w.heap.size w w' := by
 have hu27 := Tryz.underlying27
 have hu25 := Tryz.underlying25
 have HR0_2 := za.mk hr0_2
 have HC0_2 := za.mk hc0_2
 clear hr0_2 hc0_2
 have HR0_3 := za.mk hr0_3
 have HC0_3 := za.mk hc0_3
 clear hr0_3 hc0_3
 have HR1_2 := za.mk hr1_2
 have HC1_2 := za.mk hc1_2
 clear hr1_2 hc1_2
 have HR1_3 := za.mk hr1_3
 have HC1_3 := za.mk hc1_3
 clear hr1_3 hc1_3
 have HB := za.mk (Below.refl w.heap.size w)
 have H : (if a0_0 = a1_0 then (if a0_1 = a1_1 then (if (a0_4 == a1_4 && (a0_5 == a1_5)) = true then ((zM.f k l0_3 l1_3).bind fun t412 => (if t412 = true then ((zaW.f l0_2 l1_2).bind fun t413 => (some t413)) else (some false))) else (some false)) else (some false)) else (some false)) = some r := h
 clear h
 by_cases c3 : a0_0 = a1_0
 focus
  rw [if_pos c3] at H
  have c3b0 : (a0_0 == a1_0) = true := beq_iff_eq.mpr c3
  have c3b1 : (a0_0 != a1_0) = false := bne_eq_false_iff_eq.mpr c3
  clear c3
  by_cases c4 : a0_1 = a1_1
  focus
   rw [if_pos c4] at H
   have c4b0 : (a0_1 == a1_1) = true := beq_iff_eq.mpr c4
   have c4b1 : (a0_1 != a1_1) = false := bne_eq_false_iff_eq.mpr c4
   clear c4
   by_cases c5 : (a0_4 == a1_4 && (a0_5 == a1_5)) = true
   focus
    rw [if_pos c5] at H
    have c5b0 : (a0_4 == a1_4 && (a0_5 == a1_5)) = true := c5
    (try (have c5b1 : decide (a0_4 = a1_4 && (a0_5 == a1_5)) = true := by simpa using c5))
    (try (have c5b2 : (a0_4 == a1_4 && (a0_5 == a1_5)) = true := by simpa using c5))
    clear c5
    replace H := Option.bind_eq_some_iff.mp H
    obtain ⟨t412,A60,H⟩ := H
    replace H : (if t412 = true then ((zaW.f l0_2 l1_2).bind fun t413 => (some t413)) else (some false)) = some r := H
    have A6 := za.mk A60
    clear A60
    by_cases c7 : t412 = true
    focus
     subst c7
     have H1 : ((zaW.f l0_2 l1_2).bind fun t413 => (some t413)) = some r := by rw [if_pos rfl] at H;exact H
     clear H
     have H := H1
     clear H1
     replace H := Option.bind_eq_some_iff.mp H
     obtain ⟨t413,A80,H⟩ := H
     replace H : (some t413) = some r := H
     have A8 := za.mk A80
     clear A80
     obtain rfl := Option.some.inj H
     have EQ0 := True.intro
    rotate_left
    focus
     replace c7 := Bool.eq_false_iff.mpr c7
     subst c7
     have H1 : (some false) = some r := by rw [if_neg (show ¬ (false = true) by decide)] at H;exact H
     clear H
     have H := H1
     clear H1
     obtain rfl := Option.some.inj H
     have EQ1 := True.intro
   rotate_left 2
   focus
    rw [if_neg c5] at H
    have c5b0 : (a0_4 == a1_4 && (a0_5 == a1_5)) = false := by simpa using c5
    (try (have c5b1 : decide (a0_4 = a1_4 && (a0_5 == a1_5)) = false := by simpa using c5))
    (try (have c5b2 : (a0_4 == a1_4 && (a0_5 == a1_5)) = false := by simpa using c5))
    (try (have c5b3 : ¬ (a0_4 = a1_4 && (a0_5 == a1_5)) := by simpa using c5))
    clear c5
    obtain rfl := Option.some.inj H
  rotate_left 3
  focus
   rw [if_neg c4] at H
   have c4b0 : (a0_1 == a1_1) = false := beq_eq_false_iff_ne.mpr c4
   have c4b1 : (a0_1 != a1_1) = true := bne_iff_ne.mpr c4
   obtain rfl := Option.some.inj H
 rotate_left 4
 focus
  rw [if_neg c3] at H
  have c3b0 : (a0_0 == a1_0) = false := beq_eq_false_iff_ne.mpr c3
  have c3b1 : (a0_0 != a1_0) = true := bne_iff_ne.mpr c3
  obtain rfl := Option.some.inj H
 all_goals
  go_enter Tryz.func29,Tryz.ntmps29
  go_wp2_with (first | ((with_reducible refine zy (N := 2) rfl ?_);refine zo ?hg (N := 2) ?hd (cs := #[.int .i64 a0_0,.int .i64 a0_1,.slice A0_2 l0_2.length c0_2,.slice A0_3 l0_3.length c0_3,.int .i64 a0_4,.int .i64 a0_5]) (t := 27) ?hr ?_;(case hd => rfl);(case hg => rfl);(case hr => first | (go_simp;done) | (go_simp;rfl));intro gb410 hg wQN22 hbox hb;have n_ := haq (zd hBq hb) <| haq (hbox) <| haq ((by rw [hg];exact (ze hBq) : w.heap.size ≤ gb410)) <| haq ((by rw [hg];exact (ze hBq) : w.heap.size ≤ gb410)) <| trivial;clear HB;obtain ⟨HB,BK410,GW410,GE410,_⟩ := n_;clear hb hbox hg) | ((with_reducible refine zy (N := 3) rfl ?_);refine zo ?hg (N := 3) ?hd (cs := #[.int .i64 a1_0,.int .i64 a1_1,.slice A1_2 l1_2.length c1_2,.slice A1_3 l1_3.length c1_3,.int .i64 a1_4,.int .i64 a1_5]) (t := 27) ?hr ?_;(case hd => rfl);(case hg => rfl);(case hr => first | (go_simp;done) | (go_simp;rfl));intro gb411 hg wQN32 hbox hb;have n_ := haq (hbq BK410.out hb) <| haq (zd hCq hb) <| haq (hbox) <| haq ((by rw [hg];exact (ze hCq) : w.heap.size ≤ gb411)) <| haq ((by rw [hg];exact (ze hCq) : w.heap.size ≤ gb411)) <| haq (hnq hg BK410.out) <| haq (hmq hg BK410.out) <| trivial;clear BK410 HB;obtain ⟨BK410,HB,BK411,GW411,GE411,NBQN37,NBQN38,_⟩ := n_;clear hb hbox hg;have hnbQN39 := NBQN37.out;have hncQN310 := NBQN38.out;obtain ⟨hczQN311,hczQN312,hczQN313,hczQN314,hczQN315,hczQN316,hfzQN317,hfzQN318,hfzQN319,hfzQN320,hfzQN321,hfzQN322⟩ := hcq6 BK410.out;obtain ⟨hczQN323,hczQN324,hczQN325,hczQN326,hczQN327,hczQN328,hfzQN329,hfzQN330,hfzQN331,hfzQN332,hfzQN333,hfzQN334⟩ := hcq6 BK411.out) | (have _ := EQ0;(go_at_call 56;(with_reducible refine (zM.calls k _ _ l0_3 _ _ l1_3 true _ ?side1 ?side2 ?side3 ?side4 A6.out).mono ?_);(case side1 => exact hKq (Kd.C_below HR0_3.out HB.out));(case side2 => exact HC0_3.out);(case side3 => exact hKq (Kd.C_below HR1_3.out HB.out));(case side4 => exact HC1_3.out);rintro e w' ⟨rfl,⟨nd,rfl⟩⟩)) | (have _ := EQ0;(go_at_call 57;(with_reducible refine (zaW.calls _ _ l0_2 _ _ l1_2 t413 _ ?side1 ?side2 ?side3 ?side4 A8.out).mono ?_);(case side1 => repeat (first | exact (Kd.C_below HR0_2.out hCq) | (with_reducible refine Kd.C_alloc ?_ _) | (with_reducible refine Kd.C_drewN ?_ _) | (with_reducible refine Kd.C_drew ?_)));(case side2 => exact HC0_2.out);(case side3 => repeat (first | exact (Kd.C_below HR1_2.out hCq) | (with_reducible refine Kd.C_alloc ?_ _) | (with_reducible refine Kd.C_drewN ?_ _) | (with_reducible refine Kd.C_drew ?_)));(case side4 => exact HC1_2.out);rintro e wQC57A81 ⟨rfl,hb⟩;have n_ := haq (hbq BK410.out hb) <| haq (hbq BK411.out hb) <| haq (zd hCq hb) <| trivial;clear BK410 BK411 HB;obtain ⟨BK410,BK411,HB,_⟩ := n_;(try clear hb);(try clear hb2);(try clear hk);(try clear hi))) | (have _ := EQ1;(go_at_call 56;(with_reducible refine (zM.calls k _ _ l0_3 _ _ l1_3 false _ ?side1 ?side2 ?side3 ?side4 A6.out).mono ?_);(case side1 => exact hKq (Kd.C_below HR0_3.out HB.out));(case side2 => exact HC0_3.out);(case side3 => exact hKq (Kd.C_below HR1_3.out HB.out));(case side4 => exact HC1_3.out);rintro e w' ⟨rfl,⟨nd,rfl⟩⟩)))
  go_ret
  exact ⟨hHq,hCq⟩
end Go.Proofs.YtfhbeonhnhjikaaGreat.Px
namespace Go.Proofs.YtfhbeonhnhjikaaGreat.Px
open Go.RowKit Go.Proofs.YtfhbeonhnhjikaaGreatW.PrintWords Go.Proofs.YtfhbeonhnhjikaaGreatW.PrintLast Go.Proofs.YtfhbeonhnhjikaaGreatW.PrintMore
attribute [local go_sem] zz zB zI zJ zp zq zA zC
set_option linter.unusedVariables false
set_option linter.unusedSimpArgs false
def zdM.f (k : Nat) (a0_0 : Int) (a0_1 : Int) (l0_2 : List (S73)) (l0_3 : List ByteArray) (a0_4 : Int) (a0_5 : Int) (a0_6 : Int) (a1_0 : Int) (a1_1 : Int) (l1_2 : List (S73)) (l1_3 : List ByteArray) (a1_4 : Int) (a1_5 : Int) (a1_6 : Int) : Option (Bool) := if a0_6 = a1_6 then ((zcJ.f k a0_0 a0_1 l0_2 l0_3 a0_4 a0_5 a1_0 a1_1 l1_2 l1_3 a1_4 a1_5).bind fun t416 => (some t416)) else (some false)
set_option maxHeartbeats 8000000 in
set_option maxRecDepth 100000 in
theorem zdM.calls (k : Nat) (a0_0 : Int) (a0_1 : Int) (A0_2 : Option Addr) (c0_2 : Nat) (l0_2 : List (S73)) (A0_3 : Option Addr) (c0_3 : Nat) (l0_3 : List ByteArray) (a0_4 : Int) (a0_5 : Int) (a0_6 : Int) (a1_0 : Int) (a1_1 : Int) (A1_2 : Option Addr) (c1_2 : Nat) (l1_2 : List (S73)) (A1_3 : Option Addr) (c1_3 : Nat) (l1_3 : List ByteArray) (a1_4 : Int) (a1_5 : Int) (a1_6 : Int) (r : Bool) (w : World) (hr0_2 : Kd.C k73 w A0_2 l0_2.length l0_2) (hc0_2 : l0_2.length ≤ c0_2) (hr0_3 : Kd.C Kd.string w A0_3 l0_3.length l0_3) (hc0_3 : l0_3.length ≤ c0_3) (hr1_2 : Kd.C k73 w A1_2 l1_2.length l1_2) (hc1_2 : l1_2.length ≤ c1_2) (hr1_3 : Kd.C Kd.string w A1_3 l1_3.length l1_3) (hc1_3 : l1_3.length ≤ c1_3) (h : zdM.f k a0_0 a0_1 l0_2 l0_3 a0_4 a0_5 a0_6 a1_0 a1_1 l1_2 l1_3 a1_4 a1_5 a1_6 = some r) :
  Calls Tryz.prog 10 #[.agg #[.int .i64 a0_0,.int .i64 a0_1,.slice A0_2 l0_2.length c0_2,.slice A0_3 l0_3.length c0_3,.int .i64 a0_4,.int .i64 a0_5,.int .u64 a0_6],.agg #[.int .i64 a1_0,.int .i64 a1_1,.slice A1_2 l1_2.length c1_2,.slice A1_3 l1_3.length c1_3,.int .i64 a1_4,.int .i64 a1_5,.int .u64 a1_6]] w fun e w' => e = .returned (.bool r) ∧ Below w.heap.size w w' := by
 have hu30 := Tryz.underlying30
 have hu27 := Tryz.underlying27
 have HR0_2 := za.mk hr0_2
 have HC0_2 := za.mk hc0_2
 clear hr0_2 hc0_2
 have HR0_3 := za.mk hr0_3
 have HC0_3 := za.mk hc0_3
 clear hr0_3 hc0_3
 have HR1_2 := za.mk hr1_2
 have HC1_2 := za.mk hc1_2
 clear hr1_2 hc1_2
 have HR1_3 := za.mk hr1_3
 have HC1_3 := za.mk hc1_3
 clear hr1_3 hc1_3
 have HB := za.mk (Below.refl w.heap.size w)
 have H : (if a0_6 = a1_6 then ((zcJ.f k a0_0 a0_1 l0_2 l0_3 a0_4 a0_5 a1_0 a1_1 l1_2 l1_3 a1_4 a1_5).bind fun t416 => (some t416)) else (some false)) = some r := h
 clear h
 by_cases c3 : a0_6 = a1_6
 focus
  rw [if_pos c3] at H
  have c3b0 : (a0_6 == a1_6) = true := beq_iff_eq.mpr c3
  have c3b1 : (a0_6 != a1_6) = false := bne_eq_false_iff_eq.mpr c3
  clear c3
  replace H := Option.bind_eq_some_iff.mp H
  obtain ⟨t416,A40,H⟩ := H
  replace H : (some t416) = some r := H
  have A4 := za.mk A40
  clear A40
  obtain rfl := Option.some.inj H
  go_enter Tryz.func10,Tryz.ntmps10
  have EQ0 := True.intro
 rotate_left
 focus
  rw [if_neg c3] at H
  have c3b0 : (a0_6 == a1_6) = false := beq_eq_false_iff_ne.mpr c3
  have c3b1 : (a0_6 != a1_6) = true := bne_iff_ne.mpr c3
  obtain rfl := Option.some.inj H
  go_enter Tryz.func10,Tryz.ntmps10
 all_goals
  go_wp2_with (first | ((with_reducible refine zy (N := 2) rfl ?_);refine zo ?hg (N := 2) ?hd (cs := #[.int .i64 a0_0,.int .i64 a0_1,.slice A0_2 l0_2.length c0_2,.slice A0_3 l0_3.length c0_3,.int .i64 a0_4,.int .i64 a0_5,.int .u64 a0_6]) (t := 30) ?hr ?_;(case hd => rfl);(case hg => rfl);(case hr => first | (go_simp;done) | (go_simp;rfl));intro gb414 hg wQN22 hbox hb;have n_ := haq (zd hBq hb) <| haq (hbox) <| haq ((by rw [hg];exact (ze hBq) : w.heap.size ≤ gb414)) <| haq ((by rw [hg];exact (ze hBq) : w.heap.size ≤ gb414)) <| trivial;clear HB;obtain ⟨HB,BK414,GW414,GE414,_⟩ := n_;clear hb hbox hg) | ((with_reducible refine zy (N := 3) rfl ?_);refine zo ?hg (N := 3) ?hd (cs := #[.int .i64 a1_0,.int .i64 a1_1,.slice A1_2 l1_2.length c1_2,.slice A1_3 l1_3.length c1_3,.int .i64 a1_4,.int .i64 a1_5,.int .u64 a1_6]) (t := 30) ?hr ?_;(case hd => rfl);(case hg => rfl);(case hr => first | (go_simp;done) | (go_simp;rfl));intro gb415 hg wQN32 hbox hb;have n_ := haq (hbq BK414.out hb) <| haq (zd hCq hb) <| haq (hbox) <| haq ((by rw [hg];exact (ze hCq) : w.heap.size ≤ gb415)) <| haq ((by rw [hg];exact (ze hCq) : w.heap.size ≤ gb415)) <| haq (hnq hg BK414.out) <| haq (hmq hg BK414.out) <| trivial;clear BK414 HB;obtain ⟨BK414,HB,BK415,GW415,GE415,NBQN37,NBQN38,_⟩ := n_;clear hb hbox hg;have hnbQN39 := NBQN37.out;have hncQN310 := NBQN38.out;obtain ⟨hczQN311,hczQN312,hczQN313,hczQN314,hczQN315,hczQN316,hczQN317,hfzQN318,hfzQN319,hfzQN320,hfzQN321,hfzQN322,hfzQN323,hfzQN324⟩ := hcq7 BK414.out;obtain ⟨hczQN325,hczQN326,hczQN327,hczQN328,hczQN329,hczQN330,hczQN331,hfzQN332,hfzQN333,hfzQN334,hfzQN335,hfzQN336,hfzQN337,hfzQN338⟩ := hcq7 BK415.out) | (have _ := EQ0;(go_at_call 29;(with_reducible refine (zcJ.calls k a0_0 a0_1 _ _ l0_2 _ _ l0_3 a0_4 a0_5 a1_0 a1_1 _ _ l1_2 _ _ l1_3 a1_4 a1_5 t416 _ ?side1 ?side2 ?side3 ?side4 ?side5 ?side6 ?side7 ?side8 A4.out).mono ?_);(case side1 => exact hKq (Kd.C_below HR0_2.out HB.out));(case side2 => exact HC0_2.out);(case side3 => exact hKq (Kd.C_below HR0_3.out HB.out));(case side4 => exact HC0_3.out);(case side5 => exact hKq (Kd.C_below HR1_2.out HB.out));(case side6 => exact HC1_2.out);(case side7 => exact hKq (Kd.C_below HR1_3.out HB.out));(case side8 => exact HC1_3.out);rintro e wQC29A41 ⟨rfl,hb⟩;have n_ := haq (hbq BK414.out hb) <| haq (hbq BK415.out hb) <| haq (zd hCq hb) <| trivial;clear BK414 BK415 HB;obtain ⟨BK414,BK415,HB,_⟩ := n_;(try clear hb);(try clear hb2);(try clear hk);(try clear hi))))
  go_ret
  exact ⟨hHq,hCq⟩
def zah.j0 : Nat → Int → ByteArray → Bool → Option (ByteArray × ByteArray × Int)
 | 0,_,_,_ => none
 | k + 1,x7,x8,x20 => if x20 = true then (some ((⟨#[]⟩ : ByteArray),(⟨#[]⟩ : ByteArray),4)) else (if x7 > (IntKind.u64.wrap ((x8.size : Int))) then (some ((⟨#[]⟩ : ByteArray),(⟨#[]⟩ : ByteArray),2)) else (if 0 ≤ x7 then (if x7 ≤ (x8.size : Int) then (some (x8.extract 0 (x7 : Int).toNat,x8.extract (x7 : Int).toNat x8.size,0)) else (none)) else (none)))
def zah.f (k : Nat) (a0 : ByteArray) (a1 : Int) : Option (ByteArray × ByteArray × Int) := (zD.f k a0).bind fun bt235 => (if bt235.2.2 = 0 then (if a1 < 0 then (zah.j0 k bt235.1 bt235.2.1 true) else (zah.j0 k bt235.1 bt235.2.1 (decide (bt235.1 > (IntKind.u64.wrap (a1)))))) else (some ((⟨#[]⟩ : ByteArray),(⟨#[]⟩ : ByteArray),bt235.2.2)))
set_option maxHeartbeats 8000000 in
set_option maxRecDepth 100000 in
theorem zah.calls (k : Nat) (a0 : ByteArray) (a1 : Int) (r1 : ByteArray) (r2 : ByteArray) (r3 : Int) (w : World) (h : zah.f k a0 a1 = some (r1,r2,r3)) :
  Calls Tryz.prog 22 #[.string a0,.int .i64 a1] w fun e w' => e = .returned (.tuple #[.string r1,.string r2,.int .i64 r3]) ∧ zaB w w' := by
 have H : ((zD.f k a0).bind fun bt235 => (if bt235.2.2 = 0 then (if a1 < 0 then (zah.j0 k bt235.1 bt235.2.1 true) else (zah.j0 k bt235.1 bt235.2.1 (decide (bt235.1 > (IntKind.u64.wrap (a1)))))) else (some ((⟨#[]⟩ : ByteArray),(⟨#[]⟩ : ByteArray),bt235.2.2)))) = some (r1,r2,r3) := h
 clear h
 replace H := Option.bind_eq_some_iff.mp H
 obtain ⟨⟨t235,t236,t237⟩,A30,H⟩ := H
 replace H : (if t237 = 0 then (if a1 < 0 then (zah.j0 k t235 t236 true) else (zah.j0 k t235 t236 (decide (t235 > (IntKind.u64.wrap (a1)))))) else (some ((⟨#[]⟩ : ByteArray),(⟨#[]⟩ : ByteArray),t237))) = some (r1,r2,r3) := H
 have A3 := za.mk A30
 clear A30
 by_cases c4 : t237 = 0
 ·rw [if_pos c4] at H
  have c4b0 : (t237 == 0) = true := beq_iff_eq.mpr c4
  have c4b1 : (t237 != 0) = false := bne_eq_false_iff_eq.mpr c4
  clear c4
  have HC5 := za.mk H
  clear H
  go_enter Tryz.func22,Tryz.ntmps22
  go_upto_region 4 with (first | (go_at_call 23;(with_reducible refine (zD.calls k a0 t235 t236 t237 _ A3.out).mono ?_);rintro e w' ⟨rfl,⟨nd,rfl⟩⟩;(try first | exact ⟨rfl,_,World.drewN_drewN _ _ _⟩ | exact ⟨rfl,_,Eq.trans (World.drewN_drewN _ _ _) (congrArg (World.drewN _) (Nat.add_assoc _ _ _))⟩)))
  repeat (go_quiet (first | (go_at_call 23;(with_reducible refine (zD.calls k a0 t235 t236 t237 _ A3.out).mono ?_);rintro e w' ⟨rfl,⟨nd,rfl⟩⟩;(try first | exact ⟨rfl,_,World.drewN_drewN _ _ _⟩ | exact ⟨rfl,_,Eq.trans (World.drewN_drewN _ _ _) (congrArg (World.drewN _) (Nat.add_assoc _ _ _))⟩)));go_upto_region 4 with (first | (go_at_call 23;(with_reducible refine (zD.calls k a0 t235 t236 t237 _ A3.out).mono ?_);rintro e w' ⟨rfl,⟨nd,rfl⟩⟩;(try first | exact ⟨rfl,_,World.drewN_drewN _ _ _⟩ | exact ⟨rfl,_,Eq.trans (World.drewN_drewN _ _ _) (congrArg (World.drewN _) (Nat.add_assoc _ _ _))⟩))))
  (try simp only [Act.put,List.setIfInBounds_toArray,List.set_cons_zero,List.set_cons_succ])
  go_cut [20] (fun v20 wc => ∃ (kq : Nat) (x20_4 : Bool),v20 = .bool x20_4 ∧ za (zah.j0 kq t235 t236 x20_4 = some (r1,r2,r3)) ∧ za (kq ≤ k) ∧ zaB w wc)
  case first =>
   have H := HC5.out
   clear HC5
   by_cases c6 : a1 < 0
   ·rw [if_pos c6] at H
    have c6b0 : decide (a1 < 0) = true := decide_eq_true c6
    clear c6
    (first | rw [c6b0] | (simp only [zK,zL];rw [c6b0]) | skip)
    have H' := za.mk H
    clear H
    go_wp2
    repeat (go_quiet (fail);try go_wp2)
    go_meet
    case rel => exact ⟨_,(true),(hDq),H',⟨by first | omega | exact Nat.le_refl _⟩,hEq⟩
   ·rw [if_neg c6] at H
    have c6b0 : decide (a1 < 0) = false := decide_eq_false c6
    clear c6
    (first | rw [c6b0] | (simp only [zK,zL];rw [c6b0]) | skip)
    have H' := za.mk H
    clear H
    go_wp2
    repeat (go_quiet (fail);try go_wp2)
    go_meet
    case rel => exact ⟨_,(decide (t235 > (IntKind.u64.wrap (a1)))),(hDq),H',⟨by first | omega | exact Nat.le_refl _⟩,hEq⟩
  case rest =>
   clear HC5
   try clear c2;try clear p2;try clear c4;try clear c4b0;try clear c4b1;try clear c6;try clear c6b0
   obtain ⟨kq,x20_4,rfl,HA,HJ4,⟨mc4,rfl⟩⟩ := hcut
   cases kq with
   | zero => exact absurd HA.out (by simp [zah.j0])
   | succ kj4 =>
    have H := HA.out
    clear HA
    simp only [zah.j0] at H
    by_cases c7 : x20_4 = true
    ·subst c7
     have H1 : (some ((⟨#[]⟩ : ByteArray),(⟨#[]⟩ : ByteArray),4)) = some (r1,r2,r3) := by rw [if_pos rfl] at H;exact H
     clear H
     have H := H1
     clear H1
     simp only [Option.some.injEq,Prod.mk.injEq] at H
     obtain ⟨rfl,rfl,rfl⟩ := H
     go_wp2
     repeat (go_quiet (fail);try go_wp2)
     go_ret3
     exact ⟨hDq,hEq⟩
    ·replace c7 := Bool.eq_false_iff.mpr c7
     subst c7
     have H1 : (if t235 > (IntKind.u64.wrap ((t236.size : Int))) then (some ((⟨#[]⟩ : ByteArray),(⟨#[]⟩ : ByteArray),2)) else (if 0 ≤ t235 then (if t235 ≤ (t236.size : Int) then (some (t236.extract 0 (t235 : Int).toNat,t236.extract (t235 : Int).toNat t236.size,0)) else (none)) else (none))) = some (r1,r2,r3) := by rw [if_neg (show ¬ (false = true) by decide)] at H;exact H
     clear H
     have H := H1
     clear H1
     by_cases c8 : t235 > (IntKind.u64.wrap ((t236.size : Int)))
     ·rw [if_pos c8] at H
      have c8b0 : decide ((IntKind.u64.wrap ((t236.size : Int))) < t235) = true := decide_eq_true c8
      clear c8
      simp only [Option.some.injEq,Prod.mk.injEq] at H
      obtain ⟨rfl,rfl,rfl⟩ := H
      go_wp2
      repeat (go_quiet (fail);try go_wp2)
      go_ret3
      exact ⟨hDq,hEq⟩
     ·rw [if_neg c8] at H
      have c8b0 : decide ((IntKind.u64.wrap ((t236.size : Int))) < t235) = false := decide_eq_false c8
      clear c8
      by_cases c9 : 0 ≤ t235
      ·rw [if_pos c9] at H
       have c9b0 := eq_true c9
       have c9b1 : decide (0 ≤ t235) = true := decide_eq_true c9
       clear c9
       by_cases c10 : t235 ≤ (t236.size : Int)
       ·rw [if_pos c10] at H
        have c10b0 := eq_true c10
        have c10b1 : decide (t235 ≤ (t236.size : Int)) = true := decide_eq_true c10
        clear c10
        have c11b0 := eq_true (hFq : 0 ≤ t235)
        have c12b0 := eq_true (hFq : t235 ≤ (t236.size : Int))
        simp only [Option.some.injEq,Prod.mk.injEq] at H
        obtain ⟨rfl,rfl,rfl⟩ := H
        go_wp2
        repeat (go_quiet (fail);try go_wp2)
        go_ret3
        exact ⟨hDq,hEq⟩
       ·rw [if_neg c10] at H
        exact absurd H (by simp)
      ·rw [if_neg c9] at H
       exact absurd H (by simp)
 ·rw [if_neg c4] at H
  have c4b0 : (t237 == 0) = false := beq_eq_false_iff_ne.mpr c4
  have c4b1 : (t237 != 0) = true := bne_iff_ne.mpr c4
  simp only [Option.some.injEq,Prod.mk.injEq] at H
  obtain ⟨rfl,rfl,rfl⟩ := H
  go_enter Tryz.func22,Tryz.ntmps22
  go_wp2_with (first | (go_at_call 23;(with_reducible refine (zD.calls k a0 t235 t236 t237 _ A3.out).mono ?_);rintro e w' ⟨rfl,⟨nd,rfl⟩⟩;(try first | exact ⟨rfl,_,World.drewN_drewN _ _ _⟩ | exact ⟨rfl,_,Eq.trans (World.drewN_drewN _ _ _) (congrArg (World.drewN _) (Nat.add_assoc _ _ _))⟩)))
  repeat (go_quiet (first | (go_at_call 23;(with_reducible refine (zD.calls k a0 t235 t236 t237 _ A3.out).mono ?_);rintro e w' ⟨rfl,⟨nd,rfl⟩⟩;(try first | exact ⟨rfl,_,World.drewN_drewN _ _ _⟩ | exact ⟨rfl,_,Eq.trans (World.drewN_drewN _ _ _) (congrArg (World.drewN _) (Nat.add_assoc _ _ _))⟩)));try go_wp2_with (first | (go_at_call 23;(with_reducible refine (zD.calls k a0 t235 t236 t237 _ A3.out).mono ?_);rintro e w' ⟨rfl,⟨nd,rfl⟩⟩;(try first | exact ⟨rfl,_,World.drewN_drewN _ _ _⟩ | exact ⟨rfl,_,Eq.trans (World.drewN_drewN _ _ _) (congrArg (World.drewN _) (Nat.add_assoc _ _ _))⟩))))
  go_ret3
  exact ⟨hDq,hEq⟩
end Go.Proofs.YtfhbeonhnhjikaaGreat.Px