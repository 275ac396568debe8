/- Part 28 of 35 of the proof of the law CertBytes: what is proved is the statement at the end of the last part; its conditions are those of the given row. -/
import Derived.Test.YtfhbeonhnhjikaaGreatZCertBytesa
namespace Go.Proofs.YtfhbeonhnhjikaaGreat.Px
open Go.RowKit Go.Proofs.YtfhbeonhnhjikaaGreatW.PrintWords Go.Proofs.YtfhbeonhnhjikaaGreatW.PrintLast Go.Proofs.YtfhbeonhnhjikaaGreatW.PrintMore
attribute [local go_sem] zz zB zI zJ zp zq zA zC
set_option linter.unusedVariables false
set_option linter.unusedSimpArgs false
def zan.f (k : Nat) (a0_0 : Int) (a0_1 : Int) (l0_2 : List (S73)) (l0_3 : List ByteArray) (a0_4 : Int) (a0_5 : Int) (a0_6 : Int) (a1 : Int) : Option (ByteArray × Int) := (zay.f k a0_0 a0_1 l0_2 l0_3 a0_4 a0_5 a0_6 a1).bind fun t230 => (if t230 = 0 then ((zv.f k a0_0 a0_1 l0_2 l0_3 a0_4 a0_5 a1).bind fun bt231 => ((zaD.f bt231.1).bind fun t233 => ((zr.f k a0_6).bind fun t234 => (if t233.size + t234.size ≤ 9223372036854775807 then (some (t233 ++ t234,0)) else (none))))) else (some ((⟨#[]⟩ : ByteArray),t230)))
def zan.T5 : Bool × List (List Nat × List Nat) := (true,[([],[]),([0],[0]),([],[]),([2],[2]),([3,1],[3]),([1,4],[1,4]),([5,4,0,1,2,3,4,5],[5]),([6,0,1,2,3,4,5,6],[])])
def zan.B5 : List Nat := [0,1,0,4,15,31,63,127]
theorem zan.tab5 : zcT .any (zfN Tryz.f6 5) = zan.T5 := by kernel_rfl
theorem zan.bits5 : zcB zan.T5.2 zan.B5 = true := by kernel_rfl
set_option maxHeartbeats 8000000 in
set_option maxRecDepth 100000 in
theorem zan.calls (k : Nat) (a0_0 : Int) (a0_1 : Int) (A0_2 : Option Addr) (c0_2 : Nat) (l0_2 : List (S73)) (A0_3 : Option Addr) (c0_3 : Nat) (l0_3 : List ByteArray) (a0_4 : Int) (a0_5 : Int) (a0_6 : Int) (a1 : Int) (r1 : ByteArray) (r2 : Int) (w : World) (hr0_2 : Kd.C k73 w A0_2 l0_2.length l0_2) (hc0_2 : l0_2.length ≤ c0_2) (hr0_3 : Kd.C Kd.string w A0_3 l0_3.length l0_3) (hc0_3 : l0_3.length ≤ c0_3) (h : zan.f k a0_0 a0_1 l0_2 l0_3 a0_4 a0_5 a0_6 a1 = some (r1,r2)) :
  Calls Tryz.prog 6 #[.agg #[.int .i64 a0_0,.int .i64 a0_1,.slice A0_2 l0_2.length c0_2,.slice A0_3 l0_3.length c0_3,.int .i64 a0_4,.int .i64 a0_5,.int .u64 a0_6],.int .i64 a1] w fun e w' => e = .returned (.tuple #[.string r1,.int .i64 r2]) ∧ Below w.heap.size w w' := by
 have hu30 := Tryz.underlying30
 have hu27 := Tryz.underlying27
 have HR0_2 := za.mk hr0_2
 have HC0_2 := za.mk hc0_2
 clear hr0_2 hc0_2
 have HR0_3 := za.mk hr0_3
 have HC0_3 := za.mk hc0_3
 clear hr0_3 hc0_3
 have HB := za.mk (Below.refl w.heap.size w)
 have H : ((zay.f k a0_0 a0_1 l0_2 l0_3 a0_4 a0_5 a0_6 a1).bind fun t230 => (if t230 = 0 then ((zv.f k a0_0 a0_1 l0_2 l0_3 a0_4 a0_5 a1).bind fun bt231 => ((zaD.f bt231.1).bind fun t233 => ((zr.f k a0_6).bind fun t234 => (if t233.size + t234.size ≤ 9223372036854775807 then (some (t233 ++ t234,0)) else (none))))) else (some ((⟨#[]⟩ : ByteArray),t230)))) = some (r1,r2) := h
 clear h
 replace H := Option.bind_eq_some_iff.mp H
 obtain ⟨t230,A30,H⟩ := H
 replace H : (if t230 = 0 then ((zv.f k a0_0 a0_1 l0_2 l0_3 a0_4 a0_5 a1).bind fun bt231 => ((zaD.f bt231.1).bind fun t233 => ((zr.f k a0_6).bind fun t234 => (if t233.size + t234.size ≤ 9223372036854775807 then (some (t233 ++ t234,0)) else (none))))) else (some ((⟨#[]⟩ : ByteArray),t230))) = some (r1,r2) := H
 have A3 := za.mk A30
 clear A30
 by_cases c4 : t230 = 0
 ·rw [if_pos c4] at H
  have c4b0 : (t230 == 0) = true := beq_iff_eq.mpr c4
  have c4b1 : (t230 != 0) = false := bne_eq_false_iff_eq.mpr c4
  clear c4
  replace H := Option.bind_eq_some_iff.mp H
  obtain ⟨⟨t231,t232⟩,A50,H⟩ := H
  replace H : ((zaD.f t231).bind fun t233 => ((zr.f k a0_6).bind fun t234 => (if t233.size + t234.size ≤ 9223372036854775807 then (some (t233 ++ t234,0)) else (none)))) = some (r1,r2) := H
  have A5 := za.mk A50
  clear A50
  replace H := Option.bind_eq_some_iff.mp H
  obtain ⟨t233,A60,H⟩ := H
  replace H : ((zr.f k a0_6).bind fun t234 => (if t233.size + t234.size ≤ 9223372036854775807 then (some (t233 ++ t234,0)) else (none))) = some (r1,r2) := H
  have A6 := za.mk A60
  clear A60
  replace H := Option.bind_eq_some_iff.mp H
  obtain ⟨t234,A70,H⟩ := H
  replace H : (if t233.size + t234.size ≤ 9223372036854775807 then (some (t233 ++ t234,0)) else (none)) = some (r1,r2) := H
  have A7 := za.mk A70
  clear A70
  by_cases c8 : t233.size + t234.size ≤ 9223372036854775807
  ·rw [if_pos c8] at H
   have c8b0 := eq_true c8
   have c8b1 : decide (t233.size + t234.size ≤ 9223372036854775807) = true := decide_eq_true c8
   try have c8b2 : (9223372036854775807 < t233.size + t234.size) = False := eq_false (Nat.not_lt.2 c8)
   simp only [Option.some.injEq,Prod.mk.injEq] at H
   obtain ⟨rfl,rfl⟩ := H
   go_enter Tryz.func6,Tryz.ntmps6
   try go_wp2_with (first | ((with_reducible refine zy (N := 2) rfl ?_);refine zo ?hg (N := 2) ?hd (cs := #[.int .i64 a0_0,.int .i64 a0_1,.slice A0_2 l0_2.length c0_2,.slice A0_3 l0_3.length c0_3,.int .i64 a0_4,.int .i64 a0_5,.int .u64 a0_6]) (t := 30) ?hr ?_;(case hd => rfl);(case hg => rfl);(case hr => first | (go_simp;done) | (go_simp;rfl));intro gb229 hg w9 hbox hb;have n_ := haq (zd hBq hb) <| haq (hbox) <| haq ((by rw [hg];exact (ze hBq) : w.heap.size ≤ gb229)) <| haq ((by rw [hg];exact (ze hBq) : w.heap.size ≤ gb229)) <| trivial;clear HB;obtain ⟨HB,BK229,GW229,GE229,_⟩ := n_;clear hb hbox hg;obtain ⟨hcz10_0,hcz10_1,hcz10_2,hcz10_3,hcz10_4,hcz10_5,hcz10_6,hfz10_0,hfz10_1,hfz10_2,hfz10_3,hfz10_4,hfz10_5,hfz10_6⟩ := hcq7 BK229.out) | ((with_reducible refine zj (f := 18) rfl ?_);refine zQ (some 11) rfl rfl Tryz.func18 (by kernel_rfl) rfl #[.agg #[.int .i64 a0_0,.int .i64 a0_1,.slice A0_2 l0_2.length c0_2,.slice A0_3 l0_3.length c0_3,.int .i64 a0_4,.int .i64 a0_5,.int .u64 a0_6],.int .i64 a1] rfl hMq ?_;(with_reducible refine (zay.calls k a0_0 a0_1 _ _ l0_2 _ _ l0_3 a0_4 a0_5 a0_6 a1 t230 _ ?side1 ?side2 ?side3 ?side4 A3.out).mono ?_);(case side1 => exact hKq (Kd.C_below HR0_2.out HB.out));(case side2 => exact HC0_2.out);(case side3 => exact hKq (Kd.C_below HR0_3.out HB.out));(case side4 => exact HC0_3.out);rintro e w11 ⟨rfl,hb⟩;refine ⟨_,rfl,?_⟩;have n_ := haq (hbq BK229.out hb) <| haq (zd hCq hb) <| trivial;clear BK229 HB;obtain ⟨BK229,HB,_⟩ := n_;(try clear hb);(try clear hb2);(try clear hk);(try clear hi);obtain ⟨hcz12_0,hcz12_1,hcz12_2,hcz12_3,hcz12_4,hcz12_5,hcz12_6,hfz12_0,hfz12_1,hfz12_2,hfz12_3,hfz12_4,hfz12_5,hfz12_6⟩ := hcq7 BK229.out) | ((with_reducible refine zj (f := 19) rfl ?_);refine zQ (some 19) rfl rfl Tryz.func19 (by kernel_rfl) rfl #[.agg #[.int .i64 a0_0,.int .i64 a0_1,.slice A0_2 l0_2.length c0_2,.slice A0_3 l0_3.length c0_3,.int .i64 a0_4,.int .i64 a0_5],.int .i64 a1] rfl hMq ?_;(with_reducible refine (zv.calls k a0_0 a0_1 _ _ l0_2 _ _ l0_3 a0_4 a0_5 a1 t231 t232 _ ?side1 ?side2 ?side3 ?side4 A5.out).mono ?_);(case side1 => exact hKq (Kd.C_below HR0_2.out HB.out));(case side2 => exact HC0_2.out);(case side3 => exact hKq (Kd.C_below HR0_3.out HB.out));(case side4 => exact HC0_3.out);rintro e w13 ⟨rfl,hb⟩;refine ⟨_,rfl,?_⟩;have n_ := haq (hbq BK229.out hb) <| haq (zd hCq hb) <| trivial;clear BK229 HB;obtain ⟨BK229,HB,_⟩ := n_;(try clear hb);(try clear hb2);(try clear hk);(try clear hi)))
   have n0_ := za.mk (zbq BK229.out)
   have n1_ := za.mk (zm HB.out)
   clear BK229
   clear HB
   have BK229 := n0_
   have HB := n1_
   clear n0_ n1_
   refine zds (n := 8) (S := fun w' => w'.cell? ⟨gb229,0,none⟩ = some (.int .i64 a0_0) ∧ w'.cell? ⟨gb229,1,none⟩ = some (.int .i64 a0_1) ∧ w'.cell? ⟨gb229,2,none⟩ = some (.slice A0_2 l0_2.length c0_2) ∧ w'.cell? ⟨gb229,3,none⟩ = some (.slice A0_3 l0_3.length c0_3) ∧ w'.cell? ⟨gb229,4,none⟩ = some (.int .i64 a0_4) ∧ w'.cell? ⟨gb229,5,none⟩ = some (.int .i64 a0_5) ∧ w'.cell? ⟨gb229,6,none⟩ = some (.int .u64 a0_6)) (ds := []) #[false,false,false,false,false,false,false,false] (by kernel_rfl) rfl rfl ⟨(zb BK229.out 0).trans rfl,(zb BK229.out 1).trans rfl,(zb BK229.out 2).trans rfl,(zb BK229.out 3).trans rfl,(zb BK229.out 4).trans rfl,(zb BK229.out 5).trans rfl,(zb BK229.out 6).trans rfl⟩ (fun hHeld => ?_);refine zcq zan.tab5 zan.bits5 (fun HT_ HW_ => ?_)
   generalize w13.drew = w14 at BK229 HB hHeld ⊢
   refine zaj (i := 0) (N := some 22) (v := ?_) (a' := ?_) #[true,false,false,false,false,false,false,false] rfl rfl (zab HT_.out (by kernel_rfl)) (fun _ _ _ h => h) (Or.inl ⟨by rfl,?_⟩) ?_ ?_
   rotate_left
   ·intro w'
    go_simp
    with_reducible rfl
   rotate_left
   ·simp only [Act.put,List.setIfInBounds_toArray,List.set_cons_zero,List.set_cons_succ,zK,zL]
    rfl
   refine zaj (i := 2) (N := some 24) (v := ?_) (a' := ?_) #[true,false,true,false,false,false,false,false] rfl rfl (zab HT_.out (by kernel_rfl)) (fun _ _ _ h => h) (Or.inl ⟨by rfl,?_⟩) ?_ ?_
   rotate_left
   ·intro w'
    go_simp
    with_reducible rfl
   rotate_left
   ·simp only [Act.put,List.setIfInBounds_toArray,List.set_cons_zero,List.set_cons_succ,zK,zL]
    rfl
   refine take_ (i := 3) (N := some 25) (v := ?_) (a' := ?_) #[true,false,true,true,false,false,false,false] rfl rfl (za9 HT_.out HW_.out (by kernel_rfl)) (fun _ _ _ h => h) (Or.inl ⟨by rfl,?_⟩) hHeld ?_ ?_
   rotate_left
   ·rintro w' ⟨s0,s1,s2,s3,s4,s5,s6⟩
    go_simp
    with_reducible rfl
   rotate_left
   ·simp only [Act.put,List.setIfInBounds_toArray,List.set_cons_zero,List.set_cons_succ,zK,zL]
    rfl
   refine zdl (i := 1) (N := some 23) #[true,true,true,true,false,false,false,false] rfl rfl (zb5 HT_.out (by kernel_rfl)) (by decide) (fun K hK => ?_)
   refine zci Tryz.func20 (by kernel_rfl) rfl #[.string t231] (by rfl) rfl rfl hMq ?_
   with_reducible refine (zaD.calls t231 t233 _ A6.out).mono ?_
   rintro e w15 ⟨rfl,hb⟩
   refine ⟨_,rfl,?_⟩
   have n0_ := za.mk (hbq BK229.out hb)
   have n1_ := za.mk (zd hCq hb)
   clear BK229
   clear HB
   have BK229 := n0_
   have HB := n1_
   clear n0_ n1_
   (try clear hb)
   (try clear hb2)
   (try clear hk)
   (try clear hi)
   refine hK.out _ _ ⟨(zb BK229.out 0).trans rfl,(zb BK229.out 1).trans rfl,(zb BK229.out 2).trans rfl,(zb BK229.out 3).trans rfl,(zb BK229.out 4).trans rfl,(zb BK229.out 5).trans rfl,(zb BK229.out 6).trans rfl⟩ (fun hHeld => ?_)
   clear hK K
   refine zck (a' := ?_) ?_ ?_
   rotate_left
   ·show Act.put _ (some 23) _ = _
    simp only [Act.put,List.setIfInBounds_toArray,List.set_cons_zero,List.set_cons_succ,zK,zL]
    rfl
   refine zdl (i := 4) (N := some 26) #[true,true,true,true,true,false,false,false] rfl rfl (zb5 HT_.out (by kernel_rfl)) (by decide) (fun K hK => ?_)
   refine zci Tryz.func21 (by kernel_rfl) rfl #[.int .u64 a0_6] (by rfl) rfl rfl hMq ?_
   with_reducible refine (zr.calls k a0_6 t234 _ A7.out).mono ?_
   rintro e w16 ⟨rfl,hb⟩
   refine ⟨_,rfl,?_⟩
   have n0_ := za.mk (hbq BK229.out hb)
   have n1_ := za.mk (zd hCq hb)
   clear BK229
   clear HB
   have BK229 := n0_
   have HB := n1_
   clear n0_ n1_
   (try clear hb)
   (try clear hb2)
   (try clear hk)
   (try clear hi)
   refine hK.out _ _ ⟨(zb BK229.out 0).trans rfl,(zb BK229.out 1).trans rfl,(zb BK229.out 2).trans rfl,(zb BK229.out 3).trans rfl,(zb BK229.out 4).trans rfl,(zb BK229.out 5).trans rfl,(zb BK229.out 6).trans rfl⟩ (fun hHeld => ?_)
   clear hK K
   refine zck (a' := ?_) ?_ ?_
   rotate_left
   ·show Act.put _ (some 26) _ = _
    simp only [Act.put,List.setIfInBounds_toArray,List.set_cons_zero,List.set_cons_succ,zK,zL]
    rfl
   refine zaj (i := 5) (N := some 27) (v := ?_) (a' := ?_) #[true,true,true,true,true,true,false,false] rfl rfl (zab HT_.out (by kernel_rfl)) (fun _ _ _ h => h) (Or.inl ⟨by rfl,?_⟩) ?_ ?_
   rotate_left
   ·intro w'
    go_simp
    with_reducible rfl
   rotate_left
   ·simp only [Act.put,List.setIfInBounds_toArray,List.set_cons_zero,List.set_cons_succ,zK,zL]
    rfl
   refine zaj (i := 6) (N := some 4) (v := ?_) (a' := ?_) #[true,true,true,true,true,true,true,false] rfl rfl (zab HT_.out (by kernel_rfl)) (fun _ _ _ h => h) (Or.inl ⟨by rfl,?_⟩) ?_ ?_
   rotate_left
   ·intro w'
    go_simp
    with_reducible rfl
   rotate_left
   ·simp only [Act.put,List.setIfInBounds_toArray,List.set_cons_zero,List.set_cons_succ,zK,zL]
    rfl
   refine zaj (i := 7) (N := some 5) (v := ?_) (a' := ?_) #[true,true,true,true,true,true,true,true] rfl rfl (zab HT_.out (by kernel_rfl)) (fun _ _ _ h => h) (Or.inl ⟨by rfl,?_⟩) ?_ ?_
   rotate_left
   ·intro w'
    go_simp
    with_reducible rfl
   rotate_left
   ·simp only [Act.put,List.setIfInBounds_toArray,List.set_cons_zero,List.set_cons_succ,zK,zL]
    rfl
   refine zek (zdk HT_.out (by kernel_rfl)) ?_
   try go_wp2
   go_ret2
   exact ⟨hHq,hCq⟩
  ·rw [if_neg c8] at H
   exact absurd H (by simp)
 ·rw [if_neg c4] at H
  have c4b0 : (t230 == 0) = false := beq_eq_false_iff_ne.mpr c4
  have c4b1 : (t230 != 0) = true := bne_iff_ne.mpr c4
  simp only [Option.some.injEq,Prod.mk.injEq] at H
  obtain ⟨rfl,rfl⟩ := H
  go_enter Tryz.func6,Tryz.ntmps6
  go_wp2_with (first | ((with_reducible refine zy (N := 2) rfl ?_);refine zo ?hg (N := 2) ?hd (cs := #[.int .i64 a0_0,.int .i64 a0_1,.slice A0_2 l0_2.length c0_2,.slice A0_3 l0_3.length c0_3,.int .i64 a0_4,.int .i64 a0_5,.int .u64 a0_6]) (t := 30) ?hr ?_;(case hd => rfl);(case hg => rfl);(case hr => first | (go_simp;done) | (go_simp;rfl));intro gb229 hg w17 hbox hb;have n_ := haq (zd hBq hb) <| haq (hbox) <| haq ((by rw [hg];exact (ze hBq) : w.heap.size ≤ gb229)) <| haq ((by rw [hg];exact (ze hBq) : w.heap.size ≤ gb229)) <| trivial;clear HB;obtain ⟨HB,BK229,GW229,GE229,_⟩ := n_;clear hb hbox hg;obtain ⟨hcz18_0,hcz18_1,hcz18_2,hcz18_3,hcz18_4,hcz18_5,hcz18_6,hfz18_0,hfz18_1,hfz18_2,hfz18_3,hfz18_4,hfz18_5,hfz18_6⟩ := hcq7 BK229.out) | ((with_reducible refine zj (f := 18) rfl ?_);refine zQ (some 11) rfl rfl Tryz.func18 (by kernel_rfl) rfl #[.agg #[.int .i64 a0_0,.int .i64 a0_1,.slice A0_2 l0_2.length c0_2,.slice A0_3 l0_3.length c0_3,.int .i64 a0_4,.int .i64 a0_5,.int .u64 a0_6],.int .i64 a1] rfl hMq ?_;(with_reducible refine (zay.calls k a0_0 a0_1 _ _ l0_2 _ _ l0_3 a0_4 a0_5 a0_6 a1 t230 _ ?side1 ?side2 ?side3 ?side4 A3.out).mono ?_);(case side1 => exact hKq (Kd.C_below HR0_2.out HB.out));(case side2 => exact HC0_2.out);(case side3 => exact hKq (Kd.C_below HR0_3.out HB.out));(case side4 => exact HC0_3.out);rintro e w19 ⟨rfl,hb⟩;refine ⟨_,rfl,?_⟩;have n_ := haq (hbq BK229.out hb) <| haq (zd hCq hb) <| trivial;clear BK229 HB;obtain ⟨BK229,HB,_⟩ := n_;(try clear hb);(try clear hb2);(try clear hk);(try clear hi)))
  go_ret2
  exact ⟨hHq,hCq⟩
def zbi.f (k : Nat) (a0_0 : Int) (a0_1 : Int) (l0_2 : List (S73)) (l0_3 : List ByteArray) (a0_4 : Int) (a0_5 : Int) (a0_6 : Int) (a1_0 : Int) (a1_1 : Int) (l1_2 : List (S73)) (l1_3 : List ByteArray) (a1_4 : Int) (a1_5 : Int) (a1_6 : Int) : Option (Bool) := (zbh.f k a0_0 a0_1 l0_2 l0_3 a0_4 a0_5 a1_0 a1_1 l1_2 l1_3 a1_4 a1_5).bind fun t404 => (if t404 = true then (some (a0_6 == a1_6)) else (some false))
set_option maxHeartbeats 8000000 in
set_option maxRecDepth 100000 in
theorem zbi.calls (k : Nat) (a0_0 : Int) (a0_1 : Int) (A0_2 : Option Addr) (c0_2 : Nat) (l0_2 : List (S73)) (A0_3 : Option Addr) (c0_3 : Nat) (l0_3 : List ByteArray) (a0_4 : Int) (a0_5 : Int) (a0_6 : Int) (a1_0 : Int) (a1_1 : Int) (A1_2 : Option Addr) (c1_2 : Nat) (l1_2 : List (S73)) (A1_3 : Option Addr) (c1_3 : Nat) (l1_3 : List ByteArray) (a1_4 : Int) (a1_5 : Int) (a1_6 : Int) (r : Bool) (w : World) (hr0_2 : Kd.C k73 w A0_2 l0_2.length l0_2) (hc0_2 : l0_2.length ≤ c0_2) (hr0_3 : Kd.C Kd.string w A0_3 l0_3.length l0_3) (hc0_3 : l0_3.length ≤ c0_3) (hr1_2 : Kd.C k73 w A1_2 l1_2.length l1_2) (hc1_2 : l1_2.length ≤ c1_2) (hr1_3 : Kd.C Kd.string w A1_3 l1_3.length l1_3) (hc1_3 : l1_3.length ≤ c1_3) (h : zbi.f k a0_0 a0_1 l0_2 l0_3 a0_4 a0_5 a0_6 a1_0 a1_1 l1_2 l1_3 a1_4 a1_5 a1_6 = some r) :
  Calls Tryz.prog 9 #[.agg #[.int .i64 a0_0,.int .i64 a0_1,.slice A0_2 l0_2.length c0_2,.slice A0_3 l0_3.length c0_3,.int .i64 a0_4,.int .i64 a0_5,.int .u64 a0_6],.agg #[.int .i64 a1_0,.int .i64 a1_1,.slice A1_2 l1_2.length c1_2,.slice A1_3 l1_3.length c1_3,.int .i64 a1_4,.int .i64 a1_5,.int .u64 a1_6]] w fun e w' => e = .returned (.bool r) ∧ Below w.heap.size w w' := by
 have hu30 := Tryz.underlying30
 have hu27 := Tryz.underlying27
 have HR0_2 := za.mk hr0_2
 have HC0_2 := za.mk hc0_2
 clear hr0_2 hc0_2
 have HR0_3 := za.mk hr0_3
 have HC0_3 := za.mk hc0_3
 clear hr0_3 hc0_3
 have HR1_2 := za.mk hr1_2
 have HC1_2 := za.mk hc1_2
 clear hr1_2 hc1_2
 have HR1_3 := za.mk hr1_3
 have HC1_3 := za.mk hc1_3
 clear hr1_3 hc1_3
 have HB := za.mk (Below.refl w.heap.size w)
 have H : ((zbh.f k a0_0 a0_1 l0_2 l0_3 a0_4 a0_5 a1_0 a1_1 l1_2 l1_3 a1_4 a1_5).bind fun t404 => (if t404 = true then (some (a0_6 == a1_6)) else (some false))) = some r := h
 clear h
 replace H := Option.bind_eq_some_iff.mp H
 obtain ⟨t404,A30,H⟩ := H
 replace H : (if t404 = true then (some (a0_6 == a1_6)) else (some false)) = some r := H
 have A3 := za.mk A30
 clear A30
 by_cases c4 : t404 = true
 focus
  subst c4
  have H1 : (some (a0_6 == a1_6)) = some r := by rw [if_pos rfl] at H;exact H
  clear H
  have H := H1
  clear H1
  obtain rfl := Option.some.inj H
  go_enter Tryz.func9,Tryz.ntmps9
  have EQ0 := True.intro
 rotate_left
 focus
  replace c4 := Bool.eq_false_iff.mpr c4
  subst c4
  have H1 : (some false) = some r := by rw [if_neg (show ¬ (false = true) by decide)] at H;exact H
  clear H
  have H := H1
  clear H1
  obtain rfl := Option.some.inj H
  go_enter Tryz.func9,Tryz.ntmps9
  have EQ1 := True.intro
 all_goals
  go_wp2_with (first | ((with_reducible refine zy (N := 2) rfl ?_);refine zo ?hg (N := 2) ?hd (cs := #[.int .i64 a0_0,.int .i64 a0_1,.slice A0_2 l0_2.length c0_2,.slice A0_3 l0_3.length c0_3,.int .i64 a0_4,.int .i64 a0_5,.int .u64 a0_6]) (t := 30) ?hr ?_;(case hd => rfl);(case hg => rfl);(case hr => first | (go_simp;done) | (go_simp;rfl));intro gb402 hg wQN22 hbox hb;have n_ := haq (zd hBq hb) <| haq (hbox) <| haq ((by rw [hg];exact (ze hBq) : w.heap.size ≤ gb402)) <| haq ((by rw [hg];exact (ze hBq) : w.heap.size ≤ gb402)) <| trivial;clear HB;obtain ⟨HB,BK402,GW402,GE402,_⟩ := n_;clear hb hbox hg) | ((with_reducible refine zy (N := 3) rfl ?_);refine zo ?hg (N := 3) ?hd (cs := #[.int .i64 a1_0,.int .i64 a1_1,.slice A1_2 l1_2.length c1_2,.slice A1_3 l1_3.length c1_3,.int .i64 a1_4,.int .i64 a1_5,.int .u64 a1_6]) (t := 30) ?hr ?_;(case hd => rfl);(case hg => rfl);(case hr => first | (go_simp;done) | (go_simp;rfl));intro gb403 hg wQN32 hbox hb;have n_ := haq (hbq BK402.out hb) <| haq (zd hCq hb) <| haq (hbox) <| haq ((by rw [hg];exact (ze hCq) : w.heap.size ≤ gb403)) <| haq ((by rw [hg];exact (ze hCq) : w.heap.size ≤ gb403)) <| haq (hnq hg BK402.out) <| haq (hmq hg BK402.out) <| trivial;clear BK402 HB;obtain ⟨BK402,HB,BK403,GW403,GE403,NBQN37,NBQN38,_⟩ := n_;clear hb hbox hg;have hnbQN39 := NBQN37.out;have hncQN310 := NBQN38.out;obtain ⟨hczQN311,hczQN312,hczQN313,hczQN314,hczQN315,hczQN316,hczQN317,hfzQN318,hfzQN319,hfzQN320,hfzQN321,hfzQN322,hfzQN323,hfzQN324⟩ := hcq7 BK402.out;obtain ⟨hczQN325,hczQN326,hczQN327,hczQN328,hczQN329,hczQN330,hczQN331,hfzQN332,hfzQN333,hfzQN334,hfzQN335,hfzQN336,hfzQN337,hfzQN338⟩ := hcq7 BK403.out) | (have _ := EQ0;((with_reducible refine zj (f := 28) rfl ?_);refine zQ (some 10) rfl rfl Tryz.func28 (by kernel_rfl) rfl #[.agg #[.int .i64 a0_0,.int .i64 a0_1,.slice A0_2 l0_2.length c0_2,.slice A0_3 l0_3.length c0_3,.int .i64 a0_4,.int .i64 a0_5],.agg #[.int .i64 a1_0,.int .i64 a1_1,.slice A1_2 l1_2.length c1_2,.slice A1_3 l1_3.length c1_3,.int .i64 a1_4,.int .i64 a1_5]] rfl hMq ?_;(with_reducible refine (zbh.calls k a0_0 a0_1 _ _ l0_2 _ _ l0_3 a0_4 a0_5 a1_0 a1_1 _ _ l1_2 _ _ l1_3 a1_4 a1_5 true _ ?side1 ?side2 ?side3 ?side4 ?side5 ?side6 ?side7 ?side8 A3.out).mono ?_);(case side1 => exact hKq (Kd.C_below HR0_2.out HB.out));(case side2 => exact HC0_2.out);(case side3 => exact hKq (Kd.C_below HR0_3.out HB.out));(case side4 => exact HC0_3.out);(case side5 => exact hKq (Kd.C_below HR1_2.out HB.out));(case side6 => exact HC1_2.out);(case side7 => exact hKq (Kd.C_below HR1_3.out HB.out));(case side8 => exact HC1_3.out);rintro e wQF28A31 ⟨rfl,hb⟩;refine ⟨_,rfl,?_⟩;have n_ := haq (hbq BK402.out hb) <| haq (hbq BK403.out hb) <| haq (zd hCq hb) <| trivial;clear BK402 BK403 HB;obtain ⟨BK402,BK403,HB,_⟩ := n_;(try clear hb);(try clear hb2);(try clear hk);(try clear hi);obtain ⟨hczQF28A34,hczQF28A35,hczQF28A36,hczQF28A37,hczQF28A38,hczQF28A39,hczQF28A310,hfzQF28A311,hfzQF28A312,hfzQF28A313,hfzQF28A314,hfzQF28A315,hfzQF28A316,hfzQF28A317⟩ := hcq7 BK402.out;obtain ⟨hczQF28A318,hczQF28A319,hczQF28A320,hczQF28A321,hczQF28A322,hczQF28A323,hczQF28A324,hfzQF28A325,hfzQF28A326,hfzQF28A327,hfzQF28A328,hfzQF28A329,hfzQF28A330,hfzQF28A331⟩ := hcq7 BK403.out)) | (have _ := EQ1;((with_reducible refine zj (f := 28) rfl ?_);refine zQ (some 10) rfl rfl Tryz.func28 (by kernel_rfl) rfl #[.agg #[.int .i64 a0_0,.int .i64 a0_1,.slice A0_2 l0_2.length c0_2,.slice A0_3 l0_3.length c0_3,.int .i64 a0_4,.int .i64 a0_5],.agg #[.int .i64 a1_0,.int .i64 a1_1,.slice A1_2 l1_2.length c1_2,.slice A1_3 l1_3.length c1_3,.int .i64 a1_4,.int .i64 a1_5]] rfl hMq ?_;(with_reducible refine (zbh.calls k a0_0 a0_1 _ _ l0_2 _ _ l0_3 a0_4 a0_5 a1_0 a1_1 _ _ l1_2 _ _ l1_3 a1_4 a1_5 false _ ?side1 ?side2 ?side3 ?side4 ?side5 ?side6 ?side7 ?side8 A3.out).mono ?_);(case side1 => exact hKq (Kd.C_below HR0_2.out HB.out));(case side2 => exact HC0_2.out);(case side3 => exact hKq (Kd.C_below HR0_3.out HB.out));(case side4 => exact HC0_3.out);(case side5 => exact hKq (Kd.C_below HR1_2.out HB.out));(case side6 => exact HC1_2.out);(case side7 => exact hKq (Kd.C_below HR1_3.out HB.out));(case side8 => exact HC1_3.out);rintro e wQF28A31 ⟨rfl,hb⟩;refine ⟨_,rfl,?_⟩;have n_ := haq (hbq BK402.out hb) <| haq (hbq BK403.out hb) <| haq (zd hCq hb) <| trivial;clear BK402 BK403 HB;obtain ⟨BK402,BK403,HB,_⟩ := n_;(try clear hb);(try clear hb2);(try clear hk);(try clear hi))))
  go_ret
  exact ⟨hHq,hCq⟩
mutual
def zu.j0 : Nat → Int → Int → ByteArray → Bool → Option (List ByteArray × ByteArray × Int)
 | 0,_,_,_,_ => none
 | k + 1,x2,x9,x10,x33 => if x33 = true then (some (([] : List ByteArray),(⟨#[]⟩ : ByteArray),4)) else (zu.l0 k x2 x9 x10 ([] : List ByteArray) 0)
def zu.l0 : Nat → Int → Int → ByteArray → List ByteArray → Int → Option (List ByteArray × ByteArray × Int)
 | 0,_,_,_,_,_ => none
 | k + 1,x2,x9,x10,x12,x13 => if x13 < x9 then ((zR.f k x10 x2).bind fun bt313 => (if bt313.2.2 = 0 then (if x12.length < 8796093022208 then (zu.l0 k x2 x9 bt313.2.1 (x12 ++ [bt313.1]) (IntKind.u64.wrap (x13 + 1))) else (none)) else (some (([] : List ByteArray),(⟨#[]⟩ : ByteArray),bt313.2.2)))) else (some (x12,x10,0))
end
def zu.f (k : Nat) (a0 : ByteArray) (a1 : Int) (a2 : Int) : Option (List ByteArray × ByteArray × Int) := (zi.f k a0).bind fun bt310 => (if bt310.2.2 = 0 then (if a1 < 0 then (zu.j0 k a2 bt310.1 bt310.2.1 true) else (zu.j0 k a2 bt310.1 bt310.2.1 (decide (bt310.1 > (IntKind.u64.wrap (a1)))))) else (some (([] : List ByteArray),(⟨#[]⟩ : ByteArray),bt310.2.2)))
set_option maxHeartbeats 8000000 in
set_option maxRecDepth 100000 in
theorem zu.calls (k : Nat) (a0 : ByteArray) (a1 : Int) (a2 : Int) (r1 : List ByteArray) (r2 : ByteArray) (r3 : Int) (w : World) (h : zu.f k a0 a1 a2 = some (r1,r2,r3)) :
  Calls Tryz.prog 52 #[.string a0,.int .i64 a1,.int .i64 a2] w fun e w' => ∃ v0_ : Value,e = .returned (.tuple #[v0_,.string r2,.int .i64 r3]) ∧ Kd.R Kd.string 9 w' w.heap.size (fun _ => True) v0_ r1 ∧ Below w.heap.size w w' := by
 have HB := za.mk (Below.refl w.heap.size w)
 have H : ((zi.f k a0).bind fun bt310 => (if bt310.2.2 = 0 then (if a1 < 0 then (zu.j0 k a2 bt310.1 bt310.2.1 true) else (zu.j0 k a2 bt310.1 bt310.2.1 (decide (bt310.1 > (IntKind.u64.wrap (a1)))))) else (some (([] : List ByteArray),(⟨#[]⟩ : ByteArray),bt310.2.2)))) = some (r1,r2,r3) := h
 clear h
 replace H := Option.bind_eq_some_iff.mp H
 obtain ⟨⟨t310,t311,t312⟩,A40,H⟩ := H
 replace H : (if t312 = 0 then (if a1 < 0 then (zu.j0 k a2 t310 t311 true) else (zu.j0 k a2 t310 t311 (decide (t310 > (IntKind.u64.wrap (a1)))))) else (some (([] : List ByteArray),(⟨#[]⟩ : ByteArray),t312))) = some (r1,r2,r3) := H
 have A4 := za.mk A40
 clear A40
 by_cases c5 : t312 = 0
 ·rw [if_pos c5] at H
  have c5b0 : (t312 == 0) = true := beq_iff_eq.mpr c5
  have c5b1 : (t312 != 0) = false := bne_eq_false_iff_eq.mpr c5
  clear c5
  have HC6 := za.mk H
  clear H
  go_enter Tryz.func52,Tryz.ntmps52
  go_upto_region 4 with (first | ((with_reducible refine zj (f := 26) rfl ?_);refine zQ (some 19) rfl rfl Tryz.func26 (by kernel_rfl) rfl #[.string a0] rfl hMq ?_;(with_reducible refine (zi.calls k a0 t310 t311 t312 _ A4.out).mono ?_);rintro e w' ⟨rfl,⟨nd,rfl⟩⟩;refine ⟨_,rfl,?_⟩))
  (try simp only [Act.put,List.setIfInBounds_toArray,List.set_cons_zero,List.set_cons_succ])
  go_cut [33] (fun v33 wc => ∃ (kq : Nat) (x33_5 : Bool),v33 = .bool x33_5 ∧ za (zu.j0 kq a2 t310 t311 x33_5 = some (r1,r2,r3)) ∧ za (kq ≤ k) ∧ za (Below w.heap.size w wc))
  case first =>
   have H := HC6.out
   clear HC6
   by_cases c7 : a1 < 0
   ·rw [if_pos c7] at H
    have c7b0 : decide (a1 < 0) = true := decide_eq_true c7
    clear c7
    (first | rw [c7b0] | (simp only [zK,zL];rw [c7b0]) | skip)
    have H' := za.mk H
    clear H
    go_wp2
    go_meet
    case rel => exact ⟨_,(true),(hDq),H',⟨by first | omega | exact Nat.le_refl _⟩,⟨by repeat (first | (with_reducible first | exact HB.out | apply zk | apply zf | apply zm) | exact HB.out)⟩⟩
   ·rw [if_neg c7] at H
    have c7b0 : decide (a1 < 0) = false := decide_eq_false c7
    clear c7
    (first | rw [c7b0] | (simp only [zK,zL];rw [c7b0]) | skip)
    have H' := za.mk H
    clear H
    go_wp2
    go_meet
    case rel => exact ⟨_,(decide (t310 > (IntKind.u64.wrap (a1)))),(hDq),H',⟨by first | omega | exact Nat.le_refl _⟩,⟨by repeat (first | (with_reducible first | exact HB.out | apply zk | apply zf | apply zm) | exact HB.out)⟩⟩
  case rest =>
   clear HC6
   try clear c2;try clear p2;try clear c5;try clear c5b0;try clear c5b1;try clear c7;try clear c7b0
   obtain ⟨kq,x33_5,rfl,HA,HJ5,HB⟩ := hcut
   cases kq with
   | zero => exact absurd HA.out (by simp [zu.j0])
   | succ kj5 =>
    have H := HA.out
    clear HA
    simp only [zu.j0] at H
    by_cases c8 : x33_5 = true
    ·subst c8
     have H1 : (some (([] : List ByteArray),(⟨#[]⟩ : ByteArray),4)) = some (r1,r2,r3) := by rw [if_pos rfl] at H;exact H
     clear H
     have H := H1
     clear H1
     simp only [Option.some.injEq,Prod.mk.injEq] at H
     obtain ⟨rfl,rfl,rfl⟩ := H
     go_wp2
     go_ret3
     exact ⟨_,hHq,by first | exact Kd.R_nil _ _ _ _ _ | exact Kd.N_nil _ _ _ _ _ | exact Kd.V_nil _ _ _ _ _ | exact Kd.Q_nil _ _ _ _ _ | exact Kd.S_nil _ _ _ _ _,hBq⟩
    ·replace c8 := Bool.eq_false_iff.mpr c8
     subst c8
     have H1 : (zu.l0 kj5 a2 t310 t311 ([] : List ByteArray) 0) = some (r1,r2,r3) := by rw [if_neg (show ¬ (false = true) by decide)] at H;exact H
     clear H
     have H := H1
     clear H1
     have H' := za.mk H
     clear H
     go_wp2
     go_loopg [10,12,13] kj5 (fun kq v10 v12 v13 w' => ∃ (x10_2 : ByteArray) (x12_2 : List ByteArray) (x13_2 : Int),v10 = .string x10_2 ∧ v13 = .int .u64 x13_2 ∧ za (zu.l0 kq a2 t310 x10_2 x12_2 x13_2 = some (r1,r2,r3)) ∧ za (kq ≤ kj5) ∧ za (Kd.R Kd.string 9 w' w.heap.size (fun _ => True) v12 x12_2) ∧ za (Below w.heap.size w w'))
     case atStart => exact ⟨(t311),(([] : List ByteArray)),(0),(hDq),(hDq),H',⟨Nat.le_refl _⟩,⟨by first | exact Kd.R_nil _ _ _ _ _ | exact Kd.N_nil _ _ _ _ _ | exact Kd.V_nil _ _ _ _ _ | exact Kd.Q_nil _ _ _ _ _ | exact Kd.S_nil _ _ _ _ _⟩,⟨by repeat (first | (with_reducible first | exact HB.out | apply zk | apply zf | apply zm) | exact HB.out)⟩⟩
     case round =>
      clear H'
      try clear c2;try clear p2;try clear c5;try clear c5b0;try clear c5b1;try clear c7;try clear c7b0;try clear c8;try clear p2
      obtain ⟨x10_2,x12_2,x13_2,rfl,rfl,HA,HK2,HO_12,HB⟩ := hrel
      cases gk with
      | zero => exact absurd HA.out (by simp [zu.l0])
      | succ k2 =>
       have H := HA.out
       clear HA
       simp only [zu.l0] at H
       by_cases c9 : x13_2 < t310
       ·rw [if_pos c9] at H
        have c9b0 : decide (x13_2 < t310) = true := decide_eq_true c9
        clear c9
        replace H := Option.bind_eq_some_iff.mp H
        obtain ⟨⟨t313,t314,t315⟩,A100,H⟩ := H
        replace H : (if t315 = 0 then (if x12_2.length < 8796093022208 then (zu.l0 k2 a2 t310 t314 (x12_2 ++ [t313]) (IntKind.u64.wrap (x13_2 + 1))) else (none)) else (some (([] : List ByteArray),(⟨#[]⟩ : ByteArray),t315))) = some (r1,r2,r3) := H
        have A10 := za.mk A100
        clear A100
        by_cases c11 : t315 = 0
        ·rw [if_pos c11] at H
         have c11b0 : (t315 == 0) = true := beq_iff_eq.mpr c11
         have c11b1 : (t315 != 0) = false := bne_eq_false_iff_eq.mpr c11
         clear c11
         by_cases c12 : x12_2.length < 8796093022208
         ·rw [if_pos c12] at H
          have LMc12 := za.mk c12
          clear c12
          obtain ⟨y316,hy316⟩ : ∃ y_ : List ByteArray,y_ = (x12_2 ++ [t313]) := ⟨_,rfl⟩
          replace H : (zu.l0 k2 a2 t310 t314 y316 (IntKind.u64.wrap (x13_2 + 1))) = some (r1,r2,r3) := by first | (rw [hy316];with_reducible exact H) | (have H2_ := (Option.bind_some _ _).symm.trans H;rw [hy316];with_reducible exact H2_) | (have H2_ := (Option.bind_some _ _).symm.trans H;with_reducible exact H2_) | with_reducible exact H | (rw [hy316];exact H) | exact H
          have Ny316 := za.mk hy316
          clear hy316
          have H' := za.mk H
          clear H
          go_wp2_with (first | ((with_reducible refine zj (f := 25) rfl ?_);refine zQ (some 42) rfl rfl Tryz.func25 (by kernel_rfl) rfl #[.string x10_2,.int .i64 a2] rfl hMq ?_;(with_reducible refine (zR.calls k2 x10_2 a2 t313 t314 t315 _ A10.out).mono ?_);rintro e w' ⟨rfl,⟨nd,rfl⟩⟩;refine ⟨_,rfl,?_⟩) | ((with_reducible refine zcN (b := .append) (xs := #[.tmp 49,.tmp 51]) rfl ?_);at_builtin;refine Kd.R_append Kd.string (w0 := w) w.heap.size rfl (.tmp 49) (.tmp 51) 23 9 (.string ⟨#[]⟩) 16 rfl Tryz.underlying23 info9 rfl (by decide) (by omega) u12 x12_2 t313 [.string t313] (fun _ => True) (fun _ => False) rfl rfl ?aP (fun _ hk => hk.elim) ?aF ?aO ?aB ?aS ?aL ?_;(case aP => exact rfl);(case aB => exact hBq);(case aF => exact (fun _ _ => trivial));(case aO => exact (hRq HO_12.out));(case aS => exact (ze hBq));(case aL => have := LMc12.out;omega);intro v317 w13 ho hb hg hat;rw [← Ny316.out] at ho;have n_ := haq (hb) <| haq (ho) <| trivial;clear HB HO_12;obtain ⟨HB,HO318,_⟩ := n_;clear ho hb hg hat))
          go_roundg k2
          case measure => have := HJ5.out;have := HK2.out;omega
          case rel => exact ⟨(t314),(y316),(IntKind.u64.wrap (x13_2 + 1)),(hDq),(hDq),H',⟨by have := HJ5.out;have := HK2.out;omega⟩,⟨by (with_reducible repeat (first | apply Kd.R_alloc | apply Kd.R_drewN | apply Kd.R_drew));exact HO318.out⟩,⟨by repeat (first | (with_reducible first | exact HB.out | apply zk | apply zf | apply zm) | exact HB.out)⟩⟩
         ·rw [if_neg c12] at H
          exact absurd H (by simp)
        ·rw [if_neg c11] at H
         have c11b0 : (t315 == 0) = false := beq_eq_false_iff_ne.mpr c11
         have c11b1 : (t315 != 0) = true := bne_iff_ne.mpr c11
         simp only [Option.some.injEq,Prod.mk.injEq] at H
         obtain ⟨rfl,rfl,rfl⟩ := H
         go_wp2_with (first | ((with_reducible refine zj (f := 25) rfl ?_);refine zQ (some 42) rfl rfl Tryz.func25 (by kernel_rfl) rfl #[.string x10_2,.int .i64 a2] rfl hMq ?_;(with_reducible refine (zR.calls k2 x10_2 a2 t313 t314 t315 _ A10.out).mono ?_);rintro e w' ⟨rfl,⟨nd,rfl⟩⟩;refine ⟨_,rfl,?_⟩))
         go_ret3
         exact ⟨_,hHq,by first | exact Kd.R_nil _ _ _ _ _ | exact Kd.N_nil _ _ _ _ _ | exact Kd.V_nil _ _ _ _ _ | exact Kd.Q_nil _ _ _ _ _ | exact Kd.S_nil _ _ _ _ _,hBq⟩
       ·rw [if_neg c9] at H
        have c9b0 : decide (x13_2 < t310) = false := decide_eq_false c9
        clear c9
        simp only [Option.some.injEq,Prod.mk.injEq] at H
        obtain ⟨rfl,rfl,rfl⟩ := H
        go_wp2
        go_ret3
        exact ⟨_,hHq,by (with_reducible repeat (first | apply Kd.R_alloc | apply Kd.R_drewN | apply Kd.R_drew));exact HO_12.out,hBq⟩
 ·rw [if_neg c5] at H
  have c5b0 : (t312 == 0) = false := beq_eq_false_iff_ne.mpr c5
  have c5b1 : (t312 != 0) = true := bne_iff_ne.mpr c5
  simp only [Option.some.injEq,Prod.mk.injEq] at H
  obtain ⟨rfl,rfl,rfl⟩ := H
  go_enter Tryz.func52,Tryz.ntmps52
  go_wp2_with (first | ((with_reducible refine zj (f := 26) rfl ?_);refine zQ (some 19) rfl rfl Tryz.func26 (by kernel_rfl) rfl #[.string a0] rfl hMq ?_;(with_reducible refine (zi.calls k a0 t310 t311 t312 _ A4.out).mono ?_);rintro e w' ⟨rfl,⟨nd,rfl⟩⟩;refine ⟨_,rfl,?_⟩))
  go_ret3
  exact ⟨_,hHq,by first | exact Kd.R_nil _ _ _ _ _ | exact Kd.N_nil _ _ _ _ _ | exact Kd.V_nil _ _ _ _ _ | exact Kd.Q_nil _ _ _ _ _ | exact Kd.S_nil _ _ _ _ _,hBq⟩
end Go.Proofs.YtfhbeonhnhjikaaGreat.Px