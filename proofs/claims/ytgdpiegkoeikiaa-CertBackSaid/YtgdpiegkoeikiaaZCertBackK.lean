/- Part 11 of 30 of the proof of the law CertBack: what is proved is the statement at the end of the last part; its conditions are those of the given row. -/
import Derived.Test.YtgdpiegkoeikiaaZCertBackJ
namespace Go.Proofs.Ytgdpiegkoeikiaa.Px
open Go.RowKit Go.Proofs.YtgdpiegkoeikiaaW.PrintWords Go.Proofs.YtgdpiegkoeikiaaW.PrintLast Go.Proofs.YtgdpiegkoeikiaaW.PrintMore
attribute [local go_sem] zx zz zJ zK zn zo zy zA
set_option linter.unusedVariables false
set_option linter.unusedSimpArgs false
def zaO.f (a0_0 : Int) (a0_1 : Int) (l0_2 : List (zW)) (l0_3 : List ByteArray) (a0_4 : Int) (a0_5 : Int) (a0_6 : Int) (a1 : Int) : Option (ByteArray × Int) := (zaM.f a0_0 a0_1 l0_2 l0_3 a0_4 a0_5 a0_6 a1).bind fun t476 => (if t476 = 0 then ((zar.f a0_0 a0_1 l0_2 l0_3 a0_4 a0_5 a1).bind fun bt477 => ((zbh.f bt477.1).bind fun t479 => ((zag.f a0_6).bind fun t480 => (if t479.size + t480.size ≤ 9223372036854775807 then (some (t479 ++ t480,0)) else (none))))) else (some ((⟨#[]⟩ : ByteArray),t476)))
def zaO.T5 : Bool × List (List Nat × List Nat) := (true,[([],[]),([0],[0]),([],[]),([2],[2]),([3,1],[3]),([1,4],[1,4]),([5,4,0,1,2,3,4,5],[5]),([6,0,1,2,3,4,5,6],[])])
def zaO.B5 : List Nat := [0,1,0,4,15,31,63,127]
theorem zaO.tab5 : zcD .any (zfZ Try.f19 5) = zaO.T5 := by kernel_rfl
theorem zaO.bits5 : zcu zaO.T5.2 zaO.B5 = true := by kernel_rfl
set_option maxHeartbeats 8000000 in
set_option maxRecDepth 100000 in
theorem zaO.calls (a0_0 : Int) (a0_1 : Int) (A0_2 : Option Addr) (c0_2 : Nat) (l0_2 : List (zW)) (A0_3 : Option Addr) (c0_3 : Nat) (l0_3 : List ByteArray) (a0_4 : Int) (a0_5 : Int) (a0_6 : Int) (a1 : Int) (r1 : ByteArray) (r2 : Int) (w : World) (hr0_2 : Kd.C zb0 w A0_2 l0_2.length l0_2) (hc0_2 : l0_2.length ≤ c0_2) (hr0_3 : Kd.C Kd.string w A0_3 l0_3.length l0_3) (hc0_3 : l0_3.length ≤ c0_3) (h : zaO.f a0_0 a0_1 l0_2 l0_3 a0_4 a0_5 a0_6 a1 = some (r1,r2)) :
  Calls Try.prog 19 #[.agg #[.int .i64 a0_0,.int .i64 a0_1,.slice A0_2 l0_2.length c0_2,.slice A0_3 l0_3.length c0_3,.int .i64 a0_4,.int .i64 a0_5,.int .u64 a0_6],.int .i64 a1] w fun e w' => e = .returned (.tuple #[.string r1,.int .i64 r2]) ∧ Below w.heap.size w w' := by
 have hu36 := Try.underlying36
 have hu28 := Try.underlying28
 have HR0_2 := zc.mk hr0_2
 have HC0_2 := zc.mk hc0_2
 clear hr0_2 hc0_2
 have HR0_3 := zc.mk hr0_3
 have HC0_3 := zc.mk hc0_3
 clear hr0_3 hc0_3
 have HB := zc.mk (Below.refl w.heap.size w)
 have H : ((zaM.f a0_0 a0_1 l0_2 l0_3 a0_4 a0_5 a0_6 a1).bind fun t476 => (if t476 = 0 then ((zar.f a0_0 a0_1 l0_2 l0_3 a0_4 a0_5 a1).bind fun bt477 => ((zbh.f bt477.1).bind fun t479 => ((zag.f a0_6).bind fun t480 => (if t479.size + t480.size ≤ 9223372036854775807 then (some (t479 ++ t480,0)) else (none))))) else (some ((⟨#[]⟩ : ByteArray),t476)))) = some (r1,r2) := h
 clear h
 replace H := Option.bind_eq_some_iff.mp H
 obtain ⟨t476,A30,H⟩ := H
 replace H : (if t476 = 0 then ((zar.f a0_0 a0_1 l0_2 l0_3 a0_4 a0_5 a1).bind fun bt477 => ((zbh.f bt477.1).bind fun t479 => ((zag.f a0_6).bind fun t480 => (if t479.size + t480.size ≤ 9223372036854775807 then (some (t479 ++ t480,0)) else (none))))) else (some ((⟨#[]⟩ : ByteArray),t476))) = some (r1,r2) := H
 have A3 := zc.mk A30
 clear A30
 by_cases c4 : t476 = 0
 ·rw [if_pos c4] at H
  have c4b0 : (t476 == 0) = true := beq_iff_eq.mpr c4
  have c4b1 : (t476 != 0) = false := bne_eq_false_iff_eq.mpr c4
  clear c4
  replace H := Option.bind_eq_some_iff.mp H
  obtain ⟨⟨t477,t478⟩,A50,H⟩ := H
  replace H : ((zbh.f t477).bind fun t479 => ((zag.f a0_6).bind fun t480 => (if t479.size + t480.size ≤ 9223372036854775807 then (some (t479 ++ t480,0)) else (none)))) = some (r1,r2) := H
  have A5 := zc.mk A50
  clear A50
  replace H := Option.bind_eq_some_iff.mp H
  obtain ⟨t479,A60,H⟩ := H
  replace H : ((zag.f a0_6).bind fun t480 => (if t479.size + t480.size ≤ 9223372036854775807 then (some (t479 ++ t480,0)) else (none))) = some (r1,r2) := H
  have A6 := zc.mk A60
  clear A60
  replace H := Option.bind_eq_some_iff.mp H
  obtain ⟨t480,A70,H⟩ := H
  replace H : (if t479.size + t480.size ≤ 9223372036854775807 then (some (t479 ++ t480,0)) else (none)) = some (r1,r2) := H
  have A7 := zc.mk A70
  clear A70
  by_cases c8 : t479.size + t480.size ≤ 9223372036854775807
  ·rw [if_pos c8] at H
   have c8b0 := eq_true c8
   have c8b1 : decide (t479.size + t480.size ≤ 9223372036854775807) = true := decide_eq_true c8
   try have c8b2 : (9223372036854775807 < t479.size + t480.size) = False := eq_false (Nat.not_lt.2 c8)
   simp only [Option.some.injEq,Prod.mk.injEq] at H
   obtain ⟨rfl,rfl⟩ := H
   go_enter Try.func19,Try.ntmps19
   try go_wp2_with (first | ((with_reducible refine zD (N := 2) rfl ?_);refine zq ?hg (N := 2) ?hd (cs := #[.int .i64 a0_0,.int .i64 a0_1,.slice A0_2 l0_2.length c0_2,.slice A0_3 l0_3.length c0_3,.int .i64 a0_4,.int .i64 a0_5,.int .u64 a0_6]) (t := 36) ?hr ?_;(case hd => rfl);(case hg => rfl);(case hr => first | (go_simp;done) | (go_simp;rfl));intro gb475 hg w9 hbox hb;have n0_ := zc.mk (zg hBq hb);have n1_ := zc.mk (hbox);have n2_ := zc.mk ((by rw [hg];exact (zj hBq) : w.heap.size ≤ gb475));have n3_ := zc.mk ((by rw [hg];exact (zj hBq) : w.heap.size ≤ gb475));clear HB;have HB := n0_;have BK475 := n1_;have GW475 := n2_;have GE475 := n3_;clear n0_ n1_ n2_ n3_;clear hb hbox hg;have hcz10_0 : w9.cell? ⟨gb475,0,none⟩ = some (.int .i64 a0_0) := (zb BK475.out 0).trans rfl;have hcz10_1 : w9.cell? ⟨gb475,1,none⟩ = some (.int .i64 a0_1) := (zb BK475.out 1).trans rfl;have hcz10_2 : w9.cell? ⟨gb475,2,none⟩ = some (.slice A0_2 l0_2.length c0_2) := (zb BK475.out 2).trans rfl;have hcz10_3 : w9.cell? ⟨gb475,3,none⟩ = some (.slice A0_3 l0_3.length c0_3) := (zb BK475.out 3).trans rfl;have hcz10_4 : w9.cell? ⟨gb475,4,none⟩ = some (.int .i64 a0_4) := (zb BK475.out 4).trans rfl;have hcz10_5 : w9.cell? ⟨gb475,5,none⟩ = some (.int .i64 a0_5) := (zb BK475.out 5).trans rfl;have hcz10_6 : w9.cell? ⟨gb475,6,none⟩ = some (.int .u64 a0_6) := (zb BK475.out 6).trans rfl;have hfz10_0 := za BK475.out 0;have hfz10_1 := za BK475.out 1;have hfz10_2 := za BK475.out 2;have hfz10_3 := za BK475.out 3;have hfz10_4 := za BK475.out 4;have hfz10_5 := za BK475.out 5;have hfz10_6 := za BK475.out 6) | ((with_reducible refine zp (f := 48) rfl ?_);refine z6 (some 11) rfl rfl Try.func48 (by kernel_rfl) rfl #[.agg #[.int .i64 a0_0,.int .i64 a0_1,.slice A0_2 l0_2.length c0_2,.slice A0_3 l0_3.length c0_3,.int .i64 a0_4,.int .i64 a0_5,.int .u64 a0_6],.int .i64 a1] rfl (by (try simp only [List.map_toArray,List.map_cons,List.map_nil]);first | done | rfl | (simp only [List.length_drop,List.length_take];rfl)) ?_;(with_reducible refine (zaM.calls a0_0 a0_1 _ _ l0_2 _ _ l0_3 a0_4 a0_5 a0_6 a1 t476 _ ?side1 ?side2 ?side3 ?side4 A3.out).mono ?_);(case side1 => repeat (first | exact (Kd.C_below HR0_2.out HB.out) | (with_reducible refine Kd.C_alloc ?_ _) | (with_reducible refine Kd.C_drewN ?_ _) | (with_reducible refine Kd.C_drew ?_)));(case side2 => exact HC0_2.out);(case side3 => repeat (first | exact (Kd.C_below HR0_3.out HB.out) | (with_reducible refine Kd.C_alloc ?_ _) | (with_reducible refine Kd.C_drewN ?_ _) | (with_reducible refine Kd.C_drew ?_)));(case side4 => exact HC0_3.out);rintro e w11 ⟨rfl,hb⟩;refine ⟨_,rfl,?_⟩;have n0_ := zc.mk (zh (g := gb475) (o := .cells #[.int .i64 a0_0,.int .i64 a0_1,.slice A0_2 l0_2.length c0_2,.slice A0_3 l0_3.length c0_3,.int .i64 a0_4,.int .i64 a0_5,.int .u64 a0_6] 36 (0,0)) (hGq BK475.out) hb);have n1_ := zc.mk (zg hCq hb);clear BK475;clear HB;have BK475 := n0_;have HB := n1_;clear n0_ n1_;(try clear hb);(try clear hb2);(try clear hk);(try clear hi);have hcz12_0 : w11.cell? ⟨gb475,0,none⟩ = some (.int .i64 a0_0) := (zb BK475.out 0).trans rfl;have hcz12_1 : w11.cell? ⟨gb475,1,none⟩ = some (.int .i64 a0_1) := (zb BK475.out 1).trans rfl;have hcz12_2 : w11.cell? ⟨gb475,2,none⟩ = some (.slice A0_2 l0_2.length c0_2) := (zb BK475.out 2).trans rfl;have hcz12_3 : w11.cell? ⟨gb475,3,none⟩ = some (.slice A0_3 l0_3.length c0_3) := (zb BK475.out 3).trans rfl;have hcz12_4 : w11.cell? ⟨gb475,4,none⟩ = some (.int .i64 a0_4) := (zb BK475.out 4).trans rfl;have hcz12_5 : w11.cell? ⟨gb475,5,none⟩ = some (.int .i64 a0_5) := (zb BK475.out 5).trans rfl;have hcz12_6 : w11.cell? ⟨gb475,6,none⟩ = some (.int .u64 a0_6) := (zb BK475.out 6).trans rfl;have hfz12_0 := za BK475.out 0;have hfz12_1 := za BK475.out 1;have hfz12_2 := za BK475.out 2;have hfz12_3 := za BK475.out 3;have hfz12_4 := za BK475.out 4;have hfz12_5 := za BK475.out 5;have hfz12_6 := za BK475.out 6) | ((with_reducible refine zp (f := 49) rfl ?_);refine z6 (some 19) rfl rfl Try.func49 (by kernel_rfl) rfl #[.agg #[.int .i64 a0_0,.int .i64 a0_1,.slice A0_2 l0_2.length c0_2,.slice A0_3 l0_3.length c0_3,.int .i64 a0_4,.int .i64 a0_5],.int .i64 a1] rfl (by (try simp only [List.map_toArray,List.map_cons,List.map_nil]);first | done | rfl | (simp only [List.length_drop,List.length_take];rfl)) ?_;(with_reducible refine (zar.calls a0_0 a0_1 _ _ l0_2 _ _ l0_3 a0_4 a0_5 a1 t477 t478 _ ?side1 ?side2 ?side3 ?side4 A5.out).mono ?_);(case side1 => repeat (first | exact (Kd.C_below HR0_2.out HB.out) | (with_reducible refine Kd.C_alloc ?_ _) | (with_reducible refine Kd.C_drewN ?_ _) | (with_reducible refine Kd.C_drew ?_)));(case side2 => exact HC0_2.out);(case side3 => repeat (first | exact (Kd.C_below HR0_3.out HB.out) | (with_reducible refine Kd.C_alloc ?_ _) | (with_reducible refine Kd.C_drewN ?_ _) | (with_reducible refine Kd.C_drew ?_)));(case side4 => exact HC0_3.out);rintro e w13 ⟨rfl,hb⟩;refine ⟨_,rfl,?_⟩;have n0_ := zc.mk (zh (g := gb475) (o := .cells #[.int .i64 a0_0,.int .i64 a0_1,.slice A0_2 l0_2.length c0_2,.slice A0_3 l0_3.length c0_3,.int .i64 a0_4,.int .i64 a0_5,.int .u64 a0_6] 36 (0,0)) (hGq BK475.out) hb);have n1_ := zc.mk (zg hCq hb);clear BK475;clear HB;have BK475 := n0_;have HB := n1_;clear n0_ n1_;(try clear hb);(try clear hb2);(try clear hk);(try clear hi)))
   have n0_ := zc.mk (zf BK475.out)
   have n1_ := zc.mk (zB HB.out)
   clear BK475
   clear HB
   have BK475 := n0_
   have HB := n1_
   clear n0_ n1_
   refine zdg (n := 8) (S := fun w' => w'.cell? ⟨gb475,0,none⟩ = some (.int .i64 a0_0) ∧ w'.cell? ⟨gb475,1,none⟩ = some (.int .i64 a0_1) ∧ w'.cell? ⟨gb475,2,none⟩ = some (.slice A0_2 l0_2.length c0_2) ∧ w'.cell? ⟨gb475,3,none⟩ = some (.slice A0_3 l0_3.length c0_3) ∧ w'.cell? ⟨gb475,4,none⟩ = some (.int .i64 a0_4) ∧ w'.cell? ⟨gb475,5,none⟩ = some (.int .i64 a0_5) ∧ w'.cell? ⟨gb475,6,none⟩ = some (.int .u64 a0_6)) (ds := []) #[false,false,false,false,false,false,false,false] (by kernel_rfl) rfl rfl ⟨(zb BK475.out 0).trans rfl,(zb BK475.out 1).trans rfl,(zb BK475.out 2).trans rfl,(zb BK475.out 3).trans rfl,(zb BK475.out 4).trans rfl,(zb BK475.out 5).trans rfl,(zb BK475.out 6).trans rfl⟩ (fun hHeld => ?_);refine zck zaO.tab5 zaO.bits5 (fun HT_ HW_ => ?_)
   generalize w13.drew = w14 at BK475 HB hHeld ⊢
   refine zai (i := 0) (N := some 22) (v := ?_) (a' := ?_) #[true,false,false,false,false,false,false,false] rfl rfl (z9 HT_.out (by kernel_rfl)) (fun _ _ _ h => h) (Or.inl ⟨by rfl,?_⟩) ?_ ?_
   rotate_left
   ·intro w'
    go_simp
    with_reducible rfl
   rotate_left
   ·simp only [Act.put,List.setIfInBounds_toArray,List.set_cons_zero,List.set_cons_succ,zN,zQ]
    rfl
   refine zai (i := 2) (N := some 24) (v := ?_) (a' := ?_) #[true,false,true,false,false,false,false,false] rfl rfl (z9 HT_.out (by kernel_rfl)) (fun _ _ _ h => h) (Or.inl ⟨by rfl,?_⟩) ?_ ?_
   rotate_left
   ·intro w'
    go_simp
    with_reducible rfl
   rotate_left
   ·simp only [Act.put,List.setIfInBounds_toArray,List.set_cons_zero,List.set_cons_succ,zN,zQ]
    rfl
   refine take_ (i := 3) (N := some 25) (v := ?_) (a' := ?_) #[true,false,true,true,false,false,false,false] rfl rfl (zaY HT_.out HW_.out (by kernel_rfl)) (fun _ _ _ h => h) (Or.inl ⟨by rfl,?_⟩) hHeld ?_ ?_
   rotate_left
   ·rintro w' ⟨s0,s1,s2,s3,s4,s5,s6⟩
    go_simp
    with_reducible rfl
   rotate_left
   ·simp only [Act.put,List.setIfInBounds_toArray,List.set_cons_zero,List.set_cons_succ,zN,zQ]
    rfl
   refine zc7 (i := 1) (N := some 23) #[true,true,true,true,false,false,false,false] rfl rfl (zbT HT_.out (by kernel_rfl)) (by decide) (fun K hK => ?_)
   refine zb4 Try.func50 (by kernel_rfl) rfl #[.string t477] (by rfl) rfl rfl (by (try simp only [List.map_toArray,List.map_cons,List.map_nil]);first | done | rfl | (simp only [List.length_drop,List.length_take];rfl)) ?_
   with_reducible refine (zbh.calls t477 t479 _ A6.out).mono ?_
   rintro e w15 ⟨rfl,hb⟩
   refine ⟨_,rfl,?_⟩
   have n0_ := zc.mk (zh (g := gb475) (o := .cells #[.int .i64 a0_0,.int .i64 a0_1,.slice A0_2 l0_2.length c0_2,.slice A0_3 l0_3.length c0_3,.int .i64 a0_4,.int .i64 a0_5,.int .u64 a0_6] 36 (0,0)) (hGq BK475.out) hb)
   have n1_ := zc.mk (zg hCq hb)
   clear BK475
   clear HB
   have BK475 := n0_
   have HB := n1_
   clear n0_ n1_
   (try clear hb)
   (try clear hb2)
   (try clear hk)
   (try clear hi)
   refine hK.out _ _ ⟨(zb BK475.out 0).trans rfl,(zb BK475.out 1).trans rfl,(zb BK475.out 2).trans rfl,(zb BK475.out 3).trans rfl,(zb BK475.out 4).trans rfl,(zb BK475.out 5).trans rfl,(zb BK475.out 6).trans rfl⟩ (fun hHeld => ?_)
   clear hK K
   refine zb5 (a' := ?_) ?_ ?_
   rotate_left
   ·show Act.put _ (some 23) _ = _
    simp only [Act.put,List.setIfInBounds_toArray,List.set_cons_zero,List.set_cons_succ,zN,zQ]
    rfl
   refine zc7 (i := 4) (N := some 26) #[true,true,true,true,true,false,false,false] rfl rfl (zbT HT_.out (by kernel_rfl)) (by decide) (fun K hK => ?_)
   refine zb4 Try.func51 (by kernel_rfl) rfl #[.int .u64 a0_6] (by rfl) rfl rfl (by (try simp only [List.map_toArray,List.map_cons,List.map_nil]);first | done | rfl | (simp only [List.length_drop,List.length_take];rfl)) ?_
   with_reducible refine (zag.calls a0_6 t480 _ A7.out).mono ?_
   rintro e w16 ⟨rfl,hb⟩
   refine ⟨_,rfl,?_⟩
   have n0_ := zc.mk (zh (g := gb475) (o := .cells #[.int .i64 a0_0,.int .i64 a0_1,.slice A0_2 l0_2.length c0_2,.slice A0_3 l0_3.length c0_3,.int .i64 a0_4,.int .i64 a0_5,.int .u64 a0_6] 36 (0,0)) (hGq BK475.out) hb)
   have n1_ := zc.mk (zg hCq hb)
   clear BK475
   clear HB
   have BK475 := n0_
   have HB := n1_
   clear n0_ n1_
   (try clear hb)
   (try clear hb2)
   (try clear hk)
   (try clear hi)
   refine hK.out _ _ ⟨(zb BK475.out 0).trans rfl,(zb BK475.out 1).trans rfl,(zb BK475.out 2).trans rfl,(zb BK475.out 3).trans rfl,(zb BK475.out 4).trans rfl,(zb BK475.out 5).trans rfl,(zb BK475.out 6).trans rfl⟩ (fun hHeld => ?_)
   clear hK K
   refine zb5 (a' := ?_) ?_ ?_
   rotate_left
   ·show Act.put _ (some 26) _ = _
    simp only [Act.put,List.setIfInBounds_toArray,List.set_cons_zero,List.set_cons_succ,zN,zQ]
    rfl
   refine zai (i := 5) (N := some 27) (v := ?_) (a' := ?_) #[true,true,true,true,true,true,false,false] rfl rfl (z9 HT_.out (by kernel_rfl)) (fun _ _ _ h => h) (Or.inl ⟨by rfl,?_⟩) ?_ ?_
   rotate_left
   ·intro w'
    go_simp
    with_reducible rfl
   rotate_left
   ·simp only [Act.put,List.setIfInBounds_toArray,List.set_cons_zero,List.set_cons_succ,zN,zQ]
    rfl
   refine zai (i := 6) (N := some 4) (v := ?_) (a' := ?_) #[true,true,true,true,true,true,true,false] rfl rfl (z9 HT_.out (by kernel_rfl)) (fun _ _ _ h => h) (Or.inl ⟨by rfl,?_⟩) ?_ ?_
   rotate_left
   ·intro w'
    go_simp
    with_reducible rfl
   rotate_left
   ·simp only [Act.put,List.setIfInBounds_toArray,List.set_cons_zero,List.set_cons_succ,zN,zQ]
    rfl
   refine zai (i := 7) (N := some 5) (v := ?_) (a' := ?_) #[true,true,true,true,true,true,true,true] rfl rfl (z9 HT_.out (by kernel_rfl)) (fun _ _ _ h => h) (Or.inl ⟨by rfl,?_⟩) ?_ ?_
   rotate_left
   ·intro w'
    go_simp
    with_reducible rfl
   rotate_left
   ·simp only [Act.put,List.setIfInBounds_toArray,List.set_cons_zero,List.set_cons_succ,zN,zQ]
    rfl
   refine zeg (zc8 HT_.out (by kernel_rfl)) ?_
   try go_wp2
   go_ret2
   exact ⟨hHq,hCq⟩
  ·rw [if_neg c8] at H
   exact absurd H (by simp)
 ·rw [if_neg c4] at H
  have c4b0 : (t476 == 0) = false := beq_eq_false_iff_ne.mpr c4
  have c4b1 : (t476 != 0) = true := bne_iff_ne.mpr c4
  simp only [Option.some.injEq,Prod.mk.injEq] at H
  obtain ⟨rfl,rfl⟩ := H
  go_enter Try.func19,Try.ntmps19
  go_wp2_with (first | ((with_reducible refine zD (N := 2) rfl ?_);refine zq ?hg (N := 2) ?hd (cs := #[.int .i64 a0_0,.int .i64 a0_1,.slice A0_2 l0_2.length c0_2,.slice A0_3 l0_3.length c0_3,.int .i64 a0_4,.int .i64 a0_5,.int .u64 a0_6]) (t := 36) ?hr ?_;(case hd => rfl);(case hg => rfl);(case hr => first | (go_simp;done) | (go_simp;rfl));intro gb475 hg w17 hbox hb;have n0_ := zc.mk (zg hBq hb);have n1_ := zc.mk (hbox);have n2_ := zc.mk ((by rw [hg];exact (zj hBq) : w.heap.size ≤ gb475));have n3_ := zc.mk ((by rw [hg];exact (zj hBq) : w.heap.size ≤ gb475));clear HB;have HB := n0_;have BK475 := n1_;have GW475 := n2_;have GE475 := n3_;clear n0_ n1_ n2_ n3_;clear hb hbox hg;have hcz18_0 : w17.cell? ⟨gb475,0,none⟩ = some (.int .i64 a0_0) := (zb BK475.out 0).trans rfl;have hcz18_1 : w17.cell? ⟨gb475,1,none⟩ = some (.int .i64 a0_1) := (zb BK475.out 1).trans rfl;have hcz18_2 : w17.cell? ⟨gb475,2,none⟩ = some (.slice A0_2 l0_2.length c0_2) := (zb BK475.out 2).trans rfl;have hcz18_3 : w17.cell? ⟨gb475,3,none⟩ = some (.slice A0_3 l0_3.length c0_3) := (zb BK475.out 3).trans rfl;have hcz18_4 : w17.cell? ⟨gb475,4,none⟩ = some (.int .i64 a0_4) := (zb BK475.out 4).trans rfl;have hcz18_5 : w17.cell? ⟨gb475,5,none⟩ = some (.int .i64 a0_5) := (zb BK475.out 5).trans rfl;have hcz18_6 : w17.cell? ⟨gb475,6,none⟩ = some (.int .u64 a0_6) := (zb BK475.out 6).trans rfl;have hfz18_0 := za BK475.out 0;have hfz18_1 := za BK475.out 1;have hfz18_2 := za BK475.out 2;have hfz18_3 := za BK475.out 3;have hfz18_4 := za BK475.out 4;have hfz18_5 := za BK475.out 5;have hfz18_6 := za BK475.out 6) | ((with_reducible refine zp (f := 48) rfl ?_);refine z6 (some 11) rfl rfl Try.func48 (by kernel_rfl) rfl #[.agg #[.int .i64 a0_0,.int .i64 a0_1,.slice A0_2 l0_2.length c0_2,.slice A0_3 l0_3.length c0_3,.int .i64 a0_4,.int .i64 a0_5,.int .u64 a0_6],.int .i64 a1] rfl (by (try simp only [List.map_toArray,List.map_cons,List.map_nil]);first | done | rfl | (simp only [List.length_drop,List.length_take];rfl)) ?_;(with_reducible refine (zaM.calls a0_0 a0_1 _ _ l0_2 _ _ l0_3 a0_4 a0_5 a0_6 a1 t476 _ ?side1 ?side2 ?side3 ?side4 A3.out).mono ?_);(case side1 => repeat (first | exact (Kd.C_below HR0_2.out HB.out) | (with_reducible refine Kd.C_alloc ?_ _) | (with_reducible refine Kd.C_drewN ?_ _) | (with_reducible refine Kd.C_drew ?_)));(case side2 => exact HC0_2.out);(case side3 => repeat (first | exact (Kd.C_below HR0_3.out HB.out) | (with_reducible refine Kd.C_alloc ?_ _) | (with_reducible refine Kd.C_drewN ?_ _) | (with_reducible refine Kd.C_drew ?_)));(case side4 => exact HC0_3.out);rintro e w19 ⟨rfl,hb⟩;refine ⟨_,rfl,?_⟩;have n0_ := zc.mk (zh (g := gb475) (o := .cells #[.int .i64 a0_0,.int .i64 a0_1,.slice A0_2 l0_2.length c0_2,.slice A0_3 l0_3.length c0_3,.int .i64 a0_4,.int .i64 a0_5,.int .u64 a0_6] 36 (0,0)) (hGq BK475.out) hb);have n1_ := zc.mk (zg hCq hb);clear BK475;clear HB;have BK475 := n0_;have HB := n1_;clear n0_ n1_;(try clear hb);(try clear hb2);(try clear hk);(try clear hi)))
  go_ret2
  exact ⟨hHq,hCq⟩
def zad.j0 : Nat → Int → ByteArray → Bool → Option (ByteArray × ByteArray × Int)
 | 0,_,_,_ => none
 | k + 1,x7,x8,x20 => if x20 = true then (some ((⟨#[]⟩ : ByteArray),(⟨#[]⟩ : ByteArray),4)) else (if x7 > (IntKind.u64.wrap ((x8.size : Int))) then (some ((⟨#[]⟩ : ByteArray),(⟨#[]⟩ : ByteArray),2)) else (if 0 ≤ x7 then (if x7 ≤ (x8.size : Int) then (some (x8.extract 0 (x7 : Int).toNat,x8.extract (x7 : Int).toNat x8.size,0)) else (none)) else (none)))
def zad.f (k : Nat) (a0 : ByteArray) (a1 : Int) : Option (ByteArray × ByteArray × Int) := (zC.f k a0).bind fun bt118 => (if bt118.2.2 = 0 then (if a1 < 0 then (zad.j0 k bt118.1 bt118.2.1 true) else (zad.j0 k bt118.1 bt118.2.1 (decide (bt118.1 > (IntKind.u64.wrap (a1)))))) else (some ((⟨#[]⟩ : ByteArray),(⟨#[]⟩ : ByteArray),bt118.2.2)))
set_option maxHeartbeats 8000000 in
set_option maxRecDepth 100000 in
theorem zad.calls (k : Nat) (a0 : ByteArray) (a1 : Int) (r1 : ByteArray) (r2 : ByteArray) (r3 : Int) (w : World) (h : zad.f k a0 a1 = some (r1,r2,r3)) :
  Calls Try.prog 52 #[.string a0,.int .i64 a1] w fun e w' => e = .returned (.tuple #[.string r1,.string r2,.int .i64 r3]) ∧ zaF w w' := by
 have H : ((zC.f k a0).bind fun bt118 => (if bt118.2.2 = 0 then (if a1 < 0 then (zad.j0 k bt118.1 bt118.2.1 true) else (zad.j0 k bt118.1 bt118.2.1 (decide (bt118.1 > (IntKind.u64.wrap (a1)))))) else (some ((⟨#[]⟩ : ByteArray),(⟨#[]⟩ : ByteArray),bt118.2.2)))) = some (r1,r2,r3) := h
 clear h
 replace H := Option.bind_eq_some_iff.mp H
 obtain ⟨⟨t118,t119,t120⟩,A30,H⟩ := H
 replace H : (if t120 = 0 then (if a1 < 0 then (zad.j0 k t118 t119 true) else (zad.j0 k t118 t119 (decide (t118 > (IntKind.u64.wrap (a1)))))) else (some ((⟨#[]⟩ : ByteArray),(⟨#[]⟩ : ByteArray),t120))) = some (r1,r2,r3) := H
 have A3 := zc.mk A30
 clear A30
 by_cases c4 : t120 = 0
 ·rw [if_pos c4] at H
  have c4b0 : (t120 == 0) = true := beq_iff_eq.mpr c4
  have c4b1 : (t120 != 0) = false := bne_eq_false_iff_eq.mpr c4
  clear c4
  have HC5 := zc.mk H
  clear H
  go_enter Try.func52,Try.ntmps52
  go_upto_region 4 with (first | (go_at_call 53;(with_reducible refine (zC.calls k a0 t118 t119 t120 _ A3.out).mono ?_);rintro e w' ⟨rfl,⟨nd,rfl⟩⟩;(try first | exact ⟨rfl,_,World.drewN_drewN _ _ _⟩ | exact ⟨rfl,_,Eq.trans (World.drewN_drewN _ _ _) (congrArg (World.drewN _) (Nat.add_assoc _ _ _))⟩)))
  repeat (go_quiet (first | (go_at_call 53;(with_reducible refine (zC.calls k a0 t118 t119 t120 _ A3.out).mono ?_);rintro e w' ⟨rfl,⟨nd,rfl⟩⟩;(try first | exact ⟨rfl,_,World.drewN_drewN _ _ _⟩ | exact ⟨rfl,_,Eq.trans (World.drewN_drewN _ _ _) (congrArg (World.drewN _) (Nat.add_assoc _ _ _))⟩)));go_upto_region 4 with (first | (go_at_call 53;(with_reducible refine (zC.calls k a0 t118 t119 t120 _ A3.out).mono ?_);rintro e w' ⟨rfl,⟨nd,rfl⟩⟩;(try first | exact ⟨rfl,_,World.drewN_drewN _ _ _⟩ | exact ⟨rfl,_,Eq.trans (World.drewN_drewN _ _ _) (congrArg (World.drewN _) (Nat.add_assoc _ _ _))⟩))))
  (try simp only [Act.put,List.setIfInBounds_toArray,List.set_cons_zero,List.set_cons_succ])
  go_cut [20] (fun v20 wc => ∃ (kq : Nat) (x20_4 : Bool),v20 = .bool x20_4 ∧ zc (zad.j0 kq t118 t119 x20_4 = some (r1,r2,r3)) ∧ zc (kq ≤ k) ∧ zaF w wc)
  case first =>
   have H := HC5.out
   clear HC5
   by_cases c6 : a1 < 0
   ·rw [if_pos c6] at H
    have c6b0 : decide (a1 < 0) = true := decide_eq_true c6
    clear c6
    (first | rw [c6b0] | (simp only [zN,zQ];rw [c6b0]) | skip)
    have H' := zc.mk H
    clear H
    go_wp2
    repeat (go_quiet (fail);try go_wp2)
    go_meet
    case rel => exact ⟨_,(true),(hDq),H',⟨by first | omega | exact Nat.le_refl _⟩,hEq⟩
   ·rw [if_neg c6] at H
    have c6b0 : decide (a1 < 0) = false := decide_eq_false c6
    clear c6
    (first | rw [c6b0] | (simp only [zN,zQ];rw [c6b0]) | skip)
    have H' := zc.mk H
    clear H
    go_wp2
    repeat (go_quiet (fail);try go_wp2)
    go_meet
    case rel => exact ⟨_,(decide (t118 > (IntKind.u64.wrap (a1)))),(hDq),H',⟨by first | omega | exact Nat.le_refl _⟩,hEq⟩
  case rest =>
   clear HC5
   try clear p2
   try clear c4
   try clear c4b0
   try clear c4b1
   try clear c5
   try clear c6
   try clear c6b0
   obtain ⟨kq,x20_4,rfl,HA,HJ4,⟨mc4,rfl⟩⟩ := hcut
   cases kq with
   | zero => exact absurd HA.out (by simp [zad.j0])
   | succ kj4 =>
    have H := HA.out
    clear HA
    simp only [zad.j0] at H
    by_cases c7 : x20_4 = true
    ·subst c7
     have H1 : (some ((⟨#[]⟩ : ByteArray),(⟨#[]⟩ : ByteArray),4)) = some (r1,r2,r3) := by rw [if_pos rfl] at H;exact H
     clear H
     have H := H1
     clear H1
     simp only [Option.some.injEq,Prod.mk.injEq] at H
     obtain ⟨rfl,rfl,rfl⟩ := H
     go_wp2
     repeat (go_quiet (fail);try go_wp2)
     go_ret3
     exact ⟨hDq,hEq⟩
    ·replace c7 := Bool.eq_false_iff.mpr c7
     subst c7
     have H1 : (if t118 > (IntKind.u64.wrap ((t119.size : Int))) then (some ((⟨#[]⟩ : ByteArray),(⟨#[]⟩ : ByteArray),2)) else (if 0 ≤ t118 then (if t118 ≤ (t119.size : Int) then (some (t119.extract 0 (t118 : Int).toNat,t119.extract (t118 : Int).toNat t119.size,0)) else (none)) else (none))) = some (r1,r2,r3) := by rw [if_neg (show ¬ (false = true) by decide)] at H;exact H
     clear H
     have H := H1
     clear H1
     by_cases c8 : t118 > (IntKind.u64.wrap ((t119.size : Int)))
     ·rw [if_pos c8] at H
      have c8b0 : decide ((IntKind.u64.wrap ((t119.size : Int))) < t118) = true := decide_eq_true c8
      clear c8
      simp only [Option.some.injEq,Prod.mk.injEq] at H
      obtain ⟨rfl,rfl,rfl⟩ := H
      go_wp2
      repeat (go_quiet (fail);try go_wp2)
      go_ret3
      exact ⟨hDq,hEq⟩
     ·rw [if_neg c8] at H
      have c8b0 : decide ((IntKind.u64.wrap ((t119.size : Int))) < t118) = false := decide_eq_false c8
      clear c8
      by_cases c9 : 0 ≤ t118
      ·rw [if_pos c9] at H
       have c9b0 := eq_true c9
       have c9b1 : decide (0 ≤ t118) = true := decide_eq_true c9
       clear c9
       by_cases c10 : t118 ≤ (t119.size : Int)
       ·rw [if_pos c10] at H
        have c10b0 := eq_true c10
        have c10b1 : decide (t118 ≤ (t119.size : Int)) = true := decide_eq_true c10
        clear c10
        have c11b0 := eq_true (hFq : 0 ≤ t118)
        have c12b0 := eq_true (hFq : t118 ≤ (t119.size : Int))
        simp only [Option.some.injEq,Prod.mk.injEq] at H
        obtain ⟨rfl,rfl,rfl⟩ := H
        go_wp2
        repeat (go_quiet (fail);try go_wp2)
        go_ret3
        exact ⟨hDq,hEq⟩
       ·rw [if_neg c10] at H
        exact absurd H (by simp)
      ·rw [if_neg c9] at H
       exact absurd H (by simp)
 ·rw [if_neg c4] at H
  have c4b0 : (t120 == 0) = false := beq_eq_false_iff_ne.mpr c4
  have c4b1 : (t120 != 0) = true := bne_iff_ne.mpr c4
  simp only [Option.some.injEq,Prod.mk.injEq] at H
  obtain ⟨rfl,rfl,rfl⟩ := H
  go_enter Try.func52,Try.ntmps52
  go_wp2_with (first | (go_at_call 53;(with_reducible refine (zC.calls k a0 t118 t119 t120 _ A3.out).mono ?_);rintro e w' ⟨rfl,⟨nd,rfl⟩⟩;(try first | exact ⟨rfl,_,World.drewN_drewN _ _ _⟩ | exact ⟨rfl,_,Eq.trans (World.drewN_drewN _ _ _) (congrArg (World.drewN _) (Nat.add_assoc _ _ _))⟩)))
  repeat (go_quiet (first | (go_at_call 53;(with_reducible refine (zC.calls k a0 t118 t119 t120 _ A3.out).mono ?_);rintro e w' ⟨rfl,⟨nd,rfl⟩⟩;(try first | exact ⟨rfl,_,World.drewN_drewN _ _ _⟩ | exact ⟨rfl,_,Eq.trans (World.drewN_drewN _ _ _) (congrArg (World.drewN _) (Nat.add_assoc _ _ _))⟩)));try go_wp2_with (first | (go_at_call 53;(with_reducible refine (zC.calls k a0 t118 t119 t120 _ A3.out).mono ?_);rintro e w' ⟨rfl,⟨nd,rfl⟩⟩;(try first | exact ⟨rfl,_,World.drewN_drewN _ _ _⟩ | exact ⟨rfl,_,Eq.trans (World.drewN_drewN _ _ _) (congrArg (World.drewN _) (Nat.add_assoc _ _ _))⟩))))
  go_ret3
  exact ⟨hDq,hEq⟩
def zbF (v : Nat) (r : Bs) (most : Int) : Bs × Bs × Int :=
 if most < 0 ∨ most < (v : Int) then ([],[],4) else if r.length < v then ([],[],2) else (r.take v,r.drop v,0)
def zcH (q : Nat × Bs × Int) (most : Int) : Bs × Bs × Int := if q.2.2 = 0 then zbF q.1 q.2.1 most else ([],[],q.2.2)
def zaB (s : Bs) (most : Int) : Bs × Bs × Int := zcH (zR s) most
def zaI (s : ByteArray) (most : Int) : ByteArray × ByteArray × Int := (toB (zaB (ofB s) most).1,toB (zaB (ofB s) most).2.1,(zaB (ofB s) most).2.2)
theorem zb1 (s : Bs) : (zR s).2.1.length ≤ s.length := by
 rcases s with _ | ⟨c,t⟩
 ·simp [zR]
 ·simp only [zR]
  (repeat' split) <;> simp <;> omega
theorem zb2 (s : Bs) : (zR s).1 < 18446744073709551616 := by
 rcases h : zR s with ⟨v,r,e⟩
 rcases zhq h with he | ⟨hv,_⟩
 ·subst he;exact (zbK h).2
 ·show v < _;omega
theorem zdN (l : Bs) (i j : Nat) : (toB l).extract i j = toB ((l.drop i).take (j - i)) := zeE (by rw [zfg,zat,zat])
theorem zhs (v : Nat) (r : Bs) (h : ¬ r.length < v) : ((toB r).extract 0 v,(toB r).extract v (toB r).size) = (toB (r.take v),toB (r.drop v)) := by
 rw [zdN,zdN,zX,List.drop_zero,Nat.sub_zero,List.take_of_length_le (l := r.drop v) (by rw [List.length_drop];omega)]
theorem zfl (s : ByteArray) (most : Int) (hs : s.size < 4611686018427387904) (hw : (Lit.int .i64 most).wf = true) : Ev (fun k => zad.f k s most) (zaI s most) := by
 obtain ⟨m0,m1⟩ := i64_wf hw
 have hv := zb2 (ofB s)
 have hl := zb1 (ofB s)
 rw [zab] at hl
 refine Ev.bind (zcF s hs) ?_
 rcases hq : zR (ofB s) with ⟨v,r,e⟩
 rw [hq] at hv hl
 simp only [zca,zaI,zaB,hq]
 simp only at hv hl
 by_cases he : e = 0
 ·subst he
  refine zF rfl ?_
  have hj : ∀ b : Bool,(b = true ↔ (most < 0 ∨ most < (v : Int))) → Ev (fun k => zad.j0 k (v : Int) (toB r) b) (toB (zbF v r most).1,toB (zbF v r most).2.1,(zbF v r most).2.2) := by
   intro b hb
   refine Ev.step (fun k => by rw [zad.j0]) ?_
   by_cases h4 : most < 0 ∨ most < (v : Int)
   ·rw [zbF,if_pos h4]
    exact zF (hb.2 h4) (Ev.now _)
   ·rw [zbF,if_neg h4]
    refine zU (fun h => h4 (hb.1 h)) ?_
    rw [zX,za4 (by omega) (by omega)]
    by_cases h2 : r.length < v
    ·rw [if_pos h2]
     exact zF (by omega) (Ev.now _)
    ·rw [if_neg h2]
     refine zU (by omega) (zF (by omega) (zF (by omega) ?_))
     rw [Int.toNat_natCast]
     have hx := zhs v r h2
     rw [zX] at hx
     injection hx with hx1 hx2
     rw [hx1,hx2]
     exact Ev.now _
  by_cases hm : most < 0
  ·exact zF hm (hj true (by simp [hm]))
  ·refine zU hm ?_
   rw [za4 (by omega) (by omega)]
   exact hj _ (by simp;omega)
 ·refine zU he ?_
  rw [zcH,if_neg he]
  exact Ev.now _
def zbd (most : Int) : Nat → Bs → List ByteArray → List ByteArray × Bs × Int
 | 0,s,acc => (acc,s,0)
 | n + 1,s,acc => if (zaB s most).2.2 = 0 then zbd most n (zaB s most).2.1 (acc ++ [toB (zaB s most).1]) else ([],[],(zaB s most).2.2)
def zcG (q : Nat × Bs × Int) (many most : Int) : List ByteArray × Bs × Int :=
 if q.2.2 = 0 then (if many < 0 ∨ many < (q.1 : Int) then ([],[],4) else zbd most q.1 q.2.1 []) else ([],[],q.2.2)
def zaq (s : Bs) (many most : Int) : List ByteArray × Bs × Int := zcG (zR s) many most
theorem zdE {s : Bs} {most : Int} (h : (zaB s most).2.2 = 0) : (zaB s most).2.1.length < s.length := by
 unfold zaB zcH at h ⊢
 split at h
 ·rename_i h0
  rw [if_pos h0]
  unfold zbF at h ⊢
  split at h
  ·cases h
  ·rename_i h1
   rw [if_neg h1]
   split at h
   ·cases h
   ·rename_i h2
    rw [if_neg h2]
    rcases hq : zR s with ⟨v,r,e⟩
    rw [hq] at h0
    simp only at h0
    subst h0
    obtain ⟨rfl,_⟩ := zbK hq
    simp only [List.length_drop,List.length_append,zbx,List.length_cons]
    omega
 ·rename_i h0
  exact absurd h h0
theorem zT.take1k (s : ByteArray) (most : Int) (hs : s.size < 4611686018427387904) (hw : (Lit.int .i64 most).wf = true) : ∃ k,zad.f k s most = some ((zaI s most).1,(zaI s most).2.1,(zaI s most).2.2) := (zfl s most hs hw).rounds
set_option maxRecDepth 100000 in
theorem zT.take1 (s : ByteArray) (most : Int) (b : Nat) (w : World) (hs : s.size < 4611686018427387904) (hw : (Lit.int .i64 most).wf = true) (hc : w.cell? ⟨b,0,none⟩ = some (.int .i64 most)) :
  Calls Try.prog 86 #[.string s,.pointer (some ⟨b,0,none⟩)] w fun e w' => e = .returned (.tuple #[.string (zaI s most).1,.string (zaI s most).2.1,.int .i64 (zaI s most).2.2]) ∧ zaF w w' := by
 obtain ⟨k,hk⟩ := zT.take1k s most hs hw
 have HK := zc.mk hk
 clear hk hs hw
 generalize zaI s most = q at *
 go_enter Try.func86,Try.ntmps86
 go_wp2_with (go_at_call 52;(with_reducible refine (zad.calls _ _ _ _ _ _ _ HK.out).mono ?_);rintro e w1 ⟨rfl,hd⟩)
 go_ret3
 exact ⟨rfl,by assumption⟩
theorem zT.info : (Try.prog.info? 9).map (fun i => (i.zero,i.size,i.bytes)) = some (some (.string ⟨#[]⟩),1,16) := by kernel_rfl
def zT.Rel (most : Int) (w0 : World) (fin : List ByteArray × Bs × Int) (n j : Nat) (s : ByteArray) (v : Value) (wr : World) : Prop :=
 ∃ acc : List ByteArray,zbd most (n - j) (ofB s) acc = fin ∧ acc.length ≤ j ∧ (n ≤ 8796093022207 ∨ acc.length + s.size ≤ 8796093022207) ∧ s.size < 4611686018427387904 ∧ Kd.R Kd.string 9 wr w0.heap.size (fun _ => True) v acc ∧ Below w0.heap.size w0 wr
theorem zT.Rel.step {most : Int} {w0 wr : World} {fin : List ByteArray × Bs × Int} {n j : Nat} {s : ByteArray} {v : Value} (h : zT.Rel most w0 fin n j s v wr) (hj : j < n) (h0 : (zaI s most).2.2 = 0) :
  ∃ acc : List ByteArray,(acc.length + 1) * 16 ≤ 140737488355328 ∧ Kd.R Kd.string 9 wr w0.heap.size (fun _ => True) v acc ∧ Below w0.heap.size w0 wr ∧
   ∀ v' w',Kd.R Kd.string 9 w' w0.heap.size (fun _ => True) v' (acc ++ [(zaI s most).1]) → Below w0.heap.size w0 w' → zT.Rel most w0 fin n (j + 1) (zaI s most).2.1 v' w' := by
 obtain ⟨acc,h1,h2,h3,h4,h5,h6⟩ := h
 have hsh := zdE (s := ofB s) (most := most) h0
 rw [zab] at hsh
 have e : n - j = (n - (j + 1)) + 1 := by omega
 have h0' : (zaB (ofB s) most).2.2 = 0 := h0
 rw [e,zbd,if_pos h0'] at h1
 have hsz : (zaI s most).2.1.size = (zaB (ofB s) most).2.1.length := by rw [zaI,zX]
 refine ⟨acc,by omega,h5,h6,fun v' w' k1 k2 => ⟨_,?_,by rw [List.length_append,List.length_singleton];omega,?_,by omega,k1,k2⟩⟩
 ·rw [show ofB (zaI s most).2.1 = (zaB (ofB s) most).2.1 by rw [zaI,zat]]
  exact h1
 ·rw [List.length_append,List.length_singleton];omega
theorem zT.Rel.fail {most : Int} {w0 wr : World} {fin : List ByteArray × Bs × Int} {n j : Nat} {s : ByteArray} {v : Value} (h : zT.Rel most w0 fin n j s v wr) (hj : j < n) (h0 : ¬ (zaI s most).2.2 = 0) : fin = ([],[],(zaI s most).2.2) := by
 obtain ⟨acc,h1,_⟩ := h
 have e : n - j = (n - (j + 1)) + 1 := by omega
 have h0' : ¬ (zaB (ofB s) most).2.2 = 0 := h0
 rw [e,zbd,if_neg h0'] at h1
 exact h1.symm
set_option maxRecDepth 100000 in
set_option maxHeartbeats 4000000 in
theorem zT.several (s : ByteArray) (n : Nat) (most : Int) (b : Nat) (w : World) (hn : n < 18446744073709551616) (hs : s.size < 4611686018427387904) (hw : (Lit.int .i64 most).wf = true) (hc : w.cell? ⟨b,0,none⟩ = some (.int .i64 most)) (hroom : s.size ≤ 8796093022207 ∨ n ≤ 8796093022207) (fin : List ByteArray × Bs × Int) (hfin : zbd most n (ofB s) [] = fin) :
  Calls Try.prog 85 #[.string s,.int .u64 n,.func (.func 86) #[] #[.pointer (some ⟨b,0,none⟩)]] w fun e w' => ∃ v0_ : Value,e = .returned (.tuple #[v0_,.string (toB fin.2.1),.int .i64 fin.2.2]) ∧ Kd.R Kd.string 9 w' w.heap.size (fun _ => True) v0_ fin.1 ∧ Below w.heap.size w w' := by
 have HF : zc (zT.Rel most w fin n 0 s (.slice none 0 0) w) := ⟨⟨[],by rw [Nat.sub_zero];exact hfin,Nat.le_refl _,by simp only [List.length_nil];omega,hs,Kd.R_nil _ _ _ _ _,Below.refl _ _⟩⟩
 have HW := zc.mk hw
 have HC := zc.mk hc
 clear hfin hroom hs hw hc
 go_enter Try.func85,Try.ntmps85
 go_wp2_with fail
 go_loopw [0,9,10,11,12,14] (fun v0 v9 _ _ _ v14 wr => ∃ (j : Nat) (s' : ByteArray),v0 = .string s' ∧ v14 = .int .u64 j ∧ j ≤ n ∧ zc (zT.Rel most w fin n j s' v9 wr)) (fun _ _ _ _ _ v14 _ => n - (match v14 with | .int _ q => q | _ => 0).toNat)
 case atStart => exact ⟨0,s,rfl,rfl,Nat.zero_le _,HF⟩
 case round =>
  obtain ⟨j,s',rfl,rfl,hj,HR⟩ := hrel
  by_cases hlt : j < n
  ·have hb : decide (j < n) = true := decide_eq_true hlt
   have HT := zc.mk (zT.take1 s' most b)
   obtain ⟨hs',hbel⟩ : s'.size < 4611686018427387904 ∧ Below w.heap.size w wr := by
    obtain ⟨_,_,_,_,h4,_,h6⟩ := HR.out
    exact ⟨h4,h6⟩
   have HCW := zc.mk (zcK hbel HC.out)
   have HS := zc.mk hs'
   clear hs' hbel
   by_cases h0 : (zaI s' most).2.2 = 0
   ·obtain ⟨acc,a1,a2,a3,a4⟩ := HR.out.step hlt h0
    have HL := zc.mk a1
    have HO := zc.mk a2
    have HB := zc.mk a3
    have HN := zc.mk a4
    clear a1 a2 a3 a4
    have HZ := zc.mk h0
    clear h0
    generalize zaI s' most = q at *
    obtain ⟨q1,q2,q3⟩ := q
    have hq3 := HZ.out
    simp only at hq3
    subst hq3
    simp only at HN HT
    clear HZ
    go_wp2_with (first | (go_at_call 86;(with_reducible refine (HT.out _ HS.out HW.out HCW.out).mono ?_);rintro e w1 ⟨rfl,⟨nd,rfl⟩⟩) | (at_builtin;refine Kd.R_append Kd.string (w0 := w) w.heap.size rfl (.tmp 26) (.tmp 28) 24 9 (.string ⟨#[]⟩) 16 rfl Try.underlying24 zT.info rfl (by decide) (by omega) _ acc q1 [.string q1] (fun _ => True) (fun _ => False) rfl rfl ?aP (fun _ hk => hk.elim) ?aF ?aO ?aB ?aS ?aL ?_;(case aP => exact rfl);(case aF => exact (fun _ _ => trivial));(case aO => exact (Kd.R_drewN HO.out _));(case aB => exact (zk HB.out _));(case aS => exact (zj (zk HB.out _)));(case aL => exact HL.out);intro v3 w3 ho hb hg hat;have HX := zc.mk (HN.out _ _ ho hb);clear ho hb hg hat))
    go_roundw
    case rel => exact ⟨j + 1,q2,rfl,by go_num,by omega,HX⟩
    case measure => simp;omega
   ·have hf := HR.out.fail hlt h0
    have HB : zc (Below w.heap.size w wr) := ⟨by obtain ⟨_,_,_,_,_,_,h6⟩ := HR.out;exact h6⟩
    have hz : ((zaI s' most).2.2 == 0) = false := beq_eq_false_iff_ne.2 h0
    have hz2 : ((zaI s' most).2.2 != 0) = true := by rw [bne,hz];rfl
    clear h0
    have HF2 := zc.mk hf
    clear hf HF
    generalize zaI s' most = q at *
    obtain ⟨q1,q2,q3⟩ := q
    simp only at hz hz2 HF2 HT
    go_wp2_with (go_at_call 86;(with_reducible refine (HT.out _ HS.out HW.out HCW.out).mono ?_);rintro e w1 ⟨rfl,⟨nd,rfl⟩⟩)
    go_ret3
    rw [HF2.out]
    exact ⟨_,rfl,Kd.R_nil _ _ _ _ _,zk HB.out _⟩
  ·obtain rfl : j = n := by omega
   obtain ⟨acc,h1,_,_,_,h5,h6⟩ := HR.out
   rw [Nat.sub_self,zbd] at h1
   have H1 := zc.mk h1
   have H5 := zc.mk h5
   have H6 := zc.mk h6
   clear h1 h5 h6 hlt HF HR
   go_wp2_with fail
   go_ret3
   rw [← H1.out]
   exact ⟨_,by simp only [zct];rfl,H5.out,H6.out⟩
def zT.f (a0 : ByteArray) (a1 : Int) (a2 : Int) : Option (List ByteArray × ByteArray × Int) :=
 if (Lit.int .i64 a1).wf = true ∧ (Lit.int .i64 a2).wf = true ∧ a0.size < 4611686018427387904 ∧ (a0.size ≤ 8796093022207 ∨ a1 ≤ 8796093022207) then some ((zaq (ofB a0) a1 a2).1,toB (zaq (ofB a0) a1 a2).2.1,(zaq (ofB a0) a1 a2).2.2) else none
set_option maxHeartbeats 4000000 in
set_option maxRecDepth 100000 in
theorem zT.walk (a0 : ByteArray) (a1 : Int) (a2 : Int) (w : World) (h1 : (Lit.int .i64 a1).wf = true) (h2 : (Lit.int .i64 a2).wf = true) (hs : a0.size < 4611686018427387904) (hroom : a0.size ≤ 8796093022207 ∨ a1 ≤ 8796093022207) (fin : List ByteArray × Bs × Int) (hfin : zaq (ofB a0) a1 a2 = fin) :
  Calls Try.prog 57 #[.string a0,.int .i64 a1,.int .i64 a2] w fun e w' => ∃ v0_ : Value,e = .returned (.tuple #[v0_,.string (toB fin.2.1),.int .i64 fin.2.2]) ∧ Kd.R Kd.string 9 w' w.heap.size (fun _ => True) v0_ fin.1 ∧ Below w.heap.size w w' := by
 obtain ⟨m0,m1⟩ := i64_wf h1
 obtain ⟨k,hk⟩ := (zcF a0 hs).rounds
 have hv := zb2 (ofB a0)
 have hl := zb1 (ofB a0)
 rw [zab] at hl
 rcases hq : zR (ofB a0) with ⟨v,r,e⟩
 rw [zaq,hq] at hfin
 rw [hq] at hv hl
 simp only [zca,hq] at hk
 simp only at hv hl
 have HK := zc.mk hk
 have H2 := zc.mk h2
 have HF := zc.mk hfin
 have HR := zc.mk hroom
 have HL := zc.mk hl
 clear hk h1 h2 hfin hroom hl hq
 by_cases he : e = 0
 ·subst he
  by_cases h4 : a1 < 0 ∨ a1 < (v : Int)
  ·have hf := HF.out
   rw [zcG,if_pos rfl,if_pos h4] at hf
   have HF2 := zc.mk hf
   clear hf HF
   by_cases hneg : a1 < 0
   ·have hb : decide (a1 < 0) = true := decide_eq_true hneg
    clear h4
    go_enter Try.func57,Try.ntmps57
    go_wp2_with (go_at_call 53;(with_reducible refine (zC.calls _ _ _ _ _ _ HK.out).mono ?_);rintro e w1 ⟨rfl,⟨nd,rfl⟩⟩)
    go_ret3
    rw [← HF2.out]
    exact ⟨_,rfl,Kd.R_nil _ _ _ _ _,zk ((Below.refl _ _).alloc (Nat.le_refl _) _) _⟩
   ·have hb : decide (a1 < 0) = false := decide_eq_false hneg
    have hpos : 0 ≤ a1 := by omega
    have hlt : a1 < (v : Int) := by omega
    have hb2 : decide (a1 < (v : Int)) = true := decide_eq_true hlt
    clear h4 hneg
    go_enter Try.func57,Try.ntmps57
    go_wp2_with (go_at_call 53;(with_reducible refine (zC.calls _ _ _ _ _ _ HK.out).mono ?_);rintro e w1 ⟨rfl,⟨nd,rfl⟩⟩)
    go_ret3
    rw [← HF2.out]
    exact ⟨_,rfl,Kd.R_nil _ _ _ _ _,zk ((Below.refl _ _).alloc (Nat.le_refl _) _) _⟩
  ·have hf := HF.out
   rw [zcG,if_pos rfl,if_neg h4] at hf
   have HF2 := zc.mk hf
   clear hf HF
   have hpos : 0 ≤ a1 := by omega
   have hge : (v : Int) ≤ a1 := by omega
   have hb : decide (a1 < 0) = false := decide_eq_false (by omega)
   have hb2 : decide (a1 < (v : Int)) = false := decide_eq_false (by omega)
   have HV := zc.mk hv
   have HS := zc.mk hs
   have HG := zc.mk hge
   clear h4 hge hv hs
   go_enter Try.func57,Try.ntmps57
   go_wp2_with (first | (go_at_call 53;(with_reducible refine (zC.calls _ _ _ _ _ _ HK.out).mono ?_);rintro e w1 ⟨rfl,⟨nd,rfl⟩⟩) | (go_at_call 85;refine (zT.several (toB r) v a2 w.heap.size _ HV.out (by rw [zX];have := HL.out;have := HS.out;omega) H2.out (by simp [World.cell?_alloc_new]) (by rw [zX];have := HL.out;have := HR.out;have := HG.out;omega) fin (by rw [zat];exact HF2.out)).mono ?_;rintro e w2 ⟨v0,rfl,hR,hB⟩))
   go_ret3
   have hW : Below w.heap.size w ((w.alloc (.cells #[.int .i64 a2] 3)).drewN nd) := zk ((Below.refl _ _).alloc (Nat.le_refl _) _) _
   exact ⟨_,rfl,Kd.R_lower hR hW.size,zg hW hB⟩
 ·have hf := HF.out
  rw [zcG,if_neg he] at hf
  have HF2 := zc.mk hf
  have hz : (e == 0) = false := beq_eq_false_iff_ne.2 he
  have hz2 : (e != 0) = true := by rw [bne,hz];rfl
  clear hf HF he
  go_enter Try.func57,Try.ntmps57
  go_wp2_with (go_at_call 53;(with_reducible refine (zC.calls _ _ _ _ _ _ HK.out).mono ?_);rintro e w1 ⟨rfl,⟨nd,rfl⟩⟩)
  go_ret3
  rw [← HF2.out]
  exact ⟨_,rfl,Kd.R_nil _ _ _ _ _,zk ((Below.refl _ _).alloc (Nat.le_refl _) _) _⟩
theorem zT.calls (a0 : ByteArray) (a1 : Int) (a2 : Int) (r1 : List ByteArray) (r2 : ByteArray) (r3 : Int) (w : World) (h : zT.f a0 a1 a2 = some (r1,r2,r3)) :
  Calls Try.prog 57 #[.string a0,.int .i64 a1,.int .i64 a2] w fun e w' => ∃ v0_ : Value,e = .returned (.tuple #[v0_,.string r2,.int .i64 r3]) ∧ Kd.R Kd.string 9 w' w.heap.size (fun _ => True) v0_ r1 ∧ Below w.heap.size w w' := by
 unfold zT.f at h
 split at h
 ·rename_i hc
  obtain ⟨h1,h2,h3,h4⟩ := hc
  simp only [Option.some.injEq,Prod.mk.injEq] at h
  obtain ⟨rfl,rfl,rfl⟩ := h
  exact zT.walk a0 a1 a2 w h1 h2 h3 h4 _ rfl
 ·cases h
end Go.Proofs.Ytgdpiegkoeikiaa.Px