/- Part 28 of 30 of the proof of the law DagPasts: what is proved is the statement at the end of the last part; its conditions are those of the given row. -/
import Derived.Test.YtndjfdakflaggaaZDagPastsY
import Derived.Test.YtndjfdakflaggaaZDagPastsa
namespace Go.Proofs.Ytndjfdakflaggaa.Px
open Go.RowKit Go.Proofs.YtndjfdakflaggaaW.PrintWords Go.Proofs.YtndjfdakflaggaaW.PrintLast Go.Proofs.YtndjfdakflaggaaW.PrintMore
attribute [local go_sem] zt zv zA zB zq zr zu zw
set_option linter.unusedVariables false
set_option linter.unusedSimpArgs false
mutual
def zg.j0 : Nat → ByteArray → ByteArray → Int → Bool → Bool → Int → Int → List (S34) → Int → Int → List (S34) → Option (Bool)
 | 0,_,_,_,_,_,_,_,_,_,_,_ => none
 | k + 1,x4,x5,x6,x8,x31,x363000,x363001,x363002,x364000,x364001,x364002 => if x31 = true then (some x8) else (zg.l0 k x4 x5 x6 x8 0 x363000 x363001 x363002 x364000 x364001 x364002)
def zg.l0 : Nat → ByteArray → ByteArray → Int → Bool → Int → Int → Int → List (S34) → Int → Int → List (S34) → Option (Bool)
 | 0,_,_,_,_,_,_,_,_,_,_,_ => none
 | k + 1,x4,x5,x6,x8,x10,x363000,x363001,x363002,x364000,x364001,x364002 => if x10 < (x363002.length : Int) then (zg.l1 k x4 x5 x6 x8 x10 0 x363000 x363001 x363002 x364000 x364001 x364002) else ((zbd.f x363000 x363001 x363002 x4 x6).bind fun t368 => ((zD.f k x363000 x363001 x363002 x4 x6).bind fun t371 => ((zk.f k t368 t371).bind fun t374 => (if t374 = true then ((zaA.f x363000 x363001 x363002 x4 x5).bind fun t375 => ((zE.f k x363000 x363001 x363002 x4 x5).bind fun t376 => (if (t375 == t376) = true then ((zbe.f x363000 x363001 x363002 x364000 x364001 x364002).bind fun t377 => ((zV.f k x363000 x363001 x363002 x364000 x364001 x364002).bind fun t378 => (some (t377 == t378)))) else (some false)))) else (some false)))))
def zg.l1 : Nat → ByteArray → ByteArray → Int → Bool → Int → Int → Int → Int → List (S34) → Int → Int → List (S34) → Option (Bool)
 | 0,_,_,_,_,_,_,_,_,_,_,_,_ => none
 | k + 1,x4,x5,x6,x8,x10,x11,x363000,x363001,x363002,x364000,x364001,x364002 => if x11 < x10 then (if 0 ≤ x10 then (if x10 < (x363002.length : Int) then (if 0 ≤ x11 then (if x11 < (x363002.length : Int) then (if ((zd x363002 x10).f0).toList = ((zd x363002 x11).f0).toList then (some x8) else (zg.l1 k x4 x5 x6 x8 x10 (wrap64 (x11 + 1)) x363000 x363001 x363002 x364000 x364001 x364002)) else (none)) else (none)) else (none)) else (none)) else (zg.l0 k x4 x5 x6 x8 (wrap64 (x10 + 1)) x363000 x363001 x363002 x364000 x364001 x364002)
end
def zg.f (k : Nat) (a0_0 : Int) (a0_1 : Int) (l0_2 : List (S34)) (a0_3 : ByteArray) (a0_4 : ByteArray) (a0_5 : Int) (a0_6 : Int) (a0_7 : Int) (l0_8 : List (S34)) : Option (Bool) := (zaC.f).bind fun t364 => ((zaM.f a0_0 a0_1 l0_2).bind fun t365 => (if t364 = true then (zg.j0 k a0_3 a0_4 a0_5 t364 (!t365) a0_0 a0_1 l0_2 a0_6 a0_7 l0_8) else (zg.j0 k a0_3 a0_4 a0_5 t364 true a0_0 a0_1 l0_2 a0_6 a0_7 l0_8)))
def zg.T16 : Bool × List (List Nat × List Nat) := (true,[([],[]),([0],[0]),([],[]),([1,2],[1,2]),([3],[3]),([4],[4]),([],[]),([6],[6]),([],[]),([7,8],[7,8]),([9],[9]),([10],[10]),([5,11],[5,11])])
def zg.B16 : List Nat := [0,1,0,7,15,31,0,64,0,448,960,1984,4095]
theorem zg.tab16 : zbI .any (zd6 Try.f4 16) = zg.T16 := by kernel_rfl
theorem zg.bits16 : zbw zg.T16.2 zg.B16 = true := by kernel_rfl
def zg.T18 : Bool × List (List Nat × List Nat) := (true,[([],[]),([],[]),([],[]),([0,1,2],[0,1,2]),([],[]),([],[]),([],[]),([4,5,6,3],[4,5,6]),([3,7,7],[3,7]),([8,8,0,1,2,3,4,5,6,7,8],[8])])
def zg.B18 : List Nat := [0,0,0,7,0,0,0,127,255,511]
theorem zg.tab18 : zbI .any (zd6 Try.f4 18) = zg.T18 := by kernel_rfl
theorem zg.bits18 : zbw zg.T18.2 zg.B18 = true := by kernel_rfl
def zg.T19 : Bool × List (List Nat × List Nat) := (true,[([],[]),([0],[0]),([1],[1]),([1],[1]),([1],[1]),([2,3,4,1,1],[1,2,3,4]),([1],[1]),([1],[1]),([1],[1]),([6,7,8,5,1],[1,6,7,8]),([5,9,1],[1,5,9]),([1,10],[1,10]),([11,9],[11]),([12],[12]),([12],[12]),([13,14,12,12],[12,13,14]),([12],[12]),([12],[12]),([16,17,15,12],[12,16,17]),([15,18,12],[12,15,18]),([12,19],[12,19]),([20,18,0,1,2,3,4,5,6,7,8,9,10,11,12,13,14,15,16,17,18,19,20],[20])])
def zg.B19 : List Nat := [0,1,3,3,3,31,3,3,3,511,1023,2047,4095,8191,8191,32767,8191,8191,262143,524287,1048575,2097151]
theorem zg.tab19 : zbI .any (zd6 Try.f4 19) = zg.T19 := by kernel_rfl
theorem zg.bits19 : zbw zg.T19.2 zg.B19 = true := by kernel_rfl
set_option maxHeartbeats 8000000 in
set_option maxRecDepth 100000 in
theorem zg.calls (k : Nat) (a0_0 : Int) (a0_1 : Int) (A0_2 : Option Addr) (c0_2 : Nat) (l0_2 : List (S34)) (a0_3 : ByteArray) (a0_4 : ByteArray) (a0_5 : Int) (a0_6 : Int) (a0_7 : Int) (A0_8 : Option Addr) (c0_8 : Nat) (l0_8 : List (S34)) (r : Bool) (w : World) (hr0_2 : Kd.C k34 w A0_2 l0_2.length l0_2) (hc0_2 : l0_2.length ≤ c0_2) (hr0_8 : Kd.C k34 w A0_8 l0_8.length l0_8) (hc0_8 : l0_8.length ≤ c0_8) (h : zg.f k a0_0 a0_1 l0_2 a0_3 a0_4 a0_5 a0_6 a0_7 l0_8 = some r) :
  Calls Try.prog 4 #[.agg #[.int .i64 a0_0,.int .i64 a0_1,.slice A0_2 l0_2.length c0_2,.string a0_3,.string a0_4,.int .i64 a0_5,.int .i64 a0_6,.int .i64 a0_7,.slice A0_8 l0_8.length c0_8]] w fun e w' => e = .returned (.bool r) ∧ Below w.heap.size w w' := by
 have hu42 := Try.underlying42
 have hu24 := Try.underlying24
 have HR0_2 := za.mk hr0_2
 have HC0_2 := za.mk hc0_2
 clear hr0_2 hc0_2
 have HR0_8 := za.mk hr0_8
 have HC0_8 := za.mk hc0_8
 clear hr0_8 hc0_8
 have HB := za.mk (Below.refl w.heap.size w)
 have H : ((zaC.f).bind fun t364 => ((zaM.f a0_0 a0_1 l0_2).bind fun t365 => (if t364 = true then (zg.j0 k a0_3 a0_4 a0_5 t364 (!t365) a0_0 a0_1 l0_2 a0_6 a0_7 l0_8) else (zg.j0 k a0_3 a0_4 a0_5 t364 true a0_0 a0_1 l0_2 a0_6 a0_7 l0_8)))) = some r := h
 clear h
 replace H := Option.bind_eq_some_iff.mp H
 obtain ⟨t364,A20,H⟩ := H
 replace H : ((zaM.f a0_0 a0_1 l0_2).bind fun t365 => (if t364 = true then (zg.j0 k a0_3 a0_4 a0_5 t364 (!t365) a0_0 a0_1 l0_2 a0_6 a0_7 l0_8) else (zg.j0 k a0_3 a0_4 a0_5 t364 true a0_0 a0_1 l0_2 a0_6 a0_7 l0_8))) = some r := H
 have A2 := za.mk A20
 clear A20
 replace H := Option.bind_eq_some_iff.mp H
 obtain ⟨t365,A30,H⟩ := H
 replace H : (if t364 = true then (zg.j0 k a0_3 a0_4 a0_5 t364 (!t365) a0_0 a0_1 l0_2 a0_6 a0_7 l0_8) else (zg.j0 k a0_3 a0_4 a0_5 t364 true a0_0 a0_1 l0_2 a0_6 a0_7 l0_8)) = some r := H
 have A3 := za.mk A30
 clear A30
 have HC4 := za.mk H
 clear H
 go_enter Try.func4,Try.ntmps4
 go_upto_region 8 with (first | ((with_reducible refine zp (N := 1) rfl ?_);refine zn rfl (N := 1) rfl (cs := #[.int .i64 a0_0,.int .i64 a0_1,.slice A0_2 l0_2.length c0_2,.string a0_3,.string a0_4,.int .i64 a0_5,.int .i64 a0_6,.int .i64 a0_7,.slice A0_8 l0_8.length c0_8]) (t := 42) hrq ?_;intro gb361 hg w5 hbox hb;have n_ := haq (zh hBq hb) <| haq (hbox) <| haq ((by rw [hg];exact (zj hBq) : w.heap.size ≤ gb361)) <| haq ((by rw [hg];exact (zj hBq) : w.heap.size ≤ gb361)) <| trivial;clear HB;obtain ⟨HB,BK361,GW361,GE361,_⟩ := n_;clear hb hbox hg;obtain ⟨hcz6_0,hcz6_1,hcz6_2,hcz6_3,hcz6_4,hcz6_5,hcz6_6,hcz6_7,hcz6_8,hfz6_0,hfz6_1,hfz6_2,hfz6_3,hfz6_4,hfz6_5,hfz6_6,hfz6_7,hfz6_8⟩ := hcq9 BK361.out) | ((with_reducible refine zp (N := 3) rfl ?_);refine zn rfl (N := 3) rfl (cs := #[.int .i64 0,.int .i64 0,.slice none 0 0]) (t := 24) hrq ?_;intro gb362 hg w7 hbox hb;have n_ := haq (hbq BK361.out hb) <| haq (zh hCq hb) <| haq (hbox) <| haq ((by rw [hg];exact (zj hCq) : w.heap.size ≤ gb362)) <| haq ((by rw [hg];exact (zj hCq) : w.heap.size ≤ gb362)) <| haq (hnq hg BK361.out) <| haq (hmq hg BK361.out) <| trivial;clear BK361 HB;obtain ⟨BK361,HB,BK362,GW362,GE362,NB361_362,NB362_361,_⟩ := n_;clear hb hbox hg;have hnb8 := NB362_361.out;have hnc8 := NB361_362.out;obtain ⟨hcz9_0,hcz9_1,hcz9_2,hfz9_0,hfz9_1,hfz9_2⟩ := hcq3 BK362.out;obtain ⟨hcz10_0,hcz10_1,hcz10_2,hcz10_3,hcz10_4,hcz10_5,hcz10_6,hcz10_7,hcz10_8,hfz10_0,hfz10_1,hfz10_2,hfz10_3,hfz10_4,hfz10_5,hfz10_6,hfz10_7,hfz10_8⟩ := hcq9 BK361.out) | ((with_reducible refine zp (N := 7) rfl ?_);refine zn rfl (N := 7) rfl (cs := #[.int .i64 0,.int .i64 0,.slice none 0 0]) (t := 24) hrq ?_;intro gb363 hg w11 hbox hb;have n_ := haq (zo (g := gb361) (o := .cells #[.int .i64 a0_0,.int .i64 a0_1,.slice A0_2 l0_2.length c0_2,.string a0_3,.string a0_4,.int .i64 a0_5,.int .i64 a0_6,.int .i64 a0_7,.slice A0_8 l0_8.length c0_8] 42 (0,0)) (hxq1 NB361_362.out BK361.out) hb) <| haq (zo (g := gb362) (o := .cells #[.int .i64 a0_0,.int .i64 a0_1,.slice A0_2 l0_2.length c0_2] 24 (0,0)) (hxq0p BK362.out) hb) <| haq (zh hCq hb) <| haq (hbox) <| haq ((by rw [hg];exact (zj hCq) : w.heap.size ≤ gb363)) <| haq ((by rw [hg];exact (zj hCq) : w.heap.size ≤ gb363)) <| haq ((by rw [hg];exact Nat.ne_of_lt (zam (g := gb361) (o := .cells #[.int .i64 a0_0,.int .i64 a0_1,.slice A0_2 l0_2.length c0_2,.string a0_3,.string a0_4,.int .i64 a0_5,.int .i64 a0_6,.int .i64 a0_7,.slice A0_8 l0_8.length c0_8] 42 (0,0)) (hxq1 NB361_362.out BK361.out)) : gb361 ≠ gb363)) <| haq ((by rw [hg];exact Nat.ne_of_gt (zam (g := gb361) (o := .cells #[.int .i64 a0_0,.int .i64 a0_1,.slice A0_2 l0_2.length c0_2,.string a0_3,.string a0_4,.int .i64 a0_5,.int .i64 a0_6,.int .i64 a0_7,.slice A0_8 l0_8.length c0_8] 42 (0,0)) (hxq1 NB361_362.out BK361.out)) : gb363 ≠ gb361)) <| haq ((by rw [hg];exact Nat.ne_of_lt (zam (g := gb362) (o := .cells #[.int .i64 a0_0,.int .i64 a0_1,.slice A0_2 l0_2.length c0_2] 24 (0,0)) (hxq0p BK362.out)) : gb362 ≠ gb363)) <| haq ((by rw [hg];exact Nat.ne_of_gt (zam (g := gb362) (o := .cells #[.int .i64 a0_0,.int .i64 a0_1,.slice A0_2 l0_2.length c0_2] 24 (0,0)) (hxq0p BK362.out)) : gb363 ≠ gb362)) <| trivial;clear BK361 BK362 HB;obtain ⟨BK361,BK362,HB,BK363,GW363,GE363,NB361_363,NB363_361,NB362_363,NB363_362,_⟩ := n_;clear hb hbox hg;have hnb12 := NB363_361.out;have hnc12 := NB361_363.out;have hnb13 := NB363_362.out;have hnc13 := NB362_363.out;obtain ⟨hcz14_0,hcz14_1,hcz14_2,hfz14_0,hfz14_1,hfz14_2⟩ := hcq3 BK363.out) | ((with_reducible refine zN (f := 5) rfl ?_);refine zaG (some 23) rfl rfl Try.func5 (by kernel_rfl) rfl #[] rfl hMq ?_;(with_reducible refine (zaC.calls  t364 _ A2.out).mono ?_);rintro e w15 ⟨rfl,hb⟩;refine ⟨_,rfl,?_⟩;have n_ := haq (zo (g := gb361) (o := .cells #[.int .i64 a0_0,.int .i64 a0_1,.slice A0_2 l0_2.length c0_2,.string a0_3,.string a0_4,.int .i64 a0_5,.int .i64 a0_6,.int .i64 a0_7,.slice A0_8 l0_8.length c0_8] 42 (0,0)) (hxq1 NB361_363.out BK361.out) hb) <| haq (zo (g := gb362) (o := .cells #[.int .i64 a0_0,.int .i64 a0_1,.slice A0_2 l0_2.length c0_2] 24 (0,0)) (hxq1 NB362_363.out BK362.out) hb) <| haq (zo (g := gb363) (o := .cells #[.int .i64 a0_6,.int .i64 a0_7,.slice A0_8 l0_8.length c0_8] 24 (0,0)) (hxq0p BK363.out) hb) <| haq (zh hCq hb) <| trivial;clear BK361 BK362 BK363 HB;obtain ⟨BK361,BK362,BK363,HB,_⟩ := n_;(try clear hb);(try clear hb2);(try clear hk);(try clear hi);obtain ⟨hcz16_0,hcz16_1,hcz16_2,hfz16_0,hfz16_1,hfz16_2⟩ := hcq3 BK362.out) | ((with_reducible refine zN (f := 6) rfl ?_);refine zaG (some 25) rfl rfl Try.func6 (by kernel_rfl) rfl #[.agg #[.int .i64 a0_0,.int .i64 a0_1,.slice A0_2 l0_2.length c0_2]] rfl hMq ?_;(with_reducible refine (zaM.calls a0_0 a0_1 _ _ l0_2 t365 _ ?side1 ?side2 A3.out).mono ?_);(case side1 => exact hKq (Kd.C_below HR0_2.out HB.out));(case side2 => exact HC0_2.out);rintro e w17 ⟨rfl,hb⟩;refine ⟨_,rfl,?_⟩;have n_ := haq (hbq BK361.out hb) <| haq (hbq BK362.out hb) <| haq (hbq BK363.out hb) <| haq (zh hCq hb) <| trivial;clear BK361 BK362 BK363 HB;obtain ⟨BK361,BK362,BK363,HB,_⟩ := n_;(try clear hb);(try clear hb2);(try clear hk);(try clear hi)))
 (try simp only [Act.put,List.setIfInBounds_toArray,List.set_cons_zero,List.set_cons_succ])
 go_cut [31] (fun v31 wc => ∃ (kq : Nat) (x31_3 : Bool),v31 = .bool x31_3 ∧ za (zg.j0 kq a0_3 a0_4 a0_5 t364 x31_3 a0_0 a0_1 l0_2 a0_6 a0_7 l0_8 = some r) ∧ za (kq ≤ k) ∧ za (wc.heap[gb361]? = some (.cells #[.int .i64 a0_0,.int .i64 a0_1,(.slice A0_2 l0_2.length c0_2),.string a0_3,.string a0_4,.int .i64 a0_5,.int .i64 a0_6,.int .i64 a0_7,(.slice A0_8 l0_8.length c0_8)] 42 (0,0))) ∧ za (wc.heap[gb362]? = some (.cells #[.int .i64 a0_0,.int .i64 a0_1,(.slice A0_2 l0_2.length c0_2)] 24 (0,0))) ∧ za (wc.heap[gb363]? = some (.cells #[.int .i64 a0_6,.int .i64 a0_7,(.slice A0_8 l0_8.length c0_8)] 24 (0,0))) ∧ za (Below w.heap.size w wc))
 case first =>
  have H := HC4.out
  clear HC4
  by_cases c18 : t364 = true
  ·subst c18
   have H1 : (zg.j0 k a0_3 a0_4 a0_5 true (!t365) a0_0 a0_1 l0_2 a0_6 a0_7 l0_8) = some r := by rw [if_pos rfl] at H;exact H
   clear H
   have H := H1
   clear H1
   have H' := za.mk H
   clear H
   go_wp2
   go_meet
   case rel => exact ⟨_,(!t365),(hDq),H',⟨by first | omega | exact Nat.le_refl _⟩,⟨hGq BK361.out⟩,⟨hGq BK362.out⟩,⟨hGq BK363.out⟩,⟨by repeat (first | (with_reducible first | exact HB.out | apply zi | apply zl | apply zx | refine zm ?_ GE361.out | refine zm ?_ GE362.out | refine zm ?_ GE363.out) | exact HB.out)⟩⟩
  ·replace c18 := Bool.eq_false_iff.mpr c18
   subst c18
   have H1 : (zg.j0 k a0_3 a0_4 a0_5 false true a0_0 a0_1 l0_2 a0_6 a0_7 l0_8) = some r := by rw [if_neg (show ¬ (false = true) by decide)] at H;exact H
   clear H
   have H := H1
   clear H1
   have H' := za.mk H
   clear H
   go_wp2
   go_meet
   case rel => exact ⟨_,(true),(hDq),H',⟨by first | omega | exact Nat.le_refl _⟩,⟨hGq BK361.out⟩,⟨hGq BK362.out⟩,⟨hGq BK363.out⟩,⟨by repeat (first | (with_reducible first | exact HB.out | apply zi | apply zl | apply zx | refine zm ?_ GE361.out | refine zm ?_ GE362.out | refine zm ?_ GE363.out) | exact HB.out)⟩⟩
 case rest =>
  clear HC4
  try clear c1;try clear p2;try clear c4;try clear c5;try clear c6;try clear c8;try clear c12;try clear c13;try clear c18;try clear hcz10_0;try clear hcz10_1;try clear hcz10_2;try clear hcz10_3;try clear hcz10_4;try clear hcz10_5;try clear hcz10_6;try clear hcz10_7;try clear hcz10_8;try clear hcz14_0;try clear hcz14_1;try clear hcz14_2;try clear hcz16_0;try clear hcz16_1;try clear hcz16_2;try clear hcz6_0;try clear hcz6_1;try clear hcz6_2;try clear hcz6_3;try clear hcz6_4;try clear hcz6_5;try clear hcz6_6;try clear hcz6_7;try clear hcz6_8;try clear hcz9_0;try clear hcz9_1;try clear hcz9_2;try clear hfz10_0;try clear hfz10_1;try clear hfz10_2;try clear hfz10_3;try clear hfz10_4;try clear hfz10_5;try clear hfz10_6;try clear hfz10_7;try clear hfz10_8;try clear hfz14_0;try clear hfz14_1;try clear hfz14_2;try clear hfz16_0;try clear hfz16_1;try clear hfz16_2;try clear hfz6_0;try clear hfz6_1;try clear hfz6_2;try clear hfz6_3;try clear hfz6_4;try clear hfz6_5;try clear hfz6_6;try clear hfz6_7;try clear hfz6_8;try clear hfz9_0;try clear hfz9_1;try clear hfz9_2
  obtain ⟨kq,x31_3,rfl,HA,HJ3,BK361,BK362,BK363,HB⟩ := hcut
  cases kq with
  | zero => exact absurd HA.out (by simp [zg.j0])
  | succ kj3 =>
   have H := HA.out
   clear HA
   simp only [zg.j0] at H
   by_cases c19 : x31_3 = true
   ·subst c19
    have H1 : (some t364) = some r := by rw [if_pos rfl] at H;exact H
    clear H
    have H := H1
    clear H1
    obtain rfl := Option.some.inj H
    go_wp2
    go_ret
    exact ⟨hHq,hCq⟩
   ·replace c19 := Bool.eq_false_iff.mpr c19
    subst c19
    have H1 : (zg.l0 kj3 a0_3 a0_4 a0_5 t364 0 a0_0 a0_1 l0_2 a0_6 a0_7 l0_8) = some r := by rw [if_neg (show ¬ (false = true) by decide)] at H;exact H
    clear H
    have H := H1
    clear H1
    have H' := za.mk H
    clear H
    go_wp2
    go_loopg [10] kj3 (fun kq v10 w' => ∃ (x10_2 : Int),v10 = .int .i64 x10_2 ∧ za (zg.l0 kq a0_3 a0_4 a0_5 t364 x10_2 a0_0 a0_1 l0_2 a0_6 a0_7 l0_8 = some r) ∧ za (kq ≤ kj3) ∧ za (w'.heap[gb361]? = some (.cells #[.int .i64 a0_0,.int .i64 a0_1,(.slice A0_2 l0_2.length c0_2),.string a0_3,.string a0_4,.int .i64 a0_5,.int .i64 a0_6,.int .i64 a0_7,(.slice A0_8 l0_8.length c0_8)] 42 (0,0))) ∧ za (w'.heap[gb362]? = some (.cells #[.int .i64 a0_0,.int .i64 a0_1,(.slice A0_2 l0_2.length c0_2)] 24 (0,0))) ∧ za (w'.heap[gb363]? = some (.cells #[.int .i64 a0_6,.int .i64 a0_7,(.slice A0_8 l0_8.length c0_8)] 24 (0,0))) ∧ za (Below w.heap.size w w'))
    case atStart => exact ⟨(0),(hDq),H',⟨Nat.le_refl _⟩,⟨hGq BK361.out⟩,⟨hGq BK362.out⟩,⟨hGq BK363.out⟩,⟨by repeat (first | (with_reducible first | exact HB.out | apply zi | apply zl | apply zx | refine zm ?_ GE361.out | refine zm ?_ GE362.out | refine zm ?_ GE363.out) | exact HB.out)⟩⟩
    case round =>
     clear H'
     try clear c1;try clear p2;try clear c4;try clear c5;try clear c6;try clear c8;try clear c12;try clear c13;try clear c18;try clear c19;try clear hcz10_0;try clear hcz10_1;try clear hcz10_2;try clear hcz10_3;try clear hcz10_4;try clear hcz10_5;try clear hcz10_6;try clear hcz10_7;try clear hcz10_8;try clear hcz14_0;try clear hcz14_1;try clear hcz14_2;try clear hcz16_0;try clear hcz16_1;try clear hcz16_2;try clear hcz6_0;try clear hcz6_1;try clear hcz6_2;try clear hcz6_3;try clear hcz6_4;try clear hcz6_5;try clear hcz6_6;try clear hcz6_7;try clear hcz6_8;try clear hcz9_0;try clear hcz9_1;try clear hcz9_2;try clear hfz10_0;try clear hfz10_1;try clear hfz10_2;try clear hfz10_3;try clear hfz10_4;try clear hfz10_5;try clear hfz10_6;try clear hfz10_7;try clear hfz10_8;try clear hfz14_0;try clear hfz14_1;try clear hfz14_2;try clear hfz16_0;try clear hfz16_1;try clear hfz16_2;try clear hfz6_0;try clear hfz6_1;try clear hfz6_2;try clear hfz6_3;try clear hfz6_4;try clear hfz6_5;try clear hfz6_6;try clear hfz6_7;try clear hfz6_8;try clear hfz9_0;try clear hfz9_1;try clear hfz9_2;try clear p2
     obtain ⟨x10_2,rfl,HA,HK2,BK361,BK362,BK363,HB⟩ := hrel
     cases gk with
     | zero => exact absurd HA.out (by simp [zg.l0])
     | succ k2 =>
      have H := HA.out
      clear HA
      simp only [zg.l0] at H
      by_cases c20 : x10_2 < (l0_2.length : Int)
      ·rw [if_pos c20] at H
       have c20b0 : decide (x10_2 < (l0_2.length : Int)) = true := decide_eq_true c20
       clear c20
       have H' := za.mk H
       clear H
       have hnb21 := NB362_361.out
       have hnc21 := NB361_362.out
       have hnb22 := NB362_363.out
       have hnc22 := NB363_362.out
       obtain ⟨hcz23_0,hcz23_1,hcz23_2,hfz23_0,hfz23_1,hfz23_2⟩ := hcq3 BK362.out
       go_wp2
       go_loopg [11] k2 (fun kq v11 w' => ∃ (x11_3 : Int),v11 = .int .i64 x11_3 ∧ za (zg.l1 kq a0_3 a0_4 a0_5 t364 x10_2 x11_3 a0_0 a0_1 l0_2 a0_6 a0_7 l0_8 = some r) ∧ za (kq ≤ k2) ∧ za (w'.heap[gb361]? = some (.cells #[.int .i64 a0_0,.int .i64 a0_1,(.slice A0_2 l0_2.length c0_2),.string a0_3,.string a0_4,.int .i64 a0_5,.int .i64 a0_6,.int .i64 a0_7,(.slice A0_8 l0_8.length c0_8)] 42 (0,0))) ∧ za (w'.heap[gb362]? = some (.cells #[.int .i64 a0_0,.int .i64 a0_1,(.slice A0_2 l0_2.length c0_2)] 24 (0,0))) ∧ za (w'.heap[gb363]? = some (.cells #[.int .i64 a0_6,.int .i64 a0_7,(.slice A0_8 l0_8.length c0_8)] 24 (0,0))) ∧ za (Below w.heap.size w w'))
       case atStart => exact ⟨(0),(hDq),H',⟨Nat.le_refl _⟩,⟨hGq BK361.out⟩,⟨hGq BK362.out⟩,⟨hGq BK363.out⟩,⟨by repeat (first | (with_reducible first | exact HB.out | apply zi | apply zl | apply zx | refine zm ?_ GE361.out | refine zm ?_ GE362.out | refine zm ?_ GE363.out) | exact HB.out)⟩⟩
       case round =>
        clear H'
        try clear c1;try clear c2;try clear p2;try clear c4;try clear c5;try clear c6;try clear c8;try clear c12;try clear c13;try clear c18;try clear c19;try clear c20;try clear c20b0;try clear c21;try clear c22;try clear hcz10_0;try clear hcz10_1;try clear hcz10_2;try clear hcz10_3;try clear hcz10_4;try clear hcz10_5;try clear hcz10_6;try clear hcz10_7;try clear hcz10_8;try clear hcz14_0;try clear hcz14_1;try clear hcz14_2;try clear hcz16_0;try clear hcz16_1;try clear hcz16_2;try clear hcz23_0;try clear hcz23_1;try clear hcz23_2;try clear hcz6_0;try clear hcz6_1;try clear hcz6_2;try clear hcz6_3;try clear hcz6_4;try clear hcz6_5;try clear hcz6_6;try clear hcz6_7;try clear hcz6_8;try clear hcz9_0;try clear hcz9_1;try clear hcz9_2;try clear hfz10_0;try clear hfz10_1;try clear hfz10_2;try clear hfz10_3;try clear hfz10_4;try clear hfz10_5;try clear hfz10_6;try clear hfz10_7;try clear hfz10_8;try clear hfz14_0;try clear hfz14_1;try clear hfz14_2;try clear hfz16_0;try clear hfz16_1;try clear hfz16_2;try clear hfz23_0;try clear hfz23_1;try clear hfz23_2;try clear hfz6_0;try clear hfz6_1;try clear hfz6_2;try clear hfz6_3;try clear hfz6_4;try clear hfz6_5;try clear hfz6_6;try clear hfz6_7;try clear hfz6_8;try clear hfz9_0;try clear hfz9_1;try clear hfz9_2;try clear p2
        obtain ⟨x11_3,rfl,HA,HK3,BK361,BK362,BK363,HB⟩ := hrel
        cases gk with
        | zero => exact absurd HA.out (by simp [zg.l1])
        | succ k3 =>
         have H := HA.out
         clear HA
         simp only [zg.l1] at H
         by_cases c24 : x11_3 < x10_2
         ·rw [if_pos c24] at H
          have c24b0 : decide (x11_3 < x10_2) = true := decide_eq_true c24
          clear c24
          by_cases c25 : 0 ≤ x10_2
          ·rw [if_pos c25] at H
           have c25b0 : decide (0 ≤ x10_2) = true := decide_eq_true c25
           clear c25
           by_cases c26 : x10_2 < (l0_2.length : Int)
           ·rw [if_pos c26] at H
            have c26b0 : decide (x10_2 < (l0_2.length : Int)) = true := decide_eq_true c26
            clear c26
            by_cases c27 : 0 ≤ x11_3
            ·rw [if_pos c27] at H
             have c27b0 : decide (0 ≤ x11_3) = true := decide_eq_true c27
             clear c27
             by_cases c28 : x11_3 < (l0_2.length : Int)
             ·rw [if_pos c28] at H
              have c28b0 : decide (x11_3 < (l0_2.length : Int)) = true := decide_eq_true c28
              clear c28
              by_cases c29 : ((zd l0_2 x10_2).f0).toList = ((zd l0_2 x11_3).f0).toList
              ·rw [if_pos c29] at H
               have c29b0 : (((zd l0_2 x10_2).f0).toList == ((zd l0_2 x11_3).f0).toList) = true := beq_iff_eq.mpr c29
               have c29b1 : (((zd l0_2 x10_2).f0).toList != ((zd l0_2 x11_3).f0).toList) = false := bne_eq_false_iff_eq.mpr c29
               clear c29
               obtain rfl := Option.some.inj H
               try go_wp2
               have n0_ := za.mk (zG BK361.out)
               have n1_ := za.mk (zG BK362.out)
               have n2_ := za.mk (zG BK363.out)
               have n3_ := za.mk (zx HB.out)
               clear BK361
               clear BK362
               clear BK363
               clear HB
               have BK361 := n0_
               have BK362 := n1_
               have BK363 := n2_
               have HB := n3_
               clear n0_ n1_ n2_ n3_
               have p366 : 0 ≤ (x10_2 : Int) := hFq
               have q366 : x10_2 < (l0_2.length : Int) := hFq
               obtain ⟨ad366,A366_3,c366_3,A366_4,c366_4,e366,hx366_0,hx366_1,hx366_2,hx366_3,hx366_4,hx366_5,hx366_6,hl366_3,hi366_3,hl366_4,hi366_4⟩ := zai HR0_2.out x10_2 p366 q366
               have hw366_6 := hx366_6
               have hw366_5 := hx366_5
               have hw366_4 := hx366_4
               have hw366_3 := hx366_3
               have hw366_2 := hx366_2
               have hw366_1 := hx366_1
               have hw366_0 := hx366_0
               cases e366
               replace hx366_0 := (HB.out.cell (World.block_lt_of_cell? w _ hx366_0)).trans hx366_0
               replace hx366_1 := (HB.out.cell (World.block_lt_of_cell? w _ hx366_1)).trans hx366_1
               replace hx366_2 := (HB.out.cell (World.block_lt_of_cell? w _ hx366_2)).trans hx366_2
               replace hx366_3 := (HB.out.cell (World.block_lt_of_cell? w _ hx366_3)).trans hx366_3
               replace hx366_4 := (HB.out.cell (World.block_lt_of_cell? w _ hx366_4)).trans hx366_4
               replace hx366_5 := (HB.out.cell (World.block_lt_of_cell? w _ hx366_5)).trans hx366_5
               replace hx366_6 := (HB.out.cell (World.block_lt_of_cell? w _ hx366_6)).trans hx366_6
               have HR366_3 := za.mk hi366_3
               have HC366_3 := za.mk hl366_3
               clear hi366_3 hl366_3
               have HR366_4 := za.mk hi366_4
               have HC366_4 := za.mk hl366_4
               clear hi366_4 hl366_4
               replace p366 := eq_true p366
               replace q366 := eq_true q366
               have p367 : 0 ≤ (x11_3 : Int) := hFq
               have q367 : x11_3 < (l0_2.length : Int) := hFq
               obtain ⟨ad367,A367_3,c367_3,A367_4,c367_4,e367,hx367_0,hx367_1,hx367_2,hx367_3,hx367_4,hx367_5,hx367_6,hl367_3,hi367_3,hl367_4,hi367_4⟩ := zai HR0_2.out x11_3 p367 q367
               have hw367_6 := hx367_6
               have hw367_5 := hx367_5
               have hw367_4 := hx367_4
               have hw367_3 := hx367_3
               have hw367_2 := hx367_2
               have hw367_1 := hx367_1
               have hw367_0 := hx367_0
               obtain rfl : ad366 = ad367 := (by injection e367)
               replace hx367_0 := (HB.out.cell (World.block_lt_of_cell? w _ hx367_0)).trans hx367_0
               replace hx367_1 := (HB.out.cell (World.block_lt_of_cell? w _ hx367_1)).trans hx367_1
               replace hx367_2 := (HB.out.cell (World.block_lt_of_cell? w _ hx367_2)).trans hx367_2
               replace hx367_3 := (HB.out.cell (World.block_lt_of_cell? w _ hx367_3)).trans hx367_3
               replace hx367_4 := (HB.out.cell (World.block_lt_of_cell? w _ hx367_4)).trans hx367_4
               replace hx367_5 := (HB.out.cell (World.block_lt_of_cell? w _ hx367_5)).trans hx367_5
               replace hx367_6 := (HB.out.cell (World.block_lt_of_cell? w _ hx367_6)).trans hx367_6
               have HR367_3 := za.mk hi367_3
               have HC367_3 := za.mk hl367_3
               clear hi367_3 hl367_3
               have HR367_4 := za.mk hi367_4
               have HC367_4 := za.mk hl367_4
               clear hi367_4 hl367_4
               replace p367 := eq_true p367
               replace q367 := eq_true q367
               refine zbk (n := 13) (S := fun w' => w'.cell? ⟨gb362,0,none⟩ = some (.int .i64 a0_0) ∧ w'.cell? ⟨gb362,1,none⟩ = some (.int .i64 a0_1) ∧ w'.cell? ⟨gb362,2,none⟩ = some (.slice (some ad366) l0_2.length c0_2) ∧ w'.cell? (ad366.add ((x10_2).toNat * 7)) = some (.string ((zd l0_2 x10_2).f0)) ∧ w'.cell? ⟨(ad366.add ((x10_2).toNat * 7)).block,(ad366.add ((x10_2).toNat * 7)).off + 1,none⟩ = some (.int .i64 ((zd l0_2 x10_2).f1.f0)) ∧ w'.cell? ⟨(ad366.add ((x10_2).toNat * 7)).block,(ad366.add ((x10_2).toNat * 7)).off + 2,none⟩ = some (.int .i64 ((zd l0_2 x10_2).f1.f1)) ∧ w'.cell? ⟨(ad366.add ((x10_2).toNat * 7)).block,(ad366.add ((x10_2).toNat * 7)).off + 3,none⟩ = some (.slice A366_3 ((zd l0_2 x10_2).f1.f2).length c366_3) ∧ w'.cell? ⟨(ad366.add ((x10_2).toNat * 7)).block,(ad366.add ((x10_2).toNat * 7)).off + 4,none⟩ = some (.slice A366_4 ((zd l0_2 x10_2).f1.f3).length c366_4) ∧ w'.cell? ⟨(ad366.add ((x10_2).toNat * 7)).block,(ad366.add ((x10_2).toNat * 7)).off + 5,none⟩ = some (.int .i64 ((zd l0_2 x10_2).f1.f4.f0)) ∧ w'.cell? ⟨(ad366.add ((x10_2).toNat * 7)).block,(ad366.add ((x10_2).toNat * 7)).off + 6,none⟩ = some (.int .i64 ((zd l0_2 x10_2).f1.f4.f1)) ∧ w'.cell? (ad366.add ((x11_3).toNat * 7)) = some (.string ((zd l0_2 x11_3).f0)) ∧ w'.cell? ⟨(ad366.add ((x11_3).toNat * 7)).block,(ad366.add ((x11_3).toNat * 7)).off + 1,none⟩ = some (.int .i64 ((zd l0_2 x11_3).f1.f0)) ∧ w'.cell? ⟨(ad366.add ((x11_3).toNat * 7)).block,(ad366.add ((x11_3).toNat * 7)).off + 2,none⟩ = some (.int .i64 ((zd l0_2 x11_3).f1.f1)) ∧ w'.cell? ⟨(ad366.add ((x11_3).toNat * 7)).block,(ad366.add ((x11_3).toNat * 7)).off + 3,none⟩ = some (.slice A367_3 ((zd l0_2 x11_3).f1.f2).length c367_3) ∧ w'.cell? ⟨(ad366.add ((x11_3).toNat * 7)).block,(ad366.add ((x11_3).toNat * 7)).off + 4,none⟩ = some (.slice A367_4 ((zd l0_2 x11_3).f1.f3).length c367_4) ∧ w'.cell? ⟨(ad366.add ((x11_3).toNat * 7)).block,(ad366.add ((x11_3).toNat * 7)).off + 5,none⟩ = some (.int .i64 ((zd l0_2 x11_3).f1.f4.f0)) ∧ w'.cell? ⟨(ad366.add ((x11_3).toNat * 7)).block,(ad366.add ((x11_3).toNat * 7)).off + 6,none⟩ = some (.int .i64 ((zd l0_2 x11_3).f1.f4.f1))) (ds := []) (uQ 13 0) (by kernel_rfl) rfl rfl ⟨(zb BK362.out 0).trans rfl,(zb BK362.out 1).trans rfl,(zb BK362.out 2).trans rfl,((HB.out.cell (World.block_lt_of_cell? w _ hw366_0)).trans hw366_0),((HB.out.cell (World.block_lt_of_cell? w _ hw366_1)).trans hw366_1),((HB.out.cell (World.block_lt_of_cell? w _ hw366_2)).trans hw366_2),((HB.out.cell (World.block_lt_of_cell? w _ hw366_3)).trans hw366_3),((HB.out.cell (World.block_lt_of_cell? w _ hw366_4)).trans hw366_4),((HB.out.cell (World.block_lt_of_cell? w _ hw366_5)).trans hw366_5),((HB.out.cell (World.block_lt_of_cell? w _ hw366_6)).trans hw366_6),((HB.out.cell (World.block_lt_of_cell? w _ hw367_0)).trans hw367_0),((HB.out.cell (World.block_lt_of_cell? w _ hw367_1)).trans hw367_1),((HB.out.cell (World.block_lt_of_cell? w _ hw367_2)).trans hw367_2),((HB.out.cell (World.block_lt_of_cell? w _ hw367_3)).trans hw367_3),((HB.out.cell (World.block_lt_of_cell? w _ hw367_4)).trans hw367_4),((HB.out.cell (World.block_lt_of_cell? w _ hw367_5)).trans hw367_5),((HB.out.cell (World.block_lt_of_cell? w _ hw367_6)).trans hw367_6)⟩ (fun hHeld => ?_);refine zaz zg.tab16 zg.bits16 (fun HT_ HW_ => ?_)
               generalize wr.drew = w30 at BK361 BK362 BK363 HB HR366_3 HR366_4 HR367_3 HR367_4 hx366_0 hx366_1 hx366_2 hx366_3 hx366_4 hx366_5 hx366_6 hx367_0 hx367_1 hx367_2 hx367_3 hx367_4 hx367_5 hx367_6 hHeld ⊢
               refine puq (i := 0) (N := some 45) HT_.out (uQ 13 1) ?_
               refine puq (i := 2) (N := some 47) HT_.out #[true,false,true,false,false,false,false,false,false,false,false,false,false] ?_
               refine puq (i := 6) (N := some 51) HT_.out #[true,false,true,false,false,false,true,false,false,false,false,false,false] ?_
               refine puq (i := 8) (N := some 53) HT_.out #[true,false,true,false,false,false,true,false,true,false,false,false,false] ?_
               refine take_ (i := 1) (N := some 46) #[true,true,true,false,false,false,true,false,true,false,false,false,false] rfl rfl (zI HT_.out HW_.out (by kernel_rfl)) (fun _ _ _ h => h) (Or.inl ⟨by rfl,by rintro w' ⟨s0,s1,s2,s3,s4,s5,s6,s7,s8,s9,s10,s11,s12,s13,s14,s15,s16⟩;go_simp;with_reducible rfl⟩) hHeld hPq ?_
               refine puq (i := 3) (N := some 48) HT_.out #[true,true,true,true,false,false,true,false,true,false,false,false,false] ?_
               refine puq (i := 4) (N := some 49) HT_.out #[true,true,true,true,true,false,true,false,true,false,false,false,false] ?_
               refine take_ (i := 5) (N := some 50) #[true,true,true,true,true,true,true,false,true,false,false,false,false] rfl rfl (zI HT_.out HW_.out (by kernel_rfl)) (fun _ _ _ h => h) (Or.inl ⟨by rfl,by rintro w' ⟨s0,s1,s2,s3,s4,s5,s6,s7,s8,s9,s10,s11,s12,s13,s14,s15,s16⟩;go_simp;with_reducible rfl⟩) hHeld hPq ?_
               refine take_ (i := 7) (N := some 52) (uQ 13 9) rfl rfl (zI HT_.out HW_.out (by kernel_rfl)) (fun _ _ _ h => h) (Or.inl ⟨by rfl,by rintro w' ⟨s0,s1,s2,s3,s4,s5,s6,s7,s8,s9,s10,s11,s12,s13,s14,s15,s16⟩;go_simp;with_reducible rfl⟩) hHeld hPq ?_
               refine puq (i := 9) (N := some 54) HT_.out (uQ 13 10) ?_
               refine puq (i := 10) (N := some 55) HT_.out (uQ 13 11) ?_
               refine take_ (i := 11) (N := some 56) (uQ 13 12) rfl rfl (zI HT_.out HW_.out (by kernel_rfl)) (fun _ _ _ h => h) (Or.inl ⟨by rfl,by rintro w' ⟨s0,s1,s2,s3,s4,s5,s6,s7,s8,s9,s10,s11,s12,s13,s14,s15,s16⟩;go_simp;with_reducible rfl⟩) hHeld hPq ?_
               refine puq (i := 12) (N := some 57) HT_.out (uQ 13 13) ?_
               refine zbl (zaF HT_.out (by kernel_rfl)) ?_
               try go_wp2
               go_ret
               exact ⟨hHq,hCq⟩
              ·rw [if_neg c29] at H
               have c29b0 : (((zd l0_2 x10_2).f0).toList == ((zd l0_2 x11_3).f0).toList) = false := beq_eq_false_iff_ne.mpr c29
               have c29b1 : (((zd l0_2 x10_2).f0).toList != ((zd l0_2 x11_3).f0).toList) = true := bne_iff_ne.mpr c29
               have H' := za.mk H
               clear H
               try go_wp2
               have n0_ := za.mk (zG BK361.out)
               have n1_ := za.mk (zG BK362.out)
               have n2_ := za.mk (zG BK363.out)
               have n3_ := za.mk (zx HB.out)
               clear BK361
               clear BK362
               clear BK363
               clear HB
               have BK361 := n0_
               have BK362 := n1_
               have BK363 := n2_
               have HB := n3_
               clear n0_ n1_ n2_ n3_
               have p366 : 0 ≤ (x10_2 : Int) := hFq
               have q366 : x10_2 < (l0_2.length : Int) := hFq
               obtain ⟨ad366,A366_3,c366_3,A366_4,c366_4,e366,hx366_0,hx366_1,hx366_2,hx366_3,hx366_4,hx366_5,hx366_6,hl366_3,hi366_3,hl366_4,hi366_4⟩ := zai HR0_2.out x10_2 p366 q366
               have hw366_6 := hx366_6
               have hw366_5 := hx366_5
               have hw366_4 := hx366_4
               have hw366_3 := hx366_3
               have hw366_2 := hx366_2
               have hw366_1 := hx366_1
               have hw366_0 := hx366_0
               cases e366
               replace hx366_0 := (HB.out.cell (World.block_lt_of_cell? w _ hx366_0)).trans hx366_0
               replace hx366_1 := (HB.out.cell (World.block_lt_of_cell? w _ hx366_1)).trans hx366_1
               replace hx366_2 := (HB.out.cell (World.block_lt_of_cell? w _ hx366_2)).trans hx366_2
               replace hx366_3 := (HB.out.cell (World.block_lt_of_cell? w _ hx366_3)).trans hx366_3
               replace hx366_4 := (HB.out.cell (World.block_lt_of_cell? w _ hx366_4)).trans hx366_4
               replace hx366_5 := (HB.out.cell (World.block_lt_of_cell? w _ hx366_5)).trans hx366_5
               replace hx366_6 := (HB.out.cell (World.block_lt_of_cell? w _ hx366_6)).trans hx366_6
               have HR366_3 := za.mk hi366_3
               have HC366_3 := za.mk hl366_3
               clear hi366_3 hl366_3
               have HR366_4 := za.mk hi366_4
               have HC366_4 := za.mk hl366_4
               clear hi366_4 hl366_4
               replace p366 := eq_true p366
               replace q366 := eq_true q366
               have p367 : 0 ≤ (x11_3 : Int) := hFq
               have q367 : x11_3 < (l0_2.length : Int) := hFq
               obtain ⟨ad367,A367_3,c367_3,A367_4,c367_4,e367,hx367_0,hx367_1,hx367_2,hx367_3,hx367_4,hx367_5,hx367_6,hl367_3,hi367_3,hl367_4,hi367_4⟩ := zai HR0_2.out x11_3 p367 q367
               have hw367_6 := hx367_6
               have hw367_5 := hx367_5
               have hw367_4 := hx367_4
               have hw367_3 := hx367_3
               have hw367_2 := hx367_2
               have hw367_1 := hx367_1
               have hw367_0 := hx367_0
               obtain rfl : ad366 = ad367 := (by injection e367)
               replace hx367_0 := (HB.out.cell (World.block_lt_of_cell? w _ hx367_0)).trans hx367_0
               replace hx367_1 := (HB.out.cell (World.block_lt_of_cell? w _ hx367_1)).trans hx367_1
               replace hx367_2 := (HB.out.cell (World.block_lt_of_cell? w _ hx367_2)).trans hx367_2
               replace hx367_3 := (HB.out.cell (World.block_lt_of_cell? w _ hx367_3)).trans hx367_3
               replace hx367_4 := (HB.out.cell (World.block_lt_of_cell? w _ hx367_4)).trans hx367_4
               replace hx367_5 := (HB.out.cell (World.block_lt_of_cell? w _ hx367_5)).trans hx367_5
               replace hx367_6 := (HB.out.cell (World.block_lt_of_cell? w _ hx367_6)).trans hx367_6
               have HR367_3 := za.mk hi367_3
               have HC367_3 := za.mk hl367_3
               clear hi367_3 hl367_3
               have HR367_4 := za.mk hi367_4
               have HC367_4 := za.mk hl367_4
               clear hi367_4 hl367_4
               replace p367 := eq_true p367
               replace q367 := eq_true q367
               refine zbk (n := 13) (S := fun w' => w'.cell? ⟨gb362,0,none⟩ = some (.int .i64 a0_0) ∧ w'.cell? ⟨gb362,1,none⟩ = some (.int .i64 a0_1) ∧ w'.cell? ⟨gb362,2,none⟩ = some (.slice (some ad366) l0_2.length c0_2) ∧ w'.cell? (ad366.add ((x10_2).toNat * 7)) = some (.string ((zd l0_2 x10_2).f0)) ∧ w'.cell? ⟨(ad366.add ((x10_2).toNat * 7)).block,(ad366.add ((x10_2).toNat * 7)).off + 1,none⟩ = some (.int .i64 ((zd l0_2 x10_2).f1.f0)) ∧ w'.cell? ⟨(ad366.add ((x10_2).toNat * 7)).block,(ad366.add ((x10_2).toNat * 7)).off + 2,none⟩ = some (.int .i64 ((zd l0_2 x10_2).f1.f1)) ∧ w'.cell? ⟨(ad366.add ((x10_2).toNat * 7)).block,(ad366.add ((x10_2).toNat * 7)).off + 3,none⟩ = some (.slice A366_3 ((zd l0_2 x10_2).f1.f2).length c366_3) ∧ w'.cell? ⟨(ad366.add ((x10_2).toNat * 7)).block,(ad366.add ((x10_2).toNat * 7)).off + 4,none⟩ = some (.slice A366_4 ((zd l0_2 x10_2).f1.f3).length c366_4) ∧ w'.cell? ⟨(ad366.add ((x10_2).toNat * 7)).block,(ad366.add ((x10_2).toNat * 7)).off + 5,none⟩ = some (.int .i64 ((zd l0_2 x10_2).f1.f4.f0)) ∧ w'.cell? ⟨(ad366.add ((x10_2).toNat * 7)).block,(ad366.add ((x10_2).toNat * 7)).off + 6,none⟩ = some (.int .i64 ((zd l0_2 x10_2).f1.f4.f1)) ∧ w'.cell? (ad366.add ((x11_3).toNat * 7)) = some (.string ((zd l0_2 x11_3).f0)) ∧ w'.cell? ⟨(ad366.add ((x11_3).toNat * 7)).block,(ad366.add ((x11_3).toNat * 7)).off + 1,none⟩ = some (.int .i64 ((zd l0_2 x11_3).f1.f0)) ∧ w'.cell? ⟨(ad366.add ((x11_3).toNat * 7)).block,(ad366.add ((x11_3).toNat * 7)).off + 2,none⟩ = some (.int .i64 ((zd l0_2 x11_3).f1.f1)) ∧ w'.cell? ⟨(ad366.add ((x11_3).toNat * 7)).block,(ad366.add ((x11_3).toNat * 7)).off + 3,none⟩ = some (.slice A367_3 ((zd l0_2 x11_3).f1.f2).length c367_3) ∧ w'.cell? ⟨(ad366.add ((x11_3).toNat * 7)).block,(ad366.add ((x11_3).toNat * 7)).off + 4,none⟩ = some (.slice A367_4 ((zd l0_2 x11_3).f1.f3).length c367_4) ∧ w'.cell? ⟨(ad366.add ((x11_3).toNat * 7)).block,(ad366.add ((x11_3).toNat * 7)).off + 5,none⟩ = some (.int .i64 ((zd l0_2 x11_3).f1.f4.f0)) ∧ w'.cell? ⟨(ad366.add ((x11_3).toNat * 7)).block,(ad366.add ((x11_3).toNat * 7)).off + 6,none⟩ = some (.int .i64 ((zd l0_2 x11_3).f1.f4.f1))) (ds := []) (uQ 13 0) (by kernel_rfl) rfl rfl ⟨(zb BK362.out 0).trans rfl,(zb BK362.out 1).trans rfl,(zb BK362.out 2).trans rfl,((HB.out.cell (World.block_lt_of_cell? w _ hw366_0)).trans hw366_0),((HB.out.cell (World.block_lt_of_cell? w _ hw366_1)).trans hw366_1),((HB.out.cell (World.block_lt_of_cell? w _ hw366_2)).trans hw366_2),((HB.out.cell (World.block_lt_of_cell? w _ hw366_3)).trans hw366_3),((HB.out.cell (World.block_lt_of_cell? w _ hw366_4)).trans hw366_4),((HB.out.cell (World.block_lt_of_cell? w _ hw366_5)).trans hw366_5),((HB.out.cell (World.block_lt_of_cell? w _ hw366_6)).trans hw366_6),((HB.out.cell (World.block_lt_of_cell? w _ hw367_0)).trans hw367_0),((HB.out.cell (World.block_lt_of_cell? w _ hw367_1)).trans hw367_1),((HB.out.cell (World.block_lt_of_cell? w _ hw367_2)).trans hw367_2),((HB.out.cell (World.block_lt_of_cell? w _ hw367_3)).trans hw367_3),((HB.out.cell (World.block_lt_of_cell? w _ hw367_4)).trans hw367_4),((HB.out.cell (World.block_lt_of_cell? w _ hw367_5)).trans hw367_5),((HB.out.cell (World.block_lt_of_cell? w _ hw367_6)).trans hw367_6)⟩ (fun hHeld => ?_);refine zaz zg.tab16 zg.bits16 (fun HT_ HW_ => ?_)
               generalize wr.drew = w31 at BK361 BK362 BK363 HB HR366_3 HR366_4 HR367_3 HR367_4 hx366_0 hx366_1 hx366_2 hx366_3 hx366_4 hx366_5 hx366_6 hx367_0 hx367_1 hx367_2 hx367_3 hx367_4 hx367_5 hx367_6 hHeld ⊢
               refine puq (i := 0) (N := some 45) HT_.out (uQ 13 1) ?_
               refine puq (i := 2) (N := some 47) HT_.out #[true,false,true,false,false,false,false,false,false,false,false,false,false] ?_
               refine puq (i := 6) (N := some 51) HT_.out #[true,false,true,false,false,false,true,false,false,false,false,false,false] ?_
               refine puq (i := 8) (N := some 53) HT_.out #[true,false,true,false,false,false,true,false,true,false,false,false,false] ?_
               refine take_ (i := 1) (N := some 46) #[true,true,true,false,false,false,true,false,true,false,false,false,false] rfl rfl (zI HT_.out HW_.out (by kernel_rfl)) (fun _ _ _ h => h) (Or.inl ⟨by rfl,by rintro w' ⟨s0,s1,s2,s3,s4,s5,s6,s7,s8,s9,s10,s11,s12,s13,s14,s15,s16⟩;go_simp;with_reducible rfl⟩) hHeld hPq ?_
               refine puq (i := 3) (N := some 48) HT_.out #[true,true,true,true,false,false,true,false,true,false,false,false,false] ?_
               refine puq (i := 4) (N := some 49) HT_.out #[true,true,true,true,true,false,true,false,true,false,false,false,false] ?_
               refine take_ (i := 5) (N := some 50) #[true,true,true,true,true,true,true,false,true,false,false,false,false] rfl rfl (zI HT_.out HW_.out (by kernel_rfl)) (fun _ _ _ h => h) (Or.inl ⟨by rfl,by rintro w' ⟨s0,s1,s2,s3,s4,s5,s6,s7,s8,s9,s10,s11,s12,s13,s14,s15,s16⟩;go_simp;with_reducible rfl⟩) hHeld hPq ?_
               refine take_ (i := 7) (N := some 52) (uQ 13 9) rfl rfl (zI HT_.out HW_.out (by kernel_rfl)) (fun _ _ _ h => h) (Or.inl ⟨by rfl,by rintro w' ⟨s0,s1,s2,s3,s4,s5,s6,s7,s8,s9,s10,s11,s12,s13,s14,s15,s16⟩;go_simp;with_reducible rfl⟩) hHeld hPq ?_
               refine puq (i := 9) (N := some 54) HT_.out (uQ 13 10) ?_
               refine puq (i := 10) (N := some 55) HT_.out (uQ 13 11) ?_
               refine take_ (i := 11) (N := some 56) (uQ 13 12) rfl rfl (zI HT_.out HW_.out (by kernel_rfl)) (fun _ _ _ h => h) (Or.inl ⟨by rfl,by rintro w' ⟨s0,s1,s2,s3,s4,s5,s6,s7,s8,s9,s10,s11,s12,s13,s14,s15,s16⟩;go_simp;with_reducible rfl⟩) hHeld hPq ?_
               refine puq (i := 12) (N := some 57) HT_.out (uQ 13 13) ?_
               refine zbl (zaF HT_.out (by kernel_rfl)) ?_
               try go_wp2
               go_roundg k3
               case measure => have := HJ3.out;have := HK2.out;have := HK3.out;omega
               case rel => exact ⟨(wrap64 (x11_3 + 1)),(hDq),H',⟨by have := HJ3.out;have := HK2.out;have := HK3.out;omega⟩,⟨hGq BK361.out⟩,⟨hGq BK362.out⟩,⟨hGq BK363.out⟩,⟨by repeat (first | (with_reducible first | exact HB.out | apply zi | apply zl | apply zx | refine zm ?_ GE361.out | refine zm ?_ GE362.out | refine zm ?_ GE363.out) | exact HB.out)⟩⟩
             ·rw [if_neg c28] at H
              exact absurd H (by simp)
            ·rw [if_neg c27] at H
             exact absurd H (by simp)
           ·rw [if_neg c26] at H
            exact absurd H (by simp)
          ·rw [if_neg c25] at H
           exact absurd H (by simp)
         ·rw [if_neg c24] at H
          have c24b0 : decide (x11_3 < x10_2) = false := decide_eq_false c24
          clear c24
          have H' := za.mk H
          clear H
          go_wp2
          go_roundg k3
          case measure => have := HJ3.out;have := HK2.out;have := HK3.out;omega
          case rel => exact ⟨(wrap64 (x10_2 + 1)),(hDq),H',⟨by have := HJ3.out;have := HK2.out;have := HK3.out;omega⟩,⟨hGq BK361.out⟩,⟨hGq BK362.out⟩,⟨hGq BK363.out⟩,⟨by repeat (first | (with_reducible first | exact HB.out | apply zi | apply zl | apply zx | refine zm ?_ GE361.out | refine zm ?_ GE362.out | refine zm ?_ GE363.out) | exact HB.out)⟩⟩
      ·rw [if_neg c20] at H
       have c20b0 : decide (x10_2 < (l0_2.length : Int)) = false := decide_eq_false c20
       clear c20
       replace H := Option.bind_eq_some_iff.mp H
       obtain ⟨t368,A320,H⟩ := H
       replace H : ((zD.f k2 a0_0 a0_1 l0_2 a0_3 a0_5).bind fun t371 => ((zk.f k2 t368 t371).bind fun t374 => (if t374 = true then ((zaA.f a0_0 a0_1 l0_2 a0_3 a0_4).bind fun t375 => ((zE.f k2 a0_0 a0_1 l0_2 a0_3 a0_4).bind fun t376 => (if (t375 == t376) = true then ((zbe.f a0_0 a0_1 l0_2 a0_6 a0_7 l0_8).bind fun t377 => ((zV.f k2 a0_0 a0_1 l0_2 a0_6 a0_7 l0_8).bind fun t378 => (some (t377 == t378)))) else (some false)))) else (some false)))) = some r := H
       have A32 := za.mk A320
       clear A320
       replace H := Option.bind_eq_some_iff.mp H
       obtain ⟨t371,A330,H⟩ := H
       replace H : ((zk.f k2 t368 t371).bind fun t374 => (if t374 = true then ((zaA.f a0_0 a0_1 l0_2 a0_3 a0_4).bind fun t375 => ((zE.f k2 a0_0 a0_1 l0_2 a0_3 a0_4).bind fun t376 => (if (t375 == t376) = true then ((zbe.f a0_0 a0_1 l0_2 a0_6 a0_7 l0_8).bind fun t377 => ((zV.f k2 a0_0 a0_1 l0_2 a0_6 a0_7 l0_8).bind fun t378 => (some (t377 == t378)))) else (some false)))) else (some false))) = some r := H
       have A33 := za.mk A330
       clear A330
       replace H := Option.bind_eq_some_iff.mp H
       obtain ⟨t374,A340,H⟩ := H
       replace H : (if t374 = true then ((zaA.f a0_0 a0_1 l0_2 a0_3 a0_4).bind fun t375 => ((zE.f k2 a0_0 a0_1 l0_2 a0_3 a0_4).bind fun t376 => (if (t375 == t376) = true then ((zbe.f a0_0 a0_1 l0_2 a0_6 a0_7 l0_8).bind fun t377 => ((zV.f k2 a0_0 a0_1 l0_2 a0_6 a0_7 l0_8).bind fun t378 => (some (t377 == t378)))) else (some false)))) else (some false)) = some r := H
       have A34 := za.mk A340
       clear A340
       by_cases c35 : t374 = true
       ·subst c35
        have H1 : ((zaA.f a0_0 a0_1 l0_2 a0_3 a0_4).bind fun t375 => ((zE.f k2 a0_0 a0_1 l0_2 a0_3 a0_4).bind fun t376 => (if (t375 == t376) = true then ((zbe.f a0_0 a0_1 l0_2 a0_6 a0_7 l0_8).bind fun t377 => ((zV.f k2 a0_0 a0_1 l0_2 a0_6 a0_7 l0_8).bind fun t378 => (some (t377 == t378)))) else (some false)))) = some r := by rw [if_pos rfl] at H;exact H
        clear H
        have H := H1
        clear H1
        replace H := Option.bind_eq_some_iff.mp H
        obtain ⟨t375,A360,H⟩ := H
        replace H : ((zE.f k2 a0_0 a0_1 l0_2 a0_3 a0_4).bind fun t376 => (if (t375 == t376) = true then ((zbe.f a0_0 a0_1 l0_2 a0_6 a0_7 l0_8).bind fun t377 => ((zV.f k2 a0_0 a0_1 l0_2 a0_6 a0_7 l0_8).bind fun t378 => (some (t377 == t378)))) else (some false))) = some r := H
        have A36 := za.mk A360
        clear A360
        replace H := Option.bind_eq_some_iff.mp H
        obtain ⟨t376,A370,H⟩ := H
        replace H : (if (t375 == t376) = true then ((zbe.f a0_0 a0_1 l0_2 a0_6 a0_7 l0_8).bind fun t377 => ((zV.f k2 a0_0 a0_1 l0_2 a0_6 a0_7 l0_8).bind fun t378 => (some (t377 == t378)))) else (some false)) = some r := H
        have A37 := za.mk A370
        clear A370
        by_cases c38 : (t375 == t376) = true
        ·rw [if_pos c38] at H
         have c38b0 : (t375 == t376) = true := c38
         (try (have c38b1 : decide (t375 = t376) = true := by simpa using c38))
         (try (have c38b2 : (t375 == t376) = true := by simpa using c38))
         clear c38
         replace H := Option.bind_eq_some_iff.mp H
         obtain ⟨t377,A390,H⟩ := H
         replace H : ((zV.f k2 a0_0 a0_1 l0_2 a0_6 a0_7 l0_8).bind fun t378 => (some (t377 == t378))) = some r := H
         have A39 := za.mk A390
         clear A390
         replace H := Option.bind_eq_some_iff.mp H
         obtain ⟨t378,A400,H⟩ := H
         replace H : (some (t377 == t378)) = some r := H
         have A40 := za.mk A400
         clear A400
         obtain rfl := Option.some.inj H
         have hnb41 := NB362_361.out
         have hnc41 := NB361_362.out
         have hnb42 := NB362_363.out
         have hnc42 := NB363_362.out
         obtain ⟨hcz43_0,hcz43_1,hcz43_2,hfz43_0,hfz43_1,hfz43_2⟩ := hcq3 BK362.out
         try go_wp2
         have n0_ := za.mk (zG BK361.out)
         have n1_ := za.mk (zG BK362.out)
         have n2_ := za.mk (zG BK363.out)
         have n3_ := za.mk (zx HB.out)
         clear BK361
         clear BK362
         clear BK363
         clear HB
         have BK361 := n0_
         have BK362 := n1_
         have BK363 := n2_
         have HB := n3_
         clear n0_ n1_ n2_ n3_
         refine zbk (n := 10) (S := fun w' => w'.cell? ⟨gb362,0,none⟩ = some (.int .i64 a0_0) ∧ w'.cell? ⟨gb362,1,none⟩ = some (.int .i64 a0_1) ∧ w'.cell? ⟨gb362,2,none⟩ = some (.slice A0_2 l0_2.length c0_2)) (ds := []) (uQ 10 0) (by kernel_rfl) rfl rfl ⟨(zb BK362.out 0).trans rfl,(zb BK362.out 1).trans rfl,(zb BK362.out 2).trans rfl⟩ (fun hHeld => ?_);refine zaz zg.tab18 zg.bits18 (fun HT_ HW_ => ?_)
         generalize wr.drew = w44 at BK361 BK362 BK363 HB hHeld ⊢
         refine puq (i := 1) (N := some 60) HT_.out #[false,true,false,false,false,false,false,false,false,false] ?_
         refine puq (i := 2) (N := some 61) HT_.out #[false,true,true,false,false,false,false,false,false,false] ?_
         refine puq (i := 5) (N := some 64) HT_.out #[false,true,true,false,false,true,false,false,false,false] ?_
         refine puq (i := 6) (N := some 65) HT_.out #[false,true,true,false,false,true,true,false,false,false] ?_
         refine take_ (i := 0) (N := some 59) #[true,true,true,false,false,true,true,false,false,false] rfl rfl (zI HT_.out HW_.out (by kernel_rfl)) (fun _ _ _ h => h) (Or.inl ⟨by rfl,by rintro w' ⟨s0,s1,s2⟩;go_simp;with_reducible rfl⟩) hHeld hPq ?_
         refine take_ (i := 4) (N := some 63) #[true,true,true,false,true,true,true,false,false,false] rfl rfl (zI HT_.out HW_.out (by kernel_rfl)) (fun _ _ _ h => h) (Or.inl ⟨by rfl,by rintro w' ⟨s0,s1,s2⟩;go_simp;with_reducible rfl⟩) hHeld hPq ?_
         refine zb6 (i := 3) (N := some 62) (uQ 10 7) rfl rfl (zaO HT_.out (by kernel_rfl)) (by decide) (fun K hK => ?_)
         refine za8 Try.func11 (by kernel_rfl) rfl #[.agg #[.int .i64 a0_0,.int .i64 a0_1,.slice A0_2 l0_2.length c0_2],.string a0_3,.int .i64 a0_5] (by rfl) rfl rfl hMq ?_
         with_reducible refine (zbd.calls a0_0 a0_1 (fun k_ => k_ < w.heap.size) _ _ l0_2 a0_3 a0_5 t368 _ ?side1 A32.out).mono ?_
         (case side1 => exact Kd.V_mk HC0_2.out (Kd.F_below (Kd.C_F zbU HR0_2.out) hCq))
         rintro e w45 ⟨v369,rfl,ho0,hb⟩
         refine ⟨_,rfl,?_⟩
         have n0_ := za.mk (Kd.V_lower (Kd.V_mono (ok' := fun k_ => k_ ≠ gb361 ∧ k_ ≠ gb362 ∧ k_ ≠ gb363) ho0 (fun k_ hk_ => ⟨Or.elim hk_ (fun hs_ => fun e_ => Nat.not_le.2 hs_ (by rw [e_];exact GW361.out)) (fun hn_ => (Kd.freshB (g := gb361) (o := .cells #[.int .i64 a0_0,.int .i64 a0_1,.slice A0_2 l0_2.length c0_2,.string a0_3,.string a0_4,.int .i64 a0_5,.int .i64 a0_6,.int .i64 a0_7,.slice A0_8 l0_8.length c0_8] 42 (0,0)) (hGq BK361.out) k_ hn_)),Or.elim hk_ (fun hs_ => fun e_ => Nat.not_le.2 hs_ (by rw [e_];exact GW362.out)) (fun hn_ => (Kd.freshB (g := gb362) (o := .cells #[.int .i64 a0_0,.int .i64 a0_1,.slice A0_2 l0_2.length c0_2] 24 (0,0)) (hGq BK362.out) k_ hn_)),Or.elim hk_ (fun hs_ => fun e_ => Nat.not_le.2 hs_ (by rw [e_];exact GW363.out)) (fun hn_ => (Kd.freshB (g := gb363) (o := .cells #[.int .i64 a0_6,.int .i64 a0_7,.slice A0_8 l0_8.length c0_8] 24 (0,0)) (hGq BK363.out) k_ hn_))⟩)) (zj hCq))
         have n1_ := za.mk (hbq BK361.out hb)
         have n2_ := za.mk (hbq BK362.out hb)
         have n3_ := za.mk (hbq BK363.out hb)
         have n4_ := za.mk (zh hCq hb)
         clear BK361
         clear BK362
         clear BK363
         clear HB
         have HO370 := n0_
         have BK361 := n1_
         have BK362 := n2_
         have BK363 := n3_
         have HB := n4_
         clear n0_ n1_ n2_ n3_ n4_
         (try clear hb)
         (try clear hb2)
         (try clear hk)
         (try clear hi)
         (try clear ho0)
         refine hK.out _ _ ⟨(zb BK362.out 0).trans rfl,(zb BK362.out 1).trans rfl,(zb BK362.out 2).trans rfl⟩ (fun hHeld => ?_)
         clear hK K
         refine za9 (a' := ?_) ?_ ?_
         rotate_left
         ·show Act.put _ (some 62) _ = _
          simp only [Act.put,List.setIfInBounds_toArray,List.set_cons_zero,List.set_cons_succ,z8,zaa]
          rfl
         refine zb6 (i := 7) (N := some 66) (uQ 10 8) rfl rfl (zaO HT_.out (by kernel_rfl)) (by decide) (fun K hK => ?_)
         refine za8 Try.func12 (by kernel_rfl) rfl #[.agg #[.int .i64 a0_0,.int .i64 a0_1,.slice A0_2 l0_2.length c0_2],.string a0_3,.int .i64 a0_5] (by rfl) rfl rfl hMq ?_
         with_reducible refine (zD.calls k2 a0_0 a0_1 (fun k_ => k_ < w.heap.size) _ _ l0_2 a0_3 a0_5 t371 _ ?side1 A33.out).mono ?_
         (case side1 => exact Kd.V_mk HC0_2.out (Kd.F_below (Kd.C_F zbU HR0_2.out) hCq))
         rintro e w46 ⟨v372,rfl,ho0,hb⟩
         refine ⟨_,rfl,?_⟩
         have n0_ := za.mk (Kd.V_elder' (by (with_reducible repeat (first | apply Kd.V_alloc | apply Kd.V_drewN | apply Kd.V_drew));exact HO370.out) (Kd.N_base ho0) hb)
         have n1_ := za.mk (Kd.N_lower (Kd.N_mono (ok' := fun k_ => k_ ≠ gb361 ∧ k_ ≠ gb362 ∧ k_ ≠ gb363) ho0 (fun k_ hk_ => ⟨Or.elim hk_ (fun hs_ => fun e_ => Nat.not_le.2 hs_ (by rw [e_];exact GW361.out)) (fun hn_ => (Kd.freshB (g := gb361) (o := .cells #[.int .i64 a0_0,.int .i64 a0_1,.slice A0_2 l0_2.length c0_2,.string a0_3,.string a0_4,.int .i64 a0_5,.int .i64 a0_6,.int .i64 a0_7,.slice A0_8 l0_8.length c0_8] 42 (0,0)) (hGq BK361.out) k_ hn_)),Or.elim hk_ (fun hs_ => fun e_ => Nat.not_le.2 hs_ (by rw [e_];exact GW362.out)) (fun hn_ => (Kd.freshB (g := gb362) (o := .cells #[.int .i64 a0_0,.int .i64 a0_1,.slice A0_2 l0_2.length c0_2] 24 (0,0)) (hGq BK362.out) k_ hn_)),Or.elim hk_ (fun hs_ => fun e_ => Nat.not_le.2 hs_ (by rw [e_];exact GW363.out)) (fun hn_ => (Kd.freshB (g := gb363) (o := .cells #[.int .i64 a0_6,.int .i64 a0_7,.slice A0_8 l0_8.length c0_8] 24 (0,0)) (hGq BK363.out) k_ hn_))⟩)) (zj hCq))
         have n2_ := za.mk (hbq BK361.out hb)
         have n3_ := za.mk (hbq BK362.out hb)
         have n4_ := za.mk (hbq BK363.out hb)
         have n5_ := za.mk (zh hCq hb)
         clear HO370
         clear BK361
         clear BK362
         clear BK363
         clear HB
         have HO370 := n0_
         have HO373 := n1_
         have BK361 := n2_
         have BK362 := n3_
         have BK363 := n4_
         have HB := n5_
         clear n0_ n1_ n2_ n3_ n4_ n5_
         (try clear hb)
         (try clear hb2)
         (try clear hk)
         (try clear hi)
         (try clear ho0)
         obtain ⟨Ao47,co47,eo47⟩ := Kd.V_slice HO370.out
         (first | subst eo47 | (injection eo47 with f1_ f2_ f3_;have f4_ := f1_.symm;have f5_ := f3_.symm;clear f1_ f2_ f3_;subst f4_;subst f5_))
         obtain ⟨Ao48,co48,eo48⟩ := Kd.N_slice HO373.out
         (first | subst eo48 | (injection eo48 with f1_ f2_ f3_;have f4_ := f1_.symm;have f5_ := f3_.symm;clear f1_ f2_ f3_;subst f4_;subst f5_))
         refine hK.out _ _ ⟨(zb BK362.out 0).trans rfl,(zb BK362.out 1).trans rfl,(zb BK362.out 2).trans rfl⟩ (fun hHeld => ?_)
         clear hK K
         refine za9 (a' := ?_) ?_ ?_
         rotate_left
         ·show Act.put _ (some 66) _ = _
          simp only [Act.put,List.setIfInBounds_toArray,List.set_cons_zero,List.set_cons_succ,z8,zaa]
          rfl
         refine zb6 (i := 8) (N := some 67) (uQ 10 9) rfl rfl (zaO HT_.out (by kernel_rfl)) (by decide) (fun K hK => ?_)
         refine za8 Try.func10 (by kernel_rfl) rfl #[.slice Ao47 t368.length co47,.slice Ao48 t371.length co48] (by rfl) rfl rfl hMq ?_
         with_reducible refine (zk.calls k2 _ _ t368 _ _ t371 true _ ?side1 ?side2 ?side3 ?side4 A34.out).mono ?_
         (case side1 => repeat (first | exact (Kd.V_reads' HO370.out).2.2 | (with_reducible refine Kd.C_alloc ?_ _) | (with_reducible refine Kd.C_drewN ?_ _) | (with_reducible refine Kd.C_drew ?_)))
         (case side2 => exact (Kd.V_reads' HO370.out).2.1)
         (case side3 => repeat (first | exact (Kd.N_reads' HO373.out).2.2 | (with_reducible refine Kd.C_alloc ?_ _) | (with_reducible refine Kd.C_drewN ?_ _) | (with_reducible refine Kd.C_drew ?_)))
         (case side4 => exact (Kd.N_reads' HO373.out).2.1)
         rintro e w49 ⟨rfl,hb⟩
         refine ⟨_,rfl,?_⟩
         have n0_ := za.mk (Kd.V_below (by (with_reducible repeat (first | apply Kd.V_alloc | apply Kd.V_drewN | apply Kd.V_drew));exact HO370.out) hb)
         have n1_ := za.mk (Kd.N_below (by (with_reducible repeat (first | apply Kd.N_alloc | apply Kd.N_drewN | apply Kd.N_drew));exact HO373.out) hb)
         have n2_ := za.mk (hbq BK361.out hb)
         have n3_ := za.mk (hbq BK362.out hb)
         have n4_ := za.mk (hbq BK363.out hb)
         have n5_ := za.mk (zh hCq hb)
         clear HO370
         clear HO373
         clear BK361
         clear BK362
         clear BK363
         clear HB
         have HO370 := n0_
         have HO373 := n1_
         have BK361 := n2_
         have BK362 := n3_
         have BK363 := n4_
         have HB := n5_
         clear n0_ n1_ n2_ n3_ n4_ n5_
         (try clear hb)
         (try clear hb2)
         (try clear hk)
         (try clear hi)
         refine hK.out _ _ ⟨(zb BK362.out 0).trans rfl,(zb BK362.out 1).trans rfl,(zb BK362.out 2).trans rfl⟩ (fun hHeld => ?_)
         clear hK K
         refine za9 (a' := ?_) ?_ ?_
         rotate_left
         ·show Act.put _ (some 67) _ = _
          simp only [Act.put,List.setIfInBounds_toArray,List.set_cons_zero,List.set_cons_succ,z8,zaa]
          rfl
         refine puq (i := 9) (N := some 12) HT_.out (uQ 10 10) ?_
         refine zbl (zaF HT_.out (by kernel_rfl)) ?_
         try go_wp2
         have n0_ := za.mk (Kd.V_drew HO370.out)
         have n1_ := za.mk (Kd.N_drew HO373.out)
         have n2_ := za.mk (zG BK361.out)
         have n3_ := za.mk (zG BK362.out)
         have n4_ := za.mk (zG BK363.out)
         have n5_ := za.mk (zx HB.out)
         clear HO370
         clear HO373
         clear BK361
         clear BK362
         clear BK363
         clear HB
         have HO370 := n0_
         have HO373 := n1_
         have BK361 := n2_
         have BK362 := n3_
         have BK363 := n4_
         have HB := n5_
         clear n0_ n1_ n2_ n3_ n4_ n5_
         refine zbk (n := 22) (S := fun w' => w'.cell? ⟨gb362,0,none⟩ = some (.int .i64 a0_0) ∧ w'.cell? ⟨gb362,1,none⟩ = some (.int .i64 a0_1) ∧ w'.cell? ⟨gb362,2,none⟩ = some (.slice A0_2 l0_2.length c0_2) ∧ w'.cell? ⟨gb363,0,none⟩ = some (.int .i64 a0_6) ∧ w'.cell? ⟨gb363,1,none⟩ = some (.int .i64 a0_7) ∧ w'.cell? ⟨gb363,2,none⟩ = some (.slice A0_8 l0_8.length c0_8)) (ds := []) (uQ 22 0) (by kernel_rfl) rfl rfl ⟨(zb BK362.out 0).trans rfl,(zb BK362.out 1).trans rfl,(zb BK362.out 2).trans rfl,(zb BK363.out 0).trans rfl,(zb BK363.out 1).trans rfl,(zb BK363.out 2).trans rfl⟩ (fun hHeld => ?_);refine zaz zg.tab19 zg.bits19 (fun HT_ HW_ => ?_)
         generalize w49.drew = w50 at HO370 HO373 BK361 BK362 BK363 HB hHeld ⊢
         refine puq (i := 0) (N := some 68) HT_.out (uQ 22 1) ?_
         refine puq (i := 1) (N := some 69) HT_.out (uQ 22 2) ?_
         refine puq (i := 3) (N := some 71) HT_.out #[true,true,false,true,false,false,false,false,false,false,false,false,false,false,false,false,false,false,false,false,false,false] ?_
         refine puq (i := 4) (N := some 72) HT_.out #[true,true,false,true,true,false,false,false,false,false,false,false,false,false,false,false,false,false,false,false,false,false] ?_
         refine puq (i := 7) (N := some 75) HT_.out #[true,true,false,true,true,false,false,true,false,false,false,false,false,false,false,false,false,false,false,false,false,false] ?_
         refine puq (i := 8) (N := some 76) HT_.out #[true,true,false,true,true,false,false,true,true,false,false,false,false,false,false,false,false,false,false,false,false,false] ?_
         refine take_ (i := 2) (N := some 70) #[true,true,true,true,true,false,false,true,true,false,false,false,false,false,false,false,false,false,false,false,false,false] rfl rfl (zI HT_.out HW_.out (by kernel_rfl)) (fun _ _ _ h => h) (Or.inl ⟨by rfl,by rintro w' ⟨s0,s1,s2,s3,s4,s5⟩;go_simp;with_reducible rfl⟩) hHeld hPq ?_
         refine take_ (i := 6) (N := some 74) #[true,true,true,true,true,false,true,true,true,false,false,false,false,false,false,false,false,false,false,false,false,false] rfl rfl (zI HT_.out HW_.out (by kernel_rfl)) (fun _ _ _ h => h) (Or.inl ⟨by rfl,by rintro w' ⟨s0,s1,s2,s3,s4,s5⟩;go_simp;with_reducible rfl⟩) hHeld hPq ?_
         refine zb6 (i := 5) (N := some 73) (uQ 22 9) rfl rfl (zaO HT_.out (by kernel_rfl)) (by decide) (fun K hK => ?_)
         refine za8 Try.func13 (by kernel_rfl) rfl #[.agg #[.int .i64 a0_0,.int .i64 a0_1,.slice A0_2 l0_2.length c0_2],.string a0_3,.string a0_4] (by rfl) rfl rfl hMq ?_
         with_reducible refine (zaA.calls a0_0 a0_1 (fun k_ => k_ < w.heap.size) _ _ l0_2 a0_3 a0_4 t375 _ ?side1 A36.out).mono ?_
         (case side1 => exact Kd.V_mk HC0_2.out (Kd.F_below (Kd.C_F zbU HR0_2.out) hCq))
         rintro e w51 ⟨rfl,hb⟩
         refine ⟨_,rfl,?_⟩
         have n0_ := za.mk (Kd.V_below (by (with_reducible repeat (first | apply Kd.V_alloc | apply Kd.V_drewN | apply Kd.V_drew));exact HO370.out) hb)
         have n1_ := za.mk (Kd.N_below (by (with_reducible repeat (first | apply Kd.N_alloc | apply Kd.N_drewN | apply Kd.N_drew));exact HO373.out) hb)
         have n2_ := za.mk (hbq BK361.out hb)
         have n3_ := za.mk (hbq BK362.out hb)
         have n4_ := za.mk (hbq BK363.out hb)
         have n5_ := za.mk (zh hCq hb)
         clear HO370
         clear HO373
         clear BK361
         clear BK362
         clear BK363
         clear HB
         have HO370 := n0_
         have HO373 := n1_
         have BK361 := n2_
         have BK362 := n3_
         have BK363 := n4_
         have HB := n5_
         clear n0_ n1_ n2_ n3_ n4_ n5_
         (try clear hb)
         (try clear hb2)
         (try clear hk)
         (try clear hi)
         refine hK.out _ _ ⟨(zb BK362.out 0).trans rfl,(zb BK362.out 1).trans rfl,(zb BK362.out 2).trans rfl,(zb BK363.out 0).trans rfl,(zb BK363.out 1).trans rfl,(zb BK363.out 2).trans rfl⟩ (fun hHeld => ?_)
         clear hK K
         refine za9 (a' := ?_) ?_ ?_
         rotate_left
         ·show Act.put _ (some 73) _ = _
          simp only [Act.put,List.setIfInBounds_toArray,List.set_cons_zero,List.set_cons_succ,z8,zaa]
          rfl
         refine zb6 (i := 9) (N := some 77) (uQ 22 10) rfl rfl (zaO HT_.out (by kernel_rfl)) (by decide) (fun K hK => ?_)
         refine za8 Try.func14 (by kernel_rfl) rfl #[.agg #[.int .i64 a0_0,.int .i64 a0_1,.slice A0_2 l0_2.length c0_2],.string a0_3,.string a0_4] (by rfl) rfl rfl hMq ?_
         with_reducible refine (zE.calls k2 a0_0 a0_1 _ _ l0_2 a0_3 a0_4 t376 _ ?side1 ?side2 A37.out).mono ?_
         (case side1 => exact hKq (Kd.C_below HR0_2.out HB.out))
         (case side2 => exact HC0_2.out)
         rintro e w52 ⟨rfl,hb⟩
         refine ⟨_,rfl,?_⟩
         have n0_ := za.mk (Kd.V_below (by (with_reducible repeat (first | apply Kd.V_alloc | apply Kd.V_drewN | apply Kd.V_drew));exact HO370.out) hb)
         have n1_ := za.mk (Kd.N_below (by (with_reducible repeat (first | apply Kd.N_alloc | apply Kd.N_drewN | apply Kd.N_drew));exact HO373.out) hb)
         have n2_ := za.mk (hbq BK361.out hb)
         have n3_ := za.mk (hbq BK362.out hb)
         have n4_ := za.mk (hbq BK363.out hb)
         have n5_ := za.mk (zh hCq hb)
         clear HO370
         clear HO373
         clear BK361
         clear BK362
         clear BK363
         clear HB
         have HO370 := n0_
         have HO373 := n1_
         have BK361 := n2_
         have BK362 := n3_
         have BK363 := n4_
         have HB := n5_
         clear n0_ n1_ n2_ n3_ n4_ n5_
         (try clear hb)
         (try clear hb2)
         (try clear hk)
         (try clear hi)
         refine hK.out _ _ ⟨(zb BK362.out 0).trans rfl,(zb BK362.out 1).trans rfl,(zb BK362.out 2).trans rfl,(zb BK363.out 0).trans rfl,(zb BK363.out 1).trans rfl,(zb BK363.out 2).trans rfl⟩ (fun hHeld => ?_)
         clear hK K
         refine za9 (a' := ?_) ?_ ?_
         rotate_left
         ·show Act.put _ (some 77) _ = _
          simp only [Act.put,List.setIfInBounds_toArray,List.set_cons_zero,List.set_cons_succ,z8,zaa]
          rfl
         refine puq (i := 10) (N := some 78) HT_.out (uQ 22 11) ?_
         refine puq (i := 11) (N := some 79) HT_.out (uQ 22 12) ?_
         refine puq (i := 12) (N := some 80) HT_.out (uQ 22 13) ?_
         refine take_ (i := 13) (N := some 81) (uQ 22 14) rfl rfl (zI HT_.out HW_.out (by kernel_rfl)) (fun _ _ _ h => h) (Or.inl ⟨by rfl,by rintro w' ⟨s0,s1,s2,s3,s4,s5⟩;go_simp;with_reducible rfl⟩) hHeld hPq ?_
         refine take_ (i := 14) (N := some 82) (uQ 22 15) rfl rfl (zI HT_.out HW_.out (by kernel_rfl)) (fun _ _ _ h => h) (Or.inl ⟨by rfl,by rintro w' ⟨s0,s1,s2,s3,s4,s5⟩;go_simp;with_reducible rfl⟩) hHeld hPq ?_
         refine take_ (i := 16) (N := some 84) #[true,true,true,true,true,true,true,true,true,true,true,true,true,true,true,false,true,false,false,false,false,false] rfl rfl (zI HT_.out HW_.out (by kernel_rfl)) (fun _ _ _ h => h) (Or.inl ⟨by rfl,by rintro w' ⟨s0,s1,s2,s3,s4,s5⟩;go_simp;with_reducible rfl⟩) hHeld hPq ?_
         refine take_ (i := 17) (N := some 85) #[true,true,true,true,true,true,true,true,true,true,true,true,true,true,true,false,true,true,false,false,false,false] rfl rfl (zI HT_.out HW_.out (by kernel_rfl)) (fun _ _ _ h => h) (Or.inl ⟨by rfl,by rintro w' ⟨s0,s1,s2,s3,s4,s5⟩;go_simp;with_reducible rfl⟩) hHeld hPq ?_
         refine zb6 (i := 15) (N := some 83) (uQ 22 18) rfl rfl (zaO HT_.out (by kernel_rfl)) (by decide) (fun K hK => ?_)
         refine za8 Try.func15 (by kernel_rfl) rfl #[.agg #[.int .i64 a0_0,.int .i64 a0_1,.slice A0_2 l0_2.length c0_2],.agg #[.int .i64 a0_6,.int .i64 a0_7,.slice A0_8 l0_8.length c0_8]] (by rfl) rfl rfl hMq ?_
         with_reducible refine (zbe.calls a0_0 a0_1 _ _ l0_2 a0_6 a0_7 _ _ l0_8 t377 _ ?side1 ?side2 ?side3 ?side4 A39.out).mono ?_
         (case side1 => exact hKq (Kd.C_below HR0_2.out HB.out))
         (case side2 => exact HC0_2.out)
         (case side3 => exact hKq (Kd.C_below HR0_8.out HB.out))
         (case side4 => exact HC0_8.out)
         rintro e w53 ⟨rfl,hb⟩
         refine ⟨_,rfl,?_⟩
         have n0_ := za.mk (Kd.V_below (by (with_reducible repeat (first | apply Kd.V_alloc | apply Kd.V_drewN | apply Kd.V_drew));exact HO370.out) hb)
         have n1_ := za.mk (Kd.N_below (by (with_reducible repeat (first | apply Kd.N_alloc | apply Kd.N_drewN | apply Kd.N_drew));exact HO373.out) hb)
         have n2_ := za.mk (hbq BK361.out hb)
         have n3_ := za.mk (hbq BK362.out hb)
         have n4_ := za.mk (hbq BK363.out hb)
         have n5_ := za.mk (zh hCq hb)
         clear HO370
         clear HO373
         clear BK361
         clear BK362
         clear BK363
         clear HB
         have HO370 := n0_
         have HO373 := n1_
         have BK361 := n2_
         have BK362 := n3_
         have BK363 := n4_
         have HB := n5_
         clear n0_ n1_ n2_ n3_ n4_ n5_
         (try clear hb)
         (try clear hb2)
         (try clear hk)
         (try clear hi)
         refine hK.out _ _ ⟨(zb BK362.out 0).trans rfl,(zb BK362.out 1).trans rfl,(zb BK362.out 2).trans rfl,(zb BK363.out 0).trans rfl,(zb BK363.out 1).trans rfl,(zb BK363.out 2).trans rfl⟩ (fun hHeld => ?_)
         clear hK K
         refine za9 (a' := ?_) ?_ ?_
         rotate_left
         ·show Act.put _ (some 83) _ = _
          simp only [Act.put,List.setIfInBounds_toArray,List.set_cons_zero,List.set_cons_succ,z8,zaa]
          rfl
         refine zb6 (i := 18) (N := some 86) (uQ 22 19) rfl rfl (zaO HT_.out (by kernel_rfl)) (by decide) (fun K hK => ?_)
         refine za8 Try.func16 (by kernel_rfl) rfl #[.agg #[.int .i64 a0_0,.int .i64 a0_1,.slice A0_2 l0_2.length c0_2],.agg #[.int .i64 a0_6,.int .i64 a0_7,.slice A0_8 l0_8.length c0_8]] (by rfl) rfl rfl hMq ?_
         with_reducible refine (zV.calls k2 a0_0 a0_1 _ _ l0_2 a0_6 a0_7 _ _ l0_8 t378 _ ?side1 ?side2 ?side3 ?side4 A40.out).mono ?_
         (case side1 => exact hKq (Kd.C_below HR0_2.out HB.out))
         (case side2 => exact HC0_2.out)
         (case side3 => exact hKq (Kd.C_below HR0_8.out HB.out))
         (case side4 => exact HC0_8.out)
         rintro e w54 ⟨rfl,hb⟩
         refine ⟨_,rfl,?_⟩
         have n0_ := za.mk (Kd.V_below (by (with_reducible repeat (first | apply Kd.V_alloc | apply Kd.V_drewN | apply Kd.V_drew));exact HO370.out) hb)
         have n1_ := za.mk (Kd.N_below (by (with_reducible repeat (first | apply Kd.N_alloc | apply Kd.N_drewN | apply Kd.N_drew));exact HO373.out) hb)
         have n2_ := za.mk (hbq BK361.out hb)
         have n3_ := za.mk (hbq BK362.out hb)
         have n4_ := za.mk (hbq BK363.out hb)
         have n5_ := za.mk (zh hCq hb)
         clear HO370
         clear HO373
         clear BK361
         clear BK362
         clear BK363
         clear HB
         have HO370 := n0_
         have HO373 := n1_
         have BK361 := n2_
         have BK362 := n3_
         have BK363 := n4_
         have HB := n5_
         clear n0_ n1_ n2_ n3_ n4_ n5_
         (try clear hb)
         (try clear hb2)
         (try clear hk)
         (try clear hi)
         refine hK.out _ _ ⟨(zb BK362.out 0).trans rfl,(zb BK362.out 1).trans rfl,(zb BK362.out 2).trans rfl,(zb BK363.out 0).trans rfl,(zb BK363.out 1).trans rfl,(zb BK363.out 2).trans rfl⟩ (fun hHeld => ?_)
         clear hK K
         refine za9 (a' := ?_) ?_ ?_
         rotate_left
         ·show Act.put _ (some 86) _ = _
          simp only [Act.put,List.setIfInBounds_toArray,List.set_cons_zero,List.set_cons_succ,z8,zaa]
          rfl
         refine puq (i := 19) (N := some 87) HT_.out (uQ 22 20) ?_
         refine puq (i := 20) (N := some 88) HT_.out (uQ 22 21) ?_
         refine puq (i := 21) (N := some 2) HT_.out (uQ 22 22) ?_
         refine zbl (zaF HT_.out (by kernel_rfl)) ?_
         try go_wp2
         go_ret
         exact ⟨hHq,hCq⟩
        ·rw [if_neg c38] at H
         have c38b0 : (t375 == t376) = false := by simpa using c38
         (try (have c38b1 : decide (t375 = t376) = false := by simpa using c38))
         (try (have c38b2 : (t375 == t376) = false := by simpa using c38))
         (try (have c38b3 : ¬ (t375 = t376) := by simpa using c38))
         clear c38
         obtain rfl := Option.some.inj H
         have hnb55 := NB362_361.out
         have hnc55 := NB361_362.out
         have hnb56 := NB362_363.out
         have hnc56 := NB363_362.out
         obtain ⟨hcz57_0,hcz57_1,hcz57_2,hfz57_0,hfz57_1,hfz57_2⟩ := hcq3 BK362.out
         try go_wp2
         have n0_ := za.mk (zG BK361.out)
         have n1_ := za.mk (zG BK362.out)
         have n2_ := za.mk (zG BK363.out)
         have n3_ := za.mk (zx HB.out)
         clear BK361
         clear BK362
         clear BK363
         clear HB
         have BK361 := n0_
         have BK362 := n1_
         have BK363 := n2_
         have HB := n3_
         clear n0_ n1_ n2_ n3_
         refine zbk (n := 10) (S := fun w' => w'.cell? ⟨gb362,0,none⟩ = some (.int .i64 a0_0) ∧ w'.cell? ⟨gb362,1,none⟩ = some (.int .i64 a0_1) ∧ w'.cell? ⟨gb362,2,none⟩ = some (.slice A0_2 l0_2.length c0_2)) (ds := []) (uQ 10 0) (by kernel_rfl) rfl rfl ⟨(zb BK362.out 0).trans rfl,(zb BK362.out 1).trans rfl,(zb BK362.out 2).trans rfl⟩ (fun hHeld => ?_);refine zaz zg.tab18 zg.bits18 (fun HT_ HW_ => ?_)
         generalize wr.drew = w58 at BK361 BK362 BK363 HB hHeld ⊢
         refine puq (i := 1) (N := some 60) HT_.out #[false,true,false,false,false,false,false,false,false,false] ?_
         refine puq (i := 2) (N := some 61) HT_.out #[false,true,true,false,false,false,false,false,false,false] ?_
         refine puq (i := 5) (N := some 64) HT_.out #[false,true,true,false,false,true,false,false,false,false] ?_
         refine puq (i := 6) (N := some 65) HT_.out #[false,true,true,false,false,true,true,false,false,false] ?_
         refine take_ (i := 0) (N := some 59) #[true,true,true,false,false,true,true,false,false,false] rfl rfl (zI HT_.out HW_.out (by kernel_rfl)) (fun _ _ _ h => h) (Or.inl ⟨by rfl,by rintro w' ⟨s0,s1,s2⟩;go_simp;with_reducible rfl⟩) hHeld hPq ?_
         refine take_ (i := 4) (N := some 63) #[true,true,true,false,true,true,true,false,false,false] rfl rfl (zI HT_.out HW_.out (by kernel_rfl)) (fun _ _ _ h => h) (Or.inl ⟨by rfl,by rintro w' ⟨s0,s1,s2⟩;go_simp;with_reducible rfl⟩) hHeld hPq ?_
         refine zb6 (i := 3) (N := some 62) (uQ 10 7) rfl rfl (zaO HT_.out (by kernel_rfl)) (by decide) (fun K hK => ?_)
         refine za8 Try.func11 (by kernel_rfl) rfl #[.agg #[.int .i64 a0_0,.int .i64 a0_1,.slice A0_2 l0_2.length c0_2],.string a0_3,.int .i64 a0_5] (by rfl) rfl rfl hMq ?_
         with_reducible refine (zbd.calls a0_0 a0_1 (fun k_ => k_ < w.heap.size) _ _ l0_2 a0_3 a0_5 t368 _ ?side1 A32.out).mono ?_
         (case side1 => exact Kd.V_mk HC0_2.out (Kd.F_below (Kd.C_F zbU HR0_2.out) hCq))
         rintro e w59 ⟨v369,rfl,ho0,hb⟩
         refine ⟨_,rfl,?_⟩
         have n0_ := za.mk (Kd.V_lower (Kd.V_mono (ok' := fun k_ => k_ ≠ gb361 ∧ k_ ≠ gb362 ∧ k_ ≠ gb363) ho0 (fun k_ hk_ => ⟨Or.elim hk_ (fun hs_ => fun e_ => Nat.not_le.2 hs_ (by rw [e_];exact GW361.out)) (fun hn_ => (Kd.freshB (g := gb361) (o := .cells #[.int .i64 a0_0,.int .i64 a0_1,.slice A0_2 l0_2.length c0_2,.string a0_3,.string a0_4,.int .i64 a0_5,.int .i64 a0_6,.int .i64 a0_7,.slice A0_8 l0_8.length c0_8] 42 (0,0)) (hGq BK361.out) k_ hn_)),Or.elim hk_ (fun hs_ => fun e_ => Nat.not_le.2 hs_ (by rw [e_];exact GW362.out)) (fun hn_ => (Kd.freshB (g := gb362) (o := .cells #[.int .i64 a0_0,.int .i64 a0_1,.slice A0_2 l0_2.length c0_2] 24 (0,0)) (hGq BK362.out) k_ hn_)),Or.elim hk_ (fun hs_ => fun e_ => Nat.not_le.2 hs_ (by rw [e_];exact GW363.out)) (fun hn_ => (Kd.freshB (g := gb363) (o := .cells #[.int .i64 a0_6,.int .i64 a0_7,.slice A0_8 l0_8.length c0_8] 24 (0,0)) (hGq BK363.out) k_ hn_))⟩)) (zj hCq))
         have n1_ := za.mk (hbq BK361.out hb)
         have n2_ := za.mk (hbq BK362.out hb)
         have n3_ := za.mk (hbq BK363.out hb)
         have n4_ := za.mk (zh hCq hb)
         clear BK361
         clear BK362
         clear BK363
         clear HB
         have HO370 := n0_
         have BK361 := n1_
         have BK362 := n2_
         have BK363 := n3_
         have HB := n4_
         clear n0_ n1_ n2_ n3_ n4_
         (try clear hb)
         (try clear hb2)
         (try clear hk)
         (try clear hi)
         (try clear ho0)
         refine hK.out _ _ ⟨(zb BK362.out 0).trans rfl,(zb BK362.out 1).trans rfl,(zb BK362.out 2).trans rfl⟩ (fun hHeld => ?_)
         clear hK K
         refine za9 (a' := ?_) ?_ ?_
         rotate_left
         ·show Act.put _ (some 62) _ = _
          simp only [Act.put,List.setIfInBounds_toArray,List.set_cons_zero,List.set_cons_succ,z8,zaa]
          rfl
         refine zb6 (i := 7) (N := some 66) (uQ 10 8) rfl rfl (zaO HT_.out (by kernel_rfl)) (by decide) (fun K hK => ?_)
         refine za8 Try.func12 (by kernel_rfl) rfl #[.agg #[.int .i64 a0_0,.int .i64 a0_1,.slice A0_2 l0_2.length c0_2],.string a0_3,.int .i64 a0_5] (by rfl) rfl rfl hMq ?_
         with_reducible refine (zD.calls k2 a0_0 a0_1 (fun k_ => k_ < w.heap.size) _ _ l0_2 a0_3 a0_5 t371 _ ?side1 A33.out).mono ?_
         (case side1 => exact Kd.V_mk HC0_2.out (Kd.F_below (Kd.C_F zbU HR0_2.out) hCq))
         rintro e w60 ⟨v372,rfl,ho0,hb⟩
         refine ⟨_,rfl,?_⟩
         have n0_ := za.mk (Kd.V_elder' (by (with_reducible repeat (first | apply Kd.V_alloc | apply Kd.V_drewN | apply Kd.V_drew));exact HO370.out) (Kd.N_base ho0) hb)
         have n1_ := za.mk (Kd.N_lower (Kd.N_mono (ok' := fun k_ => k_ ≠ gb361 ∧ k_ ≠ gb362 ∧ k_ ≠ gb363) ho0 (fun k_ hk_ => ⟨Or.elim hk_ (fun hs_ => fun e_ => Nat.not_le.2 hs_ (by rw [e_];exact GW361.out)) (fun hn_ => (Kd.freshB (g := gb361) (o := .cells #[.int .i64 a0_0,.int .i64 a0_1,.slice A0_2 l0_2.length c0_2,.string a0_3,.string a0_4,.int .i64 a0_5,.int .i64 a0_6,.int .i64 a0_7,.slice A0_8 l0_8.length c0_8] 42 (0,0)) (hGq BK361.out) k_ hn_)),Or.elim hk_ (fun hs_ => fun e_ => Nat.not_le.2 hs_ (by rw [e_];exact GW362.out)) (fun hn_ => (Kd.freshB (g := gb362) (o := .cells #[.int .i64 a0_0,.int .i64 a0_1,.slice A0_2 l0_2.length c0_2] 24 (0,0)) (hGq BK362.out) k_ hn_)),Or.elim hk_ (fun hs_ => fun e_ => Nat.not_le.2 hs_ (by rw [e_];exact GW363.out)) (fun hn_ => (Kd.freshB (g := gb363) (o := .cells #[.int .i64 a0_6,.int .i64 a0_7,.slice A0_8 l0_8.length c0_8] 24 (0,0)) (hGq BK363.out) k_ hn_))⟩)) (zj hCq))
         have n2_ := za.mk (hbq BK361.out hb)
         have n3_ := za.mk (hbq BK362.out hb)
         have n4_ := za.mk (hbq BK363.out hb)
         have n5_ := za.mk (zh hCq hb)
         clear HO370
         clear BK361
         clear BK362
         clear BK363
         clear HB
         have HO370 := n0_
         have HO373 := n1_
         have BK361 := n2_
         have BK362 := n3_
         have BK363 := n4_
         have HB := n5_
         clear n0_ n1_ n2_ n3_ n4_ n5_
         (try clear hb)
         (try clear hb2)
         (try clear hk)
         (try clear hi)
         (try clear ho0)
         obtain ⟨Ao61,co61,eo61⟩ := Kd.V_slice HO370.out
         (first | subst eo61 | (injection eo61 with f1_ f2_ f3_;have f4_ := f1_.symm;have f5_ := f3_.symm;clear f1_ f2_ f3_;subst f4_;subst f5_))
         obtain ⟨Ao62,co62,eo62⟩ := Kd.N_slice HO373.out
         (first | subst eo62 | (injection eo62 with f1_ f2_ f3_;have f4_ := f1_.symm;have f5_ := f3_.symm;clear f1_ f2_ f3_;subst f4_;subst f5_))
         refine hK.out _ _ ⟨(zb BK362.out 0).trans rfl,(zb BK362.out 1).trans rfl,(zb BK362.out 2).trans rfl⟩ (fun hHeld => ?_)
         clear hK K
         refine za9 (a' := ?_) ?_ ?_
         rotate_left
         ·show Act.put _ (some 66) _ = _
          simp only [Act.put,List.setIfInBounds_toArray,List.set_cons_zero,List.set_cons_succ,z8,zaa]
          rfl
         refine zb6 (i := 8) (N := some 67) (uQ 10 9) rfl rfl (zaO HT_.out (by kernel_rfl)) (by decide) (fun K hK => ?_)
         refine za8 Try.func10 (by kernel_rfl) rfl #[.slice Ao61 t368.length co61,.slice Ao62 t371.length co62] (by rfl) rfl rfl hMq ?_
         with_reducible refine (zk.calls k2 _ _ t368 _ _ t371 true _ ?side1 ?side2 ?side3 ?side4 A34.out).mono ?_
         (case side1 => repeat (first | exact (Kd.V_reads' HO370.out).2.2 | (with_reducible refine Kd.C_alloc ?_ _) | (with_reducible refine Kd.C_drewN ?_ _) | (with_reducible refine Kd.C_drew ?_)))
         (case side2 => exact (Kd.V_reads' HO370.out).2.1)
         (case side3 => repeat (first | exact (Kd.N_reads' HO373.out).2.2 | (with_reducible refine Kd.C_alloc ?_ _) | (with_reducible refine Kd.C_drewN ?_ _) | (with_reducible refine Kd.C_drew ?_)))
         (case side4 => exact (Kd.N_reads' HO373.out).2.1)
         rintro e w63 ⟨rfl,hb⟩
         refine ⟨_,rfl,?_⟩
         have n0_ := za.mk (Kd.V_below (by (with_reducible repeat (first | apply Kd.V_alloc | apply Kd.V_drewN | apply Kd.V_drew));exact HO370.out) hb)
         have n1_ := za.mk (Kd.N_below (by (with_reducible repeat (first | apply Kd.N_alloc | apply Kd.N_drewN | apply Kd.N_drew));exact HO373.out) hb)
         have n2_ := za.mk (hbq BK361.out hb)
         have n3_ := za.mk (hbq BK362.out hb)
         have n4_ := za.mk (hbq BK363.out hb)
         have n5_ := za.mk (zh hCq hb)
         clear HO370
         clear HO373
         clear BK361
         clear BK362
         clear BK363
         clear HB
         have HO370 := n0_
         have HO373 := n1_
         have BK361 := n2_
         have BK362 := n3_
         have BK363 := n4_
         have HB := n5_
         clear n0_ n1_ n2_ n3_ n4_ n5_
         (try clear hb)
         (try clear hb2)
         (try clear hk)
         (try clear hi)
         refine hK.out _ _ ⟨(zb BK362.out 0).trans rfl,(zb BK362.out 1).trans rfl,(zb BK362.out 2).trans rfl⟩ (fun hHeld => ?_)
         clear hK K
         refine za9 (a' := ?_) ?_ ?_
         rotate_left
         ·show Act.put _ (some 67) _ = _
          simp only [Act.put,List.setIfInBounds_toArray,List.set_cons_zero,List.set_cons_succ,z8,zaa]
          rfl
         refine puq (i := 9) (N := some 12) HT_.out (uQ 10 10) ?_
         refine zbl (zaF HT_.out (by kernel_rfl)) ?_
         try go_wp2
         have n0_ := za.mk (Kd.V_drew HO370.out)
         have n1_ := za.mk (Kd.N_drew HO373.out)
         have n2_ := za.mk (zG BK361.out)
         have n3_ := za.mk (zG BK362.out)
         have n4_ := za.mk (zG BK363.out)
         have n5_ := za.mk (zx HB.out)
         clear HO370
         clear HO373
         clear BK361
         clear BK362
         clear BK363
         clear HB
         have HO370 := n0_
         have HO373 := n1_
         have BK361 := n2_
         have BK362 := n3_
         have BK363 := n4_
         have HB := n5_
         clear n0_ n1_ n2_ n3_ n4_ n5_
         refine zbk (n := 22) (S := fun w' => w'.cell? ⟨gb362,0,none⟩ = some (.int .i64 a0_0) ∧ w'.cell? ⟨gb362,1,none⟩ = some (.int .i64 a0_1) ∧ w'.cell? ⟨gb362,2,none⟩ = some (.slice A0_2 l0_2.length c0_2)) (ds := []) (uQ 22 0) (by kernel_rfl) rfl rfl ⟨(zb BK362.out 0).trans rfl,(zb BK362.out 1).trans rfl,(zb BK362.out 2).trans rfl⟩ (fun hHeld => ?_);refine zaz zg.tab19 zg.bits19 (fun HT_ HW_ => ?_)
         generalize w63.drew = w64 at HO370 HO373 BK361 BK362 BK363 HB hHeld ⊢
         refine puq (i := 0) (N := some 68) HT_.out (uQ 22 1) ?_
         refine puq (i := 1) (N := some 69) HT_.out (uQ 22 2) ?_
         refine puq (i := 3) (N := some 71) HT_.out #[true,true,false,true,false,false,false,false,false,false,false,false,false,false,false,false,false,false,false,false,false,false] ?_
         refine puq (i := 4) (N := some 72) HT_.out #[true,true,false,true,true,false,false,false,false,false,false,false,false,false,false,false,false,false,false,false,false,false] ?_
         refine puq (i := 7) (N := some 75) HT_.out #[true,true,false,true,true,false,false,true,false,false,false,false,false,false,false,false,false,false,false,false,false,false] ?_
         refine puq (i := 8) (N := some 76) HT_.out #[true,true,false,true,true,false,false,true,true,false,false,false,false,false,false,false,false,false,false,false,false,false] ?_
         refine take_ (i := 2) (N := some 70) #[true,true,true,true,true,false,false,true,true,false,false,false,false,false,false,false,false,false,false,false,false,false] rfl rfl (zI HT_.out HW_.out (by kernel_rfl)) (fun _ _ _ h => h) (Or.inl ⟨by rfl,by rintro w' ⟨s0,s1,s2⟩;go_simp;with_reducible rfl⟩) hHeld hPq ?_
         refine take_ (i := 6) (N := some 74) #[true,true,true,true,true,false,true,true,true,false,false,false,false,false,false,false,false,false,false,false,false,false] rfl rfl (zI HT_.out HW_.out (by kernel_rfl)) (fun _ _ _ h => h) (Or.inl ⟨by rfl,by rintro w' ⟨s0,s1,s2⟩;go_simp;with_reducible rfl⟩) hHeld hPq ?_
         refine zb6 (i := 5) (N := some 73) (uQ 22 9) rfl rfl (zaO HT_.out (by kernel_rfl)) (by decide) (fun K hK => ?_)
         refine za8 Try.func13 (by kernel_rfl) rfl #[.agg #[.int .i64 a0_0,.int .i64 a0_1,.slice A0_2 l0_2.length c0_2],.string a0_3,.string a0_4] (by rfl) rfl rfl hMq ?_
         with_reducible refine (zaA.calls a0_0 a0_1 (fun k_ => k_ < w.heap.size) _ _ l0_2 a0_3 a0_4 t375 _ ?side1 A36.out).mono ?_
         (case side1 => exact Kd.V_mk HC0_2.out (Kd.F_below (Kd.C_F zbU HR0_2.out) hCq))
         rintro e w65 ⟨rfl,hb⟩
         refine ⟨_,rfl,?_⟩
         have n0_ := za.mk (Kd.V_below (by (with_reducible repeat (first | apply Kd.V_alloc | apply Kd.V_drewN | apply Kd.V_drew));exact HO370.out) hb)
         have n1_ := za.mk (Kd.N_below (by (with_reducible repeat (first | apply Kd.N_alloc | apply Kd.N_drewN | apply Kd.N_drew));exact HO373.out) hb)
         have n2_ := za.mk (hbq BK361.out hb)
         have n3_ := za.mk (hbq BK362.out hb)
         have n4_ := za.mk (hbq BK363.out hb)
         have n5_ := za.mk (zh hCq hb)
         clear HO370
         clear HO373
         clear BK361
         clear BK362
         clear BK363
         clear HB
         have HO370 := n0_
         have HO373 := n1_
         have BK361 := n2_
         have BK362 := n3_
         have BK363 := n4_
         have HB := n5_
         clear n0_ n1_ n2_ n3_ n4_ n5_
         (try clear hb)
         (try clear hb2)
         (try clear hk)
         (try clear hi)
         refine hK.out _ _ ⟨(zb BK362.out 0).trans rfl,(zb BK362.out 1).trans rfl,(zb BK362.out 2).trans rfl⟩ (fun hHeld => ?_)
         clear hK K
         refine za9 (a' := ?_) ?_ ?_
         rotate_left
         ·show Act.put _ (some 73) _ = _
          simp only [Act.put,List.setIfInBounds_toArray,List.set_cons_zero,List.set_cons_succ,z8,zaa]
          rfl
         refine zb6 (i := 9) (N := some 77) (uQ 22 10) rfl rfl (zaO HT_.out (by kernel_rfl)) (by decide) (fun K hK => ?_)
         refine za8 Try.func14 (by kernel_rfl) rfl #[.agg #[.int .i64 a0_0,.int .i64 a0_1,.slice A0_2 l0_2.length c0_2],.string a0_3,.string a0_4] (by rfl) rfl rfl hMq ?_
         with_reducible refine (zE.calls k2 a0_0 a0_1 _ _ l0_2 a0_3 a0_4 t376 _ ?side1 ?side2 A37.out).mono ?_
         (case side1 => exact hKq (Kd.C_below HR0_2.out HB.out))
         (case side2 => exact HC0_2.out)
         rintro e w66 ⟨rfl,hb⟩
         refine ⟨_,rfl,?_⟩
         have n0_ := za.mk (Kd.V_below (by (with_reducible repeat (first | apply Kd.V_alloc | apply Kd.V_drewN | apply Kd.V_drew));exact HO370.out) hb)
         have n1_ := za.mk (Kd.N_below (by (with_reducible repeat (first | apply Kd.N_alloc | apply Kd.N_drewN | apply Kd.N_drew));exact HO373.out) hb)
         have n2_ := za.mk (hbq BK361.out hb)
         have n3_ := za.mk (hbq BK362.out hb)
         have n4_ := za.mk (hbq BK363.out hb)
         have n5_ := za.mk (zh hCq hb)
         clear HO370
         clear HO373
         clear BK361
         clear BK362
         clear BK363
         clear HB
         have HO370 := n0_
         have HO373 := n1_
         have BK361 := n2_
         have BK362 := n3_
         have BK363 := n4_
         have HB := n5_
         clear n0_ n1_ n2_ n3_ n4_ n5_
         (try clear hb)
         (try clear hb2)
         (try clear hk)
         (try clear hi)
         refine hK.out _ _ ⟨(zb BK362.out 0).trans rfl,(zb BK362.out 1).trans rfl,(zb BK362.out 2).trans rfl⟩ (fun hHeld => ?_)
         clear hK K
         refine za9 (a' := ?_) ?_ ?_
         rotate_left
         ·show Act.put _ (some 77) _ = _
          simp only [Act.put,List.setIfInBounds_toArray,List.set_cons_zero,List.set_cons_succ,z8,zaa]
          rfl
         refine puq (i := 10) (N := some 78) HT_.out (uQ 22 11) ?_
         refine puq (i := 11) (N := some 79) HT_.out (uQ 22 12) ?_
         refine puq (i := 12) (N := some 80) HT_.out (uQ 22 13) ?_
         refine zaR (i := 13) (N := some 81) (v := undef) (a' := ?_) (uQ 22 14) rfl rfl (zat HT_.out (by kernel_rfl)) (fun _ _ _ h => h) (Or.inr ⟨by rfl,rfl⟩) ?_ ?_
         rotate_left
         ·simp only [Act.put,List.setIfInBounds_toArray,List.set_cons_zero,List.set_cons_succ,z8,zaa]
          rfl
         refine zaR (i := 14) (N := some 82) (v := undef) (a' := ?_) (uQ 22 15) rfl rfl (zat HT_.out (by kernel_rfl)) (fun _ _ _ h => h) (Or.inr ⟨by rfl,rfl⟩) ?_ ?_
         rotate_left
         ·simp only [Act.put,List.setIfInBounds_toArray,List.set_cons_zero,List.set_cons_succ,z8,zaa]
          rfl
         refine zaR (i := 15) (N := some 83) (v := undef) (a' := ?_) (uQ 22 16) rfl rfl (zat HT_.out (by kernel_rfl)) (fun _ _ _ h => h) (Or.inr ⟨by rfl,rfl⟩) ?_ ?_
         rotate_left
         ·simp only [Act.put,List.setIfInBounds_toArray,List.set_cons_zero,List.set_cons_succ,z8,zaa]
          rfl
         refine zaR (i := 16) (N := some 84) (v := undef) (a' := ?_) (uQ 22 17) rfl rfl (zat HT_.out (by kernel_rfl)) (fun _ _ _ h => h) (Or.inr ⟨by rfl,rfl⟩) ?_ ?_
         rotate_left
         ·simp only [Act.put,List.setIfInBounds_toArray,List.set_cons_zero,List.set_cons_succ,z8,zaa]
          rfl
         refine zaR (i := 17) (N := some 85) (v := undef) (a' := ?_) (uQ 22 18) rfl rfl (zat HT_.out (by kernel_rfl)) (fun _ _ _ h => h) (Or.inr ⟨by rfl,rfl⟩) ?_ ?_
         rotate_left
         ·simp only [Act.put,List.setIfInBounds_toArray,List.set_cons_zero,List.set_cons_succ,z8,zaa]
          rfl
         refine zaR (i := 18) (N := some 86) (v := undef) (a' := ?_) (uQ 22 19) rfl rfl (zat HT_.out (by kernel_rfl)) (fun _ _ _ h => h) (Or.inr ⟨by rfl,rfl⟩) ?_ ?_
         rotate_left
         ·simp only [Act.put,List.setIfInBounds_toArray,List.set_cons_zero,List.set_cons_succ,z8,zaa]
          rfl
         refine zaR (i := 19) (N := some 87) (v := undef) (a' := ?_) (uQ 22 20) rfl rfl (zat HT_.out (by kernel_rfl)) (fun _ _ _ h => h) (Or.inr ⟨by rfl,rfl⟩) ?_ ?_
         rotate_left
         ·simp only [Act.put,List.setIfInBounds_toArray,List.set_cons_zero,List.set_cons_succ,z8,zaa]
          rfl
         refine puq (i := 20) (N := some 88) HT_.out (uQ 22 21) ?_
         refine puq (i := 21) (N := some 2) HT_.out (uQ 22 22) ?_
         refine zbl (zaF HT_.out (by kernel_rfl)) ?_
         try go_wp2
         go_ret
         exact ⟨hHq,hCq⟩
       ·replace c35 := Bool.eq_false_iff.mpr c35
        subst c35
        have H1 : (some false) = some r := by rw [if_neg (show ¬ (false = true) by decide)] at H;exact H
        clear H
        have H := H1
        clear H1
        obtain rfl := Option.some.inj H
        have hnb67 := NB362_361.out
        have hnc67 := NB361_362.out
        have hnb68 := NB362_363.out
        have hnc68 := NB363_362.out
        obtain ⟨hcz69_0,hcz69_1,hcz69_2,hfz69_0,hfz69_1,hfz69_2⟩ := hcq3 BK362.out
        try go_wp2
        have n0_ := za.mk (zG BK361.out)
        have n1_ := za.mk (zG BK362.out)
        have n2_ := za.mk (zG BK363.out)
        have n3_ := za.mk (zx HB.out)
        clear BK361
        clear BK362
        clear BK363
        clear HB
        have BK361 := n0_
        have BK362 := n1_
        have BK363 := n2_
        have HB := n3_
        clear n0_ n1_ n2_ n3_
        refine zbk (n := 10) (S := fun w' => w'.cell? ⟨gb362,0,none⟩ = some (.int .i64 a0_0) ∧ w'.cell? ⟨gb362,1,none⟩ = some (.int .i64 a0_1) ∧ w'.cell? ⟨gb362,2,none⟩ = some (.slice A0_2 l0_2.length c0_2)) (ds := []) (uQ 10 0) (by kernel_rfl) rfl rfl ⟨(zb BK362.out 0).trans rfl,(zb BK362.out 1).trans rfl,(zb BK362.out 2).trans rfl⟩ (fun hHeld => ?_);refine zaz zg.tab18 zg.bits18 (fun HT_ HW_ => ?_)
        generalize wr.drew = w70 at BK361 BK362 BK363 HB hHeld ⊢
        refine puq (i := 1) (N := some 60) HT_.out #[false,true,false,false,false,false,false,false,false,false] ?_
        refine puq (i := 2) (N := some 61) HT_.out #[false,true,true,false,false,false,false,false,false,false] ?_
        refine puq (i := 5) (N := some 64) HT_.out #[false,true,true,false,false,true,false,false,false,false] ?_
        refine puq (i := 6) (N := some 65) HT_.out #[false,true,true,false,false,true,true,false,false,false] ?_
        refine take_ (i := 0) (N := some 59) #[true,true,true,false,false,true,true,false,false,false] rfl rfl (zI HT_.out HW_.out (by kernel_rfl)) (fun _ _ _ h => h) (Or.inl ⟨by rfl,by rintro w' ⟨s0,s1,s2⟩;go_simp;with_reducible rfl⟩) hHeld hPq ?_
        refine take_ (i := 4) (N := some 63) #[true,true,true,false,true,true,true,false,false,false] rfl rfl (zI HT_.out HW_.out (by kernel_rfl)) (fun _ _ _ h => h) (Or.inl ⟨by rfl,by rintro w' ⟨s0,s1,s2⟩;go_simp;with_reducible rfl⟩) hHeld hPq ?_
        refine zb6 (i := 3) (N := some 62) (uQ 10 7) rfl rfl (zaO HT_.out (by kernel_rfl)) (by decide) (fun K hK => ?_)
        refine za8 Try.func11 (by kernel_rfl) rfl #[.agg #[.int .i64 a0_0,.int .i64 a0_1,.slice A0_2 l0_2.length c0_2],.string a0_3,.int .i64 a0_5] (by rfl) rfl rfl hMq ?_
        with_reducible refine (zbd.calls a0_0 a0_1 (fun k_ => k_ < w.heap.size) _ _ l0_2 a0_3 a0_5 t368 _ ?side1 A32.out).mono ?_
        (case side1 => exact Kd.V_mk HC0_2.out (Kd.F_below (Kd.C_F zbU HR0_2.out) hCq))
        rintro e w71 ⟨v369,rfl,ho0,hb⟩
        refine ⟨_,rfl,?_⟩
        have n0_ := za.mk (Kd.V_lower (Kd.V_mono (ok' := fun k_ => k_ ≠ gb361 ∧ k_ ≠ gb362 ∧ k_ ≠ gb363) ho0 (fun k_ hk_ => ⟨Or.elim hk_ (fun hs_ => fun e_ => Nat.not_le.2 hs_ (by rw [e_];exact GW361.out)) (fun hn_ => (Kd.freshB (g := gb361) (o := .cells #[.int .i64 a0_0,.int .i64 a0_1,.slice A0_2 l0_2.length c0_2,.string a0_3,.string a0_4,.int .i64 a0_5,.int .i64 a0_6,.int .i64 a0_7,.slice A0_8 l0_8.length c0_8] 42 (0,0)) (hGq BK361.out) k_ hn_)),Or.elim hk_ (fun hs_ => fun e_ => Nat.not_le.2 hs_ (by rw [e_];exact GW362.out)) (fun hn_ => (Kd.freshB (g := gb362) (o := .cells #[.int .i64 a0_0,.int .i64 a0_1,.slice A0_2 l0_2.length c0_2] 24 (0,0)) (hGq BK362.out) k_ hn_)),Or.elim hk_ (fun hs_ => fun e_ => Nat.not_le.2 hs_ (by rw [e_];exact GW363.out)) (fun hn_ => (Kd.freshB (g := gb363) (o := .cells #[.int .i64 a0_6,.int .i64 a0_7,.slice A0_8 l0_8.length c0_8] 24 (0,0)) (hGq BK363.out) k_ hn_))⟩)) (zj hCq))
        have n1_ := za.mk (hbq BK361.out hb)
        have n2_ := za.mk (hbq BK362.out hb)
        have n3_ := za.mk (hbq BK363.out hb)
        have n4_ := za.mk (zh hCq hb)
        clear BK361
        clear BK362
        clear BK363
        clear HB
        have HO370 := n0_
        have BK361 := n1_
        have BK362 := n2_
        have BK363 := n3_
        have HB := n4_
        clear n0_ n1_ n2_ n3_ n4_
        (try clear hb)
        (try clear hb2)
        (try clear hk)
        (try clear hi)
        (try clear ho0)
        refine hK.out _ _ ⟨(zb BK362.out 0).trans rfl,(zb BK362.out 1).trans rfl,(zb BK362.out 2).trans rfl⟩ (fun hHeld => ?_)
        clear hK K
        refine za9 (a' := ?_) ?_ ?_
        rotate_left
        ·show Act.put _ (some 62) _ = _
         simp only [Act.put,List.setIfInBounds_toArray,List.set_cons_zero,List.set_cons_succ,z8,zaa]
         rfl
        refine zb6 (i := 7) (N := some 66) (uQ 10 8) rfl rfl (zaO HT_.out (by kernel_rfl)) (by decide) (fun K hK => ?_)
        refine za8 Try.func12 (by kernel_rfl) rfl #[.agg #[.int .i64 a0_0,.int .i64 a0_1,.slice A0_2 l0_2.length c0_2],.string a0_3,.int .i64 a0_5] (by rfl) rfl rfl hMq ?_
        with_reducible refine (zD.calls k2 a0_0 a0_1 (fun k_ => k_ < w.heap.size) _ _ l0_2 a0_3 a0_5 t371 _ ?side1 A33.out).mono ?_
        (case side1 => exact Kd.V_mk HC0_2.out (Kd.F_below (Kd.C_F zbU HR0_2.out) hCq))
        rintro e w72 ⟨v372,rfl,ho0,hb⟩
        refine ⟨_,rfl,?_⟩
        have n0_ := za.mk (Kd.V_elder' (by (with_reducible repeat (first | apply Kd.V_alloc | apply Kd.V_drewN | apply Kd.V_drew));exact HO370.out) (Kd.N_base ho0) hb)
        have n1_ := za.mk (Kd.N_lower (Kd.N_mono (ok' := fun k_ => k_ ≠ gb361 ∧ k_ ≠ gb362 ∧ k_ ≠ gb363) ho0 (fun k_ hk_ => ⟨Or.elim hk_ (fun hs_ => fun e_ => Nat.not_le.2 hs_ (by rw [e_];exact GW361.out)) (fun hn_ => (Kd.freshB (g := gb361) (o := .cells #[.int .i64 a0_0,.int .i64 a0_1,.slice A0_2 l0_2.length c0_2,.string a0_3,.string a0_4,.int .i64 a0_5,.int .i64 a0_6,.int .i64 a0_7,.slice A0_8 l0_8.length c0_8] 42 (0,0)) (hGq BK361.out) k_ hn_)),Or.elim hk_ (fun hs_ => fun e_ => Nat.not_le.2 hs_ (by rw [e_];exact GW362.out)) (fun hn_ => (Kd.freshB (g := gb362) (o := .cells #[.int .i64 a0_0,.int .i64 a0_1,.slice A0_2 l0_2.length c0_2] 24 (0,0)) (hGq BK362.out) k_ hn_)),Or.elim hk_ (fun hs_ => fun e_ => Nat.not_le.2 hs_ (by rw [e_];exact GW363.out)) (fun hn_ => (Kd.freshB (g := gb363) (o := .cells #[.int .i64 a0_6,.int .i64 a0_7,.slice A0_8 l0_8.length c0_8] 24 (0,0)) (hGq BK363.out) k_ hn_))⟩)) (zj hCq))
        have n2_ := za.mk (hbq BK361.out hb)
        have n3_ := za.mk (hbq BK362.out hb)
        have n4_ := za.mk (hbq BK363.out hb)
        have n5_ := za.mk (zh hCq hb)
        clear HO370
        clear BK361
        clear BK362
        clear BK363
        clear HB
        have HO370 := n0_
        have HO373 := n1_
        have BK361 := n2_
        have BK362 := n3_
        have BK363 := n4_
        have HB := n5_
        clear n0_ n1_ n2_ n3_ n4_ n5_
        (try clear hb)
        (try clear hb2)
        (try clear hk)
        (try clear hi)
        (try clear ho0)
        obtain ⟨Ao73,co73,eo73⟩ := Kd.V_slice HO370.out
        (first | subst eo73 | (injection eo73 with f1_ f2_ f3_;have f4_ := f1_.symm;have f5_ := f3_.symm;clear f1_ f2_ f3_;subst f4_;subst f5_))
        obtain ⟨Ao74,co74,eo74⟩ := Kd.N_slice HO373.out
        (first | subst eo74 | (injection eo74 with f1_ f2_ f3_;have f4_ := f1_.symm;have f5_ := f3_.symm;clear f1_ f2_ f3_;subst f4_;subst f5_))
        refine hK.out _ _ ⟨(zb BK362.out 0).trans rfl,(zb BK362.out 1).trans rfl,(zb BK362.out 2).trans rfl⟩ (fun hHeld => ?_)
        clear hK K
        refine za9 (a' := ?_) ?_ ?_
        rotate_left
        ·show Act.put _ (some 66) _ = _
         simp only [Act.put,List.setIfInBounds_toArray,List.set_cons_zero,List.set_cons_succ,z8,zaa]
         rfl
        refine zb6 (i := 8) (N := some 67) (uQ 10 9) rfl rfl (zaO HT_.out (by kernel_rfl)) (by decide) (fun K hK => ?_)
        refine za8 Try.func10 (by kernel_rfl) rfl #[.slice Ao73 t368.length co73,.slice Ao74 t371.length co74] (by rfl) rfl rfl hMq ?_
        with_reducible refine (zk.calls k2 _ _ t368 _ _ t371 false _ ?side1 ?side2 ?side3 ?side4 A34.out).mono ?_
        (case side1 => repeat (first | exact (Kd.V_reads' HO370.out).2.2 | (with_reducible refine Kd.C_alloc ?_ _) | (with_reducible refine Kd.C_drewN ?_ _) | (with_reducible refine Kd.C_drew ?_)))
        (case side2 => exact (Kd.V_reads' HO370.out).2.1)
        (case side3 => repeat (first | exact (Kd.N_reads' HO373.out).2.2 | (with_reducible refine Kd.C_alloc ?_ _) | (with_reducible refine Kd.C_drewN ?_ _) | (with_reducible refine Kd.C_drew ?_)))
        (case side4 => exact (Kd.N_reads' HO373.out).2.1)
        rintro e w75 ⟨rfl,hb⟩
        refine ⟨_,rfl,?_⟩
        have n0_ := za.mk (Kd.V_below (by (with_reducible repeat (first | apply Kd.V_alloc | apply Kd.V_drewN | apply Kd.V_drew));exact HO370.out) hb)
        have n1_ := za.mk (Kd.N_below (by (with_reducible repeat (first | apply Kd.N_alloc | apply Kd.N_drewN | apply Kd.N_drew));exact HO373.out) hb)
        have n2_ := za.mk (hbq BK361.out hb)
        have n3_ := za.mk (hbq BK362.out hb)
        have n4_ := za.mk (hbq BK363.out hb)
        have n5_ := za.mk (zh hCq hb)
        clear HO370
        clear HO373
        clear BK361
        clear BK362
        clear BK363
        clear HB
        have HO370 := n0_
        have HO373 := n1_
        have BK361 := n2_
        have BK362 := n3_
        have BK363 := n4_
        have HB := n5_
        clear n0_ n1_ n2_ n3_ n4_ n5_
        (try clear hb)
        (try clear hb2)
        (try clear hk)
        (try clear hi)
        refine hK.out _ _ ⟨(zb BK362.out 0).trans rfl,(zb BK362.out 1).trans rfl,(zb BK362.out 2).trans rfl⟩ (fun hHeld => ?_)
        clear hK K
        refine za9 (a' := ?_) ?_ ?_
        rotate_left
        ·show Act.put _ (some 67) _ = _
         simp only [Act.put,List.setIfInBounds_toArray,List.set_cons_zero,List.set_cons_succ,z8,zaa]
         rfl
        refine puq (i := 9) (N := some 12) HT_.out (uQ 10 10) ?_
        refine zbl (zaF HT_.out (by kernel_rfl)) ?_
        try go_wp2
        have n0_ := za.mk (Kd.V_drew HO370.out)
        have n1_ := za.mk (Kd.N_drew HO373.out)
        have n2_ := za.mk (zG BK361.out)
        have n3_ := za.mk (zG BK362.out)
        have n4_ := za.mk (zG BK363.out)
        have n5_ := za.mk (zx HB.out)
        clear HO370
        clear HO373
        clear BK361
        clear BK362
        clear BK363
        clear HB
        have HO370 := n0_
        have HO373 := n1_
        have BK361 := n2_
        have BK362 := n3_
        have BK363 := n4_
        have HB := n5_
        clear n0_ n1_ n2_ n3_ n4_ n5_
        refine zbk (n := 22) (S := fun w' => True) (ds := []) (uQ 22 0) (by kernel_rfl) rfl rfl trivial (fun hHeld => ?_);refine zaz zg.tab19 zg.bits19 (fun HT_ HW_ => ?_)
        generalize w75.drew = w76 at HO370 HO373 BK361 BK362 BK363 HB hHeld ⊢
        refine puq (i := 0) (N := some 68) HT_.out (uQ 22 1) ?_
        refine puq (i := 1) (N := some 69) HT_.out (uQ 22 2) ?_
        refine zaR (i := 2) (N := some 70) (v := undef) (a' := ?_) (uQ 22 3) rfl rfl (zat HT_.out (by kernel_rfl)) (fun _ _ _ h => h) (Or.inr ⟨by rfl,rfl⟩) ?_ ?_
        rotate_left
        ·simp only [Act.put,List.setIfInBounds_toArray,List.set_cons_zero,List.set_cons_succ,z8,zaa]
         rfl
        refine zaR (i := 3) (N := some 71) (v := undef) (a' := ?_) (uQ 22 4) rfl rfl (zat HT_.out (by kernel_rfl)) (fun _ _ _ h => h) (Or.inr ⟨by rfl,rfl⟩) ?_ ?_
        rotate_left
        ·simp only [Act.put,List.setIfInBounds_toArray,List.set_cons_zero,List.set_cons_succ,z8,zaa]
         rfl
        refine zaR (i := 4) (N := some 72) (v := undef) (a' := ?_) (uQ 22 5) rfl rfl (zat HT_.out (by kernel_rfl)) (fun _ _ _ h => h) (Or.inr ⟨by rfl,rfl⟩) ?_ ?_
        rotate_left
        ·simp only [Act.put,List.setIfInBounds_toArray,List.set_cons_zero,List.set_cons_succ,z8,zaa]
         rfl
        refine zaR (i := 5) (N := some 73) (v := undef) (a' := ?_) (uQ 22 6) rfl rfl (zat HT_.out (by kernel_rfl)) (fun _ _ _ h => h) (Or.inr ⟨by rfl,rfl⟩) ?_ ?_
        rotate_left
        ·simp only [Act.put,List.setIfInBounds_toArray,List.set_cons_zero,List.set_cons_succ,z8,zaa]
         rfl
        refine zaR (i := 6) (N := some 74) (v := undef) (a' := ?_) (uQ 22 7) rfl rfl (zat HT_.out (by kernel_rfl)) (fun _ _ _ h => h) (Or.inr ⟨by rfl,rfl⟩) ?_ ?_
        rotate_left
        ·simp only [Act.put,List.setIfInBounds_toArray,List.set_cons_zero,List.set_cons_succ,z8,zaa]
         rfl
        refine zaR (i := 7) (N := some 75) (v := undef) (a' := ?_) (uQ 22 8) rfl rfl (zat HT_.out (by kernel_rfl)) (fun _ _ _ h => h) (Or.inr ⟨by rfl,rfl⟩) ?_ ?_
        rotate_left
        ·simp only [Act.put,List.setIfInBounds_toArray,List.set_cons_zero,List.set_cons_succ,z8,zaa]
         rfl
        refine zaR (i := 8) (N := some 76) (v := undef) (a' := ?_) (uQ 22 9) rfl rfl (zat HT_.out (by kernel_rfl)) (fun _ _ _ h => h) (Or.inr ⟨by rfl,rfl⟩) ?_ ?_
        rotate_left
        ·simp only [Act.put,List.setIfInBounds_toArray,List.set_cons_zero,List.set_cons_succ,z8,zaa]
         rfl
        refine zaR (i := 9) (N := some 77) (v := undef) (a' := ?_) (uQ 22 10) rfl rfl (zat HT_.out (by kernel_rfl)) (fun _ _ _ h => h) (Or.inr ⟨by rfl,rfl⟩) ?_ ?_
        rotate_left
        ·simp only [Act.put,List.setIfInBounds_toArray,List.set_cons_zero,List.set_cons_succ,z8,zaa]
         rfl
        refine zaR (i := 10) (N := some 78) (v := undef) (a' := ?_) (uQ 22 11) rfl rfl (zat HT_.out (by kernel_rfl)) (fun _ _ _ h => h) (Or.inr ⟨by rfl,rfl⟩) ?_ ?_
        rotate_left
        ·simp only [Act.put,List.setIfInBounds_toArray,List.set_cons_zero,List.set_cons_succ,z8,zaa]
         rfl
        refine puq (i := 11) (N := some 79) HT_.out (uQ 22 12) ?_
        refine puq (i := 12) (N := some 80) HT_.out (uQ 22 13) ?_
        refine zaR (i := 13) (N := some 81) (v := undef) (a' := ?_) (uQ 22 14) rfl rfl (zat HT_.out (by kernel_rfl)) (fun _ _ _ h => h) (Or.inr ⟨by rfl,rfl⟩) ?_ ?_
        rotate_left
        ·simp only [Act.put,List.setIfInBounds_toArray,List.set_cons_zero,List.set_cons_succ,z8,zaa]
         rfl
        refine zaR (i := 14) (N := some 82) (v := undef) (a' := ?_) (uQ 22 15) rfl rfl (zat HT_.out (by kernel_rfl)) (fun _ _ _ h => h) (Or.inr ⟨by rfl,rfl⟩) ?_ ?_
        rotate_left
        ·simp only [Act.put,List.setIfInBounds_toArray,List.set_cons_zero,List.set_cons_succ,z8,zaa]
         rfl
        refine zaR (i := 15) (N := some 83) (v := undef) (a' := ?_) (uQ 22 16) rfl rfl (zat HT_.out (by kernel_rfl)) (fun _ _ _ h => h) (Or.inr ⟨by rfl,rfl⟩) ?_ ?_
        rotate_left
        ·simp only [Act.put,List.setIfInBounds_toArray,List.set_cons_zero,List.set_cons_succ,z8,zaa]
         rfl
        refine zaR (i := 16) (N := some 84) (v := undef) (a' := ?_) (uQ 22 17) rfl rfl (zat HT_.out (by kernel_rfl)) (fun _ _ _ h => h) (Or.inr ⟨by rfl,rfl⟩) ?_ ?_
        rotate_left
        ·simp only [Act.put,List.setIfInBounds_toArray,List.set_cons_zero,List.set_cons_succ,z8,zaa]
         rfl
        refine zaR (i := 17) (N := some 85) (v := undef) (a' := ?_) (uQ 22 18) rfl rfl (zat HT_.out (by kernel_rfl)) (fun _ _ _ h => h) (Or.inr ⟨by rfl,rfl⟩) ?_ ?_
        rotate_left
        ·simp only [Act.put,List.setIfInBounds_toArray,List.set_cons_zero,List.set_cons_succ,z8,zaa]
         rfl
        refine zaR (i := 18) (N := some 86) (v := undef) (a' := ?_) (uQ 22 19) rfl rfl (zat HT_.out (by kernel_rfl)) (fun _ _ _ h => h) (Or.inr ⟨by rfl,rfl⟩) ?_ ?_
        rotate_left
        ·simp only [Act.put,List.setIfInBounds_toArray,List.set_cons_zero,List.set_cons_succ,z8,zaa]
         rfl
        refine zaR (i := 19) (N := some 87) (v := undef) (a' := ?_) (uQ 22 20) rfl rfl (zat HT_.out (by kernel_rfl)) (fun _ _ _ h => h) (Or.inr ⟨by rfl,rfl⟩) ?_ ?_
        rotate_left
        ·simp only [Act.put,List.setIfInBounds_toArray,List.set_cons_zero,List.set_cons_succ,z8,zaa]
         rfl
        refine puq (i := 20) (N := some 88) HT_.out (uQ 22 21) ?_
        refine puq (i := 21) (N := some 2) HT_.out (uQ 22 22) ?_
        refine zbl (zaF HT_.out (by kernel_rfl)) ?_
        try go_wp2
        go_ret
        exact ⟨hHq,hCq⟩
end Go.Proofs.Ytndjfdakflaggaa.Px