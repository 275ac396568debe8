/- Part 23 of 35 of the proof of the law PostTakes: what is proved is the statement at the end of the last part; its conditions are those of the given row. -/
import Derived.Laws.BitsAllLaws
import Derived.Test.YtgdpiegkoeikiaaZPostTakesV
namespace Go.Proofs.Ytgdpiegkoeikiaa.Px
open Go.RowKit Go.Proofs.YtgdpiegkoeikiaaW.PrintWords Go.Proofs.YtgdpiegkoeikiaaW.PrintLast Go.Proofs.YtgdpiegkoeikiaaW.PrintMore
attribute [local go_sem] zF zH zQ zR zy zz zG zI
set_option linter.unusedVariables false
set_option linter.unusedSimpArgs false
def zaS.f (k : Nat) (a0_0 : Int) (a0_1 : Int) (l0_2 : List (zY)) (l0_3 : List ByteArray) (a0_4 : Int) (a0_5 : Int) (a0_6 : Int) (a1 : Int) : Option (Int) := (zo.f k a0_0 a0_1 l0_2 l0_3 a0_4 a0_5 a1).bind fun t306 => (if t306 = true then ((zaE.f k a0_6 a1).bind fun t307 => (if t307 = true then ((zaC.f k a0_6).bind fun t308 => ((z7.f a1).bind fun t309 => (if t308 < t309 then (some 2) else (some 0)))) else (some 4))) else (some 1))
set_option maxHeartbeats 8000000 in
set_option maxRecDepth 100000 in
theorem zaS.calls (k : Nat) (a0_0 : Int) (a0_1 : Int) (A0_2 : Option Addr) (c0_2 : Nat) (l0_2 : List (zY)) (A0_3 : Option Addr) (c0_3 : Nat) (l0_3 : List ByteArray) (a0_4 : Int) (a0_5 : Int) (a0_6 : Int) (a1 : Int) (r : Int) (w : World) (hr0_2 : Kd.C zb1 w A0_2 l0_2.length l0_2) (hc0_2 : l0_2.length ≤ c0_2) (hr0_3 : Kd.C Kd.string w A0_3 l0_3.length l0_3) (hc0_3 : l0_3.length ≤ c0_3) (h : zaS.f k a0_0 a0_1 l0_2 l0_3 a0_4 a0_5 a0_6 a1 = some r) :
  Calls Try.prog 66 #[.agg #[.int .i64 a0_0,.int .i64 a0_1,.slice A0_2 l0_2.length c0_2,.slice A0_3 l0_3.length c0_3,.int .i64 a0_4,.int .i64 a0_5,.int .u64 a0_6],.int .i64 a1] w fun e w' => e = .returned (.int .i64 r) ∧ Below w.heap.size w w' := by
 have hu36 := Try.underlying36
 have hu28 := Try.underlying28
 have HR0_2 := zc.mk hr0_2
 have HC0_2 := zc.mk hc0_2
 clear hr0_2 hc0_2
 have HR0_3 := zc.mk hr0_3
 have HC0_3 := zc.mk hc0_3
 clear hr0_3 hc0_3
 have HB := zc.mk (Below.refl w.heap.size w)
 have H : ((zo.f k a0_0 a0_1 l0_2 l0_3 a0_4 a0_5 a1).bind fun t306 => (if t306 = true then ((zaE.f k a0_6 a1).bind fun t307 => (if t307 = true then ((zaC.f k a0_6).bind fun t308 => ((z7.f a1).bind fun t309 => (if t308 < t309 then (some 2) else (some 0)))) else (some 4))) else (some 1))) = some r := h
 clear h
 replace H := Option.bind_eq_some_iff.mp H
 obtain ⟨t306,A30,H⟩ := H
 replace H : (if t306 = true then ((zaE.f k a0_6 a1).bind fun t307 => (if t307 = true then ((zaC.f k a0_6).bind fun t308 => ((z7.f a1).bind fun t309 => (if t308 < t309 then (some 2) else (some 0)))) else (some 4))) else (some 1)) = some r := H
 have A3 := zc.mk A30
 clear A30
 by_cases c4 : t306 = true
 focus
  subst c4
  have H1 : ((zaE.f k a0_6 a1).bind fun t307 => (if t307 = true then ((zaC.f k a0_6).bind fun t308 => ((z7.f a1).bind fun t309 => (if t308 < t309 then (some 2) else (some 0)))) else (some 4))) = some r := by rw [if_pos rfl] at H;exact H
  clear H
  have H := H1
  clear H1
  replace H := Option.bind_eq_some_iff.mp H
  obtain ⟨t307,A50,H⟩ := H
  replace H : (if t307 = true then ((zaC.f k a0_6).bind fun t308 => ((z7.f a1).bind fun t309 => (if t308 < t309 then (some 2) else (some 0)))) else (some 4)) = some r := H
  have A5 := zc.mk A50
  clear A50
  by_cases c6 : t307 = true
  focus
   subst c6
   have H1 : ((zaC.f k a0_6).bind fun t308 => ((z7.f a1).bind fun t309 => (if t308 < t309 then (some 2) else (some 0)))) = some r := by rw [if_pos rfl] at H;exact H
   clear H
   have H := H1
   clear H1
   replace H := Option.bind_eq_some_iff.mp H
   obtain ⟨t308,A70,H⟩ := H
   replace H : ((z7.f a1).bind fun t309 => (if t308 < t309 then (some 2) else (some 0))) = some r := H
   have A7 := zc.mk A70
   clear A70
   replace H := Option.bind_eq_some_iff.mp H
   obtain ⟨t309,A80,H⟩ := H
   replace H : (if t308 < t309 then (some 2) else (some 0)) = some r := H
   have A8 := zc.mk A80
   clear A80
   by_cases c9 : t308 < t309
   focus
    rw [if_pos c9] at H
    have c9b0 : decide (t308 < t309) = true := decide_eq_true c9
    clear c9
    obtain rfl := Option.some.inj H
    have EQ0 := True.intro
    have EQ1 := True.intro
   rotate_left
   focus
    rw [if_neg c9] at H
    have c9b0 : decide (t308 < t309) = false := decide_eq_false c9
    clear c9
    obtain rfl := Option.some.inj H
    have EQ0 := True.intro
    have EQ1 := True.intro
  rotate_left 2
  focus
   replace c6 := Bool.eq_false_iff.mpr c6
   subst c6
   have H1 : (some 4) = some r := by rw [if_neg (show ¬ (false = true) by decide)] at H;exact H
   clear H
   have H := H1
   clear H1
   obtain rfl := Option.some.inj H
   have EQ0 := True.intro
   have EQ2 := True.intro
 rotate_left 3
 focus
  replace c4 := Bool.eq_false_iff.mpr c4
  subst c4
  have H1 : (some 1) = some r := by rw [if_neg (show ¬ (false = true) by decide)] at H;exact H
  clear H
  have H := H1
  clear H1
  obtain rfl := Option.some.inj H
  have EQ3 := True.intro
 all_goals
  go_enter Try.func66,Try.ntmps66
  go_wp2_with (first | ((with_reducible refine zu (N := 2) rfl ?_);refine zr ?hg (N := 2) ?hd (cs := #[.int .i64 a0_0,.int .i64 a0_1,.slice A0_2 l0_2.length c0_2,.slice A0_3 l0_3.length c0_3,.int .i64 a0_4,.int .i64 a0_5,.int .u64 a0_6]) (t := 36) ?hr ?_;(case hd => rfl);(case hg => rfl);(case hr => first | (go_simp;done) | (go_simp;rfl));intro gb305 hg wQN22 hbox hb;have n0_ := zc.mk (zj hBq hb);have n1_ := zc.mk (hbox);have n2_ := zc.mk ((by rw [hg];exact (zl hBq) : w.heap.size ≤ gb305));have n3_ := zc.mk ((by rw [hg];exact (zl hBq) : w.heap.size ≤ gb305));clear HB;have HB := n0_;have BK305 := n1_;have GW305 := n2_;have GE305 := n3_;clear n0_ n1_ n2_ n3_;clear hb hbox hg;have hczQN26 : wQN22.cell? ⟨gb305,0,none⟩ = some (.int .i64 a0_0) := (zb BK305.out 0).trans rfl;have hczQN27 : wQN22.cell? ⟨gb305,1,none⟩ = some (.int .i64 a0_1) := (zb BK305.out 1).trans rfl;have hczQN28 : wQN22.cell? ⟨gb305,2,none⟩ = some (.slice A0_2 l0_2.length c0_2) := (zb BK305.out 2).trans rfl;have hczQN29 : wQN22.cell? ⟨gb305,3,none⟩ = some (.slice A0_3 l0_3.length c0_3) := (zb BK305.out 3).trans rfl;have hczQN210 : wQN22.cell? ⟨gb305,4,none⟩ = some (.int .i64 a0_4) := (zb BK305.out 4).trans rfl;have hczQN211 : wQN22.cell? ⟨gb305,5,none⟩ = some (.int .i64 a0_5) := (zb BK305.out 5).trans rfl;have hczQN212 : wQN22.cell? ⟨gb305,6,none⟩ = some (.int .u64 a0_6) := (zb BK305.out 6).trans rfl;have hfzQN213 := za BK305.out 0;have hfzQN214 := za BK305.out 1;have hfzQN215 := za BK305.out 2;have hfzQN216 := za BK305.out 3;have hfzQN217 := za BK305.out 4;have hfzQN218 := za BK305.out 5;have hfzQN219 := za BK305.out 6) | (have _ := EQ0;((with_reducible refine zt (f := 63) rfl ?_);refine zU (some 10) rfl rfl Try.func63 (by kernel_rfl) rfl #[.agg #[.int .i64 a0_0,.int .i64 a0_1,.slice A0_2 l0_2.length c0_2,.slice A0_3 l0_3.length c0_3,.int .i64 a0_4,.int .i64 a0_5],.int .i64 a1] rfl (by (try simp only [List.map_toArray,List.map_cons,List.map_nil]);first | done | rfl | (simp only [List.length_drop,List.length_take];rfl)) ?_;(with_reducible refine (zo.calls k a0_0 a0_1 _ _ l0_2 _ _ l0_3 a0_4 a0_5 a1 true _ ?side1 ?side2 ?side3 ?side4 A3.out).mono ?_);(case side1 => repeat (first | exact (Kd.C_below HR0_2.out HB.out) | (with_reducible refine Kd.C_alloc ?_ _) | (with_reducible refine Kd.C_drewN ?_ _) | (with_reducible refine Kd.C_drew ?_)));(case side2 => exact HC0_2.out);(case side3 => repeat (first | exact (Kd.C_below HR0_3.out HB.out) | (with_reducible refine Kd.C_alloc ?_ _) | (with_reducible refine Kd.C_drewN ?_ _) | (with_reducible refine Kd.C_drew ?_)));(case side4 => exact HC0_3.out);rintro e wQF63A31 ⟨rfl,hb⟩;refine ⟨_,rfl,?_⟩;have n0_ := zc.mk (zh (g := gb305) (o := .cells #[.int .i64 a0_0,.int .i64 a0_1,.slice A0_2 l0_2.length c0_2,.slice A0_3 l0_3.length c0_3,.int .i64 a0_4,.int .i64 a0_5,.int .u64 a0_6] 36 (0,0)) (hGq BK305.out) hb);have n1_ := zc.mk (zj hCq hb);clear BK305;clear HB;have BK305 := n0_;have HB := n1_;clear n0_ n1_;(try clear hb);(try clear hb2);(try clear hk);(try clear hi);have hczQF63A33 : wQF63A31.cell? ⟨gb305,0,none⟩ = some (.int .i64 a0_0) := (zb BK305.out 0).trans rfl;have hczQF63A34 : wQF63A31.cell? ⟨gb305,1,none⟩ = some (.int .i64 a0_1) := (zb BK305.out 1).trans rfl;have hczQF63A35 : wQF63A31.cell? ⟨gb305,2,none⟩ = some (.slice A0_2 l0_2.length c0_2) := (zb BK305.out 2).trans rfl;have hczQF63A36 : wQF63A31.cell? ⟨gb305,3,none⟩ = some (.slice A0_3 l0_3.length c0_3) := (zb BK305.out 3).trans rfl;have hczQF63A37 : wQF63A31.cell? ⟨gb305,4,none⟩ = some (.int .i64 a0_4) := (zb BK305.out 4).trans rfl;have hczQF63A38 : wQF63A31.cell? ⟨gb305,5,none⟩ = some (.int .i64 a0_5) := (zb BK305.out 5).trans rfl;have hczQF63A39 : wQF63A31.cell? ⟨gb305,6,none⟩ = some (.int .u64 a0_6) := (zb BK305.out 6).trans rfl;have hfzQF63A310 := za BK305.out 0;have hfzQF63A311 := za BK305.out 1;have hfzQF63A312 := za BK305.out 2;have hfzQF63A313 := za BK305.out 3;have hfzQF63A314 := za BK305.out 4;have hfzQF63A315 := za BK305.out 5;have hfzQF63A316 := za BK305.out 6)) | (have _ := EQ1;((with_reducible refine zt (f := 100) rfl ?_);refine zU (some 16) rfl rfl Try.func100 (by kernel_rfl) rfl #[.int .u64 a0_6,.int .i64 a1] rfl (by (try simp only [List.map_toArray,List.map_cons,List.map_nil]);first | done | rfl | (simp only [List.length_drop,List.length_take];rfl)) ?_;(with_reducible refine (zaE.calls k a0_6 a1 true _ A5.out).mono ?_);rintro e wQF100A51 ⟨rfl,hb⟩;refine ⟨_,rfl,?_⟩;have n0_ := zc.mk (zh (g := gb305) (o := .cells #[.int .i64 a0_0,.int .i64 a0_1,.slice A0_2 l0_2.length c0_2,.slice A0_3 l0_3.length c0_3,.int .i64 a0_4,.int .i64 a0_5,.int .u64 a0_6] 36 (0,0)) (hGq BK305.out) hb);have n1_ := zc.mk (zj hCq hb);clear BK305;clear HB;have BK305 := n0_;have HB := n1_;clear n0_ n1_;(try clear hb);(try clear hb2);(try clear hk);(try clear hi);have hczQF100A53 : wQF100A51.cell? ⟨gb305,0,none⟩ = some (.int .i64 a0_0) := (zb BK305.out 0).trans rfl;have hczQF100A54 : wQF100A51.cell? ⟨gb305,1,none⟩ = some (.int .i64 a0_1) := (zb BK305.out 1).trans rfl;have hczQF100A55 : wQF100A51.cell? ⟨gb305,2,none⟩ = some (.slice A0_2 l0_2.length c0_2) := (zb BK305.out 2).trans rfl;have hczQF100A56 : wQF100A51.cell? ⟨gb305,3,none⟩ = some (.slice A0_3 l0_3.length c0_3) := (zb BK305.out 3).trans rfl;have hczQF100A57 : wQF100A51.cell? ⟨gb305,4,none⟩ = some (.int .i64 a0_4) := (zb BK305.out 4).trans rfl;have hczQF100A58 : wQF100A51.cell? ⟨gb305,5,none⟩ = some (.int .i64 a0_5) := (zb BK305.out 5).trans rfl;have hczQF100A59 : wQF100A51.cell? ⟨gb305,6,none⟩ = some (.int .u64 a0_6) := (zb BK305.out 6).trans rfl;have hfzQF100A510 := za BK305.out 0;have hfzQF100A511 := za BK305.out 1;have hfzQF100A512 := za BK305.out 2;have hfzQF100A513 := za BK305.out 3;have hfzQF100A514 := za BK305.out 4;have hfzQF100A515 := za BK305.out 5;have hfzQF100A516 := za BK305.out 6)) | (have _ := EQ1;((with_reducible refine zt (f := 101) rfl ?_);refine zU (some 21) rfl rfl Try.func101 (by kernel_rfl) rfl #[.int .u64 a0_6] rfl (by (try simp only [List.map_toArray,List.map_cons,List.map_nil]);first | done | rfl | (simp only [List.length_drop,List.length_take];rfl)) ?_;(with_reducible refine (zaC.calls k a0_6 t308 _ A7.out).mono ?_);rintro e wQF101A71 ⟨rfl,hb⟩;refine ⟨_,rfl,?_⟩;have n0_ := zc.mk (zh (g := gb305) (o := .cells #[.int .i64 a0_0,.int .i64 a0_1,.slice A0_2 l0_2.length c0_2,.slice A0_3 l0_3.length c0_3,.int .i64 a0_4,.int .i64 a0_5,.int .u64 a0_6] 36 (0,0)) (hGq BK305.out) hb);have n1_ := zc.mk (zj hCq hb);clear BK305;clear HB;have BK305 := n0_;have HB := n1_;clear n0_ n1_;(try clear hb);(try clear hb2);(try clear hk);(try clear hi))) | (have _ := EQ1;((with_reducible refine zt (f := 96) rfl ?_);refine zU (some 23) rfl rfl Try.func96 (by kernel_rfl) rfl #[.int .i64 a1] rfl (by (try simp only [List.map_toArray,List.map_cons,List.map_nil]);first | done | rfl | (simp only [List.length_drop,List.length_take];rfl)) ?_;(with_reducible refine (z7.calls a1 t309 _ A8.out).mono ?_);rintro e w' ⟨rfl,⟨nd,rfl⟩⟩;refine ⟨_,rfl,?_⟩)) | (have _ := EQ2;((with_reducible refine zt (f := 100) rfl ?_);refine zU (some 16) rfl rfl Try.func100 (by kernel_rfl) rfl #[.int .u64 a0_6,.int .i64 a1] rfl (by (try simp only [List.map_toArray,List.map_cons,List.map_nil]);first | done | rfl | (simp only [List.length_drop,List.length_take];rfl)) ?_;(with_reducible refine (zaE.calls k a0_6 a1 false _ A5.out).mono ?_);rintro e wQF100A51 ⟨rfl,hb⟩;refine ⟨_,rfl,?_⟩;have n0_ := zc.mk (zh (g := gb305) (o := .cells #[.int .i64 a0_0,.int .i64 a0_1,.slice A0_2 l0_2.length c0_2,.slice A0_3 l0_3.length c0_3,.int .i64 a0_4,.int .i64 a0_5,.int .u64 a0_6] 36 (0,0)) (hGq BK305.out) hb);have n1_ := zc.mk (zj hCq hb);clear BK305;clear HB;have BK305 := n0_;have HB := n1_;clear n0_ n1_;(try clear hb);(try clear hb2);(try clear hk);(try clear hi))) | (have _ := EQ3;((with_reducible refine zt (f := 63) rfl ?_);refine zU (some 10) rfl rfl Try.func63 (by kernel_rfl) rfl #[.agg #[.int .i64 a0_0,.int .i64 a0_1,.slice A0_2 l0_2.length c0_2,.slice A0_3 l0_3.length c0_3,.int .i64 a0_4,.int .i64 a0_5],.int .i64 a1] rfl (by (try simp only [List.map_toArray,List.map_cons,List.map_nil]);first | done | rfl | (simp only [List.length_drop,List.length_take];rfl)) ?_;(with_reducible refine (zo.calls k a0_0 a0_1 _ _ l0_2 _ _ l0_3 a0_4 a0_5 a1 false _ ?side1 ?side2 ?side3 ?side4 A3.out).mono ?_);(case side1 => repeat (first | exact (Kd.C_below HR0_2.out HB.out) | (with_reducible refine Kd.C_alloc ?_ _) | (with_reducible refine Kd.C_drewN ?_ _) | (with_reducible refine Kd.C_drew ?_)));(case side2 => exact HC0_2.out);(case side3 => repeat (first | exact (Kd.C_below HR0_3.out HB.out) | (with_reducible refine Kd.C_alloc ?_ _) | (with_reducible refine Kd.C_drewN ?_ _) | (with_reducible refine Kd.C_drew ?_)));(case side4 => exact HC0_3.out);rintro e wQF63A31 ⟨rfl,hb⟩;refine ⟨_,rfl,?_⟩;have n0_ := zc.mk (zh (g := gb305) (o := .cells #[.int .i64 a0_0,.int .i64 a0_1,.slice A0_2 l0_2.length c0_2,.slice A0_3 l0_3.length c0_3,.int .i64 a0_4,.int .i64 a0_5,.int .u64 a0_6] 36 (0,0)) (hGq BK305.out) hb);have n1_ := zc.mk (zj hCq hb);clear BK305;clear HB;have BK305 := n0_;have HB := n1_;clear n0_ n1_;(try clear hb);(try clear hb2);(try clear hk);(try clear hi))))
  go_ret
  exact ⟨hHq,hCq⟩
theorem zdR (n : Int) : zav.f n = some (zdd n) := by
 unfold zav.f zdd
 by_cases h4 : n = 4
 ·subst h4;rfl
 ·rw [if_neg h4]
  by_cases h : n > 4
  ·rw [if_pos h]
   by_cases h1 : n ≤ 64
   ·rw [if_pos h1,zag (by omega) (by omega),Int.tmod_eq_emod_of_nonneg (by omega)]
    by_cases h2 : n % 3 = 1
    ·have : (n - 1) % 3 = 0 := by omega
     simp [h1,h2,this];omega
    ·have : ¬ (n - 1) % 3 = 0 := by omega
     simp [h2,this]
   ·rw [if_neg h1];simp [h1]
  ·rw [if_neg h]
   have : ¬ 4 ≤ n := by omega
   simp [this]
theorem zc7 (n : Int) : z7.f n = some (zbC n) := by
 unfold z7.f zbC
 rw [zdR]
 simp only [Option.bind_some]
 by_cases h : zdd n = true
 ·rw [if_pos h,if_pos h]
  obtain ⟨h1,h2,h3⟩ := (zde n).1 h
  rw [zag (x := n - 1) (by omega) (by omega),Int.tdiv_eq_ediv_of_nonneg (by omega),zag (x := (n - 1) / 3) (by omega) (by omega),zag (by omega) (by omega)]
 ·rw [if_neg h,if_neg h]
theorem zfO (a b : Int) : zau.f a b = some (zeo a b) := by
 unfold zau.f zeo
 by_cases h1 : 0 ≤ a <;> by_cases h2 : a < 10007 <;> by_cases h3 : 0 ≤ b <;> simp [h1,h2,h3]
theorem ze0 (r : Int) : zal.f r = some (zcU r) := by
 unfold zal.f zcU
 by_cases h : r > 0
 ·rw [if_pos h,Int.tmod_eq_emod_of_nonneg (by omega)]
  by_cases h2 : r % 3 = 0
  ·have : 3 ≤ r := by omega
   simp [h2,this]
  ·simp [h2]
 ·rw [if_neg h]
  have : ¬ 3 ≤ r := by omega
  simp [this]
def zd6 (r x y : Int) : Bool := zeo x y && (zcU r || (decide (x = 0) && decide (y = 0)))
theorem zgA (a r : Int) (bs : List zY) (ps : List ByteArray) (x y : Int) (hl : ps.length < 4611686018427387904) (hp : ∀ t ∈ ps,t.size < 4611686018427387904) (d : Nat) : ∀ j,j + d = ps.length →
  Ev (fun k => zo.l1 k (j : Int) a r bs ps x y) (zbr ps d j && zd6 r x y) := by
 induction d with
 | zero =>
  intro j hj
  refine Ev.step (fun k => by rw [zo.l1]) ?_
  refine zO (by omega) (zad (zfO x y) (zad (ze0 r) ?_))
  unfold zd6
  by_cases h1 : zeo x y = true
  ·refine zw h1 ?_
   by_cases h2 : zcU r = true
   ·exact zw h2 (zao (Ev.now _) (by simp [zbr,h1,h2]))
   ·refine zO h2 ?_
    by_cases h3 : x = 0
    ·refine zw h3 (zao (Ev.now _) ?_)
     rw [Bool.not_eq_true] at h2
     subst h3
     by_cases h4 : y = 0
     ·subst h4;simp [zbr,h1,h2]
     ·simp [zbr,h1,h2,h4]
    ·rw [Bool.not_eq_true] at h2
     exact zO h3 (zao (Ev.now _) (by simp [zbr,h2,h3]))
  ·rw [Bool.not_eq_true] at h1
   exact zO (by rw [h1];simp) (zao (Ev.now _) (by simp [zbr,h1]))
 | succ d ih =>
  intro j hj
  have hj' : j < ps.length := by omega
  refine Ev.step (fun k => by rw [zo.l1]) ?_
  refine zw (by omega) (zw (by omega) ?_)
  have e1 : zaF ByteArray.empty ps (j : Int) = ps.getD j ByteArray.empty := by rw [zaF,Int.toNat_natCast]
  rw [e1]
  by_cases h : (ps.getD j ByteArray.empty).size = 32
  ·refine zw (by omega) ?_
   rw [zag (x := (j : Int) + 1) (by omega) (by omega)]
   by_cases h0 : j = 0
   ·subst h0
    refine zO (by omega) (zao (ih 1 (by omega)) ?_)
    simp only [zbr,zfo,h];simp
   ·refine zw (by omega) ?_
    have e2 : wrap64 ((j : Int) - 1) = ((j - 1 : Nat) : Int) := by rw [zag (by omega) (by omega)];omega
    rw [e2]
    refine zw (by omega) (zw (by omega) ?_)
    have e3 : zaF ByteArray.empty ps ((j - 1 : Nat) : Int) = ps.getD (j - 1) ByteArray.empty := by rw [zaF,Int.toNat_natCast]
    rw [e3]
    have hsz : (ps.getD (j - 1) ByteArray.empty).size < 4611686018427387904 := by
     rw [List.getD_eq_getElem?_getD,List.getElem?_eq_getElem (show j - 1 < ps.length by omega)]
     exact hp _ (List.getElem_mem _)
    refine Ev.bind (zhG _ _ hsz) ?_
    by_cases h2 : zdc (ofB (ps.getD (j - 1) ByteArray.empty)) (ofB (ps.getD j ByteArray.empty)) = true
    ·refine zw h2 (zao (ih (j + 1) (by omega)) ?_)
     simp only [zbr,zfo,h,h2];simp
    ·refine zO h2 (zao (Ev.now _) ?_)
     rw [Bool.not_eq_true] at h2
     simp only [zbr,zfo,h,h0,h2];simp
  ·refine zO (by omega) (zao (Ev.now _) ?_)
   simp only [zbr,zfo,h];simp
def zeF (r : Int) (ps : List ByteArray) (x y n : Int) : Bool :=
 !(decide (r = 1) && decide (0 < ps.length)) && !(decide (1 < r) && (decide ((ps.length : Int) < zbC n) || decide (n < ps.length))) && (zbr ps ps.length 0 && zd6 r x y)
theorem zgz (a r : Int) (bs : List zY) (ps : List ByteArray) (x y n : Int) (hb : bs.length < 4611686018427387904) (hbs : ∀ b ∈ bs,b.f2.length < 4611686018427387904) (hl : ps.length < 4611686018427387904) (hp : ∀ t ∈ ps,t.size < 4611686018427387904) (d : Nat) : ∀ j,j + d = bs.length →
  Ev (fun k => zo.l0 k n (j : Int) a r bs ps x y) (!(bs.drop j).any (zcL n) && zeF r ps x y n) := by
 induction d with
 | zero =>
  intro j hj
  refine Ev.step (fun k => by rw [zo.l0]) ?_
  rw [List.drop_eq_nil_of_le (by omega)]
  refine zO (by omega) ?_
  have J3 : ∀ b : Bool,Ev (fun k => zo.j3 k b a r bs ps x y) (!b && (zbr ps ps.length 0 && zd6 r x y)) := by
   intro b
   refine Ev.step (fun k => by rw [zo.j3]) ?_
   rcases b with _ | _
   ·exact zO (by simp) (zao (zgA a r bs ps x y hl hp ps.length 0 (by omega)) (by simp))
   ·exact zw rfl (zao (Ev.now _) (by simp))
  have J2 : ∀ b : Bool,Ev (fun k => zo.j2 k n b a r bs ps x y) (!b && (!(decide (1 < r) && (decide ((ps.length : Int) < zbC n) || decide (n < ps.length))) && (zbr ps ps.length 0 && zd6 r x y))) := by
   intro b
   refine Ev.step (fun k => by rw [zo.j2]) ?_
   rcases b with _ | _
   ·refine zO (by simp) ?_
    by_cases h : r > 1
    ·have h' : 1 < r := h
     refine zw h (zad (zc7 n) ?_)
     by_cases h2 : (ps.length : Int) < zbC n
     ·exact zw h2 (zao (J3 true) (by simp [h',h2]))
     ·exact zO h2 (zao (J3 _) (by simp [h',h2]))
    ·have h' : ¬ 1 < r := h
     exact zO h (zao (J3 false) (by simp [h']))
   ·exact zw rfl (zao (Ev.now _) (by simp))
  unfold zeF
  by_cases h : r = 1
  ·refine zw h (zao (J2 _) ?_)
   subst h
   by_cases h0 : 0 < ps.length
   ·have : decide ((ps.length : Int) > 0) = true := decide_eq_true (by omega)
    simp [this,h0]
   ·have : decide ((ps.length : Int) > 0) = false := decide_eq_false (by omega)
    simp [this,h0]
  ·exact zO h (zao (J2 false) (by simp [h]))
 | succ d ih =>
  intro j hj
  have hj' : j < bs.length := by omega
  refine Ev.step (fun k => by rw [zo.l0]) ?_
  refine zw (by omega) (zw (by omega) ?_)
  rw [zdg bs j hj',zag (by omega) (by omega),List.drop_eq_getElem_cons hj',List.any_cons]
  refine Ev.bind (zfy _ _ _ (hbs _ (List.getElem_mem hj'))) ?_
  by_cases h : zcK bs[j].f0 bs[j].f1 bs[j].f2 = true
  ·refine zw h ?_
   by_cases h2 : bs[j].f0 > n
   ·have h3 : n < bs[j].f0 := h2
    exact zw h2 (zao (Ev.now _) (by simp [zcL,h3]))
   ·have h3 : ¬ n < bs[j].f0 := h2
    refine zO h2 (zao (ih (j + 1) (by omega)) ?_)
    have : zcL n bs[j] = false := by simp [zcL,h,h3]
    rw [this,Bool.false_or]
  ·refine zO h (zao (Ev.now _) ?_)
   rw [Bool.not_eq_true] at h
   simp [zcL,h]
theorem zhe (a r : Int) (bs : List zY) (ps : List ByteArray) (x y n : Int) (h0 : zdd n = true) (h1 : 1 ≤ a) (h2 : a ≤ n) (h3 : 1 ≤ r) (h4 : r ≤ 1048576) (h5 : bs.length ≤ 4) :
  zbv a r bs ps x y n = (!bs.any (zcL n) && zeF r ps x y n) := by
 unfold zbv zeF zcd zd6
 simp only [h0,h1,h2,h3,h4,h5]
 by_cases e : r = 1
 ·subst e
  rcases ps with _ | ⟨p,ps⟩
  ·simp [zbr,Bool.and_assoc]
  ·simp
 ·have h6 : 1 < r := by omega
  simp only [if_neg e,e,h6]
  have q1 : decide ((ps.length : Int) < zbC n) = !decide (zbC n ≤ (ps.length : Int)) := by
   by_cases q : zbC n ≤ (ps.length : Int) <;> simp [q] <;> omega
  have q2 : decide (n < (ps.length : Int)) = !decide ((ps.length : Int) ≤ n) := by
   by_cases q : (ps.length : Int) ≤ n <;> simp [q] <;> omega
  rw [q1,q2]
  cases bs.any (zcL n) <;> cases zeo x y <;> cases zcU r <;> cases zbr ps ps.length 0 <;> cases decide (zbC n ≤ (ps.length : Int)) <;> cases decide ((ps.length : Int) ≤ n) <;> simp
theorem ze4 (a r : Int) (bs : List zY) (ps : List ByteArray) (x y n : Int) (hb : bs.length < 4611686018427387904) (hbs : ∀ b ∈ bs,b.f2.length < 4611686018427387904) (hl : ps.length < 4611686018427387904) (hp : ∀ t ∈ ps,t.size < 4611686018427387904) :
  Ev (fun k => zo.f k a r bs ps x y n) (zbv a r bs ps x y n) := by
 have key : ∀ b : Bool,(b = true ↔ ¬ (zdd n = true ∧ 1 ≤ a ∧ a ≤ n ∧ 1 ≤ r ∧ r ≤ 1048576 ∧ bs.length ≤ 4)) → Ev (fun k => zo.j0 k n b a r bs ps x y) (zbv a r bs ps x y n) := by
  intro b hb'
  refine Ev.step (fun k => by rw [zo.j0]) ?_
  by_cases h : zdd n = true ∧ 1 ≤ a ∧ a ≤ n ∧ 1 ≤ r ∧ r ≤ 1048576 ∧ bs.length ≤ 4
  ·refine zO (fun hh => hb'.1 hh h) (zao (zgz a r bs ps x y n hb hbs hl hp bs.length 0 (by omega)) ?_)
   obtain ⟨h0,h1,h2,h3,h4,h5⟩ := h
   rw [zhe a r bs ps x y n h0 h1 h2 h3 h4 h5,List.drop_zero]
  ·refine zw (hb'.2 h) (zao (Ev.now _) ?_)
   symm
   rw [← Bool.not_eq_true,zdf]
   exact fun ⟨h0,h1,h2,h3,h4,h5,_⟩ => h ⟨h0,h1,h2,h3,h4,h5⟩
 refine zad (zdR n) ?_
 by_cases h0 : zdd n = true
 ·refine zw h0 ?_
  by_cases h1 : a < 1
  ·exact zw h1 (key true (by simp;omega))
  refine zO h1 ?_
  by_cases h2 : a > n
  ·exact zw h2 (key true (by simp;omega))
  refine zO h2 ?_
  by_cases h3 : r < 1
  ·exact zw h3 (key true (by simp;omega))
  refine zO h3 ?_
  by_cases h4 : r > 1048576
  ·exact zw h4 (key true (by simp;omega))
  exact zO h4 (key _ (by simp [h0];omega))
 ·exact zO h0 (key true (by simp [h0]))
def zby : Nat → Nat → Nat
 | 0,_ => 0
 | d + 1,s => s % 2 + zby d (s / 2)
theorem zci : ∀ (d s : Nat),zby d s ≤ d
 | 0,_ => Nat.le_refl _
 | d + 1,s => by have := zci d (s / 2);rw [zby];omega
theorem zcq : ∀ (d e b r : Nat),b < 2 ^ d → zby (d + e) (b + 2 ^ d * r) = zby d b + zby e r
 | 0,e,b,r,h => by
  obtain rfl : b = 0 := by simpa using h
  rw [Nat.zero_add,Nat.zero_add,Nat.pow_zero,Nat.one_mul];simp [zby]
 | d + 1,e,b,r,h => by
  rw [Nat.pow_succ] at h
  have e1 : (b + 2 ^ (d + 1) * r) / 2 = b / 2 + 2 ^ d * r := by
   rw [Nat.pow_succ,Nat.mul_assoc,Nat.mul_left_comm,Nat.add_mul_div_left _ _ (by omega)]
  have e2 : (b + 2 ^ (d + 1) * r) % 2 = b % 2 := by
   rw [Nat.pow_succ,Nat.mul_assoc,Nat.mul_left_comm,Nat.add_mul_mod_self_left]
  rw [show d + 1 + e = (d + e) + 1 by omega,zby,zby,e1,e2,zcq d e (b / 2) r (by omega)]
  omega
def zaH : List Nat → Nat
 | [] => 0
 | b :: l => b + 256 * zaH l
theorem zc9 (a b c d : Nat) (hb : b < 256) (hd : d < 256) : (b + 256 * a) &&& (d + 256 * c) = (b &&& d) + 256 * (a &&& c) := by
 have hx : b &&& d < 2 ^ 8 := Nat.and_lt_two_pow _ (by omega)
 apply Nat.eq_of_testBit_eq
 intro i
 rw [Nat.testBit_and,Nat.add_comm b,Nat.add_comm d,Nat.add_comm (b &&& d)]
 rw [show (256 : Nat) = 2 ^ 8 from rfl,Nat.testBit_two_pow_mul_add _ (by omega),Nat.testBit_two_pow_mul_add _ (by omega),Nat.testBit_two_pow_mul_add _ hx]
 split <;> rw [Nat.testBit_and]
theorem zil : ∀ (b : Fin 256) (t : Fin 2),(b.val / 2 + 128 * t.val) &&& 85 = b.val / 2 &&& 85 := by decide +kernel
theorem zim : ∀ (b : Fin 256) (t : Fin 4),(b.val / 4 + 64 * t.val) &&& 51 = b.val / 4 &&& 51 := by decide +kernel
def zdu (b : Nat) : Nat := (b / 2 &&& 85) + (b &&& 85)
def zeq (b : Nat) : Nat := (b / 4 &&& 51) + (b &&& 51)
def zhK (b : Nat) : Nat := b % 16 + b / 16
theorem zeU : ∀ b : Fin 256,zdu b.val < 256 ∧ zeq (zdu b.val) < 256 ∧ zeq (zdu b.val) % 16 ≤ 4 ∧ zeq (zdu b.val) / 16 ≤ 4 ∧ zhK (zeq (zdu b.val)) = zby 8 b.val := by decide +kernel
theorem zha : ∀ l : List Nat,(∀ b ∈ l,b < 256) → (zaH l / 2 &&& zaH (List.replicate l.length 85)) + (zaH l &&& zaH (List.replicate l.length 85)) = zaH (l.map zdu)
 | [],_ => rfl
 | b :: l,h => by
  have hb := h b List.mem_cons_self
  have ih := zha l (fun c hc => h c (List.mem_cons_of_mem _ hc))
  have k := zil ⟨b,hb⟩ ⟨zaH l % 2,Nat.mod_lt _ (by omega)⟩
  simp only at k
  rw [List.length_cons,List.replicate_succ,zaH,zaH,List.map_cons,zaH,← ih]
  rw [show (b + 256 * zaH l) / 2 = (b / 2 + 128 * (zaH l % 2)) + 256 * (zaH l / 2) by omega,zc9 _ _ _ _ (by omega) (by omega),zc9 _ _ _ _ hb (by omega),k,zdu]
  omega
theorem zhb : ∀ l : List Nat,(∀ b ∈ l,b < 256) → (zaH l / 4 &&& zaH (List.replicate l.length 51)) + (zaH l &&& zaH (List.replicate l.length 51)) = zaH (l.map zeq)
 | [],_ => rfl
 | b :: l,h => by
  have hb := h b List.mem_cons_self
  have ih := zhb l (fun c hc => h c (List.mem_cons_of_mem _ hc))
  have k := zim ⟨b,hb⟩ ⟨zaH l % 4,Nat.mod_lt _ (by omega)⟩
  simp only at k
  rw [List.length_cons,List.replicate_succ,zaH,zaH,List.map_cons,zaH,← ih]
  rw [show (b + 256 * zaH l) / 4 = (b / 4 + 64 * (zaH l % 4)) + 256 * (zaH l / 4) by omega,zc9 _ _ _ _ (by omega) (by omega),zc9 _ _ _ _ hb (by omega),k,zeq]
  omega
theorem zhd (l : List Nat) (h : ∀ b ∈ l,b % 16 ≤ 4 ∧ b / 16 ≤ 4) : zaH l % 16 ≤ 4 := by
 cases l with
 | nil => simp [zaH]
 | cons b l => have := (h b List.mem_cons_self).1;rw [zaH];omega
theorem zhc : ∀ l : List Nat,(∀ b ∈ l,b % 16 ≤ 4 ∧ b / 16 ≤ 4) → ((zaH l / 16 + zaH l) &&& zaH (List.replicate l.length 15)) = zaH (l.map zhK)
 | [],_ => rfl
 | b :: l,h => by
  obtain ⟨h1,h2⟩ := h b List.mem_cons_self
  have hl := fun c hc => h c (List.mem_cons_of_mem b hc)
  have ih := zhc l hl
  have k := zhd l hl
  rw [List.length_cons,List.replicate_succ,zaH,zaH,List.map_cons,zaH,← ih]
  rw [show (b + 256 * zaH l) / 16 + (b + 256 * zaH l) = (b / 16 + 16 * (zaH l % 16) + b) + 256 * (zaH l / 16 + zaH l) by omega,zc9 _ _ _ _ (by omega) (by omega)]
  rw [show (15 : Nat) = 2 ^ 4 - 1 from rfl,Nat.and_two_pow_sub_one_eq_mod,zhK]
  omega
theorem zfL : ∀ l : List Nat,(∀ b ∈ l,b < 256) → zaH l < 256 ^ l.length
 | [],_ => by simp [zaH]
 | b :: l,h => by
  have := zfL l (fun c hc => h c (List.mem_cons_of_mem _ hc))
  have hb := h b List.mem_cons_self
  rw [zaH,List.length_cons,Nat.pow_succ];omega
set_option maxRecDepth 10000 in
theorem zgL (m : Nat) : ∀ l : List Nat,(∀ b ∈ l,b ≤ m) → zaH l * 255 + m ≤ m * 256 ^ l.length
 | [],_ => by simp [zaH]
 | b :: l,h => by
  have := zgL m l (fun c hc => h c (List.mem_cons_of_mem _ hc))
  have hb := h b List.mem_cons_self
  rw [zaH,List.length_cons,Nat.pow_succ,← Nat.mul_assoc]
  generalize m * 256 ^ l.length = X at *
  omega
theorem zds (a b : Nat) (h : a + b < 18446744073709551616) : IntKind.u64.wrap ((a : Int) + (b : Int)) = ((a + b : Nat) : Int) := by
 rw [zaY (by omega) (by omega)];omega
theorem zh2 {q0 q1 q2 r1 r2 r3 z : Nat} (g0 : q0 ≤ 8) (g1 : q1 ≤ 8) (g2 : q2 ≤ 8) (e0 : z = q0 + 256 * r1) (e1 : r1 = q1 + 256 * r2) (e2 : r2 = q2 + 256 * r3) : z / 256 = r1 ∧ (z + r1) / 65536 = r2 + r3 := by
 constructor <;> omega
theorem zh3 {q0 q1 q2 q3 q4 q5 q6 q7 r1 r2 r3 r4 r5 r6 z : Nat} (g0 : q0 ≤ 8) (g1 : q1 ≤ 8) (g2 : q2 ≤ 8) (g3 : q3 ≤ 8) (g4 : q4 ≤ 8) (g5 : q5 ≤ 8) (g6 : q6 ≤ 8) (e0 : z = q0 + 256 * q1 + 65536 * q2 + 16777216 * q3 + 4294967296 * r4) (e1 : r1 = q1 + 256 * q2 + 65536 * q3 + 16777216 * q4 + 4294967296 * r5) (e2 : r2 = q2 + 256 * q3 + 65536 * q4 + 16777216 * q5 + 4294967296 * r6) (e3 : r3 = q3 + 256 * q4 + 65536 * q5 + 16777216 * q6 + 4294967296 * q7) :
  (z + r1 + (r2 + r3)) / 4294967296 = r4 + r5 + r6 + q7 := by
 generalize hx : q0 + 256 * q1 + 65536 * q2 + 16777216 * q3 = x at *
 have lx : x ≤ 134744072 := by omega
 generalize hy : q1 + 256 * q2 + 65536 * q3 + 16777216 * q4 = y at *
 have ly : y ≤ 134744072 := by omega
 generalize hu : q2 + 256 * q3 + 65536 * q4 + 16777216 * q5 = u at *
 have lu : u ≤ 134744072 := by omega
 generalize hv : q3 + 256 * q4 + 65536 * q5 + 16777216 * q6 = v at *
 have lv : v ≤ 134744072 := by omega
 clear hx hy hu hv g0 g1 g2 g3 g4 g5 g6
 omega
theorem zhL (q0 q1 q2 q3 q4 q5 q6 q7 z z1 z2 z3 : Nat) (g0 : q0 ≤ 8) (g1 : q1 ≤ 8) (g2 : q2 ≤ 8) (g3 : q3 ≤ 8) (g4 : q4 ≤ 8) (g5 : q5 ≤ 8) (g6 : q6 ≤ 8) (g7 : q7 ≤ 8)
  (hz : z = q0 + 256 * (q1 + 256 * (q2 + 256 * (q3 + 256 * (q4 + 256 * (q5 + 256 * (q6 + 256 * q7))))))) (h1 : z1 = z + z / 256) (h2 : z2 = z1 + z1 / 65536) (h3 : z3 = z2 + z2 / 4294967296) :
  z3 % 128 = q0 + (q1 + (q2 + (q3 + (q4 + (q5 + (q6 + q7)))))) := by
 obtain ⟨r6,e6⟩ : ∃ r,r = q6 + 256 * q7 := ⟨_,rfl⟩
 obtain ⟨r5,e5⟩ : ∃ r,r = q5 + 256 * r6 := ⟨_,rfl⟩
 obtain ⟨r4,e4⟩ : ∃ r,r = q4 + 256 * r5 := ⟨_,rfl⟩
 obtain ⟨r3,e3⟩ : ∃ r,r = q3 + 256 * r4 := ⟨_,rfl⟩
 obtain ⟨r2,e2⟩ : ∃ r,r = q2 + 256 * r3 := ⟨_,rfl⟩
 obtain ⟨r1,e1⟩ : ∃ r,r = q1 + 256 * r2 := ⟨_,rfl⟩
 rw [← e6,← e5,← e4,← e3,← e2,← e1] at hz
 obtain ⟨a1,a2⟩ := zh2 g0 g1 g2 hz e1 e2
 rw [a1] at h1
 rw [h1,a2] at h2
 have a3 := zh3 (z := z) (q7 := q7) (r1 := r1) (r2 := r2) (r3 := r3) (r4 := r4) (r5 := r5) (r6 := r6) g0 g1 g2 g3 g4 g5 g6 (by rw [hz,e1,e2,e3];omega) (by rw [e1,e2,e3,e4];omega) (by rw [e2,e3,e4,e5];omega) (by rw [e3,e4,e5,e6];omega)
 rw [h2,a3] at h3
 clear a1 a2 a3 h1 h2
 omega
set_option maxHeartbeats 1000000 in
theorem zdt (x : Nat) (hx : x < 18446744073709551616) : zbj.f (x : Int) = some ((zby 64 x : Nat) : Int) := by
 obtain ⟨b0,b1,b2,b3,b4,b5,b6,b7,h0,h1,h2,h3,h4,h5,h6,h7,e⟩ : ∃ b0 b1 b2 b3 b4 b5 b6 b7 : Nat,b0 < 256 ∧ b1 < 256 ∧ b2 < 256 ∧ b3 < 256 ∧ b4 < 256 ∧ b5 < 256 ∧ b6 < 256 ∧ b7 < 256 ∧ x = zaH [b0,b1,b2,b3,b4,b5,b6,b7] :=
  ⟨x % 256,x / 256 % 256,x / 65536 % 256,x / 16777216 % 256,x / 4294967296 % 256,x / 1099511627776 % 256,x / 281474976710656 % 256,x / 72057594037927936,by omega,by omega,by omega,by omega,by omega,by omega,by omega,by omega,by simp only [zaH];omega⟩
 generalize hl : [b0,b1,b2,b3,b4,b5,b6,b7] = l at e
 have hlen : l.length = 8 := by rw [← hl];rfl
 have hb : ∀ b ∈ l,b < 256 := by rw [← hl];simp only [List.mem_cons,List.not_mem_nil,or_false];rintro b (rfl | rfl | rfl | rfl | rfl | rfl | rfl | rfl) <;> assumption
 have q1 := zha l hb
 have hb1 : ∀ b ∈ l.map zdu,b < 256 := fun b hm => by obtain ⟨c,hc,rfl⟩ := List.mem_map.1 hm;exact (zeU ⟨c,hb c hc⟩).1
 have q2 := zhb (l.map zdu) hb1
 have hb2 : ∀ b ∈ (l.map zdu).map zeq,b % 16 ≤ 4 ∧ b / 16 ≤ 4 := fun b hm => by
  obtain ⟨c,hc,rfl⟩ := List.mem_map.1 hm
  obtain ⟨d,hd,rfl⟩ := List.mem_map.1 hc
  have := zeU ⟨d,hb d hd⟩
  exact ⟨this.2.2.1,this.2.2.2.1⟩
 have q3 := zhc ((l.map zdu).map zeq) hb2
 have e4 : ((l.map zdu).map zeq).map zhK = l.map (zby 8) := by
  rw [List.map_map,List.map_map]
  refine List.map_congr_left (fun c hc => ?_)
  exact (zeU ⟨c,hb c hc⟩).2.2.2.2
 rw [e4] at q3
 rw [List.length_map] at q2
 rw [List.length_map,List.length_map] at q3
 rw [hlen] at q1 q2 q3
 have p8 : (256 : Nat) ^ 8 = 18446744073709551616 := by decide
 have l1 := zfL _ hb1
 rw [List.length_map,hlen,p8] at l1
 have l2 := zfL ((l.map zdu).map zeq) (fun b hm => by have := hb2 b hm;omega)
 rw [List.length_map,List.length_map,hlen,p8] at l2
 have l2' := zgL 68 ((l.map zdu).map zeq) (fun b hm => by have := hb2 b hm;omega)
 rw [List.length_map,List.length_map,hlen,p8] at l2'
 rw [show zaH (List.replicate 8 85) = 6148914691236517205 from rfl,← e] at q1
 rw [show zaH (List.replicate 8 51) = 3689348814741910323 from rfl] at q2
 rw [show zaH (List.replicate 8 15) = 1085102592571150095 from rfl] at q3
 generalize zaH (l.map zdu) = y1 at *
 generalize zaH ((l.map zdu).map zeq) = y2 at *
 have hz : zaH (l.map (zby 8)) = zby 8 b0 + 256 * (zby 8 b1 + 256 * (zby 8 b2 + 256 * (zby 8 b3 + 256 * (zby 8 b4 + 256 * (zby 8 b5 + 256 * (zby 8 b6 + 256 * zby 8 b7)))))) := by rw [← hl];simp only [List.map,zaH,Nat.mul_zero,Nat.add_zero]
 have hp : zby 64 x = zby 8 b0 + (zby 8 b1 + (zby 8 b2 + (zby 8 b3 + (zby 8 b4 + (zby 8 b5 + (zby 8 b6 + zby 8 b7)))))) := by
  rw [e,← hl]
  simp only [zaH,Nat.mul_zero,Nat.add_zero]
  rw [show (64 : Nat) = 8 + 56 from rfl,show (256 : Nat) = 2 ^ 8 from rfl,zcq _ _ _ _ h0,show (56 : Nat) = 8 + 48 from rfl,zcq _ _ _ _ h1,show (48 : Nat) = 8 + 40 from rfl,zcq _ _ _ _ h2,show (40 : Nat) = 8 + 32 from rfl,zcq _ _ _ _ h3,show (32 : Nat) = 8 + 24 from rfl,zcq _ _ _ _ h4,show (24 : Nat) = 8 + 16 from rfl,zcq _ _ _ _ h5,show (16 : Nat) = 8 + 8 from rfl,zcq _ _ _ _ h6]
 have g0 := zci 8 b0
 have g1 := zci 8 b1
 have g2 := zci 8 b2
 have g3 := zci 8 b3
 have g4 := zci 8 b4
 have g5 := zci 8 b5
 have g6 := zci 8 b6
 have g7 := zci 8 b7
 generalize zaH (l.map (zby 8)) = z at *
 have d2 : (x : Int) / 2 = ((x / 2 : Nat) : Int) := by omega
 have d4 : (y1 : Int) / 4 = ((y1 / 4 : Nat) : Int) := by omega
 have d16 : (y2 : Int) / 16 = ((y2 / 16 : Nat) : Int) := by omega
 have i1 : IntKind.u64.wrap (Go.bits .and .u64 ((x : Int) / 2) 6148914691236517205 + Go.bits .and .u64 (x : Int) 6148914691236517205) = (y1 : Int) := by
  have k1 : Go.bits .and .u64 ((x / 2 : Nat) : Int) 6148914691236517205 = ((x / 2 &&& 6148914691236517205 : Nat) : Int) := u64_and_nat (x / 2) 6148914691236517205 (by omega) (by omega)
  have k2 : Go.bits .and .u64 (x : Int) 6148914691236517205 = ((x &&& 6148914691236517205 : Nat) : Int) := u64_and_nat x 6148914691236517205 hx (by omega)
  rw [d2,k1,k2,zds _ _ (by rw [q1];exact l1),q1]
 have i2 : IntKind.u64.wrap (Go.bits .and .u64 ((y1 : Int) / 4) 3689348814741910323 + Go.bits .and .u64 (y1 : Int) 3689348814741910323) = (y2 : Int) := by
  have k1 : Go.bits .and .u64 ((y1 / 4 : Nat) : Int) 3689348814741910323 = ((y1 / 4 &&& 3689348814741910323 : Nat) : Int) := u64_and_nat (y1 / 4) 3689348814741910323 (by omega) (by omega)
  have k2 : Go.bits .and .u64 (y1 : Int) 3689348814741910323 = ((y1 &&& 3689348814741910323 : Nat) : Int) := u64_and_nat y1 3689348814741910323 l1 (by omega)
  rw [d4,k1,k2,zds _ _ (by rw [q2];exact l2),q2]
 have l3 : y2 / 16 + y2 < 18446744073709551616 := by omega
 have i3 : Go.bits .and .u64 (IntKind.u64.wrap ((y2 : Int) / 16 + (y2 : Int))) 1085102592571150095 = (z : Int) := by
  have k1 : Go.bits .and .u64 ((y2 / 16 + y2 : Nat) : Int) 1085102592571150095 = ((y2 / 16 + y2 &&& 1085102592571150095 : Nat) : Int) := u64_and_nat (y2 / 16 + y2) 1085102592571150095 l3 (by omega)
  rw [d16,zds _ _ l3,k1,q3]
 unfold zbj.f
 rw [i1,i2,i3]
 have i4 : IntKind.u64.wrap ((z : Int) + (z : Int) / 256) = ((z + z / 256 : Nat) : Int) := by
  rw [show (z : Int) / 256 = ((z / 256 : Nat) : Int) by omega];exact zds _ _ (by omega)
 rw [i4]
 generalize hz1 : z + z / 256 = z1
 have i5 : IntKind.u64.wrap ((z1 : Int) + (z1 : Int) / 65536) = ((z1 + z1 / 65536 : Nat) : Int) := by
  rw [show (z1 : Int) / 65536 = ((z1 / 65536 : Nat) : Int) by omega];exact zds _ _ (by omega)
 rw [i5]
 generalize hz2 : z1 + z1 / 65536 = z2
 have i6 : IntKind.u64.wrap ((z2 : Int) + (z2 : Int) / 4294967296) = ((z2 + z2 / 4294967296 : Nat) : Int) := by
  rw [show (z2 : Int) / 4294967296 = ((z2 / 4294967296 : Nat) : Int) by omega];exact zds _ _ (by omega)
 rw [i6]
 generalize hz3 : z2 + z2 / 4294967296 = z3
 have l4 : z3 < 9223372036854775808 := by omega
 have i7 : Go.bits .and .i64 (wrap64 (z3 : Int)) 127 = ((z3 % 128 : Nat) : Int) := by
  rw [zag (by omega) (by omega)]
  have := bits_mask .i64 63 (by decide) (fun n h0 h1 => by rw [IntKind.wrap_i64];omega) 7 (by decide) (z3 : Int) (by omega) (by omega)
  rw [show ((2 : Int) ^ 7 - 1) = 127 from rfl] at this
  rw [this];omega
 rw [i7,hp]
 have hq : z3 % 128 = zby 8 b0 + (zby 8 b1 + (zby 8 b2 + (zby 8 b3 + (zby 8 b4 + (zby 8 b5 + (zby 8 b6 + zby 8 b7)))))) := zhL _ _ _ _ _ _ _ _ _ _ _ _ g0 g1 g2 g3 g4 g5 g6 g7 hz hz1.symm hz2.symm hz3.symm
 rw [hq]
end Go.Proofs.Ytgdpiegkoeikiaa.Px