/- Part 7 of 30 of the proof of the law CertBack: what is proved is the statement at the end of the last part; its conditions are those of the given row. -/
import Derived.ScopeJumps
import Derived.WalkMore
import Derived.Test.YtgdpiegkoeikiaaZCertBackF
namespace Go.Proofs.Ytgdpiegkoeikiaa.Px
open Go.RowKit Go.Proofs.YtgdpiegkoeikiaaW.PrintWords Go.Proofs.YtgdpiegkoeikiaaW.PrintLast Go.Proofs.YtgdpiegkoeikiaaW.PrintMore
attribute [local go_sem] zx zz zJ zK zn zo zy zA
set_option linter.unusedVariables false
set_option linter.unusedSimpArgs false
def zaM.f (a0_0 : Int) (a0_1 : Int) (l0_2 : List (zW)) (l0_3 : List ByteArray) (a0_4 : Int) (a0_5 : Int) (a0_6 : Int) (a1 : Int) : Option (Int) := (zaj.f a0_0 a0_1 l0_2 l0_3 a0_4 a0_5 a1).bind fun t270 => (if t270 = true then ((zbe.f a0_6 a1).bind fun t271 => (if t271 = true then ((zbi.f a0_6).bind fun t272 => ((zaJ.f a1).bind fun t273 => (if t272 < t273 then (some 2) else (some 0)))) else (some 4))) else (some 1))
set_option maxHeartbeats 8000000 in
set_option maxRecDepth 100000 in
theorem zaM.calls (a0_0 : Int) (a0_1 : Int) (A0_2 : Option Addr) (c0_2 : Nat) (l0_2 : List (zW)) (A0_3 : Option Addr) (c0_3 : Nat) (l0_3 : List ByteArray) (a0_4 : Int) (a0_5 : Int) (a0_6 : Int) (a1 : Int) (r : Int) (w : World) (hr0_2 : Kd.C zb0 w A0_2 l0_2.length l0_2) (hc0_2 : l0_2.length ≤ c0_2) (hr0_3 : Kd.C Kd.string w A0_3 l0_3.length l0_3) (hc0_3 : l0_3.length ≤ c0_3) (h : zaM.f a0_0 a0_1 l0_2 l0_3 a0_4 a0_5 a0_6 a1 = some r) :
  Calls Try.prog 48 #[.agg #[.int .i64 a0_0,.int .i64 a0_1,.slice A0_2 l0_2.length c0_2,.slice A0_3 l0_3.length c0_3,.int .i64 a0_4,.int .i64 a0_5,.int .u64 a0_6],.int .i64 a1] w fun e w' => e = .returned (.int .i64 r) ∧ Below w.heap.size w w' := by
 have hu36 := Try.underlying36
 have hu28 := Try.underlying28
 have HR0_2 := zc.mk hr0_2
 have HC0_2 := zc.mk hc0_2
 clear hr0_2 hc0_2
 have HR0_3 := zc.mk hr0_3
 have HC0_3 := zc.mk hc0_3
 clear hr0_3 hc0_3
 have HB := zc.mk (Below.refl w.heap.size w)
 have H : ((zaj.f a0_0 a0_1 l0_2 l0_3 a0_4 a0_5 a1).bind fun t270 => (if t270 = true then ((zbe.f a0_6 a1).bind fun t271 => (if t271 = true then ((zbi.f a0_6).bind fun t272 => ((zaJ.f a1).bind fun t273 => (if t272 < t273 then (some 2) else (some 0)))) else (some 4))) else (some 1))) = some r := h
 clear h
 replace H := Option.bind_eq_some_iff.mp H
 obtain ⟨t270,A30,H⟩ := H
 replace H : (if t270 = true then ((zbe.f a0_6 a1).bind fun t271 => (if t271 = true then ((zbi.f a0_6).bind fun t272 => ((zaJ.f a1).bind fun t273 => (if t272 < t273 then (some 2) else (some 0)))) else (some 4))) else (some 1)) = some r := H
 have A3 := zc.mk A30
 clear A30
 by_cases c4 : t270 = true
 focus
  subst c4
  have H1 : ((zbe.f a0_6 a1).bind fun t271 => (if t271 = true then ((zbi.f a0_6).bind fun t272 => ((zaJ.f a1).bind fun t273 => (if t272 < t273 then (some 2) else (some 0)))) else (some 4))) = some r := by rw [if_pos rfl] at H;exact H
  clear H
  have H := H1
  clear H1
  replace H := Option.bind_eq_some_iff.mp H
  obtain ⟨t271,A50,H⟩ := H
  replace H : (if t271 = true then ((zbi.f a0_6).bind fun t272 => ((zaJ.f a1).bind fun t273 => (if t272 < t273 then (some 2) else (some 0)))) else (some 4)) = some r := H
  have A5 := zc.mk A50
  clear A50
  by_cases c6 : t271 = true
  focus
   subst c6
   have H1 : ((zbi.f a0_6).bind fun t272 => ((zaJ.f a1).bind fun t273 => (if t272 < t273 then (some 2) else (some 0)))) = some r := by rw [if_pos rfl] at H;exact H
   clear H
   have H := H1
   clear H1
   replace H := Option.bind_eq_some_iff.mp H
   obtain ⟨t272,A70,H⟩ := H
   replace H : ((zaJ.f a1).bind fun t273 => (if t272 < t273 then (some 2) else (some 0))) = some r := H
   have A7 := zc.mk A70
   clear A70
   replace H := Option.bind_eq_some_iff.mp H
   obtain ⟨t273,A80,H⟩ := H
   replace H : (if t272 < t273 then (some 2) else (some 0)) = some r := H
   have A8 := zc.mk A80
   clear A80
   by_cases c9 : t272 < t273
   focus
    rw [if_pos c9] at H
    have c9b0 : decide (t272 < t273) = true := decide_eq_true c9
    clear c9
    obtain rfl := Option.some.inj H
    have EQ0 := True.intro
    have EQ1 := True.intro
   rotate_left
   focus
    rw [if_neg c9] at H
    have c9b0 : decide (t272 < t273) = false := decide_eq_false c9
    clear c9
    obtain rfl := Option.some.inj H
    have EQ0 := True.intro
    have EQ1 := True.intro
  rotate_left 2
  focus
   replace c6 := Bool.eq_false_iff.mpr c6
   subst c6
   have H1 : (some 4) = some r := by rw [if_neg (show ¬ (false = true) by decide)] at H;exact H
   clear H
   have H := H1
   clear H1
   obtain rfl := Option.some.inj H
   have EQ0 := True.intro
   have EQ2 := True.intro
 rotate_left 3
 focus
  replace c4 := Bool.eq_false_iff.mpr c4
  subst c4
  have H1 : (some 1) = some r := by rw [if_neg (show ¬ (false = true) by decide)] at H;exact H
  clear H
  have H := H1
  clear H1
  obtain rfl := Option.some.inj H
  have EQ3 := True.intro
 all_goals
  go_enter Try.func48,Try.ntmps48
  go_wp2_with (first | ((with_reducible refine zD (N := 2) rfl ?_);refine zq ?hg (N := 2) ?hd (cs := #[.int .i64 a0_0,.int .i64 a0_1,.slice A0_2 l0_2.length c0_2,.slice A0_3 l0_3.length c0_3,.int .i64 a0_4,.int .i64 a0_5,.int .u64 a0_6]) (t := 36) ?hr ?_;(case hd => rfl);(case hg => rfl);(case hr => first | (go_simp;done) | (go_simp;rfl));intro gb269 hg wQN22 hbox hb;have n0_ := zc.mk (zg hBq hb);have n1_ := zc.mk (hbox);have n2_ := zc.mk ((by rw [hg];exact (zj hBq) : w.heap.size ≤ gb269));have n3_ := zc.mk ((by rw [hg];exact (zj hBq) : w.heap.size ≤ gb269));clear HB;have HB := n0_;have BK269 := n1_;have GW269 := n2_;have GE269 := n3_;clear n0_ n1_ n2_ n3_;clear hb hbox hg;have hczQN26 : wQN22.cell? ⟨gb269,0,none⟩ = some (.int .i64 a0_0) := (zb BK269.out 0).trans rfl;have hczQN27 : wQN22.cell? ⟨gb269,1,none⟩ = some (.int .i64 a0_1) := (zb BK269.out 1).trans rfl;have hczQN28 : wQN22.cell? ⟨gb269,2,none⟩ = some (.slice A0_2 l0_2.length c0_2) := (zb BK269.out 2).trans rfl;have hczQN29 : wQN22.cell? ⟨gb269,3,none⟩ = some (.slice A0_3 l0_3.length c0_3) := (zb BK269.out 3).trans rfl;have hczQN210 : wQN22.cell? ⟨gb269,4,none⟩ = some (.int .i64 a0_4) := (zb BK269.out 4).trans rfl;have hczQN211 : wQN22.cell? ⟨gb269,5,none⟩ = some (.int .i64 a0_5) := (zb BK269.out 5).trans rfl;have hczQN212 : wQN22.cell? ⟨gb269,6,none⟩ = some (.int .u64 a0_6) := (zb BK269.out 6).trans rfl;have hfzQN213 := za BK269.out 0;have hfzQN214 := za BK269.out 1;have hfzQN215 := za BK269.out 2;have hfzQN216 := za BK269.out 3;have hfzQN217 := za BK269.out 4;have hfzQN218 := za BK269.out 5;have hfzQN219 := za BK269.out 6) | (have _ := EQ0;((with_reducible refine zp (f := 59) rfl ?_);refine z6 (some 9) rfl rfl Try.func59 (by kernel_rfl) rfl #[.agg #[.int .i64 a0_0,.int .i64 a0_1,.slice A0_2 l0_2.length c0_2,.slice A0_3 l0_3.length c0_3,.int .i64 a0_4,.int .i64 a0_5],.int .i64 a1] rfl (by (try simp only [List.map_toArray,List.map_cons,List.map_nil]);first | done | rfl | (simp only [List.length_drop,List.length_take];rfl)) ?_;(with_reducible refine (zaj.calls a0_0 a0_1 _ _ l0_2 _ _ l0_3 a0_4 a0_5 a1 true _ ?side1 ?side2 ?side3 ?side4 A3.out).mono ?_);(case side1 => repeat (first | exact (Kd.C_below HR0_2.out HB.out) | (with_reducible refine Kd.C_alloc ?_ _) | (with_reducible refine Kd.C_drewN ?_ _) | (with_reducible refine Kd.C_drew ?_)));(case side2 => exact HC0_2.out);(case side3 => repeat (first | exact (Kd.C_below HR0_3.out HB.out) | (with_reducible refine Kd.C_alloc ?_ _) | (with_reducible refine Kd.C_drewN ?_ _) | (with_reducible refine Kd.C_drew ?_)));(case side4 => exact HC0_3.out);rintro e wQF59A31 ⟨rfl,hb⟩;refine ⟨_,rfl,?_⟩;have n0_ := zc.mk (zh (g := gb269) (o := .cells #[.int .i64 a0_0,.int .i64 a0_1,.slice A0_2 l0_2.length c0_2,.slice A0_3 l0_3.length c0_3,.int .i64 a0_4,.int .i64 a0_5,.int .u64 a0_6] 36 (0,0)) (hGq BK269.out) hb);have n1_ := zc.mk (zg hCq hb);clear BK269;clear HB;have BK269 := n0_;have HB := n1_;clear n0_ n1_;(try clear hb);(try clear hb2);(try clear hk);(try clear hi);have hczQF59A33 : wQF59A31.cell? ⟨gb269,0,none⟩ = some (.int .i64 a0_0) := (zb BK269.out 0).trans rfl;have hczQF59A34 : wQF59A31.cell? ⟨gb269,1,none⟩ = some (.int .i64 a0_1) := (zb BK269.out 1).trans rfl;have hczQF59A35 : wQF59A31.cell? ⟨gb269,2,none⟩ = some (.slice A0_2 l0_2.length c0_2) := (zb BK269.out 2).trans rfl;have hczQF59A36 : wQF59A31.cell? ⟨gb269,3,none⟩ = some (.slice A0_3 l0_3.length c0_3) := (zb BK269.out 3).trans rfl;have hczQF59A37 : wQF59A31.cell? ⟨gb269,4,none⟩ = some (.int .i64 a0_4) := (zb BK269.out 4).trans rfl;have hczQF59A38 : wQF59A31.cell? ⟨gb269,5,none⟩ = some (.int .i64 a0_5) := (zb BK269.out 5).trans rfl;have hczQF59A39 : wQF59A31.cell? ⟨gb269,6,none⟩ = some (.int .u64 a0_6) := (zb BK269.out 6).trans rfl;have hfzQF59A310 := za BK269.out 0;have hfzQF59A311 := za BK269.out 1;have hfzQF59A312 := za BK269.out 2;have hfzQF59A313 := za BK269.out 3;have hfzQF59A314 := za BK269.out 4;have hfzQF59A315 := za BK269.out 5;have hfzQF59A316 := za BK269.out 6)) | (have _ := EQ1;((with_reducible refine zp (f := 75) rfl ?_);refine z6 (some 15) rfl rfl Try.func75 (by kernel_rfl) rfl #[.int .u64 a0_6,.int .i64 a1] rfl (by (try simp only [List.map_toArray,List.map_cons,List.map_nil]);first | done | rfl | (simp only [List.length_drop,List.length_take];rfl)) ?_;(with_reducible refine (zbe.calls a0_6 a1 true _ A5.out).mono ?_);rintro e wQF75A51 ⟨rfl,hb⟩;refine ⟨_,rfl,?_⟩;have n0_ := zc.mk (zh (g := gb269) (o := .cells #[.int .i64 a0_0,.int .i64 a0_1,.slice A0_2 l0_2.length c0_2,.slice A0_3 l0_3.length c0_3,.int .i64 a0_4,.int .i64 a0_5,.int .u64 a0_6] 36 (0,0)) (hGq BK269.out) hb);have n1_ := zc.mk (zg hCq hb);clear BK269;clear HB;have BK269 := n0_;have HB := n1_;clear n0_ n1_;(try clear hb);(try clear hb2);(try clear hk);(try clear hi);have hczQF75A53 : wQF75A51.cell? ⟨gb269,0,none⟩ = some (.int .i64 a0_0) := (zb BK269.out 0).trans rfl;have hczQF75A54 : wQF75A51.cell? ⟨gb269,1,none⟩ = some (.int .i64 a0_1) := (zb BK269.out 1).trans rfl;have hczQF75A55 : wQF75A51.cell? ⟨gb269,2,none⟩ = some (.slice A0_2 l0_2.length c0_2) := (zb BK269.out 2).trans rfl;have hczQF75A56 : wQF75A51.cell? ⟨gb269,3,none⟩ = some (.slice A0_3 l0_3.length c0_3) := (zb BK269.out 3).trans rfl;have hczQF75A57 : wQF75A51.cell? ⟨gb269,4,none⟩ = some (.int .i64 a0_4) := (zb BK269.out 4).trans rfl;have hczQF75A58 : wQF75A51.cell? ⟨gb269,5,none⟩ = some (.int .i64 a0_5) := (zb BK269.out 5).trans rfl;have hczQF75A59 : wQF75A51.cell? ⟨gb269,6,none⟩ = some (.int .u64 a0_6) := (zb BK269.out 6).trans rfl;have hfzQF75A510 := za BK269.out 0;have hfzQF75A511 := za BK269.out 1;have hfzQF75A512 := za BK269.out 2;have hfzQF75A513 := za BK269.out 3;have hfzQF75A514 := za BK269.out 4;have hfzQF75A515 := za BK269.out 5;have hfzQF75A516 := za BK269.out 6)) | (have _ := EQ1;((with_reducible refine zp (f := 76) rfl ?_);refine z6 (some 20) rfl rfl Try.func76 (by kernel_rfl) rfl #[.int .u64 a0_6] rfl (by (try simp only [List.map_toArray,List.map_cons,List.map_nil]);first | done | rfl | (simp only [List.length_drop,List.length_take];rfl)) ?_;(with_reducible refine (zbi.calls a0_6 t272 _ A7.out).mono ?_);rintro e w' ⟨rfl,⟨nd,rfl⟩⟩;refine ⟨_,rfl,?_⟩)) | (have _ := EQ1;((with_reducible refine zp (f := 77) rfl ?_);refine z6 (some 22) rfl rfl Try.func77 (by kernel_rfl) rfl #[.int .i64 a1] rfl (by (try simp only [List.map_toArray,List.map_cons,List.map_nil]);first | done | rfl | (simp only [List.length_drop,List.length_take];rfl)) ?_;(with_reducible refine (zaJ.calls a1 t273 _ A8.out).mono ?_);rintro e w' ⟨rfl,⟨nd,rfl⟩⟩;refine ⟨_,rfl,?_⟩)) | (have _ := EQ2;((with_reducible refine zp (f := 75) rfl ?_);refine z6 (some 15) rfl rfl Try.func75 (by kernel_rfl) rfl #[.int .u64 a0_6,.int .i64 a1] rfl (by (try simp only [List.map_toArray,List.map_cons,List.map_nil]);first | done | rfl | (simp only [List.length_drop,List.length_take];rfl)) ?_;(with_reducible refine (zbe.calls a0_6 a1 false _ A5.out).mono ?_);rintro e wQF75A51 ⟨rfl,hb⟩;refine ⟨_,rfl,?_⟩;have n0_ := zc.mk (zh (g := gb269) (o := .cells #[.int .i64 a0_0,.int .i64 a0_1,.slice A0_2 l0_2.length c0_2,.slice A0_3 l0_3.length c0_3,.int .i64 a0_4,.int .i64 a0_5,.int .u64 a0_6] 36 (0,0)) (hGq BK269.out) hb);have n1_ := zc.mk (zg hCq hb);clear BK269;clear HB;have BK269 := n0_;have HB := n1_;clear n0_ n1_;(try clear hb);(try clear hb2);(try clear hk);(try clear hi))) | (have _ := EQ3;((with_reducible refine zp (f := 59) rfl ?_);refine z6 (some 9) rfl rfl Try.func59 (by kernel_rfl) rfl #[.agg #[.int .i64 a0_0,.int .i64 a0_1,.slice A0_2 l0_2.length c0_2,.slice A0_3 l0_3.length c0_3,.int .i64 a0_4,.int .i64 a0_5],.int .i64 a1] rfl (by (try simp only [List.map_toArray,List.map_cons,List.map_nil]);first | done | rfl | (simp only [List.length_drop,List.length_take];rfl)) ?_;(with_reducible refine (zaj.calls a0_0 a0_1 _ _ l0_2 _ _ l0_3 a0_4 a0_5 a1 false _ ?side1 ?side2 ?side3 ?side4 A3.out).mono ?_);(case side1 => repeat (first | exact (Kd.C_below HR0_2.out HB.out) | (with_reducible refine Kd.C_alloc ?_ _) | (with_reducible refine Kd.C_drewN ?_ _) | (with_reducible refine Kd.C_drew ?_)));(case side2 => exact HC0_2.out);(case side3 => repeat (first | exact (Kd.C_below HR0_3.out HB.out) | (with_reducible refine Kd.C_alloc ?_ _) | (with_reducible refine Kd.C_drewN ?_ _) | (with_reducible refine Kd.C_drew ?_)));(case side4 => exact HC0_3.out);rintro e wQF59A31 ⟨rfl,hb⟩;refine ⟨_,rfl,?_⟩;have n0_ := zc.mk (zh (g := gb269) (o := .cells #[.int .i64 a0_0,.int .i64 a0_1,.slice A0_2 l0_2.length c0_2,.slice A0_3 l0_3.length c0_3,.int .i64 a0_4,.int .i64 a0_5,.int .u64 a0_6] 36 (0,0)) (hGq BK269.out) hb);have n1_ := zc.mk (zg hCq hb);clear BK269;clear HB;have BK269 := n0_;have HB := n1_;clear n0_ n1_;(try clear hb);(try clear hb2);(try clear hk);(try clear hi))))
  go_ret
  exact ⟨hHq,hCq⟩
def beL (v : Nat) : List Int := if v = 0 then [] else beL (v / 256) ++ [((v % 256 : Nat) : Int)]
termination_by v
decreasing_by omega
theorem zfO : beL 0 = [] := by rw [beL];simp
theorem zg3 {v : Nat} (h : 0 < v) : beL v = beL (v / 256) ++ [((v % 256 : Nat) : Int)] := by rw [beL,if_neg (by omega)]
theorem beL_be (v : Nat) : (beL v).map (fun n => UInt8.ofNat n.toNat) = be v := by
 induction v using Nat.strongRecOn with
 | _ v ih =>
  rcases Nat.eq_zero_or_pos v with h | h
  ·subst h;rw [zfO,zcX];rfl
  ·rw [zg3 h,zeq h,List.map_append,ih _ (by omega)];rfl
theorem zhK (v : Nat) : zbt v = strOfNums (((beL v).length : Int) :: beL v) := (zfX v _ (beL_be v)).symm
def zgL : Value → Int | .int _ q => q | _ => 0
def ziF (cs : Array Value) (p : Nat) (L : List Int) : Prop := cs.size = 9 ∧ p + L.length = 9 ∧ ∀ i,i < L.length → cs[p + i]? = some (.int .u8 (L.getD i 0))
theorem ziF.cell {cs : Array Value} {p : Nat} {L : List Int} (h : ziF cs p L) (i : Nat) (hi : i < 9) : ∃ v,cs[i]? = some v :=
 ⟨cs[i]'(by rw [h.1];exact hi),Array.getElem?_eq_getElem _⟩
theorem ziF.set {cs : Array Value} {q : Nat} {L : List Int} (h : ziF cs (q + 1) L) (x : Int) : ziF (cs.setIfInBounds q (.int .u8 x)) q (x :: L) := by
 refine ⟨by simp [h.1],by have := h.2.1;simp only [List.length_cons];omega,fun i hi => ?_⟩
 rcases i with _ | i
 ·rw [Nat.add_zero,Array.getElem?_setIfInBounds_self_of_lt (by rw [h.1];have := h.2.1;omega)];rfl
 ·have h2 := h.2.2 i (by simpa using hi)
  rw [Array.getElem?_setIfInBounds_ne (by omega),← Nat.add_assoc,Nat.add_right_comm,h2];simp
theorem pow_step {v q : Nat} (h : v < 256 ^ (q + 1)) : v / 256 < 256 ^ q := by
 rw [Nat.pow_succ] at h
 exact Nat.div_lt_of_lt_mul (by rw [Nat.mul_comm];exact h)
set_option maxHeartbeats 1000000 in
set_option maxRecDepth 100000 in
theorem zag.walk (a0 : Nat) (w : World) (h1 : a0 < 18446744073709551616) :
  Calls Try.prog 51 #[.int .u64 a0] w fun e w' => e = .returned (.string (zbt a0)) ∧ Below w.heap.size w w' := by
 go_enter Try.func51,Try.ntmps51
 go_wp2
 refine wp_scope_jumps 0 (fun a' w' => ∃ (v p n : Nat) (L : List Int) (cs : Array Value) (u6 u7 u8 u9 u10 u11 u12 u13 u14 u15 u16 u17 : Value),
   ziF cs p L ∧ v < 256 ^ (p - 1) ∧ 1 ≤ p ∧ L.length = n ∧ beL a0 = beL v ++ L ∧
   w' = w.alloc (.cells cs 132) ∧
   a' = { tmps := #[.int .u64 v,undef,.string ⟨#[]⟩,.pointer (some ⟨w.heap.size,0,none⟩),.int .i64 p,.int .u8 n,u6,u7,u8,u9,u10,u11,u12,u13,u14,u15,u16,u17,undef,undef,undef,undef,undef,undef,undef,undef],defers := [] })
   (fun a' _ => (zgL (a'.tmps.getD 4 undef)).toNat) rfl ?_ ?_
 ·rcases Nat.eq_zero_or_pos a0 with h0 | h0
  ·subst h0
   have hcv := fun W => run_convert_bytes_arg (P := Try.prog) (w.alloc W) 62 5 Try.underlying62 Try.underlying5 w.heap.size 8 1 1 [0] rfl
   go_wp2
   go_step3
   go_wp2
   simp only [Exit.jump]
   go_ret
   exact ⟨by rw [zhK,zfO];rfl,(Below.refl _ _).alloc (Nat.le_refl _) _⟩
  ·go_wp2
   go_step3
   go_wp2
   go_step3
   refine ⟨rfl,a0 / 256,8,1,[(a0 % 256 : Nat)],_,_,_,_,_,_,_,_,_,_,_,_,_,?_,?_,?_,rfl,zg3 h0,rfl,rfl⟩
   ·refine ⟨rfl,rfl,fun i hi => ?_⟩
    obtain rfl : i = 0 := by simpa using hi
    rfl
   ·have : (256:Nat) ^ (8 - 1) = 72057594037927936 := by decide
    omega
   ·omega
 ·rintro a' w' ⟨v,p,n,L,cs,u6,u7,u8,u9,u10,u11,u12,u13,u14,u15,u16,u17,hN,hv,hp,hn,hb,rfl,rfl⟩
  obtain ⟨q,rfl⟩ : ∃ q,p = q + 1 := ⟨p - 1,by omega⟩
  have hq : q < 9 := by have := hN.2.1;omega
  have hnq : n + q = 8 := by have := hN.2.1;omega
  have hnn : n ≤ 8 := by omega
  have hvb : v < 18446744073709551616 := by
   have : 256 ^ (q + 1 - 1) ≤ 256 ^ 8 := Nat.pow_le_pow_right (by omega) (by omega)
   have : (256:Nat) ^ 8 = 18446744073709551616 := by decide
   omega
  obtain ⟨v0,hc⟩ := hN.cell q hq
  have HN := zc.mk hN
  have HB := zc.mk hb
  have HV := zc.mk hv
  have HL := zc.mk hn
  have HQ := zc.mk hnq
  clear hN hb hv hn hnq h1
  rcases Nat.eq_zero_or_pos v with h0 | h0
  ·subst h0
   have hq9 : q ≤ 9 := by omega
   have hsl : ∀ W : World,(Instr.sliceAt 132 (.pointer (some ⟨w.heap.size,0,none⟩)) (some (.int .i64 (q : Int))) none none).run Try.prog W = .ok (.slice (some ⟨w.heap.size,q,none⟩) (9 - q) (9 - q)) W := by
    intro W
    rw [run_sliceAt_array_l W 132 _ (by kernel_rfl) .i64 q (by omega) (by show (q : Int) ≤ 9;omega)]
    have e1 : (sizeOf (Try.prog.elem 132)).run Try.prog W = .ok 1 W := by kernel_rfl
    have e2 : Try.prog.arrayLen 132 = 9 := by kernel_rfl
    rw [e1,e2]
    simp only [Result.andThen,slicedAt,Int.toNat_natCast,Nat.mul_one]
    rw [if_neg (by omega),zdj]
   have hS := HN.out.set n
   have hcv := run_convert_bytes_arg (P := Try.prog) (w.alloc (.cells (cs.setIfInBounds q (.int .u8 (n : Int))) 132)) 62 5 Try.underlying62 Try.underlying5 w.heap.size q (9 - q) (9 - q) ((n : Int) :: L) (by rw [List.length_cons,HL.out];have := HQ.out;omega)
    (fun i hi => by
     have h2 := hS.2.2 i (by have := hS.2.1;omega)
     rw [World.cell?_alloc_new];exact h2) 9 Try.underlying9
   clear hS
   go_wp2
   simp only [Exit.jump]
   go_ret
   exact ⟨by rw [zhK,HB.out,zfO,List.nil_append,HL.out];rfl,(Below.refl _ _).alloc (Nat.le_refl _) _⟩
  ·obtain ⟨q',rfl⟩ : ∃ q',q = q' + 1 := ⟨q - 1,by
    rcases Nat.eq_zero_or_pos q with hz | hz
    ·have := HV.out;subst hz;simp at this;omega
    ·omega⟩
   go_wp2
   go_step3
   refine ⟨rfl,⟨v / 256,q' + 1,n + 1,((v % 256 : Nat) : Int) :: L,_,_,_,_,_,_,_,_,_,_,_,_,_,HN.out.set _,pow_step HV.out,by omega,by rw [List.length_cons,HL.out],?_,rfl,rfl⟩,?_⟩
   ·rw [HB.out,zg3 h0];simp
   ·simp [zgL];omega
def zag.f (a0 : Int) : Option (ByteArray) := if 0 ≤ a0 then (if a0 < 18446744073709551616 then (some (zbt a0.toNat)) else (none)) else (none)
theorem zag.calls (a0 : Int) (r : ByteArray) (w : World) (h : zag.f a0 = some r) :
  Calls Try.prog 51 #[.int .u64 a0] w fun e w' => e = .returned (.string r) ∧ Below w.heap.size w w' := by
 unfold zag.f at h
 split at h
 ·rename_i h0
  split at h
  ·rename_i h1
   obtain ⟨n,rfl⟩ := Int.eq_ofNat_of_zero_le h0
   obtain rfl := Option.some.inj h
   rw [Int.toNat_natCast]
   exact zag.walk n w (by omega)
  ·cases h
 ·cases h
def zbh.f (a0 : ByteArray) : Option (ByteArray) := if a0.size ≤ 1152921504606846976 then (some (zdF a0)) else (none)
theorem zbh.calls (a0 : ByteArray) (r : ByteArray) (w : World) (h : zbh.f a0 = some r) :
  Calls Try.prog 50 #[.string a0] w fun e w' => e = .returned (.string r) ∧ Below w.heap.size w w' := by
 unfold zbh.f at h
 split at h
 ·rename_i h0
  obtain rfl := Option.some.inj h
  clear h
  have hn : (zbt a0.size).size ≤ 9 := zaX (by omega)
  have hn2 : (zbt a0.size).size + a0.size ≤ 9223372036854775807 := by omega
  have HN := zc.mk (show zag.f (a0.size : Int) = some (zbt a0.size) by unfold zag.f;rw [if_pos (by omega),if_pos (by omega),Int.toNat_natCast])
  go_enter Try.func50,Try.ntmps50
  go_wp2_with (go_at_call 51;(with_reducible refine (zag.calls _ _ _ HN.out).mono ?_);rintro e w1 ⟨rfl,hb⟩)
  go_ret
  exact ⟨rfl,by assumption⟩
 ·cases h
mutual
def zC.j0 : Nat → ByteArray → Int → Option (Int × ByteArray × Int)
 | 0,_,_ => none
 | k + 1,x0,x5 => zC.l0 k x0 x5 0 1
def zC.l0 : Nat → ByteArray → Int → Int → Int → Option (Int × ByteArray × Int)
 | 0,_,_,_,_ => none
 | k + 1,x0,x5,x6,x7 => if x7 ≤ x5 then (if 0 ≤ x7 then (if x7 < (x0.size : Int) then (zC.l0 k x0 x5 (Go.bits .or .u64 (IntKind.u64.wrap (x6 * 256)) (IntKind.u64.wrap (bt x0 x7))) (wrap64 (x7 + 1))) else (none)) else (none)) else (if 0 ≤ (wrap64 (x5 + 1)) then (if (wrap64 (x5 + 1)) ≤ (x0.size : Int) then (some (x6,x0.extract ((wrap64 (x5 + 1)) : Int).toNat x0.size,0)) else (none)) else (none))
end
def zC.f (k : Nat) (a0 : ByteArray) : Option (Int × ByteArray × Int) := if a0.toList = ([] : List UInt8) then (some (0,(⟨#[]⟩ : ByteArray),2)) else (if 0 < (a0.size : Int) then (if (wrap64 (bt a0 0)) > 8 then (some (0,(⟨#[]⟩ : ByteArray),3)) else (if (a0.size : Int) ≤ (wrap64 (bt a0 0)) then (some (0,(⟨#[]⟩ : ByteArray),2)) else (if (wrap64 (bt a0 0)) > 0 then (if 1 < (a0.size : Int) then (if (bt a0 1) = 0 then (some (0,(⟨#[]⟩ : ByteArray),3)) else (zC.j0 k a0 (wrap64 (bt a0 0)))) else (none)) else (zC.j0 k a0 (wrap64 (bt a0 0)))))) else (none))
set_option maxHeartbeats 8000000 in
set_option maxRecDepth 100000 in
theorem zC.calls (k : Nat) (a0 : ByteArray) (r1 : Int) (r2 : ByteArray) (r3 : Int) (w : World) (h : zC.f k a0 = some (r1,r2,r3)) :
  Calls Try.prog 53 #[.string a0] w fun e w' => e = .returned (.tuple #[.int .u64 r1,.string r2,.int .i64 r3]) ∧ zaF w w' := by
 have H : (if a0.toList = ([] : List UInt8) then (some (0,(⟨#[]⟩ : ByteArray),2)) else (if 0 < (a0.size : Int) then (if (wrap64 (bt a0 0)) > 8 then (some (0,(⟨#[]⟩ : ByteArray),3)) else (if (a0.size : Int) ≤ (wrap64 (bt a0 0)) then (some (0,(⟨#[]⟩ : ByteArray),2)) else (if (wrap64 (bt a0 0)) > 0 then (if 1 < (a0.size : Int) then (if (bt a0 1) = 0 then (some (0,(⟨#[]⟩ : ByteArray),3)) else (zC.j0 k a0 (wrap64 (bt a0 0)))) else (none)) else (zC.j0 k a0 (wrap64 (bt a0 0)))))) else (none))) = some (r1,r2,r3) := h
 clear h
 by_cases c2 : a0.toList = ([] : List UInt8)
 ·rw [if_pos c2] at H
  have c2b0 : (a0.toList == ([] : List UInt8)) = true := beq_iff_eq.mpr c2
  have c2b1 : (a0.toList != ([] : List UInt8)) = false := bne_eq_false_iff_eq.mpr c2
  clear c2
  simp only [Option.some.injEq,Prod.mk.injEq] at H
  obtain ⟨rfl,rfl,rfl⟩ := H
  go_enter Try.func53,Try.ntmps53
  go_wp2
  repeat (go_quiet (fail);try go_wp2)
  go_ret3
  exact ⟨hDq,hEq⟩
 ·rw [if_neg c2] at H
  have c2b0 : (a0.toList == ([] : List UInt8)) = false := beq_eq_false_iff_ne.mpr c2
  have c2b1 : (a0.toList != ([] : List UInt8)) = true := bne_iff_ne.mpr c2
  by_cases c3 : 0 < (a0.size : Int)
  ·rw [if_pos c3] at H
   have c3b0 : decide (0 < (a0.size : Int)) = true := decide_eq_true c3
   have c3b1 : decide (0 < a0.size) = true := decide_eq_true (by omega)
   clear c3
   have HC5 := zc.mk H
   clear H
   have p4 : 0 ≤ (0 : Int) := (by omega)
   have q4 : 0 < a0.size := (by have : (0 : Int) < (a0.size : Int) := hFq;omega)
   have hx4 : ∀ h : 0 < a0.size,((a0[0]'h).toNat : Int) = bt a0 0 := zcy a0 0
   clear p4
   have qi4 : (0 < (a0.size : Int)) = True := eq_true (hFq)
   replace q4 := eq_true q4
   go_enter Try.func53,Try.ntmps53
   go_upto_block 0 with (fail)
   repeat (go_quiet (fail);go_upto_block 0 with (fail))
   go_cut [] (fun wc => ∃ (kq : Nat),zc (zC.j0 kq a0 (wrap64 (bt a0 0)) = some (r1,r2,r3)) ∧ zc (kq ≤ k) ∧ zaF w wc)
   case first =>
    have H := HC5.out
    clear HC5
    by_cases c6 : (wrap64 (bt a0 0)) > 8
    ·rw [if_pos c6] at H
     have c6b0 : decide (8 < (wrap64 (bt a0 0))) = true := decide_eq_true c6
     clear c6
     (first | rw [c6b0] | (simp only [zN,zQ];rw [c6b0]) | skip)
     simp only [Option.some.injEq,Prod.mk.injEq] at H
     obtain ⟨rfl,rfl,rfl⟩ := H
     go_wp2
     repeat (go_quiet (fail);try go_wp2)
     go_ret3
     exact ⟨hDq,hEq⟩
    ·rw [if_neg c6] at H
     have c6b0 : decide (8 < (wrap64 (bt a0 0))) = false := decide_eq_false c6
     clear c6
     (first | rw [c6b0] | (simp only [zN,zQ];rw [c6b0]) | skip)
     by_cases c7 : (a0.size : Int) ≤ (wrap64 (bt a0 0))
     ·rw [if_pos c7] at H
      have c7b0 : decide ((a0.size : Int) ≤ (wrap64 (bt a0 0))) = true := decide_eq_true c7
      clear c7
      simp only [Option.some.injEq,Prod.mk.injEq] at H
      obtain ⟨rfl,rfl,rfl⟩ := H
      go_wp2
      repeat (go_quiet (fail);try go_wp2)
      go_ret3
      exact ⟨hDq,hEq⟩
     ·rw [if_neg c7] at H
      have c7b0 : decide ((a0.size : Int) ≤ (wrap64 (bt a0 0))) = false := decide_eq_false c7
      clear c7
      by_cases c8 : (wrap64 (bt a0 0)) > 0
      ·rw [if_pos c8] at H
       have c8b0 : decide (0 < (wrap64 (bt a0 0))) = true := decide_eq_true c8
       clear c8
       by_cases c9 : 1 < (a0.size : Int)
       ·rw [if_pos c9] at H
        have c9b0 : decide (1 < (a0.size : Int)) = true := decide_eq_true c9
        have c9b1 : decide (1 < a0.size) = true := decide_eq_true (by omega)
        clear c9
        by_cases c11 : (bt a0 1) = 0
        ·rw [if_pos c11] at H
         have c11b0 : ((bt a0 1) == 0) = true := beq_iff_eq.mpr c11
         have c11b1 : ((bt a0 1) != 0) = false := bne_eq_false_iff_eq.mpr c11
         clear c11
         simp only [Option.some.injEq,Prod.mk.injEq] at H
         obtain ⟨rfl,rfl,rfl⟩ := H
         have p10 : 0 ≤ (1 : Int) := (by omega)
         have q10 : 1 < a0.size := (by have : (1 : Int) < (a0.size : Int) := hFq;omega)
         have hx10 : ∀ h : 1 < a0.size,((a0[1]'h).toNat : Int) = bt a0 1 := zcy a0 1
         clear p10
         have qi10 : (1 < (a0.size : Int)) = True := eq_true (hFq)
         replace q10 := eq_true q10
         go_wp2
         repeat (go_quiet (fail);try go_wp2)
         go_ret3
         exact ⟨hDq,hEq⟩
        ·rw [if_neg c11] at H
         have c11b0 : ((bt a0 1) == 0) = false := beq_eq_false_iff_ne.mpr c11
         have c11b1 : ((bt a0 1) != 0) = true := bne_iff_ne.mpr c11
         have H' := zc.mk H
         clear H
         have p10 : 0 ≤ (1 : Int) := (by omega)
         have q10 : 1 < a0.size := (by have : (1 : Int) < (a0.size : Int) := hFq;omega)
         have hx10 : ∀ h : 1 < a0.size,((a0[1]'h).toNat : Int) = bt a0 1 := zcy a0 1
         clear p10
         have qi10 : (1 < (a0.size : Int)) = True := eq_true (hFq)
         replace q10 := eq_true q10
         go_wp2
         repeat (go_quiet (fail);try go_wp2)
         go_meet
         case rel => exact ⟨_,H',⟨by first | omega | exact Nat.le_refl _⟩,hEq⟩
       ·rw [if_neg c9] at H
        exact absurd H (by simp)
      ·rw [if_neg c8] at H
       have c8b0 : decide (0 < (wrap64 (bt a0 0))) = false := decide_eq_false c8
       clear c8
       have H' := zc.mk H
       clear H
       go_wp2
       repeat (go_quiet (fail);try go_wp2)
       go_meet
       case rel => exact ⟨_,H',⟨by first | omega | exact Nat.le_refl _⟩,hEq⟩
   case rest =>
    clear HC5
    try clear c1
    try clear p1
    try clear q1
    try clear hx1
    try clear qi1
    try clear c2
    try clear c2b0
    try clear c2b1
    try clear p2
    try clear c3
    try clear c3b0
    try clear c3b1
    try clear p4
    try clear q4
    try clear hx4
    try clear qi4
    try clear c5
    try clear c6
    try clear c6b0
    try clear p6
    try clear c7
    try clear c7b0
    try clear c8
    try clear c8b0
    try clear c9
    try clear c9b0
    try clear c9b1
    try clear p10
    try clear q10
    try clear hx10
    try clear qi10
    try clear c11
    try clear c11b0
    try clear c11b1
    try clear p10
    try clear p4
    try clear q10
    try clear q4
    obtain ⟨kq,HA,HJ4,⟨mc4,rfl⟩⟩ := hcut
    cases kq with
    | zero => exact absurd HA.out (by simp [zC.j0])
    | succ kj4 =>
     have H := HA.out
     clear HA
     simp only [zC.j0] at H
     have H' := zc.mk H
     clear H
     go_wp2
     repeat (go_quiet (fail);try go_wp2)
     go_loopg [6,7] kj4 (fun kq v6 v7 w' => ∃ (x6_2 : Int) (x7_2 : Int),v6 = .int .u64 x6_2 ∧ v7 = .int .i64 x7_2 ∧ zc (zC.l0 kq a0 (wrap64 (bt a0 0)) x6_2 x7_2 = some (r1,r2,r3)) ∧ zc (kq ≤ kj4) ∧ zaF w w')
     case atStart => exact ⟨(0),(1),(hDq),(hDq),H',⟨Nat.le_refl _⟩,hEq⟩
     case round =>
      clear H'
      try clear c1
      try clear p1
      try clear q1
      try clear hx1
      try clear qi1
      try clear c2
      try clear c2b0
      try clear c2b1
      try clear p2
      try clear c3
      try clear c3b0
      try clear c3b1
      try clear c4
      try clear p4
      try clear q4
      try clear hx4
      try clear qi4
      try clear c5
      try clear c6
      try clear c6b0
      try clear p6
      try clear c7
      try clear c7b0
      try clear c8
      try clear c8b0
      try clear c9
      try clear c9b0
      try clear c9b1
      try clear p10
      try clear q10
      try clear hx10
      try clear qi10
      try clear c11
      try clear c11b0
      try clear c11b1
      try clear p1
      try clear p10
      try clear p2
      try clear p4
      try clear p6
      try clear q1
      try clear q10
      try clear q4
      obtain ⟨x6_2,x7_2,rfl,rfl,HA,HK2,⟨m2,rfl⟩⟩ := hrel
      cases gk with
      | zero => exact absurd HA.out (by simp [zC.l0])
      | succ k2 =>
       have H := HA.out
       clear HA
       simp only [zC.l0] at H
       by_cases c12 : x7_2 ≤ (wrap64 (bt a0 0))
       ·rw [if_pos c12] at H
        have c12b0 : decide (x7_2 ≤ (wrap64 (bt a0 0))) = true := decide_eq_true c12
        clear c12
        by_cases c13 : 0 ≤ x7_2
        ·rw [if_pos c13] at H
         have c13b0 : decide (0 ≤ x7_2) = true := decide_eq_true c13
         clear c13
         by_cases c14 : x7_2 < (a0.size : Int)
         ·rw [if_pos c14] at H
          have c14b0 : decide (x7_2 < (a0.size : Int)) = true := decide_eq_true c14
          clear c14
          have H' := zc.mk H
          clear H
          have p15 : 0 ≤ (x7_2 : Int) := hFq
          have q15 : x7_2 < (a0.size : Int) := hFq
          have hx15 := zcy a0 x7_2
          replace p15 := eq_true p15
          replace q15 := eq_true q15
          go_wp2
          repeat (go_quiet (fail);try go_wp2)
          go_roundg k2
          case measure => have := HJ4.out;have := HK2.out;omega
          case rel => exact ⟨(Go.bits .or .u64 (IntKind.u64.wrap (x6_2 * 256)) (IntKind.u64.wrap (bt a0 x7_2))),(wrap64 (x7_2 + 1)),(hDq),(hDq),H',⟨by have := HJ4.out;have := HK2.out;omega⟩,hEq⟩
         ·rw [if_neg c14] at H
          exact absurd H (by simp)
        ·rw [if_neg c13] at H
         exact absurd H (by simp)
       ·rw [if_neg c12] at H
        have c12b0 : decide (x7_2 ≤ (wrap64 (bt a0 0))) = false := decide_eq_false c12
        clear c12
        obtain ⟨ji16,hji16⟩ : ∃ j_ : Int,(wrap64 ((wrap64 (bt a0 0)) + 1)) = j_ := ⟨_,rfl⟩
        replace H : (if 0 ≤ (ji16) then (if (ji16) ≤ (a0.size : Int) then (some (x6_2,a0.extract ((ji16) : Int).toNat a0.size,0)) else (none)) else (none)) = some (r1,r2,r3) := by first | (rw [hji16] at H;exact H) | (simp only [hji16] at H ⊢;exact H)
        have hji16w : (IntKind.i64.wrap ((wrap64 (bt a0 0)) + 1)) = ji16 := (zN _).trans hji16
        by_cases c17 : 0 ≤ (ji16)
        ·rw [if_pos c17] at H
         have c17b0 := eq_true c17
         have c17b1 : decide (0 ≤ (ji16)) = true := decide_eq_true c17
         clear c17
         by_cases c18 : (ji16) ≤ (a0.size : Int)
         ·rw [if_pos c18] at H
          have c18b0 := eq_true c18
          have c18b1 : decide ((ji16) ≤ (a0.size : Int)) = true := decide_eq_true c18
          clear c18
          simp only [Option.some.injEq,Prod.mk.injEq] at H
          obtain ⟨rfl,rfl,rfl⟩ := H
          go_wp2
          repeat (go_quiet (fail);try go_wp2)
          go_ret3
          exact ⟨by first | rfl | (simp;done) | (simp only [← hji16] <;> (first | rfl | simp)) | (simp [*];done),hEq⟩
         ·rw [if_neg c18] at H
          exact absurd H (by simp)
        ·rw [if_neg c17] at H
         exact absurd H (by simp)
  ·rw [if_neg c3] at H
   exact absurd H (by simp)
def zr.l0 : Nat → Int → ByteArray → Option (ByteArray)
 | 0,_,_ => none
 | k + 1,x0,x3 => if x0 > 0 then ((some (([(Int.tmod x0 256) % 256] : List Int) : List Int)).bind fun y398 => (if (strOfNums y398).size + x3.size ≤ 9223372036854775807 then (zr.l0 k (IntKind.u64.wrap (Int.tdiv x0 256)) ((strOfNums y398) ++ x3)) else (none))) else ((some (([((x3.size : Int)) % 256] : List Int) : List Int)).bind fun y401 => (if (strOfNums y401).size + x3.size ≤ 9223372036854775807 then (some ((strOfNums y401) ++ x3)) else (none)))
def zr.f (k : Nat) (a0 : Int) : Option (ByteArray) := zr.l0 k a0 (⟨#[]⟩ : ByteArray)
set_option maxHeartbeats 8000000 in
set_option maxRecDepth 100000 in
theorem zr.calls (k : Nat) (a0 : Int) (r : ByteArray) (w : World) (h : zr.f k a0 = some r) :
  Calls Try.prog 103 #[.int .u64 a0] w fun e w' => e = .returned (.string r) ∧ Below w.heap.size w w' := by
 have HB := zc.mk (Below.refl w.heap.size w)
 have H : (zr.l0 k a0 (⟨#[]⟩ : ByteArray)) = some r := h
 clear h
 have H' := zc.mk H
 clear H
 go_enter Try.func103,Try.ntmps103
 go_wp2
 go_loopg [0,3] k (fun kq v0 v3 w' => ∃ (x0_1 : Int) (x3_1 : ByteArray),v0 = .int .u64 x0_1 ∧ v3 = .string x3_1 ∧ zc (zr.l0 kq x0_1 x3_1 = some r) ∧ zc (kq ≤ k) ∧ zc (Below w.heap.size w w'))
 case atStart => exact ⟨(a0),((⟨#[]⟩ : ByteArray)),(hDq),(hDq),H',⟨Nat.le_refl _⟩,⟨by repeat (first | (with_reducible first | exact HB.out | apply zI | apply zk | apply zB) | exact HB.out)⟩⟩
 case round =>
  clear H'
  try clear c1
  obtain ⟨x0_1,x3_1,rfl,rfl,HA,HK1,HB⟩ := hrel
  cases gk with
  | zero => exact absurd HA.out (by simp [zr.l0])
  | succ k1 =>
   have H := HA.out
   clear HA
   simp only [zr.l0] at H
   by_cases c2 : x0_1 > 0
   ·rw [if_pos c2] at H
    have c2b0 : decide (0 < x0_1) = true := decide_eq_true c2
    clear c2
    obtain ⟨y398,hy398⟩ : ∃ y_ : List Int,y_ = (([(Int.tmod x0_1 256) % 256] : List Int)) := ⟨_,rfl⟩
    replace H : (if (strOfNums y398).size + x3_1.size ≤ 9223372036854775807 then (zr.l0 k1 (IntKind.u64.wrap (Int.tdiv x0_1 256)) ((strOfNums y398) ++ x3_1)) else (none)) = some r := by first | (rw [hy398];with_reducible exact H) | (have H2_ := (Option.bind_some _ _).symm.trans H;rw [hy398];with_reducible exact H2_) | (have H2_ := (Option.bind_some _ _).symm.trans H;with_reducible exact H2_) | with_reducible exact H | (rw [hy398];exact H) | exact H
    have Ny398 := zc.mk hy398
    clear hy398
    by_cases c3 : (strOfNums y398).size + x3_1.size ≤ 9223372036854775807
    ·rw [if_pos c3] at H
     have c3b0 := eq_true c3
     have c3b1 : decide ((strOfNums y398).size + x3_1.size ≤ 9223372036854775807) = true := decide_eq_true c3
     try have c3b2 : (9223372036854775807 < (strOfNums y398).size + x3_1.size) = False := eq_false (Nat.not_lt.2 c3)
     have H' := zc.mk H
     clear H
     go_wp2_with (first | ((with_reducible refine zD (N := 9) rfl ?_);refine Kd.R_lit (Kd.int .u8) _ 5 ?hg (N := 9) ?hd (xs := ([(Int.tmod x0_1 256) % 256] : List Int)) (inner := [.int .u8 ((Int.tmod x0_1 256) % 256)]) (ok := fun _ => True) (okp := fun _ => True) ?hr ?hp (fun _ hk => hk) trivial (Below.refl _ _) (Nat.le_refl _) (by simp) ?_;(case hd => rfl);(case hg => rfl);(case hr => first | (go_simp;done) | (go_simp;rfl));(case hp => exact (zaR.one (show Kd.M (Kd.int .u8) _ _ _ ((Int.tmod x0_1 256) % 256) [.int .u8 ((Int.tmod x0_1 256) % 256)] from rfl) (zaR.none _ _)));intro v399 w4 ho5 hb hg_ hnew_;clear hg_ hnew_;(first | rw [← Ny398.out] at ho5 | (simp only [Int.reduceToNat] at ho5;rw [← Ny398.out] at ho5));have n0_ := zc.mk (Kd.R_lower ho5 (zj hBq));have n1_ := zc.mk (zg hBq hb);clear HB;have HO400 := n0_;have HB := n1_;clear n0_ n1_;clear hb ho5;have hcv6 := zdu (P := Try.prog) Try.underlying62 Try.underlying5 Try.underlying9 (Kd.own_of_R HO400.out)))
     go_roundg k1
     case measure => have := HK1.out;omega
     case rel => exact ⟨(IntKind.u64.wrap (Int.tdiv x0_1 256)),((strOfNums y398) ++ x3_1),(hDq),(hDq),H',⟨by have := HK1.out;omega⟩,⟨by repeat (first | (with_reducible first | exact HB.out | apply zI | apply zk | apply zB) | exact HB.out)⟩⟩
    ·rw [if_neg c3] at H
     exact absurd H (by simp)
   ·rw [if_neg c2] at H
    have c2b0 : decide (0 < x0_1) = false := decide_eq_false c2
    clear c2
    obtain ⟨y401,hy401⟩ : ∃ y_ : List Int,y_ = (([((x3_1.size : Int)) % 256] : List Int)) := ⟨_,rfl⟩
    replace H : (if (strOfNums y401).size + x3_1.size ≤ 9223372036854775807 then (some ((strOfNums y401) ++ x3_1)) else (none)) = some r := by first | (rw [hy401];with_reducible exact H) | (have H2_ := (Option.bind_some _ _).symm.trans H;rw [hy401];with_reducible exact H2_) | (have H2_ := (Option.bind_some _ _).symm.trans H;with_reducible exact H2_) | with_reducible exact H | (rw [hy401];exact H) | exact H
    have Ny401 := zc.mk hy401
    clear hy401
    by_cases c7 : (strOfNums y401).size + x3_1.size ≤ 9223372036854775807
    ·rw [if_pos c7] at H
     have c7b0 := eq_true c7
     have c7b1 : decide ((strOfNums y401).size + x3_1.size ≤ 9223372036854775807) = true := decide_eq_true c7
     try have c7b2 : (9223372036854775807 < (strOfNums y401).size + x3_1.size) = False := eq_false (Nat.not_lt.2 c7)
     obtain rfl := Option.some.inj H
     go_wp2_with (first | ((with_reducible refine zD (N := 18) rfl ?_);refine Kd.R_lit (Kd.int .u8) _ 5 ?hg (N := 18) ?hd (xs := ([((x3_1.size : Int)) % 256] : List Int)) (inner := [.int .u8 (((x3_1.size : Int)) % 256)]) (ok := fun _ => True) (okp := fun _ => True) ?hr ?hp (fun _ hk => hk) trivial (Below.refl _ _) (Nat.le_refl _) (by simp) ?_;(case hd => rfl);(case hg => rfl);(case hr => first | (go_simp;done) | (go_simp;rfl));(case hp => exact (zaR.one (show Kd.M (Kd.int .u8) _ _ _ (((x3_1.size : Int)) % 256) [.int .u8 (((x3_1.size : Int)) % 256)] from rfl) (zaR.none _ _)));intro v402 w8 ho9 hb hg_ hnew_;clear hg_ hnew_;(first | rw [← Ny401.out] at ho9 | (simp only [Int.reduceToNat] at ho9;rw [← Ny401.out] at ho9));have n0_ := zc.mk (Kd.R_lower ho9 (zj hBq));have n1_ := zc.mk (zg hBq hb);clear HB;have HO403 := n0_;have HB := n1_;clear n0_ n1_;clear hb ho9;have hcv10 := zdu (P := Try.prog) Try.underlying62 Try.underlying5 Try.underlying9 (Kd.own_of_R HO403.out)))
     go_ret
     exact ⟨hHq,hBq⟩
    ·rw [if_neg c7] at H
     exact absurd H (by simp)
theorem zf6 (acc : Bs) (hl : acc.length ≤ 200) : Ev (fun k => zr.l0 k ((0 : Nat) : Int) (toB acc)) (toB (UInt8.ofNat acc.length :: acc)) := by
 refine Ev.step (fun k => by rw [zr.l0]) ?_
 refine zU (by simp) ?_
 simp only [Option.bind_some,zbR,List.map_cons,List.map_nil,zX,List.length_cons,List.length_nil]
 refine zF (by omega) ?_
 have e : ((acc.length : Int) % 256).toNat = acc.length := by omega
 rw [e]
 exact zap (Ev.now _) (by rw [← za9];rfl)
theorem zhQ (n : Nat) : ∀ (v : Nat) (acc : Bs),v < 256 ^ n → n + acc.length ≤ 200 → v < 18446744073709551616 →
  Ev (fun k => zr.l0 k (v : Int) (toB acc)) (toB (UInt8.ofNat (be v ++ acc).length :: (be v ++ acc))) := by
 induction n with
 | zero =>
  intro v acc hv hl _
  obtain rfl : v = 0 := by simpa using hv
  rw [zcX,List.nil_append]
  exact zf6 acc (by omega)
 | succ n ih =>
  intro v acc hv hl hm
  rcases Nat.eq_zero_or_pos v with h | h
  ·subst h
   rw [zcX,List.nil_append]
   exact zf6 acc (by omega)
  ·refine Ev.step (fun k => by rw [zr.l0]) ?_
   refine zF (by omega) ?_
   simp only [Option.bind_some,zbR,List.map_cons,List.map_nil,zX,List.length_cons,List.length_nil]
   refine zF (by omega) ?_
   have e1 : IntKind.u64.wrap (Int.tdiv (v : Int) 256) = ((v / 256 : Nat) : Int) := by
    rw [Int.tdiv_eq_ediv_of_nonneg (by omega),za4 (by omega) (by omega)];omega
   have e2 : (Int.tmod (v : Int) 256 % 256).toNat = v % 256 := by
    rw [Int.tmod_eq_emod_of_nonneg (by omega)];omega
   rw [e1,e2]
   have := ih (v / 256) ([UInt8.ofNat (v % 256)] ++ acc) (by rw [Nat.pow_succ] at hv;omega) (by simp;omega) (by omega)
   rw [zeq h,List.append_assoc]
   rw [za9 [UInt8.ofNat (v % 256)] acc] at this
   exact this
theorem zeX (v : Nat) (hv : v < 18446744073709551616) : Ev (fun k => zr.f k (v : Int)) (zbt v) := by
 have e8 : (256 : Nat) ^ 8 = 18446744073709551616 := by decide
 have h := zhQ 8 v [] (by omega) (by simp) hv
 rw [List.append_nil] at h
 exact h
def zbb.f (a0 : ByteArray) : Option (ByteArray) := if a0.size ≤ 1152921504606846976 then (some (zdF a0)) else (none)
theorem zbb.calls (a0 : ByteArray) (r : ByteArray) (w : World) (h : zbb.f a0 = some r) :
  Calls Try.prog 119 #[.string a0] w fun e w' => e = .returned (.string r) ∧ Below w.heap.size w w' := by
 unfold zbb.f at h
 split at h
 ·rename_i h0
  obtain rfl := Option.some.inj h
  clear h
  have hn : (zbt a0.size).size ≤ 9 := zaX (by omega)
  have hn2 : (zbt a0.size).size + a0.size ≤ 9223372036854775807 := by omega
  obtain ⟨k,hk⟩ := (zeX a0.size (by omega)).rounds
  have HN := zc.mk hk
  clear hk
  go_enter Try.func119,Try.ntmps119
  go_wp2_with (go_at_call 103;(with_reducible refine (zr.calls _ _ _ _ HN.out).mono ?_);rintro e w1 ⟨rfl,hb⟩)
  go_ret
  exact ⟨rfl,by assumption⟩
 ·cases h
end Go.Proofs.Ytgdpiegkoeikiaa.Px