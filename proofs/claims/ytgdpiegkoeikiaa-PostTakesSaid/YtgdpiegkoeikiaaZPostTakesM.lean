/- Part 13 of 35 of the proof of the law PostTakes: what is proved is the statement at the end of the last part; its conditions are those of the given row. -/
import Derived.Lib.Builder
import Derived.Lib.UnsafeStr
import Derived.Lib.Strings
import Derived.Lib.Slices
import Derived.Lib.Walk
import Derived.RegionTactic
import Derived.ChangeAlike
import Derived.Test.YtgdpiegkoeikiaaZPostTakesF
import Derived.Test.YtgdpiegkoeikiaaZPostTakesG
namespace Go.Proofs.Ytgdpiegkoeikiaa.Px
open Go.RowKit Go.Proofs.YtgdpiegkoeikiaaW.PrintWords Go.Proofs.YtgdpiegkoeikiaaW.PrintLast Go.Proofs.YtgdpiegkoeikiaaW.PrintMore
attribute [local go_sem] zF zH zQ zR zy zz zG zI
set_option linter.unusedVariables false
set_option linter.unusedSimpArgs false
abbrev zg0 (B b : Nat) (l : Bs) (w : World) : Prop := Lib.IsBuilder 150 5 B b (Lib.byteCells l) w
theorem zg0.below {B b : Nat} {l : Bs} {w w' : World} (h : zg0 B b l w) (hb : Below w.heap.size w w') : zg0 B b l w' := by
 have key : ∀ p,Lib.BuilderAt 150 5 B b p (Lib.byteCells l) w → Lib.BuilderAt 150 5 B b p (Lib.byteCells l) w' := by
  rintro p ⟨hB,v,hk,hown,hne⟩
  have hlt : b < w.heap.size := Lib.BuilderAt.lt ⟨hB,v,hk,hown,hne⟩
  exact ⟨hB,v,(hb.block b hlt).trans hk,zdP hown hb,hne⟩
 exact h.imp (key _) (key _)
def zcY (l : List ByteArray) : Bs := l.flatMap (fun t => zdy (ofB t))
def zcM (l : List ByteArray) : Bs := zbb l.length ++ zcY l
def zb6.T3 : Bool × List (List Nat × List Nat) := (true,[([],[]),([0],[0]),([1],[1]),([2],[2]),([],[]),([4],[4]),([5],[5]),([6,3],[6]),([3,7],[3,7]),([],[]),([9],[9]),([10,7],[10]),([8,11],[8,11]),([12,11,0,1,2,3,4,5,6,7,8,9,10,11,12],[12]),([13,0,1,2,3,4,5,6,7,8,9,10,11,12,13],[])])
def zb6.B3 : List Nat := [0,1,3,7,0,16,48,127,255,0,512,1791,4095,8191,16383]
theorem zb6.tab3 : zcI .any (zhg Try.f80 3) = zb6.T3 := by kernel_rfl
theorem zb6.bits3 : zc5 zb6.T3.2 zb6.B3 = true := by kernel_rfl
def zab.l0 : Nat → List ByteArray → List ByteArray → Int → Option (Bool)
 | 0,_,_,_ => none
 | k + 1,x0,x1,x5 => if x5 < (x0.length : Int) then (if 0 ≤ x5 then (if x5 < (x1.length : Int) then (if (zaF ByteArray.empty x0 x5).toList = (zaF ByteArray.empty x1 x5).toList then (zab.l0 k x0 x1 (wrap64 (x5 + 1))) else (some false)) else (none)) else (none)) else (some true)
def zab.f (k : Nat) (l0 : List ByteArray) (l1 : List ByteArray) : Option (Bool) := if (l0.length : Int) = (l1.length : Int) then (zab.l0 k l0 l1 0) else (some false)
set_option maxHeartbeats 8000000 in
set_option maxRecDepth 100000 in
theorem zab.calls (k : Nat) (A0 : Option Addr) (c0 : Nat) (l0 : List ByteArray) (A1 : Option Addr) (c1 : Nat) (l1 : List ByteArray) (r : Bool) (w : World) (hr0 : Kd.C Kd.string w A0 l0.length l0) (hc0 : l0.length ≤ c0) (hr1 : Kd.C Kd.string w A1 l1.length l1) (hc1 : l1.length ≤ c1) (h : zab.f k l0 l1 = some r) :
  Calls Try.prog 43 #[.slice A0 l0.length c0,.slice A1 l1.length c1] w fun e w' => e = .returned (.bool r) ∧ zax w w' := by
 have HR0 := zc.mk hr0
 have HC0 := zc.mk hc0
 clear hr0 hc0
 have HR1 := zc.mk hr1
 have HC1 := zc.mk hc1
 clear hr1 hc1
 have H : (if (l0.length : Int) = (l1.length : Int) then (zab.l0 k l0 l1 0) else (some false)) = some r := h
 clear h
 by_cases c3 : (l0.length : Int) = (l1.length : Int)
 ·rw [if_pos c3] at H
  have c3b0 : ((l0.length : Int) == (l1.length : Int)) = true := beq_iff_eq.mpr c3
  have c3b1 : ((l0.length : Int) != (l1.length : Int)) = false := bne_eq_false_iff_eq.mpr c3
  have c3b2 : (l0.length == l1.length) = true := by first | simpa using c3 | (simp at c3 ⊢;omega)
  clear c3
  have H' := zc.mk H
  clear H
  go_enter Try.func43,Try.ntmps43
  go_wp2
  repeat (go_quiet (fail);try go_wp2)
  go_loopg [5] k (fun kq v5 w' => ∃ (x5_1 : Int),v5 = .int .i64 x5_1 ∧ zc (zab.l0 kq l0 l1 x5_1 = some r) ∧ zc (kq ≤ k) ∧ zax w w')
  case atStart => exact ⟨(0),(hDq),H',⟨Nat.le_refl _⟩,hEq⟩
  case round =>
   clear H'
   try clear c1
   try clear p2
   try clear c3
   try clear c3b0
   try clear c3b1
   try clear c3b2
   obtain ⟨x5_1,rfl,HA,HK1,⟨m1,rfl⟩⟩ := hrel
   cases gk with
   | zero => exact absurd HA.out (by simp [zab.l0])
   | succ k1 =>
    have H := HA.out
    clear HA
    simp only [zab.l0] at H
    by_cases c4 : x5_1 < (l0.length : Int)
    ·rw [if_pos c4] at H
     have c4b0 : decide (x5_1 < (l0.length : Int)) = true := decide_eq_true c4
     clear c4
     by_cases c5 : 0 ≤ x5_1
     ·rw [if_pos c5] at H
      have c5b0 : decide (0 ≤ x5_1) = true := decide_eq_true c5
      clear c5
      by_cases c6 : x5_1 < (l1.length : Int)
      ·rw [if_pos c6] at H
       have c6b0 : decide (x5_1 < (l1.length : Int)) = true := decide_eq_true c6
       clear c6
       by_cases c7 : (zaF ByteArray.empty l0 x5_1).toList = (zaF ByteArray.empty l1 x5_1).toList
       ·rw [if_pos c7] at H
        have c7b0 : ((zaF ByteArray.empty l0 x5_1).toList == (zaF ByteArray.empty l1 x5_1).toList) = true := beq_iff_eq.mpr c7
        have c7b1 : ((zaF ByteArray.empty l0 x5_1).toList != (zaF ByteArray.empty l1 x5_1).toList) = false := bne_eq_false_iff_eq.mpr c7
        clear c7
        have H' := zc.mk H
        clear H
        have p383 : 0 ≤ (x5_1 : Int) := hFq
        have q383 : x5_1 < (l0.length : Int) := hFq
        obtain ⟨ad383,e383,hx383_0⟩ := Kd.at_string HR0.out x5_1 p383 q383
        cases e383
        replace p383 := eq_true p383
        replace q383 := eq_true q383
        have p384 : 0 ≤ (x5_1 : Int) := hFq
        have q384 : x5_1 < (l1.length : Int) := hFq
        obtain ⟨ad384,e384,hx384_0⟩ := Kd.at_string HR1.out x5_1 p384 q384
        cases e384
        replace p384 := eq_true p384
        replace q384 := eq_true q384
        go_wp2
        repeat (go_quiet (fail);try go_wp2)
        go_roundg k1
        case measure => have := HK1.out;omega
        case rel => exact ⟨(wrap64 (x5_1 + 1)),(hDq),H',⟨by have := HK1.out;omega⟩,hEq⟩
       ·rw [if_neg c7] at H
        have c7b0 : ((zaF ByteArray.empty l0 x5_1).toList == (zaF ByteArray.empty l1 x5_1).toList) = false := beq_eq_false_iff_ne.mpr c7
        have c7b1 : ((zaF ByteArray.empty l0 x5_1).toList != (zaF ByteArray.empty l1 x5_1).toList) = true := bne_iff_ne.mpr c7
        obtain rfl := Option.some.inj H
        have p383 : 0 ≤ (x5_1 : Int) := hFq
        have q383 : x5_1 < (l0.length : Int) := hFq
        obtain ⟨ad383,e383,hx383_0⟩ := Kd.at_string HR0.out x5_1 p383 q383
        cases e383
        replace p383 := eq_true p383
        replace q383 := eq_true q383
        have p384 : 0 ≤ (x5_1 : Int) := hFq
        have q384 : x5_1 < (l1.length : Int) := hFq
        obtain ⟨ad384,e384,hx384_0⟩ := Kd.at_string HR1.out x5_1 p384 q384
        cases e384
        replace p384 := eq_true p384
        replace q384 := eq_true q384
        go_wp2
        repeat (go_quiet (fail);try go_wp2)
        go_ret
        exact ⟨hDq,hEq⟩
      ·rw [if_neg c6] at H
       exact absurd H (by simp)
     ·rw [if_neg c5] at H
      exact absurd H (by simp)
    ·rw [if_neg c4] at H
     have c4b0 : decide (x5_1 < (l0.length : Int)) = false := decide_eq_false c4
     clear c4
     obtain rfl := Option.some.inj H
     go_wp2
     repeat (go_quiet (fail);try go_wp2)
     go_ret
     exact ⟨hDq,hEq⟩
 ·rw [if_neg c3] at H
  have c3b0 : ((l0.length : Int) == (l1.length : Int)) = false := beq_eq_false_iff_ne.mpr c3
  have c3b1 : ((l0.length : Int) != (l1.length : Int)) = true := bne_iff_ne.mpr c3
  have c3b2 : (l0.length == l1.length) = false := by first | simpa using c3 | (simp at c3 ⊢;omega)
  obtain rfl := Option.some.inj H
  go_enter Try.func43,Try.ntmps43
  go_wp2
  repeat (go_quiet (fail);try go_wp2)
  go_ret
  exact ⟨hDq,hEq⟩
def zbl.f (k : Nat) (a0_0 : Int) (a0_1 : Int) (l0_2 : List ByteArray) (a1_0 : Int) (a1_1 : Int) (l1_2 : List ByteArray) : Option (Bool) := (zab.f k l0_2 l1_2).bind fun t387 => (if t387 = true then (if a0_0 = a1_0 then (some (a0_1 == a1_1)) else (some false)) else (some false))
set_option maxHeartbeats 8000000 in
set_option maxRecDepth 100000 in
theorem zbl.calls (k : Nat) (a0_0 : Int) (a0_1 : Int) (A0_2 : Option Addr) (c0_2 : Nat) (l0_2 : List ByteArray) (a1_0 : Int) (a1_1 : Int) (A1_2 : Option Addr) (c1_2 : Nat) (l1_2 : List ByteArray) (r : Bool) (w : World) (hr0_2 : Kd.C Kd.string w A0_2 l0_2.length l0_2) (hc0_2 : l0_2.length ≤ c0_2) (hr1_2 : Kd.C Kd.string w A1_2 l1_2.length l1_2) (hc1_2 : l1_2.length ≤ c1_2) (h : zbl.f k a0_0 a0_1 l0_2 a1_0 a1_1 l1_2 = some r) :
  Calls Try.prog 70 #[.agg #[.int .i64 a0_0,.int .i64 a0_1,.slice A0_2 l0_2.length c0_2],.agg #[.int .i64 a1_0,.int .i64 a1_1,.slice A1_2 l1_2.length c1_2]] w fun e w' => e = .returned (.bool r) ∧ Below w.heap.size w w' := by
 have hu107 := Try.underlying107
 have HR0_2 := zc.mk hr0_2
 have HC0_2 := zc.mk hc0_2
 clear hr0_2 hc0_2
 have HR1_2 := zc.mk hr1_2
 have HC1_2 := zc.mk hc1_2
 clear hr1_2 hc1_2
 have HB := zc.mk (Below.refl w.heap.size w)
 have H : ((zab.f k l0_2 l1_2).bind fun t387 => (if t387 = true then (if a0_0 = a1_0 then (some (a0_1 == a1_1)) else (some false)) else (some false))) = some r := h
 clear h
 replace H := Option.bind_eq_some_iff.mp H
 obtain ⟨t387,A30,H⟩ := H
 replace H : (if t387 = true then (if a0_0 = a1_0 then (some (a0_1 == a1_1)) else (some false)) else (some false)) = some r := H
 have A3 := zc.mk A30
 clear A30
 by_cases c4 : t387 = true
 focus
  subst c4
  have H1 : (if a0_0 = a1_0 then (some (a0_1 == a1_1)) else (some false)) = some r := by rw [if_pos rfl] at H;exact H
  clear H
  have H := H1
  clear H1
  by_cases c5 : a0_0 = a1_0
  focus
   rw [if_pos c5] at H
   have c5b0 : (a0_0 == a1_0) = true := beq_iff_eq.mpr c5
   have c5b1 : (a0_0 != a1_0) = false := bne_eq_false_iff_eq.mpr c5
   clear c5
   obtain rfl := Option.some.inj H
   have EQ0 := True.intro
  rotate_left
  focus
   rw [if_neg c5] at H
   have c5b0 : (a0_0 == a1_0) = false := beq_eq_false_iff_ne.mpr c5
   have c5b1 : (a0_0 != a1_0) = true := bne_iff_ne.mpr c5
   obtain rfl := Option.some.inj H
   have EQ0 := True.intro
 rotate_left 2
 focus
  replace c4 := Bool.eq_false_iff.mpr c4
  subst c4
  have H1 : (some false) = some r := by rw [if_neg (show ¬ (false = true) by decide)] at H;exact H
  clear H
  have H := H1
  clear H1
  obtain rfl := Option.some.inj H
  have EQ1 := True.intro
 all_goals
  go_enter Try.func70,Try.ntmps70
  go_wp2_with (first | ((with_reducible refine zu (N := 2) rfl ?_);refine zr ?hg (N := 2) ?hd (cs := #[.int .i64 a0_0,.int .i64 a0_1,.slice A0_2 l0_2.length c0_2]) (t := 107) ?hr ?_;(case hd => rfl);(case hg => rfl);(case hr => first | (go_simp;done) | (go_simp;rfl));intro gb385 hg wQN22 hbox hb;have n0_ := zc.mk (zj hBq hb);have n1_ := zc.mk (hbox);have n2_ := zc.mk ((by rw [hg];exact (zl hBq) : w.heap.size ≤ gb385));have n3_ := zc.mk ((by rw [hg];exact (zl hBq) : w.heap.size ≤ gb385));clear HB;have HB := n0_;have BK385 := n1_;have GW385 := n2_;have GE385 := n3_;clear n0_ n1_ n2_ n3_;clear hb hbox hg) | ((with_reducible refine zu (N := 3) rfl ?_);refine zr ?hg (N := 3) ?hd (cs := #[.int .i64 a1_0,.int .i64 a1_1,.slice A1_2 l1_2.length c1_2]) (t := 107) ?hr ?_;(case hd => rfl);(case hg => rfl);(case hr => first | (go_simp;done) | (go_simp;rfl));intro gb386 hg wQN32 hbox hb;have n0_ := zc.mk (zh (g := gb385) (o := .cells #[.int .i64 a0_0,.int .i64 a0_1,.slice A0_2 l0_2.length c0_2] 107 (0,0)) (hGq BK385.out) hb);have n1_ := zc.mk (zj hCq hb);have n2_ := zc.mk (hbox);have n3_ := zc.mk ((by rw [hg];exact (zl hCq) : w.heap.size ≤ gb386));have n4_ := zc.mk ((by rw [hg];exact (zl hCq) : w.heap.size ≤ gb386));have n5_ := zc.mk ((by rw [hg];exact Nat.ne_of_lt (zP (g := gb385) (o := .cells #[.int .i64 a0_0,.int .i64 a0_1,.slice A0_2 l0_2.length c0_2] 107 (0,0)) (hGq BK385.out)) : gb385 ≠ gb386));have n6_ := zc.mk ((by rw [hg];exact Nat.ne_of_gt (zP (g := gb385) (o := .cells #[.int .i64 a0_0,.int .i64 a0_1,.slice A0_2 l0_2.length c0_2] 107 (0,0)) (hGq BK385.out)) : gb386 ≠ gb385));clear BK385;clear HB;have BK385 := n0_;have HB := n1_;have BK386 := n2_;have GW386 := n3_;have GE386 := n4_;have NBQN37 := n5_;have NBQN38 := n6_;clear n0_ n1_ n2_ n3_ n4_ n5_ n6_;clear hb hbox hg;have hnbQN39 := NBQN37.out;have hncQN310 := NBQN38.out;have hczQN311 : wQN32.cell? ⟨gb385,0,none⟩ = some (.int .i64 a0_0) := (zb BK385.out 0).trans rfl;have hczQN312 : wQN32.cell? ⟨gb385,1,none⟩ = some (.int .i64 a0_1) := (zb BK385.out 1).trans rfl;have hczQN313 : wQN32.cell? ⟨gb385,2,none⟩ = some (.slice A0_2 l0_2.length c0_2) := (zb BK385.out 2).trans rfl;have hfzQN314 := za BK385.out 0;have hfzQN315 := za BK385.out 1;have hfzQN316 := za BK385.out 2;have hczQN317 : wQN32.cell? ⟨gb386,0,none⟩ = some (.int .i64 a1_0) := (zb BK386.out 0).trans rfl;have hczQN318 : wQN32.cell? ⟨gb386,1,none⟩ = some (.int .i64 a1_1) := (zb BK386.out 1).trans rfl;have hczQN319 : wQN32.cell? ⟨gb386,2,none⟩ = some (.slice A1_2 l1_2.length c1_2) := (zb BK386.out 2).trans rfl;have hfzQN320 := za BK386.out 0;have hfzQN321 := za BK386.out 1;have hfzQN322 := za BK386.out 2) | (have _ := EQ0;((with_reducible refine zt (f := 43) rfl ?_);refine zU (some 10) rfl rfl Try.func43 (by kernel_rfl) rfl #[.slice A0_2 l0_2.length c0_2,.slice A1_2 l1_2.length c1_2] rfl (by (try simp only [List.map_toArray,List.map_cons,List.map_nil]);first | done | rfl | (simp only [List.length_drop,List.length_take];rfl)) ?_;(with_reducible refine (zab.calls k _ _ l0_2 _ _ l1_2 true _ ?side1 ?side2 ?side3 ?side4 A3.out).mono ?_);(case side1 => repeat (first | exact (Kd.C_below HR0_2.out HB.out) | (with_reducible refine Kd.C_alloc ?_ _) | (with_reducible refine Kd.C_drewN ?_ _) | (with_reducible refine Kd.C_drew ?_)));(case side2 => exact HC0_2.out);(case side3 => repeat (first | exact (Kd.C_below HR1_2.out HB.out) | (with_reducible refine Kd.C_alloc ?_ _) | (with_reducible refine Kd.C_drewN ?_ _) | (with_reducible refine Kd.C_drew ?_)));(case side4 => exact HC1_2.out);rintro e w' ⟨rfl,⟨nd,rfl⟩⟩;refine ⟨_,rfl,?_⟩)) | (have _ := EQ1;((with_reducible refine zt (f := 43) rfl ?_);refine zU (some 10) rfl rfl Try.func43 (by kernel_rfl) rfl #[.slice A0_2 l0_2.length c0_2,.slice A1_2 l1_2.length c1_2] rfl (by (try simp only [List.map_toArray,List.map_cons,List.map_nil]);first | done | rfl | (simp only [List.length_drop,List.length_take];rfl)) ?_;(with_reducible refine (zab.calls k _ _ l0_2 _ _ l1_2 false _ ?side1 ?side2 ?side3 ?side4 A3.out).mono ?_);(case side1 => repeat (first | exact (Kd.C_below HR0_2.out HB.out) | (with_reducible refine Kd.C_alloc ?_ _) | (with_reducible refine Kd.C_drewN ?_ _) | (with_reducible refine Kd.C_drew ?_)));(case side2 => exact HC0_2.out);(case side3 => repeat (first | exact (Kd.C_below HR1_2.out HB.out) | (with_reducible refine Kd.C_alloc ?_ _) | (with_reducible refine Kd.C_drewN ?_ _) | (with_reducible refine Kd.C_drew ?_)));(case side4 => exact HC1_2.out);rintro e w' ⟨rfl,⟨nd,rfl⟩⟩;refine ⟨_,rfl,?_⟩)))
  go_ret
  exact ⟨hHq,hCq⟩
theorem zdQ (l : List ByteArray) (j : Nat) (h : j < l.length) : zaF ByteArray.empty l (j : Int) = l[j] := by
 rw [zaF,Int.toNat_natCast,List.getD_eq_getElem?_getD,List.getElem?_eq_getElem h];rfl
theorem zfn (a b : ByteArray) : a.toList = b.toList ↔ a = b := by
 rw [zaT,zaT]
 exact ⟨fun h => zdp h,fun h => by rw [h]⟩
theorem zfP (a b : List ByteArray) (hl : a.length = b.length) (hb : a.length < 4611686018427387904) (d : Nat) : ∀ j,j + d = a.length →
  Ev (fun k => zab.l0 k a b (j : Int)) (decide (a.drop j = b.drop j)) := by
 induction d with
 | zero =>
  intro j hj
  refine Ev.step (fun k => by rw [zab.l0]) ?_
  refine zO (by omega) (zao (Ev.now _) ?_)
  rw [List.drop_eq_nil_of_le (by omega),List.drop_eq_nil_of_le (by omega)];rfl
 | succ d ih =>
  intro j hj
  refine Ev.step (fun k => by rw [zab.l0]) ?_
  have h1 : j < a.length := by omega
  have h2 : j < b.length := by omega
  refine zw (by omega) (zw (by omega) (zw (by omega) ?_))
  rw [zdQ a j h1,zdQ b j h2,List.drop_eq_getElem_cons h1,List.drop_eq_getElem_cons h2,zag (by omega) (by omega)]
  by_cases h : a[j] = b[j]
  ·refine zw (by rw [h]) (zao (ih (j + 1) (by omega)) ?_)
   simp only [List.cons.injEq,h,true_and]
  ·refine zO (by simpa [zfn] using h) (zao (Ev.now _) ?_)
   simp only [List.cons.injEq,h,false_and,decide_false]
theorem ze3 (a b : List ByteArray) (hb : a.length < 4611686018427387904) : Ev (fun k => zab.f k a b) (decide (a = b)) := by
 by_cases hl : a.length = b.length
 ·exact zw (by omega) (zfP a b hl hb a.length 0 (by omega))
 ·refine zO (by omega) (zao (Ev.now _) ?_)
  rw [eq_comm,decide_eq_false_iff_not]
  exact fun h => hl (by rw [h])
def zfC (o q : Int) (l : List ByteArray) (o' q' : Int) (l' : List ByteArray) : Bool := decide (o = o' ∧ q = q' ∧ l = l')
theorem zes (o q : Int) (l : List ByteArray) (o' q' : Int) (l' : List ByteArray) (hb : l.length < 4611686018427387904) : Ev (fun k => zbl.f k o q l o' q' l') (zfC o q l o' q' l') := by
 unfold zfC
 refine Ev.bind (ze3 l l' hb) ?_
 by_cases h3 : l = l'
 ·refine zw (by simp [h3]) ?_
  by_cases h1 : o = o'
  ·exact zw h1 (zao (Ev.now _) (by simp [h1,h3,Bool.beq_eq_decide_eq]))
  ·exact zO h1 (zao (Ev.now _) (by simp [h1]))
 ·exact zO (by simp [h3]) (zao (Ev.now _) (by simp [h3]))
theorem zhq (l : List ByteArray) (m : Nat) (hm : m < 18446744073709551616) (h : ∀ t ∈ l,t.size ≤ m) : (zcY l).length ≤ l.length * (m + 9) := by
 induction l with
 | nil => simp [zcY]
 | cons t l ih =>
  have e : zcY (t :: l) = zdy (ofB t) ++ zcY l := rfl
  have h1 := h t List.mem_cons_self
  have h2 := ih (fun x hx => h x (List.mem_cons_of_mem _ hx))
  have h3 := zco (v := (ofB t).length) (by rw [zah];omega)
  rw [e,List.length_append,zdy,List.length_append,zah,List.length_cons,Nat.succ_mul]
  rw [zah] at h3
  omega
theorem zdL (o q : Int) (l : List ByteArray) : zcK o q l = true ↔ 1 ≤ o ∧ o ≤ 64 ∧ 1 ≤ q ∧ q ≤ 1073741824 ∧ 1 ≤ l.length ∧ l.length ≤ 4 ∧ ∀ t ∈ l,1 ≤ t.size ∧ t.size ≤ 48 := by
 unfold zcK
 simp only [Bool.and_eq_true,decide_eq_true_eq,Bool.not_eq_true',List.any_eq_false]
 constructor
 ·rintro ⟨⟨⟨⟨⟨⟨h1,h2⟩,h3⟩,h4⟩,h5⟩,h6⟩,h7⟩
  refine ⟨h1,h2,h3,h4,h5,h6,fun t ht => ?_⟩
  have h8 := h7 t ht
  simp only [zcg,Bool.or_eq_true,decide_eq_true_eq,not_or] at h8
  omega
 ·rintro ⟨h1,h2,h3,h4,h5,h6,h7⟩
  refine ⟨⟨⟨⟨⟨⟨h1,h2⟩,h3⟩,h4⟩,h5⟩,h6⟩,fun t ht => ?_⟩
  have h8 := h7 t ht
  simp only [zcg,Bool.or_eq_true,decide_eq_true_eq,not_or]
  omega
def zdC (o q : Int) (l : List ByteArray) : Bs := zbb o.toNat ++ zbb q.toNat ++ zcM l
theorem zip : be 1 = [1] := by
 rw [zc2 (by omega)]
 simp [zch]
def bB (b : zY) : ByteArray := if zcK b.f0 b.f1 b.f2 = true then toB (zdC b.f0 b.f1 b.f2) else (⟨#[]⟩ : ByteArray)
mutual
def zx.j0 : Nat → Int → Int → ByteArray → Bool → Option (List ByteArray × ByteArray × Int)
 | 0,_,_,_,_ => none
 | k + 1,x2,x9,x10,x33 => if x33 = true then (some (([] : List ByteArray),(⟨#[]⟩ : ByteArray),4)) else (zx.l0 k x2 x9 x10 ([] : List ByteArray) 0)
def zx.l0 : Nat → Int → Int → ByteArray → List ByteArray → Int → Option (List ByteArray × ByteArray × Int)
 | 0,_,_,_,_,_ => none
 | k + 1,x2,x9,x10,x12,x13 => if x13 < x9 then ((zW.f k x10 x2).bind fun bt182 => (if bt182.2.2 = 0 then (if x12.length < 8796093022208 then (zx.l0 k x2 x9 bt182.2.1 (x12 ++ [bt182.1]) (IntKind.u64.wrap (x13 + 1))) else (none)) else (some (([] : List ByteArray),(⟨#[]⟩ : ByteArray),bt182.2.2)))) else (some (x12,x10,0))
end
def zx.f (k : Nat) (a0 : ByteArray) (a1 : Int) (a2 : Int) : Option (List ByteArray × ByteArray × Int) := (zp.f k a0).bind fun bt179 => (if bt179.2.2 = 0 then (if a1 < 0 then (zx.j0 k a2 bt179.1 bt179.2.1 true) else (zx.j0 k a2 bt179.1 bt179.2.1 (decide (bt179.1 > (IntKind.u64.wrap (a1)))))) else (some (([] : List ByteArray),(⟨#[]⟩ : ByteArray),bt179.2.2)))
set_option maxHeartbeats 8000000 in
set_option maxRecDepth 100000 in
theorem zx.calls (k : Nat) (a0 : ByteArray) (a1 : Int) (a2 : Int) (r1 : List ByteArray) (r2 : ByteArray) (r3 : Int) (w : World) (h : zx.f k a0 a1 a2 = some (r1,r2,r3)) :
  Calls Try.prog 61 #[.string a0,.int .i64 a1,.int .i64 a2] w fun e w' => ∃ v0_ : Value,e = .returned (.tuple #[v0_,.string r2,.int .i64 r3]) ∧ Kd.R Kd.string 9 w' w.heap.size (fun _ => True) v0_ r1 ∧ Below w.heap.size w w' := by
 have HB := zc.mk (Below.refl w.heap.size w)
 have H : ((zp.f k a0).bind fun bt179 => (if bt179.2.2 = 0 then (if a1 < 0 then (zx.j0 k a2 bt179.1 bt179.2.1 true) else (zx.j0 k a2 bt179.1 bt179.2.1 (decide (bt179.1 > (IntKind.u64.wrap (a1)))))) else (some (([] : List ByteArray),(⟨#[]⟩ : ByteArray),bt179.2.2)))) = some (r1,r2,r3) := h
 clear h
 replace H := Option.bind_eq_some_iff.mp H
 obtain ⟨⟨t179,t180,t181⟩,A40,H⟩ := H
 replace H : (if t181 = 0 then (if a1 < 0 then (zx.j0 k a2 t179 t180 true) else (zx.j0 k a2 t179 t180 (decide (t179 > (IntKind.u64.wrap (a1)))))) else (some (([] : List ByteArray),(⟨#[]⟩ : ByteArray),t181))) = some (r1,r2,r3) := H
 have A4 := zc.mk A40
 clear A40
 by_cases c5 : t181 = 0
 ·rw [if_pos c5] at H
  have c5b0 : (t181 == 0) = true := beq_iff_eq.mpr c5
  have c5b1 : (t181 != 0) = false := bne_eq_false_iff_eq.mpr c5
  clear c5
  have HC6 := zc.mk H
  clear H
  go_enter Try.func61,Try.ntmps61
  go_upto_region 4 with (first | ((with_reducible refine zt (f := 60) rfl ?_);refine zU (some 19) rfl rfl Try.func60 (by kernel_rfl) rfl #[.string a0] rfl (by (try simp only [List.map_toArray,List.map_cons,List.map_nil]);first | done | rfl | (simp only [List.length_drop,List.length_take];rfl)) ?_;(with_reducible refine (zp.calls k a0 t179 t180 t181 _ A4.out).mono ?_);rintro e w' ⟨rfl,⟨nd,rfl⟩⟩;refine ⟨_,rfl,?_⟩))
  (try simp only [Act.put,List.setIfInBounds_toArray,List.set_cons_zero,List.set_cons_succ])
  go_cut [33] (fun v33 wc => ∃ (kq : Nat) (x33_5 : Bool),v33 = .bool x33_5 ∧ zc (zx.j0 kq a2 t179 t180 x33_5 = some (r1,r2,r3)) ∧ zc (kq ≤ k) ∧ zc (Below w.heap.size w wc))
  case first =>
   have H := HC6.out
   clear HC6
   by_cases c7 : a1 < 0
   ·rw [if_pos c7] at H
    have c7b0 : decide (a1 < 0) = true := decide_eq_true c7
    clear c7
    (first | rw [c7b0] | (simp only [zan,zaq];rw [c7b0]) | skip)
    have H' := zc.mk H
    clear H
    go_wp2
    go_meet
    case rel => exact ⟨_,(true),(hDq),H',⟨by first | omega | exact Nat.le_refl _⟩,⟨by repeat (first | (with_reducible first | exact HB.out | apply zA | apply zm | apply zJ) | exact HB.out)⟩⟩
   ·rw [if_neg c7] at H
    have c7b0 : decide (a1 < 0) = false := decide_eq_false c7
    clear c7
    (first | rw [c7b0] | (simp only [zan,zaq];rw [c7b0]) | skip)
    have H' := zc.mk H
    clear H
    go_wp2
    go_meet
    case rel => exact ⟨_,(decide (t179 > (IntKind.u64.wrap (a1)))),(hDq),H',⟨by first | omega | exact Nat.le_refl _⟩,⟨by repeat (first | (with_reducible first | exact HB.out | apply zA | apply zm | apply zJ) | exact HB.out)⟩⟩
  case rest =>
   clear HC6
   try clear p2
   try clear c5
   try clear c5b0
   try clear c5b1
   try clear c6
   try clear c7
   try clear c7b0
   obtain ⟨kq,x33_5,rfl,HA,HJ5,HB⟩ := hcut
   cases kq with
   | zero => exact absurd HA.out (by simp [zx.j0])
   | succ kj5 =>
    have H := HA.out
    clear HA
    simp only [zx.j0] at H
    by_cases c8 : x33_5 = true
    ·subst c8
     have H1 : (some (([] : List ByteArray),(⟨#[]⟩ : ByteArray),4)) = some (r1,r2,r3) := by rw [if_pos rfl] at H;exact H
     clear H
     have H := H1
     clear H1
     simp only [Option.some.injEq,Prod.mk.injEq] at H
     obtain ⟨rfl,rfl,rfl⟩ := H
     go_wp2
     go_ret3
     exact ⟨_,hHq,by first | exact Kd.R_nil _ _ _ _ _ | exact Kd.N_nil _ _ _ _ _ | exact Kd.V_nil _ _ _ _ _ | exact Kd.Q_nil _ _ _ _ _ | exact Kd.S_nil _ _ _ _ _,hBq⟩
    ·replace c8 := Bool.eq_false_iff.mpr c8
     subst c8
     have H1 : (zx.l0 kj5 a2 t179 t180 ([] : List ByteArray) 0) = some (r1,r2,r3) := by rw [if_neg (show ¬ (false = true) by decide)] at H;exact H
     clear H
     have H := H1
     clear H1
     have H' := zc.mk H
     clear H
     go_wp2
     go_loopg [10,12,13] kj5 (fun kq v10 v12 v13 w' => ∃ (x10_2 : ByteArray) (x12_2 : List ByteArray) (x13_2 : Int),v10 = .string x10_2 ∧ v13 = .int .u64 x13_2 ∧ zc (zx.l0 kq a2 t179 x10_2 x12_2 x13_2 = some (r1,r2,r3)) ∧ zc (kq ≤ kj5) ∧ zc (Kd.R Kd.string 9 w' w.heap.size (fun _ => True) v12 x12_2) ∧ zc (Below w.heap.size w w'))
     case atStart => exact ⟨(t180),(([] : List ByteArray)),(0),(hDq),(hDq),H',⟨Nat.le_refl _⟩,⟨by first | exact Kd.R_nil _ _ _ _ _ | exact Kd.N_nil _ _ _ _ _ | exact Kd.V_nil _ _ _ _ _ | exact Kd.Q_nil _ _ _ _ _ | exact Kd.S_nil _ _ _ _ _⟩,⟨by repeat (first | (with_reducible first | exact HB.out | apply zA | apply zm | apply zJ) | exact HB.out)⟩⟩
     case round =>
      clear H'
      try clear p2
      try clear c5
      try clear c5b0
      try clear c5b1
      try clear c6
      try clear c7
      try clear c7b0
      try clear c8
      try clear p2
      obtain ⟨x10_2,x12_2,x13_2,rfl,rfl,HA,HK2,HO_12,HB⟩ := hrel
      cases gk with
      | zero => exact absurd HA.out (by simp [zx.l0])
      | succ k2 =>
       have H := HA.out
       clear HA
       simp only [zx.l0] at H
       by_cases c9 : x13_2 < t179
       ·rw [if_pos c9] at H
        have c9b0 : decide (x13_2 < t179) = true := decide_eq_true c9
        clear c9
        replace H := Option.bind_eq_some_iff.mp H
        obtain ⟨⟨t182,t183,t184⟩,A100,H⟩ := H
        replace H : (if t184 = 0 then (if x12_2.length < 8796093022208 then (zx.l0 k2 a2 t179 t183 (x12_2 ++ [t182]) (IntKind.u64.wrap (x13_2 + 1))) else (none)) else (some (([] : List ByteArray),(⟨#[]⟩ : ByteArray),t184))) = some (r1,r2,r3) := H
        have A10 := zc.mk A100
        clear A100
        by_cases c11 : t184 = 0
        ·rw [if_pos c11] at H
         have c11b0 : (t184 == 0) = true := beq_iff_eq.mpr c11
         have c11b1 : (t184 != 0) = false := bne_eq_false_iff_eq.mpr c11
         clear c11
         by_cases c12 : x12_2.length < 8796093022208
         ·rw [if_pos c12] at H
          have LMc12 := zc.mk c12
          clear c12
          obtain ⟨y185,hy185⟩ : ∃ y_ : List ByteArray,y_ = (x12_2 ++ [t182]) := ⟨_,rfl⟩
          replace H : (zx.l0 k2 a2 t179 t183 y185 (IntKind.u64.wrap (x13_2 + 1))) = some (r1,r2,r3) := by first | (rw [hy185];with_reducible exact H) | (have H2_ := (Option.bind_some _ _).symm.trans H;rw [hy185];with_reducible exact H2_) | (have H2_ := (Option.bind_some _ _).symm.trans H;with_reducible exact H2_) | with_reducible exact H | (rw [hy185];exact H) | exact H
          have Ny185 := zc.mk hy185
          clear hy185
          have H' := zc.mk H
          clear H
          go_wp2_with (first | ((with_reducible refine zt (f := 65) rfl ?_);refine zU (some 42) rfl rfl Try.func65 (by kernel_rfl) rfl #[.string x10_2,.int .i64 a2] rfl (by (try simp only [List.map_toArray,List.map_cons,List.map_nil]);first | done | rfl | (simp only [List.length_drop,List.length_take];rfl)) ?_;(with_reducible refine (zW.calls k2 x10_2 a2 t182 t183 t184 _ A10.out).mono ?_);rintro e w' ⟨rfl,⟨nd,rfl⟩⟩;refine ⟨_,rfl,?_⟩) | ((with_reducible refine zcC (b := .append) (xs := #[.tmp 49,.tmp 51]) rfl ?_);at_builtin;refine Kd.R_append Kd.string (w0 := w) w.heap.size rfl (.tmp 49) (.tmp 51) 24 9 (.string ⟨#[]⟩) 16 rfl Try.underlying24 zik rfl (by decide) (by omega) u12 x12_2 t182 [.string t182] (fun _ => True) (fun _ => False) rfl rfl ?aP (fun _ hk => hk.elim) ?aF ?aO ?aB ?aS ?aL ?_;(case aP => exact rfl);(case aB => exact hBq);(case aF => exact (fun _ _ => trivial));(case aO => exact (by (with_reducible repeat (first | apply Kd.R_alloc | apply Kd.R_drewN | apply Kd.R_drew));exact HO_12.out));(case aS => exact (zl hBq));(case aL => have := LMc12.out;omega);intro v186 w13 ho hb hg hat;rw [← Ny185.out] at ho;have n0_ := zc.mk (hb);have n1_ := zc.mk (ho);clear HB;clear HO_12;have HB := n0_;have HO187 := n1_;clear n0_ n1_;clear ho hb hg hat))
          go_roundg k2
          case measure => have := HJ5.out;have := HK2.out;omega
          case rel => exact ⟨(t183),(y185),(IntKind.u64.wrap (x13_2 + 1)),(hDq),(hDq),H',⟨by have := HJ5.out;have := HK2.out;omega⟩,⟨by (with_reducible repeat (first | apply Kd.R_alloc | apply Kd.R_drewN | apply Kd.R_drew));exact HO187.out⟩,⟨by repeat (first | (with_reducible first | exact HB.out | apply zA | apply zm | apply zJ) | exact HB.out)⟩⟩
         ·rw [if_neg c12] at H
          exact absurd H (by simp)
        ·rw [if_neg c11] at H
         have c11b0 : (t184 == 0) = false := beq_eq_false_iff_ne.mpr c11
         have c11b1 : (t184 != 0) = true := bne_iff_ne.mpr c11
         simp only [Option.some.injEq,Prod.mk.injEq] at H
         obtain ⟨rfl,rfl,rfl⟩ := H
         go_wp2_with (first | ((with_reducible refine zt (f := 65) rfl ?_);refine zU (some 42) rfl rfl Try.func65 (by kernel_rfl) rfl #[.string x10_2,.int .i64 a2] rfl (by (try simp only [List.map_toArray,List.map_cons,List.map_nil]);first | done | rfl | (simp only [List.length_drop,List.length_take];rfl)) ?_;(with_reducible refine (zW.calls k2 x10_2 a2 t182 t183 t184 _ A10.out).mono ?_);rintro e w' ⟨rfl,⟨nd,rfl⟩⟩;refine ⟨_,rfl,?_⟩))
         go_ret3
         exact ⟨_,hHq,by first | exact Kd.R_nil _ _ _ _ _ | exact Kd.N_nil _ _ _ _ _ | exact Kd.V_nil _ _ _ _ _ | exact Kd.Q_nil _ _ _ _ _ | exact Kd.S_nil _ _ _ _ _,hBq⟩
       ·rw [if_neg c9] at H
        have c9b0 : decide (x13_2 < t179) = false := decide_eq_false c9
        clear c9
        simp only [Option.some.injEq,Prod.mk.injEq] at H
        obtain ⟨rfl,rfl,rfl⟩ := H
        go_wp2
        go_ret3
        exact ⟨_,hHq,by (with_reducible repeat (first | apply Kd.R_alloc | apply Kd.R_drewN | apply Kd.R_drew));exact HO_12.out,hBq⟩
 ·rw [if_neg c5] at H
  have c5b0 : (t181 == 0) = false := beq_eq_false_iff_ne.mpr c5
  have c5b1 : (t181 != 0) = true := bne_iff_ne.mpr c5
  simp only [Option.some.injEq,Prod.mk.injEq] at H
  obtain ⟨rfl,rfl,rfl⟩ := H
  go_enter Try.func61,Try.ntmps61
  go_wp2_with (first | ((with_reducible refine zt (f := 60) rfl ?_);refine zU (some 19) rfl rfl Try.func60 (by kernel_rfl) rfl #[.string a0] rfl (by (try simp only [List.map_toArray,List.map_cons,List.map_nil]);first | done | rfl | (simp only [List.length_drop,List.length_take];rfl)) ?_;(with_reducible refine (zp.calls k a0 t179 t180 t181 _ A4.out).mono ?_);rintro e w' ⟨rfl,⟨nd,rfl⟩⟩;refine ⟨_,rfl,?_⟩))
  go_ret3
  exact ⟨_,hHq,by first | exact Kd.R_nil _ _ _ _ _ | exact Kd.N_nil _ _ _ _ _ | exact Kd.V_nil _ _ _ _ _ | exact Kd.Q_nil _ _ _ _ _ | exact Kd.S_nil _ _ _ _ _,hBq⟩
def zcv (s : ByteArray) (many most : Int) : List ByteArray × ByteArray × Int := ((zai (ofB s) many most).1,toB (zai (ofB s) many most).2.1,(zai (ofB s) many most).2.2)
theorem zcb (s : ByteArray) (many most : Int) (h1 : (Lit.int .i64 many).wf = true) (h2 : (Lit.int .i64 most).wf = true) (h3 : s.size < 4611686018427387904) (h4 : s.size ≤ 8796093022207 ∨ many ≤ 8796093022207) : zZ.f s many most = some (zcv s many most) := by
 unfold zZ.f
 rw [if_pos ⟨h1,h2,h3,h4⟩];rfl
theorem zey (most : Int) (hw : (Lit.int .i64 most).wf = true) (n : Nat) (hn : n < 18446744073709551616) (d : Nat) : ∀ (j : Nat) (s : Bs) (acc : List ByteArray),j + d = n → s.length < 4611686018427387904 → (n ≤ 8796093022207 ∧ acc.length ≤ j ∨ acc.length + s.length ≤ 8796093022207) →
  Ev (fun k => zx.l0 k most (n : Int) (toB s) acc (j : Int)) ((zaM most d s acc).1,toB (zaM most d s acc).2.1,(zaM most d s acc).2.2) := by
 induction d with
 | zero =>
  intro j s acc hj hs hroom
  refine Ev.step (fun k => by rw [zx.l0]) ?_
  exact zO (by omega) (Ev.now _)
 | succ d ih =>
  intro j s acc hj hs hroom
  refine Ev.step (fun k => by rw [zx.l0]) ?_
  refine zw (by omega) (Ev.bind (zdi (toB s) most (by rw [zV];omega) hw) ?_)
  simp only [zaA,zae]
  by_cases h0 : (zaB s most).2.2 = 0
  ·have hsh := zcy h0
   refine zw h0 (zw (by omega) ?_)
   rw [zaM,if_pos h0,zaY (by omega) (by omega)]
   exact ih (j + 1) _ _ (by omega) (by omega) (by rw [List.length_append,List.length_singleton];omega)
  ·refine zO h0 ?_
   rw [zaM,if_neg h0]
   exact Ev.now _
theorem zcS (s : ByteArray) (many most : Int) (h1 : (Lit.int .i64 many).wf = true) (h2 : (Lit.int .i64 most).wf = true) (h3 : s.size < 4611686018427387904) (h4 : s.size ≤ 8796093022207 ∨ many ≤ 8796093022207) : Ev (fun k => zx.f k s many most) (zcv s many most) := by
 obtain ⟨m0,m1⟩ := zfK h1
 have hv := zaQ (ofB s)
 have hl := zaW (ofB s)
 rw [zah] at hl
 refine Ev.bind (za9 s h3) ?_
 rcases hq : zv (ofB s) with ⟨v,r,e⟩
 rw [hq] at hv hl
 simp only [zbd,zcv,zai,hq]
 simp only at hv hl
 by_cases he : e = 0
 ·subst he
  refine zw rfl ?_
  have hj : ∀ b : Bool,(b = true ↔ (many < 0 ∨ many < (v : Int))) → Ev (fun k => zx.j0 k most (v : Int) (toB r) b) ((zbu (v,r,0) many most).1,toB (zbu (v,r,0) many most).2.1,(zbu (v,r,0) many most).2.2) := by
   intro b hb
   refine Ev.step (fun k => by rw [zx.j0]) ?_
   rw [zbu,if_pos rfl]
   by_cases h5 : many < 0 ∨ many < (v : Int)
   ·rw [if_pos h5]
    exact zw (hb.2 h5) (Ev.now _)
   ·rw [if_neg h5]
    exact zO (fun h => h5 (hb.1 h)) (zey most h2 v hv v 0 r [] (by omega) (by omega) (by simp only [List.length_nil];omega))
  by_cases hm : many < 0
  ·exact zw hm (hj true (by simp [hm]))
  ·refine zO hm ?_
   rw [zaY (by omega) (by omega)]
   exact hj _ (by simp;omega)
 ·refine zO he ?_
  rw [zbu,if_neg he]
  exact Ev.now _
theorem zfa {t : ByteArray} {most : Int} (h0 : (t.size : Int) ≤ most) (h1 : t.size < 18446744073709551616) (r : Bs) : zaB (zdy (ofB t) ++ r) most = (ofB t,r,0) := by
 rw [zaB,zdy,List.append_assoc,zbt (by rw [zah];exact h1),zb4,if_pos rfl,za3,if_neg (by rw [zah];omega)]
 simp only
 rw [if_neg (by rw [List.length_append];omega),List.take_left,List.drop_left]
theorem zdV {s t r : Bs} {most : Int} (h : zaB s most = (t,r,0)) : s = zdy t ++ r ∧ (t.length : Int) ≤ most ∧ t.length < 18446744073709551616 := by
 unfold zaB zb4 at h
 split at h
 ·rename_i h0
  rcases hq : zv s with ⟨v,q,e⟩
  rw [hq] at h h0
  simp only at h0 h
  subst h0
  obtain ⟨rfl,hv⟩ := zbf hq
  unfold za3 at h
  split at h
  ·cases h
  ·rename_i h1
   split at h
   ·cases h
   ·rename_i h2
    simp only [Prod.mk.injEq,and_true] at h
    obtain ⟨rfl,rfl⟩ := h
    have hl : (List.take v q).length = v := by rw [List.length_take];omega
    refine ⟨?_,by rw [hl];omega,by rw [hl];exact hv⟩
    rw [zdy,hl,List.append_assoc,List.take_append_drop]
 ·rename_i h0
  simp only [Prod.mk.injEq] at h
  exact absurd h.2.2 h0
theorem zdx (most : Int) : ∀ (l : List ByteArray) (r : Bs) (acc : List ByteArray),(∀ t ∈ l,(t.size : Int) ≤ most ∧ t.size < 18446744073709551616) → zaM most l.length (zcY l ++ r) acc = (acc ++ l,r,0)
 | [],r,acc,_ => by simp [zaM,zcY]
 | t :: l,r,acc,h => by
  have e : zcY (t :: l) ++ r = zdy (ofB t) ++ (zcY l ++ r) := by rw [← List.append_assoc];rfl
  obtain ⟨h1,h2⟩ := h t List.mem_cons_self
  rw [List.length_cons,zaM,e,zfa h1 h2,if_pos rfl,zdx most l r _ (fun x hx => h x (List.mem_cons_of_mem _ hx)),zcl]
  simp
theorem zdX (most : Int) : ∀ (n : Nat) (s : Bs) (acc l : List ByteArray) (r : Bs),zaM most n s acc = (l,r,0) → ∃ l',l = acc ++ l' ∧ l'.length = n ∧ s = zcY l' ++ r ∧ ∀ t ∈ l',(t.size : Int) ≤ most ∧ t.size < 18446744073709551616
 | 0,s,acc,l,r,h => by
  simp only [zaM,Prod.mk.injEq,and_true] at h
  obtain ⟨rfl,rfl⟩ := h
  exact ⟨[],by simp,rfl,by simp [zcY],by simp⟩
 | n + 1,s,acc,l,r,h => by
  rw [zaM] at h
  split at h
  ·rename_i h0
   obtain ⟨l',rfl,h2,h3,h4⟩ := zdX most n _ _ _ _ h
   rcases hq : zaB s most with ⟨t,q,e⟩
   rw [hq] at h0 h3
   simp only at h0 h3
   subst h0
   obtain ⟨h5,h6,h7⟩ := zdV hq
   refine ⟨toB t :: l',by simp,by simp [h2],?_,?_⟩
   ·rw [h5,h3]
    have e : zcY (toB t :: l') = zdy (ofB (toB t)) ++ zcY l' := rfl
    rw [e,zae,List.append_assoc]
   ·intro x hx
    rcases List.mem_cons.1 hx with rfl | hx
    ·rw [zV];exact ⟨h6,h7⟩
    ·exact h4 x hx
  ·rename_i h0
   simp only [Prod.mk.injEq] at h
   exact absurd h.2.2 h0
theorem zcf {l : List ByteArray} {many most : Int} (hm : (l.length : Int) ≤ many) (hl : l.length < 18446744073709551616) (h : ∀ t ∈ l,(t.size : Int) ≤ most ∧ t.size < 18446744073709551616) (r : Bs) : zai (zcM l ++ r) many most = (l,r,0) := by
 rw [zai,zcM,List.append_assoc,zbt hl,zbu,if_pos rfl,if_neg (by simp only;omega)]
 simp only
 rw [zdx most l r [] h,List.nil_append]
theorem zbE {s r : Bs} {l : List ByteArray} {many most : Int} (h : zai s many most = (l,r,0)) : s = zcM l ++ r ∧ (l.length : Int) ≤ many ∧ l.length < 18446744073709551616 ∧ ∀ t ∈ l,(t.size : Int) ≤ most ∧ t.size < 18446744073709551616 := by
 unfold zai zbu at h
 split at h
 ·rename_i h0
  rcases hq : zv s with ⟨v,q,e⟩
  rw [hq] at h h0
  simp only at h0 h
  subst h0
  obtain ⟨rfl,hv⟩ := zbf hq
  split at h
  ·cases h
  ·rename_i h1
   obtain ⟨l',hl',h2,h3,h4⟩ := zdX most v q [] l r h
   rw [List.nil_append] at hl'
   subst hl'
   refine ⟨?_,by omega,by omega,h4⟩
   rw [zcM,h2,h3,List.append_assoc]
 ·rename_i h0
  simp only [Prod.mk.injEq] at h
  exact absurd h.2.2 h0
end Go.Proofs.Ytgdpiegkoeikiaa.Px