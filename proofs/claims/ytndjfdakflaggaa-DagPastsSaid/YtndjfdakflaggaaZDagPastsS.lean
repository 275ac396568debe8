/- Part 19 of 30 of the proof of the law DagPasts: what is proved is the statement at the end of the last part; its conditions are those of the given row. -/
import Derived.Test.YtndjfdakflaggaaZDagPastsR
namespace Go.Proofs.Ytndjfdakflaggaa.Px
open Go.RowKit Go.Proofs.YtndjfdakflaggaaW.PrintWords Go.Proofs.YtndjfdakflaggaaW.PrintLast Go.Proofs.YtndjfdakflaggaaW.PrintMore
attribute [local go_sem] zt zv zA zB zq zr zu zw
set_option linter.unusedVariables false
set_option linter.unusedSimpArgs false
def zey (l : List S78) : Bool := l.all fun b => decide (b.f2.length < 4611686018427387904)
theorem ziO {l : List S78} (h : zey l = true) {k : Nat} (hk : k < l.length) : (zQ l (k : Int)).f2.length < 4611686018427387904 := by
 rw [zQ,Int.toNat_natCast,List.getD_eq_getElem?_getD,List.getElem?_eq_getElem hk]
 exact of_decide_eq_true (List.all_eq_true.1 h l[k] (List.getElem_mem hk))
theorem rdB_at (l : List S78) {k : Nat} (hk : k < l.length) : l[k]? = some (zQ l (k : Int)) := by
 rw [zQ,Int.toNat_natCast,List.getD_eq_getElem?_getD,List.getElem?_eq_getElem hk];rfl
theorem zaq.one (a b : S78) (ha : a.f2.length < 4611686018427387904) (A : Option Addr) (c : Nat) (A' : Option Addr) (c' : Nat) (w : World) (hr : Kd.C Kd.string w A a.f2.length a.f2) (hc : a.f2.length ≤ c) (hr' : Kd.C Kd.string w A' b.f2.length b.f2) (hc' : b.f2.length ≤ c') :
  Calls Try.prog 48 #[.agg #[.int .i64 a.f0,.int .i64 a.f1,.slice A a.f2.length c],.agg #[.int .i64 b.f0,.int .i64 b.f1,.slice A' b.f2.length c']] w fun e w' => e = .returned (.bool (decide (a = b))) ∧ Below w.heap.size w w' := by
 obtain ⟨k,hk⟩ := (zgm a.f0 a.f1 a.f2 b.f0 b.f1 b.f2 ha).rounds
 have he : decide (a = b) = zda a.f0 a.f1 a.f2 b.f0 b.f1 b.f2 := by
  obtain ⟨a0,a1,a2⟩ := a;obtain ⟨b0,b1,b2⟩ := b;simp [zda]
 rw [he]
 exact zdb.calls k a.f0 a.f1 A c a.f2 b.f0 b.f1 A' c' b.f2 _ w hr hc hr' hc' hk
set_option maxHeartbeats 4000000 in
set_option maxRecDepth 100000 in
theorem zaq.walk (A : Option Addr) (c : Nat) (l : List S78) (A' : Option Addr) (c' : Nat) (l' : List S78) (w : World) (hr : Kd.C k78 w A l.length l) (hr' : Kd.C k78 w A' l'.length l') (hs : zey l = true) (hlen : l.length = l'.length) :
  Calls Try.prog 47 #[.slice A l.length c,.slice A' l'.length c',.func (.func 48) #[] #[]] w fun e w' => e = .returned (.bool (decide (l = l'))) ∧ Below w.heap.size w w' := by
 have hm := hr.2.1
 have HR := za.mk hr
 have HR' := za.mk hr'
 have HS := za.mk hs
 have HL := za.mk hlen
 clear hr hr' hs
 rw [← hlen]
 clear hlen
 go_enter Try.func47,Try.ntmps47
 go_wp2_with fail
 have HB0 := za.mk (Below.refl w.heap.size w)
 go_loopw [17] (fun v17 wr => ∃ k : Nat,v17 = .int .i64 k ∧ k ≤ l.length ∧ za (∀ j : Nat,j < k → l[j]? = l'[j]?) ∧ za (Below w.heap.size w wr)) (fun v17 _ => l.length - (match v17 with | .int _ q => q | _ => 0).toNat)
 case atStart => exact ⟨0,rfl,Nat.zero_le _,⟨fun j hj => absurd hj (Nat.not_lt_zero _)⟩,HB0⟩
 case round =>
  obtain ⟨k,rfl,hk,HE,HB⟩ := hrel
  by_cases hlt : k < l.length
  ·have hlt' : k < l'.length := by have := HL.out;omega
   obtain ⟨ad,A2,c2,rfl,hx0,hx1,hx2,hl2,hi2⟩ := zdn HR.out (k : Int) (by omega) (by omega)
   obtain ⟨ad',A3,c3,rfl,hy0,hy1,hy2,hl3,hi3⟩ := zdn HR'.out (k : Int) (by omega) (by omega)
   replace hx0 := (HB.out.cell (World.block_lt_of_cell? w _ hx0)).trans hx0
   replace hx1 := (HB.out.cell (World.block_lt_of_cell? w _ hx1)).trans hx1
   replace hx2 := (HB.out.cell (World.block_lt_of_cell? w _ hx2)).trans hx2
   replace hy0 := fun o => ((zi HB.out o).cell (World.block_lt_of_cell? w _ hy0)).trans hy0
   replace hy1 := fun o => ((zi HB.out o).cell (World.block_lt_of_cell? w _ hy1)).trans hy1
   replace hy2 := fun o => ((zi HB.out o).cell (World.block_lt_of_cell? w _ hy2)).trans hy2
   rw [Int.toNat_natCast] at hx0 hx1 hx2
   simp only [Int.toNat_natCast] at hy0 hy1 hy2
   have hb : decide (k < l.length) = true := decide_eq_true hlt
   have HSK := za.mk (ziO HS.out hlt)
   have HX := za.mk (rdB_at l hlt)
   have HY := za.mk (rdB_at l' hlt')
   have HL2 := za.mk hl2
   have HI2 := za.mk (Kd.C_below hi2 HB.out)
   have HL3 := za.mk hl3
   have HI3 := za.mk (Kd.C_below hi3 HB.out)
   clear hl2 hi2 hl3 hi3 hlt'
   generalize zQ l (k : Int) = s at *
   generalize zQ l' (k : Int) = s' at *
   obtain ⟨s0,s1,s2⟩ := s
   obtain ⟨t0,t1,t2⟩ := s'
   rcases ho : decide ((⟨s0,s1,s2⟩ : S78) = ⟨t0,t1,t2⟩) with _ | _
   all_goals
    have HO := za.mk ho
    clear ho
    go_wp2_with (go_at_call 48;(with_reducible refine (zaq.one ⟨s0,s1,s2⟩ ⟨t0,t1,t2⟩ HSK.out _ _ _ _ _ (Kd.C_below HI2.out (zi (zi (Below.refl _ _) _) _)) HL2.out (Kd.C_below HI3.out (zi (zi (Below.refl _ _) _) _)) HL3.out).mono ?_);rintro e w1 ⟨rfl,hb1⟩;rw [HO.out];have HB1 := za.mk (zh (zi (zi HB.out _) _) hb1);clear hb1)
   ·go_ret
    have hne : ¬ l = l' := fun he => by
     have h1 := HX.out
     rw [he,HY.out] at h1
     exact of_decide_eq_false HO.out (Option.some.inj h1).symm
    exact ⟨by rw [decide_eq_false hne];rfl,HB1.out⟩
   ·go_roundw
    case rel =>
     refine ⟨k + 1,by go_num,by omega,⟨fun j hj => ?_⟩,HB1⟩
     rcases Nat.lt_succ_iff_lt_or_eq.1 hj with h | h
     ·exact HE.out j h
     ·subst h
      rw [HX.out,HY.out,of_decide_eq_true HO.out]
    case measure => simp;omega
  ·obtain rfl : k = l.length := by omega
   go_wp2_with fail
   go_ret
   have heq : l = l' := List.ext_getElem? fun j => by
    by_cases hj : j < l.length
    ·exact HE.out j hj
    ·rw [List.getElem?_eq_none (by omega),List.getElem?_eq_none (by have := HL.out;omega)]
   exact ⟨by rw [decide_eq_true heq];rfl,HB.out⟩
set_option maxHeartbeats 4000000 in
set_option maxRecDepth 100000 in
theorem zaq.walk0 (A : Option Addr) (c : Nat) (l : List S78) (A' : Option Addr) (c' : Nat) (l' : List S78) (w : World) (hlen : l.length ≠ l'.length) :
  Calls Try.prog 47 #[.slice A l.length c,.slice A' l'.length c',.func (.func 48) #[] #[]] w fun e w' => e = .returned (.bool (decide (l = l'))) ∧ Below w.heap.size w w' := by
 have hd : decide (l = l') = false := decide_eq_false (fun h => hlen (by rw [h]))
 rw [hd]
 clear hd
 have h1 : ((l.length : Int) != (l'.length : Int)) = true := bne_iff_ne.mpr (by omega)
 have h2 : (l.length != l'.length) = true := bne_iff_ne.mpr hlen
 clear hlen
 go_enter Try.func47,Try.ntmps47
 go_wp2_with fail
 go_ret
 exact ⟨rfl,Below.refl _ _⟩
def zaq.f (l0 l1 : List S78) : Option Bool := if zey l0 = true then some (decide (l0 = l1)) else none
theorem zaq.calls (A0 : Option Addr) (c0 : Nat) (l0 : List (S78)) (A1 : Option Addr) (c1 : Nat) (l1 : List (S78)) (r : Bool) (w : World) (hr0 : Kd.C k78 w A0 l0.length l0) (hc0 : l0.length ≤ c0) (hr1 : Kd.C k78 w A1 l1.length l1) (hc1 : l1.length ≤ c1) (h : zaq.f l0 l1 = some r) :
  Calls Try.prog 47 #[.slice A0 l0.length c0,.slice A1 l1.length c1,.func (.func 48) #[] #[]] w fun e w' => e = .returned (.bool r) ∧ Below w.heap.size w w' := by
 unfold zaq.f at h
 split at h
 ·rename_i hs
  obtain rfl := Option.some.inj h
  by_cases hl : l0.length = l1.length
  ·exact zaq.walk A0 c0 l0 A1 c1 l1 w hr0 hr1 hs hl
  ·exact zaq.walk0 A0 c0 l0 A1 c1 l1 w hl
 ·cases h
end Go.Proofs.Ytndjfdakflaggaa.Px
namespace Go.Proofs.Ytndjfdakflaggaa.Px
open Go.RowKit Go.Proofs.YtndjfdakflaggaaW.PrintWords Go.Proofs.YtndjfdakflaggaaW.PrintLast Go.Proofs.YtndjfdakflaggaaW.PrintMore
attribute [local go_sem] zt zv zA zB zq zr zu zw
set_option linter.unusedVariables false
set_option linter.unusedSimpArgs false
attribute [local go_sem high] eqA30
def zcN.f (k : Nat) (a0_0 : Int) (a0_1 : Int) (l0_2 : List (S78)) (l0_3 : List ByteArray) (a0_4 : Int) (a0_5 : Int) (a1_0 : Int) (a1_1 : Int) (l1_2 : List (S78)) (l1_3 : List ByteArray) (a1_4 : Int) (a1_5 : Int) : Option (Bool) := if a0_0 = a1_0 then (if a0_1 = a1_1 then (if (a0_4 == a1_4 && (a0_5 == a1_5)) = true then ((zC.f k l0_3 l1_3).bind fun t353 => (if t353 = true then ((zaq.f l0_2 l1_2).bind fun t354 => (some t354)) else (some false))) else (some false)) else (some false)) else (some false)
set_option maxHeartbeats 8000000 in
set_option maxRecDepth 100000 in
theorem zcN.calls (k : Nat) (a0_0 : Int) (a0_1 : Int) (A0_2 : Option Addr) (c0_2 : Nat) (l0_2 : List (S78)) (A0_3 : Option Addr) (c0_3 : Nat) (l0_3 : List ByteArray) (a0_4 : Int) (a0_5 : Int) (a1_0 : Int) (a1_1 : Int) (A1_2 : Option Addr) (c1_2 : Nat) (l1_2 : List (S78)) (A1_3 : Option Addr) (c1_3 : Nat) (l1_3 : List ByteArray) (a1_4 : Int) (a1_5 : Int) (r : Bool) (w : World) (hr0_2 : Kd.C k78 w A0_2 l0_2.length l0_2) (hc0_2 : l0_2.length ≤ c0_2) (hr0_3 : Kd.C Kd.string w A0_3 l0_3.length l0_3) (hc0_3 : l0_3.length ≤ c0_3) (hr1_2 : Kd.C k78 w A1_2 l1_2.length l1_2) (hc1_2 : l1_2.length ≤ c1_2) (hr1_3 : Kd.C Kd.string w A1_3 l1_3.length l1_3) (hc1_3 : l1_3.length ≤ c1_3) (h : zcN.f k a0_0 a0_1 l0_2 l0_3 a0_4 a0_5 a1_0 a1_1 l1_2 l1_3 a1_4 a1_5 = some r) :
  Calls Try.prog 30 #[.agg #[.int .i64 a0_0,.int .i64 a0_1,.slice A0_2 l0_2.length c0_2,.slice A0_3 l0_3.length c0_3,.int .i64 a0_4,.int .i64 a0_5],.agg #[.int .i64 a1_0,.int .i64 a1_1,.slice A1_2 l1_2.length c1_2,.slice A1_3 l1_3.length c1_3,.int .i64 a1_4,.int .i64 a1_5]] w fun e w' => e = .returned (.bool r) ∧ Below w.heap.size w w' := by
 have hu32 := Try.underlying32
 have hu30 := Try.underlying30
 have HR0_2 := za.mk hr0_2
 have HC0_2 := za.mk hc0_2
 clear hr0_2 hc0_2
 have HR0_3 := za.mk hr0_3
 have HC0_3 := za.mk hc0_3
 clear hr0_3 hc0_3
 have HR1_2 := za.mk hr1_2
 have HC1_2 := za.mk hc1_2
 clear hr1_2 hc1_2
 have HR1_3 := za.mk hr1_3
 have HC1_3 := za.mk hc1_3
 clear hr1_3 hc1_3
 have HB := za.mk (Below.refl w.heap.size w)
 have H : (if a0_0 = a1_0 then (if a0_1 = a1_1 then (if (a0_4 == a1_4 && (a0_5 == a1_5)) = true then ((zC.f k l0_3 l1_3).bind fun t353 => (if t353 = true then ((zaq.f l0_2 l1_2).bind fun t354 => (some t354)) else (some false))) else (some false)) else (some false)) else (some false)) = some r := h
 clear h
 by_cases c3 : a0_0 = a1_0
 focus
  rw [if_pos c3] at H
  have c3b0 : (a0_0 == a1_0) = true := beq_iff_eq.mpr c3
  have c3b1 : (a0_0 != a1_0) = false := bne_eq_false_iff_eq.mpr c3
  clear c3
  by_cases c4 : a0_1 = a1_1
  focus
   rw [if_pos c4] at H
   have c4b0 : (a0_1 == a1_1) = true := beq_iff_eq.mpr c4
   have c4b1 : (a0_1 != a1_1) = false := bne_eq_false_iff_eq.mpr c4
   clear c4
   by_cases c5 : (a0_4 == a1_4 && (a0_5 == a1_5)) = true
   focus
    rw [if_pos c5] at H
    have c5b0 : (a0_4 == a1_4 && (a0_5 == a1_5)) = true := c5
    (try (have c5b1 : decide (a0_4 = a1_4 && (a0_5 == a1_5)) = true := by simpa using c5))
    (try (have c5b2 : (a0_4 == a1_4 && (a0_5 == a1_5)) = true := by simpa using c5))
    clear c5
    replace H := Option.bind_eq_some_iff.mp H
    obtain ⟨t353,A60,H⟩ := H
    replace H : (if t353 = true then ((zaq.f l0_2 l1_2).bind fun t354 => (some t354)) else (some false)) = some r := H
    have A6 := za.mk A60
    clear A60
    by_cases c7 : t353 = true
    focus
     subst c7
     have H1 : ((zaq.f l0_2 l1_2).bind fun t354 => (some t354)) = some r := by rw [if_pos rfl] at H;exact H
     clear H
     have H := H1
     clear H1
     replace H := Option.bind_eq_some_iff.mp H
     obtain ⟨t354,A80,H⟩ := H
     replace H : (some t354) = some r := H
     have A8 := za.mk A80
     clear A80
     obtain rfl := Option.some.inj H
     have EQ0 := True.intro
    rotate_left
    focus
     replace c7 := Bool.eq_false_iff.mpr c7
     subst c7
     have H1 : (some false) = some r := by rw [if_neg (show ¬ (false = true) by decide)] at H;exact H
     clear H
     have H := H1
     clear H1
     obtain rfl := Option.some.inj H
     have EQ1 := True.intro
   rotate_left 2
   focus
    rw [if_neg c5] at H
    have c5b0 : (a0_4 == a1_4 && (a0_5 == a1_5)) = false := by simpa using c5
    (try (have c5b1 : decide (a0_4 = a1_4 && (a0_5 == a1_5)) = false := by simpa using c5))
    (try (have c5b2 : (a0_4 == a1_4 && (a0_5 == a1_5)) = false := by simpa using c5))
    (try (have c5b3 : ¬ (a0_4 = a1_4 && (a0_5 == a1_5)) := by simpa using c5))
    clear c5
    obtain rfl := Option.some.inj H
  rotate_left 3
  focus
   rw [if_neg c4] at H
   have c4b0 : (a0_1 == a1_1) = false := beq_eq_false_iff_ne.mpr c4
   have c4b1 : (a0_1 != a1_1) = true := bne_iff_ne.mpr c4
   obtain rfl := Option.some.inj H
 rotate_left 4
 focus
  rw [if_neg c3] at H
  have c3b0 : (a0_0 == a1_0) = false := beq_eq_false_iff_ne.mpr c3
  have c3b1 : (a0_0 != a1_0) = true := bne_iff_ne.mpr c3
  obtain rfl := Option.some.inj H
 all_goals
  go_enter Try.func30,Try.ntmps30
  go_wp2_with (first | ((with_reducible refine zp (N := 2) rfl ?_);refine zn rfl (N := 2) rfl (cs := #[.int .i64 a0_0,.int .i64 a0_1,.slice A0_2 l0_2.length c0_2,.slice A0_3 l0_3.length c0_3,.int .i64 a0_4,.int .i64 a0_5]) (t := 32) hrq ?_;intro gb351 hg wQN22 hbox hb;have n_ := haq (zh hBq hb) <| haq (hbox) <| haq ((by rw [hg];exact (zj hBq) : w.heap.size ≤ gb351)) <| haq ((by rw [hg];exact (zj hBq) : w.heap.size ≤ gb351)) <| trivial;clear HB;obtain ⟨HB,BK351,GW351,GE351,_⟩ := n_;clear hb hbox hg) | ((with_reducible refine zp (N := 3) rfl ?_);refine zn rfl (N := 3) rfl (cs := #[.int .i64 a1_0,.int .i64 a1_1,.slice A1_2 l1_2.length c1_2,.slice A1_3 l1_3.length c1_3,.int .i64 a1_4,.int .i64 a1_5]) (t := 32) hrq ?_;intro gb352 hg wQN32 hbox hb;have n_ := haq (hbq BK351.out hb) <| haq (zh hCq hb) <| haq (hbox) <| haq ((by rw [hg];exact (zj hCq) : w.heap.size ≤ gb352)) <| haq ((by rw [hg];exact (zj hCq) : w.heap.size ≤ gb352)) <| haq (hnq hg BK351.out) <| haq (hmq hg BK351.out) <| trivial;clear BK351 HB;obtain ⟨BK351,HB,BK352,GW352,GE352,NBQN37,NBQN38,_⟩ := n_;clear hb hbox hg;have hnbQN39 := NBQN37.out;have hncQN310 := NBQN38.out;obtain ⟨hczQN311,hczQN312,hczQN313,hczQN314,hczQN315,hczQN316,hfzQN317,hfzQN318,hfzQN319,hfzQN320,hfzQN321,hfzQN322⟩ := hcq6 BK351.out;obtain ⟨hczQN323,hczQN324,hczQN325,hczQN326,hczQN327,hczQN328,hfzQN329,hfzQN330,hfzQN331,hfzQN332,hfzQN333,hfzQN334⟩ := hcq6 BK352.out) | (have _ := EQ0;(go_at_call 46;(with_reducible refine (zC.calls k _ _ l0_3 _ _ l1_3 true _ ?side1 ?side2 ?side3 ?side4 A6.out).mono ?_);(case side1 => exact hKq (Kd.C_below HR0_3.out HB.out));(case side2 => exact HC0_3.out);(case side3 => exact hKq (Kd.C_below HR1_3.out HB.out));(case side4 => exact HC1_3.out);rintro e w' ⟨rfl,⟨nd,rfl⟩⟩)) | (have _ := EQ0;(go_at_call 47;(with_reducible refine (zaq.calls _ _ l0_2 _ _ l1_2 t354 _ ?side1 ?side2 ?side3 ?side4 A8.out).mono ?_);(case side1 => repeat (first | exact (Kd.C_below HR0_2.out hCq) | (with_reducible refine Kd.C_alloc ?_ _) | (with_reducible refine Kd.C_drewN ?_ _) | (with_reducible refine Kd.C_drew ?_)));(case side2 => exact HC0_2.out);(case side3 => repeat (first | exact (Kd.C_below HR1_2.out hCq) | (with_reducible refine Kd.C_alloc ?_ _) | (with_reducible refine Kd.C_drewN ?_ _) | (with_reducible refine Kd.C_drew ?_)));(case side4 => exact HC1_2.out);rintro e wQC47A81 ⟨rfl,hb⟩;have n_ := haq (hbq BK351.out hb) <| haq (hbq BK352.out hb) <| haq (zh hCq hb) <| trivial;clear BK351 BK352 HB;obtain ⟨BK351,BK352,HB,_⟩ := n_;(try clear hb);(try clear hb2);(try clear hk);(try clear hi))) | (have _ := EQ1;(go_at_call 46;(with_reducible refine (zC.calls k _ _ l0_3 _ _ l1_3 false _ ?side1 ?side2 ?side3 ?side4 A6.out).mono ?_);(case side1 => exact hKq (Kd.C_below HR0_3.out HB.out));(case side2 => exact HC0_3.out);(case side3 => exact hKq (Kd.C_below HR1_3.out HB.out));(case side4 => exact HC1_3.out);rintro e w' ⟨rfl,⟨nd,rfl⟩⟩)))
  go_ret
  exact ⟨hHq,hCq⟩
end Go.Proofs.Ytndjfdakflaggaa.Px
namespace Go.Proofs.Ytndjfdakflaggaa.Px
open Go.RowKit Go.Proofs.YtndjfdakflaggaaW.PrintWords Go.Proofs.YtndjfdakflaggaaW.PrintLast Go.Proofs.YtndjfdakflaggaaW.PrintMore
attribute [local go_sem] zt zv zA zB zq zr zu zw
set_option linter.unusedVariables false
set_option linter.unusedSimpArgs false
set_option maxHeartbeats 4000000 in
set_option maxRecDepth 100000 in
theorem zem.walk (a r : Int) (A2 : Option Addr) (n2 c2 : Nat) (A3 : Option Addr) (n3 c3 : Nat) (x y a' r' : Int) (B2 : Option Addr) (m2 d2 : Nat) (B3 : Option Addr) (m3 d3 : Nat) (x' y' : Int) (w : World) :
  Calls Try.prog 36 #[.agg #[.int .i64 a,.int .i64 r,.slice A2 n2 c2,.slice A3 n3 c3,.int .i64 x,.int .i64 y],.agg #[.int .i64 a',.int .i64 r',.slice B2 m2 d2,.slice B3 m3 d3,.int .i64 x',.int .i64 y']] w fun e w' => e = .returned (.bool (za4 a r a' r')) ∧ Below w.heap.size w w' := by
 by_cases h1 : r < r'
 ·have HP : za (za4 a r a' r' = true) := ⟨decide_eq_true (.inl h1)⟩
  have d1 : decide (r < r') = true := decide_eq_true h1
  clear h1
  go_enter Try.func36,Try.ntmps36
  go_wp2
  go_ret
  exact ⟨by rw [HP.out];rfl,zi (zi (Below.refl _ _) _) _⟩
 ·have d1 : decide (r < r') = false := decide_eq_false h1
  by_cases h2 : r = r'
  ·have d2 : (r == r') = true := beq_iff_eq.2 h2
   have HP : za (za4 a r a' r' = decide (a < a')) := ⟨by unfold za4;rw [Bool.eq_iff_iff,decide_eq_true_eq,decide_eq_true_eq];omega⟩
   clear h1 h2
   go_enter Try.func36,Try.ntmps36
   go_wp2
   go_ret
   exact ⟨by rw [HP.out];rfl,zi (zi (Below.refl _ _) _) _⟩
  ·have d2 : (r == r') = false := beq_eq_false_iff_ne.2 h2
   have HP : za (za4 a r a' r' = false) := ⟨decide_eq_false (by omega)⟩
   clear h1 h2
   go_enter Try.func36,Try.ntmps36
   go_wp2
   go_ret
   exact ⟨by rw [HP.out];rfl,zi (zi (Below.refl _ _) _) _⟩
def za5.p (a r : Int) (x : S34) : Bool := decide (x.f1.f0 = a ∧ x.f1.f1 = r)
set_option maxHeartbeats 4000000 in
set_option maxRecDepth 100000 in
theorem za5.odd (a r : Int) (x0 : ByteArray) (x1 x2 : Int) (A3 : Option Addr) (n3 c3 : Nat) (A4 : Option Addr) (n4 c4 : Nat) (x5 x6 : Int) (g : Nat) (g' : Nat) (w : World) (hg : w.heap[g]? = some (.cells #[.int .i64 a] 3 (0,0))) (hg' : w.heap[g']? = some (.cells #[.int .i64 r] 3 (0,0))) :
  Calls Try.prog 51 #[.agg #[.string x0,.int .i64 x1,.int .i64 x2,.slice A3 n3 c3,.slice A4 n4 c4,.int .i64 x5,.int .i64 x6],.pointer (some ⟨g,0,none⟩),.pointer (some ⟨g',0,none⟩)] w fun e w' => e = .returned (.bool (decide (x1 = a ∧ x2 = r))) ∧ Below w.heap.size w w' := by
 have Hg := za.mk hg
 have Hg' := za.mk hg'
 clear hg hg'
 by_cases c1 : x1 = a
 ·have d1 : (x1 == a) = true := beq_iff_eq.2 c1
  by_cases c2 : x2 = r
  ·have d2 : (x2 == r) = true := beq_iff_eq.2 c2
   have HP : za (decide (x1 = a ∧ x2 = r) = true) := ⟨decide_eq_true ⟨c1,c2⟩⟩
   clear c1 c2
   go_enter Try.func51,Try.ntmps51
   go_wp2_with ((with_reducible refine zp (N := 3) rfl ?_);refine zn rfl (N := 3) rfl (cs := #[.string x0,.int .i64 x1,.int .i64 x2,.slice A3 n3 c3,.slice A4 n4 c4,.int .i64 x5,.int .i64 x6]) (t := 34) hrq ?_;intro gb hg w2 hbox hb;have BK := za.mk hbox;have HB := za.mk hb;have Ng := za.mk (zo Hg.out hb);have Ng' := za.mk (zo Hg'.out hb);have z_0 := (zb BK.out 0).trans rfl;have zf_0 := zc BK.out 0;have z_1 := (zb BK.out 1).trans rfl;have zf_1 := zc BK.out 1;have z_2 := (zb BK.out 2).trans rfl;have zf_2 := zc BK.out 2;have z_3 := (zb BK.out 3).trans rfl;have zf_3 := zc BK.out 3;have z_4 := (zb BK.out 4).trans rfl;have zf_4 := zc BK.out 4;have z_5 := (zb BK.out 5).trans rfl;have zf_5 := zc BK.out 5;have z_6 := (zb BK.out 6).trans rfl;have zf_6 := zc BK.out 6;have zg_0 := (zb Ng.out 0).trans rfl;have zgf_0 := zc Ng.out 0;have zg'_0 := (zb Ng'.out 0).trans rfl;have zg'f_0 := zc Ng'.out 0;clear hb hbox hg)
   go_ret
   exact ⟨by rw [HP.out];rfl,HB.out⟩
  ·have d2 : (x2 == r) = false := beq_eq_false_iff_ne.2 c2
   have HP : za (decide (x1 = a ∧ x2 = r) = false) := ⟨decide_eq_false (fun h => c2 h.2)⟩
   clear c1 c2
   go_enter Try.func51,Try.ntmps51
   go_wp2_with ((with_reducible refine zp (N := 3) rfl ?_);refine zn rfl (N := 3) rfl (cs := #[.string x0,.int .i64 x1,.int .i64 x2,.slice A3 n3 c3,.slice A4 n4 c4,.int .i64 x5,.int .i64 x6]) (t := 34) hrq ?_;intro gb hg w2 hbox hb;have BK := za.mk hbox;have HB := za.mk hb;have Ng := za.mk (zo Hg.out hb);have Ng' := za.mk (zo Hg'.out hb);have z_0 := (zb BK.out 0).trans rfl;have zf_0 := zc BK.out 0;have z_1 := (zb BK.out 1).trans rfl;have zf_1 := zc BK.out 1;have z_2 := (zb BK.out 2).trans rfl;have zf_2 := zc BK.out 2;have z_3 := (zb BK.out 3).trans rfl;have zf_3 := zc BK.out 3;have z_4 := (zb BK.out 4).trans rfl;have zf_4 := zc BK.out 4;have z_5 := (zb BK.out 5).trans rfl;have zf_5 := zc BK.out 5;have z_6 := (zb BK.out 6).trans rfl;have zf_6 := zc BK.out 6;have zg_0 := (zb Ng.out 0).trans rfl;have zgf_0 := zc Ng.out 0;have zg'_0 := (zb Ng'.out 0).trans rfl;have zg'f_0 := zc Ng'.out 0;clear hb hbox hg)
   go_ret
   exact ⟨by rw [HP.out];rfl,HB.out⟩
 ·have d1 : (x1 == a) = false := beq_eq_false_iff_ne.2 c1
  have HP : za (decide (x1 = a ∧ x2 = r) = false) := ⟨decide_eq_false (fun h => c1 h.1)⟩
  clear c1
  go_enter Try.func51,Try.ntmps51
  go_wp2_with ((with_reducible refine zp (N := 3) rfl ?_);refine zn rfl (N := 3) rfl (cs := #[.string x0,.int .i64 x1,.int .i64 x2,.slice A3 n3 c3,.slice A4 n4 c4,.int .i64 x5,.int .i64 x6]) (t := 34) hrq ?_;intro gb hg w2 hbox hb;have BK := za.mk hbox;have HB := za.mk hb;have Ng := za.mk (zo Hg.out hb);have Ng' := za.mk (zo Hg'.out hb);have z_0 := (zb BK.out 0).trans rfl;have zf_0 := zc BK.out 0;have z_1 := (zb BK.out 1).trans rfl;have zf_1 := zc BK.out 1;have z_2 := (zb BK.out 2).trans rfl;have zf_2 := zc BK.out 2;have z_3 := (zb BK.out 3).trans rfl;have zf_3 := zc BK.out 3;have z_4 := (zb BK.out 4).trans rfl;have zf_4 := zc BK.out 4;have z_5 := (zb BK.out 5).trans rfl;have zf_5 := zc BK.out 5;have z_6 := (zb BK.out 6).trans rfl;have zf_6 := zc BK.out 6;have zg_0 := (zb Ng.out 0).trans rfl;have zgf_0 := zc Ng.out 0;have zg'_0 := (zb Ng'.out 0).trans rfl;have zg'f_0 := zc Ng'.out 0;clear hb hbox hg)
  go_ret
  exact ⟨by rw [HP.out];rfl,HB.out⟩
set_option maxHeartbeats 4000000 in
set_option maxRecDepth 100000 in
theorem za5.idx (a r : Int) (g : Nat) (g' : Nat) (A : Option Addr) (c : Nat) (l : List S34) (w : World) (hr : Kd.C k34 w A l.length l) (hg : w.heap[g]? = some (.cells #[.int .i64 a] 3 (0,0))) (hg' : w.heap[g']? = some (.cells #[.int .i64 r] 3 (0,0))) :
  Calls Try.prog 34 #[.slice A l.length c,.func (.func 51) #[] #[.pointer (some ⟨g,0,none⟩),.pointer (some ⟨g',0,none⟩)]] w fun e w' => e = .returned (.int .i64 (zcp (za5.p a r) l)) ∧ Below w.heap.size w w' := by
 have hm := hr.2.1
 have HR := za.mk hr
 have Hg := za.mk hg
 have Hg' := za.mk hg'
 clear hr hg hg'
 go_enter Try.func34,Try.ntmps34
 go_wp2_with fail
 have HB0 := za.mk (Below.refl w.heap.size w)
 go_loopw [5,8] (fun v5 v8 wr => ∃ k : Nat,v8 = .int .i64 k ∧ k ≤ l.length ∧ za (∀ (j : Nat) (y : S34),j < k → l[j]? = some y → za5.p a r y = false) ∧ za (Below w.heap.size w wr)) (fun _ v8 _ => l.length - (match v8 with | .int _ q => q | _ => 0).toNat)
 case atStart => exact ⟨0,rfl,Nat.zero_le _,⟨fun j y hj => absurd hj (Nat.not_lt_zero _)⟩,⟨by repeat (first | (with_reducible first | exact HB0.out | apply zi | apply zl | apply zx) | exact HB0.out)⟩⟩
 case round =>
  obtain ⟨k,rfl,hk,HF,HB⟩ := hrel
  by_cases hlt : k < l.length
  ·obtain ⟨ad,A3,c3,A4,c4,rfl,hx0,hx1,hx2,hx3,hx4,hx5,hx6,_,_,_,_⟩ := zai HR.out (k : Int) (by omega) (by omega)
   replace hx0 := (HB.out.cell (World.block_lt_of_cell? w _ hx0)).trans hx0
   replace hx1 := (HB.out.cell (World.block_lt_of_cell? w _ hx1)).trans hx1
   replace hx2 := (HB.out.cell (World.block_lt_of_cell? w _ hx2)).trans hx2
   replace hx3 := (HB.out.cell (World.block_lt_of_cell? w _ hx3)).trans hx3
   replace hx4 := (HB.out.cell (World.block_lt_of_cell? w _ hx4)).trans hx4
   replace hx5 := (HB.out.cell (World.block_lt_of_cell? w _ hx5)).trans hx5
   replace hx6 := (HB.out.cell (World.block_lt_of_cell? w _ hx6)).trans hx6
   rw [Int.toNat_natCast] at hx0 hx1 hx2 hx3 hx4 hx5 hx6
   have hb : decide (k < l.length) = true := decide_eq_true hlt
   have hx : l[k]? = some (zd l (k : Int)) := by
    rw [zd,Int.toNat_natCast,List.getD_eq_getElem?_getD,List.getElem?_eq_getElem hlt];rfl
   have HX := za.mk hx
   have Ng := za.mk (zo Hg.out HB.out)
   have Ng' := za.mk (zo Hg'.out HB.out)
   clear hx
   generalize zd l (k : Int) = s at *
   obtain ⟨s0,⟨s1,s2,s3,s4,⟨s5,s6⟩⟩⟩ := s
   rcases ho : za5.p a r ⟨s0,⟨s1,s2,s3,s4,⟨s5,s6⟩⟩⟩ with _ | _
   ·have HO := za.mk ho
    clear ho
    go_wp2_with (go_at_call 51;(with_reducible refine (za5.odd a r s0 s1 s2 _ _ _ _ _ _ s5 s6 g g' _ Ng.out Ng'.out).mono ?_);rintro e w1 ⟨rfl,hb1⟩;rw [show (decide (s1 = a ∧ s2 = r)) = _ from HO.out];have HB1 := za.mk (zh HB.out hb1);clear hb1)
    go_roundw
    case rel =>
     refine ⟨k + 1,by go_num,by omega,⟨fun j y hj hy => ?_⟩,HB1⟩
     rcases Nat.lt_succ_iff_lt_or_eq.1 hj with h | h
     ·exact HF.out j y h hy
     ·subst h
      rw [HX.out] at hy
      injection hy with hy
      subst hy
      exact HO.out
    case measure => simp;omega
   ·have HO := za.mk ho
    clear ho
    go_wp2_with (go_at_call 51;(with_reducible refine (za5.odd a r s0 s1 s2 _ _ _ _ _ _ s5 s6 g g' _ Ng.out Ng'.out).mono ?_);rintro e w1 ⟨rfl,hb1⟩;rw [show (decide (s1 = a ∧ s2 = r)) = _ from HO.out];have HB1 := za.mk (zh HB.out hb1);clear hb1)
    go_ret
    exact ⟨by rw [zcW HX.out HO.out HF.out];rfl,HB1.out⟩
  ·obtain rfl : k = l.length := by omega
   go_wp2_with fail
   go_ret
   exact ⟨by rw [zcX (fun j y hy => HF.out j y (List.getElem?_eq_some_iff.1 hy).1 hy)];rfl,HB.out⟩
set_option maxHeartbeats 4000000 in
set_option maxRecDepth 100000 in
theorem za5.first (a r : Int) (g : Nat) (g' : Nat) (a0_0 : Int) (a0_1 : Int) (P0_2_ : Nat → Prop) (A0_2 : Option Addr) (c0_2 : Nat) (l0_2 : List (S34)) (r1 : ByteArray) (r2 : Int) (r3 : Int) (r4 : List (S78)) (r5 : List ByteArray) (r6 : Int) (r7 : Int) (r8 : Bool) (w : World) (hs0_2 : Kd.V k34 34 w w.heap.size (fun k_ => P0_2_ k_) (.slice A0_2 l0_2.length c0_2) l0_2) (hg : w.heap[g]? = some (.cells #[.int .i64 a] 3 (0,0))) (hg' : w.heap[g']? = some (.cells #[.int .i64 r] 3 (0,0))) (hres : zfh (l0_2.find? (za5.p a r)) = (r1,r2,r3,r4,r5,r6,r7,r8)) :
  Calls Try.prog 23 #[.agg #[.int .i64 a0_0,.int .i64 a0_1,.slice A0_2 l0_2.length c0_2],.func (.func 51) #[] #[.pointer (some ⟨g,0,none⟩),.pointer (some ⟨g',0,none⟩)]] w fun e w' => ∃ v3_ v4_ : Value,e = .returned (.tuple #[.agg #[.string r1,.int .i64 r2,.int .i64 r3,v3_,v4_,.int .i64 r6,.int .i64 r7],.bool r8]) ∧ Kd.V k78 78 w' w.heap.size (fun k_ => (P0_2_ k_ ∨ w.heap.size ≤ k_)) v3_ r4 ∧ Kd.V Kd.string 9 w' w.heap.size (fun k_ => (P0_2_ k_ ∨ w.heap.size ≤ k_)) v4_ r5 ∧ Below w.heap.size w w' := by
 have HS := za.mk hs0_2
 have Hg := za.mk hg
 have Hg' := za.mk hg'
 clear hs0_2 hg hg'
 rcases zf7 (za5.p a r) l0_2 with ⟨i,x,hi,hx,hf,hidx⟩ | ⟨hf,hidx⟩
 ·rw [hf] at hres
  obtain ⟨x0,⟨x1,x2,x3,x4,⟨x5,x6⟩⟩⟩ := x
  have HI := za.mk hidx
  obtain ⟨ad,A3,c3,A4,c4,rfl,hx0,hx1,hx2,hx3,hx4,hx5,hx6,hv3,hv4⟩ := ent_at HS.out i hi _ hx
  have HV3 := za.mk hv3
  have HV4 := za.mk hv4
  simp only [zfh,tupE,Prod.mk.injEq] at hres
  obtain ⟨rfl,rfl,rfl,rfl,rfl,rfl,rfl,rfl⟩ := hres
  have hib : decide (i < l0_2.length) = true := decide_eq_true hi
  have hi0 : decide ((i : Int) < 0) = false := decide_eq_false (by omega)
  clear hx hf hidx hv3 hv4
  go_enter Try.func23,Try.ntmps23
  go_wp2_with (first
   | ((with_reducible refine zp (N := 2) rfl ?_);refine zn rfl (N := 2) rfl (cs := #[.int .i64 a0_0,.int .i64 a0_1,.slice (some ad) l0_2.length c0_2]) (t := 24) hrq ?_;intro g2 hg w2 hbox hb;have B2 := za.mk hbox;have HB2 := za.mk hb;have Ng := za.mk (zo Hg.out hb);have Ng' := za.mk (zo Hg'.out hb);have z2_0 := fun o => (zb (ze B2.out o) 0).trans rfl;have z2_1 := fun o => (zb (ze B2.out o) 1).trans rfl;have z2_2 := fun o => (zb (ze B2.out o) 2).trans rfl;clear hb hbox hg)
   | (go_at_call 34;(with_reducible refine (za5.idx a r g g' _ _ l0_2 _ (Kd.C_below (Kd.V_reads' HS.out).2.2 (zi HB2.out _)) (ze Ng.out _) (ze Ng'.out _)).mono ?_);rintro e w3 ⟨rfl,hb⟩;rw [HI.out];have HB3 := za.mk (zh (zi HB2.out _) hb);have B4 := za.mk (zo (zbp w2 _) hb);have B22 := za.mk (zo (ze B2.out _) hb);have HLE : za (w.heap.size ≤ w2.heap.size) := ⟨zj HB2.out⟩;clear hb;have y2_0 := (zb B22.out 0).trans rfl;have y2f_0 := zc B22.out 0;have y2_1 := (zb B22.out 1).trans rfl;have y2f_1 := zc B22.out 1;have y2_2 := (zb B22.out 2).trans rfl;have y2f_2 := zc B22.out 2;have y4_0 := (zb B4.out 0).trans rfl;have y4f_0 := zc B4.out 0;have y4_1 := (zb B4.out 1).trans rfl;have y4f_1 := zc B4.out 1;have y4_2 := (zb B4.out 2).trans rfl;have y4f_2 := zc B4.out 2;have y4_3 := (zb B4.out 3).trans rfl;have y4f_3 := zc B4.out 3;have y4_4 := (zb B4.out 4).trans rfl;have y4f_4 := zc B4.out 4;have y4_5 := (zb B4.out 5).trans rfl;have y4f_5 := zc B4.out 5;have y4_6 := (zb B4.out 6).trans rfl;have y4f_6 := zc B4.out 6;have q0 := (HB3.out.cell (World.block_lt_of_cell? w _ hx0)).trans hx0;have q1 := (HB3.out.cell (World.block_lt_of_cell? w _ hx1)).trans hx1;have q2 := (HB3.out.cell (World.block_lt_of_cell? w _ hx2)).trans hx2;have q3 := (HB3.out.cell (World.block_lt_of_cell? w _ hx3)).trans hx3;have q4 := (HB3.out.cell (World.block_lt_of_cell? w _ hx4)).trans hx4;have q5 := (HB3.out.cell (World.block_lt_of_cell? w _ hx5)).trans hx5;have q6 := (HB3.out.cell (World.block_lt_of_cell? w _ hx6)).trans hx6))
  refine bodyPost_ret (zaW rfl _ _ w2.heap.size 34 _ (0,0) _ rfl (zM (zM (zM (zM (zM (zM (zM B4.out 0 _) 1 _) 2 _) 3 _) 4 _) 5 _) 6 _) Try.underlying34 rfl (by kernel_rfl)) rfl ?_
  refine ⟨_,_,rfl,Kd.V_mono (Kd.V_below HV3.out ?e1) (fun _ hk => .inl hk),Kd.V_mono (Kd.V_below HV4.out ?e1) (fun _ hk => .inl hk),?e1⟩
  exact (zm (zm (zm (zm (zm (zm (zm HB3.out HLE.out) HLE.out) HLE.out) HLE.out) HLE.out) HLE.out) HLE.out)
 ·rw [hf] at hres
  have HI := za.mk hidx
  simp only [zfh,noE,Prod.mk.injEq] at hres
  obtain ⟨rfl,rfl,rfl,rfl,rfl,rfl,rfl,rfl⟩ := hres
  clear hf hidx
  go_enter Try.func23,Try.ntmps23
  go_wp2_with (first
   | ((with_reducible refine zp (N := 2) rfl ?_);refine zn rfl (N := 2) rfl (cs := #[.int .i64 a0_0,.int .i64 a0_1,.slice A0_2 l0_2.length c0_2]) (t := 24) hrq ?_;intro g2 hg w2 hbox hb;have B2 := za.mk hbox;have HB2 := za.mk hb;have Ng := za.mk (zo Hg.out hb);have Ng' := za.mk (zo Hg'.out hb);have z2_0 := fun o => (zb (ze B2.out o) 0).trans rfl;have z2_1 := fun o => (zb (ze B2.out o) 1).trans rfl;have z2_2 := fun o => (zb (ze B2.out o) 2).trans rfl;clear hb hbox hg)
   | (go_at_call 34;(with_reducible refine (za5.idx a r g g' _ _ l0_2 _ (Kd.C_below (Kd.V_reads' HS.out).2.2 (zi HB2.out _)) (ze Ng.out _) (ze Ng'.out _)).mono ?_);rintro e w3 ⟨rfl,hb⟩;rw [HI.out];have HB3 := za.mk (zh (zi HB2.out _) hb);have B4 := za.mk (zo (zbp w2 _) hb);have B22 := za.mk (zo (ze B2.out _) hb);have HLE : za (w.heap.size ≤ w2.heap.size) := ⟨zj HB2.out⟩;clear hb;have y2_0 := (zb B22.out 0).trans rfl;have y2f_0 := zc B22.out 0;have y2_1 := (zb B22.out 1).trans rfl;have y2f_1 := zc B22.out 1;have y2_2 := (zb B22.out 2).trans rfl;have y2f_2 := zc B22.out 2;have y4_0 := (zb B4.out 0).trans rfl;have y4f_0 := zc B4.out 0;have y4_1 := (zb B4.out 1).trans rfl;have y4f_1 := zc B4.out 1;have y4_2 := (zb B4.out 2).trans rfl;have y4f_2 := zc B4.out 2;have y4_3 := (zb B4.out 3).trans rfl;have y4f_3 := zc B4.out 3;have y4_4 := (zb B4.out 4).trans rfl;have y4f_4 := zc B4.out 4;have y4_5 := (zb B4.out 5).trans rfl;have y4f_5 := zc B4.out 5;have y4_6 := (zb B4.out 6).trans rfl;have y4f_6 := zc B4.out 6))
  refine bodyPost_ret (zaW rfl _ _ w2.heap.size 34 _ (0,0) _ rfl (zM (zM (zM (zM (zM (zM (zM B4.out 0 _) 1 _) 2 _) 3 _) 4 _) 5 _) 6 _) Try.underlying34 rfl (by kernel_rfl)) rfl ?_
  exact ⟨_,_,rfl,Kd.V_nil _ _ _ _ _,Kd.V_nil _ _ _ _ _,(zm (zm (zm (zm (zm (zm (zm HB3.out HLE.out) HLE.out) HLE.out) HLE.out) HLE.out) HLE.out) HLE.out)⟩
def za5.f (a0_0 : Int) (a0_1 : Int) (l0_2 : List (S34)) (a1 : Int) (a2 : Int) : Option TE := some (zfh (byE l0_2 a1 a2))
set_option maxHeartbeats 4000000 in
set_option maxRecDepth 100000 in
theorem za5.calls (a0_0 : Int) (a0_1 : Int) (P0_2_ : Nat → Prop) (A0_2 : Option Addr) (c0_2 : Nat) (l0_2 : List (S34)) (a1 : Int) (a2 : Int) (r1 : ByteArray) (r2 : Int) (r3 : Int) (r4 : List (S78)) (r5 : List ByteArray) (r6 : Int) (r7 : Int) (r8 : Bool) (w : World) (hs0_2 : Kd.V k34 34 w w.heap.size (fun k_ => P0_2_ k_) (.slice A0_2 l0_2.length c0_2) l0_2) (h : za5.f a0_0 a0_1 l0_2 a1 a2 = some (r1,r2,r3,r4,r5,r6,r7,r8)) :
  Calls Try.prog 32 #[.agg #[.int .i64 a0_0,.int .i64 a0_1,.slice A0_2 l0_2.length c0_2],.int .i64 a1,.int .i64 a2] w fun e w' => ∃ v3_ v4_ : Value,e = .returned (.tuple #[.agg #[.string r1,.int .i64 r2,.int .i64 r3,v3_,v4_,.int .i64 r6,.int .i64 r7],.bool r8]) ∧ Kd.V k78 78 w' w.heap.size (fun k_ => (P0_2_ k_ ∨ w.heap.size ≤ k_)) v3_ r4 ∧ Kd.V Kd.string 9 w' w.heap.size (fun k_ => (P0_2_ k_ ∨ w.heap.size ≤ k_)) v4_ r5 ∧ Below w.heap.size w w' := by
 have HRS := za.mk (show zfh (l0_2.find? (za5.p a1 a2)) = (r1,r2,r3,r4,r5,r6,r7,r8) from Option.some.inj h)
 have HS := za.mk hs0_2
 clear hs0_2 h
 go_enter Try.func32,Try.ntmps32
 go_wp2_with (first
  | ((with_reducible refine zp (N := 3) rfl ?_);refine zn rfl (N := 3) rfl (cs := #[.int .i64 a0_0,.int .i64 a0_1,.slice A0_2 l0_2.length c0_2]) (t := 24) hrq ?_;intro g0 hg u0 hbox hb;have B0 := za.mk hbox;have HB0 := za.mk hb;clear hb hbox hg)
  | ((with_reducible refine zp (N := 4) rfl ?_);refine zn rfl (N := 4) rfl (cs := #[.int .i64 a1]) (t := 3) hrq ?_;intro g1 hg u1 hbox hb;have C0 := za.mk (zo B0.out hb);have HB1 := za.mk (zh HB0.out hb);have B1 := za.mk hbox;clear hb hbox hg)
  | ((with_reducible refine zp (N := 5) rfl ?_);refine zn rfl (N := 5) rfl (cs := #[.int .i64 a2]) (t := 3) hrq ?_;intro g2 hg u2 hbox hb;have C1 := za.mk (zo B1.out hb);have HB2 := za.mk (zh HB1.out hb);have D1_0 := za.mk (zo C0.out hb);have B2 := za.mk hbox;have z0_0 := fun o => (zb (ze D1_0.out o) 0).trans rfl;have z0_1 := fun o => (zb (ze D1_0.out o) 1).trans rfl;have z0_2 := fun o => (zb (ze D1_0.out o) 2).trans rfl;clear hb hbox hg)
  | (go_at_call 23;(with_reducible refine (za5.first a1 a2 g1 g2 a0_0 a0_1 (fun k_ => P0_2_ k_ ∧ k_ < w.heap.size) A0_2 c0_2 l0_2 r1 r2 r3 r4 r5 r6 r7 r8 _ (Kd.V_map HS.out (fun _ hf => Kd.F_below (Kd.F_bound hf) (zi HB2.out _))) (ze C1.out _) (ze B2.out _) HRS.out).mono ?_);rintro e w5 ⟨v3,v4,rfl,hV3,hV4,hb⟩;obtain ⟨A3,c3,rfl⟩ := Kd.V_slice hV3;obtain ⟨A4,c4,rfl⟩ := Kd.V_slice hV4;have HV3 := za.mk hV3;have HV4 := za.mk hV4;have HBX := za.mk (zh (zi HB2.out _) hb);have BX := za.mk (zo (zbp u2 _) hb);have HLE : za (w.heap.size ≤ u2.heap.size) := ⟨zj HB2.out⟩;clear hb hV3 hV4;have y_0 := (zb BX.out 0).trans rfl;have yf_0 := zc BX.out 0;have y_1 := (zb BX.out 1).trans rfl;have yf_1 := zc BX.out 1;have y_2 := (zb BX.out 2).trans rfl;have yf_2 := zc BX.out 2;have y_3 := (zb BX.out 3).trans rfl;have yf_3 := zc BX.out 3;have y_4 := (zb BX.out 4).trans rfl;have yf_4 := zc BX.out 4;have y_5 := (zb BX.out 5).trans rfl;have yf_5 := zc BX.out 5;have y_6 := (zb BX.out 6).trans rfl;have yf_6 := zc BX.out 6))
 have far : za (∀ k_,((P0_2_ k_ ∧ k_ < w.heap.size) ∨ (u2.alloc (.cells #[.string (⟨#[]⟩ : ByteArray),.int .i64 0,.int .i64 0,.slice none 0 0,.slice none 0 0,.int .i64 0,.int .i64 0] 34 (0,0))).heap.size ≤ k_) → k_ ≠ u2.heap.size) := ⟨fun k_ hk he => by
  subst he
  rcases hk with hk | hk
  ·exact Nat.lt_irrefl _ (Nat.lt_of_lt_of_le hk.2 HLE.out)
  ·exact absurd hk (by simp)⟩
 have lift : ∀ k_,((P0_2_ k_ ∧ k_ < w.heap.size) ∨ (u2.alloc (.cells #[.string (⟨#[]⟩ : ByteArray),.int .i64 0,.int .i64 0,.slice none 0 0,.slice none 0 0,.int .i64 0,.int .i64 0] 34 (0,0))).heap.size ≤ k_) → (P0_2_ k_ ∨ w.heap.size ≤ k_) := fun k_ hk => by
  rcases hk with hk | hk
  ·exact .inl hk.1
  ·exact .inr (Nat.le_trans HLE.out (Nat.le_trans (by simp) hk))
 refine bodyPost_ret (zaW rfl _ _ u2.heap.size 34 _ (0,0) _ rfl (zM (zM (zM (zM (zM (zM (zM BX.out 0 _) 1 _) 2 _) 3 _) 4 _) 5 _) 6 _) Try.underlying34 rfl (by kernel_rfl)) rfl ?_
 exact ⟨_,_,rfl,Kd.V_mono (Kd.V_far (p := ⟨u2.heap.size,6,none⟩) (Kd.V_far (p := ⟨u2.heap.size,5,none⟩) (Kd.V_far (p := ⟨u2.heap.size,4,none⟩) (Kd.V_far (p := ⟨u2.heap.size,3,none⟩) (Kd.V_far (p := ⟨u2.heap.size,2,none⟩) (Kd.V_far (p := ⟨u2.heap.size,1,none⟩) (Kd.V_far (p := ⟨u2.heap.size,0,none⟩) HV3.out far.out _) far.out _) far.out _) far.out _) far.out _) far.out _) far.out _) lift,Kd.V_mono (Kd.V_far (p := ⟨u2.heap.size,6,none⟩) (Kd.V_far (p := ⟨u2.heap.size,5,none⟩) (Kd.V_far (p := ⟨u2.heap.size,4,none⟩) (Kd.V_far (p := ⟨u2.heap.size,3,none⟩) (Kd.V_far (p := ⟨u2.heap.size,2,none⟩) (Kd.V_far (p := ⟨u2.heap.size,1,none⟩) (Kd.V_far (p := ⟨u2.heap.size,0,none⟩) HV4.out far.out _) far.out _) far.out _) far.out _) far.out _) far.out _) far.out _) lift,(zm (zm (zm (zm (zm (zm (zm HBX.out HLE.out) HLE.out) HLE.out) HLE.out) HLE.out) HLE.out) HLE.out)⟩
end Go.Proofs.Ytndjfdakflaggaa.Px