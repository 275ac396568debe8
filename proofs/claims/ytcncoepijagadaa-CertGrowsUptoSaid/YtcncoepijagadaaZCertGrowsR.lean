/- Part 18 of 24 of the proof of the law CertGrows: what is proved is the statement at the end of the last part; its conditions are those of the given row. -/
import Derived.Test.YtcncoepijagadaaZCertGrowsQ
namespace Go.Proofs.Ytcncoepijagadaa.Px
open Go.RowKit Go.Proofs.YtcncoepijagadaaW.PrintWords Go.Proofs.YtcncoepijagadaaW.PrintLast Go.Proofs.YtcncoepijagadaaW.PrintMore
attribute [local go_sem] zp zr zy zz zl zm zq zs
set_option linter.unusedVariables false
set_option linter.unusedSimpArgs false
mutual
def ze.j0 : Nat → Int → Bool → Int → Int → List (S50) → List ByteArray → Int → Int → Option (Bool)
 | 0,_,_,_,_,_,_,_,_ => none
 | k + 1,x1,x41,x159000,x159001,x159002,x159003,x159004,x159005 => if x41 = true then (some false) else (ze.l0 k x1 0 x159000 x159001 x159002 x159003 x159004 x159005)
def ze.l0 : Nat → Int → Int → Int → Int → List (S50) → List ByteArray → Int → Int → Option (Bool)
 | 0,_,_,_,_,_,_,_,_ => none
 | k + 1,x1,x6,x159000,x159001,x159002,x159003,x159004,x159005 => if x6 < (x159002.length : Int) then (if 0 ≤ x6 then ((zi.f k ((zG x159002 x6).f0) ((zG x159002 x6).f1) ((zG x159002 x6).f2)).bind fun t161 => (if t161 = true then (if ((zG x159002 x6).f0) > x1 then (some false) else (ze.l0 k x1 (wrap64 (x6 + 1)) x159000 x159001 x159002 x159003 x159004 x159005)) else (some false))) else (none)) else (if x159001 = 1 then (ze.j2 k x1 (decide ((x159003.length : Int) > 0)) x159000 x159001 x159002 x159003 x159004 x159005) else (ze.j2 k x1 false x159000 x159001 x159002 x159003 x159004 x159005))
def ze.j2 : Nat → Int → Bool → Int → Int → List (S50) → List ByteArray → Int → Int → Option (Bool)
 | 0,_,_,_,_,_,_,_,_ => none
 | k + 1,x1,x75,x159000,x159001,x159002,x159003,x159004,x159005 => if x75 = true then (some false) else (if x159001 > 1 then ((zQ.f x1).bind fun t163 => (if (x159003.length : Int) < t163 then (ze.j3 k true x159000 x159001 x159002 x159003 x159004 x159005) else (ze.j3 k (decide ((x159003.length : Int) > x1)) x159000 x159001 x159002 x159003 x159004 x159005))) else (ze.j3 k false x159000 x159001 x159002 x159003 x159004 x159005))
def ze.j3 : Nat → Bool → Int → Int → List (S50) → List ByteArray → Int → Int → Option (Bool)
 | 0,_,_,_,_,_,_,_ => none
 | k + 1,x93,x159000,x159001,x159002,x159003,x159004,x159005 => if x93 = true then (some false) else (ze.l1 k 0 x159000 x159001 x159002 x159003 x159004 x159005)
def ze.l1 : Nat → Int → Int → Int → List (S50) → List ByteArray → Int → Int → Option (Bool)
 | 0,_,_,_,_,_,_,_ => none
 | k + 1,x8,x159000,x159001,x159002,x159003,x159004,x159005 => if x8 < (x159003.length : Int) then (if 0 ≤ x8 then (if ((zu ByteArray.empty x159003 x8).size : Int) = 32 then (if x8 > 0 then (if 0 ≤ (wrap64 (x8 - 1)) then (if (wrap64 (x8 - 1)) < (x159003.length : Int) then ((zt.f k (zu ByteArray.empty x159003 (wrap64 (x8 - 1))) (zu ByteArray.empty x159003 x8)).bind fun t169 => (if t169 = true then (ze.l1 k (wrap64 (x8 + 1)) x159000 x159001 x159002 x159003 x159004 x159005) else (some false))) else (none)) else (none)) else (ze.l1 k (wrap64 (x8 + 1)) x159000 x159001 x159002 x159003 x159004 x159005)) else (some false)) else (none)) else ((zY.f x159004 x159005).bind fun t164 => ((zK.f x159001).bind fun t165 => (if t164 = true then (if t165 = true then (some true) else (if x159004 = 0 then (some (x159005 == 0)) else (some false))) else (some false))))
end
def ze.f (k : Nat) (a0_0 : Int) (a0_1 : Int) (l0_2 : List (S50)) (l0_3 : List ByteArray) (a0_4 : Int) (a0_5 : Int) (a1 : Int) : Option (Bool) := (zZ.f a1).bind fun t159 => (if t159 = true then (if a0_0 < 1 then (ze.j0 k a1 true a0_0 a0_1 l0_2 l0_3 a0_4 a0_5) else (if a0_0 > a1 then (ze.j0 k a1 true a0_0 a0_1 l0_2 l0_3 a0_4 a0_5) else (if a0_1 < 1 then (ze.j0 k a1 true a0_0 a0_1 l0_2 l0_3 a0_4 a0_5) else (if a0_1 > 1048576 then (ze.j0 k a1 true a0_0 a0_1 l0_2 l0_3 a0_4 a0_5) else (ze.j0 k a1 (decide ((l0_2.length : Int) > 4)) a0_0 a0_1 l0_2 l0_3 a0_4 a0_5))))) else (ze.j0 k a1 true a0_0 a0_1 l0_2 l0_3 a0_4 a0_5))
set_option maxHeartbeats 8000000 in
set_option maxRecDepth 100000 in
theorem ze.calls (k : Nat) (a0_0 : Int) (a0_1 : Int) (A0_2 : Option Addr) (c0_2 : Nat) (l0_2 : List (S50)) (A0_3 : Option Addr) (c0_3 : Nat) (l0_3 : List ByteArray) (a0_4 : Int) (a0_5 : Int) (a1 : Int) (r : Bool) (w : World) (hr0_2 : Kd.C k50 w A0_2 l0_2.length l0_2) (hc0_2 : l0_2.length ≤ c0_2) (hr0_3 : Kd.C Kd.string w A0_3 l0_3.length l0_3) (hc0_3 : l0_3.length ≤ c0_3) (h : ze.f k a0_0 a0_1 l0_2 l0_3 a0_4 a0_5 a1 = some r) :
  Calls Try.prog 33 #[.agg #[.int .i64 a0_0,.int .i64 a0_1,.slice A0_2 l0_2.length c0_2,.slice A0_3 l0_3.length c0_3,.int .i64 a0_4,.int .i64 a0_5],.int .i64 a1] w fun e w' => e = .returned (.bool r) ∧ Below w.heap.size w w' := by
 have hu28 := Try.underlying28
 have hu50 := Try.underlying50
 have hu26 := Try.underlying26
 have HR0_2 := za.mk hr0_2
 have HC0_2 := za.mk hc0_2
 clear hr0_2 hc0_2
 have HR0_3 := za.mk hr0_3
 have HC0_3 := za.mk hc0_3
 clear hr0_3 hc0_3
 have HB := za.mk (Below.refl w.heap.size w)
 have H : ((zZ.f a1).bind fun t159 => (if t159 = true then (if a0_0 < 1 then (ze.j0 k a1 true a0_0 a0_1 l0_2 l0_3 a0_4 a0_5) else (if a0_0 > a1 then (ze.j0 k a1 true a0_0 a0_1 l0_2 l0_3 a0_4 a0_5) else (if a0_1 < 1 then (ze.j0 k a1 true a0_0 a0_1 l0_2 l0_3 a0_4 a0_5) else (if a0_1 > 1048576 then (ze.j0 k a1 true a0_0 a0_1 l0_2 l0_3 a0_4 a0_5) else (ze.j0 k a1 (decide ((l0_2.length : Int) > 4)) a0_0 a0_1 l0_2 l0_3 a0_4 a0_5))))) else (ze.j0 k a1 true a0_0 a0_1 l0_2 l0_3 a0_4 a0_5))) = some r := h
 clear h
 replace H := Option.bind_eq_some_iff.mp H
 obtain ⟨t159,A30,H⟩ := H
 replace H : (if t159 = true then (if a0_0 < 1 then (ze.j0 k a1 true a0_0 a0_1 l0_2 l0_3 a0_4 a0_5) else (if a0_0 > a1 then (ze.j0 k a1 true a0_0 a0_1 l0_2 l0_3 a0_4 a0_5) else (if a0_1 < 1 then (ze.j0 k a1 true a0_0 a0_1 l0_2 l0_3 a0_4 a0_5) else (if a0_1 > 1048576 then (ze.j0 k a1 true a0_0 a0_1 l0_2 l0_3 a0_4 a0_5) else (ze.j0 k a1 (decide ((l0_2.length : Int) > 4)) a0_0 a0_1 l0_2 l0_3 a0_4 a0_5))))) else (ze.j0 k a1 true a0_0 a0_1 l0_2 l0_3 a0_4 a0_5)) = some r := H
 have A3 := za.mk A30
 clear A30
 have HC4 := za.mk H
 clear H
 go_enter Try.func33,Try.ntmps33
 go_upto_region 2 with (first | ((with_reducible refine zo (N := 2) rfl ?_);(try (refine zcU (by rfl) ?_;dsimp only));refine zk rfl (N := 2) rfl (cs := #[.int .i64 a0_0,.int .i64 a0_1,.slice A0_2 l0_2.length c0_2,.slice A0_3 l0_3.length c0_3,.int .i64 a0_4,.int .i64 a0_5]) (t := 28) hrq ?_;intro gb158 hg w5 hbox hb;have n_ := haq (zd hBq hb) <| haq (hbox) <| haq ((by rw [hg];exact (zf hBq) : w.heap.size ≤ gb158)) <| haq ((by rw [hg];exact (zf hBq) : w.heap.size ≤ gb158)) <| trivial;clear HB;obtain ⟨HB,BK158,GW158,GE158,_⟩ := n_;clear hb hbox hg) | (go_at_call 61;(with_reducible refine (zZ.calls a1 t159 _ A3.out).mono ?_);rintro e w' ⟨rfl,⟨nd,rfl⟩⟩;(try first | exact ⟨rfl,_,World.drewN_drewN _ _ _⟩ | exact ⟨rfl,_,Eq.trans (World.drewN_drewN _ _ _) (congrArg (World.drewN _) (Nat.add_assoc _ _ _))⟩)))
 repeat (go_quiet (first | ((with_reducible refine zo (N := 2) rfl ?_);(try (refine zcU (by rfl) ?_;dsimp only));refine zk rfl (N := 2) rfl (cs := #[.int .i64 a0_0,.int .i64 a0_1,.slice A0_2 l0_2.length c0_2,.slice A0_3 l0_3.length c0_3,.int .i64 a0_4,.int .i64 a0_5]) (t := 28) hrq ?_;intro gb158 hg w5 hbox hb;have n_ := haq (zd hBq hb) <| haq (hbox) <| haq ((by rw [hg];exact (zf hBq) : w.heap.size ≤ gb158)) <| haq ((by rw [hg];exact (zf hBq) : w.heap.size ≤ gb158)) <| trivial;clear HB;obtain ⟨HB,BK158,GW158,GE158,_⟩ := n_;clear hb hbox hg) | (go_at_call 61;(with_reducible refine (zZ.calls a1 t159 _ A3.out).mono ?_);rintro e w' ⟨rfl,⟨nd,rfl⟩⟩;(try first | exact ⟨rfl,_,World.drewN_drewN _ _ _⟩ | exact ⟨rfl,_,Eq.trans (World.drewN_drewN _ _ _) (congrArg (World.drewN _) (Nat.add_assoc _ _ _))⟩)));go_upto_region 2 with (first | ((with_reducible refine zo (N := 2) rfl ?_);(try (refine zcU (by rfl) ?_;dsimp only));refine zk rfl (N := 2) rfl (cs := #[.int .i64 a0_0,.int .i64 a0_1,.slice A0_2 l0_2.length c0_2,.slice A0_3 l0_3.length c0_3,.int .i64 a0_4,.int .i64 a0_5]) (t := 28) hrq ?_;intro gb158 hg w5 hbox hb;have n_ := haq (zd hBq hb) <| haq (hbox) <| haq ((by rw [hg];exact (zf hBq) : w.heap.size ≤ gb158)) <| haq ((by rw [hg];exact (zf hBq) : w.heap.size ≤ gb158)) <| trivial;clear HB;obtain ⟨HB,BK158,GW158,GE158,_⟩ := n_;clear hb hbox hg) | (go_at_call 61;(with_reducible refine (zZ.calls a1 t159 _ A3.out).mono ?_);rintro e w' ⟨rfl,⟨nd,rfl⟩⟩;(try first | exact ⟨rfl,_,World.drewN_drewN _ _ _⟩ | exact ⟨rfl,_,Eq.trans (World.drewN_drewN _ _ _) (congrArg (World.drewN _) (Nat.add_assoc _ _ _))⟩))))
 (try simp only [Act.put,List.setIfInBounds_toArray,List.set_cons_zero,List.set_cons_succ])
 go_cut [41] (fun v41 wc => ∃ (kq : Nat) (x41_3 : Bool),v41 = .bool x41_3 ∧ za (ze.j0 kq a1 x41_3 a0_0 a0_1 l0_2 l0_3 a0_4 a0_5 = some r) ∧ za (kq ≤ k) ∧ za (wc.heap[gb158]? = some (.cells #[.int .i64 a0_0,.int .i64 a0_1,(.slice A0_2 l0_2.length c0_2),(.slice A0_3 l0_3.length c0_3),.int .i64 a0_4,.int .i64 a0_5] 28 (0,0))) ∧ za (Below w.heap.size w wc))
 case first =>
  have H := HC4.out
  clear HC4
  by_cases c6 : t159 = true
  ·subst c6
   have H1 : (if a0_0 < 1 then (ze.j0 k a1 true a0_0 a0_1 l0_2 l0_3 a0_4 a0_5) else (if a0_0 > a1 then (ze.j0 k a1 true a0_0 a0_1 l0_2 l0_3 a0_4 a0_5) else (if a0_1 < 1 then (ze.j0 k a1 true a0_0 a0_1 l0_2 l0_3 a0_4 a0_5) else (if a0_1 > 1048576 then (ze.j0 k a1 true a0_0 a0_1 l0_2 l0_3 a0_4 a0_5) else (ze.j0 k a1 (decide ((l0_2.length : Int) > 4)) a0_0 a0_1 l0_2 l0_3 a0_4 a0_5))))) = some r := by rw [if_pos rfl] at H;exact H
   clear H
   have H := H1
   clear H1
   by_cases c7 : a0_0 < 1
   ·rw [if_pos c7] at H
    have c7b0 : decide (a0_0 < 1) = true := decide_eq_true c7
    clear c7
    (first | rw [c7b0] | (simp only [zaB,zaL];rw [c7b0]) | skip)
    have H' := za.mk H
    clear H
    obtain ⟨hcz8_0,hcz8_1,hcz8_2,hcz8_3,hcz8_4,hcz8_5,hfz8_0,hfz8_1,hfz8_2,hfz8_3,hfz8_4,hfz8_5⟩ := hcq6 BK158.out
    go_wp2
    repeat (go_quiet (fail);try go_wp2)
    go_meet
    case rel => exact ⟨_,(true),(hDq),H',⟨by first | omega | exact Nat.le_refl _⟩,⟨hGq BK158.out⟩,⟨by repeat (first | (with_reducible first | exact HB.out | apply zw | apply zg | apply zn | refine zE ?_ GE158.out) | exact HB.out)⟩⟩
   ·rw [if_neg c7] at H
    have c7b0 : decide (a0_0 < 1) = false := decide_eq_false c7
    clear c7
    (first | rw [c7b0] | (simp only [zaB,zaL];rw [c7b0]) | skip)
    by_cases c9 : a0_0 > a1
    ·rw [if_pos c9] at H
     have c9b0 : decide (a1 < a0_0) = true := decide_eq_true c9
     clear c9
     have H' := za.mk H
     clear H
     obtain ⟨hcz10_0,hcz10_1,hcz10_2,hcz10_3,hcz10_4,hcz10_5,hfz10_0,hfz10_1,hfz10_2,hfz10_3,hfz10_4,hfz10_5⟩ := hcq6 BK158.out
     go_wp2
     repeat (go_quiet (fail);try go_wp2)
     go_meet
     case rel => exact ⟨_,(true),(hDq),H',⟨by first | omega | exact Nat.le_refl _⟩,⟨hGq BK158.out⟩,⟨by repeat (first | (with_reducible first | exact HB.out | apply zw | apply zg | apply zn | refine zE ?_ GE158.out) | exact HB.out)⟩⟩
    ·rw [if_neg c9] at H
     have c9b0 : decide (a1 < a0_0) = false := decide_eq_false c9
     clear c9
     by_cases c11 : a0_1 < 1
     ·rw [if_pos c11] at H
      have c11b0 : decide (a0_1 < 1) = true := decide_eq_true c11
      clear c11
      have H' := za.mk H
      clear H
      obtain ⟨hcz12_0,hcz12_1,hcz12_2,hcz12_3,hcz12_4,hcz12_5,hfz12_0,hfz12_1,hfz12_2,hfz12_3,hfz12_4,hfz12_5⟩ := hcq6 BK158.out
      go_wp2
      repeat (go_quiet (fail);try go_wp2)
      go_meet
      case rel => exact ⟨_,(true),(hDq),H',⟨by first | omega | exact Nat.le_refl _⟩,⟨hGq BK158.out⟩,⟨by repeat (first | (with_reducible first | exact HB.out | apply zw | apply zg | apply zn | refine zE ?_ GE158.out) | exact HB.out)⟩⟩
     ·rw [if_neg c11] at H
      have c11b0 : decide (a0_1 < 1) = false := decide_eq_false c11
      clear c11
      by_cases c13 : a0_1 > 1048576
      ·rw [if_pos c13] at H
       have c13b0 : decide (1048576 < a0_1) = true := decide_eq_true c13
       clear c13
       have H' := za.mk H
       clear H
       obtain ⟨hcz14_0,hcz14_1,hcz14_2,hcz14_3,hcz14_4,hcz14_5,hfz14_0,hfz14_1,hfz14_2,hfz14_3,hfz14_4,hfz14_5⟩ := hcq6 BK158.out
       go_wp2
       repeat (go_quiet (fail);try go_wp2)
       go_meet
       case rel => exact ⟨_,(true),(hDq),H',⟨by first | omega | exact Nat.le_refl _⟩,⟨hGq BK158.out⟩,⟨by repeat (first | (with_reducible first | exact HB.out | apply zw | apply zg | apply zn | refine zE ?_ GE158.out) | exact HB.out)⟩⟩
      ·rw [if_neg c13] at H
       have c13b0 : decide (1048576 < a0_1) = false := decide_eq_false c13
       clear c13
       have H' := za.mk H
       clear H
       obtain ⟨hcz15_0,hcz15_1,hcz15_2,hcz15_3,hcz15_4,hcz15_5,hfz15_0,hfz15_1,hfz15_2,hfz15_3,hfz15_4,hfz15_5⟩ := hcq6 BK158.out
       go_wp2
       repeat (go_quiet (fail);try go_wp2)
       go_meet
       case rel => exact ⟨_,(decide ((l0_2.length : Int) > 4)),(hDq),H',⟨by first | omega | exact Nat.le_refl _⟩,⟨hGq BK158.out⟩,⟨by repeat (first | (with_reducible first | exact HB.out | apply zw | apply zg | apply zn | refine zE ?_ GE158.out) | exact HB.out)⟩⟩
  ·replace c6 := Bool.eq_false_iff.mpr c6
   subst c6
   have H1 : (ze.j0 k a1 true a0_0 a0_1 l0_2 l0_3 a0_4 a0_5) = some r := by rw [if_neg (show ¬ (false = true) by decide)] at H;exact H
   clear H
   have H := H1
   clear H1
   have H' := za.mk H
   clear H
   go_wp2
   repeat (go_quiet (fail);try go_wp2)
   go_meet
   case rel => exact ⟨_,(true),(hDq),H',⟨by first | omega | exact Nat.le_refl _⟩,⟨hGq BK158.out⟩,⟨by repeat (first | (with_reducible first | exact HB.out | apply zw | apply zg | apply zn | refine zE ?_ GE158.out) | exact HB.out)⟩⟩
 case rest =>
  clear HC4
  try clear c1;try clear p2;try clear c3;try clear c6;try clear c7;try clear c7b0;try clear c9;try clear c9b0;try clear c11;try clear c11b0;try clear c13;try clear c13b0;try clear hcz10_0;try clear hcz10_1;try clear hcz10_2;try clear hcz10_3;try clear hcz10_4;try clear hcz10_5;try clear hcz12_0;try clear hcz12_1;try clear hcz12_2;try clear hcz12_3;try clear hcz12_4;try clear hcz12_5;try clear hcz14_0;try clear hcz14_1;try clear hcz14_2;try clear hcz14_3;try clear hcz14_4;try clear hcz14_5;try clear hcz15_0;try clear hcz15_1;try clear hcz15_2;try clear hcz15_3;try clear hcz15_4;try clear hcz15_5;try clear hcz8_0;try clear hcz8_1;try clear hcz8_2;try clear hcz8_3;try clear hcz8_4;try clear hcz8_5;try clear hfz10_0;try clear hfz10_1;try clear hfz10_2;try clear hfz10_3;try clear hfz10_4;try clear hfz10_5;try clear hfz12_0;try clear hfz12_1;try clear hfz12_2;try clear hfz12_3;try clear hfz12_4;try clear hfz12_5;try clear hfz14_0;try clear hfz14_1;try clear hfz14_2;try clear hfz14_3;try clear hfz14_4;try clear hfz14_5;try clear hfz15_0;try clear hfz15_1;try clear hfz15_2;try clear hfz15_3;try clear hfz15_4;try clear hfz15_5;try clear hfz8_0;try clear hfz8_1;try clear hfz8_2;try clear hfz8_3;try clear hfz8_4;try clear hfz8_5
  obtain ⟨kq,x41_3,rfl,HA,HJ3,BK158,HB⟩ := hcut
  cases kq with
  | zero => exact absurd HA.out (by simp [ze.j0])
  | succ kj3 =>
   have H := HA.out
   clear HA
   simp only [ze.j0] at H
   by_cases c16 : x41_3 = true
   ·subst c16
    have H1 : (some false) = some r := by rw [if_pos rfl] at H;exact H
    clear H
    have H := H1
    clear H1
    obtain rfl := Option.some.inj H
    go_wp2
    repeat (go_quiet (fail);try go_wp2)
    go_ret
    exact ⟨hHq,hCq⟩
   ·replace c16 := Bool.eq_false_iff.mpr c16
    subst c16
    have H1 : (ze.l0 kj3 a1 0 a0_0 a0_1 l0_2 l0_3 a0_4 a0_5) = some r := by rw [if_neg (show ¬ (false = true) by decide)] at H;exact H
    clear H
    have H := H1
    clear H1
    have H' := za.mk H
    clear H
    go_wp2
    repeat (go_quiet (fail);try go_wp2)
    go_loopg [6] kj3 (fun kq v6 w' => ∃ (x6_2 : Int),v6 = .int .i64 x6_2 ∧ za (ze.l0 kq a1 x6_2 a0_0 a0_1 l0_2 l0_3 a0_4 a0_5 = some r) ∧ za (kq ≤ kj3) ∧ za (w'.heap[gb158]? = some (.cells #[.int .i64 a0_0,.int .i64 a0_1,(.slice A0_2 l0_2.length c0_2),(.slice A0_3 l0_3.length c0_3),.int .i64 a0_4,.int .i64 a0_5] 28 (0,0))) ∧ za (Below w.heap.size w w'))
    case atStart => exact ⟨(0),(hDq),H',⟨Nat.le_refl _⟩,⟨hGq BK158.out⟩,⟨by repeat (first | (with_reducible first | exact HB.out | apply zw | apply zg | apply zn | refine zE ?_ GE158.out) | exact HB.out)⟩⟩
    case round =>
     clear H'
     try clear c1;try clear p2;try clear c3;try clear c6;try clear c7;try clear c7b0;try clear c9;try clear c9b0;try clear c11;try clear c11b0;try clear c13;try clear c13b0;try clear c16;try clear hcz10_0;try clear hcz10_1;try clear hcz10_2;try clear hcz10_3;try clear hcz10_4;try clear hcz10_5;try clear hcz12_0;try clear hcz12_1;try clear hcz12_2;try clear hcz12_3;try clear hcz12_4;try clear hcz12_5;try clear hcz14_0;try clear hcz14_1;try clear hcz14_2;try clear hcz14_3;try clear hcz14_4;try clear hcz14_5;try clear hcz15_0;try clear hcz15_1;try clear hcz15_2;try clear hcz15_3;try clear hcz15_4;try clear hcz15_5;try clear hcz8_0;try clear hcz8_1;try clear hcz8_2;try clear hcz8_3;try clear hcz8_4;try clear hcz8_5;try clear hfz10_0;try clear hfz10_1;try clear hfz10_2;try clear hfz10_3;try clear hfz10_4;try clear hfz10_5;try clear hfz12_0;try clear hfz12_1;try clear hfz12_2;try clear hfz12_3;try clear hfz12_4;try clear hfz12_5;try clear hfz14_0;try clear hfz14_1;try clear hfz14_2;try clear hfz14_3;try clear hfz14_4;try clear hfz14_5;try clear hfz15_0;try clear hfz15_1;try clear hfz15_2;try clear hfz15_3;try clear hfz15_4;try clear hfz15_5;try clear hfz8_0;try clear hfz8_1;try clear hfz8_2;try clear hfz8_3;try clear hfz8_4;try clear hfz8_5;try clear p2
     obtain ⟨x6_2,rfl,HA,HK2,BK158,HB⟩ := hrel
     cases gk with
     | zero => exact absurd HA.out (by simp [ze.l0])
     | succ k2 =>
      have H := HA.out
      clear HA
      simp only [ze.l0] at H
      by_cases c17 : x6_2 < (l0_2.length : Int)
      ·rw [if_pos c17] at H
       have c17b0 : decide (x6_2 < (l0_2.length : Int)) = true := decide_eq_true c17
       clear c17
       by_cases c18 : 0 ≤ x6_2
       ·rw [if_pos c18] at H
        have c18b0 : decide (0 ≤ x6_2) = true := decide_eq_true c18
        clear c18
        replace H := Option.bind_eq_some_iff.mp H
        obtain ⟨t161,A190,H⟩ := H
        replace H : (if t161 = true then (if ((zG l0_2 x6_2).f0) > a1 then (some false) else (ze.l0 k2 a1 (wrap64 (x6_2 + 1)) a0_0 a0_1 l0_2 l0_3 a0_4 a0_5)) else (some false)) = some r := H
        have A19 := za.mk A190
        clear A190
        by_cases c20 : t161 = true
        ·subst c20
         have H1 : (if ((zG l0_2 x6_2).f0) > a1 then (some false) else (ze.l0 k2 a1 (wrap64 (x6_2 + 1)) a0_0 a0_1 l0_2 l0_3 a0_4 a0_5)) = some r := by rw [if_pos rfl] at H;exact H
         clear H
         have H := H1
         clear H1
         by_cases c21 : ((zG l0_2 x6_2).f0) > a1
         ·rw [if_pos c21] at H
          have c21b0 : decide (a1 < ((zG l0_2 x6_2).f0)) = true := decide_eq_true c21
          clear c21
          obtain rfl := Option.some.inj H
          obtain ⟨hcz22_0,hcz22_1,hcz22_2,hcz22_3,hcz22_4,hcz22_5,hfz22_0,hfz22_1,hfz22_2,hfz22_3,hfz22_4,hfz22_5⟩ := hcq6 BK158.out
          have p160 : 0 ≤ (x6_2 : Int) := hFq
          have q160 : x6_2 < (l0_2.length : Int) := hFq
          obtain ⟨ad160,A160_2,c160_2,e160,hx160_0,hx160_1,hx160_2,hl160_2,hi160_2⟩ := zbZ HR0_2.out x6_2 p160 q160
          cases e160
          replace hx160_0 := (HB.out.cell (World.block_lt_of_cell? w _ hx160_0)).trans hx160_0
          replace hx160_1 := (HB.out.cell (World.block_lt_of_cell? w _ hx160_1)).trans hx160_1
          replace hx160_2 := (HB.out.cell (World.block_lt_of_cell? w _ hx160_2)).trans hx160_2
          have HR160_2 := za.mk hi160_2
          have HC160_2 := za.mk hl160_2
          clear hi160_2 hl160_2
          replace p160 := eq_true p160
          replace q160 := eq_true q160
          go_wp2_with (first | (go_at_call 62;(with_reducible refine (zi.calls k2 ((zG l0_2 x6_2).f0) ((zG l0_2 x6_2).f1) _ _ ((zG l0_2 x6_2).f2) true _ ?side1 ?side2 A19.out).mono ?_);(case side1 => exact hKq (Kd.C_below HR160_2.out HB.out));(case side2 => exact HC160_2.out);rintro e w23 ⟨rfl,hb⟩;have n_ := haq (hbq BK158.out hb) <| haq (zd hCq hb) <| trivial;clear BK158 HB;obtain ⟨BK158,HB,_⟩ := n_;(try clear hb);(try clear hb2);(try clear hk);(try clear hi);obtain ⟨hcz24_0,hcz24_1,hcz24_2,hcz24_3,hcz24_4,hcz24_5,hfz24_0,hfz24_1,hfz24_2,hfz24_3,hfz24_4,hfz24_5⟩ := hcq6 BK158.out;have p162 : 0 ≤ (x6_2 : Int) := hFq;have q162 : x6_2 < (l0_2.length : Int) := hFq;obtain ⟨ad162,A162_2,c162_2,e162,hx162_0,hx162_1,hx162_2,hl162_2,hi162_2⟩ := zbZ HR0_2.out x6_2 p162 q162;obtain rfl : ad160 = ad162 := (by injection e162);replace hx162_0 := (HB.out.cell (World.block_lt_of_cell? w _ hx162_0)).trans hx162_0;replace hx162_1 := (HB.out.cell (World.block_lt_of_cell? w _ hx162_1)).trans hx162_1;replace hx162_2 := (HB.out.cell (World.block_lt_of_cell? w _ hx162_2)).trans hx162_2;have HR162_2 := za.mk hi162_2;have HC162_2 := za.mk hl162_2;clear hi162_2 hl162_2;replace p162 := eq_true p162;replace q162 := eq_true q162))
          repeat (go_quiet (first | (go_at_call 62;(with_reducible refine (zi.calls k2 ((zG l0_2 x6_2).f0) ((zG l0_2 x6_2).f1) _ _ ((zG l0_2 x6_2).f2) true _ ?side1 ?side2 A19.out).mono ?_);(case side1 => exact hKq (Kd.C_below HR160_2.out HB.out));(case side2 => exact HC160_2.out);rintro e w23 ⟨rfl,hb⟩;have n_ := haq (hbq BK158.out hb) <| haq (zd hCq hb) <| trivial;clear BK158 HB;obtain ⟨BK158,HB,_⟩ := n_;(try clear hb);(try clear hb2);(try clear hk);(try clear hi);obtain ⟨hcz24_0,hcz24_1,hcz24_2,hcz24_3,hcz24_4,hcz24_5,hfz24_0,hfz24_1,hfz24_2,hfz24_3,hfz24_4,hfz24_5⟩ := hcq6 BK158.out;have p162 : 0 ≤ (x6_2 : Int) := hFq;have q162 : x6_2 < (l0_2.length : Int) := hFq;obtain ⟨ad162,A162_2,c162_2,e162,hx162_0,hx162_1,hx162_2,hl162_2,hi162_2⟩ := zbZ HR0_2.out x6_2 p162 q162;obtain rfl : ad160 = ad162 := (by injection e162);replace hx162_0 := (HB.out.cell (World.block_lt_of_cell? w _ hx162_0)).trans hx162_0;replace hx162_1 := (HB.out.cell (World.block_lt_of_cell? w _ hx162_1)).trans hx162_1;replace hx162_2 := (HB.out.cell (World.block_lt_of_cell? w _ hx162_2)).trans hx162_2;have HR162_2 := za.mk hi162_2;have HC162_2 := za.mk hl162_2;clear hi162_2 hl162_2;replace p162 := eq_true p162;replace q162 := eq_true q162));try go_wp2_with (first | (go_at_call 62;(with_reducible refine (zi.calls k2 ((zG l0_2 x6_2).f0) ((zG l0_2 x6_2).f1) _ _ ((zG l0_2 x6_2).f2) true _ ?side1 ?side2 A19.out).mono ?_);(case side1 => exact hKq (Kd.C_below HR160_2.out HB.out));(case side2 => exact HC160_2.out);rintro e w23 ⟨rfl,hb⟩;have n_ := haq (hbq BK158.out hb) <| haq (zd hCq hb) <| trivial;clear BK158 HB;obtain ⟨BK158,HB,_⟩ := n_;(try clear hb);(try clear hb2);(try clear hk);(try clear hi);obtain ⟨hcz24_0,hcz24_1,hcz24_2,hcz24_3,hcz24_4,hcz24_5,hfz24_0,hfz24_1,hfz24_2,hfz24_3,hfz24_4,hfz24_5⟩ := hcq6 BK158.out;have p162 : 0 ≤ (x6_2 : Int) := hFq;have q162 : x6_2 < (l0_2.length : Int) := hFq;obtain ⟨ad162,A162_2,c162_2,e162,hx162_0,hx162_1,hx162_2,hl162_2,hi162_2⟩ := zbZ HR0_2.out x6_2 p162 q162;obtain rfl : ad160 = ad162 := (by injection e162);replace hx162_0 := (HB.out.cell (World.block_lt_of_cell? w _ hx162_0)).trans hx162_0;replace hx162_1 := (HB.out.cell (World.block_lt_of_cell? w _ hx162_1)).trans hx162_1;replace hx162_2 := (HB.out.cell (World.block_lt_of_cell? w _ hx162_2)).trans hx162_2;have HR162_2 := za.mk hi162_2;have HC162_2 := za.mk hl162_2;clear hi162_2 hl162_2;replace p162 := eq_true p162;replace q162 := eq_true q162)))
          go_ret
          exact ⟨hHq,hCq⟩
         ·rw [if_neg c21] at H
          have c21b0 : decide (a1 < ((zG l0_2 x6_2).f0)) = false := decide_eq_false c21
          clear c21
          have H' := za.mk H
          clear H
          obtain ⟨hcz25_0,hcz25_1,hcz25_2,hcz25_3,hcz25_4,hcz25_5,hfz25_0,hfz25_1,hfz25_2,hfz25_3,hfz25_4,hfz25_5⟩ := hcq6 BK158.out
          have p160 : 0 ≤ (x6_2 : Int) := hFq
          have q160 : x6_2 < (l0_2.length : Int) := hFq
          obtain ⟨ad160,A160_2,c160_2,e160,hx160_0,hx160_1,hx160_2,hl160_2,hi160_2⟩ := zbZ HR0_2.out x6_2 p160 q160
          cases e160
          replace hx160_0 := (HB.out.cell (World.block_lt_of_cell? w _ hx160_0)).trans hx160_0
          replace hx160_1 := (HB.out.cell (World.block_lt_of_cell? w _ hx160_1)).trans hx160_1
          replace hx160_2 := (HB.out.cell (World.block_lt_of_cell? w _ hx160_2)).trans hx160_2
          have HR160_2 := za.mk hi160_2
          have HC160_2 := za.mk hl160_2
          clear hi160_2 hl160_2
          replace p160 := eq_true p160
          replace q160 := eq_true q160
          go_wp2_with (first | (go_at_call 62;(with_reducible refine (zi.calls k2 ((zG l0_2 x6_2).f0) ((zG l0_2 x6_2).f1) _ _ ((zG l0_2 x6_2).f2) true _ ?side1 ?side2 A19.out).mono ?_);(case side1 => exact hKq (Kd.C_below HR160_2.out HB.out));(case side2 => exact HC160_2.out);rintro e w26 ⟨rfl,hb⟩;have n_ := haq (hbq BK158.out hb) <| haq (zd hCq hb) <| trivial;clear BK158 HB;obtain ⟨BK158,HB,_⟩ := n_;(try clear hb);(try clear hb2);(try clear hk);(try clear hi);obtain ⟨hcz27_0,hcz27_1,hcz27_2,hcz27_3,hcz27_4,hcz27_5,hfz27_0,hfz27_1,hfz27_2,hfz27_3,hfz27_4,hfz27_5⟩ := hcq6 BK158.out;have p162 : 0 ≤ (x6_2 : Int) := hFq;have q162 : x6_2 < (l0_2.length : Int) := hFq;obtain ⟨ad162,A162_2,c162_2,e162,hx162_0,hx162_1,hx162_2,hl162_2,hi162_2⟩ := zbZ HR0_2.out x6_2 p162 q162;obtain rfl : ad160 = ad162 := (by injection e162);replace hx162_0 := (HB.out.cell (World.block_lt_of_cell? w _ hx162_0)).trans hx162_0;replace hx162_1 := (HB.out.cell (World.block_lt_of_cell? w _ hx162_1)).trans hx162_1;replace hx162_2 := (HB.out.cell (World.block_lt_of_cell? w _ hx162_2)).trans hx162_2;have HR162_2 := za.mk hi162_2;have HC162_2 := za.mk hl162_2;clear hi162_2 hl162_2;replace p162 := eq_true p162;replace q162 := eq_true q162))
          repeat (go_quiet (first | (go_at_call 62;(with_reducible refine (zi.calls k2 ((zG l0_2 x6_2).f0) ((zG l0_2 x6_2).f1) _ _ ((zG l0_2 x6_2).f2) true _ ?side1 ?side2 A19.out).mono ?_);(case side1 => exact hKq (Kd.C_below HR160_2.out HB.out));(case side2 => exact HC160_2.out);rintro e w26 ⟨rfl,hb⟩;have n_ := haq (hbq BK158.out hb) <| haq (zd hCq hb) <| trivial;clear BK158 HB;obtain ⟨BK158,HB,_⟩ := n_;(try clear hb);(try clear hb2);(try clear hk);(try clear hi);obtain ⟨hcz27_0,hcz27_1,hcz27_2,hcz27_3,hcz27_4,hcz27_5,hfz27_0,hfz27_1,hfz27_2,hfz27_3,hfz27_4,hfz27_5⟩ := hcq6 BK158.out;have p162 : 0 ≤ (x6_2 : Int) := hFq;have q162 : x6_2 < (l0_2.length : Int) := hFq;obtain ⟨ad162,A162_2,c162_2,e162,hx162_0,hx162_1,hx162_2,hl162_2,hi162_2⟩ := zbZ HR0_2.out x6_2 p162 q162;obtain rfl : ad160 = ad162 := (by injection e162);replace hx162_0 := (HB.out.cell (World.block_lt_of_cell? w _ hx162_0)).trans hx162_0;replace hx162_1 := (HB.out.cell (World.block_lt_of_cell? w _ hx162_1)).trans hx162_1;replace hx162_2 := (HB.out.cell (World.block_lt_of_cell? w _ hx162_2)).trans hx162_2;have HR162_2 := za.mk hi162_2;have HC162_2 := za.mk hl162_2;clear hi162_2 hl162_2;replace p162 := eq_true p162;replace q162 := eq_true q162));try go_wp2_with (first | (go_at_call 62;(with_reducible refine (zi.calls k2 ((zG l0_2 x6_2).f0) ((zG l0_2 x6_2).f1) _ _ ((zG l0_2 x6_2).f2) true _ ?side1 ?side2 A19.out).mono ?_);(case side1 => exact hKq (Kd.C_below HR160_2.out HB.out));(case side2 => exact HC160_2.out);rintro e w26 ⟨rfl,hb⟩;have n_ := haq (hbq BK158.out hb) <| haq (zd hCq hb) <| trivial;clear BK158 HB;obtain ⟨BK158,HB,_⟩ := n_;(try clear hb);(try clear hb2);(try clear hk);(try clear hi);obtain ⟨hcz27_0,hcz27_1,hcz27_2,hcz27_3,hcz27_4,hcz27_5,hfz27_0,hfz27_1,hfz27_2,hfz27_3,hfz27_4,hfz27_5⟩ := hcq6 BK158.out;have p162 : 0 ≤ (x6_2 : Int) := hFq;have q162 : x6_2 < (l0_2.length : Int) := hFq;obtain ⟨ad162,A162_2,c162_2,e162,hx162_0,hx162_1,hx162_2,hl162_2,hi162_2⟩ := zbZ HR0_2.out x6_2 p162 q162;obtain rfl : ad160 = ad162 := (by injection e162);replace hx162_0 := (HB.out.cell (World.block_lt_of_cell? w _ hx162_0)).trans hx162_0;replace hx162_1 := (HB.out.cell (World.block_lt_of_cell? w _ hx162_1)).trans hx162_1;replace hx162_2 := (HB.out.cell (World.block_lt_of_cell? w _ hx162_2)).trans hx162_2;have HR162_2 := za.mk hi162_2;have HC162_2 := za.mk hl162_2;clear hi162_2 hl162_2;replace p162 := eq_true p162;replace q162 := eq_true q162)))
          go_roundg k2
          case measure => have := HJ3.out;have := HK2.out;omega
          case rel => exact ⟨(wrap64 (x6_2 + 1)),(hDq),H',⟨by have := HJ3.out;have := HK2.out;omega⟩,⟨hGq BK158.out⟩,⟨by repeat (first | (with_reducible first | exact HB.out | apply zw | apply zg | apply zn | refine zE ?_ GE158.out) | exact HB.out)⟩⟩
        ·replace c20 := Bool.eq_false_iff.mpr c20
         subst c20
         have H1 : (some false) = some r := by rw [if_neg (show ¬ (false = true) by decide)] at H;exact H
         clear H
         have H := H1
         clear H1
         obtain rfl := Option.some.inj H
         obtain ⟨hcz28_0,hcz28_1,hcz28_2,hcz28_3,hcz28_4,hcz28_5,hfz28_0,hfz28_1,hfz28_2,hfz28_3,hfz28_4,hfz28_5⟩ := hcq6 BK158.out
         have p160 : 0 ≤ (x6_2 : Int) := hFq
         have q160 : x6_2 < (l0_2.length : Int) := hFq
         obtain ⟨ad160,A160_2,c160_2,e160,hx160_0,hx160_1,hx160_2,hl160_2,hi160_2⟩ := zbZ HR0_2.out x6_2 p160 q160
         cases e160
         replace hx160_0 := (HB.out.cell (World.block_lt_of_cell? w _ hx160_0)).trans hx160_0
         replace hx160_1 := (HB.out.cell (World.block_lt_of_cell? w _ hx160_1)).trans hx160_1
         replace hx160_2 := (HB.out.cell (World.block_lt_of_cell? w _ hx160_2)).trans hx160_2
         have HR160_2 := za.mk hi160_2
         have HC160_2 := za.mk hl160_2
         clear hi160_2 hl160_2
         replace p160 := eq_true p160
         replace q160 := eq_true q160
         go_wp2_with (first | (go_at_call 62;(with_reducible refine (zi.calls k2 ((zG l0_2 x6_2).f0) ((zG l0_2 x6_2).f1) _ _ ((zG l0_2 x6_2).f2) false _ ?side1 ?side2 A19.out).mono ?_);(case side1 => exact hKq (Kd.C_below HR160_2.out HB.out));(case side2 => exact HC160_2.out);rintro e w29 ⟨rfl,hb⟩;have n_ := haq (hbq BK158.out hb) <| haq (zd hCq hb) <| trivial;clear BK158 HB;obtain ⟨BK158,HB,_⟩ := n_;(try clear hb);(try clear hb2);(try clear hk);(try clear hi)))
         repeat (go_quiet (first | (go_at_call 62;(with_reducible refine (zi.calls k2 ((zG l0_2 x6_2).f0) ((zG l0_2 x6_2).f1) _ _ ((zG l0_2 x6_2).f2) false _ ?side1 ?side2 A19.out).mono ?_);(case side1 => exact hKq (Kd.C_below HR160_2.out HB.out));(case side2 => exact HC160_2.out);rintro e w29 ⟨rfl,hb⟩;have n_ := haq (hbq BK158.out hb) <| haq (zd hCq hb) <| trivial;clear BK158 HB;obtain ⟨BK158,HB,_⟩ := n_;(try clear hb);(try clear hb2);(try clear hk);(try clear hi)));try go_wp2_with (first | (go_at_call 62;(with_reducible refine (zi.calls k2 ((zG l0_2 x6_2).f0) ((zG l0_2 x6_2).f1) _ _ ((zG l0_2 x6_2).f2) false _ ?side1 ?side2 A19.out).mono ?_);(case side1 => exact hKq (Kd.C_below HR160_2.out HB.out));(case side2 => exact HC160_2.out);rintro e w29 ⟨rfl,hb⟩;have n_ := haq (hbq BK158.out hb) <| haq (zd hCq hb) <| trivial;clear BK158 HB;obtain ⟨BK158,HB,_⟩ := n_;(try clear hb);(try clear hb2);(try clear hk);(try clear hi))))
         go_ret
         exact ⟨hHq,hCq⟩
       ·rw [if_neg c18] at H
        exact absurd H (by simp)
      ·rw [if_neg c17] at H
       have c17b0 : decide (x6_2 < (l0_2.length : Int)) = false := decide_eq_false c17
       clear c17
       have HC30 := za.mk H
       clear H
       obtain ⟨hcz31_0,hcz31_1,hcz31_2,hcz31_3,hcz31_4,hcz31_5,hfz31_0,hfz31_1,hfz31_2,hfz31_3,hfz31_4,hfz31_5⟩ := hcq6 BK158.out
       go_upto_region 10 with (fail)
       repeat (go_quiet (fail);go_upto_region 10 with (fail))
       go_cut [75] (fun v75 wc => ∃ (kq : Nat) (x75_29 : Bool),v75 = .bool x75_29 ∧ za (ze.j2 kq a1 x75_29 a0_0 a0_1 l0_2 l0_3 a0_4 a0_5 = some r) ∧ za (kq ≤ k2) ∧ za (wc.heap[gb158]? = some (.cells #[.int .i64 a0_0,.int .i64 a0_1,(.slice A0_2 l0_2.length c0_2),(.slice A0_3 l0_3.length c0_3),.int .i64 a0_4,.int .i64 a0_5] 28 (0,0))) ∧ za (Below w.heap.size w wc))
       case first =>
        have H := HC30.out
        clear HC30
        by_cases c32 : a0_1 = 1
        ·rw [if_pos c32] at H
         have c32b0 : (a0_1 == 1) = true := beq_iff_eq.mpr c32
         have c32b1 : (a0_1 != 1) = false := bne_eq_false_iff_eq.mpr c32
         clear c32
         (first | rw [c32b0] | (simp only [zaB,zaL];rw [c32b0]) | skip)
         have H' := za.mk H
         clear H
         obtain ⟨hcz33_0,hcz33_1,hcz33_2,hcz33_3,hcz33_4,hcz33_5,hfz33_0,hfz33_1,hfz33_2,hfz33_3,hfz33_4,hfz33_5⟩ := hcq6 BK158.out
         go_wp2
         repeat (go_quiet (fail);try go_wp2)
         go_meet
         case rel => exact ⟨_,(decide ((l0_3.length : Int) > 0)),(hDq),H',⟨by have := HJ3.out;have := HK2.out;first | omega | exact Nat.le_refl _⟩,⟨hGq BK158.out⟩,⟨by repeat (first | (with_reducible first | exact HB.out | apply zw | apply zg | apply zn | refine zE ?_ GE158.out) | exact HB.out)⟩⟩
        ·rw [if_neg c32] at H
         have c32b0 : (a0_1 == 1) = false := beq_eq_false_iff_ne.mpr c32
         have c32b1 : (a0_1 != 1) = true := bne_iff_ne.mpr c32
         (first | rw [c32b0] | (simp only [zaB,zaL];rw [c32b0]) | skip)
         have H' := za.mk H
         clear H
         obtain ⟨hcz34_0,hcz34_1,hcz34_2,hcz34_3,hcz34_4,hcz34_5,hfz34_0,hfz34_1,hfz34_2,hfz34_3,hfz34_4,hfz34_5⟩ := hcq6 BK158.out
         go_wp2
         repeat (go_quiet (fail);try go_wp2)
         go_meet
         case rel => exact ⟨_,(false),(hDq),H',⟨by have := HJ3.out;have := HK2.out;first | omega | exact Nat.le_refl _⟩,⟨hGq BK158.out⟩,⟨by repeat (first | (with_reducible first | exact HB.out | apply zw | apply zg | apply zn | refine zE ?_ GE158.out) | exact HB.out)⟩⟩
       case rest =>
        clear HC30
        try clear c1;try clear p1;try clear q1;try clear hx1;try clear c2;try clear p2;try clear c3;try clear c6;try clear p6;try clear c7;try clear c7b0;try clear c9;try clear c9b0;try clear c11;try clear c11b0;try clear c13;try clear c13b0;try clear c16;try clear p16;try clear q16;try clear hx16;try clear c17;try clear c17b0;try clear c18;try clear c18b0;try clear c20;try clear c21;try clear c21b0;try clear c32;try clear c32b0;try clear c32b1;try clear c33;try clear hcz10_0;try clear hcz10_1;try clear hcz10_2;try clear hcz10_3;try clear hcz10_4;try clear hcz10_5;try clear hcz12_0;try clear hcz12_1;try clear hcz12_2;try clear hcz12_3;try clear hcz12_4;try clear hcz12_5;try clear hcz14_0;try clear hcz14_1;try clear hcz14_2;try clear hcz14_3;try clear hcz14_4;try clear hcz14_5;try clear hcz15_0;try clear hcz15_1;try clear hcz15_2;try clear hcz15_3;try clear hcz15_4;try clear hcz15_5;try clear hcz22_0;try clear hcz22_1;try clear hcz22_2;try clear hcz22_3;try clear hcz22_4;try clear hcz22_5;try clear hcz24_0;try clear hcz24_1;try clear hcz24_2;try clear hcz24_3;try clear hcz24_4;try clear hcz24_5;try clear hcz25_0;try clear hcz25_1;try clear hcz25_2;try clear hcz25_3;try clear hcz25_4;try clear hcz25_5;try clear hcz27_0;try clear hcz27_1;try clear hcz27_2;try clear hcz27_3;try clear hcz27_4;try clear hcz27_5;try clear hcz28_0;try clear hcz28_1;try clear hcz28_2;try clear hcz28_3;try clear hcz28_4;try clear hcz28_5;try clear hcz31_0;try clear hcz31_1;try clear hcz31_2;try clear hcz31_3;try clear hcz31_4;try clear hcz31_5;try clear hcz33_0;try clear hcz33_1;try clear hcz33_2;try clear hcz33_3;try clear hcz33_4;try clear hcz33_5;try clear hcz34_0;try clear hcz34_1;try clear hcz34_2;try clear hcz34_3;try clear hcz34_4;try clear hcz34_5;try clear hcz8_0;try clear hcz8_1;try clear hcz8_2;try clear hcz8_3;try clear hcz8_4;try clear hcz8_5;try clear hfz10_0;try clear hfz10_1;try clear hfz10_2;try clear hfz10_3;try clear hfz10_4;try clear hfz10_5;try clear hfz12_0;try clear hfz12_1;try clear hfz12_2;try clear hfz12_3;try clear hfz12_4;try clear hfz12_5;try clear hfz14_0;try clear hfz14_1;try clear hfz14_2;try clear hfz14_3;try clear hfz14_4;try clear hfz14_5;try clear hfz15_0;try clear hfz15_1;try clear hfz15_2;try clear hfz15_3;try clear hfz15_4;try clear hfz15_5;try clear hfz22_0;try clear hfz22_1;try clear hfz22_2;try clear hfz22_3;try clear hfz22_4;try clear hfz22_5;try clear hfz24_0;try clear hfz24_1;try clear hfz24_2;try clear hfz24_3;try clear hfz24_4;try clear hfz24_5;try clear hfz25_0;try clear hfz25_1;try clear hfz25_2;try clear hfz25_3;try clear hfz25_4;try clear hfz25_5;try clear hfz27_0;try clear hfz27_1;try clear hfz27_2;try clear hfz27_3;try clear hfz27_4;try clear hfz27_5;try clear hfz28_0;try clear hfz28_1;try clear hfz28_2;try clear hfz28_3;try clear hfz28_4;try clear hfz28_5;try clear hfz31_0;try clear hfz31_1;try clear hfz31_2;try clear hfz31_3;try clear hfz31_4;try clear hfz31_5;try clear hfz33_0;try clear hfz33_1;try clear hfz33_2;try clear hfz33_3;try clear hfz33_4;try clear hfz33_5;try clear hfz34_0;try clear hfz34_1;try clear hfz34_2;try clear hfz34_3;try clear hfz34_4;try clear hfz34_5;try clear hfz8_0;try clear hfz8_1;try clear hfz8_2;try clear hfz8_3;try clear hfz8_4;try clear hfz8_5;try clear hx160_0;try clear hx160_1;try clear hx160_2;try clear hx162_0;try clear hx162_1;try clear hx162_2;try clear p160;try clear p162;try clear p2;try clear q160;try clear q162
        obtain ⟨kq,x75_29,rfl,HA,HJ29,BK158,HB⟩ := hcut
        cases kq with
        | zero => exact absurd HA.out (by simp [ze.j2])
        | succ kj29 =>
         have H := HA.out
         clear HA
         simp only [ze.j2] at H
         by_cases c35 : x75_29 = true
         ·subst c35
          have H1 : (some false) = some r := by rw [if_pos rfl] at H;exact H
          clear H
          have H := H1
          clear H1
          obtain rfl := Option.some.inj H
          go_wp2
          repeat (go_quiet (fail);try go_wp2)
          go_ret
          exact ⟨hHq,hCq⟩
         ·replace c35 := Bool.eq_false_iff.mpr c35
          subst c35
          have H1 : (if a0_1 > 1 then ((zQ.f a1).bind fun t163 => (if (l0_3.length : Int) < t163 then (ze.j3 kj29 true a0_0 a0_1 l0_2 l0_3 a0_4 a0_5) else (ze.j3 kj29 (decide ((l0_3.length : Int) > a1)) a0_0 a0_1 l0_2 l0_3 a0_4 a0_5))) else (ze.j3 kj29 false a0_0 a0_1 l0_2 l0_3 a0_4 a0_5)) = some r := by rw [if_neg (show ¬ (false = true) by decide)] at H;exact H
          clear H
          have H := H1
          clear H1
          have HC36 := za.mk H
          clear H
          go_upto_region 12 with (fail)
          repeat (go_quiet (fail);go_upto_region 12 with (fail))
          go_cut [93] (fun v93 wc => ∃ (kq : Nat) (x93_35 : Bool),v93 = .bool x93_35 ∧ za (ze.j3 kq x93_35 a0_0 a0_1 l0_2 l0_3 a0_4 a0_5 = some r) ∧ za (kq ≤ kj29) ∧ za (wc.heap[gb158]? = some (.cells #[.int .i64 a0_0,.int .i64 a0_1,(.slice A0_2 l0_2.length c0_2),(.slice A0_3 l0_3.length c0_3),.int .i64 a0_4,.int .i64 a0_5] 28 (0,0))) ∧ za (Below w.heap.size w wc))
          case first =>
           have H := HC36.out
           clear HC36
           by_cases c37 : a0_1 > 1
           ·rw [if_pos c37] at H
            have c37b0 : decide (1 < a0_1) = true := decide_eq_true c37
            clear c37
            (first | rw [c37b0] | (simp only [zaB,zaL];rw [c37b0]) | skip)
            replace H := Option.bind_eq_some_iff.mp H
            obtain ⟨t163,A380,H⟩ := H
            replace H : (if (l0_3.length : Int) < t163 then (ze.j3 kj29 true a0_0 a0_1 l0_2 l0_3 a0_4 a0_5) else (ze.j3 kj29 (decide ((l0_3.length : Int) > a1)) a0_0 a0_1 l0_2 l0_3 a0_4 a0_5)) = some r := H
            have A38 := za.mk A380
            clear A380
            by_cases c39 : (l0_3.length : Int) < t163
            ·rw [if_pos c39] at H
             have c39b0 : decide ((l0_3.length : Int) < t163) = true := decide_eq_true c39
             clear c39
             have H' := za.mk H
             clear H
             obtain ⟨hcz40_0,hcz40_1,hcz40_2,hcz40_3,hcz40_4,hcz40_5,hfz40_0,hfz40_1,hfz40_2,hfz40_3,hfz40_4,hfz40_5⟩ := hcq6 BK158.out
             go_wp2_with (first | (go_at_call 63;(with_reducible refine (zQ.calls a1 t163 _ A38.out).mono ?_);rintro e w' ⟨rfl,⟨nd,rfl⟩⟩;(try first | exact ⟨rfl,_,World.drewN_drewN _ _ _⟩ | exact ⟨rfl,_,Eq.trans (World.drewN_drewN _ _ _) (congrArg (World.drewN _) (Nat.add_assoc _ _ _))⟩)))
             repeat (go_quiet (first | (go_at_call 63;(with_reducible refine (zQ.calls a1 t163 _ A38.out).mono ?_);rintro e w' ⟨rfl,⟨nd,rfl⟩⟩;(try first | exact ⟨rfl,_,World.drewN_drewN _ _ _⟩ | exact ⟨rfl,_,Eq.trans (World.drewN_drewN _ _ _) (congrArg (World.drewN _) (Nat.add_assoc _ _ _))⟩)));try go_wp2_with (first | (go_at_call 63;(with_reducible refine (zQ.calls a1 t163 _ A38.out).mono ?_);rintro e w' ⟨rfl,⟨nd,rfl⟩⟩;(try first | exact ⟨rfl,_,World.drewN_drewN _ _ _⟩ | exact ⟨rfl,_,Eq.trans (World.drewN_drewN _ _ _) (congrArg (World.drewN _) (Nat.add_assoc _ _ _))⟩))))
             go_meet
             case rel => exact ⟨_,(true),(hDq),H',⟨by have := HJ3.out;have := HK2.out;have := HJ29.out;first | omega | exact Nat.le_refl _⟩,⟨hGq BK158.out⟩,⟨by repeat (first | (with_reducible first | exact HB.out | apply zw | apply zg | apply zn | refine zE ?_ GE158.out) | exact HB.out)⟩⟩
            ·rw [if_neg c39] at H
             have c39b0 : decide ((l0_3.length : Int) < t163) = false := decide_eq_false c39
             clear c39
             have H' := za.mk H
             clear H
             obtain ⟨hcz41_0,hcz41_1,hcz41_2,hcz41_3,hcz41_4,hcz41_5,hfz41_0,hfz41_1,hfz41_2,hfz41_3,hfz41_4,hfz41_5⟩ := hcq6 BK158.out
             go_wp2_with (first | (go_at_call 63;(with_reducible refine (zQ.calls a1 t163 _ A38.out).mono ?_);rintro e w' ⟨rfl,⟨nd,rfl⟩⟩;(try first | exact ⟨rfl,_,World.drewN_drewN _ _ _⟩ | exact ⟨rfl,_,Eq.trans (World.drewN_drewN _ _ _) (congrArg (World.drewN _) (Nat.add_assoc _ _ _))⟩)))
             repeat (go_quiet (first | (go_at_call 63;(with_reducible refine (zQ.calls a1 t163 _ A38.out).mono ?_);rintro e w' ⟨rfl,⟨nd,rfl⟩⟩;(try first | exact ⟨rfl,_,World.drewN_drewN _ _ _⟩ | exact ⟨rfl,_,Eq.trans (World.drewN_drewN _ _ _) (congrArg (World.drewN _) (Nat.add_assoc _ _ _))⟩)));try go_wp2_with (first | (go_at_call 63;(with_reducible refine (zQ.calls a1 t163 _ A38.out).mono ?_);rintro e w' ⟨rfl,⟨nd,rfl⟩⟩;(try first | exact ⟨rfl,_,World.drewN_drewN _ _ _⟩ | exact ⟨rfl,_,Eq.trans (World.drewN_drewN _ _ _) (congrArg (World.drewN _) (Nat.add_assoc _ _ _))⟩))))
             go_meet
             case rel => exact ⟨_,(decide ((l0_3.length : Int) > a1)),(hDq),H',⟨by have := HJ3.out;have := HK2.out;have := HJ29.out;first | omega | exact Nat.le_refl _⟩,⟨hGq BK158.out⟩,⟨by repeat (first | (with_reducible first | exact HB.out | apply zw | apply zg | apply zn | refine zE ?_ GE158.out) | exact HB.out)⟩⟩
           ·rw [if_neg c37] at H
            have c37b0 : decide (1 < a0_1) = false := decide_eq_false c37
            clear c37
            (first | rw [c37b0] | (simp only [zaB,zaL];rw [c37b0]) | skip)
            have H' := za.mk H
            clear H
            obtain ⟨hcz42_0,hcz42_1,hcz42_2,hcz42_3,hcz42_4,hcz42_5,hfz42_0,hfz42_1,hfz42_2,hfz42_3,hfz42_4,hfz42_5⟩ := hcq6 BK158.out
            go_wp2
            repeat (go_quiet (fail);try go_wp2)
            go_meet
            case rel => exact ⟨_,(false),(hDq),H',⟨by have := HJ3.out;have := HK2.out;have := HJ29.out;first | omega | exact Nat.le_refl _⟩,⟨hGq BK158.out⟩,⟨by repeat (first | (with_reducible first | exact HB.out | apply zw | apply zg | apply zn | refine zE ?_ GE158.out) | exact HB.out)⟩⟩
          case rest =>
           clear HC36
           try clear c1;try clear p1;try clear q1;try clear hx1;try clear c2;try clear p2;try clear c3;try clear c6;try clear p6;try clear c7;try clear c7b0;try clear c9;try clear c9b0;try clear c11;try clear c11b0;try clear c13;try clear c13b0;try clear c16;try clear p16;try clear q16;try clear hx16;try clear c17;try clear c17b0;try clear c18;try clear c18b0;try clear c20;try clear c21;try clear c21b0;try clear c32;try clear c32b0;try clear c32b1;try clear c33;try clear c35;try clear c37;try clear c37b0;try clear c39;try clear c39b0;try clear hcz10_0;try clear hcz10_1;try clear hcz10_2;try clear hcz10_3;try clear hcz10_4;try clear hcz10_5;try clear hcz12_0;try clear hcz12_1;try clear hcz12_2;try clear hcz12_3;try clear hcz12_4;try clear hcz12_5;try clear hcz14_0;try clear hcz14_1;try clear hcz14_2;try clear hcz14_3;try clear hcz14_4;try clear hcz14_5;try clear hcz15_0;try clear hcz15_1;try clear hcz15_2;try clear hcz15_3;try clear hcz15_4;try clear hcz15_5;try clear hcz22_0;try clear hcz22_1;try clear hcz22_2;try clear hcz22_3;try clear hcz22_4;try clear hcz22_5;try clear hcz24_0;try clear hcz24_1;try clear hcz24_2;try clear hcz24_3;try clear hcz24_4;try clear hcz24_5;try clear hcz25_0;try clear hcz25_1;try clear hcz25_2;try clear hcz25_3;try clear hcz25_4;try clear hcz25_5;try clear hcz27_0;try clear hcz27_1;try clear hcz27_2;try clear hcz27_3;try clear hcz27_4;try clear hcz27_5;try clear hcz28_0;try clear hcz28_1;try clear hcz28_2;try clear hcz28_3;try clear hcz28_4;try clear hcz28_5;try clear hcz31_0;try clear hcz31_1;try clear hcz31_2;try clear hcz31_3;try clear hcz31_4;try clear hcz31_5;try clear hcz33_0;try clear hcz33_1;try clear hcz33_2;try clear hcz33_3;try clear hcz33_4;try clear hcz33_5;try clear hcz34_0;try clear hcz34_1;try clear hcz34_2;try clear hcz34_3;try clear hcz34_4;try clear hcz34_5;try clear hcz40_0;try clear hcz40_1;try clear hcz40_2;try clear hcz40_3;try clear hcz40_4;try clear hcz40_5;try clear hcz41_0;try clear hcz41_1;try clear hcz41_2;try clear hcz41_3;try clear hcz41_4;try clear hcz41_5;try clear hcz42_0;try clear hcz42_1;try clear hcz42_2;try clear hcz42_3;try clear hcz42_4;try clear hcz42_5;try clear hcz8_0;try clear hcz8_1;try clear hcz8_2;try clear hcz8_3;try clear hcz8_4;try clear hcz8_5;try clear hfz10_0;try clear hfz10_1;try clear hfz10_2;try clear hfz10_3;try clear hfz10_4;try clear hfz10_5;try clear hfz12_0;try clear hfz12_1;try clear hfz12_2;try clear hfz12_3;try clear hfz12_4;try clear hfz12_5;try clear hfz14_0;try clear hfz14_1;try clear hfz14_2;try clear hfz14_3;try clear hfz14_4;try clear hfz14_5;try clear hfz15_0;try clear hfz15_1;try clear hfz15_2;try clear hfz15_3;try clear hfz15_4;try clear hfz15_5;try clear hfz22_0;try clear hfz22_1;try clear hfz22_2;try clear hfz22_3;try clear hfz22_4;try clear hfz22_5;try clear hfz24_0;try clear hfz24_1;try clear hfz24_2;try clear hfz24_3;try clear hfz24_4;try clear hfz24_5;try clear hfz25_0;try clear hfz25_1;try clear hfz25_2;try clear hfz25_3;try clear hfz25_4;try clear hfz25_5;try clear hfz27_0;try clear hfz27_1;try clear hfz27_2;try clear hfz27_3;try clear hfz27_4;try clear hfz27_5;try clear hfz28_0;try clear hfz28_1;try clear hfz28_2;try clear hfz28_3;try clear hfz28_4;try clear hfz28_5;try clear hfz31_0;try clear hfz31_1;try clear hfz31_2;try clear hfz31_3;try clear hfz31_4;try clear hfz31_5;try clear hfz33_0;try clear hfz33_1;try clear hfz33_2;try clear hfz33_3;try clear hfz33_4;try clear hfz33_5;try clear hfz34_0;try clear hfz34_1;try clear hfz34_2;try clear hfz34_3;try clear hfz34_4;try clear hfz34_5;try clear hfz40_0;try clear hfz40_1;try clear hfz40_2;try clear hfz40_3;try clear hfz40_4;try clear hfz40_5;try clear hfz41_0;try clear hfz41_1;try clear hfz41_2;try clear hfz41_3;try clear hfz41_4;try clear hfz41_5
           try clear hfz42_0;try clear hfz42_1;try clear hfz42_2;try clear hfz42_3;try clear hfz42_4;try clear hfz42_5;try clear hfz8_0;try clear hfz8_1;try clear hfz8_2;try clear hfz8_3;try clear hfz8_4;try clear hfz8_5;try clear hx160_0;try clear hx160_1;try clear hx160_2;try clear hx162_0;try clear hx162_1;try clear hx162_2;try clear p1;try clear p16;try clear p160;try clear p162;try clear p2;try clear p6;try clear q1;try clear q16;try clear q160;try clear q162
           obtain ⟨kq,x93_35,rfl,HA,HJ35,BK158,HB⟩ := hcut
           cases kq with
           | zero => exact absurd HA.out (by simp [ze.j3])
           | succ kj35 =>
            have H := HA.out
            clear HA
            simp only [ze.j3] at H
            by_cases c43 : x93_35 = true
            ·subst c43
             have H1 : (some false) = some r := by rw [if_pos rfl] at H;exact H
             clear H
             have H := H1
             clear H1
             obtain rfl := Option.some.inj H
             go_wp2
             repeat (go_quiet (fail);try go_wp2)
             go_ret
             exact ⟨hHq,hCq⟩
            ·replace c43 := Bool.eq_false_iff.mpr c43
             subst c43
             have H1 : (ze.l1 kj35 0 a0_0 a0_1 l0_2 l0_3 a0_4 a0_5) = some r := by rw [if_neg (show ¬ (false = true) by decide)] at H;exact H
             clear H
             have H := H1
             clear H1
             have H' := za.mk H
             clear H
             go_wp2
             repeat (go_quiet (fail);try go_wp2)
             go_loopg [8] kj35 (fun kq v8 w' => ∃ (x8_5 : Int),v8 = .int .i64 x8_5 ∧ za (ze.l1 kq x8_5 a0_0 a0_1 l0_2 l0_3 a0_4 a0_5 = some r) ∧ za (kq ≤ kj35) ∧ za (w'.heap[gb158]? = some (.cells #[.int .i64 a0_0,.int .i64 a0_1,(.slice A0_2 l0_2.length c0_2),(.slice A0_3 l0_3.length c0_3),.int .i64 a0_4,.int .i64 a0_5] 28 (0,0))) ∧ za (Below w.heap.size w w'))
             case atStart => exact ⟨(0),(hDq),H',⟨Nat.le_refl _⟩,⟨hGq BK158.out⟩,⟨by repeat (first | (with_reducible first | exact HB.out | apply zw | apply zg | apply zn | refine zE ?_ GE158.out) | exact HB.out)⟩⟩
             case round =>
              clear H'
              try clear c1;try clear p1;try clear q1;try clear hx1;try clear c2;try clear p2;try clear c3;try clear c4;try clear c6;try clear p6;try clear c7;try clear c7b0;try clear c9;try clear c9b0;try clear c11;try clear c11b0;try clear c13;try clear c13b0;try clear c16;try clear p16;try clear q16;try clear hx16;try clear c17;try clear c17b0;try clear c18;try clear c18b0;try clear c20;try clear c21;try clear c21b0;try clear c32;try clear c32b0;try clear c32b1;try clear c33;try clear c35;try clear c37;try clear c37b0;try clear c39;try clear c39b0;try clear c43;try clear hcz10_0;try clear hcz10_1;try clear hcz10_2;try clear hcz10_3;try clear hcz10_4;try clear hcz10_5;try clear hcz12_0;try clear hcz12_1;try clear hcz12_2;try clear hcz12_3;try clear hcz12_4;try clear hcz12_5;try clear hcz14_0;try clear hcz14_1;try clear hcz14_2;try clear hcz14_3;try clear hcz14_4;try clear hcz14_5;try clear hcz15_0;try clear hcz15_1;try clear hcz15_2;try clear hcz15_3;try clear hcz15_4;try clear hcz15_5;try clear hcz22_0;try clear hcz22_1;try clear hcz22_2;try clear hcz22_3;try clear hcz22_4;try clear hcz22_5;try clear hcz24_0;try clear hcz24_1;try clear hcz24_2;try clear hcz24_3;try clear hcz24_4;try clear hcz24_5;try clear hcz25_0;try clear hcz25_1;try clear hcz25_2;try clear hcz25_3;try clear hcz25_4;try clear hcz25_5;try clear hcz27_0;try clear hcz27_1;try clear hcz27_2;try clear hcz27_3;try clear hcz27_4;try clear hcz27_5;try clear hcz28_0;try clear hcz28_1;try clear hcz28_2;try clear hcz28_3;try clear hcz28_4;try clear hcz28_5;try clear hcz31_0;try clear hcz31_1;try clear hcz31_2;try clear hcz31_3;try clear hcz31_4;try clear hcz31_5;try clear hcz33_0;try clear hcz33_1;try clear hcz33_2;try clear hcz33_3;try clear hcz33_4;try clear hcz33_5;try clear hcz34_0;try clear hcz34_1;try clear hcz34_2;try clear hcz34_3;try clear hcz34_4;try clear hcz34_5;try clear hcz40_0;try clear hcz40_1;try clear hcz40_2;try clear hcz40_3;try clear hcz40_4;try clear hcz40_5;try clear hcz41_0;try clear hcz41_1;try clear hcz41_2;try clear hcz41_3;try clear hcz41_4;try clear hcz41_5;try clear hcz42_0;try clear hcz42_1;try clear hcz42_2;try clear hcz42_3;try clear hcz42_4;try clear hcz42_5;try clear hcz8_0;try clear hcz8_1;try clear hcz8_2;try clear hcz8_3;try clear hcz8_4;try clear hcz8_5;try clear hfz10_0;try clear hfz10_1;try clear hfz10_2;try clear hfz10_3;try clear hfz10_4;try clear hfz10_5;try clear hfz12_0;try clear hfz12_1;try clear hfz12_2;try clear hfz12_3;try clear hfz12_4;try clear hfz12_5;try clear hfz14_0;try clear hfz14_1;try clear hfz14_2;try clear hfz14_3;try clear hfz14_4;try clear hfz14_5;try clear hfz15_0;try clear hfz15_1;try clear hfz15_2;try clear hfz15_3;try clear hfz15_4;try clear hfz15_5;try clear hfz22_0;try clear hfz22_1;try clear hfz22_2;try clear hfz22_3;try clear hfz22_4;try clear hfz22_5;try clear hfz24_0;try clear hfz24_1;try clear hfz24_2;try clear hfz24_3;try clear hfz24_4;try clear hfz24_5;try clear hfz25_0;try clear hfz25_1;try clear hfz25_2;try clear hfz25_3;try clear hfz25_4;try clear hfz25_5;try clear hfz27_0;try clear hfz27_1;try clear hfz27_2;try clear hfz27_3;try clear hfz27_4;try clear hfz27_5;try clear hfz28_0;try clear hfz28_1;try clear hfz28_2;try clear hfz28_3;try clear hfz28_4;try clear hfz28_5;try clear hfz31_0;try clear hfz31_1;try clear hfz31_2;try clear hfz31_3;try clear hfz31_4;try clear hfz31_5;try clear hfz33_0;try clear hfz33_1;try clear hfz33_2;try clear hfz33_3;try clear hfz33_4;try clear hfz33_5;try clear hfz34_0;try clear hfz34_1;try clear hfz34_2;try clear hfz34_3;try clear hfz34_4;try clear hfz34_5;try clear hfz40_0;try clear hfz40_1;try clear hfz40_2;try clear hfz40_3;try clear hfz40_4;try clear hfz40_5;try clear hfz41_0;try clear hfz41_1;try clear hfz41_2;try clear hfz41_3;try clear hfz41_4
              try clear hfz41_5;try clear hfz42_0;try clear hfz42_1;try clear hfz42_2;try clear hfz42_3;try clear hfz42_4;try clear hfz42_5;try clear hfz8_0;try clear hfz8_1;try clear hfz8_2;try clear hfz8_3;try clear hfz8_4;try clear hfz8_5;try clear hx160_0;try clear hx160_1;try clear hx160_2;try clear hx162_0;try clear hx162_1;try clear hx162_2;try clear p1;try clear p16;try clear p160;try clear p162;try clear p2;try clear p6;try clear q1;try clear q16;try clear q160;try clear q162
              obtain ⟨x8_5,rfl,HA,HK5,BK158,HB⟩ := hrel
              cases gk with
              | zero => exact absurd HA.out (by simp [ze.l1])
              | succ k5 =>
               have H := HA.out
               clear HA
               simp only [ze.l1] at H
               by_cases c44 : x8_5 < (l0_3.length : Int)
               ·rw [if_pos c44] at H
                have c44b0 : decide (x8_5 < (l0_3.length : Int)) = true := decide_eq_true c44
                clear c44
                by_cases c45 : 0 ≤ x8_5
                ·rw [if_pos c45] at H
                 have c45b0 : decide (0 ≤ x8_5) = true := decide_eq_true c45
                 clear c45
                 by_cases c46 : ((zu ByteArray.empty l0_3 x8_5).size : Int) = 32
                 ·rw [if_pos c46] at H
                  have c46b0 : (((zu ByteArray.empty l0_3 x8_5).size : Int) == 32) = true := beq_iff_eq.mpr c46
                  have c46b1 : (((zu ByteArray.empty l0_3 x8_5).size : Int) != 32) = false := bne_eq_false_iff_eq.mpr c46
                  clear c46
                  by_cases c47 : x8_5 > 0
                  ·rw [if_pos c47] at H
                   have c47b0 : decide (0 < x8_5) = true := decide_eq_true c47
                   clear c47
                   obtain ⟨ji48,hji48⟩ : ∃ j_ : Int,(wrap64 (x8_5 - 1)) = j_ := ⟨_,rfl⟩
                   replace H : (if 0 ≤ (ji48) then (if (ji48) < (l0_3.length : Int) then ((zt.f k5 (zu ByteArray.empty l0_3 (ji48)) (zu ByteArray.empty l0_3 x8_5)).bind fun t169 => (if t169 = true then (ze.l1 k5 (wrap64 (x8_5 + 1)) a0_0 a0_1 l0_2 l0_3 a0_4 a0_5) else (some false))) else (none)) else (none)) = some r := by first | (rw [hji48] at H;exact H) | (simp only [hji48] at H ⊢;exact H)
                   have hji48w : (IntKind.i64.wrap (x8_5 - 1)) = ji48 := (zaB _).trans hji48
                   by_cases c49 : 0 ≤ (ji48)
                   ·rw [if_pos c49] at H
                    have c49b0 : decide (0 ≤ (ji48)) = true := decide_eq_true c49
                    clear c49
                    by_cases c50 : (ji48) < (l0_3.length : Int)
                    ·rw [if_pos c50] at H
                     have c50b0 : decide ((ji48) < (l0_3.length : Int)) = true := decide_eq_true c50
                     clear c50
                     replace H := Option.bind_eq_some_iff.mp H
                     obtain ⟨t169,A510,H⟩ := H
                     replace H : (if t169 = true then (ze.l1 k5 (wrap64 (x8_5 + 1)) a0_0 a0_1 l0_2 l0_3 a0_4 a0_5) else (some false)) = some r := H
                     have A51 := za.mk A510
                     clear A510
                     by_cases c52 : t169 = true
                     ·subst c52
                      have H1 : (ze.l1 k5 (wrap64 (x8_5 + 1)) a0_0 a0_1 l0_2 l0_3 a0_4 a0_5) = some r := by rw [if_pos rfl] at H;exact H
                      clear H
                      have H := H1
                      clear H1
                      have H' := za.mk H
                      clear H
                      obtain ⟨hcz53_0,hcz53_1,hcz53_2,hcz53_3,hcz53_4,hcz53_5,hfz53_0,hfz53_1,hfz53_2,hfz53_3,hfz53_4,hfz53_5⟩ := hcq6 BK158.out
                      have p166 : 0 ≤ (x8_5 : Int) := hFq
                      have q166 : x8_5 < (l0_3.length : Int) := hFq
                      obtain ⟨ad166,e166,hx166_0⟩ := Kd.at_string HR0_3.out x8_5 p166 q166
                      cases e166
                      replace hx166_0 := (HB.out.cell (World.block_lt_of_cell? w _ hx166_0)).trans hx166_0
                      replace p166 := eq_true p166
                      replace q166 := eq_true q166
                      have p167 : 0 ≤ ((ji48) : Int) := hFq
                      have q167 : (ji48) < (l0_3.length : Int) := hFq
                      obtain ⟨ad167,e167,hx167_0⟩ := Kd.at_string HR0_3.out (ji48) p167 q167
                      obtain rfl : ad166 = ad167 := (by injection e167)
                      replace hx167_0 := (HB.out.cell (World.block_lt_of_cell? w _ hx167_0)).trans hx167_0
                      replace p167 := eq_true p167
                      replace q167 := eq_true q167
                      have p168 : 0 ≤ (x8_5 : Int) := hFq
                      have q168 : x8_5 < (l0_3.length : Int) := hFq
                      obtain ⟨ad168,e168,hx168_0⟩ := Kd.at_string HR0_3.out x8_5 p168 q168
                      obtain rfl : ad166 = ad168 := (by injection e168)
                      replace hx168_0 := (HB.out.cell (World.block_lt_of_cell? w _ hx168_0)).trans hx168_0
                      replace p168 := eq_true p168
                      replace q168 := eq_true q168
                      go_wp2_with (first | (go_at_call 32;(with_reducible refine (zt.calls k5 (zu ByteArray.empty l0_3 (ji48)) (zu ByteArray.empty l0_3 x8_5) true _ A51.out).mono ?_);rintro e w' ⟨rfl,⟨nd,rfl⟩⟩;(try first | exact ⟨rfl,_,World.drewN_drewN _ _ _⟩ | exact ⟨rfl,_,Eq.trans (World.drewN_drewN _ _ _) (congrArg (World.drewN _) (Nat.add_assoc _ _ _))⟩)))
                      repeat (go_quiet (first | (go_at_call 32;(with_reducible refine (zt.calls k5 (zu ByteArray.empty l0_3 (ji48)) (zu ByteArray.empty l0_3 x8_5) true _ A51.out).mono ?_);rintro e w' ⟨rfl,⟨nd,rfl⟩⟩;(try first | exact ⟨rfl,_,World.drewN_drewN _ _ _⟩ | exact ⟨rfl,_,Eq.trans (World.drewN_drewN _ _ _) (congrArg (World.drewN _) (Nat.add_assoc _ _ _))⟩)));try go_wp2_with (first | (go_at_call 32;(with_reducible refine (zt.calls k5 (zu ByteArray.empty l0_3 (ji48)) (zu ByteArray.empty l0_3 x8_5) true _ A51.out).mono ?_);rintro e w' ⟨rfl,⟨nd,rfl⟩⟩;(try first | exact ⟨rfl,_,World.drewN_drewN _ _ _⟩ | exact ⟨rfl,_,Eq.trans (World.drewN_drewN _ _ _) (congrArg (World.drewN _) (Nat.add_assoc _ _ _))⟩))))
                      go_roundg k5
                      case measure => have := HJ3.out;have := HK2.out;have := HJ29.out;have := HJ35.out;have := HK5.out;omega
                      case rel => exact ⟨(wrap64 (x8_5 + 1)),(hDq),H',⟨by have := HJ3.out;have := HK2.out;have := HJ29.out;have := HJ35.out;have := HK5.out;omega⟩,⟨hGq BK158.out⟩,⟨by repeat (first | (with_reducible first | exact HB.out | apply zw | apply zg | apply zn | refine zE ?_ GE158.out) | exact HB.out)⟩⟩
                     ·replace c52 := Bool.eq_false_iff.mpr c52
                      subst c52
                      have H1 : (some false) = some r := by rw [if_neg (show ¬ (false = true) by decide)] at H;exact H
                      clear H
                      have H := H1
                      clear H1
                      obtain rfl := Option.some.inj H
                      obtain ⟨hcz54_0,hcz54_1,hcz54_2,hcz54_3,hcz54_4,hcz54_5,hfz54_0,hfz54_1,hfz54_2,hfz54_3,hfz54_4,hfz54_5⟩ := hcq6 BK158.out
                      have p166 : 0 ≤ (x8_5 : Int) := hFq
                      have q166 : x8_5 < (l0_3.length : Int) := hFq
                      obtain ⟨ad166,e166,hx166_0⟩ := Kd.at_string HR0_3.out x8_5 p166 q166
                      cases e166
                      replace hx166_0 := (HB.out.cell (World.block_lt_of_cell? w _ hx166_0)).trans hx166_0
                      replace p166 := eq_true p166
                      replace q166 := eq_true q166
                      have p167 : 0 ≤ ((ji48) : Int) := hFq
                      have q167 : (ji48) < (l0_3.length : Int) := hFq
                      obtain ⟨ad167,e167,hx167_0⟩ := Kd.at_string HR0_3.out (ji48) p167 q167
                      obtain rfl : ad166 = ad167 := (by injection e167)
                      replace hx167_0 := (HB.out.cell (World.block_lt_of_cell? w _ hx167_0)).trans hx167_0
                      replace p167 := eq_true p167
                      replace q167 := eq_true q167
                      have p168 : 0 ≤ (x8_5 : Int) := hFq
                      have q168 : x8_5 < (l0_3.length : Int) := hFq
                      obtain ⟨ad168,e168,hx168_0⟩ := Kd.at_string HR0_3.out x8_5 p168 q168
                      obtain rfl : ad166 = ad168 := (by injection e168)
                      replace hx168_0 := (HB.out.cell (World.block_lt_of_cell? w _ hx168_0)).trans hx168_0
                      replace p168 := eq_true p168
                      replace q168 := eq_true q168
                      go_wp2_with (first | (go_at_call 32;(with_reducible refine (zt.calls k5 (zu ByteArray.empty l0_3 (ji48)) (zu ByteArray.empty l0_3 x8_5) false _ A51.out).mono ?_);rintro e w' ⟨rfl,⟨nd,rfl⟩⟩;(try first | exact ⟨rfl,_,World.drewN_drewN _ _ _⟩ | exact ⟨rfl,_,Eq.trans (World.drewN_drewN _ _ _) (congrArg (World.drewN _) (Nat.add_assoc _ _ _))⟩)))
                      repeat (go_quiet (first | (go_at_call 32;(with_reducible refine (zt.calls k5 (zu ByteArray.empty l0_3 (ji48)) (zu ByteArray.empty l0_3 x8_5) false _ A51.out).mono ?_);rintro e w' ⟨rfl,⟨nd,rfl⟩⟩;(try first | exact ⟨rfl,_,World.drewN_drewN _ _ _⟩ | exact ⟨rfl,_,Eq.trans (World.drewN_drewN _ _ _) (congrArg (World.drewN _) (Nat.add_assoc _ _ _))⟩)));try go_wp2_with (first | (go_at_call 32;(with_reducible refine (zt.calls k5 (zu ByteArray.empty l0_3 (ji48)) (zu ByteArray.empty l0_3 x8_5) false _ A51.out).mono ?_);rintro e w' ⟨rfl,⟨nd,rfl⟩⟩;(try first | exact ⟨rfl,_,World.drewN_drewN _ _ _⟩ | exact ⟨rfl,_,Eq.trans (World.drewN_drewN _ _ _) (congrArg (World.drewN _) (Nat.add_assoc _ _ _))⟩))))
                      go_ret
                      exact ⟨by first | rfl | (simp [zaR,zaS] <;> rfl) | (simp only [← hji48];first | rfl | (simp [zaR,zaS] <;> rfl)) | (simp [*,zaR,zaS] <;> rfl),hCq⟩
                    ·rw [if_neg c50] at H
                     exact absurd H (by simp)
                   ·rw [if_neg c49] at H
                    exact absurd H (by simp)
                  ·rw [if_neg c47] at H
                   have c47b0 : decide (0 < x8_5) = false := decide_eq_false c47
                   clear c47
                   have H' := za.mk H
                   clear H
                   obtain ⟨hcz55_0,hcz55_1,hcz55_2,hcz55_3,hcz55_4,hcz55_5,hfz55_0,hfz55_1,hfz55_2,hfz55_3,hfz55_4,hfz55_5⟩ := hcq6 BK158.out
                   have p166 : 0 ≤ (x8_5 : Int) := hFq
                   have q166 : x8_5 < (l0_3.length : Int) := hFq
                   obtain ⟨ad166,e166,hx166_0⟩ := Kd.at_string HR0_3.out x8_5 p166 q166
                   cases e166
                   replace hx166_0 := (HB.out.cell (World.block_lt_of_cell? w _ hx166_0)).trans hx166_0
                   replace p166 := eq_true p166
                   replace q166 := eq_true q166
                   go_wp2
                   repeat (go_quiet (fail);try go_wp2)
                   go_roundg k5
                   case measure => have := HJ3.out;have := HK2.out;have := HJ29.out;have := HJ35.out;have := HK5.out;omega
                   case rel => exact ⟨(wrap64 (x8_5 + 1)),(hDq),H',⟨by have := HJ3.out;have := HK2.out;have := HJ29.out;have := HJ35.out;have := HK5.out;omega⟩,⟨hGq BK158.out⟩,⟨by repeat (first | (with_reducible first | exact HB.out | apply zw | apply zg | apply zn | refine zE ?_ GE158.out) | exact HB.out)⟩⟩
                 ·rw [if_neg c46] at H
                  have c46b0 : (((zu ByteArray.empty l0_3 x8_5).size : Int) == 32) = false := beq_eq_false_iff_ne.mpr c46
                  have c46b1 : (((zu ByteArray.empty l0_3 x8_5).size : Int) != 32) = true := bne_iff_ne.mpr c46
                  obtain rfl := Option.some.inj H
                  obtain ⟨hcz56_0,hcz56_1,hcz56_2,hcz56_3,hcz56_4,hcz56_5,hfz56_0,hfz56_1,hfz56_2,hfz56_3,hfz56_4,hfz56_5⟩ := hcq6 BK158.out
                  have p166 : 0 ≤ (x8_5 : Int) := hFq
                  have q166 : x8_5 < (l0_3.length : Int) := hFq
                  obtain ⟨ad166,e166,hx166_0⟩ := Kd.at_string HR0_3.out x8_5 p166 q166
                  cases e166
                  replace hx166_0 := (HB.out.cell (World.block_lt_of_cell? w _ hx166_0)).trans hx166_0
                  replace p166 := eq_true p166
                  replace q166 := eq_true q166
                  go_wp2
                  repeat (go_quiet (fail);try go_wp2)
                  go_ret
                  exact ⟨hHq,hCq⟩
                ·rw [if_neg c45] at H
                 exact absurd H (by simp)
               ·rw [if_neg c44] at H
                have c44b0 : decide (x8_5 < (l0_3.length : Int)) = false := decide_eq_false c44
                clear c44
                replace H := Option.bind_eq_some_iff.mp H
                obtain ⟨t164,A570,H⟩ := H
                replace H : ((zK.f a0_1).bind fun t165 => (if t164 = true then (if t165 = true then (some true) else (if a0_4 = 0 then (some (a0_5 == 0)) else (some false))) else (some false))) = some r := H
                have A57 := za.mk A570
                clear A570
                replace H := Option.bind_eq_some_iff.mp H
                obtain ⟨t165,A580,H⟩ := H
                replace H : (if t164 = true then (if t165 = true then (some true) else (if a0_4 = 0 then (some (a0_5 == 0)) else (some false))) else (some false)) = some r := H
                have A58 := za.mk A580
                clear A580
                by_cases c59 : t164 = true
                focus
                 subst c59
                 have H1 : (if t165 = true then (some true) else (if a0_4 = 0 then (some (a0_5 == 0)) else (some false))) = some r := by rw [if_pos rfl] at H;exact H
                 clear H
                 have H := H1
                 clear H1
                 by_cases c60 : t165 = true
                 focus
                  subst c60
                  have H1 : (some true) = some r := by rw [if_pos rfl] at H;exact H
                  clear H
                  have H := H1
                  clear H1
                  obtain rfl := Option.some.inj H
                  obtain ⟨hcz61_0,hcz61_1,hcz61_2,hcz61_3,hcz61_4,hcz61_5,hfz61_0,hfz61_1,hfz61_2,hfz61_3,hfz61_4,hfz61_5⟩ := hcq6 BK158.out
                  have EQ0 := True.intro
                  have EQ1 := True.intro
                 rotate_left
                 focus
                  replace c60 := Bool.eq_false_iff.mpr c60
                  subst c60
                  have H1 : (if a0_4 = 0 then (some (a0_5 == 0)) else (some false)) = some r := by rw [if_neg (show ¬ (false = true) by decide)] at H;exact H
                  clear H
                  have H := H1
                  clear H1
                  by_cases c64 : a0_4 = 0
                  focus
                   rw [if_pos c64] at H
                   have c64b0 : (a0_4 == 0) = true := beq_iff_eq.mpr c64
                   have c64b1 : (a0_4 != 0) = false := bne_eq_false_iff_eq.mpr c64
                   clear c64
                   obtain rfl := Option.some.inj H
                   obtain ⟨hcz65_0,hcz65_1,hcz65_2,hcz65_3,hcz65_4,hcz65_5,hfz65_0,hfz65_1,hfz65_2,hfz65_3,hfz65_4,hfz65_5⟩ := hcq6 BK158.out
                   have EQ0 := True.intro
                   have EQ2 := True.intro
                  rotate_left
                  focus
                   rw [if_neg c64] at H
                   have c64b0 : (a0_4 == 0) = false := beq_eq_false_iff_ne.mpr c64
                   have c64b1 : (a0_4 != 0) = true := bne_iff_ne.mpr c64
                   obtain rfl := Option.some.inj H
                   obtain ⟨hcz68_0,hcz68_1,hcz68_2,hcz68_3,hcz68_4,hcz68_5,hfz68_0,hfz68_1,hfz68_2,hfz68_3,hfz68_4,hfz68_5⟩ := hcq6 BK158.out
                   have EQ0 := True.intro
                   have EQ2 := True.intro
                rotate_left 3
                focus
                 replace c59 := Bool.eq_false_iff.mpr c59
                 subst c59
                 have H1 : (some false) = some r := by rw [if_neg (show ¬ (false = true) by decide)] at H;exact H
                 clear H
                 have H := H1
                 clear H1
                 obtain rfl := Option.some.inj H
                 obtain ⟨hcz71_0,hcz71_1,hcz71_2,hcz71_3,hcz71_4,hcz71_5,hfz71_0,hfz71_1,hfz71_2,hfz71_3,hfz71_4,hfz71_5⟩ := hcq6 BK158.out
                 have EQ3 := True.intro
                all_goals
                 go_wp2_with (first | (have _ := EQ0;(go_at_call 64;(with_reducible refine (zY.calls a0_4 a0_5 true _ A57.out).mono ?_);rintro e wQC64A571 ⟨rfl,hb⟩;have n_ := haq (hbq BK158.out hb) <| haq (zd hCq hb) <| trivial;clear BK158 HB;obtain ⟨BK158,HB,_⟩ := n_;(try clear hb);(try clear hb2);(try clear hk);(try clear hi);obtain ⟨hczQC64A573,hczQC64A574,hczQC64A575,hczQC64A576,hczQC64A577,hczQC64A578,hfzQC64A579,hfzQC64A5710,hfzQC64A5711,hfzQC64A5712,hfzQC64A5713,hfzQC64A5714⟩ := hcq6 BK158.out)) | (have _ := EQ1;(go_at_call 65;(with_reducible refine (zK.calls a0_1 true _ A58.out).mono ?_);rintro e w' ⟨rfl,⟨nd,rfl⟩⟩;(try first | exact ⟨rfl,_,World.drewN_drewN _ _ _⟩ | exact ⟨rfl,_,Eq.trans (World.drewN_drewN _ _ _) (congrArg (World.drewN _) (Nat.add_assoc _ _ _))⟩))) | (have _ := EQ2;(go_at_call 65;(with_reducible refine (zK.calls a0_1 false _ A58.out).mono ?_);rintro e w' ⟨rfl,⟨nd,rfl⟩⟩;(try first | exact ⟨rfl,_,World.drewN_drewN _ _ _⟩ | exact ⟨rfl,_,Eq.trans (World.drewN_drewN _ _ _) (congrArg (World.drewN _) (Nat.add_assoc _ _ _))⟩))) | (have _ := EQ3;(go_at_call 64;(with_reducible refine (zY.calls a0_4 a0_5 false _ A57.out).mono ?_);rintro e wQC64A571 ⟨rfl,hb⟩;have n_ := haq (hbq BK158.out hb) <| haq (zd hCq hb) <| trivial;clear BK158 HB;obtain ⟨BK158,HB,_⟩ := n_;(try clear hb);(try clear hb2);(try clear hk);(try clear hi);obtain ⟨hczQC64A573,hczQC64A574,hczQC64A575,hczQC64A576,hczQC64A577,hczQC64A578,hfzQC64A579,hfzQC64A5710,hfzQC64A5711,hfzQC64A5712,hfzQC64A5713,hfzQC64A5714⟩ := hcq6 BK158.out)) | (have _ := EQ3;(go_at_call 65;(with_reducible refine (zK.calls a0_1 t165 _ A58.out).mono ?_);rintro e w' ⟨rfl,⟨nd,rfl⟩⟩;(try first | exact ⟨rfl,_,World.drewN_drewN _ _ _⟩ | exact ⟨rfl,_,Eq.trans (World.drewN_drewN _ _ _) (congrArg (World.drewN _) (Nat.add_assoc _ _ _))⟩))))
                 first | (have _ := EQ1;repeat (go_quiet (first | (go_at_call 64;(with_reducible refine (zY.calls a0_4 a0_5 true _ A57.out).mono ?_);rintro e wQC64A571 ⟨rfl,hb⟩;have n_ := haq (hbq BK158.out hb) <| haq (zd hCq hb) <| trivial;clear BK158 HB;obtain ⟨BK158,HB,_⟩ := n_;(try clear hb);(try clear hb2);(try clear hk);(try clear hi);obtain ⟨hczQC64A573,hczQC64A574,hczQC64A575,hczQC64A576,hczQC64A577,hczQC64A578,hfzQC64A579,hfzQC64A5710,hfzQC64A5711,hfzQC64A5712,hfzQC64A5713,hfzQC64A5714⟩ := hcq6 BK158.out) | (go_at_call 65;(with_reducible refine (zK.calls a0_1 true _ A58.out).mono ?_);rintro e w' ⟨rfl,⟨nd,rfl⟩⟩;(try first | exact ⟨rfl,_,World.drewN_drewN _ _ _⟩ | exact ⟨rfl,_,Eq.trans (World.drewN_drewN _ _ _) (congrArg (World.drewN _) (Nat.add_assoc _ _ _))⟩)));try go_wp2_with (first | (go_at_call 64;(with_reducible refine (zY.calls a0_4 a0_5 true _ A57.out).mono ?_);rintro e wQC64A571 ⟨rfl,hb⟩;have n_ := haq (hbq BK158.out hb) <| haq (zd hCq hb) <| trivial;clear BK158 HB;obtain ⟨BK158,HB,_⟩ := n_;(try clear hb);(try clear hb2);(try clear hk);(try clear hi);obtain ⟨hczQC64A573,hczQC64A574,hczQC64A575,hczQC64A576,hczQC64A577,hczQC64A578,hfzQC64A579,hfzQC64A5710,hfzQC64A5711,hfzQC64A5712,hfzQC64A5713,hfzQC64A5714⟩ := hcq6 BK158.out) | (go_at_call 65;(with_reducible refine (zK.calls a0_1 true _ A58.out).mono ?_);rintro e w' ⟨rfl,⟨nd,rfl⟩⟩;(try first | exact ⟨rfl,_,World.drewN_drewN _ _ _⟩ | exact ⟨rfl,_,Eq.trans (World.drewN_drewN _ _ _) (congrArg (World.drewN _) (Nat.add_assoc _ _ _))⟩))))) | (have _ := EQ2;repeat (go_quiet (first | (go_at_call 64;(with_reducible refine (zY.calls a0_4 a0_5 true _ A57.out).mono ?_);rintro e wQC64A571 ⟨rfl,hb⟩;have n_ := haq (hbq BK158.out hb) <| haq (zd hCq hb) <| trivial;clear BK158 HB;obtain ⟨BK158,HB,_⟩ := n_;(try clear hb);(try clear hb2);(try clear hk);(try clear hi);obtain ⟨hczQC64A573,hczQC64A574,hczQC64A575,hczQC64A576,hczQC64A577,hczQC64A578,hfzQC64A579,hfzQC64A5710,hfzQC64A5711,hfzQC64A5712,hfzQC64A5713,hfzQC64A5714⟩ := hcq6 BK158.out) | (go_at_call 65;(with_reducible refine (zK.calls a0_1 false _ A58.out).mono ?_);rintro e w' ⟨rfl,⟨nd,rfl⟩⟩;(try first | exact ⟨rfl,_,World.drewN_drewN _ _ _⟩ | exact ⟨rfl,_,Eq.trans (World.drewN_drewN _ _ _) (congrArg (World.drewN _) (Nat.add_assoc _ _ _))⟩)));try go_wp2_with (first | (go_at_call 64;(with_reducible refine (zY.calls a0_4 a0_5 true _ A57.out).mono ?_);rintro e wQC64A571 ⟨rfl,hb⟩;have n_ := haq (hbq BK158.out hb) <| haq (zd hCq hb) <| trivial;clear BK158 HB;obtain ⟨BK158,HB,_⟩ := n_;(try clear hb);(try clear hb2);(try clear hk);(try clear hi);obtain ⟨hczQC64A573,hczQC64A574,hczQC64A575,hczQC64A576,hczQC64A577,hczQC64A578,hfzQC64A579,hfzQC64A5710,hfzQC64A5711,hfzQC64A5712,hfzQC64A5713,hfzQC64A5714⟩ := hcq6 BK158.out) | (go_at_call 65;(with_reducible refine (zK.calls a0_1 false _ A58.out).mono ?_);rintro e w' ⟨rfl,⟨nd,rfl⟩⟩;(try first | exact ⟨rfl,_,World.drewN_drewN _ _ _⟩ | exact ⟨rfl,_,Eq.trans (World.drewN_drewN _ _ _) (congrArg (World.drewN _) (Nat.add_assoc _ _ _))⟩))))) | (have _ := EQ3;repeat (go_quiet (first | (go_at_call 64;(with_reducible refine (zY.calls a0_4 a0_5 false _ A57.out).mono ?_);rintro e wQC64A571 ⟨rfl,hb⟩;have n_ := haq (hbq BK158.out hb) <| haq (zd hCq hb) <| trivial;clear BK158 HB;obtain ⟨BK158,HB,_⟩ := n_;(try clear hb);(try clear hb2);(try clear hk);(try clear hi);obtain ⟨hczQC64A573,hczQC64A574,hczQC64A575,hczQC64A576,hczQC64A577,hczQC64A578,hfzQC64A579,hfzQC64A5710,hfzQC64A5711,hfzQC64A5712,hfzQC64A5713,hfzQC64A5714⟩ := hcq6 BK158.out) | (go_at_call 65;(with_reducible refine (zK.calls a0_1 t165 _ A58.out).mono ?_);rintro e w' ⟨rfl,⟨nd,rfl⟩⟩;(try first | exact ⟨rfl,_,World.drewN_drewN _ _ _⟩ | exact ⟨rfl,_,Eq.trans (World.drewN_drewN _ _ _) (congrArg (World.drewN _) (Nat.add_assoc _ _ _))⟩)));try go_wp2_with (first | (go_at_call 64;(with_reducible refine (zY.calls a0_4 a0_5 false _ A57.out).mono ?_);rintro e wQC64A571 ⟨rfl,hb⟩;have n_ := haq (hbq BK158.out hb) <| haq (zd hCq hb) <| trivial;clear BK158 HB;obtain ⟨BK158,HB,_⟩ := n_;(try clear hb);(try clear hb2);(try clear hk);(try clear hi);obtain ⟨hczQC64A573,hczQC64A574,hczQC64A575,hczQC64A576,hczQC64A577,hczQC64A578,hfzQC64A579,hfzQC64A5710,hfzQC64A5711,hfzQC64A5712,hfzQC64A5713,hfzQC64A5714⟩ := hcq6 BK158.out) | (go_at_call 65;(with_reducible refine (zK.calls a0_1 t165 _ A58.out).mono ?_);rintro e w' ⟨rfl,⟨nd,rfl⟩⟩;(try first | exact ⟨rfl,_,World.drewN_drewN _ _ _⟩ | exact ⟨rfl,_,Eq.trans (World.drewN_drewN _ _ _) (congrArg (World.drewN _) (Nat.add_assoc _ _ _))⟩)))))
                 go_ret
                 exact ⟨hHq,hCq⟩
end Go.Proofs.Ytcncoepijagadaa.Px