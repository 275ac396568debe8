/- Part 6 of 15 of the proof of the law DagStays: what is proved is the statement at the end of the last part; its conditions are those of the given row. -/
import Derived.Test.YtndjfdakflaggaaGreatZDagStaysE
namespace Go.Proofs.YtndjfdakflaggaaGreat.Px
open Go.RowKit Go.Proofs.YtndjfdakflaggaaGreatW.PrintWords Go.Proofs.YtndjfdakflaggaaGreatW.PrintLast Go.Proofs.YtndjfdakflaggaaGreatW.PrintMore
attribute [local go_sem] zA zC zH zI zv zw zB zD
set_option linter.unusedVariables false
set_option linter.unusedSimpArgs false
def zah.f (a0 : Int) : Option (Int) := (zab.f a0).bind fun ya => (if ya = true then (some (wrap64 (a0 - (wrap64 (Int.tdiv (wrap64 (a0 - 1)) 3))))) else (some 0))
set_option maxHeartbeats 8000000 in
set_option maxRecDepth 100000 in
theorem zah.calls (a0 : Int) (r : Int) (w : World) (h : zah.f a0 = some r) :
  Calls Tryz.prog 78 #[.int .i64 a0] w fun e w' => e = .returned (.int .i64 r) ∧ zaZ w w' := by
 have H : ((zab.f a0).bind fun ya => (if ya = true then (some (wrap64 (a0 - (wrap64 (Int.tdiv (wrap64 (a0 - 1)) 3))))) else (some 0))) = some r := h
 clear h
 replace H := Option.bind_eq_some_iff.mp H
 obtain ⟨ya,A20,H⟩ := H
 replace H : (if ya = true then (some (wrap64 (a0 - (wrap64 (Int.tdiv (wrap64 (a0 - 1)) 3))))) else (some 0)) = some r := H
 have A2 := za.mk A20
 clear A20
 by_cases c3 : ya = true
 ·subst c3
  have H1 : (some (wrap64 (a0 - (wrap64 (Int.tdiv (wrap64 (a0 - 1)) 3))))) = some r := by rw [if_pos rfl] at H;exact H
  clear H
  have H := H1
  clear H1
  obtain rfl := Option.some.inj H
  go_enter Tryz.func78,Tryz.ntmps78
  go_wp2_with (first | ((with_reducible refine zQ (f := 21) rfl ?_);refine zaB (some 5) rfl rfl Tryz.func21 (by kernel_rfl) rfl #[.int .i64 a0] rfl hMq ?_;(with_reducible refine (zab.calls a0 true _ A2.out).mono ?_);rintro e w' ⟨rfl,⟨nd,rfl⟩⟩;refine ⟨_,rfl,?_⟩))
  go_ret
  exact ⟨hDq,hEq⟩
 ·replace c3 := Bool.eq_false_iff.mpr c3
  subst c3
  have H1 : (some 0) = some r := by rw [if_neg (show ¬ (false = true) by decide)] at H;exact H
  clear H
  have H := H1
  clear H1
  obtain rfl := Option.some.inj H
  go_enter Tryz.func78,Tryz.ntmps78
  go_wp2_with (first | ((with_reducible refine zQ (f := 21) rfl ?_);refine zaB (some 5) rfl rfl Tryz.func21 (by kernel_rfl) rfl #[.int .i64 a0] rfl hMq ?_;(with_reducible refine (zab.calls a0 false _ A2.out).mono ?_);rintro e w' ⟨rfl,⟨nd,rfl⟩⟩;refine ⟨_,rfl,?_⟩))
  go_ret
  exact ⟨hDq,hEq⟩
def z9.f (a0 : Int) : Option (Bool) := if a0 > 0 then (some ((Int.tmod a0 3) == 0)) else (some false)
set_option maxHeartbeats 8000000 in
set_option maxRecDepth 100000 in
theorem z9.calls (a0 : Int) (r : Bool) (w : World) (h : z9.f a0 = some r) :
  Calls Tryz.prog 81 #[.int .i64 a0] w fun e w' => e = .returned (.bool r) ∧ zaZ w w' := by
 have H : (if a0 > 0 then (some ((Int.tmod a0 3) == 0)) else (some false)) = some r := h
 clear h
 by_cases c2 : a0 > 0
 ·rw [if_pos c2] at H
  have c2b0 : decide (0 < a0) = true := decide_eq_true c2
  clear c2
  obtain rfl := Option.some.inj H
  go_enter Tryz.func81,Tryz.ntmps81
  go_wp2
  go_ret
  exact ⟨hDq,hEq⟩
 ·rw [if_neg c2] at H
  have c2b0 : decide (0 < a0) = false := decide_eq_false c2
  clear c2
  obtain rfl := Option.some.inj H
  go_enter Tryz.func81,Tryz.ntmps81
  go_wp2
  go_ret
  exact ⟨hDq,hEq⟩
mutual
def zj.j0 : Nat → Int → Bool → Int → Int → List (S75) → List ByteArray → Int → Int → Option (Bool)
 | 0,_,_,_,_,_,_,_,_ => none
 | k + 1,x1,x41,yv,yi,yf,ye,yj,yk => if x41 = true then (some false) else (zj.l0 k x1 0 yv yi yf ye yj yk)
def zj.l0 : Nat → Int → Int → Int → Int → List (S75) → List ByteArray → Int → Int → Option (Bool)
 | 0,_,_,_,_,_,_,_,_ => none
 | k + 1,x1,x6,yv,yi,yf,ye,yj,yk => if x6 < (yf.length : Int) then (if 0 ≤ x6 then ((zt.f k ((zO yf x6).f0) ((zO yf x6).f1) ((zO yf x6).f2)).bind fun Yn => (if Yn = true then (if ((zO yf x6).f0) > x1 then (some false) else (zj.l0 k x1 (wrap64 (x6 + 1)) yv yi yf ye yj yk)) else (some false))) else (none)) else (if yi = 1 then (zj.j2 k x1 (decide ((ye.length : Int) > 0)) yv yi yf ye yj yk) else (zj.j2 k x1 false yv yi yf ye yj yk))
def zj.j2 : Nat → Int → Bool → Int → Int → List (S75) → List ByteArray → Int → Int → Option (Bool)
 | 0,_,_,_,_,_,_,_,_ => none
 | k + 1,x1,x75,yv,yi,yf,ye,yj,yk => if x75 = true then (some false) else (if yi > 1 then ((zah.f x1).bind fun yV => (if (ye.length : Int) < yV then (zj.j3 k true yv yi yf ye yj yk) else (zj.j3 k (decide ((ye.length : Int) > x1)) yv yi yf ye yj yk))) else (zj.j3 k false yv yi yf ye yj yk))
def zj.j3 : Nat → Bool → Int → Int → List (S75) → List ByteArray → Int → Int → Option (Bool)
 | 0,_,_,_,_,_,_,_ => none
 | k + 1,x93,yv,yi,yf,ye,yj,yk => if x93 = true then (some false) else (zj.l1 k 0 yv yi yf ye yj yk)
def zj.l1 : Nat → Int → Int → Int → List (S75) → List ByteArray → Int → Int → Option (Bool)
 | 0,_,_,_,_,_,_,_ => none
 | k + 1,x8,yv,yi,yf,ye,yj,yk => if x8 < (ye.length : Int) then (if 0 ≤ x8 then (if ((zz ByteArray.empty ye x8).size : Int) = 32 then (if x8 > 0 then (if 0 ≤ (wrap64 (x8 - 1)) then (if (wrap64 (x8 - 1)) < (ye.length : Int) then ((zG.f k (zz ByteArray.empty ye (wrap64 (x8 - 1))) (zz ByteArray.empty ye x8)).bind fun Yg => (if Yg = true then (zj.l1 k (wrap64 (x8 + 1)) yv yi yf ye yj yk) else (some false))) else (none)) else (none)) else (zj.l1 k (wrap64 (x8 + 1)) yv yi yf ye yj yk)) else (some false)) else (none)) else ((zak.f yj yk).bind fun Ym => ((z9.f yi).bind fun y9 => (if Ym = true then (if y9 = true then (some true) else (if yj = 0 then (some (yk == 0)) else (some false))) else (some false))))
end
def zj.f (k : Nat) (a0_0 : Int) (a0_1 : Int) (l0_2 : List (S75)) (l0_3 : List ByteArray) (a0_4 : Int) (a0_5 : Int) (a1 : Int) : Option (Bool) := (zab.f a1).bind fun Ya => (if Ya = true then (if a0_0 < 1 then (zj.j0 k a1 true a0_0 a0_1 l0_2 l0_3 a0_4 a0_5) else (if a0_0 > a1 then (zj.j0 k a1 true a0_0 a0_1 l0_2 l0_3 a0_4 a0_5) else (if a0_1 < 1 then (zj.j0 k a1 true a0_0 a0_1 l0_2 l0_3 a0_4 a0_5) else (if a0_1 > 1048576 then (zj.j0 k a1 true a0_0 a0_1 l0_2 l0_3 a0_4 a0_5) else (zj.j0 k a1 (decide ((l0_2.length : Int) > 4)) a0_0 a0_1 l0_2 l0_3 a0_4 a0_5))))) else (zj.j0 k a1 true a0_0 a0_1 l0_2 l0_3 a0_4 a0_5))
set_option maxHeartbeats 8000000 in
set_option maxRecDepth 100000 in
theorem zj.calls (k : Nat) (a0_0 : Int) (a0_1 : Int) (A0_2 : Option Addr) (c0_2 : Nat) (l0_2 : List (S75)) (A0_3 : Option Addr) (c0_3 : Nat) (l0_3 : List ByteArray) (a0_4 : Int) (a0_5 : Int) (a1 : Int) (r : Bool) (w : World) (hr0_2 : Kd.C k75 w A0_2 l0_2.length l0_2) (hc0_2 : l0_2.length ≤ c0_2) (hr0_3 : Kd.C Kd.string w A0_3 l0_3.length l0_3) (hc0_3 : l0_3.length ≤ c0_3) (h : zj.f k a0_0 a0_1 l0_2 l0_3 a0_4 a0_5 a1 = some r) :
  Calls Tryz.prog 57 #[.agg #[.int .i64 a0_0,.int .i64 a0_1,.slice A0_2 l0_2.length c0_2,.slice A0_3 l0_3.length c0_3,.int .i64 a0_4,.int .i64 a0_5],.int .i64 a1] w fun e w' => e = .returned (.bool r) ∧ Below w.heap.size w w' := by
 have hu35 := Tryz.underlying35
 have hu75 := Tryz.underlying75
 have hu33 := Tryz.underlying33
 have HR0_2 := za.mk hr0_2
 have HC0_2 := za.mk hc0_2
 clear hr0_2 hc0_2
 have HR0_3 := za.mk hr0_3
 have HC0_3 := za.mk hc0_3
 clear hr0_3 hc0_3
 have HB := za.mk (Below.refl w.heap.size w)
 have H : ((zab.f a1).bind fun Ya => (if Ya = true then (if a0_0 < 1 then (zj.j0 k a1 true a0_0 a0_1 l0_2 l0_3 a0_4 a0_5) else (if a0_0 > a1 then (zj.j0 k a1 true a0_0 a0_1 l0_2 l0_3 a0_4 a0_5) else (if a0_1 < 1 then (zj.j0 k a1 true a0_0 a0_1 l0_2 l0_3 a0_4 a0_5) else (if a0_1 > 1048576 then (zj.j0 k a1 true a0_0 a0_1 l0_2 l0_3 a0_4 a0_5) else (zj.j0 k a1 (decide ((l0_2.length : Int) > 4)) a0_0 a0_1 l0_2 l0_3 a0_4 a0_5))))) else (zj.j0 k a1 true a0_0 a0_1 l0_2 l0_3 a0_4 a0_5))) = some r := h
 clear h
 replace H := Option.bind_eq_some_iff.mp H
 obtain ⟨Ya,A30,H⟩ := H
 replace H : (if Ya = true then (if a0_0 < 1 then (zj.j0 k a1 true a0_0 a0_1 l0_2 l0_3 a0_4 a0_5) else (if a0_0 > a1 then (zj.j0 k a1 true a0_0 a0_1 l0_2 l0_3 a0_4 a0_5) else (if a0_1 < 1 then (zj.j0 k a1 true a0_0 a0_1 l0_2 l0_3 a0_4 a0_5) else (if a0_1 > 1048576 then (zj.j0 k a1 true a0_0 a0_1 l0_2 l0_3 a0_4 a0_5) else (zj.j0 k a1 (decide ((l0_2.length : Int) > 4)) a0_0 a0_1 l0_2 l0_3 a0_4 a0_5))))) else (zj.j0 k a1 true a0_0 a0_1 l0_2 l0_3 a0_4 a0_5)) = some r := H
 have A3 := za.mk A30
 clear A30
 have HC4 := za.mk H
 clear H
 go_enter Tryz.func57,Tryz.ntmps57
 go_upto_region 2 with (first | ((with_reducible refine zq (N := 2) rfl ?_);(try (refine zbq (by rfl) ?_;dsimp only));refine zn rfl (N := 2) rfl (cs := #[.int .i64 a0_0,.int .i64 a0_1,.slice A0_2 l0_2.length c0_2,.slice A0_3 l0_3.length c0_3,.int .i64 a0_4,.int .i64 a0_5]) (t := 35) hrq ?_;intro yL hg w5 hbox hb;have n_ := haq (ze hBq hb) <| haq (hbox) <| haq ((by rw [hg];exact (zh hBq) : w.heap.size ≤ yL)) <| haq ((by rw [hg];exact (zh hBq) : w.heap.size ≤ yL)) <| trivial;clear HB;obtain ⟨HB,ya,Yo,yF,_⟩ := n_;clear hb hbox hg) | (go_at_call 21;(with_reducible refine (zab.calls a1 Ya _ A3.out).mono ?_);rintro e w' ⟨rfl,⟨nd,rfl⟩⟩;(try first | exact ⟨rfl,_,World.drewN_drewN _ _ _⟩ | exact ⟨rfl,_,Eq.trans (World.drewN_drewN _ _ _) (congrArg (World.drewN _) (Nat.add_assoc _ _ _))⟩)))
 repeat (go_quiet (first | ((with_reducible refine zq (N := 2) rfl ?_);(try (refine zbq (by rfl) ?_;dsimp only));refine zn rfl (N := 2) rfl (cs := #[.int .i64 a0_0,.int .i64 a0_1,.slice A0_2 l0_2.length c0_2,.slice A0_3 l0_3.length c0_3,.int .i64 a0_4,.int .i64 a0_5]) (t := 35) hrq ?_;intro yL hg w5 hbox hb;have n_ := haq (ze hBq hb) <| haq (hbox) <| haq ((by rw [hg];exact (zh hBq) : w.heap.size ≤ yL)) <| haq ((by rw [hg];exact (zh hBq) : w.heap.size ≤ yL)) <| trivial;clear HB;obtain ⟨HB,ya,Yo,yF,_⟩ := n_;clear hb hbox hg) | (go_at_call 21;(with_reducible refine (zab.calls a1 Ya _ A3.out).mono ?_);rintro e w' ⟨rfl,⟨nd,rfl⟩⟩;(try first | exact ⟨rfl,_,World.drewN_drewN _ _ _⟩ | exact ⟨rfl,_,Eq.trans (World.drewN_drewN _ _ _) (congrArg (World.drewN _) (Nat.add_assoc _ _ _))⟩)));go_upto_region 2 with (first | ((with_reducible refine zq (N := 2) rfl ?_);(try (refine zbq (by rfl) ?_;dsimp only));refine zn rfl (N := 2) rfl (cs := #[.int .i64 a0_0,.int .i64 a0_1,.slice A0_2 l0_2.length c0_2,.slice A0_3 l0_3.length c0_3,.int .i64 a0_4,.int .i64 a0_5]) (t := 35) hrq ?_;intro yL hg w5 hbox hb;have n_ := haq (ze hBq hb) <| haq (hbox) <| haq ((by rw [hg];exact (zh hBq) : w.heap.size ≤ yL)) <| haq ((by rw [hg];exact (zh hBq) : w.heap.size ≤ yL)) <| trivial;clear HB;obtain ⟨HB,ya,Yo,yF,_⟩ := n_;clear hb hbox hg) | (go_at_call 21;(with_reducible refine (zab.calls a1 Ya _ A3.out).mono ?_);rintro e w' ⟨rfl,⟨nd,rfl⟩⟩;(try first | exact ⟨rfl,_,World.drewN_drewN _ _ _⟩ | exact ⟨rfl,_,Eq.trans (World.drewN_drewN _ _ _) (congrArg (World.drewN _) (Nat.add_assoc _ _ _))⟩))))
 (try simp only [Act.put,List.setIfInBounds_toArray,List.set_cons_zero,List.set_cons_succ])
 go_cut [41] (fun v41 wc => ∃ (kq : Nat) (x41_3 : Bool),v41 = .bool x41_3 ∧ za (zj.j0 kq a1 x41_3 a0_0 a0_1 l0_2 l0_3 a0_4 a0_5 = some r) ∧ za (kq ≤ k) ∧ za (wc.heap[yL]? = some (.cells #[.int .i64 a0_0,.int .i64 a0_1,(.slice A0_2 l0_2.length c0_2),(.slice A0_3 l0_3.length c0_3),.int .i64 a0_4,.int .i64 a0_5] 35 (0,0))) ∧ za (Below w.heap.size w wc))
 case first =>
  have H := HC4.out
  clear HC4
  by_cases c6 : Ya = true
  ·subst c6
   have H1 : (if a0_0 < 1 then (zj.j0 k a1 true a0_0 a0_1 l0_2 l0_3 a0_4 a0_5) else (if a0_0 > a1 then (zj.j0 k a1 true a0_0 a0_1 l0_2 l0_3 a0_4 a0_5) else (if a0_1 < 1 then (zj.j0 k a1 true a0_0 a0_1 l0_2 l0_3 a0_4 a0_5) else (if a0_1 > 1048576 then (zj.j0 k a1 true a0_0 a0_1 l0_2 l0_3 a0_4 a0_5) else (zj.j0 k a1 (decide ((l0_2.length : Int) > 4)) a0_0 a0_1 l0_2 l0_3 a0_4 a0_5))))) = some r := by rw [if_pos rfl] at H;exact H
   clear H
   have H := H1
   clear H1
   by_cases c7 : a0_0 < 1
   ·rw [if_pos c7] at H
    have c7b0 : decide (a0_0 < 1) = true := decide_eq_true c7
    clear c7
    (first | rw [c7b0] | (simp only [zam,zap];rw [c7b0]) | skip)
    have H' := za.mk H
    clear H
    obtain ⟨hcz8_0,hcz8_1,hcz8_2,hcz8_3,hcz8_4,hcz8_5,hfz8_0,hfz8_1,hfz8_2,hfz8_3,hfz8_4,hfz8_5⟩ := hcq6 ya.out
    go_wp2
    repeat (go_quiet (fail);try go_wp2)
    go_meet
    case rel => exact ⟨_,(true),(hDq),H',⟨by first | omega | exact Nat.le_refl _⟩,⟨hGq ya.out⟩,⟨by repeat (first | (with_reducible first | exact HB.out | apply zl | apply zi | apply zp | refine zm ?_ yF.out) | exact HB.out)⟩⟩
   ·rw [if_neg c7] at H
    have c7b0 : decide (a0_0 < 1) = false := decide_eq_false c7
    clear c7
    (first | rw [c7b0] | (simp only [zam,zap];rw [c7b0]) | skip)
    by_cases c9 : a0_0 > a1
    ·rw [if_pos c9] at H
     have c9b0 : decide (a1 < a0_0) = true := decide_eq_true c9
     clear c9
     have H' := za.mk H
     clear H
     obtain ⟨hcz10_0,hcz10_1,hcz10_2,hcz10_3,hcz10_4,hcz10_5,hfz10_0,hfz10_1,hfz10_2,hfz10_3,hfz10_4,hfz10_5⟩ := hcq6 ya.out
     go_wp2
     repeat (go_quiet (fail);try go_wp2)
     go_meet
     case rel => exact ⟨_,(true),(hDq),H',⟨by first | omega | exact Nat.le_refl _⟩,⟨hGq ya.out⟩,⟨by repeat (first | (with_reducible first | exact HB.out | apply zl | apply zi | apply zp | refine zm ?_ yF.out) | exact HB.out)⟩⟩
    ·rw [if_neg c9] at H
     have c9b0 : decide (a1 < a0_0) = false := decide_eq_false c9
     clear c9
     by_cases c11 : a0_1 < 1
     ·rw [if_pos c11] at H
      have c11b0 : decide (a0_1 < 1) = true := decide_eq_true c11
      clear c11
      have H' := za.mk H
      clear H
      obtain ⟨hcz12_0,hcz12_1,hcz12_2,hcz12_3,hcz12_4,hcz12_5,hfz12_0,hfz12_1,hfz12_2,hfz12_3,hfz12_4,hfz12_5⟩ := hcq6 ya.out
      go_wp2
      repeat (go_quiet (fail);try go_wp2)
      go_meet
      case rel => exact ⟨_,(true),(hDq),H',⟨by first | omega | exact Nat.le_refl _⟩,⟨hGq ya.out⟩,⟨by repeat (first | (with_reducible first | exact HB.out | apply zl | apply zi | apply zp | refine zm ?_ yF.out) | exact HB.out)⟩⟩
     ·rw [if_neg c11] at H
      have c11b0 : decide (a0_1 < 1) = false := decide_eq_false c11
      clear c11
      by_cases c13 : a0_1 > 1048576
      ·rw [if_pos c13] at H
       have c13b0 : decide (1048576 < a0_1) = true := decide_eq_true c13
       clear c13
       have H' := za.mk H
       clear H
       obtain ⟨hcz14_0,hcz14_1,hcz14_2,hcz14_3,hcz14_4,hcz14_5,hfz14_0,hfz14_1,hfz14_2,hfz14_3,hfz14_4,hfz14_5⟩ := hcq6 ya.out
       go_wp2
       repeat (go_quiet (fail);try go_wp2)
       go_meet
       case rel => exact ⟨_,(true),(hDq),H',⟨by first | omega | exact Nat.le_refl _⟩,⟨hGq ya.out⟩,⟨by repeat (first | (with_reducible first | exact HB.out | apply zl | apply zi | apply zp | refine zm ?_ yF.out) | exact HB.out)⟩⟩
      ·rw [if_neg c13] at H
       have c13b0 : decide (1048576 < a0_1) = false := decide_eq_false c13
       clear c13
       have H' := za.mk H
       clear H
       obtain ⟨hcz15_0,hcz15_1,hcz15_2,hcz15_3,hcz15_4,hcz15_5,hfz15_0,hfz15_1,hfz15_2,hfz15_3,hfz15_4,hfz15_5⟩ := hcq6 ya.out
       go_wp2
       repeat (go_quiet (fail);try go_wp2)
       go_meet
       case rel => exact ⟨_,(decide ((l0_2.length : Int) > 4)),(hDq),H',⟨by first | omega | exact Nat.le_refl _⟩,⟨hGq ya.out⟩,⟨by repeat (first | (with_reducible first | exact HB.out | apply zl | apply zi | apply zp | refine zm ?_ yF.out) | exact HB.out)⟩⟩
  ·replace c6 := Bool.eq_false_iff.mpr c6
   subst c6
   have H1 : (zj.j0 k a1 true a0_0 a0_1 l0_2 l0_3 a0_4 a0_5) = some r := by rw [if_neg (show ¬ (false = true) by decide)] at H;exact H
   clear H
   have H := H1
   clear H1
   have H' := za.mk H
   clear H
   go_wp2
   repeat (go_quiet (fail);try go_wp2)
   go_meet
   case rel => exact ⟨_,(true),(hDq),H',⟨by first | omega | exact Nat.le_refl _⟩,⟨hGq ya.out⟩,⟨by repeat (first | (with_reducible first | exact HB.out | apply zl | apply zi | apply zp | refine zm ?_ yF.out) | exact HB.out)⟩⟩
 case rest =>
  clear HC4
  try clear c1;try clear p2;try clear c5;try clear c6;try clear c7;try clear c7b0;try clear c9;try clear c9b0;try clear c11;try clear c11b0;try clear c13;try clear c13b0;try clear hcz10_0;try clear hcz10_1;try clear hcz10_2;try clear hcz10_3;try clear hcz10_4;try clear hcz10_5;try clear hcz12_0;try clear hcz12_1;try clear hcz12_2;try clear hcz12_3;try clear hcz12_4;try clear hcz12_5;try clear hcz14_0;try clear hcz14_1;try clear hcz14_2;try clear hcz14_3;try clear hcz14_4;try clear hcz14_5;try clear hcz15_0;try clear hcz15_1;try clear hcz15_2;try clear hcz15_3;try clear hcz15_4;try clear hcz15_5;try clear hcz8_0;try clear hcz8_1;try clear hcz8_2;try clear hcz8_3;try clear hcz8_4;try clear hcz8_5;try clear hfz10_0;try clear hfz10_1;try clear hfz10_2;try clear hfz10_3;try clear hfz10_4;try clear hfz10_5;try clear hfz12_0;try clear hfz12_1;try clear hfz12_2;try clear hfz12_3;try clear hfz12_4;try clear hfz12_5;try clear hfz14_0;try clear hfz14_1;try clear hfz14_2;try clear hfz14_3;try clear hfz14_4;try clear hfz14_5;try clear hfz15_0;try clear hfz15_1;try clear hfz15_2;try clear hfz15_3;try clear hfz15_4;try clear hfz15_5;try clear hfz8_0;try clear hfz8_1;try clear hfz8_2;try clear hfz8_3;try clear hfz8_4;try clear hfz8_5
  obtain ⟨kq,x41_3,rfl,HA,HJ3,ya,HB⟩ := hcut
  cases kq with
  | zero => exact absurd HA.out (by simp [zj.j0])
  | succ kj3 =>
   have H := HA.out
   clear HA
   simp only [zj.j0] at H
   by_cases c16 : x41_3 = true
   ·subst c16
    have H1 : (some false) = some r := by rw [if_pos rfl] at H;exact H
    clear H
    have H := H1
    clear H1
    obtain rfl := Option.some.inj H
    go_wp2
    repeat (go_quiet (fail);try go_wp2)
    go_ret
    exact ⟨hHq,hCq⟩
   ·replace c16 := Bool.eq_false_iff.mpr c16
    subst c16
    have H1 : (zj.l0 kj3 a1 0 a0_0 a0_1 l0_2 l0_3 a0_4 a0_5) = some r := by rw [if_neg (show ¬ (false = true) by decide)] at H;exact H
    clear H
    have H := H1
    clear H1
    have H' := za.mk H
    clear H
    go_wp2
    repeat (go_quiet (fail);try go_wp2)
    go_loopg [6] kj3 (fun kq v6 w' => ∃ (x6_2 : Int),v6 = .int .i64 x6_2 ∧ za (zj.l0 kq a1 x6_2 a0_0 a0_1 l0_2 l0_3 a0_4 a0_5 = some r) ∧ za (kq ≤ kj3) ∧ za (w'.heap[yL]? = some (.cells #[.int .i64 a0_0,.int .i64 a0_1,(.slice A0_2 l0_2.length c0_2),(.slice A0_3 l0_3.length c0_3),.int .i64 a0_4,.int .i64 a0_5] 35 (0,0))) ∧ za (Below w.heap.size w w'))
    case atStart => exact ⟨(0),(hDq),H',⟨Nat.le_refl _⟩,⟨hGq ya.out⟩,⟨by repeat (first | (with_reducible first | exact HB.out | apply zl | apply zi | apply zp | refine zm ?_ yF.out) | exact HB.out)⟩⟩
    case round =>
     clear H'
     try clear c1;try clear p2;try clear c5;try clear c6;try clear c7;try clear c7b0;try clear c9;try clear c9b0;try clear c11;try clear c11b0;try clear c13;try clear c13b0;try clear c16;try clear hcz10_0;try clear hcz10_1;try clear hcz10_2;try clear hcz10_3;try clear hcz10_4;try clear hcz10_5;try clear hcz12_0;try clear hcz12_1;try clear hcz12_2;try clear hcz12_3;try clear hcz12_4;try clear hcz12_5;try clear hcz14_0;try clear hcz14_1;try clear hcz14_2;try clear hcz14_3;try clear hcz14_4;try clear hcz14_5;try clear hcz15_0;try clear hcz15_1;try clear hcz15_2;try clear hcz15_3;try clear hcz15_4;try clear hcz15_5;try clear hcz8_0;try clear hcz8_1;try clear hcz8_2;try clear hcz8_3;try clear hcz8_4;try clear hcz8_5;try clear hfz10_0;try clear hfz10_1;try clear hfz10_2;try clear hfz10_3;try clear hfz10_4;try clear hfz10_5;try clear hfz12_0;try clear hfz12_1;try clear hfz12_2;try clear hfz12_3;try clear hfz12_4;try clear hfz12_5;try clear hfz14_0;try clear hfz14_1;try clear hfz14_2;try clear hfz14_3;try clear hfz14_4;try clear hfz14_5;try clear hfz15_0;try clear hfz15_1;try clear hfz15_2;try clear hfz15_3;try clear hfz15_4;try clear hfz15_5;try clear hfz8_0;try clear hfz8_1;try clear hfz8_2;try clear hfz8_3;try clear hfz8_4;try clear hfz8_5;try clear p2
     obtain ⟨x6_2,rfl,HA,HK2,ya,HB⟩ := hrel
     cases gk with
     | zero => exact absurd HA.out (by simp [zj.l0])
     | succ k2 =>
      have H := HA.out
      clear HA
      simp only [zj.l0] at H
      by_cases c17 : x6_2 < (l0_2.length : Int)
      ·rw [if_pos c17] at H
       have c17b0 : decide (x6_2 < (l0_2.length : Int)) = true := decide_eq_true c17
       clear c17
       by_cases c18 : 0 ≤ x6_2
       ·rw [if_pos c18] at H
        have c18b0 : decide (0 ≤ x6_2) = true := decide_eq_true c18
        clear c18
        replace H := Option.bind_eq_some_iff.mp H
        obtain ⟨Yn,Yr,H⟩ := H
        replace H : (if Yn = true then (if ((zO l0_2 x6_2).f0) > a1 then (some false) else (zj.l0 k2 a1 (wrap64 (x6_2 + 1)) a0_0 a0_1 l0_2 l0_3 a0_4 a0_5)) else (some false)) = some r := H
        have A19 := za.mk Yr
        clear Yr
        by_cases c20 : Yn = true
        ·subst c20
         have H1 : (if ((zO l0_2 x6_2).f0) > a1 then (some false) else (zj.l0 k2 a1 (wrap64 (x6_2 + 1)) a0_0 a0_1 l0_2 l0_3 a0_4 a0_5)) = some r := by rw [if_pos rfl] at H;exact H
         clear H
         have H := H1
         clear H1
         by_cases c21 : ((zO l0_2 x6_2).f0) > a1
         ·rw [if_pos c21] at H
          have c21b0 : decide (a1 < ((zO l0_2 x6_2).f0)) = true := decide_eq_true c21
          clear c21
          obtain rfl := Option.some.inj H
          obtain ⟨hcz22_0,hcz22_1,hcz22_2,hcz22_3,hcz22_4,hcz22_5,hfz22_0,hfz22_1,hfz22_2,hfz22_3,hfz22_4,hfz22_5⟩ := hcq6 ya.out
          have yT : 0 ≤ (x6_2 : Int) := hFq
          have yU : x6_2 < (l0_2.length : Int) := hFq
          obtain ⟨yW,Yh,Yk,Yl,yr,yt,yu,yK,yJ⟩ := zcd HR0_2.out x6_2 yT yU
          cases Yl
          replace yr := (HB.out.cell (World.block_lt_of_cell? w _ yr)).trans yr
          replace yt := (HB.out.cell (World.block_lt_of_cell? w _ yt)).trans yt
          replace yu := (HB.out.cell (World.block_lt_of_cell? w _ yu)).trans yu
          have yE := za.mk yJ
          have yD := za.mk yK
          clear yJ yK
          replace yT := eq_true yT
          replace yU := eq_true yU
          go_wp2_with (first | (go_at_call 77;(with_reducible refine (zt.calls k2 ((zO l0_2 x6_2).f0) ((zO l0_2 x6_2).f1) _ _ ((zO l0_2 x6_2).f2) true _ ?side1 ?side2 A19.out).mono ?_);(case side1 => exact hKq (Kd.C_below yE.out HB.out));(case side2 => exact yD.out);rintro e w23 ⟨rfl,hb⟩;have n_ := haq (hbq ya.out hb) <| haq (ze hCq hb) <| trivial;clear ya HB;obtain ⟨ya,HB,_⟩ := n_;(try clear hb);(try clear hb2);(try clear hk);(try clear hi);obtain ⟨hcz24_0,hcz24_1,hcz24_2,hcz24_3,hcz24_4,hcz24_5,hfz24_0,hfz24_1,hfz24_2,hfz24_3,hfz24_4,hfz24_5⟩ := hcq6 ya.out;have yH : 0 ≤ (x6_2 : Int) := hFq;have yI : x6_2 < (l0_2.length : Int) := hFq;obtain ⟨yO,yX,yZ,y8,yb,yc,yd,yh,yg⟩ := zcd HR0_2.out x6_2 yH yI;obtain rfl : yW = yO := (by injection y8);replace yb := (HB.out.cell (World.block_lt_of_cell? w _ yb)).trans yb;replace yc := (HB.out.cell (World.block_lt_of_cell? w _ yc)).trans yc;replace yd := (HB.out.cell (World.block_lt_of_cell? w _ yd)).trans yd;have yS := za.mk yg;have yR := za.mk yh;clear yg yh;replace yH := eq_true yH;replace yI := eq_true yI))
          repeat (go_quiet (first | (go_at_call 77;(with_reducible refine (zt.calls k2 ((zO l0_2 x6_2).f0) ((zO l0_2 x6_2).f1) _ _ ((zO l0_2 x6_2).f2) true _ ?side1 ?side2 A19.out).mono ?_);(case side1 => exact hKq (Kd.C_below yE.out HB.out));(case side2 => exact yD.out);rintro e w23 ⟨rfl,hb⟩;have n_ := haq (hbq ya.out hb) <| haq (ze hCq hb) <| trivial;clear ya HB;obtain ⟨ya,HB,_⟩ := n_;(try clear hb);(try clear hb2);(try clear hk);(try clear hi);obtain ⟨hcz24_0,hcz24_1,hcz24_2,hcz24_3,hcz24_4,hcz24_5,hfz24_0,hfz24_1,hfz24_2,hfz24_3,hfz24_4,hfz24_5⟩ := hcq6 ya.out;have yH : 0 ≤ (x6_2 : Int) := hFq;have yI : x6_2 < (l0_2.length : Int) := hFq;obtain ⟨yO,yX,yZ,y8,yb,yc,yd,yh,yg⟩ := zcd HR0_2.out x6_2 yH yI;obtain rfl : yW = yO := (by injection y8);replace yb := (HB.out.cell (World.block_lt_of_cell? w _ yb)).trans yb;replace yc := (HB.out.cell (World.block_lt_of_cell? w _ yc)).trans yc;replace yd := (HB.out.cell (World.block_lt_of_cell? w _ yd)).trans yd;have yS := za.mk yg;have yR := za.mk yh;clear yg yh;replace yH := eq_true yH;replace yI := eq_true yI));try go_wp2_with (first | (go_at_call 77;(with_reducible refine (zt.calls k2 ((zO l0_2 x6_2).f0) ((zO l0_2 x6_2).f1) _ _ ((zO l0_2 x6_2).f2) true _ ?side1 ?side2 A19.out).mono ?_);(case side1 => exact hKq (Kd.C_below yE.out HB.out));(case side2 => exact yD.out);rintro e w23 ⟨rfl,hb⟩;have n_ := haq (hbq ya.out hb) <| haq (ze hCq hb) <| trivial;clear ya HB;obtain ⟨ya,HB,_⟩ := n_;(try clear hb);(try clear hb2);(try clear hk);(try clear hi);obtain ⟨hcz24_0,hcz24_1,hcz24_2,hcz24_3,hcz24_4,hcz24_5,hfz24_0,hfz24_1,hfz24_2,hfz24_3,hfz24_4,hfz24_5⟩ := hcq6 ya.out;have yH : 0 ≤ (x6_2 : Int) := hFq;have yI : x6_2 < (l0_2.length : Int) := hFq;obtain ⟨yO,yX,yZ,y8,yb,yc,yd,yh,yg⟩ := zcd HR0_2.out x6_2 yH yI;obtain rfl : yW = yO := (by injection y8);replace yb := (HB.out.cell (World.block_lt_of_cell? w _ yb)).trans yb;replace yc := (HB.out.cell (World.block_lt_of_cell? w _ yc)).trans yc;replace yd := (HB.out.cell (World.block_lt_of_cell? w _ yd)).trans yd;have yS := za.mk yg;have yR := za.mk yh;clear yg yh;replace yH := eq_true yH;replace yI := eq_true yI)))
          go_ret
          exact ⟨hHq,hCq⟩
         ·rw [if_neg c21] at H
          have c21b0 : decide (a1 < ((zO l0_2 x6_2).f0)) = false := decide_eq_false c21
          clear c21
          have H' := za.mk H
          clear H
          obtain ⟨hcz25_0,hcz25_1,hcz25_2,hcz25_3,hcz25_4,hcz25_5,hfz25_0,hfz25_1,hfz25_2,hfz25_3,hfz25_4,hfz25_5⟩ := hcq6 ya.out
          have yT : 0 ≤ (x6_2 : Int) := hFq
          have yU : x6_2 < (l0_2.length : Int) := hFq
          obtain ⟨yW,Yh,Yk,Yl,yr,yt,yu,yK,yJ⟩ := zcd HR0_2.out x6_2 yT yU
          cases Yl
          replace yr := (HB.out.cell (World.block_lt_of_cell? w _ yr)).trans yr
          replace yt := (HB.out.cell (World.block_lt_of_cell? w _ yt)).trans yt
          replace yu := (HB.out.cell (World.block_lt_of_cell? w _ yu)).trans yu
          have yE := za.mk yJ
          have yD := za.mk yK
          clear yJ yK
          replace yT := eq_true yT
          replace yU := eq_true yU
          go_wp2_with (first | (go_at_call 77;(with_reducible refine (zt.calls k2 ((zO l0_2 x6_2).f0) ((zO l0_2 x6_2).f1) _ _ ((zO l0_2 x6_2).f2) true _ ?side1 ?side2 A19.out).mono ?_);(case side1 => exact hKq (Kd.C_below yE.out HB.out));(case side2 => exact yD.out);rintro e w26 ⟨rfl,hb⟩;have n_ := haq (hbq ya.out hb) <| haq (ze hCq hb) <| trivial;clear ya HB;obtain ⟨ya,HB,_⟩ := n_;(try clear hb);(try clear hb2);(try clear hk);(try clear hi);obtain ⟨hcz27_0,hcz27_1,hcz27_2,hcz27_3,hcz27_4,hcz27_5,hfz27_0,hfz27_1,hfz27_2,hfz27_3,hfz27_4,hfz27_5⟩ := hcq6 ya.out;have yH : 0 ≤ (x6_2 : Int) := hFq;have yI : x6_2 < (l0_2.length : Int) := hFq;obtain ⟨yO,yX,yZ,y8,yb,yc,yd,yh,yg⟩ := zcd HR0_2.out x6_2 yH yI;obtain rfl : yW = yO := (by injection y8);replace yb := (HB.out.cell (World.block_lt_of_cell? w _ yb)).trans yb;replace yc := (HB.out.cell (World.block_lt_of_cell? w _ yc)).trans yc;replace yd := (HB.out.cell (World.block_lt_of_cell? w _ yd)).trans yd;have yS := za.mk yg;have yR := za.mk yh;clear yg yh;replace yH := eq_true yH;replace yI := eq_true yI))
          repeat (go_quiet (first | (go_at_call 77;(with_reducible refine (zt.calls k2 ((zO l0_2 x6_2).f0) ((zO l0_2 x6_2).f1) _ _ ((zO l0_2 x6_2).f2) true _ ?side1 ?side2 A19.out).mono ?_);(case side1 => exact hKq (Kd.C_below yE.out HB.out));(case side2 => exact yD.out);rintro e w26 ⟨rfl,hb⟩;have n_ := haq (hbq ya.out hb) <| haq (ze hCq hb) <| trivial;clear ya HB;obtain ⟨ya,HB,_⟩ := n_;(try clear hb);(try clear hb2);(try clear hk);(try clear hi);obtain ⟨hcz27_0,hcz27_1,hcz27_2,hcz27_3,hcz27_4,hcz27_5,hfz27_0,hfz27_1,hfz27_2,hfz27_3,hfz27_4,hfz27_5⟩ := hcq6 ya.out;have yH : 0 ≤ (x6_2 : Int) := hFq;have yI : x6_2 < (l0_2.length : Int) := hFq;obtain ⟨yO,yX,yZ,y8,yb,yc,yd,yh,yg⟩ := zcd HR0_2.out x6_2 yH yI;obtain rfl : yW = yO := (by injection y8);replace yb := (HB.out.cell (World.block_lt_of_cell? w _ yb)).trans yb;replace yc := (HB.out.cell (World.block_lt_of_cell? w _ yc)).trans yc;replace yd := (HB.out.cell (World.block_lt_of_cell? w _ yd)).trans yd;have yS := za.mk yg;have yR := za.mk yh;clear yg yh;replace yH := eq_true yH;replace yI := eq_true yI));try go_wp2_with (first | (go_at_call 77;(with_reducible refine (zt.calls k2 ((zO l0_2 x6_2).f0) ((zO l0_2 x6_2).f1) _ _ ((zO l0_2 x6_2).f2) true _ ?side1 ?side2 A19.out).mono ?_);(case side1 => exact hKq (Kd.C_below yE.out HB.out));(case side2 => exact yD.out);rintro e w26 ⟨rfl,hb⟩;have n_ := haq (hbq ya.out hb) <| haq (ze hCq hb) <| trivial;clear ya HB;obtain ⟨ya,HB,_⟩ := n_;(try clear hb);(try clear hb2);(try clear hk);(try clear hi);obtain ⟨hcz27_0,hcz27_1,hcz27_2,hcz27_3,hcz27_4,hcz27_5,hfz27_0,hfz27_1,hfz27_2,hfz27_3,hfz27_4,hfz27_5⟩ := hcq6 ya.out;have yH : 0 ≤ (x6_2 : Int) := hFq;have yI : x6_2 < (l0_2.length : Int) := hFq;obtain ⟨yO,yX,yZ,y8,yb,yc,yd,yh,yg⟩ := zcd HR0_2.out x6_2 yH yI;obtain rfl : yW = yO := (by injection y8);replace yb := (HB.out.cell (World.block_lt_of_cell? w _ yb)).trans yb;replace yc := (HB.out.cell (World.block_lt_of_cell? w _ yc)).trans yc;replace yd := (HB.out.cell (World.block_lt_of_cell? w _ yd)).trans yd;have yS := za.mk yg;have yR := za.mk yh;clear yg yh;replace yH := eq_true yH;replace yI := eq_true yI)))
          go_roundg k2
          case measure => have := HJ3.out;have := HK2.out;omega
          case rel => exact ⟨(wrap64 (x6_2 + 1)),(hDq),H',⟨by have := HJ3.out;have := HK2.out;omega⟩,⟨hGq ya.out⟩,⟨by repeat (first | (with_reducible first | exact HB.out | apply zl | apply zi | apply zp | refine zm ?_ yF.out) | exact HB.out)⟩⟩
        ·replace c20 := Bool.eq_false_iff.mpr c20
         subst c20
         have H1 : (some false) = some r := by rw [if_neg (show ¬ (false = true) by decide)] at H;exact H
         clear H
         have H := H1
         clear H1
         obtain rfl := Option.some.inj H
         obtain ⟨hcz28_0,hcz28_1,hcz28_2,hcz28_3,hcz28_4,hcz28_5,hfz28_0,hfz28_1,hfz28_2,hfz28_3,hfz28_4,hfz28_5⟩ := hcq6 ya.out
         have yT : 0 ≤ (x6_2 : Int) := hFq
         have yU : x6_2 < (l0_2.length : Int) := hFq
         obtain ⟨yW,Yh,Yk,Yl,yr,yt,yu,yK,yJ⟩ := zcd HR0_2.out x6_2 yT yU
         cases Yl
         replace yr := (HB.out.cell (World.block_lt_of_cell? w _ yr)).trans yr
         replace yt := (HB.out.cell (World.block_lt_of_cell? w _ yt)).trans yt
         replace yu := (HB.out.cell (World.block_lt_of_cell? w _ yu)).trans yu
         have yE := za.mk yJ
         have yD := za.mk yK
         clear yJ yK
         replace yT := eq_true yT
         replace yU := eq_true yU
         go_wp2_with (first | (go_at_call 77;(with_reducible refine (zt.calls k2 ((zO l0_2 x6_2).f0) ((zO l0_2 x6_2).f1) _ _ ((zO l0_2 x6_2).f2) false _ ?side1 ?side2 A19.out).mono ?_);(case side1 => exact hKq (Kd.C_below yE.out HB.out));(case side2 => exact yD.out);rintro e w29 ⟨rfl,hb⟩;have n_ := haq (hbq ya.out hb) <| haq (ze hCq hb) <| trivial;clear ya HB;obtain ⟨ya,HB,_⟩ := n_;(try clear hb);(try clear hb2);(try clear hk);(try clear hi)))
         repeat (go_quiet (first | (go_at_call 77;(with_reducible refine (zt.calls k2 ((zO l0_2 x6_2).f0) ((zO l0_2 x6_2).f1) _ _ ((zO l0_2 x6_2).f2) false _ ?side1 ?side2 A19.out).mono ?_);(case side1 => exact hKq (Kd.C_below yE.out HB.out));(case side2 => exact yD.out);rintro e w29 ⟨rfl,hb⟩;have n_ := haq (hbq ya.out hb) <| haq (ze hCq hb) <| trivial;clear ya HB;obtain ⟨ya,HB,_⟩ := n_;(try clear hb);(try clear hb2);(try clear hk);(try clear hi)));try go_wp2_with (first | (go_at_call 77;(with_reducible refine (zt.calls k2 ((zO l0_2 x6_2).f0) ((zO l0_2 x6_2).f1) _ _ ((zO l0_2 x6_2).f2) false _ ?side1 ?side2 A19.out).mono ?_);(case side1 => exact hKq (Kd.C_below yE.out HB.out));(case side2 => exact yD.out);rintro e w29 ⟨rfl,hb⟩;have n_ := haq (hbq ya.out hb) <| haq (ze hCq hb) <| trivial;clear ya HB;obtain ⟨ya,HB,_⟩ := n_;(try clear hb);(try clear hb2);(try clear hk);(try clear hi))))
         go_ret
         exact ⟨hHq,hCq⟩
       ·rw [if_neg c18] at H
        exact absurd H (by simp)
      ·rw [if_neg c17] at H
       have c17b0 : decide (x6_2 < (l0_2.length : Int)) = false := decide_eq_false c17
       clear c17
       have HC30 := za.mk H
       clear H
       obtain ⟨hcz31_0,hcz31_1,hcz31_2,hcz31_3,hcz31_4,hcz31_5,hfz31_0,hfz31_1,hfz31_2,hfz31_3,hfz31_4,hfz31_5⟩ := hcq6 ya.out
       go_upto_region 10 with (fail)
       repeat (go_quiet (fail);go_upto_region 10 with (fail))
       go_cut [75] (fun v75 wc => ∃ (kq : Nat) (x75_29 : Bool),v75 = .bool x75_29 ∧ za (zj.j2 kq a1 x75_29 a0_0 a0_1 l0_2 l0_3 a0_4 a0_5 = some r) ∧ za (kq ≤ k2) ∧ za (wc.heap[yL]? = some (.cells #[.int .i64 a0_0,.int .i64 a0_1,(.slice A0_2 l0_2.length c0_2),(.slice A0_3 l0_3.length c0_3),.int .i64 a0_4,.int .i64 a0_5] 35 (0,0))) ∧ za (Below w.heap.size w wc))
       case first =>
        have H := HC30.out
        clear HC30
        by_cases c32 : a0_1 = 1
        ·rw [if_pos c32] at H
         have c32b0 : (a0_1 == 1) = true := beq_iff_eq.mpr c32
         have c32b1 : (a0_1 != 1) = false := bne_eq_false_iff_eq.mpr c32
         clear c32
         (first | rw [c32b0] | (simp only [zam,zap];rw [c32b0]) | skip)
         have H' := za.mk H
         clear H
         obtain ⟨hcz33_0,hcz33_1,hcz33_2,hcz33_3,hcz33_4,hcz33_5,hfz33_0,hfz33_1,hfz33_2,hfz33_3,hfz33_4,hfz33_5⟩ := hcq6 ya.out
         go_wp2
         repeat (go_quiet (fail);try go_wp2)
         go_meet
         case rel => exact ⟨_,(decide ((l0_3.length : Int) > 0)),(hDq),H',⟨by have := HJ3.out;have := HK2.out;first | omega | exact Nat.le_refl _⟩,⟨hGq ya.out⟩,⟨by repeat (first | (with_reducible first | exact HB.out | apply zl | apply zi | apply zp | refine zm ?_ yF.out) | exact HB.out)⟩⟩
        ·rw [if_neg c32] at H
         have c32b0 : (a0_1 == 1) = false := beq_eq_false_iff_ne.mpr c32
         have c32b1 : (a0_1 != 1) = true := bne_iff_ne.mpr c32
         (first | rw [c32b0] | (simp only [zam,zap];rw [c32b0]) | skip)
         have H' := za.mk H
         clear H
         obtain ⟨hcz34_0,hcz34_1,hcz34_2,hcz34_3,hcz34_4,hcz34_5,hfz34_0,hfz34_1,hfz34_2,hfz34_3,hfz34_4,hfz34_5⟩ := hcq6 ya.out
         go_wp2
         repeat (go_quiet (fail);try go_wp2)
         go_meet
         case rel => exact ⟨_,(false),(hDq),H',⟨by have := HJ3.out;have := HK2.out;first | omega | exact Nat.le_refl _⟩,⟨hGq ya.out⟩,⟨by repeat (first | (with_reducible first | exact HB.out | apply zl | apply zi | apply zp | refine zm ?_ yF.out) | exact HB.out)⟩⟩
       case rest =>
        clear HC30
        try clear c1;try clear p1;try clear q1;try clear hx1;try clear c2;try clear p2;try clear c3;try clear c5;try clear c6;try clear p6;try clear c7;try clear c7b0;try clear c9;try clear c9b0;try clear c11;try clear c11b0;try clear c13;try clear c13b0;try clear c16;try clear c17;try clear c17b0;try clear p17;try clear q17;try clear hx17;try clear c18;try clear c18b0;try clear c20;try clear c21;try clear c21b0;try clear c32;try clear c32b0;try clear c32b1;try clear hcz10_0;try clear hcz10_1;try clear hcz10_2;try clear hcz10_3;try clear hcz10_4;try clear hcz10_5;try clear hcz12_0;try clear hcz12_1;try clear hcz12_2;try clear hcz12_3;try clear hcz12_4;try clear hcz12_5;try clear hcz14_0;try clear hcz14_1;try clear hcz14_2;try clear hcz14_3;try clear hcz14_4;try clear hcz14_5;try clear hcz15_0;try clear hcz15_1;try clear hcz15_2;try clear hcz15_3;try clear hcz15_4;try clear hcz15_5;try clear hcz22_0;try clear hcz22_1;try clear hcz22_2;try clear hcz22_3;try clear hcz22_4;try clear hcz22_5;try clear hcz24_0;try clear hcz24_1;try clear hcz24_2;try clear hcz24_3;try clear hcz24_4;try clear hcz24_5;try clear hcz25_0;try clear hcz25_1;try clear hcz25_2;try clear hcz25_3;try clear hcz25_4;try clear hcz25_5;try clear hcz27_0;try clear hcz27_1;try clear hcz27_2;try clear hcz27_3;try clear hcz27_4;try clear hcz27_5;try clear hcz28_0;try clear hcz28_1;try clear hcz28_2;try clear hcz28_3;try clear hcz28_4;try clear hcz28_5;try clear hcz31_0;try clear hcz31_1;try clear hcz31_2;try clear hcz31_3;try clear hcz31_4;try clear hcz31_5;try clear hcz33_0;try clear hcz33_1;try clear hcz33_2;try clear hcz33_3;try clear hcz33_4;try clear hcz33_5;try clear hcz34_0;try clear hcz34_1;try clear hcz34_2;try clear hcz34_3;try clear hcz34_4;try clear hcz34_5;try clear hcz8_0;try clear hcz8_1;try clear hcz8_2;try clear hcz8_3;try clear hcz8_4;try clear hcz8_5;try clear hfz10_0;try clear hfz10_1;try clear hfz10_2;try clear hfz10_3;try clear hfz10_4;try clear hfz10_5;try clear hfz12_0;try clear hfz12_1;try clear hfz12_2;try clear hfz12_3;try clear hfz12_4;try clear hfz12_5;try clear hfz14_0;try clear hfz14_1;try clear hfz14_2;try clear hfz14_3;try clear hfz14_4;try clear hfz14_5;try clear hfz15_0;try clear hfz15_1;try clear hfz15_2;try clear hfz15_3;try clear hfz15_4;try clear hfz15_5;try clear hfz22_0;try clear hfz22_1;try clear hfz22_2;try clear hfz22_3;try clear hfz22_4;try clear hfz22_5;try clear hfz24_0;try clear hfz24_1;try clear hfz24_2;try clear hfz24_3;try clear hfz24_4;try clear hfz24_5;try clear hfz25_0;try clear hfz25_1;try clear hfz25_2;try clear hfz25_3;try clear hfz25_4;try clear hfz25_5;try clear hfz27_0;try clear hfz27_1;try clear hfz27_2;try clear hfz27_3;try clear hfz27_4;try clear hfz27_5;try clear hfz28_0;try clear hfz28_1;try clear hfz28_2;try clear hfz28_3;try clear hfz28_4;try clear hfz28_5;try clear hfz31_0;try clear hfz31_1;try clear hfz31_2;try clear hfz31_3;try clear hfz31_4;try clear hfz31_5;try clear hfz33_0;try clear hfz33_1;try clear hfz33_2;try clear hfz33_3;try clear hfz33_4;try clear hfz33_5;try clear hfz34_0;try clear hfz34_1;try clear hfz34_2;try clear hfz34_3;try clear hfz34_4;try clear hfz34_5;try clear hfz8_0;try clear hfz8_1;try clear hfz8_2;try clear hfz8_3;try clear hfz8_4;try clear hfz8_5;try clear yr;try clear yt;try clear yu;try clear yb;try clear yc;try clear yd;try clear yT;try clear yH;try clear p2;try clear yU;try clear yI
        obtain ⟨kq,x75_29,rfl,HA,HJ29,ya,HB⟩ := hcut
        cases kq with
        | zero => exact absurd HA.out (by simp [zj.j2])
        | succ kj29 =>
         have H := HA.out
         clear HA
         simp only [zj.j2] at H
         by_cases c35 : x75_29 = true
         ·subst c35
          have H1 : (some false) = some r := by rw [if_pos rfl] at H;exact H
          clear H
          have H := H1
          clear H1
          obtain rfl := Option.some.inj H
          go_wp2
          repeat (go_quiet (fail);try go_wp2)
          go_ret
          exact ⟨hHq,hCq⟩
         ·replace c35 := Bool.eq_false_iff.mpr c35
          subst c35
          have H1 : (if a0_1 > 1 then ((zah.f a1).bind fun yV => (if (l0_3.length : Int) < yV then (zj.j3 kj29 true a0_0 a0_1 l0_2 l0_3 a0_4 a0_5) else (zj.j3 kj29 (decide ((l0_3.length : Int) > a1)) a0_0 a0_1 l0_2 l0_3 a0_4 a0_5))) else (zj.j3 kj29 false a0_0 a0_1 l0_2 l0_3 a0_4 a0_5)) = some r := by rw [if_neg (show ¬ (false = true) by decide)] at H;exact H
          clear H
          have H := H1
          clear H1
          have HC36 := za.mk H
          clear H
          go_upto_region 12 with (fail)
          repeat (go_quiet (fail);go_upto_region 12 with (fail))
          go_cut [93] (fun v93 wc => ∃ (kq : Nat) (x93_35 : Bool),v93 = .bool x93_35 ∧ za (zj.j3 kq x93_35 a0_0 a0_1 l0_2 l0_3 a0_4 a0_5 = some r) ∧ za (kq ≤ kj29) ∧ za (wc.heap[yL]? = some (.cells #[.int .i64 a0_0,.int .i64 a0_1,(.slice A0_2 l0_2.length c0_2),(.slice A0_3 l0_3.length c0_3),.int .i64 a0_4,.int .i64 a0_5] 35 (0,0))) ∧ za (Below w.heap.size w wc))
          case first =>
           have H := HC36.out
           clear HC36
           by_cases c37 : a0_1 > 1
           ·rw [if_pos c37] at H
            have c37b0 : decide (1 < a0_1) = true := decide_eq_true c37
            clear c37
            (first | rw [c37b0] | (simp only [zam,zap];rw [c37b0]) | skip)
            replace H := Option.bind_eq_some_iff.mp H
            obtain ⟨yV,Ys,H⟩ := H
            replace H : (if (l0_3.length : Int) < yV then (zj.j3 kj29 true a0_0 a0_1 l0_2 l0_3 a0_4 a0_5) else (zj.j3 kj29 (decide ((l0_3.length : Int) > a1)) a0_0 a0_1 l0_2 l0_3 a0_4 a0_5)) = some r := H
            have A38 := za.mk Ys
            clear Ys
            by_cases c39 : (l0_3.length : Int) < yV
            ·rw [if_pos c39] at H
             have c39b0 : decide ((l0_3.length : Int) < yV) = true := decide_eq_true c39
             clear c39
             have H' := za.mk H
             clear H
             obtain ⟨hcz40_0,hcz40_1,hcz40_2,hcz40_3,hcz40_4,hcz40_5,hfz40_0,hfz40_1,hfz40_2,hfz40_3,hfz40_4,hfz40_5⟩ := hcq6 ya.out
             go_wp2_with (first | (go_at_call 78;(with_reducible refine (zah.calls a1 yV _ A38.out).mono ?_);rintro e w' ⟨rfl,⟨nd,rfl⟩⟩;(try first | exact ⟨rfl,_,World.drewN_drewN _ _ _⟩ | exact ⟨rfl,_,Eq.trans (World.drewN_drewN _ _ _) (congrArg (World.drewN _) (Nat.add_assoc _ _ _))⟩)))
             repeat (go_quiet (first | (go_at_call 78;(with_reducible refine (zah.calls a1 yV _ A38.out).mono ?_);rintro e w' ⟨rfl,⟨nd,rfl⟩⟩;(try first | exact ⟨rfl,_,World.drewN_drewN _ _ _⟩ | exact ⟨rfl,_,Eq.trans (World.drewN_drewN _ _ _) (congrArg (World.drewN _) (Nat.add_assoc _ _ _))⟩)));try go_wp2_with (first | (go_at_call 78;(with_reducible refine (zah.calls a1 yV _ A38.out).mono ?_);rintro e w' ⟨rfl,⟨nd,rfl⟩⟩;(try first | exact ⟨rfl,_,World.drewN_drewN _ _ _⟩ | exact ⟨rfl,_,Eq.trans (World.drewN_drewN _ _ _) (congrArg (World.drewN _) (Nat.add_assoc _ _ _))⟩))))
             go_meet
             case rel => exact ⟨_,(true),(hDq),H',⟨by have := HJ3.out;have := HK2.out;have := HJ29.out;first | omega | exact Nat.le_refl _⟩,⟨hGq ya.out⟩,⟨by repeat (first | (with_reducible first | exact HB.out | apply zl | apply zi | apply zp | refine zm ?_ yF.out) | exact HB.out)⟩⟩
            ·rw [if_neg c39] at H
             have c39b0 : decide ((l0_3.length : Int) < yV) = false := decide_eq_false c39
             clear c39
             have H' := za.mk H
             clear H
             obtain ⟨hcz41_0,hcz41_1,hcz41_2,hcz41_3,hcz41_4,hcz41_5,hfz41_0,hfz41_1,hfz41_2,hfz41_3,hfz41_4,hfz41_5⟩ := hcq6 ya.out
             go_wp2_with (first | (go_at_call 78;(with_reducible refine (zah.calls a1 yV _ A38.out).mono ?_);rintro e w' ⟨rfl,⟨nd,rfl⟩⟩;(try first | exact ⟨rfl,_,World.drewN_drewN _ _ _⟩ | exact ⟨rfl,_,Eq.trans (World.drewN_drewN _ _ _) (congrArg (World.drewN _) (Nat.add_assoc _ _ _))⟩)))
             repeat (go_quiet (first | (go_at_call 78;(with_reducible refine (zah.calls a1 yV _ A38.out).mono ?_);rintro e w' ⟨rfl,⟨nd,rfl⟩⟩;(try first | exact ⟨rfl,_,World.drewN_drewN _ _ _⟩ | exact ⟨rfl,_,Eq.trans (World.drewN_drewN _ _ _) (congrArg (World.drewN _) (Nat.add_assoc _ _ _))⟩)));try go_wp2_with (first | (go_at_call 78;(with_reducible refine (zah.calls a1 yV _ A38.out).mono ?_);rintro e w' ⟨rfl,⟨nd,rfl⟩⟩;(try first | exact ⟨rfl,_,World.drewN_drewN _ _ _⟩ | exact ⟨rfl,_,Eq.trans (World.drewN_drewN _ _ _) (congrArg (World.drewN _) (Nat.add_assoc _ _ _))⟩))))
             go_meet
             case rel => exact ⟨_,(decide ((l0_3.length : Int) > a1)),(hDq),H',⟨by have := HJ3.out;have := HK2.out;have := HJ29.out;first | omega | exact Nat.le_refl _⟩,⟨hGq ya.out⟩,⟨by repeat (first | (with_reducible first | exact HB.out | apply zl | apply zi | apply zp | refine zm ?_ yF.out) | exact HB.out)⟩⟩
           ·rw [if_neg c37] at H
            have c37b0 : decide (1 < a0_1) = false := decide_eq_false c37
            clear c37
            (first | rw [c37b0] | (simp only [zam,zap];rw [c37b0]) | skip)
            have H' := za.mk H
            clear H
            obtain ⟨hcz42_0,hcz42_1,hcz42_2,hcz42_3,hcz42_4,hcz42_5,hfz42_0,hfz42_1,hfz42_2,hfz42_3,hfz42_4,hfz42_5⟩ := hcq6 ya.out
            go_wp2
            repeat (go_quiet (fail);try go_wp2)
            go_meet
            case rel => exact ⟨_,(false),(hDq),H',⟨by have := HJ3.out;have := HK2.out;have := HJ29.out;first | omega | exact Nat.le_refl _⟩,⟨hGq ya.out⟩,⟨by repeat (first | (with_reducible first | exact HB.out | apply zl | apply zi | apply zp | refine zm ?_ yF.out) | exact HB.out)⟩⟩
          case rest =>
           clear HC36
           try clear c1;try clear p1;try clear q1;try clear hx1;try clear c2;try clear p2;try clear c3;try clear c5;try clear c6;try clear p6;try clear c7;try clear c7b0;try clear c9;try clear c9b0;try clear c11;try clear c11b0;try clear c13;try clear c13b0;try clear c16;try clear c17;try clear c17b0;try clear p17;try clear q17;try clear hx17;try clear c18;try clear c18b0;try clear c20;try clear c21;try clear c21b0;try clear c32;try clear c32b0;try clear c32b1;try clear c35;try clear c37;try clear c37b0;try clear c39;try clear c39b0;try clear hcz10_0;try clear hcz10_1;try clear hcz10_2;try clear hcz10_3;try clear hcz10_4;try clear hcz10_5;try clear hcz12_0;try clear hcz12_1;try clear hcz12_2;try clear hcz12_3;try clear hcz12_4;try clear hcz12_5;try clear hcz14_0;try clear hcz14_1;try clear hcz14_2;try clear hcz14_3;try clear hcz14_4;try clear hcz14_5;try clear hcz15_0;try clear hcz15_1;try clear hcz15_2;try clear hcz15_3;try clear hcz15_4;try clear hcz15_5;try clear hcz22_0;try clear hcz22_1;try clear hcz22_2;try clear hcz22_3;try clear hcz22_4;try clear hcz22_5;try clear hcz24_0;try clear hcz24_1;try clear hcz24_2;try clear hcz24_3;try clear hcz24_4;try clear hcz24_5;try clear hcz25_0;try clear hcz25_1;try clear hcz25_2;try clear hcz25_3;try clear hcz25_4;try clear hcz25_5;try clear hcz27_0;try clear hcz27_1;try clear hcz27_2;try clear hcz27_3;try clear hcz27_4;try clear hcz27_5;try clear hcz28_0;try clear hcz28_1;try clear hcz28_2;try clear hcz28_3;try clear hcz28_4;try clear hcz28_5;try clear hcz31_0;try clear hcz31_1;try clear hcz31_2;try clear hcz31_3;try clear hcz31_4;try clear hcz31_5;try clear hcz33_0;try clear hcz33_1;try clear hcz33_2;try clear hcz33_3;try clear hcz33_4;try clear hcz33_5;try clear hcz34_0;try clear hcz34_1;try clear hcz34_2;try clear hcz34_3;try clear hcz34_4;try clear hcz34_5;try clear hcz40_0;try clear hcz40_1;try clear hcz40_2;try clear hcz40_3;try clear hcz40_4;try clear hcz40_5;try clear hcz41_0;try clear hcz41_1;try clear hcz41_2;try clear hcz41_3;try clear hcz41_4;try clear hcz41_5;try clear hcz42_0;try clear hcz42_1;try clear hcz42_2;try clear hcz42_3;try clear hcz42_4;try clear hcz42_5;try clear hcz8_0;try clear hcz8_1;try clear hcz8_2;try clear hcz8_3;try clear hcz8_4;try clear hcz8_5;try clear hfz10_0;try clear hfz10_1;try clear hfz10_2;try clear hfz10_3;try clear hfz10_4;try clear hfz10_5;try clear hfz12_0;try clear hfz12_1;try clear hfz12_2;try clear hfz12_3;try clear hfz12_4;try clear hfz12_5;try clear hfz14_0;try clear hfz14_1;try clear hfz14_2;try clear hfz14_3;try clear hfz14_4;try clear hfz14_5;try clear hfz15_0;try clear hfz15_1;try clear hfz15_2;try clear hfz15_3;try clear hfz15_4;try clear hfz15_5;try clear hfz22_0;try clear hfz22_1;try clear hfz22_2;try clear hfz22_3;try clear hfz22_4;try clear hfz22_5;try clear hfz24_0;try clear hfz24_1;try clear hfz24_2;try clear hfz24_3;try clear hfz24_4;try clear hfz24_5;try clear hfz25_0;try clear hfz25_1;try clear hfz25_2;try clear hfz25_3;try clear hfz25_4;try clear hfz25_5;try clear hfz27_0;try clear hfz27_1;try clear hfz27_2;try clear hfz27_3;try clear hfz27_4;try clear hfz27_5;try clear hfz28_0;try clear hfz28_1;try clear hfz28_2;try clear hfz28_3;try clear hfz28_4;try clear hfz28_5;try clear hfz31_0;try clear hfz31_1;try clear hfz31_2;try clear hfz31_3;try clear hfz31_4;try clear hfz31_5;try clear hfz33_0;try clear hfz33_1;try clear hfz33_2;try clear hfz33_3;try clear hfz33_4;try clear hfz33_5;try clear hfz34_0;try clear hfz34_1;try clear hfz34_2;try clear hfz34_3;try clear hfz34_4;try clear hfz34_5;try clear hfz40_0;try clear hfz40_1;try clear hfz40_2;try clear hfz40_3;try clear hfz40_4;try clear hfz40_5;try clear hfz41_0;try clear hfz41_1;try clear hfz41_2;try clear hfz41_3;try clear hfz41_4;try clear hfz41_5;try clear hfz42_0
           try clear hfz42_1;try clear hfz42_2;try clear hfz42_3;try clear hfz42_4;try clear hfz42_5;try clear hfz8_0;try clear hfz8_1;try clear hfz8_2;try clear hfz8_3;try clear hfz8_4;try clear hfz8_5;try clear yr;try clear yt;try clear yu;try clear yb;try clear yc;try clear yd;try clear p1;try clear p17;try clear yT;try clear yH;try clear p2;try clear p6;try clear q1;try clear q17;try clear yU;try clear yI
           obtain ⟨kq,x93_35,rfl,HA,HJ35,ya,HB⟩ := hcut
           cases kq with
           | zero => exact absurd HA.out (by simp [zj.j3])
           | succ kj35 =>
            have H := HA.out
            clear HA
            simp only [zj.j3] at H
            by_cases c43 : x93_35 = true
            ·subst c43
             have H1 : (some false) = some r := by rw [if_pos rfl] at H;exact H
             clear H
             have H := H1
             clear H1
             obtain rfl := Option.some.inj H
             go_wp2
             repeat (go_quiet (fail);try go_wp2)
             go_ret
             exact ⟨hHq,hCq⟩
            ·replace c43 := Bool.eq_false_iff.mpr c43
             subst c43
             have H1 : (zj.l1 kj35 0 a0_0 a0_1 l0_2 l0_3 a0_4 a0_5) = some r := by rw [if_neg (show ¬ (false = true) by decide)] at H;exact H
             clear H
             have H := H1
             clear H1
             have H' := za.mk H
             clear H
             go_wp2
             repeat (go_quiet (fail);try go_wp2)
             go_loopg [8] kj35 (fun kq v8 w' => ∃ (x8_5 : Int),v8 = .int .i64 x8_5 ∧ za (zj.l1 kq x8_5 a0_0 a0_1 l0_2 l0_3 a0_4 a0_5 = some r) ∧ za (kq ≤ kj35) ∧ za (w'.heap[yL]? = some (.cells #[.int .i64 a0_0,.int .i64 a0_1,(.slice A0_2 l0_2.length c0_2),(.slice A0_3 l0_3.length c0_3),.int .i64 a0_4,.int .i64 a0_5] 35 (0,0))) ∧ za (Below w.heap.size w w'))
             case atStart => exact ⟨(0),(hDq),H',⟨Nat.le_refl _⟩,⟨hGq ya.out⟩,⟨by repeat (first | (with_reducible first | exact HB.out | apply zl | apply zi | apply zp | refine zm ?_ yF.out) | exact HB.out)⟩⟩
             case round =>
              clear H'
              try clear c1;try clear p1;try clear q1;try clear hx1;try clear c2;try clear p2;try clear c3;try clear c4;try clear c5;try clear c6;try clear p6;try clear c7;try clear c7b0;try clear c9;try clear c9b0;try clear c11;try clear c11b0;try clear c13;try clear c13b0;try clear c16;try clear c17;try clear c17b0;try clear p17;try clear q17;try clear hx17;try clear c18;try clear c18b0;try clear c20;try clear c21;try clear c21b0;try clear c32;try clear c32b0;try clear c32b1;try clear c35;try clear c37;try clear c37b0;try clear c39;try clear c39b0;try clear c43;try clear hcz10_0;try clear hcz10_1;try clear hcz10_2;try clear hcz10_3;try clear hcz10_4;try clear hcz10_5;try clear hcz12_0;try clear hcz12_1;try clear hcz12_2;try clear hcz12_3;try clear hcz12_4;try clear hcz12_5;try clear hcz14_0;try clear hcz14_1;try clear hcz14_2;try clear hcz14_3;try clear hcz14_4;try clear hcz14_5;try clear hcz15_0;try clear hcz15_1;try clear hcz15_2;try clear hcz15_3;try clear hcz15_4;try clear hcz15_5;try clear hcz22_0;try clear hcz22_1;try clear hcz22_2;try clear hcz22_3;try clear hcz22_4;try clear hcz22_5;try clear hcz24_0;try clear hcz24_1;try clear hcz24_2;try clear hcz24_3;try clear hcz24_4;try clear hcz24_5;try clear hcz25_0;try clear hcz25_1;try clear hcz25_2;try clear hcz25_3;try clear hcz25_4;try clear hcz25_5;try clear hcz27_0;try clear hcz27_1;try clear hcz27_2;try clear hcz27_3;try clear hcz27_4;try clear hcz27_5;try clear hcz28_0;try clear hcz28_1;try clear hcz28_2;try clear hcz28_3;try clear hcz28_4;try clear hcz28_5;try clear hcz31_0;try clear hcz31_1;try clear hcz31_2;try clear hcz31_3;try clear hcz31_4;try clear hcz31_5;try clear hcz33_0;try clear hcz33_1;try clear hcz33_2;try clear hcz33_3;try clear hcz33_4;try clear hcz33_5;try clear hcz34_0;try clear hcz34_1;try clear hcz34_2;try clear hcz34_3;try clear hcz34_4;try clear hcz34_5;try clear hcz40_0;try clear hcz40_1;try clear hcz40_2;try clear hcz40_3;try clear hcz40_4;try clear hcz40_5;try clear hcz41_0;try clear hcz41_1;try clear hcz41_2;try clear hcz41_3;try clear hcz41_4;try clear hcz41_5;try clear hcz42_0;try clear hcz42_1;try clear hcz42_2;try clear hcz42_3;try clear hcz42_4;try clear hcz42_5;try clear hcz8_0;try clear hcz8_1;try clear hcz8_2;try clear hcz8_3;try clear hcz8_4;try clear hcz8_5;try clear hfz10_0;try clear hfz10_1;try clear hfz10_2;try clear hfz10_3;try clear hfz10_4;try clear hfz10_5;try clear hfz12_0;try clear hfz12_1;try clear hfz12_2;try clear hfz12_3;try clear hfz12_4;try clear hfz12_5;try clear hfz14_0;try clear hfz14_1;try clear hfz14_2;try clear hfz14_3;try clear hfz14_4;try clear hfz14_5;try clear hfz15_0;try clear hfz15_1;try clear hfz15_2;try clear hfz15_3;try clear hfz15_4;try clear hfz15_5;try clear hfz22_0;try clear hfz22_1;try clear hfz22_2;try clear hfz22_3;try clear hfz22_4;try clear hfz22_5;try clear hfz24_0;try clear hfz24_1;try clear hfz24_2;try clear hfz24_3;try clear hfz24_4;try clear hfz24_5;try clear hfz25_0;try clear hfz25_1;try clear hfz25_2;try clear hfz25_3;try clear hfz25_4;try clear hfz25_5;try clear hfz27_0;try clear hfz27_1;try clear hfz27_2;try clear hfz27_3;try clear hfz27_4;try clear hfz27_5;try clear hfz28_0;try clear hfz28_1;try clear hfz28_2;try clear hfz28_3;try clear hfz28_4;try clear hfz28_5;try clear hfz31_0;try clear hfz31_1;try clear hfz31_2;try clear hfz31_3;try clear hfz31_4;try clear hfz31_5;try clear hfz33_0;try clear hfz33_1;try clear hfz33_2;try clear hfz33_3;try clear hfz33_4;try clear hfz33_5;try clear hfz34_0;try clear hfz34_1;try clear hfz34_2;try clear hfz34_3;try clear hfz34_4;try clear hfz34_5;try clear hfz40_0;try clear hfz40_1;try clear hfz40_2;try clear hfz40_3;try clear hfz40_4;try clear hfz40_5;try clear hfz41_0;try clear hfz41_1;try clear hfz41_2;try clear hfz41_3;try clear hfz41_4
              try clear hfz41_5;try clear hfz42_0;try clear hfz42_1;try clear hfz42_2;try clear hfz42_3;try clear hfz42_4;try clear hfz42_5;try clear hfz8_0;try clear hfz8_1;try clear hfz8_2;try clear hfz8_3;try clear hfz8_4;try clear hfz8_5;try clear yr;try clear yt;try clear yu;try clear yb;try clear yc;try clear yd;try clear p1;try clear p17;try clear yT;try clear yH;try clear p2;try clear p6;try clear q1;try clear q17;try clear yU;try clear yI
              obtain ⟨x8_5,rfl,HA,HK5,ya,HB⟩ := hrel
              cases gk with
              | zero => exact absurd HA.out (by simp [zj.l1])
              | succ k5 =>
               have H := HA.out
               clear HA
               simp only [zj.l1] at H
               by_cases c44 : x8_5 < (l0_3.length : Int)
               ·rw [if_pos c44] at H
                have c44b0 : decide (x8_5 < (l0_3.length : Int)) = true := decide_eq_true c44
                clear c44
                by_cases c45 : 0 ≤ x8_5
                ·rw [if_pos c45] at H
                 have c45b0 : decide (0 ≤ x8_5) = true := decide_eq_true c45
                 clear c45
                 by_cases c46 : ((zz ByteArray.empty l0_3 x8_5).size : Int) = 32
                 ·rw [if_pos c46] at H
                  have c46b0 : (((zz ByteArray.empty l0_3 x8_5).size : Int) == 32) = true := beq_iff_eq.mpr c46
                  have c46b1 : (((zz ByteArray.empty l0_3 x8_5).size : Int) != 32) = false := bne_eq_false_iff_eq.mpr c46
                  clear c46
                  by_cases c47 : x8_5 > 0
                  ·rw [if_pos c47] at H
                   have c47b0 : decide (0 < x8_5) = true := decide_eq_true c47
                   clear c47
                   obtain ⟨ji48,hji48⟩ : ∃ j_ : Int,(wrap64 (x8_5 - 1)) = j_ := ⟨_,rfl⟩
                   replace H : (if 0 ≤ (ji48) then (if (ji48) < (l0_3.length : Int) then ((zG.f k5 (zz ByteArray.empty l0_3 (ji48)) (zz ByteArray.empty l0_3 x8_5)).bind fun Yg => (if Yg = true then (zj.l1 k5 (wrap64 (x8_5 + 1)) a0_0 a0_1 l0_2 l0_3 a0_4 a0_5) else (some false))) else (none)) else (none)) = some r := by first | (rw [hji48] at H;exact H) | (simp only [hji48] at H ⊢;exact H)
                   have hji48w : (IntKind.i64.wrap (x8_5 - 1)) = ji48 := (zam _).trans hji48
                   by_cases c49 : 0 ≤ (ji48)
                   ·rw [if_pos c49] at H
                    have c49b0 : decide (0 ≤ (ji48)) = true := decide_eq_true c49
                    clear c49
                    by_cases c50 : (ji48) < (l0_3.length : Int)
                    ·rw [if_pos c50] at H
                     have c50b0 : decide ((ji48) < (l0_3.length : Int)) = true := decide_eq_true c50
                     clear c50
                     replace H := Option.bind_eq_some_iff.mp H
                     obtain ⟨Yg,Yt,H⟩ := H
                     replace H : (if Yg = true then (zj.l1 k5 (wrap64 (x8_5 + 1)) a0_0 a0_1 l0_2 l0_3 a0_4 a0_5) else (some false)) = some r := H
                     have A51 := za.mk Yt
                     clear Yt
                     by_cases c52 : Yg = true
                     ·subst c52
                      have H1 : (zj.l1 k5 (wrap64 (x8_5 + 1)) a0_0 a0_1 l0_2 l0_3 a0_4 a0_5) = some r := by rw [if_pos rfl] at H;exact H
                      clear H
                      have H := H1
                      clear H1
                      have H' := za.mk H
                      clear H
                      obtain ⟨hcz53_0,hcz53_1,hcz53_2,hcz53_3,hcz53_4,hcz53_5,hfz53_0,hfz53_1,hfz53_2,hfz53_3,hfz53_4,hfz53_5⟩ := hcq6 ya.out
                      have yP : 0 ≤ (x8_5 : Int) := hFq
                      have yQ : x8_5 < (l0_3.length : Int) := hFq
                      obtain ⟨yY,Yb,yq⟩ := Kd.at_string HR0_3.out x8_5 yP yQ
                      cases Yb
                      replace yq := (HB.out.cell (World.block_lt_of_cell? w _ yq)).trans yq
                      replace yP := eq_true yP
                      replace yQ := eq_true yQ
                      have Yc : 0 ≤ ((ji48) : Int) := hFq
                      have Ye : (ji48) < (l0_3.length : Int) := hFq
                      obtain ⟨Yi,Yp,yM⟩ := Kd.at_string HR0_3.out (ji48) Yc Ye
                      obtain rfl : yY = Yi := (by injection Yp)
                      replace yM := (HB.out.cell (World.block_lt_of_cell? w _ yM)).trans yM
                      replace Yc := eq_true Yc
                      replace Ye := eq_true Ye
                      have Yd : 0 ≤ (x8_5 : Int) := hFq
                      have Yf : x8_5 < (l0_3.length : Int) := hFq
                      obtain ⟨Yj,Yq,yN⟩ := Kd.at_string HR0_3.out x8_5 Yd Yf
                      obtain rfl : yY = Yj := (by injection Yq)
                      replace yN := (HB.out.cell (World.block_lt_of_cell? w _ yN)).trans yN
                      replace Yd := eq_true Yd
                      replace Yf := eq_true Yf
                      go_wp2_with (first | (go_at_call 79;(with_reducible refine (zG.calls k5 (zz ByteArray.empty l0_3 (ji48)) (zz ByteArray.empty l0_3 x8_5) true _ A51.out).mono ?_);rintro e w' ⟨rfl,⟨nd,rfl⟩⟩;(try first | exact ⟨rfl,_,World.drewN_drewN _ _ _⟩ | exact ⟨rfl,_,Eq.trans (World.drewN_drewN _ _ _) (congrArg (World.drewN _) (Nat.add_assoc _ _ _))⟩)))
                      repeat (go_quiet (first | (go_at_call 79;(with_reducible refine (zG.calls k5 (zz ByteArray.empty l0_3 (ji48)) (zz ByteArray.empty l0_3 x8_5) true _ A51.out).mono ?_);rintro e w' ⟨rfl,⟨nd,rfl⟩⟩;(try first | exact ⟨rfl,_,World.drewN_drewN _ _ _⟩ | exact ⟨rfl,_,Eq.trans (World.drewN_drewN _ _ _) (congrArg (World.drewN _) (Nat.add_assoc _ _ _))⟩)));try go_wp2_with (first | (go_at_call 79;(with_reducible refine (zG.calls k5 (zz ByteArray.empty l0_3 (ji48)) (zz ByteArray.empty l0_3 x8_5) true _ A51.out).mono ?_);rintro e w' ⟨rfl,⟨nd,rfl⟩⟩;(try first | exact ⟨rfl,_,World.drewN_drewN _ _ _⟩ | exact ⟨rfl,_,Eq.trans (World.drewN_drewN _ _ _) (congrArg (World.drewN _) (Nat.add_assoc _ _ _))⟩))))
                      go_roundg k5
                      case measure => have := HJ3.out;have := HK2.out;have := HJ29.out;have := HJ35.out;have := HK5.out;omega
                      case rel => exact ⟨(wrap64 (x8_5 + 1)),(hDq),H',⟨by have := HJ3.out;have := HK2.out;have := HJ29.out;have := HJ35.out;have := HK5.out;omega⟩,⟨hGq ya.out⟩,⟨by repeat (first | (with_reducible first | exact HB.out | apply zl | apply zi | apply zp | refine zm ?_ yF.out) | exact HB.out)⟩⟩
                     ·replace c52 := Bool.eq_false_iff.mpr c52
                      subst c52
                      have H1 : (some false) = some r := by rw [if_neg (show ¬ (false = true) by decide)] at H;exact H
                      clear H
                      have H := H1
                      clear H1
                      obtain rfl := Option.some.inj H
                      obtain ⟨hcz54_0,hcz54_1,hcz54_2,hcz54_3,hcz54_4,hcz54_5,hfz54_0,hfz54_1,hfz54_2,hfz54_3,hfz54_4,hfz54_5⟩ := hcq6 ya.out
                      have yP : 0 ≤ (x8_5 : Int) := hFq
                      have yQ : x8_5 < (l0_3.length : Int) := hFq
                      obtain ⟨yY,Yb,yq⟩ := Kd.at_string HR0_3.out x8_5 yP yQ
                      cases Yb
                      replace yq := (HB.out.cell (World.block_lt_of_cell? w _ yq)).trans yq
                      replace yP := eq_true yP
                      replace yQ := eq_true yQ
                      have Yc : 0 ≤ ((ji48) : Int) := hFq
                      have Ye : (ji48) < (l0_3.length : Int) := hFq
                      obtain ⟨Yi,Yp,yM⟩ := Kd.at_string HR0_3.out (ji48) Yc Ye
                      obtain rfl : yY = Yi := (by injection Yp)
                      replace yM := (HB.out.cell (World.block_lt_of_cell? w _ yM)).trans yM
                      replace Yc := eq_true Yc
                      replace Ye := eq_true Ye
                      have Yd : 0 ≤ (x8_5 : Int) := hFq
                      have Yf : x8_5 < (l0_3.length : Int) := hFq
                      obtain ⟨Yj,Yq,yN⟩ := Kd.at_string HR0_3.out x8_5 Yd Yf
                      obtain rfl : yY = Yj := (by injection Yq)
                      replace yN := (HB.out.cell (World.block_lt_of_cell? w _ yN)).trans yN
                      replace Yd := eq_true Yd
                      replace Yf := eq_true Yf
                      go_wp2_with (first | (go_at_call 79;(with_reducible refine (zG.calls k5 (zz ByteArray.empty l0_3 (ji48)) (zz ByteArray.empty l0_3 x8_5) false _ A51.out).mono ?_);rintro e w' ⟨rfl,⟨nd,rfl⟩⟩;(try first | exact ⟨rfl,_,World.drewN_drewN _ _ _⟩ | exact ⟨rfl,_,Eq.trans (World.drewN_drewN _ _ _) (congrArg (World.drewN _) (Nat.add_assoc _ _ _))⟩)))
                      repeat (go_quiet (first | (go_at_call 79;(with_reducible refine (zG.calls k5 (zz ByteArray.empty l0_3 (ji48)) (zz ByteArray.empty l0_3 x8_5) false _ A51.out).mono ?_);rintro e w' ⟨rfl,⟨nd,rfl⟩⟩;(try first | exact ⟨rfl,_,World.drewN_drewN _ _ _⟩ | exact ⟨rfl,_,Eq.trans (World.drewN_drewN _ _ _) (congrArg (World.drewN _) (Nat.add_assoc _ _ _))⟩)));try go_wp2_with (first | (go_at_call 79;(with_reducible refine (zG.calls k5 (zz ByteArray.empty l0_3 (ji48)) (zz ByteArray.empty l0_3 x8_5) false _ A51.out).mono ?_);rintro e w' ⟨rfl,⟨nd,rfl⟩⟩;(try first | exact ⟨rfl,_,World.drewN_drewN _ _ _⟩ | exact ⟨rfl,_,Eq.trans (World.drewN_drewN _ _ _) (congrArg (World.drewN _) (Nat.add_assoc _ _ _))⟩))))
                      go_ret
                      exact ⟨by first | rfl | (simp [zco,zcp] <;> rfl) | (simp only [← hji48];first | rfl | (simp [zco,zcp] <;> rfl)) | (simp [*,zco,zcp] <;> rfl),hCq⟩
                    ·rw [if_neg c50] at H
                     exact absurd H (by simp)
                   ·rw [if_neg c49] at H
                    exact absurd H (by simp)
                  ·rw [if_neg c47] at H
                   have c47b0 : decide (0 < x8_5) = false := decide_eq_false c47
                   clear c47
                   have H' := za.mk H
                   clear H
                   obtain ⟨hcz55_0,hcz55_1,hcz55_2,hcz55_3,hcz55_4,hcz55_5,hfz55_0,hfz55_1,hfz55_2,hfz55_3,hfz55_4,hfz55_5⟩ := hcq6 ya.out
                   have yP : 0 ≤ (x8_5 : Int) := hFq
                   have yQ : x8_5 < (l0_3.length : Int) := hFq
                   obtain ⟨yY,Yb,yq⟩ := Kd.at_string HR0_3.out x8_5 yP yQ
                   cases Yb
                   replace yq := (HB.out.cell (World.block_lt_of_cell? w _ yq)).trans yq
                   replace yP := eq_true yP
                   replace yQ := eq_true yQ
                   go_wp2
                   repeat (go_quiet (fail);try go_wp2)
                   go_roundg k5
                   case measure => have := HJ3.out;have := HK2.out;have := HJ29.out;have := HJ35.out;have := HK5.out;omega
                   case rel => exact ⟨(wrap64 (x8_5 + 1)),(hDq),H',⟨by have := HJ3.out;have := HK2.out;have := HJ29.out;have := HJ35.out;have := HK5.out;omega⟩,⟨hGq ya.out⟩,⟨by repeat (first | (with_reducible first | exact HB.out | apply zl | apply zi | apply zp | refine zm ?_ yF.out) | exact HB.out)⟩⟩
                 ·rw [if_neg c46] at H
                  have c46b0 : (((zz ByteArray.empty l0_3 x8_5).size : Int) == 32) = false := beq_eq_false_iff_ne.mpr c46
                  have c46b1 : (((zz ByteArray.empty l0_3 x8_5).size : Int) != 32) = true := bne_iff_ne.mpr c46
                  obtain rfl := Option.some.inj H
                  obtain ⟨hcz56_0,hcz56_1,hcz56_2,hcz56_3,hcz56_4,hcz56_5,hfz56_0,hfz56_1,hfz56_2,hfz56_3,hfz56_4,hfz56_5⟩ := hcq6 ya.out
                  have yP : 0 ≤ (x8_5 : Int) := hFq
                  have yQ : x8_5 < (l0_3.length : Int) := hFq
                  obtain ⟨yY,Yb,yq⟩ := Kd.at_string HR0_3.out x8_5 yP yQ
                  cases Yb
                  replace yq := (HB.out.cell (World.block_lt_of_cell? w _ yq)).trans yq
                  replace yP := eq_true yP
                  replace yQ := eq_true yQ
                  go_wp2
                  repeat (go_quiet (fail);try go_wp2)
                  go_ret
                  exact ⟨hHq,hCq⟩
                ·rw [if_neg c45] at H
                 exact absurd H (by simp)
               ·rw [if_neg c44] at H
                have c44b0 : decide (x8_5 < (l0_3.length : Int)) = false := decide_eq_false c44
                clear c44
                replace H := Option.bind_eq_some_iff.mp H
                obtain ⟨Ym,Yu,H⟩ := H
                replace H : ((z9.f a0_1).bind fun y9 => (if Ym = true then (if y9 = true then (some true) else (if a0_4 = 0 then (some (a0_5 == 0)) else (some false))) else (some false))) = some r := H
                have A57 := za.mk Yu
                clear Yu
                replace H := Option.bind_eq_some_iff.mp H
                obtain ⟨y9,Yv,H⟩ := H
                replace H : (if Ym = true then (if y9 = true then (some true) else (if a0_4 = 0 then (some (a0_5 == 0)) else (some false))) else (some false)) = some r := H
                have A58 := za.mk Yv
                clear Yv
                by_cases c59 : Ym = true
                focus
                 subst c59
                 have H1 : (if y9 = true then (some true) else (if a0_4 = 0 then (some (a0_5 == 0)) else (some false))) = some r := by rw [if_pos rfl] at H;exact H
                 clear H
                 have H := H1
                 clear H1
                 by_cases c60 : y9 = true
                 focus
                  subst c60
                  have H1 : (some true) = some r := by rw [if_pos rfl] at H;exact H
                  clear H
                  have H := H1
                  clear H1
                  obtain rfl := Option.some.inj H
                  obtain ⟨hcz61_0,hcz61_1,hcz61_2,hcz61_3,hcz61_4,hcz61_5,hfz61_0,hfz61_1,hfz61_2,hfz61_3,hfz61_4,hfz61_5⟩ := hcq6 ya.out
                  have EQ0 := True.intro
                  have EQ1 := True.intro
                 rotate_left
                 focus
                  replace c60 := Bool.eq_false_iff.mpr c60
                  subst c60
                  have H1 : (if a0_4 = 0 then (some (a0_5 == 0)) else (some false)) = some r := by rw [if_neg (show ¬ (false = true) by decide)] at H;exact H
                  clear H
                  have H := H1
                  clear H1
                  by_cases c64 : a0_4 = 0
                  focus
                   rw [if_pos c64] at H
                   have c64b0 : (a0_4 == 0) = true := beq_iff_eq.mpr c64
                   have c64b1 : (a0_4 != 0) = false := bne_eq_false_iff_eq.mpr c64
                   clear c64
                   obtain rfl := Option.some.inj H
                   obtain ⟨hcz65_0,hcz65_1,hcz65_2,hcz65_3,hcz65_4,hcz65_5,hfz65_0,hfz65_1,hfz65_2,hfz65_3,hfz65_4,hfz65_5⟩ := hcq6 ya.out
                   have EQ0 := True.intro
                   have EQ2 := True.intro
                  rotate_left
                  focus
                   rw [if_neg c64] at H
                   have c64b0 : (a0_4 == 0) = false := beq_eq_false_iff_ne.mpr c64
                   have c64b1 : (a0_4 != 0) = true := bne_iff_ne.mpr c64
                   obtain rfl := Option.some.inj H
                   obtain ⟨hcz68_0,hcz68_1,hcz68_2,hcz68_3,hcz68_4,hcz68_5,hfz68_0,hfz68_1,hfz68_2,hfz68_3,hfz68_4,hfz68_5⟩ := hcq6 ya.out
                   have EQ0 := True.intro
                   have EQ2 := True.intro
                rotate_left 3
                focus
                 replace c59 := Bool.eq_false_iff.mpr c59
                 subst c59
                 have H1 : (some false) = some r := by rw [if_neg (show ¬ (false = true) by decide)] at H;exact H
                 clear H
                 have H := H1
                 clear H1
                 obtain rfl := Option.some.inj H
                 obtain ⟨hcz71_0,hcz71_1,hcz71_2,hcz71_3,hcz71_4,hcz71_5,hfz71_0,hfz71_1,hfz71_2,hfz71_3,hfz71_4,hfz71_5⟩ := hcq6 ya.out
                 have EQ3 := True.intro
                all_goals
                 go_wp2_with (first | (have _ := EQ0;(go_at_call 80;(with_reducible refine (zak.calls a0_4 a0_5 true _ A57.out).mono ?_);rintro e yG ⟨rfl,hb⟩;have n_ := haq (hbq ya.out hb) <| haq (ze hCq hb) <| trivial;clear ya HB;obtain ⟨ya,HB,_⟩ := n_;(try clear hb);(try clear hb2);(try clear hk);(try clear hi);obtain ⟨yw,yx,yy,yz,yA,yB,yC,yl,ym,yn,yo,yp⟩ := hcq6 ya.out)) | (have _ := EQ1;(go_at_call 81;(with_reducible refine (z9.calls a0_1 true _ A58.out).mono ?_);rintro e w' ⟨rfl,⟨nd,rfl⟩⟩;(try first | exact ⟨rfl,_,World.drewN_drewN _ _ _⟩ | exact ⟨rfl,_,Eq.trans (World.drewN_drewN _ _ _) (congrArg (World.drewN _) (Nat.add_assoc _ _ _))⟩))) | (have _ := EQ2;(go_at_call 81;(with_reducible refine (z9.calls a0_1 false _ A58.out).mono ?_);rintro e w' ⟨rfl,⟨nd,rfl⟩⟩;(try first | exact ⟨rfl,_,World.drewN_drewN _ _ _⟩ | exact ⟨rfl,_,Eq.trans (World.drewN_drewN _ _ _) (congrArg (World.drewN _) (Nat.add_assoc _ _ _))⟩))) | (have _ := EQ3;(go_at_call 80;(with_reducible refine (zak.calls a0_4 a0_5 false _ A57.out).mono ?_);rintro e yG ⟨rfl,hb⟩;have n_ := haq (hbq ya.out hb) <| haq (ze hCq hb) <| trivial;clear ya HB;obtain ⟨ya,HB,_⟩ := n_;(try clear hb);(try clear hb2);(try clear hk);(try clear hi);obtain ⟨yw,yx,yy,yz,yA,yB,yC,yl,ym,yn,yo,yp⟩ := hcq6 ya.out)) | (have _ := EQ3;(go_at_call 81;(with_reducible refine (z9.calls a0_1 y9 _ A58.out).mono ?_);rintro e w' ⟨rfl,⟨nd,rfl⟩⟩;(try first | exact ⟨rfl,_,World.drewN_drewN _ _ _⟩ | exact ⟨rfl,_,Eq.trans (World.drewN_drewN _ _ _) (congrArg (World.drewN _) (Nat.add_assoc _ _ _))⟩))))
                 first | (have _ := EQ1;repeat (go_quiet (first | (go_at_call 80;(with_reducible refine (zak.calls a0_4 a0_5 true _ A57.out).mono ?_);rintro e yG ⟨rfl,hb⟩;have n_ := haq (hbq ya.out hb) <| haq (ze hCq hb) <| trivial;clear ya HB;obtain ⟨ya,HB,_⟩ := n_;(try clear hb);(try clear hb2);(try clear hk);(try clear hi);obtain ⟨yw,yx,yy,yz,yA,yB,yC,yl,ym,yn,yo,yp⟩ := hcq6 ya.out) | (go_at_call 81;(with_reducible refine (z9.calls a0_1 true _ A58.out).mono ?_);rintro e w' ⟨rfl,⟨nd,rfl⟩⟩;(try first | exact ⟨rfl,_,World.drewN_drewN _ _ _⟩ | exact ⟨rfl,_,Eq.trans (World.drewN_drewN _ _ _) (congrArg (World.drewN _) (Nat.add_assoc _ _ _))⟩)));try go_wp2_with (first | (go_at_call 80;(with_reducible refine (zak.calls a0_4 a0_5 true _ A57.out).mono ?_);rintro e yG ⟨rfl,hb⟩;have n_ := haq (hbq ya.out hb) <| haq (ze hCq hb) <| trivial;clear ya HB;obtain ⟨ya,HB,_⟩ := n_;(try clear hb);(try clear hb2);(try clear hk);(try clear hi);obtain ⟨yw,yx,yy,yz,yA,yB,yC,yl,ym,yn,yo,yp⟩ := hcq6 ya.out) | (go_at_call 81;(with_reducible refine (z9.calls a0_1 true _ A58.out).mono ?_);rintro e w' ⟨rfl,⟨nd,rfl⟩⟩;(try first | exact ⟨rfl,_,World.drewN_drewN _ _ _⟩ | exact ⟨rfl,_,Eq.trans (World.drewN_drewN _ _ _) (congrArg (World.drewN _) (Nat.add_assoc _ _ _))⟩))))) | (have _ := EQ2;repeat (go_quiet (first | (go_at_call 80;(with_reducible refine (zak.calls a0_4 a0_5 true _ A57.out).mono ?_);rintro e yG ⟨rfl,hb⟩;have n_ := haq (hbq ya.out hb) <| haq (ze hCq hb) <| trivial;clear ya HB;obtain ⟨ya,HB,_⟩ := n_;(try clear hb);(try clear hb2);(try clear hk);(try clear hi);obtain ⟨yw,yx,yy,yz,yA,yB,yC,yl,ym,yn,yo,yp⟩ := hcq6 ya.out) | (go_at_call 81;(with_reducible refine (z9.calls a0_1 false _ A58.out).mono ?_);rintro e w' ⟨rfl,⟨nd,rfl⟩⟩;(try first | exact ⟨rfl,_,World.drewN_drewN _ _ _⟩ | exact ⟨rfl,_,Eq.trans (World.drewN_drewN _ _ _) (congrArg (World.drewN _) (Nat.add_assoc _ _ _))⟩)));try go_wp2_with (first | (go_at_call 80;(with_reducible refine (zak.calls a0_4 a0_5 true _ A57.out).mono ?_);rintro e yG ⟨rfl,hb⟩;have n_ := haq (hbq ya.out hb) <| haq (ze hCq hb) <| trivial;clear ya HB;obtain ⟨ya,HB,_⟩ := n_;(try clear hb);(try clear hb2);(try clear hk);(try clear hi);obtain ⟨yw,yx,yy,yz,yA,yB,yC,yl,ym,yn,yo,yp⟩ := hcq6 ya.out) | (go_at_call 81;(with_reducible refine (z9.calls a0_1 false _ A58.out).mono ?_);rintro e w' ⟨rfl,⟨nd,rfl⟩⟩;(try first | exact ⟨rfl,_,World.drewN_drewN _ _ _⟩ | exact ⟨rfl,_,Eq.trans (World.drewN_drewN _ _ _) (congrArg (World.drewN _) (Nat.add_assoc _ _ _))⟩))))) | (have _ := EQ3;repeat (go_quiet (first | (go_at_call 80;(with_reducible refine (zak.calls a0_4 a0_5 false _ A57.out).mono ?_);rintro e yG ⟨rfl,hb⟩;have n_ := haq (hbq ya.out hb) <| haq (ze hCq hb) <| trivial;clear ya HB;obtain ⟨ya,HB,_⟩ := n_;(try clear hb);(try clear hb2);(try clear hk);(try clear hi);obtain ⟨yw,yx,yy,yz,yA,yB,yC,yl,ym,yn,yo,yp⟩ := hcq6 ya.out) | (go_at_call 81;(with_reducible refine (z9.calls a0_1 y9 _ A58.out).mono ?_);rintro e w' ⟨rfl,⟨nd,rfl⟩⟩;(try first | exact ⟨rfl,_,World.drewN_drewN _ _ _⟩ | exact ⟨rfl,_,Eq.trans (World.drewN_drewN _ _ _) (congrArg (World.drewN _) (Nat.add_assoc _ _ _))⟩)));try go_wp2_with (first | (go_at_call 80;(with_reducible refine (zak.calls a0_4 a0_5 false _ A57.out).mono ?_);rintro e yG ⟨rfl,hb⟩;have n_ := haq (hbq ya.out hb) <| haq (ze hCq hb) <| trivial;clear ya HB;obtain ⟨ya,HB,_⟩ := n_;(try clear hb);(try clear hb2);(try clear hk);(try clear hi);obtain ⟨yw,yx,yy,yz,yA,yB,yC,yl,ym,yn,yo,yp⟩ := hcq6 ya.out) | (go_at_call 81;(with_reducible refine (z9.calls a0_1 y9 _ A58.out).mono ?_);rintro e w' ⟨rfl,⟨nd,rfl⟩⟩;(try first | exact ⟨rfl,_,World.drewN_drewN _ _ _⟩ | exact ⟨rfl,_,Eq.trans (World.drewN_drewN _ _ _) (congrArg (World.drewN _) (Nat.add_assoc _ _ _))⟩)))))
                 go_ret
                 exact ⟨hHq,hCq⟩
def zu.l0 : Nat → List ByteArray → Int → Int → Int → List (S75) → List ByteArray → Int → Int → Option (ByteArray × Int)
 | 0,_,_,_,_,_,_,_,_ => none
 | k + 1,x7,x8,yp,yq,yi,yr,yt,yu => if x8 < (yi.length : Int) then (if 0 ≤ x8 then ((zac.f k ((zO yi x8).f0) ((zO yi x8).f1) ((zO yi x8).f2)).bind fun yP => (if x7.length < 8796093022208 then (zu.l0 k (x7 ++ [yP.1]) (wrap64 (x8 + 1)) yp yq yi yr yt yu) else (none))) else (none)) else ((zr.f k (IntKind.u64.wrap (yp))).bind fun yc => ((zr.f k (IntKind.u64.wrap (yq))).bind fun yb => (if yc.size + yb.size ≤ 9223372036854775807 then ((zL.f x7).bind fun yd => (if (yc ++ yb).size + yd.size ≤ 9223372036854775807 then ((zL.f yr).bind fun ye => (if ((yc ++ yb) ++ yd).size + ye.size ≤ 9223372036854775807 then ((zr.f k (IntKind.u64.wrap (yt))).bind fun yf => (if (((yc ++ yb) ++ yd) ++ ye).size + yf.size ≤ 9223372036854775807 then ((zr.f k (IntKind.u64.wrap (yu))).bind fun yh => (if ((((yc ++ yb) ++ yd) ++ ye) ++ yf).size + yh.size ≤ 9223372036854775807 then (some (((((yc ++ yb) ++ yd) ++ ye) ++ yf) ++ yh,0)) else (none))) else (none))) else (none))) else (none))) else (none))))
def zu.f (k : Nat) (a0_0 : Int) (a0_1 : Int) (l0_2 : List (S75)) (l0_3 : List ByteArray) (a0_4 : Int) (a0_5 : Int) (a1 : Int) : Option (ByteArray × Int) := (zj.f k a0_0 a0_1 l0_2 l0_3 a0_4 a0_5 a1).bind fun yv => (if yv = true then (zu.l0 k ([] : List ByteArray) 0 a0_0 a0_1 l0_2 l0_3 a0_4 a0_5) else (some ((⟨#[]⟩ : ByteArray),1)))
def zu.T10 : Bool × List (List Nat × List Nat) := (true,[([],[]),([0],[0]),([1],[1]),([2],[2]),([],[]),([4],[4]),([5],[5]),([6,3],[6]),([3,7],[3,7]),([],[]),([9,7],[9]),([8,10],[8,10]),([],[]),([12],[12]),([13,10],[13]),([11,14],[11,14]),([15,14,0,1,2,3,4,5,6,7,8,9,10,11,12,13,14,15],[15])])
def zu.B10 : List Nat := [0,1,3,7,0,16,48,127,255,0,767,2047,0,4096,14079,32767,65535]
theorem zu.tab10 : zb5 .any (zdW Tryz.f39 10) = zu.T10 := by kernel_rfl
theorem zu.bits10 : zbJ zu.T10.2 zu.B10 = true := by kernel_rfl
def zu.T11 : Bool × List (List Nat × List Nat) := (true,[([],[]),([],[]),([1],[1]),([2],[2]),([3],[3]),([4],[4]),([0,5],[0,5]),([],[]),([7],[7]),([8],[8]),([9],[9]),([10,5],[10]),([6,11],[6,11]),([12,11,0,1,2,3,4,5,6,7,8,9,10,11,12],[12]),([13,0,1,2,3,4,5,6,7,8,9,10,11,12,13],[])])
def zu.B11 : List Nat := [0,0,2,6,14,30,63,0,128,384,896,1982,4095,8191,16383]
theorem zu.tab11 : zb5 .any (zdW Tryz.f39 11) = zu.T11 := by kernel_rfl
theorem zu.bits11 : zbJ zu.T11.2 zu.B11 = true := by kernel_rfl
set_option maxHeartbeats 8000000 in
set_option maxRecDepth 100000 in
theorem zu.calls (k : Nat) (a0_0 : Int) (a0_1 : Int) (A0_2 : Option Addr) (c0_2 : Nat) (l0_2 : List (S75)) (A0_3 : Option Addr) (c0_3 : Nat) (l0_3 : List ByteArray) (a0_4 : Int) (a0_5 : Int) (a1 : Int) (r1 : ByteArray) (r2 : Int) (w : World) (hr0_2 : Kd.C k75 w A0_2 l0_2.length l0_2) (hc0_2 : l0_2.length ≤ c0_2) (hr0_3 : Kd.C Kd.string w A0_3 l0_3.length l0_3) (hc0_3 : l0_3.length ≤ c0_3) (h : zu.f k a0_0 a0_1 l0_2 l0_3 a0_4 a0_5 a1 = some (r1,r2)) :
  Calls Tryz.prog 39 #[.agg #[.int .i64 a0_0,.int .i64 a0_1,.slice A0_2 l0_2.length c0_2,.slice A0_3 l0_3.length c0_3,.int .i64 a0_4,.int .i64 a0_5],.int .i64 a1] w fun e w' => e = .returned (.tuple #[.string r1,.int .i64 r2]) ∧ Below w.heap.size w w' := by
 have hu35 := Tryz.underlying35
 have hu75 := Tryz.underlying75
 have HR0_2 := za.mk hr0_2
 have HC0_2 := za.mk hc0_2
 clear hr0_2 hc0_2
 have HR0_3 := za.mk hr0_3
 have HC0_3 := za.mk hc0_3
 clear hr0_3 hc0_3
 have HB := za.mk (Below.refl w.heap.size w)
 have H : ((zj.f k a0_0 a0_1 l0_2 l0_3 a0_4 a0_5 a1).bind fun yv => (if yv = true then (zu.l0 k ([] : List ByteArray) 0 a0_0 a0_1 l0_2 l0_3 a0_4 a0_5) else (some ((⟨#[]⟩ : ByteArray),1)))) = some (r1,r2) := h
 clear h
 replace H := Option.bind_eq_some_iff.mp H
 obtain ⟨yv,A30,H⟩ := H
 replace H : (if yv = true then (zu.l0 k ([] : List ByteArray) 0 a0_0 a0_1 l0_2 l0_3 a0_4 a0_5) else (some ((⟨#[]⟩ : ByteArray),1))) = some (r1,r2) := H
 have A3 := za.mk A30
 clear A30
 by_cases c4 : yv = true
 ·subst c4
  have H1 : (zu.l0 k ([] : List ByteArray) 0 a0_0 a0_1 l0_2 l0_3 a0_4 a0_5) = some (r1,r2) := by rw [if_pos rfl] at H;exact H
  clear H
  have H := H1
  clear H1
  have H' := za.mk H
  clear H
  go_enter Tryz.func39,Tryz.ntmps39
  go_wp2_with (first | ((with_reducible refine zq (N := 2) rfl ?_);refine zn rfl (N := 2) rfl (cs := #[.int .i64 a0_0,.int .i64 a0_1,.slice A0_2 l0_2.length c0_2,.slice A0_3 l0_3.length c0_3,.int .i64 a0_4,.int .i64 a0_5]) (t := 35) hrq ?_;intro yg hg w5 hbox hb;have n_ := haq (ze hBq hb) <| haq (hbox) <| haq ((by rw [hg];exact (zh hBq) : w.heap.size ≤ yg)) <| haq ((by rw [hg];exact (zh hBq) : w.heap.size ≤ yg)) <| trivial;clear HB;obtain ⟨HB,ya,yL,yw,_⟩ := n_;clear hb hbox hg;obtain ⟨hcz6_0,hcz6_1,hcz6_2,hcz6_3,hcz6_4,hcz6_5,hfz6_0,hfz6_1,hfz6_2,hfz6_3,hfz6_4,hfz6_5⟩ := hcq6 ya.out) | ((with_reducible refine zQ (f := 57) rfl ?_);refine zaB (some 14) rfl rfl Tryz.func57 (by kernel_rfl) rfl #[.agg #[.int .i64 a0_0,.int .i64 a0_1,.slice A0_2 l0_2.length c0_2,.slice A0_3 l0_3.length c0_3,.int .i64 a0_4,.int .i64 a0_5],.int .i64 a1] rfl hMq ?_;(with_reducible refine (zj.calls k a0_0 a0_1 _ _ l0_2 _ _ l0_3 a0_4 a0_5 a1 true _ ?side1 ?side2 ?side3 ?side4 A3.out).mono ?_);(case side1 => exact hKq (Kd.C_below HR0_2.out HB.out));(case side2 => exact HC0_2.out);(case side3 => exact hKq (Kd.C_below HR0_3.out HB.out));(case side4 => exact HC0_3.out);rintro e w7 ⟨rfl,hb⟩;refine ⟨_,rfl,?_⟩;have n_ := haq (hbq ya.out hb) <| haq (ze hCq hb) <| trivial;clear ya HB;obtain ⟨ya,HB,_⟩ := n_;(try clear hb);(try clear hb2);(try clear hk);(try clear hi)))
  go_loopg [7,8] k (fun kq v7 v8 w' => ∃ (x7_1 : List ByteArray) (x8_1 : Int),v8 = .int .i64 x8_1 ∧ za (zu.l0 kq x7_1 x8_1 a0_0 a0_1 l0_2 l0_3 a0_4 a0_5 = some (r1,r2)) ∧ za (kq ≤ k) ∧ za (Kd.R Kd.string 9 w' w.heap.size (fun _ => True) v7 x7_1) ∧ za (w'.heap[yg]? = some (.cells #[.int .i64 a0_0,.int .i64 a0_1,(.slice A0_2 l0_2.length c0_2),(.slice A0_3 l0_3.length c0_3),.int .i64 a0_4,.int .i64 a0_5] 35 (0,0))) ∧ za (Below w.heap.size w w'))
  case atStart => exact ⟨(([] : List ByteArray)),(0),(hDq),H',⟨Nat.le_refl _⟩,⟨by first | exact Kd.R_nil _ _ _ _ _ | exact Kd.N_nil _ _ _ _ _ | exact Kd.V_nil _ _ _ _ _ | exact Kd.Q_nil _ _ _ _ _ | exact Kd.S_nil _ _ _ _ _⟩,⟨hGq ya.out⟩,⟨by repeat (first | (with_reducible first | exact HB.out | apply zl | apply zi | apply zp | refine zm ?_ yw.out) | exact HB.out)⟩⟩
  case round =>
   clear H'
   try clear p2;try clear c3;try clear c4;try clear c5;try clear hcz6_0;try clear hcz6_1;try clear hcz6_2;try clear hcz6_3;try clear hcz6_4;try clear hcz6_5;try clear hfz6_0;try clear hfz6_1;try clear hfz6_2;try clear hfz6_3;try clear hfz6_4;try clear hfz6_5
   obtain ⟨x7_1,x8_1,rfl,HA,HK1,HO_7,ya,HB⟩ := hrel
   cases gk with
   | zero => exact absurd HA.out (by simp [zu.l0])
   | succ k1 =>
    have H := HA.out
    clear HA
    simp only [zu.l0] at H
    by_cases c8 : x8_1 < (l0_2.length : Int)
    ·rw [if_pos c8] at H
     have c8b0 : decide (x8_1 < (l0_2.length : Int)) = true := decide_eq_true c8
     clear c8
     by_cases c9 : 0 ≤ x8_1
     ·rw [if_pos c9] at H
      have c9b0 : decide (0 ≤ x8_1) = true := decide_eq_true c9
      clear c9
      replace H := Option.bind_eq_some_iff.mp H
      obtain ⟨⟨yx,yS⟩,yE,H⟩ := H
      replace H : (if x7_1.length < 8796093022208 then (zu.l0 k1 (x7_1 ++ [yx]) (wrap64 (x8_1 + 1)) a0_0 a0_1 l0_2 l0_3 a0_4 a0_5) else (none)) = some (r1,r2) := H
      have A10 := za.mk yE
      clear yE
      by_cases c11 : x7_1.length < 8796093022208
      ·rw [if_pos c11] at H
       have LMc11 := za.mk c11
       clear c11
       obtain ⟨yQ,ym⟩ : ∃ y_ : List ByteArray,y_ = (x7_1 ++ [yx]) := ⟨_,rfl⟩
       replace H : (zu.l0 k1 yQ (wrap64 (x8_1 + 1)) a0_0 a0_1 l0_2 l0_3 a0_4 a0_5) = some (r1,r2) := by first | (rw [ym];with_reducible exact H) | (have H2_ := (Option.bind_some _ _).symm.trans H;rw [ym];with_reducible exact H2_) | (have H2_ := (Option.bind_some _ _).symm.trans H;with_reducible exact H2_) | with_reducible exact H | (rw [ym];exact H) | exact H
       have yN := za.mk ym
       clear ym
       have H' := za.mk H
       clear H
       obtain ⟨hcz12_0,hcz12_1,hcz12_2,hcz12_3,hcz12_4,hcz12_5,hfz12_0,hfz12_1,hfz12_2,hfz12_3,hfz12_4,hfz12_5⟩ := hcq6 ya.out
       have yC : 0 ≤ (x8_1 : Int) := hFq
       have yD : x8_1 < (l0_2.length : Int) := hFq
       obtain ⟨yO,yA,yB,yR,yj,yk,yl,yo,yn⟩ := zcd HR0_2.out x8_1 yC yD
       cases yR
       replace yj := (HB.out.cell (World.block_lt_of_cell? w _ yj)).trans yj
       replace yk := (HB.out.cell (World.block_lt_of_cell? w _ yk)).trans yk
       replace yl := (HB.out.cell (World.block_lt_of_cell? w _ yl)).trans yl
       have yz := za.mk yn
       have yy := za.mk yo
       clear yn yo
       replace yC := eq_true yC
       replace yD := eq_true yD
       go_wp2_with (first | ((with_reducible refine zQ (f := 58) rfl ?_);refine zaB (some 30) rfl rfl Tryz.func58 (by kernel_rfl) rfl #[.agg #[.int .i64 ((zO l0_2 x8_1).f0),.int .i64 ((zO l0_2 x8_1).f1),.slice yA ((zO l0_2 x8_1).f2).length yB]] rfl hMq ?_;(with_reducible refine (zac.calls k1 ((zO l0_2 x8_1).f0) ((zO l0_2 x8_1).f1) _ _ ((zO l0_2 x8_1).f2) yx yS _ ?side1 ?side2 A10.out).mono ?_);(case side1 => exact hKq (Kd.C_below yz.out HB.out));(case side2 => exact yy.out);rintro e w13 ⟨rfl,hb⟩;refine ⟨_,rfl,?_⟩;have n_ := haq (Kd.R_below (hRq HO_7.out) hb) <| haq (hbq ya.out hb) <| haq (ze hCq hb) <| trivial;clear HO_7 ya HB;obtain ⟨HO_7,ya,HB,_⟩ := n_;(try clear hb);(try clear hb2);(try clear hk);(try clear hi)) | ((with_reducible refine zby (b := .append) (xs := #[.tmp 33,.tmp 35]) rfl ?_);at_builtin;refine Kd.R_append Kd.string (w0 := w) w.heap.size rfl (.tmp 33) (.tmp 35) 31 9 (.string ⟨#[]⟩) 16 rfl Tryz.underlying31 info9 rfl (by decide) (by omega) u7 x7_1 yx [.string yx] (fun _ => True) (fun _ => False) rfl rfl ?aP (fun _ hk => hk.elim) ?aF ?aO ?aB ?aS ?aL ?_;(case aP => exact rfl);(case aB => exact hCq);(case aF => exact (fun _ _ => trivial));(case aO => exact (hRq HO_7.out));(case aS => exact (zh hCq));(case aL => have := LMc11.out;omega);intro yT w14 ho hb hg hat;rw [← yN.out] at ho;have n_ := haq (zaL (g := yg) (o := .cells #[.int .i64 a0_0,.int .i64 a0_1,.slice (some yO) l0_2.length c0_2,.slice A0_3 l0_3.length c0_3,.int .i64 a0_4,.int .i64 a0_5] 35 (0,0)) (hGq ya.out) hg (Kd.R_ne HO_7.out ya.out (by decide))) <| haq (hb) <| haq (ho) <| trivial;clear ya HB HO_7;obtain ⟨ya,HB,yM,_⟩ := n_;clear ho hb hg hat))
       go_roundg k1
       case measure => have := HK1.out;omega
       case rel => exact ⟨(yQ),(wrap64 (x8_1 + 1)),(hDq),H',⟨by have := HK1.out;omega⟩,⟨by (with_reducible repeat (first | apply Kd.R_alloc | apply Kd.R_drewN | apply Kd.R_drew));exact yM.out⟩,⟨hGq ya.out⟩,⟨by repeat (first | (with_reducible first | exact HB.out | apply zl | apply zi | apply zp | refine zm ?_ yw.out) | exact HB.out)⟩⟩
      ·rw [if_neg c11] at H
       exact absurd H (by simp)
     ·rw [if_neg c9] at H
      exact absurd H (by simp)
    ·rw [if_neg c8] at H
     have c8b0 : decide (x8_1 < (l0_2.length : Int)) = false := decide_eq_false c8
     clear c8
     replace H := Option.bind_eq_some_iff.mp H
     obtain ⟨yc,yF,H⟩ := H
     replace H : ((zr.f k1 (IntKind.u64.wrap (a0_1))).bind fun yb => (if yc.size + yb.size ≤ 9223372036854775807 then ((zL.f x7_1).bind fun yd => (if (yc ++ yb).size + yd.size ≤ 9223372036854775807 then ((zL.f l0_3).bind fun ye => (if ((yc ++ yb) ++ yd).size + ye.size ≤ 9223372036854775807 then ((zr.f k1 (IntKind.u64.wrap (a0_4))).bind fun yf => (if (((yc ++ yb) ++ yd) ++ ye).size + yf.size ≤ 9223372036854775807 then ((zr.f k1 (IntKind.u64.wrap (a0_5))).bind fun yh => (if ((((yc ++ yb) ++ yd) ++ ye) ++ yf).size + yh.size ≤ 9223372036854775807 then (some (((((yc ++ yb) ++ yd) ++ ye) ++ yf) ++ yh,0)) else (none))) else (none))) else (none))) else (none))) else (none))) = some (r1,r2) := H
     have A15 := za.mk yF
     clear yF
     replace H := Option.bind_eq_some_iff.mp H
     obtain ⟨yb,yG,H⟩ := H
     replace H : (if yc.size + yb.size ≤ 9223372036854775807 then ((zL.f x7_1).bind fun yd => (if (yc ++ yb).size + yd.size ≤ 9223372036854775807 then ((zL.f l0_3).bind fun ye => (if ((yc ++ yb) ++ yd).size + ye.size ≤ 9223372036854775807 then ((zr.f k1 (IntKind.u64.wrap (a0_4))).bind fun yf => (if (((yc ++ yb) ++ yd) ++ ye).size + yf.size ≤ 9223372036854775807 then ((zr.f k1 (IntKind.u64.wrap (a0_5))).bind fun yh => (if ((((yc ++ yb) ++ yd) ++ ye) ++ yf).size + yh.size ≤ 9223372036854775807 then (some (((((yc ++ yb) ++ yd) ++ ye) ++ yf) ++ yh,0)) else (none))) else (none))) else (none))) else (none))) else (none)) = some (r1,r2) := H
     have A16 := za.mk yG
     clear yG
     by_cases c17 : yc.size + yb.size ≤ 9223372036854775807
     ·rw [if_pos c17] at H
      have c17b0 := eq_true c17
      have c17b1 : decide (yc.size + yb.size ≤ 9223372036854775807) = true := decide_eq_true c17
      try have c17b2 : (9223372036854775807 < yc.size + yb.size) = False := eq_false (Nat.not_lt.2 c17)
      replace H := Option.bind_eq_some_iff.mp H
      obtain ⟨yd,yH,H⟩ := H
      replace H : (if (yc ++ yb).size + yd.size ≤ 9223372036854775807 then ((zL.f l0_3).bind fun ye => (if ((yc ++ yb) ++ yd).size + ye.size ≤ 9223372036854775807 then ((zr.f k1 (IntKind.u64.wrap (a0_4))).bind fun yf => (if (((yc ++ yb) ++ yd) ++ ye).size + yf.size ≤ 9223372036854775807 then ((zr.f k1 (IntKind.u64.wrap (a0_5))).bind fun yh => (if ((((yc ++ yb) ++ yd) ++ ye) ++ yf).size + yh.size ≤ 9223372036854775807 then (some (((((yc ++ yb) ++ yd) ++ ye) ++ yf) ++ yh,0)) else (none))) else (none))) else (none))) else (none)) = some (r1,r2) := H
      have A18 := za.mk yH
      clear yH
      by_cases c19 : (yc ++ yb).size + yd.size ≤ 9223372036854775807
      ·rw [if_pos c19] at H
       have c19b0 := eq_true c19
       have c19b1 : decide ((yc ++ yb).size + yd.size ≤ 9223372036854775807) = true := decide_eq_true c19
       try have c19b2 : (9223372036854775807 < (yc ++ yb).size + yd.size) = False := eq_false (Nat.not_lt.2 c19)
       try (have c19b3 := c19;simp [ByteArray.size_append] at c19b3;have c19b4 := eq_false (Nat.not_lt.2 c19b3);clear c19b3)
       replace H := Option.bind_eq_some_iff.mp H
       obtain ⟨ye,yI,H⟩ := H
       replace H : (if ((yc ++ yb) ++ yd).size + ye.size ≤ 9223372036854775807 then ((zr.f k1 (IntKind.u64.wrap (a0_4))).bind fun yf => (if (((yc ++ yb) ++ yd) ++ ye).size + yf.size ≤ 9223372036854775807 then ((zr.f k1 (IntKind.u64.wrap (a0_5))).bind fun yh => (if ((((yc ++ yb) ++ yd) ++ ye) ++ yf).size + yh.size ≤ 9223372036854775807 then (some (((((yc ++ yb) ++ yd) ++ ye) ++ yf) ++ yh,0)) else (none))) else (none))) else (none)) = some (r1,r2) := H
       have A20 := za.mk yI
       clear yI
       by_cases c21 : ((yc ++ yb) ++ yd).size + ye.size ≤ 9223372036854775807
       ·rw [if_pos c21] at H
        have c21b0 := eq_true c21
        have c21b1 : decide (((yc ++ yb) ++ yd).size + ye.size ≤ 9223372036854775807) = true := decide_eq_true c21
        try have c21b2 : (9223372036854775807 < ((yc ++ yb) ++ yd).size + ye.size) = False := eq_false (Nat.not_lt.2 c21)
        try (have c21b3 := c21;simp [ByteArray.size_append] at c21b3;have c21b4 := eq_false (Nat.not_lt.2 c21b3);clear c21b3)
        replace H := Option.bind_eq_some_iff.mp H
        obtain ⟨yf,yJ,H⟩ := H
        replace H : (if (((yc ++ yb) ++ yd) ++ ye).size + yf.size ≤ 9223372036854775807 then ((zr.f k1 (IntKind.u64.wrap (a0_5))).bind fun yh => (if ((((yc ++ yb) ++ yd) ++ ye) ++ yf).size + yh.size ≤ 9223372036854775807 then (some (((((yc ++ yb) ++ yd) ++ ye) ++ yf) ++ yh,0)) else (none))) else (none)) = some (r1,r2) := H
        have A22 := za.mk yJ
        clear yJ
        by_cases c23 : (((yc ++ yb) ++ yd) ++ ye).size + yf.size ≤ 9223372036854775807
        ·rw [if_pos c23] at H
         have c23b0 := eq_true c23
         have c23b1 : decide ((((yc ++ yb) ++ yd) ++ ye).size + yf.size ≤ 9223372036854775807) = true := decide_eq_true c23
         try have c23b2 : (9223372036854775807 < (((yc ++ yb) ++ yd) ++ ye).size + yf.size) = False := eq_false (Nat.not_lt.2 c23)
         try (have c23b3 := c23;simp [ByteArray.size_append] at c23b3;have c23b4 := eq_false (Nat.not_lt.2 c23b3);clear c23b3)
         replace H := Option.bind_eq_some_iff.mp H
         obtain ⟨yh,yK,H⟩ := H
         replace H : (if ((((yc ++ yb) ++ yd) ++ ye) ++ yf).size + yh.size ≤ 9223372036854775807 then (some (((((yc ++ yb) ++ yd) ++ ye) ++ yf) ++ yh,0)) else (none)) = some (r1,r2) := H
         have A24 := za.mk yK
         clear yK
         by_cases c25 : ((((yc ++ yb) ++ yd) ++ ye) ++ yf).size + yh.size ≤ 9223372036854775807
         ·rw [if_pos c25] at H
          have c25b0 := eq_true c25
          have c25b1 : decide (((((yc ++ yb) ++ yd) ++ ye) ++ yf).size + yh.size ≤ 9223372036854775807) = true := decide_eq_true c25
          try have c25b2 : (9223372036854775807 < ((((yc ++ yb) ++ yd) ++ ye) ++ yf).size + yh.size) = False := eq_false (Nat.not_lt.2 c25)
          try (have c25b3 := c25;simp [ByteArray.size_append] at c25b3;have c25b4 := eq_false (Nat.not_lt.2 c25b3);clear c25b3)
          simp only [Option.some.injEq,Prod.mk.injEq] at H
          obtain ⟨rfl,rfl⟩ := H
          obtain ⟨hcz26_0,hcz26_1,hcz26_2,hcz26_3,hcz26_4,hcz26_5,hfz26_0,hfz26_1,hfz26_2,hfz26_3,hfz26_4,hfz26_5⟩ := hcq6 ya.out
          try go_wp2
          have n0_ := za.mk (Kd.R_drew HO_7.out)
          have n1_ := za.mk (zaf ya.out)
          have n2_ := za.mk (zp HB.out)
          clear HO_7
          clear ya
          clear HB
          have HO_7 := n0_
          have ya := n1_
          have HB := n2_
          clear n0_ n1_ n2_
          refine zbV (n := 17) (S := fun w' => w'.cell? ⟨yg,0,none⟩ = some (.int .i64 a0_0) ∧ w'.cell? ⟨yg,1,none⟩ = some (.int .i64 a0_1) ∧ w'.cell? ⟨yg,2,none⟩ = some (.slice A0_2 l0_2.length c0_2) ∧ w'.cell? ⟨yg,3,none⟩ = some (.slice A0_3 l0_3.length c0_3) ∧ w'.cell? ⟨yg,4,none⟩ = some (.int .i64 a0_4) ∧ w'.cell? ⟨yg,5,none⟩ = some (.int .i64 a0_5)) (ds := []) (uQ 17 0) (by kernel_rfl) rfl rfl ⟨(zb ya.out 0).trans rfl,(zb ya.out 1).trans rfl,(zb ya.out 2).trans rfl,(zb ya.out 3).trans rfl,(zb ya.out 4).trans rfl,(zb ya.out 5).trans rfl⟩ (fun hHeld => ?_);refine zaQ zu.tab10 zu.bits10 (fun HT_ HW_ => ?_)
          generalize wr.drew = w27 at HO_7 ya HB hHeld ⊢
          refine puq (i := 0) (N := some 37) HT_.out (uQ 17 1) ?_
          refine puq (i := 4) (N := some 41) HT_.out #[true,false,false,false,true,false,false,false,false,false,false,false,false,false,false,false,false] ?_
          refine puq (i := 9) (N := some 46) HT_.out #[true,false,false,false,true,false,false,false,false,true,false,false,false,false,false,false,false] ?_
          refine puq (i := 12) (N := some 49) HT_.out #[true,false,false,false,true,false,false,false,false,true,false,false,true,false,false,false,false] ?_
          refine take_ (i := 1) (N := some 38) #[true,true,false,false,true,false,false,false,false,true,false,false,true,false,false,false,false] rfl rfl (zU HT_.out HW_.out (by kernel_rfl)) (fun _ _ _ h => h) (Or.inl ⟨by rfl,by rintro w' ⟨s0,s1,s2,s3,s4,s5⟩;go_simp;with_reducible rfl⟩) hHeld hPq ?_
          refine puq (i := 2) (N := some 39) HT_.out #[true,true,true,false,true,false,false,false,false,true,false,false,true,false,false,false,false] ?_
          refine take_ (i := 5) (N := some 42) #[true,true,true,false,true,true,false,false,false,true,false,false,true,false,false,false,false] rfl rfl (zU HT_.out HW_.out (by kernel_rfl)) (fun _ _ _ h => h) (Or.inl ⟨by rfl,by rintro w' ⟨s0,s1,s2,s3,s4,s5⟩;go_simp;with_reducible rfl⟩) hHeld hPq ?_
          refine puq (i := 6) (N := some 43) HT_.out #[true,true,true,false,true,true,true,false,false,true,false,false,true,false,false,false,false] ?_
          refine take_ (i := 13) (N := some 50) #[true,true,true,false,true,true,true,false,false,true,false,false,true,true,false,false,false] rfl rfl (zU HT_.out HW_.out (by kernel_rfl)) (fun _ _ _ h => h) (Or.inl ⟨by rfl,by rintro w' ⟨s0,s1,s2,s3,s4,s5⟩;go_simp;with_reducible rfl⟩) hHeld hPq ?_
          refine zct (i := 3) (N := some 40) #[true,true,true,true,true,true,true,false,false,true,false,false,true,true,false,false,false] rfl rfl (za0 HT_.out (by kernel_rfl)) (by decide) (fun K hK => ?_)
          refine zbG Tryz.func59 (by kernel_rfl) rfl #[.int .u64 (IntKind.u64.wrap (a0_0))] (by rfl) rfl rfl hMq ?_
          with_reducible refine (zr.calls k1 (IntKind.u64.wrap (a0_0)) yc _ A15.out).mono ?_
          rintro e w28 ⟨rfl,hb⟩
          refine ⟨_,rfl,?_⟩
          have n0_ := za.mk (Kd.R_below (hRq HO_7.out) hb)
          have n1_ := za.mk (hbq ya.out hb)
          have n2_ := za.mk (ze hCq hb)
          clear HO_7
          clear ya
          clear HB
          have HO_7 := n0_
          have ya := n1_
          have HB := n2_
          clear n0_ n1_ n2_
          (try clear hb)
          (try clear hb2)
          (try clear hk)
          (try clear hi)
          refine hK.out _ _ ⟨(zb ya.out 0).trans rfl,(zb ya.out 1).trans rfl,(zb ya.out 2).trans rfl,(zb ya.out 3).trans rfl,(zb ya.out 4).trans rfl,(zb ya.out 5).trans rfl⟩ (fun hHeld => ?_)
          clear hK K
          refine za5 (a' := ?_) ?_ ?_
          rotate_left
          ·show Act.put _ (some 40) _ = _
           simp only [Act.put,List.setIfInBounds_toArray,List.set_cons_zero,List.set_cons_succ,zam,zap]
           rfl
          refine zct (i := 7) (N := some 44) #[true,true,true,true,true,true,true,true,false,true,false,false,true,true,false,false,false] rfl rfl (za0 HT_.out (by kernel_rfl)) (by decide) (fun K hK => ?_)
          refine zbG Tryz.func59 (by kernel_rfl) rfl #[.int .u64 (IntKind.u64.wrap (a0_1))] (by rfl) rfl rfl hMq ?_
          with_reducible refine (zr.calls k1 (IntKind.u64.wrap (a0_1)) yb _ A16.out).mono ?_
          rintro e w29 ⟨rfl,hb⟩
          refine ⟨_,rfl,?_⟩
          have n0_ := za.mk (Kd.R_below (hRq HO_7.out) hb)
          have n1_ := za.mk (hbq ya.out hb)
          have n2_ := za.mk (ze hCq hb)
          clear HO_7
          clear ya
          clear HB
          have HO_7 := n0_
          have ya := n1_
          have HB := n2_
          clear n0_ n1_ n2_
          (try clear hb)
          (try clear hb2)
          (try clear hk)
          (try clear hi)
          obtain ⟨Ao30,co30,eo30⟩ := Kd.R_slice HO_7.out
          (first | subst eo30 | (injection eo30 with f1_ f2_ f3_;have f4_ := f1_.symm;have f5_ := f3_.symm;clear f1_ f2_ f3_;subst f4_;subst f5_))
          refine hK.out _ _ ⟨(zb ya.out 0).trans rfl,(zb ya.out 1).trans rfl,(zb ya.out 2).trans rfl,(zb ya.out 3).trans rfl,(zb ya.out 4).trans rfl,(zb ya.out 5).trans rfl⟩ (fun hHeld => ?_)
          clear hK K
          refine za5 (a' := ?_) ?_ ?_
          rotate_left
          ·show Act.put _ (some 44) _ = _
           simp only [Act.put,List.setIfInBounds_toArray,List.set_cons_zero,List.set_cons_succ,zam,zap]
           rfl
          refine puq (i := 8) (N := some 45) HT_.out #[true,true,true,true,true,true,true,true,true,true,false,false,true,true,false,false,false] ?_
          refine zct (i := 10) (N := some 47) #[true,true,true,true,true,true,true,true,true,true,true,false,true,true,false,false,false] rfl rfl (za0 HT_.out (by kernel_rfl)) (by decide) (fun K hK => ?_)
          refine zbG Tryz.func60 (by kernel_rfl) rfl #[.slice Ao30 x7_1.length co30] (by rfl) rfl rfl hMq ?_
          with_reducible refine (zL.calls _ _ x7_1 yd _ ?side1 ?side2 A18.out).mono ?_
          (case side1 => repeat (first | exact (Kd.R_reads' HO_7.out).2.2 | (with_reducible refine Kd.C_alloc ?_ _) | (with_reducible refine Kd.C_drewN ?_ _) | (with_reducible refine Kd.C_drew ?_)))
          (case side2 => exact (Kd.R_reads' HO_7.out).2.1)
          rintro e w31 ⟨rfl,hb⟩
          refine ⟨_,rfl,?_⟩
          have n0_ := za.mk (Kd.R_below (hRq HO_7.out) hb)
          have n1_ := za.mk (hbq ya.out hb)
          have n2_ := za.mk (ze hCq hb)
          clear HO_7
          clear ya
          clear HB
          have HO_7 := n0_
          have ya := n1_
          have HB := n2_
          clear n0_ n1_ n2_
          (try clear hb)
          (try clear hb2)
          (try clear hk)
          (try clear hi)
          refine hK.out _ _ ⟨(zb ya.out 0).trans rfl,(zb ya.out 1).trans rfl,(zb ya.out 2).trans rfl,(zb ya.out 3).trans rfl,(zb ya.out 4).trans rfl,(zb ya.out 5).trans rfl⟩ (fun hHeld => ?_)
          clear hK K
          refine za5 (a' := ?_) ?_ ?_
          rotate_left
          ·show Act.put _ (some 47) _ = _
           simp only [Act.put,List.setIfInBounds_toArray,List.set_cons_zero,List.set_cons_succ,zam,zap]
           rfl
          refine puq (i := 11) (N := some 48) HT_.out (uQ 17 14) ?_
          refine zct (i := 14) (N := some 51) (uQ 17 15) rfl rfl (za0 HT_.out (by kernel_rfl)) (by decide) (fun K hK => ?_)
          refine zbG Tryz.func60 (by kernel_rfl) rfl #[.slice A0_3 l0_3.length c0_3] (by rfl) rfl rfl hMq ?_
          with_reducible refine (zL.calls _ _ l0_3 ye _ ?side1 ?side2 A20.out).mono ?_
          (case side1 => exact hKq (Kd.C_below HR0_3.out HB.out))
          (case side2 => exact HC0_3.out)
          rintro e w32 ⟨rfl,hb⟩
          refine ⟨_,rfl,?_⟩
          have n0_ := za.mk (Kd.R_below (hRq HO_7.out) hb)
          have n1_ := za.mk (hbq ya.out hb)
          have n2_ := za.mk (ze hCq hb)
          clear HO_7
          clear ya
          clear HB
          have HO_7 := n0_
          have ya := n1_
          have HB := n2_
          clear n0_ n1_ n2_
          (try clear hb)
          (try clear hb2)
          (try clear hk)
          (try clear hi)
          refine hK.out _ _ ⟨(zb ya.out 0).trans rfl,(zb ya.out 1).trans rfl,(zb ya.out 2).trans rfl,(zb ya.out 3).trans rfl,(zb ya.out 4).trans rfl,(zb ya.out 5).trans rfl⟩ (fun hHeld => ?_)
          clear hK K
          refine za5 (a' := ?_) ?_ ?_
          rotate_left
          ·show Act.put _ (some 51) _ = _
           simp only [Act.put,List.setIfInBounds_toArray,List.set_cons_zero,List.set_cons_succ,zam,zap]
           rfl
          refine puq (i := 15) (N := some 52) HT_.out (uQ 17 16) ?_
          refine puq (i := 16) (N := some 11) HT_.out (uQ 17 17) ?_
          refine zbX (zaX HT_.out (by kernel_rfl)) ?_
          try go_wp2
          have n0_ := za.mk (Kd.R_drew HO_7.out)
          have n1_ := za.mk (zaf ya.out)
          have n2_ := za.mk (zp HB.out)
          clear HO_7
          clear ya
          clear HB
          have HO_7 := n0_
          have ya := n1_
          have HB := n2_
          clear n0_ n1_ n2_
          refine zbV (n := 15) (S := fun w' => w'.cell? ⟨yg,0,none⟩ = some (.int .i64 a0_0) ∧ w'.cell? ⟨yg,1,none⟩ = some (.int .i64 a0_1) ∧ w'.cell? ⟨yg,2,none⟩ = some (.slice A0_2 l0_2.length c0_2) ∧ w'.cell? ⟨yg,3,none⟩ = some (.slice A0_3 l0_3.length c0_3) ∧ w'.cell? ⟨yg,4,none⟩ = some (.int .i64 a0_4) ∧ w'.cell? ⟨yg,5,none⟩ = some (.int .i64 a0_5)) (ds := []) (uQ 15 0) (by kernel_rfl) rfl rfl ⟨(zb ya.out 0).trans rfl,(zb ya.out 1).trans rfl,(zb ya.out 2).trans rfl,(zb ya.out 3).trans rfl,(zb ya.out 4).trans rfl,(zb ya.out 5).trans rfl⟩ (fun hHeld => ?_);refine zaQ zu.tab11 zu.bits11 (fun HT_ HW_ => ?_)
          generalize w32.drew = w33 at HO_7 ya HB hHeld ⊢
          refine puq (i := 0) (N := some 53) HT_.out (uQ 15 1) ?_
          refine puq (i := 1) (N := some 54) HT_.out (uQ 15 2) ?_
          refine puq (i := 2) (N := some 55) HT_.out (uQ 15 3) ?_
          refine puq (i := 7) (N := some 60) HT_.out #[true,true,true,false,false,false,false,true,false,false,false,false,false,false,false] ?_
          refine puq (i := 8) (N := some 61) HT_.out #[true,true,true,false,false,false,false,true,true,false,false,false,false,false,false] ?_
          refine take_ (i := 3) (N := some 56) #[true,true,true,true,false,false,false,true,true,false,false,false,false,false,false] rfl rfl (zU HT_.out HW_.out (by kernel_rfl)) (fun _ _ _ h => h) (Or.inl ⟨by rfl,by rintro w' ⟨s0,s1,s2,s3,s4,s5⟩;go_simp;with_reducible rfl⟩) hHeld hPq ?_
          refine puq (i := 4) (N := some 57) HT_.out #[true,true,true,true,true,false,false,true,true,false,false,false,false,false,false] ?_
          refine take_ (i := 9) (N := some 62) #[true,true,true,true,true,false,false,true,true,true,false,false,false,false,false] rfl rfl (zU HT_.out HW_.out (by kernel_rfl)) (fun _ _ _ h => h) (Or.inl ⟨by rfl,by rintro w' ⟨s0,s1,s2,s3,s4,s5⟩;go_simp;with_reducible rfl⟩) hHeld hPq ?_
          refine puq (i := 10) (N := some 63) HT_.out #[true,true,true,true,true,false,false,true,true,true,true,false,false,false,false] ?_
          refine zct (i := 5) (N := some 58) #[true,true,true,true,true,true,false,true,true,true,true,false,false,false,false] rfl rfl (za0 HT_.out (by kernel_rfl)) (by decide) (fun K hK => ?_)
          refine zbG Tryz.func59 (by kernel_rfl) rfl #[.int .u64 (IntKind.u64.wrap (a0_4))] (by rfl) rfl rfl hMq ?_
          with_reducible refine (zr.calls k1 (IntKind.u64.wrap (a0_4)) yf _ A22.out).mono ?_
          rintro e w34 ⟨rfl,hb⟩
          refine ⟨_,rfl,?_⟩
          have n0_ := za.mk (Kd.R_below (hRq HO_7.out) hb)
          have n1_ := za.mk (hbq ya.out hb)
          have n2_ := za.mk (ze hCq hb)
          clear HO_7
          clear ya
          clear HB
          have HO_7 := n0_
          have ya := n1_
          have HB := n2_
          clear n0_ n1_ n2_
          (try clear hb)
          (try clear hb2)
          (try clear hk)
          (try clear hi)
          refine hK.out _ _ ⟨(zb ya.out 0).trans rfl,(zb ya.out 1).trans rfl,(zb ya.out 2).trans rfl,(zb ya.out 3).trans rfl,(zb ya.out 4).trans rfl,(zb ya.out 5).trans rfl⟩ (fun hHeld => ?_)
          clear hK K
          refine za5 (a' := ?_) ?_ ?_
          rotate_left
          ·show Act.put _ (some 58) _ = _
           simp only [Act.put,List.setIfInBounds_toArray,List.set_cons_zero,List.set_cons_succ,zam,zap]
           rfl
          refine puq (i := 6) (N := some 59) HT_.out (uQ 15 11) ?_
          refine zct (i := 11) (N := some 64) (uQ 15 12) rfl rfl (za0 HT_.out (by kernel_rfl)) (by decide) (fun K hK => ?_)
          refine zbG Tryz.func59 (by kernel_rfl) rfl #[.int .u64 (IntKind.u64.wrap (a0_5))] (by rfl) rfl rfl hMq ?_
          with_reducible refine (zr.calls k1 (IntKind.u64.wrap (a0_5)) yh _ A24.out).mono ?_
          rintro e w35 ⟨rfl,hb⟩
          refine ⟨_,rfl,?_⟩
          have n0_ := za.mk (Kd.R_below (hRq HO_7.out) hb)
          have n1_ := za.mk (hbq ya.out hb)
          have n2_ := za.mk (ze hCq hb)
          clear HO_7
          clear ya
          clear HB
          have HO_7 := n0_
          have ya := n1_
          have HB := n2_
          clear n0_ n1_ n2_
          (try clear hb)
          (try clear hb2)
          (try clear hk)
          (try clear hi)
          refine hK.out _ _ ⟨(zb ya.out 0).trans rfl,(zb ya.out 1).trans rfl,(zb ya.out 2).trans rfl,(zb ya.out 3).trans rfl,(zb ya.out 4).trans rfl,(zb ya.out 5).trans rfl⟩ (fun hHeld => ?_)
          clear hK K
          refine za5 (a' := ?_) ?_ ?_
          rotate_left
          ·show Act.put _ (some 64) _ = _
           simp only [Act.put,List.setIfInBounds_toArray,List.set_cons_zero,List.set_cons_succ,zam,zap]
           rfl
          refine puq (i := 12) (N := some 65) HT_.out (uQ 15 13) ?_
          refine puq (i := 13) (N := some 4) HT_.out (uQ 15 14) ?_
          refine puq (i := 14) (N := some 5) HT_.out (uQ 15 15) ?_
          refine zbX (zaX HT_.out (by kernel_rfl)) ?_
          try go_wp2
          go_ret2
          exact ⟨hHq,hCq⟩
         ·rw [if_neg c25] at H
          exact absurd H (by simp)
        ·rw [if_neg c23] at H
         exact absurd H (by simp)
       ·rw [if_neg c21] at H
        exact absurd H (by simp)
      ·rw [if_neg c19] at H
       exact absurd H (by simp)
     ·rw [if_neg c17] at H
      exact absurd H (by simp)
 ·replace c4 := Bool.eq_false_iff.mpr c4
  subst c4
  have H1 : (some ((⟨#[]⟩ : ByteArray),1)) = some (r1,r2) := by rw [if_neg (show ¬ (false = true) by decide)] at H;exact H
  clear H
  have H := H1
  clear H1
  simp only [Option.some.injEq,Prod.mk.injEq] at H
  obtain ⟨rfl,rfl⟩ := H
  go_enter Tryz.func39,Tryz.ntmps39
  go_wp2_with (first | ((with_reducible refine zq (N := 2) rfl ?_);refine zn rfl (N := 2) rfl (cs := #[.int .i64 a0_0,.int .i64 a0_1,.slice A0_2 l0_2.length c0_2,.slice A0_3 l0_3.length c0_3,.int .i64 a0_4,.int .i64 a0_5]) (t := 35) hrq ?_;intro yg hg w36 hbox hb;have n_ := haq (ze hBq hb) <| haq (hbox) <| haq ((by rw [hg];exact (zh hBq) : w.heap.size ≤ yg)) <| haq ((by rw [hg];exact (zh hBq) : w.heap.size ≤ yg)) <| trivial;clear HB;obtain ⟨HB,ya,yL,yw,_⟩ := n_;clear hb hbox hg;obtain ⟨hcz37_0,hcz37_1,hcz37_2,hcz37_3,hcz37_4,hcz37_5,hfz37_0,hfz37_1,hfz37_2,hfz37_3,hfz37_4,hfz37_5⟩ := hcq6 ya.out) | ((with_reducible refine zQ (f := 57) rfl ?_);refine zaB (some 14) rfl rfl Tryz.func57 (by kernel_rfl) rfl #[.agg #[.int .i64 a0_0,.int .i64 a0_1,.slice A0_2 l0_2.length c0_2,.slice A0_3 l0_3.length c0_3,.int .i64 a0_4,.int .i64 a0_5],.int .i64 a1] rfl hMq ?_;(with_reducible refine (zj.calls k a0_0 a0_1 _ _ l0_2 _ _ l0_3 a0_4 a0_5 a1 false _ ?side1 ?side2 ?side3 ?side4 A3.out).mono ?_);(case side1 => exact hKq (Kd.C_below HR0_2.out HB.out));(case side2 => exact HC0_2.out);(case side3 => exact hKq (Kd.C_below HR0_3.out HB.out));(case side4 => exact HC0_3.out);rintro e w38 ⟨rfl,hb⟩;refine ⟨_,rfl,?_⟩;have n_ := haq (hbq ya.out hb) <| haq (ze hCq hb) <| trivial;clear ya HB;obtain ⟨ya,HB,_⟩ := n_;(try clear hb);(try clear hb2);(try clear hk);(try clear hi)))
  go_ret2
  exact ⟨hHq,hCq⟩
def zaV.f (k : Nat) (a0_0 : Int) (a0_1 : Int) (l0_2 : List (S75)) (l0_3 : List ByteArray) (a0_4 : Int) (a0_5 : Int) (a1 : Int) : Option (ByteArray × Int) := (zu.f k a0_0 a0_1 l0_2 l0_3 a0_4 a0_5 a1).bind fun yb => (if yb.2 = 0 then (if 1 + yb.1.size ≤ 9223372036854775807 then ((zaH.f ((⟨#[118]⟩ : ByteArray) ++ yb.1)).bind fun yf => (some (yf,0))) else (none)) else (some ((⟨#[]⟩ : ByteArray),yb.2)))
set_option maxHeartbeats 8000000 in
set_option maxRecDepth 100000 in
theorem zaV.calls (k : Nat) (a0_0 : Int) (a0_1 : Int) (A0_2 : Option Addr) (c0_2 : Nat) (l0_2 : List (S75)) (A0_3 : Option Addr) (c0_3 : Nat) (l0_3 : List ByteArray) (a0_4 : Int) (a0_5 : Int) (a1 : Int) (r1 : ByteArray) (r2 : Int) (w : World) (hr0_2 : Kd.C k75 w A0_2 l0_2.length l0_2) (hc0_2 : l0_2.length ≤ c0_2) (hr0_3 : Kd.C Kd.string w A0_3 l0_3.length l0_3) (hc0_3 : l0_3.length ≤ c0_3) (h : zaV.f k a0_0 a0_1 l0_2 l0_3 a0_4 a0_5 a1 = some (r1,r2)) :
  Calls Tryz.prog 22 #[.agg #[.int .i64 a0_0,.int .i64 a0_1,.slice A0_2 l0_2.length c0_2,.slice A0_3 l0_3.length c0_3,.int .i64 a0_4,.int .i64 a0_5],.int .i64 a1] w fun e w' => e = .returned (.tuple #[.string r1,.int .i64 r2]) ∧ Below w.heap.size w w' := by
 have hu35 := Tryz.underlying35
 have HR0_2 := za.mk hr0_2
 have HC0_2 := za.mk hc0_2
 clear hr0_2 hc0_2
 have HR0_3 := za.mk hr0_3
 have HC0_3 := za.mk hc0_3
 clear hr0_3 hc0_3
 have HB := za.mk (Below.refl w.heap.size w)
 have H : ((zu.f k a0_0 a0_1 l0_2 l0_3 a0_4 a0_5 a1).bind fun yb => (if yb.2 = 0 then (if 1 + yb.1.size ≤ 9223372036854775807 then ((zaH.f ((⟨#[118]⟩ : ByteArray) ++ yb.1)).bind fun yf => (some (yf,0))) else (none)) else (some ((⟨#[]⟩ : ByteArray),yb.2)))) = some (r1,r2) := h
 clear h
 replace H := Option.bind_eq_some_iff.mp H
 obtain ⟨⟨yc,yd⟩,A30,H⟩ := H
 replace H : (if yd = 0 then (if 1 + yc.size ≤ 9223372036854775807 then ((zaH.f ((⟨#[118]⟩ : ByteArray) ++ yc)).bind fun yf => (some (yf,0))) else (none)) else (some ((⟨#[]⟩ : ByteArray),yd))) = some (r1,r2) := H
 have A3 := za.mk A30
 clear A30
 by_cases c4 : yd = 0
 ·rw [if_pos c4] at H
  have c4b0 : (yd == 0) = true := beq_iff_eq.mpr c4
  have c4b1 : (yd != 0) = false := bne_eq_false_iff_eq.mpr c4
  clear c4
  by_cases c5 : 1 + yc.size ≤ 9223372036854775807
  ·rw [if_pos c5] at H
   have c5b0 := eq_true c5
   have c5b1 : decide (1 + yc.size ≤ 9223372036854775807) = true := decide_eq_true c5
   try have c5b2 : (9223372036854775807 < 1 + yc.size) = False := eq_false (Nat.not_lt.2 c5)
   replace H := Option.bind_eq_some_iff.mp H
   obtain ⟨yf,A60,H⟩ := H
   replace H : (some (yf,0)) = some (r1,r2) := H
   have A6 := za.mk A60
   clear A60
   simp only [Option.some.injEq,Prod.mk.injEq] at H
   obtain ⟨rfl,rfl⟩ := H
   go_enter Tryz.func22,Tryz.ntmps22
   go_wp2_with (first | ((with_reducible refine zq (N := 2) rfl ?_);refine zn rfl (N := 2) rfl (cs := #[.int .i64 a0_0,.int .i64 a0_1,.slice A0_2 l0_2.length c0_2,.slice A0_3 l0_3.length c0_3,.int .i64 a0_4,.int .i64 a0_5]) (t := 35) hrq ?_;intro ye hg w7 hbox hb;have n_ := haq (ze hBq hb) <| haq (hbox) <| haq ((by rw [hg];exact (zh hBq) : w.heap.size ≤ ye)) <| haq ((by rw [hg];exact (zh hBq) : w.heap.size ≤ ye)) <| trivial;clear HB;obtain ⟨HB,ya,yh,yg,_⟩ := n_;clear hb hbox hg;obtain ⟨hcz8_0,hcz8_1,hcz8_2,hcz8_3,hcz8_4,hcz8_5,hfz8_0,hfz8_1,hfz8_2,hfz8_3,hfz8_4,hfz8_5⟩ := hcq6 ya.out) | ((with_reducible refine zQ (f := 39) rfl ?_);refine zaB (some 11) rfl rfl Tryz.func39 (by kernel_rfl) rfl #[.agg #[.int .i64 a0_0,.int .i64 a0_1,.slice A0_2 l0_2.length c0_2,.slice A0_3 l0_3.length c0_3,.int .i64 a0_4,.int .i64 a0_5],.int .i64 a1] rfl hMq ?_;(with_reducible refine (zu.calls k a0_0 a0_1 _ _ l0_2 _ _ l0_3 a0_4 a0_5 a1 yc yd _ ?side1 ?side2 ?side3 ?side4 A3.out).mono ?_);(case side1 => exact hKq (Kd.C_below HR0_2.out HB.out));(case side2 => exact HC0_2.out);(case side3 => exact hKq (Kd.C_below HR0_3.out HB.out));(case side4 => exact HC0_3.out);rintro e w9 ⟨rfl,hb⟩;refine ⟨_,rfl,?_⟩;have n_ := haq (hbq ya.out hb) <| haq (ze hCq hb) <| trivial;clear ya HB;obtain ⟨ya,HB,_⟩ := n_;(try clear hb);(try clear hb2);(try clear hk);(try clear hi)) | ((with_reducible refine zQ (f := 40) rfl ?_);refine zaB (some 19) rfl rfl Tryz.func40 (by kernel_rfl) rfl #[.string ((⟨#[118]⟩ : ByteArray) ++ yc)] rfl hMq ?_;(with_reducible refine (zaH.calls ((⟨#[118]⟩ : ByteArray) ++ yc) yf _ A6.out).mono ?_);rintro e w10 ⟨rfl,hb⟩;refine ⟨_,rfl,?_⟩;have n_ := haq (hbq ya.out hb) <| haq (ze hCq hb) <| trivial;clear ya HB;obtain ⟨ya,HB,_⟩ := n_;(try clear hb);(try clear hb2);(try clear hk);(try clear hi)))
   go_ret2
   exact ⟨hHq,hCq⟩
  ·rw [if_neg c5] at H
   exact absurd H (by simp)
 ·rw [if_neg c4] at H
  have c4b0 : (yd == 0) = false := beq_eq_false_iff_ne.mpr c4
  have c4b1 : (yd != 0) = true := bne_iff_ne.mpr c4
  simp only [Option.some.injEq,Prod.mk.injEq] at H
  obtain ⟨rfl,rfl⟩ := H
  go_enter Tryz.func22,Tryz.ntmps22
  go_wp2_with (first | ((with_reducible refine zq (N := 2) rfl ?_);refine zn rfl (N := 2) rfl (cs := #[.int .i64 a0_0,.int .i64 a0_1,.slice A0_2 l0_2.length c0_2,.slice A0_3 l0_3.length c0_3,.int .i64 a0_4,.int .i64 a0_5]) (t := 35) hrq ?_;intro ye hg w11 hbox hb;have n_ := haq (ze hBq hb) <| haq (hbox) <| haq ((by rw [hg];exact (zh hBq) : w.heap.size ≤ ye)) <| haq ((by rw [hg];exact (zh hBq) : w.heap.size ≤ ye)) <| trivial;clear HB;obtain ⟨HB,ya,yh,yg,_⟩ := n_;clear hb hbox hg;obtain ⟨hcz12_0,hcz12_1,hcz12_2,hcz12_3,hcz12_4,hcz12_5,hfz12_0,hfz12_1,hfz12_2,hfz12_3,hfz12_4,hfz12_5⟩ := hcq6 ya.out) | ((with_reducible refine zQ (f := 39) rfl ?_);refine zaB (some 11) rfl rfl Tryz.func39 (by kernel_rfl) rfl #[.agg #[.int .i64 a0_0,.int .i64 a0_1,.slice A0_2 l0_2.length c0_2,.slice A0_3 l0_3.length c0_3,.int .i64 a0_4,.int .i64 a0_5],.int .i64 a1] rfl hMq ?_;(with_reducible refine (zu.calls k a0_0 a0_1 _ _ l0_2 _ _ l0_3 a0_4 a0_5 a1 yc yd _ ?side1 ?side2 ?side3 ?side4 A3.out).mono ?_);(case side1 => exact hKq (Kd.C_below HR0_2.out HB.out));(case side2 => exact HC0_2.out);(case side3 => exact hKq (Kd.C_below HR0_3.out HB.out));(case side4 => exact HC0_3.out);rintro e w13 ⟨rfl,hb⟩;refine ⟨_,rfl,?_⟩;have n_ := haq (hbq ya.out hb) <| haq (ze hCq hb) <| trivial;clear ya HB;obtain ⟨ya,HB,_⟩ := n_;(try clear hb);(try clear hb2);(try clear hk);(try clear hi)))
  go_ret2
  exact ⟨hHq,hCq⟩
end Go.Proofs.YtndjfdakflaggaaGreat.Px