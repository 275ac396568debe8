/- Part 14 of 15 of the proof of the law DagPastOne: what is proved is the statement at the end of the last part; its conditions are those of the given row. -/
import Derived.Test.YtndjfdakflaggaaRows
import Derived.Deep.Slices
import Derived.ChangeArms
import Derived.SizedLaws
import Derived.WideOpen
import Derived.Test.YtndjfdakflaggaaZDagPastOneM
namespace Go.Proofs.Ytndjfdakflaggaa.Px
open Go.RowKit Go.Proofs.YtndjfdakflaggaaW.PrintWords Go.Proofs.YtndjfdakflaggaaW.PrintLast Go.Proofs.YtndjfdakflaggaaW.PrintMore
attribute [local go_sem] zC zE zI zJ zu zv zD zF
set_option linter.unusedVariables false
set_option linter.unusedSimpArgs false
mutual
def ze.j0 : Nat → ByteArray → Bool → Bool → Int → Int → List (S34) → Int → Int → List (S34) → Option (Bool)
 | 0,_,_,_,_,_,_,_,_,_ => none
 | k + 1,x2,x7,x38,yr,yn,yt,yu,yo,yv => if x38 = true then (some x7) else ((zk.f k yr yn yt).bind fun Yb => ((zk.f k yu yo yv).bind fun yR => ((z6.f yr yn yt x2).bind fun y9 => ((z6.f yu yo yv x2).bind fun yL => ((zA.f yr yn yt yu yo yv).bind fun yy => (if Yb = true then (if yR = true then (if y9.2.2.2.2.2.2.2 = true then (if yL.2.2.2.2.2.2.2 = true then (ze.j1 k x2 x7 (!yy) yr yn yt yu yo yv) else (ze.j1 k x2 x7 true yr yn yt yu yo yv)) else (ze.j1 k x2 x7 true yr yn yt yu yo yv)) else (ze.j1 k x2 x7 true yr yn yt yu yo yv)) else (ze.j1 k x2 x7 true yr yn yt yu yo yv)))))))
def ze.j1 : Nat → ByteArray → Bool → Bool → Int → Int → List (S34) → Int → Int → List (S34) → Option (Bool)
 | 0,_,_,_,_,_,_,_,_,_ => none
 | k + 1,x2,x7,x76,yr,yn,yt,yu,yo,yv => if x76 = true then (some x7) else (if yo > yn then ((zaI.f yr yn yt x2 yo).bind fun Yp => ((zaI.f yu yo yv x2 yo).bind fun Yh => ((zo.f k Yp Yh).bind fun Yi => (some Yi)))) else ((zaI.f yr yn yt x2 yn).bind fun Yq => ((zaI.f yu yo yv x2 yn).bind fun Yj => ((zo.f k Yq Yj).bind fun Yk => (some Yk)))))
end
def ze.f (k : Nat) (a0_0 : Int) (a0_1 : Int) (l0_2 : List (S34)) (a1_0 : Int) (a1_1 : Int) (l1_2 : List (S34)) (a2 : ByteArray) : Option (Bool) := (zaT.f).bind fun yi => ((zar.f a0_0 a0_1 l0_2).bind fun Ya => ((zar.f a1_0 a1_1 l1_2).bind fun yQ => (if yi = true then (if Ya = true then (if yQ = true then (ze.j0 k a2 yi (a0_0 != a1_0) a0_0 a0_1 l0_2 a1_0 a1_1 l1_2) else (ze.j0 k a2 yi true a0_0 a0_1 l0_2 a1_0 a1_1 l1_2)) else (ze.j0 k a2 yi true a0_0 a0_1 l0_2 a1_0 a1_1 l1_2)) else (ze.j0 k a2 yi true a0_0 a0_1 l0_2 a1_0 a1_1 l1_2))))
def ze.T16 : Bool × List (List Nat × List Nat) := (true,[([],[]),([],[]),([],[]),([0,1,2],[0,1,2]),([],[]),([],[]),([],[]),([4,5,6,3],[4,5,6]),([3,7,7],[3,7]),([8,8,0,1,2,3,4,5,6,7,8],[8])])
def ze.B16 : List Nat := [0,0,0,7,0,0,0,127,255,511]
theorem ze.tab16 : zb3 .any (zdC Try.f3 16) = ze.T16 := by kernel_rfl
theorem ze.bits16 : zbD ze.T16.2 ze.B16 = true := by kernel_rfl
set_option maxHeartbeats 8000000 in
set_option maxRecDepth 100000 in
theorem ze.calls (k : Nat) (a0_0 : Int) (a0_1 : Int) (A0_2 : Option Addr) (c0_2 : Nat) (l0_2 : List (S34)) (a1_0 : Int) (a1_1 : Int) (A1_2 : Option Addr) (c1_2 : Nat) (l1_2 : List (S34)) (a2 : ByteArray) (r : Bool) (w : World) (hr0_2 : Kd.C k34 w A0_2 l0_2.length l0_2) (hc0_2 : l0_2.length ≤ c0_2) (hr1_2 : Kd.C k34 w A1_2 l1_2.length l1_2) (hc1_2 : l1_2.length ≤ c1_2) (h : ze.f k a0_0 a0_1 l0_2 a1_0 a1_1 l1_2 a2 = some r) :
  Calls Try.prog 3 #[.agg #[.int .i64 a0_0,.int .i64 a0_1,.slice A0_2 l0_2.length c0_2],.agg #[.int .i64 a1_0,.int .i64 a1_1,.slice A1_2 l1_2.length c1_2],.string a2] w fun e w' => e = .returned (.bool r) ∧ Below w.heap.size w w' := by
 have hu24 := Try.underlying24
 have hu34 := Try.underlying34
 have HR0_2 := za.mk hr0_2
 have HC0_2 := za.mk hc0_2
 clear hr0_2 hc0_2
 have HR1_2 := za.mk hr1_2
 have HC1_2 := za.mk hc1_2
 clear hr1_2 hc1_2
 have HB := za.mk (Below.refl w.heap.size w)
 have H : ((zaT.f).bind fun yi => ((zar.f a0_0 a0_1 l0_2).bind fun Ya => ((zar.f a1_0 a1_1 l1_2).bind fun yQ => (if yi = true then (if Ya = true then (if yQ = true then (ze.j0 k a2 yi (a0_0 != a1_0) a0_0 a0_1 l0_2 a1_0 a1_1 l1_2) else (ze.j0 k a2 yi true a0_0 a0_1 l0_2 a1_0 a1_1 l1_2)) else (ze.j0 k a2 yi true a0_0 a0_1 l0_2 a1_0 a1_1 l1_2)) else (ze.j0 k a2 yi true a0_0 a0_1 l0_2 a1_0 a1_1 l1_2))))) = some r := h
 clear h
 replace H := Option.bind_eq_some_iff.mp H
 obtain ⟨yi,A40,H⟩ := H
 replace H : ((zar.f a0_0 a0_1 l0_2).bind fun Ya => ((zar.f a1_0 a1_1 l1_2).bind fun yQ => (if yi = true then (if Ya = true then (if yQ = true then (ze.j0 k a2 yi (a0_0 != a1_0) a0_0 a0_1 l0_2 a1_0 a1_1 l1_2) else (ze.j0 k a2 yi true a0_0 a0_1 l0_2 a1_0 a1_1 l1_2)) else (ze.j0 k a2 yi true a0_0 a0_1 l0_2 a1_0 a1_1 l1_2)) else (ze.j0 k a2 yi true a0_0 a0_1 l0_2 a1_0 a1_1 l1_2)))) = some r := H
 have A4 := za.mk A40
 clear A40
 replace H := Option.bind_eq_some_iff.mp H
 obtain ⟨Ya,A50,H⟩ := H
 replace H : ((zar.f a1_0 a1_1 l1_2).bind fun yQ => (if yi = true then (if Ya = true then (if yQ = true then (ze.j0 k a2 yi (a0_0 != a1_0) a0_0 a0_1 l0_2 a1_0 a1_1 l1_2) else (ze.j0 k a2 yi true a0_0 a0_1 l0_2 a1_0 a1_1 l1_2)) else (ze.j0 k a2 yi true a0_0 a0_1 l0_2 a1_0 a1_1 l1_2)) else (ze.j0 k a2 yi true a0_0 a0_1 l0_2 a1_0 a1_1 l1_2))) = some r := H
 have A5 := za.mk A50
 clear A50
 replace H := Option.bind_eq_some_iff.mp H
 obtain ⟨yQ,A60,H⟩ := H
 replace H : (if yi = true then (if Ya = true then (if yQ = true then (ze.j0 k a2 yi (a0_0 != a1_0) a0_0 a0_1 l0_2 a1_0 a1_1 l1_2) else (ze.j0 k a2 yi true a0_0 a0_1 l0_2 a1_0 a1_1 l1_2)) else (ze.j0 k a2 yi true a0_0 a0_1 l0_2 a1_0 a1_1 l1_2)) else (ze.j0 k a2 yi true a0_0 a0_1 l0_2 a1_0 a1_1 l1_2)) = some r := H
 have A6 := za.mk A60
 clear A60
 have HC7 := za.mk H
 clear H
 go_enter Try.func3,Try.ntmps3
 go_upto_region 4 with (first | ((with_reducible refine zq (N := 3) rfl ?_);refine zn rfl (N := 3) rfl (cs := #[.int .i64 a0_0,.int .i64 a0_1,.slice A0_2 l0_2.length c0_2]) (t := 24) hrq ?_;intro yl hg w8 hbox hb;have n_ := haq (zf hBq hb) <| haq (hbox) <| haq ((by rw [hg];exact (zh hBq) : w.heap.size ≤ yl)) <| haq ((by rw [hg];exact (zh hBq) : w.heap.size ≤ yl)) <| trivial;clear HB;obtain ⟨HB,ya,yZ,yH,_⟩ := n_;clear hb hbox hg) | ((with_reducible refine zq (N := 4) rfl ?_);refine zn rfl (N := 4) rfl (cs := #[.int .i64 a1_0,.int .i64 a1_1,.slice A1_2 l1_2.length c1_2]) (t := 24) hrq ?_;intro ym hg w9 hbox hb;have n_ := haq (hbq ya.out hb) <| haq (zf hCq hb) <| haq (hbox) <| haq ((by rw [hg];exact (zh hCq) : w.heap.size ≤ ym)) <| haq ((by rw [hg];exact (zh hCq) : w.heap.size ≤ ym)) <| haq (hnq hg ya.out) <| haq (hmq hg ya.out) <| trivial;clear ya HB;obtain ⟨ya,HB,yb,y8,yI,yw,yx,_⟩ := n_;clear hb hbox hg) | ((with_reducible refine zN (f := 5) rfl ?_);refine zax (some 17) rfl rfl Try.func5 (by kernel_rfl) rfl #[] rfl hMq ?_;(with_reducible refine (zaT.calls  yi _ A4.out).mono ?_);rintro e w10 ⟨rfl,hb⟩;refine ⟨_,rfl,?_⟩;have n_ := haq (hbq ya.out hb) <| haq (hbq yb.out hb) <| haq (zf hCq hb) <| trivial;clear ya yb HB;obtain ⟨ya,yb,HB,_⟩ := n_;(try clear hb);(try clear hb2);(try clear hk);(try clear hi);have hnb11 := yw.out;have hnc11 := yx.out;obtain ⟨hcz12_0,hcz12_1,hcz12_2,hfz12_0,hfz12_1,hfz12_2⟩ := hcq3 ya.out) | ((with_reducible refine zN (f := 6) rfl ?_);refine zax (some 19) rfl rfl Try.func6 (by kernel_rfl) rfl #[.agg #[.int .i64 a0_0,.int .i64 a0_1,.slice A0_2 l0_2.length c0_2]] rfl hMq ?_;(with_reducible refine (zar.calls a0_0 a0_1 _ _ l0_2 Ya _ ?side1 ?side2 A5.out).mono ?_);(case side1 => exact hKq (Kd.C_below HR0_2.out HB.out));(case side2 => exact HC0_2.out);rintro e w13 ⟨rfl,hb⟩;refine ⟨_,rfl,?_⟩;have n_ := haq (hbq ya.out hb) <| haq (hbq yb.out hb) <| haq (zf hCq hb) <| trivial;clear ya yb HB;obtain ⟨ya,yb,HB,_⟩ := n_;(try clear hb);(try clear hb2);(try clear hk);(try clear hi);obtain ⟨hcz14_0,hcz14_1,hcz14_2,hfz14_0,hfz14_1,hfz14_2⟩ := hcq3 yb.out) | ((with_reducible refine zN (f := 6) rfl ?_);refine zax (some 21) rfl rfl Try.func6 (by kernel_rfl) rfl #[.agg #[.int .i64 a1_0,.int .i64 a1_1,.slice A1_2 l1_2.length c1_2]] rfl hMq ?_;(with_reducible refine (zar.calls a1_0 a1_1 _ _ l1_2 yQ _ ?side1 ?side2 A6.out).mono ?_);(case side1 => exact hKq (Kd.C_below HR1_2.out HB.out));(case side2 => exact HC1_2.out);rintro e w15 ⟨rfl,hb⟩;refine ⟨_,rfl,?_⟩;have n_ := haq (hbq ya.out hb) <| haq (hbq yb.out hb) <| haq (zf hCq hb) <| trivial;clear ya yb HB;obtain ⟨ya,yb,HB,_⟩ := n_;(try clear hb);(try clear hb2);(try clear hk);(try clear hi)))
 (try simp only [Act.put,List.setIfInBounds_toArray,List.set_cons_zero,List.set_cons_succ])
 go_cut [38] (fun v38 wc => ∃ (kq : Nat) (x38_6 : Bool),v38 = .bool x38_6 ∧ za (ze.j0 kq a2 yi x38_6 a0_0 a0_1 l0_2 a1_0 a1_1 l1_2 = some r) ∧ za (kq ≤ k) ∧ za (wc.heap[yl]? = some (.cells #[.int .i64 a0_0,.int .i64 a0_1,(.slice A0_2 l0_2.length c0_2)] 24 (0,0))) ∧ za (wc.heap[ym]? = some (.cells #[.int .i64 a1_0,.int .i64 a1_1,(.slice A1_2 l1_2.length c1_2)] 24 (0,0))) ∧ za (Below w.heap.size w wc))
 case first =>
  have H := HC7.out
  clear HC7
  by_cases c16 : yi = true
  ·subst c16
   have H1 : (if Ya = true then (if yQ = true then (ze.j0 k a2 true (a0_0 != a1_0) a0_0 a0_1 l0_2 a1_0 a1_1 l1_2) else (ze.j0 k a2 true true a0_0 a0_1 l0_2 a1_0 a1_1 l1_2)) else (ze.j0 k a2 true true a0_0 a0_1 l0_2 a1_0 a1_1 l1_2)) = some r := by rw [if_pos rfl] at H;exact H
   clear H
   have H := H1
   clear H1
   by_cases c17 : Ya = true
   ·subst c17
    have H1 : (if yQ = true then (ze.j0 k a2 true (a0_0 != a1_0) a0_0 a0_1 l0_2 a1_0 a1_1 l1_2) else (ze.j0 k a2 true true a0_0 a0_1 l0_2 a1_0 a1_1 l1_2)) = some r := by rw [if_pos rfl] at H;exact H
    clear H
    have H := H1
    clear H1
    by_cases c18 : yQ = true
    ·subst c18
     have H1 : (ze.j0 k a2 true (a0_0 != a1_0) a0_0 a0_1 l0_2 a1_0 a1_1 l1_2) = some r := by rw [if_pos rfl] at H;exact H
     clear H
     have H := H1
     clear H1
     have H' := za.mk H
     clear H
     have hnb19 := yw.out
     have hnc19 := yx.out
     obtain ⟨hcz20_0,hcz20_1,hcz20_2,hfz20_0,hfz20_1,hfz20_2⟩ := hcq3 ya.out
     obtain ⟨hcz21_0,hcz21_1,hcz21_2,hfz21_0,hfz21_1,hfz21_2⟩ := hcq3 yb.out
     go_wp2
     go_meet
     case rel => exact ⟨_,((a0_0 != a1_0)),(hDq),H',⟨by first | omega | exact Nat.le_refl _⟩,⟨hGq ya.out⟩,⟨hGq yb.out⟩,⟨by repeat (first | (with_reducible first | exact HB.out | apply zm | apply zj | apply zp | refine zl ?_ yH.out | refine zl ?_ yI.out) | exact HB.out)⟩⟩
    ·replace c18 := Bool.eq_false_iff.mpr c18
     subst c18
     have H1 : (ze.j0 k a2 true true a0_0 a0_1 l0_2 a1_0 a1_1 l1_2) = some r := by rw [if_neg (show ¬ (false = true) by decide)] at H;exact H
     clear H
     have H := H1
     clear H1
     have H' := za.mk H
     clear H
     go_wp2
     go_meet
     case rel => exact ⟨_,(true),(hDq),H',⟨by first | omega | exact Nat.le_refl _⟩,⟨hGq ya.out⟩,⟨hGq yb.out⟩,⟨by repeat (first | (with_reducible first | exact HB.out | apply zm | apply zj | apply zp | refine zl ?_ yH.out | refine zl ?_ yI.out) | exact HB.out)⟩⟩
   ·replace c17 := Bool.eq_false_iff.mpr c17
    subst c17
    have H1 : (ze.j0 k a2 true true a0_0 a0_1 l0_2 a1_0 a1_1 l1_2) = some r := by rw [if_neg (show ¬ (false = true) by decide)] at H;exact H
    clear H
    have H := H1
    clear H1
    have H' := za.mk H
    clear H
    go_wp2
    go_meet
    case rel => exact ⟨_,(true),(hDq),H',⟨by first | omega | exact Nat.le_refl _⟩,⟨hGq ya.out⟩,⟨hGq yb.out⟩,⟨by repeat (first | (with_reducible first | exact HB.out | apply zm | apply zj | apply zp | refine zl ?_ yH.out | refine zl ?_ yI.out) | exact HB.out)⟩⟩
  ·replace c16 := Bool.eq_false_iff.mpr c16
   subst c16
   have H1 : (ze.j0 k a2 false true a0_0 a0_1 l0_2 a1_0 a1_1 l1_2) = some r := by rw [if_neg (show ¬ (false = true) by decide)] at H;exact H
   clear H
   have H := H1
   clear H1
   have H' := za.mk H
   clear H
   go_wp2
   go_meet
   case rel => exact ⟨_,(true),(hDq),H',⟨by first | omega | exact Nat.le_refl _⟩,⟨hGq ya.out⟩,⟨hGq yb.out⟩,⟨by repeat (first | (with_reducible first | exact HB.out | apply zm | apply zj | apply zp | refine zl ?_ yH.out | refine zl ?_ yI.out) | exact HB.out)⟩⟩
 case rest =>
  clear HC7
  try clear c1;try clear p2;try clear c3;try clear c5;try clear c6;try clear c11;try clear c16;try clear c17;try clear c18;try clear c19;try clear hcz12_0;try clear hcz12_1;try clear hcz12_2;try clear hcz14_0;try clear hcz14_1;try clear hcz14_2;try clear hcz20_0;try clear hcz20_1;try clear hcz20_2;try clear hcz21_0;try clear hcz21_1;try clear hcz21_2;try clear hfz12_0;try clear hfz12_1;try clear hfz12_2;try clear hfz14_0;try clear hfz14_1;try clear hfz14_2;try clear hfz20_0;try clear hfz20_1;try clear hfz20_2;try clear hfz21_0;try clear hfz21_1;try clear hfz21_2
  obtain ⟨kq,x38_6,rfl,HA,HJ6,ya,yb,HB⟩ := hcut
  cases kq with
  | zero => exact absurd HA.out (by simp [ze.j0])
  | succ kj6 =>
   have H := HA.out
   clear HA
   simp only [ze.j0] at H
   by_cases c22 : x38_6 = true
   ·subst c22
    have H1 : (some yi) = some r := by rw [if_pos rfl] at H;exact H
    clear H
    have H := H1
    clear H1
    obtain rfl := Option.some.inj H
    go_wp2
    go_ret
    exact ⟨hHq,hCq⟩
   ·replace c22 := Bool.eq_false_iff.mpr c22
    subst c22
    have H1 : ((zk.f kj6 a0_0 a0_1 l0_2).bind fun Yb => ((zk.f kj6 a1_0 a1_1 l1_2).bind fun yR => ((z6.f a0_0 a0_1 l0_2 a2).bind fun y9 => ((z6.f a1_0 a1_1 l1_2 a2).bind fun yL => ((zA.f a0_0 a0_1 l0_2 a1_0 a1_1 l1_2).bind fun yy => (if Yb = true then (if yR = true then (if y9.2.2.2.2.2.2.2 = true then (if yL.2.2.2.2.2.2.2 = true then (ze.j1 kj6 a2 yi (!yy) a0_0 a0_1 l0_2 a1_0 a1_1 l1_2) else (ze.j1 kj6 a2 yi true a0_0 a0_1 l0_2 a1_0 a1_1 l1_2)) else (ze.j1 kj6 a2 yi true a0_0 a0_1 l0_2 a1_0 a1_1 l1_2)) else (ze.j1 kj6 a2 yi true a0_0 a0_1 l0_2 a1_0 a1_1 l1_2)) else (ze.j1 kj6 a2 yi true a0_0 a0_1 l0_2 a1_0 a1_1 l1_2))))))) = some r := by rw [if_neg (show ¬ (false = true) by decide)] at H;exact H
    clear H
    have H := H1
    clear H1
    replace H := Option.bind_eq_some_iff.mp H
    obtain ⟨Yb,Yx,H⟩ := H
    replace H : ((zk.f kj6 a1_0 a1_1 l1_2).bind fun yR => ((z6.f a0_0 a0_1 l0_2 a2).bind fun y9 => ((z6.f a1_0 a1_1 l1_2 a2).bind fun yL => ((zA.f a0_0 a0_1 l0_2 a1_0 a1_1 l1_2).bind fun yy => (if Yb = true then (if yR = true then (if y9.2.2.2.2.2.2.2 = true then (if yL.2.2.2.2.2.2.2 = true then (ze.j1 kj6 a2 yi (!yy) a0_0 a0_1 l0_2 a1_0 a1_1 l1_2) else (ze.j1 kj6 a2 yi true a0_0 a0_1 l0_2 a1_0 a1_1 l1_2)) else (ze.j1 kj6 a2 yi true a0_0 a0_1 l0_2 a1_0 a1_1 l1_2)) else (ze.j1 kj6 a2 yi true a0_0 a0_1 l0_2 a1_0 a1_1 l1_2)) else (ze.j1 kj6 a2 yi true a0_0 a0_1 l0_2 a1_0 a1_1 l1_2)))))) = some r := H
    have A23 := za.mk Yx
    clear Yx
    replace H := Option.bind_eq_some_iff.mp H
    obtain ⟨yR,Yy,H⟩ := H
    replace H : ((z6.f a0_0 a0_1 l0_2 a2).bind fun y9 => ((z6.f a1_0 a1_1 l1_2 a2).bind fun yL => ((zA.f a0_0 a0_1 l0_2 a1_0 a1_1 l1_2).bind fun yy => (if Yb = true then (if yR = true then (if y9.2.2.2.2.2.2.2 = true then (if yL.2.2.2.2.2.2.2 = true then (ze.j1 kj6 a2 yi (!yy) a0_0 a0_1 l0_2 a1_0 a1_1 l1_2) else (ze.j1 kj6 a2 yi true a0_0 a0_1 l0_2 a1_0 a1_1 l1_2)) else (ze.j1 kj6 a2 yi true a0_0 a0_1 l0_2 a1_0 a1_1 l1_2)) else (ze.j1 kj6 a2 yi true a0_0 a0_1 l0_2 a1_0 a1_1 l1_2)) else (ze.j1 kj6 a2 yi true a0_0 a0_1 l0_2 a1_0 a1_1 l1_2))))) = some r := H
    have A24 := za.mk Yy
    clear Yy
    replace H := Option.bind_eq_some_iff.mp H
    obtain ⟨⟨yS,yT,yU,yB,yC,yV,yW,Yt⟩,Yz,H⟩ := H
    replace H : ((z6.f a1_0 a1_1 l1_2 a2).bind fun yL => ((zA.f a0_0 a0_1 l0_2 a1_0 a1_1 l1_2).bind fun yy => (if Yb = true then (if yR = true then (if Yt = true then (if yL.2.2.2.2.2.2.2 = true then (ze.j1 kj6 a2 yi (!yy) a0_0 a0_1 l0_2 a1_0 a1_1 l1_2) else (ze.j1 kj6 a2 yi true a0_0 a0_1 l0_2 a1_0 a1_1 l1_2)) else (ze.j1 kj6 a2 yi true a0_0 a0_1 l0_2 a1_0 a1_1 l1_2)) else (ze.j1 kj6 a2 yi true a0_0 a0_1 l0_2 a1_0 a1_1 l1_2)) else (ze.j1 kj6 a2 yi true a0_0 a0_1 l0_2 a1_0 a1_1 l1_2)))) = some r := H
    have A25 := za.mk Yz
    clear Yz
    replace H := Option.bind_eq_some_iff.mp H
    obtain ⟨⟨Yc,Yd,Ye,yX,yY,Yf,Yg,Yu⟩,YA,H⟩ := H
    replace H : ((zA.f a0_0 a0_1 l0_2 a1_0 a1_1 l1_2).bind fun yy => (if Yb = true then (if yR = true then (if Yt = true then (if Yu = true then (ze.j1 kj6 a2 yi (!yy) a0_0 a0_1 l0_2 a1_0 a1_1 l1_2) else (ze.j1 kj6 a2 yi true a0_0 a0_1 l0_2 a1_0 a1_1 l1_2)) else (ze.j1 kj6 a2 yi true a0_0 a0_1 l0_2 a1_0 a1_1 l1_2)) else (ze.j1 kj6 a2 yi true a0_0 a0_1 l0_2 a1_0 a1_1 l1_2)) else (ze.j1 kj6 a2 yi true a0_0 a0_1 l0_2 a1_0 a1_1 l1_2))) = some r := H
    have A26 := za.mk YA
    clear YA
    replace H := Option.bind_eq_some_iff.mp H
    obtain ⟨yy,YB,H⟩ := H
    replace H : (if Yb = true then (if yR = true then (if Yt = true then (if Yu = true then (ze.j1 kj6 a2 yi (!yy) a0_0 a0_1 l0_2 a1_0 a1_1 l1_2) else (ze.j1 kj6 a2 yi true a0_0 a0_1 l0_2 a1_0 a1_1 l1_2)) else (ze.j1 kj6 a2 yi true a0_0 a0_1 l0_2 a1_0 a1_1 l1_2)) else (ze.j1 kj6 a2 yi true a0_0 a0_1 l0_2 a1_0 a1_1 l1_2)) else (ze.j1 kj6 a2 yi true a0_0 a0_1 l0_2 a1_0 a1_1 l1_2)) = some r := H
    have A27 := za.mk YB
    clear YB
    have HC28 := za.mk H
    clear H
    have hnb29 := yw.out
    have hnc29 := yx.out
    obtain ⟨hcz30_0,hcz30_1,hcz30_2,hfz30_0,hfz30_1,hfz30_2⟩ := hcq3 ya.out
    go_upto_region 11 with (first | ((with_reducible refine zN (f := 7) rfl ?_);refine zax (some 41) rfl rfl Try.func7 (by kernel_rfl) rfl #[.agg #[.int .i64 a0_0,.int .i64 a0_1,.slice A0_2 l0_2.length c0_2]] rfl hMq ?_;(with_reducible refine (zk.calls kj6 a0_0 a0_1 _ _ l0_2 Yb _ ?side1 ?side2 A23.out).mono ?_);(case side1 => exact hKq (Kd.C_below HR0_2.out HB.out));(case side2 => exact HC0_2.out);rintro e w31 ⟨rfl,hb⟩;refine ⟨_,rfl,?_⟩;have n_ := haq (hbq ya.out hb) <| haq (hbq yb.out hb) <| haq (zf hCq hb) <| trivial;clear ya yb HB;obtain ⟨ya,yb,HB,_⟩ := n_;(try clear hb);(try clear hb2);(try clear hk);(try clear hi);obtain ⟨hcz32_0,hcz32_1,hcz32_2,hfz32_0,hfz32_1,hfz32_2⟩ := hcq3 yb.out) | ((with_reducible refine zN (f := 7) rfl ?_);refine zax (some 43) rfl rfl Try.func7 (by kernel_rfl) rfl #[.agg #[.int .i64 a1_0,.int .i64 a1_1,.slice A1_2 l1_2.length c1_2]] rfl hMq ?_;(with_reducible refine (zk.calls kj6 a1_0 a1_1 _ _ l1_2 yR _ ?side1 ?side2 A24.out).mono ?_);(case side1 => exact hKq (Kd.C_below HR1_2.out HB.out));(case side2 => exact HC1_2.out);rintro e w33 ⟨rfl,hb⟩;refine ⟨_,rfl,?_⟩;have n_ := haq (hbq ya.out hb) <| haq (hbq yb.out hb) <| haq (zf hCq hb) <| trivial;clear ya yb HB;obtain ⟨ya,yb,HB,_⟩ := n_;(try clear hb);(try clear hb2);(try clear hk);(try clear hi);obtain ⟨hcz34_0,hcz34_1,hcz34_2,hfz34_0,hfz34_1,hfz34_2⟩ := hcq3 ya.out) | ((with_reducible refine zN (f := 8) rfl ?_);refine zax (some 47) rfl rfl Try.func8 (by kernel_rfl) rfl #[.agg #[.int .i64 a0_0,.int .i64 a0_1,.slice A0_2 l0_2.length c0_2],.string a2] rfl hMq ?_;(with_reducible refine (z6.calls a0_0 a0_1 (fun k_ => k_ < w.heap.size) _ _ l0_2 a2 yS yT yU yB yC yV yW Yt _ ?side1 A25.out).mono ?_);(case side1 => exact Kd.V_mk HC0_2.out (Kd.F_below (Kd.C_F zbS HR0_2.out) hCq));rintro e w35 ⟨YI,YJ,rfl,ho0,ho1,hb⟩;refine ⟨_,rfl,?_⟩;have n_ := haq (Kd.V_lower (Kd.V_mono (ok' := fun k_ => k_ ≠ yl ∧ k_ ≠ ym) ho0 (fun k_ hk_ => ⟨Or.elim hk_ (fun hs_ => fun e_ => Nat.not_le.2 hs_ (by rw [e_];exact yZ.out)) (fun hn_ => (Kd.freshB (g := yl) (o := .cells #[.int .i64 a0_0,.int .i64 a0_1,.slice A0_2 l0_2.length c0_2] 24 (0,0)) (hGq ya.out) k_ hn_)),Or.elim hk_ (fun hs_ => fun e_ => Nat.not_le.2 hs_ (by rw [e_];exact y8.out)) (fun hn_ => (Kd.freshB (g := ym) (o := .cells #[.int .i64 a1_0,.int .i64 a1_1,.slice A1_2 l1_2.length c1_2] 24 (0,0)) (hGq yb.out) k_ hn_))⟩)) (zh hCq)) <| haq (Kd.V_lower (Kd.V_mono (ok' := fun k_ => k_ ≠ yl ∧ k_ ≠ ym) ho1 (fun k_ hk_ => ⟨Or.elim hk_ (fun hs_ => fun e_ => Nat.not_le.2 hs_ (by rw [e_];exact yZ.out)) (fun hn_ => (Kd.freshB (g := yl) (o := .cells #[.int .i64 a0_0,.int .i64 a0_1,.slice A0_2 l0_2.length c0_2] 24 (0,0)) (hGq ya.out) k_ hn_)),Or.elim hk_ (fun hs_ => fun e_ => Nat.not_le.2 hs_ (by rw [e_];exact y8.out)) (fun hn_ => (Kd.freshB (g := ym) (o := .cells #[.int .i64 a1_0,.int .i64 a1_1,.slice A1_2 l1_2.length c1_2] 24 (0,0)) (hGq yb.out) k_ hn_))⟩)) (zh hCq)) <| haq (hbq ya.out hb) <| haq (hbq yb.out hb) <| haq (zf hCq hb) <| trivial;clear ya yb HB;obtain ⟨yp,yq,ya,yb,HB,_⟩ := n_;(try clear hb);(try clear hb2);(try clear hk);(try clear hi);(try clear ho0);(try clear ho1)) | ((with_reducible refine zq (N := 12) rfl ?_);refine zn rfl (N := 12) rfl (cs := #[.string (⟨#[]⟩ : ByteArray),.int .i64 0,.int .i64 0,.slice none 0 0,.slice none 0 0,.int .i64 0,.int .i64 0]) (t := 34) hrq ?_;intro yj hg w36 hbox hb;have n_ := haq (Kd.V_below (Kd.V_elderB (by (with_reducible repeat (first | apply Kd.V_alloc | apply Kd.V_drewN | apply Kd.V_drew));exact yp.out) yj (Nat.le_of_eq hg.symm)) hb) <| haq (Kd.V_below (Kd.V_elderB (by (with_reducible repeat (first | apply Kd.V_alloc | apply Kd.V_drewN | apply Kd.V_drew));exact yq.out) yj (Nat.le_of_eq hg.symm)) hb) <| haq (hbq ya.out hb) <| haq (hbq yb.out hb) <| haq (zf hCq hb) <| haq (hbox) <| haq ((by rw [hg];exact (zh hCq) : w.heap.size ≤ yj)) <| haq ((by rw [hg];exact (zh hCq) : w.heap.size ≤ yj)) <| haq (hnq hg ya.out) <| haq (hmq hg ya.out) <| haq (hnq hg yb.out) <| haq (hmq hg yb.out) <| trivial;clear yp yq ya yb HB;obtain ⟨yp,yq,ya,yb,HB,yg,Yl,Yr,yD,yM,yF,yN,_⟩ := n_;clear hb hbox hg;have hnb37 := yM.out;have hnc37 := yD.out;have hnb38 := yN.out;have hnc38 := yF.out;obtain ⟨hcz39_0,hcz39_1,hcz39_2,hcz39_3,hcz39_4,hcz39_5,hcz39_6,hfz39_0,hfz39_1,hfz39_2,hfz39_3,hfz39_4,hfz39_5,hfz39_6⟩ := hcq7 yg.out;obtain ⟨Ao40,co40,eo40⟩ := Kd.V_slice yp.out;subst eo40;obtain ⟨Ao41,co41,eo41⟩ := Kd.V_slice yq.out;subst eo41) | ((with_reducible refine zaD (t := 34) (p := 12) rfl ?_);refine zaw (t := 34) (p := 12) (v := _) (w1 := (((((((w36.setCell ⟨yj,0,none⟩ (.string yS)).setCell ⟨yj,1,none⟩ (.int .i64 yT)).setCell ⟨yj,2,none⟩ (.int .i64 yU)).setCell ⟨yj,3,none⟩ (.slice Ao40 yB.length co40)).setCell ⟨yj,4,none⟩ (.slice Ao41 yC.length co41)).setCell ⟨yj,5,none⟩ (.int .i64 yV)).setCell ⟨yj,6,none⟩ (.int .i64 yW))) rfl rfl rfl hrq ?_;intro w42 hw;have n_ := haq (((by rw [hw];exact (by (with_reducible repeat (first | apply Kd.V_alloc | apply Kd.V_drewN | apply Kd.V_drew));exact Kd.V_mono (Kd.V_far (p := ⟨yj,6,none⟩) (Kd.V_far (p := ⟨yj,5,none⟩) (Kd.V_far (p := ⟨yj,4,none⟩) (Kd.V_far (p := ⟨yj,3,none⟩) (Kd.V_far (p := ⟨yj,2,none⟩) (Kd.V_far (p := ⟨yj,1,none⟩) (Kd.V_far (p := ⟨yj,0,none⟩) (Kd.V_mono yp.out (fun k_ hk => (⟨hk,hk.2⟩ : _ ∧ k_ ≠ yj))) (fun _ hk => hk.2) (.string yS)) (fun _ hk => hk.2) (.int .i64 yT)) (fun _ hk => hk.2) (.int .i64 yU)) (fun _ hk => hk.2) (.slice Ao40 yB.length co40)) (fun _ hk => hk.2) (.slice Ao41 yC.length co41)) (fun _ hk => hk.2) (.int .i64 yV)) (fun _ hk => hk.2) (.int .i64 yW)) (fun _ hk => ⟨hk.1.1.1,⟨hk.1.1.2,hk.1.2⟩⟩))) : Kd.V k78 78 w42 w.heap.size (fun k_ => k_ ≠ yl ∧ k_ ≠ ym ∧ k_ ≠ yj) (.slice Ao40 yB.length co40) yB)) <| haq (((by rw [hw];exact (by (with_reducible repeat (first | apply Kd.V_alloc | apply Kd.V_drewN | apply Kd.V_drew));exact Kd.V_mono (Kd.V_far (p := ⟨yj,6,none⟩) (Kd.V_far (p := ⟨yj,5,none⟩) (Kd.V_far (p := ⟨yj,4,none⟩) (Kd.V_far (p := ⟨yj,3,none⟩) (Kd.V_far (p := ⟨yj,2,none⟩) (Kd.V_far (p := ⟨yj,1,none⟩) (Kd.V_far (p := ⟨yj,0,none⟩) (Kd.V_mono yq.out (fun k_ hk => (⟨hk,hk.2⟩ : _ ∧ k_ ≠ yj))) (fun _ hk => hk.2) (.string yS)) (fun _ hk => hk.2) (.int .i64 yT)) (fun _ hk => hk.2) (.int .i64 yU)) (fun _ hk => hk.2) (.slice Ao40 yB.length co40)) (fun _ hk => hk.2) (.slice Ao41 yC.length co41)) (fun _ hk => hk.2) (.int .i64 yV)) (fun _ hk => hk.2) (.int .i64 yW)) (fun _ hk => ⟨hk.1.1.1,⟨hk.1.1.2,hk.1.2⟩⟩))) : Kd.V Kd.string 9 w42 w.heap.size (fun k_ => k_ ≠ yl ∧ k_ ≠ ym ∧ k_ ≠ yj) (.slice Ao41 yC.length co41) yC)) <| haq (hfq hw yD.out ya.out) <| haq (hfq hw yF.out yb.out) <| haq (((by rw [hw];exact (hxq0p yg.out)) : w42.heap[yj]? = some (.cells #[.string yS,.int .i64 yT,.int .i64 yU,.slice Ao40 yB.length co40,.slice Ao41 yC.length co41,.int .i64 yV,.int .i64 yW] 34 (0,0)))) <| haq (((by rw [hw];exact hCq) : Below w.heap.size w w42)) <| trivial;clear hw yp yq ya yb yg HB;obtain ⟨yp,yq,ya,yb,yg,HB,_⟩ := n_;obtain ⟨hcz43_0,hcz43_1,hcz43_2,hfz43_0,hfz43_1,hfz43_2⟩ := hcq3 yb.out) | ((with_reducible refine zN (f := 8) rfl ?_);refine zax (some 53) rfl rfl Try.func8 (by kernel_rfl) rfl #[.agg #[.int .i64 a1_0,.int .i64 a1_1,.slice A1_2 l1_2.length c1_2],.string a2] rfl hMq ?_;(with_reducible refine (z6.calls a1_0 a1_1 (fun k_ => k_ < w.heap.size) _ _ l1_2 a2 Yc Yd Ye yX yY Yf Yg Yu _ ?side1 A26.out).mono ?_);(case side1 => exact Kd.V_mk HC1_2.out (Kd.F_below (Kd.C_F zbS HR1_2.out) hCq));rintro e w44 ⟨YK,YL,rfl,ho0,ho1,hb⟩;refine ⟨_,rfl,?_⟩;have n_ := haq (Kd.V_below (by (with_reducible repeat (first | apply Kd.V_alloc | apply Kd.V_drewN | apply Kd.V_drew));exact yp.out) hb) <| haq (Kd.V_below (by (with_reducible repeat (first | apply Kd.V_alloc | apply Kd.V_drewN | apply Kd.V_drew));exact yq.out) hb) <| haq (Kd.V_lower (Kd.V_mono (ok' := fun k_ => k_ ≠ yl ∧ k_ ≠ ym ∧ k_ ≠ yj) ho0 (fun k_ hk_ => ⟨Or.elim hk_ (fun hs_ => fun e_ => Nat.not_le.2 hs_ (by rw [e_];exact yZ.out)) (fun hn_ => (Kd.freshB (g := yl) (o := .cells #[.int .i64 a0_0,.int .i64 a0_1,.slice A0_2 l0_2.length c0_2] 24 (0,0)) (hGq ya.out) k_ hn_)),Or.elim hk_ (fun hs_ => fun e_ => Nat.not_le.2 hs_ (by rw [e_];exact y8.out)) (fun hn_ => (Kd.freshB (g := ym) (o := .cells #[.int .i64 a1_0,.int .i64 a1_1,.slice A1_2 l1_2.length c1_2] 24 (0,0)) (hGq yb.out) k_ hn_)),Or.elim hk_ (fun hs_ => fun e_ => Nat.not_le.2 hs_ (by rw [e_];exact Yl.out)) (fun hn_ => (Kd.freshB (g := yj) (o := .cells #[.string yS,.int .i64 yT,.int .i64 yU,.slice Ao40 yB.length co40,.slice Ao41 yC.length co41,.int .i64 yV,.int .i64 yW] 34 (0,0)) (hGq yg.out) k_ hn_))⟩)) (zh hCq)) <| haq (Kd.V_lower (Kd.V_mono (ok' := fun k_ => k_ ≠ yl ∧ k_ ≠ ym ∧ k_ ≠ yj) ho1 (fun k_ hk_ => ⟨Or.elim hk_ (fun hs_ => fun e_ => Nat.not_le.2 hs_ (by rw [e_];exact yZ.out)) (fun hn_ => (Kd.freshB (g := yl) (o := .cells #[.int .i64 a0_0,.int .i64 a0_1,.slice A0_2 l0_2.length c0_2] 24 (0,0)) (hGq ya.out) k_ hn_)),Or.elim hk_ (fun hs_ => fun e_ => Nat.not_le.2 hs_ (by rw [e_];exact y8.out)) (fun hn_ => (Kd.freshB (g := ym) (o := .cells #[.int .i64 a1_0,.int .i64 a1_1,.slice A1_2 l1_2.length c1_2] 24 (0,0)) (hGq yb.out) k_ hn_)),Or.elim hk_ (fun hs_ => fun e_ => Nat.not_le.2 hs_ (by rw [e_];exact Yl.out)) (fun hn_ => (Kd.freshB (g := yj) (o := .cells #[.string yS,.int .i64 yT,.int .i64 yU,.slice Ao40 yB.length co40,.slice Ao41 yC.length co41,.int .i64 yV,.int .i64 yW] 34 (0,0)) (hGq yg.out) k_ hn_))⟩)) (zh hCq)) <| haq (hbq ya.out hb) <| haq (hbq yb.out hb) <| haq (hbq yg.out hb) <| haq (zf hCq hb) <| trivial;clear yp yq ya yb yg HB;obtain ⟨yp,yq,yz,yA,ya,yb,yg,HB,_⟩ := n_;(try clear hb);(try clear hb2);(try clear hk);(try clear hi);(try clear ho0);(try clear ho1)) | ((with_reducible refine zq (N := 14) rfl ?_);refine zn rfl (N := 14) rfl (cs := #[.string (⟨#[]⟩ : ByteArray),.int .i64 0,.int .i64 0,.slice none 0 0,.slice none 0 0,.int .i64 0,.int .i64 0]) (t := 34) hrq ?_;intro yh hg w45 hbox hb;have n_ := haq (Kd.V_below (Kd.V_elderB (by (with_reducible repeat (first | apply Kd.V_alloc | apply Kd.V_drewN | apply Kd.V_drew));exact yp.out) yh (Nat.le_of_eq hg.symm)) hb) <| haq (Kd.V_below (Kd.V_elderB (by (with_reducible repeat (first | apply Kd.V_alloc | apply Kd.V_drewN | apply Kd.V_drew));exact yq.out) yh (Nat.le_of_eq hg.symm)) hb) <| haq (Kd.V_below (Kd.V_elderB (by (with_reducible repeat (first | apply Kd.V_alloc | apply Kd.V_drewN | apply Kd.V_drew));exact yz.out) yh (Nat.le_of_eq hg.symm)) hb) <| haq (Kd.V_below (Kd.V_elderB (by (with_reducible repeat (first | apply Kd.V_alloc | apply Kd.V_drewN | apply Kd.V_drew));exact yA.out) yh (Nat.le_of_eq hg.symm)) hb) <| haq (hbq ya.out hb) <| haq (hbq yb.out hb) <| haq (hbq yg.out hb) <| haq (zf hCq hb) <| haq (hbox) <| haq ((by rw [hg];exact (zh hCq) : w.heap.size ≤ yh)) <| haq ((by rw [hg];exact (zh hCq) : w.heap.size ≤ yh)) <| haq (hnq hg ya.out) <| haq (hmq hg ya.out) <| haq (hnq hg yb.out) <| haq (hmq hg yb.out) <| haq (hnq hg yg.out) <| haq (hmq hg yg.out) <| trivial;clear yp yq yz yA ya yb yg HB;obtain ⟨yp,yq,yz,yA,ya,yb,yg,HB,yk,Yv,Ys,yE,yO,yG,yP,Yo,Yw,_⟩ := n_;clear hb hbox hg;have hnb46 := yO.out;have hnc46 := yE.out;have hnb47 := yP.out;have hnc47 := yG.out;have hnb48 := Yw.out;have hnc48 := Yo.out;obtain ⟨hcz49_0,hcz49_1,hcz49_2,hcz49_3,hcz49_4,hcz49_5,hcz49_6,hfz49_0,hfz49_1,hfz49_2,hfz49_3,hfz49_4,hfz49_5,hfz49_6⟩ := hcq7 yk.out;obtain ⟨Ao50,co50,eo50⟩ := Kd.V_slice yz.out;subst eo50;obtain ⟨Ao51,co51,eo51⟩ := Kd.V_slice yA.out;subst eo51;obtain ⟨hcz52_0,hcz52_1,hcz52_2,hfz52_0,hfz52_1,hfz52_2⟩ := hcq3 ya.out;obtain ⟨hcz53_0,hcz53_1,hcz53_2,hfz53_0,hfz53_1,hfz53_2⟩ := hcq3 yb.out) | ((with_reducible refine zN (f := 9) rfl ?_);refine zax (some 58) rfl rfl Try.func9 (by kernel_rfl) rfl #[.agg #[.int .i64 a0_0,.int .i64 a0_1,.slice A0_2 l0_2.length c0_2],.agg #[.int .i64 a1_0,.int .i64 a1_1,.slice A1_2 l1_2.length c1_2]] rfl hMq ?_;(with_reducible refine (zA.calls a0_0 a0_1 _ _ l0_2 a1_0 a1_1 _ _ l1_2 yy _ ?side1 ?side2 ?side3 ?side4 A27.out).mono ?_);(case side1 => exact Kd.C_below HR0_2.out hCq);(case side2 => exact HC0_2.out);(case side3 => exact Kd.C_below HR1_2.out hCq);(case side4 => exact HC1_2.out);rintro e w54 ⟨rfl,hb⟩;refine ⟨_,rfl,?_⟩;have n_ := haq (Kd.V_below (by (with_reducible repeat (first | apply Kd.V_alloc | apply Kd.V_drewN | apply Kd.V_drew));exact (Kd.V_mono (Kd.V_far (p := ⟨yh,6,none⟩) (Kd.V_far (p := ⟨yh,5,none⟩) (Kd.V_far (p := ⟨yh,4,none⟩) (Kd.V_far (p := ⟨yh,3,none⟩) (Kd.V_far (p := ⟨yh,2,none⟩) (Kd.V_far (p := ⟨yh,1,none⟩) (Kd.V_far (p := ⟨yh,0,none⟩) (Kd.V_mono yp.out (fun k_ hk => (⟨hk,hk.2⟩ : _ ∧ k_ ≠ yh))) (fun _ hk => hk.2) (.string Yc)) (fun _ hk => hk.2) (.int .i64 Yd)) (fun _ hk => hk.2) (.int .i64 Ye)) (fun _ hk => hk.2) (.slice Ao50 yX.length co50)) (fun _ hk => hk.2) (.slice Ao51 yY.length co51)) (fun _ hk => hk.2) (.int .i64 Yf)) (fun _ hk => hk.2) (.int .i64 Yg)) (fun _ h_ => h_.1))) hb) <| haq (Kd.V_below (by (with_reducible repeat (first | apply Kd.V_alloc | apply Kd.V_drewN | apply Kd.V_drew));exact (Kd.V_mono (Kd.V_far (p := ⟨yh,6,none⟩) (Kd.V_far (p := ⟨yh,5,none⟩) (Kd.V_far (p := ⟨yh,4,none⟩) (Kd.V_far (p := ⟨yh,3,none⟩) (Kd.V_far (p := ⟨yh,2,none⟩) (Kd.V_far (p := ⟨yh,1,none⟩) (Kd.V_far (p := ⟨yh,0,none⟩) (Kd.V_mono yq.out (fun k_ hk => (⟨hk,hk.2⟩ : _ ∧ k_ ≠ yh))) (fun _ hk => hk.2) (.string Yc)) (fun _ hk => hk.2) (.int .i64 Yd)) (fun _ hk => hk.2) (.int .i64 Ye)) (fun _ hk => hk.2) (.slice Ao50 yX.length co50)) (fun _ hk => hk.2) (.slice Ao51 yY.length co51)) (fun _ hk => hk.2) (.int .i64 Yf)) (fun _ hk => hk.2) (.int .i64 Yg)) (fun _ h_ => h_.1))) hb) <| haq (Kd.V_below (by (with_reducible repeat (first | apply Kd.V_alloc | apply Kd.V_drewN | apply Kd.V_drew));exact (Kd.V_mono (Kd.V_far (p := ⟨yh,6,none⟩) (Kd.V_far (p := ⟨yh,5,none⟩) (Kd.V_far (p := ⟨yh,4,none⟩) (Kd.V_far (p := ⟨yh,3,none⟩) (Kd.V_far (p := ⟨yh,2,none⟩) (Kd.V_far (p := ⟨yh,1,none⟩) (Kd.V_far (p := ⟨yh,0,none⟩) (Kd.V_mono yz.out (fun k_ hk => (⟨hk,hk.2⟩ : _ ∧ k_ ≠ yh))) (fun _ hk => hk.2) (.string Yc)) (fun _ hk => hk.2) (.int .i64 Yd)) (fun _ hk => hk.2) (.int .i64 Ye)) (fun _ hk => hk.2) (.slice Ao50 yX.length co50)) (fun _ hk => hk.2) (.slice Ao51 yY.length co51)) (fun _ hk => hk.2) (.int .i64 Yf)) (fun _ hk => hk.2) (.int .i64 Yg)) (fun _ h_ => h_.1))) hb) <| haq (Kd.V_below (by (with_reducible repeat (first | apply Kd.V_alloc | apply Kd.V_drewN | apply Kd.V_drew));exact (Kd.V_mono (Kd.V_far (p := ⟨yh,6,none⟩) (Kd.V_far (p := ⟨yh,5,none⟩) (Kd.V_far (p := ⟨yh,4,none⟩) (Kd.V_far (p := ⟨yh,3,none⟩) (Kd.V_far (p := ⟨yh,2,none⟩) (Kd.V_far (p := ⟨yh,1,none⟩) (Kd.V_far (p := ⟨yh,0,none⟩) (Kd.V_mono yA.out (fun k_ hk => (⟨hk,hk.2⟩ : _ ∧ k_ ≠ yh))) (fun _ hk => hk.2) (.string Yc)) (fun _ hk => hk.2) (.int .i64 Yd)) (fun _ hk => hk.2) (.int .i64 Ye)) (fun _ hk => hk.2) (.slice Ao50 yX.length co50)) (fun _ hk => hk.2) (.slice Ao51 yY.length co51)) (fun _ hk => hk.2) (.int .i64 Yf)) (fun _ hk => hk.2) (.int .i64 Yg)) (fun _ h_ => h_.1))) hb) <| haq (zr (g := yl) (o := .cells #[.int .i64 a0_0,.int .i64 a0_1,.slice A0_2 l0_2.length c0_2] 24 (0,0)) (hxq1 yE.out ya.out) hb) <| haq (zr (g := ym) (o := .cells #[.int .i64 a1_0,.int .i64 a1_1,.slice A1_2 l1_2.length c1_2] 24 (0,0)) (hxq1 yG.out yb.out) hb) <| haq (zr (g := yj) (o := .cells #[.string yS,.int .i64 yT,.int .i64 yU,.slice Ao40 yB.length co40,.slice Ao41 yC.length co41,.int .i64 yV,.int .i64 yW] 34 (0,0)) (hxq1 Yo.out yg.out) hb) <| haq (zr (g := yh) (o := .cells #[.string Yc,.int .i64 Yd,.int .i64 Ye,.slice Ao50 yX.length co50,.slice Ao51 yY.length co51,.int .i64 Yf,.int .i64 Yg] 34 (0,0)) (hxq0p yk.out) hb) <| haq (zf hCq hb) <| trivial;clear yp yq yz yA ya yb yg yk HB;obtain ⟨yp,yq,yz,yA,ya,yb,yg,yk,HB,_⟩ := n_;(try clear hb);(try clear hb2);(try clear hk);(try clear hi)))
    (try simp only [Act.put,List.setIfInBounds_toArray,List.set_cons_zero,List.set_cons_succ])
    go_cut [76] (fun v76 wc => ∃ (kq : Nat) (x76_27 : Bool),v76 = .bool x76_27 ∧ za (ze.j1 kq a2 yi x76_27 a0_0 a0_1 l0_2 a1_0 a1_1 l1_2 = some r) ∧ za (kq ≤ kj6) ∧ za (Kd.V k78 78 wc w.heap.size (fun k_ => k_ ≠ yl ∧ k_ ≠ ym ∧ k_ ≠ yj ∧ k_ ≠ yh) (.slice Ao40 yB.length co40) yB) ∧ za (Kd.V Kd.string 9 wc w.heap.size (fun k_ => k_ ≠ yl ∧ k_ ≠ ym ∧ k_ ≠ yj ∧ k_ ≠ yh) (.slice Ao41 yC.length co41) yC) ∧ za (Kd.V k78 78 wc w.heap.size (fun k_ => k_ ≠ yl ∧ k_ ≠ ym ∧ k_ ≠ yj ∧ k_ ≠ yh) (.slice Ao50 yX.length co50) yX) ∧ za (Kd.V Kd.string 9 wc w.heap.size (fun k_ => k_ ≠ yl ∧ k_ ≠ ym ∧ k_ ≠ yj ∧ k_ ≠ yh) (.slice Ao51 yY.length co51) yY) ∧ za (wc.heap[yl]? = some (.cells #[.int .i64 a0_0,.int .i64 a0_1,(.slice A0_2 l0_2.length c0_2)] 24 (0,0))) ∧ za (wc.heap[ym]? = some (.cells #[.int .i64 a1_0,.int .i64 a1_1,(.slice A1_2 l1_2.length c1_2)] 24 (0,0))) ∧ za (wc.heap[yj]? = some (.cells #[.string yS,.int .i64 yT,.int .i64 yU,(.slice Ao40 yB.length co40),(.slice Ao41 yC.length co41),.int .i64 yV,.int .i64 yW] 34 (0,0))) ∧ za (wc.heap[yh]? = some (.cells #[.string Yc,.int .i64 Yd,.int .i64 Ye,(.slice Ao50 yX.length co50),(.slice Ao51 yY.length co51),.int .i64 Yf,.int .i64 Yg] 34 (0,0))) ∧ za (Below w.heap.size w wc))
    case first =>
     have H := HC28.out
     clear HC28
     by_cases c55 : Yb = true
     ·subst c55
      have H1 : (if yR = true then (if Yt = true then (if Yu = true then (ze.j1 kj6 a2 yi (!yy) a0_0 a0_1 l0_2 a1_0 a1_1 l1_2) else (ze.j1 kj6 a2 yi true a0_0 a0_1 l0_2 a1_0 a1_1 l1_2)) else (ze.j1 kj6 a2 yi true a0_0 a0_1 l0_2 a1_0 a1_1 l1_2)) else (ze.j1 kj6 a2 yi true a0_0 a0_1 l0_2 a1_0 a1_1 l1_2)) = some r := by rw [if_pos rfl] at H;exact H
      clear H
      have H := H1
      clear H1
      by_cases c56 : yR = true
      ·subst c56
       have H1 : (if Yt = true then (if Yu = true then (ze.j1 kj6 a2 yi (!yy) a0_0 a0_1 l0_2 a1_0 a1_1 l1_2) else (ze.j1 kj6 a2 yi true a0_0 a0_1 l0_2 a1_0 a1_1 l1_2)) else (ze.j1 kj6 a2 yi true a0_0 a0_1 l0_2 a1_0 a1_1 l1_2)) = some r := by rw [if_pos rfl] at H;exact H
       clear H
       have H := H1
       clear H1
       by_cases c57 : Yt = true
       ·subst c57
        have H1 : (if Yu = true then (ze.j1 kj6 a2 yi (!yy) a0_0 a0_1 l0_2 a1_0 a1_1 l1_2) else (ze.j1 kj6 a2 yi true a0_0 a0_1 l0_2 a1_0 a1_1 l1_2)) = some r := by rw [if_pos rfl] at H;exact H
        clear H
        have H := H1
        clear H1
        by_cases c58 : Yu = true
        ·subst c58
         have H1 : (ze.j1 kj6 a2 yi (!yy) a0_0 a0_1 l0_2 a1_0 a1_1 l1_2) = some r := by rw [if_pos rfl] at H;exact H
         clear H
         have H := H1
         clear H1
         have H' := za.mk H
         clear H
         go_wp2
         go_meet
         case rel => exact ⟨_,(!yy),(hDq),H',⟨by have := HJ6.out;first | omega | exact Nat.le_refl _⟩,⟨by (with_reducible repeat (first | apply Kd.V_alloc | apply Kd.V_drewN | apply Kd.V_drew));exact Kd.V_mono yp.out (fun _ hk => ⟨hk.1.1,⟨hk.1.2.1,⟨hk.1.2.2,hk.2⟩⟩⟩)⟩,⟨by (with_reducible repeat (first | apply Kd.V_alloc | apply Kd.V_drewN | apply Kd.V_drew));exact Kd.V_mono yq.out (fun _ hk => ⟨hk.1.1,⟨hk.1.2.1,⟨hk.1.2.2,hk.2⟩⟩⟩)⟩,⟨by (with_reducible repeat (first | apply Kd.V_alloc | apply Kd.V_drewN | apply Kd.V_drew));exact Kd.V_mono yz.out (fun _ hk => ⟨hk.1.1,⟨hk.1.2.1,⟨hk.1.2.2,hk.2⟩⟩⟩)⟩,⟨by (with_reducible repeat (first | apply Kd.V_alloc | apply Kd.V_drewN | apply Kd.V_drew));exact Kd.V_mono yA.out (fun _ hk => ⟨hk.1.1,⟨hk.1.2.1,⟨hk.1.2.2,hk.2⟩⟩⟩)⟩,⟨hGq ya.out⟩,⟨hGq yb.out⟩,⟨hGq yg.out⟩,⟨hGq yk.out⟩,⟨by repeat (first | (with_reducible first | exact HB.out | apply zm | apply zj | apply zp | refine zl ?_ yH.out | refine zl ?_ yI.out | refine zl ?_ Yr.out | refine zl ?_ Ys.out) | exact HB.out)⟩⟩
        ·replace c58 := Bool.eq_false_iff.mpr c58
         subst c58
         have H1 : (ze.j1 kj6 a2 yi true a0_0 a0_1 l0_2 a1_0 a1_1 l1_2) = some r := by rw [if_neg (show ¬ (false = true) by decide)] at H;exact H
         clear H
         have H := H1
         clear H1
         have H' := za.mk H
         clear H
         go_wp2
         go_meet
         case rel => exact ⟨_,(true),(hDq),H',⟨by have := HJ6.out;first | omega | exact Nat.le_refl _⟩,⟨by (with_reducible repeat (first | apply Kd.V_alloc | apply Kd.V_drewN | apply Kd.V_drew));exact Kd.V_mono yp.out (fun _ hk => ⟨hk.1.1,⟨hk.1.2.1,⟨hk.1.2.2,hk.2⟩⟩⟩)⟩,⟨by (with_reducible repeat (first | apply Kd.V_alloc | apply Kd.V_drewN | apply Kd.V_drew));exact Kd.V_mono yq.out (fun _ hk => ⟨hk.1.1,⟨hk.1.2.1,⟨hk.1.2.2,hk.2⟩⟩⟩)⟩,⟨by (with_reducible repeat (first | apply Kd.V_alloc | apply Kd.V_drewN | apply Kd.V_drew));exact Kd.V_mono yz.out (fun _ hk => ⟨hk.1.1,⟨hk.1.2.1,⟨hk.1.2.2,hk.2⟩⟩⟩)⟩,⟨by (with_reducible repeat (first | apply Kd.V_alloc | apply Kd.V_drewN | apply Kd.V_drew));exact Kd.V_mono yA.out (fun _ hk => ⟨hk.1.1,⟨hk.1.2.1,⟨hk.1.2.2,hk.2⟩⟩⟩)⟩,⟨hGq ya.out⟩,⟨hGq yb.out⟩,⟨hGq yg.out⟩,⟨hGq yk.out⟩,⟨by repeat (first | (with_reducible first | exact HB.out | apply zm | apply zj | apply zp | refine zl ?_ yH.out | refine zl ?_ yI.out | refine zl ?_ Yr.out | refine zl ?_ Ys.out) | exact HB.out)⟩⟩
       ·replace c57 := Bool.eq_false_iff.mpr c57
        subst c57
        have H1 : (ze.j1 kj6 a2 yi true a0_0 a0_1 l0_2 a1_0 a1_1 l1_2) = some r := by rw [if_neg (show ¬ (false = true) by decide)] at H;exact H
        clear H
        have H := H1
        clear H1
        have H' := za.mk H
        clear H
        go_wp2
        go_meet
        case rel => exact ⟨_,(true),(hDq),H',⟨by have := HJ6.out;first | omega | exact Nat.le_refl _⟩,⟨by (with_reducible repeat (first | apply Kd.V_alloc | apply Kd.V_drewN | apply Kd.V_drew));exact Kd.V_mono yp.out (fun _ hk => ⟨hk.1.1,⟨hk.1.2.1,⟨hk.1.2.2,hk.2⟩⟩⟩)⟩,⟨by (with_reducible repeat (first | apply Kd.V_alloc | apply Kd.V_drewN | apply Kd.V_drew));exact Kd.V_mono yq.out (fun _ hk => ⟨hk.1.1,⟨hk.1.2.1,⟨hk.1.2.2,hk.2⟩⟩⟩)⟩,⟨by (with_reducible repeat (first | apply Kd.V_alloc | apply Kd.V_drewN | apply Kd.V_drew));exact Kd.V_mono yz.out (fun _ hk => ⟨hk.1.1,⟨hk.1.2.1,⟨hk.1.2.2,hk.2⟩⟩⟩)⟩,⟨by (with_reducible repeat (first | apply Kd.V_alloc | apply Kd.V_drewN | apply Kd.V_drew));exact Kd.V_mono yA.out (fun _ hk => ⟨hk.1.1,⟨hk.1.2.1,⟨hk.1.2.2,hk.2⟩⟩⟩)⟩,⟨hGq ya.out⟩,⟨hGq yb.out⟩,⟨hGq yg.out⟩,⟨hGq yk.out⟩,⟨by repeat (first | (with_reducible first | exact HB.out | apply zm | apply zj | apply zp | refine zl ?_ yH.out | refine zl ?_ yI.out | refine zl ?_ Yr.out | refine zl ?_ Ys.out) | exact HB.out)⟩⟩
      ·replace c56 := Bool.eq_false_iff.mpr c56
       subst c56
       have H1 : (ze.j1 kj6 a2 yi true a0_0 a0_1 l0_2 a1_0 a1_1 l1_2) = some r := by rw [if_neg (show ¬ (false = true) by decide)] at H;exact H
       clear H
       have H := H1
       clear H1
       have H' := za.mk H
       clear H
       go_wp2
       go_meet
       case rel => exact ⟨_,(true),(hDq),H',⟨by have := HJ6.out;first | omega | exact Nat.le_refl _⟩,⟨by (with_reducible repeat (first | apply Kd.V_alloc | apply Kd.V_drewN | apply Kd.V_drew));exact Kd.V_mono yp.out (fun _ hk => ⟨hk.1.1,⟨hk.1.2.1,⟨hk.1.2.2,hk.2⟩⟩⟩)⟩,⟨by (with_reducible repeat (first | apply Kd.V_alloc | apply Kd.V_drewN | apply Kd.V_drew));exact Kd.V_mono yq.out (fun _ hk => ⟨hk.1.1,⟨hk.1.2.1,⟨hk.1.2.2,hk.2⟩⟩⟩)⟩,⟨by (with_reducible repeat (first | apply Kd.V_alloc | apply Kd.V_drewN | apply Kd.V_drew));exact Kd.V_mono yz.out (fun _ hk => ⟨hk.1.1,⟨hk.1.2.1,⟨hk.1.2.2,hk.2⟩⟩⟩)⟩,⟨by (with_reducible repeat (first | apply Kd.V_alloc | apply Kd.V_drewN | apply Kd.V_drew));exact Kd.V_mono yA.out (fun _ hk => ⟨hk.1.1,⟨hk.1.2.1,⟨hk.1.2.2,hk.2⟩⟩⟩)⟩,⟨hGq ya.out⟩,⟨hGq yb.out⟩,⟨hGq yg.out⟩,⟨hGq yk.out⟩,⟨by repeat (first | (with_reducible first | exact HB.out | apply zm | apply zj | apply zp | refine zl ?_ yH.out | refine zl ?_ yI.out | refine zl ?_ Yr.out | refine zl ?_ Ys.out) | exact HB.out)⟩⟩
     ·replace c55 := Bool.eq_false_iff.mpr c55
      subst c55
      have H1 : (ze.j1 kj6 a2 yi true a0_0 a0_1 l0_2 a1_0 a1_1 l1_2) = some r := by rw [if_neg (show ¬ (false = true) by decide)] at H;exact H
      clear H
      have H := H1
      clear H1
      have H' := za.mk H
      clear H
      go_wp2
      go_meet
      case rel => exact ⟨_,(true),(hDq),H',⟨by have := HJ6.out;first | omega | exact Nat.le_refl _⟩,⟨by (with_reducible repeat (first | apply Kd.V_alloc | apply Kd.V_drewN | apply Kd.V_drew));exact Kd.V_mono yp.out (fun _ hk => ⟨hk.1.1,⟨hk.1.2.1,⟨hk.1.2.2,hk.2⟩⟩⟩)⟩,⟨by (with_reducible repeat (first | apply Kd.V_alloc | apply Kd.V_drewN | apply Kd.V_drew));exact Kd.V_mono yq.out (fun _ hk => ⟨hk.1.1,⟨hk.1.2.1,⟨hk.1.2.2,hk.2⟩⟩⟩)⟩,⟨by (with_reducible repeat (first | apply Kd.V_alloc | apply Kd.V_drewN | apply Kd.V_drew));exact Kd.V_mono yz.out (fun _ hk => ⟨hk.1.1,⟨hk.1.2.1,⟨hk.1.2.2,hk.2⟩⟩⟩)⟩,⟨by (with_reducible repeat (first | apply Kd.V_alloc | apply Kd.V_drewN | apply Kd.V_drew));exact Kd.V_mono yA.out (fun _ hk => ⟨hk.1.1,⟨hk.1.2.1,⟨hk.1.2.2,hk.2⟩⟩⟩)⟩,⟨hGq ya.out⟩,⟨hGq yb.out⟩,⟨hGq yg.out⟩,⟨hGq yk.out⟩,⟨by repeat (first | (with_reducible first | exact HB.out | apply zm | apply zj | apply zp | refine zl ?_ yH.out | refine zl ?_ yI.out | refine zl ?_ Yr.out | refine zl ?_ Ys.out) | exact HB.out)⟩⟩
    case rest =>
     clear HC28
     try clear c1;try clear c2;try clear p2;try clear c3;try clear c4;try clear c5;try clear c6;try clear c7;try clear c8;try clear c9;try clear c11;try clear c16;try clear c17;try clear c18;try clear c19;try clear c22;try clear c29;try clear c37;try clear c38;try clear c46;try clear c47;try clear c48;try clear c55;try clear c56;try clear c57;try clear c58;try clear hcz12_0;try clear hcz12_1;try clear hcz12_2;try clear hcz14_0;try clear hcz14_1;try clear hcz14_2;try clear hcz20_0;try clear hcz20_1;try clear hcz20_2;try clear hcz21_0;try clear hcz21_1;try clear hcz21_2;try clear hcz30_0;try clear hcz30_1;try clear hcz30_2;try clear hcz32_0;try clear hcz32_1;try clear hcz32_2;try clear hcz34_0;try clear hcz34_1;try clear hcz34_2;try clear hcz39_0;try clear hcz39_1;try clear hcz39_2;try clear hcz39_3;try clear hcz39_4;try clear hcz39_5;try clear hcz39_6;try clear hcz43_0;try clear hcz43_1;try clear hcz43_2;try clear hcz49_0;try clear hcz49_1;try clear hcz49_2;try clear hcz49_3;try clear hcz49_4;try clear hcz49_5;try clear hcz49_6;try clear hcz52_0;try clear hcz52_1;try clear hcz52_2;try clear hcz53_0;try clear hcz53_1;try clear hcz53_2;try clear hfz12_0;try clear hfz12_1;try clear hfz12_2;try clear hfz14_0;try clear hfz14_1;try clear hfz14_2;try clear hfz20_0;try clear hfz20_1;try clear hfz20_2;try clear hfz21_0;try clear hfz21_1;try clear hfz21_2;try clear hfz30_0;try clear hfz30_1;try clear hfz30_2;try clear hfz32_0;try clear hfz32_1;try clear hfz32_2;try clear hfz34_0;try clear hfz34_1;try clear hfz34_2;try clear hfz39_0;try clear hfz39_1;try clear hfz39_2;try clear hfz39_3;try clear hfz39_4;try clear hfz39_5;try clear hfz39_6;try clear hfz43_0;try clear hfz43_1;try clear hfz43_2;try clear hfz49_0;try clear hfz49_1;try clear hfz49_2;try clear hfz49_3;try clear hfz49_4;try clear hfz49_5;try clear hfz49_6;try clear hfz52_0;try clear hfz52_1;try clear hfz52_2;try clear hfz53_0;try clear hfz53_1;try clear hfz53_2;try clear p2
     obtain ⟨kq,x76_27,rfl,HA,HJ27,yc,yd,ye,yf,ya,yb,yg,yk,HB⟩ := hcut
     cases kq with
     | zero => exact absurd HA.out (by simp [ze.j1])
     | succ kj27 =>
      have H := HA.out
      clear HA
      simp only [ze.j1] at H
      by_cases c59 : x76_27 = true
      ·subst c59
       have H1 : (some yi) = some r := by rw [if_pos rfl] at H;exact H
       clear H
       have H := H1
       clear H1
       obtain rfl := Option.some.inj H
       go_wp2
       go_ret
       exact ⟨hHq,hCq⟩
      ·replace c59 := Bool.eq_false_iff.mpr c59
       subst c59
       have H1 : (if a1_1 > a0_1 then ((zaI.f a0_0 a0_1 l0_2 a2 a1_1).bind fun Yp => ((zaI.f a1_0 a1_1 l1_2 a2 a1_1).bind fun Yh => ((zo.f kj27 Yp Yh).bind fun Yi => (some Yi)))) else ((zaI.f a0_0 a0_1 l0_2 a2 a0_1).bind fun Yq => ((zaI.f a1_0 a1_1 l1_2 a2 a0_1).bind fun Yj => ((zo.f kj27 Yq Yj).bind fun Yk => (some Yk))))) = some r := by rw [if_neg (show ¬ (false = true) by decide)] at H;exact H
       clear H
       have H := H1
       clear H1
       by_cases c60 : a1_1 > a0_1
       ·rw [if_pos c60] at H
        have c60b0 : decide (a0_1 < a1_1) = true := decide_eq_true c60
        clear c60
        replace H := Option.bind_eq_some_iff.mp H
        obtain ⟨Yp,YC,H⟩ := H
        replace H : ((zaI.f a1_0 a1_1 l1_2 a2 a1_1).bind fun Yh => ((zo.f kj27 Yp Yh).bind fun Yi => (some Yi))) = some r := H
        have A61 := za.mk YC
        clear YC
        replace H := Option.bind_eq_some_iff.mp H
        obtain ⟨Yh,YD,H⟩ := H
        replace H : ((zo.f kj27 Yp Yh).bind fun Yi => (some Yi)) = some r := H
        have A62 := za.mk YD
        clear YD
        replace H := Option.bind_eq_some_iff.mp H
        obtain ⟨Yi,YE,H⟩ := H
        replace H : (some Yi) = some r := H
        have A63 := za.mk YE
        clear YE
        obtain rfl := Option.some.inj H
        have hnb64 := yw.out
        have hnc64 := yx.out
        have hnb65 := yD.out
        have hnc65 := yM.out
        have hnb66 := yE.out
        have hnc66 := yO.out
        obtain ⟨hcz67_0,hcz67_1,hcz67_2,hfz67_0,hfz67_1,hfz67_2⟩ := hcq3 ya.out
        have hnb68 := yF.out
        have hnc68 := yN.out
        have hnb69 := yG.out
        have hnc69 := yP.out
        obtain ⟨hcz70_0,hcz70_1,hcz70_2,hfz70_0,hfz70_1,hfz70_2⟩ := hcq3 yb.out
        try go_wp2
        have n0_ := za.mk (Kd.V_drew yc.out)
        have n1_ := za.mk (Kd.V_drew yd.out)
        have n2_ := za.mk (Kd.V_drew ye.out)
        have n3_ := za.mk (Kd.V_drew yf.out)
        have n4_ := za.mk (zaa ya.out)
        have n5_ := za.mk (zaa yb.out)
        have n6_ := za.mk (zaa yg.out)
        have n7_ := za.mk (zaa yk.out)
        have n8_ := za.mk (zp HB.out)
        clear yc
        clear yd
        clear ye
        clear yf
        clear ya
        clear yb
        clear yg
        clear yk
        clear HB
        have yc := n0_
        have yd := n1_
        have ye := n2_
        have yf := n3_
        have ya := n4_
        have yb := n5_
        have yg := n6_
        have yk := n7_
        have HB := n8_
        clear n0_ n1_ n2_ n3_ n4_ n5_ n6_ n7_ n8_
        refine zbx (n := 10) (S := fun w' => w'.cell? ⟨yl,0,none⟩ = some (.int .i64 a0_0) ∧ w'.cell? ⟨yl,1,none⟩ = some (.int .i64 a0_1) ∧ w'.cell? ⟨yl,2,none⟩ = some (.slice A0_2 l0_2.length c0_2) ∧ w'.cell? ⟨ym,0,none⟩ = some (.int .i64 a1_0) ∧ w'.cell? ⟨ym,1,none⟩ = some (.int .i64 a1_1) ∧ w'.cell? ⟨ym,2,none⟩ = some (.slice A1_2 l1_2.length c1_2)) (ds := []) (uQ 10 0) (by kernel_rfl) rfl rfl ⟨(zb ya.out 0).trans rfl,(zb ya.out 1).trans rfl,(zb ya.out 2).trans rfl,(zb yb.out 0).trans rfl,(zb yb.out 1).trans rfl,(zb yb.out 2).trans rfl⟩ (fun hHeld => ?_);refine zaG ze.tab16 ze.bits16 (fun HT_ HW_ => ?_)
        generalize wc.drew = w71 at yc yd ye yf ya yb yg yk HB hHeld ⊢
        refine puq (i := 1) (N := some 87) HT_.out #[false,true,false,false,false,false,false,false,false,false] ?_
        refine puq (i := 2) (N := some 88) HT_.out #[false,true,true,false,false,false,false,false,false,false] ?_
        refine puq (i := 5) (N := some 91) HT_.out #[false,true,true,false,false,true,false,false,false,false] ?_
        refine puq (i := 6) (N := some 92) HT_.out #[false,true,true,false,false,true,true,false,false,false] ?_
        refine take_ (i := 0) (N := some 86) #[true,true,true,false,false,true,true,false,false,false] rfl rfl (zU HT_.out HW_.out (by kernel_rfl)) (fun _ _ _ h => h) (Or.inl ⟨by rfl,by rintro w' ⟨s0,s1,s2,s3,s4,s5⟩;go_simp;with_reducible rfl⟩) hHeld hPq ?_
        refine take_ (i := 4) (N := some 90) #[true,true,true,false,true,true,true,false,false,false] rfl rfl (zU HT_.out HW_.out (by kernel_rfl)) (fun _ _ _ h => h) (Or.inl ⟨by rfl,by rintro w' ⟨s0,s1,s2,s3,s4,s5⟩;go_simp;with_reducible rfl⟩) hHeld hPq ?_
        refine zcl (i := 3) (N := some 89) (uQ 10 7) rfl rfl (zaY HT_.out (by kernel_rfl)) (by decide) (fun K hK => ?_)
        refine zbs Try.func11 (by kernel_rfl) rfl #[.agg #[.int .i64 a0_0,.int .i64 a0_1,.slice A0_2 l0_2.length c0_2],.string a2,.int .i64 a1_1] (by rfl) rfl rfl hMq ?_
        with_reducible refine (zaI.calls a0_0 a0_1 (fun k_ => k_ < w.heap.size) _ _ l0_2 a2 a1_1 Yp _ ?side1 A61.out).mono ?_
        (case side1 => exact Kd.V_mk HC0_2.out (Kd.F_below (Kd.C_F zbS HR0_2.out) hCq))
        rintro e w72 ⟨YM,rfl,ho0,hb⟩
        refine ⟨_,rfl,?_⟩
        have n0_ := za.mk (Kd.V_below (by (with_reducible repeat (first | apply Kd.V_alloc | apply Kd.V_drewN | apply Kd.V_drew));exact yc.out) hb)
        have n1_ := za.mk (Kd.V_below (by (with_reducible repeat (first | apply Kd.V_alloc | apply Kd.V_drewN | apply Kd.V_drew));exact yd.out) hb)
        have n2_ := za.mk (Kd.V_below (by (with_reducible repeat (first | apply Kd.V_alloc | apply Kd.V_drewN | apply Kd.V_drew));exact ye.out) hb)
        have n3_ := za.mk (Kd.V_below (by (with_reducible repeat (first | apply Kd.V_alloc | apply Kd.V_drewN | apply Kd.V_drew));exact yf.out) hb)
        have n4_ := za.mk (Kd.V_lower (Kd.V_mono (ok' := fun k_ => k_ ≠ yl ∧ k_ ≠ ym ∧ k_ ≠ yj ∧ k_ ≠ yh) ho0 (fun k_ hk_ => ⟨Or.elim hk_ (fun hs_ => fun e_ => Nat.not_le.2 hs_ (by rw [e_];exact yZ.out)) (fun hn_ => (Kd.freshB (g := yl) (o := .cells #[.int .i64 a0_0,.int .i64 a0_1,.slice A0_2 l0_2.length c0_2] 24 (0,0)) (hGq ya.out) k_ hn_)),Or.elim hk_ (fun hs_ => fun e_ => Nat.not_le.2 hs_ (by rw [e_];exact y8.out)) (fun hn_ => (Kd.freshB (g := ym) (o := .cells #[.int .i64 a1_0,.int .i64 a1_1,.slice A1_2 l1_2.length c1_2] 24 (0,0)) (hGq yb.out) k_ hn_)),Or.elim hk_ (fun hs_ => fun e_ => Nat.not_le.2 hs_ (by rw [e_];exact Yl.out)) (fun hn_ => (Kd.freshB (g := yj) (o := .cells #[.string yS,.int .i64 yT,.int .i64 yU,.slice Ao40 yB.length co40,.slice Ao41 yC.length co41,.int .i64 yV,.int .i64 yW] 34 (0,0)) (hGq yg.out) k_ hn_)),Or.elim hk_ (fun hs_ => fun e_ => Nat.not_le.2 hs_ (by rw [e_];exact Yv.out)) (fun hn_ => (Kd.freshB (g := yh) (o := .cells #[.string Yc,.int .i64 Yd,.int .i64 Ye,.slice Ao50 yX.length co50,.slice Ao51 yY.length co51,.int .i64 Yf,.int .i64 Yg] 34 (0,0)) (hGq yk.out) k_ hn_))⟩)) (zh hCq))
        have n5_ := za.mk (hbq ya.out hb)
        have n6_ := za.mk (hbq yb.out hb)
        have n7_ := za.mk (hbq yg.out hb)
        have n8_ := za.mk (hbq yk.out hb)
        have n9_ := za.mk (zf hCq hb)
        clear yc
        clear yd
        clear ye
        clear yf
        clear ya
        clear yb
        clear yg
        clear yk
        clear HB
        have yc := n0_
        have yd := n1_
        have ye := n2_
        have yf := n3_
        have yJ := n4_
        have ya := n5_
        have yb := n6_
        have yg := n7_
        have yk := n8_
        have HB := n9_
        clear n0_ n1_ n2_ n3_ n4_ n5_ n6_ n7_ n8_ n9_
        (try clear hb)
        (try clear hb2)
        (try clear hk)
        (try clear hi)
        (try clear ho0)
        refine hK.out _ _ ⟨(zb ya.out 0).trans rfl,(zb ya.out 1).trans rfl,(zb ya.out 2).trans rfl,(zb yb.out 0).trans rfl,(zb yb.out 1).trans rfl,(zb yb.out 2).trans rfl⟩ (fun hHeld => ?_)
        clear hK K
        refine zbu (a' := ?_) ?_ ?_
        rotate_left
        ·show Act.put _ (some 89) _ = _
         simp only [Act.put,List.setIfInBounds_toArray,List.set_cons_zero,List.set_cons_succ,zah,zaj]
         rfl
        refine zcl (i := 7) (N := some 93) (uQ 10 8) rfl rfl (zaY HT_.out (by kernel_rfl)) (by decide) (fun K hK => ?_)
        refine zbs Try.func11 (by kernel_rfl) rfl #[.agg #[.int .i64 a1_0,.int .i64 a1_1,.slice A1_2 l1_2.length c1_2],.string a2,.int .i64 a1_1] (by rfl) rfl rfl hMq ?_
        with_reducible refine (zaI.calls a1_0 a1_1 (fun k_ => k_ < w.heap.size) _ _ l1_2 a2 a1_1 Yh _ ?side1 A62.out).mono ?_
        (case side1 => exact Kd.V_mk HC1_2.out (Kd.F_below (Kd.C_F zbS HR1_2.out) hCq))
        rintro e w73 ⟨YN,rfl,ho0,hb⟩
        refine ⟨_,rfl,?_⟩
        have n0_ := za.mk (Kd.V_below (by (with_reducible repeat (first | apply Kd.V_alloc | apply Kd.V_drewN | apply Kd.V_drew));exact yc.out) hb)
        have n1_ := za.mk (Kd.V_below (by (with_reducible repeat (first | apply Kd.V_alloc | apply Kd.V_drewN | apply Kd.V_drew));exact yd.out) hb)
        have n2_ := za.mk (Kd.V_below (by (with_reducible repeat (first | apply Kd.V_alloc | apply Kd.V_drewN | apply Kd.V_drew));exact ye.out) hb)
        have n3_ := za.mk (Kd.V_below (by (with_reducible repeat (first | apply Kd.V_alloc | apply Kd.V_drewN | apply Kd.V_drew));exact yf.out) hb)
        have n4_ := za.mk (Kd.V_below (by (with_reducible repeat (first | apply Kd.V_alloc | apply Kd.V_drewN | apply Kd.V_drew));exact yJ.out) hb)
        have n5_ := za.mk (Kd.V_lower (Kd.V_mono (ok' := fun k_ => k_ ≠ yl ∧ k_ ≠ ym ∧ k_ ≠ yj ∧ k_ ≠ yh) ho0 (fun k_ hk_ => ⟨Or.elim hk_ (fun hs_ => fun e_ => Nat.not_le.2 hs_ (by rw [e_];exact yZ.out)) (fun hn_ => (Kd.freshB (g := yl) (o := .cells #[.int .i64 a0_0,.int .i64 a0_1,.slice A0_2 l0_2.length c0_2] 24 (0,0)) (hGq ya.out) k_ hn_)),Or.elim hk_ (fun hs_ => fun e_ => Nat.not_le.2 hs_ (by rw [e_];exact y8.out)) (fun hn_ => (Kd.freshB (g := ym) (o := .cells #[.int .i64 a1_0,.int .i64 a1_1,.slice A1_2 l1_2.length c1_2] 24 (0,0)) (hGq yb.out) k_ hn_)),Or.elim hk_ (fun hs_ => fun e_ => Nat.not_le.2 hs_ (by rw [e_];exact Yl.out)) (fun hn_ => (Kd.freshB (g := yj) (o := .cells #[.string yS,.int .i64 yT,.int .i64 yU,.slice Ao40 yB.length co40,.slice Ao41 yC.length co41,.int .i64 yV,.int .i64 yW] 34 (0,0)) (hGq yg.out) k_ hn_)),Or.elim hk_ (fun hs_ => fun e_ => Nat.not_le.2 hs_ (by rw [e_];exact Yv.out)) (fun hn_ => (Kd.freshB (g := yh) (o := .cells #[.string Yc,.int .i64 Yd,.int .i64 Ye,.slice Ao50 yX.length co50,.slice Ao51 yY.length co51,.int .i64 Yf,.int .i64 Yg] 34 (0,0)) (hGq yk.out) k_ hn_))⟩)) (zh hCq))
        have n6_ := za.mk (hbq ya.out hb)
        have n7_ := za.mk (hbq yb.out hb)
        have n8_ := za.mk (hbq yg.out hb)
        have n9_ := za.mk (hbq yk.out hb)
        have n10_ := za.mk (zf hCq hb)
        clear yc
        clear yd
        clear ye
        clear yf
        clear yJ
        clear ya
        clear yb
        clear yg
        clear yk
        clear HB
        have yc := n0_
        have yd := n1_
        have ye := n2_
        have yf := n3_
        have yJ := n4_
        have Ym := n5_
        have ya := n6_
        have yb := n7_
        have yg := n8_
        have yk := n9_
        have HB := n10_
        clear n0_ n1_ n2_ n3_ n4_ n5_ n6_ n7_ n8_ n9_ n10_
        (try clear hb)
        (try clear hb2)
        (try clear hk)
        (try clear hi)
        (try clear ho0)
        obtain ⟨Ao74,co74,eo74⟩ := Kd.V_slice yJ.out
        (first | subst eo74 | (injection eo74 with f1_ f2_ f3_;have f4_ := f1_.symm;have f5_ := f3_.symm;clear f1_ f2_ f3_;subst f4_;subst f5_))
        obtain ⟨Ao75,co75,eo75⟩ := Kd.V_slice Ym.out
        (first | subst eo75 | (injection eo75 with f1_ f2_ f3_;have f4_ := f1_.symm;have f5_ := f3_.symm;clear f1_ f2_ f3_;subst f4_;subst f5_))
        refine hK.out _ _ ⟨(zb ya.out 0).trans rfl,(zb ya.out 1).trans rfl,(zb ya.out 2).trans rfl,(zb yb.out 0).trans rfl,(zb yb.out 1).trans rfl,(zb yb.out 2).trans rfl⟩ (fun hHeld => ?_)
        clear hK K
        refine zbu (a' := ?_) ?_ ?_
        rotate_left
        ·show Act.put _ (some 93) _ = _
         simp only [Act.put,List.setIfInBounds_toArray,List.set_cons_zero,List.set_cons_succ,zah,zaj]
         rfl
        refine zcl (i := 8) (N := some 94) (uQ 10 9) rfl rfl (zaY HT_.out (by kernel_rfl)) (by decide) (fun K hK => ?_)
        refine zbs Try.func10 (by kernel_rfl) rfl #[.slice Ao74 Yp.length co74,.slice Ao75 Yh.length co75] (by rfl) rfl rfl hMq ?_
        with_reducible refine (zo.calls kj27 _ _ Yp _ _ Yh Yi _ ?side1 ?side2 ?side3 ?side4 A63.out).mono ?_
        (case side1 => repeat (first | exact (Kd.V_reads' yJ.out).2.2 | (with_reducible refine Kd.C_alloc ?_ _) | (with_reducible refine Kd.C_drewN ?_ _) | (with_reducible refine Kd.C_drew ?_)))
        (case side2 => exact (Kd.V_reads' yJ.out).2.1)
        (case side3 => repeat (first | exact (Kd.V_reads' Ym.out).2.2 | (with_reducible refine Kd.C_alloc ?_ _) | (with_reducible refine Kd.C_drewN ?_ _) | (with_reducible refine Kd.C_drew ?_)))
        (case side4 => exact (Kd.V_reads' Ym.out).2.1)
        rintro e w76 ⟨rfl,hb⟩
        refine ⟨_,rfl,?_⟩
        have n0_ := za.mk (Kd.V_below (by (with_reducible repeat (first | apply Kd.V_alloc | apply Kd.V_drewN | apply Kd.V_drew));exact yc.out) hb)
        have n1_ := za.mk (Kd.V_below (by (with_reducible repeat (first | apply Kd.V_alloc | apply Kd.V_drewN | apply Kd.V_drew));exact yd.out) hb)
        have n2_ := za.mk (Kd.V_below (by (with_reducible repeat (first | apply Kd.V_alloc | apply Kd.V_drewN | apply Kd.V_drew));exact ye.out) hb)
        have n3_ := za.mk (Kd.V_below (by (with_reducible repeat (first | apply Kd.V_alloc | apply Kd.V_drewN | apply Kd.V_drew));exact yf.out) hb)
        have n4_ := za.mk (Kd.V_below (by (with_reducible repeat (first | apply Kd.V_alloc | apply Kd.V_drewN | apply Kd.V_drew));exact yJ.out) hb)
        have n5_ := za.mk (Kd.V_below (by (with_reducible repeat (first | apply Kd.V_alloc | apply Kd.V_drewN | apply Kd.V_drew));exact Ym.out) hb)
        have n6_ := za.mk (hbq ya.out hb)
        have n7_ := za.mk (hbq yb.out hb)
        have n8_ := za.mk (hbq yg.out hb)
        have n9_ := za.mk (hbq yk.out hb)
        have n10_ := za.mk (zf hCq hb)
        clear yc
        clear yd
        clear ye
        clear yf
        clear yJ
        clear Ym
        clear ya
        clear yb
        clear yg
        clear yk
        clear HB
        have yc := n0_
        have yd := n1_
        have ye := n2_
        have yf := n3_
        have yJ := n4_
        have Ym := n5_
        have ya := n6_
        have yb := n7_
        have yg := n8_
        have yk := n9_
        have HB := n10_
        clear n0_ n1_ n2_ n3_ n4_ n5_ n6_ n7_ n8_ n9_ n10_
        (try clear hb)
        (try clear hb2)
        (try clear hk)
        (try clear hi)
        refine hK.out _ _ ⟨(zb ya.out 0).trans rfl,(zb ya.out 1).trans rfl,(zb ya.out 2).trans rfl,(zb yb.out 0).trans rfl,(zb yb.out 1).trans rfl,(zb yb.out 2).trans rfl⟩ (fun hHeld => ?_)
        clear hK K
        refine zbu (a' := ?_) ?_ ?_
        rotate_left
        ·show Act.put _ (some 94) _ = _
         simp only [Act.put,List.setIfInBounds_toArray,List.set_cons_zero,List.set_cons_succ,zah,zaj]
         rfl
        refine puq (i := 9) (N := some 6) HT_.out (uQ 10 10) ?_
        refine zbG (zaM HT_.out (by kernel_rfl)) ?_
        try go_wp2
        go_ret
        exact ⟨hHq,hCq⟩
       ·rw [if_neg c60] at H
        have c60b0 : decide (a0_1 < a1_1) = false := decide_eq_false c60
        clear c60
        replace H := Option.bind_eq_some_iff.mp H
        obtain ⟨Yq,YF,H⟩ := H
        replace H : ((zaI.f a1_0 a1_1 l1_2 a2 a0_1).bind fun Yj => ((zo.f kj27 Yq Yj).bind fun Yk => (some Yk))) = some r := H
        have A77 := za.mk YF
        clear YF
        replace H := Option.bind_eq_some_iff.mp H
        obtain ⟨Yj,YG,H⟩ := H
        replace H : ((zo.f kj27 Yq Yj).bind fun Yk => (some Yk)) = some r := H
        have A78 := za.mk YG
        clear YG
        replace H := Option.bind_eq_some_iff.mp H
        obtain ⟨Yk,YH,H⟩ := H
        replace H : (some Yk) = some r := H
        have A79 := za.mk YH
        clear YH
        obtain rfl := Option.some.inj H
        have hnb80 := yw.out
        have hnc80 := yx.out
        have hnb81 := yD.out
        have hnc81 := yM.out
        have hnb82 := yE.out
        have hnc82 := yO.out
        obtain ⟨hcz83_0,hcz83_1,hcz83_2,hfz83_0,hfz83_1,hfz83_2⟩ := hcq3 ya.out
        have hnb84 := yF.out
        have hnc84 := yN.out
        have hnb85 := yG.out
        have hnc85 := yP.out
        obtain ⟨hcz86_0,hcz86_1,hcz86_2,hfz86_0,hfz86_1,hfz86_2⟩ := hcq3 yb.out
        try go_wp2
        have n0_ := za.mk (Kd.V_drew yc.out)
        have n1_ := za.mk (Kd.V_drew yd.out)
        have n2_ := za.mk (Kd.V_drew ye.out)
        have n3_ := za.mk (Kd.V_drew yf.out)
        have n4_ := za.mk (zaa ya.out)
        have n5_ := za.mk (zaa yb.out)
        have n6_ := za.mk (zaa yg.out)
        have n7_ := za.mk (zaa yk.out)
        have n8_ := za.mk (zp HB.out)
        clear yc
        clear yd
        clear ye
        clear yf
        clear ya
        clear yb
        clear yg
        clear yk
        clear HB
        have yc := n0_
        have yd := n1_
        have ye := n2_
        have yf := n3_
        have ya := n4_
        have yb := n5_
        have yg := n6_
        have yk := n7_
        have HB := n8_
        clear n0_ n1_ n2_ n3_ n4_ n5_ n6_ n7_ n8_
        refine zbx (n := 10) (S := fun w' => w'.cell? ⟨yl,0,none⟩ = some (.int .i64 a0_0) ∧ w'.cell? ⟨yl,1,none⟩ = some (.int .i64 a0_1) ∧ w'.cell? ⟨yl,2,none⟩ = some (.slice A0_2 l0_2.length c0_2) ∧ w'.cell? ⟨ym,0,none⟩ = some (.int .i64 a1_0) ∧ w'.cell? ⟨ym,1,none⟩ = some (.int .i64 a1_1) ∧ w'.cell? ⟨ym,2,none⟩ = some (.slice A1_2 l1_2.length c1_2)) (ds := []) (uQ 10 0) (by kernel_rfl) rfl rfl ⟨(zb ya.out 0).trans rfl,(zb ya.out 1).trans rfl,(zb ya.out 2).trans rfl,(zb yb.out 0).trans rfl,(zb yb.out 1).trans rfl,(zb yb.out 2).trans rfl⟩ (fun hHeld => ?_);refine zaG ze.tab16 ze.bits16 (fun HT_ HW_ => ?_)
        generalize wc.drew = w87 at yc yd ye yf ya yb yg yk HB hHeld ⊢
        refine puq (i := 1) (N := some 87) HT_.out #[false,true,false,false,false,false,false,false,false,false] ?_
        refine puq (i := 2) (N := some 88) HT_.out #[false,true,true,false,false,false,false,false,false,false] ?_
        refine puq (i := 5) (N := some 91) HT_.out #[false,true,true,false,false,true,false,false,false,false] ?_
        refine puq (i := 6) (N := some 92) HT_.out #[false,true,true,false,false,true,true,false,false,false] ?_
        refine take_ (i := 0) (N := some 86) #[true,true,true,false,false,true,true,false,false,false] rfl rfl (zU HT_.out HW_.out (by kernel_rfl)) (fun _ _ _ h => h) (Or.inl ⟨by rfl,by rintro w' ⟨s0,s1,s2,s3,s4,s5⟩;go_simp;with_reducible rfl⟩) hHeld hPq ?_
        refine take_ (i := 4) (N := some 90) #[true,true,true,false,true,true,true,false,false,false] rfl rfl (zU HT_.out HW_.out (by kernel_rfl)) (fun _ _ _ h => h) (Or.inl ⟨by rfl,by rintro w' ⟨s0,s1,s2,s3,s4,s5⟩;go_simp;with_reducible rfl⟩) hHeld hPq ?_
        refine zcl (i := 3) (N := some 89) (uQ 10 7) rfl rfl (zaY HT_.out (by kernel_rfl)) (by decide) (fun K hK => ?_)
        refine zbs Try.func11 (by kernel_rfl) rfl #[.agg #[.int .i64 a0_0,.int .i64 a0_1,.slice A0_2 l0_2.length c0_2],.string a2,.int .i64 a0_1] (by rfl) rfl rfl hMq ?_
        with_reducible refine (zaI.calls a0_0 a0_1 (fun k_ => k_ < w.heap.size) _ _ l0_2 a2 a0_1 Yq _ ?side1 A77.out).mono ?_
        (case side1 => exact Kd.V_mk HC0_2.out (Kd.F_below (Kd.C_F zbS HR0_2.out) hCq))
        rintro e w88 ⟨YO,rfl,ho0,hb⟩
        refine ⟨_,rfl,?_⟩
        have n0_ := za.mk (Kd.V_below (by (with_reducible repeat (first | apply Kd.V_alloc | apply Kd.V_drewN | apply Kd.V_drew));exact yc.out) hb)
        have n1_ := za.mk (Kd.V_below (by (with_reducible repeat (first | apply Kd.V_alloc | apply Kd.V_drewN | apply Kd.V_drew));exact yd.out) hb)
        have n2_ := za.mk (Kd.V_below (by (with_reducible repeat (first | apply Kd.V_alloc | apply Kd.V_drewN | apply Kd.V_drew));exact ye.out) hb)
        have n3_ := za.mk (Kd.V_below (by (with_reducible repeat (first | apply Kd.V_alloc | apply Kd.V_drewN | apply Kd.V_drew));exact yf.out) hb)
        have n4_ := za.mk (Kd.V_lower (Kd.V_mono (ok' := fun k_ => k_ ≠ yl ∧ k_ ≠ ym ∧ k_ ≠ yj ∧ k_ ≠ yh) ho0 (fun k_ hk_ => ⟨Or.elim hk_ (fun hs_ => fun e_ => Nat.not_le.2 hs_ (by rw [e_];exact yZ.out)) (fun hn_ => (Kd.freshB (g := yl) (o := .cells #[.int .i64 a0_0,.int .i64 a0_1,.slice A0_2 l0_2.length c0_2] 24 (0,0)) (hGq ya.out) k_ hn_)),Or.elim hk_ (fun hs_ => fun e_ => Nat.not_le.2 hs_ (by rw [e_];exact y8.out)) (fun hn_ => (Kd.freshB (g := ym) (o := .cells #[.int .i64 a1_0,.int .i64 a1_1,.slice A1_2 l1_2.length c1_2] 24 (0,0)) (hGq yb.out) k_ hn_)),Or.elim hk_ (fun hs_ => fun e_ => Nat.not_le.2 hs_ (by rw [e_];exact Yl.out)) (fun hn_ => (Kd.freshB (g := yj) (o := .cells #[.string yS,.int .i64 yT,.int .i64 yU,.slice Ao40 yB.length co40,.slice Ao41 yC.length co41,.int .i64 yV,.int .i64 yW] 34 (0,0)) (hGq yg.out) k_ hn_)),Or.elim hk_ (fun hs_ => fun e_ => Nat.not_le.2 hs_ (by rw [e_];exact Yv.out)) (fun hn_ => (Kd.freshB (g := yh) (o := .cells #[.string Yc,.int .i64 Yd,.int .i64 Ye,.slice Ao50 yX.length co50,.slice Ao51 yY.length co51,.int .i64 Yf,.int .i64 Yg] 34 (0,0)) (hGq yk.out) k_ hn_))⟩)) (zh hCq))
        have n5_ := za.mk (hbq ya.out hb)
        have n6_ := za.mk (hbq yb.out hb)
        have n7_ := za.mk (hbq yg.out hb)
        have n8_ := za.mk (hbq yk.out hb)
        have n9_ := za.mk (zf hCq hb)
        clear yc
        clear yd
        clear ye
        clear yf
        clear ya
        clear yb
        clear yg
        clear yk
        clear HB
        have yc := n0_
        have yd := n1_
        have ye := n2_
        have yf := n3_
        have yK := n4_
        have ya := n5_
        have yb := n6_
        have yg := n7_
        have yk := n8_
        have HB := n9_
        clear n0_ n1_ n2_ n3_ n4_ n5_ n6_ n7_ n8_ n9_
        (try clear hb)
        (try clear hb2)
        (try clear hk)
        (try clear hi)
        (try clear ho0)
        refine hK.out _ _ ⟨(zb ya.out 0).trans rfl,(zb ya.out 1).trans rfl,(zb ya.out 2).trans rfl,(zb yb.out 0).trans rfl,(zb yb.out 1).trans rfl,(zb yb.out 2).trans rfl⟩ (fun hHeld => ?_)
        clear hK K
        refine zbu (a' := ?_) ?_ ?_
        rotate_left
        ·show Act.put _ (some 89) _ = _
         simp only [Act.put,List.setIfInBounds_toArray,List.set_cons_zero,List.set_cons_succ,zah,zaj]
         rfl
        refine zcl (i := 7) (N := some 93) (uQ 10 8) rfl rfl (zaY HT_.out (by kernel_rfl)) (by decide) (fun K hK => ?_)
        refine zbs Try.func11 (by kernel_rfl) rfl #[.agg #[.int .i64 a1_0,.int .i64 a1_1,.slice A1_2 l1_2.length c1_2],.string a2,.int .i64 a0_1] (by rfl) rfl rfl hMq ?_
        with_reducible refine (zaI.calls a1_0 a1_1 (fun k_ => k_ < w.heap.size) _ _ l1_2 a2 a0_1 Yj _ ?side1 A78.out).mono ?_
        (case side1 => exact Kd.V_mk HC1_2.out (Kd.F_below (Kd.C_F zbS HR1_2.out) hCq))
        rintro e w89 ⟨YP,rfl,ho0,hb⟩
        refine ⟨_,rfl,?_⟩
        have n0_ := za.mk (Kd.V_below (by (with_reducible repeat (first | apply Kd.V_alloc | apply Kd.V_drewN | apply Kd.V_drew));exact yc.out) hb)
        have n1_ := za.mk (Kd.V_below (by (with_reducible repeat (first | apply Kd.V_alloc | apply Kd.V_drewN | apply Kd.V_drew));exact yd.out) hb)
        have n2_ := za.mk (Kd.V_below (by (with_reducible repeat (first | apply Kd.V_alloc | apply Kd.V_drewN | apply Kd.V_drew));exact ye.out) hb)
        have n3_ := za.mk (Kd.V_below (by (with_reducible repeat (first | apply Kd.V_alloc | apply Kd.V_drewN | apply Kd.V_drew));exact yf.out) hb)
        have n4_ := za.mk (Kd.V_below (by (with_reducible repeat (first | apply Kd.V_alloc | apply Kd.V_drewN | apply Kd.V_drew));exact yK.out) hb)
        have n5_ := za.mk (Kd.V_lower (Kd.V_mono (ok' := fun k_ => k_ ≠ yl ∧ k_ ≠ ym ∧ k_ ≠ yj ∧ k_ ≠ yh) ho0 (fun k_ hk_ => ⟨Or.elim hk_ (fun hs_ => fun e_ => Nat.not_le.2 hs_ (by rw [e_];exact yZ.out)) (fun hn_ => (Kd.freshB (g := yl) (o := .cells #[.int .i64 a0_0,.int .i64 a0_1,.slice A0_2 l0_2.length c0_2] 24 (0,0)) (hGq ya.out) k_ hn_)),Or.elim hk_ (fun hs_ => fun e_ => Nat.not_le.2 hs_ (by rw [e_];exact y8.out)) (fun hn_ => (Kd.freshB (g := ym) (o := .cells #[.int .i64 a1_0,.int .i64 a1_1,.slice A1_2 l1_2.length c1_2] 24 (0,0)) (hGq yb.out) k_ hn_)),Or.elim hk_ (fun hs_ => fun e_ => Nat.not_le.2 hs_ (by rw [e_];exact Yl.out)) (fun hn_ => (Kd.freshB (g := yj) (o := .cells #[.string yS,.int .i64 yT,.int .i64 yU,.slice Ao40 yB.length co40,.slice Ao41 yC.length co41,.int .i64 yV,.int .i64 yW] 34 (0,0)) (hGq yg.out) k_ hn_)),Or.elim hk_ (fun hs_ => fun e_ => Nat.not_le.2 hs_ (by rw [e_];exact Yv.out)) (fun hn_ => (Kd.freshB (g := yh) (o := .cells #[.string Yc,.int .i64 Yd,.int .i64 Ye,.slice Ao50 yX.length co50,.slice Ao51 yY.length co51,.int .i64 Yf,.int .i64 Yg] 34 (0,0)) (hGq yk.out) k_ hn_))⟩)) (zh hCq))
        have n6_ := za.mk (hbq ya.out hb)
        have n7_ := za.mk (hbq yb.out hb)
        have n8_ := za.mk (hbq yg.out hb)
        have n9_ := za.mk (hbq yk.out hb)
        have n10_ := za.mk (zf hCq hb)
        clear yc
        clear yd
        clear ye
        clear yf
        clear yK
        clear ya
        clear yb
        clear yg
        clear yk
        clear HB
        have yc := n0_
        have yd := n1_
        have ye := n2_
        have yf := n3_
        have yK := n4_
        have Yn := n5_
        have ya := n6_
        have yb := n7_
        have yg := n8_
        have yk := n9_
        have HB := n10_
        clear n0_ n1_ n2_ n3_ n4_ n5_ n6_ n7_ n8_ n9_ n10_
        (try clear hb)
        (try clear hb2)
        (try clear hk)
        (try clear hi)
        (try clear ho0)
        obtain ⟨Ao90,co90,eo90⟩ := Kd.V_slice yK.out
        (first | subst eo90 | (injection eo90 with f1_ f2_ f3_;have f4_ := f1_.symm;have f5_ := f3_.symm;clear f1_ f2_ f3_;subst f4_;subst f5_))
        obtain ⟨Ao91,co91,eo91⟩ := Kd.V_slice Yn.out
        (first | subst eo91 | (injection eo91 with f1_ f2_ f3_;have f4_ := f1_.symm;have f5_ := f3_.symm;clear f1_ f2_ f3_;subst f4_;subst f5_))
        refine hK.out _ _ ⟨(zb ya.out 0).trans rfl,(zb ya.out 1).trans rfl,(zb ya.out 2).trans rfl,(zb yb.out 0).trans rfl,(zb yb.out 1).trans rfl,(zb yb.out 2).trans rfl⟩ (fun hHeld => ?_)
        clear hK K
        refine zbu (a' := ?_) ?_ ?_
        rotate_left
        ·show Act.put _ (some 93) _ = _
         simp only [Act.put,List.setIfInBounds_toArray,List.set_cons_zero,List.set_cons_succ,zah,zaj]
         rfl
        refine zcl (i := 8) (N := some 94) (uQ 10 9) rfl rfl (zaY HT_.out (by kernel_rfl)) (by decide) (fun K hK => ?_)
        refine zbs Try.func10 (by kernel_rfl) rfl #[.slice Ao90 Yq.length co90,.slice Ao91 Yj.length co91] (by rfl) rfl rfl hMq ?_
        with_reducible refine (zo.calls kj27 _ _ Yq _ _ Yj Yk _ ?side1 ?side2 ?side3 ?side4 A79.out).mono ?_
        (case side1 => repeat (first | exact (Kd.V_reads' yK.out).2.2 | (with_reducible refine Kd.C_alloc ?_ _) | (with_reducible refine Kd.C_drewN ?_ _) | (with_reducible refine Kd.C_drew ?_)))
        (case side2 => exact (Kd.V_reads' yK.out).2.1)
        (case side3 => repeat (first | exact (Kd.V_reads' Yn.out).2.2 | (with_reducible refine Kd.C_alloc ?_ _) | (with_reducible refine Kd.C_drewN ?_ _) | (with_reducible refine Kd.C_drew ?_)))
        (case side4 => exact (Kd.V_reads' Yn.out).2.1)
        rintro e w92 ⟨rfl,hb⟩
        refine ⟨_,rfl,?_⟩
        have n0_ := za.mk (Kd.V_below (by (with_reducible repeat (first | apply Kd.V_alloc | apply Kd.V_drewN | apply Kd.V_drew));exact yc.out) hb)
        have n1_ := za.mk (Kd.V_below (by (with_reducible repeat (first | apply Kd.V_alloc | apply Kd.V_drewN | apply Kd.V_drew));exact yd.out) hb)
        have n2_ := za.mk (Kd.V_below (by (with_reducible repeat (first | apply Kd.V_alloc | apply Kd.V_drewN | apply Kd.V_drew));exact ye.out) hb)
        have n3_ := za.mk (Kd.V_below (by (with_reducible repeat (first | apply Kd.V_alloc | apply Kd.V_drewN | apply Kd.V_drew));exact yf.out) hb)
        have n4_ := za.mk (Kd.V_below (by (with_reducible repeat (first | apply Kd.V_alloc | apply Kd.V_drewN | apply Kd.V_drew));exact yK.out) hb)
        have n5_ := za.mk (Kd.V_below (by (with_reducible repeat (first | apply Kd.V_alloc | apply Kd.V_drewN | apply Kd.V_drew));exact Yn.out) hb)
        have n6_ := za.mk (hbq ya.out hb)
        have n7_ := za.mk (hbq yb.out hb)
        have n8_ := za.mk (hbq yg.out hb)
        have n9_ := za.mk (hbq yk.out hb)
        have n10_ := za.mk (zf hCq hb)
        clear yc
        clear yd
        clear ye
        clear yf
        clear yK
        clear Yn
        clear ya
        clear yb
        clear yg
        clear yk
        clear HB
        have yc := n0_
        have yd := n1_
        have ye := n2_
        have yf := n3_
        have yK := n4_
        have Yn := n5_
        have ya := n6_
        have yb := n7_
        have yg := n8_
        have yk := n9_
        have HB := n10_
        clear n0_ n1_ n2_ n3_ n4_ n5_ n6_ n7_ n8_ n9_ n10_
        (try clear hb)
        (try clear hb2)
        (try clear hk)
        (try clear hi)
        refine hK.out _ _ ⟨(zb ya.out 0).trans rfl,(zb ya.out 1).trans rfl,(zb ya.out 2).trans rfl,(zb yb.out 0).trans rfl,(zb yb.out 1).trans rfl,(zb yb.out 2).trans rfl⟩ (fun hHeld => ?_)
        clear hK K
        refine zbu (a' := ?_) ?_ ?_
        rotate_left
        ·show Act.put _ (some 94) _ = _
         simp only [Act.put,List.setIfInBounds_toArray,List.set_cons_zero,List.set_cons_succ,zah,zaj]
         rfl
        refine puq (i := 9) (N := some 6) HT_.out (uQ 10 10) ?_
        refine zbG (zaM HT_.out (by kernel_rfl)) ?_
        try go_wp2
        go_ret
        exact ⟨hHq,hCq⟩
structure Rd (α : Type) where
 t : TypeId
 d : Kd α
 ok : α → Prop
 wt : α → Prop
 bk : α → Nat
structure ze1 {α : Type} (P : Program) (r : Rd α) : Prop where
 out : ∀ {H : Type} {enc : TypeId × Value → H} {w : World} {fuel : Nat} {cs : List Value} {x : DataW H × List MemPlace},DataW.trod enc P w 0 (fun _ => true) true fuel r.t cs = some x →
  ∃ a,r.d.K w a cs ∧ r.ok a ∧ ((∀ n ∈ x.1.weights P r.t,n ≤ reachBytes) → r.wt a) ∧ r.bk a ≤ Rows.uptoBulk x.1
def zaQ (t : TypeId) (k : IntKind) : Rd Int := ⟨t,Kd.int k,fun a => (Lit.int k a).wf = true,fun _ => True,fun _ => 1⟩
def rdBool (t : TypeId) : Rd Bool := ⟨t,Kd.bool,fun _ => True,fun _ => True,fun _ => 1⟩
def zap (t : TypeId) : Rd ByteArray := ⟨t,Kd.string,fun a => a.size ≤ maxLen,fun a => a.size ≤ reachBytes,fun a => a.size + 1⟩
def zae {α : Type} (t : TypeId) (B : Nat) (r : Rd α) : Rd (List α) :=
 ⟨t,Kd.slice r.t r.d,fun l => l.length ≤ maxLen ∧ ∀ a ∈ l,r.ok a,fun l => l.length * B ≤ reachBytes ∧ ∀ a ∈ l,r.wt a,fun l => (l.map r.bk).sum + 1⟩
section
variable {P : Program}
theorem zdi {t : TypeId} {k : IntKind} (h : P.underlying t = some (.int k)) : ze1 P (zaQ t k) := by
 constructor
 intro H enc w fuel cs x hx
 obtain ⟨n,rfl,rfl,hw⟩ := DataW.trod_int h hx
 exact ⟨n,rfl,hw,fun _ => trivial,by simp [zaQ,Rows.uptoBulk]⟩
theorem zdP {t : TypeId} (h : P.underlying t = some .string) : ze1 P (zap t) := by
 constructor
 intro H enc w fuel cs x hx
 obtain ⟨s,rfl,rfl,hs⟩ := DataW.trod_string h hx
 have e : s.data.toList.length = s.size := by rw [Array.length_toList];rfl
 refine ⟨s,rfl,hs,fun hn => ?_,by simp only [zap,Rows.uptoBulk,e];exact Nat.le_refl _⟩
 have := hn s.data.toList.length (by simp [DataW.weights])
 rwa [e] at this
theorem zhT {H α : Type} (f : Nat → DataW H) (g : Nat → α) (bk : α → Nat) (n : Nat) (h : ∀ i,i < n → bk (g i) ≤ Rows.uptoBulk (f i)) : (((List.range n).map g).map bk).sum ≤ Rows.uptoBulkAll ((List.range n).map f) := by
 suffices k : ∀ l : List Nat,(∀ i ∈ l,i < n) → ((l.map g).map bk).sum ≤ Rows.uptoBulkAll (l.map f) from k _ (fun i hi => List.mem_range.1 hi)
 intro l
 induction l with
 | nil => intro _;simp
 | cons i l ih =>
  intro hl
  have h1 := h i (hl i List.mem_cons_self)
  have h2 := ih (fun j hj => hl j (List.mem_cons_of_mem _ hj))
  simp only [List.map_cons,List.sum_cons,Rows.uptoBulkAll]
  omega
theorem zed {H : Type} {e : TypeId} : ∀ {l : List (DataW H)} {d : DataW H} {n : Nat},d ∈ l → n ∈ d.weights P e → n ∈ DataW.weightsAll P e l
 | x :: l,d,n,hd,hn => by
  simp only [DataW.weightsAll,List.mem_append]
  rcases List.mem_cons.1 hd with rfl | hd
  ·exact .inl hn
  ·exact .inr (zed hd hn)
theorem zef {α : Type} [Inhabited α] {r : Rd α} (hr : ze1 P r) {t : TypeId} {B : Nat} (h : P.underlying t = some (.slice r.t)) (hc : P.cellsOf r.t = r.d.sz) (hB : P.bytesOf r.t = B) : ze1 P (zae t B r) := by
 constructor
 intro H enc w fuel cs x hx
 rcases Deep.open_slice h hx with ⟨rfl,rfl⟩ | ⟨a,len,cap,m,n,D,Pl,rfl,_,hl,hm,hmm,rfl,hel⟩
 ·exact ⟨[],⟨none,0,rfl,Nat.le_refl _,Kd.C_nil _ _⟩,⟨Nat.zero_le _,by simp⟩,fun _ => ⟨by simp,by simp⟩,by simp [zae,Rows.uptoBulk]⟩
 ·simp only [if_true] at hmm
  subst hmm
  obtain ⟨f,hf⟩ := Deep.choose_lt (α := α) (n := len) (p := fun i v => ∃ c,w.cells? 0 (a.add (i * P.cellsOf r.t)) (P.cellsOf r.t) = some c ∧ r.d.K w v c ∧ r.ok v ∧ ((∀ q ∈ (D i).weights P r.t,q ≤ reachBytes) → r.wt v) ∧ r.bk v ≤ Rows.uptoBulk (D i)) (fun i hi => by
   obtain ⟨cs',h1,h2⟩ := hel i (by omega)
   obtain ⟨v,k1,k2,k3,k4⟩ := hr.out h2
   exact ⟨v,cs',h1,k1,k2,k3,k4⟩)
  have hlen : ((List.range len).map f).length = len := by simp
  refine ⟨(List.range len).map f,⟨some a,m,by rw [hlen],by rw [hlen];exact hl,?_⟩,⟨by rw [hlen];omega,?_⟩,fun hw => ⟨?_,?_⟩,?_⟩
  ·rw [hlen]
   refine ⟨hlen,by unfold maxLen at hm;omega,fun _ => ⟨a,rfl,fun j p hj => ?_⟩⟩
   have hjl : j < len := by
    have := (List.getElem?_eq_some_iff.1 hj).1
    simpa using this
   obtain ⟨c,c1,c2,_⟩ := hf j hjl
   have hp : f j = p := by simpa [List.getElem?_map,List.getElem?_range hjl] using hj
   obtain ⟨_,l2,l3⟩ := World.cells?_some c1
   refine ⟨c,by rw [l2,hc],hp ▸ c2,fun i u hu => ?_⟩
   have hi : i < P.cellsOf r.t := by rw [← l2];exact (List.getElem?_eq_some_iff.1 hu).1
   rw [← hc,← Deep.add_add,l3 i hi]
   exact hu
  ·intro v hv
   obtain ⟨i,hi,rfl⟩ := List.mem_map.1 hv
   obtain ⟨c,_,_,h3,_⟩ := hf i (List.mem_range.1 hi)
   exact h3
  ·have := hw ((((List.range len).map D).length + ((List.range (m - len)).map fun j => D (len + j)).length) * P.bytesOf r.t) (by show _ ∈ DataW.weights P t _;simp only [DataW.weights,h];exact List.mem_cons_self)
   rw [hlen]
   rw [hB] at this
   simp only [List.length_map,List.length_range] at this
   exact Nat.le_trans (Nat.mul_le_mul_right _ (by omega)) this
  ·intro v hv
   obtain ⟨i,hi,rfl⟩ := List.mem_map.1 hv
   obtain ⟨c,_,_,_,h4,_⟩ := hf i (List.mem_range.1 hi)
   refine h4 (fun q hq => hw q ?_)
   show _ ∈ DataW.weights P t _
   simp only [DataW.weights,h]
   exact List.mem_cons_of_mem _ (List.mem_append_left _ (zed (List.mem_map.2 ⟨i,hi,rfl⟩) hq))
  ·simp only [zae,Rows.uptoBulk]
   have := zhT D f r.bk len (fun i hi => (hf i hi).choose_spec.2.2.2.2)
   omega
structure zee {β : Type} (P : Program) (fs : List Field) (o : Nat) (d : Kd β) (ok wt : β → Prop) (bk : β → Nat) : Prop where
 out : ∀ {H : Type} {enc : TypeId × Value → H} {w : World} {n : Nat} {cs : List Value} {xs : List (DataW H × List MemPlace)},xs.length = fs.length → cs.length = o + d.sz →
  (∀ (i : Nat) (f : Field),fs[i]? = some f → DataW.trod enc P w 0 (fun _ => true) true n f.type ((cs.drop f.offset).take (P.cellsOf f.type)) = xs[i]?) →
  ∃ b,d.K w b (cs.drop o) ∧ ok b ∧ ((∀ q ∈ DataW.weightsEach P (fs.map (·.type)) (xs.map (·.1)),q ≤ reachBytes) → wt b) ∧ bk b ≤ Rows.uptoBulkAll (xs.map (·.1))
theorem zc8 {α : Type} {r : Rd α} (hr : ze1 P r) {f : Field} (ht : f.type = r.t) {o : Nat} (ho : f.offset = o) (hc : P.cellsOf r.t = r.d.sz) : zee P [f] o r.d r.ok r.wt r.bk := by
 constructor
 intro H enc w n cs xs hl hcs hx
 match xs,hl with
 | [x],_ =>
  have h := hx 0 f rfl
  rw [ho,ht,hc,List.take_of_length_le (by rw [List.length_drop];omega)] at h
  obtain ⟨a,h1,h2,h3,h4⟩ := hr.out h
  refine ⟨a,h1,h2,fun hq => h3 (fun q hm => hq q ?_),by simp [Rows.uptoBulkAll];omega⟩
  simp only [List.map_cons,List.map_nil,DataW.weightsEach,List.mem_append,ht]
  exact .inl hm
theorem zbp {α β : Type} {r : Rd α} (hr : ze1 P r) {f : Field} (ht : f.type = r.t) {fs : List Field} {o o' : Nat} (ho : f.offset = o) (hc : P.cellsOf r.t = r.d.sz) (ho' : o' = o + r.d.sz) {d : Kd β} {ok wt : β → Prop} {bk : β → Nat} (hfs : zee P fs o' d ok wt bk) :
  zee P (f :: fs) o (Kd.pair r.d d) (fun x => r.ok x.1 ∧ ok x.2) (fun x => r.wt x.1 ∧ wt x.2) (fun x => r.bk x.1 + bk x.2) := by
 constructor
 intro H enc w n cs xs hl hcs hx
 match xs,hl with
 | x :: xs,hl =>
  have h := hx 0 f rfl
  have hcs' : cs.length = o + (r.d.sz + d.sz) := hcs
  rw [ho,ht,hc] at h
  obtain ⟨a,h1,h2,h3,h4⟩ := hr.out h
  obtain ⟨b,k1,k2,k3,k4⟩ := hfs.out (enc := enc) (w := w) (n := n) (cs := cs) (xs := xs) (by simpa using hl) (by omega) (fun i g hg => hx (i + 1) g hg)
  refine ⟨(a,b),⟨(cs.drop o).take r.d.sz,cs.drop o',?_,h1,k1⟩,⟨h2,k2⟩,fun hq => ⟨h3 (fun q hm => hq q ?_),k3 (fun q hm => hq q ?_)⟩,?_⟩
  ·rw [ho',← List.drop_drop,List.take_append_drop]
  ·simp only [List.map_cons,DataW.weightsEach,List.mem_append,ht]
   exact .inl hm
  ·simp only [List.map_cons,DataW.weightsEach,List.mem_append]
   exact .inr hm
  ·simp only [List.map_cons,Rows.uptoBulkAll];omega
def zdI {α β : Type} (t : TypeId) (d : Kd β) (f : α → β) (ok wt : β → Prop) (bk : β → Nat) : Rd α := ⟨t,Kd.iso d f,fun a => ok (f a),fun a => wt (f a),fun a => bk (f a) + 1⟩
theorem zc9 {α β : Type} {t : TypeId} {fs : List Field} {d : Kd β} {ok wt : β → Prop} {bk : β → Nat} (hfs : zee P fs 0 d ok wt bk) (h : P.underlying t = some (.struct fs.toArray)) (hc : P.cellsOf t = d.sz) (f : α → β) (g : β → α) (hfg : ∀ b,f (g b) = b) : ze1 P (zdI t d f ok wt bk) := by
 constructor
 intro H enc w fuel cs x hx
 obtain ⟨xs,n,rfl,rfl,hl,hn,hf⟩ := DataW.trod_struct h hx
 obtain ⟨b,k1,k2,k3,k4⟩ := hfs.out (enc := enc) (w := w) (n := n) (cs := cs) (xs := xs) (by simpa using hn) (by omega) (fun i g hg => hf i g (by simpa using hg))
 refine ⟨g b,?_,?_,fun hq => ?_,?_⟩
 ·show d.K w (f (g b)) cs
  rw [hfg]
  exact k1
 ·show ok (f (g b))
  rw [hfg]
  exact k2
 ·show wt (f (g b))
  rw [hfg]
  refine k3 (fun q hm => hq q ?_)
  show _ ∈ DataW.weights P t _
  simp only [DataW.weights,h]
  exact hm
 ·show bk (f (g b)) + 1 ≤ _
  rw [hfg]
  simp only [Rows.uptoBulk]
  omega
end
theorem zhl {α H : Type} {P : Program} {r : Rd α} (hr : ze1 P r) {enc : TypeId × Value → H} {w : World} {v : Value} {d : DataW H} {ps : List MemPlace} (h : DataW.Trod enc P w 0 (fun _ => true) true r.t v d ps) :
  ∃ a,r.d.K w a v.cells.toList ∧ r.ok a ∧ ((∀ n ∈ d.weights P r.t,n ≤ reachBytes) → r.wt a) ∧ r.bk a ≤ Rows.uptoBulk d := by
 obtain ⟨fuel,hf⟩ := h
 exact hr.out hf
end Go.Proofs.Ytndjfdakflaggaa.Px
namespace Go.Proofs.Ytndjfdakflaggaa.Px
open Go.RowKit Go.Proofs.Ytndjfdakflaggaa.Px Go.Proofs.YtndjfdakflaggaaW.PrintWords Go.Proofs.YtndjfdakflaggaaW.PrintLast Go.Proofs.YtndjfdakflaggaaW.PrintMore
set_option linter.unusedVariables false
instance : Inhabited S78 := ⟨z78⟩
def zgq : Rd S78 := zdI 78 (Kd.pair (zaQ 3 .i64).d (Kd.pair (zaQ 3 .i64).d (zae 28 16 (zap 9)).d)) (fun x : S78 => (x.f0,x.f1,x.f2)) (fun y => (zaQ 3 .i64).ok y.1 ∧ ((zaQ 3 .i64).ok y.2.1 ∧ ((zae 28 16 (zap 9)).ok y.2.2))) (fun y => (zaQ 3 .i64).wt y.1 ∧ ((zaQ 3 .i64).wt y.2.1 ∧ ((zae 28 16 (zap 9)).wt y.2.2))) (fun y => (zaQ 3 .i64).bk y.1 + ((zaQ 3 .i64).bk y.2.1 + ((zae 28 16 (zap 9)).bk y.2.2)))
theorem fit78 : ze1 Try.prog zgq :=
 zc9 (zbp (o := 0) (o' := 1) (ok := fun (y : Int × (List ByteArray)) => (zaQ 3 .i64).ok y.1 ∧ ((zae 28 16 (zap 9)).ok y.2)) (wt := fun (y : Int × (List ByteArray)) => (zaQ 3 .i64).wt y.1 ∧ ((zae 28 16 (zap 9)).wt y.2)) (bk := fun (y : Int × (List ByteArray)) => (zaQ 3 .i64).bk y.1 + ((zae 28 16 (zap 9)).bk y.2)) (zdi Try.underlying3) rfl rfl (by kernel_rfl) rfl (zbp (o := 1) (o' := 2) (ok := fun (y : (List ByteArray)) => (zae 28 16 (zap 9)).ok y) (wt := fun (y : (List ByteArray)) => (zae 28 16 (zap 9)).wt y) (bk := fun (y : (List ByteArray)) => (zae 28 16 (zap 9)).bk y) (zdi Try.underlying3) rfl rfl (by kernel_rfl) rfl (zc8 (zef (zdP Try.underlying9) Try.underlying28 (by kernel_rfl) (by kernel_rfl)) rfl rfl (by kernel_rfl)))) Try.underlying78 (by kernel_rfl) (fun x : S78 => (x.f0,x.f1,x.f2)) (fun y => ⟨y.1,y.2.1,y.2.2⟩) (fun _ => rfl)
instance : Inhabited S30 := ⟨z30⟩
def zd9 : Rd S30 := zdI 30 (Kd.pair (zaQ 3 .i64).d (zaQ 3 .i64).d) (fun x : S30 => (x.f0,x.f1)) (fun y => (zaQ 3 .i64).ok y.1 ∧ ((zaQ 3 .i64).ok y.2)) (fun y => (zaQ 3 .i64).wt y.1 ∧ ((zaQ 3 .i64).wt y.2)) (fun y => (zaQ 3 .i64).bk y.1 + ((zaQ 3 .i64).bk y.2))
theorem fit30 : ze1 Try.prog zd9 :=
 zc9 (zbp (o := 0) (o' := 1) (ok := fun (y : Int) => (zaQ 3 .i64).ok y) (wt := fun (y : Int) => (zaQ 3 .i64).wt y) (bk := fun (y : Int) => (zaQ 3 .i64).bk y) (zdi Try.underlying3) rfl rfl (by kernel_rfl) rfl (zc8 (zdi Try.underlying3) rfl rfl (by kernel_rfl))) Try.underlying30 (by kernel_rfl) (fun x : S30 => (x.f0,x.f1)) (fun y => ⟨y.1,y.2⟩) (fun _ => rfl)
instance : Inhabited S32 := ⟨z32⟩
def zid : Rd S32 := zdI 32 (Kd.pair (zaQ 3 .i64).d (Kd.pair (zaQ 3 .i64).d (Kd.pair (zae 27 40 zgq).d (Kd.pair (zae 28 16 (zap 9)).d zd9.d)))) (fun x : S32 => (x.f0,x.f1,x.f2,x.f3,x.f4)) (fun y => (zaQ 3 .i64).ok y.1 ∧ ((zaQ 3 .i64).ok y.2.1 ∧ ((zae 27 40 zgq).ok y.2.2.1 ∧ ((zae 28 16 (zap 9)).ok y.2.2.2.1 ∧ (zd9.ok y.2.2.2.2))))) (fun y => (zaQ 3 .i64).wt y.1 ∧ ((zaQ 3 .i64).wt y.2.1 ∧ ((zae 27 40 zgq).wt y.2.2.1 ∧ ((zae 28 16 (zap 9)).wt y.2.2.2.1 ∧ (zd9.wt y.2.2.2.2))))) (fun y => (zaQ 3 .i64).bk y.1 + ((zaQ 3 .i64).bk y.2.1 + ((zae 27 40 zgq).bk y.2.2.1 + ((zae 28 16 (zap 9)).bk y.2.2.2.1 + (zd9.bk y.2.2.2.2)))))
theorem fit32 : ze1 Try.prog zid :=
 zc9 (zbp (o := 0) (o' := 1) (ok := fun (y : Int × (List S78) × (List ByteArray) × S30) => (zaQ 3 .i64).ok y.1 ∧ ((zae 27 40 zgq).ok y.2.1 ∧ ((zae 28 16 (zap 9)).ok y.2.2.1 ∧ (zd9.ok y.2.2.2)))) (wt := fun (y : Int × (List S78) × (List ByteArray) × S30) => (zaQ 3 .i64).wt y.1 ∧ ((zae 27 40 zgq).wt y.2.1 ∧ ((zae 28 16 (zap 9)).wt y.2.2.1 ∧ (zd9.wt y.2.2.2)))) (bk := fun (y : Int × (List S78) × (List ByteArray) × S30) => (zaQ 3 .i64).bk y.1 + ((zae 27 40 zgq).bk y.2.1 + ((zae 28 16 (zap 9)).bk y.2.2.1 + (zd9.bk y.2.2.2)))) (zdi Try.underlying3) rfl rfl (by kernel_rfl) rfl (zbp (o := 1) (o' := 2) (ok := fun (y : (List S78) × (List ByteArray) × S30) => (zae 27 40 zgq).ok y.1 ∧ ((zae 28 16 (zap 9)).ok y.2.1 ∧ (zd9.ok y.2.2))) (wt := fun (y : (List S78) × (List ByteArray) × S30) => (zae 27 40 zgq).wt y.1 ∧ ((zae 28 16 (zap 9)).wt y.2.1 ∧ (zd9.wt y.2.2))) (bk := fun (y : (List S78) × (List ByteArray) × S30) => (zae 27 40 zgq).bk y.1 + ((zae 28 16 (zap 9)).bk y.2.1 + (zd9.bk y.2.2))) (zdi Try.underlying3) rfl rfl (by kernel_rfl) rfl (zbp (o := 2) (o' := 3) (ok := fun (y : (List ByteArray) × S30) => (zae 28 16 (zap 9)).ok y.1 ∧ (zd9.ok y.2)) (wt := fun (y : (List ByteArray) × S30) => (zae 28 16 (zap 9)).wt y.1 ∧ (zd9.wt y.2)) (bk := fun (y : (List ByteArray) × S30) => (zae 28 16 (zap 9)).bk y.1 + (zd9.bk y.2)) (zef fit78 Try.underlying27 (by kernel_rfl) (by kernel_rfl)) rfl rfl (by kernel_rfl) rfl (zbp (o := 3) (o' := 4) (ok := fun (y : S30) => zd9.ok y) (wt := fun (y : S30) => zd9.wt y) (bk := fun (y : S30) => zd9.bk y) (zef (zdP Try.underlying9) Try.underlying28 (by kernel_rfl) (by kernel_rfl)) rfl rfl (by kernel_rfl) rfl (zc8 fit30 rfl rfl (by kernel_rfl)))))) Try.underlying32 (by kernel_rfl) (fun x : S32 => (x.f0,x.f1,x.f2,x.f3,x.f4)) (fun y => ⟨y.1,y.2.1,y.2.2.1,y.2.2.2.1,y.2.2.2.2⟩) (fun _ => rfl)
instance : Inhabited S34 := ⟨z34⟩
def zgp : Rd S34 := zdI 34 (Kd.pair (zap 9).d zid.d) (fun x : S34 => (x.f0,x.f1)) (fun y => (zap 9).ok y.1 ∧ (zid.ok y.2)) (fun y => (zap 9).wt y.1 ∧ (zid.wt y.2)) (fun y => (zap 9).bk y.1 + (zid.bk y.2))
theorem fit34 : ze1 Try.prog zgp :=
 zc9 (zbp (o := 0) (o' := 1) (ok := fun (y : S32) => zid.ok y) (wt := fun (y : S32) => zid.wt y) (bk := fun (y : S32) => zid.bk y) (zdP Try.underlying9) rfl rfl (by kernel_rfl) rfl (zc8 fit32 rfl rfl (by kernel_rfl))) Try.underlying34 (by kernel_rfl) (fun x : S34 => (x.f0,x.f1)) (fun y => ⟨y.1,y.2⟩) (fun _ => rfl)
instance : Inhabited S24 := ⟨z24⟩
def ziL : Rd S24 := zdI 24 (Kd.pair (zaQ 3 .i64).d (Kd.pair (zaQ 3 .i64).d (zae 22 96 zgp).d)) (fun x : S24 => (x.f0,x.f1,x.f2)) (fun y => (zaQ 3 .i64).ok y.1 ∧ ((zaQ 3 .i64).ok y.2.1 ∧ ((zae 22 96 zgp).ok y.2.2))) (fun y => (zaQ 3 .i64).wt y.1 ∧ ((zaQ 3 .i64).wt y.2.1 ∧ ((zae 22 96 zgp).wt y.2.2))) (fun y => (zaQ 3 .i64).bk y.1 + ((zaQ 3 .i64).bk y.2.1 + ((zae 22 96 zgp).bk y.2.2)))
theorem fit24 : ze1 Try.prog ziL :=
 zc9 (zbp (o := 0) (o' := 1) (ok := fun (y : Int × (List S34)) => (zaQ 3 .i64).ok y.1 ∧ ((zae 22 96 zgp).ok y.2)) (wt := fun (y : Int × (List S34)) => (zaQ 3 .i64).wt y.1 ∧ ((zae 22 96 zgp).wt y.2)) (bk := fun (y : Int × (List S34)) => (zaQ 3 .i64).bk y.1 + ((zae 22 96 zgp).bk y.2)) (zdi Try.underlying3) rfl rfl (by kernel_rfl) rfl (zbp (o := 1) (o' := 2) (ok := fun (y : (List S34)) => (zae 22 96 zgp).ok y) (wt := fun (y : (List S34)) => (zae 22 96 zgp).wt y) (bk := fun (y : (List S34)) => (zae 22 96 zgp).bk y) (zdi Try.underlying3) rfl rfl (by kernel_rfl) rfl (zc8 (zef fit34 Try.underlying22 (by kernel_rfl) (by kernel_rfl)) rfl rfl (by kernel_rfl)))) Try.underlying24 (by kernel_rfl) (fun x : S24 => (x.f0,x.f1,x.f2)) (fun y => ⟨y.1,y.2.1,y.2.2⟩) (fun _ => rfl)
def zcJ : Prop := ∀ (a0 : S24) (a1 : S24) (a2 : ByteArray),ziL.ok a0 → ziL.ok a1 → (zap 9).ok a2 → ziL.wt a0 → ziL.wt a1 → (zap 9).wt a2 → ∃ k,ze.f k (a0.f0) (a0.f1) (a0.f2) (a1.f0) (a1.f1) (a1.f2) a2 = some true
end Go.Proofs.Ytndjfdakflaggaa.Px
namespace Go.Proofs.Ytndjfdakflaggaa.Px
open Go.RowKit Go.Proofs.YtndjfdakflaggaaW.PrintWords Go.Proofs.YtndjfdakflaggaaW.PrintLast Go.Proofs.YtndjfdakflaggaaW.PrintMore
attribute [local go_sem] zC zE zI zJ zu zv zD zF
set_option linter.unusedVariables false
set_option linter.unusedSimpArgs false
def ahd (x y : Ent) : Prop := zbe x.f1.f0 x.f1.f1 y.f1.f0 y.f1.f1 = true
theorem zci {x y : Ent} : ahd x y ↔ x.f1.f1 < y.f1.f1 ∨ x.f1.f1 = y.f1.f1 ∧ x.f1.f0 < y.f1.f0 := decide_eq_true_iff
def zfm (L : List Ent) : Prop := L.Pairwise ahd
theorem zdH {x y : Ent} : ∀ {L : List Ent},y ∈ zff L x ↔ y = x ∨ y ∈ L
 | [] => by simp [zff]
 | z :: L => by
  rw [zff]
  split
  ·simp
  ·rw [List.mem_cons,zdH,List.mem_cons]
   constructor
   ·rintro (h | h | h)
    ·exact .inr (.inl h)
    ·exact .inl h
    ·exact .inr (.inr h)
   ·rintro (h | h | h)
    ·exact .inr (.inl h)
    ·exact .inl h
    ·exact .inr (.inr h)
theorem zgo {x : Ent} : ∀ {L : List Ent},zfm L → (∀ y ∈ L,¬ (y.f1.f0 = x.f1.f0 ∧ y.f1.f1 = x.f1.f1)) → zfm (zff L x)
 | [],_,_ => List.pairwise_singleton _ _
 | z :: L,h,hn => by
  rw [zff]
  have hz := hn z (List.mem_cons_self ..)
  rw [zfm,List.pairwise_cons] at h
  split
  ·next hx =>
   have hx' := (zci (x := x) (y := z)).1 hx
   rw [zfm,List.pairwise_cons]
   refine ⟨fun y hy => ?_,List.pairwise_cons.2 h⟩
   rcases List.mem_cons.1 hy with rfl | hy
   ·exact hx
   ·have := (zci).1 (h.1 y hy)
    exact zci.2 (by omega)
  ·next hx =>
   have hx' : ¬ (x.f1.f1 < z.f1.f1 ∨ x.f1.f1 = z.f1.f1 ∧ x.f1.f0 < z.f1.f0) := fun hc => hx ((zci (x := x) (y := z)).2 hc)
   rw [zfm,List.pairwise_cons]
   refine ⟨fun y hy => ?_,zgo h.2 fun y hy => hn y (List.mem_cons_of_mem _ hy)⟩
   rcases zdH.1 hy with rfl | hy
   ·exact zci.2 (by omega)
   ·exact h.1 y hy
theorem zhH : ∀ {L M : List Ent},zfm L → zfm M → (∀ x,x ∈ L ↔ x ∈ M) → L = M
 | [],[],_,_,_ => rfl
 | [],y :: M,_,_,h => absurd ((h y).2 (List.mem_cons_self ..)) List.not_mem_nil
 | x :: L,[],_,_,h => absurd ((h x).1 (List.mem_cons_self ..)) List.not_mem_nil
 | x :: L,y :: M,h1,h2,h => by
  rw [zfm,List.pairwise_cons] at h1 h2
  have irr : ∀ z : Ent,¬ ahd z z := fun z hz => by have := zci.1 hz;omega
  have asym : ∀ a b : Ent,ahd a b → ¬ ahd b a := fun a b p q => by have := zci.1 p;have := zci.1 q;omega
  have hxy : x = y := by
   rcases List.mem_cons.1 ((h x).1 (List.mem_cons_self ..)) with e | e
   ·exact e
   ·rcases List.mem_cons.1 ((h y).2 (List.mem_cons_self ..)) with e2 | e2
    ·exact e2.symm
    ·exact absurd (h1.1 y e2) (asym _ _ (h2.1 x e))
  subst hxy
  rw [zhH h1.2 h2.2 fun z => ⟨fun hz => ?_,fun hz => ?_⟩]
  ·rcases List.mem_cons.1 ((h z).1 (List.mem_cons_of_mem _ hz)) with e | e
   ·subst e;exact absurd (h1.1 z hz) (irr z)
   ·exact e
  ·rcases List.mem_cons.1 ((h z).2 (List.mem_cons_of_mem _ hz)) with e | e
   ·subst e;exact absurd (h2.1 z hz) (irr z)
   ·exact e
def ze8 (n : Int) (v : Vtx) : Ent := ⟨(zac v.f0 v.f1 v.f2 v.f3 v.f4.f0 v.f4.f1 n).1,v⟩
def whyV (n low : Int) (L : List Ent) (v : Vtx) : Int := zfR n low L v.f0 v.f1 v.f2 v.f3 v.f4.f0 v.f4.f1
def addV (n low : Int) (L : List Ent) (v : Vtx) : List Ent := addE n low L v.f0 v.f1 v.f2 v.f3 v.f4.f0 v.f4.f1
theorem zdL {n low : Int} {L : List Ent} {v : Vtx} : whyV n low L v = 0 ↔ (zac v.f0 v.f1 v.f2 v.f3 v.f4.f0 v.f4.f1 n).2 = 0 ∧ low < v.f1 ∧ (∀ x ∈ L,x.f0 ≠ (ze8 n v).f0) ∧ (∀ x ∈ L,¬ (x.f1.f0 = v.f0 ∧ x.f1.f1 = v.f1)) ∧ (zbM L low v.f1 v.f3).length = 0 := by
 unfold whyV zfR
 by_cases h1 : (zac v.f0 v.f1 v.f2 v.f3 v.f4.f0 v.f4.f1 n).2 = 0
 ·rw [if_neg (by simp [h1])]
  by_cases h2 : v.f1 ≤ low
  ·rw [if_pos h2];exact ⟨fun h => absurd h (by decide),fun h => absurd h.2.1 (by omega)⟩
  rw [if_neg h2]
  by_cases h3 : (zcY L (zac v.f0 v.f1 v.f2 v.f3 v.f4.f0 v.f4.f1 n).1).isSome = true
  ·rw [if_pos h3]
   refine ⟨fun h => absurd h (by decide),fun h => ?_⟩
   rw [zcY,List.find?_isSome] at h3
   obtain ⟨x,hx,h3⟩ := h3
   exact absurd (of_decide_eq_true h3) (h.2.2.1 x hx)
  rw [if_neg h3]
  by_cases h4 : (byE L v.f0 v.f1).isSome = true
  ·rw [if_pos h4]
   refine ⟨fun h => absurd h (by decide),fun h => ?_⟩
   rw [byE,List.find?_isSome] at h4
   obtain ⟨x,hx,h4⟩ := h4
   exact absurd (of_decide_eq_true h4) (h.2.2.2.1 x hx)
  rw [if_neg h4]
  by_cases h5 : 0 < (zbM L low v.f1 v.f3).length
  ·rw [if_pos h5];exact ⟨fun h => absurd h (by decide),fun h => absurd h.2.2.2.2 (by omega)⟩
  rw [if_neg h5]
  refine ⟨fun _ => ⟨h1,by omega,fun x hx he => h3 ?_,fun x hx he => h4 ?_,by omega⟩,fun _ => rfl⟩
  ·rw [zcY,List.find?_isSome];exact ⟨x,hx,decide_eq_true he⟩
  ·rw [byE,List.find?_isSome];exact ⟨x,hx,decide_eq_true he⟩
 ·rw [if_pos (by simp [h1])]
  exact ⟨fun h => absurd h h1,fun h => absurd h.1 h1⟩
theorem zf3 {n low : Int} {L : List Ent} {v : Vtx} (h : whyV n low L v = 0) : addV n low L v = zff L (ze8 n v) := if_pos h
theorem addV_no {n low : Int} {L : List Ent} {v : Vtx} (h : whyV n low L v ≠ 0) : addV n low L v = L := if_neg h
theorem lackE_sub {L M : List Ent} {low r : Int} {ps : List ByteArray} (h : (zbM L low r ps).length = 0) (hs : ∀ x ∈ L,x ∈ M) : (zbM M low r ps).length = 0 := by
 unfold zbM at h ⊢
 split
 ·rfl
 ·next hl =>
  rw [if_neg hl,List.length_eq_zero_iff,List.filter_eq_nil_iff] at h
  rw [List.length_eq_zero_iff,List.filter_eq_nil_iff]
  intro p hp
  have := h p hp
  simp only [Bool.not_eq_true',Bool.not_eq_false,List.any_eq_true] at this ⊢
  obtain ⟨x,hx,h2⟩ := this
  exact ⟨x,hs x hx,h2⟩
structure zdo (n : Int) (l : List Vtx) (A : Nat → List Ent) : Prop where
 zero : A 0 = []
 why : ∀ i (h : i < l.length),whyV n 0 (A i) l[i] = 0
 next : ∀ i (h : i < l.length),A (i + 1) = addV n 0 (A i) l[i]
theorem zdo.mem {n : Int} {l : List Vtx} {A : Nat → List Ent} (h : zdo n l A) : ∀ i,i ≤ l.length → ∀ x,x ∈ A i ↔ ∃ (j : Nat) (hj : j < l.length),j < i ∧ x = ze8 n l[j]
 | 0,_,x => by
  rw [h.zero]
  exact ⟨fun hx => absurd hx List.not_mem_nil,fun ⟨_,_,hj,_⟩ => absurd hj (Nat.not_lt_zero _)⟩
 | i + 1,hi,x => by
  rw [h.next i hi,zf3 (h.why i hi),zdH,h.mem i (by omega) x]
  constructor
  ·rintro (rfl | ⟨j,hj,h1,h2⟩)
   ·exact ⟨i,hi,by omega,rfl⟩
   ·exact ⟨j,hj,by omega,h2⟩
  ·rintro ⟨j,hj,h1,h2⟩
   rcases Nat.lt_succ_iff_lt_or_eq.1 h1 with h1 | h1
   ·exact .inr ⟨j,hj,h1,h2⟩
   ·subst h1;exact .inl h2
theorem zdo.srt {n : Int} {l : List Vtx} {A : Nat → List Ent} (h : zdo n l A) : ∀ i,i ≤ l.length → zfm (A i)
 | 0,_ => by rw [h.zero];exact List.Pairwise.nil
 | i + 1,hi => by
  rw [h.next i hi,zf3 (h.why i hi)]
  exact zgo (h.srt i (by omega)) (zdL.1 (h.why i hi)).2.2.2.1
theorem zdo.apart {n : Int} {l : List Vtx} {A : Nat → List Ent} (h : zdo n l A) (i j : Nat) (hi : i < l.length) (hj : j < i) : (ze8 n l[j]).f0 ≠ (ze8 n l[i]).f0 ∧ ¬ (l[j].f0 = l[i].f0 ∧ l[j].f1 = l[i].f1) := by
 obtain ⟨_,_,h3,h4,_⟩ := zdL.1 (h.why i hi)
 have hm := (h.mem i (by omega) (ze8 n l[j])).2 ⟨j,by omega,hj,rfl⟩
 exact ⟨h3 _ hm,h4 _ hm⟩
theorem zdo.one {n : Int} {l : List Vtx} {A : Nat → List Ent} (h : zdo n l A) (i j : Nat) (hi : i < l.length) (hj : j < l.length) (he : (ze8 n l[j]).f0 = (ze8 n l[i]).f0 ∨ (l[j].f0 = l[i].f0 ∧ l[j].f1 = l[i].f1)) : i = j := by
 rcases Nat.lt_trichotomy i j with hl | hl | hl
 ·have := h.apart j i hj hl
  rcases he with he | he
  ·exact absurd he.symm this.1
  ·exact absurd ⟨he.1.symm,he.2.symm⟩ this.2
 ·exact hl
 ·have := h.apart i j hi hl
  rcases he with he | he
  ·exact absurd he this.1
  ·exact absurd he this.2
structure zhR (n : Int) (l : List Vtx) (B : List Ent) : Prop where
 srt : zfm B
 mem : ∀ x ∈ B,∃ (j : Nat) (hj : j < l.length),x = ze8 n l[j]
theorem zhR.step {n : Int} {l : List Vtx} {A : Nat → List Ent} {B : List Ent} (h : zdo n l A) (hB : zhR n l B) (i : Nat) (hi : i < l.length) : zhR n l (addV n 0 B l[i]) ∧ (∀ x ∈ B,x ∈ addV n 0 B l[i]) ∧ ((∀ (j : Nat) (hj : j < l.length),j < i → ze8 n l[j] ∈ B) → ze8 n l[i] ∈ addV n 0 B l[i]) := by
 by_cases hw : whyV n 0 B l[i] = 0
 ·rw [zf3 hw]
  refine ⟨⟨zgo hB.srt (zdL.1 hw).2.2.2.1,fun x hx => ?_⟩,fun x hx => zdH.2 (.inr hx),fun _ => zdH.2 (.inl rfl)⟩
  rcases zdH.1 hx with rfl | hx
  ·exact ⟨i,hi,rfl⟩
  ·exact hB.mem x hx
 ·rw [addV_no hw]
  refine ⟨hB,fun x hx => hx,fun hj => ?_⟩
  by_cases hin : ze8 n l[i] ∈ B
  ·exact hin
  ·exfalso
   refine hw (zdL.2 ?_)
   obtain ⟨h1,h2,_,_,h5⟩ := zdL.1 (h.why i hi)
   refine ⟨h1,h2,fun x hx he => ?_,fun x hx he => ?_,lackE_sub h5 fun x hx => ?_⟩
   ·obtain ⟨j,hj',rfl⟩ := hB.mem x hx
    have := h.one i j hi hj' (.inl he)
    subst this
    exact hin hx
   ·obtain ⟨j,hj',rfl⟩ := hB.mem x hx
    have := h.one i j hi hj' (.inr he)
    subst this
    exact hin hx
   ·obtain ⟨j,hj',hji,rfl⟩ := (h.mem i (by omega) x).1 hx
    exact hj j hj' hji
theorem zhR.all {n : Int} {l : List Vtx} {A : Nat → List Ent} {B : List Ent} (h : zdo n l A) (hB : zhR n l B) (hm : ∀ (j : Nat) (hj : j < l.length),ze8 n l[j] ∈ B) : A l.length = B :=
 zhH (h.srt _ (Nat.le_refl _)) hB.srt fun x => ⟨fun hx => by obtain ⟨j,hj,_,rfl⟩ := (h.mem _ (Nat.le_refl _) x).1 hx;exact hm j hj,fun hx => by obtain ⟨j,hj,rfl⟩ := hB.mem x hx;exact (h.mem _ (Nat.le_refl _) _).2 ⟨j,hj,hj,rfl⟩⟩
theorem zek {n low : Int} {L : List Ent} (h : zbf n low L = true) : zc1 n = true ∧ 0 ≤ low ∧ ∀ (i : Nat) (hi : i < L.length),okE n low L i L[i] = true := by
 unfold zbf at h
 simp only [Bool.and_eq_true,decide_eq_true_eq,List.all_eq_true,List.mem_range] at h
 exact ⟨h.1.1,h.1.2,fun i hi => by have := h.2 i hi;rwa [List.getD_eq_getElem?_getD,List.getElem?_eq_getElem hi] at this⟩
theorem zhr {n low : Int} {L : List Ent} {i : Nat} {x : Ent} : okE n low L i x = true ↔ (zac x.f1.f0 x.f1.f1 x.f1.f2 x.f1.f3 x.f1.f4.f0 x.f1.f4.f1 n).2 = 0 ∧ (zac x.f1.f0 x.f1.f1 x.f1.f2 x.f1.f3 x.f1.f4.f0 x.f1.f4.f1 n).1 = x.f0 ∧ low < x.f1.f1 ∧ (zbM L low x.f1.f1 x.f1.f3).length = 0 ∧ (i = 0 ∨ zbe (L.getD (i - 1) z34).f1.f0 (L.getD (i - 1) z34).f1.f1 x.f1.f0 x.f1.f1 = true) := by
 unfold okE
 simp only [Bool.and_eq_true,Bool.or_eq_true,decide_eq_true_eq,and_assoc]
theorem ahd_trans {x y z : Ent} (h1 : ahd x y) (h2 : ahd y z) : ahd x z := by
 have := zci.1 h1;have := zci.1 h2;exact zci.2 (by omega)
theorem zeV : ∀ {L : List Ent},(∀ (i : Nat) (hi : i + 1 < L.length),ahd L[i] L[i + 1]) → zfm L
 | [],_ => List.Pairwise.nil
 | [x],_ => List.pairwise_singleton _ _
 | x :: y :: L,h => by
  have ih : zfm (y :: L) := zeV fun i hi => by have := h (i + 1) (by simp at hi ⊢;omega);simpa using this
  have h0 : ahd x y := h 0 (by simp)
  refine List.pairwise_cons.2 ⟨fun z hz => ?_,ih⟩
  rcases List.mem_cons.1 hz with rfl | hz
  ·exact h0
  ·exact ahd_trans h0 ((List.pairwise_cons.1 ih).1 z hz)
theorem zeF {n low : Int} {L : List Ent} (h : zbf n low L = true) : zfm L := by
 obtain ⟨_,_,h⟩ := zek h
 refine zeV fun i hi => ?_
 rcases (zhr.1 (h (i + 1) hi)).2.2.2.2 with h0 | h0
 ·omega
 ·rwa [Nat.add_sub_cancel,List.getD_eq_getElem?_getD,List.getElem?_eq_getElem (by omega)] at h0
theorem ziW {n low : Int} {L : List Ent} (h : zbf n low L = true) : ∀ x ∈ L,low < x.f1.f1 := fun x hx => by
 obtain ⟨i,hi,rfl⟩ := List.mem_iff_getElem.1 hx
 exact (zhr.1 ((zek h).2.2 i hi)).2.2.1
def zdT (L : List Ent) (r : Int) : List Ent := L.filter fun x => decide (x.f1.f1 = r)
theorem zc5 (l : List Ent) (j : Nat) (h : j < l.length) : zd l (j : Int) = l[j] := by
 rw [zd,Int.toNat_natCast,List.getD_eq_getElem?_getD,List.getElem?_eq_getElem h];rfl
structure zhc (x : Ent) : Prop where
 bs : x.f1.f2.length < 4611686018427387904
 tx : ∀ b ∈ x.f1.f2,b.f2.length < 4611686018427387904
 ps : x.f1.f3.length ≤ 8796093022208
 t : ∀ t ∈ x.f1.f3,t.size < 4611686018427387904
instance decEnt : DecidableEq Ent := fun a b => decidable_of_iff (a.f0 = b.f0 ∧ zcT a.f1.f0 a.f1.f1 a.f1.f2 a.f1.f3 a.f1.f4.f0 a.f1.f4.f1 b.f1.f0 b.f1.f1 b.f1.f2 b.f1.f3 b.f1.f4.f0 b.f1.f4.f1 = true) ⟨fun ⟨h0,h1⟩ => by
  rw [zcC] at h1
  obtain ⟨a0,⟨a1,a2,a3,a4,⟨a5,a6⟩⟩⟩ := a;obtain ⟨b0,⟨b1,b2,b3,b4,⟨b5,b6⟩⟩⟩ := b
  simp only at h0 h1
  obtain ⟨rfl,rfl,rfl,rfl,rfl,rfl⟩ := h1
  rw [h0],fun h => by rw [h,zcC];exact ⟨rfl,rfl,rfl,rfl,rfl,rfl,rfl⟩⟩
theorem zfL (a b : List Ent) (hl : a.length = b.length) (ha : a.length < 4611686018427387904) (hs : ∀ x ∈ a,zhc x) (d : Nat) : ∀ j,j + d = a.length →
  Ev (fun k => zo.l0 k a b (j : Int)) (decide (a.drop j = b.drop j)) := by
 induction d with
 | zero =>
  intro j hj
  refine Ev.step (fun k => by rw [zo.l0]) ?_
  refine zQ (by omega) (z4 (Ev.now _) ?_)
  rw [List.drop_eq_nil_of_le (by omega),List.drop_eq_nil_of_le (by omega)];rfl
 | succ d ih =>
  intro j hj
  refine Ev.step (fun k => by rw [zo.l0]) ?_
  have h1 : j < a.length := by omega
  have h2 : j < b.length := by omega
  refine zG (by omega) (zG (by omega) (zG (by omega) ?_))
  have hf := hs _ (List.getElem_mem h1)
  have hps := hf.ps
  rw [zc5 a j h1,zc5 b j h2,List.drop_eq_getElem_cons h1,List.drop_eq_getElem_cons h2,zab (by omega) (by omega)]
  refine Ev.bind (zdJ _ _ _ _ _ _ _ _ _ _ _ _ hf.bs hf.tx (by omega)) ?_
  by_cases h : a[j] = b[j]
  ·refine zG (by rw [h,zcC];exact ⟨rfl,rfl,rfl,rfl,rfl,rfl⟩) (zG (by rw [h]) (z4 (ih (j + 1) (by omega)) ?_))
   rw [h];exact decide_eq_decide.2 ⟨fun h => by rw [h],fun h => (List.cons.inj h).2⟩
  ·have hno : decide (a[j] :: a.drop (j + 1) = b[j] :: b.drop (j + 1)) = false := decide_eq_false (fun e => h (List.cons.inj e).1)
   rw [hno]
   by_cases hv : zcT a[j].f1.f0 a[j].f1.f1 a[j].f1.f2 a[j].f1.f3 a[j].f1.f4.f0 a[j].f1.f4.f1 b[j].f1.f0 b[j].f1.f1 b[j].f1.f2 b[j].f1.f3 b[j].f1.f4.f0 b[j].f1.f4.f1 = true
   ·refine zG hv (zQ (fun e => h ?_) (Ev.now _))
    rw [zcf] at e
    rw [zcC] at hv
    generalize a[j] = p at *
    generalize b[j] = q at *
    obtain ⟨a0,⟨a1,a2,a3,a4,⟨a5,a6⟩⟩⟩ := p;obtain ⟨b0,⟨b1,b2,b3,b4,⟨b5,b6⟩⟩⟩ := q
    simp only at e hv
    obtain ⟨rfl,rfl,rfl,rfl,rfl,rfl⟩ := hv
    rw [e]
   ·exact zQ hv (Ev.now _)
theorem zgN (a b : List Ent) (ha : a.length < 4611686018427387904) (hs : ∀ x ∈ a,zhc x) : Ev (fun k => zo.f k a b) (decide (a = b)) := by
 by_cases h : a.length = b.length
 ·exact zG (by omega) (zfL a b h ha hs a.length 0 (by omega))
 ·refine zQ (by omega) (z4 (Ev.now _) ?_)
  have : ¬ a = b := fun e => h (by rw [e])
  simp [this]
theorem zgQ (n lo r : Int) (L : List Ent) (hL : L.length < 1466015503701) (d : Nat) : ∀ (j : Nat) (acc : List Ent),j + d = L.length → acc.length ≤ j →
  Ev (fun k => zR.l0 k r acc (j : Int) n lo L) (acc ++ zdT (L.drop j) r) := by
 induction d with
 | zero =>
  intro j acc hj _
  refine Ev.step (fun k => by rw [zR.l0]) ?_
  refine zQ (by omega) (z4 (Ev.now _) ?_)
  rw [List.drop_eq_nil_of_le (by omega)];simp [zdT]
 | succ d ih =>
  intro j acc hj ha
  refine Ev.step (fun k => by rw [zR.l0]) ?_
  have h1 : j < L.length := by omega
  refine zG (by omega) (zG (by omega) ?_)
  rw [zc5 L j h1,zab (by omega) (by omega),List.drop_eq_getElem_cons h1]
  by_cases h : L[j].f1.f1 = r
  ·refine zG h (zG (by omega) (z4 (ih (j + 1) _ (by omega) (by simp;omega)) ?_))
   rw [zdT,zdT,show (L[j] :: L.drop (j + 1)).filter (fun x => decide (x.f1.f1 = r)) = L[j] :: (L.drop (j + 1)).filter (fun x => decide (x.f1.f1 = r)) from List.filter_cons_of_pos (by simpa using h),List.append_assoc];rfl
  ·refine zQ h (z4 (ih (j + 1) _ (by omega) (by omega)) ?_)
   rw [zdT,zdT,List.filter_cons_of_neg (by simpa using h)]
theorem zij (n lo r : Int) (L : List Ent) (hL : L.length < 1466015503701) : Ev (fun k => zR.f k n lo L r) (zdT L r) :=
 z4 (zgQ n lo r L hL L.length 0 [] (by omega) (by simp)) (by simp)
theorem ziN (a r : Int) (bs : List S78) (ps : List ByteArray) (x y : Int) (R : List Ent) (hR : R.length < 4611686018427387904) (hp : ps.length ≤ 8796093022208) (i : Nat) (hi : i < ps.length) (out : List ByteArray) (ho : out.length ≤ i) (V : List ByteArray)
  (hN : Ev (fun k => zy.l0 k R (if R.any (fun e => decide (e.f0 = ps[i])) = true then out else out ++ [ps[i]]) ((i + 1 : Nat) : Int) a r bs ps x y) V) (d : Nat) : ∀ (j : Nat) (has : Bool),j + d = R.length → (has || (R.drop j).any (fun e => decide (e.f0 = ps[i]))) = R.any (fun e => decide (e.f0 = ps[i])) →
  Ev (fun k => zy.l1 k R out (i : Int) has (j : Int) a r bs ps x y) V := by
 induction d with
 | zero =>
  intro j has hj hh
  refine Ev.step (fun k => by rw [zy.l1]) ?_
  refine zQ (by omega) ?_
  rw [List.drop_eq_nil_of_le (by omega),List.any_nil,Bool.or_false] at hh
  rw [← hh] at hN
  rcases has with _ | _
  ·rw [zeT ps i hi,zab (by omega) (by omega)]
   exact zQ (by simp) (zG (by omega) (zG (by omega) (zG (by omega) (by simpa using hN))))
  ·rw [zab (by omega) (by omega)]
   exact zG rfl (by simpa using hN)
 | succ d ih =>
  intro j has hj hh
  refine Ev.step (fun k => by rw [zy.l1]) ?_
  have h1 : j < R.length := by omega
  refine zG (by omega) ?_
  rw [zc5 R j h1,zab (x := (j : Int) + 1) (by omega) (by omega)]
  rw [List.drop_eq_getElem_cons h1,List.any_cons] at hh
  rcases has with _ | _
  ·rw [zeT ps i hi]
   refine zQ (by simp) (zG (by omega) (zG (by omega) (zG (by omega) (ih (j + 1) _ (by omega) ?_))))
   rw [← hh,zb1];simp
  ·exact zG rfl (ih (j + 1) true (by omega) (by simpa using hh))
theorem zih (a r : Int) (bs : List S78) (ps : List ByteArray) (x y : Int) (R : List Ent) (hR : R.length < 4611686018427387904) (hp : ps.length ≤ 8796093022208) (d : Nat) : ∀ (i : Nat) (out : List ByteArray),i + d = ps.length → out.length ≤ i →
  Ev (fun k => zy.l0 k R out (i : Int) a r bs ps x y) (out ++ (ps.drop i).filter fun p => !R.any fun e => decide (e.f0 = p)) := by
 induction d with
 | zero =>
  intro i out hi ho
  refine Ev.step (fun k => by rw [zy.l0]) ?_
  refine zQ (by omega) (z4 (Ev.now _) ?_)
  rw [List.drop_eq_nil_of_le (by omega)];simp
 | succ d ih =>
  intro i out hi ho
  refine Ev.step (fun k => by rw [zy.l0]) ?_
  have h1 : i < ps.length := by omega
  refine zG (by omega) (ziN a r bs ps x y R hR hp i h1 out ho _ (z4 (ih (i + 1) _ (by omega) ?_) ?_) R.length 0 false (by omega) (by simp))
  ·split
   ·omega
   ·simp only [List.length_append,List.length_singleton];omega
  ·rw [List.drop_eq_getElem_cons h1,List.filter_cons]
   by_cases h : R.any (fun e => decide (e.f0 = ps[i])) = true
   ·rw [if_pos h,if_neg (by rw [h];simp)]
   ·rw [if_neg h,if_pos (by rw [Bool.not_eq_true] at h;rw [h];rfl),List.append_assoc];rfl
theorem zgO (n lo : Int) (L : List Ent) (a r : Int) (bs : List S78) (ps : List ByteArray) (x y : Int) (hL : L.length < 1466015503701) (hp : ps.length ≤ 8796093022208) :
  Ev (fun k => zy.f k n lo L a r bs ps x y) (zbM L lo r ps) := by
 unfold zbM
 by_cases h : wrap64 (r - 1) ≤ lo
 ·rw [if_pos h];exact zG h (Ev.now _)
 ·rw [if_neg h]
  have hR : (zdT L (wrap64 (r - 1))).length ≤ L.length := List.length_filter_le _ _
  refine zQ h (Ev.bind (zij n lo _ L hL) (z4 (zih a r bs ps x y _ (by omega) hp ps.length 0 [] (by omega) (by simp)) ?_))
  rw [List.drop_zero,List.nil_append]
  congr 1
  funext p
  rw [zdT,List.any_filter]
  congr 1
  refine congrArg (fun q => L.any q) (funext fun e => ?_)
  by_cases h1 : e.f1.f1 = wrap64 (r - 1) <;> by_cases h2 : e.f0 = p <;> simp [h1,h2]
def zd6 (n lo : Int) (L : List Ent) : Nat → Nat → Bool
 | 0,_ => true
 | d + 1,j => okE n lo L j (L.getD j z34) && zd6 n lo L d (j + 1)
theorem zgk (n lo : Int) (L : List Ent) : ∀ d j : Nat,zd6 n lo L d j = (List.range' j d).all fun i => okE n lo L i (L.getD i z34)
 | 0,_ => rfl
 | d + 1,j => by rw [zd6,zgk n lo L d (j + 1),List.range'_succ,List.all_cons]
theorem zfy (n lo : Int) (L : List Ent) : zbf n lo L = (zc1 n && decide (0 ≤ lo) && zd6 n lo L L.length 0) := by
 rw [zbf,zgk,List.range_eq_range']
theorem zif (a r : Int) (bs : List S78) (ps : List ByteArray) (x y a' r' : Int) (bs' : List S78) (ps' : List ByteArray) (x' y' : Int) : zaB.f a r bs ps x y a' r' bs' ps' x' y' = some (zbe a r a' r') := by
 unfold zaB.f zbe
 by_cases h : r = r'
 ·rw [if_pos h]
  exact congrArg some (decide_eq_decide.2 (by omega))
 ·rw [if_neg h]
  exact congrArg some (decide_eq_decide.2 (by omega))
theorem zgP (n lo : Int) (L : List Ent) (hL : L.length < 1466015503701) (hs : ∀ x ∈ L,zhc x) (d : Nat) : ∀ j : Nat,j + d = L.length →
  Ev (fun k => zk.l0 k (j : Int) n lo L) (zd6 n lo L d j) := by
 induction d with
 | zero =>
  intro j hj
  refine Ev.step (fun k => by rw [zk.l0]) ?_
  exact zQ (by omega) (Ev.now _)
 | succ d ih =>
  intro j hj
  refine Ev.step (fun k => by rw [zk.l0]) ?_
  have h1 : j < L.length := by omega
  refine zG (by omega) (zG (by omega) ?_)
  have hf := hs _ (List.getElem_mem h1)
  have hps := hf.ps
  have hg : L.getD j z34 = L[j] := by rw [List.getD_eq_getElem?_getD,List.getElem?_eq_getElem h1];rfl
  have ih := ih (j + 1) (by omega)
  rw [zc5 L j h1,zd6,hg]
  have J2 : ∀ b : Bool,Ev (fun k => zk.j2 k (j : Int) b n lo L L[j].f0 L[j].f1.f0 L[j].f1.f1 L[j].f1.f2 L[j].f1.f3 L[j].f1.f4.f0 L[j].f1.f4.f1) (!b && ((decide (j = 0) || zbe (L.getD (j - 1) z34).f1.f0 (L.getD (j - 1) z34).f1.f1 L[j].f1.f0 L[j].f1.f1) && zd6 n lo L d (j + 1))) := by
   intro b
   refine Ev.step (fun k => by rw [zk.j2]) ?_
   rcases b with _ | _
   ·refine zQ (by simp) ?_
    rw [zab (x := (j : Int) + 1) (by omega) (by omega)]
    by_cases h0 : j = 0
    ·exact zQ (by omega) (z4 ih (by simp [h0]))
    ·have e2 : wrap64 ((j : Int) - 1) = ((j - 1 : Nat) : Int) := by rw [zab (by omega) (by omega)];omega
     have h2 : j - 1 < L.length := by omega
     have hg2 : L.getD (j - 1) z34 = L[j - 1] := by rw [List.getD_eq_getElem?_getD,List.getElem?_eq_getElem h2];rfl
     rw [e2,zc5 L (j - 1) h2,hg2]
     refine zG (by omega) (zG (by omega) (zG (by omega) (zak (zif ..) ?_)))
     by_cases h3 : zbe L[j - 1].f1.f0 L[j - 1].f1.f1 L[j].f1.f0 L[j].f1.f1 = true
     ·exact zG h3 (z4 ih (by simp [h3]))
     ·exact zQ h3 (z4 (Ev.now _) (by simp [h0,h3]))
   ·exact zG rfl (z4 (Ev.now _) (by simp))
  refine Ev.bind (zeE _ _ _ _ _ _ _ hf.bs hf.tx (by omega) hf.t) (Ev.bind (zgO n lo L _ _ _ _ _ _ hL hf.ps) ?_)
  unfold okE
  by_cases c1 : (zac L[j].f1.f0 L[j].f1.f1 L[j].f1.f2 L[j].f1.f3 L[j].f1.f4.f0 L[j].f1.f4.f1 n).2 = 0
  ·refine zG c1 ?_
   by_cases c2 : (zac L[j].f1.f0 L[j].f1.f1 L[j].f1.f2 L[j].f1.f3 L[j].f1.f4.f0 L[j].f1.f4.f1 n).1 = L[j].f0
   ·refine zG ((zcf _ _).2 c2) ?_
    by_cases c3 : L[j].f1.f1 ≤ lo
    ·refine zG c3 (z4 (J2 true) ?_)
     simp [show ¬ lo < L[j].f1.f1 by omega]
    ·refine zQ c3 (z4 (J2 _) ?_)
     by_cases c4 : (zbM L lo L[j].f1.f1 L[j].f1.f3).length = 0
     ·simp [c1,c2,c4,show lo < L[j].f1.f1 by omega]
     ·have c5 : ((zbM L lo L[j].f1.f1 L[j].f1.f3).length : Int) > 0 := by omega
      simp only [decide_eq_true c5,decide_eq_false c4];simp
   ·exact zQ (fun e => c2 ((zcf _ _).1 e)) (z4 (J2 true) (by simp [c2]))
  ·exact zQ c1 (z4 (J2 true) (by simp [c1]))
theorem zfx (n lo : Int) (L : List Ent) (hL : L.length < 1466015503701) (hs : ∀ x ∈ L,zhc x) : Ev (fun k => zk.f k n lo L) (zbf n lo L) := by
 rw [zfy]
 have J0 : ∀ b : Bool,Ev (fun k => zk.j0 k b n lo L) (!b && zd6 n lo L L.length 0) := by
  intro b
  refine Ev.step (fun k => by rw [zk.j0]) ?_
  rcases b with _ | _
  ·exact zQ (by simp) (z4 (zgP n lo L hL hs L.length 0 (by omega)) (by simp))
  ·exact zG rfl (z4 (Ev.now _) (by simp))
 refine zak (zdS n) ?_
 by_cases h0 : zc1 n = true
 ·refine zG h0 (z4 (J0 _) ?_)
  by_cases h : lo < 0
  ·simp [h,show ¬ 0 ≤ lo by omega]
  ·simp [h,h0,show 0 ≤ lo by omega]
 ·exact zQ h0 (z4 (J0 true) (by simp [h0]))
theorem zec : (zac 2 1 [] [] 0 0 4).2 = 0 := by
 rw [zac,if_pos]
 rw [zcS]
 simp [zcR,zeO,zce]
theorem zhM {a r : Int} {bs : List S78} {ps : List ByteArray} {x y n : Int} (h : (zac a r bs ps x y n).2 = 0) : (zac a r bs ps x y n).1.size = 32 := by
 unfold zac at h ⊢
 split
 ·exact shaB_size _
 ·next hm => rw [if_neg hm] at h;cases h
theorem shown11_of : zaT.f = some true := by
 have hz := zhM zec
 have hv := zec
 have w1 : wrap64 (1 - 1) ≤ 0 := by rw [zab (by decide) (by decide)];decide
 have l1 : ∀ L : List Ent,zbM L 0 1 [] = [] := fun L => if_pos w1
 have y1 : zfR 4 0 [] 2 1 [] [] 0 0 = 0 := by
  unfold zfR
  rw [if_neg (by simp [hv]),if_neg (by decide),if_neg (by simp [zcY]),if_neg (by simp [byE]),l1,if_neg (by simp)]
 have a1 : zaE.f 4 0 ([] : List Ent) 2 1 [] [] 0 0 = some (4,0,[⟨(zac 2 1 [] [] 0 0 4).1,⟨2,1,[],[],⟨0,0⟩⟩⟩],0) := by
  unfold zaE.f
  rw [if_pos (by simp),y1,addE,if_pos y1];rfl
 have y2 : zfR 4 0 [⟨(zac 2 1 [] [] 0 0 4).1,⟨2,1,[],[],⟨0,0⟩⟩⟩] 2 1 [] [] 0 0 = 8 := by
  unfold zfR
  rw [if_neg (by simp [hv]),if_neg (by decide),if_pos (by simp [zcY])]
 have a2 : zaE.f 4 0 [⟨(zac 2 1 [] [] 0 0 4).1,⟨2,1,[],[],⟨0,0⟩⟩⟩] 2 1 [] [] 0 0 = some (4,0,[⟨(zac 2 1 [] [] 0 0 4).1,⟨2,1,[],[],⟨0,0⟩⟩⟩],8) := by
  unfold zaE.f
  rw [if_pos (by simp),y2,addE,if_neg (by rw [y2];decide)]
 have r1 : zbf 4 0 [⟨(zac 2 1 [] [] 0 0 4).1,⟨2,1,[],[],⟨0,0⟩⟩⟩] = true := by
  rw [zfy]
  show (zc1 4 && decide ((0 : Int) ≤ 0) && (okE 4 0 _ 0 _ && true)) = true
  unfold okE
  simp [hv,l1,zcR,List.getD]
 unfold zaT.f
 rw [a1]
 simp only [Option.bind_some]
 rw [a2]
 simp only [Option.bind_some,if_true,List.length_cons,List.length_nil]
 have e0 : zd [(⟨(zac 2 1 [] [] 0 0 4).1,⟨2,1,[],[],⟨0,0⟩⟩⟩ : Ent)] 0 = ⟨(zac 2 1 [] [] 0 0 4).1,⟨2,1,[],[],⟨0,0⟩⟩⟩ := rfl
 rw [e0]
 rw [if_pos (by decide),if_pos (by decide),if_pos (by show ((zac 2 1 [] [] 0 0 4).1.size : Int) = 32;omega)]
 unfold zaL.f
 rw [if_pos (by simp),r1];rfl
end Go.Proofs.Ytndjfdakflaggaa.Px