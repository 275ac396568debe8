/- Part 13 of 15 of the proof of the law DagStays: what is proved is the statement at the end of the last part; its conditions are those of the given row. -/
import Derived.Test.YtndjfdakflaggaaGreatZDagStaysL
namespace Go.Proofs.YtndjfdakflaggaaGreat.Px
open Go.RowKit Go.Proofs.YtndjfdakflaggaaGreatW.PrintWords Go.Proofs.YtndjfdakflaggaaGreatW.PrintLast Go.Proofs.YtndjfdakflaggaaGreatW.PrintMore
attribute [local go_sem] zA zC zH zI zv zw zB zD
set_option linter.unusedVariables false
set_option linter.unusedSimpArgs false
mutual
def zx.l0 : Nat → List (S39) → List ByteArray → Int → Int → Int → List (S75) → List ByteArray → Int → Int → Option (List ByteArray)
 | 0,_,_,_,_,_,_,_,_,_ => none
 | k + 1,x5,x6,x7,yk,yl,ym,yg,yn,yo => if x7 < (yg.length : Int) then (zx.l1 k x5 x6 x7 false 0 yk yl ym yg yn yo) else (some x6)
def zx.l1 : Nat → List (S39) → List ByteArray → Int → Bool → Int → Int → Int → List (S75) → List ByteArray → Int → Int → Option (List ByteArray)
 | 0,_,_,_,_,_,_,_,_,_,_,_ => none
 | k + 1,x5,x6,x7,x8,x9,yk,yl,ym,yg,yn,yo => if x9 < (x5.length : Int) then (if x8 = true then (zx.l1 k x5 x6 x7 true (wrap64 (x9 + 1)) yk yl ym yg yn yo) else (if 0 ≤ x9 then (if 0 ≤ x7 then (if x7 < (yg.length : Int) then (zx.l1 k x5 x6 x7 (((zd x5 x9).f0).toList == (zz ByteArray.empty yg x7).toList) (wrap64 (x9 + 1)) yk yl ym yg yn yo) else (none)) else (none)) else (none))) else (if x8 = true then (zx.l0 k x5 x6 (wrap64 (x7 + 1)) yk yl ym yg yn yo) else (if 0 ≤ x7 then (if x7 < (yg.length : Int) then (if x6.length < 8796093022208 then (zx.l0 k x5 (x6 ++ [zz ByteArray.empty yg x7]) (wrap64 (x7 + 1)) yk yl ym yg yn yo) else (none)) else (none)) else (none)))
end
def zx.f (k : Nat) (a0_0 : Int) (a0_1 : Int) (l0_2 : List (S39)) (a1_0 : Int) (a1_1 : Int) (l1_2 : List (S75)) (l1_3 : List ByteArray) (a1_4 : Int) (a1_5 : Int) : Option (List ByteArray) := if (wrap64 (a1_1 - 1)) ≤ a0_1 then (some ([] : List ByteArray)) else ((zR.f k a0_0 a0_1 l0_2 (wrap64 (a1_1 - 1))).bind fun yh => (zx.l0 k yh ([] : List ByteArray) 0 a1_0 a1_1 l1_2 l1_3 a1_4 a1_5))
set_option maxHeartbeats 8000000 in
set_option maxRecDepth 100000 in
theorem zx.calls (k : Nat) (a0_0 : Int) (a0_1 : Int) (A0_2 : Option Addr) (c0_2 : Nat) (l0_2 : List (S39)) (a1_0 : Int) (a1_1 : Int) (A1_2 : Option Addr) (c1_2 : Nat) (l1_2 : List (S75)) (A1_3 : Option Addr) (c1_3 : Nat) (l1_3 : List ByteArray) (a1_4 : Int) (a1_5 : Int) (r : List ByteArray) (w : World) (hr0_2 : Kd.C k39 w A0_2 l0_2.length l0_2) (hc0_2 : l0_2.length ≤ c0_2) (hr1_2 : Kd.C k75 w A1_2 l1_2.length l1_2) (hc1_2 : l1_2.length ≤ c1_2) (hr1_3 : Kd.C Kd.string w A1_3 l1_3.length l1_3) (hc1_3 : l1_3.length ≤ c1_3) (h : zx.f k a0_0 a0_1 l0_2 a1_0 a1_1 l1_2 l1_3 a1_4 a1_5 = some r) :
  Calls Tryz.prog 23 #[.agg #[.int .i64 a0_0,.int .i64 a0_1,.slice A0_2 l0_2.length c0_2],.agg #[.int .i64 a1_0,.int .i64 a1_1,.slice A1_2 l1_2.length c1_2,.slice A1_3 l1_3.length c1_3,.int .i64 a1_4,.int .i64 a1_5]] w fun e w' => ∃ v0_ : Value,e = .returned (v0_) ∧ Kd.R Kd.string 9 w' w.heap.size (fun _ => True) v0_ r ∧ Below w.heap.size w w' := by
 have hu26 := Tryz.underlying26
 have hu35 := Tryz.underlying35
 have HR0_2 := za.mk hr0_2
 have HC0_2 := za.mk hc0_2
 clear hr0_2 hc0_2
 have HR1_2 := za.mk hr1_2
 have HC1_2 := za.mk hc1_2
 clear hr1_2 hc1_2
 have HR1_3 := za.mk hr1_3
 have HC1_3 := za.mk hc1_3
 clear hr1_3 hc1_3
 have HB := za.mk (Below.refl w.heap.size w)
 have H : (if (wrap64 (a1_1 - 1)) ≤ a0_1 then (some ([] : List ByteArray)) else ((zR.f k a0_0 a0_1 l0_2 (wrap64 (a1_1 - 1))).bind fun yh => (zx.l0 k yh ([] : List ByteArray) 0 a1_0 a1_1 l1_2 l1_3 a1_4 a1_5))) = some r := h
 clear h
 by_cases c3 : (wrap64 (a1_1 - 1)) ≤ a0_1
 ·rw [if_pos c3] at H
  have c3b0 : decide ((wrap64 (a1_1 - 1)) ≤ a0_1) = true := decide_eq_true c3
  clear c3
  obtain rfl := Option.some.inj H
  go_enter Tryz.func23,Tryz.ntmps23
  go_wp2_with (first | ((with_reducible refine zq (N := 2) rfl ?_);refine zn rfl (N := 2) rfl (cs := #[.int .i64 a0_0,.int .i64 a0_1,.slice A0_2 l0_2.length c0_2]) (t := 26) hrq ?_;intro ye hg w4 hbox hb;have n_ := haq (ze hBq hb) <| haq (hbox) <| haq ((by rw [hg];exact (zh hBq) : w.heap.size ≤ ye)) <| haq ((by rw [hg];exact (zh hBq) : w.heap.size ≤ ye)) <| trivial;clear HB;obtain ⟨HB,ya,yp,yi,_⟩ := n_;clear hb hbox hg) | ((with_reducible refine zq (N := 3) rfl ?_);refine zn rfl (N := 3) rfl (cs := #[.int .i64 a1_0,.int .i64 a1_1,.slice A1_2 l1_2.length c1_2,.slice A1_3 l1_3.length c1_3,.int .i64 a1_4,.int .i64 a1_5]) (t := 35) hrq ?_;intro yf hg w5 hbox hb;have n_ := haq (hbq ya.out hb) <| haq (ze hCq hb) <| haq (hbox) <| haq ((by rw [hg];exact (zh hCq) : w.heap.size ≤ yf)) <| haq ((by rw [hg];exact (zh hCq) : w.heap.size ≤ yf)) <| haq (hnq hg ya.out) <| haq (hmq hg ya.out) <| trivial;clear ya HB;obtain ⟨ya,HB,yb,yq,yj,yc,yd,_⟩ := n_;clear hb hbox hg;have hnb6 := yd.out;have hnc6 := yc.out;obtain ⟨hcz7_0,hcz7_1,hcz7_2,hcz7_3,hcz7_4,hcz7_5,hfz7_0,hfz7_1,hfz7_2,hfz7_3,hfz7_4,hfz7_5⟩ := hcq6 yb.out;obtain ⟨hcz8_0,hcz8_1,hcz8_2,hfz8_0,hfz8_1,hfz8_2⟩ := hcq3 ya.out))
  repeat (go_quiet (first | ((with_reducible refine zq (N := 2) rfl ?_);refine zn rfl (N := 2) rfl (cs := #[.int .i64 a0_0,.int .i64 a0_1,.slice A0_2 l0_2.length c0_2]) (t := 26) hrq ?_;intro ye hg w4 hbox hb;have n_ := haq (ze hBq hb) <| haq (hbox) <| haq ((by rw [hg];exact (zh hBq) : w.heap.size ≤ ye)) <| haq ((by rw [hg];exact (zh hBq) : w.heap.size ≤ ye)) <| trivial;clear HB;obtain ⟨HB,ya,yp,yi,_⟩ := n_;clear hb hbox hg) | ((with_reducible refine zq (N := 3) rfl ?_);refine zn rfl (N := 3) rfl (cs := #[.int .i64 a1_0,.int .i64 a1_1,.slice A1_2 l1_2.length c1_2,.slice A1_3 l1_3.length c1_3,.int .i64 a1_4,.int .i64 a1_5]) (t := 35) hrq ?_;intro yf hg w5 hbox hb;have n_ := haq (hbq ya.out hb) <| haq (ze hCq hb) <| haq (hbox) <| haq ((by rw [hg];exact (zh hCq) : w.heap.size ≤ yf)) <| haq ((by rw [hg];exact (zh hCq) : w.heap.size ≤ yf)) <| haq (hnq hg ya.out) <| haq (hmq hg ya.out) <| trivial;clear ya HB;obtain ⟨ya,HB,yb,yq,yj,yc,yd,_⟩ := n_;clear hb hbox hg;have hnb6 := yd.out;have hnc6 := yc.out;obtain ⟨hcz7_0,hcz7_1,hcz7_2,hcz7_3,hcz7_4,hcz7_5,hfz7_0,hfz7_1,hfz7_2,hfz7_3,hfz7_4,hfz7_5⟩ := hcq6 yb.out;obtain ⟨hcz8_0,hcz8_1,hcz8_2,hfz8_0,hfz8_1,hfz8_2⟩ := hcq3 ya.out));try go_wp2_with (first | ((with_reducible refine zq (N := 2) rfl ?_);refine zn rfl (N := 2) rfl (cs := #[.int .i64 a0_0,.int .i64 a0_1,.slice A0_2 l0_2.length c0_2]) (t := 26) hrq ?_;intro ye hg w4 hbox hb;have n_ := haq (ze hBq hb) <| haq (hbox) <| haq ((by rw [hg];exact (zh hBq) : w.heap.size ≤ ye)) <| haq ((by rw [hg];exact (zh hBq) : w.heap.size ≤ ye)) <| trivial;clear HB;obtain ⟨HB,ya,yp,yi,_⟩ := n_;clear hb hbox hg) | ((with_reducible refine zq (N := 3) rfl ?_);refine zn rfl (N := 3) rfl (cs := #[.int .i64 a1_0,.int .i64 a1_1,.slice A1_2 l1_2.length c1_2,.slice A1_3 l1_3.length c1_3,.int .i64 a1_4,.int .i64 a1_5]) (t := 35) hrq ?_;intro yf hg w5 hbox hb;have n_ := haq (hbq ya.out hb) <| haq (ze hCq hb) <| haq (hbox) <| haq ((by rw [hg];exact (zh hCq) : w.heap.size ≤ yf)) <| haq ((by rw [hg];exact (zh hCq) : w.heap.size ≤ yf)) <| haq (hnq hg ya.out) <| haq (hmq hg ya.out) <| trivial;clear ya HB;obtain ⟨ya,HB,yb,yq,yj,yc,yd,_⟩ := n_;clear hb hbox hg;have hnb6 := yd.out;have hnc6 := yc.out;obtain ⟨hcz7_0,hcz7_1,hcz7_2,hcz7_3,hcz7_4,hcz7_5,hfz7_0,hfz7_1,hfz7_2,hfz7_3,hfz7_4,hfz7_5⟩ := hcq6 yb.out;obtain ⟨hcz8_0,hcz8_1,hcz8_2,hfz8_0,hfz8_1,hfz8_2⟩ := hcq3 ya.out)))
  go_ret
  exact ⟨_,hHq,by first | exact Kd.R_nil _ _ _ _ _ | exact Kd.N_nil _ _ _ _ _ | exact Kd.V_nil _ _ _ _ _ | exact Kd.Q_nil _ _ _ _ _ | exact Kd.S_nil _ _ _ _ _,hCq⟩
 ·rw [if_neg c3] at H
  have c3b0 : decide ((wrap64 (a1_1 - 1)) ≤ a0_1) = false := decide_eq_false c3
  clear c3
  replace H := Option.bind_eq_some_iff.mp H
  obtain ⟨yh,A90,H⟩ := H
  replace H : (zx.l0 k yh ([] : List ByteArray) 0 a1_0 a1_1 l1_2 l1_3 a1_4 a1_5) = some r := H
  have A9 := za.mk A90
  clear A90
  have H' := za.mk H
  clear H
  go_enter Tryz.func23,Tryz.ntmps23
  go_wp2_with (first | ((with_reducible refine zq (N := 2) rfl ?_);refine zn rfl (N := 2) rfl (cs := #[.int .i64 a0_0,.int .i64 a0_1,.slice A0_2 l0_2.length c0_2]) (t := 26) hrq ?_;intro ye hg w10 hbox hb;have n_ := haq (ze hBq hb) <| haq (hbox) <| haq ((by rw [hg];exact (zh hBq) : w.heap.size ≤ ye)) <| haq ((by rw [hg];exact (zh hBq) : w.heap.size ≤ ye)) <| trivial;clear HB;obtain ⟨HB,ya,yp,yi,_⟩ := n_;clear hb hbox hg) | ((with_reducible refine zq (N := 3) rfl ?_);refine zn rfl (N := 3) rfl (cs := #[.int .i64 a1_0,.int .i64 a1_1,.slice A1_2 l1_2.length c1_2,.slice A1_3 l1_3.length c1_3,.int .i64 a1_4,.int .i64 a1_5]) (t := 35) hrq ?_;intro yf hg w11 hbox hb;have n_ := haq (hbq ya.out hb) <| haq (ze hCq hb) <| haq (hbox) <| haq ((by rw [hg];exact (zh hCq) : w.heap.size ≤ yf)) <| haq ((by rw [hg];exact (zh hCq) : w.heap.size ≤ yf)) <| haq (hnq hg ya.out) <| haq (hmq hg ya.out) <| trivial;clear ya HB;obtain ⟨ya,HB,yb,yq,yj,yc,yd,_⟩ := n_;clear hb hbox hg;have hnb12 := yd.out;have hnc12 := yc.out;obtain ⟨hcz13_0,hcz13_1,hcz13_2,hcz13_3,hcz13_4,hcz13_5,hfz13_0,hfz13_1,hfz13_2,hfz13_3,hfz13_4,hfz13_5⟩ := hcq6 yb.out;obtain ⟨hcz14_0,hcz14_1,hcz14_2,hfz14_0,hfz14_1,hfz14_2⟩ := hcq3 ya.out) | (go_at_call 41;(with_reducible refine (zR.calls k a0_0 a0_1 (fun k_ => k_ < w.heap.size) _ _ l0_2 (wrap64 (a1_1 - 1)) yh _ ?side1 A9.out).mono ?_);(case side1 => exact Kd.V_mk HC0_2.out (Kd.F_below (Kd.C_F zdx HR0_2.out) hCq));rintro e w15 ⟨yO,rfl,ho0,hb⟩;have n_ := haq (Kd.N_lower (Kd.N_mono (ok' := fun k_ => k_ ≠ ye ∧ k_ ≠ yf) ho0 (fun k_ hk_ => ⟨Or.elim hk_ (fun hs_ => fun e_ => Nat.not_le.2 hs_ (by rw [e_];exact yp.out)) (fun hn_ => (Kd.freshB (g := ye) (o := .cells #[.int .i64 a0_0,.int .i64 a0_1,.slice A0_2 l0_2.length c0_2] 26 (0,0)) (hGq ya.out) k_ hn_)),Or.elim hk_ (fun hs_ => fun e_ => Nat.not_le.2 hs_ (by rw [e_];exact yq.out)) (fun hn_ => (Kd.freshB (g := yf) (o := .cells #[.int .i64 a1_0,.int .i64 a1_1,.slice A1_2 l1_2.length c1_2,.slice A1_3 l1_3.length c1_3,.int .i64 a1_4,.int .i64 a1_5] 35 (0,0)) (hGq yb.out) k_ hn_))⟩)) (zh hCq)) <| haq (hbq ya.out hb) <| haq (hbq yb.out hb) <| haq (ze hCq hb) <| trivial;clear ya yb HB;obtain ⟨yG,ya,yb,HB,_⟩ := n_;(try clear hb);(try clear hb2);(try clear hk);(try clear hi);(try clear ho0)))
  repeat (go_quiet (first | ((with_reducible refine zq (N := 2) rfl ?_);refine zn rfl (N := 2) rfl (cs := #[.int .i64 a0_0,.int .i64 a0_1,.slice A0_2 l0_2.length c0_2]) (t := 26) hrq ?_;intro ye hg w10 hbox hb;have n_ := haq (ze hBq hb) <| haq (hbox) <| haq ((by rw [hg];exact (zh hBq) : w.heap.size ≤ ye)) <| haq ((by rw [hg];exact (zh hBq) : w.heap.size ≤ ye)) <| trivial;clear HB;obtain ⟨HB,ya,yp,yi,_⟩ := n_;clear hb hbox hg) | ((with_reducible refine zq (N := 3) rfl ?_);refine zn rfl (N := 3) rfl (cs := #[.int .i64 a1_0,.int .i64 a1_1,.slice A1_2 l1_2.length c1_2,.slice A1_3 l1_3.length c1_3,.int .i64 a1_4,.int .i64 a1_5]) (t := 35) hrq ?_;intro yf hg w11 hbox hb;have n_ := haq (hbq ya.out hb) <| haq (ze hCq hb) <| haq (hbox) <| haq ((by rw [hg];exact (zh hCq) : w.heap.size ≤ yf)) <| haq ((by rw [hg];exact (zh hCq) : w.heap.size ≤ yf)) <| haq (hnq hg ya.out) <| haq (hmq hg ya.out) <| trivial;clear ya HB;obtain ⟨ya,HB,yb,yq,yj,yc,yd,_⟩ := n_;clear hb hbox hg;have hnb12 := yd.out;have hnc12 := yc.out;obtain ⟨hcz13_0,hcz13_1,hcz13_2,hcz13_3,hcz13_4,hcz13_5,hfz13_0,hfz13_1,hfz13_2,hfz13_3,hfz13_4,hfz13_5⟩ := hcq6 yb.out;obtain ⟨hcz14_0,hcz14_1,hcz14_2,hfz14_0,hfz14_1,hfz14_2⟩ := hcq3 ya.out) | (go_at_call 41;(with_reducible refine (zR.calls k a0_0 a0_1 (fun k_ => k_ < w.heap.size) _ _ l0_2 (wrap64 (a1_1 - 1)) yh _ ?side1 A9.out).mono ?_);(case side1 => exact Kd.V_mk HC0_2.out (Kd.F_below (Kd.C_F zdx HR0_2.out) hCq));rintro e w15 ⟨yO,rfl,ho0,hb⟩;have n_ := haq (Kd.N_lower (Kd.N_mono (ok' := fun k_ => k_ ≠ ye ∧ k_ ≠ yf) ho0 (fun k_ hk_ => ⟨Or.elim hk_ (fun hs_ => fun e_ => Nat.not_le.2 hs_ (by rw [e_];exact yp.out)) (fun hn_ => (Kd.freshB (g := ye) (o := .cells #[.int .i64 a0_0,.int .i64 a0_1,.slice A0_2 l0_2.length c0_2] 26 (0,0)) (hGq ya.out) k_ hn_)),Or.elim hk_ (fun hs_ => fun e_ => Nat.not_le.2 hs_ (by rw [e_];exact yq.out)) (fun hn_ => (Kd.freshB (g := yf) (o := .cells #[.int .i64 a1_0,.int .i64 a1_1,.slice A1_2 l1_2.length c1_2,.slice A1_3 l1_3.length c1_3,.int .i64 a1_4,.int .i64 a1_5] 35 (0,0)) (hGq yb.out) k_ hn_))⟩)) (zh hCq)) <| haq (hbq ya.out hb) <| haq (hbq yb.out hb) <| haq (ze hCq hb) <| trivial;clear ya yb HB;obtain ⟨yG,ya,yb,HB,_⟩ := n_;(try clear hb);(try clear hb2);(try clear hk);(try clear hi);(try clear ho0)));try go_wp2_with (first | ((with_reducible refine zq (N := 2) rfl ?_);refine zn rfl (N := 2) rfl (cs := #[.int .i64 a0_0,.int .i64 a0_1,.slice A0_2 l0_2.length c0_2]) (t := 26) hrq ?_;intro ye hg w10 hbox hb;have n_ := haq (ze hBq hb) <| haq (hbox) <| haq ((by rw [hg];exact (zh hBq) : w.heap.size ≤ ye)) <| haq ((by rw [hg];exact (zh hBq) : w.heap.size ≤ ye)) <| trivial;clear HB;obtain ⟨HB,ya,yp,yi,_⟩ := n_;clear hb hbox hg) | ((with_reducible refine zq (N := 3) rfl ?_);refine zn rfl (N := 3) rfl (cs := #[.int .i64 a1_0,.int .i64 a1_1,.slice A1_2 l1_2.length c1_2,.slice A1_3 l1_3.length c1_3,.int .i64 a1_4,.int .i64 a1_5]) (t := 35) hrq ?_;intro yf hg w11 hbox hb;have n_ := haq (hbq ya.out hb) <| haq (ze hCq hb) <| haq (hbox) <| haq ((by rw [hg];exact (zh hCq) : w.heap.size ≤ yf)) <| haq ((by rw [hg];exact (zh hCq) : w.heap.size ≤ yf)) <| haq (hnq hg ya.out) <| haq (hmq hg ya.out) <| trivial;clear ya HB;obtain ⟨ya,HB,yb,yq,yj,yc,yd,_⟩ := n_;clear hb hbox hg;have hnb12 := yd.out;have hnc12 := yc.out;obtain ⟨hcz13_0,hcz13_1,hcz13_2,hcz13_3,hcz13_4,hcz13_5,hfz13_0,hfz13_1,hfz13_2,hfz13_3,hfz13_4,hfz13_5⟩ := hcq6 yb.out;obtain ⟨hcz14_0,hcz14_1,hcz14_2,hfz14_0,hfz14_1,hfz14_2⟩ := hcq3 ya.out) | (go_at_call 41;(with_reducible refine (zR.calls k a0_0 a0_1 (fun k_ => k_ < w.heap.size) _ _ l0_2 (wrap64 (a1_1 - 1)) yh _ ?side1 A9.out).mono ?_);(case side1 => exact Kd.V_mk HC0_2.out (Kd.F_below (Kd.C_F zdx HR0_2.out) hCq));rintro e w15 ⟨yO,rfl,ho0,hb⟩;have n_ := haq (Kd.N_lower (Kd.N_mono (ok' := fun k_ => k_ ≠ ye ∧ k_ ≠ yf) ho0 (fun k_ hk_ => ⟨Or.elim hk_ (fun hs_ => fun e_ => Nat.not_le.2 hs_ (by rw [e_];exact yp.out)) (fun hn_ => (Kd.freshB (g := ye) (o := .cells #[.int .i64 a0_0,.int .i64 a0_1,.slice A0_2 l0_2.length c0_2] 26 (0,0)) (hGq ya.out) k_ hn_)),Or.elim hk_ (fun hs_ => fun e_ => Nat.not_le.2 hs_ (by rw [e_];exact yq.out)) (fun hn_ => (Kd.freshB (g := yf) (o := .cells #[.int .i64 a1_0,.int .i64 a1_1,.slice A1_2 l1_2.length c1_2,.slice A1_3 l1_3.length c1_3,.int .i64 a1_4,.int .i64 a1_5] 35 (0,0)) (hGq yb.out) k_ hn_))⟩)) (zh hCq)) <| haq (hbq ya.out hb) <| haq (hbq yb.out hb) <| haq (ze hCq hb) <| trivial;clear ya yb HB;obtain ⟨yG,ya,yb,HB,_⟩ := n_;(try clear hb);(try clear hb2);(try clear hk);(try clear hi);(try clear ho0))))
  go_loopg [6,7] k (fun kq v6 v7 w' => ∃ (x6_1 : List ByteArray) (x7_1 : Int),v7 = .int .i64 x7_1 ∧ za (zx.l0 kq yh x6_1 x7_1 a1_0 a1_1 l1_2 l1_3 a1_4 a1_5 = some r) ∧ za (kq ≤ k) ∧ za (Kd.N k39 39 w' w.heap.size (fun k_ => some k_ ≠ (v6 : Value).ownBlock ∧ k_ ≠ ye ∧ k_ ≠ yf) yO yh) ∧ za (Kd.R Kd.string 9 w' w.heap.size (fun _ => True) v6 x6_1) ∧ za (w'.heap[ye]? = some (.cells #[.int .i64 a0_0,.int .i64 a0_1,(.slice A0_2 l0_2.length c0_2)] 26 (0,0))) ∧ za (w'.heap[yf]? = some (.cells #[.int .i64 a1_0,.int .i64 a1_1,(.slice A1_2 l1_2.length c1_2),(.slice A1_3 l1_3.length c1_3),.int .i64 a1_4,.int .i64 a1_5] 35 (0,0))) ∧ za (Below w.heap.size w w'))
  case atStart => exact ⟨(([] : List ByteArray)),(0),(hDq),H',⟨Nat.le_refl _⟩,⟨by (with_reducible repeat (first | apply Kd.N_alloc | apply Kd.N_drewN | apply Kd.N_drew));exact Kd.N_mono yG.out (fun _ hk => ⟨(by simp [Value.ownBlock]),⟨hk.1,hk.2⟩⟩)⟩,⟨by first | exact Kd.R_nil _ _ _ _ _ | exact Kd.N_nil _ _ _ _ _ | exact Kd.V_nil _ _ _ _ _ | exact Kd.Q_nil _ _ _ _ _ | exact Kd.S_nil _ _ _ _ _⟩,⟨hGq ya.out⟩,⟨hGq yb.out⟩,⟨by repeat (first | (with_reducible first | exact HB.out | apply zl | apply zi | apply zp | refine zm ?_ yi.out | refine zm ?_ yj.out) | exact HB.out)⟩⟩
  case round =>
   clear H'
   try clear c1;try clear c2;try clear p2;try clear c3;try clear c3b0;try clear c6;try clear p6;try clear c12;try clear hcz13_0;try clear hcz13_1;try clear hcz13_2;try clear hcz13_3;try clear hcz13_4;try clear hcz13_5;try clear hcz14_0;try clear hcz14_1;try clear hcz14_2;try clear hcz7_0;try clear hcz7_1;try clear hcz7_2;try clear hcz7_3;try clear hcz7_4;try clear hcz7_5;try clear hcz8_0;try clear hcz8_1;try clear hcz8_2;try clear hfz13_0;try clear hfz13_1;try clear hfz13_2;try clear hfz13_3;try clear hfz13_4;try clear hfz13_5;try clear hfz14_0;try clear hfz14_1;try clear hfz14_2;try clear hfz7_0;try clear hfz7_1;try clear hfz7_2;try clear hfz7_3;try clear hfz7_4;try clear hfz7_5;try clear hfz8_0;try clear hfz8_1;try clear hfz8_2
   obtain ⟨x6_1,x7_1,rfl,HA,HK1,HO_5,HO_6,ya,yb,HB⟩ := hrel
   cases gk with
   | zero => exact absurd HA.out (by simp [zx.l0])
   | succ k1 =>
    have H := HA.out
    clear HA
    simp only [zx.l0] at H
    by_cases c16 : x7_1 < (l1_3.length : Int)
    ·rw [if_pos c16] at H
     have c16b0 : decide (x7_1 < (l1_3.length : Int)) = true := decide_eq_true c16
     clear c16
     have H' := za.mk H
     clear H
     have hnb17 := yd.out
     have hnc17 := yc.out
     obtain ⟨hcz18_0,hcz18_1,hcz18_2,hcz18_3,hcz18_4,hcz18_5,hfz18_0,hfz18_1,hfz18_2,hfz18_3,hfz18_4,hfz18_5⟩ := hcq6 yb.out
     go_wp2
     repeat (go_quiet (fail);try go_wp2)
     go_loopg [8,9] k1 (fun kq v8 v9 w' => ∃ (x8_2 : Bool) (x9_2 : Int),v8 = .bool x8_2 ∧ v9 = .int .i64 x9_2 ∧ za (zx.l1 kq yh x6_1 x7_1 x8_2 x9_2 a1_0 a1_1 l1_2 l1_3 a1_4 a1_5 = some r) ∧ za (kq ≤ k1) ∧ za (Kd.N k39 39 w' w.heap.size (fun k_ => some k_ ≠ (u6 : Value).ownBlock ∧ k_ ≠ ye ∧ k_ ≠ yf) yO yh) ∧ za (Kd.R Kd.string 9 w' w.heap.size (fun _ => True) u6 x6_1) ∧ za (w'.heap[ye]? = some (.cells #[.int .i64 a0_0,.int .i64 a0_1,(.slice A0_2 l0_2.length c0_2)] 26 (0,0))) ∧ za (w'.heap[yf]? = some (.cells #[.int .i64 a1_0,.int .i64 a1_1,(.slice A1_2 l1_2.length c1_2),(.slice A1_3 l1_3.length c1_3),.int .i64 a1_4,.int .i64 a1_5] 35 (0,0))) ∧ za (Below w.heap.size w w'))
     case atStart => exact ⟨(false),(0),(hDq),(hDq),H',⟨Nat.le_refl _⟩,⟨by (with_reducible repeat (first | apply Kd.N_alloc | apply Kd.N_drewN | apply Kd.N_drew));exact HO_5.out⟩,⟨by (with_reducible repeat (first | apply Kd.R_alloc | apply Kd.R_drewN | apply Kd.R_drew));exact HO_6.out⟩,⟨hGq ya.out⟩,⟨hGq yb.out⟩,⟨by repeat (first | (with_reducible first | exact HB.out | apply zl | apply zi | apply zp | refine zm ?_ yi.out | refine zm ?_ yj.out) | exact HB.out)⟩⟩
     case round =>
      clear H'
      try clear c1;try clear c2;try clear p2;try clear c3;try clear c3b0;try clear c6;try clear p6;try clear c12;try clear c16;try clear c16b0;try clear c17;try clear hcz13_0;try clear hcz13_1;try clear hcz13_2;try clear hcz13_3;try clear hcz13_4;try clear hcz13_5;try clear hcz14_0;try clear hcz14_1;try clear hcz14_2;try clear hcz18_0;try clear hcz18_1;try clear hcz18_2;try clear hcz18_3;try clear hcz18_4;try clear hcz18_5;try clear hcz7_0;try clear hcz7_1;try clear hcz7_2;try clear hcz7_3;try clear hcz7_4;try clear hcz7_5;try clear hcz8_0;try clear hcz8_1;try clear hcz8_2;try clear hfz13_0;try clear hfz13_1;try clear hfz13_2;try clear hfz13_3;try clear hfz13_4;try clear hfz13_5;try clear hfz14_0;try clear hfz14_1;try clear hfz14_2;try clear hfz18_0;try clear hfz18_1;try clear hfz18_2;try clear hfz18_3;try clear hfz18_4;try clear hfz18_5;try clear hfz7_0;try clear hfz7_1;try clear hfz7_2;try clear hfz7_3;try clear hfz7_4;try clear hfz7_5;try clear hfz8_0;try clear hfz8_1;try clear hfz8_2;try clear p2;try clear p6
      obtain ⟨x8_2,x9_2,rfl,rfl,HA,HK2,HO_5,HO_6,ya,yb,HB⟩ := hrel
      cases gk with
      | zero => exact absurd HA.out (by simp [zx.l1])
      | succ k2 =>
       have H := HA.out
       clear HA
       simp only [zx.l1] at H
       by_cases c19 : x9_2 < (yh.length : Int)
       ·rw [if_pos c19] at H
        have c19b0 : decide (x9_2 < (yh.length : Int)) = true := decide_eq_true c19
        clear c19
        by_cases c20 : x8_2 = true
        ·subst c20
         have H1 : (zx.l1 k2 yh x6_1 x7_1 true (wrap64 (x9_2 + 1)) a1_0 a1_1 l1_2 l1_3 a1_4 a1_5) = some r := by rw [if_pos rfl] at H;exact H
         clear H
         have H := H1
         clear H1
         have H' := za.mk H
         clear H
         obtain ⟨Ao21,co21,eo21⟩ := Kd.N_slice HO_5.out
         subst eo21
         go_wp2
         repeat (go_quiet (fail);try go_wp2)
         go_roundg k2
         case measure => have := HK1.out;have := HK2.out;omega
         case rel => exact ⟨(true),(wrap64 (x9_2 + 1)),(hDq),(hDq),H',⟨by have := HK1.out;have := HK2.out;omega⟩,⟨by (with_reducible repeat (first | apply Kd.N_alloc | apply Kd.N_drewN | apply Kd.N_drew));exact HO_5.out⟩,⟨by (with_reducible repeat (first | apply Kd.R_alloc | apply Kd.R_drewN | apply Kd.R_drew));exact HO_6.out⟩,⟨hGq ya.out⟩,⟨hGq yb.out⟩,⟨by repeat (first | (with_reducible first | exact HB.out | apply zl | apply zi | apply zp | refine zm ?_ yi.out | refine zm ?_ yj.out) | exact HB.out)⟩⟩
        ·replace c20 := Bool.eq_false_iff.mpr c20
         subst c20
         have H1 : (if 0 ≤ x9_2 then (if 0 ≤ x7_1 then (if x7_1 < (l1_3.length : Int) then (zx.l1 k2 yh x6_1 x7_1 (((zd yh x9_2).f0).toList == (zz ByteArray.empty l1_3 x7_1).toList) (wrap64 (x9_2 + 1)) a1_0 a1_1 l1_2 l1_3 a1_4 a1_5) else (none)) else (none)) else (none)) = some r := by rw [if_neg (show ¬ (false = true) by decide)] at H;exact H
         clear H
         have H := H1
         clear H1
         by_cases c22 : 0 ≤ x9_2
         ·rw [if_pos c22] at H
          have c22b0 : decide (0 ≤ x9_2) = true := decide_eq_true c22
          clear c22
          by_cases c23 : 0 ≤ x7_1
          ·rw [if_pos c23] at H
           have c23b0 : decide (0 ≤ x7_1) = true := decide_eq_true c23
           clear c23
           by_cases c24 : x7_1 < (l1_3.length : Int)
           ·rw [if_pos c24] at H
            have c24b0 : decide (x7_1 < (l1_3.length : Int)) = true := decide_eq_true c24
            clear c24
            have H' := za.mk H
            clear H
            obtain ⟨Ao25,co25,eo25⟩ := Kd.N_slice HO_5.out
            subst eo25
            have yM : 0 ≤ (x9_2 : Int) := hFq
            have yN : x9_2 < (yh.length : Int) := hFq
            obtain ⟨Yr,Yk,Ym,Yl,Yn,Yo,Yb,Yc,Yd,yK,yL,Ye,Yf,yE,yC,yF,yD⟩ := zbe (Kd.N_reads' HO_5.out).2.2 x9_2 yM yN
            cases Yo
            obtain ⟨Yt,yQ,yP,yB⟩ := Kd.N_get HO_5.out z39 x9_2 yM (by first | exact yN | exact hFq | (have e_ := (Kd.N_reads' HO_5.out).1;omega))
            obtain ⟨Yg,Yi,Yh,Yj,rfl,yy,yu,yz,yv⟩ := zaN yP
            have yr := yB 3 _ rfl
            rw [zM _ _ 3 (by omega)] at yr
            replace yr := Option.some.inj (yr.symm.trans yK)
            injection yr with hva_ hvn_ hvc_
            rw [hva_] at yu
            rw [hvc_] at yy
            have yZ := za.mk (show Kd.V k75 75 _ w.heap.size _ _ ((zd yh x9_2).f1.f2) from Kd.V_mk yy yu)
            clear hva_ hvn_ hvc_ yu yy
            have yt := yB 4 _ rfl
            rw [zM _ _ 4 (by omega)] at yt
            replace yt := Option.some.inj (yt.symm.trans yL)
            injection yt with hva_ hvn_ hvc_
            rw [hva_] at yv
            rw [hvc_] at yz
            have y8 := za.mk (show Kd.V Kd.string 9 _ w.heap.size _ _ ((zd yh x9_2).f1.f3) from Kd.V_mk yz yv)
            clear hva_ hvn_ hvc_ yv yz
            clear yB yQ
            have y9 := za.mk yC
            have yX := za.mk yE
            clear yC yE
            have Ya := za.mk yD
            have yY := za.mk yF
            clear yD yF
            replace yM := eq_true yM
            replace yN := eq_true yN
            have hnb26 := yd.out
            have hnc26 := yc.out
            obtain ⟨hcz27_0,hcz27_1,hcz27_2,hcz27_3,hcz27_4,hcz27_5,hfz27_0,hfz27_1,hfz27_2,hfz27_3,hfz27_4,hfz27_5⟩ := hcq6 yb.out
            have yR : 0 ≤ (x7_1 : Int) := hFq
            have yT : x7_1 < (l1_3.length : Int) := hFq
            obtain ⟨Ys,Yp,yw⟩ := Kd.at_string HR1_3.out x7_1 yR yT
            cases Yp
            replace yw := (HB.out.cell (World.block_lt_of_cell? w _ yw)).trans yw
            replace yR := eq_true yR
            replace yT := eq_true yT
            go_wp2
            repeat (go_quiet (fail);try go_wp2)
            go_roundg k2
            case measure => have := HK1.out;have := HK2.out;omega
            case rel => exact ⟨((((zd yh x9_2).f0).toList == (zz ByteArray.empty l1_3 x7_1).toList)),(wrap64 (x9_2 + 1)),(hDq),(hDq),H',⟨by have := HK1.out;have := HK2.out;omega⟩,⟨by (with_reducible repeat (first | apply Kd.N_alloc | apply Kd.N_drewN | apply Kd.N_drew));exact HO_5.out⟩,⟨by (with_reducible repeat (first | apply Kd.R_alloc | apply Kd.R_drewN | apply Kd.R_drew));exact HO_6.out⟩,⟨hGq ya.out⟩,⟨hGq yb.out⟩,⟨by repeat (first | (with_reducible first | exact HB.out | apply zl | apply zi | apply zp | refine zm ?_ yi.out | refine zm ?_ yj.out) | exact HB.out)⟩⟩
           ·rw [if_neg c24] at H
            exact absurd H (by simp)
          ·rw [if_neg c23] at H
           exact absurd H (by simp)
         ·rw [if_neg c22] at H
          exact absurd H (by simp)
       ·rw [if_neg c19] at H
        have c19b0 : decide (x9_2 < (yh.length : Int)) = false := decide_eq_false c19
        clear c19
        by_cases c28 : x8_2 = true
        ·subst c28
         have H1 : (zx.l0 k2 yh x6_1 (wrap64 (x7_1 + 1)) a1_0 a1_1 l1_2 l1_3 a1_4 a1_5) = some r := by rw [if_pos rfl] at H;exact H
         clear H
         have H := H1
         clear H1
         have H' := za.mk H
         clear H
         obtain ⟨Ao29,co29,eo29⟩ := Kd.N_slice HO_5.out
         subst eo29
         go_wp2
         repeat (go_quiet (fail);try go_wp2)
         go_roundg k2
         case measure => have := HK1.out;have := HK2.out;omega
         case rel => exact ⟨(x6_1),(wrap64 (x7_1 + 1)),(hDq),H',⟨by have := HK1.out;have := HK2.out;omega⟩,⟨by (with_reducible repeat (first | apply Kd.N_alloc | apply Kd.N_drewN | apply Kd.N_drew));exact HO_5.out⟩,⟨by (with_reducible repeat (first | apply Kd.R_alloc | apply Kd.R_drewN | apply Kd.R_drew));exact HO_6.out⟩,⟨hGq ya.out⟩,⟨hGq yb.out⟩,⟨by repeat (first | (with_reducible first | exact HB.out | apply zl | apply zi | apply zp | refine zm ?_ yi.out | refine zm ?_ yj.out) | exact HB.out)⟩⟩
        ·replace c28 := Bool.eq_false_iff.mpr c28
         subst c28
         have H1 : (if 0 ≤ x7_1 then (if x7_1 < (l1_3.length : Int) then (if x6_1.length < 8796093022208 then (zx.l0 k2 yh (x6_1 ++ [zz ByteArray.empty l1_3 x7_1]) (wrap64 (x7_1 + 1)) a1_0 a1_1 l1_2 l1_3 a1_4 a1_5) else (none)) else (none)) else (none)) = some r := by rw [if_neg (show ¬ (false = true) by decide)] at H;exact H
         clear H
         have H := H1
         clear H1
         by_cases c30 : 0 ≤ x7_1
         ·rw [if_pos c30] at H
          have c30b0 : decide (0 ≤ x7_1) = true := decide_eq_true c30
          clear c30
          by_cases c31 : x7_1 < (l1_3.length : Int)
          ·rw [if_pos c31] at H
           have c31b0 : decide (x7_1 < (l1_3.length : Int)) = true := decide_eq_true c31
           clear c31
           by_cases c32 : x6_1.length < 8796093022208
           ·rw [if_pos c32] at H
            have LMc32 := za.mk c32
            clear c32
            obtain ⟨yW,yA⟩ : ∃ y_ : List ByteArray,y_ = (x6_1 ++ [zz ByteArray.empty l1_3 x7_1]) := ⟨_,rfl⟩
            replace H : (zx.l0 k2 yh yW (wrap64 (x7_1 + 1)) a1_0 a1_1 l1_2 l1_3 a1_4 a1_5) = some r := by first | (rw [yA];with_reducible exact H) | (have H2_ := (Option.bind_some _ _).symm.trans H;rw [yA];with_reducible exact H2_) | (have H2_ := (Option.bind_some _ _).symm.trans H;with_reducible exact H2_) | with_reducible exact H | (rw [yA];exact H) | exact H
            have yI := za.mk yA
            clear yA
            have H' := za.mk H
            clear H
            obtain ⟨Ao33,co33,eo33⟩ := Kd.N_slice HO_5.out
            subst eo33
            have hnb34 := yd.out
            have hnc34 := yc.out
            obtain ⟨hcz35_0,hcz35_1,hcz35_2,hcz35_3,hcz35_4,hcz35_5,hfz35_0,hfz35_1,hfz35_2,hfz35_3,hfz35_4,hfz35_5⟩ := hcq6 yb.out
            have yS : 0 ≤ (x7_1 : Int) := hFq
            have yU : x7_1 < (l1_3.length : Int) := hFq
            obtain ⟨yJ,Yq,yx⟩ := Kd.at_string HR1_3.out x7_1 yS yU
            cases Yq
            replace yx := (HB.out.cell (World.block_lt_of_cell? w _ yx)).trans yx
            replace yS := eq_true yS
            replace yU := eq_true yU
            go_wp2_with (first | ((with_reducible refine zby (b := .append) (xs := #[.tmp 50,.tmp 56]) rfl ?_);at_builtin;refine Kd.R_append Kd.string (w0 := w) w.heap.size rfl (.tmp 50) (.tmp 56) 31 9 (.string ⟨#[]⟩) 16 rfl Tryz.underlying31 info9 rfl (by decide) (by omega) u6 x6_1 (zz ByteArray.empty l1_3 x7_1) [.string (zz ByteArray.empty l1_3 x7_1)] (fun _ => True) (fun _ => False) rfl rfl ?aP (fun _ hk => hk.elim) ?aF ?aO ?aB ?aS ?aL ?_;(case aP => exact rfl);(case aB => exact hCq);(case aF => exact (fun _ _ => trivial));(case aO => exact (hRq HO_6.out));(case aS => exact (zh hCq));(case aL => have := LMc32.out;omega);intro yV w36 ho hb hg hat;rw [← yI.out] at ho;have n_ := haq (Kd.N_afterv (ok := (fun k_ => k_ ≠ ye ∧ k_ ≠ yf)) (by (with_reducible repeat (first | apply Kd.N_alloc | apply Kd.N_drewN | apply Kd.N_drew));exact Kd.N_mono HO_5.out (fun _ hk => ⟨⟨hk.2.1,hk.2.2⟩,hk.1⟩)) hg hat) <| haq (zaL (g := ye) (o := .cells #[.int .i64 a0_0,.int .i64 a0_1,.slice A0_2 l0_2.length c0_2] 26 (0,0)) (hGq ya.out) hg (Kd.R_ne HO_6.out ya.out (by decide))) <| haq (zaL (g := yf) (o := .cells #[.int .i64 a1_0,.int .i64 a1_1,.slice A1_2 l1_2.length c1_2,.slice (some yJ) l1_3.length c1_3,.int .i64 a1_4,.int .i64 a1_5] 35 (0,0)) (hGq yb.out) hg (Kd.R_ne HO_6.out yb.out (by decide))) <| haq (hb) <| haq (ho) <| trivial;clear HO_5 ya yb HB HO_6;obtain ⟨HO_5,ya,yb,HB,yH,_⟩ := n_;clear ho hb hg hat))
            repeat (go_quiet (first | ((with_reducible refine zby (b := .append) (xs := #[.tmp 50,.tmp 56]) rfl ?_);at_builtin;refine Kd.R_append Kd.string (w0 := w) w.heap.size rfl (.tmp 50) (.tmp 56) 31 9 (.string ⟨#[]⟩) 16 rfl Tryz.underlying31 info9 rfl (by decide) (by omega) u6 x6_1 (zz ByteArray.empty l1_3 x7_1) [.string (zz ByteArray.empty l1_3 x7_1)] (fun _ => True) (fun _ => False) rfl rfl ?aP (fun _ hk => hk.elim) ?aF ?aO ?aB ?aS ?aL ?_;(case aP => exact rfl);(case aB => exact hCq);(case aF => exact (fun _ _ => trivial));(case aO => exact (hRq HO_6.out));(case aS => exact (zh hCq));(case aL => have := LMc32.out;omega);intro yV w36 ho hb hg hat;rw [← yI.out] at ho;have n_ := haq (Kd.N_afterv (ok := (fun k_ => k_ ≠ ye ∧ k_ ≠ yf)) (by (with_reducible repeat (first | apply Kd.N_alloc | apply Kd.N_drewN | apply Kd.N_drew));exact Kd.N_mono HO_5.out (fun _ hk => ⟨⟨hk.2.1,hk.2.2⟩,hk.1⟩)) hg hat) <| haq (zaL (g := ye) (o := .cells #[.int .i64 a0_0,.int .i64 a0_1,.slice A0_2 l0_2.length c0_2] 26 (0,0)) (hGq ya.out) hg (Kd.R_ne HO_6.out ya.out (by decide))) <| haq (zaL (g := yf) (o := .cells #[.int .i64 a1_0,.int .i64 a1_1,.slice A1_2 l1_2.length c1_2,.slice (some yJ) l1_3.length c1_3,.int .i64 a1_4,.int .i64 a1_5] 35 (0,0)) (hGq yb.out) hg (Kd.R_ne HO_6.out yb.out (by decide))) <| haq (hb) <| haq (ho) <| trivial;clear HO_5 ya yb HB HO_6;obtain ⟨HO_5,ya,yb,HB,yH,_⟩ := n_;clear ho hb hg hat));try go_wp2_with (first | ((with_reducible refine zby (b := .append) (xs := #[.tmp 50,.tmp 56]) rfl ?_);at_builtin;refine Kd.R_append Kd.string (w0 := w) w.heap.size rfl (.tmp 50) (.tmp 56) 31 9 (.string ⟨#[]⟩) 16 rfl Tryz.underlying31 info9 rfl (by decide) (by omega) u6 x6_1 (zz ByteArray.empty l1_3 x7_1) [.string (zz ByteArray.empty l1_3 x7_1)] (fun _ => True) (fun _ => False) rfl rfl ?aP (fun _ hk => hk.elim) ?aF ?aO ?aB ?aS ?aL ?_;(case aP => exact rfl);(case aB => exact hCq);(case aF => exact (fun _ _ => trivial));(case aO => exact (hRq HO_6.out));(case aS => exact (zh hCq));(case aL => have := LMc32.out;omega);intro yV w36 ho hb hg hat;rw [← yI.out] at ho;have n_ := haq (Kd.N_afterv (ok := (fun k_ => k_ ≠ ye ∧ k_ ≠ yf)) (by (with_reducible repeat (first | apply Kd.N_alloc | apply Kd.N_drewN | apply Kd.N_drew));exact Kd.N_mono HO_5.out (fun _ hk => ⟨⟨hk.2.1,hk.2.2⟩,hk.1⟩)) hg hat) <| haq (zaL (g := ye) (o := .cells #[.int .i64 a0_0,.int .i64 a0_1,.slice A0_2 l0_2.length c0_2] 26 (0,0)) (hGq ya.out) hg (Kd.R_ne HO_6.out ya.out (by decide))) <| haq (zaL (g := yf) (o := .cells #[.int .i64 a1_0,.int .i64 a1_1,.slice A1_2 l1_2.length c1_2,.slice (some yJ) l1_3.length c1_3,.int .i64 a1_4,.int .i64 a1_5] 35 (0,0)) (hGq yb.out) hg (Kd.R_ne HO_6.out yb.out (by decide))) <| haq (hb) <| haq (ho) <| trivial;clear HO_5 ya yb HB HO_6;obtain ⟨HO_5,ya,yb,HB,yH,_⟩ := n_;clear ho hb hg hat)))
            go_roundg k2
            case measure => have := HK1.out;have := HK2.out;omega
            case rel => exact ⟨(yW),(wrap64 (x7_1 + 1)),(hDq),H',⟨by have := HK1.out;have := HK2.out;omega⟩,⟨by (with_reducible repeat (first | apply Kd.N_alloc | apply Kd.N_drewN | apply Kd.N_drew));exact Kd.N_mono HO_5.out (fun _ hk => ⟨hk.2,⟨hk.1.1,hk.1.2⟩⟩)⟩,⟨by (with_reducible repeat (first | apply Kd.R_alloc | apply Kd.R_drewN | apply Kd.R_drew));exact yH.out⟩,⟨hGq ya.out⟩,⟨hGq yb.out⟩,⟨by repeat (first | (with_reducible first | exact HB.out | apply zl | apply zi | apply zp | refine zm ?_ yi.out | refine zm ?_ yj.out) | exact HB.out)⟩⟩
           ·rw [if_neg c32] at H
            exact absurd H (by simp)
          ·rw [if_neg c31] at H
           exact absurd H (by simp)
         ·rw [if_neg c30] at H
          exact absurd H (by simp)
    ·rw [if_neg c16] at H
     have c16b0 : decide (x7_1 < (l1_3.length : Int)) = false := decide_eq_false c16
     clear c16
     obtain rfl := Option.some.inj H
     have hnb37 := yd.out
     have hnc37 := yc.out
     obtain ⟨hcz38_0,hcz38_1,hcz38_2,hcz38_3,hcz38_4,hcz38_5,hfz38_0,hfz38_1,hfz38_2,hfz38_3,hfz38_4,hfz38_5⟩ := hcq6 yb.out
     go_wp2
     repeat (go_quiet (fail);try go_wp2)
     go_ret
     exact ⟨_,hHq,by (with_reducible repeat (first | apply Kd.R_alloc | apply Kd.R_drewN | apply Kd.R_drew));exact HO_6.out,hCq⟩
mutual
def zk.j0 : Nat → Bool → Int → Int → List (S39) → Option (Bool)
 | 0,_,_,_,_ => none
 | k + 1,x18,yl,ym,ya => if x18 = true then (some false) else (zk.l0 k 0 yl ym ya)
def zk.l0 : Nat → Int → Int → Int → List (S39) → Option (Bool)
 | 0,_,_,_,_ => none
 | k + 1,x4,yl,ym,ya => if x4 < (ya.length : Int) then (if 0 ≤ x4 then ((zaV.f k ((zd ya x4).f1.f0) ((zd ya x4).f1.f1) ((zd ya x4).f1.f2) ((zd ya x4).f1.f3) ((zd ya x4).f1.f4.f0) ((zd ya x4).f1.f4.f1) yl).bind fun Yu => ((zx.f k yl ym ya ((zd ya x4).f1.f0) ((zd ya x4).f1.f1) ((zd ya x4).f1.f2) ((zd ya x4).f1.f3) ((zd ya x4).f1.f4.f0) ((zd ya x4).f1.f4.f1)).bind fun Yg => (if Yu.2 = 0 then (if Yu.1.toList = ((zd ya x4).f0).toList then (if ((zd ya x4).f1.f1) ≤ ym then (zk.j2 k x4 true yl ym ya ((zd ya x4).f0) ((zd ya x4).f1.f0) ((zd ya x4).f1.f1) ((zd ya x4).f1.f2) ((zd ya x4).f1.f3) ((zd ya x4).f1.f4.f0) ((zd ya x4).f1.f4.f1)) else (zk.j2 k x4 (decide ((Yg.length : Int) > 0)) yl ym ya ((zd ya x4).f0) ((zd ya x4).f1.f0) ((zd ya x4).f1.f1) ((zd ya x4).f1.f2) ((zd ya x4).f1.f3) ((zd ya x4).f1.f4.f0) ((zd ya x4).f1.f4.f1))) else (zk.j2 k x4 true yl ym ya ((zd ya x4).f0) ((zd ya x4).f1.f0) ((zd ya x4).f1.f1) ((zd ya x4).f1.f2) ((zd ya x4).f1.f3) ((zd ya x4).f1.f4.f0) ((zd ya x4).f1.f4.f1))) else (zk.j2 k x4 true yl ym ya ((zd ya x4).f0) ((zd ya x4).f1.f0) ((zd ya x4).f1.f1) ((zd ya x4).f1.f2) ((zd ya x4).f1.f3) ((zd ya x4).f1.f4.f0) ((zd ya x4).f1.f4.f1))))) else (none)) else (some true)
def zk.j2 : Nat → Int → Bool → Int → Int → List (S39) → ByteArray → Int → Int → List (S75) → List ByteArray → Int → Int → Option (Bool)
 | 0,_,_,_,_,_,_,_,_,_,_,_,_ => none
 | k + 1,x4,x63,yl,ym,ya,YA,Yo,Yp,Yq,Yr,Ys,Yt => if x63 = true then (some false) else (if x4 > 0 then (if 0 ≤ (wrap64 (x4 - 1)) then (if (wrap64 (x4 - 1)) < (ya.length : Int) then ((zaC.f ((zd ya (wrap64 (x4 - 1))).f1.f0) ((zd ya (wrap64 (x4 - 1))).f1.f1) ((zd ya (wrap64 (x4 - 1))).f1.f2) ((zd ya (wrap64 (x4 - 1))).f1.f3) ((zd ya (wrap64 (x4 - 1))).f1.f4.f0) ((zd ya (wrap64 (x4 - 1))).f1.f4.f1) Yo Yp Yq Yr Ys Yt).bind fun Yc => (if Yc = true then (zk.l0 k (wrap64 (x4 + 1)) yl ym ya) else (some false))) else (none)) else (none)) else (zk.l0 k (wrap64 (x4 + 1)) yl ym ya))
end
def zk.f (k : Nat) (a0_0 : Int) (a0_1 : Int) (l0_2 : List (S39)) : Option (Bool) := (zab.f a0_0).bind fun Yf => (if Yf = true then (zk.j0 k (decide (a0_1 < 0)) a0_0 a0_1 l0_2) else (zk.j0 k true a0_0 a0_1 l0_2))
def zk.T12 : Bool × List (List Nat × List Nat) := (true,[([],[]),([0],[0]),([1],[1]),([2],[2]),([3,2],[2,3]),([2],[2]),([5,2],[2,5]),([4,6,2],[2,4,6]),([7,2],[2,7]),([8,2],[2,8]),([2],[2]),([10,2],[2,10]),([9,11,2,2],[2,9,11]),([12,2],[2,12]),([2,13],[2,13])])
def zk.B12 : List Nat := [0,1,3,7,15,7,39,127,255,511,7,1031,4095,8191,16383]
theorem zk.tab12 : zb5 .any (zdW Tryz.f7 12) = zk.T12 := by kernel_rfl
theorem zk.bits12 : zbJ zk.T12.2 zk.B12 = true := by kernel_rfl
set_option maxHeartbeats 8000000 in
set_option maxRecDepth 100000 in
theorem zk.calls (k : Nat) (a0_0 : Int) (a0_1 : Int) (A0_2 : Option Addr) (c0_2 : Nat) (l0_2 : List (S39)) (r : Bool) (w : World) (hr0_2 : Kd.C k39 w A0_2 l0_2.length l0_2) (hc0_2 : l0_2.length ≤ c0_2) (h : zk.f k a0_0 a0_1 l0_2 = some r) :
  Calls Tryz.prog 7 #[.agg #[.int .i64 a0_0,.int .i64 a0_1,.slice A0_2 l0_2.length c0_2]] w fun e w' => e = .returned (.bool r) ∧ Below w.heap.size w w' := by
 have hu26 := Tryz.underlying26
 have hu39 := Tryz.underlying39
 have hu35 := Tryz.underlying35
 have HR0_2 := za.mk hr0_2
 have HC0_2 := za.mk hc0_2
 clear hr0_2 hc0_2
 have HB := za.mk (Below.refl w.heap.size w)
 have H : ((zab.f a0_0).bind fun Yf => (if Yf = true then (zk.j0 k (decide (a0_1 < 0)) a0_0 a0_1 l0_2) else (zk.j0 k true a0_0 a0_1 l0_2))) = some r := h
 clear h
 replace H := Option.bind_eq_some_iff.mp H
 obtain ⟨Yf,A20,H⟩ := H
 replace H : (if Yf = true then (zk.j0 k (decide (a0_1 < 0)) a0_0 a0_1 l0_2) else (zk.j0 k true a0_0 a0_1 l0_2)) = some r := H
 have A2 := za.mk A20
 clear A20
 have HC3 := za.mk H
 clear H
 go_enter Tryz.func7,Tryz.ntmps7
 go_upto_region 2 with (first | ((with_reducible refine zq (N := 1) rfl ?_);(try (refine zbq (by rfl) ?_;dsimp only));refine zn rfl (N := 1) rfl (cs := #[.int .i64 a0_0,.int .i64 a0_1,.slice A0_2 l0_2.length c0_2]) (t := 26) hrq ?_;intro yx hg w4 hbox hb;have n_ := haq (ze hBq hb) <| haq (hbox) <| haq ((by rw [hg];exact (zh hBq) : w.heap.size ≤ yx)) <| haq ((by rw [hg];exact (zh hBq) : w.heap.size ≤ yx)) <| trivial;clear HB;obtain ⟨HB,yc,YC,yD,_⟩ := n_;clear hb hbox hg;obtain ⟨hcz5_0,hcz5_1,hcz5_2,hfz5_0,hfz5_1,hfz5_2⟩ := hcq3 yc.out) | ((with_reducible refine zQ (f := 21) rfl ?_);refine zaB (some 11) rfl rfl Tryz.func21 (by kernel_rfl) rfl #[.int .i64 a0_0] rfl hMq ?_;(with_reducible refine (zab.calls a0_0 Yf _ A2.out).mono ?_);rintro e w' ⟨rfl,⟨nd,rfl⟩⟩;refine ⟨_,rfl,?_⟩))
 (try simp only [Act.put,List.setIfInBounds_toArray,List.set_cons_zero,List.set_cons_succ])
 go_cut [18] (fun v18 wc => ∃ (kq : Nat) (x18_2 : Bool),v18 = .bool x18_2 ∧ za (zk.j0 kq x18_2 a0_0 a0_1 l0_2 = some r) ∧ za (kq ≤ k) ∧ za (wc.heap[yx]? = some (.cells #[.int .i64 a0_0,.int .i64 a0_1,(.slice A0_2 l0_2.length c0_2)] 26 (0,0))) ∧ za (Below w.heap.size w wc))
 case first =>
  have H := HC3.out
  clear HC3
  by_cases c6 : Yf = true
  ·subst c6
   have H1 : (zk.j0 k (decide (a0_1 < 0)) a0_0 a0_1 l0_2) = some r := by rw [if_pos rfl] at H;exact H
   clear H
   have H := H1
   clear H1
   have H' := za.mk H
   clear H
   obtain ⟨hcz7_0,hcz7_1,hcz7_2,hfz7_0,hfz7_1,hfz7_2⟩ := hcq3 yc.out
   go_wp2
   go_meet
   case rel => exact ⟨_,(decide (a0_1 < 0)),(hDq),H',⟨by first | omega | exact Nat.le_refl _⟩,⟨hGq yc.out⟩,⟨by repeat (first | (with_reducible first | exact HB.out | apply zl | apply zi | apply zp | refine zm ?_ yD.out) | exact HB.out)⟩⟩
  ·replace c6 := Bool.eq_false_iff.mpr c6
   subst c6
   have H1 : (zk.j0 k true a0_0 a0_1 l0_2) = some r := by rw [if_neg (show ¬ (false = true) by decide)] at H;exact H
   clear H
   have H := H1
   clear H1
   have H' := za.mk H
   clear H
   go_wp2
   go_meet
   case rel => exact ⟨_,(true),(hDq),H',⟨by first | omega | exact Nat.le_refl _⟩,⟨hGq yc.out⟩,⟨by repeat (first | (with_reducible first | exact HB.out | apply zl | apply zi | apply zp | refine zm ?_ yD.out) | exact HB.out)⟩⟩
 case rest =>
  clear HC3
  try clear c2;try clear p2;try clear c6;try clear c7;try clear hcz5_0;try clear hcz5_1;try clear hcz5_2;try clear hcz7_0;try clear hcz7_1;try clear hcz7_2;try clear hfz5_0;try clear hfz5_1;try clear hfz5_2;try clear hfz7_0;try clear hfz7_1;try clear hfz7_2
  obtain ⟨kq,x18_2,rfl,HA,HJ2,yc,HB⟩ := hcut
  cases kq with
  | zero => exact absurd HA.out (by simp [zk.j0])
  | succ kj2 =>
   have H := HA.out
   clear HA
   simp only [zk.j0] at H
   by_cases c8 : x18_2 = true
   ·subst c8
    have H1 : (some false) = some r := by rw [if_pos rfl] at H;exact H
    clear H
    have H := H1
    clear H1
    obtain rfl := Option.some.inj H
    go_wp2
    go_ret
    exact ⟨hHq,hCq⟩
   ·replace c8 := Bool.eq_false_iff.mpr c8
    subst c8
    have H1 : (zk.l0 kj2 0 a0_0 a0_1 l0_2) = some r := by rw [if_neg (show ¬ (false = true) by decide)] at H;exact H
    clear H
    have H := H1
    clear H1
    have H' := za.mk H
    clear H
    go_wp2
    go_loopg [4] kj2 (fun kq v4 w' => ∃ (x4_2 : Int),v4 = .int .i64 x4_2 ∧ za (zk.l0 kq x4_2 a0_0 a0_1 l0_2 = some r) ∧ za (kq ≤ kj2) ∧ za (w'.heap[yx]? = some (.cells #[.int .i64 a0_0,.int .i64 a0_1,(.slice A0_2 l0_2.length c0_2)] 26 (0,0))) ∧ za (Below w.heap.size w w'))
    case atStart => exact ⟨(0),(hDq),H',⟨Nat.le_refl _⟩,⟨hGq yc.out⟩,⟨by repeat (first | (with_reducible first | exact HB.out | apply zl | apply zi | apply zp | refine zm ?_ yD.out) | exact HB.out)⟩⟩
    case round =>
     clear H'
     try clear c2;try clear p2;try clear c6;try clear c7;try clear c8;try clear hcz5_0;try clear hcz5_1;try clear hcz5_2;try clear hcz7_0;try clear hcz7_1;try clear hcz7_2;try clear hfz5_0;try clear hfz5_1;try clear hfz5_2;try clear hfz7_0;try clear hfz7_1;try clear hfz7_2;try clear p2
     obtain ⟨x4_2,rfl,HA,HK2,yc,HB⟩ := hrel
     cases gk with
     | zero => exact absurd HA.out (by simp [zk.l0])
     | succ k2 =>
      have H := HA.out
      clear HA
      simp only [zk.l0] at H
      by_cases c9 : x4_2 < (l0_2.length : Int)
      ·rw [if_pos c9] at H
       have c9b0 : decide (x4_2 < (l0_2.length : Int)) = true := decide_eq_true c9
       clear c9
       by_cases c10 : 0 ≤ x4_2
       ·rw [if_pos c10] at H
        have c10b0 : decide (0 ≤ x4_2) = true := decide_eq_true c10
        clear c10
        replace H := Option.bind_eq_some_iff.mp H
        obtain ⟨⟨Ya,Yb⟩,Yw,H⟩ := H
        replace H : ((zx.f k2 a0_0 a0_1 l0_2 ((zd l0_2 x4_2).f1.f0) ((zd l0_2 x4_2).f1.f1) ((zd l0_2 x4_2).f1.f2) ((zd l0_2 x4_2).f1.f3) ((zd l0_2 x4_2).f1.f4.f0) ((zd l0_2 x4_2).f1.f4.f1)).bind fun Yg => (if Yb = 0 then (if Ya.toList = ((zd l0_2 x4_2).f0).toList then (if ((zd l0_2 x4_2).f1.f1) ≤ a0_1 then (zk.j2 k2 x4_2 true a0_0 a0_1 l0_2 ((zd l0_2 x4_2).f0) ((zd l0_2 x4_2).f1.f0) ((zd l0_2 x4_2).f1.f1) ((zd l0_2 x4_2).f1.f2) ((zd l0_2 x4_2).f1.f3) ((zd l0_2 x4_2).f1.f4.f0) ((zd l0_2 x4_2).f1.f4.f1)) else (zk.j2 k2 x4_2 (decide ((Yg.length : Int) > 0)) a0_0 a0_1 l0_2 ((zd l0_2 x4_2).f0) ((zd l0_2 x4_2).f1.f0) ((zd l0_2 x4_2).f1.f1) ((zd l0_2 x4_2).f1.f2) ((zd l0_2 x4_2).f1.f3) ((zd l0_2 x4_2).f1.f4.f0) ((zd l0_2 x4_2).f1.f4.f1))) else (zk.j2 k2 x4_2 true a0_0 a0_1 l0_2 ((zd l0_2 x4_2).f0) ((zd l0_2 x4_2).f1.f0) ((zd l0_2 x4_2).f1.f1) ((zd l0_2 x4_2).f1.f2) ((zd l0_2 x4_2).f1.f3) ((zd l0_2 x4_2).f1.f4.f0) ((zd l0_2 x4_2).f1.f4.f1))) else (zk.j2 k2 x4_2 true a0_0 a0_1 l0_2 ((zd l0_2 x4_2).f0) ((zd l0_2 x4_2).f1.f0) ((zd l0_2 x4_2).f1.f1) ((zd l0_2 x4_2).f1.f2) ((zd l0_2 x4_2).f1.f3) ((zd l0_2 x4_2).f1.f4.f0) ((zd l0_2 x4_2).f1.f4.f1)))) = some r := H
        have A11 := za.mk Yw
        clear Yw
        replace H := Option.bind_eq_some_iff.mp H
        obtain ⟨Yg,Yx,H⟩ := H
        replace H : (if Yb = 0 then (if Ya.toList = ((zd l0_2 x4_2).f0).toList then (if ((zd l0_2 x4_2).f1.f1) ≤ a0_1 then (zk.j2 k2 x4_2 true a0_0 a0_1 l0_2 ((zd l0_2 x4_2).f0) ((zd l0_2 x4_2).f1.f0) ((zd l0_2 x4_2).f1.f1) ((zd l0_2 x4_2).f1.f2) ((zd l0_2 x4_2).f1.f3) ((zd l0_2 x4_2).f1.f4.f0) ((zd l0_2 x4_2).f1.f4.f1)) else (zk.j2 k2 x4_2 (decide ((Yg.length : Int) > 0)) a0_0 a0_1 l0_2 ((zd l0_2 x4_2).f0) ((zd l0_2 x4_2).f1.f0) ((zd l0_2 x4_2).f1.f1) ((zd l0_2 x4_2).f1.f2) ((zd l0_2 x4_2).f1.f3) ((zd l0_2 x4_2).f1.f4.f0) ((zd l0_2 x4_2).f1.f4.f1))) else (zk.j2 k2 x4_2 true a0_0 a0_1 l0_2 ((zd l0_2 x4_2).f0) ((zd l0_2 x4_2).f1.f0) ((zd l0_2 x4_2).f1.f1) ((zd l0_2 x4_2).f1.f2) ((zd l0_2 x4_2).f1.f3) ((zd l0_2 x4_2).f1.f4.f0) ((zd l0_2 x4_2).f1.f4.f1))) else (zk.j2 k2 x4_2 true a0_0 a0_1 l0_2 ((zd l0_2 x4_2).f0) ((zd l0_2 x4_2).f1.f0) ((zd l0_2 x4_2).f1.f1) ((zd l0_2 x4_2).f1.f2) ((zd l0_2 x4_2).f1.f3) ((zd l0_2 x4_2).f1.f4.f0) ((zd l0_2 x4_2).f1.f4.f1))) = some r := H
        have A12 := za.mk Yx
        clear Yx
        have HC13 := za.mk H
        clear H
        obtain ⟨hcz14_0,hcz14_1,hcz14_2,hfz14_0,hfz14_1,hfz14_2⟩ := hcq3 yc.out
        have Ym : 0 ≤ (x4_2 : Int) := hFq
        have Yn : x4_2 < (l0_2.length : Int) := hFq
        obtain ⟨yd,yy,yA,yz,yB,YB,yO,yP,yQ,yR,yS,yT,yU,Yj,Yh,Yk,Yi⟩ := zbe HR0_2.out x4_2 Ym Yn
        cases YB
        replace yO := (HB.out.cell (World.block_lt_of_cell? w _ yO)).trans yO
        replace yP := (HB.out.cell (World.block_lt_of_cell? w _ yP)).trans yP
        replace yQ := (HB.out.cell (World.block_lt_of_cell? w _ yQ)).trans yQ
        replace yR := (HB.out.cell (World.block_lt_of_cell? w _ yR)).trans yR
        replace yS := (HB.out.cell (World.block_lt_of_cell? w _ yS)).trans yS
        replace yT := (HB.out.cell (World.block_lt_of_cell? w _ yT)).trans yT
        replace yU := (HB.out.cell (World.block_lt_of_cell? w _ yU)).trans yU
        have yM := za.mk Yh
        have yK := za.mk Yj
        clear Yh Yj
        have yN := za.mk Yi
        have yL := za.mk Yk
        clear Yi Yk
        replace Ym := eq_true Ym
        replace Yn := eq_true Yn
        go_upto_region 10 with (first | ((with_reducible refine zq (N := 5) rfl ?_);(try (refine zbq (by rfl) ?_;dsimp only));refine zn rfl (N := 5) rfl (cs := #[.string (⟨#[]⟩ : ByteArray),.int .i64 0,.int .i64 0,.slice none 0 0,.slice none 0 0,.int .i64 0,.int .i64 0]) (t := 39) hrq ?_;intro yn hg w15 hbox hb;have n_ := haq (hbq yc.out hb) <| haq (ze hCq hb) <| haq (hbox) <| haq ((by rw [hg];exact (zh hCq) : w.heap.size ≤ yn)) <| haq ((by rw [hg];exact (zh hCq) : w.heap.size ≤ yn)) <| haq (hnq hg yc.out) <| haq (hmq hg yc.out) <| trivial;clear yc HB;obtain ⟨yc,HB,yb,YD,yZ,yw,yC,_⟩ := n_;clear hb hbox hg;have hnb16 := yC.out;have hnc16 := yw.out;obtain ⟨hcz17_0,hcz17_1,hcz17_2,hcz17_3,hcz17_4,hcz17_5,hcz17_6,hfz17_0,hfz17_1,hfz17_2,hfz17_3,hfz17_4,hfz17_5,hfz17_6⟩ := hcq7 yb.out;obtain ⟨hcz18_0,hcz18_1,hcz18_2,hfz18_0,hfz18_1,hfz18_2⟩ := hcq3 yc.out) | ((with_reducible refine zQ (f := 22) rfl ?_);refine zaB (some 36) rfl rfl Tryz.func22 (by kernel_rfl) rfl #[.agg #[.int .i64 ((zd l0_2 x4_2).f1.f0),.int .i64 ((zd l0_2 x4_2).f1.f1),.slice yy ((zd l0_2 x4_2).f1.f2).length yA,.slice yz ((zd l0_2 x4_2).f1.f3).length yB,.int .i64 ((zd l0_2 x4_2).f1.f4.f0),.int .i64 ((zd l0_2 x4_2).f1.f4.f1)],.int .i64 a0_0] rfl hMq ?_;(with_reducible refine (zaV.calls k2 ((zd l0_2 x4_2).f1.f0) ((zd l0_2 x4_2).f1.f1) _ _ ((zd l0_2 x4_2).f1.f2) _ _ ((zd l0_2 x4_2).f1.f3) ((zd l0_2 x4_2).f1.f4.f0) ((zd l0_2 x4_2).f1.f4.f1) a0_0 Ya Yb _ ?side1 ?side2 ?side3 ?side4 A11.out).mono ?_);(case side1 => exact Kd.C_below yM.out hCq);(case side2 => exact yK.out);(case side3 => exact Kd.C_below yN.out hCq);(case side4 => exact yL.out);rintro e w19 ⟨rfl,hb⟩;refine ⟨_,rfl,?_⟩;have n_ := haq (zo (g := yx) (o := .cells #[.int .i64 a0_0,.int .i64 a0_1,.slice (some yd) l0_2.length c0_2] 26 (0,0)) (hxq1 yw.out yc.out) hb) <| haq (zo (g := yn) (o := .cells #[.string ((zd l0_2 x4_2).f0),.int .i64 ((zd l0_2 x4_2).f1.f0),.int .i64 ((zd l0_2 x4_2).f1.f1),.slice yy ((zd l0_2 x4_2).f1.f2).length yA,.slice yz ((zd l0_2 x4_2).f1.f3).length yB,.int .i64 ((zd l0_2 x4_2).f1.f4.f0),.int .i64 ((zd l0_2 x4_2).f1.f4.f1)] 39 (0,0)) (hxq0p yb.out) hb) <| haq (ze hCq hb) <| trivial;clear yc yb HB;obtain ⟨yc,yb,HB,_⟩ := n_;(try clear hb);(try clear hb2);(try clear hk);(try clear hi);obtain ⟨hcz20_0,hcz20_1,hcz20_2,hfz20_0,hfz20_1,hfz20_2⟩ := hcq3 yc.out;obtain ⟨hcz21_0,hcz21_1,hcz21_2,hcz21_3,hcz21_4,hcz21_5,hcz21_6,hfz21_0,hfz21_1,hfz21_2,hfz21_3,hfz21_4,hfz21_5,hfz21_6⟩ := hcq7 yb.out) | ((with_reducible refine zQ (f := 23) rfl ?_);refine zaB (some 42) rfl rfl Tryz.func23 (by kernel_rfl) rfl #[.agg #[.int .i64 a0_0,.int .i64 a0_1,.slice (some yd) l0_2.length c0_2],.agg #[.int .i64 ((zd l0_2 x4_2).f1.f0),.int .i64 ((zd l0_2 x4_2).f1.f1),.slice yy ((zd l0_2 x4_2).f1.f2).length yA,.slice yz ((zd l0_2 x4_2).f1.f3).length yB,.int .i64 ((zd l0_2 x4_2).f1.f4.f0),.int .i64 ((zd l0_2 x4_2).f1.f4.f1)]] rfl hMq ?_;(with_reducible refine (zx.calls k2 a0_0 a0_1 _ _ l0_2 ((zd l0_2 x4_2).f1.f0) ((zd l0_2 x4_2).f1.f1) _ _ ((zd l0_2 x4_2).f1.f2) _ _ ((zd l0_2 x4_2).f1.f3) ((zd l0_2 x4_2).f1.f4.f0) ((zd l0_2 x4_2).f1.f4.f1) Yg _ ?side1 ?side2 ?side3 ?side4 ?side5 ?side6 A12.out).mono ?_);(case side1 => exact hKq (Kd.C_below HR0_2.out HB.out));(case side2 => exact HC0_2.out);(case side3 => exact hKq (Kd.C_below yM.out HB.out));(case side4 => exact yK.out);(case side5 => exact hKq (Kd.C_below yN.out HB.out));(case side6 => exact yL.out);rintro e w22 ⟨YE,rfl,ho0,hb⟩;refine ⟨_,rfl,?_⟩;have n_ := haq (Kd.R_lower ho0 (zh hCq)) <| haq (hbq yc.out hb) <| haq (hbq yb.out hb) <| haq (ze hCq hb) <| trivial;clear yc yb HB;obtain ⟨Yz,yc,yb,HB,_⟩ := n_;(try clear hb);(try clear hb2);(try clear hk);(try clear hi);(try clear ho0)))
        (try simp only [Act.put,List.setIfInBounds_toArray,List.set_cons_zero,List.set_cons_succ])
        go_cut [63] (fun v63 wc => ∃ (kq : Nat) (x63_12 : Bool),v63 = .bool x63_12 ∧ za (zk.j2 kq x4_2 x63_12 a0_0 a0_1 l0_2 ((zd l0_2 x4_2).f0) ((zd l0_2 x4_2).f1.f0) ((zd l0_2 x4_2).f1.f1) ((zd l0_2 x4_2).f1.f2) ((zd l0_2 x4_2).f1.f3) ((zd l0_2 x4_2).f1.f4.f0) ((zd l0_2 x4_2).f1.f4.f1) = some r) ∧ za (kq ≤ k2) ∧ za (wc.heap[yx]? = some (.cells #[.int .i64 a0_0,.int .i64 a0_1,(.slice (some yd) l0_2.length c0_2)] 26 (0,0))) ∧ za (wc.heap[yn]? = some (.cells #[.string ((zd l0_2 x4_2).f0),.int .i64 ((zd l0_2 x4_2).f1.f0),.int .i64 ((zd l0_2 x4_2).f1.f1),(.slice yy ((zd l0_2 x4_2).f1.f2).length yA),(.slice yz ((zd l0_2 x4_2).f1.f3).length yB),.int .i64 ((zd l0_2 x4_2).f1.f4.f0),.int .i64 ((zd l0_2 x4_2).f1.f4.f1)] 39 (0,0))) ∧ za (Below w.heap.size w wc))
        case first =>
         have H := HC13.out
         clear HC13
         by_cases c23 : Yb = 0
         ·rw [if_pos c23] at H
          have c23b0 : (Yb == 0) = true := beq_iff_eq.mpr c23
          have c23b1 : (Yb != 0) = false := bne_eq_false_iff_eq.mpr c23
          clear c23
          (first | rw [c23b0] | (simp only [zam,zap];rw [c23b0]) | skip)
          by_cases c24 : Ya.toList = ((zd l0_2 x4_2).f0).toList
          ·rw [if_pos c24] at H
           have c24b0 : (Ya.toList == ((zd l0_2 x4_2).f0).toList) = true := beq_iff_eq.mpr c24
           have c24b1 : (Ya.toList != ((zd l0_2 x4_2).f0).toList) = false := bne_eq_false_iff_eq.mpr c24
           clear c24
           by_cases c25 : ((zd l0_2 x4_2).f1.f1) ≤ a0_1
           ·rw [if_pos c25] at H
            have c25b0 : decide (((zd l0_2 x4_2).f1.f1) ≤ a0_1) = true := decide_eq_true c25
            clear c25
            have H' := za.mk H
            clear H
            have hnb26 := yC.out
            have hnc26 := yw.out
            obtain ⟨hcz27_0,hcz27_1,hcz27_2,hcz27_3,hcz27_4,hcz27_5,hcz27_6,hfz27_0,hfz27_1,hfz27_2,hfz27_3,hfz27_4,hfz27_5,hfz27_6⟩ := hcq7 yb.out
            obtain ⟨hcz28_0,hcz28_1,hcz28_2,hfz28_0,hfz28_1,hfz28_2⟩ := hcq3 yc.out
            go_wp2
            go_meet
            case rel => exact ⟨_,(true),(hDq),H',⟨by have := HJ2.out;have := HK2.out;first | omega | exact Nat.le_refl _⟩,⟨hGq yc.out⟩,⟨hGq yb.out⟩,⟨by repeat (first | (with_reducible first | exact HB.out | apply zl | apply zi | apply zp | refine zm ?_ yD.out | refine zm ?_ yZ.out) | exact HB.out)⟩⟩
           ·rw [if_neg c25] at H
            have c25b0 : decide (((zd l0_2 x4_2).f1.f1) ≤ a0_1) = false := decide_eq_false c25
            clear c25
            have H' := za.mk H
            clear H
            have hnb29 := yC.out
            have hnc29 := yw.out
            obtain ⟨hcz30_0,hcz30_1,hcz30_2,hcz30_3,hcz30_4,hcz30_5,hcz30_6,hfz30_0,hfz30_1,hfz30_2,hfz30_3,hfz30_4,hfz30_5,hfz30_6⟩ := hcq7 yb.out
            obtain ⟨hcz31_0,hcz31_1,hcz31_2,hfz31_0,hfz31_1,hfz31_2⟩ := hcq3 yc.out
            obtain ⟨Ao32,co32,eo32⟩ := Kd.R_slice Yz.out
            subst eo32
            go_wp2
            go_meet
            case rel => exact ⟨_,(decide ((Yg.length : Int) > 0)),(hDq),H',⟨by have := HJ2.out;have := HK2.out;first | omega | exact Nat.le_refl _⟩,⟨hGq yc.out⟩,⟨hGq yb.out⟩,⟨by repeat (first | (with_reducible first | exact HB.out | apply zl | apply zi | apply zp | refine zm ?_ yD.out | refine zm ?_ yZ.out) | exact HB.out)⟩⟩
          ·rw [if_neg c24] at H
           have c24b0 : (Ya.toList == ((zd l0_2 x4_2).f0).toList) = false := beq_eq_false_iff_ne.mpr c24
           have c24b1 : (Ya.toList != ((zd l0_2 x4_2).f0).toList) = true := bne_iff_ne.mpr c24
           have H' := za.mk H
           clear H
           have hnb33 := yC.out
           have hnc33 := yw.out
           obtain ⟨hcz34_0,hcz34_1,hcz34_2,hcz34_3,hcz34_4,hcz34_5,hcz34_6,hfz34_0,hfz34_1,hfz34_2,hfz34_3,hfz34_4,hfz34_5,hfz34_6⟩ := hcq7 yb.out
           go_wp2
           go_meet
           case rel => exact ⟨_,(true),(hDq),H',⟨by have := HJ2.out;have := HK2.out;first | omega | exact Nat.le_refl _⟩,⟨hGq yc.out⟩,⟨hGq yb.out⟩,⟨by repeat (first | (with_reducible first | exact HB.out | apply zl | apply zi | apply zp | refine zm ?_ yD.out | refine zm ?_ yZ.out) | exact HB.out)⟩⟩
         ·rw [if_neg c23] at H
          have c23b0 : (Yb == 0) = false := beq_eq_false_iff_ne.mpr c23
          have c23b1 : (Yb != 0) = true := bne_iff_ne.mpr c23
          (first | rw [c23b0] | (simp only [zam,zap];rw [c23b0]) | skip)
          have H' := za.mk H
          clear H
          go_wp2
          go_meet
          case rel => exact ⟨_,(true),(hDq),H',⟨by have := HJ2.out;have := HK2.out;first | omega | exact Nat.le_refl _⟩,⟨hGq yc.out⟩,⟨hGq yb.out⟩,⟨by repeat (first | (with_reducible first | exact HB.out | apply zl | apply zi | apply zp | refine zm ?_ yD.out | refine zm ?_ yZ.out) | exact HB.out)⟩⟩
        case rest =>
         clear HC13
         try clear c1;try clear c2;try clear p2;try clear q2;try clear hx2;try clear c3;try clear c6;try clear c7;try clear c8;try clear c9;try clear c9b0;try clear c10;try clear c10b0;try clear c16;try clear c21;try clear c22;try clear c23;try clear c23b0;try clear c23b1;try clear p23;try clear q23;try clear hx23;try clear c24;try clear c24b0;try clear c24b1;try clear c25;try clear c25b0;try clear c26;try clear c29;try clear c33;try clear hcz14_0;try clear hcz14_1;try clear hcz14_2;try clear hcz17_0;try clear hcz17_1;try clear hcz17_2;try clear hcz17_3;try clear hcz17_4;try clear hcz17_5;try clear hcz17_6;try clear hcz18_0;try clear hcz18_1;try clear hcz18_2;try clear hcz20_0;try clear hcz20_1;try clear hcz20_2;try clear hcz21_0;try clear hcz21_1;try clear hcz21_2;try clear hcz21_3;try clear hcz21_4;try clear hcz21_5;try clear hcz21_6;try clear hcz27_0;try clear hcz27_1;try clear hcz27_2;try clear hcz27_3;try clear hcz27_4;try clear hcz27_5;try clear hcz27_6;try clear hcz28_0;try clear hcz28_1;try clear hcz28_2;try clear hcz30_0;try clear hcz30_1;try clear hcz30_2;try clear hcz30_3;try clear hcz30_4;try clear hcz30_5;try clear hcz30_6;try clear hcz31_0;try clear hcz31_1;try clear hcz31_2;try clear hcz34_0;try clear hcz34_1;try clear hcz34_2;try clear hcz34_3;try clear hcz34_4;try clear hcz34_5;try clear hcz34_6;try clear hcz5_0;try clear hcz5_1;try clear hcz5_2;try clear hcz7_0;try clear hcz7_1;try clear hcz7_2;try clear hfz14_0;try clear hfz14_1;try clear hfz14_2;try clear hfz17_0;try clear hfz17_1;try clear hfz17_2;try clear hfz17_3;try clear hfz17_4;try clear hfz17_5;try clear hfz17_6;try clear hfz18_0;try clear hfz18_1;try clear hfz18_2;try clear hfz20_0;try clear hfz20_1;try clear hfz20_2;try clear hfz21_0;try clear hfz21_1;try clear hfz21_2;try clear hfz21_3;try clear hfz21_4;try clear hfz21_5;try clear hfz21_6;try clear hfz27_0;try clear hfz27_1;try clear hfz27_2;try clear hfz27_3;try clear hfz27_4;try clear hfz27_5;try clear hfz27_6;try clear hfz28_0;try clear hfz28_1;try clear hfz28_2;try clear hfz30_0;try clear hfz30_1;try clear hfz30_2;try clear hfz30_3;try clear hfz30_4;try clear hfz30_5;try clear hfz30_6;try clear hfz31_0;try clear hfz31_1;try clear hfz31_2;try clear hfz34_0;try clear hfz34_1;try clear hfz34_2;try clear hfz34_3;try clear hfz34_4;try clear hfz34_5;try clear hfz34_6;try clear hfz5_0;try clear hfz5_1;try clear hfz5_2;try clear hfz7_0;try clear hfz7_1;try clear hfz7_2;try clear yO;try clear yP;try clear yQ;try clear yR;try clear yS;try clear yT;try clear yU;try clear p2;try clear Ym;try clear Yn
         obtain ⟨kq,x63_12,rfl,HA,HJ12,yc,yb,HB⟩ := hcut
         cases kq with
         | zero => exact absurd HA.out (by simp [zk.j2])
         | succ kj12 =>
          have H := HA.out
          clear HA
          simp only [zk.j2] at H
          by_cases c35 : x63_12 = true
          ·subst c35
           have H1 : (some false) = some r := by rw [if_pos rfl] at H;exact H
           clear H
           have H := H1
           clear H1
           obtain rfl := Option.some.inj H
           go_wp2
           go_ret
           exact ⟨hHq,hCq⟩
          ·replace c35 := Bool.eq_false_iff.mpr c35
           subst c35
           have H1 : (if x4_2 > 0 then (if 0 ≤ (wrap64 (x4_2 - 1)) then (if (wrap64 (x4_2 - 1)) < (l0_2.length : Int) then ((zaC.f ((zd l0_2 (wrap64 (x4_2 - 1))).f1.f0) ((zd l0_2 (wrap64 (x4_2 - 1))).f1.f1) ((zd l0_2 (wrap64 (x4_2 - 1))).f1.f2) ((zd l0_2 (wrap64 (x4_2 - 1))).f1.f3) ((zd l0_2 (wrap64 (x4_2 - 1))).f1.f4.f0) ((zd l0_2 (wrap64 (x4_2 - 1))).f1.f4.f1) ((zd l0_2 x4_2).f1.f0) ((zd l0_2 x4_2).f1.f1) ((zd l0_2 x4_2).f1.f2) ((zd l0_2 x4_2).f1.f3) ((zd l0_2 x4_2).f1.f4.f0) ((zd l0_2 x4_2).f1.f4.f1)).bind fun Yc => (if Yc = true then (zk.l0 kj12 (wrap64 (x4_2 + 1)) a0_0 a0_1 l0_2) else (some false))) else (none)) else (none)) else (zk.l0 kj12 (wrap64 (x4_2 + 1)) a0_0 a0_1 l0_2)) = some r := by rw [if_neg (show ¬ (false = true) by decide)] at H;exact H
           clear H
           have H := H1
           clear H1
           by_cases c36 : x4_2 > 0
           ·rw [if_pos c36] at H
            have c36b0 : decide (0 < x4_2) = true := decide_eq_true c36
            clear c36
            obtain ⟨ji37,hji37⟩ : ∃ j_ : Int,(wrap64 (x4_2 - 1)) = j_ := ⟨_,rfl⟩
            replace H : (if 0 ≤ (ji37) then (if (ji37) < (l0_2.length : Int) then ((zaC.f ((zd l0_2 (ji37)).f1.f0) ((zd l0_2 (ji37)).f1.f1) ((zd l0_2 (ji37)).f1.f2) ((zd l0_2 (ji37)).f1.f3) ((zd l0_2 (ji37)).f1.f4.f0) ((zd l0_2 (ji37)).f1.f4.f1) ((zd l0_2 x4_2).f1.f0) ((zd l0_2 x4_2).f1.f1) ((zd l0_2 x4_2).f1.f2) ((zd l0_2 x4_2).f1.f3) ((zd l0_2 x4_2).f1.f4.f0) ((zd l0_2 x4_2).f1.f4.f1)).bind fun Yc => (if Yc = true then (zk.l0 kj12 (wrap64 (x4_2 + 1)) a0_0 a0_1 l0_2) else (some false))) else (none)) else (none)) = some r := by first | (rw [hji37] at H;exact H) | (simp only [hji37] at H ⊢;exact H)
            have hji37w : (IntKind.i64.wrap (x4_2 - 1)) = ji37 := (zam _).trans hji37
            by_cases c38 : 0 ≤ (ji37)
            ·rw [if_pos c38] at H
             have c38b0 : decide (0 ≤ (ji37)) = true := decide_eq_true c38
             clear c38
             by_cases c39 : (ji37) < (l0_2.length : Int)
             ·rw [if_pos c39] at H
              have c39b0 : decide ((ji37) < (l0_2.length : Int)) = true := decide_eq_true c39
              clear c39
              replace H := Option.bind_eq_some_iff.mp H
              obtain ⟨Yc,Yy,H⟩ := H
              replace H : (if Yc = true then (zk.l0 kj12 (wrap64 (x4_2 + 1)) a0_0 a0_1 l0_2) else (some false)) = some r := H
              have A40 := za.mk Yy
              clear Yy
              by_cases c41 : Yc = true
              ·subst c41
               have H1 : (zk.l0 kj12 (wrap64 (x4_2 + 1)) a0_0 a0_1 l0_2) = some r := by rw [if_pos rfl] at H;exact H
               clear H
               have H := H1
               clear H1
               have H' := za.mk H
               clear H
               try go_wp2
               have n0_ := za.mk (zaf yc.out)
               have n1_ := za.mk (zaf yb.out)
               have n2_ := za.mk (zp HB.out)
               clear yc
               clear yb
               clear HB
               have yc := n0_
               have yb := n1_
               have HB := n2_
               clear n0_ n1_ n2_
               have Yd : 0 ≤ ((ji37) : Int) := hFq
               have Ye : (ji37) < (l0_2.length : Int) := hFq
               obtain ⟨Yl,yV,yX,yW,yY,Yv,ye,yf,yg,yh,yi,yj,yk,yI,yG,yJ,yH⟩ := zbe HR0_2.out (ji37) Yd Ye
               have yv := yk
               have yu := yj
               have yt := yi
               have yr := yh
               have yq := yg
               have yp := yf
               have yo := ye
               obtain rfl : yd = Yl := (by injection Yv)
               replace ye := (HB.out.cell (World.block_lt_of_cell? w _ ye)).trans ye
               replace yf := (HB.out.cell (World.block_lt_of_cell? w _ yf)).trans yf
               replace yg := (HB.out.cell (World.block_lt_of_cell? w _ yg)).trans yg
               replace yh := (HB.out.cell (World.block_lt_of_cell? w _ yh)).trans yh
               replace yi := (HB.out.cell (World.block_lt_of_cell? w _ yi)).trans yi
               replace yj := (HB.out.cell (World.block_lt_of_cell? w _ yj)).trans yj
               replace yk := (HB.out.cell (World.block_lt_of_cell? w _ yk)).trans yk
               have yE := za.mk yG
               have y8 := za.mk yI
               clear yG yI
               have yF := za.mk yH
               have y9 := za.mk yJ
               clear yH yJ
               replace Yd := eq_true Yd
               replace Ye := eq_true Ye
               refine zbV (n := 15) (S := fun w' => w'.cell? ⟨yx,0,none⟩ = some (.int .i64 a0_0) ∧ w'.cell? ⟨yx,1,none⟩ = some (.int .i64 a0_1) ∧ w'.cell? ⟨yx,2,none⟩ = some (.slice (some yd) l0_2.length c0_2) ∧ w'.cell? ⟨yn,0,none⟩ = some (.string ((zd l0_2 x4_2).f0)) ∧ w'.cell? ⟨yn,1,none⟩ = some (.int .i64 ((zd l0_2 x4_2).f1.f0)) ∧ w'.cell? ⟨yn,2,none⟩ = some (.int .i64 ((zd l0_2 x4_2).f1.f1)) ∧ w'.cell? ⟨yn,3,none⟩ = some (.slice yy ((zd l0_2 x4_2).f1.f2).length yA) ∧ w'.cell? ⟨yn,4,none⟩ = some (.slice yz ((zd l0_2 x4_2).f1.f3).length yB) ∧ w'.cell? ⟨yn,5,none⟩ = some (.int .i64 ((zd l0_2 x4_2).f1.f4.f0)) ∧ w'.cell? ⟨yn,6,none⟩ = some (.int .i64 ((zd l0_2 x4_2).f1.f4.f1)) ∧ w'.cell? (yd.add (((ji37)).toNat * 7)) = some (.string ((zd l0_2 (ji37)).f0)) ∧ w'.cell? ⟨(yd.add (((ji37)).toNat * 7)).block,(yd.add (((ji37)).toNat * 7)).off + 1,none⟩ = some (.int .i64 ((zd l0_2 (ji37)).f1.f0)) ∧ w'.cell? ⟨(yd.add (((ji37)).toNat * 7)).block,(yd.add (((ji37)).toNat * 7)).off + 2,none⟩ = some (.int .i64 ((zd l0_2 (ji37)).f1.f1)) ∧ w'.cell? ⟨(yd.add (((ji37)).toNat * 7)).block,(yd.add (((ji37)).toNat * 7)).off + 3,none⟩ = some (.slice yV ((zd l0_2 (ji37)).f1.f2).length yX) ∧ w'.cell? ⟨(yd.add (((ji37)).toNat * 7)).block,(yd.add (((ji37)).toNat * 7)).off + 4,none⟩ = some (.slice yW ((zd l0_2 (ji37)).f1.f3).length yY) ∧ w'.cell? ⟨(yd.add (((ji37)).toNat * 7)).block,(yd.add (((ji37)).toNat * 7)).off + 5,none⟩ = some (.int .i64 ((zd l0_2 (ji37)).f1.f4.f0)) ∧ w'.cell? ⟨(yd.add (((ji37)).toNat * 7)).block,(yd.add (((ji37)).toNat * 7)).off + 6,none⟩ = some (.int .i64 ((zd l0_2 (ji37)).f1.f4.f1))) (ds := []) (uQ 15 0) (by kernel_rfl) rfl rfl ⟨(zb yc.out 0).trans rfl,(zb yc.out 1).trans rfl,(zb yc.out 2).trans rfl,(zb yb.out 0).trans rfl,(zb yb.out 1).trans rfl,(zb yb.out 2).trans rfl,(zb yb.out 3).trans rfl,(zb yb.out 4).trans rfl,(zb yb.out 5).trans rfl,(zb yb.out 6).trans rfl,((HB.out.cell (World.block_lt_of_cell? w _ yo)).trans yo),((HB.out.cell (World.block_lt_of_cell? w _ yp)).trans yp),((HB.out.cell (World.block_lt_of_cell? w _ yq)).trans yq),((HB.out.cell (World.block_lt_of_cell? w _ yr)).trans yr),((HB.out.cell (World.block_lt_of_cell? w _ yt)).trans yt),((HB.out.cell (World.block_lt_of_cell? w _ yu)).trans yu),((HB.out.cell (World.block_lt_of_cell? w _ yv)).trans yv)⟩ (fun hHeld => ?_);refine zaQ zk.tab12 zk.bits12 (fun HT_ HW_ => ?_)
               generalize wc.drew = w42 at yc yb HB yE yF ye yf yg yh yi yj yk hHeld ⊢
               refine puq (i := 0) (N := some 64) HT_.out (uQ 15 1) ?_
               refine puq (i := 1) (N := some 65) HT_.out (uQ 15 2) ?_
               refine puq (i := 2) (N := some 66) HT_.out (uQ 15 3) ?_
               refine puq (i := 3) (N := some 67) HT_.out (uQ 15 4) ?_
               refine puq (i := 5) (N := some 69) HT_.out #[true,true,true,true,false,true,false,false,false,false,false,false,false,false,false] ?_
               refine puq (i := 6) (N := some 70) HT_.out #[true,true,true,true,false,true,true,false,false,false,false,false,false,false,false] ?_
               refine puq (i := 10) (N := some 74) HT_.out #[true,true,true,true,false,true,true,false,false,false,true,false,false,false,false] ?_
               refine take_ (i := 4) (N := some 68) #[true,true,true,true,true,true,true,false,false,false,true,false,false,false,false] rfl rfl (zU HT_.out HW_.out (by kernel_rfl)) (fun _ _ _ h => h) (Or.inl ⟨by rfl,by rintro w' ⟨s0,s1,s2,s3,s4,s5,s6,s7,s8,s9,s10,s11,s12,s13,s14,s15,s16⟩;go_simp;with_reducible rfl⟩) hHeld hPq ?_
               refine puq (i := 7) (N := some 71) HT_.out #[true,true,true,true,true,true,true,true,false,false,true,false,false,false,false] ?_
               refine puq (i := 8) (N := some 72) HT_.out #[true,true,true,true,true,true,true,true,true,false,true,false,false,false,false] ?_
               refine take_ (i := 9) (N := some 73) (uQ 15 11) rfl rfl (zU HT_.out HW_.out (by kernel_rfl)) (fun _ _ _ h => h) (Or.inl ⟨by rfl,by rintro w' ⟨s0,s1,s2,s3,s4,s5,s6,s7,s8,s9,s10,s11,s12,s13,s14,s15,s16⟩;go_simp;with_reducible rfl⟩) hHeld hPq ?_
               refine take_ (i := 11) (N := some 75) (uQ 15 12) rfl rfl (zU HT_.out HW_.out (by kernel_rfl)) (fun _ _ _ h => h) (Or.inl ⟨by rfl,by rintro w' ⟨s0,s1,s2,s3,s4,s5,s6,s7,s8,s9,s10,s11,s12,s13,s14,s15,s16⟩;go_simp;with_reducible rfl⟩) hHeld hPq ?_
               refine zct (i := 12) (N := some 76) (uQ 15 13) rfl rfl (za0 HT_.out (by kernel_rfl)) (by decide) (fun K hK => ?_)
               refine zbG Tryz.func24 (by kernel_rfl) rfl #[.agg #[.int .i64 ((zd l0_2 (ji37)).f1.f0),.int .i64 ((zd l0_2 (ji37)).f1.f1),.slice yV ((zd l0_2 (ji37)).f1.f2).length yX,.slice yW ((zd l0_2 (ji37)).f1.f3).length yY,.int .i64 ((zd l0_2 (ji37)).f1.f4.f0),.int .i64 ((zd l0_2 (ji37)).f1.f4.f1)],.agg #[.int .i64 ((zd l0_2 x4_2).f1.f0),.int .i64 ((zd l0_2 x4_2).f1.f1),.slice yy ((zd l0_2 x4_2).f1.f2).length yA,.slice yz ((zd l0_2 x4_2).f1.f3).length yB,.int .i64 ((zd l0_2 x4_2).f1.f4.f0),.int .i64 ((zd l0_2 x4_2).f1.f4.f1)]] (by rfl) rfl rfl (by (try simp only [List.map_toArray,List.map_cons,List.map_nil]);first | done | (simp only [hji37];rfl) | rfl | (simp only [List.length_drop,List.length_take];rfl)) ?_
               with_reducible refine (zaC.calls ((zd l0_2 (ji37)).f1.f0) ((zd l0_2 (ji37)).f1.f1) _ _ ((zd l0_2 (ji37)).f1.f2) _ _ ((zd l0_2 (ji37)).f1.f3) ((zd l0_2 (ji37)).f1.f4.f0) ((zd l0_2 (ji37)).f1.f4.f1) ((zd l0_2 x4_2).f1.f0) ((zd l0_2 x4_2).f1.f1) _ _ ((zd l0_2 x4_2).f1.f2) _ _ ((zd l0_2 x4_2).f1.f3) ((zd l0_2 x4_2).f1.f4.f0) ((zd l0_2 x4_2).f1.f4.f1) true _ ?side1 ?side2 ?side3 ?side4 ?side5 ?side6 ?side7 ?side8 A40.out).mono ?_
               (case side1 => exact hKq (Kd.C_below yE.out HB.out))
               (case side2 => exact y8.out)
               (case side3 => exact hKq (Kd.C_below yF.out HB.out))
               (case side4 => exact y9.out)
               (case side5 => exact hKq (Kd.C_below yM.out HB.out))
               (case side6 => exact yK.out)
               (case side7 => exact hKq (Kd.C_below yN.out HB.out))
               (case side8 => exact yL.out)
               rintro e w43 ⟨rfl,hb⟩
               refine ⟨_,rfl,?_⟩
               have n0_ := za.mk (hbq yc.out hb)
               have n1_ := za.mk (hbq yb.out hb)
               have n2_ := za.mk (ze hCq hb)
               clear yc
               clear yb
               clear HB
               have yc := n0_
               have yb := n1_
               have HB := n2_
               clear n0_ n1_ n2_
               (try clear hb)
               (try clear hb2)
               (try clear hk)
               (try clear hi)
               refine hK.out _ _ ⟨(zb yc.out 0).trans rfl,(zb yc.out 1).trans rfl,(zb yc.out 2).trans rfl,(zb yb.out 0).trans rfl,(zb yb.out 1).trans rfl,(zb yb.out 2).trans rfl,(zb yb.out 3).trans rfl,(zb yb.out 4).trans rfl,(zb yb.out 5).trans rfl,(zb yb.out 6).trans rfl,((HB.out.cell (World.block_lt_of_cell? w _ yo)).trans yo),((HB.out.cell (World.block_lt_of_cell? w _ yp)).trans yp),((HB.out.cell (World.block_lt_of_cell? w _ yq)).trans yq),((HB.out.cell (World.block_lt_of_cell? w _ yr)).trans yr),((HB.out.cell (World.block_lt_of_cell? w _ yt)).trans yt),((HB.out.cell (World.block_lt_of_cell? w _ yu)).trans yu),((HB.out.cell (World.block_lt_of_cell? w _ yv)).trans yv)⟩ (fun hHeld => ?_)
               clear hK K
               refine za5 (a' := ?_) ?_ ?_
               rotate_left
               ·show Act.put _ (some 76) _ = _
                simp only [Act.put,List.setIfInBounds_toArray,List.set_cons_zero,List.set_cons_succ,zam,zap]
                rfl
               refine puq (i := 13) (N := some 77) HT_.out (uQ 15 14) ?_
               refine puq (i := 14) (N := some 78) HT_.out (uQ 15 15) ?_
               refine zbX (zaX HT_.out (by kernel_rfl)) ?_
               try go_wp2
               go_roundg kj12
               case measure => have := HJ2.out;have := HK2.out;have := HJ12.out;omega
               case rel => exact ⟨(wrap64 (x4_2 + 1)),(hDq),H',⟨by have := HJ2.out;have := HK2.out;have := HJ12.out;omega⟩,⟨hGq yc.out⟩,⟨by repeat (first | (with_reducible first | exact HB.out | apply zl | apply zi | apply zp | refine zm ?_ yD.out | refine zm ?_ yZ.out) | exact HB.out)⟩⟩
              ·replace c41 := Bool.eq_false_iff.mpr c41
               subst c41
               have H1 : (some false) = some r := by rw [if_neg (show ¬ (false = true) by decide)] at H;exact H
               clear H
               have H := H1
               clear H1
               obtain rfl := Option.some.inj H
               try go_wp2
               have n0_ := za.mk (zaf yc.out)
               have n1_ := za.mk (zaf yb.out)
               have n2_ := za.mk (zp HB.out)
               clear yc
               clear yb
               clear HB
               have yc := n0_
               have yb := n1_
               have HB := n2_
               clear n0_ n1_ n2_
               have Yd : 0 ≤ ((ji37) : Int) := hFq
               have Ye : (ji37) < (l0_2.length : Int) := hFq
               obtain ⟨Yl,yV,yX,yW,yY,Yv,ye,yf,yg,yh,yi,yj,yk,yI,yG,yJ,yH⟩ := zbe HR0_2.out (ji37) Yd Ye
               have yv := yk
               have yu := yj
               have yt := yi
               have yr := yh
               have yq := yg
               have yp := yf
               have yo := ye
               obtain rfl : yd = Yl := (by injection Yv)
               replace ye := (HB.out.cell (World.block_lt_of_cell? w _ ye)).trans ye
               replace yf := (HB.out.cell (World.block_lt_of_cell? w _ yf)).trans yf
               replace yg := (HB.out.cell (World.block_lt_of_cell? w _ yg)).trans yg
               replace yh := (HB.out.cell (World.block_lt_of_cell? w _ yh)).trans yh
               replace yi := (HB.out.cell (World.block_lt_of_cell? w _ yi)).trans yi
               replace yj := (HB.out.cell (World.block_lt_of_cell? w _ yj)).trans yj
               replace yk := (HB.out.cell (World.block_lt_of_cell? w _ yk)).trans yk
               have yE := za.mk yG
               have y8 := za.mk yI
               clear yG yI
               have yF := za.mk yH
               have y9 := za.mk yJ
               clear yH yJ
               replace Yd := eq_true Yd
               replace Ye := eq_true Ye
               refine zbV (n := 15) (S := fun w' => w'.cell? ⟨yx,0,none⟩ = some (.int .i64 a0_0) ∧ w'.cell? ⟨yx,1,none⟩ = some (.int .i64 a0_1) ∧ w'.cell? ⟨yx,2,none⟩ = some (.slice (some yd) l0_2.length c0_2) ∧ w'.cell? ⟨yn,0,none⟩ = some (.string ((zd l0_2 x4_2).f0)) ∧ w'.cell? ⟨yn,1,none⟩ = some (.int .i64 ((zd l0_2 x4_2).f1.f0)) ∧ w'.cell? ⟨yn,2,none⟩ = some (.int .i64 ((zd l0_2 x4_2).f1.f1)) ∧ w'.cell? ⟨yn,3,none⟩ = some (.slice yy ((zd l0_2 x4_2).f1.f2).length yA) ∧ w'.cell? ⟨yn,4,none⟩ = some (.slice yz ((zd l0_2 x4_2).f1.f3).length yB) ∧ w'.cell? ⟨yn,5,none⟩ = some (.int .i64 ((zd l0_2 x4_2).f1.f4.f0)) ∧ w'.cell? ⟨yn,6,none⟩ = some (.int .i64 ((zd l0_2 x4_2).f1.f4.f1)) ∧ w'.cell? (yd.add (((ji37)).toNat * 7)) = some (.string ((zd l0_2 (ji37)).f0)) ∧ w'.cell? ⟨(yd.add (((ji37)).toNat * 7)).block,(yd.add (((ji37)).toNat * 7)).off + 1,none⟩ = some (.int .i64 ((zd l0_2 (ji37)).f1.f0)) ∧ w'.cell? ⟨(yd.add (((ji37)).toNat * 7)).block,(yd.add (((ji37)).toNat * 7)).off + 2,none⟩ = some (.int .i64 ((zd l0_2 (ji37)).f1.f1)) ∧ w'.cell? ⟨(yd.add (((ji37)).toNat * 7)).block,(yd.add (((ji37)).toNat * 7)).off + 3,none⟩ = some (.slice yV ((zd l0_2 (ji37)).f1.f2).length yX) ∧ w'.cell? ⟨(yd.add (((ji37)).toNat * 7)).block,(yd.add (((ji37)).toNat * 7)).off + 4,none⟩ = some (.slice yW ((zd l0_2 (ji37)).f1.f3).length yY) ∧ w'.cell? ⟨(yd.add (((ji37)).toNat * 7)).block,(yd.add (((ji37)).toNat * 7)).off + 5,none⟩ = some (.int .i64 ((zd l0_2 (ji37)).f1.f4.f0)) ∧ w'.cell? ⟨(yd.add (((ji37)).toNat * 7)).block,(yd.add (((ji37)).toNat * 7)).off + 6,none⟩ = some (.int .i64 ((zd l0_2 (ji37)).f1.f4.f1))) (ds := []) (uQ 15 0) (by kernel_rfl) rfl rfl ⟨(zb yc.out 0).trans rfl,(zb yc.out 1).trans rfl,(zb yc.out 2).trans rfl,(zb yb.out 0).trans rfl,(zb yb.out 1).trans rfl,(zb yb.out 2).trans rfl,(zb yb.out 3).trans rfl,(zb yb.out 4).trans rfl,(zb yb.out 5).trans rfl,(zb yb.out 6).trans rfl,((HB.out.cell (World.block_lt_of_cell? w _ yo)).trans yo),((HB.out.cell (World.block_lt_of_cell? w _ yp)).trans yp),((HB.out.cell (World.block_lt_of_cell? w _ yq)).trans yq),((HB.out.cell (World.block_lt_of_cell? w _ yr)).trans yr),((HB.out.cell (World.block_lt_of_cell? w _ yt)).trans yt),((HB.out.cell (World.block_lt_of_cell? w _ yu)).trans yu),((HB.out.cell (World.block_lt_of_cell? w _ yv)).trans yv)⟩ (fun hHeld => ?_);refine zaQ zk.tab12 zk.bits12 (fun HT_ HW_ => ?_)
               generalize wc.drew = w44 at yc yb HB yE yF ye yf yg yh yi yj yk hHeld ⊢
               refine puq (i := 0) (N := some 64) HT_.out (uQ 15 1) ?_
               refine puq (i := 1) (N := some 65) HT_.out (uQ 15 2) ?_
               refine puq (i := 2) (N := some 66) HT_.out (uQ 15 3) ?_
               refine puq (i := 3) (N := some 67) HT_.out (uQ 15 4) ?_
               refine puq (i := 5) (N := some 69) HT_.out #[true,true,true,true,false,true,false,false,false,false,false,false,false,false,false] ?_
               refine puq (i := 6) (N := some 70) HT_.out #[true,true,true,true,false,true,true,false,false,false,false,false,false,false,false] ?_
               refine puq (i := 10) (N := some 74) HT_.out #[true,true,true,true,false,true,true,false,false,false,true,false,false,false,false] ?_
               refine take_ (i := 4) (N := some 68) #[true,true,true,true,true,true,true,false,false,false,true,false,false,false,false] rfl rfl (zU HT_.out HW_.out (by kernel_rfl)) (fun _ _ _ h => h) (Or.inl ⟨by rfl,by rintro w' ⟨s0,s1,s2,s3,s4,s5,s6,s7,s8,s9,s10,s11,s12,s13,s14,s15,s16⟩;go_simp;with_reducible rfl⟩) hHeld hPq ?_
               refine puq (i := 7) (N := some 71) HT_.out #[true,true,true,true,true,true,true,true,false,false,true,false,false,false,false] ?_
               refine puq (i := 8) (N := some 72) HT_.out #[true,true,true,true,true,true,true,true,true,false,true,false,false,false,false] ?_
               refine take_ (i := 9) (N := some 73) (uQ 15 11) rfl rfl (zU HT_.out HW_.out (by kernel_rfl)) (fun _ _ _ h => h) (Or.inl ⟨by rfl,by rintro w' ⟨s0,s1,s2,s3,s4,s5,s6,s7,s8,s9,s10,s11,s12,s13,s14,s15,s16⟩;go_simp;with_reducible rfl⟩) hHeld hPq ?_
               refine take_ (i := 11) (N := some 75) (uQ 15 12) rfl rfl (zU HT_.out HW_.out (by kernel_rfl)) (fun _ _ _ h => h) (Or.inl ⟨by rfl,by rintro w' ⟨s0,s1,s2,s3,s4,s5,s6,s7,s8,s9,s10,s11,s12,s13,s14,s15,s16⟩;go_simp;with_reducible rfl⟩) hHeld hPq ?_
               refine zct (i := 12) (N := some 76) (uQ 15 13) rfl rfl (za0 HT_.out (by kernel_rfl)) (by decide) (fun K hK => ?_)
               refine zbG Tryz.func24 (by kernel_rfl) rfl #[.agg #[.int .i64 ((zd l0_2 (ji37)).f1.f0),.int .i64 ((zd l0_2 (ji37)).f1.f1),.slice yV ((zd l0_2 (ji37)).f1.f2).length yX,.slice yW ((zd l0_2 (ji37)).f1.f3).length yY,.int .i64 ((zd l0_2 (ji37)).f1.f4.f0),.int .i64 ((zd l0_2 (ji37)).f1.f4.f1)],.agg #[.int .i64 ((zd l0_2 x4_2).f1.f0),.int .i64 ((zd l0_2 x4_2).f1.f1),.slice yy ((zd l0_2 x4_2).f1.f2).length yA,.slice yz ((zd l0_2 x4_2).f1.f3).length yB,.int .i64 ((zd l0_2 x4_2).f1.f4.f0),.int .i64 ((zd l0_2 x4_2).f1.f4.f1)]] (by rfl) rfl rfl (by (try simp only [List.map_toArray,List.map_cons,List.map_nil]);first | done | (simp only [hji37];rfl) | rfl | (simp only [List.length_drop,List.length_take];rfl)) ?_
               with_reducible refine (zaC.calls ((zd l0_2 (ji37)).f1.f0) ((zd l0_2 (ji37)).f1.f1) _ _ ((zd l0_2 (ji37)).f1.f2) _ _ ((zd l0_2 (ji37)).f1.f3) ((zd l0_2 (ji37)).f1.f4.f0) ((zd l0_2 (ji37)).f1.f4.f1) ((zd l0_2 x4_2).f1.f0) ((zd l0_2 x4_2).f1.f1) _ _ ((zd l0_2 x4_2).f1.f2) _ _ ((zd l0_2 x4_2).f1.f3) ((zd l0_2 x4_2).f1.f4.f0) ((zd l0_2 x4_2).f1.f4.f1) false _ ?side1 ?side2 ?side3 ?side4 ?side5 ?side6 ?side7 ?side8 A40.out).mono ?_
               (case side1 => exact hKq (Kd.C_below yE.out HB.out))
               (case side2 => exact y8.out)
               (case side3 => exact hKq (Kd.C_below yF.out HB.out))
               (case side4 => exact y9.out)
               (case side5 => exact hKq (Kd.C_below yM.out HB.out))
               (case side6 => exact yK.out)
               (case side7 => exact hKq (Kd.C_below yN.out HB.out))
               (case side8 => exact yL.out)
               rintro e w45 ⟨rfl,hb⟩
               refine ⟨_,rfl,?_⟩
               have n0_ := za.mk (hbq yc.out hb)
               have n1_ := za.mk (hbq yb.out hb)
               have n2_ := za.mk (ze hCq hb)
               clear yc
               clear yb
               clear HB
               have yc := n0_
               have yb := n1_
               have HB := n2_
               clear n0_ n1_ n2_
               (try clear hb)
               (try clear hb2)
               (try clear hk)
               (try clear hi)
               refine hK.out _ _ ⟨(zb yc.out 0).trans rfl,(zb yc.out 1).trans rfl,(zb yc.out 2).trans rfl,(zb yb.out 0).trans rfl,(zb yb.out 1).trans rfl,(zb yb.out 2).trans rfl,(zb yb.out 3).trans rfl,(zb yb.out 4).trans rfl,(zb yb.out 5).trans rfl,(zb yb.out 6).trans rfl,((HB.out.cell (World.block_lt_of_cell? w _ yo)).trans yo),((HB.out.cell (World.block_lt_of_cell? w _ yp)).trans yp),((HB.out.cell (World.block_lt_of_cell? w _ yq)).trans yq),((HB.out.cell (World.block_lt_of_cell? w _ yr)).trans yr),((HB.out.cell (World.block_lt_of_cell? w _ yt)).trans yt),((HB.out.cell (World.block_lt_of_cell? w _ yu)).trans yu),((HB.out.cell (World.block_lt_of_cell? w _ yv)).trans yv)⟩ (fun hHeld => ?_)
               clear hK K
               refine za5 (a' := ?_) ?_ ?_
               rotate_left
               ·show Act.put _ (some 76) _ = _
                simp only [Act.put,List.setIfInBounds_toArray,List.set_cons_zero,List.set_cons_succ,zam,zap]
                rfl
               refine puq (i := 13) (N := some 77) HT_.out (uQ 15 14) ?_
               refine puq (i := 14) (N := some 78) HT_.out (uQ 15 15) ?_
               refine zbX (zaX HT_.out (by kernel_rfl)) ?_
               try go_wp2
               go_ret
               exact ⟨by first | rfl | (simp [zco,zcp] <;> rfl) | (simp only [← hji37];first | rfl | (simp [zco,zcp] <;> rfl)) | (simp [*,zco,zcp] <;> rfl),hCq⟩
             ·rw [if_neg c39] at H
              exact absurd H (by simp)
            ·rw [if_neg c38] at H
             exact absurd H (by simp)
           ·rw [if_neg c36] at H
            have c36b0 : decide (0 < x4_2) = false := decide_eq_false c36
            clear c36
            have H' := za.mk H
            clear H
            try go_wp2
            have n0_ := za.mk (zaf yc.out)
            have n1_ := za.mk (zaf yb.out)
            have n2_ := za.mk (zp HB.out)
            clear yc
            clear yb
            clear HB
            have yc := n0_
            have yb := n1_
            have HB := n2_
            clear n0_ n1_ n2_
            refine zbV (n := 15) (S := fun w' => True) (ds := []) (uQ 15 0) (by kernel_rfl) rfl rfl trivial (fun hHeld => ?_);refine zaQ zk.tab12 zk.bits12 (fun HT_ HW_ => ?_)
            generalize wc.drew = w46 at yc yb HB hHeld ⊢
            refine puq (i := 0) (N := some 64) HT_.out (uQ 15 1) ?_
            refine puq (i := 1) (N := some 65) HT_.out (uQ 15 2) ?_
            refine puq (i := 2) (N := some 66) HT_.out (uQ 15 3) ?_
            refine zdF (i := 3) (N := some 67) (v := undef) (a' := ?_) (uQ 15 4) rfl rfl (zcH HT_.out (by kernel_rfl)) (fun _ _ _ h => h) (Or.inr ⟨by rfl,rfl⟩) ?_ ?_
            rotate_left
            ·simp only [Act.put,List.setIfInBounds_toArray,List.set_cons_zero,List.set_cons_succ,zam,zap]
             rfl
            refine zdF (i := 4) (N := some 68) (v := undef) (a' := ?_) (uQ 15 5) rfl rfl (zcH HT_.out (by kernel_rfl)) (fun _ _ _ h => h) (Or.inr ⟨by rfl,rfl⟩) ?_ ?_
            rotate_left
            ·simp only [Act.put,List.setIfInBounds_toArray,List.set_cons_zero,List.set_cons_succ,zam,zap]
             rfl
            refine zdF (i := 5) (N := some 69) (v := undef) (a' := ?_) (uQ 15 6) rfl rfl (zcH HT_.out (by kernel_rfl)) (fun _ _ _ h => h) (Or.inr ⟨by rfl,rfl⟩) ?_ ?_
            rotate_left
            ·simp only [Act.put,List.setIfInBounds_toArray,List.set_cons_zero,List.set_cons_succ,zam,zap]
             rfl
            refine zdF (i := 6) (N := some 70) (v := undef) (a' := ?_) (uQ 15 7) rfl rfl (zcH HT_.out (by kernel_rfl)) (fun _ _ _ h => h) (Or.inr ⟨by rfl,rfl⟩) ?_ ?_
            rotate_left
            ·simp only [Act.put,List.setIfInBounds_toArray,List.set_cons_zero,List.set_cons_succ,zam,zap]
             rfl
            refine zdF (i := 7) (N := some 71) (v := undef) (a' := ?_) (uQ 15 8) rfl rfl (zcH HT_.out (by kernel_rfl)) (fun _ _ _ h => h) (Or.inr ⟨by rfl,rfl⟩) ?_ ?_
            rotate_left
            ·simp only [Act.put,List.setIfInBounds_toArray,List.set_cons_zero,List.set_cons_succ,zam,zap]
             rfl
            refine zdF (i := 8) (N := some 72) (v := undef) (a' := ?_) (uQ 15 9) rfl rfl (zcH HT_.out (by kernel_rfl)) (fun _ _ _ h => h) (Or.inr ⟨by rfl,rfl⟩) ?_ ?_
            rotate_left
            ·simp only [Act.put,List.setIfInBounds_toArray,List.set_cons_zero,List.set_cons_succ,zam,zap]
             rfl
            refine zdF (i := 9) (N := some 73) (v := undef) (a' := ?_) (uQ 15 10) rfl rfl (zcH HT_.out (by kernel_rfl)) (fun _ _ _ h => h) (Or.inr ⟨by rfl,rfl⟩) ?_ ?_
            rotate_left
            ·simp only [Act.put,List.setIfInBounds_toArray,List.set_cons_zero,List.set_cons_succ,zam,zap]
             rfl
            refine zdF (i := 10) (N := some 74) (v := undef) (a' := ?_) (uQ 15 11) rfl rfl (zcH HT_.out (by kernel_rfl)) (fun _ _ _ h => h) (Or.inr ⟨by rfl,rfl⟩) ?_ ?_
            rotate_left
            ·simp only [Act.put,List.setIfInBounds_toArray,List.set_cons_zero,List.set_cons_succ,zam,zap]
             rfl
            refine zdF (i := 11) (N := some 75) (v := undef) (a' := ?_) (uQ 15 12) rfl rfl (zcH HT_.out (by kernel_rfl)) (fun _ _ _ h => h) (Or.inr ⟨by rfl,rfl⟩) ?_ ?_
            rotate_left
            ·simp only [Act.put,List.setIfInBounds_toArray,List.set_cons_zero,List.set_cons_succ,zam,zap]
             rfl
            refine zdF (i := 12) (N := some 76) (v := undef) (a' := ?_) (uQ 15 13) rfl rfl (zcH HT_.out (by kernel_rfl)) (fun _ _ _ h => h) (Or.inr ⟨by rfl,rfl⟩) ?_ ?_
            rotate_left
            ·simp only [Act.put,List.setIfInBounds_toArray,List.set_cons_zero,List.set_cons_succ,zam,zap]
             rfl
            refine zdF (i := 13) (N := some 77) (v := undef) (a' := ?_) (uQ 15 14) rfl rfl (zcH HT_.out (by kernel_rfl)) (fun _ _ _ h => h) (Or.inr ⟨by rfl,rfl⟩) ?_ ?_
            rotate_left
            ·simp only [Act.put,List.setIfInBounds_toArray,List.set_cons_zero,List.set_cons_succ,zam,zap]
             rfl
            refine puq (i := 14) (N := some 78) HT_.out (uQ 15 15) ?_
            refine zbX (zaX HT_.out (by kernel_rfl)) ?_
            try go_wp2
            go_roundg kj12
            case measure => have := HJ2.out;have := HK2.out;have := HJ12.out;omega
            case rel => exact ⟨(wrap64 (x4_2 + 1)),(hDq),H',⟨by have := HJ2.out;have := HK2.out;have := HJ12.out;omega⟩,⟨hGq yc.out⟩,⟨by repeat (first | (with_reducible first | exact HB.out | apply zl | apply zi | apply zp | refine zm ?_ yD.out | refine zm ?_ yZ.out) | exact HB.out)⟩⟩
       ·rw [if_neg c10] at H
        exact absurd H (by simp)
      ·rw [if_neg c9] at H
       have c9b0 : decide (x4_2 < (l0_2.length : Int)) = false := decide_eq_false c9
       clear c9
       obtain rfl := Option.some.inj H
       obtain ⟨hcz47_0,hcz47_1,hcz47_2,hfz47_0,hfz47_1,hfz47_2⟩ := hcq3 yc.out
       go_wp2
       go_ret
       exact ⟨hHq,hCq⟩
end Go.Proofs.YtndjfdakflaggaaGreat.Px