/- Part 29 of 36 of the proof of the law DagAdds: what is proved is the statement at the end of the last part; its conditions are those of the given row. -/
import Derived.Test.YtlkfelmbhldgfaaGreatZDagAddsb
namespace Go.Proofs.YtlkfelmbhldgfaaGreat.Px
open Go.RowKit Go.Proofs.YtlkfelmbhldgfaaGreatW.PrintWords Go.Proofs.YtlkfelmbhldgfaaGreatW.PrintLast Go.Proofs.YtlkfelmbhldgfaaGreatW.PrintMore
attribute [local go_sem] zA zC zH zI zv zw zB zD
set_option linter.unusedVariables false
set_option linter.unusedSimpArgs false
mutual
def zt.l0 : Nat → List (S42) → List ByteArray → Int → Int → Int → List (S67) → List ByteArray → Int → Int → Option (List ByteArray)
 | 0,_,_,_,_,_,_,_,_,_ => none
 | k + 1,x5,x6,x7,x221000,x221001,x221002,x221003,x221004,x221005 => if x7 < (x221003.length : Int) then (zt.l1 k x5 x6 x7 false 0 x221000 x221001 x221002 x221003 x221004 x221005) else (some x6)
def zt.l1 : Nat → List (S42) → List ByteArray → Int → Bool → Int → Int → Int → List (S67) → List ByteArray → Int → Int → Option (List ByteArray)
 | 0,_,_,_,_,_,_,_,_,_,_,_ => none
 | k + 1,x5,x6,x7,x8,x9,x221000,x221001,x221002,x221003,x221004,x221005 => if x9 < (x5.length : Int) then (if x8 = true then (zt.l1 k x5 x6 x7 true (wrap64 (x9 + 1)) x221000 x221001 x221002 x221003 x221004 x221005) else (if 0 ≤ x9 then (if 0 ≤ x7 then (if x7 < (x221003.length : Int) then (zt.l1 k x5 x6 x7 (((zd x5 x9).f0).toList == (zz ByteArray.empty x221003 x7).toList) (wrap64 (x9 + 1)) x221000 x221001 x221002 x221003 x221004 x221005) else (none)) else (none)) else (none))) else (if x8 = true then (zt.l0 k x5 x6 (wrap64 (x7 + 1)) x221000 x221001 x221002 x221003 x221004 x221005) else (if 0 ≤ x7 then (if x7 < (x221003.length : Int) then (if x6.length < 8796093022208 then (zt.l0 k x5 (x6 ++ [zz ByteArray.empty x221003 x7]) (wrap64 (x7 + 1)) x221000 x221001 x221002 x221003 x221004 x221005) else (none)) else (none)) else (none)))
end
def zt.f (k : Nat) (a0_0 : Int) (a0_1 : Int) (l0_2 : List (S42)) (a1_0 : Int) (a1_1 : Int) (l1_2 : List (S67)) (l1_3 : List ByteArray) (a1_4 : Int) (a1_5 : Int) : Option (List ByteArray) := if (wrap64 (a1_1 - 1)) ≤ a0_1 then (some ([] : List ByteArray)) else ((zR.f k a0_0 a0_1 l0_2 (wrap64 (a1_1 - 1))).bind fun t221 => (zt.l0 k t221 ([] : List ByteArray) 0 a1_0 a1_1 l1_2 l1_3 a1_4 a1_5))
set_option maxHeartbeats 8000000 in
set_option maxRecDepth 100000 in
theorem zt.calls (k : Nat) (a0_0 : Int) (a0_1 : Int) (A0_2 : Option Addr) (c0_2 : Nat) (l0_2 : List (S42)) (a1_0 : Int) (a1_1 : Int) (A1_2 : Option Addr) (c1_2 : Nat) (l1_2 : List (S67)) (A1_3 : Option Addr) (c1_3 : Nat) (l1_3 : List ByteArray) (a1_4 : Int) (a1_5 : Int) (r : List ByteArray) (w : World) (hr0_2 : Kd.C k42 w A0_2 l0_2.length l0_2) (hc0_2 : l0_2.length ≤ c0_2) (hr1_2 : Kd.C k67 w A1_2 l1_2.length l1_2) (hc1_2 : l1_2.length ≤ c1_2) (hr1_3 : Kd.C Kd.string w A1_3 l1_3.length l1_3) (hc1_3 : l1_3.length ≤ c1_3) (h : zt.f k a0_0 a0_1 l0_2 a1_0 a1_1 l1_2 l1_3 a1_4 a1_5 = some r) :
  Calls Tryz.prog 24 #[.agg #[.int .i64 a0_0,.int .i64 a0_1,.slice A0_2 l0_2.length c0_2],.agg #[.int .i64 a1_0,.int .i64 a1_1,.slice A1_2 l1_2.length c1_2,.slice A1_3 l1_3.length c1_3,.int .i64 a1_4,.int .i64 a1_5]] w fun e w' => ∃ v0_ : Value,e = .returned (v0_) ∧ Kd.R Kd.string 9 w' w.heap.size (fun _ => True) v0_ r ∧ Below w.heap.size w w' := by
 have hu24 := Tryz.underlying24
 have hu30 := Tryz.underlying30
 have HR0_2 := za.mk hr0_2
 have HC0_2 := za.mk hc0_2
 clear hr0_2 hc0_2
 have HR1_2 := za.mk hr1_2
 have HC1_2 := za.mk hc1_2
 clear hr1_2 hc1_2
 have HR1_3 := za.mk hr1_3
 have HC1_3 := za.mk hc1_3
 clear hr1_3 hc1_3
 have HB := za.mk (Below.refl w.heap.size w)
 have H : (if (wrap64 (a1_1 - 1)) ≤ a0_1 then (some ([] : List ByteArray)) else ((zR.f k a0_0 a0_1 l0_2 (wrap64 (a1_1 - 1))).bind fun t221 => (zt.l0 k t221 ([] : List ByteArray) 0 a1_0 a1_1 l1_2 l1_3 a1_4 a1_5))) = some r := h
 clear h
 by_cases c3 : (wrap64 (a1_1 - 1)) ≤ a0_1
 ·rw [if_pos c3] at H
  have c3b0 : decide ((wrap64 (a1_1 - 1)) ≤ a0_1) = true := decide_eq_true c3
  clear c3
  obtain rfl := Option.some.inj H
  go_enter Tryz.func24,Tryz.ntmps24
  go_wp2_with (first | ((with_reducible refine zn (N := 2) rfl ?_);refine zl rfl (N := 2) rfl (cs := #[.int .i64 a0_0,.int .i64 a0_1,.slice A0_2 l0_2.length c0_2]) (t := 24) hrq ?_;intro gb219 hg w4 hbox hb;have n_ := haq (ze hBq hb) <| haq (hbox) <| haq ((by rw [hg];exact (zg hBq) : w.heap.size ≤ gb219)) <| haq ((by rw [hg];exact (zg hBq) : w.heap.size ≤ gb219)) <| trivial;clear HB;obtain ⟨HB,BK219,GW219,GE219,_⟩ := n_;clear hb hbox hg) | ((with_reducible refine zn (N := 3) rfl ?_);refine zl rfl (N := 3) rfl (cs := #[.int .i64 a1_0,.int .i64 a1_1,.slice A1_2 l1_2.length c1_2,.slice A1_3 l1_3.length c1_3,.int .i64 a1_4,.int .i64 a1_5]) (t := 30) hrq ?_;intro gb220 hg w5 hbox hb;have n_ := haq (hbq BK219.out hb) <| haq (ze hCq hb) <| haq (hbox) <| haq ((by rw [hg];exact (zg hCq) : w.heap.size ≤ gb220)) <| haq ((by rw [hg];exact (zg hCq) : w.heap.size ≤ gb220)) <| haq (hnq hg BK219.out) <| haq (hmq hg BK219.out) <| trivial;clear BK219 HB;obtain ⟨BK219,HB,BK220,GW220,GE220,NB219_220,NB220_219,_⟩ := n_;clear hb hbox hg;have hnb6 := NB220_219.out;have hnc6 := NB219_220.out;obtain ⟨hcz7_0,hcz7_1,hcz7_2,hcz7_3,hcz7_4,hcz7_5,hfz7_0,hfz7_1,hfz7_2,hfz7_3,hfz7_4,hfz7_5⟩ := hcq6 BK220.out;obtain ⟨hcz8_0,hcz8_1,hcz8_2,hfz8_0,hfz8_1,hfz8_2⟩ := hcq3 BK219.out))
  repeat (go_quiet (first | ((with_reducible refine zn (N := 2) rfl ?_);refine zl rfl (N := 2) rfl (cs := #[.int .i64 a0_0,.int .i64 a0_1,.slice A0_2 l0_2.length c0_2]) (t := 24) hrq ?_;intro gb219 hg w4 hbox hb;have n_ := haq (ze hBq hb) <| haq (hbox) <| haq ((by rw [hg];exact (zg hBq) : w.heap.size ≤ gb219)) <| haq ((by rw [hg];exact (zg hBq) : w.heap.size ≤ gb219)) <| trivial;clear HB;obtain ⟨HB,BK219,GW219,GE219,_⟩ := n_;clear hb hbox hg) | ((with_reducible refine zn (N := 3) rfl ?_);refine zl rfl (N := 3) rfl (cs := #[.int .i64 a1_0,.int .i64 a1_1,.slice A1_2 l1_2.length c1_2,.slice A1_3 l1_3.length c1_3,.int .i64 a1_4,.int .i64 a1_5]) (t := 30) hrq ?_;intro gb220 hg w5 hbox hb;have n_ := haq (hbq BK219.out hb) <| haq (ze hCq hb) <| haq (hbox) <| haq ((by rw [hg];exact (zg hCq) : w.heap.size ≤ gb220)) <| haq ((by rw [hg];exact (zg hCq) : w.heap.size ≤ gb220)) <| haq (hnq hg BK219.out) <| haq (hmq hg BK219.out) <| trivial;clear BK219 HB;obtain ⟨BK219,HB,BK220,GW220,GE220,NB219_220,NB220_219,_⟩ := n_;clear hb hbox hg;have hnb6 := NB220_219.out;have hnc6 := NB219_220.out;obtain ⟨hcz7_0,hcz7_1,hcz7_2,hcz7_3,hcz7_4,hcz7_5,hfz7_0,hfz7_1,hfz7_2,hfz7_3,hfz7_4,hfz7_5⟩ := hcq6 BK220.out;obtain ⟨hcz8_0,hcz8_1,hcz8_2,hfz8_0,hfz8_1,hfz8_2⟩ := hcq3 BK219.out));try go_wp2_with (first | ((with_reducible refine zn (N := 2) rfl ?_);refine zl rfl (N := 2) rfl (cs := #[.int .i64 a0_0,.int .i64 a0_1,.slice A0_2 l0_2.length c0_2]) (t := 24) hrq ?_;intro gb219 hg w4 hbox hb;have n_ := haq (ze hBq hb) <| haq (hbox) <| haq ((by rw [hg];exact (zg hBq) : w.heap.size ≤ gb219)) <| haq ((by rw [hg];exact (zg hBq) : w.heap.size ≤ gb219)) <| trivial;clear HB;obtain ⟨HB,BK219,GW219,GE219,_⟩ := n_;clear hb hbox hg) | ((with_reducible refine zn (N := 3) rfl ?_);refine zl rfl (N := 3) rfl (cs := #[.int .i64 a1_0,.int .i64 a1_1,.slice A1_2 l1_2.length c1_2,.slice A1_3 l1_3.length c1_3,.int .i64 a1_4,.int .i64 a1_5]) (t := 30) hrq ?_;intro gb220 hg w5 hbox hb;have n_ := haq (hbq BK219.out hb) <| haq (ze hCq hb) <| haq (hbox) <| haq ((by rw [hg];exact (zg hCq) : w.heap.size ≤ gb220)) <| haq ((by rw [hg];exact (zg hCq) : w.heap.size ≤ gb220)) <| haq (hnq hg BK219.out) <| haq (hmq hg BK219.out) <| trivial;clear BK219 HB;obtain ⟨BK219,HB,BK220,GW220,GE220,NB219_220,NB220_219,_⟩ := n_;clear hb hbox hg;have hnb6 := NB220_219.out;have hnc6 := NB219_220.out;obtain ⟨hcz7_0,hcz7_1,hcz7_2,hcz7_3,hcz7_4,hcz7_5,hfz7_0,hfz7_1,hfz7_2,hfz7_3,hfz7_4,hfz7_5⟩ := hcq6 BK220.out;obtain ⟨hcz8_0,hcz8_1,hcz8_2,hfz8_0,hfz8_1,hfz8_2⟩ := hcq3 BK219.out)))
  go_ret
  exact ⟨_,hHq,by first | exact Kd.R_nil _ _ _ _ _ | exact Kd.N_nil _ _ _ _ _ | exact Kd.V_nil _ _ _ _ _ | exact Kd.Q_nil _ _ _ _ _ | exact Kd.S_nil _ _ _ _ _,hCq⟩
 ·rw [if_neg c3] at H
  have c3b0 : decide ((wrap64 (a1_1 - 1)) ≤ a0_1) = false := decide_eq_false c3
  clear c3
  replace H := Option.bind_eq_some_iff.mp H
  obtain ⟨t221,A90,H⟩ := H
  replace H : (zt.l0 k t221 ([] : List ByteArray) 0 a1_0 a1_1 l1_2 l1_3 a1_4 a1_5) = some r := H
  have A9 := za.mk A90
  clear A90
  have H' := za.mk H
  clear H
  go_enter Tryz.func24,Tryz.ntmps24
  go_wp2_with (first | ((with_reducible refine zn (N := 2) rfl ?_);refine zl rfl (N := 2) rfl (cs := #[.int .i64 a0_0,.int .i64 a0_1,.slice A0_2 l0_2.length c0_2]) (t := 24) hrq ?_;intro gb219 hg w10 hbox hb;have n_ := haq (ze hBq hb) <| haq (hbox) <| haq ((by rw [hg];exact (zg hBq) : w.heap.size ≤ gb219)) <| haq ((by rw [hg];exact (zg hBq) : w.heap.size ≤ gb219)) <| trivial;clear HB;obtain ⟨HB,BK219,GW219,GE219,_⟩ := n_;clear hb hbox hg) | ((with_reducible refine zn (N := 3) rfl ?_);refine zl rfl (N := 3) rfl (cs := #[.int .i64 a1_0,.int .i64 a1_1,.slice A1_2 l1_2.length c1_2,.slice A1_3 l1_3.length c1_3,.int .i64 a1_4,.int .i64 a1_5]) (t := 30) hrq ?_;intro gb220 hg w11 hbox hb;have n_ := haq (hbq BK219.out hb) <| haq (ze hCq hb) <| haq (hbox) <| haq ((by rw [hg];exact (zg hCq) : w.heap.size ≤ gb220)) <| haq ((by rw [hg];exact (zg hCq) : w.heap.size ≤ gb220)) <| haq (hnq hg BK219.out) <| haq (hmq hg BK219.out) <| trivial;clear BK219 HB;obtain ⟨BK219,HB,BK220,GW220,GE220,NB219_220,NB220_219,_⟩ := n_;clear hb hbox hg;have hnb12 := NB220_219.out;have hnc12 := NB219_220.out;obtain ⟨hcz13_0,hcz13_1,hcz13_2,hcz13_3,hcz13_4,hcz13_5,hfz13_0,hfz13_1,hfz13_2,hfz13_3,hfz13_4,hfz13_5⟩ := hcq6 BK220.out;obtain ⟨hcz14_0,hcz14_1,hcz14_2,hfz14_0,hfz14_1,hfz14_2⟩ := hcq3 BK219.out) | (go_at_call 40;(with_reducible refine (zR.calls k a0_0 a0_1 (fun k_ => k_ < w.heap.size) _ _ l0_2 (wrap64 (a1_1 - 1)) t221 _ ?side1 A9.out).mono ?_);(case side1 => exact Kd.V_mk HC0_2.out (Kd.F_below (Kd.C_F zbm HR0_2.out) hCq));rintro e w15 ⟨v222,rfl,ho0,hb⟩;have n_ := haq (Kd.N_lower (Kd.N_mono (ok' := fun k_ => k_ ≠ gb219 ∧ k_ ≠ gb220) ho0 (fun k_ hk_ => ⟨Or.elim hk_ (fun hs_ => fun e_ => Nat.not_le.2 hs_ (by rw [e_];exact GW219.out)) (fun hn_ => (Kd.freshB (g := gb219) (o := .cells #[.int .i64 a0_0,.int .i64 a0_1,.slice A0_2 l0_2.length c0_2] 24 (0,0)) (hGq BK219.out) k_ hn_)),Or.elim hk_ (fun hs_ => fun e_ => Nat.not_le.2 hs_ (by rw [e_];exact GW220.out)) (fun hn_ => (Kd.freshB (g := gb220) (o := .cells #[.int .i64 a1_0,.int .i64 a1_1,.slice A1_2 l1_2.length c1_2,.slice A1_3 l1_3.length c1_3,.int .i64 a1_4,.int .i64 a1_5] 30 (0,0)) (hGq BK220.out) k_ hn_))⟩)) (zg hCq)) <| haq (hbq BK219.out hb) <| haq (hbq BK220.out hb) <| haq (ze hCq hb) <| trivial;clear BK219 BK220 HB;obtain ⟨HO223,BK219,BK220,HB,_⟩ := n_;(try clear hb);(try clear hb2);(try clear hk);(try clear hi);(try clear ho0)))
  repeat (go_quiet (first | ((with_reducible refine zn (N := 2) rfl ?_);refine zl rfl (N := 2) rfl (cs := #[.int .i64 a0_0,.int .i64 a0_1,.slice A0_2 l0_2.length c0_2]) (t := 24) hrq ?_;intro gb219 hg w10 hbox hb;have n_ := haq (ze hBq hb) <| haq (hbox) <| haq ((by rw [hg];exact (zg hBq) : w.heap.size ≤ gb219)) <| haq ((by rw [hg];exact (zg hBq) : w.heap.size ≤ gb219)) <| trivial;clear HB;obtain ⟨HB,BK219,GW219,GE219,_⟩ := n_;clear hb hbox hg) | ((with_reducible refine zn (N := 3) rfl ?_);refine zl rfl (N := 3) rfl (cs := #[.int .i64 a1_0,.int .i64 a1_1,.slice A1_2 l1_2.length c1_2,.slice A1_3 l1_3.length c1_3,.int .i64 a1_4,.int .i64 a1_5]) (t := 30) hrq ?_;intro gb220 hg w11 hbox hb;have n_ := haq (hbq BK219.out hb) <| haq (ze hCq hb) <| haq (hbox) <| haq ((by rw [hg];exact (zg hCq) : w.heap.size ≤ gb220)) <| haq ((by rw [hg];exact (zg hCq) : w.heap.size ≤ gb220)) <| haq (hnq hg BK219.out) <| haq (hmq hg BK219.out) <| trivial;clear BK219 HB;obtain ⟨BK219,HB,BK220,GW220,GE220,NB219_220,NB220_219,_⟩ := n_;clear hb hbox hg;have hnb12 := NB220_219.out;have hnc12 := NB219_220.out;obtain ⟨hcz13_0,hcz13_1,hcz13_2,hcz13_3,hcz13_4,hcz13_5,hfz13_0,hfz13_1,hfz13_2,hfz13_3,hfz13_4,hfz13_5⟩ := hcq6 BK220.out;obtain ⟨hcz14_0,hcz14_1,hcz14_2,hfz14_0,hfz14_1,hfz14_2⟩ := hcq3 BK219.out) | (go_at_call 40;(with_reducible refine (zR.calls k a0_0 a0_1 (fun k_ => k_ < w.heap.size) _ _ l0_2 (wrap64 (a1_1 - 1)) t221 _ ?side1 A9.out).mono ?_);(case side1 => exact Kd.V_mk HC0_2.out (Kd.F_below (Kd.C_F zbm HR0_2.out) hCq));rintro e w15 ⟨v222,rfl,ho0,hb⟩;have n_ := haq (Kd.N_lower (Kd.N_mono (ok' := fun k_ => k_ ≠ gb219 ∧ k_ ≠ gb220) ho0 (fun k_ hk_ => ⟨Or.elim hk_ (fun hs_ => fun e_ => Nat.not_le.2 hs_ (by rw [e_];exact GW219.out)) (fun hn_ => (Kd.freshB (g := gb219) (o := .cells #[.int .i64 a0_0,.int .i64 a0_1,.slice A0_2 l0_2.length c0_2] 24 (0,0)) (hGq BK219.out) k_ hn_)),Or.elim hk_ (fun hs_ => fun e_ => Nat.not_le.2 hs_ (by rw [e_];exact GW220.out)) (fun hn_ => (Kd.freshB (g := gb220) (o := .cells #[.int .i64 a1_0,.int .i64 a1_1,.slice A1_2 l1_2.length c1_2,.slice A1_3 l1_3.length c1_3,.int .i64 a1_4,.int .i64 a1_5] 30 (0,0)) (hGq BK220.out) k_ hn_))⟩)) (zg hCq)) <| haq (hbq BK219.out hb) <| haq (hbq BK220.out hb) <| haq (ze hCq hb) <| trivial;clear BK219 BK220 HB;obtain ⟨HO223,BK219,BK220,HB,_⟩ := n_;(try clear hb);(try clear hb2);(try clear hk);(try clear hi);(try clear ho0)));try go_wp2_with (first | ((with_reducible refine zn (N := 2) rfl ?_);refine zl rfl (N := 2) rfl (cs := #[.int .i64 a0_0,.int .i64 a0_1,.slice A0_2 l0_2.length c0_2]) (t := 24) hrq ?_;intro gb219 hg w10 hbox hb;have n_ := haq (ze hBq hb) <| haq (hbox) <| haq ((by rw [hg];exact (zg hBq) : w.heap.size ≤ gb219)) <| haq ((by rw [hg];exact (zg hBq) : w.heap.size ≤ gb219)) <| trivial;clear HB;obtain ⟨HB,BK219,GW219,GE219,_⟩ := n_;clear hb hbox hg) | ((with_reducible refine zn (N := 3) rfl ?_);refine zl rfl (N := 3) rfl (cs := #[.int .i64 a1_0,.int .i64 a1_1,.slice A1_2 l1_2.length c1_2,.slice A1_3 l1_3.length c1_3,.int .i64 a1_4,.int .i64 a1_5]) (t := 30) hrq ?_;intro gb220 hg w11 hbox hb;have n_ := haq (hbq BK219.out hb) <| haq (ze hCq hb) <| haq (hbox) <| haq ((by rw [hg];exact (zg hCq) : w.heap.size ≤ gb220)) <| haq ((by rw [hg];exact (zg hCq) : w.heap.size ≤ gb220)) <| haq (hnq hg BK219.out) <| haq (hmq hg BK219.out) <| trivial;clear BK219 HB;obtain ⟨BK219,HB,BK220,GW220,GE220,NB219_220,NB220_219,_⟩ := n_;clear hb hbox hg;have hnb12 := NB220_219.out;have hnc12 := NB219_220.out;obtain ⟨hcz13_0,hcz13_1,hcz13_2,hcz13_3,hcz13_4,hcz13_5,hfz13_0,hfz13_1,hfz13_2,hfz13_3,hfz13_4,hfz13_5⟩ := hcq6 BK220.out;obtain ⟨hcz14_0,hcz14_1,hcz14_2,hfz14_0,hfz14_1,hfz14_2⟩ := hcq3 BK219.out) | (go_at_call 40;(with_reducible refine (zR.calls k a0_0 a0_1 (fun k_ => k_ < w.heap.size) _ _ l0_2 (wrap64 (a1_1 - 1)) t221 _ ?side1 A9.out).mono ?_);(case side1 => exact Kd.V_mk HC0_2.out (Kd.F_below (Kd.C_F zbm HR0_2.out) hCq));rintro e w15 ⟨v222,rfl,ho0,hb⟩;have n_ := haq (Kd.N_lower (Kd.N_mono (ok' := fun k_ => k_ ≠ gb219 ∧ k_ ≠ gb220) ho0 (fun k_ hk_ => ⟨Or.elim hk_ (fun hs_ => fun e_ => Nat.not_le.2 hs_ (by rw [e_];exact GW219.out)) (fun hn_ => (Kd.freshB (g := gb219) (o := .cells #[.int .i64 a0_0,.int .i64 a0_1,.slice A0_2 l0_2.length c0_2] 24 (0,0)) (hGq BK219.out) k_ hn_)),Or.elim hk_ (fun hs_ => fun e_ => Nat.not_le.2 hs_ (by rw [e_];exact GW220.out)) (fun hn_ => (Kd.freshB (g := gb220) (o := .cells #[.int .i64 a1_0,.int .i64 a1_1,.slice A1_2 l1_2.length c1_2,.slice A1_3 l1_3.length c1_3,.int .i64 a1_4,.int .i64 a1_5] 30 (0,0)) (hGq BK220.out) k_ hn_))⟩)) (zg hCq)) <| haq (hbq BK219.out hb) <| haq (hbq BK220.out hb) <| haq (ze hCq hb) <| trivial;clear BK219 BK220 HB;obtain ⟨HO223,BK219,BK220,HB,_⟩ := n_;(try clear hb);(try clear hb2);(try clear hk);(try clear hi);(try clear ho0))))
  go_loopg [6,7] k (fun kq v6 v7 w' => ∃ (x6_1 : List ByteArray) (x7_1 : Int),v7 = .int .i64 x7_1 ∧ za (zt.l0 kq t221 x6_1 x7_1 a1_0 a1_1 l1_2 l1_3 a1_4 a1_5 = some r) ∧ za (kq ≤ k) ∧ za (Kd.N k42 42 w' w.heap.size (fun k_ => some k_ ≠ (v6 : Value).ownBlock ∧ k_ ≠ gb219 ∧ k_ ≠ gb220) v222 t221) ∧ za (Kd.R Kd.string 9 w' w.heap.size (fun _ => True) v6 x6_1) ∧ za (w'.heap[gb219]? = some (.cells #[.int .i64 a0_0,.int .i64 a0_1,(.slice A0_2 l0_2.length c0_2)] 24 (0,0))) ∧ za (w'.heap[gb220]? = some (.cells #[.int .i64 a1_0,.int .i64 a1_1,(.slice A1_2 l1_2.length c1_2),(.slice A1_3 l1_3.length c1_3),.int .i64 a1_4,.int .i64 a1_5] 30 (0,0))) ∧ za (Below w.heap.size w w'))
  case atStart => exact ⟨(([] : List ByteArray)),(0),(hDq),H',⟨Nat.le_refl _⟩,⟨by (with_reducible repeat (first | apply Kd.N_alloc | apply Kd.N_drewN | apply Kd.N_drew));exact Kd.N_mono HO223.out (fun _ hk => ⟨(by simp [Value.ownBlock]),⟨hk.1,hk.2⟩⟩)⟩,⟨by first | exact Kd.R_nil _ _ _ _ _ | exact Kd.N_nil _ _ _ _ _ | exact Kd.V_nil _ _ _ _ _ | exact Kd.Q_nil _ _ _ _ _ | exact Kd.S_nil _ _ _ _ _⟩,⟨hGq BK219.out⟩,⟨hGq BK220.out⟩,⟨by repeat (first | (with_reducible first | exact HB.out | apply zk | apply zi | apply zo | refine zj ?_ GE219.out | refine zj ?_ GE220.out) | exact HB.out)⟩⟩
  case round =>
   clear H'
   try clear c1;try clear c2;try clear p2;try clear c3;try clear c3b0;try clear c6;try clear p6;try clear c12;try clear hcz13_0;try clear hcz13_1;try clear hcz13_2;try clear hcz13_3;try clear hcz13_4;try clear hcz13_5;try clear hcz14_0;try clear hcz14_1;try clear hcz14_2;try clear hcz7_0;try clear hcz7_1;try clear hcz7_2;try clear hcz7_3;try clear hcz7_4;try clear hcz7_5;try clear hcz8_0;try clear hcz8_1;try clear hcz8_2;try clear hfz13_0;try clear hfz13_1;try clear hfz13_2;try clear hfz13_3;try clear hfz13_4;try clear hfz13_5;try clear hfz14_0;try clear hfz14_1;try clear hfz14_2;try clear hfz7_0;try clear hfz7_1;try clear hfz7_2;try clear hfz7_3;try clear hfz7_4;try clear hfz7_5;try clear hfz8_0;try clear hfz8_1;try clear hfz8_2
   obtain ⟨x6_1,x7_1,rfl,HA,HK1,HO_5,HO_6,BK219,BK220,HB⟩ := hrel
   cases gk with
   | zero => exact absurd HA.out (by simp [zt.l0])
   | succ k1 =>
    have H := HA.out
    clear HA
    simp only [zt.l0] at H
    by_cases c16 : x7_1 < (l1_3.length : Int)
    ·rw [if_pos c16] at H
     have c16b0 : decide (x7_1 < (l1_3.length : Int)) = true := decide_eq_true c16
     clear c16
     have H' := za.mk H
     clear H
     have hnb17 := NB220_219.out
     have hnc17 := NB219_220.out
     obtain ⟨hcz18_0,hcz18_1,hcz18_2,hcz18_3,hcz18_4,hcz18_5,hfz18_0,hfz18_1,hfz18_2,hfz18_3,hfz18_4,hfz18_5⟩ := hcq6 BK220.out
     go_wp2
     repeat (go_quiet (fail);try go_wp2)
     go_loopg [8,9] k1 (fun kq v8 v9 w' => ∃ (x8_2 : Bool) (x9_2 : Int),v8 = .bool x8_2 ∧ v9 = .int .i64 x9_2 ∧ za (zt.l1 kq t221 x6_1 x7_1 x8_2 x9_2 a1_0 a1_1 l1_2 l1_3 a1_4 a1_5 = some r) ∧ za (kq ≤ k1) ∧ za (Kd.N k42 42 w' w.heap.size (fun k_ => some k_ ≠ (u6 : Value).ownBlock ∧ k_ ≠ gb219 ∧ k_ ≠ gb220) v222 t221) ∧ za (Kd.R Kd.string 9 w' w.heap.size (fun _ => True) u6 x6_1) ∧ za (w'.heap[gb219]? = some (.cells #[.int .i64 a0_0,.int .i64 a0_1,(.slice A0_2 l0_2.length c0_2)] 24 (0,0))) ∧ za (w'.heap[gb220]? = some (.cells #[.int .i64 a1_0,.int .i64 a1_1,(.slice A1_2 l1_2.length c1_2),(.slice A1_3 l1_3.length c1_3),.int .i64 a1_4,.int .i64 a1_5] 30 (0,0))) ∧ za (Below w.heap.size w w'))
     case atStart => exact ⟨(false),(0),(hDq),(hDq),H',⟨Nat.le_refl _⟩,⟨by (with_reducible repeat (first | apply Kd.N_alloc | apply Kd.N_drewN | apply Kd.N_drew));exact HO_5.out⟩,⟨by (with_reducible repeat (first | apply Kd.R_alloc | apply Kd.R_drewN | apply Kd.R_drew));exact HO_6.out⟩,⟨hGq BK219.out⟩,⟨hGq BK220.out⟩,⟨by repeat (first | (with_reducible first | exact HB.out | apply zk | apply zi | apply zo | refine zj ?_ GE219.out | refine zj ?_ GE220.out) | exact HB.out)⟩⟩
     case round =>
      clear H'
      try clear c1;try clear c2;try clear p2;try clear c3;try clear c3b0;try clear c6;try clear p6;try clear c12;try clear c16;try clear c16b0;try clear c17;try clear hcz13_0;try clear hcz13_1;try clear hcz13_2;try clear hcz13_3;try clear hcz13_4;try clear hcz13_5;try clear hcz14_0;try clear hcz14_1;try clear hcz14_2;try clear hcz18_0;try clear hcz18_1;try clear hcz18_2;try clear hcz18_3;try clear hcz18_4;try clear hcz18_5;try clear hcz7_0;try clear hcz7_1;try clear hcz7_2;try clear hcz7_3;try clear hcz7_4;try clear hcz7_5;try clear hcz8_0;try clear hcz8_1;try clear hcz8_2;try clear hfz13_0;try clear hfz13_1;try clear hfz13_2;try clear hfz13_3;try clear hfz13_4;try clear hfz13_5;try clear hfz14_0;try clear hfz14_1;try clear hfz14_2;try clear hfz18_0;try clear hfz18_1;try clear hfz18_2;try clear hfz18_3;try clear hfz18_4;try clear hfz18_5;try clear hfz7_0;try clear hfz7_1;try clear hfz7_2;try clear hfz7_3;try clear hfz7_4;try clear hfz7_5;try clear hfz8_0;try clear hfz8_1;try clear hfz8_2;try clear p2;try clear p6
      obtain ⟨x8_2,x9_2,rfl,rfl,HA,HK2,HO_5,HO_6,BK219,BK220,HB⟩ := hrel
      cases gk with
      | zero => exact absurd HA.out (by simp [zt.l1])
      | succ k2 =>
       have H := HA.out
       clear HA
       simp only [zt.l1] at H
       by_cases c19 : x9_2 < (t221.length : Int)
       ·rw [if_pos c19] at H
        have c19b0 : decide (x9_2 < (t221.length : Int)) = true := decide_eq_true c19
        clear c19
        by_cases c20 : x8_2 = true
        ·subst c20
         have H1 : (zt.l1 k2 t221 x6_1 x7_1 true (wrap64 (x9_2 + 1)) a1_0 a1_1 l1_2 l1_3 a1_4 a1_5) = some r := by rw [if_pos rfl] at H;exact H
         clear H
         have H := H1
         clear H1
         have H' := za.mk H
         clear H
         obtain ⟨Ao21,co21,eo21⟩ := Kd.N_slice HO_5.out
         subst eo21
         go_wp2
         repeat (go_quiet (fail);try go_wp2)
         go_roundg k2
         case measure => have := HK1.out;have := HK2.out;omega
         case rel => exact ⟨(true),(wrap64 (x9_2 + 1)),(hDq),(hDq),H',⟨by have := HK1.out;have := HK2.out;omega⟩,⟨by (with_reducible repeat (first | apply Kd.N_alloc | apply Kd.N_drewN | apply Kd.N_drew));exact HO_5.out⟩,⟨by (with_reducible repeat (first | apply Kd.R_alloc | apply Kd.R_drewN | apply Kd.R_drew));exact HO_6.out⟩,⟨hGq BK219.out⟩,⟨hGq BK220.out⟩,⟨by repeat (first | (with_reducible first | exact HB.out | apply zk | apply zi | apply zo | refine zj ?_ GE219.out | refine zj ?_ GE220.out) | exact HB.out)⟩⟩
        ·replace c20 := Bool.eq_false_iff.mpr c20
         subst c20
         have H1 : (if 0 ≤ x9_2 then (if 0 ≤ x7_1 then (if x7_1 < (l1_3.length : Int) then (zt.l1 k2 t221 x6_1 x7_1 (((zd t221 x9_2).f0).toList == (zz ByteArray.empty l1_3 x7_1).toList) (wrap64 (x9_2 + 1)) a1_0 a1_1 l1_2 l1_3 a1_4 a1_5) else (none)) else (none)) else (none)) = some r := by rw [if_neg (show ¬ (false = true) by decide)] at H;exact H
         clear H
         have H := H1
         clear H1
         by_cases c22 : 0 ≤ x9_2
         ·rw [if_pos c22] at H
          have c22b0 : decide (0 ≤ x9_2) = true := decide_eq_true c22
          clear c22
          by_cases c23 : 0 ≤ x7_1
          ·rw [if_pos c23] at H
           have c23b0 : decide (0 ≤ x7_1) = true := decide_eq_true c23
           clear c23
           by_cases c24 : x7_1 < (l1_3.length : Int)
           ·rw [if_pos c24] at H
            have c24b0 : decide (x7_1 < (l1_3.length : Int)) = true := decide_eq_true c24
            clear c24
            have H' := za.mk H
            clear H
            obtain ⟨Ao25,co25,eo25⟩ := Kd.N_slice HO_5.out
            subst eo25
            have p224 : 0 ≤ (x9_2 : Int) := hFq
            have q224 : x9_2 < (t221.length : Int) := hFq
            obtain ⟨ad224,A224_3,c224_3,A224_4,c224_4,e224,hx224_0,hx224_1,hx224_2,hx224_3,hx224_4,hx224_5,hx224_6,hl224_3,hi224_3,hl224_4,hi224_4⟩ := zaG (Kd.N_reads' HO_5.out).2.2 x9_2 p224 q224
            cases e224
            obtain ⟨ce224,hce224,hMe224,hcc224⟩ := Kd.N_get HO_5.out z42 x9_2 p224 (by first | exact q224 | exact hFq | (have e_ := (Kd.N_reads' HO_5.out).1;omega))
            obtain ⟨ua224_3,uc224_3,ua224_4,uc224_4,rfl,ul224_3,ge224_3,ul224_4,ge224_4⟩ := zaF hMe224
            have hv224_3 := hcc224 3 _ rfl
            rw [zQ _ _ 3 (by omega)] at hv224_3
            replace hv224_3 := Option.some.inj (hv224_3.symm.trans hx224_3)
            injection hv224_3 with hva_ hvn_ hvc_
            rw [hva_] at ge224_3
            rw [hvc_] at ul224_3
            have HL224_3 := za.mk (show Kd.V k67 67 _ w.heap.size _ _ ((zd t221 x9_2).f1.f2) from Kd.V_mk ul224_3 ge224_3)
            clear hva_ hvn_ hvc_ ge224_3 ul224_3
            have hv224_4 := hcc224 4 _ rfl
            rw [zQ _ _ 4 (by omega)] at hv224_4
            replace hv224_4 := Option.some.inj (hv224_4.symm.trans hx224_4)
            injection hv224_4 with hva_ hvn_ hvc_
            rw [hva_] at ge224_4
            rw [hvc_] at ul224_4
            have HL224_4 := za.mk (show Kd.V Kd.string 9 _ w.heap.size _ _ ((zd t221 x9_2).f1.f3) from Kd.V_mk ul224_4 ge224_4)
            clear hva_ hvn_ hvc_ ge224_4 ul224_4
            clear hcc224 hce224
            have HR224_3 := za.mk hi224_3
            have HC224_3 := za.mk hl224_3
            clear hi224_3 hl224_3
            have HR224_4 := za.mk hi224_4
            have HC224_4 := za.mk hl224_4
            clear hi224_4 hl224_4
            replace p224 := eq_true p224
            replace q224 := eq_true q224
            have hnb26 := NB220_219.out
            have hnc26 := NB219_220.out
            obtain ⟨hcz27_0,hcz27_1,hcz27_2,hcz27_3,hcz27_4,hcz27_5,hfz27_0,hfz27_1,hfz27_2,hfz27_3,hfz27_4,hfz27_5⟩ := hcq6 BK220.out
            have p225 : 0 ≤ (x7_1 : Int) := hFq
            have q225 : x7_1 < (l1_3.length : Int) := hFq
            obtain ⟨ad225,e225,hx225_0⟩ := Kd.at_string HR1_3.out x7_1 p225 q225
            cases e225
            replace hx225_0 := (HB.out.cell (World.block_lt_of_cell? w _ hx225_0)).trans hx225_0
            replace p225 := eq_true p225
            replace q225 := eq_true q225
            go_wp2
            repeat (go_quiet (fail);try go_wp2)
            go_roundg k2
            case measure => have := HK1.out;have := HK2.out;omega
            case rel => exact ⟨((((zd t221 x9_2).f0).toList == (zz ByteArray.empty l1_3 x7_1).toList)),(wrap64 (x9_2 + 1)),(hDq),(hDq),H',⟨by have := HK1.out;have := HK2.out;omega⟩,⟨by (with_reducible repeat (first | apply Kd.N_alloc | apply Kd.N_drewN | apply Kd.N_drew));exact HO_5.out⟩,⟨by (with_reducible repeat (first | apply Kd.R_alloc | apply Kd.R_drewN | apply Kd.R_drew));exact HO_6.out⟩,⟨hGq BK219.out⟩,⟨hGq BK220.out⟩,⟨by repeat (first | (with_reducible first | exact HB.out | apply zk | apply zi | apply zo | refine zj ?_ GE219.out | refine zj ?_ GE220.out) | exact HB.out)⟩⟩
           ·rw [if_neg c24] at H
            exact absurd H (by simp)
          ·rw [if_neg c23] at H
           exact absurd H (by simp)
         ·rw [if_neg c22] at H
          exact absurd H (by simp)
       ·rw [if_neg c19] at H
        have c19b0 : decide (x9_2 < (t221.length : Int)) = false := decide_eq_false c19
        clear c19
        by_cases c28 : x8_2 = true
        ·subst c28
         have H1 : (zt.l0 k2 t221 x6_1 (wrap64 (x7_1 + 1)) a1_0 a1_1 l1_2 l1_3 a1_4 a1_5) = some r := by rw [if_pos rfl] at H;exact H
         clear H
         have H := H1
         clear H1
         have H' := za.mk H
         clear H
         obtain ⟨Ao29,co29,eo29⟩ := Kd.N_slice HO_5.out
         subst eo29
         go_wp2
         repeat (go_quiet (fail);try go_wp2)
         go_roundg k2
         case measure => have := HK1.out;have := HK2.out;omega
         case rel => exact ⟨(x6_1),(wrap64 (x7_1 + 1)),(hDq),H',⟨by have := HK1.out;have := HK2.out;omega⟩,⟨by (with_reducible repeat (first | apply Kd.N_alloc | apply Kd.N_drewN | apply Kd.N_drew));exact HO_5.out⟩,⟨by (with_reducible repeat (first | apply Kd.R_alloc | apply Kd.R_drewN | apply Kd.R_drew));exact HO_6.out⟩,⟨hGq BK219.out⟩,⟨hGq BK220.out⟩,⟨by repeat (first | (with_reducible first | exact HB.out | apply zk | apply zi | apply zo | refine zj ?_ GE219.out | refine zj ?_ GE220.out) | exact HB.out)⟩⟩
        ·replace c28 := Bool.eq_false_iff.mpr c28
         subst c28
         have H1 : (if 0 ≤ x7_1 then (if x7_1 < (l1_3.length : Int) then (if x6_1.length < 8796093022208 then (zt.l0 k2 t221 (x6_1 ++ [zz ByteArray.empty l1_3 x7_1]) (wrap64 (x7_1 + 1)) a1_0 a1_1 l1_2 l1_3 a1_4 a1_5) else (none)) else (none)) else (none)) = some r := by rw [if_neg (show ¬ (false = true) by decide)] at H;exact H
         clear H
         have H := H1
         clear H1
         by_cases c30 : 0 ≤ x7_1
         ·rw [if_pos c30] at H
          have c30b0 : decide (0 ≤ x7_1) = true := decide_eq_true c30
          clear c30
          by_cases c31 : x7_1 < (l1_3.length : Int)
          ·rw [if_pos c31] at H
           have c31b0 : decide (x7_1 < (l1_3.length : Int)) = true := decide_eq_true c31
           clear c31
           by_cases c32 : x6_1.length < 8796093022208
           ·rw [if_pos c32] at H
            have LMc32 := za.mk c32
            clear c32
            obtain ⟨y227,hy227⟩ : ∃ y_ : List ByteArray,y_ = (x6_1 ++ [zz ByteArray.empty l1_3 x7_1]) := ⟨_,rfl⟩
            replace H : (zt.l0 k2 t221 y227 (wrap64 (x7_1 + 1)) a1_0 a1_1 l1_2 l1_3 a1_4 a1_5) = some r := by first | (rw [hy227];with_reducible exact H) | (have H2_ := (Option.bind_some _ _).symm.trans H;rw [hy227];with_reducible exact H2_) | (have H2_ := (Option.bind_some _ _).symm.trans H;with_reducible exact H2_) | with_reducible exact H | (rw [hy227];exact H) | exact H
            have Ny227 := za.mk hy227
            clear hy227
            have H' := za.mk H
            clear H
            obtain ⟨Ao33,co33,eo33⟩ := Kd.N_slice HO_5.out
            subst eo33
            have hnb34 := NB220_219.out
            have hnc34 := NB219_220.out
            obtain ⟨hcz35_0,hcz35_1,hcz35_2,hcz35_3,hcz35_4,hcz35_5,hfz35_0,hfz35_1,hfz35_2,hfz35_3,hfz35_4,hfz35_5⟩ := hcq6 BK220.out
            have p226 : 0 ≤ (x7_1 : Int) := hFq
            have q226 : x7_1 < (l1_3.length : Int) := hFq
            obtain ⟨ad226,e226,hx226_0⟩ := Kd.at_string HR1_3.out x7_1 p226 q226
            cases e226
            replace hx226_0 := (HB.out.cell (World.block_lt_of_cell? w _ hx226_0)).trans hx226_0
            replace p226 := eq_true p226
            replace q226 := eq_true q226
            go_wp2_with (first | ((with_reducible refine zaZ (b := .append) (xs := #[.tmp 50,.tmp 56]) rfl ?_);at_builtin;refine Kd.R_append Kd.string (w0 := w) w.heap.size rfl (.tmp 50) (.tmp 56) 26 9 (.string ⟨#[]⟩) 16 rfl Tryz.underlying26 ziD rfl (by decide) (by omega) u6 x6_1 (zz ByteArray.empty l1_3 x7_1) [.string (zz ByteArray.empty l1_3 x7_1)] (fun _ => True) (fun _ => False) rfl rfl ?aP (fun _ hk => hk.elim) ?aF ?aO ?aB ?aS ?aL ?_;(case aP => exact rfl);(case aB => exact hCq);(case aF => exact (fun _ _ => trivial));(case aO => exact (hRq HO_6.out));(case aS => exact (zg hCq));(case aL => have := LMc32.out;omega);intro v228 w36 ho hb hg hat;rw [← Ny227.out] at ho;have n_ := haq (Kd.N_afterv (ok := (fun k_ => k_ ≠ gb219 ∧ k_ ≠ gb220)) (by (with_reducible repeat (first | apply Kd.N_alloc | apply Kd.N_drewN | apply Kd.N_drew));exact Kd.N_mono HO_5.out (fun _ hk => ⟨⟨hk.2.1,hk.2.2⟩,hk.1⟩)) hg hat) <| haq (zaE (g := gb219) (o := .cells #[.int .i64 a0_0,.int .i64 a0_1,.slice A0_2 l0_2.length c0_2] 24 (0,0)) (hGq BK219.out) hg (Kd.R_ne HO_6.out BK219.out (by decide))) <| haq (zaE (g := gb220) (o := .cells #[.int .i64 a1_0,.int .i64 a1_1,.slice A1_2 l1_2.length c1_2,.slice (some ad226) l1_3.length c1_3,.int .i64 a1_4,.int .i64 a1_5] 30 (0,0)) (hGq BK220.out) hg (Kd.R_ne HO_6.out BK220.out (by decide))) <| haq (hb) <| haq (ho) <| trivial;clear HO_5 BK219 BK220 HB HO_6;obtain ⟨HO_5,BK219,BK220,HB,HO229,_⟩ := n_;clear ho hb hg hat))
            repeat (go_quiet (first | ((with_reducible refine zaZ (b := .append) (xs := #[.tmp 50,.tmp 56]) rfl ?_);at_builtin;refine Kd.R_append Kd.string (w0 := w) w.heap.size rfl (.tmp 50) (.tmp 56) 26 9 (.string ⟨#[]⟩) 16 rfl Tryz.underlying26 ziD rfl (by decide) (by omega) u6 x6_1 (zz ByteArray.empty l1_3 x7_1) [.string (zz ByteArray.empty l1_3 x7_1)] (fun _ => True) (fun _ => False) rfl rfl ?aP (fun _ hk => hk.elim) ?aF ?aO ?aB ?aS ?aL ?_;(case aP => exact rfl);(case aB => exact hCq);(case aF => exact (fun _ _ => trivial));(case aO => exact (hRq HO_6.out));(case aS => exact (zg hCq));(case aL => have := LMc32.out;omega);intro v228 w36 ho hb hg hat;rw [← Ny227.out] at ho;have n_ := haq (Kd.N_afterv (ok := (fun k_ => k_ ≠ gb219 ∧ k_ ≠ gb220)) (by (with_reducible repeat (first | apply Kd.N_alloc | apply Kd.N_drewN | apply Kd.N_drew));exact Kd.N_mono HO_5.out (fun _ hk => ⟨⟨hk.2.1,hk.2.2⟩,hk.1⟩)) hg hat) <| haq (zaE (g := gb219) (o := .cells #[.int .i64 a0_0,.int .i64 a0_1,.slice A0_2 l0_2.length c0_2] 24 (0,0)) (hGq BK219.out) hg (Kd.R_ne HO_6.out BK219.out (by decide))) <| haq (zaE (g := gb220) (o := .cells #[.int .i64 a1_0,.int .i64 a1_1,.slice A1_2 l1_2.length c1_2,.slice (some ad226) l1_3.length c1_3,.int .i64 a1_4,.int .i64 a1_5] 30 (0,0)) (hGq BK220.out) hg (Kd.R_ne HO_6.out BK220.out (by decide))) <| haq (hb) <| haq (ho) <| trivial;clear HO_5 BK219 BK220 HB HO_6;obtain ⟨HO_5,BK219,BK220,HB,HO229,_⟩ := n_;clear ho hb hg hat));try go_wp2_with (first | ((with_reducible refine zaZ (b := .append) (xs := #[.tmp 50,.tmp 56]) rfl ?_);at_builtin;refine Kd.R_append Kd.string (w0 := w) w.heap.size rfl (.tmp 50) (.tmp 56) 26 9 (.string ⟨#[]⟩) 16 rfl Tryz.underlying26 ziD rfl (by decide) (by omega) u6 x6_1 (zz ByteArray.empty l1_3 x7_1) [.string (zz ByteArray.empty l1_3 x7_1)] (fun _ => True) (fun _ => False) rfl rfl ?aP (fun _ hk => hk.elim) ?aF ?aO ?aB ?aS ?aL ?_;(case aP => exact rfl);(case aB => exact hCq);(case aF => exact (fun _ _ => trivial));(case aO => exact (hRq HO_6.out));(case aS => exact (zg hCq));(case aL => have := LMc32.out;omega);intro v228 w36 ho hb hg hat;rw [← Ny227.out] at ho;have n_ := haq (Kd.N_afterv (ok := (fun k_ => k_ ≠ gb219 ∧ k_ ≠ gb220)) (by (with_reducible repeat (first | apply Kd.N_alloc | apply Kd.N_drewN | apply Kd.N_drew));exact Kd.N_mono HO_5.out (fun _ hk => ⟨⟨hk.2.1,hk.2.2⟩,hk.1⟩)) hg hat) <| haq (zaE (g := gb219) (o := .cells #[.int .i64 a0_0,.int .i64 a0_1,.slice A0_2 l0_2.length c0_2] 24 (0,0)) (hGq BK219.out) hg (Kd.R_ne HO_6.out BK219.out (by decide))) <| haq (zaE (g := gb220) (o := .cells #[.int .i64 a1_0,.int .i64 a1_1,.slice A1_2 l1_2.length c1_2,.slice (some ad226) l1_3.length c1_3,.int .i64 a1_4,.int .i64 a1_5] 30 (0,0)) (hGq BK220.out) hg (Kd.R_ne HO_6.out BK220.out (by decide))) <| haq (hb) <| haq (ho) <| trivial;clear HO_5 BK219 BK220 HB HO_6;obtain ⟨HO_5,BK219,BK220,HB,HO229,_⟩ := n_;clear ho hb hg hat)))
            go_roundg k2
            case measure => have := HK1.out;have := HK2.out;omega
            case rel => exact ⟨(y227),(wrap64 (x7_1 + 1)),(hDq),H',⟨by have := HK1.out;have := HK2.out;omega⟩,⟨by (with_reducible repeat (first | apply Kd.N_alloc | apply Kd.N_drewN | apply Kd.N_drew));exact Kd.N_mono HO_5.out (fun _ hk => ⟨hk.2,⟨hk.1.1,hk.1.2⟩⟩)⟩,⟨by (with_reducible repeat (first | apply Kd.R_alloc | apply Kd.R_drewN | apply Kd.R_drew));exact HO229.out⟩,⟨hGq BK219.out⟩,⟨hGq BK220.out⟩,⟨by repeat (first | (with_reducible first | exact HB.out | apply zk | apply zi | apply zo | refine zj ?_ GE219.out | refine zj ?_ GE220.out) | exact HB.out)⟩⟩
           ·rw [if_neg c32] at H
            exact absurd H (by simp)
          ·rw [if_neg c31] at H
           exact absurd H (by simp)
         ·rw [if_neg c30] at H
          exact absurd H (by simp)
    ·rw [if_neg c16] at H
     have c16b0 : decide (x7_1 < (l1_3.length : Int)) = false := decide_eq_false c16
     clear c16
     obtain rfl := Option.some.inj H
     have hnb37 := NB220_219.out
     have hnc37 := NB219_220.out
     obtain ⟨hcz38_0,hcz38_1,hcz38_2,hcz38_3,hcz38_4,hcz38_5,hfz38_0,hfz38_1,hfz38_2,hfz38_3,hfz38_4,hfz38_5⟩ := hcq6 BK220.out
     go_wp2
     repeat (go_quiet (fail);try go_wp2)
     go_ret
     exact ⟨_,hHq,by (with_reducible repeat (first | apply Kd.R_alloc | apply Kd.R_drewN | apply Kd.R_drew));exact HO_6.out,hCq⟩
end Go.Proofs.YtlkfelmbhldgfaaGreat.Px