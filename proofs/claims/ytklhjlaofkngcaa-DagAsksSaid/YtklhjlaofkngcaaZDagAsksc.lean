/- Part 29 of 33 of the proof of the law DagAsks: what is proved is the statement at the end of the last part; its conditions are those of the given row. -/
import Derived.Test.YtklhjlaofkngcaaZDagAsksb
namespace Go.Proofs.Ytklhjlaofkngcaa.Px
open Go.RowKit Go.Proofs.YtklhjlaofkngcaaW.PrintWords Go.Proofs.YtklhjlaofkngcaaW.PrintLast Go.Proofs.YtklhjlaofkngcaaW.PrintMore
attribute [local go_sem] zF zH zM zN zB zC zG zI
set_option linter.unusedVariables false
set_option linter.unusedSimpArgs false
mutual
def zx.l0 : Nat → List (S36) → List ByteArray → Int → Int → Int → List (S72) → List ByteArray → Int → Int → Option (List ByteArray)
 | 0,_,_,_,_,_,_,_,_,_ => none
 | k + 1,x5,x6,x7,x192000,x192001,x192002,x192003,x192004,x192005 => if x7 < (x192003.length : Int) then (zx.l1 k x5 x6 x7 false 0 x192000 x192001 x192002 x192003 x192004 x192005) else (some x6)
def zx.l1 : Nat → List (S36) → List ByteArray → Int → Bool → Int → Int → Int → List (S72) → List ByteArray → Int → Int → Option (List ByteArray)
 | 0,_,_,_,_,_,_,_,_,_,_,_ => none
 | k + 1,x5,x6,x7,x8,x9,x192000,x192001,x192002,x192003,x192004,x192005 => if x9 < (x5.length : Int) then (if x8 = true then (zx.l1 k x5 x6 x7 true (wrap64 (x9 + 1)) x192000 x192001 x192002 x192003 x192004 x192005) else (if 0 ≤ x9 then (if 0 ≤ x7 then (if x7 < (x192003.length : Int) then (zx.l1 k x5 x6 x7 (((zd x5 x9).f0).toList == (zE ByteArray.empty x192003 x7).toList) (wrap64 (x9 + 1)) x192000 x192001 x192002 x192003 x192004 x192005) else (none)) else (none)) else (none))) else (if x8 = true then (zx.l0 k x5 x6 (wrap64 (x7 + 1)) x192000 x192001 x192002 x192003 x192004 x192005) else (if 0 ≤ x7 then (if x7 < (x192003.length : Int) then (if x6.length < 8796093022208 then (zx.l0 k x5 (x6 ++ [zE ByteArray.empty x192003 x7]) (wrap64 (x7 + 1)) x192000 x192001 x192002 x192003 x192004 x192005) else (none)) else (none)) else (none)))
end
def zx.f (k : Nat) (a0_0 : Int) (a0_1 : Int) (l0_2 : List (S36)) (a1_0 : Int) (a1_1 : Int) (l1_2 : List (S72)) (l1_3 : List ByteArray) (a1_4 : Int) (a1_5 : Int) : Option (List ByteArray) := if (wrap64 (a1_1 - 1)) ≤ a0_1 then (some ([] : List ByteArray)) else ((zS.f k a0_0 a0_1 l0_2 (wrap64 (a1_1 - 1))).bind fun t192 => (zx.l0 k t192 ([] : List ByteArray) 0 a1_0 a1_1 l1_2 l1_3 a1_4 a1_5))
set_option maxHeartbeats 8000000 in
set_option maxRecDepth 100000 in
theorem zx.calls (k : Nat) (a0_0 : Int) (a0_1 : Int) (A0_2 : Option Addr) (c0_2 : Nat) (l0_2 : List (S36)) (a1_0 : Int) (a1_1 : Int) (A1_2 : Option Addr) (c1_2 : Nat) (l1_2 : List (S72)) (A1_3 : Option Addr) (c1_3 : Nat) (l1_3 : List ByteArray) (a1_4 : Int) (a1_5 : Int) (r : List ByteArray) (w : World) (hr0_2 : Kd.C k36 w A0_2 l0_2.length l0_2) (hc0_2 : l0_2.length ≤ c0_2) (hr1_2 : Kd.C k72 w A1_2 l1_2.length l1_2) (hc1_2 : l1_2.length ≤ c1_2) (hr1_3 : Kd.C Kd.string w A1_3 l1_3.length l1_3) (hc1_3 : l1_3.length ≤ c1_3) (h : zx.f k a0_0 a0_1 l0_2 a1_0 a1_1 l1_2 l1_3 a1_4 a1_5 = some r) :
  Calls Try.prog 19 #[.agg #[.int .i64 a0_0,.int .i64 a0_1,.slice A0_2 l0_2.length c0_2],.agg #[.int .i64 a1_0,.int .i64 a1_1,.slice A1_2 l1_2.length c1_2,.slice A1_3 l1_3.length c1_3,.int .i64 a1_4,.int .i64 a1_5]] w fun e w' => ∃ v0_ : Value,e = .returned (v0_) ∧ Kd.R Kd.string 9 w' w.heap.size (fun _ => True) v0_ r ∧ Below w.heap.size w w' := by
 have hu24 := Try.underlying24
 have hu30 := Try.underlying30
 have HR0_2 := za.mk hr0_2
 have HC0_2 := za.mk hc0_2
 clear hr0_2 hc0_2
 have HR1_2 := za.mk hr1_2
 have HC1_2 := za.mk hc1_2
 clear hr1_2 hc1_2
 have HR1_3 := za.mk hr1_3
 have HC1_3 := za.mk hc1_3
 clear hr1_3 hc1_3
 have HB := za.mk (Below.refl w.heap.size w)
 have H : (if (wrap64 (a1_1 - 1)) ≤ a0_1 then (some ([] : List ByteArray)) else ((zS.f k a0_0 a0_1 l0_2 (wrap64 (a1_1 - 1))).bind fun t192 => (zx.l0 k t192 ([] : List ByteArray) 0 a1_0 a1_1 l1_2 l1_3 a1_4 a1_5))) = some r := h
 clear h
 by_cases c3 : (wrap64 (a1_1 - 1)) ≤ a0_1
 ·rw [if_pos c3] at H
  have c3b0 : decide ((wrap64 (a1_1 - 1)) ≤ a0_1) = true := decide_eq_true c3
  clear c3
  obtain rfl := Option.some.inj H
  go_enter Try.func19,Try.ntmps19
  go_wp2_with (first | ((with_reducible refine zu (N := 2) rfl ?_);refine zp ?hg (N := 2) ?hd (cs := #[.int .i64 a0_0,.int .i64 a0_1,.slice A0_2 l0_2.length c0_2]) (t := 24) ?hr ?_;(case hd => rfl);(case hg => rfl);(case hr => first | (go_simp;done) | (go_simp;rfl));intro gb190 hg w4 hbox hb;have n_ := haq (ze hBq hb) <| haq (hbox) <| haq ((by rw [hg];exact (zg hBq) : w.heap.size ≤ gb190)) <| haq ((by rw [hg];exact (zg hBq) : w.heap.size ≤ gb190)) <| trivial;clear HB;obtain ⟨HB,BK190,GW190,GE190,_⟩ := n_;clear hb hbox hg) | ((with_reducible refine zu (N := 3) rfl ?_);refine zp ?hg (N := 3) ?hd (cs := #[.int .i64 a1_0,.int .i64 a1_1,.slice A1_2 l1_2.length c1_2,.slice A1_3 l1_3.length c1_3,.int .i64 a1_4,.int .i64 a1_5]) (t := 30) ?hr ?_;(case hd => rfl);(case hg => rfl);(case hr => first | (go_simp;done) | (go_simp;rfl));intro gb191 hg w5 hbox hb;have n_ := haq (hbq BK190.out hb) <| haq (ze hCq hb) <| haq (hbox) <| haq ((by rw [hg];exact (zg hCq) : w.heap.size ≤ gb191)) <| haq ((by rw [hg];exact (zg hCq) : w.heap.size ≤ gb191)) <| haq (hnq hg BK190.out) <| haq (hmq hg BK190.out) <| trivial;clear BK190 HB;obtain ⟨BK190,HB,BK191,GW191,GE191,NB190_191,NB191_190,_⟩ := n_;clear hb hbox hg;have hnb6 := NB191_190.out;have hnc6 := NB190_191.out;obtain ⟨hcz7_0,hcz7_1,hcz7_2,hcz7_3,hcz7_4,hcz7_5,hfz7_0,hfz7_1,hfz7_2,hfz7_3,hfz7_4,hfz7_5⟩ := hcq6 BK191.out;obtain ⟨hcz8_0,hcz8_1,hcz8_2,hfz8_0,hfz8_1,hfz8_2⟩ := hcq3 BK190.out))
  repeat (go_quiet (first | ((with_reducible refine zu (N := 2) rfl ?_);refine zp ?hg (N := 2) ?hd (cs := #[.int .i64 a0_0,.int .i64 a0_1,.slice A0_2 l0_2.length c0_2]) (t := 24) ?hr ?_;(case hd => rfl);(case hg => rfl);(case hr => first | (go_simp;done) | (go_simp;rfl));intro gb190 hg w4 hbox hb;have n_ := haq (ze hBq hb) <| haq (hbox) <| haq ((by rw [hg];exact (zg hBq) : w.heap.size ≤ gb190)) <| haq ((by rw [hg];exact (zg hBq) : w.heap.size ≤ gb190)) <| trivial;clear HB;obtain ⟨HB,BK190,GW190,GE190,_⟩ := n_;clear hb hbox hg) | ((with_reducible refine zu (N := 3) rfl ?_);refine zp ?hg (N := 3) ?hd (cs := #[.int .i64 a1_0,.int .i64 a1_1,.slice A1_2 l1_2.length c1_2,.slice A1_3 l1_3.length c1_3,.int .i64 a1_4,.int .i64 a1_5]) (t := 30) ?hr ?_;(case hd => rfl);(case hg => rfl);(case hr => first | (go_simp;done) | (go_simp;rfl));intro gb191 hg w5 hbox hb;have n_ := haq (hbq BK190.out hb) <| haq (ze hCq hb) <| haq (hbox) <| haq ((by rw [hg];exact (zg hCq) : w.heap.size ≤ gb191)) <| haq ((by rw [hg];exact (zg hCq) : w.heap.size ≤ gb191)) <| haq (hnq hg BK190.out) <| haq (hmq hg BK190.out) <| trivial;clear BK190 HB;obtain ⟨BK190,HB,BK191,GW191,GE191,NB190_191,NB191_190,_⟩ := n_;clear hb hbox hg;have hnb6 := NB191_190.out;have hnc6 := NB190_191.out;obtain ⟨hcz7_0,hcz7_1,hcz7_2,hcz7_3,hcz7_4,hcz7_5,hfz7_0,hfz7_1,hfz7_2,hfz7_3,hfz7_4,hfz7_5⟩ := hcq6 BK191.out;obtain ⟨hcz8_0,hcz8_1,hcz8_2,hfz8_0,hfz8_1,hfz8_2⟩ := hcq3 BK190.out));try go_wp2_with (first | ((with_reducible refine zu (N := 2) rfl ?_);refine zp ?hg (N := 2) ?hd (cs := #[.int .i64 a0_0,.int .i64 a0_1,.slice A0_2 l0_2.length c0_2]) (t := 24) ?hr ?_;(case hd => rfl);(case hg => rfl);(case hr => first | (go_simp;done) | (go_simp;rfl));intro gb190 hg w4 hbox hb;have n_ := haq (ze hBq hb) <| haq (hbox) <| haq ((by rw [hg];exact (zg hBq) : w.heap.size ≤ gb190)) <| haq ((by rw [hg];exact (zg hBq) : w.heap.size ≤ gb190)) <| trivial;clear HB;obtain ⟨HB,BK190,GW190,GE190,_⟩ := n_;clear hb hbox hg) | ((with_reducible refine zu (N := 3) rfl ?_);refine zp ?hg (N := 3) ?hd (cs := #[.int .i64 a1_0,.int .i64 a1_1,.slice A1_2 l1_2.length c1_2,.slice A1_3 l1_3.length c1_3,.int .i64 a1_4,.int .i64 a1_5]) (t := 30) ?hr ?_;(case hd => rfl);(case hg => rfl);(case hr => first | (go_simp;done) | (go_simp;rfl));intro gb191 hg w5 hbox hb;have n_ := haq (hbq BK190.out hb) <| haq (ze hCq hb) <| haq (hbox) <| haq ((by rw [hg];exact (zg hCq) : w.heap.size ≤ gb191)) <| haq ((by rw [hg];exact (zg hCq) : w.heap.size ≤ gb191)) <| haq (hnq hg BK190.out) <| haq (hmq hg BK190.out) <| trivial;clear BK190 HB;obtain ⟨BK190,HB,BK191,GW191,GE191,NB190_191,NB191_190,_⟩ := n_;clear hb hbox hg;have hnb6 := NB191_190.out;have hnc6 := NB190_191.out;obtain ⟨hcz7_0,hcz7_1,hcz7_2,hcz7_3,hcz7_4,hcz7_5,hfz7_0,hfz7_1,hfz7_2,hfz7_3,hfz7_4,hfz7_5⟩ := hcq6 BK191.out;obtain ⟨hcz8_0,hcz8_1,hcz8_2,hfz8_0,hfz8_1,hfz8_2⟩ := hcq3 BK190.out)))
  go_ret
  exact ⟨_,hHq,by first | exact Kd.R_nil _ _ _ _ _ | exact Kd.N_nil _ _ _ _ _ | exact Kd.V_nil _ _ _ _ _ | exact Kd.Q_nil _ _ _ _ _ | exact Kd.S_nil _ _ _ _ _,hCq⟩
 ·rw [if_neg c3] at H
  have c3b0 : decide ((wrap64 (a1_1 - 1)) ≤ a0_1) = false := decide_eq_false c3
  clear c3
  replace H := Option.bind_eq_some_iff.mp H
  obtain ⟨t192,A90,H⟩ := H
  replace H : (zx.l0 k t192 ([] : List ByteArray) 0 a1_0 a1_1 l1_2 l1_3 a1_4 a1_5) = some r := H
  have A9 := za.mk A90
  clear A90
  have H' := za.mk H
  clear H
  go_enter Try.func19,Try.ntmps19
  go_wp2_with (first | ((with_reducible refine zu (N := 2) rfl ?_);refine zp ?hg (N := 2) ?hd (cs := #[.int .i64 a0_0,.int .i64 a0_1,.slice A0_2 l0_2.length c0_2]) (t := 24) ?hr ?_;(case hd => rfl);(case hg => rfl);(case hr => first | (go_simp;done) | (go_simp;rfl));intro gb190 hg w10 hbox hb;have n_ := haq (ze hBq hb) <| haq (hbox) <| haq ((by rw [hg];exact (zg hBq) : w.heap.size ≤ gb190)) <| haq ((by rw [hg];exact (zg hBq) : w.heap.size ≤ gb190)) <| trivial;clear HB;obtain ⟨HB,BK190,GW190,GE190,_⟩ := n_;clear hb hbox hg) | ((with_reducible refine zu (N := 3) rfl ?_);refine zp ?hg (N := 3) ?hd (cs := #[.int .i64 a1_0,.int .i64 a1_1,.slice A1_2 l1_2.length c1_2,.slice A1_3 l1_3.length c1_3,.int .i64 a1_4,.int .i64 a1_5]) (t := 30) ?hr ?_;(case hd => rfl);(case hg => rfl);(case hr => first | (go_simp;done) | (go_simp;rfl));intro gb191 hg w11 hbox hb;have n_ := haq (hbq BK190.out hb) <| haq (ze hCq hb) <| haq (hbox) <| haq ((by rw [hg];exact (zg hCq) : w.heap.size ≤ gb191)) <| haq ((by rw [hg];exact (zg hCq) : w.heap.size ≤ gb191)) <| haq (hnq hg BK190.out) <| haq (hmq hg BK190.out) <| trivial;clear BK190 HB;obtain ⟨BK190,HB,BK191,GW191,GE191,NB190_191,NB191_190,_⟩ := n_;clear hb hbox hg;have hnb12 := NB191_190.out;have hnc12 := NB190_191.out;obtain ⟨hcz13_0,hcz13_1,hcz13_2,hcz13_3,hcz13_4,hcz13_5,hfz13_0,hfz13_1,hfz13_2,hfz13_3,hfz13_4,hfz13_5⟩ := hcq6 BK191.out;obtain ⟨hcz14_0,hcz14_1,hcz14_2,hfz14_0,hfz14_1,hfz14_2⟩ := hcq3 BK190.out) | (go_at_call 16;(with_reducible refine (zS.calls k a0_0 a0_1 (fun k_ => k_ < w.heap.size) _ _ l0_2 (wrap64 (a1_1 - 1)) t192 _ ?side1 A9.out).mono ?_);(case side1 => exact Kd.V_mk HC0_2.out (Kd.F_below (Kd.C_F zbZ HR0_2.out) hCq));rintro e w15 ⟨v193,rfl,ho0,hb⟩;have n_ := haq (Kd.N_lower (Kd.N_mono (ok' := fun k_ => k_ ≠ gb190 ∧ k_ ≠ gb191) ho0 (fun k_ hk_ => ⟨Or.elim hk_ (fun hs_ => fun e_ => Nat.not_le.2 hs_ (by rw [e_];exact GW190.out)) (fun hn_ => (Kd.freshB (g := gb190) (o := .cells #[.int .i64 a0_0,.int .i64 a0_1,.slice A0_2 l0_2.length c0_2] 24 (0,0)) (hGq BK190.out) k_ hn_)),Or.elim hk_ (fun hs_ => fun e_ => Nat.not_le.2 hs_ (by rw [e_];exact GW191.out)) (fun hn_ => (Kd.freshB (g := gb191) (o := .cells #[.int .i64 a1_0,.int .i64 a1_1,.slice A1_2 l1_2.length c1_2,.slice A1_3 l1_3.length c1_3,.int .i64 a1_4,.int .i64 a1_5] 30 (0,0)) (hGq BK191.out) k_ hn_))⟩)) (zg hCq)) <| haq (hbq BK190.out hb) <| haq (hbq BK191.out hb) <| haq (ze hCq hb) <| trivial;clear BK190 BK191 HB;obtain ⟨HO194,BK190,BK191,HB,_⟩ := n_;(try clear hb);(try clear hb2);(try clear hk);(try clear hi);(try clear ho0)))
  repeat (go_quiet (first | ((with_reducible refine zu (N := 2) rfl ?_);refine zp ?hg (N := 2) ?hd (cs := #[.int .i64 a0_0,.int .i64 a0_1,.slice A0_2 l0_2.length c0_2]) (t := 24) ?hr ?_;(case hd => rfl);(case hg => rfl);(case hr => first | (go_simp;done) | (go_simp;rfl));intro gb190 hg w10 hbox hb;have n_ := haq (ze hBq hb) <| haq (hbox) <| haq ((by rw [hg];exact (zg hBq) : w.heap.size ≤ gb190)) <| haq ((by rw [hg];exact (zg hBq) : w.heap.size ≤ gb190)) <| trivial;clear HB;obtain ⟨HB,BK190,GW190,GE190,_⟩ := n_;clear hb hbox hg) | ((with_reducible refine zu (N := 3) rfl ?_);refine zp ?hg (N := 3) ?hd (cs := #[.int .i64 a1_0,.int .i64 a1_1,.slice A1_2 l1_2.length c1_2,.slice A1_3 l1_3.length c1_3,.int .i64 a1_4,.int .i64 a1_5]) (t := 30) ?hr ?_;(case hd => rfl);(case hg => rfl);(case hr => first | (go_simp;done) | (go_simp;rfl));intro gb191 hg w11 hbox hb;have n_ := haq (hbq BK190.out hb) <| haq (ze hCq hb) <| haq (hbox) <| haq ((by rw [hg];exact (zg hCq) : w.heap.size ≤ gb191)) <| haq ((by rw [hg];exact (zg hCq) : w.heap.size ≤ gb191)) <| haq (hnq hg BK190.out) <| haq (hmq hg BK190.out) <| trivial;clear BK190 HB;obtain ⟨BK190,HB,BK191,GW191,GE191,NB190_191,NB191_190,_⟩ := n_;clear hb hbox hg;have hnb12 := NB191_190.out;have hnc12 := NB190_191.out;obtain ⟨hcz13_0,hcz13_1,hcz13_2,hcz13_3,hcz13_4,hcz13_5,hfz13_0,hfz13_1,hfz13_2,hfz13_3,hfz13_4,hfz13_5⟩ := hcq6 BK191.out;obtain ⟨hcz14_0,hcz14_1,hcz14_2,hfz14_0,hfz14_1,hfz14_2⟩ := hcq3 BK190.out) | (go_at_call 16;(with_reducible refine (zS.calls k a0_0 a0_1 (fun k_ => k_ < w.heap.size) _ _ l0_2 (wrap64 (a1_1 - 1)) t192 _ ?side1 A9.out).mono ?_);(case side1 => exact Kd.V_mk HC0_2.out (Kd.F_below (Kd.C_F zbZ HR0_2.out) hCq));rintro e w15 ⟨v193,rfl,ho0,hb⟩;have n_ := haq (Kd.N_lower (Kd.N_mono (ok' := fun k_ => k_ ≠ gb190 ∧ k_ ≠ gb191) ho0 (fun k_ hk_ => ⟨Or.elim hk_ (fun hs_ => fun e_ => Nat.not_le.2 hs_ (by rw [e_];exact GW190.out)) (fun hn_ => (Kd.freshB (g := gb190) (o := .cells #[.int .i64 a0_0,.int .i64 a0_1,.slice A0_2 l0_2.length c0_2] 24 (0,0)) (hGq BK190.out) k_ hn_)),Or.elim hk_ (fun hs_ => fun e_ => Nat.not_le.2 hs_ (by rw [e_];exact GW191.out)) (fun hn_ => (Kd.freshB (g := gb191) (o := .cells #[.int .i64 a1_0,.int .i64 a1_1,.slice A1_2 l1_2.length c1_2,.slice A1_3 l1_3.length c1_3,.int .i64 a1_4,.int .i64 a1_5] 30 (0,0)) (hGq BK191.out) k_ hn_))⟩)) (zg hCq)) <| haq (hbq BK190.out hb) <| haq (hbq BK191.out hb) <| haq (ze hCq hb) <| trivial;clear BK190 BK191 HB;obtain ⟨HO194,BK190,BK191,HB,_⟩ := n_;(try clear hb);(try clear hb2);(try clear hk);(try clear hi);(try clear ho0)));try go_wp2_with (first | ((with_reducible refine zu (N := 2) rfl ?_);refine zp ?hg (N := 2) ?hd (cs := #[.int .i64 a0_0,.int .i64 a0_1,.slice A0_2 l0_2.length c0_2]) (t := 24) ?hr ?_;(case hd => rfl);(case hg => rfl);(case hr => first | (go_simp;done) | (go_simp;rfl));intro gb190 hg w10 hbox hb;have n_ := haq (ze hBq hb) <| haq (hbox) <| haq ((by rw [hg];exact (zg hBq) : w.heap.size ≤ gb190)) <| haq ((by rw [hg];exact (zg hBq) : w.heap.size ≤ gb190)) <| trivial;clear HB;obtain ⟨HB,BK190,GW190,GE190,_⟩ := n_;clear hb hbox hg) | ((with_reducible refine zu (N := 3) rfl ?_);refine zp ?hg (N := 3) ?hd (cs := #[.int .i64 a1_0,.int .i64 a1_1,.slice A1_2 l1_2.length c1_2,.slice A1_3 l1_3.length c1_3,.int .i64 a1_4,.int .i64 a1_5]) (t := 30) ?hr ?_;(case hd => rfl);(case hg => rfl);(case hr => first | (go_simp;done) | (go_simp;rfl));intro gb191 hg w11 hbox hb;have n_ := haq (hbq BK190.out hb) <| haq (ze hCq hb) <| haq (hbox) <| haq ((by rw [hg];exact (zg hCq) : w.heap.size ≤ gb191)) <| haq ((by rw [hg];exact (zg hCq) : w.heap.size ≤ gb191)) <| haq (hnq hg BK190.out) <| haq (hmq hg BK190.out) <| trivial;clear BK190 HB;obtain ⟨BK190,HB,BK191,GW191,GE191,NB190_191,NB191_190,_⟩ := n_;clear hb hbox hg;have hnb12 := NB191_190.out;have hnc12 := NB190_191.out;obtain ⟨hcz13_0,hcz13_1,hcz13_2,hcz13_3,hcz13_4,hcz13_5,hfz13_0,hfz13_1,hfz13_2,hfz13_3,hfz13_4,hfz13_5⟩ := hcq6 BK191.out;obtain ⟨hcz14_0,hcz14_1,hcz14_2,hfz14_0,hfz14_1,hfz14_2⟩ := hcq3 BK190.out) | (go_at_call 16;(with_reducible refine (zS.calls k a0_0 a0_1 (fun k_ => k_ < w.heap.size) _ _ l0_2 (wrap64 (a1_1 - 1)) t192 _ ?side1 A9.out).mono ?_);(case side1 => exact Kd.V_mk HC0_2.out (Kd.F_below (Kd.C_F zbZ HR0_2.out) hCq));rintro e w15 ⟨v193,rfl,ho0,hb⟩;have n_ := haq (Kd.N_lower (Kd.N_mono (ok' := fun k_ => k_ ≠ gb190 ∧ k_ ≠ gb191) ho0 (fun k_ hk_ => ⟨Or.elim hk_ (fun hs_ => fun e_ => Nat.not_le.2 hs_ (by rw [e_];exact GW190.out)) (fun hn_ => (Kd.freshB (g := gb190) (o := .cells #[.int .i64 a0_0,.int .i64 a0_1,.slice A0_2 l0_2.length c0_2] 24 (0,0)) (hGq BK190.out) k_ hn_)),Or.elim hk_ (fun hs_ => fun e_ => Nat.not_le.2 hs_ (by rw [e_];exact GW191.out)) (fun hn_ => (Kd.freshB (g := gb191) (o := .cells #[.int .i64 a1_0,.int .i64 a1_1,.slice A1_2 l1_2.length c1_2,.slice A1_3 l1_3.length c1_3,.int .i64 a1_4,.int .i64 a1_5] 30 (0,0)) (hGq BK191.out) k_ hn_))⟩)) (zg hCq)) <| haq (hbq BK190.out hb) <| haq (hbq BK191.out hb) <| haq (ze hCq hb) <| trivial;clear BK190 BK191 HB;obtain ⟨HO194,BK190,BK191,HB,_⟩ := n_;(try clear hb);(try clear hb2);(try clear hk);(try clear hi);(try clear ho0))))
  go_loopg [6,7] k (fun kq v6 v7 w' => ∃ (x6_1 : List ByteArray) (x7_1 : Int),v7 = .int .i64 x7_1 ∧ za (zx.l0 kq t192 x6_1 x7_1 a1_0 a1_1 l1_2 l1_3 a1_4 a1_5 = some r) ∧ za (kq ≤ k) ∧ za (Kd.N k36 36 w' w.heap.size (fun k_ => some k_ ≠ (v6 : Value).ownBlock ∧ k_ ≠ gb190 ∧ k_ ≠ gb191) v193 t192) ∧ za (Kd.R Kd.string 9 w' w.heap.size (fun _ => True) v6 x6_1) ∧ za (w'.heap[gb190]? = some (.cells #[.int .i64 a0_0,.int .i64 a0_1,(.slice A0_2 l0_2.length c0_2)] 24 (0,0))) ∧ za (w'.heap[gb191]? = some (.cells #[.int .i64 a1_0,.int .i64 a1_1,(.slice A1_2 l1_2.length c1_2),(.slice A1_3 l1_3.length c1_3),.int .i64 a1_4,.int .i64 a1_5] 30 (0,0))) ∧ za (Below w.heap.size w w'))
  case atStart => exact ⟨(([] : List ByteArray)),(0),(hDq),H',⟨Nat.le_refl _⟩,⟨by (with_reducible repeat (first | apply Kd.N_alloc | apply Kd.N_drewN | apply Kd.N_drew));exact Kd.N_mono HO194.out (fun _ hk => ⟨(by simp [Value.ownBlock]),⟨hk.1,hk.2⟩⟩)⟩,⟨by first | exact Kd.R_nil _ _ _ _ _ | exact Kd.N_nil _ _ _ _ _ | exact Kd.V_nil _ _ _ _ _ | exact Kd.Q_nil _ _ _ _ _ | exact Kd.S_nil _ _ _ _ _⟩,⟨hGq BK190.out⟩,⟨hGq BK191.out⟩,⟨by repeat (first | (with_reducible first | exact HB.out | apply zl | apply zi | apply zq | refine zo ?_ GE190.out | refine zo ?_ GE191.out) | exact HB.out)⟩⟩
  case round =>
   clear H'
   try clear c1;try clear p2;try clear c3;try clear c3b0;try clear c6;try clear p6;try clear c12;try clear hcz13_0;try clear hcz13_1;try clear hcz13_2;try clear hcz13_3;try clear hcz13_4;try clear hcz13_5;try clear hcz14_0;try clear hcz14_1;try clear hcz14_2;try clear hcz7_0;try clear hcz7_1;try clear hcz7_2;try clear hcz7_3;try clear hcz7_4;try clear hcz7_5;try clear hcz8_0;try clear hcz8_1;try clear hcz8_2;try clear hfz13_0;try clear hfz13_1;try clear hfz13_2;try clear hfz13_3;try clear hfz13_4;try clear hfz13_5;try clear hfz14_0;try clear hfz14_1;try clear hfz14_2;try clear hfz7_0;try clear hfz7_1;try clear hfz7_2;try clear hfz7_3;try clear hfz7_4;try clear hfz7_5;try clear hfz8_0;try clear hfz8_1;try clear hfz8_2
   obtain ⟨x6_1,x7_1,rfl,HA,HK1,HO_5,HO_6,BK190,BK191,HB⟩ := hrel
   cases gk with
   | zero => exact absurd HA.out (by simp [zx.l0])
   | succ k1 =>
    have H := HA.out
    clear HA
    simp only [zx.l0] at H
    by_cases c16 : x7_1 < (l1_3.length : Int)
    ·rw [if_pos c16] at H
     have c16b0 : decide (x7_1 < (l1_3.length : Int)) = true := decide_eq_true c16
     clear c16
     have H' := za.mk H
     clear H
     have hnb17 := NB191_190.out
     have hnc17 := NB190_191.out
     obtain ⟨hcz18_0,hcz18_1,hcz18_2,hcz18_3,hcz18_4,hcz18_5,hfz18_0,hfz18_1,hfz18_2,hfz18_3,hfz18_4,hfz18_5⟩ := hcq6 BK191.out
     go_wp2
     repeat (go_quiet (fail);try go_wp2)
     go_loopg [8,9] k1 (fun kq v8 v9 w' => ∃ (x8_2 : Bool) (x9_2 : Int),v8 = .bool x8_2 ∧ v9 = .int .i64 x9_2 ∧ za (zx.l1 kq t192 x6_1 x7_1 x8_2 x9_2 a1_0 a1_1 l1_2 l1_3 a1_4 a1_5 = some r) ∧ za (kq ≤ k1) ∧ za (Kd.N k36 36 w' w.heap.size (fun k_ => some k_ ≠ (u6 : Value).ownBlock ∧ k_ ≠ gb190 ∧ k_ ≠ gb191) v193 t192) ∧ za (Kd.R Kd.string 9 w' w.heap.size (fun _ => True) u6 x6_1) ∧ za (w'.heap[gb190]? = some (.cells #[.int .i64 a0_0,.int .i64 a0_1,(.slice A0_2 l0_2.length c0_2)] 24 (0,0))) ∧ za (w'.heap[gb191]? = some (.cells #[.int .i64 a1_0,.int .i64 a1_1,(.slice A1_2 l1_2.length c1_2),(.slice A1_3 l1_3.length c1_3),.int .i64 a1_4,.int .i64 a1_5] 30 (0,0))) ∧ za (Below w.heap.size w w'))
     case atStart => exact ⟨(false),(0),(hDq),(hDq),H',⟨Nat.le_refl _⟩,⟨by (with_reducible repeat (first | apply Kd.N_alloc | apply Kd.N_drewN | apply Kd.N_drew));exact HO_5.out⟩,⟨by (with_reducible repeat (first | apply Kd.R_alloc | apply Kd.R_drewN | apply Kd.R_drew));exact HO_6.out⟩,⟨hGq BK190.out⟩,⟨hGq BK191.out⟩,⟨by repeat (first | (with_reducible first | exact HB.out | apply zl | apply zi | apply zq | refine zo ?_ GE190.out | refine zo ?_ GE191.out) | exact HB.out)⟩⟩
     case round =>
      clear H'
      try clear c1;try clear p2;try clear c3;try clear c3b0;try clear c6;try clear p6;try clear c12;try clear c16;try clear c16b0;try clear c17;try clear hcz13_0;try clear hcz13_1;try clear hcz13_2;try clear hcz13_3;try clear hcz13_4;try clear hcz13_5;try clear hcz14_0;try clear hcz14_1;try clear hcz14_2;try clear hcz18_0;try clear hcz18_1;try clear hcz18_2;try clear hcz18_3;try clear hcz18_4;try clear hcz18_5;try clear hcz7_0;try clear hcz7_1;try clear hcz7_2;try clear hcz7_3;try clear hcz7_4;try clear hcz7_5;try clear hcz8_0;try clear hcz8_1;try clear hcz8_2;try clear hfz13_0;try clear hfz13_1;try clear hfz13_2;try clear hfz13_3;try clear hfz13_4;try clear hfz13_5;try clear hfz14_0;try clear hfz14_1;try clear hfz14_2;try clear hfz18_0;try clear hfz18_1;try clear hfz18_2;try clear hfz18_3;try clear hfz18_4;try clear hfz18_5;try clear hfz7_0;try clear hfz7_1;try clear hfz7_2;try clear hfz7_3;try clear hfz7_4;try clear hfz7_5;try clear hfz8_0;try clear hfz8_1;try clear hfz8_2;try clear p2;try clear p6
      obtain ⟨x8_2,x9_2,rfl,rfl,HA,HK2,HO_5,HO_6,BK190,BK191,HB⟩ := hrel
      cases gk with
      | zero => exact absurd HA.out (by simp [zx.l1])
      | succ k2 =>
       have H := HA.out
       clear HA
       simp only [zx.l1] at H
       by_cases c19 : x9_2 < (t192.length : Int)
       ·rw [if_pos c19] at H
        have c19b0 : decide (x9_2 < (t192.length : Int)) = true := decide_eq_true c19
        clear c19
        by_cases c20 : x8_2 = true
        ·subst c20
         have H1 : (zx.l1 k2 t192 x6_1 x7_1 true (wrap64 (x9_2 + 1)) a1_0 a1_1 l1_2 l1_3 a1_4 a1_5) = some r := by rw [if_pos rfl] at H;exact H
         clear H
         have H := H1
         clear H1
         have H' := za.mk H
         clear H
         obtain ⟨Ao21,co21,eo21⟩ := Kd.N_slice HO_5.out
         subst eo21
         go_wp2
         repeat (go_quiet (fail);try go_wp2)
         go_roundg k2
         case measure => have := HK1.out;have := HK2.out;omega
         case rel => exact ⟨(true),(wrap64 (x9_2 + 1)),(hDq),(hDq),H',⟨by have := HK1.out;have := HK2.out;omega⟩,⟨by (with_reducible repeat (first | apply Kd.N_alloc | apply Kd.N_drewN | apply Kd.N_drew));exact HO_5.out⟩,⟨by (with_reducible repeat (first | apply Kd.R_alloc | apply Kd.R_drewN | apply Kd.R_drew));exact HO_6.out⟩,⟨hGq BK190.out⟩,⟨hGq BK191.out⟩,⟨by repeat (first | (with_reducible first | exact HB.out | apply zl | apply zi | apply zq | refine zo ?_ GE190.out | refine zo ?_ GE191.out) | exact HB.out)⟩⟩
        ·replace c20 := Bool.eq_false_iff.mpr c20
         subst c20
         have H1 : (if 0 ≤ x9_2 then (if 0 ≤ x7_1 then (if x7_1 < (l1_3.length : Int) then (zx.l1 k2 t192 x6_1 x7_1 (((zd t192 x9_2).f0).toList == (zE ByteArray.empty l1_3 x7_1).toList) (wrap64 (x9_2 + 1)) a1_0 a1_1 l1_2 l1_3 a1_4 a1_5) else (none)) else (none)) else (none)) = some r := by rw [if_neg (show ¬ (false = true) by decide)] at H;exact H
         clear H
         have H := H1
         clear H1
         by_cases c22 : 0 ≤ x9_2
         ·rw [if_pos c22] at H
          have c22b0 : decide (0 ≤ x9_2) = true := decide_eq_true c22
          clear c22
          by_cases c23 : 0 ≤ x7_1
          ·rw [if_pos c23] at H
           have c23b0 : decide (0 ≤ x7_1) = true := decide_eq_true c23
           clear c23
           by_cases c24 : x7_1 < (l1_3.length : Int)
           ·rw [if_pos c24] at H
            have c24b0 : decide (x7_1 < (l1_3.length : Int)) = true := decide_eq_true c24
            clear c24
            have H' := za.mk H
            clear H
            obtain ⟨Ao25,co25,eo25⟩ := Kd.N_slice HO_5.out
            subst eo25
            have p195 : 0 ≤ (x9_2 : Int) := hFq
            have q195 : x9_2 < (t192.length : Int) := hFq
            obtain ⟨ad195,A195_3,c195_3,A195_4,c195_4,e195,hx195_0,hx195_1,hx195_2,hx195_3,hx195_4,hx195_5,hx195_6,hl195_3,hi195_3,hl195_4,hi195_4⟩ := zaH (Kd.N_reads' HO_5.out).2.2 x9_2 p195 q195
            cases e195
            obtain ⟨ce195,hce195,hMe195,hcc195⟩ := Kd.N_get HO_5.out z36 x9_2 p195 (by first | exact q195 | exact hFq | (have e_ := (Kd.N_reads' HO_5.out).1;omega))
            obtain ⟨ua195_3,uc195_3,ua195_4,uc195_4,rfl,ul195_3,ge195_3,ul195_4,ge195_4⟩ := zaW hMe195
            have hv195_3 := hcc195 3 _ rfl
            rw [zW _ _ 3 (by omega)] at hv195_3
            replace hv195_3 := Option.some.inj (hv195_3.symm.trans hx195_3)
            injection hv195_3 with hva_ hvn_ hvc_
            rw [hva_] at ge195_3
            rw [hvc_] at ul195_3
            have HL195_3 := za.mk (show Kd.V k72 72 _ w.heap.size _ _ ((zd t192 x9_2).f1.f2) from Kd.V_mk ul195_3 ge195_3)
            clear hva_ hvn_ hvc_ ge195_3 ul195_3
            have hv195_4 := hcc195 4 _ rfl
            rw [zW _ _ 4 (by omega)] at hv195_4
            replace hv195_4 := Option.some.inj (hv195_4.symm.trans hx195_4)
            injection hv195_4 with hva_ hvn_ hvc_
            rw [hva_] at ge195_4
            rw [hvc_] at ul195_4
            have HL195_4 := za.mk (show Kd.V Kd.string 9 _ w.heap.size _ _ ((zd t192 x9_2).f1.f3) from Kd.V_mk ul195_4 ge195_4)
            clear hva_ hvn_ hvc_ ge195_4 ul195_4
            clear hcc195 hce195
            have HR195_3 := za.mk hi195_3
            have HC195_3 := za.mk hl195_3
            clear hi195_3 hl195_3
            have HR195_4 := za.mk hi195_4
            have HC195_4 := za.mk hl195_4
            clear hi195_4 hl195_4
            replace p195 := eq_true p195
            replace q195 := eq_true q195
            have hnb26 := NB191_190.out
            have hnc26 := NB190_191.out
            obtain ⟨hcz27_0,hcz27_1,hcz27_2,hcz27_3,hcz27_4,hcz27_5,hfz27_0,hfz27_1,hfz27_2,hfz27_3,hfz27_4,hfz27_5⟩ := hcq6 BK191.out
            have p196 : 0 ≤ (x7_1 : Int) := hFq
            have q196 : x7_1 < (l1_3.length : Int) := hFq
            obtain ⟨ad196,e196,hx196_0⟩ := Kd.at_string HR1_3.out x7_1 p196 q196
            cases e196
            replace hx196_0 := (HB.out.cell (World.block_lt_of_cell? w _ hx196_0)).trans hx196_0
            replace p196 := eq_true p196
            replace q196 := eq_true q196
            go_wp2
            repeat (go_quiet (fail);try go_wp2)
            go_roundg k2
            case measure => have := HK1.out;have := HK2.out;omega
            case rel => exact ⟨((((zd t192 x9_2).f0).toList == (zE ByteArray.empty l1_3 x7_1).toList)),(wrap64 (x9_2 + 1)),(hDq),(hDq),H',⟨by have := HK1.out;have := HK2.out;omega⟩,⟨by (with_reducible repeat (first | apply Kd.N_alloc | apply Kd.N_drewN | apply Kd.N_drew));exact HO_5.out⟩,⟨by (with_reducible repeat (first | apply Kd.R_alloc | apply Kd.R_drewN | apply Kd.R_drew));exact HO_6.out⟩,⟨hGq BK190.out⟩,⟨hGq BK191.out⟩,⟨by repeat (first | (with_reducible first | exact HB.out | apply zl | apply zi | apply zq | refine zo ?_ GE190.out | refine zo ?_ GE191.out) | exact HB.out)⟩⟩
           ·rw [if_neg c24] at H
            exact absurd H (by simp)
          ·rw [if_neg c23] at H
           exact absurd H (by simp)
         ·rw [if_neg c22] at H
          exact absurd H (by simp)
       ·rw [if_neg c19] at H
        have c19b0 : decide (x9_2 < (t192.length : Int)) = false := decide_eq_false c19
        clear c19
        by_cases c28 : x8_2 = true
        ·subst c28
         have H1 : (zx.l0 k2 t192 x6_1 (wrap64 (x7_1 + 1)) a1_0 a1_1 l1_2 l1_3 a1_4 a1_5) = some r := by rw [if_pos rfl] at H;exact H
         clear H
         have H := H1
         clear H1
         have H' := za.mk H
         clear H
         obtain ⟨Ao29,co29,eo29⟩ := Kd.N_slice HO_5.out
         subst eo29
         go_wp2
         repeat (go_quiet (fail);try go_wp2)
         go_roundg k2
         case measure => have := HK1.out;have := HK2.out;omega
         case rel => exact ⟨(x6_1),(wrap64 (x7_1 + 1)),(hDq),H',⟨by have := HK1.out;have := HK2.out;omega⟩,⟨by (with_reducible repeat (first | apply Kd.N_alloc | apply Kd.N_drewN | apply Kd.N_drew));exact HO_5.out⟩,⟨by (with_reducible repeat (first | apply Kd.R_alloc | apply Kd.R_drewN | apply Kd.R_drew));exact HO_6.out⟩,⟨hGq BK190.out⟩,⟨hGq BK191.out⟩,⟨by repeat (first | (with_reducible first | exact HB.out | apply zl | apply zi | apply zq | refine zo ?_ GE190.out | refine zo ?_ GE191.out) | exact HB.out)⟩⟩
        ·replace c28 := Bool.eq_false_iff.mpr c28
         subst c28
         have H1 : (if 0 ≤ x7_1 then (if x7_1 < (l1_3.length : Int) then (if x6_1.length < 8796093022208 then (zx.l0 k2 t192 (x6_1 ++ [zE ByteArray.empty l1_3 x7_1]) (wrap64 (x7_1 + 1)) a1_0 a1_1 l1_2 l1_3 a1_4 a1_5) else (none)) else (none)) else (none)) = some r := by rw [if_neg (show ¬ (false = true) by decide)] at H;exact H
         clear H
         have H := H1
         clear H1
         by_cases c30 : 0 ≤ x7_1
         ·rw [if_pos c30] at H
          have c30b0 : decide (0 ≤ x7_1) = true := decide_eq_true c30
          clear c30
          by_cases c31 : x7_1 < (l1_3.length : Int)
          ·rw [if_pos c31] at H
           have c31b0 : decide (x7_1 < (l1_3.length : Int)) = true := decide_eq_true c31
           clear c31
           by_cases c32 : x6_1.length < 8796093022208
           ·rw [if_pos c32] at H
            have LMc32 := za.mk c32
            clear c32
            obtain ⟨y198,hy198⟩ : ∃ y_ : List ByteArray,y_ = (x6_1 ++ [zE ByteArray.empty l1_3 x7_1]) := ⟨_,rfl⟩
            replace H : (zx.l0 k2 t192 y198 (wrap64 (x7_1 + 1)) a1_0 a1_1 l1_2 l1_3 a1_4 a1_5) = some r := by first | (rw [hy198];with_reducible exact H) | (have H2_ := (Option.bind_some _ _).symm.trans H;rw [hy198];with_reducible exact H2_) | (have H2_ := (Option.bind_some _ _).symm.trans H;with_reducible exact H2_) | with_reducible exact H | (rw [hy198];exact H) | exact H
            have Ny198 := za.mk hy198
            clear hy198
            have H' := za.mk H
            clear H
            obtain ⟨Ao33,co33,eo33⟩ := Kd.N_slice HO_5.out
            subst eo33
            have hnb34 := NB191_190.out
            have hnc34 := NB190_191.out
            obtain ⟨hcz35_0,hcz35_1,hcz35_2,hcz35_3,hcz35_4,hcz35_5,hfz35_0,hfz35_1,hfz35_2,hfz35_3,hfz35_4,hfz35_5⟩ := hcq6 BK191.out
            have p197 : 0 ≤ (x7_1 : Int) := hFq
            have q197 : x7_1 < (l1_3.length : Int) := hFq
            obtain ⟨ad197,e197,hx197_0⟩ := Kd.at_string HR1_3.out x7_1 p197 q197
            cases e197
            replace hx197_0 := (HB.out.cell (World.block_lt_of_cell? w _ hx197_0)).trans hx197_0
            replace p197 := eq_true p197
            replace q197 := eq_true q197
            go_wp2_with (first | ((with_reducible refine zbS (b := .append) (xs := #[.tmp 50,.tmp 56]) rfl ?_);at_builtin;refine Kd.R_append Kd.string (w0 := w) w.heap.size rfl (.tmp 50) (.tmp 56) 26 9 (.string ⟨#[]⟩) 16 rfl Try.underlying26 zib rfl (by decide) (by omega) u6 x6_1 (zE ByteArray.empty l1_3 x7_1) [.string (zE ByteArray.empty l1_3 x7_1)] (fun _ => True) (fun _ => False) rfl rfl ?aP (fun _ hk => hk.elim) ?aF ?aO ?aB ?aS ?aL ?_;(case aP => exact rfl);(case aB => exact hCq);(case aF => exact (fun _ _ => trivial));(case aO => exact (hRq HO_6.out));(case aS => exact (zg hCq));(case aL => have := LMc32.out;omega);intro v199 w36 ho hb hg hat;rw [← Ny198.out] at ho;have n_ := haq (Kd.N_afterv (ok := (fun k_ => k_ ≠ gb190 ∧ k_ ≠ gb191)) (by (with_reducible repeat (first | apply Kd.N_alloc | apply Kd.N_drewN | apply Kd.N_drew));exact Kd.N_mono HO_5.out (fun _ hk => ⟨⟨hk.2.1,hk.2.2⟩,hk.1⟩)) hg hat) <| haq (zaU (g := gb190) (o := .cells #[.int .i64 a0_0,.int .i64 a0_1,.slice A0_2 l0_2.length c0_2] 24 (0,0)) (hGq BK190.out) hg (Kd.R_ne HO_6.out BK190.out (by decide))) <| haq (zaU (g := gb191) (o := .cells #[.int .i64 a1_0,.int .i64 a1_1,.slice A1_2 l1_2.length c1_2,.slice (some ad197) l1_3.length c1_3,.int .i64 a1_4,.int .i64 a1_5] 30 (0,0)) (hGq BK191.out) hg (Kd.R_ne HO_6.out BK191.out (by decide))) <| haq (hb) <| haq (ho) <| trivial;clear HO_5 BK190 BK191 HB HO_6;obtain ⟨HO_5,BK190,BK191,HB,HO200,_⟩ := n_;clear ho hb hg hat))
            repeat (go_quiet (first | ((with_reducible refine zbS (b := .append) (xs := #[.tmp 50,.tmp 56]) rfl ?_);at_builtin;refine Kd.R_append Kd.string (w0 := w) w.heap.size rfl (.tmp 50) (.tmp 56) 26 9 (.string ⟨#[]⟩) 16 rfl Try.underlying26 zib rfl (by decide) (by omega) u6 x6_1 (zE ByteArray.empty l1_3 x7_1) [.string (zE ByteArray.empty l1_3 x7_1)] (fun _ => True) (fun _ => False) rfl rfl ?aP (fun _ hk => hk.elim) ?aF ?aO ?aB ?aS ?aL ?_;(case aP => exact rfl);(case aB => exact hCq);(case aF => exact (fun _ _ => trivial));(case aO => exact (hRq HO_6.out));(case aS => exact (zg hCq));(case aL => have := LMc32.out;omega);intro v199 w36 ho hb hg hat;rw [← Ny198.out] at ho;have n_ := haq (Kd.N_afterv (ok := (fun k_ => k_ ≠ gb190 ∧ k_ ≠ gb191)) (by (with_reducible repeat (first | apply Kd.N_alloc | apply Kd.N_drewN | apply Kd.N_drew));exact Kd.N_mono HO_5.out (fun _ hk => ⟨⟨hk.2.1,hk.2.2⟩,hk.1⟩)) hg hat) <| haq (zaU (g := gb190) (o := .cells #[.int .i64 a0_0,.int .i64 a0_1,.slice A0_2 l0_2.length c0_2] 24 (0,0)) (hGq BK190.out) hg (Kd.R_ne HO_6.out BK190.out (by decide))) <| haq (zaU (g := gb191) (o := .cells #[.int .i64 a1_0,.int .i64 a1_1,.slice A1_2 l1_2.length c1_2,.slice (some ad197) l1_3.length c1_3,.int .i64 a1_4,.int .i64 a1_5] 30 (0,0)) (hGq BK191.out) hg (Kd.R_ne HO_6.out BK191.out (by decide))) <| haq (hb) <| haq (ho) <| trivial;clear HO_5 BK190 BK191 HB HO_6;obtain ⟨HO_5,BK190,BK191,HB,HO200,_⟩ := n_;clear ho hb hg hat));try go_wp2_with (first | ((with_reducible refine zbS (b := .append) (xs := #[.tmp 50,.tmp 56]) rfl ?_);at_builtin;refine Kd.R_append Kd.string (w0 := w) w.heap.size rfl (.tmp 50) (.tmp 56) 26 9 (.string ⟨#[]⟩) 16 rfl Try.underlying26 zib rfl (by decide) (by omega) u6 x6_1 (zE ByteArray.empty l1_3 x7_1) [.string (zE ByteArray.empty l1_3 x7_1)] (fun _ => True) (fun _ => False) rfl rfl ?aP (fun _ hk => hk.elim) ?aF ?aO ?aB ?aS ?aL ?_;(case aP => exact rfl);(case aB => exact hCq);(case aF => exact (fun _ _ => trivial));(case aO => exact (hRq HO_6.out));(case aS => exact (zg hCq));(case aL => have := LMc32.out;omega);intro v199 w36 ho hb hg hat;rw [← Ny198.out] at ho;have n_ := haq (Kd.N_afterv (ok := (fun k_ => k_ ≠ gb190 ∧ k_ ≠ gb191)) (by (with_reducible repeat (first | apply Kd.N_alloc | apply Kd.N_drewN | apply Kd.N_drew));exact Kd.N_mono HO_5.out (fun _ hk => ⟨⟨hk.2.1,hk.2.2⟩,hk.1⟩)) hg hat) <| haq (zaU (g := gb190) (o := .cells #[.int .i64 a0_0,.int .i64 a0_1,.slice A0_2 l0_2.length c0_2] 24 (0,0)) (hGq BK190.out) hg (Kd.R_ne HO_6.out BK190.out (by decide))) <| haq (zaU (g := gb191) (o := .cells #[.int .i64 a1_0,.int .i64 a1_1,.slice A1_2 l1_2.length c1_2,.slice (some ad197) l1_3.length c1_3,.int .i64 a1_4,.int .i64 a1_5] 30 (0,0)) (hGq BK191.out) hg (Kd.R_ne HO_6.out BK191.out (by decide))) <| haq (hb) <| haq (ho) <| trivial;clear HO_5 BK190 BK191 HB HO_6;obtain ⟨HO_5,BK190,BK191,HB,HO200,_⟩ := n_;clear ho hb hg hat)))
            go_roundg k2
            case measure => have := HK1.out;have := HK2.out;omega
            case rel => exact ⟨(y198),(wrap64 (x7_1 + 1)),(hDq),H',⟨by have := HK1.out;have := HK2.out;omega⟩,⟨by (with_reducible repeat (first | apply Kd.N_alloc | apply Kd.N_drewN | apply Kd.N_drew));exact Kd.N_mono HO_5.out (fun _ hk => ⟨hk.2,⟨hk.1.1,hk.1.2⟩⟩)⟩,⟨by (with_reducible repeat (first | apply Kd.R_alloc | apply Kd.R_drewN | apply Kd.R_drew));exact HO200.out⟩,⟨hGq BK190.out⟩,⟨hGq BK191.out⟩,⟨by repeat (first | (with_reducible first | exact HB.out | apply zl | apply zi | apply zq | refine zo ?_ GE190.out | refine zo ?_ GE191.out) | exact HB.out)⟩⟩
           ·rw [if_neg c32] at H
            exact absurd H (by simp)
          ·rw [if_neg c31] at H
           exact absurd H (by simp)
         ·rw [if_neg c30] at H
          exact absurd H (by simp)
    ·rw [if_neg c16] at H
     have c16b0 : decide (x7_1 < (l1_3.length : Int)) = false := decide_eq_false c16
     clear c16
     obtain rfl := Option.some.inj H
     have hnb37 := NB191_190.out
     have hnc37 := NB190_191.out
     obtain ⟨hcz38_0,hcz38_1,hcz38_2,hcz38_3,hcz38_4,hcz38_5,hfz38_0,hfz38_1,hfz38_2,hfz38_3,hfz38_4,hfz38_5⟩ := hcq6 BK191.out
     go_wp2
     repeat (go_quiet (fail);try go_wp2)
     go_ret
     exact ⟨_,hHq,by (with_reducible repeat (first | apply Kd.R_alloc | apply Kd.R_drewN | apply Kd.R_drew));exact HO_6.out,hCq⟩
def zaA.f (a0_0 : Int) (a0_1 : Int) (l0_2 : List (S72)) (l0_3 : List ByteArray) (a0_4 : Int) (a0_5 : Int) (a1_0 : Int) (a1_1 : Int) (l1_2 : List (S72)) (l1_3 : List ByteArray) (a1_4 : Int) (a1_5 : Int) : Option (Bool) := if a0_1 = a1_1 then (some (decide (a0_0 < a1_0))) else (some (decide (a0_1 < a1_1)))
set_option maxHeartbeats 8000000 in
set_option maxRecDepth 100000 in
theorem zaA.calls (a0_0 : Int) (a0_1 : Int) (A0_2 : Option Addr) (c0_2 : Nat) (l0_2 : List (S72)) (A0_3 : Option Addr) (c0_3 : Nat) (l0_3 : List ByteArray) (a0_4 : Int) (a0_5 : Int) (a1_0 : Int) (a1_1 : Int) (A1_2 : Option Addr) (c1_2 : Nat) (l1_2 : List (S72)) (A1_3 : Option Addr) (c1_3 : Nat) (l1_3 : List ByteArray) (a1_4 : Int) (a1_5 : Int) (r : Bool) (w : World) (hr0_2 : Kd.C k72 w A0_2 l0_2.length l0_2) (hc0_2 : l0_2.length ≤ c0_2) (hr0_3 : Kd.C Kd.string w A0_3 l0_3.length l0_3) (hc0_3 : l0_3.length ≤ c0_3) (hr1_2 : Kd.C k72 w A1_2 l1_2.length l1_2) (hc1_2 : l1_2.length ≤ c1_2) (hr1_3 : Kd.C Kd.string w A1_3 l1_3.length l1_3) (hc1_3 : l1_3.length ≤ c1_3) (h : zaA.f a0_0 a0_1 l0_2 l0_3 a0_4 a0_5 a1_0 a1_1 l1_2 l1_3 a1_4 a1_5 = some r) :
  Calls Try.prog 34 #[.agg #[.int .i64 a0_0,.int .i64 a0_1,.slice A0_2 l0_2.length c0_2,.slice A0_3 l0_3.length c0_3,.int .i64 a0_4,.int .i64 a0_5],.agg #[.int .i64 a1_0,.int .i64 a1_1,.slice A1_2 l1_2.length c1_2,.slice A1_3 l1_3.length c1_3,.int .i64 a1_4,.int .i64 a1_5]] w fun e w' => e = .returned (.bool r) ∧ Below w.heap.size w w' := by
 have hu30 := Try.underlying30
 have HR0_2 := za.mk hr0_2
 have HC0_2 := za.mk hc0_2
 clear hr0_2 hc0_2
 have HR0_3 := za.mk hr0_3
 have HC0_3 := za.mk hc0_3
 clear hr0_3 hc0_3
 have HR1_2 := za.mk hr1_2
 have HC1_2 := za.mk hc1_2
 clear hr1_2 hc1_2
 have HR1_3 := za.mk hr1_3
 have HC1_3 := za.mk hc1_3
 clear hr1_3 hc1_3
 have HB := za.mk (Below.refl w.heap.size w)
 have H : (if a0_1 = a1_1 then (some (decide (a0_0 < a1_0))) else (some (decide (a0_1 < a1_1)))) = some r := h
 clear h
 by_cases c3 : a0_1 = a1_1
 ·rw [if_pos c3] at H
  have c3b0 : (a0_1 == a1_1) = true := beq_iff_eq.mpr c3
  have c3b1 : (a0_1 != a1_1) = false := bne_eq_false_iff_eq.mpr c3
  clear c3
  obtain rfl := Option.some.inj H
  go_enter Try.func34,Try.ntmps34
  go_wp2_with (first | ((with_reducible refine zu (N := 2) rfl ?_);refine zp ?hg (N := 2) ?hd (cs := #[.int .i64 a0_0,.int .i64 a0_1,.slice A0_2 l0_2.length c0_2,.slice A0_3 l0_3.length c0_3,.int .i64 a0_4,.int .i64 a0_5]) (t := 30) ?hr ?_;(case hd => rfl);(case hg => rfl);(case hr => first | (go_simp;done) | (go_simp;rfl));intro gb247 hg w4 hbox hb;have n_ := haq (ze hBq hb) <| haq (hbox) <| haq ((by rw [hg];exact (zg hBq) : w.heap.size ≤ gb247)) <| haq ((by rw [hg];exact (zg hBq) : w.heap.size ≤ gb247)) <| trivial;clear HB;obtain ⟨HB,BK247,GW247,GE247,_⟩ := n_;clear hb hbox hg) | ((with_reducible refine zu (N := 3) rfl ?_);refine zp ?hg (N := 3) ?hd (cs := #[.int .i64 a1_0,.int .i64 a1_1,.slice A1_2 l1_2.length c1_2,.slice A1_3 l1_3.length c1_3,.int .i64 a1_4,.int .i64 a1_5]) (t := 30) ?hr ?_;(case hd => rfl);(case hg => rfl);(case hr => first | (go_simp;done) | (go_simp;rfl));intro gb248 hg w5 hbox hb;have n_ := haq (hbq BK247.out hb) <| haq (ze hCq hb) <| haq (hbox) <| haq ((by rw [hg];exact (zg hCq) : w.heap.size ≤ gb248)) <| haq ((by rw [hg];exact (zg hCq) : w.heap.size ≤ gb248)) <| haq (hnq hg BK247.out) <| haq (hmq hg BK247.out) <| trivial;clear BK247 HB;obtain ⟨BK247,HB,BK248,GW248,GE248,NB247_248,NB248_247,_⟩ := n_;clear hb hbox hg;have hnb6 := NB247_248.out;have hnc6 := NB248_247.out;obtain ⟨hcz7_0,hcz7_1,hcz7_2,hcz7_3,hcz7_4,hcz7_5,hfz7_0,hfz7_1,hfz7_2,hfz7_3,hfz7_4,hfz7_5⟩ := hcq6 BK247.out;obtain ⟨hcz8_0,hcz8_1,hcz8_2,hcz8_3,hcz8_4,hcz8_5,hfz8_0,hfz8_1,hfz8_2,hfz8_3,hfz8_4,hfz8_5⟩ := hcq6 BK248.out))
  go_ret
  exact ⟨hHq,hCq⟩
 ·rw [if_neg c3] at H
  have c3b0 : (a0_1 == a1_1) = false := beq_eq_false_iff_ne.mpr c3
  have c3b1 : (a0_1 != a1_1) = true := bne_iff_ne.mpr c3
  obtain rfl := Option.some.inj H
  go_enter Try.func34,Try.ntmps34
  go_wp2_with (first | ((with_reducible refine zu (N := 2) rfl ?_);refine zp ?hg (N := 2) ?hd (cs := #[.int .i64 a0_0,.int .i64 a0_1,.slice A0_2 l0_2.length c0_2,.slice A0_3 l0_3.length c0_3,.int .i64 a0_4,.int .i64 a0_5]) (t := 30) ?hr ?_;(case hd => rfl);(case hg => rfl);(case hr => first | (go_simp;done) | (go_simp;rfl));intro gb247 hg w9 hbox hb;have n_ := haq (ze hBq hb) <| haq (hbox) <| haq ((by rw [hg];exact (zg hBq) : w.heap.size ≤ gb247)) <| haq ((by rw [hg];exact (zg hBq) : w.heap.size ≤ gb247)) <| trivial;clear HB;obtain ⟨HB,BK247,GW247,GE247,_⟩ := n_;clear hb hbox hg) | ((with_reducible refine zu (N := 3) rfl ?_);refine zp ?hg (N := 3) ?hd (cs := #[.int .i64 a1_0,.int .i64 a1_1,.slice A1_2 l1_2.length c1_2,.slice A1_3 l1_3.length c1_3,.int .i64 a1_4,.int .i64 a1_5]) (t := 30) ?hr ?_;(case hd => rfl);(case hg => rfl);(case hr => first | (go_simp;done) | (go_simp;rfl));intro gb248 hg w10 hbox hb;have n_ := haq (hbq BK247.out hb) <| haq (ze hCq hb) <| haq (hbox) <| haq ((by rw [hg];exact (zg hCq) : w.heap.size ≤ gb248)) <| haq ((by rw [hg];exact (zg hCq) : w.heap.size ≤ gb248)) <| haq (hnq hg BK247.out) <| haq (hmq hg BK247.out) <| trivial;clear BK247 HB;obtain ⟨BK247,HB,BK248,GW248,GE248,NB247_248,NB248_247,_⟩ := n_;clear hb hbox hg;have hnb11 := NB247_248.out;have hnc11 := NB248_247.out;obtain ⟨hcz12_0,hcz12_1,hcz12_2,hcz12_3,hcz12_4,hcz12_5,hfz12_0,hfz12_1,hfz12_2,hfz12_3,hfz12_4,hfz12_5⟩ := hcq6 BK247.out;obtain ⟨hcz13_0,hcz13_1,hcz13_2,hcz13_3,hcz13_4,hcz13_5,hfz13_0,hfz13_1,hfz13_2,hfz13_3,hfz13_4,hfz13_5⟩ := hcq6 BK248.out))
  go_ret
  exact ⟨hHq,hCq⟩
end Go.Proofs.Ytklhjlaofkngcaa.Px