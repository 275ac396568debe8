/- Part 35 of 36 of the proof of the law DagAdds: what is proved is the statement at the end of the last part; its conditions are those of the given row. -/
import Derived.Test.YtlkfelmbhldgfaaGreatZDagAddsg
import Derived.Test.YtlkfelmbhldgfaaGreatZDagAddsh
namespace Go.Proofs.YtlkfelmbhldgfaaGreat.Px
open Go.RowKit Go.Proofs.YtlkfelmbhldgfaaGreatW.PrintWords Go.Proofs.YtlkfelmbhldgfaaGreatW.PrintLast Go.Proofs.YtlkfelmbhldgfaaGreatW.PrintMore
attribute [local go_sem] zA zC zH zI zv zw zB zD
set_option linter.unusedVariables false
set_option linter.unusedSimpArgs false
def zx.j0 : Nat → Int → Bool → Bool → Int → Int → List (S42) → Int → Int → List (S67) → List ByteArray → Int → Int → Option (Bool)
 | 0,_,_,_,_,_,_,_,_,_,_,_,_ => none
 | k + 1,x2,x7,x23,x261000,x261001,x261002,x262000,x262001,x262002,x262003,x262004,x262005 => if x23 = true then (some x7) else ((zas.f x261000 x261001 x261002 x262000 x262001 x262002 x262003 x262004 x262005).bind fun bt264 => ((zP.f x261000 x261001 x261002 x262000 x262001 x262002 x262003 x262004 x262005).bind fun bt271 => ((zV.f k bt264.1 bt264.2.1 bt264.2.2.1 bt271.1 bt271.2.1 bt271.2.2.1).bind fun t278 => ((zU.f x261000 x261001 x261002 x2).bind fun bt279 => ((zE.f k x261000 x261001 x261002 x2).bind fun bt284 => ((zV.f k bt279.1 bt279.2.1 bt279.2.2 bt284.1 bt284.2.1 bt284.2.2).bind fun t289 => (if t278 = true then (if t289 = true then (some (bt264.2.2.2 == bt271.2.2.2)) else (some false)) else (some false))))))))
def zx.f (k : Nat) (a0_0 : Int) (a0_1 : Int) (l0_2 : List (S42)) (a1_0 : Int) (a1_1 : Int) (l1_2 : List (S67)) (l1_3 : List ByteArray) (a1_4 : Int) (a1_5 : Int) (a2 : Int) : Option (Bool) := (zaT.f).bind fun t262 => ((zba.f a0_0 a0_1 l0_2).bind fun t263 => (if t262 = true then (zx.j0 k a2 t262 (!t263) a0_0 a0_1 l0_2 a1_0 a1_1 l1_2 l1_3 a1_4 a1_5) else (zx.j0 k a2 t262 true a0_0 a0_1 l0_2 a1_0 a1_1 l1_2 l1_3 a1_4 a1_5)))
def zx.T8 : Bool × List (List Nat × List Nat) := (true,[([],[]),([],[]),([0,1],[0,1]),([],[]),([],[]),([3,4,2],[3,4]),([2,5,5],[2,5]),([6,6,0,1,2,3,4,5,6],[6])])
def zx.B8 : List Nat := [0,0,3,0,0,31,63,127]
theorem zx.tab8 : zbX .any (zdG Tryz.f3 8) = zx.T8 := by kernel_rfl
theorem zx.bits8 : zbF zx.T8.2 zx.B8 = true := by kernel_rfl
set_option maxHeartbeats 8000000 in
set_option maxRecDepth 100000 in
theorem zx.calls (k : Nat) (a0_0 : Int) (a0_1 : Int) (A0_2 : Option Addr) (c0_2 : Nat) (l0_2 : List (S42)) (a1_0 : Int) (a1_1 : Int) (A1_2 : Option Addr) (c1_2 : Nat) (l1_2 : List (S67)) (A1_3 : Option Addr) (c1_3 : Nat) (l1_3 : List ByteArray) (a1_4 : Int) (a1_5 : Int) (a2 : Int) (r : Bool) (w : World) (hr0_2 : Kd.C k42 w A0_2 l0_2.length l0_2) (hc0_2 : l0_2.length ≤ c0_2) (hr1_2 : Kd.C k67 w A1_2 l1_2.length l1_2) (hc1_2 : l1_2.length ≤ c1_2) (hr1_3 : Kd.C Kd.string w A1_3 l1_3.length l1_3) (hc1_3 : l1_3.length ≤ c1_3) (h : zx.f k a0_0 a0_1 l0_2 a1_0 a1_1 l1_2 l1_3 a1_4 a1_5 a2 = some r) :
  Calls Tryz.prog 3 #[.agg #[.int .i64 a0_0,.int .i64 a0_1,.slice A0_2 l0_2.length c0_2],.agg #[.int .i64 a1_0,.int .i64 a1_1,.slice A1_2 l1_2.length c1_2,.slice A1_3 l1_3.length c1_3,.int .i64 a1_4,.int .i64 a1_5],.int .i64 a2] w fun e w' => e = .returned (.bool r) ∧ Below w.heap.size w w' := by
 have hu24 := Tryz.underlying24
 have hu30 := Tryz.underlying30
 have HR0_2 := za.mk hr0_2
 have HC0_2 := za.mk hc0_2
 clear hr0_2 hc0_2
 have HR1_2 := za.mk hr1_2
 have HC1_2 := za.mk hc1_2
 clear hr1_2 hc1_2
 have HR1_3 := za.mk hr1_3
 have HC1_3 := za.mk hc1_3
 clear hr1_3 hc1_3
 have HB := za.mk (Below.refl w.heap.size w)
 have H : ((zaT.f).bind fun t262 => ((zba.f a0_0 a0_1 l0_2).bind fun t263 => (if t262 = true then (zx.j0 k a2 t262 (!t263) a0_0 a0_1 l0_2 a1_0 a1_1 l1_2 l1_3 a1_4 a1_5) else (zx.j0 k a2 t262 true a0_0 a0_1 l0_2 a1_0 a1_1 l1_2 l1_3 a1_4 a1_5)))) = some r := h
 clear h
 replace H := Option.bind_eq_some_iff.mp H
 obtain ⟨t262,A40,H⟩ := H
 replace H : ((zba.f a0_0 a0_1 l0_2).bind fun t263 => (if t262 = true then (zx.j0 k a2 t262 (!t263) a0_0 a0_1 l0_2 a1_0 a1_1 l1_2 l1_3 a1_4 a1_5) else (zx.j0 k a2 t262 true a0_0 a0_1 l0_2 a1_0 a1_1 l1_2 l1_3 a1_4 a1_5))) = some r := H
 have A4 := za.mk A40
 clear A40
 replace H := Option.bind_eq_some_iff.mp H
 obtain ⟨t263,A50,H⟩ := H
 replace H : (if t262 = true then (zx.j0 k a2 t262 (!t263) a0_0 a0_1 l0_2 a1_0 a1_1 l1_2 l1_3 a1_4 a1_5) else (zx.j0 k a2 t262 true a0_0 a0_1 l0_2 a1_0 a1_1 l1_2 l1_3 a1_4 a1_5)) = some r := H
 have A5 := za.mk A50
 clear A50
 have HC6 := za.mk H
 clear H
 go_enter Tryz.func3,Tryz.ntmps3
 go_upto_region 3 with (first | ((with_reducible refine zn (N := 3) rfl ?_);refine zl rfl (N := 3) rfl (cs := #[.int .i64 a0_0,.int .i64 a0_1,.slice A0_2 l0_2.length c0_2]) (t := 24) hrq ?_;intro gb260 hg w7 hbox hb;have n_ := haq (ze hBq hb) <| haq (hbox) <| haq ((by rw [hg];exact (zg hBq) : w.heap.size ≤ gb260)) <| haq ((by rw [hg];exact (zg hBq) : w.heap.size ≤ gb260)) <| trivial;clear HB;obtain ⟨HB,BK260,GW260,GE260,_⟩ := n_;clear hb hbox hg) | ((with_reducible refine zn (N := 4) rfl ?_);refine zl rfl (N := 4) rfl (cs := #[.int .i64 a1_0,.int .i64 a1_1,.slice A1_2 l1_2.length c1_2,.slice A1_3 l1_3.length c1_3,.int .i64 a1_4,.int .i64 a1_5]) (t := 30) hrq ?_;intro gb261 hg w8 hbox hb;have n_ := haq (hbq BK260.out hb) <| haq (ze hCq hb) <| haq (hbox) <| haq ((by rw [hg];exact (zg hCq) : w.heap.size ≤ gb261)) <| haq ((by rw [hg];exact (zg hCq) : w.heap.size ≤ gb261)) <| haq (hnq hg BK260.out) <| haq (hmq hg BK260.out) <| trivial;clear BK260 HB;obtain ⟨BK260,HB,BK261,GW261,GE261,NB260_261,NB261_260,_⟩ := n_;clear hb hbox hg) | ((with_reducible refine zL (f := 4) rfl ?_);refine zaq (some 15) rfl rfl Tryz.func4 (by kernel_rfl) rfl #[] rfl hMq ?_;(with_reducible refine (zaT.calls  t262 _ A4.out).mono ?_);rintro e w9 ⟨rfl,hb⟩;refine ⟨_,rfl,?_⟩;have n_ := haq (hbq BK260.out hb) <| haq (hbq BK261.out hb) <| haq (ze hCq hb) <| trivial;clear BK260 BK261 HB;obtain ⟨BK260,BK261,HB,_⟩ := n_;(try clear hb);(try clear hb2);(try clear hk);(try clear hi);have hnb10 := NB260_261.out;have hnc10 := NB261_260.out;obtain ⟨hcz11_0,hcz11_1,hcz11_2,hfz11_0,hfz11_1,hfz11_2⟩ := hcq3 BK260.out) | ((with_reducible refine zL (f := 5) rfl ?_);refine zaq (some 17) rfl rfl Tryz.func5 (by kernel_rfl) rfl #[.agg #[.int .i64 a0_0,.int .i64 a0_1,.slice A0_2 l0_2.length c0_2]] rfl hMq ?_;(with_reducible refine (zba.calls a0_0 a0_1 _ _ l0_2 t263 _ ?side1 ?side2 A5.out).mono ?_);(case side1 => exact hKq (Kd.C_below HR0_2.out HB.out));(case side2 => exact HC0_2.out);rintro e w12 ⟨rfl,hb⟩;refine ⟨_,rfl,?_⟩;have n_ := haq (hbq BK260.out hb) <| haq (hbq BK261.out hb) <| haq (ze hCq hb) <| trivial;clear BK260 BK261 HB;obtain ⟨BK260,BK261,HB,_⟩ := n_;(try clear hb);(try clear hb2);(try clear hk);(try clear hi)))
 (try simp only [Act.put,List.setIfInBounds_toArray,List.set_cons_zero,List.set_cons_succ])
 go_cut [23] (fun v23 wc => ∃ (kq : Nat) (x23_5 : Bool),v23 = .bool x23_5 ∧ za (zx.j0 kq a2 t262 x23_5 a0_0 a0_1 l0_2 a1_0 a1_1 l1_2 l1_3 a1_4 a1_5 = some r) ∧ za (kq ≤ k) ∧ za (wc.heap[gb260]? = some (.cells #[.int .i64 a0_0,.int .i64 a0_1,(.slice A0_2 l0_2.length c0_2)] 24 (0,0))) ∧ za (wc.heap[gb261]? = some (.cells #[.int .i64 a1_0,.int .i64 a1_1,(.slice A1_2 l1_2.length c1_2),(.slice A1_3 l1_3.length c1_3),.int .i64 a1_4,.int .i64 a1_5] 30 (0,0))) ∧ za (Below w.heap.size w wc))
 case first =>
  have H := HC6.out
  clear HC6
  by_cases c13 : t262 = true
  ·subst c13
   have H1 : (zx.j0 k a2 true (!t263) a0_0 a0_1 l0_2 a1_0 a1_1 l1_2 l1_3 a1_4 a1_5) = some r := by rw [if_pos rfl] at H;exact H
   clear H
   have H := H1
   clear H1
   have H' := za.mk H
   clear H
   go_wp2
   go_meet
   case rel => exact ⟨_,(!t263),(hDq),H',⟨by first | omega | exact Nat.le_refl _⟩,⟨hGq BK260.out⟩,⟨hGq BK261.out⟩,⟨by repeat (first | (with_reducible first | exact HB.out | apply zk | apply zi | apply zo | refine zj ?_ GE260.out | refine zj ?_ GE261.out) | exact HB.out)⟩⟩
  ·replace c13 := Bool.eq_false_iff.mpr c13
   subst c13
   have H1 : (zx.j0 k a2 false true a0_0 a0_1 l0_2 a1_0 a1_1 l1_2 l1_3 a1_4 a1_5) = some r := by rw [if_neg (show ¬ (false = true) by decide)] at H;exact H
   clear H
   have H := H1
   clear H1
   have H' := za.mk H
   clear H
   go_wp2
   go_meet
   case rel => exact ⟨_,(true),(hDq),H',⟨by first | omega | exact Nat.le_refl _⟩,⟨hGq BK260.out⟩,⟨hGq BK261.out⟩,⟨by repeat (first | (with_reducible first | exact HB.out | apply zk | apply zi | apply zo | refine zj ?_ GE260.out | refine zj ?_ GE261.out) | exact HB.out)⟩⟩
 case rest =>
  clear HC6
  try clear c1;try clear p2;try clear c3;try clear c4;try clear c5;try clear c10;try clear c13;try clear hcz11_0;try clear hcz11_1;try clear hcz11_2;try clear hfz11_0;try clear hfz11_1;try clear hfz11_2
  obtain ⟨kq,x23_5,rfl,HA,HJ5,BK260,BK261,HB⟩ := hcut
  cases kq with
  | zero => exact absurd HA.out (by simp [zx.j0])
  | succ kj5 =>
   have H := HA.out
   clear HA
   simp only [zx.j0] at H
   by_cases c14 : x23_5 = true
   ·subst c14
    have H1 : (some t262) = some r := by rw [if_pos rfl] at H;exact H
    clear H
    have H := H1
    clear H1
    obtain rfl := Option.some.inj H
    go_wp2
    go_ret
    exact ⟨hHq,hCq⟩
   ·replace c14 := Bool.eq_false_iff.mpr c14
    subst c14
    have H1 : ((zas.f a0_0 a0_1 l0_2 a1_0 a1_1 l1_2 l1_3 a1_4 a1_5).bind fun bt264 => ((zP.f a0_0 a0_1 l0_2 a1_0 a1_1 l1_2 l1_3 a1_4 a1_5).bind fun bt271 => ((zV.f kj5 bt264.1 bt264.2.1 bt264.2.2.1 bt271.1 bt271.2.1 bt271.2.2.1).bind fun t278 => ((zU.f a0_0 a0_1 l0_2 a2).bind fun bt279 => ((zE.f kj5 a0_0 a0_1 l0_2 a2).bind fun bt284 => ((zV.f kj5 bt279.1 bt279.2.1 bt279.2.2 bt284.1 bt284.2.1 bt284.2.2).bind fun t289 => (if t278 = true then (if t289 = true then (some (bt264.2.2.2 == bt271.2.2.2)) else (some false)) else (some false)))))))) = some r := by rw [if_neg (show ¬ (false = true) by decide)] at H;exact H
    clear H
    have H := H1
    clear H1
    replace H := Option.bind_eq_some_iff.mp H
    obtain ⟨⟨t264,t265,t266,t269⟩,A150,H⟩ := H
    replace H : ((zP.f a0_0 a0_1 l0_2 a1_0 a1_1 l1_2 l1_3 a1_4 a1_5).bind fun bt271 => ((zV.f kj5 t264 t265 t266 bt271.1 bt271.2.1 bt271.2.2.1).bind fun t278 => ((zU.f a0_0 a0_1 l0_2 a2).bind fun bt279 => ((zE.f kj5 a0_0 a0_1 l0_2 a2).bind fun bt284 => ((zV.f kj5 bt279.1 bt279.2.1 bt279.2.2 bt284.1 bt284.2.1 bt284.2.2).bind fun t289 => (if t278 = true then (if t289 = true then (some (t269 == bt271.2.2.2)) else (some false)) else (some false))))))) = some r := H
    have A15 := za.mk A150
    clear A150
    replace H := Option.bind_eq_some_iff.mp H
    obtain ⟨⟨t271,t272,t273,t276⟩,A160,H⟩ := H
    replace H : ((zV.f kj5 t264 t265 t266 t271 t272 t273).bind fun t278 => ((zU.f a0_0 a0_1 l0_2 a2).bind fun bt279 => ((zE.f kj5 a0_0 a0_1 l0_2 a2).bind fun bt284 => ((zV.f kj5 bt279.1 bt279.2.1 bt279.2.2 bt284.1 bt284.2.1 bt284.2.2).bind fun t289 => (if t278 = true then (if t289 = true then (some (t269 == t276)) else (some false)) else (some false)))))) = some r := H
    have A16 := za.mk A160
    clear A160
    replace H := Option.bind_eq_some_iff.mp H
    obtain ⟨t278,A170,H⟩ := H
    replace H : ((zU.f a0_0 a0_1 l0_2 a2).bind fun bt279 => ((zE.f kj5 a0_0 a0_1 l0_2 a2).bind fun bt284 => ((zV.f kj5 bt279.1 bt279.2.1 bt279.2.2 bt284.1 bt284.2.1 bt284.2.2).bind fun t289 => (if t278 = true then (if t289 = true then (some (t269 == t276)) else (some false)) else (some false))))) = some r := H
    have A17 := za.mk A170
    clear A170
    replace H := Option.bind_eq_some_iff.mp H
    obtain ⟨⟨t279,t280,t281⟩,A180,H⟩ := H
    replace H : ((zE.f kj5 a0_0 a0_1 l0_2 a2).bind fun bt284 => ((zV.f kj5 t279 t280 t281 bt284.1 bt284.2.1 bt284.2.2).bind fun t289 => (if t278 = true then (if t289 = true then (some (t269 == t276)) else (some false)) else (some false)))) = some r := H
    have A18 := za.mk A180
    clear A180
    replace H := Option.bind_eq_some_iff.mp H
    obtain ⟨⟨t284,t285,t286⟩,A190,H⟩ := H
    replace H : ((zV.f kj5 t279 t280 t281 t284 t285 t286).bind fun t289 => (if t278 = true then (if t289 = true then (some (t269 == t276)) else (some false)) else (some false))) = some r := H
    have A19 := za.mk A190
    clear A190
    replace H := Option.bind_eq_some_iff.mp H
    obtain ⟨t289,A200,H⟩ := H
    replace H : (if t278 = true then (if t289 = true then (some (t269 == t276)) else (some false)) else (some false)) = some r := H
    have A20 := za.mk A200
    clear A200
    by_cases c21 : t278 = true
    ·subst c21
     have H1 : (if t289 = true then (some (t269 == t276)) else (some false)) = some r := by rw [if_pos rfl] at H;exact H
     clear H
     have H := H1
     clear H1
     by_cases c22 : t289 = true
     ·subst c22
      have H1 : (some (t269 == t276)) = some r := by rw [if_pos rfl] at H;exact H
      clear H
      have H := H1
      clear H1
      obtain rfl := Option.some.inj H
      have hnb23 := NB260_261.out
      have hnc23 := NB261_260.out
      obtain ⟨hcz24_0,hcz24_1,hcz24_2,hfz24_0,hfz24_1,hfz24_2⟩ := hcq3 BK260.out
      obtain ⟨hcz25_0,hcz25_1,hcz25_2,hcz25_3,hcz25_4,hcz25_5,hfz25_0,hfz25_1,hfz25_2,hfz25_3,hfz25_4,hfz25_5⟩ := hcq6 BK261.out
      try go_wp2_with (first | ((with_reducible refine zL (f := 6) rfl ?_);refine zaq (some 28) rfl rfl Tryz.func6 (by kernel_rfl) rfl #[.agg #[.int .i64 a0_0,.int .i64 a0_1,.slice A0_2 l0_2.length c0_2],.agg #[.int .i64 a1_0,.int .i64 a1_1,.slice A1_2 l1_2.length c1_2,.slice A1_3 l1_3.length c1_3,.int .i64 a1_4,.int .i64 a1_5]] rfl hMq ?_;(with_reducible refine (zas.calls a0_0 a0_1 (fun k_ => k_ < w.heap.size) _ _ l0_2 a1_0 a1_1 (fun k_ => k_ < w.heap.size) _ _ l1_2 (fun k_ => k_ < w.heap.size) _ _ l1_3 a1_4 a1_5 t264 t265 t266 t269 _ ?side1 ?side2 ?side3 A15.out).mono ?_);(case side1 => exact Kd.V_mk HC0_2.out (Kd.F_below (Kd.C_F zbm HR0_2.out) hCq));(case side2 => exact Kd.V_mk HC1_2.out (Kd.F_below (Kd.C_F zcU HR1_2.out) hCq));(case side3 => exact Kd.V_mk HC1_3.out (Kd.F_below (Kd.C_F Kd.heap_string HR1_3.out) hCq));rintro e w26 ⟨v267,rfl,ho0,hb⟩;refine ⟨_,rfl,?_⟩;have n_ := haq (Kd.V_lower (Kd.V_mono (ok' := fun k_ => k_ ≠ gb260 ∧ k_ ≠ gb261) ho0 (fun k_ hk_ => ⟨Or.elim hk_ (fun hs_ => Or.elim hs_ (fun hs_ => fun e_ => Nat.not_le.2 hs_ (by rw [e_];exact GW260.out)) (fun hs_ => Or.elim hs_ (fun hs_ => fun e_ => Nat.not_le.2 hs_ (by rw [e_];exact GW260.out)) (fun hs_ => fun e_ => Nat.not_le.2 hs_ (by rw [e_];exact GW260.out)))) (fun hn_ => (Kd.freshB (g := gb260) (o := .cells #[.int .i64 a0_0,.int .i64 a0_1,.slice A0_2 l0_2.length c0_2] 24 (0,0)) (hGq BK260.out) k_ hn_)),Or.elim hk_ (fun hs_ => Or.elim hs_ (fun hs_ => fun e_ => Nat.not_le.2 hs_ (by rw [e_];exact GW261.out)) (fun hs_ => Or.elim hs_ (fun hs_ => fun e_ => Nat.not_le.2 hs_ (by rw [e_];exact GW261.out)) (fun hs_ => fun e_ => Nat.not_le.2 hs_ (by rw [e_];exact GW261.out)))) (fun hn_ => (Kd.freshB (g := gb261) (o := .cells #[.int .i64 a1_0,.int .i64 a1_1,.slice A1_2 l1_2.length c1_2,.slice A1_3 l1_3.length c1_3,.int .i64 a1_4,.int .i64 a1_5] 30 (0,0)) (hGq BK261.out) k_ hn_))⟩)) (zg hCq)) <| haq (hbq BK260.out hb) <| haq (hbq BK261.out hb) <| haq (ze hCq hb) <| trivial;clear BK260 BK261 HB;obtain ⟨HO268,BK260,BK261,HB,_⟩ := n_;(try clear hb);(try clear hb2);(try clear hk);(try clear hi);(try clear ho0)) | ((with_reducible refine zn (N := 9) rfl ?_);refine zl rfl (N := 9) rfl (cs := #[.int .i64 0,.int .i64 0,.slice none 0 0]) (t := 24) hrq ?_;intro gb270 hg w27 hbox hb;have n_ := haq (Kd.V_below (Kd.V_elderB (by (with_reducible repeat (first | apply Kd.V_alloc | apply Kd.V_drewN | apply Kd.V_drew));exact HO268.out) gb270 (Nat.le_of_eq hg.symm)) hb) <| haq (hbq BK260.out hb) <| haq (hbq BK261.out hb) <| haq (ze hCq hb) <| haq (hbox) <| haq ((by rw [hg];exact (zg hCq) : w.heap.size ≤ gb270)) <| haq ((by rw [hg];exact (zg hCq) : w.heap.size ≤ gb270)) <| haq (hnq hg BK260.out) <| haq (hmq hg BK260.out) <| haq (hnq hg BK261.out) <| haq (hmq hg BK261.out) <| trivial;clear HO268 BK260 BK261 HB;obtain ⟨HO268,BK260,BK261,HB,BK270,GW270,GE270,NB260_270,NB270_260,NB261_270,NB270_261,_⟩ := n_;clear hb hbox hg;have hnb28 := NB270_260.out;have hnc28 := NB260_270.out;have hnb29 := NB270_261.out;have hnc29 := NB261_270.out;obtain ⟨hcz30_0,hcz30_1,hcz30_2,hfz30_0,hfz30_1,hfz30_2⟩ := hcq3 BK270.out;obtain ⟨Ao31,co31,eo31⟩ := Kd.V_slice HO268.out;subst eo31) | ((with_reducible refine za0 (t := 24) (p := 9) rfl ?_);refine zaS (t := 24) (p := 9) (v := _) (w1 := (((w27.setCell ⟨gb270,0,none⟩ (.int .i64 t264)).setCell ⟨gb270,1,none⟩ (.int .i64 t265)).setCell ⟨gb270,2,none⟩ (.slice Ao31 t266.length co31))) rfl rfl rfl hrq ?_;intro w32 hw;have n_ := haq (((by rw [hw];exact (by (with_reducible repeat (first | apply Kd.V_alloc | apply Kd.V_drewN | apply Kd.V_drew));exact Kd.V_mono (Kd.V_far (p := ⟨gb270,2,none⟩) (Kd.V_far (p := ⟨gb270,1,none⟩) (Kd.V_far (p := ⟨gb270,0,none⟩) (Kd.V_mono HO268.out (fun k_ hk => (⟨hk,hk.2⟩ : _ ∧ k_ ≠ gb270))) (fun _ hk => hk.2) (.int .i64 t264)) (fun _ hk => hk.2) (.int .i64 t265)) (fun _ hk => hk.2) (.slice Ao31 t266.length co31)) (fun _ hk => ⟨hk.1.1.1,⟨hk.1.1.2,hk.1.2⟩⟩))) : Kd.V k42 42 w32 w.heap.size (fun k_ => k_ ≠ gb260 ∧ k_ ≠ gb261 ∧ k_ ≠ gb270) (.slice Ao31 t266.length co31) t266)) <| haq (hfq hw NB260_270.out BK260.out) <| haq (hfq hw NB261_270.out BK261.out) <| haq (((by rw [hw];exact (hxq0p BK270.out)) : w32.heap[gb270]? = some (.cells #[.int .i64 t264,.int .i64 t265,.slice Ao31 t266.length co31] 24 (0,0)))) <| haq (((by rw [hw];exact hCq) : Below w.heap.size w w32)) <| trivial;clear hw HO268 BK260 BK261 BK270 HB;obtain ⟨HO268,BK260,BK261,BK270,HB,_⟩ := n_;obtain ⟨hcz33_0,hcz33_1,hcz33_2,hfz33_0,hfz33_1,hfz33_2⟩ := hcq3 BK260.out;obtain ⟨hcz34_0,hcz34_1,hcz34_2,hcz34_3,hcz34_4,hcz34_5,hfz34_0,hfz34_1,hfz34_2,hfz34_3,hfz34_4,hfz34_5⟩ := hcq6 BK261.out) | ((with_reducible refine zL (f := 7) rfl ?_);refine zaq (some 34) rfl rfl Tryz.func7 (by kernel_rfl) rfl #[.agg #[.int .i64 a0_0,.int .i64 a0_1,.slice A0_2 l0_2.length c0_2],.agg #[.int .i64 a1_0,.int .i64 a1_1,.slice A1_2 l1_2.length c1_2,.slice A1_3 l1_3.length c1_3,.int .i64 a1_4,.int .i64 a1_5]] rfl hMq ?_;(with_reducible refine (zP.calls a0_0 a0_1 (fun k_ => k_ < w.heap.size) _ _ l0_2 a1_0 a1_1 (fun k_ => k_ < w.heap.size) _ _ l1_2 (fun k_ => k_ < w.heap.size) _ _ l1_3 a1_4 a1_5 t271 t272 t273 t276 _ ?side1 ?side2 ?side3 A16.out).mono ?_);(case side1 => exact Kd.V_mk HC0_2.out (Kd.F_below (Kd.C_F zbm HR0_2.out) hCq));(case side2 => exact Kd.V_mk HC1_2.out (Kd.F_below (Kd.C_F zcU HR1_2.out) hCq));(case side3 => exact Kd.V_mk HC1_3.out (Kd.F_below (Kd.C_F Kd.heap_string HR1_3.out) hCq));rintro e w35 ⟨v274,rfl,ho0,hb⟩;refine ⟨_,rfl,?_⟩;have n_ := haq (Kd.V_below (by (with_reducible repeat (first | apply Kd.V_alloc | apply Kd.V_drewN | apply Kd.V_drew));exact HO268.out) hb) <| haq (Kd.V_lower (Kd.V_mono (ok' := fun k_ => k_ ≠ gb260 ∧ k_ ≠ gb261 ∧ k_ ≠ gb270) ho0 (fun k_ hk_ => ⟨Or.elim hk_ (fun hs_ => Or.elim hs_ (fun hs_ => fun e_ => Nat.not_le.2 hs_ (by rw [e_];exact GW260.out)) (fun hs_ => Or.elim hs_ (fun hs_ => fun e_ => Nat.not_le.2 hs_ (by rw [e_];exact GW260.out)) (fun hs_ => fun e_ => Nat.not_le.2 hs_ (by rw [e_];exact GW260.out)))) (fun hn_ => (Kd.freshB (g := gb260) (o := .cells #[.int .i64 a0_0,.int .i64 a0_1,.slice A0_2 l0_2.length c0_2] 24 (0,0)) (hGq BK260.out) k_ hn_)),Or.elim hk_ (fun hs_ => Or.elim hs_ (fun hs_ => fun e_ => Nat.not_le.2 hs_ (by rw [e_];exact GW261.out)) (fun hs_ => Or.elim hs_ (fun hs_ => fun e_ => Nat.not_le.2 hs_ (by rw [e_];exact GW261.out)) (fun hs_ => fun e_ => Nat.not_le.2 hs_ (by rw [e_];exact GW261.out)))) (fun hn_ => (Kd.freshB (g := gb261) (o := .cells #[.int .i64 a1_0,.int .i64 a1_1,.slice A1_2 l1_2.length c1_2,.slice A1_3 l1_3.length c1_3,.int .i64 a1_4,.int .i64 a1_5] 30 (0,0)) (hGq BK261.out) k_ hn_)),Or.elim hk_ (fun hs_ => Or.elim hs_ (fun hs_ => fun e_ => Nat.not_le.2 hs_ (by rw [e_];exact GW270.out)) (fun hs_ => Or.elim hs_ (fun hs_ => fun e_ => Nat.not_le.2 hs_ (by rw [e_];exact GW270.out)) (fun hs_ => fun e_ => Nat.not_le.2 hs_ (by rw [e_];exact GW270.out)))) (fun hn_ => (Kd.freshB (g := gb270) (o := .cells #[.int .i64 t264,.int .i64 t265,.slice Ao31 t266.length co31] 24 (0,0)) (hGq BK270.out) k_ hn_))⟩)) (zg hCq)) <| haq (hbq BK260.out hb) <| haq (hbq BK261.out hb) <| haq (hbq BK270.out hb) <| haq (ze hCq hb) <| trivial;clear HO268 BK260 BK261 BK270 HB;obtain ⟨HO268,HO275,BK260,BK261,BK270,HB,_⟩ := n_;(try clear hb);(try clear hb2);(try clear hk);(try clear hi);(try clear ho0)) | ((with_reducible refine zn (N := 11) rfl ?_);refine zl rfl (N := 11) rfl (cs := #[.int .i64 0,.int .i64 0,.slice none 0 0]) (t := 24) hrq ?_;intro gb277 hg w36 hbox hb;have n_ := haq (Kd.V_below (Kd.V_elderB (by (with_reducible repeat (first | apply Kd.V_alloc | apply Kd.V_drewN | apply Kd.V_drew));exact HO268.out) gb277 (Nat.le_of_eq hg.symm)) hb) <| haq (Kd.V_below (Kd.V_elderB (by (with_reducible repeat (first | apply Kd.V_alloc | apply Kd.V_drewN | apply Kd.V_drew));exact HO275.out) gb277 (Nat.le_of_eq hg.symm)) hb) <| haq (hbq BK260.out hb) <| haq (hbq BK261.out hb) <| haq (hbq BK270.out hb) <| haq (ze hCq hb) <| haq (hbox) <| haq ((by rw [hg];exact (zg hCq) : w.heap.size ≤ gb277)) <| haq ((by rw [hg];exact (zg hCq) : w.heap.size ≤ gb277)) <| haq (hnq hg BK260.out) <| haq (hmq hg BK260.out) <| haq (hnq hg BK261.out) <| haq (hmq hg BK261.out) <| haq (hnq hg BK270.out) <| haq (hmq hg BK270.out) <| trivial;clear HO268 HO275 BK260 BK261 BK270 HB;obtain ⟨HO268,HO275,BK260,BK261,BK270,HB,BK277,GW277,GE277,NB260_277,NB277_260,NB261_277,NB277_261,NB270_277,NB277_270,_⟩ := n_;clear hb hbox hg;have hnb37 := NB277_260.out;have hnc37 := NB260_277.out;have hnb38 := NB277_261.out;have hnc38 := NB261_277.out;have hnb39 := NB277_270.out;have hnc39 := NB270_277.out;obtain ⟨hcz40_0,hcz40_1,hcz40_2,hfz40_0,hfz40_1,hfz40_2⟩ := hcq3 BK277.out;obtain ⟨Ao41,co41,eo41⟩ := Kd.V_slice HO275.out;subst eo41;obtain ⟨hcz42_0,hcz42_1,hcz42_2,hfz42_0,hfz42_1,hfz42_2⟩ := hcq3 BK270.out) | ((with_reducible refine zL (f := 8) rfl ?_);refine zaq (some 39) rfl rfl Tryz.func8 (by kernel_rfl) rfl #[.agg #[.int .i64 t264,.int .i64 t265,.slice Ao31 t266.length co31],.agg #[.int .i64 t271,.int .i64 t272,.slice Ao41 t273.length co41]] rfl hMq ?_;(with_reducible refine (zV.calls kj5 t264 t265 _ _ t266 t271 t272 _ _ t273 true _ ?side1 ?side2 ?side3 ?side4 A17.out).mono ?_);(case side1 => refine (Kd.V_reads' (e := 42) (base := w.heap.size) (ok := fun k_ => ((k_ ≠ gb260 ∧ (k_ ≠ gb261 ∧ k_ ≠ gb270)) ∧ k_ ≠ gb277)) (n := t266.length) (c := co31) ?_).2.2;exact (by (with_reducible repeat (first | apply Kd.V_alloc | apply Kd.V_drewN | apply Kd.V_drew));exact (Kd.V_mono (Kd.V_far (p := ⟨gb277,2,none⟩) (Kd.V_far (p := ⟨gb277,1,none⟩) (Kd.V_far (p := ⟨gb277,0,none⟩) (Kd.V_mono HO268.out (fun k_ hk => (⟨hk,hk.2⟩ : _ ∧ k_ ≠ gb277))) (fun _ hk => hk.2) (.int .i64 t271)) (fun _ hk => hk.2) (.int .i64 t272)) (fun _ hk => hk.2) (.slice Ao41 t273.length co41)) (fun _ h_ => h_.1))));(case side2 => exact (Kd.V_reads' HO268.out).2.1);(case side3 => refine (Kd.V_reads' (e := 42) (base := w.heap.size) (ok := fun k_ => ((k_ ≠ gb260 ∧ (k_ ≠ gb261 ∧ k_ ≠ gb270)) ∧ k_ ≠ gb277)) (n := t273.length) (c := co41) ?_).2.2;exact (by (with_reducible repeat (first | apply Kd.V_alloc | apply Kd.V_drewN | apply Kd.V_drew));exact (Kd.V_mono (Kd.V_far (p := ⟨gb277,2,none⟩) (Kd.V_far (p := ⟨gb277,1,none⟩) (Kd.V_far (p := ⟨gb277,0,none⟩) (Kd.V_mono HO275.out (fun k_ hk => (⟨hk,hk.2⟩ : _ ∧ k_ ≠ gb277))) (fun _ hk => hk.2) (.int .i64 t271)) (fun _ hk => hk.2) (.int .i64 t272)) (fun _ hk => hk.2) (.slice Ao41 t273.length co41)) (fun _ h_ => h_.1))));(case side4 => exact (Kd.V_reads' HO275.out).2.1);rintro e w43 ⟨rfl,hb⟩;refine ⟨_,rfl,?_⟩;have n_ := haq (Kd.V_below (by (with_reducible repeat (first | apply Kd.V_alloc | apply Kd.V_drewN | apply Kd.V_drew));exact (Kd.V_mono (Kd.V_far (p := ⟨gb277,2,none⟩) (Kd.V_far (p := ⟨gb277,1,none⟩) (Kd.V_far (p := ⟨gb277,0,none⟩) (Kd.V_mono HO268.out (fun k_ hk => (⟨hk,hk.2⟩ : _ ∧ k_ ≠ gb277))) (fun _ hk => hk.2) (.int .i64 t271)) (fun _ hk => hk.2) (.int .i64 t272)) (fun _ hk => hk.2) (.slice Ao41 t273.length co41)) (fun _ h_ => h_.1))) hb) <| haq (Kd.V_below (by (with_reducible repeat (first | apply Kd.V_alloc | apply Kd.V_drewN | apply Kd.V_drew));exact (Kd.V_mono (Kd.V_far (p := ⟨gb277,2,none⟩) (Kd.V_far (p := ⟨gb277,1,none⟩) (Kd.V_far (p := ⟨gb277,0,none⟩) (Kd.V_mono HO275.out (fun k_ hk => (⟨hk,hk.2⟩ : _ ∧ k_ ≠ gb277))) (fun _ hk => hk.2) (.int .i64 t271)) (fun _ hk => hk.2) (.int .i64 t272)) (fun _ hk => hk.2) (.slice Ao41 t273.length co41)) (fun _ h_ => h_.1))) hb) <| haq (zm (g := gb260) (o := .cells #[.int .i64 a0_0,.int .i64 a0_1,.slice A0_2 l0_2.length c0_2] 24 (0,0)) (hxq1 NB260_277.out BK260.out) hb) <| haq (zm (g := gb261) (o := .cells #[.int .i64 a1_0,.int .i64 a1_1,.slice A1_2 l1_2.length c1_2,.slice A1_3 l1_3.length c1_3,.int .i64 a1_4,.int .i64 a1_5] 30 (0,0)) (hxq1 NB261_277.out BK261.out) hb) <| haq (zm (g := gb270) (o := .cells #[.int .i64 t264,.int .i64 t265,.slice Ao31 t266.length co31] 24 (0,0)) (hxq1 NB270_277.out BK270.out) hb) <| haq (zm (g := gb277) (o := .cells #[.int .i64 t271,.int .i64 t272,.slice Ao41 t273.length co41] 24 (0,0)) (hxq0p BK277.out) hb) <| haq (ze hCq hb) <| trivial;clear HO268 HO275 BK260 BK261 BK270 BK277 HB;obtain ⟨HO268,HO275,BK260,BK261,BK270,BK277,HB,_⟩ := n_;(try clear hb);(try clear hb2);(try clear hk);(try clear hi)))
      have n0_ := za.mk (Kd.V_drew HO268.out)
      have n1_ := za.mk (Kd.V_drew HO275.out)
      have n2_ := za.mk (z6 BK260.out)
      have n3_ := za.mk (z6 BK261.out)
      have n4_ := za.mk (z6 BK270.out)
      have n5_ := za.mk (z6 BK277.out)
      have n6_ := za.mk (zo HB.out)
      clear HO268
      clear HO275
      clear BK260
      clear BK261
      clear BK270
      clear BK277
      clear HB
      have HO268 := n0_
      have HO275 := n1_
      have BK260 := n2_
      have BK261 := n3_
      have BK270 := n4_
      have BK277 := n5_
      have HB := n6_
      clear n0_ n1_ n2_ n3_ n4_ n5_ n6_
      refine zbH (n := 8) (S := fun w' => w'.cell? ⟨gb260,0,none⟩ = some (.int .i64 a0_0) ∧ w'.cell? ⟨gb260,1,none⟩ = some (.int .i64 a0_1) ∧ w'.cell? ⟨gb260,2,none⟩ = some (.slice A0_2 l0_2.length c0_2)) (ds := []) (uQ 8 0) (by kernel_rfl) rfl rfl ⟨(zb BK260.out 0).trans rfl,(zb BK260.out 1).trans rfl,(zb BK260.out 2).trans rfl⟩ (fun hHeld => ?_);refine zaO zx.tab8 zx.bits8 (fun HT_ HW_ => ?_)
      generalize w43.drew = w44 at HO268 HO275 BK260 BK261 BK270 BK277 HB hHeld ⊢
      refine puq (i := 1) (N := some 41) HT_.out #[false,true,false,false,false,false,false,false] ?_
      refine puq (i := 4) (N := some 44) HT_.out #[false,true,false,false,true,false,false,false] ?_
      refine take_ (i := 0) (N := some 40) #[true,true,false,false,true,false,false,false] rfl rfl (zY HT_.out HW_.out (by kernel_rfl)) (fun _ _ _ h => h) (Or.inl ⟨by rfl,by rintro w' ⟨s0,s1,s2⟩;go_simp;with_reducible rfl⟩) hHeld hPq ?_
      refine take_ (i := 3) (N := some 43) #[true,true,false,true,true,false,false,false] rfl rfl (zY HT_.out HW_.out (by kernel_rfl)) (fun _ _ _ h => h) (Or.inl ⟨by rfl,by rintro w' ⟨s0,s1,s2⟩;go_simp;with_reducible rfl⟩) hHeld hPq ?_
      refine zb1 (i := 2) (N := some 42) (uQ 8 5) rfl rfl (zaR HT_.out (by kernel_rfl)) (by decide) (fun K hK => ?_)
      refine zbu Tryz.func9 (by kernel_rfl) rfl #[.agg #[.int .i64 a0_0,.int .i64 a0_1,.slice A0_2 l0_2.length c0_2],.int .i64 a2] (by rfl) rfl rfl hMq ?_
      with_reducible refine (zU.calls a0_0 a0_1 (fun k_ => k_ < w.heap.size) _ _ l0_2 a2 t279 t280 t281 _ ?side1 A18.out).mono ?_
      (case side1 => exact Kd.V_mk HC0_2.out (Kd.F_below (Kd.C_F zbm HR0_2.out) hCq))
      rintro e w45 ⟨v282,rfl,ho0,hb⟩
      refine ⟨_,rfl,?_⟩
      have n0_ := za.mk (Kd.V_below (by (with_reducible repeat (first | apply Kd.V_alloc | apply Kd.V_drewN | apply Kd.V_drew));exact HO268.out) hb)
      have n1_ := za.mk (Kd.V_below (by (with_reducible repeat (first | apply Kd.V_alloc | apply Kd.V_drewN | apply Kd.V_drew));exact HO275.out) hb)
      have n2_ := za.mk (Kd.V_lower (Kd.V_mono (ok' := fun k_ => k_ ≠ gb260 ∧ k_ ≠ gb261 ∧ k_ ≠ gb270 ∧ k_ ≠ gb277) ho0 (fun k_ hk_ => ⟨Or.elim hk_ (fun hs_ => fun e_ => Nat.not_le.2 hs_ (by rw [e_];exact GW260.out)) (fun hn_ => (Kd.freshB (g := gb260) (o := .cells #[.int .i64 a0_0,.int .i64 a0_1,.slice A0_2 l0_2.length c0_2] 24 (0,0)) (hGq BK260.out) k_ hn_)),Or.elim hk_ (fun hs_ => fun e_ => Nat.not_le.2 hs_ (by rw [e_];exact GW261.out)) (fun hn_ => (Kd.freshB (g := gb261) (o := .cells #[.int .i64 a1_0,.int .i64 a1_1,.slice A1_2 l1_2.length c1_2,.slice A1_3 l1_3.length c1_3,.int .i64 a1_4,.int .i64 a1_5] 30 (0,0)) (hGq BK261.out) k_ hn_)),Or.elim hk_ (fun hs_ => fun e_ => Nat.not_le.2 hs_ (by rw [e_];exact GW270.out)) (fun hn_ => (Kd.freshB (g := gb270) (o := .cells #[.int .i64 t264,.int .i64 t265,.slice Ao31 t266.length co31] 24 (0,0)) (hGq BK270.out) k_ hn_)),Or.elim hk_ (fun hs_ => fun e_ => Nat.not_le.2 hs_ (by rw [e_];exact GW277.out)) (fun hn_ => (Kd.freshB (g := gb277) (o := .cells #[.int .i64 t271,.int .i64 t272,.slice Ao41 t273.length co41] 24 (0,0)) (hGq BK277.out) k_ hn_))⟩)) (zg hCq))
      have n3_ := za.mk (hbq BK260.out hb)
      have n4_ := za.mk (hbq BK261.out hb)
      have n5_ := za.mk (hbq BK270.out hb)
      have n6_ := za.mk (hbq BK277.out hb)
      have n7_ := za.mk (ze hCq hb)
      clear HO268
      clear HO275
      clear BK260
      clear BK261
      clear BK270
      clear BK277
      clear HB
      have HO268 := n0_
      have HO275 := n1_
      have HO283 := n2_
      have BK260 := n3_
      have BK261 := n4_
      have BK270 := n5_
      have BK277 := n6_
      have HB := n7_
      clear n0_ n1_ n2_ n3_ n4_ n5_ n6_ n7_
      (try clear hb)
      (try clear hb2)
      (try clear hk)
      (try clear hi)
      (try clear ho0)
      refine hK.out _ _ ⟨(zb BK260.out 0).trans rfl,(zb BK260.out 1).trans rfl,(zb BK260.out 2).trans rfl⟩ (fun hHeld => ?_)
      clear hK K
      refine zbk (a' := ?_) ?_ ?_
      rotate_left
      ·show Act.put _ (some 42) _ = _
       simp only [Act.put,List.setIfInBounds_toArray,List.set_cons_zero,List.set_cons_succ,zaw,zaB]
       rfl
      refine zb1 (i := 5) (N := some 45) (uQ 8 6) rfl rfl (zaR HT_.out (by kernel_rfl)) (by decide) (fun K hK => ?_)
      refine zbu Tryz.func10 (by kernel_rfl) rfl #[.agg #[.int .i64 a0_0,.int .i64 a0_1,.slice A0_2 l0_2.length c0_2],.int .i64 a2] (by rfl) rfl rfl hMq ?_
      with_reducible refine (zE.calls kj5 a0_0 a0_1 (fun k_ => k_ < w.heap.size) _ _ l0_2 a2 t284 t285 t286 _ ?side1 A19.out).mono ?_
      (case side1 => exact Kd.V_mk HC0_2.out (Kd.F_below (Kd.C_F zbm HR0_2.out) hCq))
      rintro e w46 ⟨v287,rfl,ho0,hb⟩
      refine ⟨_,rfl,?_⟩
      have n0_ := za.mk (Kd.V_below (by (with_reducible repeat (first | apply Kd.V_alloc | apply Kd.V_drewN | apply Kd.V_drew));exact HO268.out) hb)
      have n1_ := za.mk (Kd.V_below (by (with_reducible repeat (first | apply Kd.V_alloc | apply Kd.V_drewN | apply Kd.V_drew));exact HO275.out) hb)
      have n2_ := za.mk (Kd.V_below (by (with_reducible repeat (first | apply Kd.V_alloc | apply Kd.V_drewN | apply Kd.V_drew));exact HO283.out) hb)
      have n3_ := za.mk (Kd.V_lower (Kd.V_mono (ok' := fun k_ => k_ ≠ gb260 ∧ k_ ≠ gb261 ∧ k_ ≠ gb270 ∧ k_ ≠ gb277) ho0 (fun k_ hk_ => ⟨Or.elim hk_ (fun hs_ => fun e_ => Nat.not_le.2 hs_ (by rw [e_];exact GW260.out)) (fun hn_ => (Kd.freshB (g := gb260) (o := .cells #[.int .i64 a0_0,.int .i64 a0_1,.slice A0_2 l0_2.length c0_2] 24 (0,0)) (hGq BK260.out) k_ hn_)),Or.elim hk_ (fun hs_ => fun e_ => Nat.not_le.2 hs_ (by rw [e_];exact GW261.out)) (fun hn_ => (Kd.freshB (g := gb261) (o := .cells #[.int .i64 a1_0,.int .i64 a1_1,.slice A1_2 l1_2.length c1_2,.slice A1_3 l1_3.length c1_3,.int .i64 a1_4,.int .i64 a1_5] 30 (0,0)) (hGq BK261.out) k_ hn_)),Or.elim hk_ (fun hs_ => fun e_ => Nat.not_le.2 hs_ (by rw [e_];exact GW270.out)) (fun hn_ => (Kd.freshB (g := gb270) (o := .cells #[.int .i64 t264,.int .i64 t265,.slice Ao31 t266.length co31] 24 (0,0)) (hGq BK270.out) k_ hn_)),Or.elim hk_ (fun hs_ => fun e_ => Nat.not_le.2 hs_ (by rw [e_];exact GW277.out)) (fun hn_ => (Kd.freshB (g := gb277) (o := .cells #[.int .i64 t271,.int .i64 t272,.slice Ao41 t273.length co41] 24 (0,0)) (hGq BK277.out) k_ hn_))⟩)) (zg hCq))
      have n4_ := za.mk (hbq BK260.out hb)
      have n5_ := za.mk (hbq BK261.out hb)
      have n6_ := za.mk (hbq BK270.out hb)
      have n7_ := za.mk (hbq BK277.out hb)
      have n8_ := za.mk (ze hCq hb)
      clear HO268
      clear HO275
      clear HO283
      clear BK260
      clear BK261
      clear BK270
      clear BK277
      clear HB
      have HO268 := n0_
      have HO275 := n1_
      have HO283 := n2_
      have HO288 := n3_
      have BK260 := n4_
      have BK261 := n5_
      have BK270 := n6_
      have BK277 := n7_
      have HB := n8_
      clear n0_ n1_ n2_ n3_ n4_ n5_ n6_ n7_ n8_
      (try clear hb)
      (try clear hb2)
      (try clear hk)
      (try clear hi)
      (try clear ho0)
      obtain ⟨Ao47,co47,eo47⟩ := Kd.V_slice HO283.out
      (first | subst eo47 | (injection eo47 with f1_ f2_ f3_;have f4_ := f1_.symm;have f5_ := f3_.symm;clear f1_ f2_ f3_;subst f4_;subst f5_))
      obtain ⟨Ao48,co48,eo48⟩ := Kd.V_slice HO288.out
      (first | subst eo48 | (injection eo48 with f1_ f2_ f3_;have f4_ := f1_.symm;have f5_ := f3_.symm;clear f1_ f2_ f3_;subst f4_;subst f5_))
      refine hK.out _ _ ⟨(zb BK260.out 0).trans rfl,(zb BK260.out 1).trans rfl,(zb BK260.out 2).trans rfl⟩ (fun hHeld => ?_)
      clear hK K
      refine zbk (a' := ?_) ?_ ?_
      rotate_left
      ·show Act.put _ (some 45) _ = _
       simp only [Act.put,List.setIfInBounds_toArray,List.set_cons_zero,List.set_cons_succ,zaw,zaB]
       rfl
      refine zb1 (i := 6) (N := some 46) (uQ 8 7) rfl rfl (zaR HT_.out (by kernel_rfl)) (by decide) (fun K hK => ?_)
      refine zbu Tryz.func8 (by kernel_rfl) rfl #[.agg #[.int .i64 t279,.int .i64 t280,.slice Ao47 t281.length co47],.agg #[.int .i64 t284,.int .i64 t285,.slice Ao48 t286.length co48]] (by rfl) rfl rfl hMq ?_
      with_reducible refine (zV.calls kj5 t279 t280 _ _ t281 t284 t285 _ _ t286 true _ ?side1 ?side2 ?side3 ?side4 A20.out).mono ?_
      (case side1 => repeat (first | exact (Kd.V_reads' HO283.out).2.2 | (with_reducible refine Kd.C_alloc ?_ _) | (with_reducible refine Kd.C_drewN ?_ _) | (with_reducible refine Kd.C_drew ?_)))
      (case side2 => exact (Kd.V_reads' HO283.out).2.1)
      (case side3 => repeat (first | exact (Kd.V_reads' HO288.out).2.2 | (with_reducible refine Kd.C_alloc ?_ _) | (with_reducible refine Kd.C_drewN ?_ _) | (with_reducible refine Kd.C_drew ?_)))
      (case side4 => exact (Kd.V_reads' HO288.out).2.1)
      rintro e w49 ⟨rfl,hb⟩
      refine ⟨_,rfl,?_⟩
      have n0_ := za.mk (Kd.V_below (by (with_reducible repeat (first | apply Kd.V_alloc | apply Kd.V_drewN | apply Kd.V_drew));exact HO268.out) hb)
      have n1_ := za.mk (Kd.V_below (by (with_reducible repeat (first | apply Kd.V_alloc | apply Kd.V_drewN | apply Kd.V_drew));exact HO275.out) hb)
      have n2_ := za.mk (Kd.V_below (by (with_reducible repeat (first | apply Kd.V_alloc | apply Kd.V_drewN | apply Kd.V_drew));exact HO283.out) hb)
      have n3_ := za.mk (Kd.V_below (by (with_reducible repeat (first | apply Kd.V_alloc | apply Kd.V_drewN | apply Kd.V_drew));exact HO288.out) hb)
      have n4_ := za.mk (hbq BK260.out hb)
      have n5_ := za.mk (hbq BK261.out hb)
      have n6_ := za.mk (hbq BK270.out hb)
      have n7_ := za.mk (hbq BK277.out hb)
      have n8_ := za.mk (ze hCq hb)
      clear HO268
      clear HO275
      clear HO283
      clear HO288
      clear BK260
      clear BK261
      clear BK270
      clear BK277
      clear HB
      have HO268 := n0_
      have HO275 := n1_
      have HO283 := n2_
      have HO288 := n3_
      have BK260 := n4_
      have BK261 := n5_
      have BK270 := n6_
      have BK277 := n7_
      have HB := n8_
      clear n0_ n1_ n2_ n3_ n4_ n5_ n6_ n7_ n8_
      (try clear hb)
      (try clear hb2)
      (try clear hk)
      (try clear hi)
      refine hK.out _ _ ⟨(zb BK260.out 0).trans rfl,(zb BK260.out 1).trans rfl,(zb BK260.out 2).trans rfl⟩ (fun hHeld => ?_)
      clear hK K
      refine zbk (a' := ?_) ?_ ?_
      rotate_left
      ·show Act.put _ (some 46) _ = _
       simp only [Act.put,List.setIfInBounds_toArray,List.set_cons_zero,List.set_cons_succ,zaw,zaB]
       rfl
      refine puq (i := 7) (N := some 14) HT_.out (uQ 8 8) ?_
      refine zbJ (zaU HT_.out (by kernel_rfl)) ?_
      try go_wp2
      go_ret
      exact ⟨hHq,hCq⟩
     ·replace c22 := Bool.eq_false_iff.mpr c22
      subst c22
      have H1 : (some false) = some r := by rw [if_neg (show ¬ (false = true) by decide)] at H;exact H
      clear H
      have H := H1
      clear H1
      obtain rfl := Option.some.inj H
      have hnb50 := NB260_261.out
      have hnc50 := NB261_260.out
      obtain ⟨hcz51_0,hcz51_1,hcz51_2,hfz51_0,hfz51_1,hfz51_2⟩ := hcq3 BK260.out
      obtain ⟨hcz52_0,hcz52_1,hcz52_2,hcz52_3,hcz52_4,hcz52_5,hfz52_0,hfz52_1,hfz52_2,hfz52_3,hfz52_4,hfz52_5⟩ := hcq6 BK261.out
      try go_wp2_with (first | ((with_reducible refine zL (f := 6) rfl ?_);refine zaq (some 28) rfl rfl Tryz.func6 (by kernel_rfl) rfl #[.agg #[.int .i64 a0_0,.int .i64 a0_1,.slice A0_2 l0_2.length c0_2],.agg #[.int .i64 a1_0,.int .i64 a1_1,.slice A1_2 l1_2.length c1_2,.slice A1_3 l1_3.length c1_3,.int .i64 a1_4,.int .i64 a1_5]] rfl hMq ?_;(with_reducible refine (zas.calls a0_0 a0_1 (fun k_ => k_ < w.heap.size) _ _ l0_2 a1_0 a1_1 (fun k_ => k_ < w.heap.size) _ _ l1_2 (fun k_ => k_ < w.heap.size) _ _ l1_3 a1_4 a1_5 t264 t265 t266 t269 _ ?side1 ?side2 ?side3 A15.out).mono ?_);(case side1 => exact Kd.V_mk HC0_2.out (Kd.F_below (Kd.C_F zbm HR0_2.out) hCq));(case side2 => exact Kd.V_mk HC1_2.out (Kd.F_below (Kd.C_F zcU HR1_2.out) hCq));(case side3 => exact Kd.V_mk HC1_3.out (Kd.F_below (Kd.C_F Kd.heap_string HR1_3.out) hCq));rintro e w53 ⟨v267,rfl,ho0,hb⟩;refine ⟨_,rfl,?_⟩;have n_ := haq (Kd.V_lower (Kd.V_mono (ok' := fun k_ => k_ ≠ gb260 ∧ k_ ≠ gb261) ho0 (fun k_ hk_ => ⟨Or.elim hk_ (fun hs_ => Or.elim hs_ (fun hs_ => fun e_ => Nat.not_le.2 hs_ (by rw [e_];exact GW260.out)) (fun hs_ => Or.elim hs_ (fun hs_ => fun e_ => Nat.not_le.2 hs_ (by rw [e_];exact GW260.out)) (fun hs_ => fun e_ => Nat.not_le.2 hs_ (by rw [e_];exact GW260.out)))) (fun hn_ => (Kd.freshB (g := gb260) (o := .cells #[.int .i64 a0_0,.int .i64 a0_1,.slice A0_2 l0_2.length c0_2] 24 (0,0)) (hGq BK260.out) k_ hn_)),Or.elim hk_ (fun hs_ => Or.elim hs_ (fun hs_ => fun e_ => Nat.not_le.2 hs_ (by rw [e_];exact GW261.out)) (fun hs_ => Or.elim hs_ (fun hs_ => fun e_ => Nat.not_le.2 hs_ (by rw [e_];exact GW261.out)) (fun hs_ => fun e_ => Nat.not_le.2 hs_ (by rw [e_];exact GW261.out)))) (fun hn_ => (Kd.freshB (g := gb261) (o := .cells #[.int .i64 a1_0,.int .i64 a1_1,.slice A1_2 l1_2.length c1_2,.slice A1_3 l1_3.length c1_3,.int .i64 a1_4,.int .i64 a1_5] 30 (0,0)) (hGq BK261.out) k_ hn_))⟩)) (zg hCq)) <| haq (hbq BK260.out hb) <| haq (hbq BK261.out hb) <| haq (ze hCq hb) <| trivial;clear BK260 BK261 HB;obtain ⟨HO268,BK260,BK261,HB,_⟩ := n_;(try clear hb);(try clear hb2);(try clear hk);(try clear hi);(try clear ho0)) | ((with_reducible refine zn (N := 9) rfl ?_);refine zl rfl (N := 9) rfl (cs := #[.int .i64 0,.int .i64 0,.slice none 0 0]) (t := 24) hrq ?_;intro gb270 hg w54 hbox hb;have n_ := haq (Kd.V_below (Kd.V_elderB (by (with_reducible repeat (first | apply Kd.V_alloc | apply Kd.V_drewN | apply Kd.V_drew));exact HO268.out) gb270 (Nat.le_of_eq hg.symm)) hb) <| haq (hbq BK260.out hb) <| haq (hbq BK261.out hb) <| haq (ze hCq hb) <| haq (hbox) <| haq ((by rw [hg];exact (zg hCq) : w.heap.size ≤ gb270)) <| haq ((by rw [hg];exact (zg hCq) : w.heap.size ≤ gb270)) <| haq (hnq hg BK260.out) <| haq (hmq hg BK260.out) <| haq (hnq hg BK261.out) <| haq (hmq hg BK261.out) <| trivial;clear HO268 BK260 BK261 HB;obtain ⟨HO268,BK260,BK261,HB,BK270,GW270,GE270,NB260_270,NB270_260,NB261_270,NB270_261,_⟩ := n_;clear hb hbox hg;have hnb55 := NB270_260.out;have hnc55 := NB260_270.out;have hnb56 := NB270_261.out;have hnc56 := NB261_270.out;obtain ⟨hcz57_0,hcz57_1,hcz57_2,hfz57_0,hfz57_1,hfz57_2⟩ := hcq3 BK270.out;obtain ⟨Ao58,co58,eo58⟩ := Kd.V_slice HO268.out;subst eo58) | ((with_reducible refine za0 (t := 24) (p := 9) rfl ?_);refine zaS (t := 24) (p := 9) (v := _) (w1 := (((w54.setCell ⟨gb270,0,none⟩ (.int .i64 t264)).setCell ⟨gb270,1,none⟩ (.int .i64 t265)).setCell ⟨gb270,2,none⟩ (.slice Ao58 t266.length co58))) rfl rfl rfl hrq ?_;intro w59 hw;have n_ := haq (((by rw [hw];exact (by (with_reducible repeat (first | apply Kd.V_alloc | apply Kd.V_drewN | apply Kd.V_drew));exact Kd.V_mono (Kd.V_far (p := ⟨gb270,2,none⟩) (Kd.V_far (p := ⟨gb270,1,none⟩) (Kd.V_far (p := ⟨gb270,0,none⟩) (Kd.V_mono HO268.out (fun k_ hk => (⟨hk,hk.2⟩ : _ ∧ k_ ≠ gb270))) (fun _ hk => hk.2) (.int .i64 t264)) (fun _ hk => hk.2) (.int .i64 t265)) (fun _ hk => hk.2) (.slice Ao58 t266.length co58)) (fun _ hk => ⟨hk.1.1.1,⟨hk.1.1.2,hk.1.2⟩⟩))) : Kd.V k42 42 w59 w.heap.size (fun k_ => k_ ≠ gb260 ∧ k_ ≠ gb261 ∧ k_ ≠ gb270) (.slice Ao58 t266.length co58) t266)) <| haq (hfq hw NB260_270.out BK260.out) <| haq (hfq hw NB261_270.out BK261.out) <| haq (((by rw [hw];exact (hxq0p BK270.out)) : w59.heap[gb270]? = some (.cells #[.int .i64 t264,.int .i64 t265,.slice Ao58 t266.length co58] 24 (0,0)))) <| haq (((by rw [hw];exact hCq) : Below w.heap.size w w59)) <| trivial;clear hw HO268 BK260 BK261 BK270 HB;obtain ⟨HO268,BK260,BK261,BK270,HB,_⟩ := n_;obtain ⟨hcz60_0,hcz60_1,hcz60_2,hfz60_0,hfz60_1,hfz60_2⟩ := hcq3 BK260.out;obtain ⟨hcz61_0,hcz61_1,hcz61_2,hcz61_3,hcz61_4,hcz61_5,hfz61_0,hfz61_1,hfz61_2,hfz61_3,hfz61_4,hfz61_5⟩ := hcq6 BK261.out) | ((with_reducible refine zL (f := 7) rfl ?_);refine zaq (some 34) rfl rfl Tryz.func7 (by kernel_rfl) rfl #[.agg #[.int .i64 a0_0,.int .i64 a0_1,.slice A0_2 l0_2.length c0_2],.agg #[.int .i64 a1_0,.int .i64 a1_1,.slice A1_2 l1_2.length c1_2,.slice A1_3 l1_3.length c1_3,.int .i64 a1_4,.int .i64 a1_5]] rfl hMq ?_;(with_reducible refine (zP.calls a0_0 a0_1 (fun k_ => k_ < w.heap.size) _ _ l0_2 a1_0 a1_1 (fun k_ => k_ < w.heap.size) _ _ l1_2 (fun k_ => k_ < w.heap.size) _ _ l1_3 a1_4 a1_5 t271 t272 t273 t276 _ ?side1 ?side2 ?side3 A16.out).mono ?_);(case side1 => exact Kd.V_mk HC0_2.out (Kd.F_below (Kd.C_F zbm HR0_2.out) hCq));(case side2 => exact Kd.V_mk HC1_2.out (Kd.F_below (Kd.C_F zcU HR1_2.out) hCq));(case side3 => exact Kd.V_mk HC1_3.out (Kd.F_below (Kd.C_F Kd.heap_string HR1_3.out) hCq));rintro e w62 ⟨v274,rfl,ho0,hb⟩;refine ⟨_,rfl,?_⟩;have n_ := haq (Kd.V_below (by (with_reducible repeat (first | apply Kd.V_alloc | apply Kd.V_drewN | apply Kd.V_drew));exact HO268.out) hb) <| haq (Kd.V_lower (Kd.V_mono (ok' := fun k_ => k_ ≠ gb260 ∧ k_ ≠ gb261 ∧ k_ ≠ gb270) ho0 (fun k_ hk_ => ⟨Or.elim hk_ (fun hs_ => Or.elim hs_ (fun hs_ => fun e_ => Nat.not_le.2 hs_ (by rw [e_];exact GW260.out)) (fun hs_ => Or.elim hs_ (fun hs_ => fun e_ => Nat.not_le.2 hs_ (by rw [e_];exact GW260.out)) (fun hs_ => fun e_ => Nat.not_le.2 hs_ (by rw [e_];exact GW260.out)))) (fun hn_ => (Kd.freshB (g := gb260) (o := .cells #[.int .i64 a0_0,.int .i64 a0_1,.slice A0_2 l0_2.length c0_2] 24 (0,0)) (hGq BK260.out) k_ hn_)),Or.elim hk_ (fun hs_ => Or.elim hs_ (fun hs_ => fun e_ => Nat.not_le.2 hs_ (by rw [e_];exact GW261.out)) (fun hs_ => Or.elim hs_ (fun hs_ => fun e_ => Nat.not_le.2 hs_ (by rw [e_];exact GW261.out)) (fun hs_ => fun e_ => Nat.not_le.2 hs_ (by rw [e_];exact GW261.out)))) (fun hn_ => (Kd.freshB (g := gb261) (o := .cells #[.int .i64 a1_0,.int .i64 a1_1,.slice A1_2 l1_2.length c1_2,.slice A1_3 l1_3.length c1_3,.int .i64 a1_4,.int .i64 a1_5] 30 (0,0)) (hGq BK261.out) k_ hn_)),Or.elim hk_ (fun hs_ => Or.elim hs_ (fun hs_ => fun e_ => Nat.not_le.2 hs_ (by rw [e_];exact GW270.out)) (fun hs_ => Or.elim hs_ (fun hs_ => fun e_ => Nat.not_le.2 hs_ (by rw [e_];exact GW270.out)) (fun hs_ => fun e_ => Nat.not_le.2 hs_ (by rw [e_];exact GW270.out)))) (fun hn_ => (Kd.freshB (g := gb270) (o := .cells #[.int .i64 t264,.int .i64 t265,.slice Ao58 t266.length co58] 24 (0,0)) (hGq BK270.out) k_ hn_))⟩)) (zg hCq)) <| haq (hbq BK260.out hb) <| haq (hbq BK261.out hb) <| haq (hbq BK270.out hb) <| haq (ze hCq hb) <| trivial;clear HO268 BK260 BK261 BK270 HB;obtain ⟨HO268,HO275,BK260,BK261,BK270,HB,_⟩ := n_;(try clear hb);(try clear hb2);(try clear hk);(try clear hi);(try clear ho0)) | ((with_reducible refine zn (N := 11) rfl ?_);refine zl rfl (N := 11) rfl (cs := #[.int .i64 0,.int .i64 0,.slice none 0 0]) (t := 24) hrq ?_;intro gb277 hg w63 hbox hb;have n_ := haq (Kd.V_below (Kd.V_elderB (by (with_reducible repeat (first | apply Kd.V_alloc | apply Kd.V_drewN | apply Kd.V_drew));exact HO268.out) gb277 (Nat.le_of_eq hg.symm)) hb) <| haq (Kd.V_below (Kd.V_elderB (by (with_reducible repeat (first | apply Kd.V_alloc | apply Kd.V_drewN | apply Kd.V_drew));exact HO275.out) gb277 (Nat.le_of_eq hg.symm)) hb) <| haq (hbq BK260.out hb) <| haq (hbq BK261.out hb) <| haq (hbq BK270.out hb) <| haq (ze hCq hb) <| haq (hbox) <| haq ((by rw [hg];exact (zg hCq) : w.heap.size ≤ gb277)) <| haq ((by rw [hg];exact (zg hCq) : w.heap.size ≤ gb277)) <| haq (hnq hg BK260.out) <| haq (hmq hg BK260.out) <| haq (hnq hg BK261.out) <| haq (hmq hg BK261.out) <| haq (hnq hg BK270.out) <| haq (hmq hg BK270.out) <| trivial;clear HO268 HO275 BK260 BK261 BK270 HB;obtain ⟨HO268,HO275,BK260,BK261,BK270,HB,BK277,GW277,GE277,NB260_277,NB277_260,NB261_277,NB277_261,NB270_277,NB277_270,_⟩ := n_;clear hb hbox hg;have hnb64 := NB277_260.out;have hnc64 := NB260_277.out;have hnb65 := NB277_261.out;have hnc65 := NB261_277.out;have hnb66 := NB277_270.out;have hnc66 := NB270_277.out;obtain ⟨hcz67_0,hcz67_1,hcz67_2,hfz67_0,hfz67_1,hfz67_2⟩ := hcq3 BK277.out;obtain ⟨Ao68,co68,eo68⟩ := Kd.V_slice HO275.out;subst eo68;obtain ⟨hcz69_0,hcz69_1,hcz69_2,hfz69_0,hfz69_1,hfz69_2⟩ := hcq3 BK270.out) | ((with_reducible refine zL (f := 8) rfl ?_);refine zaq (some 39) rfl rfl Tryz.func8 (by kernel_rfl) rfl #[.agg #[.int .i64 t264,.int .i64 t265,.slice Ao58 t266.length co58],.agg #[.int .i64 t271,.int .i64 t272,.slice Ao68 t273.length co68]] rfl hMq ?_;(with_reducible refine (zV.calls kj5 t264 t265 _ _ t266 t271 t272 _ _ t273 true _ ?side1 ?side2 ?side3 ?side4 A17.out).mono ?_);(case side1 => refine (Kd.V_reads' (e := 42) (base := w.heap.size) (ok := fun k_ => ((k_ ≠ gb260 ∧ (k_ ≠ gb261 ∧ k_ ≠ gb270)) ∧ k_ ≠ gb277)) (n := t266.length) (c := co58) ?_).2.2;exact (by (with_reducible repeat (first | apply Kd.V_alloc | apply Kd.V_drewN | apply Kd.V_drew));exact (Kd.V_mono (Kd.V_far (p := ⟨gb277,2,none⟩) (Kd.V_far (p := ⟨gb277,1,none⟩) (Kd.V_far (p := ⟨gb277,0,none⟩) (Kd.V_mono HO268.out (fun k_ hk => (⟨hk,hk.2⟩ : _ ∧ k_ ≠ gb277))) (fun _ hk => hk.2) (.int .i64 t271)) (fun _ hk => hk.2) (.int .i64 t272)) (fun _ hk => hk.2) (.slice Ao68 t273.length co68)) (fun _ h_ => h_.1))));(case side2 => exact (Kd.V_reads' HO268.out).2.1);(case side3 => refine (Kd.V_reads' (e := 42) (base := w.heap.size) (ok := fun k_ => ((k_ ≠ gb260 ∧ (k_ ≠ gb261 ∧ k_ ≠ gb270)) ∧ k_ ≠ gb277)) (n := t273.length) (c := co68) ?_).2.2;exact (by (with_reducible repeat (first | apply Kd.V_alloc | apply Kd.V_drewN | apply Kd.V_drew));exact (Kd.V_mono (Kd.V_far (p := ⟨gb277,2,none⟩) (Kd.V_far (p := ⟨gb277,1,none⟩) (Kd.V_far (p := ⟨gb277,0,none⟩) (Kd.V_mono HO275.out (fun k_ hk => (⟨hk,hk.2⟩ : _ ∧ k_ ≠ gb277))) (fun _ hk => hk.2) (.int .i64 t271)) (fun _ hk => hk.2) (.int .i64 t272)) (fun _ hk => hk.2) (.slice Ao68 t273.length co68)) (fun _ h_ => h_.1))));(case side4 => exact (Kd.V_reads' HO275.out).2.1);rintro e w70 ⟨rfl,hb⟩;refine ⟨_,rfl,?_⟩;have n_ := haq (Kd.V_below (by (with_reducible repeat (first | apply Kd.V_alloc | apply Kd.V_drewN | apply Kd.V_drew));exact (Kd.V_mono (Kd.V_far (p := ⟨gb277,2,none⟩) (Kd.V_far (p := ⟨gb277,1,none⟩) (Kd.V_far (p := ⟨gb277,0,none⟩) (Kd.V_mono HO268.out (fun k_ hk => (⟨hk,hk.2⟩ : _ ∧ k_ ≠ gb277))) (fun _ hk => hk.2) (.int .i64 t271)) (fun _ hk => hk.2) (.int .i64 t272)) (fun _ hk => hk.2) (.slice Ao68 t273.length co68)) (fun _ h_ => h_.1))) hb) <| haq (Kd.V_below (by (with_reducible repeat (first | apply Kd.V_alloc | apply Kd.V_drewN | apply Kd.V_drew));exact (Kd.V_mono (Kd.V_far (p := ⟨gb277,2,none⟩) (Kd.V_far (p := ⟨gb277,1,none⟩) (Kd.V_far (p := ⟨gb277,0,none⟩) (Kd.V_mono HO275.out (fun k_ hk => (⟨hk,hk.2⟩ : _ ∧ k_ ≠ gb277))) (fun _ hk => hk.2) (.int .i64 t271)) (fun _ hk => hk.2) (.int .i64 t272)) (fun _ hk => hk.2) (.slice Ao68 t273.length co68)) (fun _ h_ => h_.1))) hb) <| haq (zm (g := gb260) (o := .cells #[.int .i64 a0_0,.int .i64 a0_1,.slice A0_2 l0_2.length c0_2] 24 (0,0)) (hxq1 NB260_277.out BK260.out) hb) <| haq (zm (g := gb261) (o := .cells #[.int .i64 a1_0,.int .i64 a1_1,.slice A1_2 l1_2.length c1_2,.slice A1_3 l1_3.length c1_3,.int .i64 a1_4,.int .i64 a1_5] 30 (0,0)) (hxq1 NB261_277.out BK261.out) hb) <| haq (zm (g := gb270) (o := .cells #[.int .i64 t264,.int .i64 t265,.slice Ao58 t266.length co58] 24 (0,0)) (hxq1 NB270_277.out BK270.out) hb) <| haq (zm (g := gb277) (o := .cells #[.int .i64 t271,.int .i64 t272,.slice Ao68 t273.length co68] 24 (0,0)) (hxq0p BK277.out) hb) <| haq (ze hCq hb) <| trivial;clear HO268 HO275 BK260 BK261 BK270 BK277 HB;obtain ⟨HO268,HO275,BK260,BK261,BK270,BK277,HB,_⟩ := n_;(try clear hb);(try clear hb2);(try clear hk);(try clear hi)))
      have n0_ := za.mk (Kd.V_drew HO268.out)
      have n1_ := za.mk (Kd.V_drew HO275.out)
      have n2_ := za.mk (z6 BK260.out)
      have n3_ := za.mk (z6 BK261.out)
      have n4_ := za.mk (z6 BK270.out)
      have n5_ := za.mk (z6 BK277.out)
      have n6_ := za.mk (zo HB.out)
      clear HO268
      clear HO275
      clear BK260
      clear BK261
      clear BK270
      clear BK277
      clear HB
      have HO268 := n0_
      have HO275 := n1_
      have BK260 := n2_
      have BK261 := n3_
      have BK270 := n4_
      have BK277 := n5_
      have HB := n6_
      clear n0_ n1_ n2_ n3_ n4_ n5_ n6_
      refine zbH (n := 8) (S := fun w' => w'.cell? ⟨gb260,0,none⟩ = some (.int .i64 a0_0) ∧ w'.cell? ⟨gb260,1,none⟩ = some (.int .i64 a0_1) ∧ w'.cell? ⟨gb260,2,none⟩ = some (.slice A0_2 l0_2.length c0_2)) (ds := []) (uQ 8 0) (by kernel_rfl) rfl rfl ⟨(zb BK260.out 0).trans rfl,(zb BK260.out 1).trans rfl,(zb BK260.out 2).trans rfl⟩ (fun hHeld => ?_);refine zaO zx.tab8 zx.bits8 (fun HT_ HW_ => ?_)
      generalize w70.drew = w71 at HO268 HO275 BK260 BK261 BK270 BK277 HB hHeld ⊢
      refine puq (i := 1) (N := some 41) HT_.out #[false,true,false,false,false,false,false,false] ?_
      refine puq (i := 4) (N := some 44) HT_.out #[false,true,false,false,true,false,false,false] ?_
      refine take_ (i := 0) (N := some 40) #[true,true,false,false,true,false,false,false] rfl rfl (zY HT_.out HW_.out (by kernel_rfl)) (fun _ _ _ h => h) (Or.inl ⟨by rfl,by rintro w' ⟨s0,s1,s2⟩;go_simp;with_reducible rfl⟩) hHeld hPq ?_
      refine take_ (i := 3) (N := some 43) #[true,true,false,true,true,false,false,false] rfl rfl (zY HT_.out HW_.out (by kernel_rfl)) (fun _ _ _ h => h) (Or.inl ⟨by rfl,by rintro w' ⟨s0,s1,s2⟩;go_simp;with_reducible rfl⟩) hHeld hPq ?_
      refine zb1 (i := 2) (N := some 42) (uQ 8 5) rfl rfl (zaR HT_.out (by kernel_rfl)) (by decide) (fun K hK => ?_)
      refine zbu Tryz.func9 (by kernel_rfl) rfl #[.agg #[.int .i64 a0_0,.int .i64 a0_1,.slice A0_2 l0_2.length c0_2],.int .i64 a2] (by rfl) rfl rfl hMq ?_
      with_reducible refine (zU.calls a0_0 a0_1 (fun k_ => k_ < w.heap.size) _ _ l0_2 a2 t279 t280 t281 _ ?side1 A18.out).mono ?_
      (case side1 => exact Kd.V_mk HC0_2.out (Kd.F_below (Kd.C_F zbm HR0_2.out) hCq))
      rintro e w72 ⟨v282,rfl,ho0,hb⟩
      refine ⟨_,rfl,?_⟩
      have n0_ := za.mk (Kd.V_below (by (with_reducible repeat (first | apply Kd.V_alloc | apply Kd.V_drewN | apply Kd.V_drew));exact HO268.out) hb)
      have n1_ := za.mk (Kd.V_below (by (with_reducible repeat (first | apply Kd.V_alloc | apply Kd.V_drewN | apply Kd.V_drew));exact HO275.out) hb)
      have n2_ := za.mk (Kd.V_lower (Kd.V_mono (ok' := fun k_ => k_ ≠ gb260 ∧ k_ ≠ gb261 ∧ k_ ≠ gb270 ∧ k_ ≠ gb277) ho0 (fun k_ hk_ => ⟨Or.elim hk_ (fun hs_ => fun e_ => Nat.not_le.2 hs_ (by rw [e_];exact GW260.out)) (fun hn_ => (Kd.freshB (g := gb260) (o := .cells #[.int .i64 a0_0,.int .i64 a0_1,.slice A0_2 l0_2.length c0_2] 24 (0,0)) (hGq BK260.out) k_ hn_)),Or.elim hk_ (fun hs_ => fun e_ => Nat.not_le.2 hs_ (by rw [e_];exact GW261.out)) (fun hn_ => (Kd.freshB (g := gb261) (o := .cells #[.int .i64 a1_0,.int .i64 a1_1,.slice A1_2 l1_2.length c1_2,.slice A1_3 l1_3.length c1_3,.int .i64 a1_4,.int .i64 a1_5] 30 (0,0)) (hGq BK261.out) k_ hn_)),Or.elim hk_ (fun hs_ => fun e_ => Nat.not_le.2 hs_ (by rw [e_];exact GW270.out)) (fun hn_ => (Kd.freshB (g := gb270) (o := .cells #[.int .i64 t264,.int .i64 t265,.slice Ao58 t266.length co58] 24 (0,0)) (hGq BK270.out) k_ hn_)),Or.elim hk_ (fun hs_ => fun e_ => Nat.not_le.2 hs_ (by rw [e_];exact GW277.out)) (fun hn_ => (Kd.freshB (g := gb277) (o := .cells #[.int .i64 t271,.int .i64 t272,.slice Ao68 t273.length co68] 24 (0,0)) (hGq BK277.out) k_ hn_))⟩)) (zg hCq))
      have n3_ := za.mk (hbq BK260.out hb)
      have n4_ := za.mk (hbq BK261.out hb)
      have n5_ := za.mk (hbq BK270.out hb)
      have n6_ := za.mk (hbq BK277.out hb)
      have n7_ := za.mk (ze hCq hb)
      clear HO268
      clear HO275
      clear BK260
      clear BK261
      clear BK270
      clear BK277
      clear HB
      have HO268 := n0_
      have HO275 := n1_
      have HO283 := n2_
      have BK260 := n3_
      have BK261 := n4_
      have BK270 := n5_
      have BK277 := n6_
      have HB := n7_
      clear n0_ n1_ n2_ n3_ n4_ n5_ n6_ n7_
      (try clear hb)
      (try clear hb2)
      (try clear hk)
      (try clear hi)
      (try clear ho0)
      refine hK.out _ _ ⟨(zb BK260.out 0).trans rfl,(zb BK260.out 1).trans rfl,(zb BK260.out 2).trans rfl⟩ (fun hHeld => ?_)
      clear hK K
      refine zbk (a' := ?_) ?_ ?_
      rotate_left
      ·show Act.put _ (some 42) _ = _
       simp only [Act.put,List.setIfInBounds_toArray,List.set_cons_zero,List.set_cons_succ,zaw,zaB]
       rfl
      refine zb1 (i := 5) (N := some 45) (uQ 8 6) rfl rfl (zaR HT_.out (by kernel_rfl)) (by decide) (fun K hK => ?_)
      refine zbu Tryz.func10 (by kernel_rfl) rfl #[.agg #[.int .i64 a0_0,.int .i64 a0_1,.slice A0_2 l0_2.length c0_2],.int .i64 a2] (by rfl) rfl rfl hMq ?_
      with_reducible refine (zE.calls kj5 a0_0 a0_1 (fun k_ => k_ < w.heap.size) _ _ l0_2 a2 t284 t285 t286 _ ?side1 A19.out).mono ?_
      (case side1 => exact Kd.V_mk HC0_2.out (Kd.F_below (Kd.C_F zbm HR0_2.out) hCq))
      rintro e w73 ⟨v287,rfl,ho0,hb⟩
      refine ⟨_,rfl,?_⟩
      have n0_ := za.mk (Kd.V_below (by (with_reducible repeat (first | apply Kd.V_alloc | apply Kd.V_drewN | apply Kd.V_drew));exact HO268.out) hb)
      have n1_ := za.mk (Kd.V_below (by (with_reducible repeat (first | apply Kd.V_alloc | apply Kd.V_drewN | apply Kd.V_drew));exact HO275.out) hb)
      have n2_ := za.mk (Kd.V_below (by (with_reducible repeat (first | apply Kd.V_alloc | apply Kd.V_drewN | apply Kd.V_drew));exact HO283.out) hb)
      have n3_ := za.mk (Kd.V_lower (Kd.V_mono (ok' := fun k_ => k_ ≠ gb260 ∧ k_ ≠ gb261 ∧ k_ ≠ gb270 ∧ k_ ≠ gb277) ho0 (fun k_ hk_ => ⟨Or.elim hk_ (fun hs_ => fun e_ => Nat.not_le.2 hs_ (by rw [e_];exact GW260.out)) (fun hn_ => (Kd.freshB (g := gb260) (o := .cells #[.int .i64 a0_0,.int .i64 a0_1,.slice A0_2 l0_2.length c0_2] 24 (0,0)) (hGq BK260.out) k_ hn_)),Or.elim hk_ (fun hs_ => fun e_ => Nat.not_le.2 hs_ (by rw [e_];exact GW261.out)) (fun hn_ => (Kd.freshB (g := gb261) (o := .cells #[.int .i64 a1_0,.int .i64 a1_1,.slice A1_2 l1_2.length c1_2,.slice A1_3 l1_3.length c1_3,.int .i64 a1_4,.int .i64 a1_5] 30 (0,0)) (hGq BK261.out) k_ hn_)),Or.elim hk_ (fun hs_ => fun e_ => Nat.not_le.2 hs_ (by rw [e_];exact GW270.out)) (fun hn_ => (Kd.freshB (g := gb270) (o := .cells #[.int .i64 t264,.int .i64 t265,.slice Ao58 t266.length co58] 24 (0,0)) (hGq BK270.out) k_ hn_)),Or.elim hk_ (fun hs_ => fun e_ => Nat.not_le.2 hs_ (by rw [e_];exact GW277.out)) (fun hn_ => (Kd.freshB (g := gb277) (o := .cells #[.int .i64 t271,.int .i64 t272,.slice Ao68 t273.length co68] 24 (0,0)) (hGq BK277.out) k_ hn_))⟩)) (zg hCq))
      have n4_ := za.mk (hbq BK260.out hb)
      have n5_ := za.mk (hbq BK261.out hb)
      have n6_ := za.mk (hbq BK270.out hb)
      have n7_ := za.mk (hbq BK277.out hb)
      have n8_ := za.mk (ze hCq hb)
      clear HO268
      clear HO275
      clear HO283
      clear BK260
      clear BK261
      clear BK270
      clear BK277
      clear HB
      have HO268 := n0_
      have HO275 := n1_
      have HO283 := n2_
      have HO288 := n3_
      have BK260 := n4_
      have BK261 := n5_
      have BK270 := n6_
      have BK277 := n7_
      have HB := n8_
      clear n0_ n1_ n2_ n3_ n4_ n5_ n6_ n7_ n8_
      (try clear hb)
      (try clear hb2)
      (try clear hk)
      (try clear hi)
      (try clear ho0)
      obtain ⟨Ao74,co74,eo74⟩ := Kd.V_slice HO283.out
      (first | subst eo74 | (injection eo74 with f1_ f2_ f3_;have f4_ := f1_.symm;have f5_ := f3_.symm;clear f1_ f2_ f3_;subst f4_;subst f5_))
      obtain ⟨Ao75,co75,eo75⟩ := Kd.V_slice HO288.out
      (first | subst eo75 | (injection eo75 with f1_ f2_ f3_;have f4_ := f1_.symm;have f5_ := f3_.symm;clear f1_ f2_ f3_;subst f4_;subst f5_))
      refine hK.out _ _ ⟨(zb BK260.out 0).trans rfl,(zb BK260.out 1).trans rfl,(zb BK260.out 2).trans rfl⟩ (fun hHeld => ?_)
      clear hK K
      refine zbk (a' := ?_) ?_ ?_
      rotate_left
      ·show Act.put _ (some 45) _ = _
       simp only [Act.put,List.setIfInBounds_toArray,List.set_cons_zero,List.set_cons_succ,zaw,zaB]
       rfl
      refine zb1 (i := 6) (N := some 46) (uQ 8 7) rfl rfl (zaR HT_.out (by kernel_rfl)) (by decide) (fun K hK => ?_)
      refine zbu Tryz.func8 (by kernel_rfl) rfl #[.agg #[.int .i64 t279,.int .i64 t280,.slice Ao74 t281.length co74],.agg #[.int .i64 t284,.int .i64 t285,.slice Ao75 t286.length co75]] (by rfl) rfl rfl hMq ?_
      with_reducible refine (zV.calls kj5 t279 t280 _ _ t281 t284 t285 _ _ t286 false _ ?side1 ?side2 ?side3 ?side4 A20.out).mono ?_
      (case side1 => repeat (first | exact (Kd.V_reads' HO283.out).2.2 | (with_reducible refine Kd.C_alloc ?_ _) | (with_reducible refine Kd.C_drewN ?_ _) | (with_reducible refine Kd.C_drew ?_)))
      (case side2 => exact (Kd.V_reads' HO283.out).2.1)
      (case side3 => repeat (first | exact (Kd.V_reads' HO288.out).2.2 | (with_reducible refine Kd.C_alloc ?_ _) | (with_reducible refine Kd.C_drewN ?_ _) | (with_reducible refine Kd.C_drew ?_)))
      (case side4 => exact (Kd.V_reads' HO288.out).2.1)
      rintro e w76 ⟨rfl,hb⟩
      refine ⟨_,rfl,?_⟩
      have n0_ := za.mk (Kd.V_below (by (with_reducible repeat (first | apply Kd.V_alloc | apply Kd.V_drewN | apply Kd.V_drew));exact HO268.out) hb)
      have n1_ := za.mk (Kd.V_below (by (with_reducible repeat (first | apply Kd.V_alloc | apply Kd.V_drewN | apply Kd.V_drew));exact HO275.out) hb)
      have n2_ := za.mk (Kd.V_below (by (with_reducible repeat (first | apply Kd.V_alloc | apply Kd.V_drewN | apply Kd.V_drew));exact HO283.out) hb)
      have n3_ := za.mk (Kd.V_below (by (with_reducible repeat (first | apply Kd.V_alloc | apply Kd.V_drewN | apply Kd.V_drew));exact HO288.out) hb)
      have n4_ := za.mk (hbq BK260.out hb)
      have n5_ := za.mk (hbq BK261.out hb)
      have n6_ := za.mk (hbq BK270.out hb)
      have n7_ := za.mk (hbq BK277.out hb)
      have n8_ := za.mk (ze hCq hb)
      clear HO268
      clear HO275
      clear HO283
      clear HO288
      clear BK260
      clear BK261
      clear BK270
      clear BK277
      clear HB
      have HO268 := n0_
      have HO275 := n1_
      have HO283 := n2_
      have HO288 := n3_
      have BK260 := n4_
      have BK261 := n5_
      have BK270 := n6_
      have BK277 := n7_
      have HB := n8_
      clear n0_ n1_ n2_ n3_ n4_ n5_ n6_ n7_ n8_
      (try clear hb)
      (try clear hb2)
      (try clear hk)
      (try clear hi)
      refine hK.out _ _ ⟨(zb BK260.out 0).trans rfl,(zb BK260.out 1).trans rfl,(zb BK260.out 2).trans rfl⟩ (fun hHeld => ?_)
      clear hK K
      refine zbk (a' := ?_) ?_ ?_
      rotate_left
      ·show Act.put _ (some 46) _ = _
       simp only [Act.put,List.setIfInBounds_toArray,List.set_cons_zero,List.set_cons_succ,zaw,zaB]
       rfl
      refine puq (i := 7) (N := some 14) HT_.out (uQ 8 8) ?_
      refine zbJ (zaU HT_.out (by kernel_rfl)) ?_
      try go_wp2
      go_ret
      exact ⟨hHq,hCq⟩
    ·replace c21 := Bool.eq_false_iff.mpr c21
     subst c21
     have H1 : (some false) = some r := by rw [if_neg (show ¬ (false = true) by decide)] at H;exact H
     clear H
     have H := H1
     clear H1
     obtain rfl := Option.some.inj H
     have hnb77 := NB260_261.out
     have hnc77 := NB261_260.out
     obtain ⟨hcz78_0,hcz78_1,hcz78_2,hfz78_0,hfz78_1,hfz78_2⟩ := hcq3 BK260.out
     obtain ⟨hcz79_0,hcz79_1,hcz79_2,hcz79_3,hcz79_4,hcz79_5,hfz79_0,hfz79_1,hfz79_2,hfz79_3,hfz79_4,hfz79_5⟩ := hcq6 BK261.out
     try go_wp2_with (first | ((with_reducible refine zL (f := 6) rfl ?_);refine zaq (some 28) rfl rfl Tryz.func6 (by kernel_rfl) rfl #[.agg #[.int .i64 a0_0,.int .i64 a0_1,.slice A0_2 l0_2.length c0_2],.agg #[.int .i64 a1_0,.int .i64 a1_1,.slice A1_2 l1_2.length c1_2,.slice A1_3 l1_3.length c1_3,.int .i64 a1_4,.int .i64 a1_5]] rfl hMq ?_;(with_reducible refine (zas.calls a0_0 a0_1 (fun k_ => k_ < w.heap.size) _ _ l0_2 a1_0 a1_1 (fun k_ => k_ < w.heap.size) _ _ l1_2 (fun k_ => k_ < w.heap.size) _ _ l1_3 a1_4 a1_5 t264 t265 t266 t269 _ ?side1 ?side2 ?side3 A15.out).mono ?_);(case side1 => exact Kd.V_mk HC0_2.out (Kd.F_below (Kd.C_F zbm HR0_2.out) hCq));(case side2 => exact Kd.V_mk HC1_2.out (Kd.F_below (Kd.C_F zcU HR1_2.out) hCq));(case side3 => exact Kd.V_mk HC1_3.out (Kd.F_below (Kd.C_F Kd.heap_string HR1_3.out) hCq));rintro e w80 ⟨v267,rfl,ho0,hb⟩;refine ⟨_,rfl,?_⟩;have n_ := haq (Kd.V_lower (Kd.V_mono (ok' := fun k_ => k_ ≠ gb260 ∧ k_ ≠ gb261) ho0 (fun k_ hk_ => ⟨Or.elim hk_ (fun hs_ => Or.elim hs_ (fun hs_ => fun e_ => Nat.not_le.2 hs_ (by rw [e_];exact GW260.out)) (fun hs_ => Or.elim hs_ (fun hs_ => fun e_ => Nat.not_le.2 hs_ (by rw [e_];exact GW260.out)) (fun hs_ => fun e_ => Nat.not_le.2 hs_ (by rw [e_];exact GW260.out)))) (fun hn_ => (Kd.freshB (g := gb260) (o := .cells #[.int .i64 a0_0,.int .i64 a0_1,.slice A0_2 l0_2.length c0_2] 24 (0,0)) (hGq BK260.out) k_ hn_)),Or.elim hk_ (fun hs_ => Or.elim hs_ (fun hs_ => fun e_ => Nat.not_le.2 hs_ (by rw [e_];exact GW261.out)) (fun hs_ => Or.elim hs_ (fun hs_ => fun e_ => Nat.not_le.2 hs_ (by rw [e_];exact GW261.out)) (fun hs_ => fun e_ => Nat.not_le.2 hs_ (by rw [e_];exact GW261.out)))) (fun hn_ => (Kd.freshB (g := gb261) (o := .cells #[.int .i64 a1_0,.int .i64 a1_1,.slice A1_2 l1_2.length c1_2,.slice A1_3 l1_3.length c1_3,.int .i64 a1_4,.int .i64 a1_5] 30 (0,0)) (hGq BK261.out) k_ hn_))⟩)) (zg hCq)) <| haq (hbq BK260.out hb) <| haq (hbq BK261.out hb) <| haq (ze hCq hb) <| trivial;clear BK260 BK261 HB;obtain ⟨HO268,BK260,BK261,HB,_⟩ := n_;(try clear hb);(try clear hb2);(try clear hk);(try clear hi);(try clear ho0)) | ((with_reducible refine zn (N := 9) rfl ?_);refine zl rfl (N := 9) rfl (cs := #[.int .i64 0,.int .i64 0,.slice none 0 0]) (t := 24) hrq ?_;intro gb270 hg w81 hbox hb;have n_ := haq (Kd.V_below (Kd.V_elderB (by (with_reducible repeat (first | apply Kd.V_alloc | apply Kd.V_drewN | apply Kd.V_drew));exact HO268.out) gb270 (Nat.le_of_eq hg.symm)) hb) <| haq (hbq BK260.out hb) <| haq (hbq BK261.out hb) <| haq (ze hCq hb) <| haq (hbox) <| haq ((by rw [hg];exact (zg hCq) : w.heap.size ≤ gb270)) <| haq ((by rw [hg];exact (zg hCq) : w.heap.size ≤ gb270)) <| haq (hnq hg BK260.out) <| haq (hmq hg BK260.out) <| haq (hnq hg BK261.out) <| haq (hmq hg BK261.out) <| trivial;clear HO268 BK260 BK261 HB;obtain ⟨HO268,BK260,BK261,HB,BK270,GW270,GE270,NB260_270,NB270_260,NB261_270,NB270_261,_⟩ := n_;clear hb hbox hg;have hnb82 := NB270_260.out;have hnc82 := NB260_270.out;have hnb83 := NB270_261.out;have hnc83 := NB261_270.out;obtain ⟨hcz84_0,hcz84_1,hcz84_2,hfz84_0,hfz84_1,hfz84_2⟩ := hcq3 BK270.out;obtain ⟨Ao85,co85,eo85⟩ := Kd.V_slice HO268.out;subst eo85) | ((with_reducible refine za0 (t := 24) (p := 9) rfl ?_);refine zaS (t := 24) (p := 9) (v := _) (w1 := (((w81.setCell ⟨gb270,0,none⟩ (.int .i64 t264)).setCell ⟨gb270,1,none⟩ (.int .i64 t265)).setCell ⟨gb270,2,none⟩ (.slice Ao85 t266.length co85))) rfl rfl rfl hrq ?_;intro w86 hw;have n_ := haq (((by rw [hw];exact (by (with_reducible repeat (first | apply Kd.V_alloc | apply Kd.V_drewN | apply Kd.V_drew));exact Kd.V_mono (Kd.V_far (p := ⟨gb270,2,none⟩) (Kd.V_far (p := ⟨gb270,1,none⟩) (Kd.V_far (p := ⟨gb270,0,none⟩) (Kd.V_mono HO268.out (fun k_ hk => (⟨hk,hk.2⟩ : _ ∧ k_ ≠ gb270))) (fun _ hk => hk.2) (.int .i64 t264)) (fun _ hk => hk.2) (.int .i64 t265)) (fun _ hk => hk.2) (.slice Ao85 t266.length co85)) (fun _ hk => ⟨hk.1.1.1,⟨hk.1.1.2,hk.1.2⟩⟩))) : Kd.V k42 42 w86 w.heap.size (fun k_ => k_ ≠ gb260 ∧ k_ ≠ gb261 ∧ k_ ≠ gb270) (.slice Ao85 t266.length co85) t266)) <| haq (hfq hw NB260_270.out BK260.out) <| haq (hfq hw NB261_270.out BK261.out) <| haq (((by rw [hw];exact (hxq0p BK270.out)) : w86.heap[gb270]? = some (.cells #[.int .i64 t264,.int .i64 t265,.slice Ao85 t266.length co85] 24 (0,0)))) <| haq (((by rw [hw];exact hCq) : Below w.heap.size w w86)) <| trivial;clear hw HO268 BK260 BK261 BK270 HB;obtain ⟨HO268,BK260,BK261,BK270,HB,_⟩ := n_;obtain ⟨hcz87_0,hcz87_1,hcz87_2,hfz87_0,hfz87_1,hfz87_2⟩ := hcq3 BK260.out;obtain ⟨hcz88_0,hcz88_1,hcz88_2,hcz88_3,hcz88_4,hcz88_5,hfz88_0,hfz88_1,hfz88_2,hfz88_3,hfz88_4,hfz88_5⟩ := hcq6 BK261.out) | ((with_reducible refine zL (f := 7) rfl ?_);refine zaq (some 34) rfl rfl Tryz.func7 (by kernel_rfl) rfl #[.agg #[.int .i64 a0_0,.int .i64 a0_1,.slice A0_2 l0_2.length c0_2],.agg #[.int .i64 a1_0,.int .i64 a1_1,.slice A1_2 l1_2.length c1_2,.slice A1_3 l1_3.length c1_3,.int .i64 a1_4,.int .i64 a1_5]] rfl hMq ?_;(with_reducible refine (zP.calls a0_0 a0_1 (fun k_ => k_ < w.heap.size) _ _ l0_2 a1_0 a1_1 (fun k_ => k_ < w.heap.size) _ _ l1_2 (fun k_ => k_ < w.heap.size) _ _ l1_3 a1_4 a1_5 t271 t272 t273 t276 _ ?side1 ?side2 ?side3 A16.out).mono ?_);(case side1 => exact Kd.V_mk HC0_2.out (Kd.F_below (Kd.C_F zbm HR0_2.out) hCq));(case side2 => exact Kd.V_mk HC1_2.out (Kd.F_below (Kd.C_F zcU HR1_2.out) hCq));(case side3 => exact Kd.V_mk HC1_3.out (Kd.F_below (Kd.C_F Kd.heap_string HR1_3.out) hCq));rintro e w89 ⟨v274,rfl,ho0,hb⟩;refine ⟨_,rfl,?_⟩;have n_ := haq (Kd.V_below (by (with_reducible repeat (first | apply Kd.V_alloc | apply Kd.V_drewN | apply Kd.V_drew));exact HO268.out) hb) <| haq (Kd.V_lower (Kd.V_mono (ok' := fun k_ => k_ ≠ gb260 ∧ k_ ≠ gb261 ∧ k_ ≠ gb270) ho0 (fun k_ hk_ => ⟨Or.elim hk_ (fun hs_ => Or.elim hs_ (fun hs_ => fun e_ => Nat.not_le.2 hs_ (by rw [e_];exact GW260.out)) (fun hs_ => Or.elim hs_ (fun hs_ => fun e_ => Nat.not_le.2 hs_ (by rw [e_];exact GW260.out)) (fun hs_ => fun e_ => Nat.not_le.2 hs_ (by rw [e_];exact GW260.out)))) (fun hn_ => (Kd.freshB (g := gb260) (o := .cells #[.int .i64 a0_0,.int .i64 a0_1,.slice A0_2 l0_2.length c0_2] 24 (0,0)) (hGq BK260.out) k_ hn_)),Or.elim hk_ (fun hs_ => Or.elim hs_ (fun hs_ => fun e_ => Nat.not_le.2 hs_ (by rw [e_];exact GW261.out)) (fun hs_ => Or.elim hs_ (fun hs_ => fun e_ => Nat.not_le.2 hs_ (by rw [e_];exact GW261.out)) (fun hs_ => fun e_ => Nat.not_le.2 hs_ (by rw [e_];exact GW261.out)))) (fun hn_ => (Kd.freshB (g := gb261) (o := .cells #[.int .i64 a1_0,.int .i64 a1_1,.slice A1_2 l1_2.length c1_2,.slice A1_3 l1_3.length c1_3,.int .i64 a1_4,.int .i64 a1_5] 30 (0,0)) (hGq BK261.out) k_ hn_)),Or.elim hk_ (fun hs_ => Or.elim hs_ (fun hs_ => fun e_ => Nat.not_le.2 hs_ (by rw [e_];exact GW270.out)) (fun hs_ => Or.elim hs_ (fun hs_ => fun e_ => Nat.not_le.2 hs_ (by rw [e_];exact GW270.out)) (fun hs_ => fun e_ => Nat.not_le.2 hs_ (by rw [e_];exact GW270.out)))) (fun hn_ => (Kd.freshB (g := gb270) (o := .cells #[.int .i64 t264,.int .i64 t265,.slice Ao85 t266.length co85] 24 (0,0)) (hGq BK270.out) k_ hn_))⟩)) (zg hCq)) <| haq (hbq BK260.out hb) <| haq (hbq BK261.out hb) <| haq (hbq BK270.out hb) <| haq (ze hCq hb) <| trivial;clear HO268 BK260 BK261 BK270 HB;obtain ⟨HO268,HO275,BK260,BK261,BK270,HB,_⟩ := n_;(try clear hb);(try clear hb2);(try clear hk);(try clear hi);(try clear ho0)) | ((with_reducible refine zn (N := 11) rfl ?_);refine zl rfl (N := 11) rfl (cs := #[.int .i64 0,.int .i64 0,.slice none 0 0]) (t := 24) hrq ?_;intro gb277 hg w90 hbox hb;have n_ := haq (Kd.V_below (Kd.V_elderB (by (with_reducible repeat (first | apply Kd.V_alloc | apply Kd.V_drewN | apply Kd.V_drew));exact HO268.out) gb277 (Nat.le_of_eq hg.symm)) hb) <| haq (Kd.V_below (Kd.V_elderB (by (with_reducible repeat (first | apply Kd.V_alloc | apply Kd.V_drewN | apply Kd.V_drew));exact HO275.out) gb277 (Nat.le_of_eq hg.symm)) hb) <| haq (hbq BK260.out hb) <| haq (hbq BK261.out hb) <| haq (hbq BK270.out hb) <| haq (ze hCq hb) <| haq (hbox) <| haq ((by rw [hg];exact (zg hCq) : w.heap.size ≤ gb277)) <| haq ((by rw [hg];exact (zg hCq) : w.heap.size ≤ gb277)) <| haq (hnq hg BK260.out) <| haq (hmq hg BK260.out) <| haq (hnq hg BK261.out) <| haq (hmq hg BK261.out) <| haq (hnq hg BK270.out) <| haq (hmq hg BK270.out) <| trivial;clear HO268 HO275 BK260 BK261 BK270 HB;obtain ⟨HO268,HO275,BK260,BK261,BK270,HB,BK277,GW277,GE277,NB260_277,NB277_260,NB261_277,NB277_261,NB270_277,NB277_270,_⟩ := n_;clear hb hbox hg;have hnb91 := NB277_260.out;have hnc91 := NB260_277.out;have hnb92 := NB277_261.out;have hnc92 := NB261_277.out;have hnb93 := NB277_270.out;have hnc93 := NB270_277.out;obtain ⟨hcz94_0,hcz94_1,hcz94_2,hfz94_0,hfz94_1,hfz94_2⟩ := hcq3 BK277.out;obtain ⟨Ao95,co95,eo95⟩ := Kd.V_slice HO275.out;subst eo95;obtain ⟨hcz96_0,hcz96_1,hcz96_2,hfz96_0,hfz96_1,hfz96_2⟩ := hcq3 BK270.out) | ((with_reducible refine zL (f := 8) rfl ?_);refine zaq (some 39) rfl rfl Tryz.func8 (by kernel_rfl) rfl #[.agg #[.int .i64 t264,.int .i64 t265,.slice Ao85 t266.length co85],.agg #[.int .i64 t271,.int .i64 t272,.slice Ao95 t273.length co95]] rfl hMq ?_;(with_reducible refine (zV.calls kj5 t264 t265 _ _ t266 t271 t272 _ _ t273 false _ ?side1 ?side2 ?side3 ?side4 A17.out).mono ?_);(case side1 => refine (Kd.V_reads' (e := 42) (base := w.heap.size) (ok := fun k_ => ((k_ ≠ gb260 ∧ (k_ ≠ gb261 ∧ k_ ≠ gb270)) ∧ k_ ≠ gb277)) (n := t266.length) (c := co85) ?_).2.2;exact (by (with_reducible repeat (first | apply Kd.V_alloc | apply Kd.V_drewN | apply Kd.V_drew));exact (Kd.V_mono (Kd.V_far (p := ⟨gb277,2,none⟩) (Kd.V_far (p := ⟨gb277,1,none⟩) (Kd.V_far (p := ⟨gb277,0,none⟩) (Kd.V_mono HO268.out (fun k_ hk => (⟨hk,hk.2⟩ : _ ∧ k_ ≠ gb277))) (fun _ hk => hk.2) (.int .i64 t271)) (fun _ hk => hk.2) (.int .i64 t272)) (fun _ hk => hk.2) (.slice Ao95 t273.length co95)) (fun _ h_ => h_.1))));(case side2 => exact (Kd.V_reads' HO268.out).2.1);(case side3 => refine (Kd.V_reads' (e := 42) (base := w.heap.size) (ok := fun k_ => ((k_ ≠ gb260 ∧ (k_ ≠ gb261 ∧ k_ ≠ gb270)) ∧ k_ ≠ gb277)) (n := t273.length) (c := co95) ?_).2.2;exact (by (with_reducible repeat (first | apply Kd.V_alloc | apply Kd.V_drewN | apply Kd.V_drew));exact (Kd.V_mono (Kd.V_far (p := ⟨gb277,2,none⟩) (Kd.V_far (p := ⟨gb277,1,none⟩) (Kd.V_far (p := ⟨gb277,0,none⟩) (Kd.V_mono HO275.out (fun k_ hk => (⟨hk,hk.2⟩ : _ ∧ k_ ≠ gb277))) (fun _ hk => hk.2) (.int .i64 t271)) (fun _ hk => hk.2) (.int .i64 t272)) (fun _ hk => hk.2) (.slice Ao95 t273.length co95)) (fun _ h_ => h_.1))));(case side4 => exact (Kd.V_reads' HO275.out).2.1);rintro e w97 ⟨rfl,hb⟩;refine ⟨_,rfl,?_⟩;have n_ := haq (Kd.V_below (by (with_reducible repeat (first | apply Kd.V_alloc | apply Kd.V_drewN | apply Kd.V_drew));exact (Kd.V_mono (Kd.V_far (p := ⟨gb277,2,none⟩) (Kd.V_far (p := ⟨gb277,1,none⟩) (Kd.V_far (p := ⟨gb277,0,none⟩) (Kd.V_mono HO268.out (fun k_ hk => (⟨hk,hk.2⟩ : _ ∧ k_ ≠ gb277))) (fun _ hk => hk.2) (.int .i64 t271)) (fun _ hk => hk.2) (.int .i64 t272)) (fun _ hk => hk.2) (.slice Ao95 t273.length co95)) (fun _ h_ => h_.1))) hb) <| haq (Kd.V_below (by (with_reducible repeat (first | apply Kd.V_alloc | apply Kd.V_drewN | apply Kd.V_drew));exact (Kd.V_mono (Kd.V_far (p := ⟨gb277,2,none⟩) (Kd.V_far (p := ⟨gb277,1,none⟩) (Kd.V_far (p := ⟨gb277,0,none⟩) (Kd.V_mono HO275.out (fun k_ hk => (⟨hk,hk.2⟩ : _ ∧ k_ ≠ gb277))) (fun _ hk => hk.2) (.int .i64 t271)) (fun _ hk => hk.2) (.int .i64 t272)) (fun _ hk => hk.2) (.slice Ao95 t273.length co95)) (fun _ h_ => h_.1))) hb) <| haq (zm (g := gb260) (o := .cells #[.int .i64 a0_0,.int .i64 a0_1,.slice A0_2 l0_2.length c0_2] 24 (0,0)) (hxq1 NB260_277.out BK260.out) hb) <| haq (zm (g := gb261) (o := .cells #[.int .i64 a1_0,.int .i64 a1_1,.slice A1_2 l1_2.length c1_2,.slice A1_3 l1_3.length c1_3,.int .i64 a1_4,.int .i64 a1_5] 30 (0,0)) (hxq1 NB261_277.out BK261.out) hb) <| haq (zm (g := gb270) (o := .cells #[.int .i64 t264,.int .i64 t265,.slice Ao85 t266.length co85] 24 (0,0)) (hxq1 NB270_277.out BK270.out) hb) <| haq (zm (g := gb277) (o := .cells #[.int .i64 t271,.int .i64 t272,.slice Ao95 t273.length co95] 24 (0,0)) (hxq0p BK277.out) hb) <| haq (ze hCq hb) <| trivial;clear HO268 HO275 BK260 BK261 BK270 BK277 HB;obtain ⟨HO268,HO275,BK260,BK261,BK270,BK277,HB,_⟩ := n_;(try clear hb);(try clear hb2);(try clear hk);(try clear hi)))
     have n0_ := za.mk (Kd.V_drew HO268.out)
     have n1_ := za.mk (Kd.V_drew HO275.out)
     have n2_ := za.mk (z6 BK260.out)
     have n3_ := za.mk (z6 BK261.out)
     have n4_ := za.mk (z6 BK270.out)
     have n5_ := za.mk (z6 BK277.out)
     have n6_ := za.mk (zo HB.out)
     clear HO268
     clear HO275
     clear BK260
     clear BK261
     clear BK270
     clear BK277
     clear HB
     have HO268 := n0_
     have HO275 := n1_
     have BK260 := n2_
     have BK261 := n3_
     have BK270 := n4_
     have BK277 := n5_
     have HB := n6_
     clear n0_ n1_ n2_ n3_ n4_ n5_ n6_
     refine zbH (n := 8) (S := fun w' => w'.cell? ⟨gb260,0,none⟩ = some (.int .i64 a0_0) ∧ w'.cell? ⟨gb260,1,none⟩ = some (.int .i64 a0_1) ∧ w'.cell? ⟨gb260,2,none⟩ = some (.slice A0_2 l0_2.length c0_2)) (ds := []) (uQ 8 0) (by kernel_rfl) rfl rfl ⟨(zb BK260.out 0).trans rfl,(zb BK260.out 1).trans rfl,(zb BK260.out 2).trans rfl⟩ (fun hHeld => ?_);refine zaO zx.tab8 zx.bits8 (fun HT_ HW_ => ?_)
     generalize w97.drew = w98 at HO268 HO275 BK260 BK261 BK270 BK277 HB hHeld ⊢
     refine puq (i := 1) (N := some 41) HT_.out #[false,true,false,false,false,false,false,false] ?_
     refine puq (i := 4) (N := some 44) HT_.out #[false,true,false,false,true,false,false,false] ?_
     refine take_ (i := 0) (N := some 40) #[true,true,false,false,true,false,false,false] rfl rfl (zY HT_.out HW_.out (by kernel_rfl)) (fun _ _ _ h => h) (Or.inl ⟨by rfl,by rintro w' ⟨s0,s1,s2⟩;go_simp;with_reducible rfl⟩) hHeld hPq ?_
     refine take_ (i := 3) (N := some 43) #[true,true,false,true,true,false,false,false] rfl rfl (zY HT_.out HW_.out (by kernel_rfl)) (fun _ _ _ h => h) (Or.inl ⟨by rfl,by rintro w' ⟨s0,s1,s2⟩;go_simp;with_reducible rfl⟩) hHeld hPq ?_
     refine zb1 (i := 2) (N := some 42) (uQ 8 5) rfl rfl (zaR HT_.out (by kernel_rfl)) (by decide) (fun K hK => ?_)
     refine zbu Tryz.func9 (by kernel_rfl) rfl #[.agg #[.int .i64 a0_0,.int .i64 a0_1,.slice A0_2 l0_2.length c0_2],.int .i64 a2] (by rfl) rfl rfl hMq ?_
     with_reducible refine (zU.calls a0_0 a0_1 (fun k_ => k_ < w.heap.size) _ _ l0_2 a2 t279 t280 t281 _ ?side1 A18.out).mono ?_
     (case side1 => exact Kd.V_mk HC0_2.out (Kd.F_below (Kd.C_F zbm HR0_2.out) hCq))
     rintro e w99 ⟨v282,rfl,ho0,hb⟩
     refine ⟨_,rfl,?_⟩
     have n0_ := za.mk (Kd.V_below (by (with_reducible repeat (first | apply Kd.V_alloc | apply Kd.V_drewN | apply Kd.V_drew));exact HO268.out) hb)
     have n1_ := za.mk (Kd.V_below (by (with_reducible repeat (first | apply Kd.V_alloc | apply Kd.V_drewN | apply Kd.V_drew));exact HO275.out) hb)
     have n2_ := za.mk (Kd.V_lower (Kd.V_mono (ok' := fun k_ => k_ ≠ gb260 ∧ k_ ≠ gb261 ∧ k_ ≠ gb270 ∧ k_ ≠ gb277) ho0 (fun k_ hk_ => ⟨Or.elim hk_ (fun hs_ => fun e_ => Nat.not_le.2 hs_ (by rw [e_];exact GW260.out)) (fun hn_ => (Kd.freshB (g := gb260) (o := .cells #[.int .i64 a0_0,.int .i64 a0_1,.slice A0_2 l0_2.length c0_2] 24 (0,0)) (hGq BK260.out) k_ hn_)),Or.elim hk_ (fun hs_ => fun e_ => Nat.not_le.2 hs_ (by rw [e_];exact GW261.out)) (fun hn_ => (Kd.freshB (g := gb261) (o := .cells #[.int .i64 a1_0,.int .i64 a1_1,.slice A1_2 l1_2.length c1_2,.slice A1_3 l1_3.length c1_3,.int .i64 a1_4,.int .i64 a1_5] 30 (0,0)) (hGq BK261.out) k_ hn_)),Or.elim hk_ (fun hs_ => fun e_ => Nat.not_le.2 hs_ (by rw [e_];exact GW270.out)) (fun hn_ => (Kd.freshB (g := gb270) (o := .cells #[.int .i64 t264,.int .i64 t265,.slice Ao85 t266.length co85] 24 (0,0)) (hGq BK270.out) k_ hn_)),Or.elim hk_ (fun hs_ => fun e_ => Nat.not_le.2 hs_ (by rw [e_];exact GW277.out)) (fun hn_ => (Kd.freshB (g := gb277) (o := .cells #[.int .i64 t271,.int .i64 t272,.slice Ao95 t273.length co95] 24 (0,0)) (hGq BK277.out) k_ hn_))⟩)) (zg hCq))
     have n3_ := za.mk (hbq BK260.out hb)
     have n4_ := za.mk (hbq BK261.out hb)
     have n5_ := za.mk (hbq BK270.out hb)
     have n6_ := za.mk (hbq BK277.out hb)
     have n7_ := za.mk (ze hCq hb)
     clear HO268
     clear HO275
     clear BK260
     clear BK261
     clear BK270
     clear BK277
     clear HB
     have HO268 := n0_
     have HO275 := n1_
     have HO283 := n2_
     have BK260 := n3_
     have BK261 := n4_
     have BK270 := n5_
     have BK277 := n6_
     have HB := n7_
     clear n0_ n1_ n2_ n3_ n4_ n5_ n6_ n7_
     (try clear hb)
     (try clear hb2)
     (try clear hk)
     (try clear hi)
     (try clear ho0)
     refine hK.out _ _ ⟨(zb BK260.out 0).trans rfl,(zb BK260.out 1).trans rfl,(zb BK260.out 2).trans rfl⟩ (fun hHeld => ?_)
     clear hK K
     refine zbk (a' := ?_) ?_ ?_
     rotate_left
     ·show Act.put _ (some 42) _ = _
      simp only [Act.put,List.setIfInBounds_toArray,List.set_cons_zero,List.set_cons_succ,zaw,zaB]
      rfl
     refine zb1 (i := 5) (N := some 45) (uQ 8 6) rfl rfl (zaR HT_.out (by kernel_rfl)) (by decide) (fun K hK => ?_)
     refine zbu Tryz.func10 (by kernel_rfl) rfl #[.agg #[.int .i64 a0_0,.int .i64 a0_1,.slice A0_2 l0_2.length c0_2],.int .i64 a2] (by rfl) rfl rfl hMq ?_
     with_reducible refine (zE.calls kj5 a0_0 a0_1 (fun k_ => k_ < w.heap.size) _ _ l0_2 a2 t284 t285 t286 _ ?side1 A19.out).mono ?_
     (case side1 => exact Kd.V_mk HC0_2.out (Kd.F_below (Kd.C_F zbm HR0_2.out) hCq))
     rintro e w100 ⟨v287,rfl,ho0,hb⟩
     refine ⟨_,rfl,?_⟩
     have n0_ := za.mk (Kd.V_below (by (with_reducible repeat (first | apply Kd.V_alloc | apply Kd.V_drewN | apply Kd.V_drew));exact HO268.out) hb)
     have n1_ := za.mk (Kd.V_below (by (with_reducible repeat (first | apply Kd.V_alloc | apply Kd.V_drewN | apply Kd.V_drew));exact HO275.out) hb)
     have n2_ := za.mk (Kd.V_below (by (with_reducible repeat (first | apply Kd.V_alloc | apply Kd.V_drewN | apply Kd.V_drew));exact HO283.out) hb)
     have n3_ := za.mk (Kd.V_lower (Kd.V_mono (ok' := fun k_ => k_ ≠ gb260 ∧ k_ ≠ gb261 ∧ k_ ≠ gb270 ∧ k_ ≠ gb277) ho0 (fun k_ hk_ => ⟨Or.elim hk_ (fun hs_ => fun e_ => Nat.not_le.2 hs_ (by rw [e_];exact GW260.out)) (fun hn_ => (Kd.freshB (g := gb260) (o := .cells #[.int .i64 a0_0,.int .i64 a0_1,.slice A0_2 l0_2.length c0_2] 24 (0,0)) (hGq BK260.out) k_ hn_)),Or.elim hk_ (fun hs_ => fun e_ => Nat.not_le.2 hs_ (by rw [e_];exact GW261.out)) (fun hn_ => (Kd.freshB (g := gb261) (o := .cells #[.int .i64 a1_0,.int .i64 a1_1,.slice A1_2 l1_2.length c1_2,.slice A1_3 l1_3.length c1_3,.int .i64 a1_4,.int .i64 a1_5] 30 (0,0)) (hGq BK261.out) k_ hn_)),Or.elim hk_ (fun hs_ => fun e_ => Nat.not_le.2 hs_ (by rw [e_];exact GW270.out)) (fun hn_ => (Kd.freshB (g := gb270) (o := .cells #[.int .i64 t264,.int .i64 t265,.slice Ao85 t266.length co85] 24 (0,0)) (hGq BK270.out) k_ hn_)),Or.elim hk_ (fun hs_ => fun e_ => Nat.not_le.2 hs_ (by rw [e_];exact GW277.out)) (fun hn_ => (Kd.freshB (g := gb277) (o := .cells #[.int .i64 t271,.int .i64 t272,.slice Ao95 t273.length co95] 24 (0,0)) (hGq BK277.out) k_ hn_))⟩)) (zg hCq))
     have n4_ := za.mk (hbq BK260.out hb)
     have n5_ := za.mk (hbq BK261.out hb)
     have n6_ := za.mk (hbq BK270.out hb)
     have n7_ := za.mk (hbq BK277.out hb)
     have n8_ := za.mk (ze hCq hb)
     clear HO268
     clear HO275
     clear HO283
     clear BK260
     clear BK261
     clear BK270
     clear BK277
     clear HB
     have HO268 := n0_
     have HO275 := n1_
     have HO283 := n2_
     have HO288 := n3_
     have BK260 := n4_
     have BK261 := n5_
     have BK270 := n6_
     have BK277 := n7_
     have HB := n8_
     clear n0_ n1_ n2_ n3_ n4_ n5_ n6_ n7_ n8_
     (try clear hb)
     (try clear hb2)
     (try clear hk)
     (try clear hi)
     (try clear ho0)
     obtain ⟨Ao101,co101,eo101⟩ := Kd.V_slice HO283.out
     (first | subst eo101 | (injection eo101 with f1_ f2_ f3_;have f4_ := f1_.symm;have f5_ := f3_.symm;clear f1_ f2_ f3_;subst f4_;subst f5_))
     obtain ⟨Ao102,co102,eo102⟩ := Kd.V_slice HO288.out
     (first | subst eo102 | (injection eo102 with f1_ f2_ f3_;have f4_ := f1_.symm;have f5_ := f3_.symm;clear f1_ f2_ f3_;subst f4_;subst f5_))
     refine hK.out _ _ ⟨(zb BK260.out 0).trans rfl,(zb BK260.out 1).trans rfl,(zb BK260.out 2).trans rfl⟩ (fun hHeld => ?_)
     clear hK K
     refine zbk (a' := ?_) ?_ ?_
     rotate_left
     ·show Act.put _ (some 45) _ = _
      simp only [Act.put,List.setIfInBounds_toArray,List.set_cons_zero,List.set_cons_succ,zaw,zaB]
      rfl
     refine zb1 (i := 6) (N := some 46) (uQ 8 7) rfl rfl (zaR HT_.out (by kernel_rfl)) (by decide) (fun K hK => ?_)
     refine zbu Tryz.func8 (by kernel_rfl) rfl #[.agg #[.int .i64 t279,.int .i64 t280,.slice Ao101 t281.length co101],.agg #[.int .i64 t284,.int .i64 t285,.slice Ao102 t286.length co102]] (by rfl) rfl rfl hMq ?_
     with_reducible refine (zV.calls kj5 t279 t280 _ _ t281 t284 t285 _ _ t286 t289 _ ?side1 ?side2 ?side3 ?side4 A20.out).mono ?_
     (case side1 => repeat (first | exact (Kd.V_reads' HO283.out).2.2 | (with_reducible refine Kd.C_alloc ?_ _) | (with_reducible refine Kd.C_drewN ?_ _) | (with_reducible refine Kd.C_drew ?_)))
     (case side2 => exact (Kd.V_reads' HO283.out).2.1)
     (case side3 => repeat (first | exact (Kd.V_reads' HO288.out).2.2 | (with_reducible refine Kd.C_alloc ?_ _) | (with_reducible refine Kd.C_drewN ?_ _) | (with_reducible refine Kd.C_drew ?_)))
     (case side4 => exact (Kd.V_reads' HO288.out).2.1)
     rintro e w103 ⟨rfl,hb⟩
     refine ⟨_,rfl,?_⟩
     have n0_ := za.mk (Kd.V_below (by (with_reducible repeat (first | apply Kd.V_alloc | apply Kd.V_drewN | apply Kd.V_drew));exact HO268.out) hb)
     have n1_ := za.mk (Kd.V_below (by (with_reducible repeat (first | apply Kd.V_alloc | apply Kd.V_drewN | apply Kd.V_drew));exact HO275.out) hb)
     have n2_ := za.mk (Kd.V_below (by (with_reducible repeat (first | apply Kd.V_alloc | apply Kd.V_drewN | apply Kd.V_drew));exact HO283.out) hb)
     have n3_ := za.mk (Kd.V_below (by (with_reducible repeat (first | apply Kd.V_alloc | apply Kd.V_drewN | apply Kd.V_drew));exact HO288.out) hb)
     have n4_ := za.mk (hbq BK260.out hb)
     have n5_ := za.mk (hbq BK261.out hb)
     have n6_ := za.mk (hbq BK270.out hb)
     have n7_ := za.mk (hbq BK277.out hb)
     have n8_ := za.mk (ze hCq hb)
     clear HO268
     clear HO275
     clear HO283
     clear HO288
     clear BK260
     clear BK261
     clear BK270
     clear BK277
     clear HB
     have HO268 := n0_
     have HO275 := n1_
     have HO283 := n2_
     have HO288 := n3_
     have BK260 := n4_
     have BK261 := n5_
     have BK270 := n6_
     have BK277 := n7_
     have HB := n8_
     clear n0_ n1_ n2_ n3_ n4_ n5_ n6_ n7_ n8_
     (try clear hb)
     (try clear hb2)
     (try clear hk)
     (try clear hi)
     refine hK.out _ _ ⟨(zb BK260.out 0).trans rfl,(zb BK260.out 1).trans rfl,(zb BK260.out 2).trans rfl⟩ (fun hHeld => ?_)
     clear hK K
     refine zbk (a' := ?_) ?_ ?_
     rotate_left
     ·show Act.put _ (some 46) _ = _
      simp only [Act.put,List.setIfInBounds_toArray,List.set_cons_zero,List.set_cons_succ,zaw,zaB]
      rfl
     refine puq (i := 7) (N := some 14) HT_.out (uQ 8 8) ?_
     refine zbJ (zaU HT_.out (by kernel_rfl)) ?_
     try go_wp2
     go_ret
     exact ⟨hHq,hCq⟩
end Go.Proofs.YtlkfelmbhldgfaaGreat.Px