/- Part 21 of 24 of the proof of the law CertGrows: what is proved is the statement at the end of the last part; its conditions are those of the given row. -/
import Derived.Test.YtcncoepijagadaaZCertGrowsT
namespace Go.Proofs.Ytcncoepijagadaa.Px
open Go.RowKit Go.Proofs.YtcncoepijagadaaW.PrintWords Go.Proofs.YtcncoepijagadaaW.PrintLast Go.Proofs.YtcncoepijagadaaW.PrintMore
attribute [local go_sem] zp zr zy zz zl zm zq zs
set_option linter.unusedVariables false
set_option linter.unusedSimpArgs false
def zI.l0 : Nat → List (S40) → List (S40) → List (S50) → Int → Int → Option (Int)
 | 0,_,_,_,_,_ => none
 | k + 1,x1,x9,x30,x31,x32 => if x32 < x31 then (if 0 ≤ x32 then (if x32 < (x30.length : Int) then ((zbu.f ((zG x30 x32).f0) ((zG x30 x32).f1) ((zG x30 x32).f2)).bind fun bt224 => ((zbI.f bt224.1).bind fun t226 => (if x9.length < 5864062014805 then (zI.l0 k x1 (x9 ++ [(⟨(zG x30 x32).f0,t226⟩ : S40)]) x30 x31 (wrap64 (x32 + 1))) else (none)))) else (none)) else (none)) else ((za3.f x1 x9).bind fun t230 => (if t230 = true then (some 0) else (some 10)))
def zI.f (k : Nat) (a0 : Int) (l1 : List (S40)) (a2_0 : Int) (a2_1 : Int) (l2_2 : List (S50)) (l2_3 : List ByteArray) (a2_4 : Int) (a2_5 : Int) : Option (Int) := (zam.f a2_0 a2_1 l2_2 l2_3 a2_4 a2_5 a0).bind fun bt216 => (if bt216.2 = 0 then ((zbt.f bt216.1).bind fun t218 => (zI.l0 k l1 (([(⟨a2_0,t218⟩ : S40)] : List (S40))) l2_2 (l2_2.length : Int) 0)) else (some bt216.2))
def zI.T9 : Bool × List (List Nat × List Nat) := (true,[([],[]),([],[]),([1],[1]),([],[]),([3],[3]),([2,4],[2,4]),([5],[5]),([0,6,4],[0,6]),([7,7,0,1,2,3,4,5,6,7],[0,7])])
def zI.B9 : List Nat := [0,0,2,0,8,30,62,127,255]
theorem zI.tab9 : zbT .any (ze5 Try.f6 9) = zI.T9 := by kernel_rfl
theorem zI.bits9 : zbU zI.T9.2 zI.B9 = true := by kernel_rfl
set_option maxHeartbeats 8000000 in
set_option maxRecDepth 100000 in
theorem zI.calls (k : Nat) (a0 : Int) (A1 : Option Addr) (c1 : Nat) (l1 : List (S40)) (a2_0 : Int) (a2_1 : Int) (A2_2 : Option Addr) (c2_2 : Nat) (l2_2 : List (S50)) (A2_3 : Option Addr) (c2_3 : Nat) (l2_3 : List ByteArray) (a2_4 : Int) (a2_5 : Int) (r : Int) (w : World) (hr1 : Kd.C k40 w A1 l1.length l1) (hc1 : l1.length ≤ c1) (hr2_2 : Kd.C k50 w A2_2 l2_2.length l2_2) (hc2_2 : l2_2.length ≤ c2_2) (hr2_3 : Kd.C Kd.string w A2_3 l2_3.length l2_3) (hc2_3 : l2_3.length ≤ c2_3) (h : zI.f k a0 l1 a2_0 a2_1 l2_2 l2_3 a2_4 a2_5 = some r) :
  Calls Try.prog 6 #[.int .i64 a0,.slice A1 l1.length c1,.agg #[.int .i64 a2_0,.int .i64 a2_1,.slice A2_2 l2_2.length c2_2,.slice A2_3 l2_3.length c2_3,.int .i64 a2_4,.int .i64 a2_5]] w fun e w' => e = .returned (.int .i64 r) ∧ Below w.heap.size w w' := by
 have hu28 := Try.underlying28
 have hu40 := Try.underlying40
 have hu50 := Try.underlying50
 have HR1 := za.mk hr1
 have HC1 := za.mk hc1
 clear hr1 hc1
 have HR2_2 := za.mk hr2_2
 have HC2_2 := za.mk hc2_2
 clear hr2_2 hc2_2
 have HR2_3 := za.mk hr2_3
 have HC2_3 := za.mk hc2_3
 clear hr2_3 hc2_3
 have HB := za.mk (Below.refl w.heap.size w)
 have H : ((zam.f a2_0 a2_1 l2_2 l2_3 a2_4 a2_5 a0).bind fun bt216 => (if bt216.2 = 0 then ((zbt.f bt216.1).bind fun t218 => (zI.l0 k l1 (([(⟨a2_0,t218⟩ : S40)] : List (S40))) l2_2 (l2_2.length : Int) 0)) else (some bt216.2))) = some r := h
 clear h
 replace H := Option.bind_eq_some_iff.mp H
 obtain ⟨⟨t216,t217⟩,A40,H⟩ := H
 replace H : (if t217 = 0 then ((zbt.f t216).bind fun t218 => (zI.l0 k l1 (([(⟨a2_0,t218⟩ : S40)] : List (S40))) l2_2 (l2_2.length : Int) 0)) else (some t217)) = some r := H
 have A4 := za.mk A40
 clear A40
 by_cases c5 : t217 = 0
 ·rw [if_pos c5] at H
  have c5b0 : (t217 == 0) = true := beq_iff_eq.mpr c5
  have c5b1 : (t217 != 0) = false := bne_eq_false_iff_eq.mpr c5
  clear c5
  replace H := Option.bind_eq_some_iff.mp H
  obtain ⟨t218,A60,H⟩ := H
  replace H : (zI.l0 k l1 (([(⟨a2_0,t218⟩ : S40)] : List (S40))) l2_2 (l2_2.length : Int) 0) = some r := H
  have A6 := za.mk A60
  clear A60
  obtain ⟨y219,hy219⟩ : ∃ y_ : List (S40),y_ = (([(⟨a2_0,t218⟩ : S40)] : List (S40))) := ⟨_,rfl⟩
  replace H : (zI.l0 k l1 y219 l2_2 (l2_2.length : Int) 0) = some r := by first | (rw [hy219];with_reducible exact H) | (have H2_ := (Option.bind_some _ _).symm.trans H;rw [hy219];with_reducible exact H2_) | (have H2_ := (Option.bind_some _ _).symm.trans H;with_reducible exact H2_) | with_reducible exact H | (rw [hy219];exact H) | exact H
  have Ny219 := za.mk hy219
  clear hy219
  have H' := za.mk H
  clear H
  go_enter Try.func6,Try.ntmps6
  try go_wp2_with (first | ((with_reducible refine zo (N := 5) rfl ?_);refine zk rfl (N := 5) rfl (cs := #[.int .i64 a2_0,.int .i64 a2_1,.slice A2_2 l2_2.length c2_2,.slice A2_3 l2_3.length c2_3,.int .i64 a2_4,.int .i64 a2_5]) (t := 28) hrq ?_;intro gb215 hg w7 hbox hb;have n_ := haq (zd hBq hb) <| haq (hbox) <| haq ((by rw [hg];exact (zf hBq) : w.heap.size ≤ gb215)) <| haq ((by rw [hg];exact (zf hBq) : w.heap.size ≤ gb215)) <| trivial;clear HB;obtain ⟨HB,BK215,GW215,GE215,_⟩ := n_;clear hb hbox hg;obtain ⟨hcz8_0,hcz8_1,hcz8_2,hcz8_3,hcz8_4,hcz8_5,hfz8_0,hfz8_1,hfz8_2,hfz8_3,hfz8_4,hfz8_5⟩ := hcq6 BK215.out) | ((with_reducible refine zv (f := 11) rfl ?_);refine zT (some 17) rfl rfl Try.func11 (by kernel_rfl) rfl #[.agg #[.int .i64 a2_0,.int .i64 a2_1,.slice A2_2 l2_2.length c2_2,.slice A2_3 l2_3.length c2_3,.int .i64 a2_4,.int .i64 a2_5],.int .i64 a0] rfl hMq ?_;(with_reducible refine (zam.calls a2_0 a2_1 _ _ l2_2 _ _ l2_3 a2_4 a2_5 a0 t216 t217 _ ?side1 ?side2 ?side3 ?side4 A4.out).mono ?_);(case side1 => exact hKq (Kd.C_below HR2_2.out HB.out));(case side2 => exact HC2_2.out);(case side3 => exact hKq (Kd.C_below HR2_3.out HB.out));(case side4 => exact HC2_3.out);rintro e w9 ⟨rfl,hb⟩;refine ⟨_,rfl,?_⟩;have n_ := haq (hbq BK215.out hb) <| haq (zd hCq hb) <| trivial;clear BK215 HB;obtain ⟨BK215,HB,_⟩ := n_;(try clear hb);(try clear hb2);(try clear hk);(try clear hi)))
  have n0_ := za.mk (zav BK215.out)
  have n1_ := za.mk (zn HB.out)
  clear BK215
  clear HB
  have BK215 := n0_
  have HB := n1_
  clear n0_ n1_
  refine zcq (n := 7) (S := fun w' => w'.cell? ⟨gb215,0,none⟩ = some (.int .i64 a2_0) ∧ w'.cell? ⟨gb215,1,none⟩ = some (.int .i64 a2_1) ∧ w'.cell? ⟨gb215,2,none⟩ = some (.slice A2_2 l2_2.length c2_2) ∧ w'.cell? ⟨gb215,3,none⟩ = some (.slice A2_3 l2_3.length c2_3) ∧ w'.cell? ⟨gb215,4,none⟩ = some (.int .i64 a2_4) ∧ w'.cell? ⟨gb215,5,none⟩ = some (.int .i64 a2_5)) (ds := []) (uQ 7 0) (by kernel_rfl) rfl rfl ⟨(zb BK215.out 0).trans rfl,(zb BK215.out 1).trans rfl,(zb BK215.out 2).trans rfl,(zb BK215.out 3).trans rfl,(zb BK215.out 4).trans rfl,(zb BK215.out 5).trans rfl⟩ (fun hHeld => ?_)
  generalize w9.drew = w10 at BK215 HB hHeld ⊢
  refine za4 (i := 0) (N := some 23) (uQ 7 1) rfl rfl (by kernel_rfl) (fun _ _ _ h => h) (Or.inl ⟨by rfl,by intro w';go_simp;with_reducible rfl⟩) hPq ?_
  refine za4 (i := 2) (N := some 25) #[true,false,true,false,false,false,false] rfl rfl (by kernel_rfl) (fun _ _ _ h => h) (Or.inl ⟨by rfl,by intro w';go_simp;with_reducible rfl⟩) hPq ?_
  refine take_ (i := 1) (N := some 24) (uQ 7 3) rfl rfl (by kernel_rfl) (fun _ _ _ h => h) (Or.inl ⟨by rfl,by rintro w' ⟨s0,s1,s2,s3,s4,s5⟩;go_simp;with_reducible rfl⟩) hHeld hPq ?_
  refine zcg (i := 3) (N := some 26) (uQ 7 4) rfl rfl (by kernel_rfl) (by decide) (fun K hK => ?_)
  refine zbz Try.func13 (by kernel_rfl) rfl #[.string t216] (by rfl) rfl rfl hMq ?_
  with_reducible refine (zbt.calls t216 t218 _ A6.out).mono ?_
  rintro e w' ⟨rfl,⟨nd,rfl⟩⟩
  refine ⟨_,rfl,?_⟩
  refine hK.out _ _ ⟨(zb BK215.out 0).trans rfl,(zb BK215.out 1).trans rfl,(zb BK215.out 2).trans rfl,(zb BK215.out 3).trans rfl,(zb BK215.out 4).trans rfl,(zb BK215.out 5).trans rfl⟩ (fun hHeld => ?_)
  clear hK K
  refine zbr (a' := ?_) ?_ ?_
  rotate_left
  ·show Act.put _ (some 26) _ = _
   simp only [Act.put,List.setIfInBounds_toArray,List.set_cons_zero,List.set_cons_succ,zaB,zaL]
   rfl
  refine za4 (i := 4) (N := some 27) (uQ 7 5) rfl rfl (by kernel_rfl) (fun _ _ _ h => h) (Or.inl ⟨by rfl,by intro w';go_simp;with_reducible rfl⟩) hPq ?_
  refine zcg (i := 5) (N := some 28) (uQ 7 6) rfl rfl (by kernel_rfl) (by decide) (fun K hK => ?_)
  refine Kd.R_lit_step k40 _ 40 ?hg (N := 28) ?hd (xs := ([(⟨a2_0,t218⟩ : S40)] : List (S40))) (inner := [.int .i64 a2_0,.string t218]) (ok := fun _ => True) (okp := fun _ => True) ?hr ?hp (fun _ hk => hk) trivial (Below.refl _ _) (Nat.le_refl _) (by simp) ?_;(case hd => rfl);(case hg => rfl);(case hr => first | (go_simp;done) | (go_simp;rfl));(case hp => exact (zah.c2 (show Kd.M k40 _ _ _ (⟨a2_0,t218⟩ : S40) [.int .i64 a2_0,.string t218] from (zdW _ _ _ (⟨a2_0,t218⟩ : S40) )) (zah.none _ _)))
  intro v220 w11 ho12 hb hg_ hnew_
  clear hg_ hnew_
  (first | rw [← Ny219.out] at ho12 | (simp only [Int.reduceToNat] at ho12;rw [← Ny219.out] at ho12))
  have n0_ := za.mk (Kd.R_lower ho12 (zf hCq))
  have n1_ := za.mk (hbq BK215.out hb)
  have n2_ := za.mk (zd hCq hb)
  clear BK215
  clear HB
  have HO221 := n0_
  have BK215 := n1_
  have HB := n2_
  clear n0_ n1_ n2_
  clear hb ho12
  refine hK.out _ _ ⟨(zb BK215.out 0).trans rfl,(zb BK215.out 1).trans rfl,(zb BK215.out 2).trans rfl,(zb BK215.out 3).trans rfl,(zb BK215.out 4).trans rfl,(zb BK215.out 5).trans rfl⟩ (fun hHeld => ?_)
  clear hK K
  refine zbr (a' := ?_) ?_ ?_
  rotate_left
  ·show Act.put _ (some 28) _ = _
   simp only [Act.put,List.setIfInBounds_toArray,List.set_cons_zero,List.set_cons_succ,zaB,zaL]
   rfl
  refine za4 (i := 6) (N := some 9) (uQ 7 7) rfl rfl (by kernel_rfl) (fun _ _ _ h => h) (Or.inl ⟨by rfl,by intro w';go_simp;with_reducible rfl⟩) hPq ?_
  refine zdc (by kernel_rfl) ?_
  obtain ⟨hcz13_0,hcz13_1,hcz13_2,hcz13_3,hcz13_4,hcz13_5,hfz13_0,hfz13_1,hfz13_2,hfz13_3,hfz13_4,hfz13_5⟩ := hcq6 BK215.out
  try go_wp2
  go_loopg [9,32] k (fun kq v9 v32 w' => ∃ (x9_1 : List (S40)) (x32_1 : Int),v32 = .int .i64 x32_1 ∧ za (zI.l0 kq l1 x9_1 l2_2 (l2_2.length : Int) x32_1 = some r) ∧ za (kq ≤ k) ∧ za (Kd.R k40 40 w' w.heap.size (fun _ => True) v9 x9_1) ∧ za (w'.heap[gb215]? = some (.cells #[.int .i64 a2_0,.int .i64 a2_1,(.slice A2_2 l2_2.length c2_2),(.slice A2_3 l2_3.length c2_3),.int .i64 a2_4,.int .i64 a2_5] 28 (0,0))) ∧ za (Below w.heap.size w w'))
  case atStart => exact ⟨(y219),(0),(hDq),H',⟨Nat.le_refl _⟩,⟨by (with_reducible repeat (first | apply Kd.R_alloc | apply Kd.R_drewN | apply Kd.R_drew));exact HO221.out⟩,⟨hGq BK215.out⟩,⟨by repeat (first | (with_reducible first | exact HB.out | apply zw | apply zg | apply zn | refine zE ?_ GE215.out) | exact HB.out)⟩⟩
  case round =>
   clear H'
   try clear c1;try clear c2;try clear p2;try clear c5;try clear c5b0;try clear c5b1;try clear c6;try clear c11;try clear c13;try clear hcz13_0;try clear hcz13_1;try clear hcz13_2;try clear hcz13_3;try clear hcz13_4;try clear hcz13_5;try clear hcz8_0;try clear hcz8_1;try clear hcz8_2;try clear hcz8_3;try clear hcz8_4;try clear hcz8_5;try clear hfz13_0;try clear hfz13_1;try clear hfz13_2;try clear hfz13_3;try clear hfz13_4;try clear hfz13_5;try clear hfz8_0;try clear hfz8_1;try clear hfz8_2;try clear hfz8_3;try clear hfz8_4;try clear hfz8_5
   obtain ⟨x9_1,x32_1,rfl,HA,HK1,HO_9,BK215,HB⟩ := hrel
   cases gk with
   | zero => exact absurd HA.out (by simp [zI.l0])
   | succ k1 =>
    have H := HA.out
    clear HA
    simp only [zI.l0] at H
    by_cases c14 : x32_1 < (l2_2.length : Int)
    ·rw [if_pos c14] at H
     have c14b0 : decide (x32_1 < (l2_2.length : Int)) = true := decide_eq_true c14
     clear c14
     by_cases c15 : 0 ≤ x32_1
     ·rw [if_pos c15] at H
      have c15b0 : decide (0 ≤ x32_1) = true := decide_eq_true c15
      clear c15
      by_cases c16 : x32_1 < (l2_2.length : Int)
      ·rw [if_pos c16] at H
       have c16b0 : decide (x32_1 < (l2_2.length : Int)) = true := decide_eq_true c16
       clear c16
       replace H := Option.bind_eq_some_iff.mp H
       obtain ⟨⟨t224,t225⟩,A170,H⟩ := H
       replace H : ((zbI.f t224).bind fun t226 => (if x9_1.length < 5864062014805 then (zI.l0 k1 l1 (x9_1 ++ [(⟨(zG l2_2 x32_1).f0,t226⟩ : S40)]) l2_2 (l2_2.length : Int) (wrap64 (x32_1 + 1))) else (none))) = some r := H
       have A17 := za.mk A170
       clear A170
       replace H := Option.bind_eq_some_iff.mp H
       obtain ⟨t226,A180,H⟩ := H
       replace H : (if x9_1.length < 5864062014805 then (zI.l0 k1 l1 (x9_1 ++ [(⟨(zG l2_2 x32_1).f0,t226⟩ : S40)]) l2_2 (l2_2.length : Int) (wrap64 (x32_1 + 1))) else (none)) = some r := H
       have A18 := za.mk A180
       clear A180
       by_cases c19 : x9_1.length < 5864062014805
       ·rw [if_pos c19] at H
        have LMc19 := za.mk c19
        clear c19
        obtain ⟨y227,hy227⟩ : ∃ y_ : List (S40),y_ = (x9_1 ++ [(⟨(zG l2_2 x32_1).f0,t226⟩ : S40)]) := ⟨_,rfl⟩
        replace H : (zI.l0 k1 l1 y227 l2_2 (l2_2.length : Int) (wrap64 (x32_1 + 1))) = some r := by first | (rw [hy227];with_reducible exact H) | (have H2_ := (Option.bind_some _ _).symm.trans H;rw [hy227];with_reducible exact H2_) | (have H2_ := (Option.bind_some _ _).symm.trans H;with_reducible exact H2_) | with_reducible exact H | (rw [hy227];exact H) | exact H
        have Ny227 := za.mk hy227
        clear hy227
        have H' := za.mk H
        clear H
        have p222 : 0 ≤ (x32_1 : Int) := hFq
        have q222 : x32_1 < (l2_2.length : Int) := hFq
        obtain ⟨ad222,A222_2,c222_2,e222,hx222_0,hx222_1,hx222_2,hl222_2,hi222_2⟩ := zbZ HR2_2.out x32_1 p222 q222
        cases e222
        replace hx222_0 := (HB.out.cell (World.block_lt_of_cell? w _ hx222_0)).trans hx222_0
        replace hx222_1 := (HB.out.cell (World.block_lt_of_cell? w _ hx222_1)).trans hx222_1
        replace hx222_2 := (HB.out.cell (World.block_lt_of_cell? w _ hx222_2)).trans hx222_2
        have HR222_2 := za.mk hi222_2
        have HC222_2 := za.mk hl222_2
        clear hi222_2 hl222_2
        replace p222 := eq_true p222
        replace q222 := eq_true q222
        try go_wp2_with (first | ((with_reducible refine zo (N := 11) rfl ?_);refine zk rfl (N := 11) rfl (cs := #[.int .i64 0,.int .i64 0,.slice none 0 0]) (t := 50) hrq ?_;intro gb223 hg w20 hbox hb;have n_ := haq (Kd.R_below (hRq HO_9.out) hb) <| haq (hbq BK215.out hb) <| haq (zd hCq hb) <| haq (hbox) <| haq ((by rw [hg];exact (zf hCq) : w.heap.size ≤ gb223)) <| haq ((by rw [hg];exact (zf hCq) : w.heap.size ≤ gb223)) <| haq (hnq hg BK215.out) <| haq (hmq hg BK215.out) <| trivial;clear HO_9 BK215 HB;obtain ⟨HO_9,BK215,HB,BK223,GW223,GE223,NB215_223,NB223_215,_⟩ := n_;clear hb hbox hg;have hnb21 := NB223_215.out;have hnc21 := NB215_223.out;obtain ⟨hcz22_0,hcz22_1,hcz22_2,hfz22_0,hfz22_1,hfz22_2⟩ := hcq3 BK223.out) | ((with_reducible refine zv (f := 14) rfl ?_);refine zT (some 38) rfl rfl Try.func14 (by kernel_rfl) rfl #[.agg #[.int .i64 ((zG l2_2 x32_1).f0),.int .i64 ((zG l2_2 x32_1).f1),.slice A222_2 ((zG l2_2 x32_1).f2).length c222_2]] rfl hMq ?_;(with_reducible refine (zbu.calls ((zG l2_2 x32_1).f0) ((zG l2_2 x32_1).f1) _ _ ((zG l2_2 x32_1).f2) t224 t225 _ ?side1 ?side2 A17.out).mono ?_);(case side1 => exact Kd.C_below HR222_2.out hCq);(case side2 => exact HC222_2.out);rintro e w23 ⟨rfl,hb⟩;refine ⟨_,rfl,?_⟩;have n_ := haq (Kd.R_below (by (with_reducible repeat (first | apply Kd.R_alloc | apply Kd.R_drewN | apply Kd.R_drew));exact (Kd.R_mono (Kd.R_far (p := ⟨gb223,2,none⟩) (Kd.R_far (p := ⟨gb223,1,none⟩) (Kd.R_far (p := ⟨gb223,0,none⟩) (Kd.R_types HO_9.out BK223.out (by decide)) (fun _ hk => hk.2) (.int .i64 ((zG l2_2 x32_1).f0))) (fun _ hk => hk.2) (.int .i64 ((zG l2_2 x32_1).f1))) (fun _ hk => hk.2) (.slice A222_2 ((zG l2_2 x32_1).f2).length c222_2)) (fun _ h_ => h_.1))) hb) <| haq (zx (g := gb215) (o := .cells #[.int .i64 a2_0,.int .i64 a2_1,.slice (some ad222) l2_2.length c2_2,.slice A2_3 l2_3.length c2_3,.int .i64 a2_4,.int .i64 a2_5] 28 (0,0)) (hxq1 NB215_223.out BK215.out) hb) <| haq (zx (g := gb223) (o := .cells #[.int .i64 ((zG l2_2 x32_1).f0),.int .i64 ((zG l2_2 x32_1).f1),.slice A222_2 ((zG l2_2 x32_1).f2).length c222_2] 50 (0,0)) (hxq0p BK223.out) hb) <| haq (zd hCq hb) <| trivial;clear HO_9 BK215 BK223 HB;obtain ⟨HO_9,BK215,BK223,HB,_⟩ := n_;(try clear hb);(try clear hb2);(try clear hk);(try clear hi)))
        have n0_ := za.mk (Kd.R_drew HO_9.out)
        have n1_ := za.mk (zav BK215.out)
        have n2_ := za.mk (zav BK223.out)
        have n3_ := za.mk (zn HB.out)
        clear HO_9
        clear BK215
        clear BK223
        clear HB
        have HO_9 := n0_
        have BK215 := n1_
        have BK223 := n2_
        have HB := n3_
        clear n0_ n1_ n2_ n3_
        refine zcq (n := 9) (S := fun w' => w'.cell? ⟨gb223,0,none⟩ = some (.int .i64 ((zG l2_2 x32_1).f0)) ∧ w'.cell? ⟨gb223,1,none⟩ = some (.int .i64 ((zG l2_2 x32_1).f1)) ∧ w'.cell? ⟨gb223,2,none⟩ = some (.slice A222_2 ((zG l2_2 x32_1).f2).length c222_2)) (ds := []) (uQ 9 0) (by kernel_rfl) rfl rfl ⟨(zb BK223.out 0).trans rfl,(zb BK223.out 1).trans rfl,(zb BK223.out 2).trans rfl⟩ (fun hHeld => ?_);refine zbM zI.tab9 zI.bits9 (fun HT_ HW_ => ?_)
        generalize w23.drew = w24 at HO_9 BK215 BK223 HB hHeld ⊢
        refine puq (i := 0) (N := some 41) HT_.out (uQ 9 1) ?_
        refine puq (i := 1) (N := some 42) HT_.out (uQ 9 2) ?_
        refine puq (i := 3) (N := some 44) HT_.out #[true,true,false,true,false,false,false,false,false] ?_
        refine take_ (i := 2) (N := some 43) (uQ 9 4) rfl rfl (zaD HT_.out HW_.out (by kernel_rfl)) (fun _ _ _ h => h) (Or.inl ⟨by rfl,by rintro w' ⟨s0,s1,s2⟩;go_simp;with_reducible rfl⟩) hHeld hPq ?_
        refine zcg (i := 4) (N := some 45) (uQ 9 5) rfl rfl (zbp HT_.out (by kernel_rfl)) (by decide) (fun K hK => ?_)
        refine zbz Try.func15 (by kernel_rfl) rfl #[.string t224] (by rfl) rfl rfl hMq ?_
        with_reducible refine (zbI.calls t224 t226 _ A18.out).mono ?_
        rintro e w' ⟨rfl,⟨nd,rfl⟩⟩
        refine ⟨_,rfl,?_⟩
        refine hK.out _ _ ⟨(zb BK223.out 0).trans rfl,(zb BK223.out 1).trans rfl,(zb BK223.out 2).trans rfl⟩ (fun hHeld => ?_)
        clear hK K
        refine zbr (a' := ?_) ?_ ?_
        rotate_left
        ·show Act.put _ (some 45) _ = _
         simp only [Act.put,List.setIfInBounds_toArray,List.set_cons_zero,List.set_cons_succ,zaB,zaL]
         rfl
        refine puq (i := 5) (N := some 46) HT_.out (uQ 9 6) ?_
        refine zcg (i := 6) (N := some 47) (uQ 9 7) rfl rfl (zbp HT_.out (by kernel_rfl)) (by decide) (fun K hK => ?_)
        refine value_ (w1 := ?_) (v := ?_) (by rfl) rfl ?_ ?_
        rotate_left 2
        ·go_simp
         constructor
         ·rfl
         ·rfl
        refine hK.out _ _ ⟨(zb (zaQ BK223.out _) 0).trans rfl,(zb (zaQ BK223.out _) 1).trans rfl,(zb (zaQ BK223.out _) 2).trans rfl⟩ (fun hHeld => ?_)
        clear hK K
        refine zbr (a' := ?_) ?_ ?_
        rotate_left
        ·show Act.put _ (some 47) _ = _
         simp only [Act.put,List.setIfInBounds_toArray,List.set_cons_zero,List.set_cons_succ,zaB,zaL]
         rfl
        refine zcg (i := 7) (N := some 48) (uQ 9 8) rfl rfl (zbp HT_.out (by kernel_rfl)) (by decide) (fun K hK => ?_)
        refine Kd.R_append_step k40 (w0 := w) w.heap.size (by rfl) (.tmp 41) (.tmp 47) 22 40 (.agg #[(.int .i64 0),(.string ⟨#[]⟩)]) 24 rfl Try.underlying22 zcV rfl (by decide) (by omega) u9 x9_1 (⟨(zG l2_2 x32_1).f0,t226⟩ : S40) [.int .i64 ((zG l2_2 x32_1).f0),.string t226] (fun _ => True) (fun _ => False) rfl rfl ?aP (fun _ hk => hk.elim) ?aF ?aO ?aB ?aS ?aL ?_
        (case aP => exact zdW _ _ _ (⟨(zG l2_2 x32_1).f0,t226⟩ : S40))
        (case aB => exact hCq)
        (case aF => exact (fun _ _ => trivial))
        (case aO => exact (hRq HO_9.out))
        (case aS => exact (zf hCq))
        (case aL => have := LMc19.out;omega)
        intro v228 w25 ho hb hg hat
        rw [← Ny227.out] at ho
        have n0_ := za.mk (zdo (g := gb215) (o := .cells #[.int .i64 a2_0,.int .i64 a2_1,.slice (some ad222) l2_2.length c2_2,.slice A2_3 l2_3.length c2_3,.int .i64 a2_4,.int .i64 a2_5] 28 (0,0)) (hGq BK215.out) hg (Kd.R_ne HO_9.out BK215.out (by decide)))
        have n1_ := za.mk (zdo (g := gb223) (o := .cells #[.int .i64 ((zG l2_2 x32_1).f0),.int .i64 ((zG l2_2 x32_1).f1),.slice A222_2 ((zG l2_2 x32_1).f2).length c222_2] 50 (0,0)) (hGq BK223.out) hg (Kd.R_ne HO_9.out BK223.out (by decide)))
        have n2_ := za.mk (hb)
        have n3_ := za.mk (ho)
        clear BK215
        clear BK223
        clear HB
        clear HO_9
        have BK215 := n0_
        have BK223 := n1_
        have HB := n2_
        have HO229 := n3_
        clear n0_ n1_ n2_ n3_
        clear ho hb hg hat
        refine hK.out _ _ ⟨(zb BK223.out 0).trans rfl,(zb BK223.out 1).trans rfl,(zb BK223.out 2).trans rfl⟩ (fun hHeld => ?_)
        clear hK K
        refine zbr (a' := ?_) ?_ ?_
        rotate_left
        ·show Act.put _ (some 48) _ = _
         simp only [Act.put,List.setIfInBounds_toArray,List.set_cons_zero,List.set_cons_succ,zaB,zaL]
         rfl
        refine puq (i := 8) (N := some 9) HT_.out (uQ 9 9) ?_
        refine zdc (zcu HT_.out (by kernel_rfl)) ?_
        try go_wp2
        go_roundg k1
        case measure => have := HK1.out;omega
        case rel => exact ⟨(y227),(wrap64 (x32_1 + 1)),(hDq),H',⟨by have := HK1.out;omega⟩,⟨by (with_reducible repeat (first | apply Kd.R_alloc | apply Kd.R_drewN | apply Kd.R_drew));exact HO229.out⟩,⟨hGq BK215.out⟩,⟨by repeat (first | (with_reducible first | exact HB.out | apply zw | apply zg | apply zn | refine zE ?_ GE215.out | refine zE ?_ GE223.out) | exact HB.out)⟩⟩
       ·rw [if_neg c19] at H
        exact absurd H (by simp)
      ·rw [if_neg c16] at H
       exact absurd H (by simp)
     ·rw [if_neg c15] at H
      exact absurd H (by simp)
    ·rw [if_neg c14] at H
     have c14b0 : decide (x32_1 < (l2_2.length : Int)) = false := decide_eq_false c14
     clear c14
     replace H := Option.bind_eq_some_iff.mp H
     obtain ⟨t230,A260,H⟩ := H
     replace H : (if t230 = true then (some 0) else (some 10)) = some r := H
     have A26 := za.mk A260
     clear A260
     by_cases c27 : t230 = true
     ·subst c27
      have H1 : (some 0) = some r := by rw [if_pos rfl] at H;exact H
      clear H
      have H := H1
      clear H1
      obtain rfl := Option.some.inj H
      obtain ⟨Ao28,co28,eo28⟩ := Kd.R_slice HO_9.out
      subst eo28
      go_wp2_with (first | ((with_reducible refine zv (f := 16) rfl ?_);refine zT (some 52) rfl rfl Try.func16 (by kernel_rfl) rfl #[.slice A1 l1.length c1,.slice Ao28 x9_1.length co28] rfl hMq ?_;(with_reducible refine (za3.calls _ _ l1 _ _ x9_1 true _ ?side1 ?side2 ?side3 ?side4 A26.out).mono ?_);(case side1 => exact hKq (Kd.C_below HR1.out HB.out));(case side2 => exact HC1.out);(case side3 => repeat (first | exact (Kd.R_reads' HO_9.out).2.2 | (with_reducible refine Kd.C_alloc ?_ _) | (with_reducible refine Kd.C_drewN ?_ _) | (with_reducible refine Kd.C_drew ?_)));(case side4 => exact (Kd.R_reads' HO_9.out).2.1);rintro e w29 ⟨rfl,hb⟩;refine ⟨_,rfl,?_⟩;have n_ := haq (Kd.R_below (hRq HO_9.out) hb) <| haq (hbq BK215.out hb) <| haq (zd hCq hb) <| trivial;clear HO_9 BK215 HB;obtain ⟨HO_9,BK215,HB,_⟩ := n_;(try clear hb);(try clear hb2);(try clear hk);(try clear hi)))
      go_ret
      exact ⟨hHq,hCq⟩
     ·replace c27 := Bool.eq_false_iff.mpr c27
      subst c27
      have H1 : (some 10) = some r := by rw [if_neg (show ¬ (false = true) by decide)] at H;exact H
      clear H
      have H := H1
      clear H1
      obtain rfl := Option.some.inj H
      obtain ⟨Ao30,co30,eo30⟩ := Kd.R_slice HO_9.out
      subst eo30
      go_wp2_with (first | ((with_reducible refine zv (f := 16) rfl ?_);refine zT (some 52) rfl rfl Try.func16 (by kernel_rfl) rfl #[.slice A1 l1.length c1,.slice Ao30 x9_1.length co30] rfl hMq ?_;(with_reducible refine (za3.calls _ _ l1 _ _ x9_1 false _ ?side1 ?side2 ?side3 ?side4 A26.out).mono ?_);(case side1 => exact hKq (Kd.C_below HR1.out HB.out));(case side2 => exact HC1.out);(case side3 => repeat (first | exact (Kd.R_reads' HO_9.out).2.2 | (with_reducible refine Kd.C_alloc ?_ _) | (with_reducible refine Kd.C_drewN ?_ _) | (with_reducible refine Kd.C_drew ?_)));(case side4 => exact (Kd.R_reads' HO_9.out).2.1);rintro e w31 ⟨rfl,hb⟩;refine ⟨_,rfl,?_⟩;have n_ := haq (Kd.R_below (hRq HO_9.out) hb) <| haq (hbq BK215.out hb) <| haq (zd hCq hb) <| trivial;clear HO_9 BK215 HB;obtain ⟨HO_9,BK215,HB,_⟩ := n_;(try clear hb);(try clear hb2);(try clear hk);(try clear hi)))
      go_ret
      exact ⟨hHq,hCq⟩
 ·rw [if_neg c5] at H
  have c5b0 : (t217 == 0) = false := beq_eq_false_iff_ne.mpr c5
  have c5b1 : (t217 != 0) = true := bne_iff_ne.mpr c5
  obtain rfl := Option.some.inj H
  go_enter Try.func6,Try.ntmps6
  go_wp2_with (first | ((with_reducible refine zo (N := 5) rfl ?_);refine zk rfl (N := 5) rfl (cs := #[.int .i64 a2_0,.int .i64 a2_1,.slice A2_2 l2_2.length c2_2,.slice A2_3 l2_3.length c2_3,.int .i64 a2_4,.int .i64 a2_5]) (t := 28) hrq ?_;intro gb215 hg w32 hbox hb;have n_ := haq (zd hBq hb) <| haq (hbox) <| haq ((by rw [hg];exact (zf hBq) : w.heap.size ≤ gb215)) <| haq ((by rw [hg];exact (zf hBq) : w.heap.size ≤ gb215)) <| trivial;clear HB;obtain ⟨HB,BK215,GW215,GE215,_⟩ := n_;clear hb hbox hg;obtain ⟨hcz33_0,hcz33_1,hcz33_2,hcz33_3,hcz33_4,hcz33_5,hfz33_0,hfz33_1,hfz33_2,hfz33_3,hfz33_4,hfz33_5⟩ := hcq6 BK215.out) | ((with_reducible refine zv (f := 11) rfl ?_);refine zT (some 17) rfl rfl Try.func11 (by kernel_rfl) rfl #[.agg #[.int .i64 a2_0,.int .i64 a2_1,.slice A2_2 l2_2.length c2_2,.slice A2_3 l2_3.length c2_3,.int .i64 a2_4,.int .i64 a2_5],.int .i64 a0] rfl hMq ?_;(with_reducible refine (zam.calls a2_0 a2_1 _ _ l2_2 _ _ l2_3 a2_4 a2_5 a0 t216 t217 _ ?side1 ?side2 ?side3 ?side4 A4.out).mono ?_);(case side1 => exact hKq (Kd.C_below HR2_2.out HB.out));(case side2 => exact HC2_2.out);(case side3 => exact hKq (Kd.C_below HR2_3.out HB.out));(case side4 => exact HC2_3.out);rintro e w34 ⟨rfl,hb⟩;refine ⟨_,rfl,?_⟩;have n_ := haq (hbq BK215.out hb) <| haq (zd hCq hb) <| trivial;clear BK215 HB;obtain ⟨BK215,HB,_⟩ := n_;(try clear hb);(try clear hb2);(try clear hk);(try clear hi)))
  go_ret
  exact ⟨hHq,hCq⟩
def zaF.f (k : Nat)  : Option (Bool) := (zas.f k 1 1 ([] : List (S50)) ([] : List ByteArray) 0 0 4).bind fun bt200 => (if 1 + bt200.1.size ≤ 9223372036854775807 then ((some (([(⟨1,(⟨#[121]⟩ : ByteArray) ++ bt200.1⟩ : S40),(⟨2,(⟨#[121]⟩ : ByteArray) ++ bt200.1⟩ : S40),(⟨3,(⟨#[121]⟩ : ByteArray) ++ bt200.1⟩ : S40)] : List (S40)) : List (S40))).bind fun y202 => ((zaj.f k 4 y202 1 1 ([] : List (S50)) ([] : List ByteArray) 0 0 7).bind fun t205 => ((zaj.f k 4 y202 1 1 ([] : List (S50)) ([] : List ByteArray) 0 0 3).bind fun t206 => ((zaz.f bt200.1).bind fun t207 => (if t207.toList = ((⟨#[121]⟩ : ByteArray) ++ bt200.1).toList then (if t205 = 0 then (some (t206 == 2)) else (some false)) else (some false)))))) else (none))
set_option maxHeartbeats 8000000 in
set_option maxRecDepth 100000 in
theorem zaF.calls (k : Nat)  (r : Bool) (w : World) (h : zaF.f k  = some r) :
  Calls Try.prog 4 #[] w fun e w' => e = .returned (.bool r) ∧ Below w.heap.size w w' := by
 have hu28 := Try.underlying28
 have hu40 := Try.underlying40
 have hu31 := Try.underlying31
 have HB := za.mk (Below.refl w.heap.size w)
 have H : ((zas.f k 1 1 ([] : List (S50)) ([] : List ByteArray) 0 0 4).bind fun bt200 => (if 1 + bt200.1.size ≤ 9223372036854775807 then ((some (([(⟨1,(⟨#[121]⟩ : ByteArray) ++ bt200.1⟩ : S40),(⟨2,(⟨#[121]⟩ : ByteArray) ++ bt200.1⟩ : S40),(⟨3,(⟨#[121]⟩ : ByteArray) ++ bt200.1⟩ : S40)] : List (S40)) : List (S40))).bind fun y202 => ((zaj.f k 4 y202 1 1 ([] : List (S50)) ([] : List ByteArray) 0 0 7).bind fun t205 => ((zaj.f k 4 y202 1 1 ([] : List (S50)) ([] : List ByteArray) 0 0 3).bind fun t206 => ((zaz.f bt200.1).bind fun t207 => (if t207.toList = ((⟨#[121]⟩ : ByteArray) ++ bt200.1).toList then (if t205 = 0 then (some (t206 == 2)) else (some false)) else (some false)))))) else (none))) = some r := h
 clear h
 replace H := Option.bind_eq_some_iff.mp H
 obtain ⟨⟨t200,t201⟩,A10,H⟩ := H
 replace H : (if 1 + t200.size ≤ 9223372036854775807 then ((some (([(⟨1,(⟨#[121]⟩ : ByteArray) ++ t200⟩ : S40),(⟨2,(⟨#[121]⟩ : ByteArray) ++ t200⟩ : S40),(⟨3,(⟨#[121]⟩ : ByteArray) ++ t200⟩ : S40)] : List (S40)) : List (S40))).bind fun y202 => ((zaj.f k 4 y202 1 1 ([] : List (S50)) ([] : List ByteArray) 0 0 7).bind fun t205 => ((zaj.f k 4 y202 1 1 ([] : List (S50)) ([] : List ByteArray) 0 0 3).bind fun t206 => ((zaz.f t200).bind fun t207 => (if t207.toList = ((⟨#[121]⟩ : ByteArray) ++ t200).toList then (if t205 = 0 then (some (t206 == 2)) else (some false)) else (some false)))))) else (none)) = some r := H
 have A1 := za.mk A10
 clear A10
 by_cases c2 : 1 + t200.size ≤ 9223372036854775807
 focus
  rw [if_pos c2] at H
  have c2b0 := eq_true c2
  have c2b1 : decide (1 + t200.size ≤ 9223372036854775807) = true := decide_eq_true c2
  try have c2b2 : (9223372036854775807 < 1 + t200.size) = False := eq_false (Nat.not_lt.2 c2)
  obtain ⟨y202,hy202⟩ : ∃ y_ : List (S40),y_ = (([(⟨1,(⟨#[121]⟩ : ByteArray) ++ t200⟩ : S40),(⟨2,(⟨#[121]⟩ : ByteArray) ++ t200⟩ : S40),(⟨3,(⟨#[121]⟩ : ByteArray) ++ t200⟩ : S40)] : List (S40))) := ⟨_,rfl⟩
  replace H : ((zaj.f k 4 y202 1 1 ([] : List (S50)) ([] : List ByteArray) 0 0 7).bind fun t205 => ((zaj.f k 4 y202 1 1 ([] : List (S50)) ([] : List ByteArray) 0 0 3).bind fun t206 => ((zaz.f t200).bind fun t207 => (if t207.toList = ((⟨#[121]⟩ : ByteArray) ++ t200).toList then (if t205 = 0 then (some (t206 == 2)) else (some false)) else (some false))))) = some r := by first | (rw [hy202];with_reducible exact H) | (have H2_ := (Option.bind_some _ _).symm.trans H;rw [hy202];with_reducible exact H2_) | (have H2_ := (Option.bind_some _ _).symm.trans H;with_reducible exact H2_) | with_reducible exact H | (rw [hy202];exact H) | exact H
  have Ny202 := za.mk hy202
  clear hy202
  replace H := Option.bind_eq_some_iff.mp H
  obtain ⟨t205,A30,H⟩ := H
  replace H : ((zaj.f k 4 y202 1 1 ([] : List (S50)) ([] : List ByteArray) 0 0 3).bind fun t206 => ((zaz.f t200).bind fun t207 => (if t207.toList = ((⟨#[121]⟩ : ByteArray) ++ t200).toList then (if t205 = 0 then (some (t206 == 2)) else (some false)) else (some false)))) = some r := H
  have A3 := za.mk A30
  clear A30
  replace H := Option.bind_eq_some_iff.mp H
  obtain ⟨t206,A40,H⟩ := H
  replace H : ((zaz.f t200).bind fun t207 => (if t207.toList = ((⟨#[121]⟩ : ByteArray) ++ t200).toList then (if t205 = 0 then (some (t206 == 2)) else (some false)) else (some false))) = some r := H
  have A4 := za.mk A40
  clear A40
  replace H := Option.bind_eq_some_iff.mp H
  obtain ⟨t207,A50,H⟩ := H
  replace H : (if t207.toList = ((⟨#[121]⟩ : ByteArray) ++ t200).toList then (if t205 = 0 then (some (t206 == 2)) else (some false)) else (some false)) = some r := H
  have A5 := za.mk A50
  clear A50
  by_cases c6 : t207.toList = ((⟨#[121]⟩ : ByteArray) ++ t200).toList
  focus
   rw [if_pos c6] at H
   have c6b0 : (t207.toList == ((⟨#[121]⟩ : ByteArray) ++ t200).toList) = true := beq_iff_eq.mpr c6
   have c6b1 : (t207.toList != ((⟨#[121]⟩ : ByteArray) ++ t200).toList) = false := bne_eq_false_iff_eq.mpr c6
   clear c6
   by_cases c7 : t205 = 0
   focus
    rw [if_pos c7] at H
    have c7b0 : (t205 == 0) = true := beq_iff_eq.mpr c7
    have c7b1 : (t205 != 0) = false := bne_eq_false_iff_eq.mpr c7
    clear c7
    obtain rfl := Option.some.inj H
   rotate_left
   focus
    rw [if_neg c7] at H
    have c7b0 : (t205 == 0) = false := beq_eq_false_iff_ne.mpr c7
    have c7b1 : (t205 != 0) = true := bne_iff_ne.mpr c7
    obtain rfl := Option.some.inj H
  rotate_left 2
  focus
   rw [if_neg c6] at H
   have c6b0 : (t207.toList == ((⟨#[121]⟩ : ByteArray) ++ t200).toList) = false := beq_eq_false_iff_ne.mpr c6
   have c6b1 : (t207.toList != ((⟨#[121]⟩ : ByteArray) ++ t200).toList) = true := bne_iff_ne.mpr c6
   obtain rfl := Option.some.inj H
 rotate_left 3
 ·rw [if_neg c2] at H
  exact absurd H (by simp)
 all_goals
  go_enter Try.func4,Try.ntmps4
  go_wp2_with (first | ((with_reducible refine zo (N := 1) rfl ?_);refine zk rfl (N := 1) rfl (cs := #[.int .i64 0,.int .i64 0,.slice none 0 0,.slice none 0 0,.int .i64 0,.int .i64 0]) (t := 28) hrq ?_;intro gb199 hg wQN12 hbox hb;have n_ := haq (zd hBq hb) <| haq (hbox) <| haq ((by rw [hg];exact (zf hBq) : w.heap.size ≤ gb199)) <| haq ((by rw [hg];exact (zf hBq) : w.heap.size ≤ gb199)) <| trivial;clear HB;obtain ⟨HB,BK199,GW199,GE199,_⟩ := n_;clear hb hbox hg;obtain ⟨hczQN16,hczQN17,hczQN18,hczQN19,hczQN110,hczQN111,hfzQN112,hfzQN113,hfzQN114,hfzQN115,hfzQN116,hfzQN117⟩ := hcq6 BK199.out) | ((with_reducible refine zv (f := 8) rfl ?_);refine zT (some 10) rfl rfl Try.func8 (by kernel_rfl) rfl #[.agg #[.int .i64 1,.int .i64 1,.slice none 0 0,.slice none 0 0,.int .i64 0,.int .i64 0],.int .i64 4] rfl hMq ?_;(refine (zas.calls k 1 1 _ _ ([] : List (S50)) _ _ ([] : List ByteArray) 0 0 4 t200 t201 _ ?side1 ?side2 ?side3 ?side4 A1.out).mono ?_);(case side1 => exact Kd.C_nil _ _);(case side2 => exact Nat.le_refl _);(case side3 => exact Kd.C_nil _ _);(case side4 => exact Nat.le_refl _);rintro e wQF8A11 ⟨rfl,hb⟩;refine ⟨_,rfl,?_⟩;have n_ := haq (zx (g := gb199) (o := .cells #[.int .i64 1,.int .i64 1,.slice none 0 0,.slice none 0 0,.int .i64 0,.int .i64 0] 28 (0,0)) (hxq0p BK199.out) hb) <| haq (zd hCq hb) <| trivial;clear BK199 HB;obtain ⟨BK199,HB,_⟩ := n_;(try clear hb);(try clear hb2);(try clear hk);(try clear hi)) | ((with_reducible refine zo (N := 22) rfl ?_);refine Kd.R_lit k40 _ 40 ?hg (N := 22) ?hd (xs := ([(⟨1,(⟨#[121]⟩ : ByteArray) ++ t200⟩ : S40),(⟨2,(⟨#[121]⟩ : ByteArray) ++ t200⟩ : S40),(⟨3,(⟨#[121]⟩ : ByteArray) ++ t200⟩ : S40)] : List (S40))) (inner := [.int .i64 1,.string ((⟨#[121]⟩ : ByteArray) ++ t200),.int .i64 2,.string ((⟨#[121]⟩ : ByteArray) ++ t200),.int .i64 3,.string ((⟨#[121]⟩ : ByteArray) ++ t200)]) (ok := fun _ => True) (okp := fun _ => True) ?hr ?hp (fun _ hk => hk) trivial (Below.refl _ _) (Nat.le_refl _) (by simp) ?_;(case hd => rfl);(case hg => rfl);(case hr => first | (go_simp;done) | (go_simp;rfl));(case hp => exact (zah.c2 (show Kd.M k40 _ _ _ (⟨1,(⟨#[121]⟩ : ByteArray) ++ t200⟩ : S40) [.int .i64 1,.string ((⟨#[121]⟩ : ByteArray) ++ t200)] from (zdW _ _ _ (⟨1,(⟨#[121]⟩ : ByteArray) ++ t200⟩ : S40) )) (zah.c2 (show Kd.M k40 _ _ _ (⟨2,(⟨#[121]⟩ : ByteArray) ++ t200⟩ : S40) [.int .i64 2,.string ((⟨#[121]⟩ : ByteArray) ++ t200)] from (zdW _ _ _ (⟨2,(⟨#[121]⟩ : ByteArray) ++ t200⟩ : S40) )) (zah.c2 (show Kd.M k40 _ _ _ (⟨3,(⟨#[121]⟩ : ByteArray) ++ t200⟩ : S40) [.int .i64 3,.string ((⟨#[121]⟩ : ByteArray) ++ t200)] from (zdW _ _ _ (⟨3,(⟨#[121]⟩ : ByteArray) ++ t200⟩ : S40) )) (zah.none _ _)))));intro vQN221 wQN222 hoQN223 hb hg_ hnew_;clear hg_ hnew_;(first | rw [← Ny202.out] at hoQN223 | (simp only [Int.reduceToNat] at hoQN223;rw [← Ny202.out] at hoQN223));have n_ := haq (Kd.R_lower hoQN223 (zf hCq)) <| haq (hbq BK199.out hb) <| haq (zd hCq hb) <| trivial;clear BK199 HB;obtain ⟨HOQN224,BK199,HB,_⟩ := n_;clear hb hoQN223;obtain ⟨hczQN226,hczQN227,hczQN228,hczQN229,hczQN2210,hczQN2211,hfzQN2212,hfzQN2213,hfzQN2214,hfzQN2215,hfzQN2216,hfzQN2217⟩ := hcq6 BK199.out;obtain ⟨AoQN2218,coQN2219,eoQN2220⟩ := Kd.R_slice HOQN224.out;subst eoQN2220) | ((with_reducible refine zv (f := 5) rfl ?_);refine zT (some 26) rfl rfl Try.func5 (by kernel_rfl) rfl #[.int .i64 4,.slice AoQN2218 y202.length coQN2219,.agg #[.int .i64 1,.int .i64 1,.slice none 0 0,.slice none 0 0,.int .i64 0,.int .i64 0,.int .u64 7]] rfl hMq ?_;(refine (zaj.calls k 4 _ _ y202 1 1 _ _ ([] : List (S50)) _ _ ([] : List ByteArray) 0 0 7 t205 _ ?side1 ?side2 ?side3 ?side4 ?side5 ?side6 A3.out).mono ?_);(case side1 => repeat (first | exact (Kd.R_reads' HOQN224.out).2.2 | (with_reducible refine Kd.C_alloc ?_ _) | (with_reducible refine Kd.C_drewN ?_ _) | (with_reducible refine Kd.C_drew ?_)));(case side2 => exact (Kd.R_reads' HOQN224.out).2.1);(case side3 => exact Kd.C_nil _ _);(case side4 => exact Nat.le_refl _);(case side5 => exact Kd.C_nil _ _);(case side6 => exact Nat.le_refl _);rintro e wQF5A31 ⟨rfl,hb⟩;refine ⟨_,rfl,?_⟩;have n_ := haq (Kd.R_below (hRq HOQN224.out) hb) <| haq (hbq BK199.out hb) <| haq (zd hCq hb) <| trivial;clear HOQN224 BK199 HB;obtain ⟨HOQN224,BK199,HB,_⟩ := n_;(try clear hb);(try clear hb2);(try clear hk);(try clear hi);obtain ⟨hczQF5A34,hczQF5A35,hczQF5A36,hczQF5A37,hczQF5A38,hczQF5A39,hfzQF5A310,hfzQF5A311,hfzQF5A312,hfzQF5A313,hfzQF5A314,hfzQF5A315⟩ := hcq6 BK199.out) | ((with_reducible refine zv (f := 5) rfl ?_);refine zT (some 30) rfl rfl Try.func5 (by kernel_rfl) rfl #[.int .i64 4,.slice AoQN2218 y202.length coQN2219,.agg #[.int .i64 1,.int .i64 1,.slice none 0 0,.slice none 0 0,.int .i64 0,.int .i64 0,.int .u64 3]] rfl hMq ?_;(refine (zaj.calls k 4 _ _ y202 1 1 _ _ ([] : List (S50)) _ _ ([] : List ByteArray) 0 0 3 t206 _ ?side1 ?side2 ?side3 ?side4 ?side5 ?side6 A4.out).mono ?_);(case side1 => repeat (first | exact (Kd.R_reads' HOQN224.out).2.2 | (with_reducible refine Kd.C_alloc ?_ _) | (with_reducible refine Kd.C_drewN ?_ _) | (with_reducible refine Kd.C_drew ?_)));(case side2 => exact (Kd.R_reads' HOQN224.out).2.1);(case side3 => exact Kd.C_nil _ _);(case side4 => exact Nat.le_refl _);(case side5 => exact Kd.C_nil _ _);(case side6 => exact Nat.le_refl _);rintro e wQF5A41 ⟨rfl,hb⟩;refine ⟨_,rfl,?_⟩;have n_ := haq (Kd.R_below (hRq HOQN224.out) hb) <| haq (hbq BK199.out hb) <| haq (zd hCq hb) <| trivial;clear HOQN224 BK199 HB;obtain ⟨HOQN224,BK199,HB,_⟩ := n_;(try clear hb);(try clear hb2);(try clear hk);(try clear hi)) | ((with_reducible refine zv (f := 9) rfl ?_);refine zT (some 32) rfl rfl Try.func9 (by kernel_rfl) rfl #[.string t200] rfl hMq ?_;(with_reducible refine (zaz.calls t200 t207 _ A5.out).mono ?_);rintro e w' ⟨rfl,⟨nd,rfl⟩⟩;refine ⟨_,rfl,?_⟩))
  go_ret
  exact ⟨hHq,hCq⟩
def zaW.f (k : Nat) (a0_0 : Int) (a0_1 : ByteArray) (a1_0 : Int) (a1_1 : ByteArray) : Option (Bool) := (zt.f k a0_1 a1_1).bind fun t235 => (if a0_0 < a1_0 then (some true) else (if a0_0 = a1_0 then (some t235) else (some false)))
set_option maxHeartbeats 8000000 in
set_option maxRecDepth 100000 in
theorem zaW.calls (k : Nat) (a0_0 : Int) (a0_1 : ByteArray) (a1_0 : Int) (a1_1 : ByteArray) (r : Bool) (w : World) (h : zaW.f k a0_0 a0_1 a1_0 a1_1 = some r) :
  Calls Try.prog 18 #[.agg #[.int .i64 a0_0,.string a0_1],.agg #[.int .i64 a1_0,.string a1_1]] w fun e w' => e = .returned (.bool r) ∧ Below w.heap.size w w' := by
 have hu40 := Try.underlying40
 have HB := za.mk (Below.refl w.heap.size w)
 have H : ((zt.f k a0_1 a1_1).bind fun t235 => (if a0_0 < a1_0 then (some true) else (if a0_0 = a1_0 then (some t235) else (some false)))) = some r := h
 clear h
 replace H := Option.bind_eq_some_iff.mp H
 obtain ⟨t235,A30,H⟩ := H
 replace H : (if a0_0 < a1_0 then (some true) else (if a0_0 = a1_0 then (some t235) else (some false))) = some r := H
 have A3 := za.mk A30
 clear A30
 by_cases c4 : a0_0 < a1_0
 focus
  rw [if_pos c4] at H
  have c4b0 : decide (a0_0 < a1_0) = true := decide_eq_true c4
  clear c4
  obtain rfl := Option.some.inj H
 rotate_left
 focus
  rw [if_neg c4] at H
  have c4b0 : decide (a0_0 < a1_0) = false := decide_eq_false c4
  clear c4
  by_cases c10 : a0_0 = a1_0
  focus
   rw [if_pos c10] at H
   have c10b0 : (a0_0 == a1_0) = true := beq_iff_eq.mpr c10
   have c10b1 : (a0_0 != a1_0) = false := bne_eq_false_iff_eq.mpr c10
   clear c10
   obtain rfl := Option.some.inj H
  rotate_left
  focus
   rw [if_neg c10] at H
   have c10b0 : (a0_0 == a1_0) = false := beq_eq_false_iff_ne.mpr c10
   have c10b1 : (a0_0 != a1_0) = true := bne_iff_ne.mpr c10
   obtain rfl := Option.some.inj H
 all_goals
  go_enter Try.func18,Try.ntmps18
  go_wp2_with (first | ((with_reducible refine zo (N := 2) rfl ?_);refine zk rfl (N := 2) rfl (cs := #[.int .i64 a0_0,.string a0_1]) (t := 40) hrq ?_;intro gb233 hg wQN22 hbox hb;have n_ := haq (zd hBq hb) <| haq (hbox) <| haq ((by rw [hg];exact (zf hBq) : w.heap.size ≤ gb233)) <| haq ((by rw [hg];exact (zf hBq) : w.heap.size ≤ gb233)) <| trivial;clear HB;obtain ⟨HB,BK233,GW233,GE233,_⟩ := n_;clear hb hbox hg) | ((with_reducible refine zo (N := 3) rfl ?_);refine zk rfl (N := 3) rfl (cs := #[.int .i64 a1_0,.string a1_1]) (t := 40) hrq ?_;intro gb234 hg wQN32 hbox hb;have n_ := haq (hbq BK233.out hb) <| haq (zd hCq hb) <| haq (hbox) <| haq ((by rw [hg];exact (zf hCq) : w.heap.size ≤ gb234)) <| haq ((by rw [hg];exact (zf hCq) : w.heap.size ≤ gb234)) <| haq (hnq hg BK233.out) <| haq (hmq hg BK233.out) <| trivial;clear BK233 HB;obtain ⟨BK233,HB,BK234,GW234,GE234,NBQN37,NBQN38,_⟩ := n_;clear hb hbox hg;have hnbQN39 := NBQN37.out;have hncQN310 := NBQN38.out;obtain ⟨hczQN311,hczQN312,hfzQN313,hfzQN314⟩ := hcq2 BK233.out;obtain ⟨hczQN315,hczQN316,hfzQN317,hfzQN318⟩ := hcq2 BK234.out) | ((with_reducible refine zv (f := 32) rfl ?_);refine zT (some 10) rfl rfl Try.func32 (by kernel_rfl) rfl #[.string a0_1,.string a1_1] rfl hMq ?_;(with_reducible refine (zt.calls k a0_1 a1_1 t235 _ A3.out).mono ?_);rintro e w' ⟨rfl,⟨nd,rfl⟩⟩;refine ⟨_,rfl,?_⟩))
  go_ret
  exact ⟨hHq,hCq⟩
end Go.Proofs.Ytcncoepijagadaa.Px