/- Part 8 of 35 of the proof of the law CertBytes: what is proved is the statement at the end of the last part; its conditions are those of the given row. -/
import Derived.Test.YtfhbeonhnhjikaaGreatZCertBytesG
namespace Go.Proofs.YtfhbeonhnhjikaaGreat.Px
open Go.RowKit Go.Proofs.YtfhbeonhnhjikaaGreatW.PrintWords Go.Proofs.YtfhbeonhnhjikaaGreatW.PrintLast Go.Proofs.YtfhbeonhnhjikaaGreatW.PrintMore
attribute [local go_sem] zz zB zI zJ zp zq zA zC
set_option linter.unusedVariables false
set_option linter.unusedSimpArgs false
attribute [local go_sem high] eqA25
def zbh.f (k : Nat) (a0_0 : Int) (a0_1 : Int) (l0_2 : List (S73)) (l0_3 : List ByteArray) (a0_4 : Int) (a0_5 : Int) (a1_0 : Int) (a1_1 : Int) (l1_2 : List (S73)) (l1_3 : List ByteArray) (a1_4 : Int) (a1_5 : Int) : Option (Bool) := (z6.f k l0_3 l1_3).bind fun t400 => ((zE.f k l0_2 l1_2).bind fun t401 => (if t400 = true then (if t401 = true then (if a0_0 = a1_0 then (if a0_1 = a1_1 then (some (a0_4 == a1_4 && (a0_5 == a1_5))) else (some false)) else (some false)) else (some false)) else (some false)))
set_option maxHeartbeats 8000000 in
set_option maxRecDepth 100000 in
theorem zbh.calls (k : Nat) (a0_0 : Int) (a0_1 : Int) (A0_2 : Option Addr) (c0_2 : Nat) (l0_2 : List (S73)) (A0_3 : Option Addr) (c0_3 : Nat) (l0_3 : List ByteArray) (a0_4 : Int) (a0_5 : Int) (a1_0 : Int) (a1_1 : Int) (A1_2 : Option Addr) (c1_2 : Nat) (l1_2 : List (S73)) (A1_3 : Option Addr) (c1_3 : Nat) (l1_3 : List ByteArray) (a1_4 : Int) (a1_5 : Int) (r : Bool) (w : World) (hr0_2 : Kd.C k73 w A0_2 l0_2.length l0_2) (hc0_2 : l0_2.length ≤ c0_2) (hr0_3 : Kd.C Kd.string w A0_3 l0_3.length l0_3) (hc0_3 : l0_3.length ≤ c0_3) (hr1_2 : Kd.C k73 w A1_2 l1_2.length l1_2) (hc1_2 : l1_2.length ≤ c1_2) (hr1_3 : Kd.C Kd.string w A1_3 l1_3.length l1_3) (hc1_3 : l1_3.length ≤ c1_3) (h : zbh.f k a0_0 a0_1 l0_2 l0_3 a0_4 a0_5 a1_0 a1_1 l1_2 l1_3 a1_4 a1_5 = some r) :
  Calls Tryz.prog 28 #[.agg #[.int .i64 a0_0,.int .i64 a0_1,.slice A0_2 l0_2.length c0_2,.slice A0_3 l0_3.length c0_3,.int .i64 a0_4,.int .i64 a0_5],.agg #[.int .i64 a1_0,.int .i64 a1_1,.slice A1_2 l1_2.length c1_2,.slice A1_3 l1_3.length c1_3,.int .i64 a1_4,.int .i64 a1_5]] w fun e w' => e = .returned (.bool r) ∧ Below w.heap.size w w' := by
 have hu27 := Tryz.underlying27
 have hu25 := Tryz.underlying25
 have HR0_2 := za.mk hr0_2
 have HC0_2 := za.mk hc0_2
 clear hr0_2 hc0_2
 have HR0_3 := za.mk hr0_3
 have HC0_3 := za.mk hc0_3
 clear hr0_3 hc0_3
 have HR1_2 := za.mk hr1_2
 have HC1_2 := za.mk hc1_2
 clear hr1_2 hc1_2
 have HR1_3 := za.mk hr1_3
 have HC1_3 := za.mk hc1_3
 clear hr1_3 hc1_3
 have HB := za.mk (Below.refl w.heap.size w)
 have H : ((z6.f k l0_3 l1_3).bind fun t400 => ((zE.f k l0_2 l1_2).bind fun t401 => (if t400 = true then (if t401 = true then (if a0_0 = a1_0 then (if a0_1 = a1_1 then (some (a0_4 == a1_4 && (a0_5 == a1_5))) else (some false)) else (some false)) else (some false)) else (some false)))) = some r := h
 clear h
 replace H := Option.bind_eq_some_iff.mp H
 obtain ⟨t400,A30,H⟩ := H
 replace H : ((zE.f k l0_2 l1_2).bind fun t401 => (if t400 = true then (if t401 = true then (if a0_0 = a1_0 then (if a0_1 = a1_1 then (some (a0_4 == a1_4 && (a0_5 == a1_5))) else (some false)) else (some false)) else (some false)) else (some false))) = some r := H
 have A3 := za.mk A30
 clear A30
 replace H := Option.bind_eq_some_iff.mp H
 obtain ⟨t401,A40,H⟩ := H
 replace H : (if t400 = true then (if t401 = true then (if a0_0 = a1_0 then (if a0_1 = a1_1 then (some (a0_4 == a1_4 && (a0_5 == a1_5))) else (some false)) else (some false)) else (some false)) else (some false)) = some r := H
 have A4 := za.mk A40
 clear A40
 by_cases c5 : t400 = true
 focus
  subst c5
  have H1 : (if t401 = true then (if a0_0 = a1_0 then (if a0_1 = a1_1 then (some (a0_4 == a1_4 && (a0_5 == a1_5))) else (some false)) else (some false)) else (some false)) = some r := by rw [if_pos rfl] at H;exact H
  clear H
  have H := H1
  clear H1
  by_cases c6 : t401 = true
  focus
   subst c6
   have H1 : (if a0_0 = a1_0 then (if a0_1 = a1_1 then (some (a0_4 == a1_4 && (a0_5 == a1_5))) else (some false)) else (some false)) = some r := by rw [if_pos rfl] at H;exact H
   clear H
   have H := H1
   clear H1
   by_cases c7 : a0_0 = a1_0
   focus
    rw [if_pos c7] at H
    have c7b0 : (a0_0 == a1_0) = true := beq_iff_eq.mpr c7
    have c7b1 : (a0_0 != a1_0) = false := bne_eq_false_iff_eq.mpr c7
    clear c7
    by_cases c8 : a0_1 = a1_1
    focus
     rw [if_pos c8] at H
     have c8b0 : (a0_1 == a1_1) = true := beq_iff_eq.mpr c8
     have c8b1 : (a0_1 != a1_1) = false := bne_eq_false_iff_eq.mpr c8
     clear c8
     obtain rfl := Option.some.inj H
     have EQ0 := True.intro
     have EQ1 := True.intro
    rotate_left
    focus
     rw [if_neg c8] at H
     have c8b0 : (a0_1 == a1_1) = false := beq_eq_false_iff_ne.mpr c8
     have c8b1 : (a0_1 != a1_1) = true := bne_iff_ne.mpr c8
     obtain rfl := Option.some.inj H
     have EQ0 := True.intro
     have EQ1 := True.intro
   rotate_left 2
   focus
    rw [if_neg c7] at H
    have c7b0 : (a0_0 == a1_0) = false := beq_eq_false_iff_ne.mpr c7
    have c7b1 : (a0_0 != a1_0) = true := bne_iff_ne.mpr c7
    obtain rfl := Option.some.inj H
    have EQ0 := True.intro
    have EQ1 := True.intro
  rotate_left 3
  focus
   replace c6 := Bool.eq_false_iff.mpr c6
   subst c6
   have H1 : (some false) = some r := by rw [if_neg (show ¬ (false = true) by decide)] at H;exact H
   clear H
   have H := H1
   clear H1
   obtain rfl := Option.some.inj H
   have EQ0 := True.intro
   have EQ2 := True.intro
 rotate_left 4
 focus
  replace c5 := Bool.eq_false_iff.mpr c5
  subst c5
  have H1 : (some false) = some r := by rw [if_neg (show ¬ (false = true) by decide)] at H;exact H
  clear H
  have H := H1
  clear H1
  obtain rfl := Option.some.inj H
  have EQ3 := True.intro
 all_goals
  go_enter Tryz.func28,Tryz.ntmps28
  go_wp2_with (first | ((with_reducible refine zy (N := 2) rfl ?_);refine zo ?hg (N := 2) ?hd (cs := #[.int .i64 a0_0,.int .i64 a0_1,.slice A0_2 l0_2.length c0_2,.slice A0_3 l0_3.length c0_3,.int .i64 a0_4,.int .i64 a0_5]) (t := 27) ?hr ?_;(case hd => rfl);(case hg => rfl);(case hr => first | (go_simp;done) | (go_simp;rfl));intro gb398 hg wQN22 hbox hb;have n_ := haq (zd hBq hb) <| haq (hbox) <| haq ((by rw [hg];exact (ze hBq) : w.heap.size ≤ gb398)) <| haq ((by rw [hg];exact (ze hBq) : w.heap.size ≤ gb398)) <| trivial;clear HB;obtain ⟨HB,BK398,GW398,GE398,_⟩ := n_;clear hb hbox hg) | ((with_reducible refine zy (N := 3) rfl ?_);refine zo ?hg (N := 3) ?hd (cs := #[.int .i64 a1_0,.int .i64 a1_1,.slice A1_2 l1_2.length c1_2,.slice A1_3 l1_3.length c1_3,.int .i64 a1_4,.int .i64 a1_5]) (t := 27) ?hr ?_;(case hd => rfl);(case hg => rfl);(case hr => first | (go_simp;done) | (go_simp;rfl));intro gb399 hg wQN32 hbox hb;have n_ := haq (hbq BK398.out hb) <| haq (zd hCq hb) <| haq (hbox) <| haq ((by rw [hg];exact (ze hCq) : w.heap.size ≤ gb399)) <| haq ((by rw [hg];exact (ze hCq) : w.heap.size ≤ gb399)) <| haq (hnq hg BK398.out) <| haq (hmq hg BK398.out) <| trivial;clear BK398 HB;obtain ⟨BK398,HB,BK399,GW399,GE399,NBQN37,NBQN38,_⟩ := n_;clear hb hbox hg;have hnbQN39 := NBQN37.out;have hncQN310 := NBQN38.out;obtain ⟨hczQN311,hczQN312,hczQN313,hczQN314,hczQN315,hczQN316,hfzQN317,hfzQN318,hfzQN319,hfzQN320,hfzQN321,hfzQN322⟩ := hcq6 BK398.out;obtain ⟨hczQN323,hczQN324,hczQN325,hczQN326,hczQN327,hczQN328,hfzQN329,hfzQN330,hfzQN331,hfzQN332,hfzQN333,hfzQN334⟩ := hcq6 BK399.out) | (have _ := EQ0;((with_reducible refine zj (f := 54) rfl ?_);refine zQ (some 11) rfl rfl Tryz.func54 (by kernel_rfl) rfl #[.slice A0_3 l0_3.length c0_3,.slice A1_3 l1_3.length c1_3] rfl hMq ?_;(with_reducible refine (z6.calls k _ _ l0_3 _ _ l1_3 true _ ?side1 ?side2 ?side3 ?side4 A3.out).mono ?_);(case side1 => exact hKq (Kd.C_below HR0_3.out HB.out));(case side2 => exact HC0_3.out);(case side3 => exact hKq (Kd.C_below HR1_3.out HB.out));(case side4 => exact HC1_3.out);rintro e w' ⟨rfl,⟨nd,rfl⟩⟩;refine ⟨_,rfl,?_⟩)) | (have _ := EQ1;((with_reducible refine zj (f := 55) rfl ?_);refine zQ (some 16) rfl rfl Tryz.func55 (by kernel_rfl) rfl #[.slice A0_2 l0_2.length c0_2,.slice A1_2 l1_2.length c1_2] rfl hMq ?_;(with_reducible refine (zE.calls k _ _ l0_2 _ _ l1_2 true _ ?side1 ?side2 ?side3 ?side4 A4.out).mono ?_);(case side1 => repeat (first | exact (Kd.C_below HR0_2.out hCq) | (with_reducible refine Kd.C_alloc ?_ _) | (with_reducible refine Kd.C_drewN ?_ _) | (with_reducible refine Kd.C_drew ?_)));(case side2 => exact HC0_2.out);(case side3 => repeat (first | exact (Kd.C_below HR1_2.out hCq) | (with_reducible refine Kd.C_alloc ?_ _) | (with_reducible refine Kd.C_drewN ?_ _) | (with_reducible refine Kd.C_drew ?_)));(case side4 => exact HC1_2.out);rintro e wQF55A41 ⟨rfl,hb⟩;refine ⟨_,rfl,?_⟩;have n_ := haq (hbq BK398.out hb) <| haq (hbq BK399.out hb) <| haq (zd hCq hb) <| trivial;clear BK398 BK399 HB;obtain ⟨BK398,BK399,HB,_⟩ := n_;(try clear hb);(try clear hb2);(try clear hk);(try clear hi);obtain ⟨hczQF55A44,hczQF55A45,hczQF55A46,hczQF55A47,hczQF55A48,hczQF55A49,hfzQF55A410,hfzQF55A411,hfzQF55A412,hfzQF55A413,hfzQF55A414,hfzQF55A415⟩ := hcq6 BK398.out;obtain ⟨hczQF55A416,hczQF55A417,hczQF55A418,hczQF55A419,hczQF55A420,hczQF55A421,hfzQF55A422,hfzQF55A423,hfzQF55A424,hfzQF55A425,hfzQF55A426,hfzQF55A427⟩ := hcq6 BK399.out)) | (have _ := EQ2;((with_reducible refine zj (f := 55) rfl ?_);refine zQ (some 16) rfl rfl Tryz.func55 (by kernel_rfl) rfl #[.slice A0_2 l0_2.length c0_2,.slice A1_2 l1_2.length c1_2] rfl hMq ?_;(with_reducible refine (zE.calls k _ _ l0_2 _ _ l1_2 false _ ?side1 ?side2 ?side3 ?side4 A4.out).mono ?_);(case side1 => repeat (first | exact (Kd.C_below HR0_2.out hCq) | (with_reducible refine Kd.C_alloc ?_ _) | (with_reducible refine Kd.C_drewN ?_ _) | (with_reducible refine Kd.C_drew ?_)));(case side2 => exact HC0_2.out);(case side3 => repeat (first | exact (Kd.C_below HR1_2.out hCq) | (with_reducible refine Kd.C_alloc ?_ _) | (with_reducible refine Kd.C_drewN ?_ _) | (with_reducible refine Kd.C_drew ?_)));(case side4 => exact HC1_2.out);rintro e wQF55A41 ⟨rfl,hb⟩;refine ⟨_,rfl,?_⟩;have n_ := haq (hbq BK398.out hb) <| haq (hbq BK399.out hb) <| haq (zd hCq hb) <| trivial;clear BK398 BK399 HB;obtain ⟨BK398,BK399,HB,_⟩ := n_;(try clear hb);(try clear hb2);(try clear hk);(try clear hi))) | (have _ := EQ3;((with_reducible refine zj (f := 54) rfl ?_);refine zQ (some 11) rfl rfl Tryz.func54 (by kernel_rfl) rfl #[.slice A0_3 l0_3.length c0_3,.slice A1_3 l1_3.length c1_3] rfl hMq ?_;(with_reducible refine (z6.calls k _ _ l0_3 _ _ l1_3 false _ ?side1 ?side2 ?side3 ?side4 A3.out).mono ?_);(case side1 => exact hKq (Kd.C_below HR0_3.out HB.out));(case side2 => exact HC0_3.out);(case side3 => exact hKq (Kd.C_below HR1_3.out HB.out));(case side4 => exact HC1_3.out);rintro e w' ⟨rfl,⟨nd,rfl⟩⟩;refine ⟨_,rfl,?_⟩)) | (have _ := EQ3;((with_reducible refine zj (f := 55) rfl ?_);refine zQ (some 16) rfl rfl Tryz.func55 (by kernel_rfl) rfl #[.slice A0_2 l0_2.length c0_2,.slice A1_2 l1_2.length c1_2] rfl hMq ?_;(with_reducible refine (zE.calls k _ _ l0_2 _ _ l1_2 t401 _ ?side1 ?side2 ?side3 ?side4 A4.out).mono ?_);(case side1 => repeat (first | exact (Kd.C_below HR0_2.out hCq) | (with_reducible refine Kd.C_alloc ?_ _) | (with_reducible refine Kd.C_drewN ?_ _) | (with_reducible refine Kd.C_drew ?_)));(case side2 => exact HC0_2.out);(case side3 => repeat (first | exact (Kd.C_below HR1_2.out hCq) | (with_reducible refine Kd.C_alloc ?_ _) | (with_reducible refine Kd.C_drewN ?_ _) | (with_reducible refine Kd.C_drew ?_)));(case side4 => exact HC1_2.out);rintro e wQF55A41 ⟨rfl,hb⟩;refine ⟨_,rfl,?_⟩;have n_ := haq (hbq BK398.out hb) <| haq (hbq BK399.out hb) <| haq (zd hCq hb) <| trivial;clear BK398 BK399 HB;obtain ⟨BK398,BK399,HB,_⟩ := n_;(try clear hb);(try clear hb2);(try clear hk);(try clear hi))))
  go_ret
  exact ⟨hHq,hCq⟩
end Go.Proofs.YtfhbeonhnhjikaaGreat.Px
namespace Go.Proofs.YtfhbeonhnhjikaaGreat.Px
open Go.RowKit Go.Proofs.YtfhbeonhnhjikaaGreatW.PrintWords Go.Proofs.YtfhbeonhnhjikaaGreatW.PrintLast Go.Proofs.YtfhbeonhnhjikaaGreatW.PrintMore
attribute [local go_sem] zz zB zI zJ zp zq zA zC
set_option linter.unusedVariables false
set_option linter.unusedSimpArgs false
def bB (b : S73) : ByteArray := if zc8 b.f0 b.f1 b.f2 = true then toB (zdn b.f0 b.f1 b.f2) else (⟨#[]⟩ : ByteArray)
theorem zaU.one (b : S73) (A : Option Addr) (c : Nat) (w : World) (hr : Kd.C Kd.string w A b.f2.length b.f2) (hc : b.f2.length ≤ c) :
  Calls Tryz.prog 38 #[.agg #[.int .i64 b.f0,.int .i64 b.f1,.slice A b.f2.length c]] w fun e w' => e = .returned (.string (bB b)) ∧ Below w.heap.size w w' := by
 obtain ⟨e,he⟩ : ∃ e,za3.f b.f0 b.f1 b.f2 = some (bB b,e) := by
  rw [zgp,bB]
  split
  ·exact ⟨_,rfl⟩
  ·exact ⟨_,rfl⟩
 have HE := za.mk he
 have HR := za.mk hr
 have HC := za.mk hc
 clear he hr hc
 generalize bB b = s at *
 obtain ⟨b0,b1,b2⟩ := b
 go_enter Tryz.func38,Tryz.ntmps38
 go_wp2_with (first
  | ((with_reducible refine zy (N := 1) rfl ?_);refine zo ?hg (N := 1) ?hd (cs := #[.int .i64 b0,.int .i64 b1,.slice A b2.length c]) (t := 73) ?hr ?_;(case hd => rfl);(case hg => rfl);(case hr => first | (go_simp;done) | (go_simp;rfl));intro gb hg w2 hbox hb;have BK := za.mk hbox;have HB := za.mk hb;clear hb hbox hg;have hz0 := (zb BK.out 0).trans rfl;have hz1 := (zb BK.out 1).trans rfl;have hz2 := (zb BK.out 2).trans rfl;have hf0 := zc BK.out 0;have hf1 := zc BK.out 1;have hf2 := zc BK.out 2)
  | (go_at_call 39;(with_reducible refine (za3.calls b0 b1 _ _ b2 _ _ _ (Kd.C_below HR.out HB.out) HC.out HE.out).mono ?_);rintro e w3 ⟨rfl,hb⟩;have HB3 := za.mk (zd HB.out hb);clear hb))
 go_ret
 exact ⟨rfl,HB3.out⟩
theorem zaU.infoS : (Tryz.prog.info? 9).map (fun i => (i.zero,i.size,i.bytes)) = some (some (.string ⟨#[]⟩),1,16) := by kernel_rfl
set_option maxHeartbeats 4000000 in
set_option maxRecDepth 100000 in
theorem zaU.walk (A : Option Addr) (c : Nat) (l : List S73) (w : World) (hr : Kd.C k73 w A l.length l) (hc : l.length ≤ c) (h4 : l.length ≤ 4) :
  Calls Tryz.prog 37 #[.slice A l.length c,.func (.func 38) #[] #[]] w fun e w' => ∃ v,e = .returned v ∧ Kd.R Kd.string 9 w' w.heap.size (fun _ => True) v (l.map bB) ∧ Below w.heap.size w w' := by
 have HR := za.mk hr
 clear hr
 go_enter Tryz.func37,Tryz.ntmps37
 go_wp2_with fail
 have HB0 := za.mk (Below.refl w.heap.size w)
 go_loopw [5,10] (fun v5 v10 wr => ∃ k : Nat,v10 = .int .i64 k ∧ k ≤ l.length ∧ za (Kd.R Kd.string 9 wr w.heap.size (fun _ => True) v5 ((l.take k).map bB)) ∧ za (Below w.heap.size w wr)) (fun _ v10 _ => l.length - (match v10 with | .int _ q => q | _ => 0).toNat)
 case atStart => exact ⟨0,rfl,Nat.zero_le _,⟨Kd.R_nil _ _ _ _ _⟩,HB0⟩
 case round =>
  obtain ⟨k,rfl,hk,HO,HB⟩ := hrel
  by_cases hlt : k < l.length
  ·obtain ⟨ad,A2,c2,rfl,hx0,hx1,hx2,hl2,hi2⟩ := zcf HR.out (k : Int) (by omega) (by omega)
   replace hx0 := (HB.out.cell (World.block_lt_of_cell? w _ hx0)).trans hx0
   replace hx1 := (HB.out.cell (World.block_lt_of_cell? w _ hx1)).trans hx1
   replace hx2 := (HB.out.cell (World.block_lt_of_cell? w _ hx2)).trans hx2
   rw [Int.toNat_natCast] at hx0 hx1 hx2
   have hb : decide (k < l.length) = true := decide_eq_true hlt
   have ht : l.take (k + 1) = l.take k ++ [zW l (k : Int)] := by
    rw [zW,Int.toNat_natCast,List.getD_eq_getElem?_getD,List.getElem?_eq_getElem hlt,List.take_add_one,List.getElem?_eq_getElem hlt];rfl
   have HT := za.mk ht
   have HL2 := za.mk hl2
   have HI2 := za.mk (Kd.C_below hi2 HB.out)
   clear ht hl2 hi2
   generalize zW l (k : Int) = s at *
   obtain ⟨s0,s1,s2⟩ := s
   have HLN : za ((((l.take k).map bB).length + 1) * 16 ≤ 140737488355328) := ⟨by rw [List.length_map,List.length_take];omega⟩
   have HM : za ((l.take (k + 1)).map bB = (l.take k).map bB ++ [bB ⟨s0,s1,s2⟩]) := ⟨by rw [HT.out,List.map_append];rfl⟩
   go_wp2_with (first
    | (go_at_call 38;(with_reducible refine (zaU.one ⟨s0,s1,s2⟩ _ _ _ (Kd.C_below HI2.out (zk (Below.refl _ _) _)) HL2.out).mono ?_);rintro e w1 ⟨rfl,hb1⟩;have HB1 := za.mk (zd (zk HB.out _) hb1);have HO1 := za.mk (Kd.R_below HO.out (zd (zk (Below.refl _ _) _) hb1));clear hb1)
    | (at_builtin;refine Kd.R_append Kd.string (w0 := w) w.heap.size rfl (.tmp 14) (.tmp 18) 23 9 (.string ⟨#[]⟩) 16 rfl Tryz.underlying23 zaU.infoS rfl (by decide) (by omega) _ ((l.take k).map bB) (bB ⟨s0,s1,s2⟩) [.string (bB ⟨s0,s1,s2⟩)] (fun _ => True) (fun _ => False) rfl rfl ?aP (fun _ hk => hk.elim) ?aF ?aO ?aB ?aS ?aL ?_;(case aP => exact rfl);(case aF => exact (fun _ _ => trivial));(case aO => exact HO1.out);(case aB => exact HB1.out);(case aS => exact (ze HB1.out));(case aL => exact HLN.out);intro v3 w3 ho hb hg hat;have HX := za.mk ho;have HB3 := za.mk hb;clear ho hb hg hat))
   go_roundw
   case rel => exact ⟨k + 1,by go_num,by omega,⟨by rw [HM.out];exact HX.out⟩,HB3⟩
   case measure => simp;omega
  ·obtain rfl : k = l.length := by omega
   go_wp2_with fail
   go_ret
   exact ⟨_,rfl,by have := HO.out;rwa [List.take_length] at this,HB.out⟩
def zaU.f (l0 : List S73) : Option (List ByteArray) := if l0.length ≤ 4 then some (l0.map bB) else none
theorem zaU.calls (A0 : Option Addr) (c0 : Nat) (l0 : List S73) (r : List ByteArray) (w : World) (hr0 : Kd.C k73 w A0 l0.length l0) (hc0 : l0.length ≤ c0) (h : zaU.f l0 = some r) :
  Calls Tryz.prog 37 #[.slice A0 l0.length c0,.func (.func 38) #[] #[]] w fun e w' => ∃ v0_ : Value,e = .returned v0_ ∧ Kd.R Kd.string 9 w' w.heap.size (fun _ => True) v0_ r ∧ Below w.heap.size w w' := by
 unfold zaU.f at h
 split at h
 ·rename_i h4
  obtain rfl := Option.some.inj h
  exact zaU.walk A0 c0 l0 w hr0 hc0 h4
 ·cases h
theorem zaF.infoS : (Tryz.prog.info? 9).map (fun i => (i.zero,i.size,i.bytes)) = some (some (.string ⟨#[]⟩),1,16) := by kernel_rfl
theorem zaF.num (k : Int) (w : World) (h0 : 0 ≤ k) (h1 : k < 9223372036854775808) :
  Calls Tryz.prog 41 #[.int .i64 k] w fun e w' => e = .returned (.string (zbO k.toNat)) ∧ Below w.heap.size w w' := by
 have hn : zal.f (IntKind.u64.wrap k) = some (zbO k.toNat) := by rw [zaA h0 (by omega),zal.f,if_pos h0,if_pos (by omega)]
 have HN := za.mk hn
 clear hn h0 h1
 generalize zbO k.toNat = s at *
 go_enter Tryz.func41,Tryz.ntmps41
 go_wp2_with (go_at_call 17;(with_reducible refine (zal.calls _ _ _ HN.out).mono ?_);rintro e w3 ⟨rfl,hb⟩;have HB3 := za.mk hb;clear hb)
 go_ret
 exact ⟨rfl,HB3.out⟩
set_option maxHeartbeats 4000000 in
set_option maxRecDepth 100000 in
theorem zaF.walk (A : Option Addr) (c : Nat) (l : List Int) (w : World) (hr : Kd.C (Kd.int .i64) w A l.length l) (hc : l.length ≤ c) (h4 : l.length ≤ 4) (hp : ∀ k ∈ l,0 ≤ k ∧ k < 9223372036854775808) :
  Calls Tryz.prog 40 #[.slice A l.length c,.func (.func 41) #[] #[]] w fun e w' => ∃ v,e = .returned v ∧ Kd.R Kd.string 9 w' w.heap.size (fun _ => True) v (l.map (fun k => zbO k.toNat)) ∧ Below w.heap.size w w' := by
 have HR := za.mk hr
 have HP := za.mk hp
 clear hr hp
 go_enter Tryz.func40,Tryz.ntmps40
 go_wp2_with fail
 have HB0 := za.mk (Below.refl w.heap.size w)
 go_loopw [5,10] (fun v5 v10 wr => ∃ k : Nat,v10 = .int .i64 k ∧ k ≤ l.length ∧ za (Kd.R Kd.string 9 wr w.heap.size (fun _ => True) v5 ((l.take k).map (fun k => zbO k.toNat))) ∧ za (Below w.heap.size w wr)) (fun _ v10 _ => l.length - (match v10 with | .int _ q => q | _ => 0).toNat)
 case atStart => exact ⟨0,rfl,Nat.zero_le _,⟨Kd.R_nil _ _ _ _ _⟩,HB0⟩
 case round =>
  obtain ⟨k,rfl,hk,HO,HB⟩ := hrel
  by_cases hlt : k < l.length
  ·obtain ⟨ad,rfl,hx0⟩ := Kd.at_int HR.out (k : Int) (by omega) (by omega)
   replace hx0 := (HB.out.cell (World.block_lt_of_cell? w _ hx0)).trans hx0
   rw [Int.toNat_natCast] at hx0
   have hb : decide (k < l.length) = true := decide_eq_true hlt
   have hd : rd l (k : Int) = l[k] := by
    rw [rd,Int.toNat_natCast,List.getD_eq_getElem?_getD,List.getElem?_eq_getElem hlt];rfl
   have hpk := HP.out _ (List.getElem_mem hlt)
   have ht : l.take (k + 1) = l.take k ++ [l[k]] := by
    rw [List.take_add_one,List.getElem?_eq_getElem hlt];rfl
   rw [hd] at hx0
   generalize l[k] = s at *
   have HM : za ((l.take (k + 1)).map (fun k => zbO k.toNat) = (l.take k).map (fun k => zbO k.toNat) ++ [zbO s.toNat]) := ⟨by rw [ht,List.map_append];rfl⟩
   have HLN : za ((((l.take k).map (fun k => zbO k.toNat)).length + 1) * 16 ≤ 140737488355328) := ⟨by rw [List.length_map,List.length_take];omega⟩
   have HPK := za.mk hpk
   clear hpk ht hd
   go_wp2_with (first
    | (go_at_call 41;(with_reducible refine (zaF.num s _ HPK.out.1 HPK.out.2).mono ?_);rintro e w1 ⟨rfl,hb1⟩;have HB1 := za.mk (zd HB.out hb1);have HO1 := za.mk (Kd.R_below HO.out hb1);clear hb1)
    | (at_builtin;refine Kd.R_append Kd.string (w0 := w) w.heap.size rfl (.tmp 14) (.tmp 18) 23 9 (.string ⟨#[]⟩) 16 rfl Tryz.underlying23 zaF.infoS rfl (by decide) (by omega) _ ((l.take k).map (fun k => zbO k.toNat)) (zbO s.toNat) [.string (zbO s.toNat)] (fun _ => True) (fun _ => False) rfl rfl ?aP (fun _ hk => hk.elim) ?aF ?aO ?aB ?aS ?aL ?_;(case aP => exact rfl);(case aF => exact (fun _ _ => trivial));(case aO => exact HO1.out);(case aB => exact HB1.out);(case aS => exact (ze HB1.out));(case aL => exact HLN.out);intro v3 w3 ho hb hg hat;have HX := za.mk ho;have HB3 := za.mk hb;clear ho hb hg hat))
   go_roundw
   case rel => exact ⟨k + 1,by go_num,by omega,⟨by rw [HM.out];exact HX.out⟩,HB3⟩
   case measure => simp;omega
  ·obtain rfl : k = l.length := by omega
   go_wp2_with fail
   go_ret
   exact ⟨_,rfl,by have := HO.out;rwa [List.take_length] at this,HB.out⟩
def zaF.f (l0 : List Int) : Option (List ByteArray) := if l0.length ≤ 4 ∧ ∀ k ∈ l0,0 ≤ k ∧ k < 9223372036854775808 then some (l0.map (fun k => zbO k.toNat)) else none
theorem zaF.calls (A0 : Option Addr) (c0 : Nat) (l0 : List Int) (r : List ByteArray) (w : World) (hr0 : Kd.C (Kd.int .i64) w A0 l0.length l0) (hc0 : l0.length ≤ c0) (h : zaF.f l0 = some r) :
  Calls Tryz.prog 40 #[.slice A0 l0.length c0,.func (.func 41) #[] #[]] w fun e w' => ∃ v0_ : Value,e = .returned v0_ ∧ Kd.R Kd.string 9 w' w.heap.size (fun _ => True) v0_ r ∧ Below w.heap.size w w' := by
 unfold zaF.f at h
 split at h
 ·rename_i h4
  obtain rfl := Option.some.inj h
  exact zaF.walk A0 c0 l0 w hr0 hc0 h4.1 h4.2
 ·cases h
def zco.f (a0_0 : Int) (a0_1 : Int) : Option (Bool) := if a0_0 ≥ 0 then (if a0_0 < 10007 then (if a0_1 ≥ 0 then (some (decide (a0_1 < 10007))) else (some false)) else (some false)) else (some false)
set_option maxHeartbeats 8000000 in
set_option maxRecDepth 100000 in
theorem zco.calls (a0_0 : Int) (a0_1 : Int) (r : Bool) (w : World) (h : zco.f a0_0 a0_1 = some r) :
  Calls Tryz.prog 68 #[.agg #[.int .i64 a0_0,.int .i64 a0_1]] w fun e w' => e = .returned (.bool r) ∧ Below w.heap.size w w' := by
 have hu25 := Tryz.underlying25
 have HB := za.mk (Below.refl w.heap.size w)
 have H : (if a0_0 ≥ 0 then (if a0_0 < 10007 then (if a0_1 ≥ 0 then (some (decide (a0_1 < 10007))) else (some false)) else (some false)) else (some false)) = some r := h
 clear h
 by_cases c2 : a0_0 ≥ 0
 ·rw [if_pos c2] at H
  have c2b0 : decide (0 ≤ a0_0) = true := decide_eq_true c2
  clear c2
  by_cases c3 : a0_0 < 10007
  ·rw [if_pos c3] at H
   have c3b0 : decide (a0_0 < 10007) = true := decide_eq_true c3
   clear c3
   by_cases c4 : a0_1 ≥ 0
   ·rw [if_pos c4] at H
    have c4b0 : decide (0 ≤ a0_1) = true := decide_eq_true c4
    clear c4
    obtain rfl := Option.some.inj H
    go_enter Tryz.func68,Tryz.ntmps68
    go_wp2_with (first | ((with_reducible refine zy (N := 1) rfl ?_);refine zo ?hg (N := 1) ?hd (cs := #[.int .i64 a0_0,.int .i64 a0_1]) (t := 25) ?hr ?_;(case hd => rfl);(case hg => rfl);(case hr => first | (go_simp;done) | (go_simp;rfl));intro gb151 hg w5 hbox hb;have n_ := haq (zd hBq hb) <| haq (hbox) <| haq ((by rw [hg];exact (ze hBq) : w.heap.size ≤ gb151)) <| haq ((by rw [hg];exact (ze hBq) : w.heap.size ≤ gb151)) <| trivial;clear HB;obtain ⟨HB,BK151,GW151,GE151,_⟩ := n_;clear hb hbox hg;obtain ⟨hcz6_0,hcz6_1,hfz6_0,hfz6_1⟩ := hcq2 BK151.out))
    go_ret
    exact ⟨hHq,hCq⟩
   ·rw [if_neg c4] at H
    have c4b0 : decide (0 ≤ a0_1) = false := decide_eq_false c4
    clear c4
    obtain rfl := Option.some.inj H
    go_enter Tryz.func68,Tryz.ntmps68
    go_wp2_with (first | ((with_reducible refine zy (N := 1) rfl ?_);refine zo ?hg (N := 1) ?hd (cs := #[.int .i64 a0_0,.int .i64 a0_1]) (t := 25) ?hr ?_;(case hd => rfl);(case hg => rfl);(case hr => first | (go_simp;done) | (go_simp;rfl));intro gb151 hg w7 hbox hb;have n_ := haq (zd hBq hb) <| haq (hbox) <| haq ((by rw [hg];exact (ze hBq) : w.heap.size ≤ gb151)) <| haq ((by rw [hg];exact (ze hBq) : w.heap.size ≤ gb151)) <| trivial;clear HB;obtain ⟨HB,BK151,GW151,GE151,_⟩ := n_;clear hb hbox hg;obtain ⟨hcz8_0,hcz8_1,hfz8_0,hfz8_1⟩ := hcq2 BK151.out))
    go_ret
    exact ⟨hHq,hCq⟩
  ·rw [if_neg c3] at H
   have c3b0 : decide (a0_0 < 10007) = false := decide_eq_false c3
   clear c3
   obtain rfl := Option.some.inj H
   go_enter Tryz.func68,Tryz.ntmps68
   go_wp2_with (first | ((with_reducible refine zy (N := 1) rfl ?_);refine zo ?hg (N := 1) ?hd (cs := #[.int .i64 a0_0,.int .i64 a0_1]) (t := 25) ?hr ?_;(case hd => rfl);(case hg => rfl);(case hr => first | (go_simp;done) | (go_simp;rfl));intro gb151 hg w9 hbox hb;have n_ := haq (zd hBq hb) <| haq (hbox) <| haq ((by rw [hg];exact (ze hBq) : w.heap.size ≤ gb151)) <| haq ((by rw [hg];exact (ze hBq) : w.heap.size ≤ gb151)) <| trivial;clear HB;obtain ⟨HB,BK151,GW151,GE151,_⟩ := n_;clear hb hbox hg;obtain ⟨hcz10_0,hcz10_1,hfz10_0,hfz10_1⟩ := hcq2 BK151.out))
   go_ret
   exact ⟨hHq,hCq⟩
 ·rw [if_neg c2] at H
  have c2b0 : decide (0 ≤ a0_0) = false := decide_eq_false c2
  clear c2
  obtain rfl := Option.some.inj H
  go_enter Tryz.func68,Tryz.ntmps68
  go_wp2_with (first | ((with_reducible refine zy (N := 1) rfl ?_);refine zo ?hg (N := 1) ?hd (cs := #[.int .i64 a0_0,.int .i64 a0_1]) (t := 25) ?hr ?_;(case hd => rfl);(case hg => rfl);(case hr => first | (go_simp;done) | (go_simp;rfl));intro gb151 hg w11 hbox hb;have n_ := haq (zd hBq hb) <| haq (hbox) <| haq ((by rw [hg];exact (ze hBq) : w.heap.size ≤ gb151)) <| haq ((by rw [hg];exact (ze hBq) : w.heap.size ≤ gb151)) <| trivial;clear HB;obtain ⟨HB,BK151,GW151,GE151,_⟩ := n_;clear hb hbox hg;obtain ⟨hcz12_0,hcz12_1,hfz12_0,hfz12_1⟩ := hcq2 BK151.out))
  go_ret
  exact ⟨hHq,hCq⟩
def zaN.f (a0 : Int) : Option (Bool) := if a0 ≥ 4 then (if a0 ≤ 64 then (some ((Int.tmod a0 3) == 1)) else (some false)) else (some false)
set_option maxHeartbeats 8000000 in
set_option maxRecDepth 100000 in
theorem zaN.calls (a0 : Int) (r : Bool) (w : World) (h : zaN.f a0 = some r) :
  Calls Tryz.prog 66 #[.int .i64 a0] w fun e w' => e = .returned (.bool r) ∧ zaB w w' := by
 have H : (if a0 ≥ 4 then (if a0 ≤ 64 then (some ((Int.tmod a0 3) == 1)) else (some false)) else (some false)) = some r := h
 clear h
 by_cases c2 : a0 ≥ 4
 ·rw [if_pos c2] at H
  have c2b0 : decide (4 ≤ a0) = true := decide_eq_true c2
  clear c2
  by_cases c3 : a0 ≤ 64
  ·rw [if_pos c3] at H
   have c3b0 : decide (a0 ≤ 64) = true := decide_eq_true c3
   clear c3
   obtain rfl := Option.some.inj H
   go_enter Tryz.func66,Tryz.ntmps66
   go_wp2
   go_ret
   exact ⟨hDq,hEq⟩
  ·rw [if_neg c3] at H
   have c3b0 : decide (a0 ≤ 64) = false := decide_eq_false c3
   clear c3
   obtain rfl := Option.some.inj H
   go_enter Tryz.func66,Tryz.ntmps66
   go_wp2
   go_ret
   exact ⟨hDq,hEq⟩
 ·rw [if_neg c2] at H
  have c2b0 : decide (4 ≤ a0) = false := decide_eq_false c2
  clear c2
  obtain rfl := Option.some.inj H
  go_enter Tryz.func66,Tryz.ntmps66
  go_wp2
  go_ret
  exact ⟨hDq,hEq⟩
def zbY.f (a0 : Int) : Option (Int) := (zaN.f a0).bind fun t148 => (if t148 = true then (some (wrap64 (Int.tdiv (wrap64 (a0 - 1)) 3))) else (some 0))
set_option maxHeartbeats 8000000 in
set_option maxRecDepth 100000 in
theorem zbY.calls (a0 : Int) (r : Int) (w : World) (h : zbY.f a0 = some r) :
  Calls Tryz.prog 72 #[.int .i64 a0] w fun e w' => e = .returned (.int .i64 r) ∧ zaB w w' := by
 have H : ((zaN.f a0).bind fun t148 => (if t148 = true then (some (wrap64 (Int.tdiv (wrap64 (a0 - 1)) 3))) else (some 0))) = some r := h
 clear h
 replace H := Option.bind_eq_some_iff.mp H
 obtain ⟨t148,A20,H⟩ := H
 replace H : (if t148 = true then (some (wrap64 (Int.tdiv (wrap64 (a0 - 1)) 3))) else (some 0)) = some r := H
 have A2 := za.mk A20
 clear A20
 by_cases c3 : t148 = true
 ·subst c3
  have H1 : (some (wrap64 (Int.tdiv (wrap64 (a0 - 1)) 3))) = some r := by rw [if_pos rfl] at H;exact H
  clear H
  have H := H1
  clear H1
  obtain rfl := Option.some.inj H
  go_enter Tryz.func72,Tryz.ntmps72
  go_wp2_with (first | ((with_reducible refine zj (f := 66) rfl ?_);refine zQ (some 4) rfl rfl Tryz.func66 (by kernel_rfl) rfl #[.int .i64 a0] rfl hMq ?_;(with_reducible refine (zaN.calls a0 true _ A2.out).mono ?_);rintro e w' ⟨rfl,⟨nd,rfl⟩⟩;refine ⟨_,rfl,?_⟩))
  go_ret
  exact ⟨hDq,hEq⟩
 ·replace c3 := Bool.eq_false_iff.mpr c3
  subst c3
  have H1 : (some 0) = some r := by rw [if_neg (show ¬ (false = true) by decide)] at H;exact H
  clear H
  have H := H1
  clear H1
  obtain rfl := Option.some.inj H
  go_enter Tryz.func72,Tryz.ntmps72
  go_wp2_with (first | ((with_reducible refine zj (f := 66) rfl ?_);refine zQ (some 4) rfl rfl Tryz.func66 (by kernel_rfl) rfl #[.int .i64 a0] rfl hMq ?_;(with_reducible refine (zaN.calls a0 false _ A2.out).mono ?_);rintro e w' ⟨rfl,⟨nd,rfl⟩⟩;refine ⟨_,rfl,?_⟩))
  go_ret
  exact ⟨hDq,hEq⟩
def zaT.f (a0 : Int) : Option (Int) := (zaN.f a0).bind fun t149 => (if t149 = true then ((zbY.f a0).bind fun t150 => (some (wrap64 (a0 - t150)))) else (some 0))
set_option maxHeartbeats 8000000 in
set_option maxRecDepth 100000 in
theorem zaT.calls (a0 : Int) (r : Int) (w : World) (h : zaT.f a0 = some r) :
  Calls Tryz.prog 36 #[.int .i64 a0] w fun e w' => e = .returned (.int .i64 r) ∧ zaB w w' := by
 have H : ((zaN.f a0).bind fun t149 => (if t149 = true then ((zbY.f a0).bind fun t150 => (some (wrap64 (a0 - t150)))) else (some 0))) = some r := h
 clear h
 replace H := Option.bind_eq_some_iff.mp H
 obtain ⟨t149,A20,H⟩ := H
 replace H : (if t149 = true then ((zbY.f a0).bind fun t150 => (some (wrap64 (a0 - t150)))) else (some 0)) = some r := H
 have A2 := za.mk A20
 clear A20
 by_cases c3 : t149 = true
 ·subst c3
  have H1 : ((zbY.f a0).bind fun t150 => (some (wrap64 (a0 - t150)))) = some r := by rw [if_pos rfl] at H;exact H
  clear H
  have H := H1
  clear H1
  replace H := Option.bind_eq_some_iff.mp H
  obtain ⟨t150,A40,H⟩ := H
  replace H : (some (wrap64 (a0 - t150))) = some r := H
  have A4 := za.mk A40
  clear A40
  obtain rfl := Option.some.inj H
  go_enter Tryz.func36,Tryz.ntmps36
  go_wp2_with (first | ((with_reducible refine zj (f := 66) rfl ?_);refine zQ (some 4) rfl rfl Tryz.func66 (by kernel_rfl) rfl #[.int .i64 a0] rfl hMq ?_;(with_reducible refine (zaN.calls a0 true _ A2.out).mono ?_);rintro e w' ⟨rfl,⟨nd,rfl⟩⟩;refine ⟨_,rfl,?_⟩) | ((with_reducible refine zj (f := 72) rfl ?_);refine zQ (some 8) rfl rfl Tryz.func72 (by kernel_rfl) rfl #[.int .i64 a0] rfl hMq ?_;(with_reducible refine (zbY.calls a0 t150 _ A4.out).mono ?_);rintro e w' ⟨rfl,⟨nd,rfl⟩⟩;refine ⟨_,rfl,?_⟩))
  go_ret
  exact ⟨hDq,hEq⟩
 ·replace c3 := Bool.eq_false_iff.mpr c3
  subst c3
  have H1 : (some 0) = some r := by rw [if_neg (show ¬ (false = true) by decide)] at H;exact H
  clear H
  have H := H1
  clear H1
  obtain rfl := Option.some.inj H
  go_enter Tryz.func36,Tryz.ntmps36
  go_wp2_with (first | ((with_reducible refine zj (f := 66) rfl ?_);refine zQ (some 4) rfl rfl Tryz.func66 (by kernel_rfl) rfl #[.int .i64 a0] rfl hMq ?_;(with_reducible refine (zaN.calls a0 false _ A2.out).mono ?_);rintro e w' ⟨rfl,⟨nd,rfl⟩⟩;refine ⟨_,rfl,?_⟩))
  go_ret
  exact ⟨hDq,hEq⟩
def zau.l0 : Nat → List ByteArray → Int → List ByteArray → Int → Int → Option (Bool)
 | 0,_,_,_,_,_ => none
 | k + 1,x0,x2,x14,x15,x16 => if x16 < x15 then (if 0 ≤ x16 then (if x16 < (x14.length : Int) then (if ((zG ByteArray.empty x14 x16).size : Int) = 32 then (if x16 > 0 then (if 0 ≤ (wrap64 (x16 - 1)) then (if (wrap64 (x16 - 1)) < (x0.length : Int) then (if ((Op.bytesLess ((zG ByteArray.empty x0 (wrap64 (x16 - 1))).toList) ((zG ByteArray.empty x14 x16).toList)) = true) then (zau.l0 k x0 x2 x14 x15 (wrap64 (x16 + 1))) else (some false)) else (none)) else (none)) else (zau.l0 k x0 x2 x14 x15 (wrap64 (x16 + 1)))) else (some false)) else (none)) else (none)) else ((zaT.f x2).bind fun t154 => (if (x0.length : Int) ≥ t154 then (some (decide ((x0.length : Int) ≤ x2))) else (some false)))
def zau.f (k : Nat) (l0 : List ByteArray) (a1 : Int) (a2 : Int) : Option (Bool) := if a1 = 1 then (some ((l0.length : Int) == 0)) else (zau.l0 k l0 a2 l0 (l0.length : Int) 0)
set_option maxHeartbeats 8000000 in
set_option maxRecDepth 100000 in
theorem zau.calls (k : Nat) (A0 : Option Addr) (c0 : Nat) (l0 : List ByteArray) (a1 : Int) (a2 : Int) (r : Bool) (w : World) (hr0 : Kd.C Kd.string w A0 l0.length l0) (hc0 : l0.length ≤ c0) (h : zau.f k l0 a1 a2 = some r) :
  Calls Tryz.prog 70 #[.slice A0 l0.length c0,.int .i64 a1,.int .i64 a2] w fun e w' => e = .returned (.bool r) ∧ zaB w w' := by
 have HR0 := za.mk hr0
 have HC0 := za.mk hc0
 clear hr0 hc0
 have H : (if a1 = 1 then (some ((l0.length : Int) == 0)) else (zau.l0 k l0 a2 l0 (l0.length : Int) 0)) = some r := h
 clear h
 by_cases c4 : a1 = 1
 ·rw [if_pos c4] at H
  have c4b0 : (a1 == 1) = true := beq_iff_eq.mpr c4
  have c4b1 : (a1 != 1) = false := bne_eq_false_iff_eq.mpr c4
  clear c4
  obtain rfl := Option.some.inj H
  go_enter Tryz.func70,Tryz.ntmps70
  go_wp2
  go_ret
  exact ⟨hDq,hEq⟩
 ·rw [if_neg c4] at H
  have c4b0 : (a1 == 1) = false := beq_eq_false_iff_ne.mpr c4
  have c4b1 : (a1 != 1) = true := bne_iff_ne.mpr c4
  have H' := za.mk H
  clear H
  go_enter Tryz.func70,Tryz.ntmps70
  go_wp2
  go_loopg [16] k (fun kq v16 w' => ∃ (x16_1 : Int),v16 = .int .i64 x16_1 ∧ za (zau.l0 kq l0 a2 l0 (l0.length : Int) x16_1 = some r) ∧ za (kq ≤ k) ∧ zaB w w')
  case atStart => exact ⟨(0),(hDq),H',⟨Nat.le_refl _⟩,hEq⟩
  case round =>
   clear H'
   try clear p2;try clear c4;try clear c4b0;try clear c4b1
   obtain ⟨x16_1,rfl,HA,HK1,⟨m1,rfl⟩⟩ := hrel
   cases gk with
   | zero => exact absurd HA.out (by simp [zau.l0])
   | succ k1 =>
    have H := HA.out
    clear HA
    simp only [zau.l0] at H
    by_cases c5 : x16_1 < (l0.length : Int)
    ·rw [if_pos c5] at H
     have c5b0 : decide (x16_1 < (l0.length : Int)) = true := decide_eq_true c5
     clear c5
     by_cases c6 : 0 ≤ x16_1
     ·rw [if_pos c6] at H
      have c6b0 : decide (0 ≤ x16_1) = true := decide_eq_true c6
      clear c6
      by_cases c7 : x16_1 < (l0.length : Int)
      ·rw [if_pos c7] at H
       have c7b0 : decide (x16_1 < (l0.length : Int)) = true := decide_eq_true c7
       clear c7
       by_cases c8 : ((zG ByteArray.empty l0 x16_1).size : Int) = 32
       ·rw [if_pos c8] at H
        have c8b0 : (((zG ByteArray.empty l0 x16_1).size : Int) == 32) = true := beq_iff_eq.mpr c8
        have c8b1 : (((zG ByteArray.empty l0 x16_1).size : Int) != 32) = false := bne_eq_false_iff_eq.mpr c8
        clear c8
        by_cases c9 : x16_1 > 0
        ·rw [if_pos c9] at H
         have c9b0 : decide (0 < x16_1) = true := decide_eq_true c9
         clear c9
         obtain ⟨ji10,hji10⟩ : ∃ j_ : Int,(wrap64 (x16_1 - 1)) = j_ := ⟨_,rfl⟩
         replace H : (if 0 ≤ (ji10) then (if (ji10) < (l0.length : Int) then (if ((Op.bytesLess ((zG ByteArray.empty l0 (ji10)).toList) ((zG ByteArray.empty l0 x16_1).toList)) = true) then (zau.l0 k1 l0 a2 l0 (l0.length : Int) (wrap64 (x16_1 + 1))) else (some false)) else (none)) else (none)) = some r := by first | (rw [hji10] at H;exact H) | (simp only [hji10] at H ⊢;exact H)
         have hji10w : (IntKind.i64.wrap (x16_1 - 1)) = ji10 := (zK _).trans hji10
         by_cases c11 : 0 ≤ (ji10)
         ·rw [if_pos c11] at H
          have c11b0 : decide (0 ≤ (ji10)) = true := decide_eq_true c11
          clear c11
          by_cases c12 : (ji10) < (l0.length : Int)
          ·rw [if_pos c12] at H
           have c12b0 : decide ((ji10) < (l0.length : Int)) = true := decide_eq_true c12
           clear c12
           by_cases c13 : ((Op.bytesLess ((zG ByteArray.empty l0 (ji10)).toList) ((zG ByteArray.empty l0 x16_1).toList)) = true)
           ·rw [if_pos c13] at H
            have c13b0 : (Op.bytesLess ((zG ByteArray.empty l0 (ji10)).toList) ((zG ByteArray.empty l0 x16_1).toList)) = true := c13
            clear c13
            have H' := za.mk H
            clear H
            have p152 : 0 ≤ (x16_1 : Int) := hFq
            have q152 : x16_1 < (l0.length : Int) := hFq
            obtain ⟨ad152,e152,hx152_0⟩ := Kd.at_string HR0.out x16_1 p152 q152
            cases e152
            replace p152 := eq_true p152
            replace q152 := eq_true q152
            have p153 : 0 ≤ ((ji10) : Int) := hFq
            have q153 : (ji10) < (l0.length : Int) := hFq
            obtain ⟨ad153,e153,hx153_0⟩ := Kd.at_string HR0.out (ji10) p153 q153
            obtain rfl : ad152 = ad153 := (by injection e153)
            replace p153 := eq_true p153
            replace q153 := eq_true q153
            go_wp2
            go_roundg k1
            case measure => have := HK1.out;omega
            case rel => exact ⟨(wrap64 (x16_1 + 1)),(hDq),H',⟨by have := HK1.out;omega⟩,hEq⟩
           ·rw [if_neg c13] at H
            have c13b0 : (Op.bytesLess ((zG ByteArray.empty l0 (ji10)).toList) ((zG ByteArray.empty l0 x16_1).toList)) = false := by simpa using c13
            clear c13
            obtain rfl := Option.some.inj H
            have p152 : 0 ≤ (x16_1 : Int) := hFq
            have q152 : x16_1 < (l0.length : Int) := hFq
            obtain ⟨ad152,e152,hx152_0⟩ := Kd.at_string HR0.out x16_1 p152 q152
            cases e152
            replace p152 := eq_true p152
            replace q152 := eq_true q152
            have p153 : 0 ≤ ((ji10) : Int) := hFq
            have q153 : (ji10) < (l0.length : Int) := hFq
            obtain ⟨ad153,e153,hx153_0⟩ := Kd.at_string HR0.out (ji10) p153 q153
            obtain rfl : ad152 = ad153 := (by injection e153)
            replace p153 := eq_true p153
            replace q153 := eq_true q153
            go_wp2
            go_ret
            exact ⟨by first | rfl | (simp;done) | (simp only [← hji10] <;> (first | rfl | simp)) | (simp [*];done),hEq⟩
          ·rw [if_neg c12] at H
           exact absurd H (by simp)
         ·rw [if_neg c11] at H
          exact absurd H (by simp)
        ·rw [if_neg c9] at H
         have c9b0 : decide (0 < x16_1) = false := decide_eq_false c9
         clear c9
         have H' := za.mk H
         clear H
         have p152 : 0 ≤ (x16_1 : Int) := hFq
         have q152 : x16_1 < (l0.length : Int) := hFq
         obtain ⟨ad152,e152,hx152_0⟩ := Kd.at_string HR0.out x16_1 p152 q152
         cases e152
         replace p152 := eq_true p152
         replace q152 := eq_true q152
         go_wp2
         go_roundg k1
         case measure => have := HK1.out;omega
         case rel => exact ⟨(wrap64 (x16_1 + 1)),(hDq),H',⟨by have := HK1.out;omega⟩,hEq⟩
       ·rw [if_neg c8] at H
        have c8b0 : (((zG ByteArray.empty l0 x16_1).size : Int) == 32) = false := beq_eq_false_iff_ne.mpr c8
        have c8b1 : (((zG ByteArray.empty l0 x16_1).size : Int) != 32) = true := bne_iff_ne.mpr c8
        obtain rfl := Option.some.inj H
        have p152 : 0 ≤ (x16_1 : Int) := hFq
        have q152 : x16_1 < (l0.length : Int) := hFq
        obtain ⟨ad152,e152,hx152_0⟩ := Kd.at_string HR0.out x16_1 p152 q152
        cases e152
        replace p152 := eq_true p152
        replace q152 := eq_true q152
        go_wp2
        go_ret
        exact ⟨hDq,hEq⟩
      ·rw [if_neg c7] at H
       exact absurd H (by simp)
     ·rw [if_neg c6] at H
      exact absurd H (by simp)
    ·rw [if_neg c5] at H
     have c5b0 : decide (x16_1 < (l0.length : Int)) = false := decide_eq_false c5
     clear c5
     replace H := Option.bind_eq_some_iff.mp H
     obtain ⟨t154,A140,H⟩ := H
     replace H : (if (l0.length : Int) ≥ t154 then (some (decide ((l0.length : Int) ≤ a2))) else (some false)) = some r := H
     have A14 := za.mk A140
     clear A140
     by_cases c15 : (l0.length : Int) ≥ t154
     ·rw [if_pos c15] at H
      have c15b0 : decide (t154 ≤ (l0.length : Int)) = true := decide_eq_true c15
      clear c15
      obtain rfl := Option.some.inj H
      go_wp2_with (first | ((with_reducible refine zj (f := 36) rfl ?_);refine zQ (some 41) rfl rfl Tryz.func36 (by kernel_rfl) rfl #[.int .i64 a2] rfl hMq ?_;(with_reducible refine (zaT.calls a2 t154 _ A14.out).mono ?_);rintro e w' ⟨rfl,⟨nd,rfl⟩⟩;refine ⟨_,rfl,?_⟩))
      go_ret
      exact ⟨hDq,hEq⟩
     ·rw [if_neg c15] at H
      have c15b0 : decide (t154 ≤ (l0.length : Int)) = false := decide_eq_false c15
      clear c15
      obtain rfl := Option.some.inj H
      go_wp2_with (first | ((with_reducible refine zj (f := 36) rfl ?_);refine zQ (some 41) rfl rfl Tryz.func36 (by kernel_rfl) rfl #[.int .i64 a2] rfl hMq ?_;(with_reducible refine (zaT.calls a2 t154 _ A14.out).mono ?_);rintro e w' ⟨rfl,⟨nd,rfl⟩⟩;refine ⟨_,rfl,?_⟩))
      go_ret
      exact ⟨hDq,hEq⟩
def zb0.f (a0 : Int) : Option (Bool) := if a0 ≥ 3 then (some ((Int.tmod a0 3) == 0)) else (some false)
set_option maxHeartbeats 8000000 in
set_option maxRecDepth 100000 in
theorem zb0.calls (a0 : Int) (r : Bool) (w : World) (h : zb0.f a0 = some r) :
  Calls Tryz.prog 69 #[.int .i64 a0] w fun e w' => e = .returned (.bool r) ∧ zaB w w' := by
 have H : (if a0 ≥ 3 then (some ((Int.tmod a0 3) == 0)) else (some false)) = some r := h
 clear h
 by_cases c2 : a0 ≥ 3
 ·rw [if_pos c2] at H
  have c2b0 : decide (3 ≤ a0) = true := decide_eq_true c2
  clear c2
  obtain rfl := Option.some.inj H
  go_enter Tryz.func69,Tryz.ntmps69
  go_wp2
  go_ret
  exact ⟨hDq,hEq⟩
 ·rw [if_neg c2] at H
  have c2b0 : decide (3 ≤ a0) = false := decide_eq_false c2
  clear c2
  obtain rfl := Option.some.inj H
  go_enter Tryz.func69,Tryz.ntmps69
  go_wp2
  go_ret
  exact ⟨hDq,hEq⟩
end Go.Proofs.YtfhbeonhnhjikaaGreat.Px