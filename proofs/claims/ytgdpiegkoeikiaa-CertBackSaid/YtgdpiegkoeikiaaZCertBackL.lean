/- Part 12 of 30 of the proof of the law CertBack: what is proved is the statement at the end of the last part; its conditions are those of the given row. -/
import Derived.Test.YtgdpiegkoeikiaaZCertBackK
namespace Go.Proofs.Ytgdpiegkoeikiaa.Px
open Go.RowKit Go.Proofs.YtgdpiegkoeikiaaW.PrintWords Go.Proofs.YtgdpiegkoeikiaaW.PrintLast Go.Proofs.YtgdpiegkoeikiaaW.PrintMore
attribute [local go_sem] zx zz zJ zK zn zo zy zA
set_option linter.unusedVariables false
set_option linter.unusedSimpArgs false
def zao.j0 : Nat → ByteArray → Int → Int → Bool → Option (Int × Int × List ByteArray × Int)
 | 0,_,_,_,_ => none
 | k + 1,x0,x4,x6,x37 => if x37 = true then (some (0,0,([] : List ByteArray),3)) else ((zT.f x0 4 48).bind fun bt128 => (if bt128.2.2 = 0 then (if bt128.2.1.toList = ([] : List UInt8) then ((zaG.f (wrap64 (x4)) (wrap64 (x6)) bt128.1).bind fun t134 => (if t134 = true then (some (wrap64 (x4),wrap64 (x6),bt128.1,0)) else (some (0,0,([] : List ByteArray),3)))) else (some (0,0,([] : List ByteArray),3))) else (some (0,0,([] : List ByteArray),3))))
def zao.f (k : Nat) (a0 : ByteArray) : Option (Int × Int × List ByteArray × Int) := (zC.f k a0).bind fun bt122 => ((zC.f k bt122.2.1).bind fun bt125 => (if bt122.2.2 = 0 then (if bt125.2.2 = 0 then (if bt122.1 > 64 then (zao.j0 k bt125.2.1 bt122.1 bt125.1 true) else (zao.j0 k bt125.2.1 bt122.1 bt125.1 (decide (bt125.1 > 1073741824)))) else (zao.j0 k bt125.2.1 bt122.1 bt125.1 true)) else (zao.j0 k bt125.2.1 bt122.1 bt125.1 true)))
set_option maxHeartbeats 8000000 in
set_option maxRecDepth 100000 in
theorem zao.calls (k : Nat) (a0 : ByteArray) (r1 : Int) (r2 : Int) (r3 : List ByteArray) (r4 : Int) (w : World) (h : zao.f k a0 = some (r1,r2,r3,r4)) :
  Calls Try.prog 58 #[.string a0] w fun e w' => ∃ v2_ : Value,e = .returned (.tuple #[.agg #[.int .i64 r1,.int .i64 r2,v2_],.int .i64 r4]) ∧ Kd.R Kd.string 9 w' w.heap.size (fun _ => True) v2_ r3 ∧ Below w.heap.size w w' := by
 have hu107 := Try.underlying107
 have HB := zc.mk (Below.refl w.heap.size w)
 have H : ((zC.f k a0).bind fun bt122 => ((zC.f k bt122.2.1).bind fun bt125 => (if bt122.2.2 = 0 then (if bt125.2.2 = 0 then (if bt122.1 > 64 then (zao.j0 k bt125.2.1 bt122.1 bt125.1 true) else (zao.j0 k bt125.2.1 bt122.1 bt125.1 (decide (bt125.1 > 1073741824)))) else (zao.j0 k bt125.2.1 bt122.1 bt125.1 true)) else (zao.j0 k bt125.2.1 bt122.1 bt125.1 true)))) = some (r1,r2,r3,r4) := h
 clear h
 replace H := Option.bind_eq_some_iff.mp H
 obtain ⟨⟨t122,t123,t124⟩,A20,H⟩ := H
 replace H : ((zC.f k t123).bind fun bt125 => (if t124 = 0 then (if bt125.2.2 = 0 then (if t122 > 64 then (zao.j0 k bt125.2.1 t122 bt125.1 true) else (zao.j0 k bt125.2.1 t122 bt125.1 (decide (bt125.1 > 1073741824)))) else (zao.j0 k bt125.2.1 t122 bt125.1 true)) else (zao.j0 k bt125.2.1 t122 bt125.1 true))) = some (r1,r2,r3,r4) := H
 have A2 := zc.mk A20
 clear A20
 replace H := Option.bind_eq_some_iff.mp H
 obtain ⟨⟨t125,t126,t127⟩,A30,H⟩ := H
 replace H : (if t124 = 0 then (if t127 = 0 then (if t122 > 64 then (zao.j0 k t126 t122 t125 true) else (zao.j0 k t126 t122 t125 (decide (t125 > 1073741824)))) else (zao.j0 k t126 t122 t125 true)) else (zao.j0 k t126 t122 t125 true)) = some (r1,r2,r3,r4) := H
 have A3 := zc.mk A30
 clear A30
 have HC4 := zc.mk H
 clear H
 go_enter Try.func58,Try.ntmps58
 go_upto_region 3 with (first | ((with_reducible refine zD (N := 2) rfl ?_);refine zq ?hg (N := 2) ?hd (cs := #[.int .i64 0,.int .i64 0,.slice none 0 0]) (t := 107) ?hr ?_;(case hd => rfl);(case hg => rfl);(case hr => first | (go_simp;done) | (go_simp;rfl));intro gb121 hg w5 hbox hb;have n0_ := zc.mk (zg hBq hb);have n1_ := zc.mk (hbox);have n2_ := zc.mk ((by rw [hg];exact (zj hBq) : w.heap.size ≤ gb121));have n3_ := zc.mk ((by rw [hg];exact (zj hBq) : w.heap.size ≤ gb121));clear HB;have HB := n0_;have BK121 := n1_;have GW121 := n2_;have GE121 := n3_;clear n0_ n1_ n2_ n3_;clear hb hbox hg) | ((with_reducible refine zp (f := 53) rfl ?_);refine z6 (some 14) rfl rfl Try.func53 (by kernel_rfl) rfl #[.string a0] rfl (by (try simp only [List.map_toArray,List.map_cons,List.map_nil]);first | done | rfl | (simp only [List.length_drop,List.length_take];rfl)) ?_;(with_reducible refine (zC.calls k a0 t122 t123 t124 _ A2.out).mono ?_);rintro e w' ⟨rfl,⟨nd,rfl⟩⟩;refine ⟨_,rfl,?_⟩) | ((with_reducible refine zp (f := 53) rfl ?_);refine z6 (some 20) rfl rfl Try.func53 (by kernel_rfl) rfl #[.string t123] rfl (by (try simp only [List.map_toArray,List.map_cons,List.map_nil]);first | done | rfl | (simp only [List.length_drop,List.length_take];rfl)) ?_;(with_reducible refine (zC.calls k t123 t125 t126 t127 _ A3.out).mono ?_);rintro e w' ⟨rfl,⟨nd,rfl⟩⟩;refine ⟨_,rfl,?_⟩))
 (try simp only [Act.put,List.setIfInBounds_toArray,List.set_cons_zero,List.set_cons_succ])
 go_cut [37] (fun v37 wc => ∃ (kq : Nat) (x37_3 : Bool),v37 = .bool x37_3 ∧ zc (zao.j0 kq t126 t122 t125 x37_3 = some (r1,r2,r3,r4)) ∧ zc (kq ≤ k) ∧ zc (wc.heap[gb121]? = some (.cells #[.int .i64 0,.int .i64 0,(.slice none 0 0)] 107 (0,0))) ∧ zc (Below w.heap.size w wc))
 case first =>
  have H := HC4.out
  clear HC4
  by_cases c6 : t124 = 0
  ·rw [if_pos c6] at H
   have c6b0 : (t124 == 0) = true := beq_iff_eq.mpr c6
   have c6b1 : (t124 != 0) = false := bne_eq_false_iff_eq.mpr c6
   clear c6
   (first | rw [c6b0] | (simp only [zN,zQ];rw [c6b0]) | skip)
   by_cases c7 : t127 = 0
   ·rw [if_pos c7] at H
    have c7b0 : (t127 == 0) = true := beq_iff_eq.mpr c7
    have c7b1 : (t127 != 0) = false := bne_eq_false_iff_eq.mpr c7
    clear c7
    by_cases c8 : t122 > 64
    ·rw [if_pos c8] at H
     have c8b0 : decide (64 < t122) = true := decide_eq_true c8
     clear c8
     have H' := zc.mk H
     clear H
     go_wp2
     go_meet
     case rel => exact ⟨_,(true),(hDq),H',⟨by first | omega | exact Nat.le_refl _⟩,⟨hGq BK121.out⟩,⟨by repeat (first | (with_reducible first | exact HB.out | apply zI | apply zk | apply zB | refine zw ?_ GE121.out) | exact HB.out)⟩⟩
    ·rw [if_neg c8] at H
     have c8b0 : decide (64 < t122) = false := decide_eq_false c8
     clear c8
     have H' := zc.mk H
     clear H
     go_wp2
     go_meet
     case rel => exact ⟨_,(decide (t125 > 1073741824)),(hDq),H',⟨by first | omega | exact Nat.le_refl _⟩,⟨hGq BK121.out⟩,⟨by repeat (first | (with_reducible first | exact HB.out | apply zI | apply zk | apply zB | refine zw ?_ GE121.out) | exact HB.out)⟩⟩
   ·rw [if_neg c7] at H
    have c7b0 : (t127 == 0) = false := beq_eq_false_iff_ne.mpr c7
    have c7b1 : (t127 != 0) = true := bne_iff_ne.mpr c7
    have H' := zc.mk H
    clear H
    go_wp2
    go_meet
    case rel => exact ⟨_,(true),(hDq),H',⟨by first | omega | exact Nat.le_refl _⟩,⟨hGq BK121.out⟩,⟨by repeat (first | (with_reducible first | exact HB.out | apply zI | apply zk | apply zB | refine zw ?_ GE121.out) | exact HB.out)⟩⟩
  ·rw [if_neg c6] at H
   have c6b0 : (t124 == 0) = false := beq_eq_false_iff_ne.mpr c6
   have c6b1 : (t124 != 0) = true := bne_iff_ne.mpr c6
   (first | rw [c6b0] | (simp only [zN,zQ];rw [c6b0]) | skip)
   have H' := zc.mk H
   clear H
   go_wp2
   go_meet
   case rel => exact ⟨_,(true),(hDq),H',⟨by first | omega | exact Nat.le_refl _⟩,⟨hGq BK121.out⟩,⟨by repeat (first | (with_reducible first | exact HB.out | apply zI | apply zk | apply zB | refine zw ?_ GE121.out) | exact HB.out)⟩⟩
 case rest =>
  clear HC4
  try clear p2
  try clear c5
  try clear c6
  try clear c6b0
  try clear c6b1
  try clear c7
  try clear c7b0
  try clear c7b1
  try clear c8
  try clear c8b0
  obtain ⟨kq,x37_3,rfl,HA,HJ3,BK121,HB⟩ := hcut
  cases kq with
  | zero => exact absurd HA.out (by simp [zao.j0])
  | succ kj3 =>
   have H := HA.out
   clear HA
   simp only [zao.j0] at H
   by_cases c9 : x37_3 = true
   ·subst c9
    have H1 : (some (0,0,([] : List ByteArray),3)) = some (r1,r2,r3,r4) := by rw [if_pos rfl] at H;exact H
    clear H
    have H := H1
    clear H1
    simp only [Option.some.injEq,Prod.mk.injEq] at H
    obtain ⟨rfl,rfl,rfl,rfl⟩ := H
    have hcz10_0 : wc.cell? ⟨gb121,0,none⟩ = some (.int .i64 0) := (zb BK121.out 0).trans rfl
    have hcz10_1 : wc.cell? ⟨gb121,1,none⟩ = some (.int .i64 0) := (zb BK121.out 1).trans rfl
    have hcz10_2 : wc.cell? ⟨gb121,2,none⟩ = some (.slice none 0 0) := (zb BK121.out 2).trans rfl
    have hfz10_0 := za BK121.out 0
    have hfz10_1 := za BK121.out 1
    have hfz10_2 := za BK121.out 2
    go_wp2
    refine bodyPost_ret (zbm rfl _ _ gb121 107 #[.int .i64 0,.int .i64 0,.slice none 0 0] (0,0) _ rfl (by (with_reducible repeat (first | refine zd ?_ _ | refine zf ?_ | refine ze ?_ _));refine zm (cs := #[.int .i64 0,.int .i64 0,.slice none 0 0]) ?_ 2 _ rfl;(with_reducible repeat (first | refine zd ?_ _ | refine zf ?_ | refine ze ?_ _));refine zm (cs := #[.int .i64 0,.int .i64 0,.slice none 0 0]) ?_ 1 _ rfl;(with_reducible repeat (first | refine zd ?_ _ | refine zf ?_ | refine ze ?_ _));refine zm (cs := #[.int .i64 0,.int .i64 0,.slice none 0 0]) ?_ 0 _ rfl;(with_reducible repeat (first | refine zd ?_ _ | refine zf ?_ | refine ze ?_ _));exact BK121.out) Try.underlying107 rfl (by kernel_rfl)) rfl ?_
    exact ⟨_,hHq,by first | exact Kd.R_nil _ _ _ _ _ | exact Kd.N_nil _ _ _ _ _ | exact Kd.V_nil _ _ _ _ _ | exact Kd.Q_nil _ _ _ _ _ | exact Kd.S_nil _ _ _ _ _,hCq⟩
   ·replace c9 := Bool.eq_false_iff.mpr c9
    subst c9
    have H1 : ((zT.f t126 4 48).bind fun bt128 => (if bt128.2.2 = 0 then (if bt128.2.1.toList = ([] : List UInt8) then ((zaG.f (wrap64 (t122)) (wrap64 (t125)) bt128.1).bind fun t134 => (if t134 = true then (some (wrap64 (t122),wrap64 (t125),bt128.1,0)) else (some (0,0,([] : List ByteArray),3)))) else (some (0,0,([] : List ByteArray),3))) else (some (0,0,([] : List ByteArray),3)))) = some (r1,r2,r3,r4) := by rw [if_neg (show ¬ (false = true) by decide)] at H;exact H
    clear H
    have H := H1
    clear H1
    replace H := Option.bind_eq_some_iff.mp H
    obtain ⟨⟨t128,t129,t130⟩,A110,H⟩ := H
    replace H : (if t130 = 0 then (if t129.toList = ([] : List UInt8) then ((zaG.f (wrap64 (t122)) (wrap64 (t125)) t128).bind fun t134 => (if t134 = true then (some (wrap64 (t122),wrap64 (t125),t128,0)) else (some (0,0,([] : List ByteArray),3)))) else (some (0,0,([] : List ByteArray),3))) else (some (0,0,([] : List ByteArray),3))) = some (r1,r2,r3,r4) := H
    have A11 := zc.mk A110
    clear A110
    by_cases c12 : t130 = 0
    focus
     rw [if_pos c12] at H
     have c12b0 : (t130 == 0) = true := beq_iff_eq.mpr c12
     have c12b1 : (t130 != 0) = false := bne_eq_false_iff_eq.mpr c12
     clear c12
     by_cases c13 : t129.toList = ([] : List UInt8)
     focus
      rw [if_pos c13] at H
      have c13b0 : (t129.toList == ([] : List UInt8)) = true := beq_iff_eq.mpr c13
      have c13b1 : (t129.toList != ([] : List UInt8)) = false := bne_eq_false_iff_eq.mpr c13
      clear c13
      replace H := Option.bind_eq_some_iff.mp H
      obtain ⟨t134,A140,H⟩ := H
      replace H : (if t134 = true then (some (wrap64 (t122),wrap64 (t125),t128,0)) else (some (0,0,([] : List ByteArray),3))) = some (r1,r2,r3,r4) := H
      have A14 := zc.mk A140
      clear A140
      by_cases c15 : t134 = true
      focus
       subst c15
       have H1 : (some (wrap64 (t122),wrap64 (t125),t128,0)) = some (r1,r2,r3,r4) := by rw [if_pos rfl] at H;exact H
       clear H
       have H := H1
       clear H1
       simp only [Option.some.injEq,Prod.mk.injEq] at H
       obtain ⟨rfl,rfl,rfl,rfl⟩ := H
       have EQ0 := True.intro
       have EQ1 := True.intro
      rotate_left
      focus
       replace c15 := Bool.eq_false_iff.mpr c15
       subst c15
       have H1 : (some (0,0,([] : List ByteArray),3)) = some (r1,r2,r3,r4) := by rw [if_neg (show ¬ (false = true) by decide)] at H;exact H
       clear H
       have H := H1
       clear H1
       simp only [Option.some.injEq,Prod.mk.injEq] at H
       obtain ⟨rfl,rfl,rfl,rfl⟩ := H
       have EQ0 := True.intro
       have EQ2 := True.intro
     rotate_left 2
     focus
      rw [if_neg c13] at H
      have c13b0 : (t129.toList == ([] : List UInt8)) = false := beq_eq_false_iff_ne.mpr c13
      have c13b1 : (t129.toList != ([] : List UInt8)) = true := bne_iff_ne.mpr c13
      simp only [Option.some.injEq,Prod.mk.injEq] at H
      obtain ⟨rfl,rfl,rfl,rfl⟩ := H
      have EQ3 := True.intro
    rotate_left 3
    focus
     rw [if_neg c12] at H
     have c12b0 : (t130 == 0) = false := beq_eq_false_iff_ne.mpr c12
     have c12b1 : (t130 != 0) = true := bne_iff_ne.mpr c12
     simp only [Option.some.injEq,Prod.mk.injEq] at H
     obtain ⟨rfl,rfl,rfl,rfl⟩ := H
     have EQ3 := True.intro
    all_goals
     go_wp2_with (first | ((with_reducible refine zp (f := 57) rfl ?_);refine z6 (some 41) rfl rfl Try.func57 (by kernel_rfl) rfl #[.string t126,.int .i64 4,.int .i64 48] rfl (by (try simp only [List.map_toArray,List.map_cons,List.map_nil]);first | done | rfl | (simp only [List.length_drop,List.length_take];rfl)) ?_;(with_reducible refine (zT.calls t126 4 48 t128 t129 t130 _ A11.out).mono ?_);rintro e wQF57A111 ⟨vQF57A112,rfl,hoQF57A113,hb⟩;refine ⟨_,rfl,?_⟩;have n0_ := zc.mk (Kd.R_lower hoQF57A113 (zj hCq));have n1_ := zc.mk (zh (g := gb121) (o := .cells #[.int .i64 0,.int .i64 0,.slice none 0 0] 107 (0,0)) (hGq BK121.out) hb);have n2_ := zc.mk (zg hCq hb);clear BK121;clear HB;have HOQF57A114 := n0_;have BK121 := n1_;have HB := n2_;clear n0_ n1_ n2_;(try clear hb);(try clear hb2);(try clear hk);(try clear hi);(try clear hoQF57A113);obtain ⟨AoQF57A116,coQF57A117,eoQF57A118⟩ := Kd.R_slice HOQF57A114.out;subst eoQF57A118) | (have _ := EQ0;((with_reducible refine zD (N := 11) rfl ?_);refine zq ?hg (N := 11) ?hd (cs := #[.int .i64 0,.int .i64 0,.slice none 0 0]) (t := 107) ?hr ?_;(case hd => rfl);(case hg => rfl);(case hr => first | (go_simp;done) | (go_simp;rfl));intro gb133 hg wQN112 hbox hb;have n0_ := zc.mk (Kd.R_below (by (with_reducible repeat (first | apply Kd.R_alloc | apply Kd.R_drewN | apply Kd.R_drew));exact HOQF57A114.out) hb);have n1_ := zc.mk (zh (g := gb121) (o := .cells #[.int .i64 0,.int .i64 0,.slice none 0 0] 107 (0,0)) (hGq BK121.out) hb);have n2_ := zc.mk (zg hCq hb);have n3_ := zc.mk (hbox);have n4_ := zc.mk ((by rw [hg];exact (zj hCq) : w.heap.size ≤ gb133));have n5_ := zc.mk ((by rw [hg];exact (zj hCq) : w.heap.size ≤ gb133));have n6_ := zc.mk ((by rw [hg];exact Nat.ne_of_lt (z8 (g := gb121) (o := .cells #[.int .i64 0,.int .i64 0,.slice none 0 0] 107 (0,0)) (hGq BK121.out)) : gb121 ≠ gb133));have n7_ := zc.mk ((by rw [hg];exact Nat.ne_of_gt (z8 (g := gb121) (o := .cells #[.int .i64 0,.int .i64 0,.slice none 0 0] 107 (0,0)) (hGq BK121.out)) : gb133 ≠ gb121));clear HOQF57A114;clear BK121;clear HB;have HOQF57A114 := n0_;have BK121 := n1_;have HB := n2_;have BK133 := n3_;have GW133 := n4_;have GE133 := n5_;have NBQN118 := n6_;have NBQN119 := n7_;clear n0_ n1_ n2_ n3_ n4_ n5_ n6_ n7_;clear hb hbox hg;have hnbQN1110 := NBQN119.out;have hncQN1111 := NBQN118.out;have hczQN1112 : wQN112.cell? ⟨gb133,0,none⟩ = some (.int .i64 0) := (zb BK133.out 0).trans rfl;have hczQN1113 : wQN112.cell? ⟨gb133,1,none⟩ = some (.int .i64 0) := (zb BK133.out 1).trans rfl;have hczQN1114 : wQN112.cell? ⟨gb133,2,none⟩ = some (.slice none 0 0) := (zb BK133.out 2).trans rfl;have hfzQN1115 := za BK133.out 0;have hfzQN1116 := za BK133.out 1;have hfzQN1117 := za BK133.out 2)) | (have _ := EQ1;(go_at_call 87;(with_reducible refine (zaG.calls (wrap64 (t122)) (wrap64 (t125)) _ _ t128 true _ ?side1 ?side2 A14.out).mono ?_);(case side1 => refine (Kd.R_reads' (e := 9) (base := w.heap.size) (ok := fun k_ => True) (n := t128.length) (c := coQF57A117) ?_).2.2;exact (by (with_reducible repeat (first | apply Kd.R_alloc | apply Kd.R_drewN | apply Kd.R_drew));exact (Kd.R_mono (Kd.R_far (p := ⟨gb133,2,none⟩) (Kd.R_far (p := ⟨gb133,1,none⟩) (Kd.R_far (p := ⟨gb133,0,none⟩) (Kd.R_types HOQF57A114.out BK133.out (by decide)) (fun _ hk => hk.2) (.int .i64 (wrap64 (t122)))) (fun _ hk => hk.2) (.int .i64 (wrap64 (t125)))) (fun _ hk => hk.2) (.slice AoQF57A116 t128.length coQF57A117)) (fun _ h_ => h_.1))));(case side2 => exact (Kd.R_reads' HOQF57A114.out).2.1);rintro e wQC87A141 ⟨rfl,hb⟩;have n0_ := zc.mk (Kd.R_below (by (with_reducible repeat (first | apply Kd.R_alloc | apply Kd.R_drewN | apply Kd.R_drew));exact (Kd.R_mono (Kd.R_far (p := ⟨gb133,2,none⟩) (Kd.R_far (p := ⟨gb133,1,none⟩) (Kd.R_far (p := ⟨gb133,0,none⟩) (Kd.R_types HOQF57A114.out BK133.out (by decide)) (fun _ hk => hk.2) (.int .i64 (wrap64 (t122)))) (fun _ hk => hk.2) (.int .i64 (wrap64 (t125)))) (fun _ hk => hk.2) (.slice AoQF57A116 t128.length coQF57A117)) (fun _ h_ => h_.1))) hb);have n1_ := zc.mk (zh (g := gb121) (o := .cells #[.int .i64 0,.int .i64 0,.slice none 0 0] 107 (0,0)) (by (with_reducible repeat (first | refine zd ?_ _ | refine zf ?_ | refine ze ?_ _));refine zl ?_ NBQN118.out _;(with_reducible repeat (first | refine zd ?_ _ | refine zf ?_ | refine ze ?_ _));refine zl ?_ NBQN118.out _;(with_reducible repeat (first | refine zd ?_ _ | refine zf ?_ | refine ze ?_ _));refine zl ?_ NBQN118.out _;(with_reducible repeat (first | refine zd ?_ _ | refine zf ?_ | refine ze ?_ _));exact BK121.out) hb);have n2_ := zc.mk (zh (g := gb133) (o := .cells #[.int .i64 (wrap64 (t122)),.int .i64 (wrap64 (t125)),.slice AoQF57A116 t128.length coQF57A117] 107 (0,0)) (by (with_reducible repeat (first | refine zd ?_ _ | refine zf ?_ | refine ze ?_ _));refine zm (cs := #[.int .i64 (wrap64 (t122)),.int .i64 (wrap64 (t125)),.slice none 0 0]) ?_ 2 _ rfl;(with_reducible repeat (first | refine zd ?_ _ | refine zf ?_ | refine ze ?_ _));refine zm (cs := #[.int .i64 (wrap64 (t122)),.int .i64 0,.slice none 0 0]) ?_ 1 _ rfl;(with_reducible repeat (first | refine zd ?_ _ | refine zf ?_ | refine ze ?_ _));refine zm (cs := #[.int .i64 0,.int .i64 0,.slice none 0 0]) ?_ 0 _ rfl;(with_reducible repeat (first | refine zd ?_ _ | refine zf ?_ | refine ze ?_ _));exact BK133.out) hb);have n3_ := zc.mk (zg hCq hb);clear HOQF57A114;clear BK121;clear BK133;clear HB;have HOQF57A114 := n0_;have BK121 := n1_;have BK133 := n2_;have HB := n3_;clear n0_ n1_ n2_ n3_;(try clear hb);(try clear hb2);(try clear hk);(try clear hi);have hczQC87A145 : wQC87A141.cell? ⟨gb133,0,none⟩ = some (.int .i64 (wrap64 (t122))) := (zb BK133.out 0).trans rfl;have hczQC87A146 : wQC87A141.cell? ⟨gb133,1,none⟩ = some (.int .i64 (wrap64 (t125))) := (zb BK133.out 1).trans rfl;have hczQC87A147 : wQC87A141.cell? ⟨gb133,2,none⟩ = some (.slice AoQF57A116 t128.length coQF57A117) := (zb BK133.out 2).trans rfl;have hfzQC87A148 := za BK133.out 0;have hfzQC87A149 := za BK133.out 1;have hfzQC87A1410 := za BK133.out 2;have hczQC87A1411 : wQC87A141.cell? ⟨gb121,0,none⟩ = some (.int .i64 0) := (zb BK121.out 0).trans rfl;have hczQC87A1412 : wQC87A141.cell? ⟨gb121,1,none⟩ = some (.int .i64 0) := (zb BK121.out 1).trans rfl;have hczQC87A1413 : wQC87A141.cell? ⟨gb121,2,none⟩ = some (.slice none 0 0) := (zb BK121.out 2).trans rfl;have hfzQC87A1414 := za BK121.out 0;have hfzQC87A1415 := za BK121.out 1;have hfzQC87A1416 := za BK121.out 2)) | (have _ := EQ2;(go_at_call 87;(with_reducible refine (zaG.calls (wrap64 (t122)) (wrap64 (t125)) _ _ t128 false _ ?side1 ?side2 A14.out).mono ?_);(case side1 => refine (Kd.R_reads' (e := 9) (base := w.heap.size) (ok := fun k_ => True) (n := t128.length) (c := coQF57A117) ?_).2.2;exact (by (with_reducible repeat (first | apply Kd.R_alloc | apply Kd.R_drewN | apply Kd.R_drew));exact (Kd.R_mono (Kd.R_far (p := ⟨gb133,2,none⟩) (Kd.R_far (p := ⟨gb133,1,none⟩) (Kd.R_far (p := ⟨gb133,0,none⟩) (Kd.R_types HOQF57A114.out BK133.out (by decide)) (fun _ hk => hk.2) (.int .i64 (wrap64 (t122)))) (fun _ hk => hk.2) (.int .i64 (wrap64 (t125)))) (fun _ hk => hk.2) (.slice AoQF57A116 t128.length coQF57A117)) (fun _ h_ => h_.1))));(case side2 => exact (Kd.R_reads' HOQF57A114.out).2.1);rintro e wQC87A141 ⟨rfl,hb⟩;have n0_ := zc.mk (Kd.R_below (by (with_reducible repeat (first | apply Kd.R_alloc | apply Kd.R_drewN | apply Kd.R_drew));exact (Kd.R_mono (Kd.R_far (p := ⟨gb133,2,none⟩) (Kd.R_far (p := ⟨gb133,1,none⟩) (Kd.R_far (p := ⟨gb133,0,none⟩) (Kd.R_types HOQF57A114.out BK133.out (by decide)) (fun _ hk => hk.2) (.int .i64 (wrap64 (t122)))) (fun _ hk => hk.2) (.int .i64 (wrap64 (t125)))) (fun _ hk => hk.2) (.slice AoQF57A116 t128.length coQF57A117)) (fun _ h_ => h_.1))) hb);have n1_ := zc.mk (zh (g := gb121) (o := .cells #[.int .i64 0,.int .i64 0,.slice none 0 0] 107 (0,0)) (by (with_reducible repeat (first | refine zd ?_ _ | refine zf ?_ | refine ze ?_ _));refine zl ?_ NBQN118.out _;(with_reducible repeat (first | refine zd ?_ _ | refine zf ?_ | refine ze ?_ _));refine zl ?_ NBQN118.out _;(with_reducible repeat (first | refine zd ?_ _ | refine zf ?_ | refine ze ?_ _));refine zl ?_ NBQN118.out _;(with_reducible repeat (first | refine zd ?_ _ | refine zf ?_ | refine ze ?_ _));exact BK121.out) hb);have n2_ := zc.mk (zh (g := gb133) (o := .cells #[.int .i64 (wrap64 (t122)),.int .i64 (wrap64 (t125)),.slice AoQF57A116 t128.length coQF57A117] 107 (0,0)) (by (with_reducible repeat (first | refine zd ?_ _ | refine zf ?_ | refine ze ?_ _));refine zm (cs := #[.int .i64 (wrap64 (t122)),.int .i64 (wrap64 (t125)),.slice none 0 0]) ?_ 2 _ rfl;(with_reducible repeat (first | refine zd ?_ _ | refine zf ?_ | refine ze ?_ _));refine zm (cs := #[.int .i64 (wrap64 (t122)),.int .i64 0,.slice none 0 0]) ?_ 1 _ rfl;(with_reducible repeat (first | refine zd ?_ _ | refine zf ?_ | refine ze ?_ _));refine zm (cs := #[.int .i64 0,.int .i64 0,.slice none 0 0]) ?_ 0 _ rfl;(with_reducible repeat (first | refine zd ?_ _ | refine zf ?_ | refine ze ?_ _));exact BK133.out) hb);have n3_ := zc.mk (zg hCq hb);clear HOQF57A114;clear BK121;clear BK133;clear HB;have HOQF57A114 := n0_;have BK121 := n1_;have BK133 := n2_;have HB := n3_;clear n0_ n1_ n2_ n3_;(try clear hb);(try clear hb2);(try clear hk);(try clear hi);have hczQC87A145 : wQC87A141.cell? ⟨gb121,0,none⟩ = some (.int .i64 0) := (zb BK121.out 0).trans rfl;have hczQC87A146 : wQC87A141.cell? ⟨gb121,1,none⟩ = some (.int .i64 0) := (zb BK121.out 1).trans rfl;have hczQC87A147 : wQC87A141.cell? ⟨gb121,2,none⟩ = some (.slice none 0 0) := (zb BK121.out 2).trans rfl;have hfzQC87A148 := za BK121.out 0;have hfzQC87A149 := za BK121.out 1;have hfzQC87A1410 := za BK121.out 2)) | (have _ := EQ3;((with_reducible refine zD (N := 11) rfl ?_);refine zq ?hg (N := 11) ?hd (cs := #[.int .i64 0,.int .i64 0,.slice none 0 0]) (t := 107) ?hr ?_;(case hd => rfl);(case hg => rfl);(case hr => first | (go_simp;done) | (go_simp;rfl));intro gb133 hg wQN112 hbox hb;have n0_ := zc.mk (Kd.R_below (by (with_reducible repeat (first | apply Kd.R_alloc | apply Kd.R_drewN | apply Kd.R_drew));exact HOQF57A114.out) hb);have n1_ := zc.mk (zh (g := gb121) (o := .cells #[.int .i64 0,.int .i64 0,.slice none 0 0] 107 (0,0)) (hGq BK121.out) hb);have n2_ := zc.mk (zg hCq hb);have n3_ := zc.mk (hbox);have n4_ := zc.mk ((by rw [hg];exact (zj hCq) : w.heap.size ≤ gb133));have n5_ := zc.mk ((by rw [hg];exact (zj hCq) : w.heap.size ≤ gb133));have n6_ := zc.mk ((by rw [hg];exact Nat.ne_of_lt (z8 (g := gb121) (o := .cells #[.int .i64 0,.int .i64 0,.slice none 0 0] 107 (0,0)) (hGq BK121.out)) : gb121 ≠ gb133));have n7_ := zc.mk ((by rw [hg];exact Nat.ne_of_gt (z8 (g := gb121) (o := .cells #[.int .i64 0,.int .i64 0,.slice none 0 0] 107 (0,0)) (hGq BK121.out)) : gb133 ≠ gb121));clear HOQF57A114;clear BK121;clear HB;have HOQF57A114 := n0_;have BK121 := n1_;have HB := n2_;have BK133 := n3_;have GW133 := n4_;have GE133 := n5_;have NBQN118 := n6_;have NBQN119 := n7_;clear n0_ n1_ n2_ n3_ n4_ n5_ n6_ n7_;clear hb hbox hg;have hnbQN1110 := NBQN119.out;have hncQN1111 := NBQN118.out;have hczQN1112 : wQN112.cell? ⟨gb133,0,none⟩ = some (.int .i64 0) := (zb BK133.out 0).trans rfl;have hczQN1113 : wQN112.cell? ⟨gb133,1,none⟩ = some (.int .i64 0) := (zb BK133.out 1).trans rfl;have hczQN1114 : wQN112.cell? ⟨gb133,2,none⟩ = some (.slice none 0 0) := (zb BK133.out 2).trans rfl;have hfzQN1115 := za BK133.out 0;have hfzQN1116 := za BK133.out 1;have hfzQN1117 := za BK133.out 2;have hczQN1118 : wQN112.cell? ⟨gb121,0,none⟩ = some (.int .i64 0) := (zb BK121.out 0).trans rfl;have hczQN1119 : wQN112.cell? ⟨gb121,1,none⟩ = some (.int .i64 0) := (zb BK121.out 1).trans rfl;have hczQN1120 : wQN112.cell? ⟨gb121,2,none⟩ = some (.slice none 0 0) := (zb BK121.out 2).trans rfl;have hfzQN1121 := za BK121.out 0;have hfzQN1122 := za BK121.out 1;have hfzQN1123 := za BK121.out 2)))
     first | (have _ := EQ1;refine bodyPost_ret (zbm rfl _ _ gb121 107 #[.int .i64 (wrap64 (t122)),.int .i64 (wrap64 (t125)),.slice AoQF57A116 t128.length coQF57A117] (0,0) _ rfl (by (with_reducible repeat (first | refine zd ?_ _ | refine zf ?_ | refine ze ?_ _));refine zm (cs := #[.int .i64 (wrap64 (t122)),.int .i64 (wrap64 (t125)),.slice none 0 0]) ?_ 2 _ rfl;(with_reducible repeat (first | refine zd ?_ _ | refine zf ?_ | refine ze ?_ _));refine zm (cs := #[.int .i64 (wrap64 (t122)),.int .i64 0,.slice none 0 0]) ?_ 1 _ rfl;(with_reducible repeat (first | refine zd ?_ _ | refine zf ?_ | refine ze ?_ _));refine zm (cs := #[.int .i64 0,.int .i64 0,.slice none 0 0]) ?_ 0 _ rfl;(with_reducible repeat (first | refine zd ?_ _ | refine zf ?_ | refine ze ?_ _));exact BK121.out) Try.underlying107 rfl (by kernel_rfl)) rfl ?_;exact ⟨_,hHq,by (with_reducible repeat (first | apply Kd.R_alloc | apply Kd.R_drewN | apply Kd.R_drew));exact Kd.R_mono (Kd.R_far (p := ⟨gb121,2,none⟩) (Kd.R_far (p := ⟨gb121,1,none⟩) (Kd.R_far (p := ⟨gb121,0,none⟩) (Kd.R_types HOQF57A114.out BK121.out (by decide)) (fun _ hk => hk.2) (.int .i64 (wrap64 (t122)))) (fun _ hk => hk.2) (.int .i64 (wrap64 (t125)))) (fun _ hk => hk.2) (.slice AoQF57A116 t128.length coQF57A117)) (fun _ hk => trivial),hCq⟩) | (have _ := EQ2;refine bodyPost_ret (zbm rfl _ _ gb121 107 #[.int .i64 0,.int .i64 0,.slice none 0 0] (0,0) _ rfl (by (with_reducible repeat (first | refine zd ?_ _ | refine zf ?_ | refine ze ?_ _));refine zm (cs := #[.int .i64 0,.int .i64 0,.slice none 0 0]) ?_ 2 _ rfl;(with_reducible repeat (first | refine zd ?_ _ | refine zf ?_ | refine ze ?_ _));refine zm (cs := #[.int .i64 0,.int .i64 0,.slice none 0 0]) ?_ 1 _ rfl;(with_reducible repeat (first | refine zd ?_ _ | refine zf ?_ | refine ze ?_ _));refine zm (cs := #[.int .i64 0,.int .i64 0,.slice none 0 0]) ?_ 0 _ rfl;(with_reducible repeat (first | refine zd ?_ _ | refine zf ?_ | refine ze ?_ _));exact BK121.out) Try.underlying107 rfl (by kernel_rfl)) rfl ?_;exact ⟨_,hHq,by first | exact Kd.R_nil _ _ _ _ _ | exact Kd.N_nil _ _ _ _ _ | exact Kd.V_nil _ _ _ _ _ | exact Kd.Q_nil _ _ _ _ _ | exact Kd.S_nil _ _ _ _ _,hCq⟩) | (have _ := EQ3;refine bodyPost_ret (zbm rfl _ _ gb121 107 #[.int .i64 0,.int .i64 0,.slice none 0 0] (0,0) _ rfl (by (with_reducible repeat (first | refine zd ?_ _ | refine zf ?_ | refine ze ?_ _));refine zm (cs := #[.int .i64 0,.int .i64 0,.slice none 0 0]) ?_ 2 _ rfl;(with_reducible repeat (first | refine zd ?_ _ | refine zf ?_ | refine ze ?_ _));refine zm (cs := #[.int .i64 0,.int .i64 0,.slice none 0 0]) ?_ 1 _ rfl;(with_reducible repeat (first | refine zd ?_ _ | refine zf ?_ | refine ze ?_ _));refine zm (cs := #[.int .i64 0,.int .i64 0,.slice none 0 0]) ?_ 0 _ rfl;(with_reducible repeat (first | refine zd ?_ _ | refine zf ?_ | refine ze ?_ _));refine zl ?_ NBQN118.out _;(with_reducible repeat (first | refine zd ?_ _ | refine zf ?_ | refine ze ?_ _));refine zl ?_ NBQN118.out _;(with_reducible repeat (first | refine zd ?_ _ | refine zf ?_ | refine ze ?_ _));refine zl ?_ NBQN118.out _;(with_reducible repeat (first | refine zd ?_ _ | refine zf ?_ | refine ze ?_ _));exact BK121.out) Try.underlying107 rfl (by kernel_rfl)) rfl ?_;exact ⟨_,hHq,by first | exact Kd.R_nil _ _ _ _ _ | exact Kd.N_nil _ _ _ _ _ | exact Kd.V_nil _ _ _ _ _ | exact Kd.Q_nil _ _ _ _ _ | exact Kd.S_nil _ _ _ _ _,hCq⟩)
def zbE (s : Bs) : Option (Nat × Bs) := if (zR s).2.2 = 0 ∧ (zR s).1 ≤ 1048576 then some ((zR s).1,(zR s).2.1) else none
theorem ze2 {s r : Bs} {v : Nat} (h : zbE s = some (v,r)) : s = zbx v ++ r ∧ v ≤ 1048576 := by
 unfold zbE at h
 split at h
 ·rename_i h0
  have hi := Option.some.inj h
  obtain ⟨h1,h2⟩ := zbK (s := s) (v := (zR s).1) (r := (zR s).2.1) (by rw [← h0.1])
  rw [show (zR s).1 = v from congrArg Prod.fst hi] at h1 h0
  rw [show (zR s).2.1 = r from congrArg Prod.snd hi] at h1
  exact ⟨h1,h0.2⟩
 ·cases h
theorem zex {s r : Bs} {v : Nat} (h : zbE s = some (v,r)) : r.length ≤ s.length := by
 rw [(ze2 h).1,List.length_append];omega
theorem zge {v : Nat} (hv : v ≤ 1048576) (r : Bs) : zbE (zbx v ++ r) = some (v,r) := by
 rw [zbE,zbA (by omega),if_pos ⟨rfl,hv⟩]
def zaf (s : Bs) : Int × Int × Bs × Bool :=
 match zbE s with
 | none => (0,0,[],false)
 | some (a,s1) => match zbE s1 with
  | none => (a,0,[],false)
  | some (b,s2) => (a,b,s2,true)
def zZ.Rest (s : Bs) (k : Nat) (s' : ByteArray) (X Y : Int) : Prop :=
 (k = 0 ∧ ofB s' = s ∧ X = 0 ∧ Y = 0) ∨ (k = 1 ∧ Y = 0 ∧ ∃ a : Nat,X = a ∧ zbE s = some (a,ofB s')) ∨
 (k = 2 ∧ ∃ (a b : Nat) (s1 : Bs),X = a ∧ Y = b ∧ zbE s = some (a,s1) ∧ zbE s1 = some (b,ofB s'))
theorem zZ.Rest.step0 {s : Bs} {s' : ByteArray} {X Y : Int} (h : zZ.Rest s 0 s' X Y) {v : Nat} {r : Bs} (h1 : zbE (ofB s') = some (v,r)) : zZ.Rest s 1 (toB r) v Y := by
 rcases h with ⟨_,e,rfl,rfl⟩ | ⟨e,_⟩ | ⟨e,_⟩
 ·exact .inr (.inl ⟨rfl,rfl,v,rfl,by rw [zat,← h1,e]⟩)
 ·cases e
 ·cases e
theorem zZ.Rest.step1 {s : Bs} {s' : ByteArray} {X Y : Int} (h : zZ.Rest s 1 s' X Y) {v : Nat} {r : Bs} (h1 : zbE (ofB s') = some (v,r)) : zZ.Rest s 2 (toB r) X v := by
 rcases h with ⟨e,_⟩ | ⟨_,rfl,a,rfl,h2⟩ | ⟨e,_⟩
 ·cases e
 ·exact .inr (.inr ⟨rfl,a,v,_,rfl,rfl,h2,by rw [zat,h1]⟩)
 ·cases e
theorem zZ.Rest.fail {s : Bs} {s' : ByteArray} {k : Nat} (hk : k < 2) {X Y : Int} (h : zZ.Rest s k s' X Y) (h1 : zbE (ofB s') = none) : zaf s = (X,Y,[],false) := by
 rcases h with ⟨_,e,rfl,rfl⟩ | ⟨_,rfl,a,rfl,h2⟩ | ⟨e,_⟩
 ·rw [e] at h1;rw [zaf,h1]
 ·rw [zaf,h2];simp only;rw [h1]
 ·omega
theorem zZ.Rest.stop {s : Bs} {s' : ByteArray} {X Y : Int} (h : zZ.Rest s 2 s' X Y) : zaf s = (X,Y,ofB s',true) := by
 rcases h with ⟨e,_⟩ | ⟨e,_⟩ | ⟨_,a,b,s1,rfl,rfl,h1,h2⟩
 ·cases e
 ·cases e
 ·rw [zaf,h1];simp only;rw [h2]
theorem zgz (s : ByteArray) (hs : s.size < 4611686018427387904) : ∃ k,(∃ (v : Nat) (r : Bs),zbE (ofB s) = some (v,r) ∧ v ≤ 1048576 ∧ zC.f k s = some ((v : Int),toB r,0)) ∨ (zbE (ofB s) = none ∧ ∃ (v : Nat) (r : Bs) (e : Int),zC.f k s = some ((v : Int),toB r,e) ∧ (e ≠ 0 ∨ 1048576 < v)) := by
 obtain ⟨k,hk⟩ := (zcF s hs).rounds
 refine ⟨k,?_⟩
 simp only [zca] at hk
 unfold zbE
 generalize zR (ofB s) = q at *
 obtain ⟨v,r,e⟩ := q
 simp only at hk ⊢
 by_cases h : e = 0 ∧ v ≤ 1048576
 ·obtain ⟨rfl,h2⟩ := h
  exact .inl ⟨v,r,by rw [if_pos ⟨rfl,h2⟩],h2,hk⟩
 ·refine .inr ⟨if_neg h,v,r,e,hk,?_⟩
  by_cases he : e = 0
  ·exact .inr (by have : ¬ v ≤ 1048576 := fun hh => h ⟨he,hh⟩;omega)
  ·exact .inl he
set_option maxHeartbeats 4000000 in
set_option maxRecDepth 100000 in
theorem zZ.walk (s : ByteArray) (w : World) (hs : s.size < 4611686018427387904) (fin : Int × Int × Bs × Bool) (hfin : zaf (ofB s) = fin) :
  Calls Try.prog 56 #[.string s] w fun e w' => e = .returned (.tuple #[.agg #[.int .i64 fin.1,.int .i64 fin.2.1],.string (toB fin.2.2.1),.bool fin.2.2.2]) ∧ Below w.heap.size w w' := by
 have HF := zc.mk hfin
 have HS := zc.mk hs
 clear hfin hs
 go_enter Try.func56,Try.ntmps56
 go_wp2_with (first
  | ((with_reducible refine zD (N := 2) rfl ?_);refine zq ?hg (N := 2) ?hd (cs := #[.int .i64 0,.int .i64 0]) (t := 101) ?hr ?_;(case hd => rfl);(case hg => rfl);(case hr => first | (go_simp;done) | (go_simp;rfl));intro g2 hg w1 hbox hb;have G2 : zc (w.heap.size ≤ g2) := ⟨by rw [hg];exact Nat.le_refl _⟩;have B2 := zc.mk hbox;have HB1 := zc.mk hb;clear hb hbox hg)
  | ((with_reducible refine zD (N := 5) rfl ?_);refine zq ?hg (N := 5) ?hd (cs := #[.int .i64 0,.int .i64 0]) (t := 101) ?hr ?_;(case hd => rfl);(case hg => rfl);(case hr => first | (go_simp;done) | (go_simp;rfl));intro g5 hg w2 hbox hb;have G5 : zc (w.heap.size ≤ g5) := ⟨by rw [hg];exact zj HB1.out⟩;have N25 : zc (g2 ≠ g5) := ⟨by rw [hg];exact Nat.ne_of_lt (z8 B2.out)⟩;have C5 := zc.mk hbox;have C2 := zc.mk (zh B2.out hb);have HB2 := zc.mk (zg HB1.out hb);clear hb hbox hg B2))
 have HR0 : zc (zZ.Rest (ofB s) 0 s 0 0) := ⟨.inl ⟨rfl,rfl,rfl,rfl⟩⟩
 go_loopw [0,10] (fun v0 v10 wr => ∃ (k : Nat) (s' : ByteArray) (X Y : Int),v0 = .string s' ∧ v10 = .int .i64 k ∧ k ≤ 2 ∧ zc (s'.size ≤ s.size ∧ zZ.Rest (ofB s) k s' X Y) ∧ zc (Below w.heap.size w wr ∧ wr.heap[g2]? = some (.cells #[.int .i64 0,.int .i64 0] 101 (0,0)) ∧ wr.heap[g5]? = some (.cells #[.int .i64 X,.int .i64 Y] 101 (0,0)))) (fun _ v10 _ => 2 - (match v10 with | .int _ q => q | _ => 0).toNat)
 case atStart => exact ⟨0,s,0,0,rfl,rfl,by omega,⟨Nat.le_refl _,HR0.out⟩,⟨HB2.out,C2.out,C5.out⟩⟩
 case round =>
  obtain ⟨k,s',X,Y,rfl,rfl,hk,HR,HW⟩ := hrel
  obtain ⟨q,hq⟩ := zgz s' (by have := HS.out;have := HR.out.1;omega)
  have hlen : ∀ (v : Nat) (r : Bs),zbE (ofB s') = some (v,r) → (toB r).size ≤ s.size := fun v r h => by
   have := zex h
   rw [zab] at this
   rw [zX];have := HR.out.1;omega
  have HLN := zc.mk hlen
  clear hlen HR0
  have n25 := N25.out
  have n52 := Ne.symm N25.out
  have a20 := (zb HW.out.2.1 0).trans rfl;have a21 := (zb HW.out.2.1 1).trans rfl;have a50 := (zb HW.out.2.2 0).trans rfl;have a51 := (zb HW.out.2.2 1).trans rfl
  have f20 := za HW.out.2.1 0;have f21 := za HW.out.2.1 1;have f50 := za HW.out.2.2 0;have f51 := za HW.out.2.2 1
  match k,hk,HR with
  | 0,hk,HR =>
   rcases hq with ⟨v,r,h1,h2,h3⟩ | ⟨h1,v,r,e,h3,h4⟩
   ·have hb : decide (1048576 < v) = false := decide_eq_false (by omega)
    have hb2 : decide (1048576 < (v : Int)) = false := decide_eq_false (by omega)
    have hw : wrap64 (v : Int) = v := zak (by omega) (by omega)
    have H1 := zc.mk h1
    have H3 := zc.mk h3
    clear h1 h2 h3
    go_wp2_with (go_at_call 53;(with_reducible refine (zC.calls _ _ _ _ _ _ H3.out).mono ?_);rintro e w3 ⟨rfl,⟨nd,rfl⟩⟩)
    exact ⟨⟨1,toB r,v,Y,rfl,rfl,by omega,⟨HLN.out _ _ H1.out,HR.out.2.step0 H1.out⟩,⟨zw (zk HW.out.1 nd) G5.out,zl (zd HW.out.2.1 nd) n25 _,zm (zd HW.out.2.2 nd) 0 _ rfl⟩⟩,by simp⟩
   ·have HE := zc.mk (HR.out.2.fail (by omega) h1)
    have H3 := zc.mk h3
    by_cases he : e = 0
    ·subst he
     have hv : 1048576 < v := by rcases h4 with h4 | h4;exact absurd rfl h4;exact h4
     have hb : decide (1048576 < v) = true := decide_eq_true hv
     have hb2 : decide (1048576 < (v : Int)) = true := decide_eq_true (by omega)
     clear h1 h3 h4 hv
     go_wp2_with (go_at_call 53;(with_reducible refine (zC.calls _ _ _ _ _ _ H3.out).mono ?_);rintro e w3 ⟨rfl,⟨nd,rfl⟩⟩)
     refine bodyPost_ret (zcP rfl _ _ g2 101 #[.int .i64 X,.int .i64 Y] (0,0) _ rfl (zm (cs := #[.int .i64 X,.int .i64 0]) (zm (cs := #[.int .i64 0,.int .i64 0]) (zd HW.out.2.1 nd) 0 _ rfl) 1 _ rfl) Try.underlying101 rfl (by kernel_rfl)) rfl ?_
     rw [← HF.out,HE.out]
     exact ⟨rfl,zw (zw (zk HW.out.1 nd) G2.out) G2.out⟩
    ·have hb : (e == 0) = false := beq_eq_false_iff_ne.2 he
     have hb2 : (e != 0) = true := by rw [bne,hb];rfl
     clear h1 h3 h4 he
     go_wp2_with (go_at_call 53;(with_reducible refine (zC.calls _ _ _ _ _ _ H3.out).mono ?_);rintro e w3 ⟨rfl,⟨nd,rfl⟩⟩)
     refine bodyPost_ret (zcP rfl _ _ g2 101 #[.int .i64 X,.int .i64 Y] (0,0) _ rfl (zm (cs := #[.int .i64 X,.int .i64 0]) (zm (cs := #[.int .i64 0,.int .i64 0]) (zd HW.out.2.1 nd) 0 _ rfl) 1 _ rfl) Try.underlying101 rfl (by kernel_rfl)) rfl ?_
     rw [← HF.out,HE.out]
     exact ⟨rfl,zw (zw (zk HW.out.1 nd) G2.out) G2.out⟩
  | 1,hk,HR =>
   rcases hq with ⟨v,r,h1,h2,h3⟩ | ⟨h1,v,r,e,h3,h4⟩
   ·have hb : decide (1048576 < v) = false := decide_eq_false (by omega)
    have hb2 : decide (1048576 < (v : Int)) = false := decide_eq_false (by omega)
    have hw : wrap64 (v : Int) = v := zak (by omega) (by omega)
    have H1 := zc.mk h1
    have H3 := zc.mk h3
    clear h1 h2 h3
    go_wp2_with (go_at_call 53;(with_reducible refine (zC.calls _ _ _ _ _ _ H3.out).mono ?_);rintro e w3 ⟨rfl,⟨nd,rfl⟩⟩)
    exact ⟨⟨2,toB r,X,v,rfl,rfl,by omega,⟨HLN.out _ _ H1.out,HR.out.2.step1 H1.out⟩,⟨zw (zk HW.out.1 nd) G5.out,zl (zd HW.out.2.1 nd) n25 _,zm (zd HW.out.2.2 nd) 1 _ rfl⟩⟩,by simp⟩
   ·have HE := zc.mk (HR.out.2.fail (by omega) h1)
    have H3 := zc.mk h3
    by_cases he : e = 0
    ·subst he
     have hv : 1048576 < v := by rcases h4 with h4 | h4;exact absurd rfl h4;exact h4
     have hb : decide (1048576 < v) = true := decide_eq_true hv
     have hb2 : decide (1048576 < (v : Int)) = true := decide_eq_true (by omega)
     clear h1 h3 h4 hv
     go_wp2_with (go_at_call 53;(with_reducible refine (zC.calls _ _ _ _ _ _ H3.out).mono ?_);rintro e w3 ⟨rfl,⟨nd,rfl⟩⟩)
     refine bodyPost_ret (zcP rfl _ _ g2 101 #[.int .i64 X,.int .i64 Y] (0,0) _ rfl (zm (cs := #[.int .i64 X,.int .i64 0]) (zm (cs := #[.int .i64 0,.int .i64 0]) (zd HW.out.2.1 nd) 0 _ rfl) 1 _ rfl) Try.underlying101 rfl (by kernel_rfl)) rfl ?_
     rw [← HF.out,HE.out]
     exact ⟨rfl,zw (zw (zk HW.out.1 nd) G2.out) G2.out⟩
    ·have hb : (e == 0) = false := beq_eq_false_iff_ne.2 he
     have hb2 : (e != 0) = true := by rw [bne,hb];rfl
     clear h1 h3 h4 he
     go_wp2_with (go_at_call 53;(with_reducible refine (zC.calls _ _ _ _ _ _ H3.out).mono ?_);rintro e w3 ⟨rfl,⟨nd,rfl⟩⟩)
     refine bodyPost_ret (zcP rfl _ _ g2 101 #[.int .i64 X,.int .i64 Y] (0,0) _ rfl (zm (cs := #[.int .i64 X,.int .i64 0]) (zm (cs := #[.int .i64 0,.int .i64 0]) (zd HW.out.2.1 nd) 0 _ rfl) 1 _ rfl) Try.underlying101 rfl (by kernel_rfl)) rfl ?_
     rw [← HF.out,HE.out]
     exact ⟨rfl,zw (zw (zk HW.out.1 nd) G2.out) G2.out⟩
  | 2,hk,HR =>
   have HE := zc.mk HR.out.2.stop
   clear hq
   go_wp2_with fail
   refine bodyPost_ret (zcP rfl _ _ g2 101 #[.int .i64 X,.int .i64 Y] (0,0) _ rfl (zm (cs := #[.int .i64 X,.int .i64 0]) (zm (cs := #[.int .i64 0,.int .i64 0]) HW.out.2.1 0 _ rfl) 1 _ rfl) Try.underlying101 rfl (by kernel_rfl)) rfl ?_
   rw [← HF.out,HE.out]
   exact ⟨by simp only [zct];rfl,zw (zw HW.out.1 G2.out) G2.out⟩
def zZ.f (a0 : ByteArray) : Option (Int × Int × ByteArray × Bool) := if a0.size < 4611686018427387904 then some ((zaf (ofB a0)).1,(zaf (ofB a0)).2.1,toB (zaf (ofB a0)).2.2.1,(zaf (ofB a0)).2.2.2) else none
theorem zZ.calls (a0 : ByteArray) (r1 r2 : Int) (r3 : ByteArray) (r4 : Bool) (w : World) (h : zZ.f a0 = some (r1,r2,r3,r4)) :
  Calls Try.prog 56 #[.string a0] w fun e w' => e = .returned (.tuple #[.agg #[.int .i64 r1,.int .i64 r2],.string r3,.bool r4]) ∧ Below w.heap.size w w' := by
 unfold zZ.f at h
 split at h
 ·rename_i hs
  have h := Option.some.inj h
  simp only [Prod.mk.injEq] at h
  obtain ⟨rfl,rfl,rfl,rfl⟩ := h
  exact zZ.walk a0 w hs _ rfl
 ·cases h
end Go.Proofs.Ytgdpiegkoeikiaa.Px