/- Part 8 of 35 of the proof of the law PostTakes: what is proved is the statement at the end of the last part; its conditions are those of the given row. -/
import Derived.Test.YtgdpiegkoeikiaaZPostTakesF
import Derived.Test.YtgdpiegkoeikiaaZPostTakesG
namespace Go.Proofs.Ytgdpiegkoeikiaa.Px
open Go.RowKit Go.Proofs.YtgdpiegkoeikiaaW.PrintWords Go.Proofs.YtgdpiegkoeikiaaW.PrintLast Go.Proofs.YtgdpiegkoeikiaaW.PrintMore
attribute [local go_sem] zF zH zQ zR zy zz zG zI
set_option linter.unusedVariables false
set_option linter.unusedSimpArgs false
def zap.j0 : Nat → ByteArray → Int → Int → Bool → Option (Int × Int × List ByteArray × Int)
 | 0,_,_,_,_ => none
 | k + 1,x0,x4,x6,x37 => if x37 = true then (some (0,0,([] : List ByteArray),3)) else ((zZ.f x0 4 48).bind fun bt128 => (if bt128.2.2 = 0 then (if bt128.2.1.toList = ([] : List UInt8) then ((zaZ.f (wrap64 (x4)) (wrap64 (x6)) bt128.1).bind fun t134 => (if t134 = true then (some (wrap64 (x4),wrap64 (x6),bt128.1,0)) else (some (0,0,([] : List ByteArray),3)))) else (some (0,0,([] : List ByteArray),3))) else (some (0,0,([] : List ByteArray),3))))
def zap.f (k : Nat) (a0 : ByteArray) : Option (Int × Int × List ByteArray × Int) := (zC.f k a0).bind fun bt122 => ((zC.f k bt122.2.1).bind fun bt125 => (if bt122.2.2 = 0 then (if bt125.2.2 = 0 then (if bt122.1 > 64 then (zap.j0 k bt125.2.1 bt122.1 bt125.1 true) else (zap.j0 k bt125.2.1 bt122.1 bt125.1 (decide (bt125.1 > 1073741824)))) else (zap.j0 k bt125.2.1 bt122.1 bt125.1 true)) else (zap.j0 k bt125.2.1 bt122.1 bt125.1 true)))
set_option maxHeartbeats 8000000 in
set_option maxRecDepth 100000 in
theorem zap.calls (k : Nat) (a0 : ByteArray) (r1 : Int) (r2 : Int) (r3 : List ByteArray) (r4 : Int) (w : World) (h : zap.f k a0 = some (r1,r2,r3,r4)) :
  Calls Try.prog 58 #[.string a0] w fun e w' => ∃ v2_ : Value,e = .returned (.tuple #[.agg #[.int .i64 r1,.int .i64 r2,v2_],.int .i64 r4]) ∧ Kd.R Kd.string 9 w' w.heap.size (fun _ => True) v2_ r3 ∧ Below w.heap.size w w' := by
 have hu107 := Try.underlying107
 have HB := zc.mk (Below.refl w.heap.size w)
 have H : ((zC.f k a0).bind fun bt122 => ((zC.f k bt122.2.1).bind fun bt125 => (if bt122.2.2 = 0 then (if bt125.2.2 = 0 then (if bt122.1 > 64 then (zap.j0 k bt125.2.1 bt122.1 bt125.1 true) else (zap.j0 k bt125.2.1 bt122.1 bt125.1 (decide (bt125.1 > 1073741824)))) else (zap.j0 k bt125.2.1 bt122.1 bt125.1 true)) else (zap.j0 k bt125.2.1 bt122.1 bt125.1 true)))) = some (r1,r2,r3,r4) := h
 clear h
 replace H := Option.bind_eq_some_iff.mp H
 obtain ⟨⟨t122,t123,t124⟩,A20,H⟩ := H
 replace H : ((zC.f k t123).bind fun bt125 => (if t124 = 0 then (if bt125.2.2 = 0 then (if t122 > 64 then (zap.j0 k bt125.2.1 t122 bt125.1 true) else (zap.j0 k bt125.2.1 t122 bt125.1 (decide (bt125.1 > 1073741824)))) else (zap.j0 k bt125.2.1 t122 bt125.1 true)) else (zap.j0 k bt125.2.1 t122 bt125.1 true))) = some (r1,r2,r3,r4) := H
 have A2 := zc.mk A20
 clear A20
 replace H := Option.bind_eq_some_iff.mp H
 obtain ⟨⟨t125,t126,t127⟩,A30,H⟩ := H
 replace H : (if t124 = 0 then (if t127 = 0 then (if t122 > 64 then (zap.j0 k t126 t122 t125 true) else (zap.j0 k t126 t122 t125 (decide (t125 > 1073741824)))) else (zap.j0 k t126 t122 t125 true)) else (zap.j0 k t126 t122 t125 true)) = some (r1,r2,r3,r4) := H
 have A3 := zc.mk A30
 clear A30
 have HC4 := zc.mk H
 clear H
 go_enter Try.func58,Try.ntmps58
 go_upto_region 3 with (first | ((with_reducible refine zu (N := 2) rfl ?_);refine zr ?hg (N := 2) ?hd (cs := #[.int .i64 0,.int .i64 0,.slice none 0 0]) (t := 107) ?hr ?_;(case hd => rfl);(case hg => rfl);(case hr => first | (go_simp;done) | (go_simp;rfl));intro gb121 hg w5 hbox hb;have n0_ := zc.mk (zj hBq hb);have n1_ := zc.mk (hbox);have n2_ := zc.mk ((by rw [hg];exact (zl hBq) : w.heap.size ≤ gb121));have n3_ := zc.mk ((by rw [hg];exact (zl hBq) : w.heap.size ≤ gb121));clear HB;have HB := n0_;have BK121 := n1_;have GW121 := n2_;have GE121 := n3_;clear n0_ n1_ n2_ n3_;clear hb hbox hg) | ((with_reducible refine zt (f := 53) rfl ?_);refine zU (some 14) rfl rfl Try.func53 (by kernel_rfl) rfl #[.string a0] rfl (by (try simp only [List.map_toArray,List.map_cons,List.map_nil]);first | done | rfl | (simp only [List.length_drop,List.length_take];rfl)) ?_;(with_reducible refine (zC.calls k a0 t122 t123 t124 _ A2.out).mono ?_);rintro e w' ⟨rfl,⟨nd,rfl⟩⟩;refine ⟨_,rfl,?_⟩) | ((with_reducible refine zt (f := 53) rfl ?_);refine zU (some 20) rfl rfl Try.func53 (by kernel_rfl) rfl #[.string t123] rfl (by (try simp only [List.map_toArray,List.map_cons,List.map_nil]);first | done | rfl | (simp only [List.length_drop,List.length_take];rfl)) ?_;(with_reducible refine (zC.calls k t123 t125 t126 t127 _ A3.out).mono ?_);rintro e w' ⟨rfl,⟨nd,rfl⟩⟩;refine ⟨_,rfl,?_⟩))
 (try simp only [Act.put,List.setIfInBounds_toArray,List.set_cons_zero,List.set_cons_succ])
 go_cut [37] (fun v37 wc => ∃ (kq : Nat) (x37_3 : Bool),v37 = .bool x37_3 ∧ zc (zap.j0 kq t126 t122 t125 x37_3 = some (r1,r2,r3,r4)) ∧ zc (kq ≤ k) ∧ zc (wc.heap[gb121]? = some (.cells #[.int .i64 0,.int .i64 0,(.slice none 0 0)] 107 (0,0))) ∧ zc (Below w.heap.size w wc))
 case first =>
  have H := HC4.out
  clear HC4
  by_cases c6 : t124 = 0
  ·rw [if_pos c6] at H
   have c6b0 : (t124 == 0) = true := beq_iff_eq.mpr c6
   have c6b1 : (t124 != 0) = false := bne_eq_false_iff_eq.mpr c6
   clear c6
   (first | rw [c6b0] | (simp only [zan,zaq];rw [c6b0]) | skip)
   by_cases c7 : t127 = 0
   ·rw [if_pos c7] at H
    have c7b0 : (t127 == 0) = true := beq_iff_eq.mpr c7
    have c7b1 : (t127 != 0) = false := bne_eq_false_iff_eq.mpr c7
    clear c7
    by_cases c8 : t122 > 64
    ·rw [if_pos c8] at H
     have c8b0 : decide (64 < t122) = true := decide_eq_true c8
     clear c8
     have H' := zc.mk H
     clear H
     go_wp2
     go_meet
     case rel => exact ⟨_,(true),(hDq),H',⟨by first | omega | exact Nat.le_refl _⟩,⟨hGq BK121.out⟩,⟨by repeat (first | (with_reducible first | exact HB.out | apply zA | apply zm | apply zJ | refine zg ?_ GE121.out) | exact HB.out)⟩⟩
    ·rw [if_neg c8] at H
     have c8b0 : decide (64 < t122) = false := decide_eq_false c8
     clear c8
     have H' := zc.mk H
     clear H
     go_wp2
     go_meet
     case rel => exact ⟨_,(decide (t125 > 1073741824)),(hDq),H',⟨by first | omega | exact Nat.le_refl _⟩,⟨hGq BK121.out⟩,⟨by repeat (first | (with_reducible first | exact HB.out | apply zA | apply zm | apply zJ | refine zg ?_ GE121.out) | exact HB.out)⟩⟩
   ·rw [if_neg c7] at H
    have c7b0 : (t127 == 0) = false := beq_eq_false_iff_ne.mpr c7
    have c7b1 : (t127 != 0) = true := bne_iff_ne.mpr c7
    have H' := zc.mk H
    clear H
    go_wp2
    go_meet
    case rel => exact ⟨_,(true),(hDq),H',⟨by first | omega | exact Nat.le_refl _⟩,⟨hGq BK121.out⟩,⟨by repeat (first | (with_reducible first | exact HB.out | apply zA | apply zm | apply zJ | refine zg ?_ GE121.out) | exact HB.out)⟩⟩
  ·rw [if_neg c6] at H
   have c6b0 : (t124 == 0) = false := beq_eq_false_iff_ne.mpr c6
   have c6b1 : (t124 != 0) = true := bne_iff_ne.mpr c6
   (first | rw [c6b0] | (simp only [zan,zaq];rw [c6b0]) | skip)
   have H' := zc.mk H
   clear H
   go_wp2
   go_meet
   case rel => exact ⟨_,(true),(hDq),H',⟨by first | omega | exact Nat.le_refl _⟩,⟨hGq BK121.out⟩,⟨by repeat (first | (with_reducible first | exact HB.out | apply zA | apply zm | apply zJ | refine zg ?_ GE121.out) | exact HB.out)⟩⟩
 case rest =>
  clear HC4
  try clear p2
  try clear c5
  try clear c6
  try clear c6b0
  try clear c6b1
  try clear c7
  try clear c7b0
  try clear c7b1
  try clear c8
  try clear c8b0
  obtain ⟨kq,x37_3,rfl,HA,HJ3,BK121,HB⟩ := hcut
  cases kq with
  | zero => exact absurd HA.out (by simp [zap.j0])
  | succ kj3 =>
   have H := HA.out
   clear HA
   simp only [zap.j0] at H
   by_cases c9 : x37_3 = true
   ·subst c9
    have H1 : (some (0,0,([] : List ByteArray),3)) = some (r1,r2,r3,r4) := by rw [if_pos rfl] at H;exact H
    clear H
    have H := H1
    clear H1
    simp only [Option.some.injEq,Prod.mk.injEq] at H
    obtain ⟨rfl,rfl,rfl,rfl⟩ := H
    have hcz10_0 : wc.cell? ⟨gb121,0,none⟩ = some (.int .i64 0) := (zb BK121.out 0).trans rfl
    have hcz10_1 : wc.cell? ⟨gb121,1,none⟩ = some (.int .i64 0) := (zb BK121.out 1).trans rfl
    have hcz10_2 : wc.cell? ⟨gb121,2,none⟩ = some (.slice none 0 0) := (zb BK121.out 2).trans rfl
    have hfz10_0 := za BK121.out 0
    have hfz10_1 := za BK121.out 1
    have hfz10_2 := za BK121.out 2
    go_wp2
    refine bodyPost_ret (z9 rfl _ _ gb121 107 #[.int .i64 0,.int .i64 0,.slice none 0 0] (0,0) _ rfl (by (with_reducible repeat (first | refine zd ?_ _ | refine zf ?_ | refine ze ?_ _));refine zi (cs := #[.int .i64 0,.int .i64 0,.slice none 0 0]) ?_ 2 _ rfl;(with_reducible repeat (first | refine zd ?_ _ | refine zf ?_ | refine ze ?_ _));refine zi (cs := #[.int .i64 0,.int .i64 0,.slice none 0 0]) ?_ 1 _ rfl;(with_reducible repeat (first | refine zd ?_ _ | refine zf ?_ | refine ze ?_ _));refine zi (cs := #[.int .i64 0,.int .i64 0,.slice none 0 0]) ?_ 0 _ rfl;(with_reducible repeat (first | refine zd ?_ _ | refine zf ?_ | refine ze ?_ _));exact BK121.out) Try.underlying107 rfl (by kernel_rfl)) rfl ?_
    exact ⟨_,hHq,by first | exact Kd.R_nil _ _ _ _ _ | exact Kd.N_nil _ _ _ _ _ | exact Kd.V_nil _ _ _ _ _ | exact Kd.Q_nil _ _ _ _ _ | exact Kd.S_nil _ _ _ _ _,hCq⟩
   ·replace c9 := Bool.eq_false_iff.mpr c9
    subst c9
    have H1 : ((zZ.f t126 4 48).bind fun bt128 => (if bt128.2.2 = 0 then (if bt128.2.1.toList = ([] : List UInt8) then ((zaZ.f (wrap64 (t122)) (wrap64 (t125)) bt128.1).bind fun t134 => (if t134 = true then (some (wrap64 (t122),wrap64 (t125),bt128.1,0)) else (some (0,0,([] : List ByteArray),3)))) else (some (0,0,([] : List ByteArray),3))) else (some (0,0,([] : List ByteArray),3)))) = some (r1,r2,r3,r4) := by rw [if_neg (show ¬ (false = true) by decide)] at H;exact H
    clear H
    have H := H1
    clear H1
    replace H := Option.bind_eq_some_iff.mp H
    obtain ⟨⟨t128,t129,t130⟩,A110,H⟩ := H
    replace H : (if t130 = 0 then (if t129.toList = ([] : List UInt8) then ((zaZ.f (wrap64 (t122)) (wrap64 (t125)) t128).bind fun t134 => (if t134 = true then (some (wrap64 (t122),wrap64 (t125),t128,0)) else (some (0,0,([] : List ByteArray),3)))) else (some (0,0,([] : List ByteArray),3))) else (some (0,0,([] : List ByteArray),3))) = some (r1,r2,r3,r4) := H
    have A11 := zc.mk A110
    clear A110
    by_cases c12 : t130 = 0
    focus
     rw [if_pos c12] at H
     have c12b0 : (t130 == 0) = true := beq_iff_eq.mpr c12
     have c12b1 : (t130 != 0) = false := bne_eq_false_iff_eq.mpr c12
     clear c12
     by_cases c13 : t129.toList = ([] : List UInt8)
     focus
      rw [if_pos c13] at H
      have c13b0 : (t129.toList == ([] : List UInt8)) = true := beq_iff_eq.mpr c13
      have c13b1 : (t129.toList != ([] : List UInt8)) = false := bne_eq_false_iff_eq.mpr c13
      clear c13
      replace H := Option.bind_eq_some_iff.mp H
      obtain ⟨t134,A140,H⟩ := H
      replace H : (if t134 = true then (some (wrap64 (t122),wrap64 (t125),t128,0)) else (some (0,0,([] : List ByteArray),3))) = some (r1,r2,r3,r4) := H
      have A14 := zc.mk A140
      clear A140
      by_cases c15 : t134 = true
      focus
       subst c15
       have H1 : (some (wrap64 (t122),wrap64 (t125),t128,0)) = some (r1,r2,r3,r4) := by rw [if_pos rfl] at H;exact H
       clear H
       have H := H1
       clear H1
       simp only [Option.some.injEq,Prod.mk.injEq] at H
       obtain ⟨rfl,rfl,rfl,rfl⟩ := H
       have EQ0 := True.intro
       have EQ1 := True.intro
      rotate_left
      focus
       replace c15 := Bool.eq_false_iff.mpr c15
       subst c15
       have H1 : (some (0,0,([] : List ByteArray),3)) = some (r1,r2,r3,r4) := by rw [if_neg (show ¬ (false = true) by decide)] at H;exact H
       clear H
       have H := H1
       clear H1
       simp only [Option.some.injEq,Prod.mk.injEq] at H
       obtain ⟨rfl,rfl,rfl,rfl⟩ := H
       have EQ0 := True.intro
       have EQ2 := True.intro
     rotate_left 2
     focus
      rw [if_neg c13] at H
      have c13b0 : (t129.toList == ([] : List UInt8)) = false := beq_eq_false_iff_ne.mpr c13
      have c13b1 : (t129.toList != ([] : List UInt8)) = true := bne_iff_ne.mpr c13
      simp only [Option.some.injEq,Prod.mk.injEq] at H
      obtain ⟨rfl,rfl,rfl,rfl⟩ := H
      have EQ3 := True.intro
    rotate_left 3
    focus
     rw [if_neg c12] at H
     have c12b0 : (t130 == 0) = false := beq_eq_false_iff_ne.mpr c12
     have c12b1 : (t130 != 0) = true := bne_iff_ne.mpr c12
     simp only [Option.some.injEq,Prod.mk.injEq] at H
     obtain ⟨rfl,rfl,rfl,rfl⟩ := H
     have EQ3 := True.intro
    all_goals
     go_wp2_with (first | ((with_reducible refine zt (f := 57) rfl ?_);refine zU (some 41) rfl rfl Try.func57 (by kernel_rfl) rfl #[.string t126,.int .i64 4,.int .i64 48] rfl (by (try simp only [List.map_toArray,List.map_cons,List.map_nil]);first | done | rfl | (simp only [List.length_drop,List.length_take];rfl)) ?_;(with_reducible refine (zZ.calls t126 4 48 t128 t129 t130 _ A11.out).mono ?_);rintro e wQF57A111 ⟨vQF57A112,rfl,hoQF57A113,hb⟩;refine ⟨_,rfl,?_⟩;have n0_ := zc.mk (Kd.R_lower hoQF57A113 (zl hCq));have n1_ := zc.mk (zh (g := gb121) (o := .cells #[.int .i64 0,.int .i64 0,.slice none 0 0] 107 (0,0)) (hGq BK121.out) hb);have n2_ := zc.mk (zj hCq hb);clear BK121;clear HB;have HOQF57A114 := n0_;have BK121 := n1_;have HB := n2_;clear n0_ n1_ n2_;(try clear hb);(try clear hb2);(try clear hk);(try clear hi);(try clear hoQF57A113);obtain ⟨AoQF57A116,coQF57A117,eoQF57A118⟩ := Kd.R_slice HOQF57A114.out;subst eoQF57A118) | (have _ := EQ0;((with_reducible refine zu (N := 11) rfl ?_);refine zr ?hg (N := 11) ?hd (cs := #[.int .i64 0,.int .i64 0,.slice none 0 0]) (t := 107) ?hr ?_;(case hd => rfl);(case hg => rfl);(case hr => first | (go_simp;done) | (go_simp;rfl));intro gb133 hg wQN112 hbox hb;have n0_ := zc.mk (Kd.R_below (by (with_reducible repeat (first | apply Kd.R_alloc | apply Kd.R_drewN | apply Kd.R_drew));exact HOQF57A114.out) hb);have n1_ := zc.mk (zh (g := gb121) (o := .cells #[.int .i64 0,.int .i64 0,.slice none 0 0] 107 (0,0)) (hGq BK121.out) hb);have n2_ := zc.mk (zj hCq hb);have n3_ := zc.mk (hbox);have n4_ := zc.mk ((by rw [hg];exact (zl hCq) : w.heap.size ≤ gb133));have n5_ := zc.mk ((by rw [hg];exact (zl hCq) : w.heap.size ≤ gb133));have n6_ := zc.mk ((by rw [hg];exact Nat.ne_of_lt (zP (g := gb121) (o := .cells #[.int .i64 0,.int .i64 0,.slice none 0 0] 107 (0,0)) (hGq BK121.out)) : gb121 ≠ gb133));have n7_ := zc.mk ((by rw [hg];exact Nat.ne_of_gt (zP (g := gb121) (o := .cells #[.int .i64 0,.int .i64 0,.slice none 0 0] 107 (0,0)) (hGq BK121.out)) : gb133 ≠ gb121));clear HOQF57A114;clear BK121;clear HB;have HOQF57A114 := n0_;have BK121 := n1_;have HB := n2_;have BK133 := n3_;have GW133 := n4_;have GE133 := n5_;have NBQN118 := n6_;have NBQN119 := n7_;clear n0_ n1_ n2_ n3_ n4_ n5_ n6_ n7_;clear hb hbox hg;have hnbQN1110 := NBQN119.out;have hncQN1111 := NBQN118.out;have hczQN1112 : wQN112.cell? ⟨gb133,0,none⟩ = some (.int .i64 0) := (zb BK133.out 0).trans rfl;have hczQN1113 : wQN112.cell? ⟨gb133,1,none⟩ = some (.int .i64 0) := (zb BK133.out 1).trans rfl;have hczQN1114 : wQN112.cell? ⟨gb133,2,none⟩ = some (.slice none 0 0) := (zb BK133.out 2).trans rfl;have hfzQN1115 := za BK133.out 0;have hfzQN1116 := za BK133.out 1;have hfzQN1117 := za BK133.out 2)) | (have _ := EQ1;(go_at_call 87;(with_reducible refine (zaZ.calls (wrap64 (t122)) (wrap64 (t125)) _ _ t128 true _ ?side1 ?side2 A14.out).mono ?_);(case side1 => refine (Kd.R_reads' (e := 9) (base := w.heap.size) (ok := fun k_ => True) (n := t128.length) (c := coQF57A117) ?_).2.2;exact (by (with_reducible repeat (first | apply Kd.R_alloc | apply Kd.R_drewN | apply Kd.R_drew));exact (Kd.R_mono (Kd.R_far (p := ⟨gb133,2,none⟩) (Kd.R_far (p := ⟨gb133,1,none⟩) (Kd.R_far (p := ⟨gb133,0,none⟩) (Kd.R_types HOQF57A114.out BK133.out (by decide)) (fun _ hk => hk.2) (.int .i64 (wrap64 (t122)))) (fun _ hk => hk.2) (.int .i64 (wrap64 (t125)))) (fun _ hk => hk.2) (.slice AoQF57A116 t128.length coQF57A117)) (fun _ h_ => h_.1))));(case side2 => exact (Kd.R_reads' HOQF57A114.out).2.1);rintro e wQC87A141 ⟨rfl,hb⟩;have n0_ := zc.mk (Kd.R_below (by (with_reducible repeat (first | apply Kd.R_alloc | apply Kd.R_drewN | apply Kd.R_drew));exact (Kd.R_mono (Kd.R_far (p := ⟨gb133,2,none⟩) (Kd.R_far (p := ⟨gb133,1,none⟩) (Kd.R_far (p := ⟨gb133,0,none⟩) (Kd.R_types HOQF57A114.out BK133.out (by decide)) (fun _ hk => hk.2) (.int .i64 (wrap64 (t122)))) (fun _ hk => hk.2) (.int .i64 (wrap64 (t125)))) (fun _ hk => hk.2) (.slice AoQF57A116 t128.length coQF57A117)) (fun _ h_ => h_.1))) hb);have n1_ := zc.mk (zh (g := gb121) (o := .cells #[.int .i64 0,.int .i64 0,.slice none 0 0] 107 (0,0)) (by (with_reducible repeat (first | refine zd ?_ _ | refine zf ?_ | refine ze ?_ _));refine zk ?_ NBQN118.out _;(with_reducible repeat (first | refine zd ?_ _ | refine zf ?_ | refine ze ?_ _));refine zk ?_ NBQN118.out _;(with_reducible repeat (first | refine zd ?_ _ | refine zf ?_ | refine ze ?_ _));refine zk ?_ NBQN118.out _;(with_reducible repeat (first | refine zd ?_ _ | refine zf ?_ | refine ze ?_ _));exact BK121.out) hb);have n2_ := zc.mk (zh (g := gb133) (o := .cells #[.int .i64 (wrap64 (t122)),.int .i64 (wrap64 (t125)),.slice AoQF57A116 t128.length coQF57A117] 107 (0,0)) (by (with_reducible repeat (first | refine zd ?_ _ | refine zf ?_ | refine ze ?_ _));refine zi (cs := #[.int .i64 (wrap64 (t122)),.int .i64 (wrap64 (t125)),.slice none 0 0]) ?_ 2 _ rfl;(with_reducible repeat (first | refine zd ?_ _ | refine zf ?_ | refine ze ?_ _));refine zi (cs := #[.int .i64 (wrap64 (t122)),.int .i64 0,.slice none 0 0]) ?_ 1 _ rfl;(with_reducible repeat (first | refine zd ?_ _ | refine zf ?_ | refine ze ?_ _));refine zi (cs := #[.int .i64 0,.int .i64 0,.slice none 0 0]) ?_ 0 _ rfl;(with_reducible repeat (first | refine zd ?_ _ | refine zf ?_ | refine ze ?_ _));exact BK133.out) hb);have n3_ := zc.mk (zj hCq hb);clear HOQF57A114;clear BK121;clear BK133;clear HB;have HOQF57A114 := n0_;have BK121 := n1_;have BK133 := n2_;have HB := n3_;clear n0_ n1_ n2_ n3_;(try clear hb);(try clear hb2);(try clear hk);(try clear hi);have hczQC87A145 : wQC87A141.cell? ⟨gb133,0,none⟩ = some (.int .i64 (wrap64 (t122))) := (zb BK133.out 0).trans rfl;have hczQC87A146 : wQC87A141.cell? ⟨gb133,1,none⟩ = some (.int .i64 (wrap64 (t125))) := (zb BK133.out 1).trans rfl;have hczQC87A147 : wQC87A141.cell? ⟨gb133,2,none⟩ = some (.slice AoQF57A116 t128.length coQF57A117) := (zb BK133.out 2).trans rfl;have hfzQC87A148 := za BK133.out 0;have hfzQC87A149 := za BK133.out 1;have hfzQC87A1410 := za BK133.out 2;have hczQC87A1411 : wQC87A141.cell? ⟨gb121,0,none⟩ = some (.int .i64 0) := (zb BK121.out 0).trans rfl;have hczQC87A1412 : wQC87A141.cell? ⟨gb121,1,none⟩ = some (.int .i64 0) := (zb BK121.out 1).trans rfl;have hczQC87A1413 : wQC87A141.cell? ⟨gb121,2,none⟩ = some (.slice none 0 0) := (zb BK121.out 2).trans rfl;have hfzQC87A1414 := za BK121.out 0;have hfzQC87A1415 := za BK121.out 1;have hfzQC87A1416 := za BK121.out 2)) | (have _ := EQ2;(go_at_call 87;(with_reducible refine (zaZ.calls (wrap64 (t122)) (wrap64 (t125)) _ _ t128 false _ ?side1 ?side2 A14.out).mono ?_);(case side1 => refine (Kd.R_reads' (e := 9) (base := w.heap.size) (ok := fun k_ => True) (n := t128.length) (c := coQF57A117) ?_).2.2;exact (by (with_reducible repeat (first | apply Kd.R_alloc | apply Kd.R_drewN | apply Kd.R_drew));exact (Kd.R_mono (Kd.R_far (p := ⟨gb133,2,none⟩) (Kd.R_far (p := ⟨gb133,1,none⟩) (Kd.R_far (p := ⟨gb133,0,none⟩) (Kd.R_types HOQF57A114.out BK133.out (by decide)) (fun _ hk => hk.2) (.int .i64 (wrap64 (t122)))) (fun _ hk => hk.2) (.int .i64 (wrap64 (t125)))) (fun _ hk => hk.2) (.slice AoQF57A116 t128.length coQF57A117)) (fun _ h_ => h_.1))));(case side2 => exact (Kd.R_reads' HOQF57A114.out).2.1);rintro e wQC87A141 ⟨rfl,hb⟩;have n0_ := zc.mk (Kd.R_below (by (with_reducible repeat (first | apply Kd.R_alloc | apply Kd.R_drewN | apply Kd.R_drew));exact (Kd.R_mono (Kd.R_far (p := ⟨gb133,2,none⟩) (Kd.R_far (p := ⟨gb133,1,none⟩) (Kd.R_far (p := ⟨gb133,0,none⟩) (Kd.R_types HOQF57A114.out BK133.out (by decide)) (fun _ hk => hk.2) (.int .i64 (wrap64 (t122)))) (fun _ hk => hk.2) (.int .i64 (wrap64 (t125)))) (fun _ hk => hk.2) (.slice AoQF57A116 t128.length coQF57A117)) (fun _ h_ => h_.1))) hb);have n1_ := zc.mk (zh (g := gb121) (o := .cells #[.int .i64 0,.int .i64 0,.slice none 0 0] 107 (0,0)) (by (with_reducible repeat (first | refine zd ?_ _ | refine zf ?_ | refine ze ?_ _));refine zk ?_ NBQN118.out _;(with_reducible repeat (first | refine zd ?_ _ | refine zf ?_ | refine ze ?_ _));refine zk ?_ NBQN118.out _;(with_reducible repeat (first | refine zd ?_ _ | refine zf ?_ | refine ze ?_ _));refine zk ?_ NBQN118.out _;(with_reducible repeat (first | refine zd ?_ _ | refine zf ?_ | refine ze ?_ _));exact BK121.out) hb);have n2_ := zc.mk (zh (g := gb133) (o := .cells #[.int .i64 (wrap64 (t122)),.int .i64 (wrap64 (t125)),.slice AoQF57A116 t128.length coQF57A117] 107 (0,0)) (by (with_reducible repeat (first | refine zd ?_ _ | refine zf ?_ | refine ze ?_ _));refine zi (cs := #[.int .i64 (wrap64 (t122)),.int .i64 (wrap64 (t125)),.slice none 0 0]) ?_ 2 _ rfl;(with_reducible repeat (first | refine zd ?_ _ | refine zf ?_ | refine ze ?_ _));refine zi (cs := #[.int .i64 (wrap64 (t122)),.int .i64 0,.slice none 0 0]) ?_ 1 _ rfl;(with_reducible repeat (first | refine zd ?_ _ | refine zf ?_ | refine ze ?_ _));refine zi (cs := #[.int .i64 0,.int .i64 0,.slice none 0 0]) ?_ 0 _ rfl;(with_reducible repeat (first | refine zd ?_ _ | refine zf ?_ | refine ze ?_ _));exact BK133.out) hb);have n3_ := zc.mk (zj hCq hb);clear HOQF57A114;clear BK121;clear BK133;clear HB;have HOQF57A114 := n0_;have BK121 := n1_;have BK133 := n2_;have HB := n3_;clear n0_ n1_ n2_ n3_;(try clear hb);(try clear hb2);(try clear hk);(try clear hi);have hczQC87A145 : wQC87A141.cell? ⟨gb121,0,none⟩ = some (.int .i64 0) := (zb BK121.out 0).trans rfl;have hczQC87A146 : wQC87A141.cell? ⟨gb121,1,none⟩ = some (.int .i64 0) := (zb BK121.out 1).trans rfl;have hczQC87A147 : wQC87A141.cell? ⟨gb121,2,none⟩ = some (.slice none 0 0) := (zb BK121.out 2).trans rfl;have hfzQC87A148 := za BK121.out 0;have hfzQC87A149 := za BK121.out 1;have hfzQC87A1410 := za BK121.out 2)) | (have _ := EQ3;((with_reducible refine zu (N := 11) rfl ?_);refine zr ?hg (N := 11) ?hd (cs := #[.int .i64 0,.int .i64 0,.slice none 0 0]) (t := 107) ?hr ?_;(case hd => rfl);(case hg => rfl);(case hr => first | (go_simp;done) | (go_simp;rfl));intro gb133 hg wQN112 hbox hb;have n0_ := zc.mk (Kd.R_below (by (with_reducible repeat (first | apply Kd.R_alloc | apply Kd.R_drewN | apply Kd.R_drew));exact HOQF57A114.out) hb);have n1_ := zc.mk (zh (g := gb121) (o := .cells #[.int .i64 0,.int .i64 0,.slice none 0 0] 107 (0,0)) (hGq BK121.out) hb);have n2_ := zc.mk (zj hCq hb);have n3_ := zc.mk (hbox);have n4_ := zc.mk ((by rw [hg];exact (zl hCq) : w.heap.size ≤ gb133));have n5_ := zc.mk ((by rw [hg];exact (zl hCq) : w.heap.size ≤ gb133));have n6_ := zc.mk ((by rw [hg];exact Nat.ne_of_lt (zP (g := gb121) (o := .cells #[.int .i64 0,.int .i64 0,.slice none 0 0] 107 (0,0)) (hGq BK121.out)) : gb121 ≠ gb133));have n7_ := zc.mk ((by rw [hg];exact Nat.ne_of_gt (zP (g := gb121) (o := .cells #[.int .i64 0,.int .i64 0,.slice none 0 0] 107 (0,0)) (hGq BK121.out)) : gb133 ≠ gb121));clear HOQF57A114;clear BK121;clear HB;have HOQF57A114 := n0_;have BK121 := n1_;have HB := n2_;have BK133 := n3_;have GW133 := n4_;have GE133 := n5_;have NBQN118 := n6_;have NBQN119 := n7_;clear n0_ n1_ n2_ n3_ n4_ n5_ n6_ n7_;clear hb hbox hg;have hnbQN1110 := NBQN119.out;have hncQN1111 := NBQN118.out;have hczQN1112 : wQN112.cell? ⟨gb133,0,none⟩ = some (.int .i64 0) := (zb BK133.out 0).trans rfl;have hczQN1113 : wQN112.cell? ⟨gb133,1,none⟩ = some (.int .i64 0) := (zb BK133.out 1).trans rfl;have hczQN1114 : wQN112.cell? ⟨gb133,2,none⟩ = some (.slice none 0 0) := (zb BK133.out 2).trans rfl;have hfzQN1115 := za BK133.out 0;have hfzQN1116 := za BK133.out 1;have hfzQN1117 := za BK133.out 2;have hczQN1118 : wQN112.cell? ⟨gb121,0,none⟩ = some (.int .i64 0) := (zb BK121.out 0).trans rfl;have hczQN1119 : wQN112.cell? ⟨gb121,1,none⟩ = some (.int .i64 0) := (zb BK121.out 1).trans rfl;have hczQN1120 : wQN112.cell? ⟨gb121,2,none⟩ = some (.slice none 0 0) := (zb BK121.out 2).trans rfl;have hfzQN1121 := za BK121.out 0;have hfzQN1122 := za BK121.out 1;have hfzQN1123 := za BK121.out 2)))
     first | (have _ := EQ1;refine bodyPost_ret (z9 rfl _ _ gb121 107 #[.int .i64 (wrap64 (t122)),.int .i64 (wrap64 (t125)),.slice AoQF57A116 t128.length coQF57A117] (0,0) _ rfl (by (with_reducible repeat (first | refine zd ?_ _ | refine zf ?_ | refine ze ?_ _));refine zi (cs := #[.int .i64 (wrap64 (t122)),.int .i64 (wrap64 (t125)),.slice none 0 0]) ?_ 2 _ rfl;(with_reducible repeat (first | refine zd ?_ _ | refine zf ?_ | refine ze ?_ _));refine zi (cs := #[.int .i64 (wrap64 (t122)),.int .i64 0,.slice none 0 0]) ?_ 1 _ rfl;(with_reducible repeat (first | refine zd ?_ _ | refine zf ?_ | refine ze ?_ _));refine zi (cs := #[.int .i64 0,.int .i64 0,.slice none 0 0]) ?_ 0 _ rfl;(with_reducible repeat (first | refine zd ?_ _ | refine zf ?_ | refine ze ?_ _));exact BK121.out) Try.underlying107 rfl (by kernel_rfl)) rfl ?_;exact ⟨_,hHq,by (with_reducible repeat (first | apply Kd.R_alloc | apply Kd.R_drewN | apply Kd.R_drew));exact Kd.R_mono (Kd.R_far (p := ⟨gb121,2,none⟩) (Kd.R_far (p := ⟨gb121,1,none⟩) (Kd.R_far (p := ⟨gb121,0,none⟩) (Kd.R_types HOQF57A114.out BK121.out (by decide)) (fun _ hk => hk.2) (.int .i64 (wrap64 (t122)))) (fun _ hk => hk.2) (.int .i64 (wrap64 (t125)))) (fun _ hk => hk.2) (.slice AoQF57A116 t128.length coQF57A117)) (fun _ hk => trivial),hCq⟩) | (have _ := EQ2;refine bodyPost_ret (z9 rfl _ _ gb121 107 #[.int .i64 0,.int .i64 0,.slice none 0 0] (0,0) _ rfl (by (with_reducible repeat (first | refine zd ?_ _ | refine zf ?_ | refine ze ?_ _));refine zi (cs := #[.int .i64 0,.int .i64 0,.slice none 0 0]) ?_ 2 _ rfl;(with_reducible repeat (first | refine zd ?_ _ | refine zf ?_ | refine ze ?_ _));refine zi (cs := #[.int .i64 0,.int .i64 0,.slice none 0 0]) ?_ 1 _ rfl;(with_reducible repeat (first | refine zd ?_ _ | refine zf ?_ | refine ze ?_ _));refine zi (cs := #[.int .i64 0,.int .i64 0,.slice none 0 0]) ?_ 0 _ rfl;(with_reducible repeat (first | refine zd ?_ _ | refine zf ?_ | refine ze ?_ _));exact BK121.out) Try.underlying107 rfl (by kernel_rfl)) rfl ?_;exact ⟨_,hHq,by first | exact Kd.R_nil _ _ _ _ _ | exact Kd.N_nil _ _ _ _ _ | exact Kd.V_nil _ _ _ _ _ | exact Kd.Q_nil _ _ _ _ _ | exact Kd.S_nil _ _ _ _ _,hCq⟩) | (have _ := EQ3;refine bodyPost_ret (z9 rfl _ _ gb121 107 #[.int .i64 0,.int .i64 0,.slice none 0 0] (0,0) _ rfl (by (with_reducible repeat (first | refine zd ?_ _ | refine zf ?_ | refine ze ?_ _));refine zi (cs := #[.int .i64 0,.int .i64 0,.slice none 0 0]) ?_ 2 _ rfl;(with_reducible repeat (first | refine zd ?_ _ | refine zf ?_ | refine ze ?_ _));refine zi (cs := #[.int .i64 0,.int .i64 0,.slice none 0 0]) ?_ 1 _ rfl;(with_reducible repeat (first | refine zd ?_ _ | refine zf ?_ | refine ze ?_ _));refine zi (cs := #[.int .i64 0,.int .i64 0,.slice none 0 0]) ?_ 0 _ rfl;(with_reducible repeat (first | refine zd ?_ _ | refine zf ?_ | refine ze ?_ _));refine zk ?_ NBQN118.out _;(with_reducible repeat (first | refine zd ?_ _ | refine zf ?_ | refine ze ?_ _));refine zk ?_ NBQN118.out _;(with_reducible repeat (first | refine zd ?_ _ | refine zf ?_ | refine ze ?_ _));refine zk ?_ NBQN118.out _;(with_reducible repeat (first | refine zd ?_ _ | refine zf ?_ | refine ze ?_ _));exact BK121.out) Try.underlying107 rfl (by kernel_rfl)) rfl ?_;exact ⟨_,hHq,by first | exact Kd.R_nil _ _ _ _ _ | exact Kd.N_nil _ _ _ _ _ | exact Kd.V_nil _ _ _ _ _ | exact Kd.Q_nil _ _ _ _ _ | exact Kd.S_nil _ _ _ _ _,hCq⟩)
def zbV.f (a0_0 : Int) (a0_1 : Int) : Option (Bool) := if a0_0 ≥ 0 then (if a0_0 < 10007 then (if a0_1 ≥ 0 then (some (decide (a0_1 < 10007))) else (some false)) else (some false)) else (some false)
set_option maxHeartbeats 8000000 in
set_option maxRecDepth 100000 in
theorem zbV.calls (a0_0 : Int) (a0_1 : Int) (r : Bool) (w : World) (h : zbV.f a0_0 a0_1 = some r) :
  Calls Try.prog 91 #[.agg #[.int .i64 a0_0,.int .i64 a0_1]] w fun e w' => e = .returned (.bool r) ∧ Below w.heap.size w w' := by
 have hu26 := Try.underlying26
 have HB := zc.mk (Below.refl w.heap.size w)
 have H : (if a0_0 ≥ 0 then (if a0_0 < 10007 then (if a0_1 ≥ 0 then (some (decide (a0_1 < 10007))) else (some false)) else (some false)) else (some false)) = some r := h
 clear h
 by_cases c2 : a0_0 ≥ 0
 ·rw [if_pos c2] at H
  have c2b0 : decide (0 ≤ a0_0) = true := decide_eq_true c2
  clear c2
  by_cases c3 : a0_0 < 10007
  ·rw [if_pos c3] at H
   have c3b0 : decide (a0_0 < 10007) = true := decide_eq_true c3
   clear c3
   by_cases c4 : a0_1 ≥ 0
   ·rw [if_pos c4] at H
    have c4b0 : decide (0 ≤ a0_1) = true := decide_eq_true c4
    clear c4
    obtain rfl := Option.some.inj H
    go_enter Try.func91,Try.ntmps91
    go_wp2_with (first | ((with_reducible refine zu (N := 1) rfl ?_);refine zr ?hg (N := 1) ?hd (cs := #[.int .i64 a0_0,.int .i64 a0_1]) (t := 26) ?hr ?_;(case hd => rfl);(case hg => rfl);(case hr => first | (go_simp;done) | (go_simp;rfl));intro gb138 hg w5 hbox hb;have n0_ := zc.mk (zj hBq hb);have n1_ := zc.mk (hbox);have n2_ := zc.mk ((by rw [hg];exact (zl hBq) : w.heap.size ≤ gb138));have n3_ := zc.mk ((by rw [hg];exact (zl hBq) : w.heap.size ≤ gb138));clear HB;have HB := n0_;have BK138 := n1_;have GW138 := n2_;have GE138 := n3_;clear n0_ n1_ n2_ n3_;clear hb hbox hg;have hcz6_0 : w5.cell? ⟨gb138,0,none⟩ = some (.int .i64 a0_0) := (zb BK138.out 0).trans rfl;have hcz6_1 : w5.cell? ⟨gb138,1,none⟩ = some (.int .i64 a0_1) := (zb BK138.out 1).trans rfl;have hfz6_0 := za BK138.out 0;have hfz6_1 := za BK138.out 1))
    go_ret
    exact ⟨hHq,hCq⟩
   ·rw [if_neg c4] at H
    have c4b0 : decide (0 ≤ a0_1) = false := decide_eq_false c4
    clear c4
    obtain rfl := Option.some.inj H
    go_enter Try.func91,Try.ntmps91
    go_wp2_with (first | ((with_reducible refine zu (N := 1) rfl ?_);refine zr ?hg (N := 1) ?hd (cs := #[.int .i64 a0_0,.int .i64 a0_1]) (t := 26) ?hr ?_;(case hd => rfl);(case hg => rfl);(case hr => first | (go_simp;done) | (go_simp;rfl));intro gb138 hg w7 hbox hb;have n0_ := zc.mk (zj hBq hb);have n1_ := zc.mk (hbox);have n2_ := zc.mk ((by rw [hg];exact (zl hBq) : w.heap.size ≤ gb138));have n3_ := zc.mk ((by rw [hg];exact (zl hBq) : w.heap.size ≤ gb138));clear HB;have HB := n0_;have BK138 := n1_;have GW138 := n2_;have GE138 := n3_;clear n0_ n1_ n2_ n3_;clear hb hbox hg;have hcz8_0 : w7.cell? ⟨gb138,0,none⟩ = some (.int .i64 a0_0) := (zb BK138.out 0).trans rfl;have hcz8_1 : w7.cell? ⟨gb138,1,none⟩ = some (.int .i64 a0_1) := (zb BK138.out 1).trans rfl;have hfz8_0 := za BK138.out 0;have hfz8_1 := za BK138.out 1))
    go_ret
    exact ⟨hHq,hCq⟩
  ·rw [if_neg c3] at H
   have c3b0 : decide (a0_0 < 10007) = false := decide_eq_false c3
   clear c3
   obtain rfl := Option.some.inj H
   go_enter Try.func91,Try.ntmps91
   go_wp2_with (first | ((with_reducible refine zu (N := 1) rfl ?_);refine zr ?hg (N := 1) ?hd (cs := #[.int .i64 a0_0,.int .i64 a0_1]) (t := 26) ?hr ?_;(case hd => rfl);(case hg => rfl);(case hr => first | (go_simp;done) | (go_simp;rfl));intro gb138 hg w9 hbox hb;have n0_ := zc.mk (zj hBq hb);have n1_ := zc.mk (hbox);have n2_ := zc.mk ((by rw [hg];exact (zl hBq) : w.heap.size ≤ gb138));have n3_ := zc.mk ((by rw [hg];exact (zl hBq) : w.heap.size ≤ gb138));clear HB;have HB := n0_;have BK138 := n1_;have GW138 := n2_;have GE138 := n3_;clear n0_ n1_ n2_ n3_;clear hb hbox hg;have hcz10_0 : w9.cell? ⟨gb138,0,none⟩ = some (.int .i64 a0_0) := (zb BK138.out 0).trans rfl;have hcz10_1 : w9.cell? ⟨gb138,1,none⟩ = some (.int .i64 a0_1) := (zb BK138.out 1).trans rfl;have hfz10_0 := za BK138.out 0;have hfz10_1 := za BK138.out 1))
   go_ret
   exact ⟨hHq,hCq⟩
 ·rw [if_neg c2] at H
  have c2b0 : decide (0 ≤ a0_0) = false := decide_eq_false c2
  clear c2
  obtain rfl := Option.some.inj H
  go_enter Try.func91,Try.ntmps91
  go_wp2_with (first | ((with_reducible refine zu (N := 1) rfl ?_);refine zr ?hg (N := 1) ?hd (cs := #[.int .i64 a0_0,.int .i64 a0_1]) (t := 26) ?hr ?_;(case hd => rfl);(case hg => rfl);(case hr => first | (go_simp;done) | (go_simp;rfl));intro gb138 hg w11 hbox hb;have n0_ := zc.mk (zj hBq hb);have n1_ := zc.mk (hbox);have n2_ := zc.mk ((by rw [hg];exact (zl hBq) : w.heap.size ≤ gb138));have n3_ := zc.mk ((by rw [hg];exact (zl hBq) : w.heap.size ≤ gb138));clear HB;have HB := n0_;have BK138 := n1_;have GW138 := n2_;have GE138 := n3_;clear n0_ n1_ n2_ n3_;clear hb hbox hg;have hcz12_0 : w11.cell? ⟨gb138,0,none⟩ = some (.int .i64 a0_0) := (zb BK138.out 0).trans rfl;have hcz12_1 : w11.cell? ⟨gb138,1,none⟩ = some (.int .i64 a0_1) := (zb BK138.out 1).trans rfl;have hfz12_0 := za BK138.out 0;have hfz12_1 := za BK138.out 1))
  go_ret
  exact ⟨hHq,hCq⟩
def zaG.f (a0 : Int) : Option (Bool) := if a0 ≥ 4 then (if a0 ≤ 64 then (some ((Int.tmod a0 3) == 1)) else (some false)) else (some false)
set_option maxHeartbeats 8000000 in
set_option maxRecDepth 100000 in
theorem zaG.calls (a0 : Int) (r : Bool) (w : World) (h : zaG.f a0 = some r) :
  Calls Try.prog 89 #[.int .i64 a0] w fun e w' => e = .returned (.bool r) ∧ zax w w' := by
 have H : (if a0 ≥ 4 then (if a0 ≤ 64 then (some ((Int.tmod a0 3) == 1)) else (some false)) else (some false)) = some r := h
 clear h
 by_cases c2 : a0 ≥ 4
 ·rw [if_pos c2] at H
  have c2b0 : decide (4 ≤ a0) = true := decide_eq_true c2
  clear c2
  by_cases c3 : a0 ≤ 64
  ·rw [if_pos c3] at H
   have c3b0 : decide (a0 ≤ 64) = true := decide_eq_true c3
   clear c3
   obtain rfl := Option.some.inj H
   go_enter Try.func89,Try.ntmps89
   go_wp2
   go_ret
   exact ⟨hDq,hEq⟩
  ·rw [if_neg c3] at H
   have c3b0 : decide (a0 ≤ 64) = false := decide_eq_false c3
   clear c3
   obtain rfl := Option.some.inj H
   go_enter Try.func89,Try.ntmps89
   go_wp2
   go_ret
   exact ⟨hDq,hEq⟩
 ·rw [if_neg c2] at H
  have c2b0 : decide (4 ≤ a0) = false := decide_eq_false c2
  clear c2
  obtain rfl := Option.some.inj H
  go_enter Try.func89,Try.ntmps89
  go_wp2
  go_ret
  exact ⟨hDq,hEq⟩
def zbD.f (a0 : Int) : Option (Int) := (zaG.f a0).bind fun t135 => (if t135 = true then (some (wrap64 (Int.tdiv (wrap64 (a0 - 1)) 3))) else (some 0))
set_option maxHeartbeats 8000000 in
set_option maxRecDepth 100000 in
theorem zbD.calls (a0 : Int) (r : Int) (w : World) (h : zbD.f a0 = some r) :
  Calls Try.prog 111 #[.int .i64 a0] w fun e w' => e = .returned (.int .i64 r) ∧ zax w w' := by
 have H : ((zaG.f a0).bind fun t135 => (if t135 = true then (some (wrap64 (Int.tdiv (wrap64 (a0 - 1)) 3))) else (some 0))) = some r := h
 clear h
 replace H := Option.bind_eq_some_iff.mp H
 obtain ⟨t135,A20,H⟩ := H
 replace H : (if t135 = true then (some (wrap64 (Int.tdiv (wrap64 (a0 - 1)) 3))) else (some 0)) = some r := H
 have A2 := zc.mk A20
 clear A20
 by_cases c3 : t135 = true
 ·subst c3
  have H1 : (some (wrap64 (Int.tdiv (wrap64 (a0 - 1)) 3))) = some r := by rw [if_pos rfl] at H;exact H
  clear H
  have H := H1
  clear H1
  obtain rfl := Option.some.inj H
  go_enter Try.func111,Try.ntmps111
  go_wp2_with (first | ((with_reducible refine zt (f := 89) rfl ?_);refine zU (some 4) rfl rfl Try.func89 (by kernel_rfl) rfl #[.int .i64 a0] rfl (by (try simp only [List.map_toArray,List.map_cons,List.map_nil]);first | done | rfl | (simp only [List.length_drop,List.length_take];rfl)) ?_;(with_reducible refine (zaG.calls a0 true _ A2.out).mono ?_);rintro e w' ⟨rfl,⟨nd,rfl⟩⟩;refine ⟨_,rfl,?_⟩))
  go_ret
  exact ⟨hDq,hEq⟩
 ·replace c3 := Bool.eq_false_iff.mpr c3
  subst c3
  have H1 : (some 0) = some r := by rw [if_neg (show ¬ (false = true) by decide)] at H;exact H
  clear H
  have H := H1
  clear H1
  obtain rfl := Option.some.inj H
  go_enter Try.func111,Try.ntmps111
  go_wp2_with (first | ((with_reducible refine zt (f := 89) rfl ?_);refine zU (some 4) rfl rfl Try.func89 (by kernel_rfl) rfl #[.int .i64 a0] rfl (by (try simp only [List.map_toArray,List.map_cons,List.map_nil]);first | done | rfl | (simp only [List.length_drop,List.length_take];rfl)) ?_;(with_reducible refine (zaG.calls a0 false _ A2.out).mono ?_);rintro e w' ⟨rfl,⟨nd,rfl⟩⟩;refine ⟨_,rfl,?_⟩))
  go_ret
  exact ⟨hDq,hEq⟩
def zaO.f (a0 : Int) : Option (Int) := (zaG.f a0).bind fun t136 => (if t136 = true then ((zbD.f a0).bind fun t137 => (some (wrap64 (a0 - t137)))) else (some 0))
set_option maxHeartbeats 8000000 in
set_option maxRecDepth 100000 in
theorem zaO.calls (a0 : Int) (r : Int) (w : World) (h : zaO.f a0 = some r) :
  Calls Try.prog 77 #[.int .i64 a0] w fun e w' => e = .returned (.int .i64 r) ∧ zax w w' := by
 have H : ((zaG.f a0).bind fun t136 => (if t136 = true then ((zbD.f a0).bind fun t137 => (some (wrap64 (a0 - t137)))) else (some 0))) = some r := h
 clear h
 replace H := Option.bind_eq_some_iff.mp H
 obtain ⟨t136,A20,H⟩ := H
 replace H : (if t136 = true then ((zbD.f a0).bind fun t137 => (some (wrap64 (a0 - t137)))) else (some 0)) = some r := H
 have A2 := zc.mk A20
 clear A20
 by_cases c3 : t136 = true
 ·subst c3
  have H1 : ((zbD.f a0).bind fun t137 => (some (wrap64 (a0 - t137)))) = some r := by rw [if_pos rfl] at H;exact H
  clear H
  have H := H1
  clear H1
  replace H := Option.bind_eq_some_iff.mp H
  obtain ⟨t137,A40,H⟩ := H
  replace H : (some (wrap64 (a0 - t137))) = some r := H
  have A4 := zc.mk A40
  clear A40
  obtain rfl := Option.some.inj H
  go_enter Try.func77,Try.ntmps77
  go_wp2_with (first | ((with_reducible refine zt (f := 89) rfl ?_);refine zU (some 4) rfl rfl Try.func89 (by kernel_rfl) rfl #[.int .i64 a0] rfl (by (try simp only [List.map_toArray,List.map_cons,List.map_nil]);first | done | rfl | (simp only [List.length_drop,List.length_take];rfl)) ?_;(with_reducible refine (zaG.calls a0 true _ A2.out).mono ?_);rintro e w' ⟨rfl,⟨nd,rfl⟩⟩;refine ⟨_,rfl,?_⟩) | ((with_reducible refine zt (f := 111) rfl ?_);refine zU (some 8) rfl rfl Try.func111 (by kernel_rfl) rfl #[.int .i64 a0] rfl (by (try simp only [List.map_toArray,List.map_cons,List.map_nil]);first | done | rfl | (simp only [List.length_drop,List.length_take];rfl)) ?_;(with_reducible refine (zbD.calls a0 t137 _ A4.out).mono ?_);rintro e w' ⟨rfl,⟨nd,rfl⟩⟩;refine ⟨_,rfl,?_⟩))
  go_ret
  exact ⟨hDq,hEq⟩
 ·replace c3 := Bool.eq_false_iff.mpr c3
  subst c3
  have H1 : (some 0) = some r := by rw [if_neg (show ¬ (false = true) by decide)] at H;exact H
  clear H
  have H := H1
  clear H1
  obtain rfl := Option.some.inj H
  go_enter Try.func77,Try.ntmps77
  go_wp2_with (first | ((with_reducible refine zt (f := 89) rfl ?_);refine zU (some 4) rfl rfl Try.func89 (by kernel_rfl) rfl #[.int .i64 a0] rfl (by (try simp only [List.map_toArray,List.map_cons,List.map_nil]);first | done | rfl | (simp only [List.length_drop,List.length_take];rfl)) ?_;(with_reducible refine (zaG.calls a0 false _ A2.out).mono ?_);rintro e w' ⟨rfl,⟨nd,rfl⟩⟩;refine ⟨_,rfl,?_⟩))
  go_ret
  exact ⟨hDq,hEq⟩
end Go.Proofs.Ytgdpiegkoeikiaa.Px