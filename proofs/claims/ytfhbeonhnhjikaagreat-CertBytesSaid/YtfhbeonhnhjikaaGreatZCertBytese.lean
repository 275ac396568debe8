/- Part 31 of 35 of the proof of the law CertBytes: what is proved is the statement at the end of the last part; its conditions are those of the given row. -/
import Derived.Test.YtfhbeonhnhjikaaGreatZCertBytesd
namespace Go.Proofs.YtfhbeonhnhjikaaGreat.Px
open Go.RowKit Go.Proofs.YtfhbeonhnhjikaaGreatW.PrintWords Go.Proofs.YtfhbeonhnhjikaaGreatW.PrintLast Go.Proofs.YtfhbeonhnhjikaaGreatW.PrintMore
attribute [local go_sem] zz zB zI zJ zp zq zA zC
set_option linter.unusedVariables false
set_option linter.unusedSimpArgs false
def z4.j0 : Nat → Int → ByteArray → Int → Bool → Option (Int × Int × (List (S73)) × List ByteArray × Int × Int × Int × Int)
 | 0,_,_,_,_ => none
 | k + 1,x1,x6,x9,x36 => if x36 = true then (some (0,0,([] : List (S73)),([] : List ByteArray),0,0,0,3)) else ((zh.f k x6 x1).bind fun bt376 => (if bt376.2.2.2.2.2.2 = 0 then ((zay.f k bt376.1 bt376.2.1 bt376.2.2.1 bt376.2.2.2.1 bt376.2.2.2.2.1 bt376.2.2.2.2.2.1 x9 x1).bind fun t389 => (if t389 = 0 then (some (bt376.1,bt376.2.1,bt376.2.2.1,bt376.2.2.2.1,bt376.2.2.2.2.1,bt376.2.2.2.2.2.1,x9,0)) else (some (0,0,([] : List (S73)),([] : List ByteArray),0,0,0,3)))) else (some (0,0,([] : List (S73)),([] : List ByteArray),0,0,0,3))))
def z4.f (k : Nat) (a0 : ByteArray) (a1 : Int) : Option (Int × Int × (List (S73)) × List ByteArray × Int × Int × Int × Int) := (zR.f k a0 65536).bind fun bt370 => (if bt370.2.2 = 0 then ((zi.f k bt370.2.1).bind fun bt373 => (if bt373.2.2 = 0 then (z4.j0 k a1 bt370.1 bt373.1 (decide ((bt373.2.1.size : Int) > 0))) else (z4.j0 k a1 bt370.1 bt373.1 true))) else (some (0,0,([] : List (S73)),([] : List ByteArray),0,0,0,3)))
set_option maxHeartbeats 8000000 in
set_option maxRecDepth 100000 in
theorem z4.calls (k : Nat) (a0 : ByteArray) (a1 : Int) (r1 : Int) (r2 : Int) (r3 : List (S73)) (r4 : List ByteArray) (r5 : Int) (r6 : Int) (r7 : Int) (r8 : Int) (w : World) (h : z4.f k a0 a1 = some (r1,r2,r3,r4,r5,r6,r7,r8)) :
  Calls Tryz.prog 8 #[.string a0,.int .i64 a1] w fun e w' => ∃ v2_ v3_ : Value,e = .returned (.tuple #[.agg #[.int .i64 r1,.int .i64 r2,v2_,v3_,.int .i64 r5,.int .i64 r6,.int .u64 r7],.int .i64 r8]) ∧ Kd.S k73 73 w' w.heap.size (fun k_ => some k_ ≠ (v3_ : Value).ownBlock) v2_ r3 ∧ Kd.R Kd.string 9 w' w.heap.size (fun _ => True) v3_ r4 ∧ Below w.heap.size w w' := by
 have hu30 := Tryz.underlying30
 have hu27 := Tryz.underlying27
 have HB := za.mk (Below.refl w.heap.size w)
 have H : ((zR.f k a0 65536).bind fun bt370 => (if bt370.2.2 = 0 then ((zi.f k bt370.2.1).bind fun bt373 => (if bt373.2.2 = 0 then (z4.j0 k a1 bt370.1 bt373.1 (decide ((bt373.2.1.size : Int) > 0))) else (z4.j0 k a1 bt370.1 bt373.1 true))) else (some (0,0,([] : List (S73)),([] : List ByteArray),0,0,0,3)))) = some (r1,r2,r3,r4,r5,r6,r7,r8) := h
 clear h
 replace H := Option.bind_eq_some_iff.mp H
 obtain ⟨⟨t370,t371,t372⟩,A30,H⟩ := H
 replace H : (if t372 = 0 then ((zi.f k t371).bind fun bt373 => (if bt373.2.2 = 0 then (z4.j0 k a1 t370 bt373.1 (decide ((bt373.2.1.size : Int) > 0))) else (z4.j0 k a1 t370 bt373.1 true))) else (some (0,0,([] : List (S73)),([] : List ByteArray),0,0,0,3))) = some (r1,r2,r3,r4,r5,r6,r7,r8) := H
 have A3 := za.mk A30
 clear A30
 by_cases c4 : t372 = 0
 ·rw [if_pos c4] at H
  have c4b0 : (t372 == 0) = true := beq_iff_eq.mpr c4
  have c4b1 : (t372 != 0) = false := bne_eq_false_iff_eq.mpr c4
  clear c4
  replace H := Option.bind_eq_some_iff.mp H
  obtain ⟨⟨t373,t374,t375⟩,A50,H⟩ := H
  replace H : (if t375 = 0 then (z4.j0 k a1 t370 t373 (decide ((t374.size : Int) > 0))) else (z4.j0 k a1 t370 t373 true)) = some (r1,r2,r3,r4,r5,r6,r7,r8) := H
  have A5 := za.mk A50
  clear A50
  have HC6 := za.mk H
  clear H
  go_enter Tryz.func8,Tryz.ntmps8
  go_upto_region 5 with (first | ((with_reducible refine zy (N := 4) rfl ?_);(try (refine zba (by rfl) ?_;dsimp only));refine zo ?hg (N := 4) ?hd (cs := #[.int .i64 0,.int .i64 0,.slice none 0 0,.slice none 0 0,.int .i64 0,.int .i64 0,.int .u64 0]) (t := 30) ?hr ?_;(case hd => rfl);(case hg => rfl);(case hr => first | (go_simp;done) | (go_simp;rfl));intro gb369 hg w7 hbox hb;have n_ := haq (zd hBq hb) <| haq (hbox) <| haq ((by rw [hg];exact (ze hBq) : w.heap.size ≤ gb369)) <| haq ((by rw [hg];exact (ze hBq) : w.heap.size ≤ gb369)) <| trivial;clear HB;obtain ⟨HB,BK369,GW369,GE369,_⟩ := n_;clear hb hbox hg) | ((with_reducible refine zj (f := 25) rfl ?_);refine zQ (some 17) rfl rfl Tryz.func25 (by kernel_rfl) rfl #[.string a0,.int .i64 65536] rfl hMq ?_;(with_reducible refine (zR.calls k a0 65536 t370 t371 t372 _ A3.out).mono ?_);rintro e w' ⟨rfl,⟨nd,rfl⟩⟩;refine ⟨_,rfl,?_⟩) | ((with_reducible refine zj (f := 26) rfl ?_);refine zQ (some 26) rfl rfl Tryz.func26 (by kernel_rfl) rfl #[.string t371] rfl hMq ?_;(with_reducible refine (zi.calls k t371 t373 t374 t375 _ A5.out).mono ?_);rintro e w' ⟨rfl,⟨nd,rfl⟩⟩;refine ⟨_,rfl,?_⟩))
  (try simp only [Act.put,List.setIfInBounds_toArray,List.set_cons_zero,List.set_cons_succ])
  go_cut [36] (fun v36 wc => ∃ (kq : Nat) (x36_5 : Bool),v36 = .bool x36_5 ∧ za (z4.j0 kq a1 t370 t373 x36_5 = some (r1,r2,r3,r4,r5,r6,r7,r8)) ∧ za (kq ≤ k) ∧ za (wc.heap[gb369]? = some (.cells #[.int .i64 0,.int .i64 0,(.slice none 0 0),(.slice none 0 0),.int .i64 0,.int .i64 0,.int .u64 0] 30 (0,0))) ∧ za (Below w.heap.size w wc))
  case first =>
   have H := HC6.out
   clear HC6
   by_cases c8 : t375 = 0
   ·rw [if_pos c8] at H
    have c8b0 : (t375 == 0) = true := beq_iff_eq.mpr c8
    have c8b1 : (t375 != 0) = false := bne_eq_false_iff_eq.mpr c8
    clear c8
    (first | rw [c8b0] | (simp only [zK,zL];rw [c8b0]) | skip)
    have H' := za.mk H
    clear H
    go_wp2
    go_meet
    case rel => exact ⟨_,(decide ((t374.size : Int) > 0)),(hDq),H',⟨by first | omega | exact Nat.le_refl _⟩,⟨hGq BK369.out⟩,⟨by repeat (first | (with_reducible first | exact HB.out | apply zk | apply zf | apply zm | refine zw ?_ GE369.out) | exact HB.out)⟩⟩
   ·rw [if_neg c8] at H
    have c8b0 : (t375 == 0) = false := beq_eq_false_iff_ne.mpr c8
    have c8b1 : (t375 != 0) = true := bne_iff_ne.mpr c8
    (first | rw [c8b0] | (simp only [zK,zL];rw [c8b0]) | skip)
    have H' := za.mk H
    clear H
    go_wp2
    go_meet
    case rel => exact ⟨_,(true),(hDq),H',⟨by first | omega | exact Nat.le_refl _⟩,⟨hGq BK369.out⟩,⟨by repeat (first | (with_reducible first | exact HB.out | apply zk | apply zf | apply zm | refine zw ?_ GE369.out) | exact HB.out)⟩⟩
  case rest =>
   clear HC6
   try clear c2;try clear p2;try clear c4;try clear c4b0;try clear c4b1;try clear c8;try clear c8b0;try clear c8b1
   obtain ⟨kq,x36_5,rfl,HA,HJ5,BK369,HB⟩ := hcut
   cases kq with
   | zero => exact absurd HA.out (by simp [z4.j0])
   | succ kj5 =>
    have H := HA.out
    clear HA
    simp only [z4.j0] at H
    by_cases c9 : x36_5 = true
    ·subst c9
     have H1 : (some (0,0,([] : List (S73)),([] : List ByteArray),0,0,0,3)) = some (r1,r2,r3,r4,r5,r6,r7,r8) := by rw [if_pos rfl] at H;exact H
     clear H
     have H := H1
     clear H1
     simp only [Option.some.injEq,Prod.mk.injEq] at H
     obtain ⟨rfl,rfl,rfl,rfl,rfl,rfl,rfl,rfl⟩ := H
     obtain ⟨hcz10_0,hcz10_1,hcz10_2,hcz10_3,hcz10_4,hcz10_5,hcz10_6,hfz10_0,hfz10_1,hfz10_2,hfz10_3,hfz10_4,hfz10_5,hfz10_6⟩ := hcq7 BK369.out
     go_wp2
     refine bodyPost_ret (zaq rfl _ _ gb369 30 #[.int .i64 0,.int .i64 0,.slice none 0 0,.slice none 0 0,.int .i64 0,.int .i64 0,.int .u64 0] (0,0) _ rfl (hxq0p BK369.out) Tryz.underlying30 rfl (by kernel_rfl)) rfl ?_
     exact ⟨_,_,hHq,by first | exact Kd.S_nil _ _ _ _ _ | exact Kd.N_nil _ _ _ _ _ | exact Kd.V_nil _ _ _ _ _ | exact Kd.Q_nil _ _ _ _ _ | exact Kd.R_nil _ _ _ _ _,by first | exact Kd.R_nil _ _ _ _ _ | exact Kd.N_nil _ _ _ _ _ | exact Kd.V_nil _ _ _ _ _ | exact Kd.Q_nil _ _ _ _ _ | exact Kd.S_nil _ _ _ _ _,hCq⟩
    ·replace c9 := Bool.eq_false_iff.mpr c9
     subst c9
     have H1 : ((zh.f kj5 t370 a1).bind fun bt376 => (if bt376.2.2.2.2.2.2 = 0 then ((zay.f kj5 bt376.1 bt376.2.1 bt376.2.2.1 bt376.2.2.2.1 bt376.2.2.2.2.1 bt376.2.2.2.2.2.1 t373 a1).bind fun t389 => (if t389 = 0 then (some (bt376.1,bt376.2.1,bt376.2.2.1,bt376.2.2.2.1,bt376.2.2.2.2.1,bt376.2.2.2.2.2.1,t373,0)) else (some (0,0,([] : List (S73)),([] : List ByteArray),0,0,0,3)))) else (some (0,0,([] : List (S73)),([] : List ByteArray),0,0,0,3)))) = some (r1,r2,r3,r4,r5,r6,r7,r8) := by rw [if_neg (show ¬ (false = true) by decide)] at H;exact H
     clear H
     have H := H1
     clear H1
     replace H := Option.bind_eq_some_iff.mp H
     obtain ⟨⟨t376,t377,t378,t381,t384,t385,t386⟩,A110,H⟩ := H
     replace H : (if t386 = 0 then ((zay.f kj5 t376 t377 t378 t381 t384 t385 t373 a1).bind fun t389 => (if t389 = 0 then (some (t376,t377,t378,t381,t384,t385,t373,0)) else (some (0,0,([] : List (S73)),([] : List ByteArray),0,0,0,3)))) else (some (0,0,([] : List (S73)),([] : List ByteArray),0,0,0,3))) = some (r1,r2,r3,r4,r5,r6,r7,r8) := H
     have A11 := za.mk A110
     clear A110
     by_cases c12 : t386 = 0
     focus
      rw [if_pos c12] at H
      have c12b0 : (t386 == 0) = true := beq_iff_eq.mpr c12
      have c12b1 : (t386 != 0) = false := bne_eq_false_iff_eq.mpr c12
      clear c12
      replace H := Option.bind_eq_some_iff.mp H
      obtain ⟨t389,A130,H⟩ := H
      replace H : (if t389 = 0 then (some (t376,t377,t378,t381,t384,t385,t373,0)) else (some (0,0,([] : List (S73)),([] : List ByteArray),0,0,0,3))) = some (r1,r2,r3,r4,r5,r6,r7,r8) := H
      have A13 := za.mk A130
      clear A130
      by_cases c14 : t389 = 0
      focus
       rw [if_pos c14] at H
       have c14b0 : (t389 == 0) = true := beq_iff_eq.mpr c14
       have c14b1 : (t389 != 0) = false := bne_eq_false_iff_eq.mpr c14
       clear c14
       simp only [Option.some.injEq,Prod.mk.injEq] at H
       obtain ⟨rfl,rfl,rfl,rfl,rfl,rfl,rfl,rfl⟩ := H
       have EQ0 := True.intro
       have EQ1 := True.intro
      rotate_left
      focus
       rw [if_neg c14] at H
       have c14b0 : (t389 == 0) = false := beq_eq_false_iff_ne.mpr c14
       have c14b1 : (t389 != 0) = true := bne_iff_ne.mpr c14
       simp only [Option.some.injEq,Prod.mk.injEq] at H
       obtain ⟨rfl,rfl,rfl,rfl,rfl,rfl,rfl,rfl⟩ := H
       have EQ0 := True.intro
       have EQ2 := True.intro
     rotate_left 2
     focus
      rw [if_neg c12] at H
      have c12b0 : (t386 == 0) = false := beq_eq_false_iff_ne.mpr c12
      have c12b1 : (t386 != 0) = true := bne_iff_ne.mpr c12
      simp only [Option.some.injEq,Prod.mk.injEq] at H
      obtain ⟨rfl,rfl,rfl,rfl,rfl,rfl,rfl,rfl⟩ := H
      have EQ3 := True.intro
     all_goals
      go_wp2_with (first | ((with_reducible refine zj (f := 27) rfl ?_);refine zQ (some 41) rfl rfl Tryz.func27 (by kernel_rfl) rfl #[.string t370,.int .i64 a1] rfl hMq ?_;(with_reducible refine (zh.calls kj5 t370 a1 t376 t377 t378 t381 t384 t385 t386 _ A11.out).mono ?_);rintro e wQF27A111 ⟨vQF27A112,vQF27A113,rfl,hoQF27A114,hoQF27A115,hb⟩;refine ⟨_,rfl,?_⟩;have n_ := haq (Kd.S_lower hoQF27A114 (ze hCq)) <| haq (Kd.R_lower hoQF27A115 (ze hCq)) <| haq (hbq BK369.out hb) <| haq (zd hCq hb) <| trivial;clear BK369 HB;obtain ⟨HOQF27A116,HOQF27A117,BK369,HB,_⟩ := n_;(try clear hb);(try clear hb2);(try clear hk);(try clear hi);(try clear hoQF27A114);(try clear hoQF27A115)) | (have _ := EQ0;((with_reducible refine zy (N := 12) rfl ?_);(try (refine zba (by rfl) ?_;dsimp only));refine zo ?hg (N := 12) ?hd (cs := #[.int .i64 0,.int .i64 0,.slice none 0 0,.slice none 0 0,.int .i64 0,.int .i64 0]) (t := 27) ?hr ?_;(case hd => rfl);(case hg => rfl);(case hr => first | (go_simp;done) | (go_simp;rfl));intro gb387 hg wQN122 hbox hb;have n_ := haq (Kd.S_below (hSq HOQF27A116.out) hb) <| haq (Kd.R_below (hRq HOQF27A117.out) hb) <| haq (hbq BK369.out hb) <| haq (zd hCq hb) <| haq (hbox) <| haq ((by rw [hg];exact (ze hCq) : w.heap.size ≤ gb387)) <| haq ((by rw [hg];exact (ze hCq) : w.heap.size ≤ gb387)) <| haq (hnq hg BK369.out) <| haq (hmq hg BK369.out) <| trivial;clear HOQF27A116 HOQF27A117 BK369 HB;obtain ⟨HOQF27A116,HOQF27A117,BK369,HB,BK387,GW387,GE387,NBQN129,NBQN1210,_⟩ := n_;clear hb hbox hg;have hnbQN1211 := NBQN1210.out;have hncQN1212 := NBQN129.out;obtain ⟨hczQN1213,hczQN1214,hczQN1215,hczQN1216,hczQN1217,hczQN1218,hfzQN1219,hfzQN1220,hfzQN1221,hfzQN1222,hfzQN1223,hfzQN1224⟩ := hcq6 BK387.out;obtain ⟨AoQN1225,coQN1226,eoQN1227⟩ := Kd.S_slice HOQF27A116.out;subst eoQN1227;obtain ⟨AoQN1228,coQN1229,eoQN1230⟩ := Kd.R_slice HOQF27A117.out;subst eoQN1230)) | (have _ := EQ0;((with_reducible refine zy (N := 14) rfl ?_);(try (refine zba (by rfl) ?_;dsimp only));refine zo ?hg (N := 14) ?hd (cs := #[.int .i64 0,.int .i64 0,.slice none 0 0,.slice none 0 0,.int .i64 0,.int .i64 0,.int .u64 0]) (t := 30) ?hr ?_;(case hd => rfl);(case hg => rfl);(case hr => first | (go_simp;done) | (go_simp;rfl));intro gb388 hg wQN142 hbox hb;have n_ := haq (Kd.S_below (by (with_reducible repeat (first | apply Kd.S_alloc | apply Kd.S_drewN | apply Kd.S_drew));exact (Kd.S_mono (Kd.S_far (p := ⟨gb387,5,none⟩) (Kd.S_far (p := ⟨gb387,4,none⟩) (Kd.S_far (p := ⟨gb387,3,none⟩) (Kd.S_far (p := ⟨gb387,2,none⟩) (Kd.S_far (p := ⟨gb387,1,none⟩) (Kd.S_far (p := ⟨gb387,0,none⟩) (Kd.S_types HOQF27A116.out BK387.out (by decide)) (fun _ hk => hk.2) (.int .i64 t376)) (fun _ hk => hk.2) (.int .i64 t377)) (fun _ hk => hk.2) (.slice AoQN1225 t378.length coQN1226)) (fun _ hk => hk.2) (.slice AoQN1228 t381.length coQN1229)) (fun _ hk => hk.2) (.int .i64 t384)) (fun _ hk => hk.2) (.int .i64 t385)) (fun _ h_ => h_.1))) hb) <| haq (Kd.R_below (by (with_reducible repeat (first | apply Kd.R_alloc | apply Kd.R_drewN | apply Kd.R_drew));exact (Kd.R_mono (Kd.R_far (p := ⟨gb387,5,none⟩) (Kd.R_far (p := ⟨gb387,4,none⟩) (Kd.R_far (p := ⟨gb387,3,none⟩) (Kd.R_far (p := ⟨gb387,2,none⟩) (Kd.R_far (p := ⟨gb387,1,none⟩) (Kd.R_far (p := ⟨gb387,0,none⟩) (Kd.R_types HOQF27A117.out BK387.out (by decide)) (fun _ hk => hk.2) (.int .i64 t376)) (fun _ hk => hk.2) (.int .i64 t377)) (fun _ hk => hk.2) (.slice AoQN1225 t378.length coQN1226)) (fun _ hk => hk.2) (.slice AoQN1228 t381.length coQN1229)) (fun _ hk => hk.2) (.int .i64 t384)) (fun _ hk => hk.2) (.int .i64 t385)) (fun _ h_ => h_.1))) hb) <| haq (zx (g := gb369) (o := .cells #[.int .i64 0,.int .i64 0,.slice none 0 0,.slice none 0 0,.int .i64 0,.int .i64 0,.int .u64 0] 30 (0,0)) (hxq1 NBQN129.out BK369.out) hb) <| haq (zx (g := gb387) (o := .cells #[.int .i64 t376,.int .i64 t377,.slice AoQN1225 t378.length coQN1226,.slice AoQN1228 t381.length coQN1229,.int .i64 t384,.int .i64 t385] 27 (0,0)) (hxq0p BK387.out) hb) <| haq (zd hCq hb) <| haq (hbox) <| haq ((by rw [hg];exact (ze hCq) : w.heap.size ≤ gb388)) <| haq ((by rw [hg];exact (ze hCq) : w.heap.size ≤ gb388)) <| haq ((by rw [hg];exact Nat.ne_of_lt (za6 (g := gb369) (o := .cells #[.int .i64 0,.int .i64 0,.slice none 0 0,.slice none 0 0,.int .i64 0,.int .i64 0,.int .u64 0] 30 (0,0)) (hxq1 NBQN129.out BK369.out)) : gb369 ≠ gb388)) <| haq ((by rw [hg];exact Nat.ne_of_gt (za6 (g := gb369) (o := .cells #[.int .i64 0,.int .i64 0,.slice none 0 0,.slice none 0 0,.int .i64 0,.int .i64 0,.int .u64 0] 30 (0,0)) (hxq1 NBQN129.out BK369.out)) : gb388 ≠ gb369)) <| haq ((by rw [hg];exact Nat.ne_of_lt (za6 (g := gb387) (o := .cells #[.int .i64 t376,.int .i64 t377,.slice AoQN1225 t378.length coQN1226,.slice AoQN1228 t381.length coQN1229,.int .i64 t384,.int .i64 t385] 27 (0,0)) (hxq0p BK387.out)) : gb387 ≠ gb388)) <| haq ((by rw [hg];exact Nat.ne_of_gt (za6 (g := gb387) (o := .cells #[.int .i64 t376,.int .i64 t377,.slice AoQN1225 t378.length coQN1226,.slice AoQN1228 t381.length coQN1229,.int .i64 t384,.int .i64 t385] 27 (0,0)) (hxq0p BK387.out)) : gb388 ≠ gb387)) <| trivial;clear HOQF27A116 HOQF27A117 BK369 BK387 HB;obtain ⟨HOQF27A116,HOQF27A117,BK369,BK387,HB,BK388,GW388,GE388,NBQN1410,NBQN1411,NBQN1412,NBQN1413,_⟩ := n_;clear hb hbox hg;have hnbQN1414 := NBQN1411.out;have hncQN1415 := NBQN1410.out;have hnbQN1416 := NBQN1413.out;have hncQN1417 := NBQN1412.out;obtain ⟨hczQN1418,hczQN1419,hczQN1420,hczQN1421,hczQN1422,hczQN1423,hczQN1424,hfzQN1425,hfzQN1426,hfzQN1427,hfzQN1428,hfzQN1429,hfzQN1430,hfzQN1431⟩ := hcq7 BK388.out)) | (have _ := EQ1;((with_reducible refine zj (f := 18) rfl ?_);refine zQ (some 52) rfl rfl Tryz.func18 (by kernel_rfl) rfl #[.agg #[.int .i64 t376,.int .i64 t377,.slice AoQN1225 t378.length coQN1226,.slice AoQN1228 t381.length coQN1229,.int .i64 t384,.int .i64 t385,.int .u64 t373],.int .i64 a1] rfl hMq ?_;(with_reducible refine (zay.calls kj5 t376 t377 _ _ t378 _ _ t381 t384 t385 t373 a1 t389 _ ?side1 ?side2 ?side3 ?side4 A13.out).mono ?_);(case side1 => refine (Kd.S_reads' (e := 73) (base := w.heap.size) (ok := fun k_ => some k_ ≠ (.slice AoQN1228 t381.length coQN1229 : Value).ownBlock) (n := t378.length) (c := coQN1226) ?_).2.2;exact (by (with_reducible repeat (first | apply Kd.S_alloc | apply Kd.S_drewN | apply Kd.S_drew));exact (Kd.S_mono (Kd.S_far (p := ⟨gb388,6,none⟩) (Kd.S_far (p := ⟨gb388,5,none⟩) (Kd.S_far (p := ⟨gb388,4,none⟩) (Kd.S_far (p := ⟨gb388,3,none⟩) (Kd.S_far (p := ⟨gb388,2,none⟩) (Kd.S_far (p := ⟨gb388,1,none⟩) (Kd.S_far (p := ⟨gb388,0,none⟩) (Kd.S_types HOQF27A116.out BK388.out (by decide)) (fun _ hk => hk.2) (.int .i64 t376)) (fun _ hk => hk.2) (.int .i64 t377)) (fun _ hk => hk.2) (.slice AoQN1225 t378.length coQN1226)) (fun _ hk => hk.2) (.slice AoQN1228 t381.length coQN1229)) (fun _ hk => hk.2) (.int .i64 t384)) (fun _ hk => hk.2) (.int .i64 t385)) (fun _ hk => hk.2) (.int .u64 t373)) (fun _ h_ => h_.1))));(case side2 => exact (Kd.S_reads' HOQF27A116.out).2.1);(case side3 => refine (Kd.R_reads' (e := 9) (base := w.heap.size) (ok := fun k_ => True) (n := t381.length) (c := coQN1229) ?_).2.2;exact (by (with_reducible repeat (first | apply Kd.R_alloc | apply Kd.R_drewN | apply Kd.R_drew));exact (Kd.R_mono (Kd.R_far (p := ⟨gb388,6,none⟩) (Kd.R_far (p := ⟨gb388,5,none⟩) (Kd.R_far (p := ⟨gb388,4,none⟩) (Kd.R_far (p := ⟨gb388,3,none⟩) (Kd.R_far (p := ⟨gb388,2,none⟩) (Kd.R_far (p := ⟨gb388,1,none⟩) (Kd.R_far (p := ⟨gb388,0,none⟩) (Kd.R_types HOQF27A117.out BK388.out (by decide)) (fun _ hk => hk.2) (.int .i64 t376)) (fun _ hk => hk.2) (.int .i64 t377)) (fun _ hk => hk.2) (.slice AoQN1225 t378.length coQN1226)) (fun _ hk => hk.2) (.slice AoQN1228 t381.length coQN1229)) (fun _ hk => hk.2) (.int .i64 t384)) (fun _ hk => hk.2) (.int .i64 t385)) (fun _ hk => hk.2) (.int .u64 t373)) (fun _ h_ => h_.1))));(case side4 => exact (Kd.R_reads' HOQF27A117.out).2.1);rintro e wQF18A131 ⟨rfl,hb⟩;refine ⟨_,rfl,?_⟩;have n_ := haq (Kd.S_below (by (with_reducible repeat (first | apply Kd.S_alloc | apply Kd.S_drewN | apply Kd.S_drew));exact (Kd.S_mono (Kd.S_far (p := ⟨gb388,6,none⟩) (Kd.S_far (p := ⟨gb388,5,none⟩) (Kd.S_far (p := ⟨gb388,4,none⟩) (Kd.S_far (p := ⟨gb388,3,none⟩) (Kd.S_far (p := ⟨gb388,2,none⟩) (Kd.S_far (p := ⟨gb388,1,none⟩) (Kd.S_far (p := ⟨gb388,0,none⟩) (Kd.S_types HOQF27A116.out BK388.out (by decide)) (fun _ hk => hk.2) (.int .i64 t376)) (fun _ hk => hk.2) (.int .i64 t377)) (fun _ hk => hk.2) (.slice AoQN1225 t378.length coQN1226)) (fun _ hk => hk.2) (.slice AoQN1228 t381.length coQN1229)) (fun _ hk => hk.2) (.int .i64 t384)) (fun _ hk => hk.2) (.int .i64 t385)) (fun _ hk => hk.2) (.int .u64 t373)) (fun _ h_ => h_.1))) hb) <| haq (Kd.R_below (by (with_reducible repeat (first | apply Kd.R_alloc | apply Kd.R_drewN | apply Kd.R_drew));exact (Kd.R_mono (Kd.R_far (p := ⟨gb388,6,none⟩) (Kd.R_far (p := ⟨gb388,5,none⟩) (Kd.R_far (p := ⟨gb388,4,none⟩) (Kd.R_far (p := ⟨gb388,3,none⟩) (Kd.R_far (p := ⟨gb388,2,none⟩) (Kd.R_far (p := ⟨gb388,1,none⟩) (Kd.R_far (p := ⟨gb388,0,none⟩) (Kd.R_types HOQF27A117.out BK388.out (by decide)) (fun _ hk => hk.2) (.int .i64 t376)) (fun _ hk => hk.2) (.int .i64 t377)) (fun _ hk => hk.2) (.slice AoQN1225 t378.length coQN1226)) (fun _ hk => hk.2) (.slice AoQN1228 t381.length coQN1229)) (fun _ hk => hk.2) (.int .i64 t384)) (fun _ hk => hk.2) (.int .i64 t385)) (fun _ hk => hk.2) (.int .u64 t373)) (fun _ h_ => h_.1))) hb) <| haq (zx (g := gb369) (o := .cells #[.int .i64 0,.int .i64 0,.slice none 0 0,.slice none 0 0,.int .i64 0,.int .i64 0,.int .u64 0] 30 (0,0)) (hxq1 NBQN1410.out BK369.out) hb) <| haq (zx (g := gb387) (o := .cells #[.int .i64 t376,.int .i64 t377,.slice AoQN1225 t378.length coQN1226,.slice AoQN1228 t381.length coQN1229,.int .i64 t384,.int .i64 t385] 27 (0,0)) (hxq1 NBQN1412.out BK387.out) hb) <| haq (zx (g := gb388) (o := .cells #[.int .i64 t376,.int .i64 t377,.slice AoQN1225 t378.length coQN1226,.slice AoQN1228 t381.length coQN1229,.int .i64 t384,.int .i64 t385,.int .u64 t373] 30 (0,0)) (hxq0p BK388.out) hb) <| haq (zd hCq hb) <| trivial;clear HOQF27A116 HOQF27A117 BK369 BK387 BK388 HB;obtain ⟨HOQF27A116,HOQF27A117,BK369,BK387,BK388,HB,_⟩ := n_;(try clear hb);(try clear hb2);(try clear hk);(try clear hi);obtain ⟨hczQF18A137,hczQF18A138,hczQF18A139,hczQF18A1310,hczQF18A1311,hczQF18A1312,hczQF18A1313,hfzQF18A1314,hfzQF18A1315,hfzQF18A1316,hfzQF18A1317,hfzQF18A1318,hfzQF18A1319,hfzQF18A1320⟩ := hcq7 BK388.out;obtain ⟨hczQF18A1321,hczQF18A1322,hczQF18A1323,hczQF18A1324,hczQF18A1325,hczQF18A1326,hczQF18A1327,hfzQF18A1328,hfzQF18A1329,hfzQF18A1330,hfzQF18A1331,hfzQF18A1332,hfzQF18A1333,hfzQF18A1334⟩ := hcq7 BK369.out)) | (have _ := EQ2;((with_reducible refine zj (f := 18) rfl ?_);refine zQ (some 52) rfl rfl Tryz.func18 (by kernel_rfl) rfl #[.agg #[.int .i64 t376,.int .i64 t377,.slice AoQN1225 t378.length coQN1226,.slice AoQN1228 t381.length coQN1229,.int .i64 t384,.int .i64 t385,.int .u64 t373],.int .i64 a1] rfl hMq ?_;(with_reducible refine (zay.calls kj5 t376 t377 _ _ t378 _ _ t381 t384 t385 t373 a1 t389 _ ?side1 ?side2 ?side3 ?side4 A13.out).mono ?_);(case side1 => refine (Kd.S_reads' (e := 73) (base := w.heap.size) (ok := fun k_ => some k_ ≠ (.slice AoQN1228 t381.length coQN1229 : Value).ownBlock) (n := t378.length) (c := coQN1226) ?_).2.2;exact (by (with_reducible repeat (first | apply Kd.S_alloc | apply Kd.S_drewN | apply Kd.S_drew));exact (Kd.S_mono (Kd.S_far (p := ⟨gb388,6,none⟩) (Kd.S_far (p := ⟨gb388,5,none⟩) (Kd.S_far (p := ⟨gb388,4,none⟩) (Kd.S_far (p := ⟨gb388,3,none⟩) (Kd.S_far (p := ⟨gb388,2,none⟩) (Kd.S_far (p := ⟨gb388,1,none⟩) (Kd.S_far (p := ⟨gb388,0,none⟩) (Kd.S_types HOQF27A116.out BK388.out (by decide)) (fun _ hk => hk.2) (.int .i64 t376)) (fun _ hk => hk.2) (.int .i64 t377)) (fun _ hk => hk.2) (.slice AoQN1225 t378.length coQN1226)) (fun _ hk => hk.2) (.slice AoQN1228 t381.length coQN1229)) (fun _ hk => hk.2) (.int .i64 t384)) (fun _ hk => hk.2) (.int .i64 t385)) (fun _ hk => hk.2) (.int .u64 t373)) (fun _ h_ => h_.1))));(case side2 => exact (Kd.S_reads' HOQF27A116.out).2.1);(case side3 => refine (Kd.R_reads' (e := 9) (base := w.heap.size) (ok := fun k_ => True) (n := t381.length) (c := coQN1229) ?_).2.2;exact (by (with_reducible repeat (first | apply Kd.R_alloc | apply Kd.R_drewN | apply Kd.R_drew));exact (Kd.R_mono (Kd.R_far (p := ⟨gb388,6,none⟩) (Kd.R_far (p := ⟨gb388,5,none⟩) (Kd.R_far (p := ⟨gb388,4,none⟩) (Kd.R_far (p := ⟨gb388,3,none⟩) (Kd.R_far (p := ⟨gb388,2,none⟩) (Kd.R_far (p := ⟨gb388,1,none⟩) (Kd.R_far (p := ⟨gb388,0,none⟩) (Kd.R_types HOQF27A117.out BK388.out (by decide)) (fun _ hk => hk.2) (.int .i64 t376)) (fun _ hk => hk.2) (.int .i64 t377)) (fun _ hk => hk.2) (.slice AoQN1225 t378.length coQN1226)) (fun _ hk => hk.2) (.slice AoQN1228 t381.length coQN1229)) (fun _ hk => hk.2) (.int .i64 t384)) (fun _ hk => hk.2) (.int .i64 t385)) (fun _ hk => hk.2) (.int .u64 t373)) (fun _ h_ => h_.1))));(case side4 => exact (Kd.R_reads' HOQF27A117.out).2.1);rintro e wQF18A131 ⟨rfl,hb⟩;refine ⟨_,rfl,?_⟩;have n_ := haq (Kd.S_below (by (with_reducible repeat (first | apply Kd.S_alloc | apply Kd.S_drewN | apply Kd.S_drew));exact (Kd.S_mono (Kd.S_far (p := ⟨gb388,6,none⟩) (Kd.S_far (p := ⟨gb388,5,none⟩) (Kd.S_far (p := ⟨gb388,4,none⟩) (Kd.S_far (p := ⟨gb388,3,none⟩) (Kd.S_far (p := ⟨gb388,2,none⟩) (Kd.S_far (p := ⟨gb388,1,none⟩) (Kd.S_far (p := ⟨gb388,0,none⟩) (Kd.S_types HOQF27A116.out BK388.out (by decide)) (fun _ hk => hk.2) (.int .i64 t376)) (fun _ hk => hk.2) (.int .i64 t377)) (fun _ hk => hk.2) (.slice AoQN1225 t378.length coQN1226)) (fun _ hk => hk.2) (.slice AoQN1228 t381.length coQN1229)) (fun _ hk => hk.2) (.int .i64 t384)) (fun _ hk => hk.2) (.int .i64 t385)) (fun _ hk => hk.2) (.int .u64 t373)) (fun _ h_ => h_.1))) hb) <| haq (Kd.R_below (by (with_reducible repeat (first | apply Kd.R_alloc | apply Kd.R_drewN | apply Kd.R_drew));exact (Kd.R_mono (Kd.R_far (p := ⟨gb388,6,none⟩) (Kd.R_far (p := ⟨gb388,5,none⟩) (Kd.R_far (p := ⟨gb388,4,none⟩) (Kd.R_far (p := ⟨gb388,3,none⟩) (Kd.R_far (p := ⟨gb388,2,none⟩) (Kd.R_far (p := ⟨gb388,1,none⟩) (Kd.R_far (p := ⟨gb388,0,none⟩) (Kd.R_types HOQF27A117.out BK388.out (by decide)) (fun _ hk => hk.2) (.int .i64 t376)) (fun _ hk => hk.2) (.int .i64 t377)) (fun _ hk => hk.2) (.slice AoQN1225 t378.length coQN1226)) (fun _ hk => hk.2) (.slice AoQN1228 t381.length coQN1229)) (fun _ hk => hk.2) (.int .i64 t384)) (fun _ hk => hk.2) (.int .i64 t385)) (fun _ hk => hk.2) (.int .u64 t373)) (fun _ h_ => h_.1))) hb) <| haq (zx (g := gb369) (o := .cells #[.int .i64 0,.int .i64 0,.slice none 0 0,.slice none 0 0,.int .i64 0,.int .i64 0,.int .u64 0] 30 (0,0)) (hxq1 NBQN1410.out BK369.out) hb) <| haq (zx (g := gb387) (o := .cells #[.int .i64 t376,.int .i64 t377,.slice AoQN1225 t378.length coQN1226,.slice AoQN1228 t381.length coQN1229,.int .i64 t384,.int .i64 t385] 27 (0,0)) (hxq1 NBQN1412.out BK387.out) hb) <| haq (zx (g := gb388) (o := .cells #[.int .i64 t376,.int .i64 t377,.slice AoQN1225 t378.length coQN1226,.slice AoQN1228 t381.length coQN1229,.int .i64 t384,.int .i64 t385,.int .u64 t373] 30 (0,0)) (hxq0p BK388.out) hb) <| haq (zd hCq hb) <| trivial;clear HOQF27A116 HOQF27A117 BK369 BK387 BK388 HB;obtain ⟨HOQF27A116,HOQF27A117,BK369,BK387,BK388,HB,_⟩ := n_;(try clear hb);(try clear hb2);(try clear hk);(try clear hi);obtain ⟨hczQF18A137,hczQF18A138,hczQF18A139,hczQF18A1310,hczQF18A1311,hczQF18A1312,hczQF18A1313,hfzQF18A1314,hfzQF18A1315,hfzQF18A1316,hfzQF18A1317,hfzQF18A1318,hfzQF18A1319,hfzQF18A1320⟩ := hcq7 BK369.out)) | (have _ := EQ3;((with_reducible refine zy (N := 12) rfl ?_);(try (refine zba (by rfl) ?_;dsimp only));refine zo ?hg (N := 12) ?hd (cs := #[.int .i64 0,.int .i64 0,.slice none 0 0,.slice none 0 0,.int .i64 0,.int .i64 0]) (t := 27) ?hr ?_;(case hd => rfl);(case hg => rfl);(case hr => first | (go_simp;done) | (go_simp;rfl));intro gb387 hg wQN122 hbox hb;have n_ := haq (Kd.S_below (hSq HOQF27A116.out) hb) <| haq (Kd.R_below (hRq HOQF27A117.out) hb) <| haq (hbq BK369.out hb) <| haq (zd hCq hb) <| haq (hbox) <| haq ((by rw [hg];exact (ze hCq) : w.heap.size ≤ gb387)) <| haq ((by rw [hg];exact (ze hCq) : w.heap.size ≤ gb387)) <| haq (hnq hg BK369.out) <| haq (hmq hg BK369.out) <| trivial;clear HOQF27A116 HOQF27A117 BK369 HB;obtain ⟨HOQF27A116,HOQF27A117,BK369,HB,BK387,GW387,GE387,NBQN129,NBQN1210,_⟩ := n_;clear hb hbox hg;have hnbQN1211 := NBQN1210.out;have hncQN1212 := NBQN129.out;obtain ⟨hczQN1213,hczQN1214,hczQN1215,hczQN1216,hczQN1217,hczQN1218,hfzQN1219,hfzQN1220,hfzQN1221,hfzQN1222,hfzQN1223,hfzQN1224⟩ := hcq6 BK387.out;obtain ⟨AoQN1225,coQN1226,eoQN1227⟩ := Kd.S_slice HOQF27A116.out;subst eoQN1227;obtain ⟨AoQN1228,coQN1229,eoQN1230⟩ := Kd.R_slice HOQF27A117.out;subst eoQN1230;obtain ⟨hczQN1231,hczQN1232,hczQN1233,hczQN1234,hczQN1235,hczQN1236,hczQN1237,hfzQN1238,hfzQN1239,hfzQN1240,hfzQN1241,hfzQN1242,hfzQN1243,hfzQN1244⟩ := hcq7 BK369.out)))
      first | (have _ := EQ1;refine bodyPost_ret (zaq rfl _ _ gb369 30 #[.int .i64 t376,.int .i64 t377,.slice AoQN1225 t378.length coQN1226,.slice AoQN1228 t381.length coQN1229,.int .i64 t384,.int .i64 t385,.int .u64 t373] (0,0) _ rfl (hxq0p BK369.out) Tryz.underlying30 rfl (by kernel_rfl)) rfl ?_;exact ⟨_,_,hHq,by (with_reducible repeat (first | apply Kd.S_alloc | apply Kd.S_drewN | apply Kd.S_drew));exact Kd.S_mono (Kd.S_far (p := ⟨gb369,6,none⟩) (Kd.S_far (p := ⟨gb369,5,none⟩) (Kd.S_far (p := ⟨gb369,4,none⟩) (Kd.S_far (p := ⟨gb369,3,none⟩) (Kd.S_far (p := ⟨gb369,2,none⟩) (Kd.S_far (p := ⟨gb369,1,none⟩) (Kd.S_far (p := ⟨gb369,0,none⟩) (Kd.S_types HOQF27A116.out BK369.out (by decide)) (fun _ hk => hk.2) (.int .i64 t376)) (fun _ hk => hk.2) (.int .i64 t377)) (fun _ hk => hk.2) (.slice AoQN1225 t378.length coQN1226)) (fun _ hk => hk.2) (.slice AoQN1228 t381.length coQN1229)) (fun _ hk => hk.2) (.int .i64 t384)) (fun _ hk => hk.2) (.int .i64 t385)) (fun _ hk => hk.2) (.int .u64 t373)) (fun _ hk => hk.1),by (with_reducible repeat (first | apply Kd.R_alloc | apply Kd.R_drewN | apply Kd.R_drew));exact Kd.R_mono (Kd.R_far (p := ⟨gb369,6,none⟩) (Kd.R_far (p := ⟨gb369,5,none⟩) (Kd.R_far (p := ⟨gb369,4,none⟩) (Kd.R_far (p := ⟨gb369,3,none⟩) (Kd.R_far (p := ⟨gb369,2,none⟩) (Kd.R_far (p := ⟨gb369,1,none⟩) (Kd.R_far (p := ⟨gb369,0,none⟩) (Kd.R_types HOQF27A117.out BK369.out (by decide)) (fun _ hk => hk.2) (.int .i64 t376)) (fun _ hk => hk.2) (.int .i64 t377)) (fun _ hk => hk.2) (.slice AoQN1225 t378.length coQN1226)) (fun _ hk => hk.2) (.slice AoQN1228 t381.length coQN1229)) (fun _ hk => hk.2) (.int .i64 t384)) (fun _ hk => hk.2) (.int .i64 t385)) (fun _ hk => hk.2) (.int .u64 t373)) (fun _ hk => trivial),hCq⟩) | (have _ := EQ2;refine bodyPost_ret (zaq rfl _ _ gb369 30 #[.int .i64 0,.int .i64 0,.slice none 0 0,.slice none 0 0,.int .i64 0,.int .i64 0,.int .u64 0] (0,0) _ rfl (hxq0p BK369.out) Tryz.underlying30 rfl (by kernel_rfl)) rfl ?_;exact ⟨_,_,hHq,by first | exact Kd.S_nil _ _ _ _ _ | exact Kd.N_nil _ _ _ _ _ | exact Kd.V_nil _ _ _ _ _ | exact Kd.Q_nil _ _ _ _ _ | exact Kd.R_nil _ _ _ _ _,by first | exact Kd.R_nil _ _ _ _ _ | exact Kd.N_nil _ _ _ _ _ | exact Kd.V_nil _ _ _ _ _ | exact Kd.Q_nil _ _ _ _ _ | exact Kd.S_nil _ _ _ _ _,hCq⟩) | (have _ := EQ3;refine bodyPost_ret (zaq rfl _ _ gb369 30 #[.int .i64 0,.int .i64 0,.slice none 0 0,.slice none 0 0,.int .i64 0,.int .i64 0,.int .u64 0] (0,0) _ rfl (hxq1p NBQN129.out BK369.out) Tryz.underlying30 rfl (by kernel_rfl)) rfl ?_;exact ⟨_,_,hHq,by first | exact Kd.S_nil _ _ _ _ _ | exact Kd.N_nil _ _ _ _ _ | exact Kd.V_nil _ _ _ _ _ | exact Kd.Q_nil _ _ _ _ _ | exact Kd.R_nil _ _ _ _ _,by first | exact Kd.R_nil _ _ _ _ _ | exact Kd.N_nil _ _ _ _ _ | exact Kd.V_nil _ _ _ _ _ | exact Kd.Q_nil _ _ _ _ _ | exact Kd.S_nil _ _ _ _ _,hCq⟩)
 ·rw [if_neg c4] at H
  have c4b0 : (t372 == 0) = false := beq_eq_false_iff_ne.mpr c4
  have c4b1 : (t372 != 0) = true := bne_iff_ne.mpr c4
  simp only [Option.some.injEq,Prod.mk.injEq] at H
  obtain ⟨rfl,rfl,rfl,rfl,rfl,rfl,rfl,rfl⟩ := H
  go_enter Tryz.func8,Tryz.ntmps8
  go_wp2_with (first | ((with_reducible refine zy (N := 4) rfl ?_);(try (refine zba (by rfl) ?_;dsimp only));refine zo ?hg (N := 4) ?hd (cs := #[.int .i64 0,.int .i64 0,.slice none 0 0,.slice none 0 0,.int .i64 0,.int .i64 0,.int .u64 0]) (t := 30) ?hr ?_;(case hd => rfl);(case hg => rfl);(case hr => first | (go_simp;done) | (go_simp;rfl));intro gb369 hg w47 hbox hb;have n_ := haq (zd hBq hb) <| haq (hbox) <| haq ((by rw [hg];exact (ze hBq) : w.heap.size ≤ gb369)) <| haq ((by rw [hg];exact (ze hBq) : w.heap.size ≤ gb369)) <| trivial;clear HB;obtain ⟨HB,BK369,GW369,GE369,_⟩ := n_;clear hb hbox hg) | ((with_reducible refine zj (f := 25) rfl ?_);refine zQ (some 17) rfl rfl Tryz.func25 (by kernel_rfl) rfl #[.string a0,.int .i64 65536] rfl hMq ?_;(with_reducible refine (zR.calls k a0 65536 t370 t371 t372 _ A3.out).mono ?_);rintro e w' ⟨rfl,⟨nd,rfl⟩⟩;refine ⟨_,rfl,?_⟩;(try (rw [zeW w47];generalize hq_ : World.drewN w47 _ = w47;have n_ := haq ((by rw [← hq_];exact (hGq BK369.out) : w47.heap[gb369]? = some (.cells #[.int .i64 0,.int .i64 0,.slice none 0 0,.slice none 0 0,.int .i64 0,.int .i64 0,.int .u64 0] 30 (0,0)))) <| haq ((by rw [← hq_];exact hCq : Below w.heap.size w w47)) <| trivial;clear BK369 HB hq_;obtain ⟨BK369,HB,_⟩ := n_));obtain ⟨hcz48_0,hcz48_1,hcz48_2,hcz48_3,hcz48_4,hcz48_5,hcz48_6,hfz48_0,hfz48_1,hfz48_2,hfz48_3,hfz48_4,hfz48_5,hfz48_6⟩ := hcq7 BK369.out))
  refine bodyPost_ret (zaq rfl _ _ gb369 30 #[.int .i64 0,.int .i64 0,.slice none 0 0,.slice none 0 0,.int .i64 0,.int .i64 0,.int .u64 0] (0,0) _ rfl (hxq0p BK369.out) Tryz.underlying30 rfl (by kernel_rfl)) rfl ?_
  exact ⟨_,_,hHq,by first | exact Kd.S_nil _ _ _ _ _ | exact Kd.N_nil _ _ _ _ _ | exact Kd.V_nil _ _ _ _ _ | exact Kd.Q_nil _ _ _ _ _ | exact Kd.R_nil _ _ _ _ _,by first | exact Kd.R_nil _ _ _ _ _ | exact Kd.N_nil _ _ _ _ _ | exact Kd.V_nil _ _ _ _ _ | exact Kd.Q_nil _ _ _ _ _ | exact Kd.S_nil _ _ _ _ _,hCq⟩
def zdc (s : ByteArray) (many most : Int) : List ByteArray × ByteArray × Int := ((zag (ofB s) many most).1,toB (zag (ofB s) many most).2.1,(zag (ofB s) many most).2.2)
theorem zcM (s : ByteArray) (many most : Int) (h1 : (Lit.int .i64 many).wf = true) (h2 : (Lit.int .i64 most).wf = true) (h3 : s.size < 4611686018427387904) (h4 : s.size ≤ 8796093022207 ∨ many ≤ 8796093022207) : zV.f s many most = some (zdc s many most) := by
 unfold zV.f
 rw [if_pos ⟨h1,h2,h3,h4⟩];rfl
theorem zf9 (most : Int) (hw : (Lit.int .i64 most).wf = true) (n : Nat) (hn : n < 18446744073709551616) (d : Nat) : ∀ (j : Nat) (s : Bs) (acc : List ByteArray),j + d = n → s.length < 4611686018427387904 → (n ≤ 8796093022207 ∧ acc.length ≤ j ∨ acc.length + s.length ≤ 8796093022207) →
  Ev (fun k => zu.l0 k most (n : Int) (toB s) acc (j : Int)) ((zaS most d s acc).1,toB (zaS most d s acc).2.1,(zaS most d s acc).2.2) := by
 induction d with
 | zero =>
  intro j s acc hj hs hroom
  refine Ev.step (fun k => by rw [zu.l0]) ?_
  exact zF (by omega) (Ev.now _)
 | succ d ih =>
  intro j s acc hj hs hroom
  refine Ev.step (fun k => by rw [zu.l0]) ?_
  refine zn (by omega) (Ev.bind (zes (toB s) most (by rw [zP];omega) hw) ?_)
  simp only [zaG,zav]
  by_cases h0 : (zaH s most).2.2 = 0
  ·have hsh := zdf h0
   refine zn h0 (zn (by omega) ?_)
   rw [zaS,if_pos h0,zaA (by omega) (by omega)]
   exact ih (j + 1) _ _ (by omega) (by omega) (by rw [List.length_append,List.length_singleton];omega)
  ·refine zF h0 ?_
   rw [zaS,if_neg h0]
   exact Ev.now _
theorem zdF (s : ByteArray) (many most : Int) (h1 : (Lit.int .i64 many).wf = true) (h2 : (Lit.int .i64 most).wf = true) (h3 : s.size < 4611686018427387904) (h4 : s.size ≤ 8796093022207 ∨ many ≤ 8796093022207) : Ev (fun k => zu.f k s many most) (zdc s many most) := by
 obtain ⟨m0,m1⟩ := zhR h1
 have hv := zaZ (ofB s)
 have hl := za8 (ofB s)
 rw [zae] at hl
 refine Ev.bind (zby s h3) ?_
 rcases hq : zl (ofB s) with ⟨v,r,e⟩
 rw [hq] at hv hl
 simp only [zbL,zdc,zag,hq]
 simp only at hv hl
 by_cases he : e = 0
 ·subst he
  refine zn rfl ?_
  have hj : ∀ b : Bool,(b = true ↔ (many < 0 ∨ many < (v : Int))) → Ev (fun k => zu.j0 k most (v : Int) (toB r) b) ((zbT (v,r,0) many most).1,toB (zbT (v,r,0) many most).2.1,(zbT (v,r,0) many most).2.2) := by
   intro b hb
   refine Ev.step (fun k => by rw [zu.j0]) ?_
   rw [zbT,if_pos rfl]
   by_cases h5 : many < 0 ∨ many < (v : Int)
   ·rw [if_pos h5]
    exact zn (hb.2 h5) (Ev.now _)
   ·rw [if_neg h5]
    exact zF (fun h => h5 (hb.1 h)) (zf9 most h2 v hv v 0 r [] (by omega) (by omega) (by simp only [List.length_nil];omega))
  by_cases hm : many < 0
  ·exact zn hm (hj true (by simp [hm]))
  ·refine zF hm ?_
   rw [zaA (by omega) (by omega)]
   exact hj _ (by simp;omega)
 ·refine zF he ?_
  rw [zbT,if_neg he]
  exact Ev.now _
theorem zgX {t : ByteArray} {most : Int} (h0 : (t.size : Int) ≤ most) (h1 : t.size < 18446744073709551616) (r : Bs) : zaH (zdu (ofB t) ++ r) most = (ofB t,r,0) := by
 rw [zaH,zdu,List.append_assoc,zbQ (by rw [zae];exact h1),zcE,if_pos rfl,zbj,if_neg (by rw [zae];omega)]
 simp only
 rw [if_neg (by rw [List.length_append];omega),List.take_left,List.drop_left]
theorem zid {s t r : Bs} {most : Int} (h : zaH s most = (t,r,0)) : s = zdu t ++ r ∧ (t.length : Int) ≤ most ∧ t.length < 18446744073709551616 := by
 unfold zaH zcE at h
 split at h
 ·rename_i h0
  rcases hq : zl s with ⟨v,q,e⟩
  rw [hq] at h h0
  simp only at h0 h
  subst h0
  obtain ⟨rfl,hv⟩ := zbG hq
  unfold zbj at h
  split at h
  ·cases h
  ·rename_i h1
   split at h
   ·cases h
   ·rename_i h2
    simp only [Prod.mk.injEq,and_true] at h
    obtain ⟨rfl,rfl⟩ := h
    have hl : (List.take v q).length = v := by rw [List.length_take];omega
    refine ⟨?_,by rw [hl];omega,by rw [hl];exact hv⟩
    rw [zdu,hl,List.append_assoc,List.take_append_drop]
 ·rename_i h0
  simp only [Prod.mk.injEq] at h
  exact absurd h.2.2 h0
theorem zeQ (most : Int) : ∀ (l : List ByteArray) (r : Bs) (acc : List ByteArray),(∀ t ∈ l,(t.size : Int) ≤ most ∧ t.size < 18446744073709551616) → zaS most l.length (zbv l ++ r) acc = (acc ++ l,r,0)
 | [],r,acc,_ => by simp [zaS,zbv]
 | t :: l,r,acc,h => by
  have e : zbv (t :: l) ++ r = zdu (ofB t) ++ (zbv l ++ r) := by rw [← List.append_assoc];rfl
  obtain ⟨h1,h2⟩ := h t List.mem_cons_self
  rw [List.length_cons,zaS,e,zgX h1 h2,if_pos rfl,zeQ most l r _ (fun x hx => h x (List.mem_cons_of_mem _ hx)),zcz]
  simp
theorem zfh (most : Int) : ∀ (n : Nat) (s : Bs) (acc l : List ByteArray) (r : Bs),zaS most n s acc = (l,r,0) → ∃ l',l = acc ++ l' ∧ l'.length = n ∧ s = zbv l' ++ r ∧ ∀ t ∈ l',(t.size : Int) ≤ most ∧ t.size < 18446744073709551616
 | 0,s,acc,l,r,h => by
  simp only [zaS,Prod.mk.injEq,and_true] at h
  obtain ⟨rfl,rfl⟩ := h
  exact ⟨[],by simp,rfl,by simp [zbv],by simp⟩
 | n + 1,s,acc,l,r,h => by
  rw [zaS] at h
  split at h
  ·rename_i h0
   obtain ⟨l',rfl,h2,h3,h4⟩ := zfh most n _ _ _ _ h
   rcases hq : zaH s most with ⟨t,q,e⟩
   rw [hq] at h0 h3
   simp only at h0 h3
   subst h0
   obtain ⟨h5,h6,h7⟩ := zid hq
   refine ⟨toB t :: l',by simp,by simp [h2],?_,?_⟩
   ·rw [h5,h3]
    have e : zbv (toB t :: l') = zdu (ofB (toB t)) ++ zbv l' := rfl
    rw [e,zav,List.append_assoc]
   ·intro x hx
    rcases List.mem_cons.1 hx with rfl | hx
    ·rw [zP];exact ⟨h6,h7⟩
    ·exact h4 x hx
  ·rename_i h0
   simp only [Prod.mk.injEq] at h
   exact absurd h.2.2 h0
theorem zcR {l : List ByteArray} {many most : Int} (hm : (l.length : Int) ≤ many) (hl : l.length < 18446744073709551616) (h : ∀ t ∈ l,(t.size : Int) ≤ most ∧ t.size < 18446744073709551616) (r : Bs) : zag (zbI l ++ r) many most = (l,r,0) := by
 rw [zag,zbI,List.append_assoc,zbQ hl,zbT,if_pos rfl,if_neg (by simp only;omega)]
 simp only
 rw [zeQ most l r [] h,List.nil_append]
theorem zbZ {s r : Bs} {l : List ByteArray} {many most : Int} (h : zag s many most = (l,r,0)) : s = zbI l ++ r ∧ (l.length : Int) ≤ many ∧ l.length < 18446744073709551616 ∧ ∀ t ∈ l,(t.size : Int) ≤ most ∧ t.size < 18446744073709551616 := by
 unfold zag zbT at h
 split at h
 ·rename_i h0
  rcases hq : zl s with ⟨v,q,e⟩
  rw [hq] at h h0
  simp only at h0 h
  subst h0
  obtain ⟨rfl,hv⟩ := zbG hq
  split at h
  ·cases h
  ·rename_i h1
   obtain ⟨l',hl',h2,h3,h4⟩ := zfh most v q [] l r h
   rw [List.nil_append] at hl'
   subst hl'
   refine ⟨?_,by omega,by omega,h4⟩
   rw [zbI,h2,h3,List.append_assoc]
 ·rename_i h0
  simp only [Prod.mk.injEq] at h
  exact absurd h.2.2 h0
end Go.Proofs.YtfhbeonhnhjikaaGreat.Px