/- Part 29 of 35 of the proof of the law CertBytes: what is proved is the statement at the end of the last part; its conditions are those of the given row. -/
import Derived.Test.YtfhbeonhnhjikaaGreatZCertBytesb
namespace Go.Proofs.YtfhbeonhnhjikaaGreat.Px
open Go.RowKit Go.Proofs.YtfhbeonhnhjikaaGreatW.PrintWords Go.Proofs.YtfhbeonhnhjikaaGreatW.PrintLast Go.Proofs.YtfhbeonhnhjikaaGreatW.PrintMore
attribute [local go_sem] zz zB zI zJ zp zq zA zC
set_option linter.unusedVariables false
set_option linter.unusedSimpArgs false
mutual
def zO.j0 : Nat → Int → ByteArray → Bool → Option (Int × Int × List ByteArray × Int)
 | 0,_,_,_ => none
 | k + 1,x4,x5,x26 => if x26 = true then (some (0,0,([] : List ByteArray),3)) else ((zi.f k x5).bind fun bt323 => (if bt323.2.2 = 0 then (zO.j1 k x4 bt323.1 bt323.2.1 (decide (bt323.1 > 1073741824))) else (zO.j1 k x4 bt323.1 bt323.2.1 true)))
def zO.j1 : Nat → Int → Int → ByteArray → Bool → Option (Int × Int × List ByteArray × Int)
 | 0,_,_,_,_ => none
 | k + 1,x4,x7,x8,x39 => if x39 = true then (some (0,0,([] : List ByteArray),3)) else ((zu.f k x8 4 48).bind fun bt326 => ((zt.f k (wrap64 (x4)) (wrap64 (x7)) bt326.1).bind fun t332 => (if bt326.2.2 = 0 then (if (bt326.2.1.size : Int) > 0 then (some (0,0,([] : List ByteArray),3)) else (if t332 = true then (some (wrap64 (x4),wrap64 (x7),bt326.1,0)) else (some (0,0,([] : List ByteArray),3)))) else (some (0,0,([] : List ByteArray),3)))))
end
def zO.f (k : Nat) (a0 : ByteArray) : Option (Int × Int × List ByteArray × Int) := (zi.f k a0).bind fun bt320 => (if bt320.2.2 = 0 then (zO.j0 k bt320.1 bt320.2.1 (decide (bt320.1 > 64))) else (zO.j0 k bt320.1 bt320.2.1 true))
set_option maxHeartbeats 8000000 in
set_option maxRecDepth 100000 in
theorem zO.calls (k : Nat) (a0 : ByteArray) (r1 : Int) (r2 : Int) (r3 : List ByteArray) (r4 : Int) (w : World) (h : zO.f k a0 = some (r1,r2,r3,r4)) :
  Calls Tryz.prog 53 #[.string a0] w fun e w' => ∃ v2_ : Value,e = .returned (.tuple #[.agg #[.int .i64 r1,.int .i64 r2,v2_],.int .i64 r4]) ∧ Kd.R Kd.string 9 w' w.heap.size (fun _ => True) v2_ r3 ∧ Below w.heap.size w w' := by
 have hu73 := Tryz.underlying73
 have HB := za.mk (Below.refl w.heap.size w)
 have H : ((zi.f k a0).bind fun bt320 => (if bt320.2.2 = 0 then (zO.j0 k bt320.1 bt320.2.1 (decide (bt320.1 > 64))) else (zO.j0 k bt320.1 bt320.2.1 true))) = some (r1,r2,r3,r4) := h
 clear h
 replace H := Option.bind_eq_some_iff.mp H
 obtain ⟨⟨t320,t321,t322⟩,A20,H⟩ := H
 replace H : (if t322 = 0 then (zO.j0 k t320 t321 (decide (t320 > 64))) else (zO.j0 k t320 t321 true)) = some (r1,r2,r3,r4) := H
 have A2 := za.mk A20
 clear A20
 have HC3 := za.mk H
 clear H
 go_enter Tryz.func53,Tryz.ntmps53
 go_upto_region 2 with (first | ((with_reducible refine zy (N := 2) rfl ?_);(try (refine zba (by rfl) ?_;dsimp only));refine zo ?hg (N := 2) ?hd (cs := #[.int .i64 0,.int .i64 0,.slice none 0 0]) (t := 73) ?hr ?_;(case hd => rfl);(case hg => rfl);(case hr => first | (go_simp;done) | (go_simp;rfl));intro gb319 hg w4 hbox hb;have n_ := haq (zd hBq hb) <| haq (hbox) <| haq ((by rw [hg];exact (ze hBq) : w.heap.size ≤ gb319)) <| haq ((by rw [hg];exact (ze hBq) : w.heap.size ≤ gb319)) <| trivial;clear HB;obtain ⟨HB,BK319,GW319,GE319,_⟩ := n_;clear hb hbox hg) | ((with_reducible refine zj (f := 26) rfl ?_);refine zQ (some 17) rfl rfl Tryz.func26 (by kernel_rfl) rfl #[.string a0] rfl hMq ?_;(with_reducible refine (zi.calls k a0 t320 t321 t322 _ A2.out).mono ?_);rintro e w' ⟨rfl,⟨nd,rfl⟩⟩;refine ⟨_,rfl,?_⟩))
 (try simp only [Act.put,List.setIfInBounds_toArray,List.set_cons_zero,List.set_cons_succ])
 go_cut [26] (fun v26 wc => ∃ (kq : Nat) (x26_2 : Bool),v26 = .bool x26_2 ∧ za (zO.j0 kq t320 t321 x26_2 = some (r1,r2,r3,r4)) ∧ za (kq ≤ k) ∧ za (wc.heap[gb319]? = some (.cells #[.int .i64 0,.int .i64 0,(.slice none 0 0)] 73 (0,0))) ∧ za (Below w.heap.size w wc))
 case first =>
  have H := HC3.out
  clear HC3
  by_cases c5 : t322 = 0
  ·rw [if_pos c5] at H
   have c5b0 : (t322 == 0) = true := beq_iff_eq.mpr c5
   have c5b1 : (t322 != 0) = false := bne_eq_false_iff_eq.mpr c5
   clear c5
   (first | rw [c5b0] | (simp only [zK,zL];rw [c5b0]) | skip)
   have H' := za.mk H
   clear H
   go_wp2
   go_meet
   case rel => exact ⟨_,(decide (t320 > 64)),(hDq),H',⟨by first | omega | exact Nat.le_refl _⟩,⟨hGq BK319.out⟩,⟨by repeat (first | (with_reducible first | exact HB.out | apply zk | apply zf | apply zm | refine zw ?_ GE319.out) | exact HB.out)⟩⟩
  ·rw [if_neg c5] at H
   have c5b0 : (t322 == 0) = false := beq_eq_false_iff_ne.mpr c5
   have c5b1 : (t322 != 0) = true := bne_iff_ne.mpr c5
   (first | rw [c5b0] | (simp only [zK,zL];rw [c5b0]) | skip)
   have H' := za.mk H
   clear H
   go_wp2
   go_meet
   case rel => exact ⟨_,(true),(hDq),H',⟨by first | omega | exact Nat.le_refl _⟩,⟨hGq BK319.out⟩,⟨by repeat (first | (with_reducible first | exact HB.out | apply zk | apply zf | apply zm | refine zw ?_ GE319.out) | exact HB.out)⟩⟩
 case rest =>
  clear HC3
  try clear c2;try clear p2;try clear c5;try clear c5b0;try clear c5b1
  obtain ⟨kq,x26_2,rfl,HA,HJ2,BK319,HB⟩ := hcut
  cases kq with
  | zero => exact absurd HA.out (by simp [zO.j0])
  | succ kj2 =>
   have H := HA.out
   clear HA
   simp only [zO.j0] at H
   by_cases c6 : x26_2 = true
   ·subst c6
    have H1 : (some (0,0,([] : List ByteArray),3)) = some (r1,r2,r3,r4) := by rw [if_pos rfl] at H;exact H
    clear H
    have H := H1
    clear H1
    simp only [Option.some.injEq,Prod.mk.injEq] at H
    obtain ⟨rfl,rfl,rfl,rfl⟩ := H
    obtain ⟨hcz7_0,hcz7_1,hcz7_2,hfz7_0,hfz7_1,hfz7_2⟩ := hcq3 BK319.out
    go_wp2
    refine bodyPost_ret (zaq rfl _ _ gb319 73 #[.int .i64 0,.int .i64 0,.slice none 0 0] (0,0) _ rfl (hxq0p BK319.out) Tryz.underlying73 rfl (by kernel_rfl)) rfl ?_
    exact ⟨_,hHq,by first | exact Kd.R_nil _ _ _ _ _ | exact Kd.N_nil _ _ _ _ _ | exact Kd.V_nil _ _ _ _ _ | exact Kd.Q_nil _ _ _ _ _ | exact Kd.S_nil _ _ _ _ _,hCq⟩
   ·replace c6 := Bool.eq_false_iff.mpr c6
    subst c6
    have H1 : ((zi.f kj2 t321).bind fun bt323 => (if bt323.2.2 = 0 then (zO.j1 kj2 t320 bt323.1 bt323.2.1 (decide (bt323.1 > 1073741824))) else (zO.j1 kj2 t320 bt323.1 bt323.2.1 true))) = some (r1,r2,r3,r4) := by rw [if_neg (show ¬ (false = true) by decide)] at H;exact H
    clear H
    have H := H1
    clear H1
    replace H := Option.bind_eq_some_iff.mp H
    obtain ⟨⟨t323,t324,t325⟩,A80,H⟩ := H
    replace H : (if t325 = 0 then (zO.j1 kj2 t320 t323 t324 (decide (t323 > 1073741824))) else (zO.j1 kj2 t320 t323 t324 true)) = some (r1,r2,r3,r4) := H
    have A8 := za.mk A80
    clear A80
    have HC9 := za.mk H
    clear H
    go_upto_region 5 with (first | ((with_reducible refine zj (f := 26) rfl ?_);refine zQ (some 30) rfl rfl Tryz.func26 (by kernel_rfl) rfl #[.string t321] rfl hMq ?_;(with_reducible refine (zi.calls kj2 t321 t323 t324 t325 _ A8.out).mono ?_);rintro e w' ⟨rfl,⟨nd,rfl⟩⟩;refine ⟨_,rfl,?_⟩))
    (try simp only [Act.put,List.setIfInBounds_toArray,List.set_cons_zero,List.set_cons_succ])
    go_cut [39] (fun v39 wc => ∃ (kq : Nat) (x39_8 : Bool),v39 = .bool x39_8 ∧ za (zO.j1 kq t320 t323 t324 x39_8 = some (r1,r2,r3,r4)) ∧ za (kq ≤ kj2) ∧ za (wc.heap[gb319]? = some (.cells #[.int .i64 0,.int .i64 0,(.slice none 0 0)] 73 (0,0))) ∧ za (Below w.heap.size w wc))
    case first =>
     have H := HC9.out
     clear HC9
     by_cases c10 : t325 = 0
     ·rw [if_pos c10] at H
      have c10b0 : (t325 == 0) = true := beq_iff_eq.mpr c10
      have c10b1 : (t325 != 0) = false := bne_eq_false_iff_eq.mpr c10
      clear c10
      (first | rw [c10b0] | (simp only [zK,zL];rw [c10b0]) | skip)
      have H' := za.mk H
      clear H
      go_wp2
      go_meet
      case rel => exact ⟨_,(decide (t323 > 1073741824)),(hDq),H',⟨by have := HJ2.out;first | omega | exact Nat.le_refl _⟩,⟨hGq BK319.out⟩,⟨by repeat (first | (with_reducible first | exact HB.out | apply zk | apply zf | apply zm | refine zw ?_ GE319.out) | exact HB.out)⟩⟩
     ·rw [if_neg c10] at H
      have c10b0 : (t325 == 0) = false := beq_eq_false_iff_ne.mpr c10
      have c10b1 : (t325 != 0) = true := bne_iff_ne.mpr c10
      (first | rw [c10b0] | (simp only [zK,zL];rw [c10b0]) | skip)
      have H' := za.mk H
      clear H
      go_wp2
      go_meet
      case rel => exact ⟨_,(true),(hDq),H',⟨by have := HJ2.out;first | omega | exact Nat.le_refl _⟩,⟨hGq BK319.out⟩,⟨by repeat (first | (with_reducible first | exact HB.out | apply zk | apply zf | apply zm | refine zw ?_ GE319.out) | exact HB.out)⟩⟩
    case rest =>
     clear HC9
     try clear c1;try clear c2;try clear p2;try clear c5;try clear c5b0;try clear c5b1;try clear c6;try clear c10;try clear c10b0;try clear c10b1;try clear hcz7_0;try clear hcz7_1;try clear hcz7_2;try clear hfz7_0;try clear hfz7_1;try clear hfz7_2;try clear p2
     obtain ⟨kq,x39_8,rfl,HA,HJ8,BK319,HB⟩ := hcut
     cases kq with
     | zero => exact absurd HA.out (by simp [zO.j1])
     | succ kj8 =>
      have H := HA.out
      clear HA
      simp only [zO.j1] at H
      by_cases c11 : x39_8 = true
      ·subst c11
       have H1 : (some (0,0,([] : List ByteArray),3)) = some (r1,r2,r3,r4) := by rw [if_pos rfl] at H;exact H
       clear H
       have H := H1
       clear H1
       simp only [Option.some.injEq,Prod.mk.injEq] at H
       obtain ⟨rfl,rfl,rfl,rfl⟩ := H
       obtain ⟨hcz12_0,hcz12_1,hcz12_2,hfz12_0,hfz12_1,hfz12_2⟩ := hcq3 BK319.out
       go_wp2
       refine bodyPost_ret (zaq rfl _ _ gb319 73 #[.int .i64 0,.int .i64 0,.slice none 0 0] (0,0) _ rfl (hxq0p BK319.out) Tryz.underlying73 rfl (by kernel_rfl)) rfl ?_
       exact ⟨_,hHq,by first | exact Kd.R_nil _ _ _ _ _ | exact Kd.N_nil _ _ _ _ _ | exact Kd.V_nil _ _ _ _ _ | exact Kd.Q_nil _ _ _ _ _ | exact Kd.S_nil _ _ _ _ _,hCq⟩
      ·replace c11 := Bool.eq_false_iff.mpr c11
       subst c11
       have H1 : ((zu.f kj8 t324 4 48).bind fun bt326 => ((zt.f kj8 (wrap64 (t320)) (wrap64 (t323)) bt326.1).bind fun t332 => (if bt326.2.2 = 0 then (if (bt326.2.1.size : Int) > 0 then (some (0,0,([] : List ByteArray),3)) else (if t332 = true then (some (wrap64 (t320),wrap64 (t323),bt326.1,0)) else (some (0,0,([] : List ByteArray),3)))) else (some (0,0,([] : List ByteArray),3))))) = some (r1,r2,r3,r4) := by rw [if_neg (show ¬ (false = true) by decide)] at H;exact H
       clear H
       have H := H1
       clear H1
       replace H := Option.bind_eq_some_iff.mp H
       obtain ⟨⟨t326,t327,t328⟩,A130,H⟩ := H
       replace H : ((zt.f kj8 (wrap64 (t320)) (wrap64 (t323)) t326).bind fun t332 => (if t328 = 0 then (if (t327.size : Int) > 0 then (some (0,0,([] : List ByteArray),3)) else (if t332 = true then (some (wrap64 (t320),wrap64 (t323),t326,0)) else (some (0,0,([] : List ByteArray),3)))) else (some (0,0,([] : List ByteArray),3)))) = some (r1,r2,r3,r4) := H
       have A13 := za.mk A130
       clear A130
       replace H := Option.bind_eq_some_iff.mp H
       obtain ⟨t332,A140,H⟩ := H
       replace H : (if t328 = 0 then (if (t327.size : Int) > 0 then (some (0,0,([] : List ByteArray),3)) else (if t332 = true then (some (wrap64 (t320),wrap64 (t323),t326,0)) else (some (0,0,([] : List ByteArray),3)))) else (some (0,0,([] : List ByteArray),3))) = some (r1,r2,r3,r4) := H
       have A14 := za.mk A140
       clear A140
       by_cases c15 : t328 = 0
       focus
        rw [if_pos c15] at H
        have c15b0 : (t328 == 0) = true := beq_iff_eq.mpr c15
        have c15b1 : (t328 != 0) = false := bne_eq_false_iff_eq.mpr c15
        clear c15
        by_cases c16 : (t327.size : Int) > 0
        focus
         rw [if_pos c16] at H
         have c16b0 : decide (0 < (t327.size : Int)) = true := decide_eq_true c16
         have c16b1 : decide (0 < t327.size) = true := decide_eq_true (by omega)
         clear c16
         simp only [Option.some.injEq,Prod.mk.injEq] at H
         obtain ⟨rfl,rfl,rfl,rfl⟩ := H
         have EQ0 := True.intro
         have EQ3 := True.intro
        rotate_left
        focus
         rw [if_neg c16] at H
         have c16b0 : decide (0 < (t327.size : Int)) = false := decide_eq_false c16
         have c16b1 : decide (0 < t327.size) = false := decide_eq_false (by omega)
         clear c16
         by_cases c24 : t332 = true
         focus
          subst c24
          have H1 : (some (wrap64 (t320),wrap64 (t323),t326,0)) = some (r1,r2,r3,r4) := by rw [if_pos rfl] at H;exact H
          clear H
          have H := H1
          clear H1
          simp only [Option.some.injEq,Prod.mk.injEq] at H
          obtain ⟨rfl,rfl,rfl,rfl⟩ := H
          have EQ1 := True.intro
         rotate_left
         focus
          replace c24 := Bool.eq_false_iff.mpr c24
          subst c24
          have H1 : (some (0,0,([] : List ByteArray),3)) = some (r1,r2,r3,r4) := by rw [if_neg (show ¬ (false = true) by decide)] at H;exact H
          clear H
          have H := H1
          clear H1
          simp only [Option.some.injEq,Prod.mk.injEq] at H
          obtain ⟨rfl,rfl,rfl,rfl⟩ := H
          have EQ2 := True.intro
          have EQ3 := True.intro
       rotate_left 3
       focus
        rw [if_neg c15] at H
        have c15b0 : (t328 == 0) = false := beq_eq_false_iff_ne.mpr c15
        have c15b1 : (t328 != 0) = true := bne_iff_ne.mpr c15
        simp only [Option.some.injEq,Prod.mk.injEq] at H
        obtain ⟨rfl,rfl,rfl,rfl⟩ := H
        have EQ0 := True.intro
        have EQ3 := True.intro
       all_goals
        go_wp2_with (first | ((with_reducible refine zj (f := 52) rfl ?_);refine zQ (some 43) rfl rfl Tryz.func52 (by kernel_rfl) rfl #[.string t324,.int .i64 4,.int .i64 48] rfl hMq ?_;(with_reducible refine (zu.calls kj8 t324 4 48 t326 t327 t328 _ A13.out).mono ?_);rintro e wQF52A131 ⟨vQF52A132,rfl,hoQF52A133,hb⟩;refine ⟨_,rfl,?_⟩;have n_ := haq (Kd.R_lower hoQF52A133 (ze hCq)) <| haq (hbq BK319.out hb) <| haq (zd hCq hb) <| trivial;clear BK319 HB;obtain ⟨HOQF52A134,BK319,HB,_⟩ := n_;(try clear hb);(try clear hb2);(try clear hk);(try clear hi);(try clear hoQF52A133);obtain ⟨AoQF52A136,coQF52A137,eoQF52A138⟩ := Kd.R_slice HOQF52A134.out;subst eoQF52A138) | ((with_reducible refine zy (N := 13) rfl ?_);(try (refine zba (by rfl) ?_;dsimp only));refine zo ?hg (N := 13) ?hd (cs := #[.int .i64 0,.int .i64 0,.slice none 0 0]) (t := 73) ?hr ?_;(case hd => rfl);(case hg => rfl);(case hr => first | (go_simp;done) | (go_simp;rfl));intro gb331 hg wQN132 hbox hb;have n_ := haq (Kd.R_below (hRq HOQF52A134.out) hb) <| haq (hbq BK319.out hb) <| haq (zd hCq hb) <| haq (hbox) <| haq ((by rw [hg];exact (ze hCq) : w.heap.size ≤ gb331)) <| haq ((by rw [hg];exact (ze hCq) : w.heap.size ≤ gb331)) <| haq (hnq hg BK319.out) <| haq (hmq hg BK319.out) <| trivial;clear HOQF52A134 BK319 HB;obtain ⟨HOQF52A134,BK319,HB,BK331,GW331,GE331,NBQN138,NBQN139,_⟩ := n_;clear hb hbox hg;have hnbQN1310 := NBQN139.out;have hncQN1311 := NBQN138.out;obtain ⟨hczQN1312,hczQN1313,hczQN1314,hfzQN1315,hfzQN1316,hfzQN1317⟩ := hcq3 BK331.out) | (have _ := EQ0;((with_reducible refine zj (f := 76) rfl ?_);refine zQ (some 54) rfl rfl Tryz.func76 (by kernel_rfl) rfl #[.agg #[.int .i64 (wrap64 (t320)),.int .i64 (wrap64 (t323)),.slice AoQF52A136 t326.length coQF52A137]] rfl hMq ?_;(with_reducible refine (zt.calls kj8 (wrap64 (t320)) (wrap64 (t323)) _ _ t326 t332 _ ?side1 ?side2 A14.out).mono ?_);(case side1 => refine (Kd.R_reads' (e := 9) (base := w.heap.size) (ok := fun k_ => True) (n := t326.length) (c := coQF52A137) ?_).2.2;exact (by (with_reducible repeat (first | apply Kd.R_alloc | apply Kd.R_drewN | apply Kd.R_drew));exact (Kd.R_mono (Kd.R_far (p := ⟨gb331,2,none⟩) (Kd.R_far (p := ⟨gb331,1,none⟩) (Kd.R_far (p := ⟨gb331,0,none⟩) (Kd.R_types HOQF52A134.out BK331.out (by decide)) (fun _ hk => hk.2) (.int .i64 (wrap64 (t320)))) (fun _ hk => hk.2) (.int .i64 (wrap64 (t323)))) (fun _ hk => hk.2) (.slice AoQF52A136 t326.length coQF52A137)) (fun _ h_ => h_.1))));(case side2 => exact (Kd.R_reads' HOQF52A134.out).2.1);rintro e wQF76A141 ⟨rfl,hb⟩;refine ⟨_,rfl,?_⟩;have n_ := haq (Kd.R_below (by (with_reducible repeat (first | apply Kd.R_alloc | apply Kd.R_drewN | apply Kd.R_drew));exact (Kd.R_mono (Kd.R_far (p := ⟨gb331,2,none⟩) (Kd.R_far (p := ⟨gb331,1,none⟩) (Kd.R_far (p := ⟨gb331,0,none⟩) (Kd.R_types HOQF52A134.out BK331.out (by decide)) (fun _ hk => hk.2) (.int .i64 (wrap64 (t320)))) (fun _ hk => hk.2) (.int .i64 (wrap64 (t323)))) (fun _ hk => hk.2) (.slice AoQF52A136 t326.length coQF52A137)) (fun _ h_ => h_.1))) hb) <| haq (zx (g := gb319) (o := .cells #[.int .i64 0,.int .i64 0,.slice none 0 0] 73 (0,0)) (hxq1 NBQN138.out BK319.out) hb) <| haq (zx (g := gb331) (o := .cells #[.int .i64 (wrap64 (t320)),.int .i64 (wrap64 (t323)),.slice AoQF52A136 t326.length coQF52A137] 73 (0,0)) (hxq0p BK331.out) hb) <| haq (zd hCq hb) <| trivial;clear HOQF52A134 BK319 BK331 HB;obtain ⟨HOQF52A134,BK319,BK331,HB,_⟩ := n_;(try clear hb);(try clear hb2);(try clear hk);(try clear hi);obtain ⟨hczQF76A145,hczQF76A146,hczQF76A147,hfzQF76A148,hfzQF76A149,hfzQF76A1410⟩ := hcq3 BK319.out)) | (have _ := EQ1;((with_reducible refine zj (f := 76) rfl ?_);refine zQ (some 54) rfl rfl Tryz.func76 (by kernel_rfl) rfl #[.agg #[.int .i64 (wrap64 (t320)),.int .i64 (wrap64 (t323)),.slice AoQF52A136 t326.length coQF52A137]] rfl hMq ?_;(with_reducible refine (zt.calls kj8 (wrap64 (t320)) (wrap64 (t323)) _ _ t326 true _ ?side1 ?side2 A14.out).mono ?_);(case side1 => refine (Kd.R_reads' (e := 9) (base := w.heap.size) (ok := fun k_ => True) (n := t326.length) (c := coQF52A137) ?_).2.2;exact (by (with_reducible repeat (first | apply Kd.R_alloc | apply Kd.R_drewN | apply Kd.R_drew));exact (Kd.R_mono (Kd.R_far (p := ⟨gb331,2,none⟩) (Kd.R_far (p := ⟨gb331,1,none⟩) (Kd.R_far (p := ⟨gb331,0,none⟩) (Kd.R_types HOQF52A134.out BK331.out (by decide)) (fun _ hk => hk.2) (.int .i64 (wrap64 (t320)))) (fun _ hk => hk.2) (.int .i64 (wrap64 (t323)))) (fun _ hk => hk.2) (.slice AoQF52A136 t326.length coQF52A137)) (fun _ h_ => h_.1))));(case side2 => exact (Kd.R_reads' HOQF52A134.out).2.1);rintro e wQF76A141 ⟨rfl,hb⟩;refine ⟨_,rfl,?_⟩;have n_ := haq (Kd.R_below (by (with_reducible repeat (first | apply Kd.R_alloc | apply Kd.R_drewN | apply Kd.R_drew));exact (Kd.R_mono (Kd.R_far (p := ⟨gb331,2,none⟩) (Kd.R_far (p := ⟨gb331,1,none⟩) (Kd.R_far (p := ⟨gb331,0,none⟩) (Kd.R_types HOQF52A134.out BK331.out (by decide)) (fun _ hk => hk.2) (.int .i64 (wrap64 (t320)))) (fun _ hk => hk.2) (.int .i64 (wrap64 (t323)))) (fun _ hk => hk.2) (.slice AoQF52A136 t326.length coQF52A137)) (fun _ h_ => h_.1))) hb) <| haq (zx (g := gb319) (o := .cells #[.int .i64 0,.int .i64 0,.slice none 0 0] 73 (0,0)) (hxq1 NBQN138.out BK319.out) hb) <| haq (zx (g := gb331) (o := .cells #[.int .i64 (wrap64 (t320)),.int .i64 (wrap64 (t323)),.slice AoQF52A136 t326.length coQF52A137] 73 (0,0)) (hxq0p BK331.out) hb) <| haq (zd hCq hb) <| trivial;clear HOQF52A134 BK319 BK331 HB;obtain ⟨HOQF52A134,BK319,BK331,HB,_⟩ := n_;(try clear hb);(try clear hb2);(try clear hk);(try clear hi);obtain ⟨hczQF76A145,hczQF76A146,hczQF76A147,hfzQF76A148,hfzQF76A149,hfzQF76A1410⟩ := hcq3 BK331.out;obtain ⟨hczQF76A1411,hczQF76A1412,hczQF76A1413,hfzQF76A1414,hfzQF76A1415,hfzQF76A1416⟩ := hcq3 BK319.out)) | (have _ := EQ2;((with_reducible refine zj (f := 76) rfl ?_);refine zQ (some 54) rfl rfl Tryz.func76 (by kernel_rfl) rfl #[.agg #[.int .i64 (wrap64 (t320)),.int .i64 (wrap64 (t323)),.slice AoQF52A136 t326.length coQF52A137]] rfl hMq ?_;(with_reducible refine (zt.calls kj8 (wrap64 (t320)) (wrap64 (t323)) _ _ t326 false _ ?side1 ?side2 A14.out).mono ?_);(case side1 => refine (Kd.R_reads' (e := 9) (base := w.heap.size) (ok := fun k_ => True) (n := t326.length) (c := coQF52A137) ?_).2.2;exact (by (with_reducible repeat (first | apply Kd.R_alloc | apply Kd.R_drewN | apply Kd.R_drew));exact (Kd.R_mono (Kd.R_far (p := ⟨gb331,2,none⟩) (Kd.R_far (p := ⟨gb331,1,none⟩) (Kd.R_far (p := ⟨gb331,0,none⟩) (Kd.R_types HOQF52A134.out BK331.out (by decide)) (fun _ hk => hk.2) (.int .i64 (wrap64 (t320)))) (fun _ hk => hk.2) (.int .i64 (wrap64 (t323)))) (fun _ hk => hk.2) (.slice AoQF52A136 t326.length coQF52A137)) (fun _ h_ => h_.1))));(case side2 => exact (Kd.R_reads' HOQF52A134.out).2.1);rintro e wQF76A141 ⟨rfl,hb⟩;refine ⟨_,rfl,?_⟩;have n_ := haq (Kd.R_below (by (with_reducible repeat (first | apply Kd.R_alloc | apply Kd.R_drewN | apply Kd.R_drew));exact (Kd.R_mono (Kd.R_far (p := ⟨gb331,2,none⟩) (Kd.R_far (p := ⟨gb331,1,none⟩) (Kd.R_far (p := ⟨gb331,0,none⟩) (Kd.R_types HOQF52A134.out BK331.out (by decide)) (fun _ hk => hk.2) (.int .i64 (wrap64 (t320)))) (fun _ hk => hk.2) (.int .i64 (wrap64 (t323)))) (fun _ hk => hk.2) (.slice AoQF52A136 t326.length coQF52A137)) (fun _ h_ => h_.1))) hb) <| haq (zx (g := gb319) (o := .cells #[.int .i64 0,.int .i64 0,.slice none 0 0] 73 (0,0)) (hxq1 NBQN138.out BK319.out) hb) <| haq (zx (g := gb331) (o := .cells #[.int .i64 (wrap64 (t320)),.int .i64 (wrap64 (t323)),.slice AoQF52A136 t326.length coQF52A137] 73 (0,0)) (hxq0p BK331.out) hb) <| haq (zd hCq hb) <| trivial;clear HOQF52A134 BK319 BK331 HB;obtain ⟨HOQF52A134,BK319,BK331,HB,_⟩ := n_;(try clear hb);(try clear hb2);(try clear hk);(try clear hi);obtain ⟨hczQF76A145,hczQF76A146,hczQF76A147,hfzQF76A148,hfzQF76A149,hfzQF76A1410⟩ := hcq3 BK319.out)))
        first | (have _ := EQ3;refine bodyPost_ret (zaq rfl _ _ gb319 73 #[.int .i64 0,.int .i64 0,.slice none 0 0] (0,0) _ rfl (hxq0p BK319.out) Tryz.underlying73 rfl (by kernel_rfl)) rfl ?_;exact ⟨_,hHq,by first | exact Kd.R_nil _ _ _ _ _ | exact Kd.N_nil _ _ _ _ _ | exact Kd.V_nil _ _ _ _ _ | exact Kd.Q_nil _ _ _ _ _ | exact Kd.S_nil _ _ _ _ _,hCq⟩) | (have _ := EQ1;refine bodyPost_ret (zaq rfl _ _ gb319 73 #[.int .i64 (wrap64 (t320)),.int .i64 (wrap64 (t323)),.slice AoQF52A136 t326.length coQF52A137] (0,0) _ rfl (hxq0p BK319.out) Tryz.underlying73 rfl (by kernel_rfl)) rfl ?_;exact ⟨_,hHq,by (with_reducible repeat (first | apply Kd.R_alloc | apply Kd.R_drewN | apply Kd.R_drew));exact Kd.R_mono (Kd.R_far (p := ⟨gb319,2,none⟩) (Kd.R_far (p := ⟨gb319,1,none⟩) (Kd.R_far (p := ⟨gb319,0,none⟩) (Kd.R_types HOQF52A134.out BK319.out (by decide)) (fun _ hk => hk.2) (.int .i64 (wrap64 (t320)))) (fun _ hk => hk.2) (.int .i64 (wrap64 (t323)))) (fun _ hk => hk.2) (.slice AoQF52A136 t326.length coQF52A137)) (fun _ hk => trivial),hCq⟩)
end Go.Proofs.YtfhbeonhnhjikaaGreat.Px