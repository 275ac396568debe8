/- Part 15 of 35 of the proof of the law CertBytes: what is proved is the statement at the end of the last part; its conditions are those of the given row. -/
import Derived.Test.YtfhbeonhnhjikaaGreatZCertBytesN
namespace Go.Proofs.YtfhbeonhnhjikaaGreat.Px
open Go.RowKit Go.Proofs.YtfhbeonhnhjikaaGreatW.PrintWords Go.Proofs.YtfhbeonhnhjikaaGreatW.PrintLast Go.Proofs.YtfhbeonhnhjikaaGreatW.PrintMore
attribute [local go_sem] zz zB zI zJ zp zq zA zC
set_option linter.unusedVariables false
set_option linter.unusedSimpArgs false
def zas.j0 : Nat → ByteArray → Int → Int → Bool → Option (Int × Int × List ByteArray × Int)
 | 0,_,_,_,_ => none
 | k + 1,x0,x4,x6,x37 => if x37 = true then (some (0,0,([] : List ByteArray),3)) else ((zV.f x0 4 48).bind fun bt245 => (if bt245.2.2 = 0 then (if bt245.2.1.toList = ([] : List UInt8) then ((zaP.f (wrap64 (x4)) (wrap64 (x6)) bt245.1).bind fun t251 => (if t251 = true then (some (wrap64 (x4),wrap64 (x6),bt245.1,0)) else (some (0,0,([] : List ByteArray),3)))) else (some (0,0,([] : List ByteArray),3))) else (some (0,0,([] : List ByteArray),3))))
def zas.f (k : Nat) (a0 : ByteArray) : Option (Int × Int × List ByteArray × Int) := (zD.f k a0).bind fun bt239 => ((zD.f k bt239.2.1).bind fun bt242 => (if bt239.2.2 = 0 then (if bt242.2.2 = 0 then (if bt239.1 > 64 then (zas.j0 k bt242.2.1 bt239.1 bt242.1 true) else (zas.j0 k bt242.2.1 bt239.1 bt242.1 (decide (bt242.1 > 1073741824)))) else (zas.j0 k bt242.2.1 bt239.1 bt242.1 true)) else (zas.j0 k bt242.2.1 bt239.1 bt242.1 true)))
set_option maxHeartbeats 8000000 in
set_option maxRecDepth 100000 in
theorem zas.calls (k : Nat) (a0 : ByteArray) (r1 : Int) (r2 : Int) (r3 : List ByteArray) (r4 : Int) (w : World) (h : zas.f k a0 = some (r1,r2,r3,r4)) :
  Calls Tryz.prog 51 #[.string a0] w fun e w' => ∃ v2_ : Value,e = .returned (.tuple #[.agg #[.int .i64 r1,.int .i64 r2,v2_],.int .i64 r4]) ∧ Kd.R Kd.string 9 w' w.heap.size (fun _ => True) v2_ r3 ∧ Below w.heap.size w w' := by
 have hu73 := Tryz.underlying73
 have HB := za.mk (Below.refl w.heap.size w)
 have H : ((zD.f k a0).bind fun bt239 => ((zD.f k bt239.2.1).bind fun bt242 => (if bt239.2.2 = 0 then (if bt242.2.2 = 0 then (if bt239.1 > 64 then (zas.j0 k bt242.2.1 bt239.1 bt242.1 true) else (zas.j0 k bt242.2.1 bt239.1 bt242.1 (decide (bt242.1 > 1073741824)))) else (zas.j0 k bt242.2.1 bt239.1 bt242.1 true)) else (zas.j0 k bt242.2.1 bt239.1 bt242.1 true)))) = some (r1,r2,r3,r4) := h
 clear h
 replace H := Option.bind_eq_some_iff.mp H
 obtain ⟨⟨t239,t240,t241⟩,A20,H⟩ := H
 replace H : ((zD.f k t240).bind fun bt242 => (if t241 = 0 then (if bt242.2.2 = 0 then (if t239 > 64 then (zas.j0 k bt242.2.1 t239 bt242.1 true) else (zas.j0 k bt242.2.1 t239 bt242.1 (decide (bt242.1 > 1073741824)))) else (zas.j0 k bt242.2.1 t239 bt242.1 true)) else (zas.j0 k bt242.2.1 t239 bt242.1 true))) = some (r1,r2,r3,r4) := H
 have A2 := za.mk A20
 clear A20
 replace H := Option.bind_eq_some_iff.mp H
 obtain ⟨⟨t242,t243,t244⟩,A30,H⟩ := H
 replace H : (if t241 = 0 then (if t244 = 0 then (if t239 > 64 then (zas.j0 k t243 t239 t242 true) else (zas.j0 k t243 t239 t242 (decide (t242 > 1073741824)))) else (zas.j0 k t243 t239 t242 true)) else (zas.j0 k t243 t239 t242 true)) = some (r1,r2,r3,r4) := H
 have A3 := za.mk A30
 clear A30
 have HC4 := za.mk H
 clear H
 go_enter Tryz.func51,Tryz.ntmps51
 go_upto_region 3 with (first | ((with_reducible refine zy (N := 2) rfl ?_);refine zo ?hg (N := 2) ?hd (cs := #[.int .i64 0,.int .i64 0,.slice none 0 0]) (t := 73) ?hr ?_;(case hd => rfl);(case hg => rfl);(case hr => first | (go_simp;done) | (go_simp;rfl));intro gb238 hg w5 hbox hb;have n_ := haq (zd hBq hb) <| haq (hbox) <| haq ((by rw [hg];exact (ze hBq) : w.heap.size ≤ gb238)) <| haq ((by rw [hg];exact (ze hBq) : w.heap.size ≤ gb238)) <| trivial;clear HB;obtain ⟨HB,BK238,GW238,GE238,_⟩ := n_;clear hb hbox hg) | ((with_reducible refine zj (f := 23) rfl ?_);refine zQ (some 14) rfl rfl Tryz.func23 (by kernel_rfl) rfl #[.string a0] rfl hMq ?_;(with_reducible refine (zD.calls k a0 t239 t240 t241 _ A2.out).mono ?_);rintro e w' ⟨rfl,⟨nd,rfl⟩⟩;refine ⟨_,rfl,?_⟩) | ((with_reducible refine zj (f := 23) rfl ?_);refine zQ (some 20) rfl rfl Tryz.func23 (by kernel_rfl) rfl #[.string t240] rfl hMq ?_;(with_reducible refine (zD.calls k t240 t242 t243 t244 _ A3.out).mono ?_);rintro e w' ⟨rfl,⟨nd,rfl⟩⟩;refine ⟨_,rfl,?_⟩))
 (try simp only [Act.put,List.setIfInBounds_toArray,List.set_cons_zero,List.set_cons_succ])
 go_cut [37] (fun v37 wc => ∃ (kq : Nat) (x37_3 : Bool),v37 = .bool x37_3 ∧ za (zas.j0 kq t243 t239 t242 x37_3 = some (r1,r2,r3,r4)) ∧ za (kq ≤ k) ∧ za (wc.heap[gb238]? = some (.cells #[.int .i64 0,.int .i64 0,(.slice none 0 0)] 73 (0,0))) ∧ za (Below w.heap.size w wc))
 case first =>
  have H := HC4.out
  clear HC4
  by_cases c6 : t241 = 0
  ·rw [if_pos c6] at H
   have c6b0 : (t241 == 0) = true := beq_iff_eq.mpr c6
   have c6b1 : (t241 != 0) = false := bne_eq_false_iff_eq.mpr c6
   clear c6
   (first | rw [c6b0] | (simp only [zK,zL];rw [c6b0]) | skip)
   by_cases c7 : t244 = 0
   ·rw [if_pos c7] at H
    have c7b0 : (t244 == 0) = true := beq_iff_eq.mpr c7
    have c7b1 : (t244 != 0) = false := bne_eq_false_iff_eq.mpr c7
    clear c7
    by_cases c8 : t239 > 64
    ·rw [if_pos c8] at H
     have c8b0 : decide (64 < t239) = true := decide_eq_true c8
     clear c8
     have H' := za.mk H
     clear H
     go_wp2
     go_meet
     case rel => exact ⟨_,(true),(hDq),H',⟨by first | omega | exact Nat.le_refl _⟩,⟨hGq BK238.out⟩,⟨by repeat (first | (with_reducible first | exact HB.out | apply zk | apply zf | apply zm | refine zw ?_ GE238.out) | exact HB.out)⟩⟩
    ·rw [if_neg c8] at H
     have c8b0 : decide (64 < t239) = false := decide_eq_false c8
     clear c8
     have H' := za.mk H
     clear H
     go_wp2
     go_meet
     case rel => exact ⟨_,(decide (t242 > 1073741824)),(hDq),H',⟨by first | omega | exact Nat.le_refl _⟩,⟨hGq BK238.out⟩,⟨by repeat (first | (with_reducible first | exact HB.out | apply zk | apply zf | apply zm | refine zw ?_ GE238.out) | exact HB.out)⟩⟩
   ·rw [if_neg c7] at H
    have c7b0 : (t244 == 0) = false := beq_eq_false_iff_ne.mpr c7
    have c7b1 : (t244 != 0) = true := bne_iff_ne.mpr c7
    have H' := za.mk H
    clear H
    go_wp2
    go_meet
    case rel => exact ⟨_,(true),(hDq),H',⟨by first | omega | exact Nat.le_refl _⟩,⟨hGq BK238.out⟩,⟨by repeat (first | (with_reducible first | exact HB.out | apply zk | apply zf | apply zm | refine zw ?_ GE238.out) | exact HB.out)⟩⟩
  ·rw [if_neg c6] at H
   have c6b0 : (t241 == 0) = false := beq_eq_false_iff_ne.mpr c6
   have c6b1 : (t241 != 0) = true := bne_iff_ne.mpr c6
   (first | rw [c6b0] | (simp only [zK,zL];rw [c6b0]) | skip)
   have H' := za.mk H
   clear H
   go_wp2
   go_meet
   case rel => exact ⟨_,(true),(hDq),H',⟨by first | omega | exact Nat.le_refl _⟩,⟨hGq BK238.out⟩,⟨by repeat (first | (with_reducible first | exact HB.out | apply zk | apply zf | apply zm | refine zw ?_ GE238.out) | exact HB.out)⟩⟩
 case rest =>
  clear HC4
  try clear c2;try clear p2;try clear c5;try clear c6;try clear c6b0;try clear c6b1;try clear c7;try clear c7b0;try clear c7b1;try clear c8;try clear c8b0
  obtain ⟨kq,x37_3,rfl,HA,HJ3,BK238,HB⟩ := hcut
  cases kq with
  | zero => exact absurd HA.out (by simp [zas.j0])
  | succ kj3 =>
   have H := HA.out
   clear HA
   simp only [zas.j0] at H
   by_cases c9 : x37_3 = true
   ·subst c9
    have H1 : (some (0,0,([] : List ByteArray),3)) = some (r1,r2,r3,r4) := by rw [if_pos rfl] at H;exact H
    clear H
    have H := H1
    clear H1
    simp only [Option.some.injEq,Prod.mk.injEq] at H
    obtain ⟨rfl,rfl,rfl,rfl⟩ := H
    obtain ⟨hcz10_0,hcz10_1,hcz10_2,hfz10_0,hfz10_1,hfz10_2⟩ := hcq3 BK238.out
    go_wp2
    refine bodyPost_ret (zaq rfl _ _ gb238 73 #[.int .i64 0,.int .i64 0,.slice none 0 0] (0,0) _ rfl (hxq0p BK238.out) Tryz.underlying73 rfl (by kernel_rfl)) rfl ?_
    exact ⟨_,hHq,by first | exact Kd.R_nil _ _ _ _ _ | exact Kd.N_nil _ _ _ _ _ | exact Kd.V_nil _ _ _ _ _ | exact Kd.Q_nil _ _ _ _ _ | exact Kd.S_nil _ _ _ _ _,hCq⟩
   ·replace c9 := Bool.eq_false_iff.mpr c9
    subst c9
    have H1 : ((zV.f t243 4 48).bind fun bt245 => (if bt245.2.2 = 0 then (if bt245.2.1.toList = ([] : List UInt8) then ((zaP.f (wrap64 (t239)) (wrap64 (t242)) bt245.1).bind fun t251 => (if t251 = true then (some (wrap64 (t239),wrap64 (t242),bt245.1,0)) else (some (0,0,([] : List ByteArray),3)))) else (some (0,0,([] : List ByteArray),3))) else (some (0,0,([] : List ByteArray),3)))) = some (r1,r2,r3,r4) := by rw [if_neg (show ¬ (false = true) by decide)] at H;exact H
    clear H
    have H := H1
    clear H1
    replace H := Option.bind_eq_some_iff.mp H
    obtain ⟨⟨t245,t246,t247⟩,A110,H⟩ := H
    replace H : (if t247 = 0 then (if t246.toList = ([] : List UInt8) then ((zaP.f (wrap64 (t239)) (wrap64 (t242)) t245).bind fun t251 => (if t251 = true then (some (wrap64 (t239),wrap64 (t242),t245,0)) else (some (0,0,([] : List ByteArray),3)))) else (some (0,0,([] : List ByteArray),3))) else (some (0,0,([] : List ByteArray),3))) = some (r1,r2,r3,r4) := H
    have A11 := za.mk A110
    clear A110
    by_cases c12 : t247 = 0
    focus
     rw [if_pos c12] at H
     have c12b0 : (t247 == 0) = true := beq_iff_eq.mpr c12
     have c12b1 : (t247 != 0) = false := bne_eq_false_iff_eq.mpr c12
     clear c12
     by_cases c13 : t246.toList = ([] : List UInt8)
     focus
      rw [if_pos c13] at H
      have c13b0 : (t246.toList == ([] : List UInt8)) = true := beq_iff_eq.mpr c13
      have c13b1 : (t246.toList != ([] : List UInt8)) = false := bne_eq_false_iff_eq.mpr c13
      clear c13
      replace H := Option.bind_eq_some_iff.mp H
      obtain ⟨t251,A140,H⟩ := H
      replace H : (if t251 = true then (some (wrap64 (t239),wrap64 (t242),t245,0)) else (some (0,0,([] : List ByteArray),3))) = some (r1,r2,r3,r4) := H
      have A14 := za.mk A140
      clear A140
      by_cases c15 : t251 = true
      focus
       subst c15
       have H1 : (some (wrap64 (t239),wrap64 (t242),t245,0)) = some (r1,r2,r3,r4) := by rw [if_pos rfl] at H;exact H
       clear H
       have H := H1
       clear H1
       simp only [Option.some.injEq,Prod.mk.injEq] at H
       obtain ⟨rfl,rfl,rfl,rfl⟩ := H
       have EQ0 := True.intro
       have EQ1 := True.intro
      rotate_left
      focus
       replace c15 := Bool.eq_false_iff.mpr c15
       subst c15
       have H1 : (some (0,0,([] : List ByteArray),3)) = some (r1,r2,r3,r4) := by rw [if_neg (show ¬ (false = true) by decide)] at H;exact H
       clear H
       have H := H1
       clear H1
       simp only [Option.some.injEq,Prod.mk.injEq] at H
       obtain ⟨rfl,rfl,rfl,rfl⟩ := H
       have EQ0 := True.intro
       have EQ2 := True.intro
     rotate_left 2
     focus
      rw [if_neg c13] at H
      have c13b0 : (t246.toList == ([] : List UInt8)) = false := beq_eq_false_iff_ne.mpr c13
      have c13b1 : (t246.toList != ([] : List UInt8)) = true := bne_iff_ne.mpr c13
      simp only [Option.some.injEq,Prod.mk.injEq] at H
      obtain ⟨rfl,rfl,rfl,rfl⟩ := H
      have EQ3 := True.intro
    rotate_left 3
    focus
     rw [if_neg c12] at H
     have c12b0 : (t247 == 0) = false := beq_eq_false_iff_ne.mpr c12
     have c12b1 : (t247 != 0) = true := bne_iff_ne.mpr c12
     simp only [Option.some.injEq,Prod.mk.injEq] at H
     obtain ⟨rfl,rfl,rfl,rfl⟩ := H
     have EQ3 := True.intro
    all_goals
     go_wp2_with (first | ((with_reducible refine zj (f := 50) rfl ?_);refine zQ (some 41) rfl rfl Tryz.func50 (by kernel_rfl) rfl #[.string t243,.int .i64 4,.int .i64 48] rfl hMq ?_;(with_reducible refine (zV.calls t243 4 48 t245 t246 t247 _ A11.out).mono ?_);rintro e wQF50A111 ⟨vQF50A112,rfl,hoQF50A113,hb⟩;refine ⟨_,rfl,?_⟩;have n_ := haq (Kd.R_lower hoQF50A113 (ze hCq)) <| haq (hbq BK238.out hb) <| haq (zd hCq hb) <| trivial;clear BK238 HB;obtain ⟨HOQF50A114,BK238,HB,_⟩ := n_;(try clear hb);(try clear hb2);(try clear hk);(try clear hi);(try clear hoQF50A113);obtain ⟨AoQF50A116,coQF50A117,eoQF50A118⟩ := Kd.R_slice HOQF50A114.out;subst eoQF50A118) | (have _ := EQ0;((with_reducible refine zy (N := 11) rfl ?_);refine zo ?hg (N := 11) ?hd (cs := #[.int .i64 0,.int .i64 0,.slice none 0 0]) (t := 73) ?hr ?_;(case hd => rfl);(case hg => rfl);(case hr => first | (go_simp;done) | (go_simp;rfl));intro gb250 hg wQN112 hbox hb;have n_ := haq (Kd.R_below (hRq HOQF50A114.out) hb) <| haq (hbq BK238.out hb) <| haq (zd hCq hb) <| haq (hbox) <| haq ((by rw [hg];exact (ze hCq) : w.heap.size ≤ gb250)) <| haq ((by rw [hg];exact (ze hCq) : w.heap.size ≤ gb250)) <| haq (hnq hg BK238.out) <| haq (hmq hg BK238.out) <| trivial;clear HOQF50A114 BK238 HB;obtain ⟨HOQF50A114,BK238,HB,BK250,GW250,GE250,NBQN118,NBQN119,_⟩ := n_;clear hb hbox hg;have hnbQN1110 := NBQN119.out;have hncQN1111 := NBQN118.out;obtain ⟨hczQN1112,hczQN1113,hczQN1114,hfzQN1115,hfzQN1116,hfzQN1117⟩ := hcq3 BK250.out)) | (have _ := EQ1;(go_at_call 65;(with_reducible refine (zaP.calls (wrap64 (t239)) (wrap64 (t242)) _ _ t245 true _ ?side1 ?side2 A14.out).mono ?_);(case side1 => refine (Kd.R_reads' (e := 9) (base := w.heap.size) (ok := fun k_ => True) (n := t245.length) (c := coQF50A117) ?_).2.2;exact (by (with_reducible repeat (first | apply Kd.R_alloc | apply Kd.R_drewN | apply Kd.R_drew));exact (Kd.R_mono (Kd.R_far (p := ⟨gb250,2,none⟩) (Kd.R_far (p := ⟨gb250,1,none⟩) (Kd.R_far (p := ⟨gb250,0,none⟩) (Kd.R_types HOQF50A114.out BK250.out (by decide)) (fun _ hk => hk.2) (.int .i64 (wrap64 (t239)))) (fun _ hk => hk.2) (.int .i64 (wrap64 (t242)))) (fun _ hk => hk.2) (.slice AoQF50A116 t245.length coQF50A117)) (fun _ h_ => h_.1))));(case side2 => exact (Kd.R_reads' HOQF50A114.out).2.1);rintro e wQC65A141 ⟨rfl,hb⟩;have n_ := haq (Kd.R_below (by (with_reducible repeat (first | apply Kd.R_alloc | apply Kd.R_drewN | apply Kd.R_drew));exact (Kd.R_mono (Kd.R_far (p := ⟨gb250,2,none⟩) (Kd.R_far (p := ⟨gb250,1,none⟩) (Kd.R_far (p := ⟨gb250,0,none⟩) (Kd.R_types HOQF50A114.out BK250.out (by decide)) (fun _ hk => hk.2) (.int .i64 (wrap64 (t239)))) (fun _ hk => hk.2) (.int .i64 (wrap64 (t242)))) (fun _ hk => hk.2) (.slice AoQF50A116 t245.length coQF50A117)) (fun _ h_ => h_.1))) hb) <| haq (zx (g := gb238) (o := .cells #[.int .i64 0,.int .i64 0,.slice none 0 0] 73 (0,0)) (hxq1 NBQN118.out BK238.out) hb) <| haq (zx (g := gb250) (o := .cells #[.int .i64 (wrap64 (t239)),.int .i64 (wrap64 (t242)),.slice AoQF50A116 t245.length coQF50A117] 73 (0,0)) (hxq0p BK250.out) hb) <| haq (zd hCq hb) <| trivial;clear HOQF50A114 BK238 BK250 HB;obtain ⟨HOQF50A114,BK238,BK250,HB,_⟩ := n_;(try clear hb);(try clear hb2);(try clear hk);(try clear hi);obtain ⟨hczQC65A145,hczQC65A146,hczQC65A147,hfzQC65A148,hfzQC65A149,hfzQC65A1410⟩ := hcq3 BK250.out;obtain ⟨hczQC65A1411,hczQC65A1412,hczQC65A1413,hfzQC65A1414,hfzQC65A1415,hfzQC65A1416⟩ := hcq3 BK238.out)) | (have _ := EQ2;(go_at_call 65;(with_reducible refine (zaP.calls (wrap64 (t239)) (wrap64 (t242)) _ _ t245 false _ ?side1 ?side2 A14.out).mono ?_);(case side1 => refine (Kd.R_reads' (e := 9) (base := w.heap.size) (ok := fun k_ => True) (n := t245.length) (c := coQF50A117) ?_).2.2;exact (by (with_reducible repeat (first | apply Kd.R_alloc | apply Kd.R_drewN | apply Kd.R_drew));exact (Kd.R_mono (Kd.R_far (p := ⟨gb250,2,none⟩) (Kd.R_far (p := ⟨gb250,1,none⟩) (Kd.R_far (p := ⟨gb250,0,none⟩) (Kd.R_types HOQF50A114.out BK250.out (by decide)) (fun _ hk => hk.2) (.int .i64 (wrap64 (t239)))) (fun _ hk => hk.2) (.int .i64 (wrap64 (t242)))) (fun _ hk => hk.2) (.slice AoQF50A116 t245.length coQF50A117)) (fun _ h_ => h_.1))));(case side2 => exact (Kd.R_reads' HOQF50A114.out).2.1);rintro e wQC65A141 ⟨rfl,hb⟩;have n_ := haq (Kd.R_below (by (with_reducible repeat (first | apply Kd.R_alloc | apply Kd.R_drewN | apply Kd.R_drew));exact (Kd.R_mono (Kd.R_far (p := ⟨gb250,2,none⟩) (Kd.R_far (p := ⟨gb250,1,none⟩) (Kd.R_far (p := ⟨gb250,0,none⟩) (Kd.R_types HOQF50A114.out BK250.out (by decide)) (fun _ hk => hk.2) (.int .i64 (wrap64 (t239)))) (fun _ hk => hk.2) (.int .i64 (wrap64 (t242)))) (fun _ hk => hk.2) (.slice AoQF50A116 t245.length coQF50A117)) (fun _ h_ => h_.1))) hb) <| haq (zx (g := gb238) (o := .cells #[.int .i64 0,.int .i64 0,.slice none 0 0] 73 (0,0)) (hxq1 NBQN118.out BK238.out) hb) <| haq (zx (g := gb250) (o := .cells #[.int .i64 (wrap64 (t239)),.int .i64 (wrap64 (t242)),.slice AoQF50A116 t245.length coQF50A117] 73 (0,0)) (hxq0p BK250.out) hb) <| haq (zd hCq hb) <| trivial;clear HOQF50A114 BK238 BK250 HB;obtain ⟨HOQF50A114,BK238,BK250,HB,_⟩ := n_;(try clear hb);(try clear hb2);(try clear hk);(try clear hi);obtain ⟨hczQC65A145,hczQC65A146,hczQC65A147,hfzQC65A148,hfzQC65A149,hfzQC65A1410⟩ := hcq3 BK238.out)) | (have _ := EQ3;((with_reducible refine zy (N := 11) rfl ?_);refine zo ?hg (N := 11) ?hd (cs := #[.int .i64 0,.int .i64 0,.slice none 0 0]) (t := 73) ?hr ?_;(case hd => rfl);(case hg => rfl);(case hr => first | (go_simp;done) | (go_simp;rfl));intro gb250 hg wQN112 hbox hb;have n_ := haq (Kd.R_below (hRq HOQF50A114.out) hb) <| haq (hbq BK238.out hb) <| haq (zd hCq hb) <| haq (hbox) <| haq ((by rw [hg];exact (ze hCq) : w.heap.size ≤ gb250)) <| haq ((by rw [hg];exact (ze hCq) : w.heap.size ≤ gb250)) <| haq (hnq hg BK238.out) <| haq (hmq hg BK238.out) <| trivial;clear HOQF50A114 BK238 HB;obtain ⟨HOQF50A114,BK238,HB,BK250,GW250,GE250,NBQN118,NBQN119,_⟩ := n_;clear hb hbox hg;have hnbQN1110 := NBQN119.out;have hncQN1111 := NBQN118.out;obtain ⟨hczQN1112,hczQN1113,hczQN1114,hfzQN1115,hfzQN1116,hfzQN1117⟩ := hcq3 BK250.out;obtain ⟨hczQN1118,hczQN1119,hczQN1120,hfzQN1121,hfzQN1122,hfzQN1123⟩ := hcq3 BK238.out)))
     first | (have _ := EQ1;refine bodyPost_ret (zaq rfl _ _ gb238 73 #[.int .i64 (wrap64 (t239)),.int .i64 (wrap64 (t242)),.slice AoQF50A116 t245.length coQF50A117] (0,0) _ rfl (hxq0p BK238.out) Tryz.underlying73 rfl (by kernel_rfl)) rfl ?_;exact ⟨_,hHq,by (with_reducible repeat (first | apply Kd.R_alloc | apply Kd.R_drewN | apply Kd.R_drew));exact Kd.R_mono (Kd.R_far (p := ⟨gb238,2,none⟩) (Kd.R_far (p := ⟨gb238,1,none⟩) (Kd.R_far (p := ⟨gb238,0,none⟩) (Kd.R_types HOQF50A114.out BK238.out (by decide)) (fun _ hk => hk.2) (.int .i64 (wrap64 (t239)))) (fun _ hk => hk.2) (.int .i64 (wrap64 (t242)))) (fun _ hk => hk.2) (.slice AoQF50A116 t245.length coQF50A117)) (fun _ hk => trivial),hCq⟩) | (have _ := EQ2;refine bodyPost_ret (zaq rfl _ _ gb238 73 #[.int .i64 0,.int .i64 0,.slice none 0 0] (0,0) _ rfl (hxq0p BK238.out) Tryz.underlying73 rfl (by kernel_rfl)) rfl ?_;exact ⟨_,hHq,by first | exact Kd.R_nil _ _ _ _ _ | exact Kd.N_nil _ _ _ _ _ | exact Kd.V_nil _ _ _ _ _ | exact Kd.Q_nil _ _ _ _ _ | exact Kd.S_nil _ _ _ _ _,hCq⟩) | (have _ := EQ3;refine bodyPost_ret (zaq rfl _ _ gb238 73 #[.int .i64 0,.int .i64 0,.slice none 0 0] (0,0) _ rfl (hxq1p NBQN118.out BK238.out) Tryz.underlying73 rfl (by kernel_rfl)) rfl ?_;exact ⟨_,hHq,by first | exact Kd.R_nil _ _ _ _ _ | exact Kd.N_nil _ _ _ _ _ | exact Kd.V_nil _ _ _ _ _ | exact Kd.Q_nil _ _ _ _ _ | exact Kd.S_nil _ _ _ _ _,hCq⟩)
def zb3 (s : Bs) : Option (Nat × Bs) := if (zl s).2.2 = 0 ∧ (zl s).1 ≤ 1048576 then some ((zl s).1,(zl s).2.1) else none
theorem zfy {s r : Bs} {v : Nat} (h : zb3 s = some (v,r)) : s = zbD v ++ r ∧ v ≤ 1048576 := by
 unfold zb3 at h
 split at h
 ·rename_i h0
  have hi := Option.some.inj h
  obtain ⟨h1,h2⟩ := zbG (s := s) (v := (zl s).1) (r := (zl s).2.1) (by rw [← h0.1])
  rw [show (zl s).1 = v from congrArg Prod.fst hi] at h1 h0
  rw [show (zl s).2.1 = r from congrArg Prod.snd hi] at h1
  exact ⟨h1,h0.2⟩
 ·cases h
theorem ze6 {s r : Bs} {v : Nat} (h : zb3 s = some (v,r)) : r.length ≤ s.length := by
 rw [(zfy h).1,List.length_append];omega
theorem zgV {v : Nat} (hv : v ≤ 1048576) (r : Bs) : zb3 (zbD v ++ r) = some (v,r) := by
 rw [zb3,zbQ (by omega),if_pos ⟨rfl,hv⟩]
def zak (s : Bs) : Int × Int × Bs × Bool :=
 match zb3 s with
 | none => (0,0,[],false)
 | some (a,s1) => match zb3 s1 with
  | none => (a,0,[],false)
  | some (b,s2) => (a,b,s2,true)
def z8.Rest (s : Bs) (k : Nat) (s' : ByteArray) (X Y : Int) : Prop :=
 (k = 0 ∧ ofB s' = s ∧ X = 0 ∧ Y = 0) ∨ (k = 1 ∧ Y = 0 ∧ ∃ a : Nat,X = a ∧ zb3 s = some (a,ofB s')) ∨
 (k = 2 ∧ ∃ (a b : Nat) (s1 : Bs),X = a ∧ Y = b ∧ zb3 s = some (a,s1) ∧ zb3 s1 = some (b,ofB s'))
theorem z8.Rest.step0 {s : Bs} {s' : ByteArray} {X Y : Int} (h : z8.Rest s 0 s' X Y) {v : Nat} {r : Bs} (h1 : zb3 (ofB s') = some (v,r)) : z8.Rest s 1 (toB r) v Y := by
 rcases h with ⟨_,e,rfl,rfl⟩ | ⟨e,_⟩ | ⟨e,_⟩
 ·exact .inr (.inl ⟨rfl,rfl,v,rfl,by rw [zav,← h1,e]⟩)
 ·cases e
 ·cases e
theorem z8.Rest.step1 {s : Bs} {s' : ByteArray} {X Y : Int} (h : z8.Rest s 1 s' X Y) {v : Nat} {r : Bs} (h1 : zb3 (ofB s') = some (v,r)) : z8.Rest s 2 (toB r) X v := by
 rcases h with ⟨e,_⟩ | ⟨_,rfl,a,rfl,h2⟩ | ⟨e,_⟩
 ·cases e
 ·exact .inr (.inr ⟨rfl,a,v,_,rfl,rfl,h2,by rw [zav,h1]⟩)
 ·cases e
theorem z8.Rest.fail {s : Bs} {s' : ByteArray} {k : Nat} (hk : k < 2) {X Y : Int} (h : z8.Rest s k s' X Y) (h1 : zb3 (ofB s') = none) : zak s = (X,Y,[],false) := by
 rcases h with ⟨_,e,rfl,rfl⟩ | ⟨_,rfl,a,rfl,h2⟩ | ⟨e,_⟩
 ·rw [e] at h1;rw [zak,h1]
 ·rw [zak,h2];simp only;rw [h1]
 ·omega
theorem z8.Rest.stop {s : Bs} {s' : ByteArray} {X Y : Int} (h : z8.Rest s 2 s' X Y) : zak s = (X,Y,ofB s',true) := by
 rcases h with ⟨e,_⟩ | ⟨e,_⟩ | ⟨_,a,b,s1,rfl,rfl,h1,h2⟩
 ·cases e
 ·cases e
 ·rw [zak,h1];simp only;rw [h2]
theorem zhh (s : ByteArray) (hs : s.size < 4611686018427387904) : ∃ k,(∃ (v : Nat) (r : Bs),zb3 (ofB s) = some (v,r) ∧ v ≤ 1048576 ∧ zD.f k s = some ((v : Int),toB r,0)) ∨ (zb3 (ofB s) = none ∧ ∃ (v : Nat) (r : Bs) (e : Int),zD.f k s = some ((v : Int),toB r,e) ∧ (e ≠ 0 ∨ 1048576 < v)) := by
 obtain ⟨k,hk⟩ := (zc0 s hs).rounds
 refine ⟨k,?_⟩
 simp only [zbL] at hk
 unfold zb3
 generalize zl (ofB s) = q at *
 obtain ⟨v,r,e⟩ := q
 simp only at hk ⊢
 by_cases h : e = 0 ∧ v ≤ 1048576
 ·obtain ⟨rfl,h2⟩ := h
  exact .inl ⟨v,r,by rw [if_pos ⟨rfl,h2⟩],h2,hk⟩
 ·refine .inr ⟨if_neg h,v,r,e,hk,?_⟩
  by_cases he : e = 0
  ·exact .inr (by have : ¬ v ≤ 1048576 := fun hh => h ⟨he,hh⟩;omega)
  ·exact .inl he
set_option maxHeartbeats 4000000 in
set_option maxRecDepth 100000 in
theorem z8.walk (s : ByteArray) (w : World) (hs : s.size < 4611686018427387904) (fin : Int × Int × Bs × Bool) (hfin : zak (ofB s) = fin) :
  Calls Tryz.prog 49 #[.string s] w fun e w' => e = .returned (.tuple #[.agg #[.int .i64 fin.1,.int .i64 fin.2.1],.string (toB fin.2.2.1),.bool fin.2.2.2]) ∧ Below w.heap.size w w' := by
 have HF := za.mk hfin
 have HS := za.mk hs
 clear hfin hs
 go_enter Tryz.func49,Tryz.ntmps49
 go_wp2_with (first
  | ((with_reducible refine zy (N := 2) rfl ?_);refine zo ?hg (N := 2) ?hd (cs := #[.int .i64 0,.int .i64 0]) (t := 84) ?hr ?_;(case hd => rfl);(case hg => rfl);(case hr => first | (go_simp;done) | (go_simp;rfl));intro g2 hg w1 hbox hb;have G2 : za (w.heap.size ≤ g2) := ⟨by rw [hg];exact Nat.le_refl _⟩;have B2 := za.mk hbox;have HB1 := za.mk hb;clear hb hbox hg)
  | ((with_reducible refine zy (N := 5) rfl ?_);refine zo ?hg (N := 5) ?hd (cs := #[.int .i64 0,.int .i64 0]) (t := 84) ?hr ?_;(case hd => rfl);(case hg => rfl);(case hr => first | (go_simp;done) | (go_simp;rfl));intro g5 hg w2 hbox hb;have G5 : za (w.heap.size ≤ g5) := ⟨by rw [hg];exact ze HB1.out⟩;have N25 : za (g2 ≠ g5) := ⟨by rw [hg];exact Nat.ne_of_lt (za6 B2.out)⟩;have C5 := za.mk hbox;have C2 := za.mk (zx B2.out hb);have HB2 := za.mk (zd HB1.out hb);clear hb hbox hg B2))
 have HR0 : za (z8.Rest (ofB s) 0 s 0 0) := ⟨.inl ⟨rfl,rfl,rfl,rfl⟩⟩
 go_loopw [0,10] (fun v0 v10 wr => ∃ (k : Nat) (s' : ByteArray) (X Y : Int),v0 = .string s' ∧ v10 = .int .i64 k ∧ k ≤ 2 ∧ za (s'.size ≤ s.size ∧ z8.Rest (ofB s) k s' X Y) ∧ za (Below w.heap.size w wr ∧ wr.heap[g2]? = some (.cells #[.int .i64 0,.int .i64 0] 84 (0,0)) ∧ wr.heap[g5]? = some (.cells #[.int .i64 X,.int .i64 Y] 84 (0,0)))) (fun _ v10 _ => 2 - (match v10 with | .int _ q => q | _ => 0).toNat)
 case atStart => exact ⟨0,s,0,0,rfl,rfl,by omega,⟨Nat.le_refl _,HR0.out⟩,⟨HB2.out,C2.out,C5.out⟩⟩
 case round =>
  obtain ⟨k,s',X,Y,rfl,rfl,hk,HR,HW⟩ := hrel
  obtain ⟨q,hq⟩ := zhh s' (by have := HS.out;have := HR.out.1;omega)
  have hlen : ∀ (v : Nat) (r : Bs),zb3 (ofB s') = some (v,r) → (toB r).size ≤ s.size := fun v r h => by
   have := ze6 h
   rw [zae] at this
   rw [zP];have := HR.out.1;omega
  have HLN := za.mk hlen
  clear hlen HR0
  have n25 := N25.out
  have n52 := Ne.symm N25.out
  have a20 := (zb HW.out.2.1 0).trans rfl;have a21 := (zb HW.out.2.1 1).trans rfl;have a50 := (zb HW.out.2.2 0).trans rfl;have a51 := (zb HW.out.2.2 1).trans rfl
  have f20 := zc HW.out.2.1 0;have f21 := zc HW.out.2.1 1;have f50 := zc HW.out.2.2 0;have f51 := zc HW.out.2.2 1
  match k,hk,HR with
  | 0,hk,HR =>
   rcases hq with ⟨v,r,h1,h2,h3⟩ | ⟨h1,v,r,e,h3,h4⟩
   ·have hb : decide (1048576 < v) = false := decide_eq_false (by omega)
    have hb2 : decide (1048576 < (v : Int)) = false := decide_eq_false (by omega)
    have hw : wrap64 (v : Int) = v := z9 (by omega) (by omega)
    have H1 := za.mk h1
    have H3 := za.mk h3
    clear h1 h2 h3
    go_wp2_with (go_at_call 23;(with_reducible refine (zD.calls _ _ _ _ _ _ H3.out).mono ?_);rintro e w3 ⟨rfl,⟨nd,rfl⟩⟩)
    exact ⟨⟨1,toB r,v,Y,rfl,rfl,by omega,⟨HLN.out _ _ H1.out,HR.out.2.step0 H1.out⟩,⟨zw (zf HW.out.1 nd) G5.out,zcy (zap HW.out.2.1 nd) n25 _,zaX (zap HW.out.2.2 nd) 0 _ rfl⟩⟩,by simp⟩
   ·have HE := za.mk (HR.out.2.fail (by omega) h1)
    have H3 := za.mk h3
    by_cases he : e = 0
    ·subst he
     have hv : 1048576 < v := by rcases h4 with h4 | h4;exact absurd rfl h4;exact h4
     have hb : decide (1048576 < v) = true := decide_eq_true hv
     have hb2 : decide (1048576 < (v : Int)) = true := decide_eq_true (by omega)
     clear h1 h3 h4 hv
     go_wp2_with (go_at_call 23;(with_reducible refine (zD.calls _ _ _ _ _ _ H3.out).mono ?_);rintro e w3 ⟨rfl,⟨nd,rfl⟩⟩)
     refine bodyPost_ret (zda rfl _ _ g2 84 #[.int .i64 X,.int .i64 Y] (0,0) _ rfl (zaX (cs := #[.int .i64 X,.int .i64 0]) (zaX (cs := #[.int .i64 0,.int .i64 0]) (zap HW.out.2.1 nd) 0 _ rfl) 1 _ rfl) Tryz.underlying84 rfl (by kernel_rfl)) rfl ?_
     rw [← HF.out,HE.out]
     exact ⟨rfl,zw (zw (zf HW.out.1 nd) G2.out) G2.out⟩
    ·have hb : (e == 0) = false := beq_eq_false_iff_ne.2 he
     have hb2 : (e != 0) = true := by rw [bne,hb];rfl
     clear h1 h3 h4 he
     go_wp2_with (go_at_call 23;(with_reducible refine (zD.calls _ _ _ _ _ _ H3.out).mono ?_);rintro e w3 ⟨rfl,⟨nd,rfl⟩⟩)
     refine bodyPost_ret (zda rfl _ _ g2 84 #[.int .i64 X,.int .i64 Y] (0,0) _ rfl (zaX (cs := #[.int .i64 X,.int .i64 0]) (zaX (cs := #[.int .i64 0,.int .i64 0]) (zap HW.out.2.1 nd) 0 _ rfl) 1 _ rfl) Tryz.underlying84 rfl (by kernel_rfl)) rfl ?_
     rw [← HF.out,HE.out]
     exact ⟨rfl,zw (zw (zf HW.out.1 nd) G2.out) G2.out⟩
  | 1,hk,HR =>
   rcases hq with ⟨v,r,h1,h2,h3⟩ | ⟨h1,v,r,e,h3,h4⟩
   ·have hb : decide (1048576 < v) = false := decide_eq_false (by omega)
    have hb2 : decide (1048576 < (v : Int)) = false := decide_eq_false (by omega)
    have hw : wrap64 (v : Int) = v := z9 (by omega) (by omega)
    have H1 := za.mk h1
    have H3 := za.mk h3
    clear h1 h2 h3
    go_wp2_with (go_at_call 23;(with_reducible refine (zD.calls _ _ _ _ _ _ H3.out).mono ?_);rintro e w3 ⟨rfl,⟨nd,rfl⟩⟩)
    exact ⟨⟨2,toB r,X,v,rfl,rfl,by omega,⟨HLN.out _ _ H1.out,HR.out.2.step1 H1.out⟩,⟨zw (zf HW.out.1 nd) G5.out,zcy (zap HW.out.2.1 nd) n25 _,zaX (zap HW.out.2.2 nd) 1 _ rfl⟩⟩,by simp⟩
   ·have HE := za.mk (HR.out.2.fail (by omega) h1)
    have H3 := za.mk h3
    by_cases he : e = 0
    ·subst he
     have hv : 1048576 < v := by rcases h4 with h4 | h4;exact absurd rfl h4;exact h4
     have hb : decide (1048576 < v) = true := decide_eq_true hv
     have hb2 : decide (1048576 < (v : Int)) = true := decide_eq_true (by omega)
     clear h1 h3 h4 hv
     go_wp2_with (go_at_call 23;(with_reducible refine (zD.calls _ _ _ _ _ _ H3.out).mono ?_);rintro e w3 ⟨rfl,⟨nd,rfl⟩⟩)
     refine bodyPost_ret (zda rfl _ _ g2 84 #[.int .i64 X,.int .i64 Y] (0,0) _ rfl (zaX (cs := #[.int .i64 X,.int .i64 0]) (zaX (cs := #[.int .i64 0,.int .i64 0]) (zap HW.out.2.1 nd) 0 _ rfl) 1 _ rfl) Tryz.underlying84 rfl (by kernel_rfl)) rfl ?_
     rw [← HF.out,HE.out]
     exact ⟨rfl,zw (zw (zf HW.out.1 nd) G2.out) G2.out⟩
    ·have hb : (e == 0) = false := beq_eq_false_iff_ne.2 he
     have hb2 : (e != 0) = true := by rw [bne,hb];rfl
     clear h1 h3 h4 he
     go_wp2_with (go_at_call 23;(with_reducible refine (zD.calls _ _ _ _ _ _ H3.out).mono ?_);rintro e w3 ⟨rfl,⟨nd,rfl⟩⟩)
     refine bodyPost_ret (zda rfl _ _ g2 84 #[.int .i64 X,.int .i64 Y] (0,0) _ rfl (zaX (cs := #[.int .i64 X,.int .i64 0]) (zaX (cs := #[.int .i64 0,.int .i64 0]) (zap HW.out.2.1 nd) 0 _ rfl) 1 _ rfl) Tryz.underlying84 rfl (by kernel_rfl)) rfl ?_
     rw [← HF.out,HE.out]
     exact ⟨rfl,zw (zw (zf HW.out.1 nd) G2.out) G2.out⟩
  | 2,hk,HR =>
   have HE := za.mk HR.out.2.stop
   clear hq
   go_wp2_with fail
   refine bodyPost_ret (zda rfl _ _ g2 84 #[.int .i64 X,.int .i64 Y] (0,0) _ rfl (zaX (cs := #[.int .i64 X,.int .i64 0]) (zaX (cs := #[.int .i64 0,.int .i64 0]) HW.out.2.1 0 _ rfl) 1 _ rfl) Tryz.underlying84 rfl (by kernel_rfl)) rfl ?_
   rw [← HF.out,HE.out]
   exact ⟨by simp only [zcz];rfl,zw (zw HW.out.1 G2.out) G2.out⟩
def z8.f (a0 : ByteArray) : Option (Int × Int × ByteArray × Bool) := if a0.size < 4611686018427387904 then some ((zak (ofB a0)).1,(zak (ofB a0)).2.1,toB (zak (ofB a0)).2.2.1,(zak (ofB a0)).2.2.2) else none
theorem z8.calls (a0 : ByteArray) (r1 r2 : Int) (r3 : ByteArray) (r4 : Bool) (w : World) (h : z8.f a0 = some (r1,r2,r3,r4)) :
  Calls Tryz.prog 49 #[.string a0] w fun e w' => e = .returned (.tuple #[.agg #[.int .i64 r1,.int .i64 r2],.string r3,.bool r4]) ∧ Below w.heap.size w w' := by
 unfold z8.f at h
 split at h
 ·rename_i hs
  have h := Option.some.inj h
  simp only [Prod.mk.injEq] at h
  obtain ⟨rfl,rfl,rfl,rfl⟩ := h
  exact z8.walk a0 w hs _ rfl
 ·cases h
end Go.Proofs.YtfhbeonhnhjikaaGreat.Px