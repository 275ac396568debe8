/- Part 17 of 35 of the proof of the law CertBytes: what is proved is the statement at the end of the last part; its conditions are those of the given row. -/
import Derived.Test.YtfhbeonhnhjikaaGreatZCertBytesP
namespace Go.Proofs.YtfhbeonhnhjikaaGreat.Px
open Go.RowKit Go.Proofs.YtfhbeonhnhjikaaGreatW.PrintWords Go.Proofs.YtfhbeonhnhjikaaGreatW.PrintLast Go.Proofs.YtfhbeonhnhjikaaGreatW.PrintMore
attribute [local go_sem] zz zB zI zJ zp zq zA zC
set_option linter.unusedVariables false
set_option linter.unusedSimpArgs false
def zdN.f (k : Nat) (a0 : ByteArray) (a1 : Int) : Option (Int × Int × (List (S73)) × List ByteArray × Int × Int × Int × Int) := (zah.f k a0 65536).bind fun bt287 => ((zD.f k bt287.2.1).bind fun bt290 => ((zH.f k bt287.1 a1).bind fun bt293 => (if bt287.2.2 = 0 then (if bt290.2.2 = 0 then (if bt293.2.2.2.2.2.2 = 0 then (if bt290.2.1.toList = ([] : List UInt8) then ((zaV.f bt293.1 bt293.2.1 bt293.2.2.1 bt293.2.2.2.1 bt293.2.2.2.2.1 bt293.2.2.2.2.2.1 bt290.1 a1).bind fun t306 => (if t306 = 0 then (some (bt293.1,bt293.2.1,bt293.2.2.1,bt293.2.2.2.1,bt293.2.2.2.2.1,bt293.2.2.2.2.2.1,bt290.1,0)) else (some (0,0,([] : List (S73)),([] : List ByteArray),0,0,0,3)))) else (some (0,0,([] : List (S73)),([] : List ByteArray),0,0,0,3))) else (some (0,0,([] : List (S73)),([] : List ByteArray),0,0,0,3))) else (some (0,0,([] : List (S73)),([] : List ByteArray),0,0,0,3))) else (some (0,0,([] : List (S73)),([] : List ByteArray),0,0,0,3)))))
set_option maxHeartbeats 8000000 in
set_option maxRecDepth 100000 in
theorem zdN.calls (k : Nat) (a0 : ByteArray) (a1 : Int) (r1 : Int) (r2 : Int) (r3 : List (S73)) (r4 : List ByteArray) (r5 : Int) (r6 : Int) (r7 : Int) (r8 : Int) (w : World) (h : zdN.f k a0 a1 = some (r1,r2,r3,r4,r5,r6,r7,r8)) :
  Calls Tryz.prog 7 #[.string a0,.int .i64 a1] w fun e w' => ∃ v2_ v3_ : Value,e = .returned (.tuple #[.agg #[.int .i64 r1,.int .i64 r2,v2_,v3_,.int .i64 r5,.int .i64 r6,.int .u64 r7],.int .i64 r8]) ∧ Kd.S k73 73 w' w.heap.size (fun k_ => some k_ ≠ (v3_ : Value).ownBlock) v2_ r3 ∧ Kd.R Kd.string 9 w' w.heap.size (fun _ => True) v3_ r4 ∧ Below w.heap.size w w' := by
 have hu30 := Tryz.underlying30
 have hu27 := Tryz.underlying27
 have HB := za.mk (Below.refl w.heap.size w)
 have H : ((zah.f k a0 65536).bind fun bt287 => ((zD.f k bt287.2.1).bind fun bt290 => ((zH.f k bt287.1 a1).bind fun bt293 => (if bt287.2.2 = 0 then (if bt290.2.2 = 0 then (if bt293.2.2.2.2.2.2 = 0 then (if bt290.2.1.toList = ([] : List UInt8) then ((zaV.f bt293.1 bt293.2.1 bt293.2.2.1 bt293.2.2.2.1 bt293.2.2.2.2.1 bt293.2.2.2.2.2.1 bt290.1 a1).bind fun t306 => (if t306 = 0 then (some (bt293.1,bt293.2.1,bt293.2.2.1,bt293.2.2.2.1,bt293.2.2.2.2.1,bt293.2.2.2.2.2.1,bt290.1,0)) else (some (0,0,([] : List (S73)),([] : List ByteArray),0,0,0,3)))) else (some (0,0,([] : List (S73)),([] : List ByteArray),0,0,0,3))) else (some (0,0,([] : List (S73)),([] : List ByteArray),0,0,0,3))) else (some (0,0,([] : List (S73)),([] : List ByteArray),0,0,0,3))) else (some (0,0,([] : List (S73)),([] : List ByteArray),0,0,0,3)))))) = some (r1,r2,r3,r4,r5,r6,r7,r8) := h
 clear h
 replace H := Option.bind_eq_some_iff.mp H
 obtain ⟨⟨t287,t288,t289⟩,A30,H⟩ := H
 replace H : ((zD.f k t288).bind fun bt290 => ((zH.f k t287 a1).bind fun bt293 => (if t289 = 0 then (if bt290.2.2 = 0 then (if bt293.2.2.2.2.2.2 = 0 then (if bt290.2.1.toList = ([] : List UInt8) then ((zaV.f bt293.1 bt293.2.1 bt293.2.2.1 bt293.2.2.2.1 bt293.2.2.2.2.1 bt293.2.2.2.2.2.1 bt290.1 a1).bind fun t306 => (if t306 = 0 then (some (bt293.1,bt293.2.1,bt293.2.2.1,bt293.2.2.2.1,bt293.2.2.2.2.1,bt293.2.2.2.2.2.1,bt290.1,0)) else (some (0,0,([] : List (S73)),([] : List ByteArray),0,0,0,3)))) else (some (0,0,([] : List (S73)),([] : List ByteArray),0,0,0,3))) else (some (0,0,([] : List (S73)),([] : List ByteArray),0,0,0,3))) else (some (0,0,([] : List (S73)),([] : List ByteArray),0,0,0,3))) else (some (0,0,([] : List (S73)),([] : List ByteArray),0,0,0,3))))) = some (r1,r2,r3,r4,r5,r6,r7,r8) := H
 have A3 := za.mk A30
 clear A30
 replace H := Option.bind_eq_some_iff.mp H
 obtain ⟨⟨t290,t291,t292⟩,A40,H⟩ := H
 replace H : ((zH.f k t287 a1).bind fun bt293 => (if t289 = 0 then (if t292 = 0 then (if bt293.2.2.2.2.2.2 = 0 then (if t291.toList = ([] : List UInt8) then ((zaV.f bt293.1 bt293.2.1 bt293.2.2.1 bt293.2.2.2.1 bt293.2.2.2.2.1 bt293.2.2.2.2.2.1 t290 a1).bind fun t306 => (if t306 = 0 then (some (bt293.1,bt293.2.1,bt293.2.2.1,bt293.2.2.2.1,bt293.2.2.2.2.1,bt293.2.2.2.2.2.1,t290,0)) else (some (0,0,([] : List (S73)),([] : List ByteArray),0,0,0,3)))) else (some (0,0,([] : List (S73)),([] : List ByteArray),0,0,0,3))) else (some (0,0,([] : List (S73)),([] : List ByteArray),0,0,0,3))) else (some (0,0,([] : List (S73)),([] : List ByteArray),0,0,0,3))) else (some (0,0,([] : List (S73)),([] : List ByteArray),0,0,0,3)))) = some (r1,r2,r3,r4,r5,r6,r7,r8) := H
 have A4 := za.mk A40
 clear A40
 replace H := Option.bind_eq_some_iff.mp H
 obtain ⟨⟨t293,t294,t295,t298,t301,t302,t303⟩,A50,H⟩ := H
 replace H : (if t289 = 0 then (if t292 = 0 then (if t303 = 0 then (if t291.toList = ([] : List UInt8) then ((zaV.f t293 t294 t295 t298 t301 t302 t290 a1).bind fun t306 => (if t306 = 0 then (some (t293,t294,t295,t298,t301,t302,t290,0)) else (some (0,0,([] : List (S73)),([] : List ByteArray),0,0,0,3)))) else (some (0,0,([] : List (S73)),([] : List ByteArray),0,0,0,3))) else (some (0,0,([] : List (S73)),([] : List ByteArray),0,0,0,3))) else (some (0,0,([] : List (S73)),([] : List ByteArray),0,0,0,3))) else (some (0,0,([] : List (S73)),([] : List ByteArray),0,0,0,3))) = some (r1,r2,r3,r4,r5,r6,r7,r8) := H
 have A5 := za.mk A50
 clear A50
 by_cases c6 : t289 = 0
 focus
  rw [if_pos c6] at H
  have c6b0 : (t289 == 0) = true := beq_iff_eq.mpr c6
  have c6b1 : (t289 != 0) = false := bne_eq_false_iff_eq.mpr c6
  clear c6
  by_cases c7 : t292 = 0
  focus
   rw [if_pos c7] at H
   have c7b0 : (t292 == 0) = true := beq_iff_eq.mpr c7
   have c7b1 : (t292 != 0) = false := bne_eq_false_iff_eq.mpr c7
   clear c7
   by_cases c8 : t303 = 0
   focus
    rw [if_pos c8] at H
    have c8b0 : (t303 == 0) = true := beq_iff_eq.mpr c8
    have c8b1 : (t303 != 0) = false := bne_eq_false_iff_eq.mpr c8
    clear c8
    by_cases c9 : t291.toList = ([] : List UInt8)
    focus
     rw [if_pos c9] at H
     have c9b0 : (t291.toList == ([] : List UInt8)) = true := beq_iff_eq.mpr c9
     have c9b1 : (t291.toList != ([] : List UInt8)) = false := bne_eq_false_iff_eq.mpr c9
     clear c9
     replace H := Option.bind_eq_some_iff.mp H
     obtain ⟨t306,A100,H⟩ := H
     replace H : (if t306 = 0 then (some (t293,t294,t295,t298,t301,t302,t290,0)) else (some (0,0,([] : List (S73)),([] : List ByteArray),0,0,0,3))) = some (r1,r2,r3,r4,r5,r6,r7,r8) := H
     have A10 := za.mk A100
     clear A100
     by_cases c11 : t306 = 0
     focus
      rw [if_pos c11] at H
      have c11b0 : (t306 == 0) = true := beq_iff_eq.mpr c11
      have c11b1 : (t306 != 0) = false := bne_eq_false_iff_eq.mpr c11
      clear c11
      simp only [Option.some.injEq,Prod.mk.injEq] at H
      obtain ⟨rfl,rfl,rfl,rfl,rfl,rfl,rfl,rfl⟩ := H
      have EQ0 := True.intro
      have EQ1 := True.intro
     rotate_left
     focus
      rw [if_neg c11] at H
      have c11b0 : (t306 == 0) = false := beq_eq_false_iff_ne.mpr c11
      have c11b1 : (t306 != 0) = true := bne_iff_ne.mpr c11
      simp only [Option.some.injEq,Prod.mk.injEq] at H
      obtain ⟨rfl,rfl,rfl,rfl,rfl,rfl,rfl,rfl⟩ := H
      have EQ0 := True.intro
      have EQ2 := True.intro
    rotate_left 2
    focus
     rw [if_neg c9] at H
     have c9b0 : (t291.toList == ([] : List UInt8)) = false := beq_eq_false_iff_ne.mpr c9
     have c9b1 : (t291.toList != ([] : List UInt8)) = true := bne_iff_ne.mpr c9
     simp only [Option.some.injEq,Prod.mk.injEq] at H
     obtain ⟨rfl,rfl,rfl,rfl,rfl,rfl,rfl,rfl⟩ := H
     have EQ3 := True.intro
   rotate_left 3
   focus
    rw [if_neg c8] at H
    have c8b0 : (t303 == 0) = false := beq_eq_false_iff_ne.mpr c8
    have c8b1 : (t303 != 0) = true := bne_iff_ne.mpr c8
    simp only [Option.some.injEq,Prod.mk.injEq] at H
    obtain ⟨rfl,rfl,rfl,rfl,rfl,rfl,rfl,rfl⟩ := H
    have EQ3 := True.intro
  rotate_left 4
  focus
   rw [if_neg c7] at H
   have c7b0 : (t292 == 0) = false := beq_eq_false_iff_ne.mpr c7
   have c7b1 : (t292 != 0) = true := bne_iff_ne.mpr c7
   simp only [Option.some.injEq,Prod.mk.injEq] at H
   obtain ⟨rfl,rfl,rfl,rfl,rfl,rfl,rfl,rfl⟩ := H
   have EQ3 := True.intro
 rotate_left 5
 focus
  rw [if_neg c6] at H
  have c6b0 : (t289 == 0) = false := beq_eq_false_iff_ne.mpr c6
  have c6b1 : (t289 != 0) = true := bne_iff_ne.mpr c6
  simp only [Option.some.injEq,Prod.mk.injEq] at H
  obtain ⟨rfl,rfl,rfl,rfl,rfl,rfl,rfl,rfl⟩ := H
  have EQ3 := True.intro
 all_goals
  go_enter Tryz.func7,Tryz.ntmps7
  go_wp2_with (first | ((with_reducible refine zy (N := 4) rfl ?_);refine zo ?hg (N := 4) ?hd (cs := #[.int .i64 0,.int .i64 0,.slice none 0 0,.slice none 0 0,.int .i64 0,.int .i64 0,.int .u64 0]) (t := 30) ?hr ?_;(case hd => rfl);(case hg => rfl);(case hr => first | (go_simp;done) | (go_simp;rfl));intro gb286 hg wQN42 hbox hb;have n_ := haq (zd hBq hb) <| haq (hbox) <| haq ((by rw [hg];exact (ze hBq) : w.heap.size ≤ gb286)) <| haq ((by rw [hg];exact (ze hBq) : w.heap.size ≤ gb286)) <| trivial;clear HB;obtain ⟨HB,BK286,GW286,GE286,_⟩ := n_;clear hb hbox hg) | ((with_reducible refine zj (f := 22) rfl ?_);refine zQ (some 15) rfl rfl Tryz.func22 (by kernel_rfl) rfl #[.string a0,.int .i64 65536] rfl hMq ?_;(with_reducible refine (zah.calls k a0 65536 t287 t288 t289 _ A3.out).mono ?_);rintro e w' ⟨rfl,⟨nd,rfl⟩⟩;refine ⟨_,rfl,?_⟩;(try (rw [zeW wQN42];generalize hq_ : World.drewN wQN42 _ = wQN42;have n_ := haq ((by rw [← hq_];exact (hGq BK286.out) : wQN42.heap[gb286]? = some (.cells #[.int .i64 0,.int .i64 0,.slice none 0 0,.slice none 0 0,.int .i64 0,.int .i64 0,.int .u64 0] 30 (0,0)))) <| haq ((by rw [← hq_];exact hCq : Below w.heap.size w wQN42)) <| trivial;clear BK286 HB hq_;obtain ⟨BK286,HB,_⟩ := n_))) | ((with_reducible refine zj (f := 23) rfl ?_);refine zQ (some 21) rfl rfl Tryz.func23 (by kernel_rfl) rfl #[.string t288] rfl hMq ?_;(with_reducible refine (zD.calls k t288 t290 t291 t292 _ A4.out).mono ?_);rintro e w' ⟨rfl,⟨nd,rfl⟩⟩;refine ⟨_,rfl,?_⟩;(try (rw [zeW wQN42];generalize hq_ : World.drewN wQN42 _ = wQN42;have n_ := haq ((by rw [← hq_];exact (hGq BK286.out) : wQN42.heap[gb286]? = some (.cells #[.int .i64 0,.int .i64 0,.slice none 0 0,.slice none 0 0,.int .i64 0,.int .i64 0,.int .u64 0] 30 (0,0)))) <| haq ((by rw [← hq_];exact hCq : Below w.heap.size w wQN42)) <| trivial;clear BK286 HB hq_;obtain ⟨BK286,HB,_⟩ := n_))) | ((with_reducible refine zj (f := 24) rfl ?_);refine zQ (some 28) rfl rfl Tryz.func24 (by kernel_rfl) rfl #[.string t287,.int .i64 a1] rfl hMq ?_;(with_reducible refine (zH.calls k t287 a1 t293 t294 t295 t298 t301 t302 t303 _ A5.out).mono ?_);rintro e wQF24A51 ⟨vQF24A52,vQF24A53,rfl,hoQF24A54,hoQF24A55,hb⟩;refine ⟨_,rfl,?_⟩;have n_ := haq (Kd.S_lower hoQF24A54 (ze hCq)) <| haq (Kd.R_lower hoQF24A55 (ze hCq)) <| haq (hbq BK286.out hb) <| haq (zd hCq hb) <| trivial;clear BK286 HB;obtain ⟨HOQF24A56,HOQF24A57,BK286,HB,_⟩ := n_;(try clear hb);(try clear hb2);(try clear hk);(try clear hi);(try clear hoQF24A54);(try clear hoQF24A55)) | ((with_reducible refine zy (N := 10) rfl ?_);refine zo ?hg (N := 10) ?hd (cs := #[.int .i64 0,.int .i64 0,.slice none 0 0,.slice none 0 0,.int .i64 0,.int .i64 0]) (t := 27) ?hr ?_;(case hd => rfl);(case hg => rfl);(case hr => first | (go_simp;done) | (go_simp;rfl));intro gb304 hg wQN102 hbox hb;have n_ := haq (Kd.S_below (hSq HOQF24A56.out) hb) <| haq (Kd.R_below (hRq HOQF24A57.out) hb) <| haq (hbq BK286.out hb) <| haq (zd hCq hb) <| haq (hbox) <| haq ((by rw [hg];exact (ze hCq) : w.heap.size ≤ gb304)) <| haq ((by rw [hg];exact (ze hCq) : w.heap.size ≤ gb304)) <| haq (hnq hg BK286.out) <| haq (hmq hg BK286.out) <| trivial;clear HOQF24A56 HOQF24A57 BK286 HB;obtain ⟨HOQF24A56,HOQF24A57,BK286,HB,BK304,GW304,GE304,NBQN109,NBQN1010,_⟩ := n_;clear hb hbox hg;have hnbQN1011 := NBQN1010.out;have hncQN1012 := NBQN109.out;obtain ⟨hczQN1013,hczQN1014,hczQN1015,hczQN1016,hczQN1017,hczQN1018,hfzQN1019,hfzQN1020,hfzQN1021,hfzQN1022,hfzQN1023,hfzQN1024⟩ := hcq6 BK304.out;obtain ⟨AoQN1025,coQN1026,eoQN1027⟩ := Kd.S_slice HOQF24A56.out;subst eoQN1027;obtain ⟨AoQN1028,coQN1029,eoQN1030⟩ := Kd.R_slice HOQF24A57.out;subst eoQN1030) | (have _ := EQ0;((with_reducible refine zy (N := 12) rfl ?_);refine zo ?hg (N := 12) ?hd (cs := #[.int .i64 0,.int .i64 0,.slice none 0 0,.slice none 0 0,.int .i64 0,.int .i64 0,.int .u64 0]) (t := 30) ?hr ?_;(case hd => rfl);(case hg => rfl);(case hr => first | (go_simp;done) | (go_simp;rfl));intro gb305 hg wQN122 hbox hb;have n_ := haq (Kd.S_below (by (with_reducible repeat (first | apply Kd.S_alloc | apply Kd.S_drewN | apply Kd.S_drew));exact (Kd.S_mono (Kd.S_far (p := ⟨gb304,5,none⟩) (Kd.S_far (p := ⟨gb304,4,none⟩) (Kd.S_far (p := ⟨gb304,3,none⟩) (Kd.S_far (p := ⟨gb304,2,none⟩) (Kd.S_far (p := ⟨gb304,1,none⟩) (Kd.S_far (p := ⟨gb304,0,none⟩) (Kd.S_types HOQF24A56.out BK304.out (by decide)) (fun _ hk => hk.2) (.int .i64 t293)) (fun _ hk => hk.2) (.int .i64 t294)) (fun _ hk => hk.2) (.slice AoQN1025 t295.length coQN1026)) (fun _ hk => hk.2) (.slice AoQN1028 t298.length coQN1029)) (fun _ hk => hk.2) (.int .i64 t301)) (fun _ hk => hk.2) (.int .i64 t302)) (fun _ h_ => h_.1))) hb) <| haq (Kd.R_below (by (with_reducible repeat (first | apply Kd.R_alloc | apply Kd.R_drewN | apply Kd.R_drew));exact (Kd.R_mono (Kd.R_far (p := ⟨gb304,5,none⟩) (Kd.R_far (p := ⟨gb304,4,none⟩) (Kd.R_far (p := ⟨gb304,3,none⟩) (Kd.R_far (p := ⟨gb304,2,none⟩) (Kd.R_far (p := ⟨gb304,1,none⟩) (Kd.R_far (p := ⟨gb304,0,none⟩) (Kd.R_types HOQF24A57.out BK304.out (by decide)) (fun _ hk => hk.2) (.int .i64 t293)) (fun _ hk => hk.2) (.int .i64 t294)) (fun _ hk => hk.2) (.slice AoQN1025 t295.length coQN1026)) (fun _ hk => hk.2) (.slice AoQN1028 t298.length coQN1029)) (fun _ hk => hk.2) (.int .i64 t301)) (fun _ hk => hk.2) (.int .i64 t302)) (fun _ h_ => h_.1))) hb) <| haq (zx (g := gb286) (o := .cells #[.int .i64 0,.int .i64 0,.slice none 0 0,.slice none 0 0,.int .i64 0,.int .i64 0,.int .u64 0] 30 (0,0)) (hxq1 NBQN109.out BK286.out) hb) <| haq (zx (g := gb304) (o := .cells #[.int .i64 t293,.int .i64 t294,.slice AoQN1025 t295.length coQN1026,.slice AoQN1028 t298.length coQN1029,.int .i64 t301,.int .i64 t302] 27 (0,0)) (hxq0p BK304.out) hb) <| haq (zd hCq hb) <| haq (hbox) <| haq ((by rw [hg];exact (ze hCq) : w.heap.size ≤ gb305)) <| haq ((by rw [hg];exact (ze hCq) : w.heap.size ≤ gb305)) <| haq ((by rw [hg];exact Nat.ne_of_lt (za6 (g := gb286) (o := .cells #[.int .i64 0,.int .i64 0,.slice none 0 0,.slice none 0 0,.int .i64 0,.int .i64 0,.int .u64 0] 30 (0,0)) (hxq1 NBQN109.out BK286.out)) : gb286 ≠ gb305)) <| haq ((by rw [hg];exact Nat.ne_of_gt (za6 (g := gb286) (o := .cells #[.int .i64 0,.int .i64 0,.slice none 0 0,.slice none 0 0,.int .i64 0,.int .i64 0,.int .u64 0] 30 (0,0)) (hxq1 NBQN109.out BK286.out)) : gb305 ≠ gb286)) <| haq ((by rw [hg];exact Nat.ne_of_lt (za6 (g := gb304) (o := .cells #[.int .i64 t293,.int .i64 t294,.slice AoQN1025 t295.length coQN1026,.slice AoQN1028 t298.length coQN1029,.int .i64 t301,.int .i64 t302] 27 (0,0)) (hxq0p BK304.out)) : gb304 ≠ gb305)) <| haq ((by rw [hg];exact Nat.ne_of_gt (za6 (g := gb304) (o := .cells #[.int .i64 t293,.int .i64 t294,.slice AoQN1025 t295.length coQN1026,.slice AoQN1028 t298.length coQN1029,.int .i64 t301,.int .i64 t302] 27 (0,0)) (hxq0p BK304.out)) : gb305 ≠ gb304)) <| trivial;clear HOQF24A56 HOQF24A57 BK286 BK304 HB;obtain ⟨HOQF24A56,HOQF24A57,BK286,BK304,HB,BK305,GW305,GE305,NBQN1210,NBQN1211,NBQN1212,NBQN1213,_⟩ := n_;clear hb hbox hg;have hnbQN1214 := NBQN1211.out;have hncQN1215 := NBQN1210.out;have hnbQN1216 := NBQN1213.out;have hncQN1217 := NBQN1212.out;obtain ⟨hczQN1218,hczQN1219,hczQN1220,hczQN1221,hczQN1222,hczQN1223,hczQN1224,hfzQN1225,hfzQN1226,hfzQN1227,hfzQN1228,hfzQN1229,hfzQN1230,hfzQN1231⟩ := hcq7 BK305.out)) | (have _ := EQ1;(go_at_call 14;(with_reducible refine (zaV.calls t293 t294 _ _ t295 _ _ t298 t301 t302 t290 a1 t306 _ ?side1 ?side2 ?side3 ?side4 A10.out).mono ?_);(case side1 => refine (Kd.S_reads' (e := 73) (base := w.heap.size) (ok := fun k_ => some k_ ≠ (.slice AoQN1028 t298.length coQN1029 : Value).ownBlock) (n := t295.length) (c := coQN1026) ?_).2.2;exact (by (with_reducible repeat (first | apply Kd.S_alloc | apply Kd.S_drewN | apply Kd.S_drew));exact (Kd.S_mono (Kd.S_far (p := ⟨gb305,6,none⟩) (Kd.S_far (p := ⟨gb305,5,none⟩) (Kd.S_far (p := ⟨gb305,4,none⟩) (Kd.S_far (p := ⟨gb305,3,none⟩) (Kd.S_far (p := ⟨gb305,2,none⟩) (Kd.S_far (p := ⟨gb305,1,none⟩) (Kd.S_far (p := ⟨gb305,0,none⟩) (Kd.S_types HOQF24A56.out BK305.out (by decide)) (fun _ hk => hk.2) (.int .i64 t293)) (fun _ hk => hk.2) (.int .i64 t294)) (fun _ hk => hk.2) (.slice AoQN1025 t295.length coQN1026)) (fun _ hk => hk.2) (.slice AoQN1028 t298.length coQN1029)) (fun _ hk => hk.2) (.int .i64 t301)) (fun _ hk => hk.2) (.int .i64 t302)) (fun _ hk => hk.2) (.int .u64 t290)) (fun _ h_ => h_.1))));(case side2 => exact (Kd.S_reads' HOQF24A56.out).2.1);(case side3 => refine (Kd.R_reads' (e := 9) (base := w.heap.size) (ok := fun k_ => True) (n := t298.length) (c := coQN1029) ?_).2.2;exact (by (with_reducible repeat (first | apply Kd.R_alloc | apply Kd.R_drewN | apply Kd.R_drew));exact (Kd.R_mono (Kd.R_far (p := ⟨gb305,6,none⟩) (Kd.R_far (p := ⟨gb305,5,none⟩) (Kd.R_far (p := ⟨gb305,4,none⟩) (Kd.R_far (p := ⟨gb305,3,none⟩) (Kd.R_far (p := ⟨gb305,2,none⟩) (Kd.R_far (p := ⟨gb305,1,none⟩) (Kd.R_far (p := ⟨gb305,0,none⟩) (Kd.R_types HOQF24A57.out BK305.out (by decide)) (fun _ hk => hk.2) (.int .i64 t293)) (fun _ hk => hk.2) (.int .i64 t294)) (fun _ hk => hk.2) (.slice AoQN1025 t295.length coQN1026)) (fun _ hk => hk.2) (.slice AoQN1028 t298.length coQN1029)) (fun _ hk => hk.2) (.int .i64 t301)) (fun _ hk => hk.2) (.int .i64 t302)) (fun _ hk => hk.2) (.int .u64 t290)) (fun _ h_ => h_.1))));(case side4 => exact (Kd.R_reads' HOQF24A57.out).2.1);rintro e wQC14A101 ⟨rfl,hb⟩;have n_ := haq (Kd.S_below (by (with_reducible repeat (first | apply Kd.S_alloc | apply Kd.S_drewN | apply Kd.S_drew));exact (Kd.S_mono (Kd.S_far (p := ⟨gb305,6,none⟩) (Kd.S_far (p := ⟨gb305,5,none⟩) (Kd.S_far (p := ⟨gb305,4,none⟩) (Kd.S_far (p := ⟨gb305,3,none⟩) (Kd.S_far (p := ⟨gb305,2,none⟩) (Kd.S_far (p := ⟨gb305,1,none⟩) (Kd.S_far (p := ⟨gb305,0,none⟩) (Kd.S_types HOQF24A56.out BK305.out (by decide)) (fun _ hk => hk.2) (.int .i64 t293)) (fun _ hk => hk.2) (.int .i64 t294)) (fun _ hk => hk.2) (.slice AoQN1025 t295.length coQN1026)) (fun _ hk => hk.2) (.slice AoQN1028 t298.length coQN1029)) (fun _ hk => hk.2) (.int .i64 t301)) (fun _ hk => hk.2) (.int .i64 t302)) (fun _ hk => hk.2) (.int .u64 t290)) (fun _ h_ => h_.1))) hb) <| haq (Kd.R_below (by (with_reducible repeat (first | apply Kd.R_alloc | apply Kd.R_drewN | apply Kd.R_drew));exact (Kd.R_mono (Kd.R_far (p := ⟨gb305,6,none⟩) (Kd.R_far (p := ⟨gb305,5,none⟩) (Kd.R_far (p := ⟨gb305,4,none⟩) (Kd.R_far (p := ⟨gb305,3,none⟩) (Kd.R_far (p := ⟨gb305,2,none⟩) (Kd.R_far (p := ⟨gb305,1,none⟩) (Kd.R_far (p := ⟨gb305,0,none⟩) (Kd.R_types HOQF24A57.out BK305.out (by decide)) (fun _ hk => hk.2) (.int .i64 t293)) (fun _ hk => hk.2) (.int .i64 t294)) (fun _ hk => hk.2) (.slice AoQN1025 t295.length coQN1026)) (fun _ hk => hk.2) (.slice AoQN1028 t298.length coQN1029)) (fun _ hk => hk.2) (.int .i64 t301)) (fun _ hk => hk.2) (.int .i64 t302)) (fun _ hk => hk.2) (.int .u64 t290)) (fun _ h_ => h_.1))) hb) <| haq (zx (g := gb286) (o := .cells #[.int .i64 0,.int .i64 0,.slice none 0 0,.slice none 0 0,.int .i64 0,.int .i64 0,.int .u64 0] 30 (0,0)) (hxq1 NBQN1210.out BK286.out) hb) <| haq (zx (g := gb304) (o := .cells #[.int .i64 t293,.int .i64 t294,.slice AoQN1025 t295.length coQN1026,.slice AoQN1028 t298.length coQN1029,.int .i64 t301,.int .i64 t302] 27 (0,0)) (hxq1 NBQN1212.out BK304.out) hb) <| haq (zx (g := gb305) (o := .cells #[.int .i64 t293,.int .i64 t294,.slice AoQN1025 t295.length coQN1026,.slice AoQN1028 t298.length coQN1029,.int .i64 t301,.int .i64 t302,.int .u64 t290] 30 (0,0)) (hxq0p BK305.out) hb) <| haq (zd hCq hb) <| trivial;clear HOQF24A56 HOQF24A57 BK286 BK304 BK305 HB;obtain ⟨HOQF24A56,HOQF24A57,BK286,BK304,BK305,HB,_⟩ := n_;(try clear hb);(try clear hb2);(try clear hk);(try clear hi);obtain ⟨hczQC14A107,hczQC14A108,hczQC14A109,hczQC14A1010,hczQC14A1011,hczQC14A1012,hczQC14A1013,hfzQC14A1014,hfzQC14A1015,hfzQC14A1016,hfzQC14A1017,hfzQC14A1018,hfzQC14A1019,hfzQC14A1020⟩ := hcq7 BK305.out;obtain ⟨hczQC14A1021,hczQC14A1022,hczQC14A1023,hczQC14A1024,hczQC14A1025,hczQC14A1026,hczQC14A1027,hfzQC14A1028,hfzQC14A1029,hfzQC14A1030,hfzQC14A1031,hfzQC14A1032,hfzQC14A1033,hfzQC14A1034⟩ := hcq7 BK286.out)) | (have _ := EQ2;(go_at_call 14;(with_reducible refine (zaV.calls t293 t294 _ _ t295 _ _ t298 t301 t302 t290 a1 t306 _ ?side1 ?side2 ?side3 ?side4 A10.out).mono ?_);(case side1 => refine (Kd.S_reads' (e := 73) (base := w.heap.size) (ok := fun k_ => some k_ ≠ (.slice AoQN1028 t298.length coQN1029 : Value).ownBlock) (n := t295.length) (c := coQN1026) ?_).2.2;exact (by (with_reducible repeat (first | apply Kd.S_alloc | apply Kd.S_drewN | apply Kd.S_drew));exact (Kd.S_mono (Kd.S_far (p := ⟨gb305,6,none⟩) (Kd.S_far (p := ⟨gb305,5,none⟩) (Kd.S_far (p := ⟨gb305,4,none⟩) (Kd.S_far (p := ⟨gb305,3,none⟩) (Kd.S_far (p := ⟨gb305,2,none⟩) (Kd.S_far (p := ⟨gb305,1,none⟩) (Kd.S_far (p := ⟨gb305,0,none⟩) (Kd.S_types HOQF24A56.out BK305.out (by decide)) (fun _ hk => hk.2) (.int .i64 t293)) (fun _ hk => hk.2) (.int .i64 t294)) (fun _ hk => hk.2) (.slice AoQN1025 t295.length coQN1026)) (fun _ hk => hk.2) (.slice AoQN1028 t298.length coQN1029)) (fun _ hk => hk.2) (.int .i64 t301)) (fun _ hk => hk.2) (.int .i64 t302)) (fun _ hk => hk.2) (.int .u64 t290)) (fun _ h_ => h_.1))));(case side2 => exact (Kd.S_reads' HOQF24A56.out).2.1);(case side3 => refine (Kd.R_reads' (e := 9) (base := w.heap.size) (ok := fun k_ => True) (n := t298.length) (c := coQN1029) ?_).2.2;exact (by (with_reducible repeat (first | apply Kd.R_alloc | apply Kd.R_drewN | apply Kd.R_drew));exact (Kd.R_mono (Kd.R_far (p := ⟨gb305,6,none⟩) (Kd.R_far (p := ⟨gb305,5,none⟩) (Kd.R_far (p := ⟨gb305,4,none⟩) (Kd.R_far (p := ⟨gb305,3,none⟩) (Kd.R_far (p := ⟨gb305,2,none⟩) (Kd.R_far (p := ⟨gb305,1,none⟩) (Kd.R_far (p := ⟨gb305,0,none⟩) (Kd.R_types HOQF24A57.out BK305.out (by decide)) (fun _ hk => hk.2) (.int .i64 t293)) (fun _ hk => hk.2) (.int .i64 t294)) (fun _ hk => hk.2) (.slice AoQN1025 t295.length coQN1026)) (fun _ hk => hk.2) (.slice AoQN1028 t298.length coQN1029)) (fun _ hk => hk.2) (.int .i64 t301)) (fun _ hk => hk.2) (.int .i64 t302)) (fun _ hk => hk.2) (.int .u64 t290)) (fun _ h_ => h_.1))));(case side4 => exact (Kd.R_reads' HOQF24A57.out).2.1);rintro e wQC14A101 ⟨rfl,hb⟩;have n_ := haq (Kd.S_below (by (with_reducible repeat (first | apply Kd.S_alloc | apply Kd.S_drewN | apply Kd.S_drew));exact (Kd.S_mono (Kd.S_far (p := ⟨gb305,6,none⟩) (Kd.S_far (p := ⟨gb305,5,none⟩) (Kd.S_far (p := ⟨gb305,4,none⟩) (Kd.S_far (p := ⟨gb305,3,none⟩) (Kd.S_far (p := ⟨gb305,2,none⟩) (Kd.S_far (p := ⟨gb305,1,none⟩) (Kd.S_far (p := ⟨gb305,0,none⟩) (Kd.S_types HOQF24A56.out BK305.out (by decide)) (fun _ hk => hk.2) (.int .i64 t293)) (fun _ hk => hk.2) (.int .i64 t294)) (fun _ hk => hk.2) (.slice AoQN1025 t295.length coQN1026)) (fun _ hk => hk.2) (.slice AoQN1028 t298.length coQN1029)) (fun _ hk => hk.2) (.int .i64 t301)) (fun _ hk => hk.2) (.int .i64 t302)) (fun _ hk => hk.2) (.int .u64 t290)) (fun _ h_ => h_.1))) hb) <| haq (Kd.R_below (by (with_reducible repeat (first | apply Kd.R_alloc | apply Kd.R_drewN | apply Kd.R_drew));exact (Kd.R_mono (Kd.R_far (p := ⟨gb305,6,none⟩) (Kd.R_far (p := ⟨gb305,5,none⟩) (Kd.R_far (p := ⟨gb305,4,none⟩) (Kd.R_far (p := ⟨gb305,3,none⟩) (Kd.R_far (p := ⟨gb305,2,none⟩) (Kd.R_far (p := ⟨gb305,1,none⟩) (Kd.R_far (p := ⟨gb305,0,none⟩) (Kd.R_types HOQF24A57.out BK305.out (by decide)) (fun _ hk => hk.2) (.int .i64 t293)) (fun _ hk => hk.2) (.int .i64 t294)) (fun _ hk => hk.2) (.slice AoQN1025 t295.length coQN1026)) (fun _ hk => hk.2) (.slice AoQN1028 t298.length coQN1029)) (fun _ hk => hk.2) (.int .i64 t301)) (fun _ hk => hk.2) (.int .i64 t302)) (fun _ hk => hk.2) (.int .u64 t290)) (fun _ h_ => h_.1))) hb) <| haq (zx (g := gb286) (o := .cells #[.int .i64 0,.int .i64 0,.slice none 0 0,.slice none 0 0,.int .i64 0,.int .i64 0,.int .u64 0] 30 (0,0)) (hxq1 NBQN1210.out BK286.out) hb) <| haq (zx (g := gb304) (o := .cells #[.int .i64 t293,.int .i64 t294,.slice AoQN1025 t295.length coQN1026,.slice AoQN1028 t298.length coQN1029,.int .i64 t301,.int .i64 t302] 27 (0,0)) (hxq1 NBQN1212.out BK304.out) hb) <| haq (zx (g := gb305) (o := .cells #[.int .i64 t293,.int .i64 t294,.slice AoQN1025 t295.length coQN1026,.slice AoQN1028 t298.length coQN1029,.int .i64 t301,.int .i64 t302,.int .u64 t290] 30 (0,0)) (hxq0p BK305.out) hb) <| haq (zd hCq hb) <| trivial;clear HOQF24A56 HOQF24A57 BK286 BK304 BK305 HB;obtain ⟨HOQF24A56,HOQF24A57,BK286,BK304,BK305,HB,_⟩ := n_;(try clear hb);(try clear hb2);(try clear hk);(try clear hi);obtain ⟨hczQC14A107,hczQC14A108,hczQC14A109,hczQC14A1010,hczQC14A1011,hczQC14A1012,hczQC14A1013,hfzQC14A1014,hfzQC14A1015,hfzQC14A1016,hfzQC14A1017,hfzQC14A1018,hfzQC14A1019,hfzQC14A1020⟩ := hcq7 BK286.out)) | (have _ := EQ3;((with_reducible refine zy (N := 12) rfl ?_);refine zo ?hg (N := 12) ?hd (cs := #[.int .i64 0,.int .i64 0,.slice none 0 0,.slice none 0 0,.int .i64 0,.int .i64 0,.int .u64 0]) (t := 30) ?hr ?_;(case hd => rfl);(case hg => rfl);(case hr => first | (go_simp;done) | (go_simp;rfl));intro gb305 hg wQN122 hbox hb;have n_ := haq (Kd.S_below (by (with_reducible repeat (first | apply Kd.S_alloc | apply Kd.S_drewN | apply Kd.S_drew));exact (Kd.S_mono (Kd.S_far (p := ⟨gb304,5,none⟩) (Kd.S_far (p := ⟨gb304,4,none⟩) (Kd.S_far (p := ⟨gb304,3,none⟩) (Kd.S_far (p := ⟨gb304,2,none⟩) (Kd.S_far (p := ⟨gb304,1,none⟩) (Kd.S_far (p := ⟨gb304,0,none⟩) (Kd.S_types HOQF24A56.out BK304.out (by decide)) (fun _ hk => hk.2) (.int .i64 t293)) (fun _ hk => hk.2) (.int .i64 t294)) (fun _ hk => hk.2) (.slice AoQN1025 t295.length coQN1026)) (fun _ hk => hk.2) (.slice AoQN1028 t298.length coQN1029)) (fun _ hk => hk.2) (.int .i64 t301)) (fun _ hk => hk.2) (.int .i64 t302)) (fun _ h_ => h_.1))) hb) <| haq (Kd.R_below (by (with_reducible repeat (first | apply Kd.R_alloc | apply Kd.R_drewN | apply Kd.R_drew));exact (Kd.R_mono (Kd.R_far (p := ⟨gb304,5,none⟩) (Kd.R_far (p := ⟨gb304,4,none⟩) (Kd.R_far (p := ⟨gb304,3,none⟩) (Kd.R_far (p := ⟨gb304,2,none⟩) (Kd.R_far (p := ⟨gb304,1,none⟩) (Kd.R_far (p := ⟨gb304,0,none⟩) (Kd.R_types HOQF24A57.out BK304.out (by decide)) (fun _ hk => hk.2) (.int .i64 t293)) (fun _ hk => hk.2) (.int .i64 t294)) (fun _ hk => hk.2) (.slice AoQN1025 t295.length coQN1026)) (fun _ hk => hk.2) (.slice AoQN1028 t298.length coQN1029)) (fun _ hk => hk.2) (.int .i64 t301)) (fun _ hk => hk.2) (.int .i64 t302)) (fun _ h_ => h_.1))) hb) <| haq (zx (g := gb286) (o := .cells #[.int .i64 0,.int .i64 0,.slice none 0 0,.slice none 0 0,.int .i64 0,.int .i64 0,.int .u64 0] 30 (0,0)) (hxq1 NBQN109.out BK286.out) hb) <| haq (zx (g := gb304) (o := .cells #[.int .i64 t293,.int .i64 t294,.slice AoQN1025 t295.length coQN1026,.slice AoQN1028 t298.length coQN1029,.int .i64 t301,.int .i64 t302] 27 (0,0)) (hxq0p BK304.out) hb) <| haq (zd hCq hb) <| haq (hbox) <| haq ((by rw [hg];exact (ze hCq) : w.heap.size ≤ gb305)) <| haq ((by rw [hg];exact (ze hCq) : w.heap.size ≤ gb305)) <| haq ((by rw [hg];exact Nat.ne_of_lt (za6 (g := gb286) (o := .cells #[.int .i64 0,.int .i64 0,.slice none 0 0,.slice none 0 0,.int .i64 0,.int .i64 0,.int .u64 0] 30 (0,0)) (hxq1 NBQN109.out BK286.out)) : gb286 ≠ gb305)) <| haq ((by rw [hg];exact Nat.ne_of_gt (za6 (g := gb286) (o := .cells #[.int .i64 0,.int .i64 0,.slice none 0 0,.slice none 0 0,.int .i64 0,.int .i64 0,.int .u64 0] 30 (0,0)) (hxq1 NBQN109.out BK286.out)) : gb305 ≠ gb286)) <| haq ((by rw [hg];exact Nat.ne_of_lt (za6 (g := gb304) (o := .cells #[.int .i64 t293,.int .i64 t294,.slice AoQN1025 t295.length coQN1026,.slice AoQN1028 t298.length coQN1029,.int .i64 t301,.int .i64 t302] 27 (0,0)) (hxq0p BK304.out)) : gb304 ≠ gb305)) <| haq ((by rw [hg];exact Nat.ne_of_gt (za6 (g := gb304) (o := .cells #[.int .i64 t293,.int .i64 t294,.slice AoQN1025 t295.length coQN1026,.slice AoQN1028 t298.length coQN1029,.int .i64 t301,.int .i64 t302] 27 (0,0)) (hxq0p BK304.out)) : gb305 ≠ gb304)) <| trivial;clear HOQF24A56 HOQF24A57 BK286 BK304 HB;obtain ⟨HOQF24A56,HOQF24A57,BK286,BK304,HB,BK305,GW305,GE305,NBQN1210,NBQN1211,NBQN1212,NBQN1213,_⟩ := n_;clear hb hbox hg;have hnbQN1214 := NBQN1211.out;have hncQN1215 := NBQN1210.out;have hnbQN1216 := NBQN1213.out;have hncQN1217 := NBQN1212.out;obtain ⟨hczQN1218,hczQN1219,hczQN1220,hczQN1221,hczQN1222,hczQN1223,hczQN1224,hfzQN1225,hfzQN1226,hfzQN1227,hfzQN1228,hfzQN1229,hfzQN1230,hfzQN1231⟩ := hcq7 BK305.out;obtain ⟨hczQN1232,hczQN1233,hczQN1234,hczQN1235,hczQN1236,hczQN1237,hczQN1238,hfzQN1239,hfzQN1240,hfzQN1241,hfzQN1242,hfzQN1243,hfzQN1244,hfzQN1245⟩ := hcq7 BK286.out)))
  first | (have _ := EQ1;refine bodyPost_ret (zaq rfl _ _ gb286 30 #[.int .i64 t293,.int .i64 t294,.slice AoQN1025 t295.length coQN1026,.slice AoQN1028 t298.length coQN1029,.int .i64 t301,.int .i64 t302,.int .u64 t290] (0,0) _ rfl (hxq0p BK286.out) Tryz.underlying30 rfl (by kernel_rfl)) rfl ?_;exact ⟨_,_,hHq,by (with_reducible repeat (first | apply Kd.S_alloc | apply Kd.S_drewN | apply Kd.S_drew));exact Kd.S_mono (Kd.S_far (p := ⟨gb286,6,none⟩) (Kd.S_far (p := ⟨gb286,5,none⟩) (Kd.S_far (p := ⟨gb286,4,none⟩) (Kd.S_far (p := ⟨gb286,3,none⟩) (Kd.S_far (p := ⟨gb286,2,none⟩) (Kd.S_far (p := ⟨gb286,1,none⟩) (Kd.S_far (p := ⟨gb286,0,none⟩) (Kd.S_types HOQF24A56.out BK286.out (by decide)) (fun _ hk => hk.2) (.int .i64 t293)) (fun _ hk => hk.2) (.int .i64 t294)) (fun _ hk => hk.2) (.slice AoQN1025 t295.length coQN1026)) (fun _ hk => hk.2) (.slice AoQN1028 t298.length coQN1029)) (fun _ hk => hk.2) (.int .i64 t301)) (fun _ hk => hk.2) (.int .i64 t302)) (fun _ hk => hk.2) (.int .u64 t290)) (fun _ hk => hk.1),by (with_reducible repeat (first | apply Kd.R_alloc | apply Kd.R_drewN | apply Kd.R_drew));exact Kd.R_mono (Kd.R_far (p := ⟨gb286,6,none⟩) (Kd.R_far (p := ⟨gb286,5,none⟩) (Kd.R_far (p := ⟨gb286,4,none⟩) (Kd.R_far (p := ⟨gb286,3,none⟩) (Kd.R_far (p := ⟨gb286,2,none⟩) (Kd.R_far (p := ⟨gb286,1,none⟩) (Kd.R_far (p := ⟨gb286,0,none⟩) (Kd.R_types HOQF24A57.out BK286.out (by decide)) (fun _ hk => hk.2) (.int .i64 t293)) (fun _ hk => hk.2) (.int .i64 t294)) (fun _ hk => hk.2) (.slice AoQN1025 t295.length coQN1026)) (fun _ hk => hk.2) (.slice AoQN1028 t298.length coQN1029)) (fun _ hk => hk.2) (.int .i64 t301)) (fun _ hk => hk.2) (.int .i64 t302)) (fun _ hk => hk.2) (.int .u64 t290)) (fun _ hk => trivial),hCq⟩) | (have _ := EQ2;refine bodyPost_ret (zaq rfl _ _ gb286 30 #[.int .i64 0,.int .i64 0,.slice none 0 0,.slice none 0 0,.int .i64 0,.int .i64 0,.int .u64 0] (0,0) _ rfl (hxq0p BK286.out) Tryz.underlying30 rfl (by kernel_rfl)) rfl ?_;exact ⟨_,_,hHq,by first | exact Kd.S_nil _ _ _ _ _ | exact Kd.N_nil _ _ _ _ _ | exact Kd.V_nil _ _ _ _ _ | exact Kd.Q_nil _ _ _ _ _ | exact Kd.R_nil _ _ _ _ _,by first | exact Kd.R_nil _ _ _ _ _ | exact Kd.N_nil _ _ _ _ _ | exact Kd.V_nil _ _ _ _ _ | exact Kd.Q_nil _ _ _ _ _ | exact Kd.S_nil _ _ _ _ _,hCq⟩) | (have _ := EQ3;refine bodyPost_ret (zaq rfl _ _ gb286 30 #[.int .i64 0,.int .i64 0,.slice none 0 0,.slice none 0 0,.int .i64 0,.int .i64 0,.int .u64 0] (0,0) _ rfl (hxq1p NBQN1210.out BK286.out) Tryz.underlying30 rfl (by kernel_rfl)) rfl ?_;exact ⟨_,_,hHq,by first | exact Kd.S_nil _ _ _ _ _ | exact Kd.N_nil _ _ _ _ _ | exact Kd.V_nil _ _ _ _ _ | exact Kd.Q_nil _ _ _ _ _ | exact Kd.R_nil _ _ _ _ _,by first | exact Kd.R_nil _ _ _ _ _ | exact Kd.N_nil _ _ _ _ _ | exact Kd.V_nil _ _ _ _ _ | exact Kd.Q_nil _ _ _ _ _ | exact Kd.S_nil _ _ _ _ _,hCq⟩)
def zb2.f (a0 : Int) : Option (Bool) := if a0 ≥ 1 then (some (decide (a0 ≤ 64))) else (some false)
set_option maxHeartbeats 8000000 in
set_option maxRecDepth 100000 in
theorem zb2.calls (a0 : Int) (r : Bool) (w : World) (h : zb2.f a0 = some r) :
  Calls Tryz.prog 98 #[.int .i64 a0] w fun e w' => e = .returned (.bool r) ∧ zaB w w' := by
 have H : (if a0 ≥ 1 then (some (decide (a0 ≤ 64))) else (some false)) = some r := h
 clear h
 by_cases c2 : a0 ≥ 1
 ·rw [if_pos c2] at H
  have c2b0 : decide (1 ≤ a0) = true := decide_eq_true c2
  clear c2
  obtain rfl := Option.some.inj H
  go_enter Tryz.func98,Tryz.ntmps98
  go_wp2
  go_ret
  exact ⟨hDq,hEq⟩
 ·rw [if_neg c2] at H
  have c2b0 : decide (1 ≤ a0) = false := decide_eq_false c2
  clear c2
  obtain rfl := Option.some.inj H
  go_enter Tryz.func98,Tryz.ntmps98
  go_wp2
  go_ret
  exact ⟨hDq,hEq⟩
def zcH.f (a0 : Int) (a1 : Int) : Option (Int × Int) := (zb2.f a1).bind fun t187 => (if t187 = true then (if 0 ≤ (wrap64 (a1 - 1)) then (some (Go.bits .or .u64 a0 (shl .u64 1 (wrap64 (a1 - 1))),0)) else (none)) else (some (0,1)))
set_option maxHeartbeats 8000000 in
set_option maxRecDepth 100000 in
theorem zcH.calls (a0 : Int) (a1 : Int) (r1 : Int) (r2 : Int) (w : World) (h : zcH.f a0 a1 = some (r1,r2)) :
  Calls Tryz.prog 91 #[.int .u64 a0,.int .i64 a1] w fun e w' => e = .returned (.tuple #[.int .u64 r1,.int .i64 r2]) ∧ zaB w w' := by
 have H : ((zb2.f a1).bind fun t187 => (if t187 = true then (if 0 ≤ (wrap64 (a1 - 1)) then (some (Go.bits .or .u64 a0 (shl .u64 1 (wrap64 (a1 - 1))),0)) else (none)) else (some (0,1)))) = some (r1,r2) := h
 clear h
 replace H := Option.bind_eq_some_iff.mp H
 obtain ⟨t187,A30,H⟩ := H
 replace H : (if t187 = true then (if 0 ≤ (wrap64 (a1 - 1)) then (some (Go.bits .or .u64 a0 (shl .u64 1 (wrap64 (a1 - 1))),0)) else (none)) else (some (0,1))) = some (r1,r2) := H
 have A3 := za.mk A30
 clear A30
 by_cases c4 : t187 = true
 ·subst c4
  have H1 : (if 0 ≤ (wrap64 (a1 - 1)) then (some (Go.bits .or .u64 a0 (shl .u64 1 (wrap64 (a1 - 1))),0)) else (none)) = some (r1,r2) := by rw [if_pos rfl] at H;exact H
  clear H
  have H := H1
  clear H1
  obtain ⟨ji5,hji5⟩ : ∃ j_ : Int,(wrap64 (a1 - 1)) = j_ := ⟨_,rfl⟩
  replace H : (if 0 ≤ (ji5) then (some (Go.bits .or .u64 a0 (shl .u64 1 (ji5)),0)) else (none)) = some (r1,r2) := by first | (rw [hji5] at H;exact H) | (simp only [hji5] at H ⊢;exact H)
  (try rw [hji5] at A3)
  have hji5w : (IntKind.i64.wrap (a1 - 1)) = ji5 := (zK _).trans hji5
  by_cases c6 : 0 ≤ (ji5)
  ·rw [if_pos c6] at H
   have c6b0 := eq_true c6
   have c6b1 : decide (0 ≤ (ji5)) = true := decide_eq_true c6
   clear c6
   obtain ⟨ji7,hji7⟩ : ∃ j_ : Int,(shl .u64 1 (ji5)) = j_ := ⟨_,rfl⟩
   replace H : (some (Go.bits .or .u64 a0 (ji7),0)) = some (r1,r2) := by first | (rw [hji7] at H;exact H) | (simp only [hji7] at H ⊢;exact H)
   (try rw [hji7] at A3)
   have hji7_ : (IntKind.u64.wrap (1 * 2 ^ min (ji5).toNat 64)) = ji7 := hji7
   have hji7z : (ji5) ≤ 64 → (IntKind.u64.wrap (1 * 2 ^ (ji5).toNat)) = ji7 := zhz hji7
   have hji7u : (IntKind.u64.wrap (2 ^ min (ji5).toNat 64)) = ji7 := by have h_ := hji7_;rw [Int.one_mul] at h_;exact h_
   have hji7v : (ji5) ≤ 64 → (IntKind.u64.wrap (2 ^ (ji5).toNat)) = ji7 := fun hle_ => by have h_ := hji7z hle_;rw [Int.one_mul] at h_;exact h_
   simp only [Option.some.injEq,Prod.mk.injEq] at H
   obtain ⟨rfl,rfl⟩ := H
   go_enter Tryz.func91,Tryz.ntmps91
   go_wp2_with (first | ((with_reducible refine zj (f := 98) rfl ?_);refine zQ (some 7) rfl rfl Tryz.func98 (by kernel_rfl) rfl #[.int .i64 a1] rfl hMq ?_;(with_reducible refine (zb2.calls a1 true _ A3.out).mono ?_);rintro e w' ⟨rfl,⟨nd,rfl⟩⟩;refine ⟨_,rfl,?_⟩))
   go_ret2
   exact ⟨by first | rfl | (simp;done) | (simp only [← hji5,← hji7] <;> (first | rfl | simp)) | (simp [*];done),hEq⟩
  ·rw [if_neg c6] at H
   exact absurd H (by simp)
 ·replace c4 := Bool.eq_false_iff.mpr c4
  subst c4
  have H1 : (some (0,1)) = some (r1,r2) := by rw [if_neg (show ¬ (false = true) by decide)] at H;exact H
  clear H
  have H := H1
  clear H1
  simp only [Option.some.injEq,Prod.mk.injEq] at H
  obtain ⟨rfl,rfl⟩ := H
  go_enter Tryz.func91,Tryz.ntmps91
  go_wp2_with (first | ((with_reducible refine zj (f := 98) rfl ?_);refine zQ (some 7) rfl rfl Tryz.func98 (by kernel_rfl) rfl #[.int .i64 a1] rfl hMq ?_;(with_reducible refine (zb2.calls a1 false _ A3.out).mono ?_);rintro e w' ⟨rfl,⟨nd,rfl⟩⟩;refine ⟨_,rfl,?_⟩))
  go_ret2
  exact ⟨hDq,hEq⟩
end Go.Proofs.YtfhbeonhnhjikaaGreat.Px