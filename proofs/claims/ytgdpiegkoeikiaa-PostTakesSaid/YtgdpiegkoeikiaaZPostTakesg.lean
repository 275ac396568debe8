/- Part 33 of 35 of the proof of the law PostTakes: what is proved is the statement at the end of the last part; its conditions are those of the given row. -/
import Derived.Test.YtgdpiegkoeikiaaZPostTakesR
import Derived.Test.YtgdpiegkoeikiaaZPostTakesb
import Derived.Test.YtgdpiegkoeikiaaZPostTakesc
import Derived.Test.YtgdpiegkoeikiaaZPostTakesf
namespace Go.Proofs.Ytgdpiegkoeikiaa.Px
open Go.RowKit Go.Proofs.YtgdpiegkoeikiaaW.PrintWords Go.Proofs.YtgdpiegkoeikiaaW.PrintLast Go.Proofs.YtgdpiegkoeikiaaW.PrintMore
attribute [local go_sem] zF zH zQ zR zy zz zG zI
set_option linter.unusedVariables false
set_option linter.unusedSimpArgs false
def zbh.f (k : Nat) (a0 : ByteArray) : Option (Int × Int × Int × ByteArray × Int) := (z6.f a0).bind fun t355 => (if t355 = 121 then (if 1 ≤ (a0.size : Int) then ((zK.f k (a0.extract 1 a0.size)).bind fun bt356 => (if bt356.2.2 = true then ((zK.f k bt356.2.1).bind fun bt359 => (if bt359.2.2 = true then ((zK.f k bt359.2.1).bind fun bt362 => ((z4.f bt356.1 bt359.1 bt362.2.1).bind fun t365 => (if bt362.2.2 = true then (if t365 = true then (if bt362.1 < 1 then (some (0,0,0,(⟨#[]⟩ : ByteArray),3)) else (if bt362.1 > 64 then (some (0,0,0,(⟨#[]⟩ : ByteArray),3)) else (some (bt356.1,bt359.1,bt362.1,bt362.2.1,0)))) else (some (0,0,0,(⟨#[]⟩ : ByteArray),3))) else (some (0,0,0,(⟨#[]⟩ : ByteArray),3))))) else (some (0,0,0,(⟨#[]⟩ : ByteArray),3)))) else (some (0,0,0,(⟨#[]⟩ : ByteArray),3)))) else (none)) else (some (0,0,0,(⟨#[]⟩ : ByteArray),3)))
set_option maxHeartbeats 8000000 in
set_option maxRecDepth 100000 in
theorem zbh.calls (k : Nat) (a0 : ByteArray) (r1 : Int) (r2 : Int) (r3 : Int) (r4 : ByteArray) (r5 : Int) (w : World) (h : zbh.f k a0 = some (r1,r2,r3,r4,r5)) :
  Calls Try.prog 11 #[.string a0] w fun e w' => e = .returned (.tuple #[.agg #[.int .i64 r1,.int .i64 r2,.int .i64 r3,.string r4],.int .i64 r5]) ∧ Below w.heap.size w w' := by
 have hu42 := Try.underlying42
 have HB := zc.mk (Below.refl w.heap.size w)
 have H : ((z6.f a0).bind fun t355 => (if t355 = 121 then (if 1 ≤ (a0.size : Int) then ((zK.f k (a0.extract 1 a0.size)).bind fun bt356 => (if bt356.2.2 = true then ((zK.f k bt356.2.1).bind fun bt359 => (if bt359.2.2 = true then ((zK.f k bt359.2.1).bind fun bt362 => ((z4.f bt356.1 bt359.1 bt362.2.1).bind fun t365 => (if bt362.2.2 = true then (if t365 = true then (if bt362.1 < 1 then (some (0,0,0,(⟨#[]⟩ : ByteArray),3)) else (if bt362.1 > 64 then (some (0,0,0,(⟨#[]⟩ : ByteArray),3)) else (some (bt356.1,bt359.1,bt362.1,bt362.2.1,0)))) else (some (0,0,0,(⟨#[]⟩ : ByteArray),3))) else (some (0,0,0,(⟨#[]⟩ : ByteArray),3))))) else (some (0,0,0,(⟨#[]⟩ : ByteArray),3)))) else (some (0,0,0,(⟨#[]⟩ : ByteArray),3)))) else (none)) else (some (0,0,0,(⟨#[]⟩ : ByteArray),3)))) = some (r1,r2,r3,r4,r5) := h
 clear h
 replace H := Option.bind_eq_some_iff.mp H
 obtain ⟨t355,A20,H⟩ := H
 replace H : (if t355 = 121 then (if 1 ≤ (a0.size : Int) then ((zK.f k (a0.extract 1 a0.size)).bind fun bt356 => (if bt356.2.2 = true then ((zK.f k bt356.2.1).bind fun bt359 => (if bt359.2.2 = true then ((zK.f k bt359.2.1).bind fun bt362 => ((z4.f bt356.1 bt359.1 bt362.2.1).bind fun t365 => (if bt362.2.2 = true then (if t365 = true then (if bt362.1 < 1 then (some (0,0,0,(⟨#[]⟩ : ByteArray),3)) else (if bt362.1 > 64 then (some (0,0,0,(⟨#[]⟩ : ByteArray),3)) else (some (bt356.1,bt359.1,bt362.1,bt362.2.1,0)))) else (some (0,0,0,(⟨#[]⟩ : ByteArray),3))) else (some (0,0,0,(⟨#[]⟩ : ByteArray),3))))) else (some (0,0,0,(⟨#[]⟩ : ByteArray),3)))) else (some (0,0,0,(⟨#[]⟩ : ByteArray),3)))) else (none)) else (some (0,0,0,(⟨#[]⟩ : ByteArray),3))) = some (r1,r2,r3,r4,r5) := H
 have A2 := zc.mk A20
 clear A20
 by_cases c3 : t355 = 121
 focus
  rw [if_pos c3] at H
  have c3b0 : (t355 == 121) = true := beq_iff_eq.mpr c3
  have c3b1 : (t355 != 121) = false := bne_eq_false_iff_eq.mpr c3
  clear c3
  by_cases c4 : 1 ≤ (a0.size : Int)
  focus
   rw [if_pos c4] at H
   have c4b0 := eq_true c4
   have c4b1 : decide (1 ≤ (a0.size : Int)) = true := decide_eq_true c4
   clear c4
   replace H := Option.bind_eq_some_iff.mp H
   obtain ⟨⟨t356,t357,t358⟩,A50,H⟩ := H
   replace H : (if t358 = true then ((zK.f k t357).bind fun bt359 => (if bt359.2.2 = true then ((zK.f k bt359.2.1).bind fun bt362 => ((z4.f t356 bt359.1 bt362.2.1).bind fun t365 => (if bt362.2.2 = true then (if t365 = true then (if bt362.1 < 1 then (some (0,0,0,(⟨#[]⟩ : ByteArray),3)) else (if bt362.1 > 64 then (some (0,0,0,(⟨#[]⟩ : ByteArray),3)) else (some (t356,bt359.1,bt362.1,bt362.2.1,0)))) else (some (0,0,0,(⟨#[]⟩ : ByteArray),3))) else (some (0,0,0,(⟨#[]⟩ : ByteArray),3))))) else (some (0,0,0,(⟨#[]⟩ : ByteArray),3)))) else (some (0,0,0,(⟨#[]⟩ : ByteArray),3))) = some (r1,r2,r3,r4,r5) := H
   have A5 := zc.mk A50
   clear A50
   by_cases c6 : t358 = true
   focus
    subst c6
    have H1 : ((zK.f k t357).bind fun bt359 => (if bt359.2.2 = true then ((zK.f k bt359.2.1).bind fun bt362 => ((z4.f t356 bt359.1 bt362.2.1).bind fun t365 => (if bt362.2.2 = true then (if t365 = true then (if bt362.1 < 1 then (some (0,0,0,(⟨#[]⟩ : ByteArray),3)) else (if bt362.1 > 64 then (some (0,0,0,(⟨#[]⟩ : ByteArray),3)) else (some (t356,bt359.1,bt362.1,bt362.2.1,0)))) else (some (0,0,0,(⟨#[]⟩ : ByteArray),3))) else (some (0,0,0,(⟨#[]⟩ : ByteArray),3))))) else (some (0,0,0,(⟨#[]⟩ : ByteArray),3)))) = some (r1,r2,r3,r4,r5) := by rw [if_pos rfl] at H;exact H
    clear H
    have H := H1
    clear H1
    replace H := Option.bind_eq_some_iff.mp H
    obtain ⟨⟨t359,t360,t361⟩,A70,H⟩ := H
    replace H : (if t361 = true then ((zK.f k t360).bind fun bt362 => ((z4.f t356 t359 bt362.2.1).bind fun t365 => (if bt362.2.2 = true then (if t365 = true then (if bt362.1 < 1 then (some (0,0,0,(⟨#[]⟩ : ByteArray),3)) else (if bt362.1 > 64 then (some (0,0,0,(⟨#[]⟩ : ByteArray),3)) else (some (t356,t359,bt362.1,bt362.2.1,0)))) else (some (0,0,0,(⟨#[]⟩ : ByteArray),3))) else (some (0,0,0,(⟨#[]⟩ : ByteArray),3))))) else (some (0,0,0,(⟨#[]⟩ : ByteArray),3))) = some (r1,r2,r3,r4,r5) := H
    have A7 := zc.mk A70
    clear A70
    by_cases c8 : t361 = true
    focus
     subst c8
     have H1 : ((zK.f k t360).bind fun bt362 => ((z4.f t356 t359 bt362.2.1).bind fun t365 => (if bt362.2.2 = true then (if t365 = true then (if bt362.1 < 1 then (some (0,0,0,(⟨#[]⟩ : ByteArray),3)) else (if bt362.1 > 64 then (some (0,0,0,(⟨#[]⟩ : ByteArray),3)) else (some (t356,t359,bt362.1,bt362.2.1,0)))) else (some (0,0,0,(⟨#[]⟩ : ByteArray),3))) else (some (0,0,0,(⟨#[]⟩ : ByteArray),3))))) = some (r1,r2,r3,r4,r5) := by rw [if_pos rfl] at H;exact H
     clear H
     have H := H1
     clear H1
     replace H := Option.bind_eq_some_iff.mp H
     obtain ⟨⟨t362,t363,t364⟩,A90,H⟩ := H
     replace H : ((z4.f t356 t359 t363).bind fun t365 => (if t364 = true then (if t365 = true then (if t362 < 1 then (some (0,0,0,(⟨#[]⟩ : ByteArray),3)) else (if t362 > 64 then (some (0,0,0,(⟨#[]⟩ : ByteArray),3)) else (some (t356,t359,t362,t363,0)))) else (some (0,0,0,(⟨#[]⟩ : ByteArray),3))) else (some (0,0,0,(⟨#[]⟩ : ByteArray),3)))) = some (r1,r2,r3,r4,r5) := H
     have A9 := zc.mk A90
     clear A90
     replace H := Option.bind_eq_some_iff.mp H
     obtain ⟨t365,A100,H⟩ := H
     replace H : (if t364 = true then (if t365 = true then (if t362 < 1 then (some (0,0,0,(⟨#[]⟩ : ByteArray),3)) else (if t362 > 64 then (some (0,0,0,(⟨#[]⟩ : ByteArray),3)) else (some (t356,t359,t362,t363,0)))) else (some (0,0,0,(⟨#[]⟩ : ByteArray),3))) else (some (0,0,0,(⟨#[]⟩ : ByteArray),3))) = some (r1,r2,r3,r4,r5) := H
     have A10 := zc.mk A100
     clear A100
     by_cases c11 : t364 = true
     focus
      subst c11
      have H1 : (if t365 = true then (if t362 < 1 then (some (0,0,0,(⟨#[]⟩ : ByteArray),3)) else (if t362 > 64 then (some (0,0,0,(⟨#[]⟩ : ByteArray),3)) else (some (t356,t359,t362,t363,0)))) else (some (0,0,0,(⟨#[]⟩ : ByteArray),3))) = some (r1,r2,r3,r4,r5) := by rw [if_pos rfl] at H;exact H
      clear H
      have H := H1
      clear H1
      by_cases c12 : t365 = true
      focus
       subst c12
       have H1 : (if t362 < 1 then (some (0,0,0,(⟨#[]⟩ : ByteArray),3)) else (if t362 > 64 then (some (0,0,0,(⟨#[]⟩ : ByteArray),3)) else (some (t356,t359,t362,t363,0)))) = some (r1,r2,r3,r4,r5) := by rw [if_pos rfl] at H;exact H
       clear H
       have H := H1
       clear H1
       by_cases c13 : t362 < 1
       focus
        rw [if_pos c13] at H
        have c13b0 : decide (t362 < 1) = true := decide_eq_true c13
        clear c13
        simp only [Option.some.injEq,Prod.mk.injEq] at H
        obtain ⟨rfl,rfl,rfl,rfl,rfl⟩ := H
        have EQ0 := True.intro
        have EQ1 := True.intro
        have EQ2 := True.intro
        have EQ3 := True.intro
        have EQ4 := True.intro
        have EQ10 := True.intro
       rotate_left
       focus
        rw [if_neg c13] at H
        have c13b0 : decide (t362 < 1) = false := decide_eq_false c13
        clear c13
        by_cases c16 : t362 > 64
        focus
         rw [if_pos c16] at H
         have c16b0 : decide (64 < t362) = true := decide_eq_true c16
         clear c16
         simp only [Option.some.injEq,Prod.mk.injEq] at H
         obtain ⟨rfl,rfl,rfl,rfl,rfl⟩ := H
         have EQ0 := True.intro
         have EQ1 := True.intro
         have EQ2 := True.intro
         have EQ3 := True.intro
         have EQ4 := True.intro
         have EQ10 := True.intro
        rotate_left
        focus
         rw [if_neg c16] at H
         have c16b0 : decide (64 < t362) = false := decide_eq_false c16
         clear c16
         simp only [Option.some.injEq,Prod.mk.injEq] at H
         obtain ⟨rfl,rfl,rfl,rfl,rfl⟩ := H
         have EQ0 := True.intro
         have EQ1 := True.intro
         have EQ2 := True.intro
         have EQ3 := True.intro
         have EQ4 := True.intro
         have EQ11 := True.intro
      rotate_left 3
      focus
       replace c12 := Bool.eq_false_iff.mpr c12
       subst c12
       have H1 : (some (0,0,0,(⟨#[]⟩ : ByteArray),3)) = some (r1,r2,r3,r4,r5) := by rw [if_neg (show ¬ (false = true) by decide)] at H;exact H
       clear H
       have H := H1
       clear H1
       simp only [Option.some.injEq,Prod.mk.injEq] at H
       obtain ⟨rfl,rfl,rfl,rfl,rfl⟩ := H
       have EQ0 := True.intro
       have EQ1 := True.intro
       have EQ2 := True.intro
       have EQ3 := True.intro
       have EQ5 := True.intro
       have EQ10 := True.intro
     rotate_left 4
     focus
      replace c11 := Bool.eq_false_iff.mpr c11
      subst c11
      have H1 : (some (0,0,0,(⟨#[]⟩ : ByteArray),3)) = some (r1,r2,r3,r4,r5) := by rw [if_neg (show ¬ (false = true) by decide)] at H;exact H
      clear H
      have H := H1
      clear H1
      simp only [Option.some.injEq,Prod.mk.injEq] at H
      obtain ⟨rfl,rfl,rfl,rfl,rfl⟩ := H
      have EQ0 := True.intro
      have EQ1 := True.intro
      have EQ2 := True.intro
      have EQ6 := True.intro
      have EQ10 := True.intro
    rotate_left 5
    focus
     replace c8 := Bool.eq_false_iff.mpr c8
     subst c8
     have H1 : (some (0,0,0,(⟨#[]⟩ : ByteArray),3)) = some (r1,r2,r3,r4,r5) := by rw [if_neg (show ¬ (false = true) by decide)] at H;exact H
     clear H
     have H := H1
     clear H1
     simp only [Option.some.injEq,Prod.mk.injEq] at H
     obtain ⟨rfl,rfl,rfl,rfl,rfl⟩ := H
     have EQ0 := True.intro
     have EQ1 := True.intro
     have EQ7 := True.intro
     have EQ10 := True.intro
   rotate_left 6
   focus
    replace c6 := Bool.eq_false_iff.mpr c6
    subst c6
    have H1 : (some (0,0,0,(⟨#[]⟩ : ByteArray),3)) = some (r1,r2,r3,r4,r5) := by rw [if_neg (show ¬ (false = true) by decide)] at H;exact H
    clear H
    have H := H1
    clear H1
    simp only [Option.some.injEq,Prod.mk.injEq] at H
    obtain ⟨rfl,rfl,rfl,rfl,rfl⟩ := H
    have EQ0 := True.intro
    have EQ8 := True.intro
    have EQ10 := True.intro
  rotate_left 7
  ·rw [if_neg c4] at H
   exact absurd H (by simp)
 rotate_left 7
 focus
  rw [if_neg c3] at H
  have c3b0 : (t355 == 121) = false := beq_eq_false_iff_ne.mpr c3
  have c3b1 : (t355 != 121) = true := bne_iff_ne.mpr c3
  simp only [Option.some.injEq,Prod.mk.injEq] at H
  obtain ⟨rfl,rfl,rfl,rfl,rfl⟩ := H
  have EQ9 := True.intro
  have EQ10 := True.intro
 all_goals
  go_enter Try.func11,Try.ntmps11
  go_wp2_with (first | ((with_reducible refine zu (N := 2) rfl ?_);refine zr ?hg (N := 2) ?hd (cs := #[.int .i64 0,.int .i64 0,.int .i64 0,.string (⟨#[]⟩ : ByteArray)]) (t := 42) ?hr ?_;(case hd => rfl);(case hg => rfl);(case hr => first | (go_simp;done) | (go_simp;rfl));intro gb354 hg wQN22 hbox hb;have n0_ := zc.mk (zj hBq hb);have n1_ := zc.mk (hbox);have n2_ := zc.mk ((by rw [hg];exact (zl hBq) : w.heap.size ≤ gb354));have n3_ := zc.mk ((by rw [hg];exact (zl hBq) : w.heap.size ≤ gb354));clear HB;have HB := n0_;have BK354 := n1_;have GW354 := n2_;have GE354 := n3_;clear n0_ n1_ n2_ n3_;clear hb hbox hg) | (have _ := EQ0;((with_reducible refine zt (f := 27) rfl ?_);refine zU (some 15) rfl rfl Try.func27 (by kernel_rfl) rfl #[.string a0] rfl (by (try simp only [List.map_toArray,List.map_cons,List.map_nil]);first | done | rfl | (simp only [List.length_drop,List.length_take];rfl)) ?_;(with_reducible refine (z6.calls a0 t355 _ A2.out).mono ?_);rintro e w' ⟨rfl,⟨nd,rfl⟩⟩;refine ⟨_,rfl,?_⟩;(try (rw [zar wQN22];generalize hq_ : World.drewN wQN22 _ = wQN22;have n0_ : zc (wQN22.heap[gb354]? = some (.cells #[.int .i64 0,.int .i64 0,.int .i64 0,.string (⟨#[]⟩ : ByteArray)] 42 (0,0))) := ⟨by rw [← hq_];exact (hGq BK354.out)⟩;have n1_ : zc (Below w.heap.size w wQN22) := ⟨by rw [← hq_];exact hCq⟩;clear BK354 HB hq_;have BK354 := n0_;have HB := n1_;clear n0_ n1_)))) | (have _ := EQ1;((with_reducible refine zt (f := 37) rfl ?_);refine zU (some 21) rfl rfl Try.func37 (by kernel_rfl) rfl #[.string (a0.extract 1 a0.size)] rfl (by (try simp only [List.map_toArray,List.map_cons,List.map_nil]);first | done | rfl | (simp only [List.length_drop,List.length_take];rfl)) ?_;(with_reducible refine (zK.calls k (a0.extract 1 a0.size) t356 t357 true _ A5.out).mono ?_);rintro e w' ⟨rfl,⟨nd,rfl⟩⟩;refine ⟨_,rfl,?_⟩;(try (rw [zar wQN22];generalize hq_ : World.drewN wQN22 _ = wQN22;have n0_ : zc (wQN22.heap[gb354]? = some (.cells #[.int .i64 0,.int .i64 0,.int .i64 0,.string (⟨#[]⟩ : ByteArray)] 42 (0,0))) := ⟨by rw [← hq_];exact (hGq BK354.out)⟩;have n1_ : zc (Below w.heap.size w wQN22) := ⟨by rw [← hq_];exact hCq⟩;clear BK354 HB hq_;have BK354 := n0_;have HB := n1_;clear n0_ n1_)))) | (have _ := EQ2;((with_reducible refine zt (f := 37) rfl ?_);refine zU (some 30) rfl rfl Try.func37 (by kernel_rfl) rfl #[.string t357] rfl (by (try simp only [List.map_toArray,List.map_cons,List.map_nil]);first | done | rfl | (simp only [List.length_drop,List.length_take];rfl)) ?_;(with_reducible refine (zK.calls k t357 t359 t360 true _ A7.out).mono ?_);rintro e w' ⟨rfl,⟨nd,rfl⟩⟩;refine ⟨_,rfl,?_⟩;(try (rw [zar wQN22];generalize hq_ : World.drewN wQN22 _ = wQN22;have n0_ : zc (wQN22.heap[gb354]? = some (.cells #[.int .i64 0,.int .i64 0,.int .i64 0,.string (⟨#[]⟩ : ByteArray)] 42 (0,0))) := ⟨by rw [← hq_];exact (hGq BK354.out)⟩;have n1_ : zc (Below w.heap.size w wQN22) := ⟨by rw [← hq_];exact hCq⟩;clear BK354 HB hq_;have BK354 := n0_;have HB := n1_;clear n0_ n1_)))) | (have _ := EQ3;((with_reducible refine zt (f := 37) rfl ?_);refine zU (some 39) rfl rfl Try.func37 (by kernel_rfl) rfl #[.string t360] rfl (by (try simp only [List.map_toArray,List.map_cons,List.map_nil]);first | done | rfl | (simp only [List.length_drop,List.length_take];rfl)) ?_;(with_reducible refine (zK.calls k t360 t362 t363 true _ A9.out).mono ?_);rintro e w' ⟨rfl,⟨nd,rfl⟩⟩;refine ⟨_,rfl,?_⟩;(try (rw [zar wQN22];generalize hq_ : World.drewN wQN22 _ = wQN22;have n0_ : zc (wQN22.heap[gb354]? = some (.cells #[.int .i64 0,.int .i64 0,.int .i64 0,.string (⟨#[]⟩ : ByteArray)] 42 (0,0))) := ⟨by rw [← hq_];exact (hGq BK354.out)⟩;have n1_ : zc (Below w.heap.size w wQN22) := ⟨by rw [← hq_];exact hCq⟩;clear BK354 HB hq_;have BK354 := n0_;have HB := n1_;clear n0_ n1_)))) | (have _ := EQ4;((with_reducible refine zt (f := 38) rfl ?_);refine zU (some 46) rfl rfl Try.func38 (by kernel_rfl) rfl #[.int .i64 t356,.int .i64 t359,.string t363] rfl (by (try simp only [List.map_toArray,List.map_cons,List.map_nil]);first | done | rfl | (simp only [List.length_drop,List.length_take];rfl)) ?_;(with_reducible refine (z4.calls t356 t359 t363 true _ A10.out).mono ?_);rintro e w' ⟨rfl,⟨nd,rfl⟩⟩;refine ⟨_,rfl,?_⟩;(try (rw [zar wQN22];generalize hq_ : World.drewN wQN22 _ = wQN22;have n0_ : zc (wQN22.heap[gb354]? = some (.cells #[.int .i64 0,.int .i64 0,.int .i64 0,.string (⟨#[]⟩ : ByteArray)] 42 (0,0))) := ⟨by rw [← hq_];exact (hGq BK354.out)⟩;have n1_ : zc (Below w.heap.size w wQN22) := ⟨by rw [← hq_];exact hCq⟩;clear BK354 HB hq_;have BK354 := n0_;have HB := n1_;clear n0_ n1_));have hczQF38A102 : wQN22.cell? ⟨gb354,0,none⟩ = some (.int .i64 0) := (zb BK354.out 0).trans rfl;have hczQF38A103 : wQN22.cell? ⟨gb354,1,none⟩ = some (.int .i64 0) := (zb BK354.out 1).trans rfl;have hczQF38A104 : wQN22.cell? ⟨gb354,2,none⟩ = some (.int .i64 0) := (zb BK354.out 2).trans rfl;have hczQF38A105 : wQN22.cell? ⟨gb354,3,none⟩ = some (.string (⟨#[]⟩ : ByteArray)) := (zb BK354.out 3).trans rfl;have hfzQF38A106 := za BK354.out 0;have hfzQF38A107 := za BK354.out 1;have hfzQF38A108 := za BK354.out 2;have hfzQF38A109 := za BK354.out 3)) | (have _ := EQ5;((with_reducible refine zt (f := 38) rfl ?_);refine zU (some 46) rfl rfl Try.func38 (by kernel_rfl) rfl #[.int .i64 t356,.int .i64 t359,.string t363] rfl (by (try simp only [List.map_toArray,List.map_cons,List.map_nil]);first | done | rfl | (simp only [List.length_drop,List.length_take];rfl)) ?_;(with_reducible refine (z4.calls t356 t359 t363 false _ A10.out).mono ?_);rintro e w' ⟨rfl,⟨nd,rfl⟩⟩;refine ⟨_,rfl,?_⟩;(try (rw [zar wQN22];generalize hq_ : World.drewN wQN22 _ = wQN22;have n0_ : zc (wQN22.heap[gb354]? = some (.cells #[.int .i64 0,.int .i64 0,.int .i64 0,.string (⟨#[]⟩ : ByteArray)] 42 (0,0))) := ⟨by rw [← hq_];exact (hGq BK354.out)⟩;have n1_ : zc (Below w.heap.size w wQN22) := ⟨by rw [← hq_];exact hCq⟩;clear BK354 HB hq_;have BK354 := n0_;have HB := n1_;clear n0_ n1_));have hczQF38A102 : wQN22.cell? ⟨gb354,0,none⟩ = some (.int .i64 0) := (zb BK354.out 0).trans rfl;have hczQF38A103 : wQN22.cell? ⟨gb354,1,none⟩ = some (.int .i64 0) := (zb BK354.out 1).trans rfl;have hczQF38A104 : wQN22.cell? ⟨gb354,2,none⟩ = some (.int .i64 0) := (zb BK354.out 2).trans rfl;have hczQF38A105 : wQN22.cell? ⟨gb354,3,none⟩ = some (.string (⟨#[]⟩ : ByteArray)) := (zb BK354.out 3).trans rfl;have hfzQF38A106 := za BK354.out 0;have hfzQF38A107 := za BK354.out 1;have hfzQF38A108 := za BK354.out 2;have hfzQF38A109 := za BK354.out 3)) | (have _ := EQ6;((with_reducible refine zt (f := 37) rfl ?_);refine zU (some 39) rfl rfl Try.func37 (by kernel_rfl) rfl #[.string t360] rfl (by (try simp only [List.map_toArray,List.map_cons,List.map_nil]);first | done | rfl | (simp only [List.length_drop,List.length_take];rfl)) ?_;(with_reducible refine (zK.calls k t360 t362 t363 false _ A9.out).mono ?_);rintro e w' ⟨rfl,⟨nd,rfl⟩⟩;refine ⟨_,rfl,?_⟩;(try (rw [zar wQN22];generalize hq_ : World.drewN wQN22 _ = wQN22;have n0_ : zc (wQN22.heap[gb354]? = some (.cells #[.int .i64 0,.int .i64 0,.int .i64 0,.string (⟨#[]⟩ : ByteArray)] 42 (0,0))) := ⟨by rw [← hq_];exact (hGq BK354.out)⟩;have n1_ : zc (Below w.heap.size w wQN22) := ⟨by rw [← hq_];exact hCq⟩;clear BK354 HB hq_;have BK354 := n0_;have HB := n1_;clear n0_ n1_)))) | (have _ := EQ6;((with_reducible refine zt (f := 38) rfl ?_);refine zU (some 46) rfl rfl Try.func38 (by kernel_rfl) rfl #[.int .i64 t356,.int .i64 t359,.string t363] rfl (by (try simp only [List.map_toArray,List.map_cons,List.map_nil]);first | done | rfl | (simp only [List.length_drop,List.length_take];rfl)) ?_;(with_reducible refine (z4.calls t356 t359 t363 t365 _ A10.out).mono ?_);rintro e w' ⟨rfl,⟨nd,rfl⟩⟩;refine ⟨_,rfl,?_⟩;(try (rw [zar wQN22];generalize hq_ : World.drewN wQN22 _ = wQN22;have n0_ : zc (wQN22.heap[gb354]? = some (.cells #[.int .i64 0,.int .i64 0,.int .i64 0,.string (⟨#[]⟩ : ByteArray)] 42 (0,0))) := ⟨by rw [← hq_];exact (hGq BK354.out)⟩;have n1_ : zc (Below w.heap.size w wQN22) := ⟨by rw [← hq_];exact hCq⟩;clear BK354 HB hq_;have BK354 := n0_;have HB := n1_;clear n0_ n1_));have hczQF38A102 : wQN22.cell? ⟨gb354,0,none⟩ = some (.int .i64 0) := (zb BK354.out 0).trans rfl;have hczQF38A103 : wQN22.cell? ⟨gb354,1,none⟩ = some (.int .i64 0) := (zb BK354.out 1).trans rfl;have hczQF38A104 : wQN22.cell? ⟨gb354,2,none⟩ = some (.int .i64 0) := (zb BK354.out 2).trans rfl;have hczQF38A105 : wQN22.cell? ⟨gb354,3,none⟩ = some (.string (⟨#[]⟩ : ByteArray)) := (zb BK354.out 3).trans rfl;have hfzQF38A106 := za BK354.out 0;have hfzQF38A107 := za BK354.out 1;have hfzQF38A108 := za BK354.out 2;have hfzQF38A109 := za BK354.out 3)) | (have _ := EQ7;((with_reducible refine zt (f := 37) rfl ?_);refine zU (some 30) rfl rfl Try.func37 (by kernel_rfl) rfl #[.string t357] rfl (by (try simp only [List.map_toArray,List.map_cons,List.map_nil]);first | done | rfl | (simp only [List.length_drop,List.length_take];rfl)) ?_;(with_reducible refine (zK.calls k t357 t359 t360 false _ A7.out).mono ?_);rintro e w' ⟨rfl,⟨nd,rfl⟩⟩;refine ⟨_,rfl,?_⟩;(try (rw [zar wQN22];generalize hq_ : World.drewN wQN22 _ = wQN22;have n0_ : zc (wQN22.heap[gb354]? = some (.cells #[.int .i64 0,.int .i64 0,.int .i64 0,.string (⟨#[]⟩ : ByteArray)] 42 (0,0))) := ⟨by rw [← hq_];exact (hGq BK354.out)⟩;have n1_ : zc (Below w.heap.size w wQN22) := ⟨by rw [← hq_];exact hCq⟩;clear BK354 HB hq_;have BK354 := n0_;have HB := n1_;clear n0_ n1_));have hczQF37A72 : wQN22.cell? ⟨gb354,0,none⟩ = some (.int .i64 0) := (zb BK354.out 0).trans rfl;have hczQF37A73 : wQN22.cell? ⟨gb354,1,none⟩ = some (.int .i64 0) := (zb BK354.out 1).trans rfl;have hczQF37A74 : wQN22.cell? ⟨gb354,2,none⟩ = some (.int .i64 0) := (zb BK354.out 2).trans rfl;have hczQF37A75 : wQN22.cell? ⟨gb354,3,none⟩ = some (.string (⟨#[]⟩ : ByteArray)) := (zb BK354.out 3).trans rfl;have hfzQF37A76 := za BK354.out 0;have hfzQF37A77 := za BK354.out 1;have hfzQF37A78 := za BK354.out 2;have hfzQF37A79 := za BK354.out 3)) | (have _ := EQ8;((with_reducible refine zt (f := 37) rfl ?_);refine zU (some 21) rfl rfl Try.func37 (by kernel_rfl) rfl #[.string (a0.extract 1 a0.size)] rfl (by (try simp only [List.map_toArray,List.map_cons,List.map_nil]);first | done | rfl | (simp only [List.length_drop,List.length_take];rfl)) ?_;(with_reducible refine (zK.calls k (a0.extract 1 a0.size) t356 t357 false _ A5.out).mono ?_);rintro e w' ⟨rfl,⟨nd,rfl⟩⟩;refine ⟨_,rfl,?_⟩;(try (rw [zar wQN22];generalize hq_ : World.drewN wQN22 _ = wQN22;have n0_ : zc (wQN22.heap[gb354]? = some (.cells #[.int .i64 0,.int .i64 0,.int .i64 0,.string (⟨#[]⟩ : ByteArray)] 42 (0,0))) := ⟨by rw [← hq_];exact (hGq BK354.out)⟩;have n1_ : zc (Below w.heap.size w wQN22) := ⟨by rw [← hq_];exact hCq⟩;clear BK354 HB hq_;have BK354 := n0_;have HB := n1_;clear n0_ n1_));have hczQF37A52 : wQN22.cell? ⟨gb354,0,none⟩ = some (.int .i64 0) := (zb BK354.out 0).trans rfl;have hczQF37A53 : wQN22.cell? ⟨gb354,1,none⟩ = some (.int .i64 0) := (zb BK354.out 1).trans rfl;have hczQF37A54 : wQN22.cell? ⟨gb354,2,none⟩ = some (.int .i64 0) := (zb BK354.out 2).trans rfl;have hczQF37A55 : wQN22.cell? ⟨gb354,3,none⟩ = some (.string (⟨#[]⟩ : ByteArray)) := (zb BK354.out 3).trans rfl;have hfzQF37A56 := za BK354.out 0;have hfzQF37A57 := za BK354.out 1;have hfzQF37A58 := za BK354.out 2;have hfzQF37A59 := za BK354.out 3)) | (have _ := EQ9;((with_reducible refine zt (f := 27) rfl ?_);refine zU (some 15) rfl rfl Try.func27 (by kernel_rfl) rfl #[.string a0] rfl (by (try simp only [List.map_toArray,List.map_cons,List.map_nil]);first | done | rfl | (simp only [List.length_drop,List.length_take];rfl)) ?_;(with_reducible refine (z6.calls a0 t355 _ A2.out).mono ?_);rintro e w' ⟨rfl,⟨nd,rfl⟩⟩;refine ⟨_,rfl,?_⟩;(try (rw [zar wQN22];generalize hq_ : World.drewN wQN22 _ = wQN22;have n0_ : zc (wQN22.heap[gb354]? = some (.cells #[.int .i64 0,.int .i64 0,.int .i64 0,.string (⟨#[]⟩ : ByteArray)] 42 (0,0))) := ⟨by rw [← hq_];exact (hGq BK354.out)⟩;have n1_ : zc (Below w.heap.size w wQN22) := ⟨by rw [← hq_];exact hCq⟩;clear BK354 HB hq_;have BK354 := n0_;have HB := n1_;clear n0_ n1_));have hczQF27A22 : wQN22.cell? ⟨gb354,0,none⟩ = some (.int .i64 0) := (zb BK354.out 0).trans rfl;have hczQF27A23 : wQN22.cell? ⟨gb354,1,none⟩ = some (.int .i64 0) := (zb BK354.out 1).trans rfl;have hczQF27A24 : wQN22.cell? ⟨gb354,2,none⟩ = some (.int .i64 0) := (zb BK354.out 2).trans rfl;have hczQF27A25 : wQN22.cell? ⟨gb354,3,none⟩ = some (.string (⟨#[]⟩ : ByteArray)) := (zb BK354.out 3).trans rfl;have hfzQF27A26 := za BK354.out 0;have hfzQF27A27 := za BK354.out 1;have hfzQF27A28 := za BK354.out 2;have hfzQF27A29 := za BK354.out 3)))
  first | (have _ := EQ10;refine bodyPost_ret (z9 rfl _ _ gb354 42 #[.int .i64 0,.int .i64 0,.int .i64 0,.string (⟨#[]⟩ : ByteArray)] (0,0) _ rfl (by (with_reducible repeat (first | refine zd ?_ _ | refine zf ?_ | refine ze ?_ _));refine zi (cs := #[.int .i64 0,.int .i64 0,.int .i64 0,.string (⟨#[]⟩ : ByteArray)]) ?_ 3 _ rfl;(with_reducible repeat (first | refine zd ?_ _ | refine zf ?_ | refine ze ?_ _));refine zi (cs := #[.int .i64 0,.int .i64 0,.int .i64 0,.string (⟨#[]⟩ : ByteArray)]) ?_ 2 _ rfl;(with_reducible repeat (first | refine zd ?_ _ | refine zf ?_ | refine ze ?_ _));refine zi (cs := #[.int .i64 0,.int .i64 0,.int .i64 0,.string (⟨#[]⟩ : ByteArray)]) ?_ 1 _ rfl;(with_reducible repeat (first | refine zd ?_ _ | refine zf ?_ | refine ze ?_ _));refine zi (cs := #[.int .i64 0,.int .i64 0,.int .i64 0,.string (⟨#[]⟩ : ByteArray)]) ?_ 0 _ rfl;(with_reducible repeat (first | refine zd ?_ _ | refine zf ?_ | refine ze ?_ _));exact BK354.out) Try.underlying42 rfl (by kernel_rfl)) rfl ?_;exact ⟨hHq,hCq⟩) | (have _ := EQ11;refine bodyPost_ret (z9 rfl _ _ gb354 42 #[.int .i64 t356,.int .i64 t359,.int .i64 t362,.string t363] (0,0) _ rfl (by (with_reducible repeat (first | refine zd ?_ _ | refine zf ?_ | refine ze ?_ _));refine zi (cs := #[.int .i64 t356,.int .i64 t359,.int .i64 t362,.string (⟨#[]⟩ : ByteArray)]) ?_ 3 _ rfl;(with_reducible repeat (first | refine zd ?_ _ | refine zf ?_ | refine ze ?_ _));refine zi (cs := #[.int .i64 t356,.int .i64 t359,.int .i64 0,.string (⟨#[]⟩ : ByteArray)]) ?_ 2 _ rfl;(with_reducible repeat (first | refine zd ?_ _ | refine zf ?_ | refine ze ?_ _));refine zi (cs := #[.int .i64 t356,.int .i64 0,.int .i64 0,.string (⟨#[]⟩ : ByteArray)]) ?_ 1 _ rfl;(with_reducible repeat (first | refine zd ?_ _ | refine zf ?_ | refine ze ?_ _));refine zi (cs := #[.int .i64 0,.int .i64 0,.int .i64 0,.string (⟨#[]⟩ : ByteArray)]) ?_ 0 _ rfl;(with_reducible repeat (first | refine zd ?_ _ | refine zf ?_ | refine ze ?_ _));exact BK354.out) Try.underlying42 rfl (by kernel_rfl)) rfl ?_;exact ⟨hHq,hCq⟩)
def za8.f (a0 : ByteArray) : Option (ByteArray × Int) := (z6.f a0).bind fun t382 => (if t382 = 116 then (if 1 ≤ (a0.size : Int) then (some (a0.extract 1 a0.size,0)) else (none)) else (some ((⟨#[]⟩ : ByteArray),3)))
set_option maxHeartbeats 8000000 in
set_option maxRecDepth 100000 in
theorem za8.calls (a0 : ByteArray) (r1 : ByteArray) (r2 : Int) (w : World) (h : za8.f a0 = some (r1,r2)) :
  Calls Try.prog 15 #[.string a0] w fun e w' => e = .returned (.tuple #[.string r1,.int .i64 r2]) ∧ zax w w' := by
 have H : ((z6.f a0).bind fun t382 => (if t382 = 116 then (if 1 ≤ (a0.size : Int) then (some (a0.extract 1 a0.size,0)) else (none)) else (some ((⟨#[]⟩ : ByteArray),3)))) = some (r1,r2) := h
 clear h
 replace H := Option.bind_eq_some_iff.mp H
 obtain ⟨t382,A20,H⟩ := H
 replace H : (if t382 = 116 then (if 1 ≤ (a0.size : Int) then (some (a0.extract 1 a0.size,0)) else (none)) else (some ((⟨#[]⟩ : ByteArray),3))) = some (r1,r2) := H
 have A2 := zc.mk A20
 clear A20
 by_cases c3 : t382 = 116
 ·rw [if_pos c3] at H
  have c3b0 : (t382 == 116) = true := beq_iff_eq.mpr c3
  have c3b1 : (t382 != 116) = false := bne_eq_false_iff_eq.mpr c3
  clear c3
  by_cases c4 : 1 ≤ (a0.size : Int)
  ·rw [if_pos c4] at H
   have c4b0 := eq_true c4
   have c4b1 : decide (1 ≤ (a0.size : Int)) = true := decide_eq_true c4
   clear c4
   simp only [Option.some.injEq,Prod.mk.injEq] at H
   obtain ⟨rfl,rfl⟩ := H
   go_enter Try.func15,Try.ntmps15
   go_wp2_with (first | ((with_reducible refine zt (f := 27) rfl ?_);refine zU (some 5) rfl rfl Try.func27 (by kernel_rfl) rfl #[.string a0] rfl (by (try simp only [List.map_toArray,List.map_cons,List.map_nil]);first | done | rfl | (simp only [List.length_drop,List.length_take];rfl)) ?_;(with_reducible refine (z6.calls a0 t382 _ A2.out).mono ?_);rintro e w' ⟨rfl,⟨nd,rfl⟩⟩;refine ⟨_,rfl,?_⟩))
   go_ret2
   exact ⟨hDq,hEq⟩
  ·rw [if_neg c4] at H
   exact absurd H (by simp)
 ·rw [if_neg c3] at H
  have c3b0 : (t382 == 116) = false := beq_eq_false_iff_ne.mpr c3
  have c3b1 : (t382 != 116) = true := bne_iff_ne.mpr c3
  simp only [Option.some.injEq,Prod.mk.injEq] at H
  obtain ⟨rfl,rfl⟩ := H
  go_enter Try.func15,Try.ntmps15
  go_wp2_with (first | ((with_reducible refine zt (f := 27) rfl ?_);refine zU (some 5) rfl rfl Try.func27 (by kernel_rfl) rfl #[.string a0] rfl (by (try simp only [List.map_toArray,List.map_cons,List.map_nil]);first | done | rfl | (simp only [List.length_drop,List.length_take];rfl)) ?_;(with_reducible refine (z6.calls a0 t382 _ A2.out).mono ?_);rintro e w' ⟨rfl,⟨nd,rfl⟩⟩;refine ⟨_,rfl,?_⟩))
  go_ret2
  exact ⟨hDq,hEq⟩
theorem zdb {x : Int} (h0 : 0 ≤ x) (h1 : x < 9223372036854775808) : zaN.f (IntKind.u64.wrap x) = some (zep x.toNat) := by
 rw [zaY h0 (by omega),zaN.f,if_pos h0,if_pos (by omega)]
theorem zc4 (a r : Int) (d : ByteArray) : zbK a r d = true ↔ 1 ≤ a ∧ a ≤ 64 ∧ 1 ≤ r ∧ r ≤ 1048576 ∧ d.size = 32 := by
 unfold zbK;simp [and_assoc]
theorem zd5 (a : Int) : zcZ a = true ↔ 1 ≤ a ∧ a ≤ 64 := by
 unfold zcZ;simp
def zhO (a r v : Int) (d : ByteArray) : Bs := zbb a.toNat ++ (zbb r.toNat ++ (zbb v.toNat ++ ofB d))
def zh4 (a r v : Int) (d : ByteArray) : ByteArray × Int := if zbK a r d = true ∧ zcZ v = true then (toB (121 :: zhO a r v d),0) else ((⟨#[]⟩ : ByteArray),1)
theorem zhN (a r v : Nat) (d : ByteArray) : ((((⟨#[121]⟩ : ByteArray) ++ zep a) ++ zep r) ++ zep v) ++ d = toB (121 :: (zbb a ++ (zbb r ++ (zbb v ++ ofB d)))) := by
 apply zdp
 simp only [zeQ,zae,zep]
 show (([121] : Bs) ++ zbb a ++ zbb r ++ zbb v ++ ofB d) = _
 simp
theorem ze7 (c : UInt8) : (⟨#[c]⟩ : ByteArray).size = 1 := rfl
theorem zgf (a r v : Int) (d : ByteArray) : Ev (fun k => zay.f k a r v d) (zh4 a r v d) := by
 refine zad (zb8 _ _ _) ?_
 unfold zh4
 have bad : Ev (fun k => zay.j0 k true a r v d) ((⟨#[]⟩ : ByteArray),1) := Ev.step (fun k => by rw [zay.j0]) (zw rfl (Ev.now _))
 by_cases h : zbK a r d = true
 ·refine zw h (zad (zcD _) ?_)
  by_cases hv : zcZ v = true
  ·rw [if_pos ⟨h,hv⟩,hv]
   refine Ev.step (fun k => by rw [zay.j0]) ?_
   obtain ⟨h1,h2,h3,h4,h5⟩ := (zc4 _ _ _).1 h
   obtain ⟨h6,h7⟩ := (zd5 _).1 hv
   have s0 := zd1 (v := a.toNat) (by omega)
   have s1 := zd1 (v := r.toNat) (by omega)
   have s2 := zd1 (v := v.toNat) (by omega)
   refine zO (by simp) (zad (zdb (by omega) (by omega)) (zw (by omega) (zad (zdb (by omega) (by omega)) (zw (by rw [ByteArray.size_append,ze7];omega) (zad (zdb (by omega) (by omega)) (zw (by simp only [ByteArray.size_append,ze7];omega) (zw (by simp only [ByteArray.size_append,ze7];omega) ?_)))))))
   rw [zhN,← zhO]
   exact Ev.now _
  ·rw [if_neg (fun hh => hv hh.2)]
   rw [Bool.not_eq_true] at hv
   rw [hv];exact bad
 ·rw [if_neg (fun hh => h hh.1)]
  exact zO h bad
theorem zer (s : ByteArray) (hs : s.size < 4611686018427387904) : zbn.f s = some (zdk s) := by
 unfold zbn.f zaj.f
 rw [if_pos ⟨rfl,hs⟩]
 rfl
theorem zdF (s : ByteArray) (hs : s.size < 4611686018427387904) : zaU.f s = some (zcu s) := by
 unfold zaU.f zaa.f
 rw [if_pos ⟨rfl,hs⟩]
 rfl
theorem zdN (s : ByteArray) : zbk.f s = some ((((ofB s).head?.map (fun c => (c.toNat : Int))).getD 0)) := by
 unfold zbk.f
 rw [zaT]
 rcases hq : ofB s with _ | ⟨c,t⟩
 ·rfl
 ·have hz : s.size = t.length + 1 := by rw [← zah,hq];rfl
  rw [if_neg (by simp),if_pos (by omega)]
  have := zdZ s 0
  rw [hq] at this
  rw [show ((0 : Nat) : Int) = 0 from rfl] at this
  rw [this];rfl
def d32 : ByteArray := strOfNums (List.replicate 32 0)
theorem zfY : d32.size = 32 := by
 rw [d32,zdw,zV,List.length_map,List.length_replicate]
theorem zgC : Ev (fun k => zbe.f k) true := by
 unfold zbe.f
 refine zw (by omega) (zad rfl ?_)
 have hn : zbK 1 2 d32 = true := by rw [zc4];exact ⟨by omega,by omega,by omega,by omega,zfY⟩
 have hz : (strOfNums (List.replicate 32 0)).size = 32 := zfY
 refine Ev.bind (zgf 1 2 3 d32) (zw (by omega) ?_)
 have hs : zh4 1 2 3 d32 = (toB (121 :: zhO 1 2 3 d32),0) := if_pos ⟨hn,by decide⟩
 have b3 : be 3 = [3] := by rw [zc2 (by omega)];simp [zch]
 have e : (toB (121 :: zhO 1 2 3 d32)).toList = ((⟨#[121,1,1,1,2,1,3]⟩ : ByteArray) ++ strOfNums (List.replicate 32 0)).toList := by
  rw [zaT,zaT,zae,zeQ]
  show 121 :: (zbb 1 ++ (zbb 2 ++ (zbb 3 ++ ofB d32))) = _
  rw [zbb,zbb,zbb,zip,ziq,b3]
  rfl
 rw [hs]
 refine zw e (zw rfl (zad (zdN _) (zw rfl (zad (zdN _) (zao (Ev.now _) ?_)))))
 rw [zae];rfl
def zft (s : ByteArray) : Int := ((ofB s).head?.map (fun c => (c.toNat : Int))).getD 0
theorem zcH (s : ByteArray) : z6.f s = some (zft s) := by
 unfold z6.f zft
 have hz := zah s
 rcases hq : ofB s with _ | ⟨c,t⟩
 ·rw [hq] at hz
  rw [if_pos (by simp at hz;omega)];rfl
 ·rw [hq] at hz
  rw [List.length_cons] at hz
  rw [if_neg (by omega),if_pos (by omega)]
  have := zdZ s 0
  rw [hq] at this
  rw [show ((0 : Nat) : Int) = 0 from rfl] at this
  rw [this];rfl
theorem zdh (a r : Int) (d : ByteArray) : z4.f a r d = some (zbK a r d) := by
 unfold z4.f
 by_cases h : zbK a r d = true
 ·obtain ⟨h1,h2,h3,h4,h5⟩ := (zc4 _ _ _).1 h
  rw [if_pos h1,if_pos h2,if_pos h3,if_pos h4,h]
  congr 1
  rw [beq_iff_eq];omega
 ·rw [Bool.not_eq_true] at h
  have key : ¬ (1 ≤ a ∧ a ≤ 64 ∧ 1 ≤ r ∧ r ≤ 1048576 ∧ d.size = 32) := fun hh => by rw [(zc4 _ _ _).2 hh] at h;cases h
  rw [h]
  by_cases h1 : a ≥ 1
  ·rw [if_pos h1]
   by_cases h2 : a ≤ 64
   ·rw [if_pos h2]
    by_cases h3 : r ≥ 1
    ·rw [if_pos h3]
     by_cases h4 : r ≤ 1048576
     ·rw [if_pos h4]
      congr 1
      rw [beq_eq_false_iff_ne]
      intro he
      exact key ⟨h1,h2,h3,h4,by omega⟩
     ·rw [if_neg h4]
    ·rw [if_neg h3]
   ·rw [if_neg h2]
  ·rw [if_neg h1]
theorem zc0 (s : ByteArray) : (ofB s = [] ∧ zft s = 0) ∨ ∃ c t,ofB s = c :: t ∧ zft s = (c.toNat : Int) ∧ s.extract 1 s.size = toB t ∧ 1 ≤ (s.size : Int) ∧ (toB t).size < s.size := by
 have hz := zah s
 rcases hq : ofB s with _ | ⟨c,t⟩
 ·exact .inl ⟨rfl,by rw [zft,hq];rfl⟩
 ·rw [hq,List.length_cons] at hz
  refine .inr ⟨c,t,rfl,by rw [zft,hq];rfl,?_,by omega,by rw [zV];omega⟩
  apply zdp
  rw [zcp,hq,zae,List.drop_succ_cons,List.drop_zero,List.take_of_length_le (by omega)]
theorem zdK {c x : UInt8} (h : c ≠ x) : ¬ (c.toNat : Int) = (x.toNat : Int) := fun e => h (UInt8.toNat_inj.1 (by omega))
theorem zd4 (s : ByteArray) (n : Int) (hs : s.size < 4611686018427387904) : Ev (fun k => za1.f k s n) (zbW (ofB s) n) := by
 refine zad (zcH s) ?_
 rcases zc0 s with ⟨h1,h2⟩ | ⟨c,t,h1,h2,h3,h4,h5⟩
 ·rw [h2,h1];exact zO (by decide) (Ev.now _)
 ·rw [h2,h1,zbW]
  by_cases hc : c = 104
  ·subst hc
   rw [h3,if_pos rfl]
   have := zei (toB t) n (by omega)
   rw [zae,zgN] at this
   exact zw rfl (zw h4 (Ev.bind this (Ev.now _)))
  ·rw [if_neg hc];exact zO (zdK hc) (Ev.now _)
theorem zex (s : ByteArray) (n : Int) (hs : s.size < 4611686018427387904) : Ev (fun k => za7.f k s n) (zbT (ofB s) n) := by
 refine zad (zcH s) ?_
 rcases zc0 s with ⟨h1,h2⟩ | ⟨c,t,h1,h2,h3,h4,h5⟩
 ·rw [h2,h1];exact zO (by decide) (Ev.now _)
 ·rw [h2,h1,zbT]
  by_cases hc : c = 99
  ·subst hc
   rw [h3,if_pos rfl]
   have := ze1 (toB t) n (by omega)
   rw [zae] at this
   exact zw rfl (zw h4 (Ev.bind this (Ev.now _)))
  ·rw [if_neg hc];exact zO (zdK hc) (Ev.now _)
def zdH (s : Bs) : Int × ByteArray × Bool := match zas s with
 | some x => ((x.1 : Int),toB x.2,true)
 | none => (0,(⟨#[]⟩ : ByteArray),false)
theorem zcr (s : ByteArray) (hs : s.size < 4611686018427387904) : Ev (fun k => zK.f k s) (zdH (ofB s)) := by
 have t1 := za9 s hs
 simp only [zbd] at t1
 refine Ev.bind t1 ?_
 unfold zdH zas
 generalize zv (ofB s) = q at *
 obtain ⟨v,r,e⟩ := q
 simp only
 by_cases h1 : e = 0
 ·refine zw h1 ?_
  by_cases h2 : v ≤ 1048576
  ·have q : (if e = 0 ∧ v ≤ 1048576 then some (v,r) else none) = some (v,r) := if_pos ⟨h1,h2⟩
   rw [q,zag (by omega) (by omega)]
   exact zO (by omega) (Ev.now _)
  ·have q : (if e = 0 ∧ v ≤ 1048576 then some (v,r) else none) = none := if_neg (fun hh => h2 hh.2)
   rw [q]
   exact zw (by omega) (Ev.now _)
 ·have q : (if e = 0 ∧ v ≤ 1048576 then some (v,r) else none) = none := if_neg (fun hh => h1 hh.1)
  rw [q]
  exact zO h1 (Ev.now _)
theorem zfi (s : ByteArray) (hs : s.size < 4611686018427387904) : Ev (fun k => zbh.f k s) (zdk s) := by
 refine zad (zcH s) ?_
 unfold zdk
 rcases zc0 s with ⟨h1,h2⟩ | ⟨c,t,h1,h2,h3,h4,h5⟩
 ·rw [h2,h1];exact zO (by decide) (Ev.now _)
 ·rw [h2,h1]
  simp only
  by_cases hc : c = 121
  ·subst hc
   rw [h3,if_pos rfl]
   refine zw rfl (zw h4 (Ev.bind (zcr (toB t) (by omega)) ?_))
   rw [zae,zdH,zfT]
   have ht : t.length < 4611686018427387904 := by rw [zV] at h5;omega
   rcases q1 : zas t with _ | ⟨a,s1⟩
   ·exact zO (by simp) (Ev.now _)
   ·have l1 := zbs q1
    simp only [Option.bind_some]
    refine zw trivial (Ev.bind (zcr (toB s1) (by rw [zV];omega)) ?_)
    rw [zae,zdH]
    rcases q2 : zas s1 with _ | ⟨r,s2⟩
    ·exact zO (by simp) (Ev.now _)
    ·have l2 := zbs q2
     simp only [Option.bind_some]
     refine zw trivial (Ev.bind (zcr (toB s2) (by rw [zV];omega)) (zad (zdh _ _ _) ?_))
     rw [zae,zdH]
     rcases q3 : zas s2 with _ | ⟨v,s3⟩
     ·exact zO (by simp) (Ev.now _)
     ·simp only [Option.bind_some]
      refine zw trivial ?_
      by_cases h6 : zbK a r (toB s3) = true
      ·refine zw h6 ?_
       by_cases h7 : zcZ v = true
       ·obtain ⟨k1,k2⟩ := (zd5 _).1 h7
        have q : (if zbK a r (toB s3) = true ∧ zcZ v = true then some (a,r,v,s3) else none) = some (a,r,v,s3) := if_pos ⟨h6,h7⟩
        rw [q]
        exact zO (by omega) (zO (by omega) (Ev.now _))
       ·have q : (if zbK a r (toB s3) = true ∧ zcZ v = true then some (a,r,v,s3) else none) = none := if_neg (fun hh => h7 hh.2)
        rw [q]
        by_cases h8 : (v : Int) < 1
        ·exact zw h8 (Ev.now _)
        ·exact zO h8 (zw (by have h9 : ¬ (1 ≤ (v : Int) ∧ (v : Int) ≤ 64) := fun hh => h7 ((zd5 _).2 hh);omega) (Ev.now _))
      ·have q : (if zbK a r (toB s3) = true ∧ zcZ v = true then some (a,r,v,s3) else none) = none := if_neg (fun hh => h6 hh.1)
       rw [q]
       exact zO h6 (Ev.now _)
  ·rw [if_neg hc];exact zO (zdK hc) (Ev.now _)
theorem zd3 (s : ByteArray) (hs : s.size < 4611686018427387904) : Ev (fun k => za0.f k s) (zcu s) := by
 refine zad (zcH s) ?_
 unfold zcu
 rcases zc0 s with ⟨h1,h2⟩ | ⟨c,t,h1,h2,h3,h4,h5⟩
 ·rw [h2,h1];exact zO (by decide) (Ev.now _)
 ·rw [h2,h1]
  simp only
  by_cases hc : c = 118
  ·subst hc
   rw [h3,if_pos rfl]
   refine zw rfl (zw h4 (Ev.bind (zcr (toB t) (by omega)) ?_))
   rw [zae,zdH,zcB]
   have ht : t.length < 4611686018427387904 := by rw [zV] at h5;omega
   rcases q1 : zas t with _ | ⟨a,s1⟩
   ·exact zO (by simp) (Ev.now _)
   ·have l1 := zbs q1
    simp only [Option.bind_some]
    refine zw trivial (Ev.bind (zcr (toB s1) (by rw [zV];omega)) (zad (zdh _ _ _) ?_))
    rw [zae,zdH]
    rcases q2 : zas s1 with _ | ⟨r,s2⟩
    ·exact zO (by simp) (Ev.now _)
    ·simp only [Option.bind_some]
     refine zw trivial ?_
     by_cases h6 : zbK a r (toB s2) = true
     ·have q : (if zbK a r (toB s2) = true then some (a,r,s2) else none) = some (a,r,s2) := if_pos h6
      rw [q];exact zw h6 (Ev.now _)
     ·have q : (if zbK a r (toB s2) = true then some (a,r,s2) else none) = none := if_neg h6
      rw [q];exact zO h6 (Ev.now _)
  ·rw [if_neg hc];exact zO (zdK hc) (Ev.now _)
theorem zfQ (s : ByteArray) : za8.f s = some (zdY s) := by
 unfold za8.f zdY
 rw [zcH,Option.bind_some]
 rcases zc0 s with ⟨h1,h2⟩ | ⟨c,t,h1,h2,h3,h4,h5⟩
 ·rw [h2,h1];rfl
 ·rw [h2,h1]
  simp only
  by_cases hc : c = 116
  ·subst hc
   rw [if_pos rfl,if_pos (show ((116 : UInt8).toNat : Int) = 116 from rfl),if_pos h4,h3]
  ·rw [if_neg hc,if_neg (show ¬ (c.toNat : Int) = 116 from zdK hc)]
theorem zeV (s : ByteArray) : zbO.f s = some (zdY s) := by
 unfold zbO.f zaf.f
 rw [if_pos rfl];rfl
theorem zdG (s : ByteArray) (n : Int) (hs : s.size < 4611686018427387904) : zD.f s n = some (zbW (ofB s) n) := if_pos hs
theorem zdO (s : ByteArray) (n : Int) (hs : s.size < 4611686018427387904) : zM.f s n = some (zbT (ofB s) n) := if_pos hs
theorem zf6 (s : Bs) (n : Int) : (zbW s n).2.2.1.length < 4611686018427387904 ∧ (∀ b ∈ (zbW s n).2.2.1,b.f2.length < 4611686018427387904) ∧ (zbW s n).2.2.2.1.length < 4611686018427387904 := by
 have bad : (zcm).2.2.1.length < 4611686018427387904 ∧ (∀ b ∈ (zcm).2.2.1,b.f2.length < 4611686018427387904) ∧ (zcm).2.2.2.1.length < 4611686018427387904 := ⟨by decide,fun b hb => absurd hb (by simp [zcm]),by decide⟩
 unfold zbW
 rcases s with _ | ⟨c,t⟩
 ·exact bad
 ·simp only
  split
  ·exact zem t n
  ·exact bad
theorem zf5 (s : Bs) (n : Int) : (zbT s n).2.2.1.length < 4611686018427387904 ∧ (∀ b ∈ (zbT s n).2.2.1,b.f2.length < 4611686018427387904) ∧ (zbT s n).2.2.2.1.length < 4611686018427387904 := by
 have bad : (zcV).2.2.1.length < 4611686018427387904 ∧ (∀ b ∈ (zcV).2.2.1,b.f2.length < 4611686018427387904) ∧ (zcV).2.2.2.1.length < 4611686018427387904 := ⟨by decide,fun b hb => absurd hb (by simp [zcV]),by decide⟩
 unfold zbT
 rcases s with _ | ⟨c,t⟩
 ·exact bad
 ·simp only
  split
  ·rcases zgm t n with h | ⟨a,r,bs,ps,x,y,z,h,hm,_⟩
   ·rw [h];exact bad
   ·rw [h];exact zeO (zgt.1 hm).1
  ·exact bad
end Go.Proofs.Ytgdpiegkoeikiaa.Px