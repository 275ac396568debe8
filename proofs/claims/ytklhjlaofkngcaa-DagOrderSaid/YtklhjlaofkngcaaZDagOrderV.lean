/- Part 22 of 25 of the proof of the law DagOrder: what is proved is the statement at the end of the last part; its conditions are those of the given row. -/
import Derived.Test.YtklhjlaofkngcaaZDagOrderU
namespace Go.Proofs.Ytklhjlaofkngcaa.Px
open Go.RowKit Go.Proofs.YtklhjlaofkngcaaW.PrintWords Go.Proofs.YtklhjlaofkngcaaW.PrintLast Go.Proofs.YtklhjlaofkngcaaW.PrintMore
attribute [local go_sem] zx zz zE zF zr zt zy zA
set_option linter.unusedVariables false
set_option linter.unusedSimpArgs false
def zaF.f (k : Nat) (a0_0 : Int) (a0_1 : Int) (l0_2 : List (S36)) (a1_0 : Int) (a1_1 : Int) (l1_2 : List (S36)) : Option (Bool) := (zi.f k l0_2 l1_2).bind fun t342 => (if t342 = true then (if a0_0 = a1_0 then (some (a0_1 == a1_1)) else (some false)) else (some false))
set_option maxHeartbeats 8000000 in
set_option maxRecDepth 100000 in
theorem zaF.calls (k : Nat) (a0_0 : Int) (a0_1 : Int) (A0_2 : Option Addr) (c0_2 : Nat) (l0_2 : List (S36)) (a1_0 : Int) (a1_1 : Int) (A1_2 : Option Addr) (c1_2 : Nat) (l1_2 : List (S36)) (r : Bool) (w : World) (hr0_2 : Kd.C k36 w A0_2 l0_2.length l0_2) (hc0_2 : l0_2.length ≤ c0_2) (hr1_2 : Kd.C k36 w A1_2 l1_2.length l1_2) (hc1_2 : l1_2.length ≤ c1_2) (h : zaF.f k a0_0 a0_1 l0_2 a1_0 a1_1 l1_2 = some r) :
  Calls Try.prog 23 #[.agg #[.int .i64 a0_0,.int .i64 a0_1,.slice A0_2 l0_2.length c0_2],.agg #[.int .i64 a1_0,.int .i64 a1_1,.slice A1_2 l1_2.length c1_2]] w fun e w' => e = .returned (.bool r) ∧ Below w.heap.size w w' := by
 have hu24 := Try.underlying24
 have HR0_2 := zb.mk hr0_2
 have HC0_2 := zb.mk hc0_2
 clear hr0_2 hc0_2
 have HR1_2 := zb.mk hr1_2
 have HC1_2 := zb.mk hc1_2
 clear hr1_2 hc1_2
 have HB := zb.mk (Below.refl w.heap.size w)
 have H : ((zi.f k l0_2 l1_2).bind fun t342 => (if t342 = true then (if a0_0 = a1_0 then (some (a0_1 == a1_1)) else (some false)) else (some false))) = some r := h
 clear h
 replace H := Option.bind_eq_some_iff.mp H
 obtain ⟨t342,A30,H⟩ := H
 replace H : (if t342 = true then (if a0_0 = a1_0 then (some (a0_1 == a1_1)) else (some false)) else (some false)) = some r := H
 have A3 := zb.mk A30
 clear A30
 by_cases c4 : t342 = true
 focus
  subst c4
  have H1 : (if a0_0 = a1_0 then (some (a0_1 == a1_1)) else (some false)) = some r := by rw [if_pos rfl] at H;exact H
  clear H
  have H := H1
  clear H1
  by_cases c5 : a0_0 = a1_0
  focus
   rw [if_pos c5] at H
   have c5b0 : (a0_0 == a1_0) = true := beq_iff_eq.mpr c5
   have c5b1 : (a0_0 != a1_0) = false := bne_eq_false_iff_eq.mpr c5
   clear c5
   obtain rfl := Option.some.inj H
   have EQ0 := True.intro
  rotate_left
  focus
   rw [if_neg c5] at H
   have c5b0 : (a0_0 == a1_0) = false := beq_eq_false_iff_ne.mpr c5
   have c5b1 : (a0_0 != a1_0) = true := bne_iff_ne.mpr c5
   obtain rfl := Option.some.inj H
   have EQ0 := True.intro
 rotate_left 2
 focus
  replace c4 := Bool.eq_false_iff.mpr c4
  subst c4
  have H1 : (some false) = some r := by rw [if_neg (show ¬ (false = true) by decide)] at H;exact H
  clear H
  have H := H1
  clear H1
  obtain rfl := Option.some.inj H
  have EQ1 := True.intro
 all_goals
  go_enter Try.func23,Try.ntmps23
  go_wp2_with (first | ((with_reducible refine zC (N := 2) rfl ?_);refine zw ?hg (N := 2) ?hd (cs := #[.int .i64 a0_0,.int .i64 a0_1,.slice A0_2 l0_2.length c0_2]) (t := 24) ?hr ?_;(case hd => rfl);(case hg => rfl);(case hr => first | (go_simp;done) | (go_simp;rfl));intro gb340 hg wQN22 hbox hb;have n_ := haq (zh hBq hb) <| haq (hbox) <| haq ((by rw [hg];exact (zn hBq) : w.heap.size ≤ gb340)) <| haq ((by rw [hg];exact (zn hBq) : w.heap.size ≤ gb340)) <| trivial;clear HB;obtain ⟨HB,BK340,GW340,GE340,_⟩ := n_;clear hb hbox hg) | ((with_reducible refine zC (N := 3) rfl ?_);refine zw ?hg (N := 3) ?hd (cs := #[.int .i64 a1_0,.int .i64 a1_1,.slice A1_2 l1_2.length c1_2]) (t := 24) ?hr ?_;(case hd => rfl);(case hg => rfl);(case hr => first | (go_simp;done) | (go_simp;rfl));intro gb341 hg wQN32 hbox hb;have n_ := haq (hbq BK340.out hb) <| haq (zh hCq hb) <| haq (hbox) <| haq ((by rw [hg];exact (zn hCq) : w.heap.size ≤ gb341)) <| haq ((by rw [hg];exact (zn hCq) : w.heap.size ≤ gb341)) <| haq (hnq hg BK340.out) <| haq (hmq hg BK340.out) <| trivial;clear BK340 HB;obtain ⟨BK340,HB,BK341,GW341,GE341,NBQN37,NBQN38,_⟩ := n_;clear hb hbox hg;have hnbQN39 := NBQN37.out;have hncQN310 := NBQN38.out;obtain ⟨hczQN311,hczQN312,hczQN313,hfzQN314,hfzQN315,hfzQN316⟩ := hcq3 BK340.out;obtain ⟨hczQN317,hczQN318,hczQN319,hfzQN320,hfzQN321,hfzQN322⟩ := hcq3 BK341.out) | (have _ := EQ0;((with_reducible refine zN (f := 14) rfl ?_);refine zas (some 10) rfl rfl Try.func14 (by kernel_rfl) rfl #[.slice A0_2 l0_2.length c0_2,.slice A1_2 l1_2.length c1_2] rfl hMq ?_;(with_reducible refine (zi.calls k _ _ l0_2 _ _ l1_2 true _ ?side1 ?side2 ?side3 ?side4 A3.out).mono ?_);(case side1 => exact hKq (Kd.C_below HR0_2.out HB.out));(case side2 => exact HC0_2.out);(case side3 => exact hKq (Kd.C_below HR1_2.out HB.out));(case side4 => exact HC1_2.out);rintro e wQF14A31 ⟨rfl,hb⟩;refine ⟨_,rfl,?_⟩;have n_ := haq (hbq BK340.out hb) <| haq (hbq BK341.out hb) <| haq (zh hCq hb) <| trivial;clear BK340 BK341 HB;obtain ⟨BK340,BK341,HB,_⟩ := n_;(try clear hb);(try clear hb2);(try clear hk);(try clear hi);obtain ⟨hczQF14A34,hczQF14A35,hczQF14A36,hfzQF14A37,hfzQF14A38,hfzQF14A39⟩ := hcq3 BK340.out;obtain ⟨hczQF14A310,hczQF14A311,hczQF14A312,hfzQF14A313,hfzQF14A314,hfzQF14A315⟩ := hcq3 BK341.out)) | (have _ := EQ1;((with_reducible refine zN (f := 14) rfl ?_);refine zas (some 10) rfl rfl Try.func14 (by kernel_rfl) rfl #[.slice A0_2 l0_2.length c0_2,.slice A1_2 l1_2.length c1_2] rfl hMq ?_;(with_reducible refine (zi.calls k _ _ l0_2 _ _ l1_2 false _ ?side1 ?side2 ?side3 ?side4 A3.out).mono ?_);(case side1 => exact hKq (Kd.C_below HR0_2.out HB.out));(case side2 => exact HC0_2.out);(case side3 => exact hKq (Kd.C_below HR1_2.out HB.out));(case side4 => exact HC1_2.out);rintro e wQF14A31 ⟨rfl,hb⟩;refine ⟨_,rfl,?_⟩;have n_ := haq (hbq BK340.out hb) <| haq (hbq BK341.out hb) <| haq (zh hCq hb) <| trivial;clear BK340 BK341 HB;obtain ⟨BK340,BK341,HB,_⟩ := n_;(try clear hb);(try clear hb2);(try clear hk);(try clear hi))))
  go_ret
  exact ⟨hHq,hCq⟩
end Go.Proofs.Ytklhjlaofkngcaa.Px