/- Part 32 of 33 of the proof of the law DagRounds: what is proved is the statement at the end of the last part; its conditions are those of the given row. -/
import Derived.Test.YtklhjlaofkngcaaRows
import Derived.Deep.Slices
import Derived.ChangeArms
import Derived.SizedLaws
import Derived.WideOpen
import Derived.Test.YtklhjlaofkngcaaZDagRoundsa
import Derived.Test.YtklhjlaofkngcaaZDagRoundsb
import Derived.Test.YtklhjlaofkngcaaZDagRoundse
namespace Go.Proofs.Ytklhjlaofkngcaa.Px
open Go.RowKit Go.Proofs.YtklhjlaofkngcaaW.PrintWords Go.Proofs.YtklhjlaofkngcaaW.PrintLast Go.Proofs.YtklhjlaofkngcaaW.PrintMore
attribute [local go_sem] zG zI zM zN zB zC zH zJ
set_option linter.unusedVariables false
set_option linter.unusedSimpArgs false
mutual
def zl.j0 : Nat → Bool → Bool → Int → Int → List (S36) → Option (Bool)
 | 0,_,_,_,_,_ => none
 | k + 1,x3,x17,x363000,x363001,x363002 => if x17 = true then (some x3) else ((zj.f k x363000 x363001 x363002).bind fun t365 => (if t365 = true then (if (x363002.length : Int) > 0 then (if 0 ≤ (wrap64 ((x363002.length : Int) - 1)) then (if (wrap64 ((x363002.length : Int) - 1)) < (x363002.length : Int) then (zl.j1 k ([] : List (S36)) ((zd x363002 (wrap64 ((x363002.length : Int) - 1))).f1.f1) x363000 x363001 x363002) else (none)) else (none)) else (zl.j1 k ([] : List (S36)) x363001 x363000 x363001 x363002)) else (some true)))
def zl.j1 : Nat → List (S36) → Int → Int → Int → List (S36) → Option (Bool)
 | 0,_,_,_,_,_ => none
 | k + 1,x6,x7,x363000,x363001,x363002 => zl.l0 k x6 x7 (wrap64 (x363001 + 1)) x363000 x363001 x363002
def zl.l0 : Nat → List (S36) → Int → Int → Int → Int → List (S36) → Option (Bool)
 | 0,_,_,_,_,_,_ => none
 | k + 1,x6,x7,x8,x363000,x363001,x363002 => if x8 ≤ x7 then (if (wrap64 (x8 - x363001)) < 100 then ((zaL.f k x363000 x363001 x363002 x8).bind fun t367 => (if x6.length + t367.length < 1466015503701 then (zl.l0 k (x6 ++ t367) x7 (wrap64 (x8 + 1)) x363000 x363001 x363002) else (none))) else (if (wrap64 (x7 - x363001)) ≥ 100 then (some true) else ((zq.f k x6 x363002).bind fun t373 => (some t373)))) else (if (wrap64 (x7 - x363001)) ≥ 100 then (some true) else ((zq.f k x6 x363002).bind fun t374 => (some t374)))
end
def zl.f (k : Nat) (a0_0 : Int) (a0_1 : Int) (l0_2 : List (S36)) : Option (Bool) := (zaJ.f).bind fun t363 => ((za0.f a0_0 a0_1 l0_2).bind fun t364 => (if t363 = true then (zl.j0 k t363 (!t364) a0_0 a0_1 l0_2) else (zl.j0 k t363 true a0_0 a0_1 l0_2)))
set_option maxHeartbeats 8000000 in
set_option maxRecDepth 100000 in
theorem zl.calls (k : Nat) (a0_0 : Int) (a0_1 : Int) (A0_2 : Option Addr) (c0_2 : Nat) (l0_2 : List (S36)) (r : Bool) (w : World) (hr0_2 : Kd.C k36 w A0_2 l0_2.length l0_2) (hc0_2 : l0_2.length ≤ c0_2) (h : zl.f k a0_0 a0_1 l0_2 = some r) :
  Calls Try.prog 5 #[.agg #[.int .i64 a0_0,.int .i64 a0_1,.slice A0_2 l0_2.length c0_2]] w fun e w' => e = .returned (.bool r) ∧ Below w.heap.size w w' := by
 have hu24 := Try.underlying24
 have HR0_2 := za.mk hr0_2
 have HC0_2 := za.mk hc0_2
 clear hr0_2 hc0_2
 have HB := za.mk (Below.refl w.heap.size w)
 have H : ((zaJ.f).bind fun t363 => ((za0.f a0_0 a0_1 l0_2).bind fun t364 => (if t363 = true then (zl.j0 k t363 (!t364) a0_0 a0_1 l0_2) else (zl.j0 k t363 true a0_0 a0_1 l0_2)))) = some r := h
 clear h
 replace H := Option.bind_eq_some_iff.mp H
 obtain ⟨t363,A20,H⟩ := H
 replace H : ((za0.f a0_0 a0_1 l0_2).bind fun t364 => (if t363 = true then (zl.j0 k t363 (!t364) a0_0 a0_1 l0_2) else (zl.j0 k t363 true a0_0 a0_1 l0_2))) = some r := H
 have A2 := za.mk A20
 clear A20
 replace H := Option.bind_eq_some_iff.mp H
 obtain ⟨t364,A30,H⟩ := H
 replace H : (if t363 = true then (zl.j0 k t363 (!t364) a0_0 a0_1 l0_2) else (zl.j0 k t363 true a0_0 a0_1 l0_2)) = some r := H
 have A3 := za.mk A30
 clear A30
 have HC4 := za.mk H
 clear H
 go_enter Try.func5,Try.ntmps5
 go_upto_region 3 with (first | ((with_reducible refine zv (N := 1) rfl ?_);refine zr ?hg (N := 1) ?hd (cs := #[.int .i64 a0_0,.int .i64 a0_1,.slice A0_2 l0_2.length c0_2]) (t := 24) ?hr ?_;(case hd => rfl);(case hg => rfl);(case hr => first | (go_simp;done) | (go_simp;rfl));intro gb362 hg w5 hbox hb;have n_ := haq (ze hBq hb) <| haq (hbox) <| haq ((by rw [hg];exact (zh hBq) : w.heap.size ≤ gb362)) <| haq ((by rw [hg];exact (zh hBq) : w.heap.size ≤ gb362)) <| trivial;clear HB;obtain ⟨HB,BK362,GW362,GE362,_⟩ := n_;clear hb hbox hg) | ((with_reducible refine zS (f := 8) rfl ?_);refine zav (some 9) rfl rfl Try.func8 (by kernel_rfl) rfl #[] rfl hMq ?_;(with_reducible refine (zaJ.calls  t363 _ A2.out).mono ?_);rintro e w6 ⟨rfl,hb⟩;refine ⟨_,rfl,?_⟩;have n_ := haq (hbq BK362.out hb) <| haq (ze hCq hb) <| trivial;clear BK362 HB;obtain ⟨BK362,HB,_⟩ := n_;(try clear hb);(try clear hb2);(try clear hk);(try clear hi);obtain ⟨hcz7_0,hcz7_1,hcz7_2,hfz7_0,hfz7_1,hfz7_2⟩ := hcq3 BK362.out) | ((with_reducible refine zS (f := 9) rfl ?_);refine zav (some 11) rfl rfl Try.func9 (by kernel_rfl) rfl #[.agg #[.int .i64 a0_0,.int .i64 a0_1,.slice A0_2 l0_2.length c0_2]] rfl hMq ?_;(with_reducible refine (za0.calls a0_0 a0_1 _ _ l0_2 t364 _ ?side1 ?side2 A3.out).mono ?_);(case side1 => exact hKq (Kd.C_below HR0_2.out HB.out));(case side2 => exact HC0_2.out);rintro e w8 ⟨rfl,hb⟩;refine ⟨_,rfl,?_⟩;have n_ := haq (hbq BK362.out hb) <| haq (ze hCq hb) <| trivial;clear BK362 HB;obtain ⟨BK362,HB,_⟩ := n_;(try clear hb);(try clear hb2);(try clear hk);(try clear hi)))
 (try simp only [Act.put,List.setIfInBounds_toArray,List.set_cons_zero,List.set_cons_succ])
 go_cut [17] (fun v17 wc => ∃ (kq : Nat) (x17_3 : Bool),v17 = .bool x17_3 ∧ za (zl.j0 kq t363 x17_3 a0_0 a0_1 l0_2 = some r) ∧ za (kq ≤ k) ∧ za (wc.heap[gb362]? = some (.cells #[.int .i64 a0_0,.int .i64 a0_1,(.slice A0_2 l0_2.length c0_2)] 24 (0,0))) ∧ za (Below w.heap.size w wc))
 case first =>
  have H := HC4.out
  clear HC4
  by_cases c9 : t363 = true
  ·subst c9
   have H1 : (zl.j0 k true (!t364) a0_0 a0_1 l0_2) = some r := by rw [if_pos rfl] at H;exact H
   clear H
   have H := H1
   clear H1
   have H' := za.mk H
   clear H
   go_wp2
   go_meet
   case rel => exact ⟨_,(!t364),(hDq),H',⟨by first | omega | exact Nat.le_refl _⟩,⟨hGq BK362.out⟩,⟨by repeat (first | (with_reducible first | exact HB.out | apply zk | apply zi | apply zt | refine zm ?_ GE362.out) | exact HB.out)⟩⟩
  ·replace c9 := Bool.eq_false_iff.mpr c9
   subst c9
   have H1 : (zl.j0 k false true a0_0 a0_1 l0_2) = some r := by rw [if_neg (show ¬ (false = true) by decide)] at H;exact H
   clear H
   have H := H1
   clear H1
   have H' := za.mk H
   clear H
   go_wp2
   go_meet
   case rel => exact ⟨_,(true),(hDq),H',⟨by first | omega | exact Nat.le_refl _⟩,⟨hGq BK362.out⟩,⟨by repeat (first | (with_reducible first | exact HB.out | apply zk | apply zi | apply zt | refine zm ?_ GE362.out) | exact HB.out)⟩⟩
 case rest =>
  clear HC4
  try clear p2;try clear c5;try clear c8;try clear c9;try clear hcz7_0;try clear hcz7_1;try clear hcz7_2;try clear hfz7_0;try clear hfz7_1;try clear hfz7_2
  obtain ⟨kq,x17_3,rfl,HA,HJ3,BK362,HB⟩ := hcut
  cases kq with
  | zero => exact absurd HA.out (by simp [zl.j0])
  | succ kj3 =>
   have H := HA.out
   clear HA
   simp only [zl.j0] at H
   by_cases c10 : x17_3 = true
   ·subst c10
    have H1 : (some t363) = some r := by rw [if_pos rfl] at H;exact H
    clear H
    have H := H1
    clear H1
    obtain rfl := Option.some.inj H
    go_wp2
    go_ret
    exact ⟨hHq,hCq⟩
   ·replace c10 := Bool.eq_false_iff.mpr c10
    subst c10
    have H1 : ((zj.f kj3 a0_0 a0_1 l0_2).bind fun t365 => (if t365 = true then (if (l0_2.length : Int) > 0 then (if 0 ≤ (wrap64 ((l0_2.length : Int) - 1)) then (if (wrap64 ((l0_2.length : Int) - 1)) < (l0_2.length : Int) then (zl.j1 kj3 ([] : List (S36)) ((zd l0_2 (wrap64 ((l0_2.length : Int) - 1))).f1.f1) a0_0 a0_1 l0_2) else (none)) else (none)) else (zl.j1 kj3 ([] : List (S36)) a0_1 a0_0 a0_1 l0_2)) else (some true))) = some r := by rw [if_neg (show ¬ (false = true) by decide)] at H;exact H
    clear H
    have H := H1
    clear H1
    replace H := Option.bind_eq_some_iff.mp H
    obtain ⟨t365,A110,H⟩ := H
    replace H : (if t365 = true then (if (l0_2.length : Int) > 0 then (if 0 ≤ (wrap64 ((l0_2.length : Int) - 1)) then (if (wrap64 ((l0_2.length : Int) - 1)) < (l0_2.length : Int) then (zl.j1 kj3 ([] : List (S36)) ((zd l0_2 (wrap64 ((l0_2.length : Int) - 1))).f1.f1) a0_0 a0_1 l0_2) else (none)) else (none)) else (zl.j1 kj3 ([] : List (S36)) a0_1 a0_0 a0_1 l0_2)) else (some true)) = some r := H
    have A11 := za.mk A110
    clear A110
    by_cases c12 : t365 = true
    ·subst c12
     have H1 : (if (l0_2.length : Int) > 0 then (if 0 ≤ (wrap64 ((l0_2.length : Int) - 1)) then (if (wrap64 ((l0_2.length : Int) - 1)) < (l0_2.length : Int) then (zl.j1 kj3 ([] : List (S36)) ((zd l0_2 (wrap64 ((l0_2.length : Int) - 1))).f1.f1) a0_0 a0_1 l0_2) else (none)) else (none)) else (zl.j1 kj3 ([] : List (S36)) a0_1 a0_0 a0_1 l0_2)) = some r := by rw [if_pos rfl] at H;exact H
     clear H
     have H := H1
     clear H1
     have HC13 := za.mk H
     clear H
     obtain ⟨hcz14_0,hcz14_1,hcz14_2,hfz14_0,hfz14_1,hfz14_2⟩ := hcq3 BK362.out
     go_upto_if 28 with (first | ((with_reducible refine zS (f := 21) rfl ?_);refine zav (some 20) rfl rfl Try.func21 (by kernel_rfl) rfl #[.agg #[.int .i64 a0_0,.int .i64 a0_1,.slice A0_2 l0_2.length c0_2]] rfl hMq ?_;(with_reducible refine (zj.calls kj3 a0_0 a0_1 _ _ l0_2 true _ ?side1 ?side2 A11.out).mono ?_);(case side1 => exact hKq (Kd.C_below HR0_2.out HB.out));(case side2 => exact HC0_2.out);rintro e w15 ⟨rfl,hb⟩;refine ⟨_,rfl,?_⟩;have n_ := haq (hbq BK362.out hb) <| haq (ze hCq hb) <| trivial;clear BK362 HB;obtain ⟨BK362,HB,_⟩ := n_;(try clear hb);(try clear hb2);(try clear hk);(try clear hi);obtain ⟨hcz16_0,hcz16_1,hcz16_2,hfz16_0,hfz16_1,hfz16_2⟩ := hcq3 BK362.out))
     (try simp only [Act.put,List.setIfInBounds_toArray,List.set_cons_zero,List.set_cons_succ])
     go_cut [7] (fun v7 wc => ∃ (kq : Nat) (x7_12 : Int),v7 = .int .i64 x7_12 ∧ za (zl.j1 kq ([] : List (S36)) x7_12 a0_0 a0_1 l0_2 = some r) ∧ za (kq ≤ kj3) ∧ za (Kd.N k36 36 wc w.heap.size (fun k_ => k_ ≠ gb362) (.slice none 0 0) ([] : List (S36))) ∧ za (wc.heap[gb362]? = some (.cells #[.int .i64 a0_0,.int .i64 a0_1,(.slice A0_2 l0_2.length c0_2)] 24 (0,0))) ∧ za (Below w.heap.size w wc))
     case first =>
      have H := HC13.out
      clear HC13
      by_cases c17 : (l0_2.length : Int) > 0
      ·rw [if_pos c17] at H
       have c17b0 : decide (0 < (l0_2.length : Int)) = true := decide_eq_true c17
       have c17b1 : decide (0 < l0_2.length) = true := decide_eq_true (by omega)
       clear c17
       (first | rw [c17b0] | (simp only [zn,zp];rw [c17b0]) | rw [c17b1] | skip)
       obtain ⟨ji18,hji18⟩ : ∃ j_ : Int,(wrap64 ((l0_2.length : Int) - 1)) = j_ := ⟨_,rfl⟩
       replace H : (if 0 ≤ (ji18) then (if (ji18) < (l0_2.length : Int) then (zl.j1 kj3 ([] : List (S36)) ((zd l0_2 (ji18)).f1.f1) a0_0 a0_1 l0_2) else (none)) else (none)) = some r := by first | (rw [hji18] at H;exact H) | (simp only [hji18] at H ⊢;exact H)
       have hji18w : (IntKind.i64.wrap ((l0_2.length : Int) - 1)) = ji18 := (zn _).trans hji18
       by_cases c19 : 0 ≤ (ji18)
       ·rw [if_pos c19] at H
        have c19b0 : decide (0 ≤ (ji18)) = true := decide_eq_true c19
        clear c19
        by_cases c20 : (ji18) < (l0_2.length : Int)
        ·rw [if_pos c20] at H
         have c20b0 : decide ((ji18) < (l0_2.length : Int)) = true := decide_eq_true c20
         clear c20
         have H' := za.mk H
         clear H
         obtain ⟨hcz21_0,hcz21_1,hcz21_2,hfz21_0,hfz21_1,hfz21_2⟩ := hcq3 BK362.out
         have p366 : 0 ≤ ((ji18) : Int) := hFq
         have q366 : (ji18) < (l0_2.length : Int) := hFq
         obtain ⟨ad366,A366_3,c366_3,A366_4,c366_4,e366,hx366_0,hx366_1,hx366_2,hx366_3,hx366_4,hx366_5,hx366_6,hl366_3,hi366_3,hl366_4,hi366_4⟩ := zaW HR0_2.out (ji18) p366 q366
         cases e366
         replace hx366_0 := (HB.out.cell (World.block_lt_of_cell? w _ hx366_0)).trans hx366_0
         replace hx366_1 := (HB.out.cell (World.block_lt_of_cell? w _ hx366_1)).trans hx366_1
         replace hx366_2 := (HB.out.cell (World.block_lt_of_cell? w _ hx366_2)).trans hx366_2
         replace hx366_3 := (HB.out.cell (World.block_lt_of_cell? w _ hx366_3)).trans hx366_3
         replace hx366_4 := (HB.out.cell (World.block_lt_of_cell? w _ hx366_4)).trans hx366_4
         replace hx366_5 := (HB.out.cell (World.block_lt_of_cell? w _ hx366_5)).trans hx366_5
         replace hx366_6 := (HB.out.cell (World.block_lt_of_cell? w _ hx366_6)).trans hx366_6
         have HR366_3 := za.mk hi366_3
         have HC366_3 := za.mk hl366_3
         clear hi366_3 hl366_3
         have HR366_4 := za.mk hi366_4
         have HC366_4 := za.mk hl366_4
         clear hi366_4 hl366_4
         replace p366 := eq_true p366
         replace q366 := eq_true q366
         go_wp2
         go_meet
         case rel => exact ⟨_,((zd l0_2 (ji18)).f1.f1),(by first | rfl | (simp;done) | (simp only [← hji18] <;> (first | rfl | simp)) | (simp [*];done)),H',⟨by have := HJ3.out;first | omega | exact Nat.le_refl _⟩,⟨by first | exact Kd.R_nil _ _ _ _ _ | exact Kd.N_nil _ _ _ _ _ | exact Kd.V_nil _ _ _ _ _ | exact Kd.Q_nil _ _ _ _ _ | exact Kd.S_nil _ _ _ _ _⟩,⟨hGq BK362.out⟩,⟨by repeat (first | (with_reducible first | exact HB.out | apply zk | apply zi | apply zt | refine zm ?_ GE362.out) | exact HB.out)⟩⟩
        ·rw [if_neg c20] at H
         exact absurd H (by simp)
       ·rw [if_neg c19] at H
        exact absurd H (by simp)
      ·rw [if_neg c17] at H
       have c17b0 : decide (0 < (l0_2.length : Int)) = false := decide_eq_false c17
       have c17b1 : decide (0 < l0_2.length) = false := decide_eq_false (by omega)
       clear c17
       (first | rw [c17b0] | (simp only [zn,zp];rw [c17b0]) | rw [c17b1] | skip)
       have H' := za.mk H
       clear H
       go_wp2
       go_meet
       case rel => exact ⟨_,(a0_1),(hDq),H',⟨by have := HJ3.out;first | omega | exact Nat.le_refl _⟩,⟨by first | exact Kd.R_nil _ _ _ _ _ | exact Kd.N_nil _ _ _ _ _ | exact Kd.V_nil _ _ _ _ _ | exact Kd.Q_nil _ _ _ _ _ | exact Kd.S_nil _ _ _ _ _⟩,⟨hGq BK362.out⟩,⟨by repeat (first | (with_reducible first | exact HB.out | apply zk | apply zi | apply zt | refine zm ?_ GE362.out) | exact HB.out)⟩⟩
     case rest =>
      clear HC13
      try clear c1;try clear c2;try clear p2;try clear c3;try clear p3;try clear q3;try clear hx3;try clear c5;try clear p6;try clear c8;try clear c9;try clear c10;try clear c12;try clear c17;try clear c17b0;try clear c17b1;try clear c19;try clear c19b0;try clear c20;try clear c20b0;try clear c21;try clear hcz14_0;try clear hcz14_1;try clear hcz14_2;try clear hcz16_0;try clear hcz16_1;try clear hcz16_2;try clear hcz21_0;try clear hcz21_1;try clear hcz21_2;try clear hcz7_0;try clear hcz7_1;try clear hcz7_2;try clear hfz14_0;try clear hfz14_1;try clear hfz14_2;try clear hfz16_0;try clear hfz16_1;try clear hfz16_2;try clear hfz21_0;try clear hfz21_1;try clear hfz21_2;try clear hfz7_0;try clear hfz7_1;try clear hfz7_2;try clear hx366_0;try clear hx366_1;try clear hx366_2;try clear hx366_3;try clear hx366_4;try clear hx366_5;try clear hx366_6;try clear p2;try clear p366;try clear q366
      obtain ⟨kq,x7_12,rfl,HA,HJ12,HO_6,BK362,HB⟩ := hcut
      cases kq with
      | zero => exact absurd HA.out (by simp [zl.j1])
      | succ kj12 =>
       have H := HA.out
       clear HA
       simp only [zl.j1] at H
       have H' := za.mk H
       clear H
       obtain ⟨hcz22_0,hcz22_1,hcz22_2,hfz22_0,hfz22_1,hfz22_2⟩ := hcq3 BK362.out
       go_wp2
       go_loopg [6,8] kj12 (fun kq v6 v8 w' => ∃ (x6_3 : List (S36)) (x8_3 : Int),v8 = .int .i64 x8_3 ∧ za (zl.l0 kq x6_3 x7_12 x8_3 a0_0 a0_1 l0_2 = some r) ∧ za (kq ≤ kj12) ∧ za (Kd.N k36 36 w' w.heap.size (fun k_ => k_ ≠ gb362) v6 x6_3) ∧ za (w'.heap[gb362]? = some (.cells #[.int .i64 a0_0,.int .i64 a0_1,(.slice A0_2 l0_2.length c0_2)] 24 (0,0))) ∧ za (Below w.heap.size w w'))
       case atStart => exact ⟨(([] : List (S36))),(wrap64 (a0_1 + 1)),(hDq),H',⟨Nat.le_refl _⟩,⟨by (with_reducible repeat (first | apply Kd.N_alloc | apply Kd.N_drewN | apply Kd.N_drew));exact HO_6.out⟩,⟨hGq BK362.out⟩,⟨by repeat (first | (with_reducible first | exact HB.out | apply zk | apply zi | apply zt | refine zm ?_ GE362.out) | exact HB.out)⟩⟩
       case round =>
        clear H'
        try clear c1;try clear c2;try clear p2;try clear c3;try clear p3;try clear q3;try clear hx3;try clear c5;try clear p6;try clear c8;try clear c9;try clear c10;try clear c12;try clear c17;try clear c17b0;try clear c17b1;try clear c19;try clear c19b0;try clear c20;try clear c20b0;try clear c21;try clear hcz14_0;try clear hcz14_1;try clear hcz14_2;try clear hcz16_0;try clear hcz16_1;try clear hcz16_2;try clear hcz21_0;try clear hcz21_1;try clear hcz21_2;try clear hcz22_0;try clear hcz22_1;try clear hcz22_2;try clear hcz7_0;try clear hcz7_1;try clear hcz7_2;try clear hfz14_0;try clear hfz14_1;try clear hfz14_2;try clear hfz16_0;try clear hfz16_1;try clear hfz16_2;try clear hfz21_0;try clear hfz21_1;try clear hfz21_2;try clear hfz22_0;try clear hfz22_1;try clear hfz22_2;try clear hfz7_0;try clear hfz7_1;try clear hfz7_2;try clear hx366_0;try clear hx366_1;try clear hx366_2;try clear hx366_3;try clear hx366_4;try clear hx366_5;try clear hx366_6;try clear p2;try clear p3;try clear p366;try clear p6;try clear q3;try clear q366
        obtain ⟨x6_3,x8_3,rfl,HA,HK3,HO_6,BK362,HB⟩ := hrel
        cases gk with
        | zero => exact absurd HA.out (by simp [zl.l0])
        | succ k3 =>
         have H := HA.out
         clear HA
         simp only [zl.l0] at H
         by_cases c23 : x8_3 ≤ x7_12
         ·rw [if_pos c23] at H
          have c23b0 : decide (x8_3 ≤ x7_12) = true := decide_eq_true c23
          clear c23
          by_cases c24 : (wrap64 (x8_3 - a0_1)) < 100
          ·rw [if_pos c24] at H
           have c24b0 : decide ((wrap64 (x8_3 - a0_1)) < 100) = true := decide_eq_true c24
           clear c24
           replace H := Option.bind_eq_some_iff.mp H
           obtain ⟨t367,A250,H⟩ := H
           replace H : (if x6_3.length + t367.length < 1466015503701 then (zl.l0 k3 (x6_3 ++ t367) x7_12 (wrap64 (x8_3 + 1)) a0_0 a0_1 l0_2) else (none)) = some r := H
           have A25 := za.mk A250
           clear A250
           by_cases c26 : x6_3.length + t367.length < 1466015503701
           ·rw [if_pos c26] at H
            have LMc26 := za.mk c26
            clear c26
            obtain ⟨y370,hy370⟩ : ∃ y_ : List (S36),y_ = (x6_3 ++ t367) := ⟨_,rfl⟩
            replace H : (zl.l0 k3 y370 x7_12 (wrap64 (x8_3 + 1)) a0_0 a0_1 l0_2) = some r := by first | (rw [hy370];with_reducible exact H) | (have H2_ := (Option.bind_some _ _).symm.trans H;rw [hy370];with_reducible exact H2_) | (have H2_ := (Option.bind_some _ _).symm.trans H;with_reducible exact H2_) | with_reducible exact H | (rw [hy370];exact H) | exact H
            have Ny370 := za.mk hy370
            clear hy370
            have H' := za.mk H
            clear H
            obtain ⟨hcz27_0,hcz27_1,hcz27_2,hfz27_0,hfz27_1,hfz27_2⟩ := hcq3 BK362.out
            go_wp2_with (first | ((with_reducible refine zS (f := 15) rfl ?_);refine zav (some 57) rfl rfl Try.func15 (by kernel_rfl) rfl #[.agg #[.int .i64 a0_0,.int .i64 a0_1,.slice A0_2 l0_2.length c0_2],.int .i64 x8_3] rfl hMq ?_;(with_reducible refine (zaL.calls k3 a0_0 a0_1 (fun k_ => k_ < w.heap.size) _ _ l0_2 x8_3 t367 _ ?side1 A25.out).mono ?_);(case side1 => exact Kd.V_mk HC0_2.out (Kd.F_below (Kd.C_F zdy HR0_2.out) hCq));rintro e w28 ⟨v368,rfl,ho0,hb⟩;refine ⟨_,rfl,?_⟩;have n_ := haq (Kd.N_elder' (by (with_reducible repeat (first | apply Kd.N_alloc | apply Kd.N_drewN | apply Kd.N_drew));exact HO_6.out) (Kd.N_base ho0) hb) <| haq (Kd.N_lower (Kd.N_mono (ok' := fun k_ => some k_ ≠ (u6 : Value).ownBlock ∧ k_ ≠ gb362) ho0 (fun k_ hk_ => ⟨Or.elim hk_ (fun hs_ => fun e_ => Nat.not_le.2 hs_ (Kd.N_base HO_6.out k_ e_.symm)) (fun hn_ => (Kd.fresh' (Kd.N_lt (by (with_reducible repeat (first | apply Kd.N_alloc | apply Kd.N_drewN | apply Kd.N_drew));exact HO_6.out)) k_ hn_)),Or.elim hk_ (fun hs_ => fun e_ => Nat.not_le.2 hs_ (by rw [e_];exact GW362.out)) (fun hn_ => (Kd.freshB (g := gb362) (o := .cells #[.int .i64 a0_0,.int .i64 a0_1,.slice A0_2 l0_2.length c0_2] 24 (0,0)) (hGq BK362.out) k_ hn_))⟩)) (zh hCq)) <| haq (hbq BK362.out hb) <| haq (ze hCq hb) <| trivial;clear HO_6 BK362 HB;obtain ⟨HO_6,HO369,BK362,HB,_⟩ := n_;(try clear hb);(try clear hb2);(try clear hk);(try clear hi);(try clear ho0);obtain ⟨Ao30,co30,eo30⟩ := Kd.N_slice HO369.out;subst eo30) | ((with_reducible refine zbx (b := .append) (xs := #[.tmp 54,.tmp 57]) rfl ?_);at_builtin;refine Kd.N_append_rows k36 (w0 := w) w.heap.size rfl (.tmp 54) (.tmp 57) 22 36 (.agg #[(.string ⟨#[]⟩),(.int .i64 0),(.int .i64 0),(.slice none 0 0),(.slice none 0 0),(.int .i64 0),(.int .i64 0)]) 96 rfl Try.underlying22 zd6 rfl (by decide) (by omega) u6 x6_3 t367 _ _ _ (fun k_ => k_ ≠ gb362) (fun k_ => ((fun k_ => k_ ≠ gb362)) k_ ∧ some k_ ≠ (u6 : Value).ownBlock) rfl rfl ?aO ?aR (fun _ hk => hk) ?aF ?aB ?aS ?aL ?_;(case aR => exact (by skip;exact Kd.N_F (Kd.N_mono (ok' := (fun k_ => ((fun k_ => k_ ≠ gb362)) k_ ∧ some k_ ≠ (u6 : Value).ownBlock)) (HO369.out) (fun k_ hk => ⟨hk.2,hk.1⟩))));(case aB => exact hCq);(case aF => exact (fun k_ hk => Kd.freshB (g := gb362) (o := .cells #[.int .i64 a0_0,.int .i64 a0_1,.slice A0_2 l0_2.length c0_2] 24 (0,0)) (hGq BK362.out) k_ hk));(case aO => exact (by (with_reducible repeat (first | apply Kd.N_alloc | apply Kd.N_drewN | apply Kd.N_drew));exact Kd.N_mono HO_6.out (fun _ hk => hk.1)));(case aS => exact (zh hCq));(case aL => have := LMc26.out;omega);intro v371 w29 ho hb hg hat;rw [← Ny370.out] at ho;have n_ := haq (zaI (g := gb362) (o := .cells #[.int .i64 a0_0,.int .i64 a0_1,.slice A0_2 l0_2.length c0_2] 24 (0,0)) (hGq BK362.out) hg (Kd.N_ne HO_6.out BK362.out (by decide))) <| haq (Kd.N_afterv (ok := (fun k_ => k_ ≠ gb362)) (by (with_reducible repeat (first | apply Kd.N_alloc | apply Kd.N_drewN | apply Kd.N_drew));exact Kd.N_mono HO369.out (fun _ hk => ⟨hk.2,hk.1⟩)) hg hat) <| haq (hb) <| haq (ho) <| trivial;clear BK362 HO369 HB HO_6;obtain ⟨BK362,HO369,HB,HO372,_⟩ := n_;clear ho hb hg hat))
            go_roundg k3
            case measure => have := HJ3.out;have := HJ12.out;have := HK3.out;omega
            case rel => exact ⟨(y370),(wrap64 (x8_3 + 1)),(hDq),H',⟨by have := HJ3.out;have := HJ12.out;have := HK3.out;omega⟩,⟨by (with_reducible repeat (first | apply Kd.N_alloc | apply Kd.N_drewN | apply Kd.N_drew));exact HO372.out⟩,⟨hGq BK362.out⟩,⟨by repeat (first | (with_reducible first | exact HB.out | apply zk | apply zi | apply zt | refine zm ?_ GE362.out) | exact HB.out)⟩⟩
           ·rw [if_neg c26] at H
            exact absurd H (by simp)
          ·rw [if_neg c24] at H
           have c24b0 : decide ((wrap64 (x8_3 - a0_1)) < 100) = false := decide_eq_false c24
           clear c24
           by_cases c31 : (wrap64 (x7_12 - a0_1)) ≥ 100
           ·rw [if_pos c31] at H
            have c31b0 : decide (100 ≤ (wrap64 (x7_12 - a0_1))) = true := decide_eq_true c31
            clear c31
            obtain rfl := Option.some.inj H
            obtain ⟨hcz32_0,hcz32_1,hcz32_2,hfz32_0,hfz32_1,hfz32_2⟩ := hcq3 BK362.out
            go_wp2
            go_ret
            exact ⟨hHq,hCq⟩
           ·rw [if_neg c31] at H
            have c31b0 : decide (100 ≤ (wrap64 (x7_12 - a0_1))) = false := decide_eq_false c31
            clear c31
            replace H := Option.bind_eq_some_iff.mp H
            obtain ⟨t373,A330,H⟩ := H
            replace H : (some t373) = some r := H
            have A33 := za.mk A330
            clear A330
            obtain rfl := Option.some.inj H
            obtain ⟨hcz34_0,hcz34_1,hcz34_2,hfz34_0,hfz34_1,hfz34_2⟩ := hcq3 BK362.out
            obtain ⟨Ao35,co35,eo35⟩ := Kd.N_slice HO_6.out
            subst eo35
            go_wp2_with (first | (go_at_call 14;(with_reducible refine (zq.calls k3 _ _ x6_3 _ _ l0_2 t373 _ ?side1 ?side2 ?side3 ?side4 A33.out).mono ?_);(case side1 => repeat (first | exact (Kd.N_reads' HO_6.out).2.2 | (with_reducible refine Kd.C_alloc ?_ _) | (with_reducible refine Kd.C_drewN ?_ _) | (with_reducible refine Kd.C_drew ?_)));(case side2 => exact (Kd.N_reads' HO_6.out).2.1);(case side3 => exact hKq (Kd.C_below HR0_2.out HB.out));(case side4 => exact HC0_2.out);rintro e w36 ⟨rfl,hb⟩;have n_ := haq (Kd.N_below (by (with_reducible repeat (first | apply Kd.N_alloc | apply Kd.N_drewN | apply Kd.N_drew));exact HO_6.out) hb) <| haq (hbq BK362.out hb) <| haq (ze hCq hb) <| trivial;clear HO_6 BK362 HB;obtain ⟨HO_6,BK362,HB,_⟩ := n_;(try clear hb);(try clear hb2);(try clear hk);(try clear hi)))
            go_ret
            exact ⟨hHq,hCq⟩
         ·rw [if_neg c23] at H
          have c23b0 : decide (x8_3 ≤ x7_12) = false := decide_eq_false c23
          clear c23
          by_cases c37 : (wrap64 (x7_12 - a0_1)) ≥ 100
          ·rw [if_pos c37] at H
           have c37b0 : decide (100 ≤ (wrap64 (x7_12 - a0_1))) = true := decide_eq_true c37
           clear c37
           obtain rfl := Option.some.inj H
           obtain ⟨hcz38_0,hcz38_1,hcz38_2,hfz38_0,hfz38_1,hfz38_2⟩ := hcq3 BK362.out
           go_wp2
           go_ret
           exact ⟨hHq,hCq⟩
          ·rw [if_neg c37] at H
           have c37b0 : decide (100 ≤ (wrap64 (x7_12 - a0_1))) = false := decide_eq_false c37
           clear c37
           replace H := Option.bind_eq_some_iff.mp H
           obtain ⟨t374,A390,H⟩ := H
           replace H : (some t374) = some r := H
           have A39 := za.mk A390
           clear A390
           obtain rfl := Option.some.inj H
           obtain ⟨hcz40_0,hcz40_1,hcz40_2,hfz40_0,hfz40_1,hfz40_2⟩ := hcq3 BK362.out
           obtain ⟨Ao41,co41,eo41⟩ := Kd.N_slice HO_6.out
           subst eo41
           go_wp2_with (first | (go_at_call 14;(with_reducible refine (zq.calls k3 _ _ x6_3 _ _ l0_2 t374 _ ?side1 ?side2 ?side3 ?side4 A39.out).mono ?_);(case side1 => repeat (first | exact (Kd.N_reads' HO_6.out).2.2 | (with_reducible refine Kd.C_alloc ?_ _) | (with_reducible refine Kd.C_drewN ?_ _) | (with_reducible refine Kd.C_drew ?_)));(case side2 => exact (Kd.N_reads' HO_6.out).2.1);(case side3 => exact hKq (Kd.C_below HR0_2.out HB.out));(case side4 => exact HC0_2.out);rintro e w42 ⟨rfl,hb⟩;have n_ := haq (Kd.N_below (by (with_reducible repeat (first | apply Kd.N_alloc | apply Kd.N_drewN | apply Kd.N_drew));exact HO_6.out) hb) <| haq (hbq BK362.out hb) <| haq (ze hCq hb) <| trivial;clear HO_6 BK362 HB;obtain ⟨HO_6,BK362,HB,_⟩ := n_;(try clear hb);(try clear hb2);(try clear hk);(try clear hi)))
           go_ret
           exact ⟨hHq,hCq⟩
    ·replace c12 := Bool.eq_false_iff.mpr c12
     subst c12
     have H1 : (some true) = some r := by rw [if_neg (show ¬ (false = true) by decide)] at H;exact H
     clear H
     have H := H1
     clear H1
     obtain rfl := Option.some.inj H
     obtain ⟨hcz43_0,hcz43_1,hcz43_2,hfz43_0,hfz43_1,hfz43_2⟩ := hcq3 BK362.out
     go_wp2_with (first | ((with_reducible refine zS (f := 21) rfl ?_);refine zav (some 20) rfl rfl Try.func21 (by kernel_rfl) rfl #[.agg #[.int .i64 a0_0,.int .i64 a0_1,.slice A0_2 l0_2.length c0_2]] rfl hMq ?_;(with_reducible refine (zj.calls kj3 a0_0 a0_1 _ _ l0_2 false _ ?side1 ?side2 A11.out).mono ?_);(case side1 => exact hKq (Kd.C_below HR0_2.out HB.out));(case side2 => exact HC0_2.out);rintro e w44 ⟨rfl,hb⟩;refine ⟨_,rfl,?_⟩;have n_ := haq (hbq BK362.out hb) <| haq (ze hCq hb) <| trivial;clear BK362 HB;obtain ⟨BK362,HB,_⟩ := n_;(try clear hb);(try clear hb2);(try clear hk);(try clear hi)))
     go_ret
     exact ⟨hHq,hCq⟩
structure Rd (α : Type) where
 t : TypeId
 d : Kd α
 ok : α → Prop
 wt : α → Prop
 bk : α → Nat
structure zes {α : Type} (P : Program) (r : Rd α) : Prop where
 out : ∀ {H : Type} {enc : TypeId × Value → H} {w : World} {fuel : Nat} {cs : List Value} {x : DataW H × List MemPlace},DataW.trod enc P w 0 (fun _ => true) true fuel r.t cs = some x →
  ∃ a,r.d.K w a cs ∧ r.ok a ∧ ((∀ n ∈ x.1.weights P r.t,n ≤ reachBytes) → r.wt a) ∧ r.bk a ≤ Rows.uptoBulk x.1
def zaH (t : TypeId) (k : IntKind) : Rd Int := ⟨t,Kd.int k,fun a => (Lit.int k a).wf = true,fun _ => True,fun _ => 1⟩
def zar (t : TypeId) : Rd ByteArray := ⟨t,Kd.string,fun a => a.size ≤ maxLen,fun a => a.size ≤ reachBytes,fun a => a.size + 1⟩
def zad {α : Type} (t : TypeId) (B : Nat) (r : Rd α) : Rd (List α) :=
 ⟨t,Kd.slice r.t r.d,fun l => l.length ≤ maxLen ∧ ∀ a ∈ l,r.ok a,fun l => l.length * B ≤ reachBytes ∧ ∀ a ∈ l,r.wt a,fun l => (l.map r.bk).sum + 1⟩
section
variable {P : Program}
theorem zcP {t : TypeId} {k : IntKind} (h : P.underlying t = some (.int k)) : zes P (zaH t k) := by
 constructor
 intro H enc w fuel cs x hx
 obtain ⟨n,rfl,rfl,hw⟩ := DataW.trod_int h hx
 exact ⟨n,rfl,hw,fun _ => trivial,by simp [zaH,Rows.uptoBulk]⟩
theorem zd5 {t : TypeId} (h : P.underlying t = some .string) : zes P (zar t) := by
 constructor
 intro H enc w fuel cs x hx
 obtain ⟨s,rfl,rfl,hs⟩ := DataW.trod_string h hx
 have e : s.data.toList.length = s.size := by rw [Array.length_toList];rfl
 refine ⟨s,rfl,hs,fun hn => ?_,by simp only [zar,Rows.uptoBulk,e];exact Nat.le_refl _⟩
 have := hn s.data.toList.length (by simp [DataW.weights])
 rwa [e] at this
theorem zgY {H α : Type} (f : Nat → DataW H) (g : Nat → α) (bk : α → Nat) (n : Nat) (h : ∀ i,i < n → bk (g i) ≤ Rows.uptoBulk (f i)) : (((List.range n).map g).map bk).sum ≤ Rows.uptoBulkAll ((List.range n).map f) := by
 suffices k : ∀ l : List Nat,(∀ i ∈ l,i < n) → ((l.map g).map bk).sum ≤ Rows.uptoBulkAll (l.map f) from k _ (fun i hi => List.mem_range.1 hi)
 intro l
 induction l with
 | nil => intro _;simp
 | cons i l ih =>
  intro hl
  have h1 := h i (hl i List.mem_cons_self)
  have h2 := ih (fun j hj => hl j (List.mem_cons_of_mem _ hj))
  simp only [List.map_cons,List.sum_cons,Rows.uptoBulkAll]
  omega
theorem zdL {H : Type} {e : TypeId} : ∀ {l : List (DataW H)} {d : DataW H} {n : Nat},d ∈ l → n ∈ d.weights P e → n ∈ DataW.weightsAll P e l
 | x :: l,d,n,hd,hn => by
  simp only [DataW.weightsAll,List.mem_append]
  rcases List.mem_cons.1 hd with rfl | hd
  ·exact .inl hn
  ·exact .inr (zdL hd hn)
theorem zdN {α : Type} [Inhabited α] {r : Rd α} (hr : zes P r) {t : TypeId} {B : Nat} (h : P.underlying t = some (.slice r.t)) (hc : P.cellsOf r.t = r.d.sz) (hB : P.bytesOf r.t = B) : zes P (zad t B r) := by
 constructor
 intro H enc w fuel cs x hx
 rcases Deep.open_slice h hx with ⟨rfl,rfl⟩ | ⟨a,len,cap,m,n,D,Pl,rfl,_,hl,hm,hmm,rfl,hel⟩
 ·exact ⟨[],⟨none,0,rfl,Nat.le_refl _,Kd.C_nil _ _⟩,⟨Nat.zero_le _,by simp⟩,fun _ => ⟨by simp,by simp⟩,by simp [zad,Rows.uptoBulk]⟩
 ·simp only [if_true] at hmm
  subst hmm
  obtain ⟨f,hf⟩ := Deep.choose_lt (α := α) (n := len) (p := fun i v => ∃ c,w.cells? 0 (a.add (i * P.cellsOf r.t)) (P.cellsOf r.t) = some c ∧ r.d.K w v c ∧ r.ok v ∧ ((∀ q ∈ (D i).weights P r.t,q ≤ reachBytes) → r.wt v) ∧ r.bk v ≤ Rows.uptoBulk (D i)) (fun i hi => by
   obtain ⟨cs',h1,h2⟩ := hel i (by omega)
   obtain ⟨v,k1,k2,k3,k4⟩ := hr.out h2
   exact ⟨v,cs',h1,k1,k2,k3,k4⟩)
  have hlen : ((List.range len).map f).length = len := by simp
  refine ⟨(List.range len).map f,⟨some a,m,by rw [hlen],by rw [hlen];exact hl,?_⟩,⟨by rw [hlen];omega,?_⟩,fun hw => ⟨?_,?_⟩,?_⟩
  ·rw [hlen]
   refine ⟨hlen,by unfold maxLen at hm;omega,fun _ => ⟨a,rfl,fun j p hj => ?_⟩⟩
   have hjl : j < len := by
    have := (List.getElem?_eq_some_iff.1 hj).1
    simpa using this
   obtain ⟨c,c1,c2,_⟩ := hf j hjl
   have hp : f j = p := by simpa [List.getElem?_map,List.getElem?_range hjl] using hj
   obtain ⟨_,l2,l3⟩ := World.cells?_some c1
   refine ⟨c,by rw [l2,hc],hp ▸ c2,fun i u hu => ?_⟩
   have hi : i < P.cellsOf r.t := by rw [← l2];exact (List.getElem?_eq_some_iff.1 hu).1
   rw [← hc,← Deep.add_add,l3 i hi]
   exact hu
  ·intro v hv
   obtain ⟨i,hi,rfl⟩ := List.mem_map.1 hv
   obtain ⟨c,_,_,h3,_⟩ := hf i (List.mem_range.1 hi)
   exact h3
  ·have := hw ((((List.range len).map D).length + ((List.range (m - len)).map fun j => D (len + j)).length) * P.bytesOf r.t) (by show _ ∈ DataW.weights P t _;simp only [DataW.weights,h];exact List.mem_cons_self)
   rw [hlen]
   rw [hB] at this
   simp only [List.length_map,List.length_range] at this
   exact Nat.le_trans (Nat.mul_le_mul_right _ (by omega)) this
  ·intro v hv
   obtain ⟨i,hi,rfl⟩ := List.mem_map.1 hv
   obtain ⟨c,_,_,_,h4,_⟩ := hf i (List.mem_range.1 hi)
   refine h4 (fun q hq => hw q ?_)
   show _ ∈ DataW.weights P t _
   simp only [DataW.weights,h]
   exact List.mem_cons_of_mem _ (List.mem_append_left _ (zdL (List.mem_map.2 ⟨i,hi,rfl⟩) hq))
  ·simp only [zad,Rows.uptoBulk]
   have := zgY D f r.bk len (fun i hi => (hf i hi).choose_spec.2.2.2.2)
   omega
structure zdM {β : Type} (P : Program) (fs : List Field) (o : Nat) (d : Kd β) (ok wt : β → Prop) (bk : β → Nat) : Prop where
 out : ∀ {H : Type} {enc : TypeId × Value → H} {w : World} {n : Nat} {cs : List Value} {xs : List (DataW H × List MemPlace)},xs.length = fs.length → cs.length = o + d.sz →
  (∀ (i : Nat) (f : Field),fs[i]? = some f → DataW.trod enc P w 0 (fun _ => true) true n f.type ((cs.drop f.offset).take (P.cellsOf f.type)) = xs[i]?) →
  ∃ b,d.K w b (cs.drop o) ∧ ok b ∧ ((∀ q ∈ DataW.weightsEach P (fs.map (·.type)) (xs.map (·.1)),q ≤ reachBytes) → wt b) ∧ bk b ≤ Rows.uptoBulkAll (xs.map (·.1))
theorem zcH {α : Type} {r : Rd α} (hr : zes P r) {f : Field} (ht : f.type = r.t) {o : Nat} (ho : f.offset = o) (hc : P.cellsOf r.t = r.d.sz) : zdM P [f] o r.d r.ok r.wt r.bk := by
 constructor
 intro H enc w n cs xs hl hcs hx
 match xs,hl with
 | [x],_ =>
  have h := hx 0 f rfl
  rw [ho,ht,hc,List.take_of_length_le (by rw [List.length_drop];omega)] at h
  obtain ⟨a,h1,h2,h3,h4⟩ := hr.out h
  refine ⟨a,h1,h2,fun hq => h3 (fun q hm => hq q ?_),by simp [Rows.uptoBulkAll];omega⟩
  simp only [List.map_cons,List.map_nil,DataW.weightsEach,List.mem_append,ht]
  exact .inl hm
theorem zbh {α β : Type} {r : Rd α} (hr : zes P r) {f : Field} (ht : f.type = r.t) {fs : List Field} {o o' : Nat} (ho : f.offset = o) (hc : P.cellsOf r.t = r.d.sz) (ho' : o' = o + r.d.sz) {d : Kd β} {ok wt : β → Prop} {bk : β → Nat} (hfs : zdM P fs o' d ok wt bk) :
  zdM P (f :: fs) o (Kd.pair r.d d) (fun x => r.ok x.1 ∧ ok x.2) (fun x => r.wt x.1 ∧ wt x.2) (fun x => r.bk x.1 + bk x.2) := by
 constructor
 intro H enc w n cs xs hl hcs hx
 match xs,hl with
 | x :: xs,hl =>
  have h := hx 0 f rfl
  have hcs' : cs.length = o + (r.d.sz + d.sz) := hcs
  rw [ho,ht,hc] at h
  obtain ⟨a,h1,h2,h3,h4⟩ := hr.out h
  obtain ⟨b,k1,k2,k3,k4⟩ := hfs.out (enc := enc) (w := w) (n := n) (cs := cs) (xs := xs) (by simpa using hl) (by omega) (fun i g hg => hx (i + 1) g hg)
  refine ⟨(a,b),⟨(cs.drop o).take r.d.sz,cs.drop o',?_,h1,k1⟩,⟨h2,k2⟩,fun hq => ⟨h3 (fun q hm => hq q ?_),k3 (fun q hm => hq q ?_)⟩,?_⟩
  ·rw [ho',← List.drop_drop,List.take_append_drop]
  ·simp only [List.map_cons,DataW.weightsEach,List.mem_append,ht]
   exact .inl hm
  ·simp only [List.map_cons,DataW.weightsEach,List.mem_append]
   exact .inr hm
  ·simp only [List.map_cons,Rows.uptoBulkAll];omega
def zdd {α β : Type} (t : TypeId) (d : Kd β) (f : α → β) (ok wt : β → Prop) (bk : β → Nat) : Rd α := ⟨t,Kd.iso d f,fun a => ok (f a),fun a => wt (f a),fun a => bk (f a) + 1⟩
theorem zcI {α β : Type} {t : TypeId} {fs : List Field} {d : Kd β} {ok wt : β → Prop} {bk : β → Nat} (hfs : zdM P fs 0 d ok wt bk) (h : P.underlying t = some (.struct fs.toArray)) (hc : P.cellsOf t = d.sz) (f : α → β) (g : β → α) (hfg : ∀ b,f (g b) = b) : zes P (zdd t d f ok wt bk) := by
 constructor
 intro H enc w fuel cs x hx
 obtain ⟨xs,n,rfl,rfl,hl,hn,hf⟩ := DataW.trod_struct h hx
 obtain ⟨b,k1,k2,k3,k4⟩ := hfs.out (enc := enc) (w := w) (n := n) (cs := cs) (xs := xs) (by simpa using hn) (by omega) (fun i g hg => hf i g (by simpa using hg))
 refine ⟨g b,?_,?_,fun hq => ?_,?_⟩
 ·show d.K w (f (g b)) cs
  rw [hfg]
  exact k1
 ·show ok (f (g b))
  rw [hfg]
  exact k2
 ·show wt (f (g b))
  rw [hfg]
  refine k3 (fun q hm => hq q ?_)
  show _ ∈ DataW.weights P t _
  simp only [DataW.weights,h]
  exact hm
 ·show bk (f (g b)) + 1 ≤ _
  rw [hfg]
  simp only [Rows.uptoBulk]
  omega
end
theorem fit_arg {α H : Type} {P : Program} {r : Rd α} (hr : zes P r) {enc : TypeId × Value → H} {w : World} {v : Value} {d : DataW H} {ps : List MemPlace} (h : DataW.Trod enc P w 0 (fun _ => true) true r.t v d ps) :
  ∃ a,r.d.K w a v.cells.toList ∧ r.ok a ∧ ((∀ n ∈ d.weights P r.t,n ≤ reachBytes) → r.wt a) ∧ r.bk a ≤ Rows.uptoBulk d := by
 obtain ⟨fuel,hf⟩ := h
 exact hr.out hf
end Go.Proofs.Ytklhjlaofkngcaa.Px
namespace Go.Proofs.Ytklhjlaofkngcaa.Px
open Go.RowKit Go.Proofs.Ytklhjlaofkngcaa.Px Go.Proofs.YtklhjlaofkngcaaW.PrintWords Go.Proofs.YtklhjlaofkngcaaW.PrintLast Go.Proofs.YtklhjlaofkngcaaW.PrintMore
set_option linter.unusedVariables false
instance : Inhabited S72 := ⟨z72⟩
def zfF : Rd S72 := zdd 72 (Kd.pair (zaH 3 .i64).d (Kd.pair (zaH 3 .i64).d (zad 26 16 (zar 9)).d)) (fun x : S72 => (x.f0,x.f1,x.f2)) (fun y => (zaH 3 .i64).ok y.1 ∧ ((zaH 3 .i64).ok y.2.1 ∧ ((zad 26 16 (zar 9)).ok y.2.2))) (fun y => (zaH 3 .i64).wt y.1 ∧ ((zaH 3 .i64).wt y.2.1 ∧ ((zad 26 16 (zar 9)).wt y.2.2))) (fun y => (zaH 3 .i64).bk y.1 + ((zaH 3 .i64).bk y.2.1 + ((zad 26 16 (zar 9)).bk y.2.2)))
theorem fit72 : zes Try.prog zfF :=
 zcI (zbh (o := 0) (o' := 1) (ok := fun (y : Int × (List ByteArray)) => (zaH 3 .i64).ok y.1 ∧ ((zad 26 16 (zar 9)).ok y.2)) (wt := fun (y : Int × (List ByteArray)) => (zaH 3 .i64).wt y.1 ∧ ((zad 26 16 (zar 9)).wt y.2)) (bk := fun (y : Int × (List ByteArray)) => (zaH 3 .i64).bk y.1 + ((zad 26 16 (zar 9)).bk y.2)) (zcP Try.underlying3) rfl rfl (by kernel_rfl) rfl (zbh (o := 1) (o' := 2) (ok := fun (y : (List ByteArray)) => (zad 26 16 (zar 9)).ok y) (wt := fun (y : (List ByteArray)) => (zad 26 16 (zar 9)).wt y) (bk := fun (y : (List ByteArray)) => (zad 26 16 (zar 9)).bk y) (zcP Try.underlying3) rfl rfl (by kernel_rfl) rfl (zcH (zdN (zd5 Try.underlying9) Try.underlying26 (by kernel_rfl) (by kernel_rfl)) rfl rfl (by kernel_rfl)))) Try.underlying72 (by kernel_rfl) (fun x : S72 => (x.f0,x.f1,x.f2)) (fun y => ⟨y.1,y.2.1,y.2.2⟩) (fun _ => rfl)
instance : Inhabited S28 := ⟨z28⟩
def zdG : Rd S28 := zdd 28 (Kd.pair (zaH 3 .i64).d (zaH 3 .i64).d) (fun x : S28 => (x.f0,x.f1)) (fun y => (zaH 3 .i64).ok y.1 ∧ ((zaH 3 .i64).ok y.2)) (fun y => (zaH 3 .i64).wt y.1 ∧ ((zaH 3 .i64).wt y.2)) (fun y => (zaH 3 .i64).bk y.1 + ((zaH 3 .i64).bk y.2))
theorem fit28 : zes Try.prog zdG :=
 zcI (zbh (o := 0) (o' := 1) (ok := fun (y : Int) => (zaH 3 .i64).ok y) (wt := fun (y : Int) => (zaH 3 .i64).wt y) (bk := fun (y : Int) => (zaH 3 .i64).bk y) (zcP Try.underlying3) rfl rfl (by kernel_rfl) rfl (zcH (zcP Try.underlying3) rfl rfl (by kernel_rfl))) Try.underlying28 (by kernel_rfl) (fun x : S28 => (x.f0,x.f1)) (fun y => ⟨y.1,y.2⟩) (fun _ => rfl)
instance : Inhabited S30 := ⟨z30⟩
def zha : Rd S30 := zdd 30 (Kd.pair (zaH 3 .i64).d (Kd.pair (zaH 3 .i64).d (Kd.pair (zad 25 40 zfF).d (Kd.pair (zad 26 16 (zar 9)).d zdG.d)))) (fun x : S30 => (x.f0,x.f1,x.f2,x.f3,x.f4)) (fun y => (zaH 3 .i64).ok y.1 ∧ ((zaH 3 .i64).ok y.2.1 ∧ ((zad 25 40 zfF).ok y.2.2.1 ∧ ((zad 26 16 (zar 9)).ok y.2.2.2.1 ∧ (zdG.ok y.2.2.2.2))))) (fun y => (zaH 3 .i64).wt y.1 ∧ ((zaH 3 .i64).wt y.2.1 ∧ ((zad 25 40 zfF).wt y.2.2.1 ∧ ((zad 26 16 (zar 9)).wt y.2.2.2.1 ∧ (zdG.wt y.2.2.2.2))))) (fun y => (zaH 3 .i64).bk y.1 + ((zaH 3 .i64).bk y.2.1 + ((zad 25 40 zfF).bk y.2.2.1 + ((zad 26 16 (zar 9)).bk y.2.2.2.1 + (zdG.bk y.2.2.2.2)))))
theorem fit30 : zes Try.prog zha :=
 zcI (zbh (o := 0) (o' := 1) (ok := fun (y : Int × (List S72) × (List ByteArray) × S28) => (zaH 3 .i64).ok y.1 ∧ ((zad 25 40 zfF).ok y.2.1 ∧ ((zad 26 16 (zar 9)).ok y.2.2.1 ∧ (zdG.ok y.2.2.2)))) (wt := fun (y : Int × (List S72) × (List ByteArray) × S28) => (zaH 3 .i64).wt y.1 ∧ ((zad 25 40 zfF).wt y.2.1 ∧ ((zad 26 16 (zar 9)).wt y.2.2.1 ∧ (zdG.wt y.2.2.2)))) (bk := fun (y : Int × (List S72) × (List ByteArray) × S28) => (zaH 3 .i64).bk y.1 + ((zad 25 40 zfF).bk y.2.1 + ((zad 26 16 (zar 9)).bk y.2.2.1 + (zdG.bk y.2.2.2)))) (zcP Try.underlying3) rfl rfl (by kernel_rfl) rfl (zbh (o := 1) (o' := 2) (ok := fun (y : (List S72) × (List ByteArray) × S28) => (zad 25 40 zfF).ok y.1 ∧ ((zad 26 16 (zar 9)).ok y.2.1 ∧ (zdG.ok y.2.2))) (wt := fun (y : (List S72) × (List ByteArray) × S28) => (zad 25 40 zfF).wt y.1 ∧ ((zad 26 16 (zar 9)).wt y.2.1 ∧ (zdG.wt y.2.2))) (bk := fun (y : (List S72) × (List ByteArray) × S28) => (zad 25 40 zfF).bk y.1 + ((zad 26 16 (zar 9)).bk y.2.1 + (zdG.bk y.2.2))) (zcP Try.underlying3) rfl rfl (by kernel_rfl) rfl (zbh (o := 2) (o' := 3) (ok := fun (y : (List ByteArray) × S28) => (zad 26 16 (zar 9)).ok y.1 ∧ (zdG.ok y.2)) (wt := fun (y : (List ByteArray) × S28) => (zad 26 16 (zar 9)).wt y.1 ∧ (zdG.wt y.2)) (bk := fun (y : (List ByteArray) × S28) => (zad 26 16 (zar 9)).bk y.1 + (zdG.bk y.2)) (zdN fit72 Try.underlying25 (by kernel_rfl) (by kernel_rfl)) rfl rfl (by kernel_rfl) rfl (zbh (o := 3) (o' := 4) (ok := fun (y : S28) => zdG.ok y) (wt := fun (y : S28) => zdG.wt y) (bk := fun (y : S28) => zdG.bk y) (zdN (zd5 Try.underlying9) Try.underlying26 (by kernel_rfl) (by kernel_rfl)) rfl rfl (by kernel_rfl) rfl (zcH fit28 rfl rfl (by kernel_rfl)))))) Try.underlying30 (by kernel_rfl) (fun x : S30 => (x.f0,x.f1,x.f2,x.f3,x.f4)) (fun y => ⟨y.1,y.2.1,y.2.2.1,y.2.2.2.1,y.2.2.2.2⟩) (fun _ => rfl)
instance : Inhabited S36 := ⟨z36⟩
def zfE : Rd S36 := zdd 36 (Kd.pair (zar 9).d zha.d) (fun x : S36 => (x.f0,x.f1)) (fun y => (zar 9).ok y.1 ∧ (zha.ok y.2)) (fun y => (zar 9).wt y.1 ∧ (zha.wt y.2)) (fun y => (zar 9).bk y.1 + (zha.bk y.2))
theorem fit36 : zes Try.prog zfE :=
 zcI (zbh (o := 0) (o' := 1) (ok := fun (y : S30) => zha.ok y) (wt := fun (y : S30) => zha.wt y) (bk := fun (y : S30) => zha.bk y) (zd5 Try.underlying9) rfl rfl (by kernel_rfl) rfl (zcH fit30 rfl rfl (by kernel_rfl))) Try.underlying36 (by kernel_rfl) (fun x : S36 => (x.f0,x.f1)) (fun y => ⟨y.1,y.2⟩) (fun _ => rfl)
instance : Inhabited S24 := ⟨z24⟩
def rd24 : Rd S24 := zdd 24 (Kd.pair (zaH 3 .i64).d (Kd.pair (zaH 3 .i64).d (zad 22 96 zfE).d)) (fun x : S24 => (x.f0,x.f1,x.f2)) (fun y => (zaH 3 .i64).ok y.1 ∧ ((zaH 3 .i64).ok y.2.1 ∧ ((zad 22 96 zfE).ok y.2.2))) (fun y => (zaH 3 .i64).wt y.1 ∧ ((zaH 3 .i64).wt y.2.1 ∧ ((zad 22 96 zfE).wt y.2.2))) (fun y => (zaH 3 .i64).bk y.1 + ((zaH 3 .i64).bk y.2.1 + ((zad 22 96 zfE).bk y.2.2)))
theorem fit24 : zes Try.prog rd24 :=
 zcI (zbh (o := 0) (o' := 1) (ok := fun (y : Int × (List S36)) => (zaH 3 .i64).ok y.1 ∧ ((zad 22 96 zfE).ok y.2)) (wt := fun (y : Int × (List S36)) => (zaH 3 .i64).wt y.1 ∧ ((zad 22 96 zfE).wt y.2)) (bk := fun (y : Int × (List S36)) => (zaH 3 .i64).bk y.1 + ((zad 22 96 zfE).bk y.2)) (zcP Try.underlying3) rfl rfl (by kernel_rfl) rfl (zbh (o := 1) (o' := 2) (ok := fun (y : (List S36)) => (zad 22 96 zfE).ok y) (wt := fun (y : (List S36)) => (zad 22 96 zfE).wt y) (bk := fun (y : (List S36)) => (zad 22 96 zfE).bk y) (zcP Try.underlying3) rfl rfl (by kernel_rfl) rfl (zcH (zdN fit36 Try.underlying22 (by kernel_rfl) (by kernel_rfl)) rfl rfl (by kernel_rfl)))) Try.underlying24 (by kernel_rfl) (fun x : S24 => (x.f0,x.f1,x.f2)) (fun y => ⟨y.1,y.2.1,y.2.2⟩) (fun _ => rfl)
def zcv : Prop := ∀ (a0 : S24),rd24.ok a0 → rd24.wt a0 → ∃ k,zl.f k (a0.f0) (a0.f1) (a0.f2) = some true
end Go.Proofs.Ytklhjlaofkngcaa.Px