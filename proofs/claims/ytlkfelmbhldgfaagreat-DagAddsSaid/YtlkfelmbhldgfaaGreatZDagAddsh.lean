/- Part 34 of 36 of the proof of the law DagAdds: what is proved is the statement at the end of the last part; its conditions are those of the given row. -/
import Derived.Test.YtlkfelmbhldgfaaGreatZDagAddsD
namespace Go.Proofs.YtlkfelmbhldgfaaGreat.Px
open Go.RowKit Go.Proofs.YtlkfelmbhldgfaaGreatW.PrintWords Go.Proofs.YtlkfelmbhldgfaaGreatW.PrintLast Go.Proofs.YtlkfelmbhldgfaaGreatW.PrintMore
attribute [local go_sem] zA zC zH zI zv zw zB zD
set_option linter.unusedVariables false
set_option linter.unusedSimpArgs false
def zE.l0 : Nat → Int → Int → Int → Int → List (S42) → Int → Int → List (S42) → Option (Int × Int × (List (S42)))
 | 0,_,_,_,_,_,_,_,_ => none
 | k + 1,x1,x6,x253000,x253001,x253002,x255000,x255001,x255002 => if x6 < (x253002.length : Int) then (if 0 ≤ x6 then (if ((zd x253002 x6).f1.f1) > x1 then (if x255002.length < 1466015503701 then (zE.l0 k x1 (wrap64 (x6 + 1)) x253000 x253001 x253002 x255000 x255001 (x255002 ++ [(⟨(zd x253002 x6).f0,(⟨(zd x253002 x6).f1.f0,(zd x253002 x6).f1.f1,(zd x253002 x6).f1.f2,(zd x253002 x6).f1.f3,(⟨(zd x253002 x6).f1.f4.f0,(zd x253002 x6).f1.f4.f1⟩ : S28)⟩ : S30)⟩ : S42)])) else (none)) else (zE.l0 k x1 (wrap64 (x6 + 1)) x253000 x253001 x253002 x255000 x255001 x255002)) else (none)) else (some (x255000,x255001,x255002))
def zE.f (k : Nat) (a0_0 : Int) (a0_1 : Int) (l0_2 : List (S42)) (a1 : Int) : Option (Int × Int × (List (S42))) := if a1 ≤ a0_1 then (some (a0_0,a0_1,l0_2)) else (zE.l0 k a1 0 a0_0 a0_1 l0_2 a0_0 a1 ([] : List (S42)))
def zE.T8 : Bool × List (List Nat × List Nat) := (true,[([],[]),([0],[0]),([],[]),([2],[2]),([],[]),([3,4],[3,4]),([5],[5]),([6],[6]),([1,7],[1,7]),([0,1,2,3,4,5,6,7,8],[]),([9,8,8,0,1,2,3,4,5,6,7,8],[8,9])])
def zE.B8 : List Nat := [0,1,0,4,0,28,60,124,255,511,1023]
theorem zE.tab8 : zbX .any (zdG Tryz.f10 8) = zE.T8 := by kernel_rfl
theorem zE.bits8 : zbF zE.T8.2 zE.B8 = true := by kernel_rfl
set_option maxHeartbeats 8000000 in
set_option maxRecDepth 100000 in
theorem zE.calls (k : Nat) (a0_0 : Int) (a0_1 : Int) (P0_2_ : Nat → Prop) (A0_2 : Option Addr) (c0_2 : Nat) (l0_2 : List (S42)) (a1 : Int) (r1 : Int) (r2 : Int) (r3 : List (S42)) (w : World) (hs0_2 : Kd.V k42 42 w w.heap.size (fun k_ => P0_2_ k_) (.slice A0_2 l0_2.length c0_2) l0_2) (h : zE.f k a0_0 a0_1 l0_2 a1 = some (r1,r2,r3)) :
  Calls Tryz.prog 10 #[.agg #[.int .i64 a0_0,.int .i64 a0_1,.slice A0_2 l0_2.length c0_2],.int .i64 a1] w fun e w' => ∃ v2_ : Value,e = .returned (.agg #[.int .i64 r1,.int .i64 r2,v2_]) ∧ Kd.V k42 42 w' w.heap.size (fun k_ => (P0_2_ k_ ∨ w.heap.size ≤ k_)) v2_ r3 ∧ Below w.heap.size w w' := by
 have hu24 := Tryz.underlying24
 have hu42 := Tryz.underlying42
 have HO0_2 := za.mk (show Kd.V k42 42 w w.heap.size (fun k_ => (P0_2_ k_ ∨ w.heap.size ≤ k_)) (.slice A0_2 l0_2.length c0_2) l0_2 from Kd.V_mono hs0_2 (fun k_ hk => .inl hk))
 have HB := za.mk (Below.refl w.heap.size w)
 have H : (if a1 ≤ a0_1 then (some (a0_0,a0_1,l0_2)) else (zE.l0 k a1 0 a0_0 a0_1 l0_2 a0_0 a1 ([] : List (S42)))) = some (r1,r2,r3) := h
 clear h
 by_cases c3 : a1 ≤ a0_1
 ·rw [if_pos c3] at H
  have c3b0 : decide (a1 ≤ a0_1) = true := decide_eq_true c3
  clear c3
  simp only [Option.some.injEq,Prod.mk.injEq] at H
  obtain ⟨rfl,rfl,rfl⟩ := H
  go_enter Tryz.func10,Tryz.ntmps10
  go_wp2_with (first | ((with_reducible refine zn (N := 2) rfl ?_);refine zl rfl (N := 2) rfl (cs := #[.int .i64 a0_0,.int .i64 a0_1,.slice A0_2 l0_2.length c0_2]) (t := 24) hrq ?_;intro gb252 hg w4 hbox hb;have n_ := haq (Kd.V_below (Kd.V_elderB (by (with_reducible repeat (first | apply Kd.V_alloc | apply Kd.V_drewN | apply Kd.V_drew));exact HO0_2.out) gb252 (Nat.le_of_eq hg.symm)) hb) <| haq (ze hBq hb) <| haq (hbox) <| haq ((by rw [hg];exact (zg hBq) : w.heap.size ≤ gb252)) <| haq ((by rw [hg];exact (zg hBq) : w.heap.size ≤ gb252)) <| trivial;clear HO0_2 HB;obtain ⟨HO0_2,HB,BK252,GW252,GE252,_⟩ := n_;clear hb hbox hg) | ((with_reducible refine zn (N := 4) rfl ?_);refine zl rfl (N := 4) rfl (cs := #[.int .i64 0,.int .i64 0,.slice none 0 0]) (t := 24) hrq ?_;intro gb253 hg w5 hbox hb;have n_ := haq (Kd.V_below (Kd.V_elderB (by (with_reducible repeat (first | apply Kd.V_alloc | apply Kd.V_drewN | apply Kd.V_drew));exact HO0_2.out) gb253 (Nat.le_of_eq hg.symm)) hb) <| haq (hbq BK252.out hb) <| haq (ze hCq hb) <| haq (hbox) <| haq ((by rw [hg];exact (zg hCq) : w.heap.size ≤ gb253)) <| haq ((by rw [hg];exact (zg hCq) : w.heap.size ≤ gb253)) <| haq (hnq hg BK252.out) <| haq (hmq hg BK252.out) <| trivial;clear HO0_2 BK252 HB;obtain ⟨HO0_2,BK252,HB,BK253,GW253,GE253,NB252_253,NB253_252,_⟩ := n_;clear hb hbox hg;have hnb6 := NB252_253.out;have hnc6 := NB253_252.out;obtain ⟨hcz7_0,hcz7_1,hcz7_2,hfz7_0,hfz7_1,hfz7_2⟩ := hcq3 BK252.out;obtain ⟨hcz8_0,hcz8_1,hcz8_2,hfz8_0,hfz8_1,hfz8_2⟩ := hcq3 BK253.out))
  refine bodyPost_ret (results_cell_row rfl _ _ gb253 24 #[.int .i64 a0_0,.int .i64 a0_1,.slice A0_2 l0_2.length c0_2] (0,0) _ rfl (hxq0p BK253.out) Tryz.underlying24 rfl (by kernel_rfl)) rfl ?_
  exact ⟨_,hHq,by (with_reducible repeat (first | apply Kd.V_alloc | apply Kd.V_drewN | apply Kd.V_drew));exact Kd.V_mono (Kd.V_far (p := ⟨gb253,2,none⟩) (Kd.V_far (p := ⟨gb253,1,none⟩) (Kd.V_far (p := ⟨gb253,0,none⟩) (Kd.V_mono HO0_2.out (fun k_ hk => (⟨hk,hk.2⟩ : _ ∧ k_ ≠ gb253))) (fun _ hk => hk.2) (.int .i64 a0_0)) (fun _ hk => hk.2) (.int .i64 a0_1)) (fun _ hk => hk.2) (.slice A0_2 l0_2.length c0_2)) (fun _ hk => hk.1.1.1),hCq⟩
 ·rw [if_neg c3] at H
  have c3b0 : decide (a1 ≤ a0_1) = false := decide_eq_false c3
  clear c3
  have H' := za.mk H
  clear H
  go_enter Tryz.func10,Tryz.ntmps10
  go_wp2_with (first | ((with_reducible refine zn (N := 2) rfl ?_);refine zl rfl (N := 2) rfl (cs := #[.int .i64 a0_0,.int .i64 a0_1,.slice A0_2 l0_2.length c0_2]) (t := 24) hrq ?_;intro gb252 hg w9 hbox hb;have n_ := haq (Kd.V_below (Kd.V_elderB (by (with_reducible repeat (first | apply Kd.V_alloc | apply Kd.V_drewN | apply Kd.V_drew));exact HO0_2.out) gb252 (Nat.le_of_eq hg.symm)) hb) <| haq (ze hBq hb) <| haq (hbox) <| haq ((by rw [hg];exact (zg hBq) : w.heap.size ≤ gb252)) <| haq ((by rw [hg];exact (zg hBq) : w.heap.size ≤ gb252)) <| trivial;clear HO0_2 HB;obtain ⟨HO0_2,HB,BK252,GW252,GE252,_⟩ := n_;clear hb hbox hg) | ((with_reducible refine zn (N := 4) rfl ?_);refine zl rfl (N := 4) rfl (cs := #[.int .i64 0,.int .i64 0,.slice none 0 0]) (t := 24) hrq ?_;intro gb253 hg w10 hbox hb;have n_ := haq (Kd.V_below (Kd.V_elderB (by (with_reducible repeat (first | apply Kd.V_alloc | apply Kd.V_drewN | apply Kd.V_drew));exact HO0_2.out) gb253 (Nat.le_of_eq hg.symm)) hb) <| haq (hbq BK252.out hb) <| haq (ze hCq hb) <| haq (hbox) <| haq ((by rw [hg];exact (zg hCq) : w.heap.size ≤ gb253)) <| haq ((by rw [hg];exact (zg hCq) : w.heap.size ≤ gb253)) <| haq (hnq hg BK252.out) <| haq (hmq hg BK252.out) <| trivial;clear HO0_2 BK252 HB;obtain ⟨HO0_2,BK252,HB,BK253,GW253,GE253,NB252_253,NB253_252,_⟩ := n_;clear hb hbox hg;have hnb11 := NB252_253.out;have hnc11 := NB253_252.out;obtain ⟨hcz12_0,hcz12_1,hcz12_2,hfz12_0,hfz12_1,hfz12_2⟩ := hcq3 BK252.out) | ((with_reducible refine zn (N := 5) rfl ?_);refine zl rfl (N := 5) rfl (cs := #[.int .i64 0,.int .i64 0,.slice none 0 0]) (t := 24) hrq ?_;intro gb254 hg w13 hbox hb;have n_ := haq (Kd.V_below (Kd.V_elderB (by (with_reducible repeat (first | apply Kd.V_alloc | apply Kd.V_drewN | apply Kd.V_drew));exact HO0_2.out) gb254 (Nat.le_of_eq hg.symm)) hb) <| haq (hbq BK252.out hb) <| haq (hbq BK253.out hb) <| haq (ze hCq hb) <| haq (hbox) <| haq ((by rw [hg];exact (zg hCq) : w.heap.size ≤ gb254)) <| haq ((by rw [hg];exact (zg hCq) : w.heap.size ≤ gb254)) <| haq (hnq hg BK252.out) <| haq (hmq hg BK252.out) <| haq (hnq hg BK253.out) <| haq (hmq hg BK253.out) <| trivial;clear HO0_2 BK252 BK253 HB;obtain ⟨HO0_2,BK252,BK253,HB,BK254,GW254,GE254,NB252_254,NB254_252,NB253_254,NB254_253,_⟩ := n_;clear hb hbox hg;have hnb14 := NB254_252.out;have hnc14 := NB252_254.out;have hnb15 := NB254_253.out;have hnc15 := NB253_254.out;obtain ⟨hcz16_0,hcz16_1,hcz16_2,hfz16_0,hfz16_1,hfz16_2⟩ := hcq3 BK254.out))
  go_loopg [6] k (fun kq v6 w' => ∃ (x6_1 : Int) (x255002_1 : List (S42)) (u255002 : Value),v6 = .int .i64 x6_1 ∧ za (zE.l0 kq a1 x6_1 a0_0 a0_1 l0_2 a0_0 a1 x255002_1 = some (r1,r2,r3)) ∧ za (kq ≤ k) ∧ za (Kd.V k42 42 w' w.heap.size (fun k_ => (P0_2_ k_ ∨ w.heap.size ≤ k_) ∧ some k_ ≠ (u255002 : Value).ownBlock ∧ k_ ≠ gb252 ∧ k_ ≠ gb253 ∧ k_ ≠ gb254) (.slice A0_2 l0_2.length c0_2) l0_2) ∧ za (Kd.N k42 42 w' w.heap.size (fun k_ => (P0_2_ k_ ∨ w.heap.size ≤ k_) ∧ k_ ≠ gb252 ∧ k_ ≠ gb253 ∧ k_ ≠ gb254) u255002 x255002_1) ∧ za (w'.heap[gb252]? = some (.cells #[.int .i64 a0_0,.int .i64 a0_1,(.slice A0_2 l0_2.length c0_2)] 24 (0,0))) ∧ za (w'.heap[gb253]? = some (.cells #[.int .i64 0,.int .i64 0,(.slice none 0 0)] 24 (0,0))) ∧ za (w'.heap[gb254]? = some (.cells #[.int .i64 a0_0,.int .i64 a1,u255002] 24 (0,0))) ∧ za (Below w.heap.size w w'))
  case atStart => exact ⟨(0),(([] : List (S42))),(.slice none 0 0),(hDq),H',⟨Nat.le_refl _⟩,⟨by (with_reducible repeat (first | apply Kd.V_alloc | apply Kd.V_drewN | apply Kd.V_drew));exact Kd.V_mono (Kd.V_far (p := ⟨gb254,2,none⟩) (Kd.V_far (p := ⟨gb254,1,none⟩) (Kd.V_far (p := ⟨gb254,0,none⟩) (Kd.V_mono HO0_2.out (fun k_ hk => (⟨hk,hk.2⟩ : _ ∧ k_ ≠ gb254))) (fun _ hk => hk.2) (.int .i64 a0_0)) (fun _ hk => hk.2) (.int .i64 a1)) (fun _ hk => hk.2) (.slice none 0 0)) (fun _ hk => ⟨hk.1.1.1.1,⟨(by simp [Value.ownBlock]),⟨hk.1.1.1.2,⟨hk.1.1.2,hk.1.2⟩⟩⟩⟩)⟩,⟨by first | exact Kd.R_nil _ _ _ _ _ | exact Kd.N_nil _ _ _ _ _ | exact Kd.V_nil _ _ _ _ _ | exact Kd.Q_nil _ _ _ _ _ | exact Kd.S_nil _ _ _ _ _⟩,⟨hxq1 NB252_254.out BK252.out⟩,⟨hxq1 NB253_254.out BK253.out⟩,⟨hxq0p BK254.out⟩,⟨by repeat (first | (with_reducible first | exact HB.out | apply zk | apply zi | apply zo | refine zj ?_ GE252.out | refine zj ?_ GE253.out | refine zj ?_ GE254.out) | exact HB.out)⟩⟩
  case round =>
   clear H'
   try clear c1;try clear p2;try clear c3;try clear c3b0;try clear c6;try clear c10;try clear c11;try clear c14;try clear c15;try clear hcz12_0;try clear hcz12_1;try clear hcz12_2;try clear hcz16_0;try clear hcz16_1;try clear hcz16_2;try clear hcz7_0;try clear hcz7_1;try clear hcz7_2;try clear hcz8_0;try clear hcz8_1;try clear hcz8_2;try clear hfz12_0;try clear hfz12_1;try clear hfz12_2;try clear hfz16_0;try clear hfz16_1;try clear hfz16_2;try clear hfz7_0;try clear hfz7_1;try clear hfz7_2;try clear hfz8_0;try clear hfz8_1;try clear hfz8_2
   obtain ⟨x6_1,x255002_1,u255002,rfl,HA,HK1,HO_253002,HO_255002,BK252,BK253,BK254,HB⟩ := hrel
   cases gk with
   | zero => exact absurd HA.out (by simp [zE.l0])
   | succ k1 =>
    have H := HA.out
    clear HA
    simp only [zE.l0] at H
    by_cases c17 : x6_1 < (l0_2.length : Int)
    ·rw [if_pos c17] at H
     have c17b0 : decide (x6_1 < (l0_2.length : Int)) = true := decide_eq_true c17
     clear c17
     by_cases c18 : 0 ≤ x6_1
     ·rw [if_pos c18] at H
      have c18b0 : decide (0 ≤ x6_1) = true := decide_eq_true c18
      clear c18
      by_cases c19 : ((zd l0_2 x6_1).f1.f1) > a1
      ·rw [if_pos c19] at H
       have c19b0 : decide (a1 < ((zd l0_2 x6_1).f1.f1)) = true := decide_eq_true c19
       clear c19
       by_cases c20 : x255002_1.length < 1466015503701
       ·rw [if_pos c20] at H
        have LMc20 := za.mk c20
        clear c20
        obtain ⟨y257,hy257⟩ : ∃ y_ : List (S42),y_ = (x255002_1 ++ [(⟨(zd l0_2 x6_1).f0,(⟨(zd l0_2 x6_1).f1.f0,(zd l0_2 x6_1).f1.f1,(zd l0_2 x6_1).f1.f2,(zd l0_2 x6_1).f1.f3,(⟨(zd l0_2 x6_1).f1.f4.f0,(zd l0_2 x6_1).f1.f4.f1⟩ : S28)⟩ : S30)⟩ : S42)]) := ⟨_,rfl⟩
        replace H : (zE.l0 k1 a1 (wrap64 (x6_1 + 1)) a0_0 a0_1 l0_2 a0_0 a1 y257) = some (r1,r2,r3) := by first | (rw [hy257];with_reducible exact H) | (have H2_ := (Option.bind_some _ _).symm.trans H;rw [hy257];with_reducible exact H2_) | (have H2_ := (Option.bind_some _ _).symm.trans H;with_reducible exact H2_) | with_reducible exact H | (rw [hy257];exact H) | exact H
        have Ny257 := za.mk hy257
        clear hy257
        have H' := za.mk H
        clear H
        have hnb21 := NB252_253.out
        have hnc21 := NB253_252.out
        have hnb22 := NB252_254.out
        have hnc22 := NB254_252.out
        obtain ⟨hcz23_0,hcz23_1,hcz23_2,hfz23_0,hfz23_1,hfz23_2⟩ := hcq3 BK252.out
        have p255 : 0 ≤ (x6_1 : Int) := hFq
        have q255 : x6_1 < (l0_2.length : Int) := hFq
        obtain ⟨ad255,A255_3,c255_3,A255_4,c255_4,e255,hx255_0,hx255_1,hx255_2,hx255_3,hx255_4,hx255_5,hx255_6,hl255_3,hi255_3,hl255_4,hi255_4⟩ := zaG (Kd.V_reads' HO_253002.out).2.2 x6_1 p255 q255
        cases e255
        obtain ⟨ce255,hce255,hMe255,hcc255⟩ := Kd.V_get HO_253002.out z42 x6_1 p255 (by first | exact q255 | exact hFq | (have e_ := (Kd.V_reads' HO_253002.out).1;omega))
        obtain ⟨ua255_3,uc255_3,ua255_4,uc255_4,rfl,ul255_3,ge255_3,ul255_4,ge255_4⟩ := zaF hMe255
        have hv255_3 := hcc255 3 _ rfl
        rw [zQ _ _ 3 (by omega)] at hv255_3
        replace hv255_3 := Option.some.inj (hv255_3.symm.trans hx255_3)
        injection hv255_3 with hva_ hvn_ hvc_
        rw [hva_] at ge255_3
        rw [hvc_] at ul255_3
        have HL255_3 := za.mk (show Kd.V k67 67 _ w.heap.size _ _ ((zd l0_2 x6_1).f1.f2) from Kd.V_mk ul255_3 ge255_3)
        clear hva_ hvn_ hvc_ ge255_3 ul255_3
        have hv255_4 := hcc255 4 _ rfl
        rw [zQ _ _ 4 (by omega)] at hv255_4
        replace hv255_4 := Option.some.inj (hv255_4.symm.trans hx255_4)
        injection hv255_4 with hva_ hvn_ hvc_
        rw [hva_] at ge255_4
        rw [hvc_] at ul255_4
        have HL255_4 := za.mk (show Kd.V Kd.string 9 _ w.heap.size _ _ ((zd l0_2 x6_1).f1.f3) from Kd.V_mk ul255_4 ge255_4)
        clear hva_ hvn_ hvc_ ge255_4 ul255_4
        clear hcc255 hce255
        have HR255_3 := za.mk hi255_3
        have HC255_3 := za.mk hl255_3
        clear hi255_3 hl255_3
        have HR255_4 := za.mk hi255_4
        have HC255_4 := za.mk hl255_4
        clear hi255_4 hl255_4
        replace p255 := eq_true p255
        replace q255 := eq_true q255
        try go_wp2
        have n0_ := za.mk (Kd.V_drew HO_253002.out)
        have n1_ := za.mk (Kd.N_drew HO_255002.out)
        have n2_ := za.mk (Kd.V_drew HL255_3.out)
        have n3_ := za.mk (Kd.V_drew HL255_4.out)
        have n4_ := za.mk (z6 BK252.out)
        have n5_ := za.mk (z6 BK253.out)
        have n6_ := za.mk (z6 BK254.out)
        have n7_ := za.mk (Kd.C_drew HR255_3.out)
        have n8_ := za.mk (Kd.C_drew HR255_4.out)
        have n9_ := za.mk (zo HB.out)
        clear HO_253002
        clear HO_255002
        clear HL255_3
        clear HL255_4
        clear BK252
        clear BK253
        clear BK254
        clear HR255_3
        clear HR255_4
        clear HB
        have HO_253002 := n0_
        have HO_255002 := n1_
        have HL255_3 := n2_
        have HL255_4 := n3_
        have BK252 := n4_
        have BK253 := n5_
        have BK254 := n6_
        have HR255_3 := n7_
        have HR255_4 := n8_
        have HB := n9_
        clear n0_ n1_ n2_ n3_ n4_ n5_ n6_ n7_ n8_ n9_
        have p256 : 0 ≤ (x6_1 : Int) := hFq
        have q256 : x6_1 < (l0_2.length : Int) := hFq
        obtain ⟨ad256,A256_3,c256_3,A256_4,c256_4,e256,hx256_0,hx256_1,hx256_2,hx256_3,hx256_4,hx256_5,hx256_6,hl256_3,hi256_3,hl256_4,hi256_4⟩ := zaG (Kd.V_reads' HO_253002.out).2.2 x6_1 p256 q256
        obtain rfl : ad255 = ad256 := (by injection e256)
        obtain ⟨ce256,hce256,hMe256,hcc256⟩ := Kd.V_get HO_253002.out z42 x6_1 p256 (by first | exact q256 | exact hFq | (have e_ := (Kd.V_reads' HO_253002.out).1;omega))
        obtain ⟨ua256_3,uc256_3,ua256_4,uc256_4,rfl,ul256_3,ge256_3,ul256_4,ge256_4⟩ := zaF hMe256
        have hv256_3 := hcc256 3 _ rfl
        rw [zQ _ _ 3 (by omega)] at hv256_3
        replace hv256_3 := Option.some.inj (hv256_3.symm.trans hx256_3)
        injection hv256_3 with hva_ hvn_ hvc_
        rw [hva_] at ge256_3
        rw [hvc_] at ul256_3
        have HL256_3 := za.mk (show Kd.V k67 67 _ w.heap.size _ _ ((zd l0_2 x6_1).f1.f2) from Kd.V_mk ul256_3 ge256_3)
        clear hva_ hvn_ hvc_ ge256_3 ul256_3
        have hv256_4 := hcc256 4 _ rfl
        rw [zQ _ _ 4 (by omega)] at hv256_4
        replace hv256_4 := Option.some.inj (hv256_4.symm.trans hx256_4)
        injection hv256_4 with hva_ hvn_ hvc_
        rw [hva_] at ge256_4
        rw [hvc_] at ul256_4
        have HL256_4 := za.mk (show Kd.V Kd.string 9 _ w.heap.size _ _ ((zd l0_2 x6_1).f1.f3) from Kd.V_mk ul256_4 ge256_4)
        clear hva_ hvn_ hvc_ ge256_4 ul256_4
        clear hcc256 hce256
        have HR256_3 := za.mk hi256_3
        have HC256_3 := za.mk hl256_3
        clear hi256_3 hl256_3
        have HR256_4 := za.mk hi256_4
        have HC256_4 := za.mk hl256_4
        clear hi256_4 hl256_4
        replace p256 := eq_true p256
        replace q256 := eq_true q256
        refine zbH (n := 11) (S := fun w' => w'.cell? ⟨gb254,0,none⟩ = some (.int .i64 a0_0) ∧ w'.cell? ⟨gb254,1,none⟩ = some (.int .i64 a1) ∧ w'.cell? ⟨gb254,2,none⟩ = some (u255002) ∧ w'.cell? ⟨gb252,0,none⟩ = some (.int .i64 a0_0) ∧ w'.cell? ⟨gb252,1,none⟩ = some (.int .i64 a0_1) ∧ w'.cell? ⟨gb252,2,none⟩ = some (.slice (some ad255) l0_2.length c0_2) ∧ w'.cell? (ad255.add ((x6_1).toNat * 7)) = some (.string ((zd l0_2 x6_1).f0)) ∧ w'.cell? ⟨(ad255.add ((x6_1).toNat * 7)).block,(ad255.add ((x6_1).toNat * 7)).off + 1,none⟩ = some (.int .i64 ((zd l0_2 x6_1).f1.f0)) ∧ w'.cell? ⟨(ad255.add ((x6_1).toNat * 7)).block,(ad255.add ((x6_1).toNat * 7)).off + 2,none⟩ = some (.int .i64 ((zd l0_2 x6_1).f1.f1)) ∧ w'.cell? ⟨(ad255.add ((x6_1).toNat * 7)).block,(ad255.add ((x6_1).toNat * 7)).off + 3,none⟩ = some (.slice A256_3 ((zd l0_2 x6_1).f1.f2).length c256_3) ∧ w'.cell? ⟨(ad255.add ((x6_1).toNat * 7)).block,(ad255.add ((x6_1).toNat * 7)).off + 4,none⟩ = some (.slice A256_4 ((zd l0_2 x6_1).f1.f3).length c256_4) ∧ w'.cell? ⟨(ad255.add ((x6_1).toNat * 7)).block,(ad255.add ((x6_1).toNat * 7)).off + 5,none⟩ = some (.int .i64 ((zd l0_2 x6_1).f1.f4.f0)) ∧ w'.cell? ⟨(ad255.add ((x6_1).toNat * 7)).block,(ad255.add ((x6_1).toNat * 7)).off + 6,none⟩ = some (.int .i64 ((zd l0_2 x6_1).f1.f4.f1))) (ds := [8,10]) (uQ 11 0) (by kernel_rfl) rfl rfl ⟨(zb BK254.out 0).trans rfl,(zb BK254.out 1).trans rfl,(zb BK254.out 2).trans rfl,(zb BK252.out 0).trans rfl,(zb BK252.out 1).trans rfl,(zb BK252.out 2).trans rfl,hx256_0,hx256_1,hx256_2,hx256_3,hx256_4,hx256_5,hx256_6⟩ (fun hHeld => ?_);refine zaO zE.tab8 zE.bits8 (fun HT_ HW_ => ?_)
        generalize wr.drew = w24 at HO_253002 HO_255002 HL255_3 HL255_4 BK252 BK253 BK254 HR255_3 HR255_4 HB HL256_3 HL256_4 HR256_3 HR256_4 hx256_0 hx256_1 hx256_2 hx256_3 hx256_4 hx256_5 hx256_6 hHeld ⊢
        refine puq (i := 0) (N := some 32) HT_.out (uQ 11 1) ?_
        refine puq (i := 2) (N := some 34) HT_.out #[true,false,true,false,false,false,false,false,false,false,false] ?_
        refine puq (i := 4) (N := some 36) HT_.out #[true,false,true,false,true,false,false,false,false,false,false] ?_
        refine take_ (i := 1) (N := some 33) #[true,true,true,false,true,false,false,false,false,false,false] rfl rfl (zY HT_.out HW_.out (by kernel_rfl)) (fun _ _ _ h => h) (Or.inl ⟨by rfl,by rintro w' ⟨s0,s1,s2,s3,s4,s5,s6,s7,s8,s9,s10,s11,s12⟩;go_simp;with_reducible rfl⟩) hHeld hPq ?_
        refine take_ (i := 3) (N := some 35) (uQ 11 5) rfl rfl (zY HT_.out HW_.out (by kernel_rfl)) (fun _ _ _ h => h) (Or.inl ⟨by rfl,by rintro w' ⟨s0,s1,s2,s3,s4,s5,s6,s7,s8,s9,s10,s11,s12⟩;go_simp;with_reducible rfl⟩) hHeld hPq ?_
        refine puq (i := 5) (N := some 37) HT_.out (uQ 11 6) ?_
        refine take_ (i := 6) (N := some 38) (uQ 11 7) rfl rfl (zY HT_.out HW_.out (by kernel_rfl)) (fun _ _ _ h => h) (Or.inl ⟨by rfl,by rintro w' ⟨s0,s1,s2,s3,s4,s5,s6,s7,s8,s9,s10,s11,s12⟩;go_simp;with_reducible rfl⟩) hHeld hPq ?_
        refine zb1 (i := 7) (N := some 39) (uQ 11 8) rfl rfl (zaR HT_.out (by kernel_rfl)) (by decide) (fun K hK => ?_)
        refine value_ (w1 := ?_) (v := ?_) (by rfl) rfl ?_ ?_
        rotate_left 2
        ·go_simp
         constructor
         ·rfl
         ·rfl
        refine hK.out _ _ ⟨(zb (zf BK254.out _) 0).trans rfl,(zb (zf BK254.out _) 1).trans rfl,(zb (zf BK254.out _) 2).trans rfl,(zb (zf BK252.out _) 0).trans rfl,(zb (zf BK252.out _) 1).trans rfl,(zb (zf BK252.out _) 2).trans rfl,(World.cell?_alloc_lt _ _ _ (World.block_lt_of_cell? _ _ (hHeld.2.2.2.2.2.2.1))).trans (hHeld.2.2.2.2.2.2.1),(World.cell?_alloc_lt _ _ _ (World.block_lt_of_cell? _ _ (hHeld.2.2.2.2.2.2.2.1))).trans (hHeld.2.2.2.2.2.2.2.1),(World.cell?_alloc_lt _ _ _ (World.block_lt_of_cell? _ _ (hHeld.2.2.2.2.2.2.2.2.1))).trans (hHeld.2.2.2.2.2.2.2.2.1),(World.cell?_alloc_lt _ _ _ (World.block_lt_of_cell? _ _ (hHeld.2.2.2.2.2.2.2.2.2.1))).trans (hHeld.2.2.2.2.2.2.2.2.2.1),(World.cell?_alloc_lt _ _ _ (World.block_lt_of_cell? _ _ (hHeld.2.2.2.2.2.2.2.2.2.2.1))).trans (hHeld.2.2.2.2.2.2.2.2.2.2.1),(World.cell?_alloc_lt _ _ _ (World.block_lt_of_cell? _ _ (hHeld.2.2.2.2.2.2.2.2.2.2.2.1))).trans (hHeld.2.2.2.2.2.2.2.2.2.2.2.1),(World.cell?_alloc_lt _ _ _ (World.block_lt_of_cell? _ _ (hHeld.2.2.2.2.2.2.2.2.2.2.2.2))).trans (hHeld.2.2.2.2.2.2.2.2.2.2.2.2)⟩ (fun hHeld => ?_)
        clear hK K
        refine zbk (a' := ?_) ?_ ?_
        rotate_left
        ·show Act.put _ (some 39) _ = _
         simp only [Act.put,List.setIfInBounds_toArray,List.set_cons_zero,List.set_cons_succ,zaw,zaB]
         rfl
        refine last_ (i := 8) (N := some 40) (uQ 11 9) rfl rfl (zaR HT_.out (by kernel_rfl)) (by decide) (fun K hK => ?_)
        refine Kd.N_append_step k42 (w0 := w) w.heap.size (by rfl) (.tmp 33) (.tmp 39) 22 42 (.agg #[(.string ⟨#[]⟩),(.int .i64 0),(.int .i64 0),(.slice none 0 0),(.slice none 0 0),(.int .i64 0),(.int .i64 0)]) 96 rfl Tryz.underlying22 zb0 rfl (by decide) (by omega) u255002 x255002_1 (⟨(zd l0_2 x6_1).f0,(⟨(zd l0_2 x6_1).f1.f0,(zd l0_2 x6_1).f1.f1,(zd l0_2 x6_1).f1.f2,(zd l0_2 x6_1).f1.f3,(⟨(zd l0_2 x6_1).f1.f4.f0,(zd l0_2 x6_1).f1.f4.f1⟩ : S28)⟩ : S30)⟩ : S42) [.string ((zd l0_2 x6_1).f0),.int .i64 ((zd l0_2 x6_1).f1.f0),.int .i64 ((zd l0_2 x6_1).f1.f1),.slice A256_3 ((zd l0_2 x6_1).f1.f2).length c256_3,.slice A256_4 ((zd l0_2 x6_1).f1.f3).length c256_4,.int .i64 ((zd l0_2 x6_1).f1.f4.f0),.int .i64 ((zd l0_2 x6_1).f1.f4.f1)] (fun k_ => (P0_2_ k_ ∨ w.heap.size ≤ k_) ∧ k_ ≠ gb252 ∧ k_ ≠ gb253 ∧ k_ ≠ gb254) (fun k_ => ((fun k_ => (P0_2_ k_ ∨ w.heap.size ≤ k_) ∧ k_ ≠ gb252 ∧ k_ ≠ gb253 ∧ k_ ≠ gb254)) k_ ∧ some k_ ≠ (u255002 : Value).ownBlock) rfl rfl ?aP (fun _ hk => hk) ?aF ?aO ?aB ?aS ?aL ?_
        (case aP => exact (zex _ _ (⟨(zd l0_2 x6_1).f0,(⟨(zd l0_2 x6_1).f1.f0,(zd l0_2 x6_1).f1.f1,(zd l0_2 x6_1).f1.f2,(zd l0_2 x6_1).f1.f3,(⟨(zd l0_2 x6_1).f1.f4.f0,(zd l0_2 x6_1).f1.f4.f1⟩ : S28)⟩ : S30)⟩ : S42) (Kd.V_reads' (Kd.V_mono (ok' := (fun k_ => ((fun k_ => (P0_2_ k_ ∨ w.heap.size ≤ k_) ∧ k_ ≠ gb252 ∧ k_ ≠ gb253 ∧ k_ ≠ gb254)) k_ ∧ some k_ ≠ (u255002 : Value).ownBlock)) (HL256_3.out) (fun k_ hk => ⟨⟨hk.1,⟨hk.2.2.1,⟨hk.2.2.2.1,hk.2.2.2.2⟩⟩⟩,hk.2.1⟩))).2.1 (Kd.V_F (Kd.V_mono (ok' := (fun k_ => ((fun k_ => (P0_2_ k_ ∨ w.heap.size ≤ k_) ∧ k_ ≠ gb252 ∧ k_ ≠ gb253 ∧ k_ ≠ gb254)) k_ ∧ some k_ ≠ (u255002 : Value).ownBlock)) (HL256_3.out) (fun k_ hk => ⟨⟨hk.1,⟨hk.2.2.1,⟨hk.2.2.2.1,hk.2.2.2.2⟩⟩⟩,hk.2.1⟩))) (Kd.V_reads' (Kd.V_mono (ok' := (fun k_ => ((fun k_ => (P0_2_ k_ ∨ w.heap.size ≤ k_) ∧ k_ ≠ gb252 ∧ k_ ≠ gb253 ∧ k_ ≠ gb254)) k_ ∧ some k_ ≠ (u255002 : Value).ownBlock)) (HL256_4.out) (fun k_ hk => ⟨⟨hk.1,⟨hk.2.2.1,⟨hk.2.2.2.1,hk.2.2.2.2⟩⟩⟩,hk.2.1⟩))).2.1 (Kd.V_F (Kd.V_mono (ok' := (fun k_ => ((fun k_ => (P0_2_ k_ ∨ w.heap.size ≤ k_) ∧ k_ ≠ gb252 ∧ k_ ≠ gb253 ∧ k_ ≠ gb254)) k_ ∧ some k_ ≠ (u255002 : Value).ownBlock)) (HL256_4.out) (fun k_ hk => ⟨⟨hk.1,⟨hk.2.2.1,⟨hk.2.2.2.1,hk.2.2.2.2⟩⟩⟩,hk.2.1⟩)))))
        (case aB => exact hCq)
        (case aF => exact (fun k_ hk => ⟨(.inr (Nat.le_trans (zg hCq) hk)),Kd.freshB (g := gb252) (o := .cells #[.int .i64 a0_0,.int .i64 a0_1,.slice (some ad255) l0_2.length c0_2] 24 (0,0)) (hGq BK252.out) k_ hk,Kd.freshB (g := gb253) (o := .cells #[.int .i64 0,.int .i64 0,.slice none 0 0] 24 (0,0)) (hGq BK253.out) k_ hk,Kd.freshB (g := gb254) (o := .cells #[.int .i64 a0_0,.int .i64 a1,u255002] 24 (0,0)) (hGq BK254.out) k_ hk⟩))
        (case aO => exact (by (with_reducible repeat (first | apply Kd.N_alloc | apply Kd.N_drewN | apply Kd.N_drew));exact HO_255002.out))
        (case aS => exact (zg hCq))
        (case aL => have := LMc20.out;omega)
        intro v258 w25 ho hb hg hat
        rw [← Ny257.out] at ho
        have n0_ := za.mk (Kd.V_afterv (ok := (fun k_ => (P0_2_ k_ ∨ w.heap.size ≤ k_) ∧ k_ ≠ gb252 ∧ k_ ≠ gb253 ∧ k_ ≠ gb254)) (by (with_reducible repeat (first | apply Kd.V_alloc | apply Kd.V_drewN | apply Kd.V_drew));exact Kd.V_mono HO_253002.out (fun _ hk => ⟨⟨hk.1,⟨hk.2.2.1,⟨hk.2.2.2.1,hk.2.2.2.2⟩⟩⟩,hk.2.1⟩)) hg hat)
        have n1_ := za.mk (zaE (g := gb252) (o := .cells #[.int .i64 a0_0,.int .i64 a0_1,.slice (some ad255) l0_2.length c0_2] 24 (0,0)) (hGq BK252.out) hg (Kd.N_ne HO_255002.out BK252.out (by decide)))
        have n2_ := za.mk (zaE (g := gb253) (o := .cells #[.int .i64 0,.int .i64 0,.slice none 0 0] 24 (0,0)) (hGq BK253.out) hg (Kd.N_ne HO_255002.out BK253.out (by decide)))
        have n3_ := za.mk (zaE (g := gb254) (o := .cells #[.int .i64 a0_0,.int .i64 a1,u255002] 24 (0,0)) (hGq BK254.out) hg (Kd.N_ne HO_255002.out BK254.out (by decide)))
        have n4_ := za.mk (Kd.V_afterv (ok := (fun k_ => (P0_2_ k_ ∨ w.heap.size ≤ k_) ∧ k_ ≠ gb252 ∧ k_ ≠ gb253 ∧ k_ ≠ gb254)) (by (with_reducible repeat (first | apply Kd.V_alloc | apply Kd.V_drewN | apply Kd.V_drew));exact Kd.V_mono HL255_3.out (fun _ hk => ⟨⟨hk.1,⟨hk.2.2.1,⟨hk.2.2.2.1,hk.2.2.2.2⟩⟩⟩,hk.2.1⟩)) hg hat)
        have n5_ := za.mk (Kd.V_afterv (ok := (fun k_ => (P0_2_ k_ ∨ w.heap.size ≤ k_) ∧ k_ ≠ gb252 ∧ k_ ≠ gb253 ∧ k_ ≠ gb254)) (by (with_reducible repeat (first | apply Kd.V_alloc | apply Kd.V_drewN | apply Kd.V_drew));exact Kd.V_mono HL255_4.out (fun _ hk => ⟨⟨hk.1,⟨hk.2.2.1,⟨hk.2.2.2.1,hk.2.2.2.2⟩⟩⟩,hk.2.1⟩)) hg hat)
        have n6_ := za.mk (Kd.V_afterv (ok := (fun k_ => (P0_2_ k_ ∨ w.heap.size ≤ k_) ∧ k_ ≠ gb252 ∧ k_ ≠ gb253 ∧ k_ ≠ gb254)) (by (with_reducible repeat (first | apply Kd.V_alloc | apply Kd.V_drewN | apply Kd.V_drew));exact Kd.V_mono HL256_3.out (fun _ hk => ⟨⟨hk.1,⟨hk.2.2.1,⟨hk.2.2.2.1,hk.2.2.2.2⟩⟩⟩,hk.2.1⟩)) hg hat)
        have n7_ := za.mk (Kd.V_afterv (ok := (fun k_ => (P0_2_ k_ ∨ w.heap.size ≤ k_) ∧ k_ ≠ gb252 ∧ k_ ≠ gb253 ∧ k_ ≠ gb254)) (by (with_reducible repeat (first | apply Kd.V_alloc | apply Kd.V_drewN | apply Kd.V_drew));exact Kd.V_mono HL256_4.out (fun _ hk => ⟨⟨hk.1,⟨hk.2.2.1,⟨hk.2.2.2.1,hk.2.2.2.2⟩⟩⟩,hk.2.1⟩)) hg hat)
        have n8_ := za.mk (hb)
        have n9_ := za.mk (ho)
        clear HO_253002
        clear BK252
        clear BK253
        clear BK254
        clear HL255_3
        clear HL255_4
        clear HL256_3
        clear HL256_4
        clear HB
        clear HO_255002
        have HO_253002 := n0_
        have BK252 := n1_
        have BK253 := n2_
        have BK254 := n3_
        have HL255_3 := n4_
        have HL255_4 := n5_
        have HL256_3 := n6_
        have HL256_4 := n7_
        have HB := n8_
        have HO259 := n9_
        clear n0_ n1_ n2_ n3_ n4_ n5_ n6_ n7_ n8_ n9_
        clear ho hb hg hat
        obtain ⟨Ao26,co26,eo26⟩ := Kd.N_slice HO259.out
        (first | subst eo26 | (injection eo26 with f1_ f2_ f3_;have f4_ := f1_.symm;have f5_ := f3_.symm;clear f1_ f2_ f3_;subst f4_;subst f5_))
        refine hK.out _ _ ?_
        clear hK K
        refine zbk (a' := ?_) ?_ ?_
        rotate_left
        ·show Act.put _ (some 40) _ = _
         simp only [Act.put,List.setIfInBounds_toArray,List.set_cons_zero,List.set_cons_succ,zaw,zaB]
         rfl
        refine puq (i := 9) (N := some 41) HT_.out (uQ 11 10) ?_
        refine last_ (i := 10) (N := none) (uQ 11 11) rfl rfl (zaR HT_.out (by kernel_rfl)) (by decide) (fun K hK => ?_)
        have hs27 : w25.cell? ⟨gb254,2,none⟩ = some (u255002) := (zb BK254.out 2).trans rfl
        have hfs27 := zc BK254.out 2
        have hns27_0 := NB252_254.out
        have hns27_1 := NB253_254.out
        have hms27_0 := NB254_252.out
        have hms27_1 := NB254_253.out
        refine skip_ (w1 := ?_) (by rfl) rfl ?_ ?_
        rotate_left
        ·go_simp
         rfl
        refine hK.out _ _ ?_
        clear hK K
        refine zbJ (zaU HT_.out (by kernel_rfl)) ?_
        try go_wp2
        go_roundg k1
        case measure => have := HK1.out;omega
        case rel => exact ⟨(wrap64 (x6_1 + 1)),(y257),(.slice Ao26 y257.length co26),(hDq),H',⟨by have := HK1.out;omega⟩,⟨by (with_reducible repeat (first | apply Kd.V_alloc | apply Kd.V_drewN | apply Kd.V_drew));exact Kd.V_mono (Kd.V_far (p := ⟨gb254,2,none⟩) (Kd.V_mono HO_253002.out (fun k_ hk => (⟨hk,hk.1.2.2.2⟩ : _ ∧ k_ ≠ gb254))) (fun _ hk => hk.2) (.slice Ao26 y257.length co26)) (fun _ hk => ⟨hk.1.1.1,⟨hk.1.2,⟨hk.1.1.2.1,⟨hk.1.1.2.2.1,hk.1.1.2.2.2⟩⟩⟩⟩)⟩,⟨by (with_reducible repeat (first | apply Kd.N_alloc | apply Kd.N_drewN | apply Kd.N_drew));exact Kd.N_mono (Kd.N_far (p := ⟨gb254,2,none⟩) (Kd.N_mono HO259.out (fun k_ hk => (⟨hk,hk.2.2.2⟩ : _ ∧ k_ ≠ gb254))) (fun _ hk => hk.2) (.slice Ao26 y257.length co26)) (fun _ hk => ⟨hk.1.1,⟨hk.1.2.1,⟨hk.1.2.2.1,hk.1.2.2.2⟩⟩⟩)⟩,⟨hxq1 NB252_254.out BK252.out⟩,⟨hxq1 NB253_254.out BK253.out⟩,⟨hxq0p BK254.out⟩,⟨by repeat (first | (with_reducible first | exact HB.out | apply zk | apply zi | apply zo | refine zj ?_ GE252.out | refine zj ?_ GE253.out | refine zj ?_ GE254.out) | exact HB.out)⟩⟩
       ·rw [if_neg c20] at H
        exact absurd H (by simp)
      ·rw [if_neg c19] at H
       have c19b0 : decide (a1 < ((zd l0_2 x6_1).f1.f1)) = false := decide_eq_false c19
       clear c19
       have H' := za.mk H
       clear H
       have hnb28 := NB252_253.out
       have hnc28 := NB253_252.out
       have hnb29 := NB252_254.out
       have hnc29 := NB254_252.out
       obtain ⟨hcz30_0,hcz30_1,hcz30_2,hfz30_0,hfz30_1,hfz30_2⟩ := hcq3 BK252.out
       have p255 : 0 ≤ (x6_1 : Int) := hFq
       have q255 : x6_1 < (l0_2.length : Int) := hFq
       obtain ⟨ad255,A255_3,c255_3,A255_4,c255_4,e255,hx255_0,hx255_1,hx255_2,hx255_3,hx255_4,hx255_5,hx255_6,hl255_3,hi255_3,hl255_4,hi255_4⟩ := zaG (Kd.V_reads' HO_253002.out).2.2 x6_1 p255 q255
       cases e255
       obtain ⟨ce255,hce255,hMe255,hcc255⟩ := Kd.V_get HO_253002.out z42 x6_1 p255 (by first | exact q255 | exact hFq | (have e_ := (Kd.V_reads' HO_253002.out).1;omega))
       obtain ⟨ua255_3,uc255_3,ua255_4,uc255_4,rfl,ul255_3,ge255_3,ul255_4,ge255_4⟩ := zaF hMe255
       have hv255_3 := hcc255 3 _ rfl
       rw [zQ _ _ 3 (by omega)] at hv255_3
       replace hv255_3 := Option.some.inj (hv255_3.symm.trans hx255_3)
       injection hv255_3 with hva_ hvn_ hvc_
       rw [hva_] at ge255_3
       rw [hvc_] at ul255_3
       have HL255_3 := za.mk (show Kd.V k67 67 _ w.heap.size _ _ ((zd l0_2 x6_1).f1.f2) from Kd.V_mk ul255_3 ge255_3)
       clear hva_ hvn_ hvc_ ge255_3 ul255_3
       have hv255_4 := hcc255 4 _ rfl
       rw [zQ _ _ 4 (by omega)] at hv255_4
       replace hv255_4 := Option.some.inj (hv255_4.symm.trans hx255_4)
       injection hv255_4 with hva_ hvn_ hvc_
       rw [hva_] at ge255_4
       rw [hvc_] at ul255_4
       have HL255_4 := za.mk (show Kd.V Kd.string 9 _ w.heap.size _ _ ((zd l0_2 x6_1).f1.f3) from Kd.V_mk ul255_4 ge255_4)
       clear hva_ hvn_ hvc_ ge255_4 ul255_4
       clear hcc255 hce255
       have HR255_3 := za.mk hi255_3
       have HC255_3 := za.mk hl255_3
       clear hi255_3 hl255_3
       have HR255_4 := za.mk hi255_4
       have HC255_4 := za.mk hl255_4
       clear hi255_4 hl255_4
       replace p255 := eq_true p255
       replace q255 := eq_true q255
       go_wp2
       go_roundg k1
       case measure => have := HK1.out;omega
       case rel => exact ⟨(wrap64 (x6_1 + 1)),(x255002_1),(u255002),(hDq),H',⟨by have := HK1.out;omega⟩,⟨by (with_reducible repeat (first | apply Kd.V_alloc | apply Kd.V_drewN | apply Kd.V_drew));exact HO_253002.out⟩,⟨by (with_reducible repeat (first | apply Kd.N_alloc | apply Kd.N_drewN | apply Kd.N_drew));exact HO_255002.out⟩,⟨hGq BK252.out⟩,⟨hGq BK253.out⟩,⟨hGq BK254.out⟩,⟨by repeat (first | (with_reducible first | exact HB.out | apply zk | apply zi | apply zo | refine zj ?_ GE252.out | refine zj ?_ GE253.out | refine zj ?_ GE254.out) | exact HB.out)⟩⟩
     ·rw [if_neg c18] at H
      exact absurd H (by simp)
    ·rw [if_neg c17] at H
     have c17b0 : decide (x6_1 < (l0_2.length : Int)) = false := decide_eq_false c17
     clear c17
     simp only [Option.some.injEq,Prod.mk.injEq] at H
     obtain ⟨rfl,rfl,rfl⟩ := H
     have hnb31 := NB252_253.out
     have hnc31 := NB253_252.out
     have hnb32 := NB252_254.out
     have hnc32 := NB254_252.out
     obtain ⟨hcz33_0,hcz33_1,hcz33_2,hfz33_0,hfz33_1,hfz33_2⟩ := hcq3 BK252.out
     have hnb34 := NB254_253.out
     have hnc34 := NB253_254.out
     obtain ⟨hcz35_0,hcz35_1,hcz35_2,hfz35_0,hfz35_1,hfz35_2⟩ := hcq3 BK254.out
     obtain ⟨hcz36_0,hcz36_1,hcz36_2,hfz36_0,hfz36_1,hfz36_2⟩ := hcq3 BK253.out
     obtain ⟨Ao37,co37,eo37⟩ := Kd.N_slice HO_255002.out
     subst eo37
     go_wp2
     refine bodyPost_ret (results_cell_row rfl _ _ gb253 24 #[.int .i64 a0_0,.int .i64 a1,.slice Ao37 x255002_1.length co37] (0,0) _ rfl (hxq0p BK253.out) Tryz.underlying24 rfl (by kernel_rfl)) rfl ?_
     exact ⟨_,hHq,Kd.N_V (by (with_reducible repeat (first | apply Kd.N_alloc | apply Kd.N_drewN | apply Kd.N_drew));exact Kd.N_mono (Kd.N_far (p := ⟨gb253,2,none⟩) (Kd.N_far (p := ⟨gb253,1,none⟩) (Kd.N_far (p := ⟨gb253,0,none⟩) (Kd.N_mono HO_255002.out (fun k_ hk => (⟨hk,hk.2.2.1⟩ : _ ∧ k_ ≠ gb253))) (fun _ hk => hk.2) (.int .i64 a0_0)) (fun _ hk => hk.2) (.int .i64 a1)) (fun _ hk => hk.2) (.slice Ao37 x255002_1.length co37)) (fun _ hk => hk.1.1)),hCq⟩
end Go.Proofs.YtlkfelmbhldgfaaGreat.Px