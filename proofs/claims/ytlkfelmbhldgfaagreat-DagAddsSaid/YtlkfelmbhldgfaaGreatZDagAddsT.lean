/- Part 20 of 36 of the proof of the law DagAdds: what is proved is the statement at the end of the last part; its conditions are those of the given row. -/
import Derived.MapKept
import Derived.Laws.NewBlocks
import Derived.Maps.OwnOps
import Derived.Test.YtlkfelmbhldgfaaGreatZDagAddsD
namespace Go.Proofs.YtlkfelmbhldgfaaGreat.Px
open Go.RowKit Go.Proofs.YtlkfelmbhldgfaaGreatW.PrintWords Go.Proofs.YtlkfelmbhldgfaaGreatW.PrintLast Go.Proofs.YtlkfelmbhldgfaaGreatW.PrintMore
attribute [local go_sem] zA zC zH zI zv zw zB zD
set_option linter.unusedVariables false
set_option linter.unusedSimpArgs false
def za8.l0 : Nat → Int → List (S42) → List (S42) → Int → Int → Option ((List (S42)))
 | 0,_,_,_,_,_ => none
 | k + 1,x1,x5,x9,x10,x11 => if x11 < x10 then (if 0 ≤ x11 then (if x11 < (x9.length : Int) then (if ((zd x9 x11).f1.f1) = x1 then (if x5.length < 1466015503701 then (za8.l0 k x1 (x5 ++ [(⟨(zd x9 x11).f0,(⟨(zd x9 x11).f1.f0,(zd x9 x11).f1.f1,(zd x9 x11).f1.f2,(zd x9 x11).f1.f3,(⟨(zd x9 x11).f1.f4.f0,(zd x9 x11).f1.f4.f1⟩ : S28)⟩ : S30)⟩ : S42)]) x9 x10 (wrap64 (x11 + 1))) else (none)) else (za8.l0 k x1 x5 x9 x10 (wrap64 (x11 + 1)))) else (none)) else (none)) else (some x5)
def za8.f (k : Nat) (a0_0 : Int) (a0_1 : Int) (l0_2 : List (S42)) (a1 : Int) : Option ((List (S42))) := za8.l0 k a1 ([] : List (S42)) l0_2 (l0_2.length : Int) 0
set_option maxHeartbeats 8000000 in
set_option maxRecDepth 100000 in
theorem za8.calls (k : Nat) (a0_0 : Int) (a0_1 : Int) (P0_2_ : Nat → Prop) (A0_2 : Option Addr) (c0_2 : Nat) (l0_2 : List (S42)) (a1 : Int) (r : List (S42)) (w : World) (hs0_2 : Kd.V k42 42 w w.heap.size (fun k_ => P0_2_ k_) (.slice A0_2 l0_2.length c0_2) l0_2) (h : za8.f k a0_0 a0_1 l0_2 a1 = some r) :
  Calls Tryz.prog 35 #[.agg #[.int .i64 a0_0,.int .i64 a0_1,.slice A0_2 l0_2.length c0_2],.int .i64 a1] w fun e w' => ∃ v0_ : Value,e = .returned (v0_) ∧ Kd.N k42 42 w' w.heap.size (fun k_ => (P0_2_ k_ ∨ w.heap.size ≤ k_)) v0_ r ∧ Below w.heap.size w w' := by
 have hu24 := Tryz.underlying24
 have hu42 := Tryz.underlying42
 have HO0_2 := za.mk (show Kd.V k42 42 w w.heap.size (fun k_ => (P0_2_ k_ ∨ w.heap.size ≤ k_)) (.slice A0_2 l0_2.length c0_2) l0_2 from Kd.V_mono hs0_2 (fun k_ hk => .inl hk))
 have HB := za.mk (Below.refl w.heap.size w)
 have H : (za8.l0 k a1 ([] : List (S42)) l0_2 (l0_2.length : Int) 0) = some r := h
 clear h
 have H' := za.mk H
 clear H
 go_enter Tryz.func35,Tryz.ntmps35
 go_wp2_with (first | ((with_reducible refine zn (N := 2) rfl ?_);refine zl rfl (N := 2) rfl (cs := #[.int .i64 a0_0,.int .i64 a0_1,.slice A0_2 l0_2.length c0_2]) (t := 24) hrq ?_;intro gb135 hg w3 hbox hb;have n_ := haq (Kd.V_below (Kd.V_elderB (by (with_reducible repeat (first | apply Kd.V_alloc | apply Kd.V_drewN | apply Kd.V_drew));exact HO0_2.out) gb135 (Nat.le_of_eq hg.symm)) hb) <| haq (ze hBq hb) <| haq (hbox) <| haq ((by rw [hg];exact (zg hBq) : w.heap.size ≤ gb135)) <| haq ((by rw [hg];exact (zg hBq) : w.heap.size ≤ gb135)) <| trivial;clear HO0_2 HB;obtain ⟨HO0_2,HB,BK135,GW135,GE135,_⟩ := n_;clear hb hbox hg;obtain ⟨hcz4_0,hcz4_1,hcz4_2,hfz4_0,hfz4_1,hfz4_2⟩ := hcq3 BK135.out))
 go_loopg [5,11] k (fun kq v5 v11 w' => ∃ (x5_1 : List (S42)) (x11_1 : Int),v11 = .int .i64 x11_1 ∧ za (za8.l0 kq a1 x5_1 l0_2 (l0_2.length : Int) x11_1 = some r) ∧ za (kq ≤ k) ∧ za (Kd.N k42 42 w' w.heap.size (fun k_ => (P0_2_ k_ ∨ w.heap.size ≤ k_) ∧ k_ ≠ gb135) v5 x5_1) ∧ za (Kd.V k42 42 w' w.heap.size (fun k_ => (P0_2_ k_ ∨ w.heap.size ≤ k_) ∧ some k_ ≠ (v5 : Value).ownBlock ∧ k_ ≠ gb135) (.slice A0_2 l0_2.length c0_2) l0_2) ∧ za (Kd.V k42 42 w' w.heap.size (fun k_ => (P0_2_ k_ ∨ w.heap.size ≤ k_) ∧ some k_ ≠ (v5 : Value).ownBlock ∧ k_ ≠ gb135) (.slice A0_2 l0_2.length c0_2) l0_2) ∧ za (w'.heap[gb135]? = some (.cells #[.int .i64 a0_0,.int .i64 a0_1,(.slice A0_2 l0_2.length c0_2)] 24 (0,0))) ∧ za (Below w.heap.size w w'))
 case atStart => exact ⟨(([] : List (S42))),(0),(hDq),H',⟨Nat.le_refl _⟩,⟨by first | exact Kd.R_nil _ _ _ _ _ | exact Kd.N_nil _ _ _ _ _ | exact Kd.V_nil _ _ _ _ _ | exact Kd.Q_nil _ _ _ _ _ | exact Kd.S_nil _ _ _ _ _⟩,⟨by (with_reducible repeat (first | apply Kd.V_alloc | apply Kd.V_drewN | apply Kd.V_drew));exact Kd.V_mono HO0_2.out (fun _ hk => ⟨hk.1,⟨(by simp [Value.ownBlock]),hk.2⟩⟩)⟩,⟨by (with_reducible repeat (first | apply Kd.V_alloc | apply Kd.V_drewN | apply Kd.V_drew));exact Kd.V_mono HO0_2.out (fun _ hk => ⟨hk.1,⟨(by simp [Value.ownBlock]),hk.2⟩⟩)⟩,⟨hGq BK135.out⟩,⟨by repeat (first | (with_reducible first | exact HB.out | apply zk | apply zi | apply zo | refine zj ?_ GE135.out) | exact HB.out)⟩⟩
 case round =>
  clear H'
  try clear p2;try clear c3;try clear hcz4_0;try clear hcz4_1;try clear hcz4_2;try clear hfz4_0;try clear hfz4_1;try clear hfz4_2
  obtain ⟨x5_1,x11_1,rfl,HA,HK1,HO_5,HO_9,HO_136002,BK135,HB⟩ := hrel
  cases gk with
  | zero => exact absurd HA.out (by simp [za8.l0])
  | succ k1 =>
   have H := HA.out
   clear HA
   simp only [za8.l0] at H
   by_cases c5 : x11_1 < (l0_2.length : Int)
   ·rw [if_pos c5] at H
    have c5b0 : decide (x11_1 < (l0_2.length : Int)) = true := decide_eq_true c5
    clear c5
    by_cases c6 : 0 ≤ x11_1
    ·rw [if_pos c6] at H
     have c6b0 : decide (0 ≤ x11_1) = true := decide_eq_true c6
     clear c6
     by_cases c7 : x11_1 < (l0_2.length : Int)
     ·rw [if_pos c7] at H
      have c7b0 : decide (x11_1 < (l0_2.length : Int)) = true := decide_eq_true c7
      clear c7
      by_cases c8 : ((zd l0_2 x11_1).f1.f1) = a1
      ·rw [if_pos c8] at H
       have c8b0 : (((zd l0_2 x11_1).f1.f1) == a1) = true := beq_iff_eq.mpr c8
       have c8b1 : (((zd l0_2 x11_1).f1.f1) != a1) = false := bne_eq_false_iff_eq.mpr c8
       clear c8
       by_cases c9 : x5_1.length < 1466015503701
       ·rw [if_pos c9] at H
        have LMc9 := za.mk c9
        clear c9
        obtain ⟨y138,hy138⟩ : ∃ y_ : List (S42),y_ = (x5_1 ++ [(⟨(zd l0_2 x11_1).f0,(⟨(zd l0_2 x11_1).f1.f0,(zd l0_2 x11_1).f1.f1,(zd l0_2 x11_1).f1.f2,(zd l0_2 x11_1).f1.f3,(⟨(zd l0_2 x11_1).f1.f4.f0,(zd l0_2 x11_1).f1.f4.f1⟩ : S28)⟩ : S30)⟩ : S42)]) := ⟨_,rfl⟩
        replace H : (za8.l0 k1 a1 y138 l0_2 (l0_2.length : Int) (wrap64 (x11_1 + 1))) = some r := by first | (rw [hy138];with_reducible exact H) | (have H2_ := (Option.bind_some _ _).symm.trans H;rw [hy138];with_reducible exact H2_) | (have H2_ := (Option.bind_some _ _).symm.trans H;with_reducible exact H2_) | with_reducible exact H | (rw [hy138];exact H) | exact H
        have Ny138 := za.mk hy138
        clear hy138
        have H' := za.mk H
        clear H
        have p136 : 0 ≤ (x11_1 : Int) := hFq
        have q136 : x11_1 < (l0_2.length : Int) := hFq
        obtain ⟨ad136,A136_3,c136_3,A136_4,c136_4,e136,hx136_0,hx136_1,hx136_2,hx136_3,hx136_4,hx136_5,hx136_6,hl136_3,hi136_3,hl136_4,hi136_4⟩ := zaG (Kd.V_reads' HO_9.out).2.2 x11_1 p136 q136
        cases e136
        obtain ⟨ce136,hce136,hMe136,hcc136⟩ := Kd.V_get HO_9.out z42 x11_1 p136 (by first | exact q136 | exact hFq | (have e_ := (Kd.V_reads' HO_9.out).1;omega))
        obtain ⟨ua136_3,uc136_3,ua136_4,uc136_4,rfl,ul136_3,ge136_3,ul136_4,ge136_4⟩ := zaF hMe136
        have hv136_3 := hcc136 3 _ rfl
        rw [zQ _ _ 3 (by omega)] at hv136_3
        replace hv136_3 := Option.some.inj (hv136_3.symm.trans hx136_3)
        injection hv136_3 with hva_ hvn_ hvc_
        rw [hva_] at ge136_3
        rw [hvc_] at ul136_3
        have HL136_3 := za.mk (show Kd.V k67 67 _ w.heap.size _ _ ((zd l0_2 x11_1).f1.f2) from Kd.V_mk ul136_3 ge136_3)
        clear hva_ hvn_ hvc_ ge136_3 ul136_3
        have hv136_4 := hcc136 4 _ rfl
        rw [zQ _ _ 4 (by omega)] at hv136_4
        replace hv136_4 := Option.some.inj (hv136_4.symm.trans hx136_4)
        injection hv136_4 with hva_ hvn_ hvc_
        rw [hva_] at ge136_4
        rw [hvc_] at ul136_4
        have HL136_4 := za.mk (show Kd.V Kd.string 9 _ w.heap.size _ _ ((zd l0_2 x11_1).f1.f3) from Kd.V_mk ul136_4 ge136_4)
        clear hva_ hvn_ hvc_ ge136_4 ul136_4
        clear hcc136 hce136
        have HR136_3 := za.mk hi136_3
        have HC136_3 := za.mk hl136_3
        clear hi136_3 hl136_3
        have HR136_4 := za.mk hi136_4
        have HC136_4 := za.mk hl136_4
        clear hi136_4 hl136_4
        replace p136 := eq_true p136
        replace q136 := eq_true q136
        go_wp2_with (first | ((with_reducible refine zn (N := 7) rfl ?_);refine zl rfl (N := 7) rfl (cs := #[.string (⟨#[]⟩ : ByteArray),.int .i64 0,.int .i64 0,.slice none 0 0,.slice none 0 0,.int .i64 0,.int .i64 0]) (t := 42) hrq ?_;intro gb137 hg w10 hbox hb;have n_ := haq (Kd.N_below (Kd.N_elderB (by (with_reducible repeat (first | apply Kd.N_alloc | apply Kd.N_drewN | apply Kd.N_drew));exact HO_5.out) gb137 (Nat.le_of_eq hg.symm)) hb) <| haq (Kd.V_below (Kd.V_elderB (by (with_reducible repeat (first | apply Kd.V_alloc | apply Kd.V_drewN | apply Kd.V_drew));exact HO_9.out) gb137 (Nat.le_of_eq hg.symm)) hb) <| haq (Kd.V_below (Kd.V_elderB (by (with_reducible repeat (first | apply Kd.V_alloc | apply Kd.V_drewN | apply Kd.V_drew));exact HO_136002.out) gb137 (Nat.le_of_eq hg.symm)) hb) <| haq (Kd.V_below (Kd.V_elderB (by (with_reducible repeat (first | apply Kd.V_alloc | apply Kd.V_drewN | apply Kd.V_drew));exact HL136_3.out) gb137 (Nat.le_of_eq hg.symm)) hb) <| haq (Kd.V_below (Kd.V_elderB (by (with_reducible repeat (first | apply Kd.V_alloc | apply Kd.V_drewN | apply Kd.V_drew));exact HL136_4.out) gb137 (Nat.le_of_eq hg.symm)) hb) <| haq (hbq BK135.out hb) <| haq (Kd.C_below (by repeat (first | (with_reducible exact HR136_3.out) | (with_reducible refine Kd.C_alloc ?_ _) | (with_reducible refine Kd.C_drewN ?_ _) | (with_reducible refine Kd.C_drew ?_) | exact HR136_3.out)) hb) <| haq (Kd.C_below (by repeat (first | (with_reducible exact HR136_4.out) | (with_reducible refine Kd.C_alloc ?_ _) | (with_reducible refine Kd.C_drewN ?_ _) | (with_reducible refine Kd.C_drew ?_) | exact HR136_4.out)) hb) <| haq (ze hCq hb) <| haq (hbox) <| haq ((by rw [hg];exact (zg hCq) : w.heap.size ≤ gb137)) <| haq ((by rw [hg];exact (zg hCq) : w.heap.size ≤ gb137)) <| haq (hnq hg BK135.out) <| haq (hmq hg BK135.out) <| trivial;clear HO_5 HO_9 HO_136002 HL136_3 HL136_4 BK135 HR136_3 HR136_4 HB;obtain ⟨HO_5,HO_9,HO_136002,HL136_3,HL136_4,BK135,HR136_3,HR136_4,HB,BK137,GW137,GE137,NB135_137,NB137_135,_⟩ := n_;clear hb hbox hg;have hnb11 := NB137_135.out;have hnc11 := NB135_137.out;obtain ⟨hcz12_0,hcz12_1,hcz12_2,hcz12_3,hcz12_4,hcz12_5,hcz12_6,hfz12_0,hfz12_1,hfz12_2,hfz12_3,hfz12_4,hfz12_5,hfz12_6⟩ := hcq7 BK137.out) | ((with_reducible refine za0 (t := 42) (p := 7) rfl ?_);refine zaS (t := 42) (p := 7) (v := _) (w1 := (((((((w10.setCell ⟨gb137,0,none⟩ (.string ((zd l0_2 x11_1).f0))).setCell ⟨gb137,1,none⟩ (.int .i64 ((zd l0_2 x11_1).f1.f0))).setCell ⟨gb137,2,none⟩ (.int .i64 ((zd l0_2 x11_1).f1.f1))).setCell ⟨gb137,3,none⟩ (.slice A136_3 ((zd l0_2 x11_1).f1.f2).length c136_3)).setCell ⟨gb137,4,none⟩ (.slice A136_4 ((zd l0_2 x11_1).f1.f3).length c136_4)).setCell ⟨gb137,5,none⟩ (.int .i64 ((zd l0_2 x11_1).f1.f4.f0))).setCell ⟨gb137,6,none⟩ (.int .i64 ((zd l0_2 x11_1).f1.f4.f1)))) rfl rfl rfl hrq ?_;intro w13 hw;have n_ := haq (((by rw [hw];exact (by (with_reducible repeat (first | apply Kd.N_alloc | apply Kd.N_drewN | apply Kd.N_drew));exact Kd.N_mono (Kd.N_far (p := ⟨gb137,6,none⟩) (Kd.N_far (p := ⟨gb137,5,none⟩) (Kd.N_far (p := ⟨gb137,4,none⟩) (Kd.N_far (p := ⟨gb137,3,none⟩) (Kd.N_far (p := ⟨gb137,2,none⟩) (Kd.N_far (p := ⟨gb137,1,none⟩) (Kd.N_far (p := ⟨gb137,0,none⟩) (Kd.N_mono HO_5.out (fun k_ hk => (⟨hk,hk.2⟩ : _ ∧ k_ ≠ gb137))) (fun _ hk => hk.2) (.string ((zd l0_2 x11_1).f0))) (fun _ hk => hk.2) (.int .i64 ((zd l0_2 x11_1).f1.f0))) (fun _ hk => hk.2) (.int .i64 ((zd l0_2 x11_1).f1.f1))) (fun _ hk => hk.2) (.slice A136_3 ((zd l0_2 x11_1).f1.f2).length c136_3)) (fun _ hk => hk.2) (.slice A136_4 ((zd l0_2 x11_1).f1.f3).length c136_4)) (fun _ hk => hk.2) (.int .i64 ((zd l0_2 x11_1).f1.f4.f0))) (fun _ hk => hk.2) (.int .i64 ((zd l0_2 x11_1).f1.f4.f1))) (fun _ hk => ⟨hk.1.1.1,⟨hk.1.1.2,hk.1.2⟩⟩))) : Kd.N k42 42 w13 w.heap.size (fun k_ => (P0_2_ k_ ∨ w.heap.size ≤ k_) ∧ k_ ≠ gb135 ∧ k_ ≠ gb137) u5 x5_1)) <| haq (((by rw [hw];exact (by (with_reducible repeat (first | apply Kd.V_alloc | apply Kd.V_drewN | apply Kd.V_drew));exact Kd.V_mono (Kd.V_far (p := ⟨gb137,6,none⟩) (Kd.V_far (p := ⟨gb137,5,none⟩) (Kd.V_far (p := ⟨gb137,4,none⟩) (Kd.V_far (p := ⟨gb137,3,none⟩) (Kd.V_far (p := ⟨gb137,2,none⟩) (Kd.V_far (p := ⟨gb137,1,none⟩) (Kd.V_far (p := ⟨gb137,0,none⟩) (Kd.V_mono HO_9.out (fun k_ hk => (⟨hk,hk.2⟩ : _ ∧ k_ ≠ gb137))) (fun _ hk => hk.2) (.string ((zd l0_2 x11_1).f0))) (fun _ hk => hk.2) (.int .i64 ((zd l0_2 x11_1).f1.f0))) (fun _ hk => hk.2) (.int .i64 ((zd l0_2 x11_1).f1.f1))) (fun _ hk => hk.2) (.slice A136_3 ((zd l0_2 x11_1).f1.f2).length c136_3)) (fun _ hk => hk.2) (.slice A136_4 ((zd l0_2 x11_1).f1.f3).length c136_4)) (fun _ hk => hk.2) (.int .i64 ((zd l0_2 x11_1).f1.f4.f0))) (fun _ hk => hk.2) (.int .i64 ((zd l0_2 x11_1).f1.f4.f1))) (fun _ hk => ⟨hk.1.1.1,⟨hk.1.1.2.1,⟨hk.1.1.2.2,hk.1.2⟩⟩⟩))) : Kd.V k42 42 w13 w.heap.size (fun k_ => (P0_2_ k_ ∨ w.heap.size ≤ k_) ∧ some k_ ≠ (u5 : Value).ownBlock ∧ k_ ≠ gb135 ∧ k_ ≠ gb137) (.slice (some ad136) l0_2.length c0_2) l0_2)) <| haq (((by rw [hw];exact (by (with_reducible repeat (first | apply Kd.V_alloc | apply Kd.V_drewN | apply Kd.V_drew));exact Kd.V_mono (Kd.V_far (p := ⟨gb137,6,none⟩) (Kd.V_far (p := ⟨gb137,5,none⟩) (Kd.V_far (p := ⟨gb137,4,none⟩) (Kd.V_far (p := ⟨gb137,3,none⟩) (Kd.V_far (p := ⟨gb137,2,none⟩) (Kd.V_far (p := ⟨gb137,1,none⟩) (Kd.V_far (p := ⟨gb137,0,none⟩) (Kd.V_mono HO_136002.out (fun k_ hk => (⟨hk,hk.2⟩ : _ ∧ k_ ≠ gb137))) (fun _ hk => hk.2) (.string ((zd l0_2 x11_1).f0))) (fun _ hk => hk.2) (.int .i64 ((zd l0_2 x11_1).f1.f0))) (fun _ hk => hk.2) (.int .i64 ((zd l0_2 x11_1).f1.f1))) (fun _ hk => hk.2) (.slice A136_3 ((zd l0_2 x11_1).f1.f2).length c136_3)) (fun _ hk => hk.2) (.slice A136_4 ((zd l0_2 x11_1).f1.f3).length c136_4)) (fun _ hk => hk.2) (.int .i64 ((zd l0_2 x11_1).f1.f4.f0))) (fun _ hk => hk.2) (.int .i64 ((zd l0_2 x11_1).f1.f4.f1))) (fun _ hk => ⟨hk.1.1.1,⟨hk.1.1.2.1,⟨hk.1.1.2.2,hk.1.2⟩⟩⟩))) : Kd.V k42 42 w13 w.heap.size (fun k_ => (P0_2_ k_ ∨ w.heap.size ≤ k_) ∧ some k_ ≠ (u5 : Value).ownBlock ∧ k_ ≠ gb135 ∧ k_ ≠ gb137) (.slice (some ad136) l0_2.length c0_2) l0_2)) <| haq (((by rw [hw];exact (by (with_reducible repeat (first | apply Kd.V_alloc | apply Kd.V_drewN | apply Kd.V_drew));exact Kd.V_mono (Kd.V_far (p := ⟨gb137,6,none⟩) (Kd.V_far (p := ⟨gb137,5,none⟩) (Kd.V_far (p := ⟨gb137,4,none⟩) (Kd.V_far (p := ⟨gb137,3,none⟩) (Kd.V_far (p := ⟨gb137,2,none⟩) (Kd.V_far (p := ⟨gb137,1,none⟩) (Kd.V_far (p := ⟨gb137,0,none⟩) (Kd.V_mono HL136_3.out (fun k_ hk => (⟨hk,hk.2⟩ : _ ∧ k_ ≠ gb137))) (fun _ hk => hk.2) (.string ((zd l0_2 x11_1).f0))) (fun _ hk => hk.2) (.int .i64 ((zd l0_2 x11_1).f1.f0))) (fun _ hk => hk.2) (.int .i64 ((zd l0_2 x11_1).f1.f1))) (fun _ hk => hk.2) (.slice A136_3 ((zd l0_2 x11_1).f1.f2).length c136_3)) (fun _ hk => hk.2) (.slice A136_4 ((zd l0_2 x11_1).f1.f3).length c136_4)) (fun _ hk => hk.2) (.int .i64 ((zd l0_2 x11_1).f1.f4.f0))) (fun _ hk => hk.2) (.int .i64 ((zd l0_2 x11_1).f1.f4.f1))) (fun _ hk => ⟨hk.1.1.1,⟨hk.1.1.2.1,⟨hk.1.1.2.2,hk.1.2⟩⟩⟩))) : Kd.V k67 67 w13 w.heap.size (fun k_ => (P0_2_ k_ ∨ w.heap.size ≤ k_) ∧ some k_ ≠ (u5 : Value).ownBlock ∧ k_ ≠ gb135 ∧ k_ ≠ gb137) (.slice A136_3 ((zd l0_2 x11_1).f1.f2).length c136_3) ((zd l0_2 x11_1).f1.f2))) <| haq (((by rw [hw];exact (by (with_reducible repeat (first | apply Kd.V_alloc | apply Kd.V_drewN | apply Kd.V_drew));exact Kd.V_mono (Kd.V_far (p := ⟨gb137,6,none⟩) (Kd.V_far (p := ⟨gb137,5,none⟩) (Kd.V_far (p := ⟨gb137,4,none⟩) (Kd.V_far (p := ⟨gb137,3,none⟩) (Kd.V_far (p := ⟨gb137,2,none⟩) (Kd.V_far (p := ⟨gb137,1,none⟩) (Kd.V_far (p := ⟨gb137,0,none⟩) (Kd.V_mono HL136_4.out (fun k_ hk => (⟨hk,hk.2⟩ : _ ∧ k_ ≠ gb137))) (fun _ hk => hk.2) (.string ((zd l0_2 x11_1).f0))) (fun _ hk => hk.2) (.int .i64 ((zd l0_2 x11_1).f1.f0))) (fun _ hk => hk.2) (.int .i64 ((zd l0_2 x11_1).f1.f1))) (fun _ hk => hk.2) (.slice A136_3 ((zd l0_2 x11_1).f1.f2).length c136_3)) (fun _ hk => hk.2) (.slice A136_4 ((zd l0_2 x11_1).f1.f3).length c136_4)) (fun _ hk => hk.2) (.int .i64 ((zd l0_2 x11_1).f1.f4.f0))) (fun _ hk => hk.2) (.int .i64 ((zd l0_2 x11_1).f1.f4.f1))) (fun _ hk => ⟨hk.1.1.1,⟨hk.1.1.2.1,⟨hk.1.1.2.2,hk.1.2⟩⟩⟩))) : Kd.V Kd.string 9 w13 w.heap.size (fun k_ => (P0_2_ k_ ∨ w.heap.size ≤ k_) ∧ some k_ ≠ (u5 : Value).ownBlock ∧ k_ ≠ gb135 ∧ k_ ≠ gb137) (.slice A136_4 ((zd l0_2 x11_1).f1.f3).length c136_4) ((zd l0_2 x11_1).f1.f3))) <| haq (hfq hw NB135_137.out BK135.out) <| haq (((by rw [hw];exact (hxq0p BK137.out)) : w13.heap[gb137]? = some (.cells #[.string ((zd l0_2 x11_1).f0),.int .i64 ((zd l0_2 x11_1).f1.f0),.int .i64 ((zd l0_2 x11_1).f1.f1),.slice A136_3 ((zd l0_2 x11_1).f1.f2).length c136_3,.slice A136_4 ((zd l0_2 x11_1).f1.f3).length c136_4,.int .i64 ((zd l0_2 x11_1).f1.f4.f0),.int .i64 ((zd l0_2 x11_1).f1.f4.f1)] 42 (0,0)))) <| haq (((by rw [hw];exact hCq) : Below w.heap.size w w13)) <| trivial;clear hw HO_5 HO_9 HO_136002 HL136_3 HL136_4 BK135 BK137 HB;obtain ⟨HO_5,HO_9,HO_136002,HL136_3,HL136_4,BK135,BK137,HB,_⟩ := n_;obtain ⟨hcz14_0,hcz14_1,hcz14_2,hcz14_3,hcz14_4,hcz14_5,hcz14_6,hfz14_0,hfz14_1,hfz14_2,hfz14_3,hfz14_4,hfz14_5,hfz14_6⟩ := hcq7 BK137.out) | ((with_reducible refine zaZ (b := .append) (xs := #[.tmp 20,.tmp 22]) rfl ?_);at_builtin;refine Kd.N_append k42 (w0 := w) w.heap.size rfl (.tmp 20) (.tmp 22) 22 42 (.agg #[(.string ⟨#[]⟩),(.int .i64 0),(.int .i64 0),(.slice none 0 0),(.slice none 0 0),(.int .i64 0),(.int .i64 0)]) 96 rfl Tryz.underlying22 zb0 rfl (by decide) (by omega) u5 x5_1 (⟨(zd l0_2 x11_1).f0,(⟨(zd l0_2 x11_1).f1.f0,(zd l0_2 x11_1).f1.f1,(zd l0_2 x11_1).f1.f2,(zd l0_2 x11_1).f1.f3,(⟨(zd l0_2 x11_1).f1.f4.f0,(zd l0_2 x11_1).f1.f4.f1⟩ : S28)⟩ : S30)⟩ : S42) [.string ((zd l0_2 x11_1).f0),.int .i64 ((zd l0_2 x11_1).f1.f0),.int .i64 ((zd l0_2 x11_1).f1.f1),.slice A136_3 ((zd l0_2 x11_1).f1.f2).length c136_3,.slice A136_4 ((zd l0_2 x11_1).f1.f3).length c136_4,.int .i64 ((zd l0_2 x11_1).f1.f4.f0),.int .i64 ((zd l0_2 x11_1).f1.f4.f1)] (fun k_ => (P0_2_ k_ ∨ w.heap.size ≤ k_) ∧ k_ ≠ gb135 ∧ k_ ≠ gb137) (fun k_ => ((fun k_ => (P0_2_ k_ ∨ w.heap.size ≤ k_) ∧ k_ ≠ gb135 ∧ k_ ≠ gb137)) k_ ∧ some k_ ≠ (u5 : Value).ownBlock) rfl rfl ?aP (fun _ hk => hk) ?aF ?aO ?aB ?aS ?aL ?_;(case aP => exact (zex _ _ (⟨(zd l0_2 x11_1).f0,(⟨(zd l0_2 x11_1).f1.f0,(zd l0_2 x11_1).f1.f1,(zd l0_2 x11_1).f1.f2,(zd l0_2 x11_1).f1.f3,(⟨(zd l0_2 x11_1).f1.f4.f0,(zd l0_2 x11_1).f1.f4.f1⟩ : S28)⟩ : S30)⟩ : S42) (Kd.V_reads' (Kd.V_mono (ok' := (fun k_ => ((fun k_ => (P0_2_ k_ ∨ w.heap.size ≤ k_) ∧ k_ ≠ gb135 ∧ k_ ≠ gb137)) k_ ∧ some k_ ≠ (u5 : Value).ownBlock)) (HL136_3.out) (fun k_ hk => ⟨⟨hk.1,⟨hk.2.2.1,hk.2.2.2⟩⟩,hk.2.1⟩))).2.1 (Kd.V_F (Kd.V_mono (ok' := (fun k_ => ((fun k_ => (P0_2_ k_ ∨ w.heap.size ≤ k_) ∧ k_ ≠ gb135 ∧ k_ ≠ gb137)) k_ ∧ some k_ ≠ (u5 : Value).ownBlock)) (HL136_3.out) (fun k_ hk => ⟨⟨hk.1,⟨hk.2.2.1,hk.2.2.2⟩⟩,hk.2.1⟩))) (Kd.V_reads' (Kd.V_mono (ok' := (fun k_ => ((fun k_ => (P0_2_ k_ ∨ w.heap.size ≤ k_) ∧ k_ ≠ gb135 ∧ k_ ≠ gb137)) k_ ∧ some k_ ≠ (u5 : Value).ownBlock)) (HL136_4.out) (fun k_ hk => ⟨⟨hk.1,⟨hk.2.2.1,hk.2.2.2⟩⟩,hk.2.1⟩))).2.1 (Kd.V_F (Kd.V_mono (ok' := (fun k_ => ((fun k_ => (P0_2_ k_ ∨ w.heap.size ≤ k_) ∧ k_ ≠ gb135 ∧ k_ ≠ gb137)) k_ ∧ some k_ ≠ (u5 : Value).ownBlock)) (HL136_4.out) (fun k_ hk => ⟨⟨hk.1,⟨hk.2.2.1,hk.2.2.2⟩⟩,hk.2.1⟩)))));(case aB => exact hCq);(case aF => exact (fun k_ hk => ⟨(.inr (Nat.le_trans (zg hCq) hk)),Kd.freshB (g := gb135) (o := .cells #[.int .i64 a0_0,.int .i64 a0_1,.slice (some ad136) l0_2.length c0_2] 24 (0,0)) (hGq BK135.out) k_ hk,Kd.freshB (g := gb137) (o := .cells #[.string ((zd l0_2 x11_1).f0),.int .i64 ((zd l0_2 x11_1).f1.f0),.int .i64 ((zd l0_2 x11_1).f1.f1),.slice A136_3 ((zd l0_2 x11_1).f1.f2).length c136_3,.slice A136_4 ((zd l0_2 x11_1).f1.f3).length c136_4,.int .i64 ((zd l0_2 x11_1).f1.f4.f0),.int .i64 ((zd l0_2 x11_1).f1.f4.f1)] 42 (0,0)) (hGq BK137.out) k_ hk⟩));(case aO => exact (by (with_reducible repeat (first | apply Kd.N_alloc | apply Kd.N_drewN | apply Kd.N_drew));exact HO_5.out));(case aS => exact (zg hCq));(case aL => have := LMc9.out;omega);intro v139 w15 ho hb hg hat;rw [← Ny138.out] at ho;have n_ := haq (Kd.V_afterv (ok := (fun k_ => (P0_2_ k_ ∨ w.heap.size ≤ k_) ∧ k_ ≠ gb135 ∧ k_ ≠ gb137)) (by (with_reducible repeat (first | apply Kd.V_alloc | apply Kd.V_drewN | apply Kd.V_drew));exact Kd.V_mono HO_9.out (fun _ hk => ⟨⟨hk.1,⟨hk.2.2.1,hk.2.2.2⟩⟩,hk.2.1⟩)) hg hat) <| haq (Kd.V_afterv (ok := (fun k_ => (P0_2_ k_ ∨ w.heap.size ≤ k_) ∧ k_ ≠ gb135 ∧ k_ ≠ gb137)) (by (with_reducible repeat (first | apply Kd.V_alloc | apply Kd.V_drewN | apply Kd.V_drew));exact Kd.V_mono HO_136002.out (fun _ hk => ⟨⟨hk.1,⟨hk.2.2.1,hk.2.2.2⟩⟩,hk.2.1⟩)) hg hat) <| haq (zaE (g := gb135) (o := .cells #[.int .i64 a0_0,.int .i64 a0_1,.slice (some ad136) l0_2.length c0_2] 24 (0,0)) (hGq BK135.out) hg (Kd.N_ne HO_5.out BK135.out (by decide))) <| haq (Kd.V_afterv (ok := (fun k_ => (P0_2_ k_ ∨ w.heap.size ≤ k_) ∧ k_ ≠ gb135 ∧ k_ ≠ gb137)) (by (with_reducible repeat (first | apply Kd.V_alloc | apply Kd.V_drewN | apply Kd.V_drew));exact Kd.V_mono HL136_3.out (fun _ hk => ⟨⟨hk.1,⟨hk.2.2.1,hk.2.2.2⟩⟩,hk.2.1⟩)) hg hat) <| haq (Kd.V_afterv (ok := (fun k_ => (P0_2_ k_ ∨ w.heap.size ≤ k_) ∧ k_ ≠ gb135 ∧ k_ ≠ gb137)) (by (with_reducible repeat (first | apply Kd.V_alloc | apply Kd.V_drewN | apply Kd.V_drew));exact Kd.V_mono HL136_4.out (fun _ hk => ⟨⟨hk.1,⟨hk.2.2.1,hk.2.2.2⟩⟩,hk.2.1⟩)) hg hat) <| haq (zaE (g := gb137) (o := .cells #[.string ((zd l0_2 x11_1).f0),.int .i64 ((zd l0_2 x11_1).f1.f0),.int .i64 ((zd l0_2 x11_1).f1.f1),.slice A136_3 ((zd l0_2 x11_1).f1.f2).length c136_3,.slice A136_4 ((zd l0_2 x11_1).f1.f3).length c136_4,.int .i64 ((zd l0_2 x11_1).f1.f4.f0),.int .i64 ((zd l0_2 x11_1).f1.f4.f1)] 42 (0,0)) (hGq BK137.out) hg (Kd.N_away HO_5.out (fun _ hk => hk.2.2))) <| haq (hb) <| haq (ho) <| trivial;clear HO_9 HO_136002 BK135 HL136_3 HL136_4 BK137 HB HO_5;obtain ⟨HO_9,HO_136002,BK135,HL136_3,HL136_4,BK137,HB,HO140,_⟩ := n_;clear ho hb hg hat))
        go_roundg k1
        case measure => have := HK1.out;omega
        case rel => exact ⟨(y138),(wrap64 (x11_1 + 1)),(hDq),H',⟨by have := HK1.out;omega⟩,⟨by (with_reducible repeat (first | apply Kd.N_alloc | apply Kd.N_drewN | apply Kd.N_drew));exact Kd.N_mono HO140.out (fun _ hk => ⟨hk.1,hk.2.1⟩)⟩,⟨by (with_reducible repeat (first | apply Kd.V_alloc | apply Kd.V_drewN | apply Kd.V_drew));exact Kd.V_mono HO_9.out (fun _ hk => ⟨hk.1.1,⟨hk.2,hk.1.2.1⟩⟩)⟩,⟨by (with_reducible repeat (first | apply Kd.V_alloc | apply Kd.V_drewN | apply Kd.V_drew));exact Kd.V_mono HO_136002.out (fun _ hk => ⟨hk.1.1,⟨hk.2,hk.1.2.1⟩⟩)⟩,⟨hGq BK135.out⟩,⟨by repeat (first | (with_reducible first | exact HB.out | apply zk | apply zi | apply zo | refine zj ?_ GE135.out | refine zj ?_ GE137.out) | exact HB.out)⟩⟩
       ·rw [if_neg c9] at H
        exact absurd H (by simp)
      ·rw [if_neg c8] at H
       have c8b0 : (((zd l0_2 x11_1).f1.f1) == a1) = false := beq_eq_false_iff_ne.mpr c8
       have c8b1 : (((zd l0_2 x11_1).f1.f1) != a1) = true := bne_iff_ne.mpr c8
       have H' := za.mk H
       clear H
       have p136 : 0 ≤ (x11_1 : Int) := hFq
       have q136 : x11_1 < (l0_2.length : Int) := hFq
       obtain ⟨ad136,A136_3,c136_3,A136_4,c136_4,e136,hx136_0,hx136_1,hx136_2,hx136_3,hx136_4,hx136_5,hx136_6,hl136_3,hi136_3,hl136_4,hi136_4⟩ := zaG (Kd.V_reads' HO_9.out).2.2 x11_1 p136 q136
       cases e136
       obtain ⟨ce136,hce136,hMe136,hcc136⟩ := Kd.V_get HO_9.out z42 x11_1 p136 (by first | exact q136 | exact hFq | (have e_ := (Kd.V_reads' HO_9.out).1;omega))
       obtain ⟨ua136_3,uc136_3,ua136_4,uc136_4,rfl,ul136_3,ge136_3,ul136_4,ge136_4⟩ := zaF hMe136
       have hv136_3 := hcc136 3 _ rfl
       rw [zQ _ _ 3 (by omega)] at hv136_3
       replace hv136_3 := Option.some.inj (hv136_3.symm.trans hx136_3)
       injection hv136_3 with hva_ hvn_ hvc_
       rw [hva_] at ge136_3
       rw [hvc_] at ul136_3
       have HL136_3 := za.mk (show Kd.V k67 67 _ w.heap.size _ _ ((zd l0_2 x11_1).f1.f2) from Kd.V_mk ul136_3 ge136_3)
       clear hva_ hvn_ hvc_ ge136_3 ul136_3
       have hv136_4 := hcc136 4 _ rfl
       rw [zQ _ _ 4 (by omega)] at hv136_4
       replace hv136_4 := Option.some.inj (hv136_4.symm.trans hx136_4)
       injection hv136_4 with hva_ hvn_ hvc_
       rw [hva_] at ge136_4
       rw [hvc_] at ul136_4
       have HL136_4 := za.mk (show Kd.V Kd.string 9 _ w.heap.size _ _ ((zd l0_2 x11_1).f1.f3) from Kd.V_mk ul136_4 ge136_4)
       clear hva_ hvn_ hvc_ ge136_4 ul136_4
       clear hcc136 hce136
       have HR136_3 := za.mk hi136_3
       have HC136_3 := za.mk hl136_3
       clear hi136_3 hl136_3
       have HR136_4 := za.mk hi136_4
       have HC136_4 := za.mk hl136_4
       clear hi136_4 hl136_4
       replace p136 := eq_true p136
       replace q136 := eq_true q136
       go_wp2_with (first | ((with_reducible refine zn (N := 7) rfl ?_);refine zl rfl (N := 7) rfl (cs := #[.string (⟨#[]⟩ : ByteArray),.int .i64 0,.int .i64 0,.slice none 0 0,.slice none 0 0,.int .i64 0,.int .i64 0]) (t := 42) hrq ?_;intro gb137 hg w16 hbox hb;have n_ := haq (Kd.N_below (Kd.N_elderB (by (with_reducible repeat (first | apply Kd.N_alloc | apply Kd.N_drewN | apply Kd.N_drew));exact HO_5.out) gb137 (Nat.le_of_eq hg.symm)) hb) <| haq (Kd.V_below (Kd.V_elderB (by (with_reducible repeat (first | apply Kd.V_alloc | apply Kd.V_drewN | apply Kd.V_drew));exact HO_9.out) gb137 (Nat.le_of_eq hg.symm)) hb) <| haq (Kd.V_below (Kd.V_elderB (by (with_reducible repeat (first | apply Kd.V_alloc | apply Kd.V_drewN | apply Kd.V_drew));exact HO_136002.out) gb137 (Nat.le_of_eq hg.symm)) hb) <| haq (Kd.V_below (Kd.V_elderB (by (with_reducible repeat (first | apply Kd.V_alloc | apply Kd.V_drewN | apply Kd.V_drew));exact HL136_3.out) gb137 (Nat.le_of_eq hg.symm)) hb) <| haq (Kd.V_below (Kd.V_elderB (by (with_reducible repeat (first | apply Kd.V_alloc | apply Kd.V_drewN | apply Kd.V_drew));exact HL136_4.out) gb137 (Nat.le_of_eq hg.symm)) hb) <| haq (hbq BK135.out hb) <| haq (Kd.C_below (by repeat (first | (with_reducible exact HR136_3.out) | (with_reducible refine Kd.C_alloc ?_ _) | (with_reducible refine Kd.C_drewN ?_ _) | (with_reducible refine Kd.C_drew ?_) | exact HR136_3.out)) hb) <| haq (Kd.C_below (by repeat (first | (with_reducible exact HR136_4.out) | (with_reducible refine Kd.C_alloc ?_ _) | (with_reducible refine Kd.C_drewN ?_ _) | (with_reducible refine Kd.C_drew ?_) | exact HR136_4.out)) hb) <| haq (ze hCq hb) <| haq (hbox) <| haq ((by rw [hg];exact (zg hCq) : w.heap.size ≤ gb137)) <| haq ((by rw [hg];exact (zg hCq) : w.heap.size ≤ gb137)) <| haq (hnq hg BK135.out) <| haq (hmq hg BK135.out) <| trivial;clear HO_5 HO_9 HO_136002 HL136_3 HL136_4 BK135 HR136_3 HR136_4 HB;obtain ⟨HO_5,HO_9,HO_136002,HL136_3,HL136_4,BK135,HR136_3,HR136_4,HB,BK137,GW137,GE137,NB135_137,NB137_135,_⟩ := n_;clear hb hbox hg;have hnb17 := NB137_135.out;have hnc17 := NB135_137.out;obtain ⟨hcz18_0,hcz18_1,hcz18_2,hcz18_3,hcz18_4,hcz18_5,hcz18_6,hfz18_0,hfz18_1,hfz18_2,hfz18_3,hfz18_4,hfz18_5,hfz18_6⟩ := hcq7 BK137.out))
       go_roundg k1
       case measure => have := HK1.out;omega
       case rel => exact ⟨(x5_1),(wrap64 (x11_1 + 1)),(hDq),H',⟨by have := HK1.out;omega⟩,⟨by (with_reducible repeat (first | apply Kd.N_alloc | apply Kd.N_drewN | apply Kd.N_drew));exact Kd.N_mono (Kd.N_far (p := ⟨gb137,6,none⟩) (Kd.N_far (p := ⟨gb137,5,none⟩) (Kd.N_far (p := ⟨gb137,4,none⟩) (Kd.N_far (p := ⟨gb137,3,none⟩) (Kd.N_far (p := ⟨gb137,2,none⟩) (Kd.N_far (p := ⟨gb137,1,none⟩) (Kd.N_far (p := ⟨gb137,0,none⟩) (Kd.N_mono HO_5.out (fun k_ hk => (⟨hk,hk.2⟩ : _ ∧ k_ ≠ gb137))) (fun _ hk => hk.2) (.string ((zd l0_2 x11_1).f0))) (fun _ hk => hk.2) (.int .i64 ((zd l0_2 x11_1).f1.f0))) (fun _ hk => hk.2) (.int .i64 ((zd l0_2 x11_1).f1.f1))) (fun _ hk => hk.2) (.slice A136_3 ((zd l0_2 x11_1).f1.f2).length c136_3)) (fun _ hk => hk.2) (.slice A136_4 ((zd l0_2 x11_1).f1.f3).length c136_4)) (fun _ hk => hk.2) (.int .i64 ((zd l0_2 x11_1).f1.f4.f0))) (fun _ hk => hk.2) (.int .i64 ((zd l0_2 x11_1).f1.f4.f1))) (fun _ hk => ⟨hk.1.1.1,hk.1.1.2⟩)⟩,⟨by (with_reducible repeat (first | apply Kd.V_alloc | apply Kd.V_drewN | apply Kd.V_drew));exact Kd.V_mono (Kd.V_far (p := ⟨gb137,6,none⟩) (Kd.V_far (p := ⟨gb137,5,none⟩) (Kd.V_far (p := ⟨gb137,4,none⟩) (Kd.V_far (p := ⟨gb137,3,none⟩) (Kd.V_far (p := ⟨gb137,2,none⟩) (Kd.V_far (p := ⟨gb137,1,none⟩) (Kd.V_far (p := ⟨gb137,0,none⟩) (Kd.V_mono HO_9.out (fun k_ hk => (⟨hk,hk.2⟩ : _ ∧ k_ ≠ gb137))) (fun _ hk => hk.2) (.string ((zd l0_2 x11_1).f0))) (fun _ hk => hk.2) (.int .i64 ((zd l0_2 x11_1).f1.f0))) (fun _ hk => hk.2) (.int .i64 ((zd l0_2 x11_1).f1.f1))) (fun _ hk => hk.2) (.slice A136_3 ((zd l0_2 x11_1).f1.f2).length c136_3)) (fun _ hk => hk.2) (.slice A136_4 ((zd l0_2 x11_1).f1.f3).length c136_4)) (fun _ hk => hk.2) (.int .i64 ((zd l0_2 x11_1).f1.f4.f0))) (fun _ hk => hk.2) (.int .i64 ((zd l0_2 x11_1).f1.f4.f1))) (fun _ hk => ⟨hk.1.1.1,⟨hk.1.1.2.1,hk.1.1.2.2⟩⟩)⟩,⟨by (with_reducible repeat (first | apply Kd.V_alloc | apply Kd.V_drewN | apply Kd.V_drew));exact Kd.V_mono (Kd.V_far (p := ⟨gb137,6,none⟩) (Kd.V_far (p := ⟨gb137,5,none⟩) (Kd.V_far (p := ⟨gb137,4,none⟩) (Kd.V_far (p := ⟨gb137,3,none⟩) (Kd.V_far (p := ⟨gb137,2,none⟩) (Kd.V_far (p := ⟨gb137,1,none⟩) (Kd.V_far (p := ⟨gb137,0,none⟩) (Kd.V_mono HO_136002.out (fun k_ hk => (⟨hk,hk.2⟩ : _ ∧ k_ ≠ gb137))) (fun _ hk => hk.2) (.string ((zd l0_2 x11_1).f0))) (fun _ hk => hk.2) (.int .i64 ((zd l0_2 x11_1).f1.f0))) (fun _ hk => hk.2) (.int .i64 ((zd l0_2 x11_1).f1.f1))) (fun _ hk => hk.2) (.slice A136_3 ((zd l0_2 x11_1).f1.f2).length c136_3)) (fun _ hk => hk.2) (.slice A136_4 ((zd l0_2 x11_1).f1.f3).length c136_4)) (fun _ hk => hk.2) (.int .i64 ((zd l0_2 x11_1).f1.f4.f0))) (fun _ hk => hk.2) (.int .i64 ((zd l0_2 x11_1).f1.f4.f1))) (fun _ hk => ⟨hk.1.1.1,⟨hk.1.1.2.1,hk.1.1.2.2⟩⟩)⟩,⟨hxq1 NB135_137.out BK135.out⟩,⟨by repeat (first | (with_reducible first | exact HB.out | apply zk | apply zi | apply zo | refine zj ?_ GE135.out | refine zj ?_ GE137.out) | exact HB.out)⟩⟩
     ·rw [if_neg c7] at H
      exact absurd H (by simp)
    ·rw [if_neg c6] at H
     exact absurd H (by simp)
   ·rw [if_neg c5] at H
    have c5b0 : decide (x11_1 < (l0_2.length : Int)) = false := decide_eq_false c5
    clear c5
    obtain rfl := Option.some.inj H
    go_wp2
    go_ret
    exact ⟨_,hHq,by (with_reducible repeat (first | apply Kd.N_alloc | apply Kd.N_drewN | apply Kd.N_drew));exact Kd.N_mono HO_5.out (fun _ hk => hk.1),hCq⟩
def zcF : List (ByteArray × Value) → ByteArray → Nat → Option (Nat × Value)
 | [],_,_ => none
 | p :: l,k,i => if p.1 = k then some (i,p.2) else zcF l k (i + 1)
def zeA (l : List (ByteArray × Value)) (k : ByteArray) : Option Value := (zcF l k 0).map (·.2)
theorem zc4 : ∀ (l : List (ByteArray × Value)) (k : ByteArray) (i : Nat),zcF l k i = (zcF l k 0).map fun p => (p.1 + i,p.2)
 | [],_,_ => rfl
 | p :: l,k,i => by
  rw [zcF,zcF]
  split
  ·simp
  ·rw [zc4 l k (i + 1),zc4 l k (0 + 1),Option.map_map]
   congr 1
   funext q
   simp only [Function.comp]
   rw [Nat.zero_add,Nat.add_assoc,Nat.add_comm 1 i]
theorem zb8 (p : ByteArray × Value) (l : List (ByteArray × Value)) (k : ByteArray) : zeA (p :: l) k = if p.1 = k then some p.2 else zeA l k := by
 unfold zeA
 rw [zcF]
 split
 ·rfl
 ·rw [zc4 l k (0 + 1),Option.map_map];rfl
theorem zh0 {l : List (ByteArray × Value)} {k : ByteArray} : ∀ {i : Nat},zcF l k i = none ↔ ∀ p ∈ l,p.1 ≠ k := by
 induction l with
 | nil => simp [zcF]
 | cons p l ih =>
  intro i
  rw [zcF]
  split
  ·rename_i h;simp [h]
  ·rename_i h;rw [ih];simp [h]
theorem zh1 {l : List (ByteArray × Value)} {k : ByteArray} {i : Nat} {v : Value} (h : zcF l k 0 = some (i,v)) : l[i]? = some (k,v) := by
 induction l generalizing i with
 | nil => simp [zcF] at h
 | cons p l ih =>
  rw [zcF] at h
  split at h
  ·rename_i hk
   injection h with h
   injection h with h1 h2
   subst h1;subst h2;subst hk;rfl
  ·rw [zc4,Option.map_eq_some_iff] at h
   obtain ⟨⟨j,u⟩,hj,e⟩ := h
   injection e with e1 e2
   subst e1;subst e2
   exact ih hj
def entM (e : MapEntry) : Value × Value := (e.key,e.val)
def strM (p : ByteArray × Value) : Value × Value := (.string p.1,p.2)
theorem zdM (k : ByteArray) : ∀ (es : List MapEntry) (l : List (ByteArray × Value)) (i : Nat),es.map entM = l.map strM → Instr.findNow .string (.string k) es i = some (zcF l k i)
 | [],[],_,_ => rfl
 | [],_ :: _,_,h => by simp at h
 | _ :: _,[],_,h => by simp at h
 | e :: es,p :: l,i,h => by
  rw [List.map_cons,List.map_cons,List.cons.injEq] at h
  obtain ⟨h1,h2⟩ := h
  have ek : e.key = .string p.1 := congrArg Prod.fst h1
  have ev : e.val = p.2 := congrArg Prod.snd h1
  rw [Instr.findNow,ek,Instr.sameNow,zcF]
  by_cases hk : p.1 = k
  ·rw [if_pos hk,show (k == p.1) = true from (Go.MapKept.bytes_beq _ _).2 hk.symm]
   simp only [ev]
  ·rw [if_neg hk,show (k == p.1) = false from Bool.eq_false_iff.2 (fun e => hk ((Go.MapKept.bytes_beq _ _).1 e).symm)]
   exact zdM k es l (i + 1) h2
def zdl (W : World) (g : Nat) (F : ByteArray → Option Value) : Prop :=
 ∃ (es : Array MapEntry) (c : Nat) (l : List (ByteArray × Value)),W.heap[g]? = some (.map es c) ∧ es.toList.map entM = l.map strM ∧ (l.map (·.1)).Nodup ∧ ∀ k,zeA l k = F k
theorem mapF_new (W : World) : zdl (W.alloc (.map #[] 0)) W.heap.size (fun _ => none) := ⟨#[],0,[],heap_alloc_new W _,rfl,by simp,fun _ => rfl⟩
theorem zgD {W W' : World} {g : Nat} {F : ByteArray → Option Value} (h : zdl W g F) (hm : W'.heap[g]? = W.heap[g]?) : zdl W' g F := by
 obtain ⟨es,c,l,h1,h2⟩ := h
 exact ⟨es,c,l,hm.trans h1,h2⟩
theorem zfx {W : World} {g : Nat} {F : ByteArray → Option Value} (h : zdl W g F) : g < W.heap.size := by
 obtain ⟨es,c,l,h1,_⟩ := h
 exact (Array.getElem?_eq_some_iff.1 h1).1
theorem zfO {W W' : World} {g : Nat} {F : ByteArray → Option Value} (h : zdl W g F) (hb : Below W.heap.size W W') : zdl W' g F := zgD h (hb.block g (zfx h))
theorem zh2 {W : World} {g : Nat} {F : ByteArray → Option Value} (h : zdl W g F) (o : Obj) : zdl (W.alloc o) g F := zfO h (Below.alloc (Below.refl _ _) (Nat.le_refl _) o)
theorem zh3 {W W' : World} {g : Nat} {F : ByteArray → Option Value} (h : zdl W g F) {row : Option Nat} (hg : W.grownBy W' row) (hr : some g ≠ row) : zdl W' g F := zgD h (hg.block g (zfx h) hr)
theorem ziG {W : World} {g : Nat} {F F' : ByteArray → Option Value} (h : zdl W g F) (e : ∀ k,F k = F' k) : zdl W g F' := by
 obtain ⟨es,c,l,h1,h2,h3,h4⟩ := h
 exact ⟨es,c,l,h1,h2,h3,fun k => (h4 k).trans (e k)⟩
section
variable {P : Program} {w : World} {t k e : TypeId} {g : Nat} {F : ByteArray → Option Value}
theorem zdi (s : ByteArray) : Go.MapKept.IsKey .string (.string s) := by simp [Go.MapKept.IsKey]
theorem mapF_look (h : zdl w g F) (ht : P.underlying t = some (.map k e)) (hk : P.underlying k = some .string) {z : Value} (hz : (zeroValue e).run P w = .ok z w) (s : ByteArray) :
  (Instr.lookup t (.map (some g)) (.string s) false).run P w = .ok ((F s).getD z) w := by
 obtain ⟨es,c,l,h1,h2,h3,h4⟩ := h
 have hf := zdM s es.toList l 0 h2
 rw [← h4 s]
 unfold zeA
 rcases hl : zcF l s 0 with _ | ⟨i,v⟩
 ·rw [hl] at hf
  simp [Instr.lookup,run_underlying ht,Go.MapKept.run_getObj_map h1,Go.MapKept.run_checkKey hk (zdi s),Go.MapKept.run_findKey hk hf,hz,Result.andThen]
 ·rw [hl] at hf
  simp [Instr.lookup,run_underlying ht,Go.MapKept.run_getObj_map h1,Go.MapKept.run_checkKey hk (zdi s),Go.MapKept.run_findKey hk hf,hz,Result.andThen]
theorem zgz {w : World} {g : Nat} {o : Obj} (hb : w.heap[g]? = some o) (o' : Obj) : w.grownBy { w with heap := w.heap.setIfInBounds g o' } (some g) :=
 ⟨rfl,rfl,rfl,by simp,fun i _ hi => (Go.MapKept.heap_set (o' := o') hb).2 i (fun e => hi (by rw [e]))⟩
theorem zgX (l : List (ByteArray × Value)) (s : ByteArray) (v : Value) (hn : ∀ p ∈ l,p.1 ≠ s) (x : ByteArray) : zeA (l ++ [(s,v)]) x = if x = s then some v else zeA l x := by
 induction l with
 | nil =>
  rw [List.nil_append,zb8]
  by_cases h : s = x
  ·rw [if_pos h,if_pos h.symm]
  ·rw [if_neg h,if_neg (fun e => h e.symm)]
 | cons p l ih =>
  rw [List.cons_append,zb8,zb8,ih (fun q hq => hn q (List.mem_cons_of_mem _ hq))]
  by_cases h : p.1 = x
  ·have : x ≠ s := fun e => hn p List.mem_cons_self (h.trans e)
   rw [if_pos h,if_neg this,if_pos h]
  ·rw [if_neg h,if_neg h]
theorem lookL_set (l : List (ByteArray × Value)) (hd : (l.map (·.1)).Nodup) (i : Nat) (s : ByteArray) (v0 v : Value) (hi : l[i]? = some (s,v0)) (x : ByteArray) : zeA (l.set i (s,v)) x = if x = s then some v else zeA l x := by
 induction l generalizing i with
 | nil => simp at hi
 | cons p l ih =>
  rw [List.map_cons,List.nodup_cons] at hd
  cases i with
  | zero =>
   rw [List.getElem?_cons_zero] at hi
   injection hi with hi
   subst hi
   rw [List.set_cons_zero,zb8,zb8]
   by_cases h : s = x
   ·rw [if_pos h,if_pos h.symm]
   ·rw [if_neg h,if_neg (fun e => h e.symm),if_neg h]
  | succ i =>
   rw [List.getElem?_cons_succ] at hi
   rw [List.set_cons_succ,zb8,zb8,ih hd.2 i hi]
   by_cases h : p.1 = x
   ·have : x ≠ s := fun e => hd.1 (List.mem_map.2 ⟨(s,v0),List.mem_of_getElem? hi,(h.trans e).symm⟩)
    rw [if_pos h,if_neg this,if_pos h]
   ·rw [if_neg h,if_neg h]
theorem zfP {l : List (ByteArray × Value)} (hd : (l.map (·.1)).Nodup) {i : Nat} {s : ByteArray} {v0 v : Value} (hi : l[i]? = some (s,v0)) : ((l.set i (s,v)).map (·.1)).Nodup := by
 have : (l.set i (s,v)).map (·.1) = l.map (·.1) := by
  rw [List.map_set]
  apply List.ext_getElem?
  intro j
  rw [List.getElem?_set]
  split
  ·rename_i e
   subst e
   rw [List.getElem?_map,hi]
   split
   ·rfl
   ·rename_i h
    have := (List.getElem?_eq_some_iff.1 hi).1
    simp at h;omega
  ·rfl
 rw [this];exact hd
theorem mapF_put (h : zdl w g F) (ht : P.underlying t = some (.map k e)) (hk : P.underlying k = some .string) (s : ByteArray) (v : Value) :
  ∃ w',(Instr.mapUpdate t (.map (some g)) (.string s) v).run P w = .ok () w' ∧ zdl w' g (fun x => if x = s then some v else F x) ∧ w.grownBy w' (some g) := by
 obtain ⟨es,c,l,h1,h2,h3,h4⟩ := h
 have hf := zdM s es.toList l 0 h2
 rcases hl : zcF l s 0 with _ | ⟨i,v0⟩
 ·rw [hl] at hf
  have hn := zh0.1 hl
  refine ⟨_,by simp [Instr.mapUpdate,run_underlying ht,Go.MapKept.run_getObj_map h1,Go.MapKept.run_checkKey hk (zdi s),Go.MapKept.run_findKey hk hf,Go.MapKept.run_setObj_map _ h1,Result.andThen];rfl,⟨_,_,l ++ [(s,v)],(Go.MapKept.heap_set h1).1,?_,?_,fun x => ?_⟩,zgz h1 _⟩
  ·rw [Array.toList_push,List.map_append,List.map_append,h2];rfl
  ·rw [List.map_append,List.nodup_append]
   refine ⟨h3,by simp,?_⟩
   intro a ha b hb
   obtain ⟨q,hq,rfl⟩ := List.mem_map.1 ha
   simp at hb
   subst hb
   exact hn q hq
  ·rw [zgX l s v hn x,h4]
 ·rw [hl] at hf
  have hi := zh1 hl
  have hie : es.toList[i]? = some (es.toList[i]?.getD default) ∧ entM (es.toList[i]?.getD default) = strM (s,v0) := by
   have hm : (es.toList.map entM)[i]? = (l.map strM)[i]? := by rw [h2]
   rw [List.getElem?_map,List.getElem?_map,hi] at hm
   rcases he : es.toList[i]? with _ | e0
   ·rw [he] at hm;cases hm
   ·rw [he] at hm;exact ⟨rfl,by simpa using hm⟩
  obtain ⟨he,hv⟩ := hie
  generalize es.toList[i]?.getD default = e0 at he hv
  have he' : es[i]? = some e0 := by rw [← Array.getElem?_toList];exact he
  have hkey : e0.key = .string s := congrArg Prod.fst hv
  refine ⟨_,by simp [Instr.mapUpdate,run_underlying ht,Go.MapKept.run_getObj_map h1,Go.MapKept.run_checkKey hk (zdi s),Go.MapKept.run_findKey hk hf,he',hkey,Go.MapKept.run_keyThatStays (zdi s),Go.MapKept.run_setObj_map _ h1,Result.andThen];rfl,⟨_,_,l.set i (s,v),(Go.MapKept.heap_set h1).1,?_,zfP h3 hi,fun x => ?_⟩,zgz h1 _⟩
  ·apply List.ext_getElem?
   intro j
   rw [List.getElem?_map,Array.getElem?_toList,Array.getElem?_modify,List.getElem?_map,List.getElem?_set]
   have hm : (es.toList.map entM)[j]? = (l.map strM)[j]? := by rw [h2]
   rw [List.getElem?_map,List.getElem?_map,Array.getElem?_toList] at hm
   by_cases hij : i = j
   ·subst hij
    rw [he',if_pos rfl,if_pos rfl,if_pos (List.getElem?_eq_some_iff.1 hi).1];rfl
   ·rw [if_neg hij,if_neg hij];exact hm
  ·rw [lookL_set l h3 i s v0 v hi x,h4]
end
theorem zeM {P : Program} (w : World) {ops : Array Oper} {rest : List Oper} {o : Oper} {a : Act} {Q : Exit → Act → World → Prop}
  (hg : o.guard = none) (m x : Operand) (t : TypeId) (hop : o.op = Op.lookup t m x false) {k e : TypeId} {g : Nat} {F : ByteArray → Option Value} (h : zdl w g F) (ht : P.underlying t = some (.map k e)) (hk : P.underlying k = some .string) {z : Value} (hz : (zeroValue e).run P w = .ok z w)
  (s : ByteArray) (hm : a.eval m = .map (some g)) (hx : a.eval x = .string s) (hK : wpList P ops Q rest (a.put o.dst ((F s).getD z)) w) : wpList P ops Q (o :: rest) a w := by
 refine wpList_plain hg fun K' hK' => ?_
 unfold Oper.wp
 simp [execOp,hop,hm,hx,mapF_look h ht hk hz s,Result.andThen]
 exact hK' _ _ hK
theorem zhP {P : Program} (w : World) {ops : Array Oper} {rest : List Oper} {o : Oper} {a : Act} {Q : Exit → Act → World → Prop}
  (hg : o.guard = none) (m x v : Operand) (t : TypeId) (hop : o.op = Op.mapUpdate t m x v) {k e : TypeId} {g : Nat} {F : ByteArray → Option Value} (h : zdl w g F) (ht : P.underlying t = some (.map k e)) (hk : P.underlying k = some .string)
  (s : ByteArray) (u : Value) (hm : a.eval m = .map (some g)) (hx : a.eval x = .string s) (hv : a.eval v = u) (hK : ∀ w',zdl w' g (fun y => if y = s then some u else F y) → w.grownBy w' (some g) → wpList P ops Q rest (a.put o.dst undef) w') : wpList P ops Q (o :: rest) a w := by
 refine wpList_plain hg fun K' hK' => ?_
 obtain ⟨w',hrun,r1,r2⟩ := mapF_put h ht hk s u
 unfold Oper.wp
 simp [execOp,hop,hm,hx,hv,hrun,Result.andThen]
 exact hK' _ _ (hK w' r1 r2)
end Go.Proofs.YtlkfelmbhldgfaaGreat.Px