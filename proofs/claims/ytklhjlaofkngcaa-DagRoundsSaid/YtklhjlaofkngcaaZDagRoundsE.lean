/- Part 5 of 33 of the proof of the law DagRounds: what is proved is the statement at the end of the last part; its conditions are those of the given row. -/
import Derived.Test.YtklhjlaofkngcaaZDagRoundsD
namespace Go.Proofs.Ytklhjlaofkngcaa.Px
open Go.RowKit Go.Proofs.YtklhjlaofkngcaaW.PrintWords Go.Proofs.YtklhjlaofkngcaaW.PrintLast Go.Proofs.YtklhjlaofkngcaaW.PrintMore
attribute [local go_sem] zG zI zM zN zB zC zH zJ
set_option linter.unusedVariables false
set_option linter.unusedSimpArgs false
def zaL.l0 : Nat → Int → List (S36) → List (S36) → Int → Int → Option ((List (S36)))
 | 0,_,_,_,_,_ => none
 | k + 1,x1,x5,x9,x10,x11 => if x11 < x10 then (if 0 ≤ x11 then (if x11 < (x9.length : Int) then (if ((zd x9 x11).f1.f1) = x1 then (if x5.length < 1466015503701 then (zaL.l0 k x1 (x5 ++ [(⟨(zd x9 x11).f0,(⟨(zd x9 x11).f1.f0,(zd x9 x11).f1.f1,(zd x9 x11).f1.f2,(zd x9 x11).f1.f3,(⟨(zd x9 x11).f1.f4.f0,(zd x9 x11).f1.f4.f1⟩ : S28)⟩ : S30)⟩ : S36)]) x9 x10 (wrap64 (x11 + 1))) else (none)) else (zaL.l0 k x1 x5 x9 x10 (wrap64 (x11 + 1)))) else (none)) else (none)) else (some x5)
def zaL.f (k : Nat) (a0_0 : Int) (a0_1 : Int) (l0_2 : List (S36)) (a1 : Int) : Option ((List (S36))) := zaL.l0 k a1 ([] : List (S36)) l0_2 (l0_2.length : Int) 0
set_option maxHeartbeats 8000000 in
set_option maxRecDepth 100000 in
theorem zaL.calls (k : Nat) (a0_0 : Int) (a0_1 : Int) (P0_2_ : Nat → Prop) (A0_2 : Option Addr) (c0_2 : Nat) (l0_2 : List (S36)) (a1 : Int) (r : List (S36)) (w : World) (hs0_2 : Kd.V k36 36 w w.heap.size (fun k_ => P0_2_ k_) (.slice A0_2 l0_2.length c0_2) l0_2) (h : zaL.f k a0_0 a0_1 l0_2 a1 = some r) :
  Calls Try.prog 15 #[.agg #[.int .i64 a0_0,.int .i64 a0_1,.slice A0_2 l0_2.length c0_2],.int .i64 a1] w fun e w' => ∃ v0_ : Value,e = .returned (v0_) ∧ Kd.N k36 36 w' w.heap.size (fun k_ => (P0_2_ k_ ∨ w.heap.size ≤ k_)) v0_ r ∧ Below w.heap.size w w' := by
 have hu24 := Try.underlying24
 have hu36 := Try.underlying36
 have HO0_2 := za.mk (show Kd.V k36 36 w w.heap.size (fun k_ => (P0_2_ k_ ∨ w.heap.size ≤ k_)) (.slice A0_2 l0_2.length c0_2) l0_2 from Kd.V_mono hs0_2 (fun k_ hk => .inl hk))
 have HB := za.mk (Below.refl w.heap.size w)
 have H : (zaL.l0 k a1 ([] : List (S36)) l0_2 (l0_2.length : Int) 0) = some r := h
 clear h
 have H' := za.mk H
 clear H
 go_enter Try.func15,Try.ntmps15
 go_wp2_with (first | ((with_reducible refine zv (N := 2) rfl ?_);refine zr ?hg (N := 2) ?hd (cs := #[.int .i64 a0_0,.int .i64 a0_1,.slice A0_2 l0_2.length c0_2]) (t := 24) ?hr ?_;(case hd => rfl);(case hg => rfl);(case hr => first | (go_simp;done) | (go_simp;rfl));intro gb101 hg w3 hbox hb;have n_ := haq (Kd.V_below (Kd.V_elderB (by (with_reducible repeat (first | apply Kd.V_alloc | apply Kd.V_drewN | apply Kd.V_drew));exact HO0_2.out) gb101 (Nat.le_of_eq hg.symm)) hb) <| haq (ze hBq hb) <| haq (hbox) <| haq ((by rw [hg];exact (zh hBq) : w.heap.size ≤ gb101)) <| haq ((by rw [hg];exact (zh hBq) : w.heap.size ≤ gb101)) <| trivial;clear HO0_2 HB;obtain ⟨HO0_2,HB,BK101,GW101,GE101,_⟩ := n_;clear hb hbox hg;obtain ⟨hcz4_0,hcz4_1,hcz4_2,hfz4_0,hfz4_1,hfz4_2⟩ := hcq3 BK101.out))
 go_loopg [5,11] k (fun kq v5 v11 w' => ∃ (x5_1 : List (S36)) (x11_1 : Int),v11 = .int .i64 x11_1 ∧ za (zaL.l0 kq a1 x5_1 l0_2 (l0_2.length : Int) x11_1 = some r) ∧ za (kq ≤ k) ∧ za (Kd.N k36 36 w' w.heap.size (fun k_ => (P0_2_ k_ ∨ w.heap.size ≤ k_) ∧ k_ ≠ gb101) v5 x5_1) ∧ za (Kd.V k36 36 w' w.heap.size (fun k_ => (P0_2_ k_ ∨ w.heap.size ≤ k_) ∧ some k_ ≠ (v5 : Value).ownBlock ∧ k_ ≠ gb101) (.slice A0_2 l0_2.length c0_2) l0_2) ∧ za (Kd.V k36 36 w' w.heap.size (fun k_ => (P0_2_ k_ ∨ w.heap.size ≤ k_) ∧ some k_ ≠ (v5 : Value).ownBlock ∧ k_ ≠ gb101) (.slice A0_2 l0_2.length c0_2) l0_2) ∧ za (w'.heap[gb101]? = some (.cells #[.int .i64 a0_0,.int .i64 a0_1,(.slice A0_2 l0_2.length c0_2)] 24 (0,0))) ∧ za (Below w.heap.size w w'))
 case atStart => exact ⟨(([] : List (S36))),(0),(hDq),H',⟨Nat.le_refl _⟩,⟨by first | exact Kd.R_nil _ _ _ _ _ | exact Kd.N_nil _ _ _ _ _ | exact Kd.V_nil _ _ _ _ _ | exact Kd.Q_nil _ _ _ _ _ | exact Kd.S_nil _ _ _ _ _⟩,⟨by (with_reducible repeat (first | apply Kd.V_alloc | apply Kd.V_drewN | apply Kd.V_drew));exact Kd.V_mono HO0_2.out (fun _ hk => ⟨hk.1,⟨(by simp [Value.ownBlock]),hk.2⟩⟩)⟩,⟨by (with_reducible repeat (first | apply Kd.V_alloc | apply Kd.V_drewN | apply Kd.V_drew));exact Kd.V_mono HO0_2.out (fun _ hk => ⟨hk.1,⟨(by simp [Value.ownBlock]),hk.2⟩⟩)⟩,⟨hGq BK101.out⟩,⟨by repeat (first | (with_reducible first | exact HB.out | apply zk | apply zi | apply zt | refine zm ?_ GE101.out) | exact HB.out)⟩⟩
 case round =>
  clear H'
  try clear c1;try clear p2;try clear hcz4_0;try clear hcz4_1;try clear hcz4_2;try clear hfz4_0;try clear hfz4_1;try clear hfz4_2
  obtain ⟨x5_1,x11_1,rfl,HA,HK1,HO_5,HO_9,HO_102002,BK101,HB⟩ := hrel
  cases gk with
  | zero => exact absurd HA.out (by simp [zaL.l0])
  | succ k1 =>
   have H := HA.out
   clear HA
   simp only [zaL.l0] at H
   by_cases c5 : x11_1 < (l0_2.length : Int)
   ·rw [if_pos c5] at H
    have c5b0 : decide (x11_1 < (l0_2.length : Int)) = true := decide_eq_true c5
    clear c5
    by_cases c6 : 0 ≤ x11_1
    ·rw [if_pos c6] at H
     have c6b0 : decide (0 ≤ x11_1) = true := decide_eq_true c6
     clear c6
     by_cases c7 : x11_1 < (l0_2.length : Int)
     ·rw [if_pos c7] at H
      have c7b0 : decide (x11_1 < (l0_2.length : Int)) = true := decide_eq_true c7
      clear c7
      by_cases c8 : ((zd l0_2 x11_1).f1.f1) = a1
      ·rw [if_pos c8] at H
       have c8b0 : (((zd l0_2 x11_1).f1.f1) == a1) = true := beq_iff_eq.mpr c8
       have c8b1 : (((zd l0_2 x11_1).f1.f1) != a1) = false := bne_eq_false_iff_eq.mpr c8
       clear c8
       by_cases c9 : x5_1.length < 1466015503701
       ·rw [if_pos c9] at H
        have LMc9 := za.mk c9
        clear c9
        obtain ⟨y104,hy104⟩ : ∃ y_ : List (S36),y_ = (x5_1 ++ [(⟨(zd l0_2 x11_1).f0,(⟨(zd l0_2 x11_1).f1.f0,(zd l0_2 x11_1).f1.f1,(zd l0_2 x11_1).f1.f2,(zd l0_2 x11_1).f1.f3,(⟨(zd l0_2 x11_1).f1.f4.f0,(zd l0_2 x11_1).f1.f4.f1⟩ : S28)⟩ : S30)⟩ : S36)]) := ⟨_,rfl⟩
        replace H : (zaL.l0 k1 a1 y104 l0_2 (l0_2.length : Int) (wrap64 (x11_1 + 1))) = some r := by first | (rw [hy104];with_reducible exact H) | (have H2_ := (Option.bind_some _ _).symm.trans H;rw [hy104];with_reducible exact H2_) | (have H2_ := (Option.bind_some _ _).symm.trans H;with_reducible exact H2_) | with_reducible exact H | (rw [hy104];exact H) | exact H
        have Ny104 := za.mk hy104
        clear hy104
        have H' := za.mk H
        clear H
        have p102 : 0 ≤ (x11_1 : Int) := hFq
        have q102 : x11_1 < (l0_2.length : Int) := hFq
        obtain ⟨ad102,A102_3,c102_3,A102_4,c102_4,e102,hx102_0,hx102_1,hx102_2,hx102_3,hx102_4,hx102_5,hx102_6,hl102_3,hi102_3,hl102_4,hi102_4⟩ := zaW (Kd.V_reads' HO_9.out).2.2 x11_1 p102 q102
        cases e102
        obtain ⟨ce102,hce102,hMe102,hcc102⟩ := Kd.V_get HO_9.out z36 x11_1 p102 (by first | exact q102 | exact hFq | (have e_ := (Kd.V_reads' HO_9.out).1;omega))
        obtain ⟨ua102_3,uc102_3,ua102_4,uc102_4,rfl,ul102_3,ge102_3,ul102_4,ge102_4⟩ := zbQ hMe102
        have hv102_3 := hcc102 3 _ rfl
        rw [zaf _ _ 3 (by omega)] at hv102_3
        replace hv102_3 := Option.some.inj (hv102_3.symm.trans hx102_3)
        injection hv102_3 with hva_ hvn_ hvc_
        rw [hva_] at ge102_3
        rw [hvc_] at ul102_3
        have HL102_3 := za.mk (show Kd.V k72 72 _ w.heap.size _ _ ((zd l0_2 x11_1).f1.f2) from Kd.V_mk ul102_3 ge102_3)
        clear hva_ hvn_ hvc_ ge102_3 ul102_3
        have hv102_4 := hcc102 4 _ rfl
        rw [zaf _ _ 4 (by omega)] at hv102_4
        replace hv102_4 := Option.some.inj (hv102_4.symm.trans hx102_4)
        injection hv102_4 with hva_ hvn_ hvc_
        rw [hva_] at ge102_4
        rw [hvc_] at ul102_4
        have HL102_4 := za.mk (show Kd.V Kd.string 9 _ w.heap.size _ _ ((zd l0_2 x11_1).f1.f3) from Kd.V_mk ul102_4 ge102_4)
        clear hva_ hvn_ hvc_ ge102_4 ul102_4
        clear hcc102 hce102
        have HR102_3 := za.mk hi102_3
        have HC102_3 := za.mk hl102_3
        clear hi102_3 hl102_3
        have HR102_4 := za.mk hi102_4
        have HC102_4 := za.mk hl102_4
        clear hi102_4 hl102_4
        replace p102 := eq_true p102
        replace q102 := eq_true q102
        go_wp2_with (first | ((with_reducible refine zv (N := 7) rfl ?_);refine zr ?hg (N := 7) ?hd (cs := #[.string (⟨#[]⟩ : ByteArray),.int .i64 0,.int .i64 0,.slice none 0 0,.slice none 0 0,.int .i64 0,.int .i64 0]) (t := 36) ?hr ?_;(case hd => rfl);(case hg => rfl);(case hr => first | (go_simp;done) | (go_simp;rfl));intro gb103 hg w10 hbox hb;have n_ := haq (Kd.N_below (Kd.N_elderB (by (with_reducible repeat (first | apply Kd.N_alloc | apply Kd.N_drewN | apply Kd.N_drew));exact HO_5.out) gb103 (Nat.le_of_eq hg.symm)) hb) <| haq (Kd.V_below (Kd.V_elderB (by (with_reducible repeat (first | apply Kd.V_alloc | apply Kd.V_drewN | apply Kd.V_drew));exact HO_9.out) gb103 (Nat.le_of_eq hg.symm)) hb) <| haq (Kd.V_below (Kd.V_elderB (by (with_reducible repeat (first | apply Kd.V_alloc | apply Kd.V_drewN | apply Kd.V_drew));exact HO_102002.out) gb103 (Nat.le_of_eq hg.symm)) hb) <| haq (Kd.V_below (Kd.V_elderB (by (with_reducible repeat (first | apply Kd.V_alloc | apply Kd.V_drewN | apply Kd.V_drew));exact HL102_3.out) gb103 (Nat.le_of_eq hg.symm)) hb) <| haq (Kd.V_below (Kd.V_elderB (by (with_reducible repeat (first | apply Kd.V_alloc | apply Kd.V_drewN | apply Kd.V_drew));exact HL102_4.out) gb103 (Nat.le_of_eq hg.symm)) hb) <| haq (hbq BK101.out hb) <| haq (Kd.C_below (by repeat (first | (with_reducible exact HR102_3.out) | (with_reducible refine Kd.C_alloc ?_ _) | (with_reducible refine Kd.C_drewN ?_ _) | (with_reducible refine Kd.C_drew ?_) | exact HR102_3.out)) hb) <| haq (Kd.C_below (by repeat (first | (with_reducible exact HR102_4.out) | (with_reducible refine Kd.C_alloc ?_ _) | (with_reducible refine Kd.C_drewN ?_ _) | (with_reducible refine Kd.C_drew ?_) | exact HR102_4.out)) hb) <| haq (ze hCq hb) <| haq (hbox) <| haq ((by rw [hg];exact (zh hCq) : w.heap.size ≤ gb103)) <| haq ((by rw [hg];exact (zh hCq) : w.heap.size ≤ gb103)) <| haq (hnq hg BK101.out) <| haq (hmq hg BK101.out) <| trivial;clear HO_5 HO_9 HO_102002 HL102_3 HL102_4 BK101 HR102_3 HR102_4 HB;obtain ⟨HO_5,HO_9,HO_102002,HL102_3,HL102_4,BK101,HR102_3,HR102_4,HB,BK103,GW103,GE103,NB101_103,NB103_101,_⟩ := n_;clear hb hbox hg;have hnb11 := NB103_101.out;have hnc11 := NB101_103.out;obtain ⟨hcz12_0,hcz12_1,hcz12_2,hcz12_3,hcz12_4,hcz12_5,hcz12_6,hfz12_0,hfz12_1,hfz12_2,hfz12_3,hfz12_4,hfz12_5,hfz12_6⟩ := hcq7 BK103.out) | ((with_reducible refine zbL (t := 36) (p := 7) rfl ?_);refine zbu (t := 36) (p := 7) (v := ?vo_w13) (w1 := (((((((w10.setCell ⟨gb103,0,none⟩ (.string ((zd l0_2 x11_1).f0))).setCell ⟨gb103,1,none⟩ (.int .i64 ((zd l0_2 x11_1).f1.f0))).setCell ⟨gb103,2,none⟩ (.int .i64 ((zd l0_2 x11_1).f1.f1))).setCell ⟨gb103,3,none⟩ (.slice A102_3 ((zd l0_2 x11_1).f1.f2).length c102_3)).setCell ⟨gb103,4,none⟩ (.slice A102_4 ((zd l0_2 x11_1).f1.f3).length c102_4)).setCell ⟨gb103,5,none⟩ (.int .i64 ((zd l0_2 x11_1).f1.f4.f0))).setCell ⟨gb103,6,none⟩ (.int .i64 ((zd l0_2 x11_1).f1.f4.f1)))) ?hg ?ho ?hn ?hr ?_;(case ho => rfl);(case hg => rfl);(case hn => rfl);(case hr => first | (go_simp;done) | (go_simp;rfl));intro w13 hw;have n_ := haq (((by rw [hw];exact (by (with_reducible repeat (first | apply Kd.N_alloc | apply Kd.N_drewN | apply Kd.N_drew));exact Kd.N_mono (Kd.N_far (p := ⟨gb103,6,none⟩) (Kd.N_far (p := ⟨gb103,5,none⟩) (Kd.N_far (p := ⟨gb103,4,none⟩) (Kd.N_far (p := ⟨gb103,3,none⟩) (Kd.N_far (p := ⟨gb103,2,none⟩) (Kd.N_far (p := ⟨gb103,1,none⟩) (Kd.N_far (p := ⟨gb103,0,none⟩) (Kd.N_mono HO_5.out (fun k_ hk => (⟨hk,hk.2⟩ : _ ∧ k_ ≠ gb103))) (fun _ hk => hk.2) (.string ((zd l0_2 x11_1).f0))) (fun _ hk => hk.2) (.int .i64 ((zd l0_2 x11_1).f1.f0))) (fun _ hk => hk.2) (.int .i64 ((zd l0_2 x11_1).f1.f1))) (fun _ hk => hk.2) (.slice A102_3 ((zd l0_2 x11_1).f1.f2).length c102_3)) (fun _ hk => hk.2) (.slice A102_4 ((zd l0_2 x11_1).f1.f3).length c102_4)) (fun _ hk => hk.2) (.int .i64 ((zd l0_2 x11_1).f1.f4.f0))) (fun _ hk => hk.2) (.int .i64 ((zd l0_2 x11_1).f1.f4.f1))) (fun _ hk => ⟨hk.1.1.1,⟨hk.1.1.2,hk.1.2⟩⟩))) : Kd.N k36 36 w13 w.heap.size (fun k_ => (P0_2_ k_ ∨ w.heap.size ≤ k_) ∧ k_ ≠ gb101 ∧ k_ ≠ gb103) u5 x5_1)) <| haq (((by rw [hw];exact (by (with_reducible repeat (first | apply Kd.V_alloc | apply Kd.V_drewN | apply Kd.V_drew));exact Kd.V_mono (Kd.V_far (p := ⟨gb103,6,none⟩) (Kd.V_far (p := ⟨gb103,5,none⟩) (Kd.V_far (p := ⟨gb103,4,none⟩) (Kd.V_far (p := ⟨gb103,3,none⟩) (Kd.V_far (p := ⟨gb103,2,none⟩) (Kd.V_far (p := ⟨gb103,1,none⟩) (Kd.V_far (p := ⟨gb103,0,none⟩) (Kd.V_mono HO_9.out (fun k_ hk => (⟨hk,hk.2⟩ : _ ∧ k_ ≠ gb103))) (fun _ hk => hk.2) (.string ((zd l0_2 x11_1).f0))) (fun _ hk => hk.2) (.int .i64 ((zd l0_2 x11_1).f1.f0))) (fun _ hk => hk.2) (.int .i64 ((zd l0_2 x11_1).f1.f1))) (fun _ hk => hk.2) (.slice A102_3 ((zd l0_2 x11_1).f1.f2).length c102_3)) (fun _ hk => hk.2) (.slice A102_4 ((zd l0_2 x11_1).f1.f3).length c102_4)) (fun _ hk => hk.2) (.int .i64 ((zd l0_2 x11_1).f1.f4.f0))) (fun _ hk => hk.2) (.int .i64 ((zd l0_2 x11_1).f1.f4.f1))) (fun _ hk => ⟨hk.1.1.1,⟨hk.1.1.2.1,⟨hk.1.1.2.2,hk.1.2⟩⟩⟩))) : Kd.V k36 36 w13 w.heap.size (fun k_ => (P0_2_ k_ ∨ w.heap.size ≤ k_) ∧ some k_ ≠ (u5 : Value).ownBlock ∧ k_ ≠ gb101 ∧ k_ ≠ gb103) (.slice (some ad102) l0_2.length c0_2) l0_2)) <| haq (((by rw [hw];exact (by (with_reducible repeat (first | apply Kd.V_alloc | apply Kd.V_drewN | apply Kd.V_drew));exact Kd.V_mono (Kd.V_far (p := ⟨gb103,6,none⟩) (Kd.V_far (p := ⟨gb103,5,none⟩) (Kd.V_far (p := ⟨gb103,4,none⟩) (Kd.V_far (p := ⟨gb103,3,none⟩) (Kd.V_far (p := ⟨gb103,2,none⟩) (Kd.V_far (p := ⟨gb103,1,none⟩) (Kd.V_far (p := ⟨gb103,0,none⟩) (Kd.V_mono HO_102002.out (fun k_ hk => (⟨hk,hk.2⟩ : _ ∧ k_ ≠ gb103))) (fun _ hk => hk.2) (.string ((zd l0_2 x11_1).f0))) (fun _ hk => hk.2) (.int .i64 ((zd l0_2 x11_1).f1.f0))) (fun _ hk => hk.2) (.int .i64 ((zd l0_2 x11_1).f1.f1))) (fun _ hk => hk.2) (.slice A102_3 ((zd l0_2 x11_1).f1.f2).length c102_3)) (fun _ hk => hk.2) (.slice A102_4 ((zd l0_2 x11_1).f1.f3).length c102_4)) (fun _ hk => hk.2) (.int .i64 ((zd l0_2 x11_1).f1.f4.f0))) (fun _ hk => hk.2) (.int .i64 ((zd l0_2 x11_1).f1.f4.f1))) (fun _ hk => ⟨hk.1.1.1,⟨hk.1.1.2.1,⟨hk.1.1.2.2,hk.1.2⟩⟩⟩))) : Kd.V k36 36 w13 w.heap.size (fun k_ => (P0_2_ k_ ∨ w.heap.size ≤ k_) ∧ some k_ ≠ (u5 : Value).ownBlock ∧ k_ ≠ gb101 ∧ k_ ≠ gb103) (.slice (some ad102) l0_2.length c0_2) l0_2)) <| haq (((by rw [hw];exact (by (with_reducible repeat (first | apply Kd.V_alloc | apply Kd.V_drewN | apply Kd.V_drew));exact Kd.V_mono (Kd.V_far (p := ⟨gb103,6,none⟩) (Kd.V_far (p := ⟨gb103,5,none⟩) (Kd.V_far (p := ⟨gb103,4,none⟩) (Kd.V_far (p := ⟨gb103,3,none⟩) (Kd.V_far (p := ⟨gb103,2,none⟩) (Kd.V_far (p := ⟨gb103,1,none⟩) (Kd.V_far (p := ⟨gb103,0,none⟩) (Kd.V_mono HL102_3.out (fun k_ hk => (⟨hk,hk.2⟩ : _ ∧ k_ ≠ gb103))) (fun _ hk => hk.2) (.string ((zd l0_2 x11_1).f0))) (fun _ hk => hk.2) (.int .i64 ((zd l0_2 x11_1).f1.f0))) (fun _ hk => hk.2) (.int .i64 ((zd l0_2 x11_1).f1.f1))) (fun _ hk => hk.2) (.slice A102_3 ((zd l0_2 x11_1).f1.f2).length c102_3)) (fun _ hk => hk.2) (.slice A102_4 ((zd l0_2 x11_1).f1.f3).length c102_4)) (fun _ hk => hk.2) (.int .i64 ((zd l0_2 x11_1).f1.f4.f0))) (fun _ hk => hk.2) (.int .i64 ((zd l0_2 x11_1).f1.f4.f1))) (fun _ hk => ⟨hk.1.1.1,⟨hk.1.1.2.1,⟨hk.1.1.2.2,hk.1.2⟩⟩⟩))) : Kd.V k72 72 w13 w.heap.size (fun k_ => (P0_2_ k_ ∨ w.heap.size ≤ k_) ∧ some k_ ≠ (u5 : Value).ownBlock ∧ k_ ≠ gb101 ∧ k_ ≠ gb103) (.slice A102_3 ((zd l0_2 x11_1).f1.f2).length c102_3) ((zd l0_2 x11_1).f1.f2))) <| haq (((by rw [hw];exact (by (with_reducible repeat (first | apply Kd.V_alloc | apply Kd.V_drewN | apply Kd.V_drew));exact Kd.V_mono (Kd.V_far (p := ⟨gb103,6,none⟩) (Kd.V_far (p := ⟨gb103,5,none⟩) (Kd.V_far (p := ⟨gb103,4,none⟩) (Kd.V_far (p := ⟨gb103,3,none⟩) (Kd.V_far (p := ⟨gb103,2,none⟩) (Kd.V_far (p := ⟨gb103,1,none⟩) (Kd.V_far (p := ⟨gb103,0,none⟩) (Kd.V_mono HL102_4.out (fun k_ hk => (⟨hk,hk.2⟩ : _ ∧ k_ ≠ gb103))) (fun _ hk => hk.2) (.string ((zd l0_2 x11_1).f0))) (fun _ hk => hk.2) (.int .i64 ((zd l0_2 x11_1).f1.f0))) (fun _ hk => hk.2) (.int .i64 ((zd l0_2 x11_1).f1.f1))) (fun _ hk => hk.2) (.slice A102_3 ((zd l0_2 x11_1).f1.f2).length c102_3)) (fun _ hk => hk.2) (.slice A102_4 ((zd l0_2 x11_1).f1.f3).length c102_4)) (fun _ hk => hk.2) (.int .i64 ((zd l0_2 x11_1).f1.f4.f0))) (fun _ hk => hk.2) (.int .i64 ((zd l0_2 x11_1).f1.f4.f1))) (fun _ hk => ⟨hk.1.1.1,⟨hk.1.1.2.1,⟨hk.1.1.2.2,hk.1.2⟩⟩⟩))) : Kd.V Kd.string 9 w13 w.heap.size (fun k_ => (P0_2_ k_ ∨ w.heap.size ≤ k_) ∧ some k_ ≠ (u5 : Value).ownBlock ∧ k_ ≠ gb101 ∧ k_ ≠ gb103) (.slice A102_4 ((zd l0_2 x11_1).f1.f3).length c102_4) ((zd l0_2 x11_1).f1.f3))) <| haq (hfq hw NB101_103.out BK101.out) <| haq (((by rw [hw];exact (hxq0p BK103.out)) : w13.heap[gb103]? = some (.cells #[.string ((zd l0_2 x11_1).f0),.int .i64 ((zd l0_2 x11_1).f1.f0),.int .i64 ((zd l0_2 x11_1).f1.f1),.slice A102_3 ((zd l0_2 x11_1).f1.f2).length c102_3,.slice A102_4 ((zd l0_2 x11_1).f1.f3).length c102_4,.int .i64 ((zd l0_2 x11_1).f1.f4.f0),.int .i64 ((zd l0_2 x11_1).f1.f4.f1)] 36 (0,0)))) <| haq (((by rw [hw];exact hCq) : Below w.heap.size w w13)) <| trivial;clear hw HO_5 HO_9 HO_102002 HL102_3 HL102_4 BK101 BK103 HB;obtain ⟨HO_5,HO_9,HO_102002,HL102_3,HL102_4,BK101,BK103,HB,_⟩ := n_;obtain ⟨hcz14_0,hcz14_1,hcz14_2,hcz14_3,hcz14_4,hcz14_5,hcz14_6,hfz14_0,hfz14_1,hfz14_2,hfz14_3,hfz14_4,hfz14_5,hfz14_6⟩ := hcq7 BK103.out) | ((with_reducible refine zbx (b := .append) (xs := #[.tmp 20,.tmp 22]) rfl ?_);at_builtin;refine Kd.N_append k36 (w0 := w) w.heap.size rfl (.tmp 20) (.tmp 22) 22 36 (.agg #[(.string ⟨#[]⟩),(.int .i64 0),(.int .i64 0),(.slice none 0 0),(.slice none 0 0),(.int .i64 0),(.int .i64 0)]) 96 rfl Try.underlying22 zd6 rfl (by decide) (by omega) u5 x5_1 (⟨(zd l0_2 x11_1).f0,(⟨(zd l0_2 x11_1).f1.f0,(zd l0_2 x11_1).f1.f1,(zd l0_2 x11_1).f1.f2,(zd l0_2 x11_1).f1.f3,(⟨(zd l0_2 x11_1).f1.f4.f0,(zd l0_2 x11_1).f1.f4.f1⟩ : S28)⟩ : S30)⟩ : S36) [.string ((zd l0_2 x11_1).f0),.int .i64 ((zd l0_2 x11_1).f1.f0),.int .i64 ((zd l0_2 x11_1).f1.f1),.slice A102_3 ((zd l0_2 x11_1).f1.f2).length c102_3,.slice A102_4 ((zd l0_2 x11_1).f1.f3).length c102_4,.int .i64 ((zd l0_2 x11_1).f1.f4.f0),.int .i64 ((zd l0_2 x11_1).f1.f4.f1)] (fun k_ => (P0_2_ k_ ∨ w.heap.size ≤ k_) ∧ k_ ≠ gb101 ∧ k_ ≠ gb103) (fun k_ => ((fun k_ => (P0_2_ k_ ∨ w.heap.size ≤ k_) ∧ k_ ≠ gb101 ∧ k_ ≠ gb103)) k_ ∧ some k_ ≠ (u5 : Value).ownBlock) rfl rfl ?aP (fun _ hk => hk) ?aF ?aO ?aB ?aS ?aL ?_;(case aP => exact (zgz _ _ (⟨(zd l0_2 x11_1).f0,(⟨(zd l0_2 x11_1).f1.f0,(zd l0_2 x11_1).f1.f1,(zd l0_2 x11_1).f1.f2,(zd l0_2 x11_1).f1.f3,(⟨(zd l0_2 x11_1).f1.f4.f0,(zd l0_2 x11_1).f1.f4.f1⟩ : S28)⟩ : S30)⟩ : S36) (Kd.V_reads' (Kd.V_mono (ok' := (fun k_ => ((fun k_ => (P0_2_ k_ ∨ w.heap.size ≤ k_) ∧ k_ ≠ gb101 ∧ k_ ≠ gb103)) k_ ∧ some k_ ≠ (u5 : Value).ownBlock)) (HL102_3.out) (fun k_ hk => ⟨⟨hk.1,⟨hk.2.2.1,hk.2.2.2⟩⟩,hk.2.1⟩))).2.1 (Kd.V_F (Kd.V_mono (ok' := (fun k_ => ((fun k_ => (P0_2_ k_ ∨ w.heap.size ≤ k_) ∧ k_ ≠ gb101 ∧ k_ ≠ gb103)) k_ ∧ some k_ ≠ (u5 : Value).ownBlock)) (HL102_3.out) (fun k_ hk => ⟨⟨hk.1,⟨hk.2.2.1,hk.2.2.2⟩⟩,hk.2.1⟩))) (Kd.V_reads' (Kd.V_mono (ok' := (fun k_ => ((fun k_ => (P0_2_ k_ ∨ w.heap.size ≤ k_) ∧ k_ ≠ gb101 ∧ k_ ≠ gb103)) k_ ∧ some k_ ≠ (u5 : Value).ownBlock)) (HL102_4.out) (fun k_ hk => ⟨⟨hk.1,⟨hk.2.2.1,hk.2.2.2⟩⟩,hk.2.1⟩))).2.1 (Kd.V_F (Kd.V_mono (ok' := (fun k_ => ((fun k_ => (P0_2_ k_ ∨ w.heap.size ≤ k_) ∧ k_ ≠ gb101 ∧ k_ ≠ gb103)) k_ ∧ some k_ ≠ (u5 : Value).ownBlock)) (HL102_4.out) (fun k_ hk => ⟨⟨hk.1,⟨hk.2.2.1,hk.2.2.2⟩⟩,hk.2.1⟩)))));(case aB => exact hCq);(case aF => exact (fun k_ hk => ⟨(.inr (Nat.le_trans (zh hCq) hk)),Kd.freshB (g := gb101) (o := .cells #[.int .i64 a0_0,.int .i64 a0_1,.slice (some ad102) l0_2.length c0_2] 24 (0,0)) (hGq BK101.out) k_ hk,Kd.freshB (g := gb103) (o := .cells #[.string ((zd l0_2 x11_1).f0),.int .i64 ((zd l0_2 x11_1).f1.f0),.int .i64 ((zd l0_2 x11_1).f1.f1),.slice A102_3 ((zd l0_2 x11_1).f1.f2).length c102_3,.slice A102_4 ((zd l0_2 x11_1).f1.f3).length c102_4,.int .i64 ((zd l0_2 x11_1).f1.f4.f0),.int .i64 ((zd l0_2 x11_1).f1.f4.f1)] 36 (0,0)) (hGq BK103.out) k_ hk⟩));(case aO => exact (by (with_reducible repeat (first | apply Kd.N_alloc | apply Kd.N_drewN | apply Kd.N_drew));exact HO_5.out));(case aS => exact (zh hCq));(case aL => have := LMc9.out;omega);intro v105 w15 ho hb hg hat;rw [← Ny104.out] at ho;have n_ := haq (Kd.V_afterv (ok := (fun k_ => (P0_2_ k_ ∨ w.heap.size ≤ k_) ∧ k_ ≠ gb101 ∧ k_ ≠ gb103)) (by (with_reducible repeat (first | apply Kd.V_alloc | apply Kd.V_drewN | apply Kd.V_drew));exact Kd.V_mono HO_9.out (fun _ hk => ⟨⟨hk.1,⟨hk.2.2.1,hk.2.2.2⟩⟩,hk.2.1⟩)) hg hat) <| haq (Kd.V_afterv (ok := (fun k_ => (P0_2_ k_ ∨ w.heap.size ≤ k_) ∧ k_ ≠ gb101 ∧ k_ ≠ gb103)) (by (with_reducible repeat (first | apply Kd.V_alloc | apply Kd.V_drewN | apply Kd.V_drew));exact Kd.V_mono HO_102002.out (fun _ hk => ⟨⟨hk.1,⟨hk.2.2.1,hk.2.2.2⟩⟩,hk.2.1⟩)) hg hat) <| haq (zaI (g := gb101) (o := .cells #[.int .i64 a0_0,.int .i64 a0_1,.slice (some ad102) l0_2.length c0_2] 24 (0,0)) (hGq BK101.out) hg (Kd.N_ne HO_5.out BK101.out (by decide))) <| haq (Kd.V_afterv (ok := (fun k_ => (P0_2_ k_ ∨ w.heap.size ≤ k_) ∧ k_ ≠ gb101 ∧ k_ ≠ gb103)) (by (with_reducible repeat (first | apply Kd.V_alloc | apply Kd.V_drewN | apply Kd.V_drew));exact Kd.V_mono HL102_3.out (fun _ hk => ⟨⟨hk.1,⟨hk.2.2.1,hk.2.2.2⟩⟩,hk.2.1⟩)) hg hat) <| haq (Kd.V_afterv (ok := (fun k_ => (P0_2_ k_ ∨ w.heap.size ≤ k_) ∧ k_ ≠ gb101 ∧ k_ ≠ gb103)) (by (with_reducible repeat (first | apply Kd.V_alloc | apply Kd.V_drewN | apply Kd.V_drew));exact Kd.V_mono HL102_4.out (fun _ hk => ⟨⟨hk.1,⟨hk.2.2.1,hk.2.2.2⟩⟩,hk.2.1⟩)) hg hat) <| haq (zaI (g := gb103) (o := .cells #[.string ((zd l0_2 x11_1).f0),.int .i64 ((zd l0_2 x11_1).f1.f0),.int .i64 ((zd l0_2 x11_1).f1.f1),.slice A102_3 ((zd l0_2 x11_1).f1.f2).length c102_3,.slice A102_4 ((zd l0_2 x11_1).f1.f3).length c102_4,.int .i64 ((zd l0_2 x11_1).f1.f4.f0),.int .i64 ((zd l0_2 x11_1).f1.f4.f1)] 36 (0,0)) (hGq BK103.out) hg (Kd.N_away HO_5.out (fun _ hk => hk.2.2))) <| haq (hb) <| haq (ho) <| trivial;clear HO_9 HO_102002 BK101 HL102_3 HL102_4 BK103 HB HO_5;obtain ⟨HO_9,HO_102002,BK101,HL102_3,HL102_4,BK103,HB,HO106,_⟩ := n_;clear ho hb hg hat))
        go_roundg k1
        case measure => have := HK1.out;omega
        case rel => exact ⟨(y104),(wrap64 (x11_1 + 1)),(hDq),H',⟨by have := HK1.out;omega⟩,⟨by (with_reducible repeat (first | apply Kd.N_alloc | apply Kd.N_drewN | apply Kd.N_drew));exact Kd.N_mono HO106.out (fun _ hk => ⟨hk.1,hk.2.1⟩)⟩,⟨by (with_reducible repeat (first | apply Kd.V_alloc | apply Kd.V_drewN | apply Kd.V_drew));exact Kd.V_mono HO_9.out (fun _ hk => ⟨hk.1.1,⟨hk.2,hk.1.2.1⟩⟩)⟩,⟨by (with_reducible repeat (first | apply Kd.V_alloc | apply Kd.V_drewN | apply Kd.V_drew));exact Kd.V_mono HO_102002.out (fun _ hk => ⟨hk.1.1,⟨hk.2,hk.1.2.1⟩⟩)⟩,⟨hGq BK101.out⟩,⟨by repeat (first | (with_reducible first | exact HB.out | apply zk | apply zi | apply zt | refine zm ?_ GE101.out | refine zm ?_ GE103.out) | exact HB.out)⟩⟩
       ·rw [if_neg c9] at H
        exact absurd H (by simp)
      ·rw [if_neg c8] at H
       have c8b0 : (((zd l0_2 x11_1).f1.f1) == a1) = false := beq_eq_false_iff_ne.mpr c8
       have c8b1 : (((zd l0_2 x11_1).f1.f1) != a1) = true := bne_iff_ne.mpr c8
       have H' := za.mk H
       clear H
       have p102 : 0 ≤ (x11_1 : Int) := hFq
       have q102 : x11_1 < (l0_2.length : Int) := hFq
       obtain ⟨ad102,A102_3,c102_3,A102_4,c102_4,e102,hx102_0,hx102_1,hx102_2,hx102_3,hx102_4,hx102_5,hx102_6,hl102_3,hi102_3,hl102_4,hi102_4⟩ := zaW (Kd.V_reads' HO_9.out).2.2 x11_1 p102 q102
       cases e102
       obtain ⟨ce102,hce102,hMe102,hcc102⟩ := Kd.V_get HO_9.out z36 x11_1 p102 (by first | exact q102 | exact hFq | (have e_ := (Kd.V_reads' HO_9.out).1;omega))
       obtain ⟨ua102_3,uc102_3,ua102_4,uc102_4,rfl,ul102_3,ge102_3,ul102_4,ge102_4⟩ := zbQ hMe102
       have hv102_3 := hcc102 3 _ rfl
       rw [zaf _ _ 3 (by omega)] at hv102_3
       replace hv102_3 := Option.some.inj (hv102_3.symm.trans hx102_3)
       injection hv102_3 with hva_ hvn_ hvc_
       rw [hva_] at ge102_3
       rw [hvc_] at ul102_3
       have HL102_3 := za.mk (show Kd.V k72 72 _ w.heap.size _ _ ((zd l0_2 x11_1).f1.f2) from Kd.V_mk ul102_3 ge102_3)
       clear hva_ hvn_ hvc_ ge102_3 ul102_3
       have hv102_4 := hcc102 4 _ rfl
       rw [zaf _ _ 4 (by omega)] at hv102_4
       replace hv102_4 := Option.some.inj (hv102_4.symm.trans hx102_4)
       injection hv102_4 with hva_ hvn_ hvc_
       rw [hva_] at ge102_4
       rw [hvc_] at ul102_4
       have HL102_4 := za.mk (show Kd.V Kd.string 9 _ w.heap.size _ _ ((zd l0_2 x11_1).f1.f3) from Kd.V_mk ul102_4 ge102_4)
       clear hva_ hvn_ hvc_ ge102_4 ul102_4
       clear hcc102 hce102
       have HR102_3 := za.mk hi102_3
       have HC102_3 := za.mk hl102_3
       clear hi102_3 hl102_3
       have HR102_4 := za.mk hi102_4
       have HC102_4 := za.mk hl102_4
       clear hi102_4 hl102_4
       replace p102 := eq_true p102
       replace q102 := eq_true q102
       go_wp2_with (first | ((with_reducible refine zv (N := 7) rfl ?_);refine zr ?hg (N := 7) ?hd (cs := #[.string (⟨#[]⟩ : ByteArray),.int .i64 0,.int .i64 0,.slice none 0 0,.slice none 0 0,.int .i64 0,.int .i64 0]) (t := 36) ?hr ?_;(case hd => rfl);(case hg => rfl);(case hr => first | (go_simp;done) | (go_simp;rfl));intro gb103 hg w16 hbox hb;have n_ := haq (Kd.N_below (Kd.N_elderB (by (with_reducible repeat (first | apply Kd.N_alloc | apply Kd.N_drewN | apply Kd.N_drew));exact HO_5.out) gb103 (Nat.le_of_eq hg.symm)) hb) <| haq (Kd.V_below (Kd.V_elderB (by (with_reducible repeat (first | apply Kd.V_alloc | apply Kd.V_drewN | apply Kd.V_drew));exact HO_9.out) gb103 (Nat.le_of_eq hg.symm)) hb) <| haq (Kd.V_below (Kd.V_elderB (by (with_reducible repeat (first | apply Kd.V_alloc | apply Kd.V_drewN | apply Kd.V_drew));exact HO_102002.out) gb103 (Nat.le_of_eq hg.symm)) hb) <| haq (Kd.V_below (Kd.V_elderB (by (with_reducible repeat (first | apply Kd.V_alloc | apply Kd.V_drewN | apply Kd.V_drew));exact HL102_3.out) gb103 (Nat.le_of_eq hg.symm)) hb) <| haq (Kd.V_below (Kd.V_elderB (by (with_reducible repeat (first | apply Kd.V_alloc | apply Kd.V_drewN | apply Kd.V_drew));exact HL102_4.out) gb103 (Nat.le_of_eq hg.symm)) hb) <| haq (hbq BK101.out hb) <| haq (Kd.C_below (by repeat (first | (with_reducible exact HR102_3.out) | (with_reducible refine Kd.C_alloc ?_ _) | (with_reducible refine Kd.C_drewN ?_ _) | (with_reducible refine Kd.C_drew ?_) | exact HR102_3.out)) hb) <| haq (Kd.C_below (by repeat (first | (with_reducible exact HR102_4.out) | (with_reducible refine Kd.C_alloc ?_ _) | (with_reducible refine Kd.C_drewN ?_ _) | (with_reducible refine Kd.C_drew ?_) | exact HR102_4.out)) hb) <| haq (ze hCq hb) <| haq (hbox) <| haq ((by rw [hg];exact (zh hCq) : w.heap.size ≤ gb103)) <| haq ((by rw [hg];exact (zh hCq) : w.heap.size ≤ gb103)) <| haq (hnq hg BK101.out) <| haq (hmq hg BK101.out) <| trivial;clear HO_5 HO_9 HO_102002 HL102_3 HL102_4 BK101 HR102_3 HR102_4 HB;obtain ⟨HO_5,HO_9,HO_102002,HL102_3,HL102_4,BK101,HR102_3,HR102_4,HB,BK103,GW103,GE103,NB101_103,NB103_101,_⟩ := n_;clear hb hbox hg;have hnb17 := NB103_101.out;have hnc17 := NB101_103.out;obtain ⟨hcz18_0,hcz18_1,hcz18_2,hcz18_3,hcz18_4,hcz18_5,hcz18_6,hfz18_0,hfz18_1,hfz18_2,hfz18_3,hfz18_4,hfz18_5,hfz18_6⟩ := hcq7 BK103.out))
       go_roundg k1
       case measure => have := HK1.out;omega
       case rel => exact ⟨(x5_1),(wrap64 (x11_1 + 1)),(hDq),H',⟨by have := HK1.out;omega⟩,⟨by (with_reducible repeat (first | apply Kd.N_alloc | apply Kd.N_drewN | apply Kd.N_drew));exact Kd.N_mono (Kd.N_far (p := ⟨gb103,6,none⟩) (Kd.N_far (p := ⟨gb103,5,none⟩) (Kd.N_far (p := ⟨gb103,4,none⟩) (Kd.N_far (p := ⟨gb103,3,none⟩) (Kd.N_far (p := ⟨gb103,2,none⟩) (Kd.N_far (p := ⟨gb103,1,none⟩) (Kd.N_far (p := ⟨gb103,0,none⟩) (Kd.N_mono HO_5.out (fun k_ hk => (⟨hk,hk.2⟩ : _ ∧ k_ ≠ gb103))) (fun _ hk => hk.2) (.string ((zd l0_2 x11_1).f0))) (fun _ hk => hk.2) (.int .i64 ((zd l0_2 x11_1).f1.f0))) (fun _ hk => hk.2) (.int .i64 ((zd l0_2 x11_1).f1.f1))) (fun _ hk => hk.2) (.slice A102_3 ((zd l0_2 x11_1).f1.f2).length c102_3)) (fun _ hk => hk.2) (.slice A102_4 ((zd l0_2 x11_1).f1.f3).length c102_4)) (fun _ hk => hk.2) (.int .i64 ((zd l0_2 x11_1).f1.f4.f0))) (fun _ hk => hk.2) (.int .i64 ((zd l0_2 x11_1).f1.f4.f1))) (fun _ hk => ⟨hk.1.1.1,hk.1.1.2⟩)⟩,⟨by (with_reducible repeat (first | apply Kd.V_alloc | apply Kd.V_drewN | apply Kd.V_drew));exact Kd.V_mono (Kd.V_far (p := ⟨gb103,6,none⟩) (Kd.V_far (p := ⟨gb103,5,none⟩) (Kd.V_far (p := ⟨gb103,4,none⟩) (Kd.V_far (p := ⟨gb103,3,none⟩) (Kd.V_far (p := ⟨gb103,2,none⟩) (Kd.V_far (p := ⟨gb103,1,none⟩) (Kd.V_far (p := ⟨gb103,0,none⟩) (Kd.V_mono HO_9.out (fun k_ hk => (⟨hk,hk.2⟩ : _ ∧ k_ ≠ gb103))) (fun _ hk => hk.2) (.string ((zd l0_2 x11_1).f0))) (fun _ hk => hk.2) (.int .i64 ((zd l0_2 x11_1).f1.f0))) (fun _ hk => hk.2) (.int .i64 ((zd l0_2 x11_1).f1.f1))) (fun _ hk => hk.2) (.slice A102_3 ((zd l0_2 x11_1).f1.f2).length c102_3)) (fun _ hk => hk.2) (.slice A102_4 ((zd l0_2 x11_1).f1.f3).length c102_4)) (fun _ hk => hk.2) (.int .i64 ((zd l0_2 x11_1).f1.f4.f0))) (fun _ hk => hk.2) (.int .i64 ((zd l0_2 x11_1).f1.f4.f1))) (fun _ hk => ⟨hk.1.1.1,⟨hk.1.1.2.1,hk.1.1.2.2⟩⟩)⟩,⟨by (with_reducible repeat (first | apply Kd.V_alloc | apply Kd.V_drewN | apply Kd.V_drew));exact Kd.V_mono (Kd.V_far (p := ⟨gb103,6,none⟩) (Kd.V_far (p := ⟨gb103,5,none⟩) (Kd.V_far (p := ⟨gb103,4,none⟩) (Kd.V_far (p := ⟨gb103,3,none⟩) (Kd.V_far (p := ⟨gb103,2,none⟩) (Kd.V_far (p := ⟨gb103,1,none⟩) (Kd.V_far (p := ⟨gb103,0,none⟩) (Kd.V_mono HO_102002.out (fun k_ hk => (⟨hk,hk.2⟩ : _ ∧ k_ ≠ gb103))) (fun _ hk => hk.2) (.string ((zd l0_2 x11_1).f0))) (fun _ hk => hk.2) (.int .i64 ((zd l0_2 x11_1).f1.f0))) (fun _ hk => hk.2) (.int .i64 ((zd l0_2 x11_1).f1.f1))) (fun _ hk => hk.2) (.slice A102_3 ((zd l0_2 x11_1).f1.f2).length c102_3)) (fun _ hk => hk.2) (.slice A102_4 ((zd l0_2 x11_1).f1.f3).length c102_4)) (fun _ hk => hk.2) (.int .i64 ((zd l0_2 x11_1).f1.f4.f0))) (fun _ hk => hk.2) (.int .i64 ((zd l0_2 x11_1).f1.f4.f1))) (fun _ hk => ⟨hk.1.1.1,⟨hk.1.1.2.1,hk.1.1.2.2⟩⟩)⟩,⟨hxq1 NB101_103.out BK101.out⟩,⟨by repeat (first | (with_reducible first | exact HB.out | apply zk | apply zi | apply zt | refine zm ?_ GE101.out | refine zm ?_ GE103.out) | exact HB.out)⟩⟩
     ·rw [if_neg c7] at H
      exact absurd H (by simp)
    ·rw [if_neg c6] at H
     exact absurd H (by simp)
   ·rw [if_neg c5] at H
    have c5b0 : decide (x11_1 < (l0_2.length : Int)) = false := decide_eq_false c5
    clear c5
    obtain rfl := Option.some.inj H
    go_wp2
    go_ret
    exact ⟨_,hHq,by (with_reducible repeat (first | apply Kd.N_alloc | apply Kd.N_drewN | apply Kd.N_drew));exact Kd.N_mono HO_5.out (fun _ hk => hk.1),hCq⟩
def zcy {α : Type} (p : α → Bool) (l : List α) : Int := match l.findIdx? p with | some i => (i : Int) | none => -1
theorem zc2 {α : Type} {p : α → Bool} {l : List α} {k : Nat} {x : α} (hx : l[k]? = some x) (hp : p x = true) (hn : ∀ (j : Nat) (y : α),j < k → l[j]? = some y → p y = false) : zcy p l = k := by
 have hk := (List.getElem?_eq_some_iff.1 hx).1
 have h : l.findIdx? p = some k := by
  rw [List.findIdx?_eq_some_iff_getElem]
  refine ⟨hk,?_,fun j hj => ?_⟩
  ·rw [(List.getElem?_eq_some_iff.1 hx).2];exact hp
  ·have := hn j l[j] hj (List.getElem?_eq_getElem _)
   simp [this]
 rw [zcy,h]
theorem zc3 {α : Type} {p : α → Bool} {l : List α} (hn : ∀ (j : Nat) (y : α),l[j]? = some y → p y = false) : zcy p l = -1 := by
 have h : l.findIdx? p = none := by
  rw [List.findIdx?_eq_none_iff]
  intro x hx
  obtain ⟨j,hj⟩ := List.mem_iff_getElem?.1 hx
  exact hn j x hj
 rw [zcy,h]
theorem zg5 {α : Type} (p : α → Bool) (l : List α) : decide (0 ≤ zcy p l) = l.any p := by
 rw [zcy]
 rcases h : l.findIdx? p with _ | i
 ·rw [List.findIdx?_eq_none_iff] at h
  simp
  intro x hx
  simpa using h x hx
 ·rw [List.findIdx?_eq_some_iff_getElem] at h
  obtain ⟨hi,hp,_⟩ := h
  simp
  exact ⟨_,List.getElem_mem hi,hp⟩
theorem may_ret {a b : Bool} (h : a = b) : Ending.returned (.bool a) = .returned (.bool b) := by rw [h]
def zbP.f (a0_0 : Int) (a0_1 : Int) : Option (Bool) := if a0_0 ≥ 0 then (if a0_0 < 10007 then (if a0_1 ≥ 0 then (some (decide (a0_1 < 10007))) else (some false)) else (some false)) else (some false)
set_option maxHeartbeats 8000000 in
set_option maxRecDepth 100000 in
theorem zbP.calls (a0_0 : Int) (a0_1 : Int) (r : Bool) (w : World) (h : zbP.f a0_0 a0_1 = some r) :
  Calls Try.prog 72 #[.agg #[.int .i64 a0_0,.int .i64 a0_1]] w fun e w' => e = .returned (.bool r) ∧ Below w.heap.size w w' := by
 have hu28 := Try.underlying28
 have HB := za.mk (Below.refl w.heap.size w)
 have H : (if a0_0 ≥ 0 then (if a0_0 < 10007 then (if a0_1 ≥ 0 then (some (decide (a0_1 < 10007))) else (some false)) else (some false)) else (some false)) = some r := h
 clear h
 by_cases c2 : a0_0 ≥ 0
 ·rw [if_pos c2] at H
  have c2b0 : decide (0 ≤ a0_0) = true := decide_eq_true c2
  clear c2
  by_cases c3 : a0_0 < 10007
  ·rw [if_pos c3] at H
   have c3b0 : decide (a0_0 < 10007) = true := decide_eq_true c3
   clear c3
   by_cases c4 : a0_1 ≥ 0
   ·rw [if_pos c4] at H
    have c4b0 : decide (0 ≤ a0_1) = true := decide_eq_true c4
    clear c4
    obtain rfl := Option.some.inj H
    go_enter Try.func72,Try.ntmps72
    go_wp2_with (first | ((with_reducible refine zv (N := 1) rfl ?_);refine zr ?hg (N := 1) ?hd (cs := #[.int .i64 a0_0,.int .i64 a0_1]) (t := 28) ?hr ?_;(case hd => rfl);(case hg => rfl);(case hr => first | (go_simp;done) | (go_simp;rfl));intro gb107 hg w5 hbox hb;have n_ := haq (ze hBq hb) <| haq (hbox) <| haq ((by rw [hg];exact (zh hBq) : w.heap.size ≤ gb107)) <| haq ((by rw [hg];exact (zh hBq) : w.heap.size ≤ gb107)) <| trivial;clear HB;obtain ⟨HB,BK107,GW107,GE107,_⟩ := n_;clear hb hbox hg;obtain ⟨hcz6_0,hcz6_1,hfz6_0,hfz6_1⟩ := hcq2 BK107.out))
    go_ret
    exact ⟨hHq,hCq⟩
   ·rw [if_neg c4] at H
    have c4b0 : decide (0 ≤ a0_1) = false := decide_eq_false c4
    clear c4
    obtain rfl := Option.some.inj H
    go_enter Try.func72,Try.ntmps72
    go_wp2_with (first | ((with_reducible refine zv (N := 1) rfl ?_);refine zr ?hg (N := 1) ?hd (cs := #[.int .i64 a0_0,.int .i64 a0_1]) (t := 28) ?hr ?_;(case hd => rfl);(case hg => rfl);(case hr => first | (go_simp;done) | (go_simp;rfl));intro gb107 hg w7 hbox hb;have n_ := haq (ze hBq hb) <| haq (hbox) <| haq ((by rw [hg];exact (zh hBq) : w.heap.size ≤ gb107)) <| haq ((by rw [hg];exact (zh hBq) : w.heap.size ≤ gb107)) <| trivial;clear HB;obtain ⟨HB,BK107,GW107,GE107,_⟩ := n_;clear hb hbox hg;obtain ⟨hcz8_0,hcz8_1,hfz8_0,hfz8_1⟩ := hcq2 BK107.out))
    go_ret
    exact ⟨hHq,hCq⟩
  ·rw [if_neg c3] at H
   have c3b0 : decide (a0_0 < 10007) = false := decide_eq_false c3
   clear c3
   obtain rfl := Option.some.inj H
   go_enter Try.func72,Try.ntmps72
   go_wp2_with (first | ((with_reducible refine zv (N := 1) rfl ?_);refine zr ?hg (N := 1) ?hd (cs := #[.int .i64 a0_0,.int .i64 a0_1]) (t := 28) ?hr ?_;(case hd => rfl);(case hg => rfl);(case hr => first | (go_simp;done) | (go_simp;rfl));intro gb107 hg w9 hbox hb;have n_ := haq (ze hBq hb) <| haq (hbox) <| haq ((by rw [hg];exact (zh hBq) : w.heap.size ≤ gb107)) <| haq ((by rw [hg];exact (zh hBq) : w.heap.size ≤ gb107)) <| trivial;clear HB;obtain ⟨HB,BK107,GW107,GE107,_⟩ := n_;clear hb hbox hg;obtain ⟨hcz10_0,hcz10_1,hfz10_0,hfz10_1⟩ := hcq2 BK107.out))
   go_ret
   exact ⟨hHq,hCq⟩
 ·rw [if_neg c2] at H
  have c2b0 : decide (0 ≤ a0_0) = false := decide_eq_false c2
  clear c2
  obtain rfl := Option.some.inj H
  go_enter Try.func72,Try.ntmps72
  go_wp2_with (first | ((with_reducible refine zv (N := 1) rfl ?_);refine zr ?hg (N := 1) ?hd (cs := #[.int .i64 a0_0,.int .i64 a0_1]) (t := 28) ?hr ?_;(case hd => rfl);(case hg => rfl);(case hr => first | (go_simp;done) | (go_simp;rfl));intro gb107 hg w11 hbox hb;have n_ := haq (ze hBq hb) <| haq (hbox) <| haq ((by rw [hg];exact (zh hBq) : w.heap.size ≤ gb107)) <| haq ((by rw [hg];exact (zh hBq) : w.heap.size ≤ gb107)) <| trivial;clear HB;obtain ⟨HB,BK107,GW107,GE107,_⟩ := n_;clear hb hbox hg;obtain ⟨hcz12_0,hcz12_1,hfz12_0,hfz12_1⟩ := hcq2 BK107.out))
  go_ret
  exact ⟨hHq,hCq⟩
def zam.f (a0 : Int) : Option (Bool) := if a0 ≥ 4 then (if a0 ≤ 64 then (some ((Int.tmod a0 3) == 1)) else (some false)) else (some false)
set_option maxHeartbeats 8000000 in
set_option maxRecDepth 100000 in
theorem zam.calls (a0 : Int) (r : Bool) (w : World) (h : zam.f a0 = some r) :
  Calls Try.prog 29 #[.int .i64 a0] w fun e w' => e = .returned (.bool r) ∧ zaU w w' := by
 have H : (if a0 ≥ 4 then (if a0 ≤ 64 then (some ((Int.tmod a0 3) == 1)) else (some false)) else (some false)) = some r := h
 clear h
 by_cases c2 : a0 ≥ 4
 ·rw [if_pos c2] at H
  have c2b0 : decide (4 ≤ a0) = true := decide_eq_true c2
  clear c2
  by_cases c3 : a0 ≤ 64
  ·rw [if_pos c3] at H
   have c3b0 : decide (a0 ≤ 64) = true := decide_eq_true c3
   clear c3
   obtain rfl := Option.some.inj H
   go_enter Try.func29,Try.ntmps29
   go_wp2
   go_ret
   exact ⟨hDq,hEq⟩
  ·rw [if_neg c3] at H
   have c3b0 : decide (a0 ≤ 64) = false := decide_eq_false c3
   clear c3
   obtain rfl := Option.some.inj H
   go_enter Try.func29,Try.ntmps29
   go_wp2
   go_ret
   exact ⟨hDq,hEq⟩
 ·rw [if_neg c2] at H
  have c2b0 : decide (4 ≤ a0) = false := decide_eq_false c2
  clear c2
  obtain rfl := Option.some.inj H
  go_enter Try.func29,Try.ntmps29
  go_wp2
  go_ret
  exact ⟨hDq,hEq⟩
def zbl.f (a0 : Int) : Option (Int) := (zam.f a0).bind fun t108 => (if t108 = true then (some (wrap64 (Int.tdiv (wrap64 (a0 - 1)) 3))) else (some 0))
set_option maxHeartbeats 8000000 in
set_option maxRecDepth 100000 in
theorem zbl.calls (a0 : Int) (r : Int) (w : World) (h : zbl.f a0 = some r) :
  Calls Try.prog 101 #[.int .i64 a0] w fun e w' => e = .returned (.int .i64 r) ∧ zaU w w' := by
 have H : ((zam.f a0).bind fun t108 => (if t108 = true then (some (wrap64 (Int.tdiv (wrap64 (a0 - 1)) 3))) else (some 0))) = some r := h
 clear h
 replace H := Option.bind_eq_some_iff.mp H
 obtain ⟨t108,A20,H⟩ := H
 replace H : (if t108 = true then (some (wrap64 (Int.tdiv (wrap64 (a0 - 1)) 3))) else (some 0)) = some r := H
 have A2 := za.mk A20
 clear A20
 by_cases c3 : t108 = true
 ·subst c3
  have H1 : (some (wrap64 (Int.tdiv (wrap64 (a0 - 1)) 3))) = some r := by rw [if_pos rfl] at H;exact H
  clear H
  have H := H1
  clear H1
  obtain rfl := Option.some.inj H
  go_enter Try.func101,Try.ntmps101
  go_wp2_with (first | ((with_reducible refine zS (f := 29) rfl ?_);refine zav (some 4) rfl rfl Try.func29 (by kernel_rfl) rfl #[.int .i64 a0] rfl hMq ?_;(with_reducible refine (zam.calls a0 true _ A2.out).mono ?_);rintro e w' ⟨rfl,⟨nd,rfl⟩⟩;refine ⟨_,rfl,?_⟩))
  go_ret
  exact ⟨hDq,hEq⟩
 ·replace c3 := Bool.eq_false_iff.mpr c3
  subst c3
  have H1 : (some 0) = some r := by rw [if_neg (show ¬ (false = true) by decide)] at H;exact H
  clear H
  have H := H1
  clear H1
  obtain rfl := Option.some.inj H
  go_enter Try.func101,Try.ntmps101
  go_wp2_with (first | ((with_reducible refine zS (f := 29) rfl ?_);refine zav (some 4) rfl rfl Try.func29 (by kernel_rfl) rfl #[.int .i64 a0] rfl hMq ?_;(with_reducible refine (zam.calls a0 false _ A2.out).mono ?_);rintro e w' ⟨rfl,⟨nd,rfl⟩⟩;refine ⟨_,rfl,?_⟩))
  go_ret
  exact ⟨hDq,hEq⟩
def zbz.f (a0 : Int) : Option (Int) := (zam.f a0).bind fun t109 => (if t109 = true then ((zbl.f a0).bind fun t110 => (some (wrap64 (a0 - t110)))) else (some 0))
set_option maxHeartbeats 8000000 in
set_option maxRecDepth 100000 in
theorem zbz.calls (a0 : Int) (r : Int) (w : World) (h : zbz.f a0 = some r) :
  Calls Try.prog 93 #[.int .i64 a0] w fun e w' => e = .returned (.int .i64 r) ∧ zaU w w' := by
 have H : ((zam.f a0).bind fun t109 => (if t109 = true then ((zbl.f a0).bind fun t110 => (some (wrap64 (a0 - t110)))) else (some 0))) = some r := h
 clear h
 replace H := Option.bind_eq_some_iff.mp H
 obtain ⟨t109,A20,H⟩ := H
 replace H : (if t109 = true then ((zbl.f a0).bind fun t110 => (some (wrap64 (a0 - t110)))) else (some 0)) = some r := H
 have A2 := za.mk A20
 clear A20
 by_cases c3 : t109 = true
 ·subst c3
  have H1 : ((zbl.f a0).bind fun t110 => (some (wrap64 (a0 - t110)))) = some r := by rw [if_pos rfl] at H;exact H
  clear H
  have H := H1
  clear H1
  replace H := Option.bind_eq_some_iff.mp H
  obtain ⟨t110,A40,H⟩ := H
  replace H : (some (wrap64 (a0 - t110))) = some r := H
  have A4 := za.mk A40
  clear A40
  obtain rfl := Option.some.inj H
  go_enter Try.func93,Try.ntmps93
  go_wp2_with (first | ((with_reducible refine zS (f := 29) rfl ?_);refine zav (some 4) rfl rfl Try.func29 (by kernel_rfl) rfl #[.int .i64 a0] rfl hMq ?_;(with_reducible refine (zam.calls a0 true _ A2.out).mono ?_);rintro e w' ⟨rfl,⟨nd,rfl⟩⟩;refine ⟨_,rfl,?_⟩) | ((with_reducible refine zS (f := 101) rfl ?_);refine zav (some 8) rfl rfl Try.func101 (by kernel_rfl) rfl #[.int .i64 a0] rfl hMq ?_;(with_reducible refine (zbl.calls a0 t110 _ A4.out).mono ?_);rintro e w' ⟨rfl,⟨nd,rfl⟩⟩;refine ⟨_,rfl,?_⟩))
  go_ret
  exact ⟨hDq,hEq⟩
 ·replace c3 := Bool.eq_false_iff.mpr c3
  subst c3
  have H1 : (some 0) = some r := by rw [if_neg (show ¬ (false = true) by decide)] at H;exact H
  clear H
  have H := H1
  clear H1
  obtain rfl := Option.some.inj H
  go_enter Try.func93,Try.ntmps93
  go_wp2_with (first | ((with_reducible refine zS (f := 29) rfl ?_);refine zav (some 4) rfl rfl Try.func29 (by kernel_rfl) rfl #[.int .i64 a0] rfl hMq ?_;(with_reducible refine (zam.calls a0 false _ A2.out).mono ?_);rintro e w' ⟨rfl,⟨nd,rfl⟩⟩;refine ⟨_,rfl,?_⟩))
  go_ret
  exact ⟨hDq,hEq⟩
end Go.Proofs.Ytklhjlaofkngcaa.Px