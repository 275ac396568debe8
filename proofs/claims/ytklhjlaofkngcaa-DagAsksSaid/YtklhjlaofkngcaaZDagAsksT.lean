/- Part 20 of 33 of the proof of the law DagAsks: what is proved is the statement at the end of the last part; its conditions are those of the given row. -/
import Derived.MapKept
import Derived.Laws.NewBlocks
import Derived.Maps.OwnOps
import Derived.Test.YtklhjlaofkngcaaZDagAsksD
namespace Go.Proofs.Ytklhjlaofkngcaa.Px
open Go.RowKit Go.Proofs.YtklhjlaofkngcaaW.PrintWords Go.Proofs.YtklhjlaofkngcaaW.PrintLast Go.Proofs.YtklhjlaofkngcaaW.PrintMore
attribute [local go_sem] zF zH zM zN zB zC zG zI
set_option linter.unusedVariables false
set_option linter.unusedSimpArgs false
def zaV.l0 : Nat → Int → List (S36) → List (S36) → Int → Int → Option ((List (S36)))
 | 0,_,_,_,_,_ => none
 | k + 1,x1,x5,x9,x10,x11 => if x11 < x10 then (if 0 ≤ x11 then (if x11 < (x9.length : Int) then (if ((zd x9 x11).f1.f1) = x1 then (if x5.length < 1466015503701 then (zaV.l0 k x1 (x5 ++ [(⟨(zd x9 x11).f0,(⟨(zd x9 x11).f1.f0,(zd x9 x11).f1.f1,(zd x9 x11).f1.f2,(zd x9 x11).f1.f3,(⟨(zd x9 x11).f1.f4.f0,(zd x9 x11).f1.f4.f1⟩ : S28)⟩ : S30)⟩ : S36)]) x9 x10 (wrap64 (x11 + 1))) else (none)) else (zaV.l0 k x1 x5 x9 x10 (wrap64 (x11 + 1)))) else (none)) else (none)) else (some x5)
def zaV.f (k : Nat) (a0_0 : Int) (a0_1 : Int) (l0_2 : List (S36)) (a1 : Int) : Option ((List (S36))) := zaV.l0 k a1 ([] : List (S36)) l0_2 (l0_2.length : Int) 0
set_option maxHeartbeats 8000000 in
set_option maxRecDepth 100000 in
theorem zaV.calls (k : Nat) (a0_0 : Int) (a0_1 : Int) (P0_2_ : Nat → Prop) (A0_2 : Option Addr) (c0_2 : Nat) (l0_2 : List (S36)) (a1 : Int) (r : List (S36)) (w : World) (hs0_2 : Kd.V k36 36 w w.heap.size (fun k_ => P0_2_ k_) (.slice A0_2 l0_2.length c0_2) l0_2) (h : zaV.f k a0_0 a0_1 l0_2 a1 = some r) :
  Calls Try.prog 15 #[.agg #[.int .i64 a0_0,.int .i64 a0_1,.slice A0_2 l0_2.length c0_2],.int .i64 a1] w fun e w' => ∃ v0_ : Value,e = .returned (v0_) ∧ Kd.N k36 36 w' w.heap.size (fun k_ => (P0_2_ k_ ∨ w.heap.size ≤ k_)) v0_ r ∧ Below w.heap.size w w' := by
 have hu24 := Try.underlying24
 have hu36 := Try.underlying36
 have HO0_2 := za.mk (show Kd.V k36 36 w w.heap.size (fun k_ => (P0_2_ k_ ∨ w.heap.size ≤ k_)) (.slice A0_2 l0_2.length c0_2) l0_2 from Kd.V_mono hs0_2 (fun k_ hk => .inl hk))
 have HB := za.mk (Below.refl w.heap.size w)
 have H : (zaV.l0 k a1 ([] : List (S36)) l0_2 (l0_2.length : Int) 0) = some r := h
 clear h
 have H' := za.mk H
 clear H
 go_enter Try.func15,Try.ntmps15
 go_wp2_with (first | ((with_reducible refine zu (N := 2) rfl ?_);refine zp ?hg (N := 2) ?hd (cs := #[.int .i64 a0_0,.int .i64 a0_1,.slice A0_2 l0_2.length c0_2]) (t := 24) ?hr ?_;(case hd => rfl);(case hg => rfl);(case hr => first | (go_simp;done) | (go_simp;rfl));intro gb101 hg w3 hbox hb;have n_ := haq (Kd.V_below (Kd.V_elderB (by (with_reducible repeat (first | apply Kd.V_alloc | apply Kd.V_drewN | apply Kd.V_drew));exact HO0_2.out) gb101 (Nat.le_of_eq hg.symm)) hb) <| haq (ze hBq hb) <| haq (hbox) <| haq ((by rw [hg];exact (zg hBq) : w.heap.size ≤ gb101)) <| haq ((by rw [hg];exact (zg hBq) : w.heap.size ≤ gb101)) <| trivial;clear HO0_2 HB;obtain ⟨HO0_2,HB,BK101,GW101,GE101,_⟩ := n_;clear hb hbox hg;obtain ⟨hcz4_0,hcz4_1,hcz4_2,hfz4_0,hfz4_1,hfz4_2⟩ := hcq3 BK101.out))
 go_loopg [5,11] k (fun kq v5 v11 w' => ∃ (x5_1 : List (S36)) (x11_1 : Int),v11 = .int .i64 x11_1 ∧ za (zaV.l0 kq a1 x5_1 l0_2 (l0_2.length : Int) x11_1 = some r) ∧ za (kq ≤ k) ∧ za (Kd.N k36 36 w' w.heap.size (fun k_ => (P0_2_ k_ ∨ w.heap.size ≤ k_) ∧ k_ ≠ gb101) v5 x5_1) ∧ za (Kd.V k36 36 w' w.heap.size (fun k_ => (P0_2_ k_ ∨ w.heap.size ≤ k_) ∧ some k_ ≠ (v5 : Value).ownBlock ∧ k_ ≠ gb101) (.slice A0_2 l0_2.length c0_2) l0_2) ∧ za (Kd.V k36 36 w' w.heap.size (fun k_ => (P0_2_ k_ ∨ w.heap.size ≤ k_) ∧ some k_ ≠ (v5 : Value).ownBlock ∧ k_ ≠ gb101) (.slice A0_2 l0_2.length c0_2) l0_2) ∧ za (w'.heap[gb101]? = some (.cells #[.int .i64 a0_0,.int .i64 a0_1,(.slice A0_2 l0_2.length c0_2)] 24 (0,0))) ∧ za (Below w.heap.size w w'))
 case atStart => exact ⟨(([] : List (S36))),(0),(hDq),H',⟨Nat.le_refl _⟩,⟨by first | exact Kd.R_nil _ _ _ _ _ | exact Kd.N_nil _ _ _ _ _ | exact Kd.V_nil _ _ _ _ _ | exact Kd.Q_nil _ _ _ _ _ | exact Kd.S_nil _ _ _ _ _⟩,⟨by (with_reducible repeat (first | apply Kd.V_alloc | apply Kd.V_drewN | apply Kd.V_drew));exact Kd.V_mono HO0_2.out (fun _ hk => ⟨hk.1,⟨(by simp [Value.ownBlock]),hk.2⟩⟩)⟩,⟨by (with_reducible repeat (first | apply Kd.V_alloc | apply Kd.V_drewN | apply Kd.V_drew));exact Kd.V_mono HO0_2.out (fun _ hk => ⟨hk.1,⟨(by simp [Value.ownBlock]),hk.2⟩⟩)⟩,⟨hGq BK101.out⟩,⟨by repeat (first | (with_reducible first | exact HB.out | apply zl | apply zi | apply zq | refine zo ?_ GE101.out) | exact HB.out)⟩⟩
 case round =>
  clear H'
  try clear c1;try clear p2;try clear hcz4_0;try clear hcz4_1;try clear hcz4_2;try clear hfz4_0;try clear hfz4_1;try clear hfz4_2
  obtain ⟨x5_1,x11_1,rfl,HA,HK1,HO_5,HO_9,HO_102002,BK101,HB⟩ := hrel
  cases gk with
  | zero => exact absurd HA.out (by simp [zaV.l0])
  | succ k1 =>
   have H := HA.out
   clear HA
   simp only [zaV.l0] at H
   by_cases c5 : x11_1 < (l0_2.length : Int)
   ·rw [if_pos c5] at H
    have c5b0 : decide (x11_1 < (l0_2.length : Int)) = true := decide_eq_true c5
    clear c5
    by_cases c6 : 0 ≤ x11_1
    ·rw [if_pos c6] at H
     have c6b0 : decide (0 ≤ x11_1) = true := decide_eq_true c6
     clear c6
     by_cases c7 : x11_1 < (l0_2.length : Int)
     ·rw [if_pos c7] at H
      have c7b0 : decide (x11_1 < (l0_2.length : Int)) = true := decide_eq_true c7
      clear c7
      by_cases c8 : ((zd l0_2 x11_1).f1.f1) = a1
      ·rw [if_pos c8] at H
       have c8b0 : (((zd l0_2 x11_1).f1.f1) == a1) = true := beq_iff_eq.mpr c8
       have c8b1 : (((zd l0_2 x11_1).f1.f1) != a1) = false := bne_eq_false_iff_eq.mpr c8
       clear c8
       by_cases c9 : x5_1.length < 1466015503701
       ·rw [if_pos c9] at H
        have LMc9 := za.mk c9
        clear c9
        obtain ⟨y104,hy104⟩ : ∃ y_ : List (S36),y_ = (x5_1 ++ [(⟨(zd l0_2 x11_1).f0,(⟨(zd l0_2 x11_1).f1.f0,(zd l0_2 x11_1).f1.f1,(zd l0_2 x11_1).f1.f2,(zd l0_2 x11_1).f1.f3,(⟨(zd l0_2 x11_1).f1.f4.f0,(zd l0_2 x11_1).f1.f4.f1⟩ : S28)⟩ : S30)⟩ : S36)]) := ⟨_,rfl⟩
        replace H : (zaV.l0 k1 a1 y104 l0_2 (l0_2.length : Int) (wrap64 (x11_1 + 1))) = some r := by first | (rw [hy104];with_reducible exact H) | (have H2_ := (Option.bind_some _ _).symm.trans H;rw [hy104];with_reducible exact H2_) | (have H2_ := (Option.bind_some _ _).symm.trans H;with_reducible exact H2_) | with_reducible exact H | (rw [hy104];exact H) | exact H
        have Ny104 := za.mk hy104
        clear hy104
        have H' := za.mk H
        clear H
        have p102 : 0 ≤ (x11_1 : Int) := hFq
        have q102 : x11_1 < (l0_2.length : Int) := hFq
        obtain ⟨ad102,A102_3,c102_3,A102_4,c102_4,e102,hx102_0,hx102_1,hx102_2,hx102_3,hx102_4,hx102_5,hx102_6,hl102_3,hi102_3,hl102_4,hi102_4⟩ := zaH (Kd.V_reads' HO_9.out).2.2 x11_1 p102 q102
        cases e102
        obtain ⟨ce102,hce102,hMe102,hcc102⟩ := Kd.V_get HO_9.out z36 x11_1 p102 (by first | exact q102 | exact hFq | (have e_ := (Kd.V_reads' HO_9.out).1;omega))
        obtain ⟨ua102_3,uc102_3,ua102_4,uc102_4,rfl,ul102_3,ge102_3,ul102_4,ge102_4⟩ := zaW hMe102
        have hv102_3 := hcc102 3 _ rfl
        rw [zW _ _ 3 (by omega)] at hv102_3
        replace hv102_3 := Option.some.inj (hv102_3.symm.trans hx102_3)
        injection hv102_3 with hva_ hvn_ hvc_
        rw [hva_] at ge102_3
        rw [hvc_] at ul102_3
        have HL102_3 := za.mk (show Kd.V k72 72 _ w.heap.size _ _ ((zd l0_2 x11_1).f1.f2) from Kd.V_mk ul102_3 ge102_3)
        clear hva_ hvn_ hvc_ ge102_3 ul102_3
        have hv102_4 := hcc102 4 _ rfl
        rw [zW _ _ 4 (by omega)] at hv102_4
        replace hv102_4 := Option.some.inj (hv102_4.symm.trans hx102_4)
        injection hv102_4 with hva_ hvn_ hvc_
        rw [hva_] at ge102_4
        rw [hvc_] at ul102_4
        have HL102_4 := za.mk (show Kd.V Kd.string 9 _ w.heap.size _ _ ((zd l0_2 x11_1).f1.f3) from Kd.V_mk ul102_4 ge102_4)
        clear hva_ hvn_ hvc_ ge102_4 ul102_4
        clear hcc102 hce102
        have HR102_3 := za.mk hi102_3
        have HC102_3 := za.mk hl102_3
        clear hi102_3 hl102_3
        have HR102_4 := za.mk hi102_4
        have HC102_4 := za.mk hl102_4
        clear hi102_4 hl102_4
        replace p102 := eq_true p102
        replace q102 := eq_true q102
        go_wp2_with (first | ((with_reducible refine zu (N := 7) rfl ?_);refine zp ?hg (N := 7) ?hd (cs := #[.string (⟨#[]⟩ : ByteArray),.int .i64 0,.int .i64 0,.slice none 0 0,.slice none 0 0,.int .i64 0,.int .i64 0]) (t := 36) ?hr ?_;(case hd => rfl);(case hg => rfl);(case hr => first | (go_simp;done) | (go_simp;rfl));intro gb103 hg w10 hbox hb;have n_ := haq (Kd.N_below (Kd.N_elderB (by (with_reducible repeat (first | apply Kd.N_alloc | apply Kd.N_drewN | apply Kd.N_drew));exact HO_5.out) gb103 (Nat.le_of_eq hg.symm)) hb) <| haq (Kd.V_below (Kd.V_elderB (by (with_reducible repeat (first | apply Kd.V_alloc | apply Kd.V_drewN | apply Kd.V_drew));exact HO_9.out) gb103 (Nat.le_of_eq hg.symm)) hb) <| haq (Kd.V_below (Kd.V_elderB (by (with_reducible repeat (first | apply Kd.V_alloc | apply Kd.V_drewN | apply Kd.V_drew));exact HO_102002.out) gb103 (Nat.le_of_eq hg.symm)) hb) <| haq (Kd.V_below (Kd.V_elderB (by (with_reducible repeat (first | apply Kd.V_alloc | apply Kd.V_drewN | apply Kd.V_drew));exact HL102_3.out) gb103 (Nat.le_of_eq hg.symm)) hb) <| haq (Kd.V_below (Kd.V_elderB (by (with_reducible repeat (first | apply Kd.V_alloc | apply Kd.V_drewN | apply Kd.V_drew));exact HL102_4.out) gb103 (Nat.le_of_eq hg.symm)) hb) <| haq (hbq BK101.out hb) <| haq (Kd.C_below (by repeat (first | (with_reducible exact HR102_3.out) | (with_reducible refine Kd.C_alloc ?_ _) | (with_reducible refine Kd.C_drewN ?_ _) | (with_reducible refine Kd.C_drew ?_) | exact HR102_3.out)) hb) <| haq (Kd.C_below (by repeat (first | (with_reducible exact HR102_4.out) | (with_reducible refine Kd.C_alloc ?_ _) | (with_reducible refine Kd.C_drewN ?_ _) | (with_reducible refine Kd.C_drew ?_) | exact HR102_4.out)) hb) <| haq (ze hCq hb) <| haq (hbox) <| haq ((by rw [hg];exact (zg hCq) : w.heap.size ≤ gb103)) <| haq ((by rw [hg];exact (zg hCq) : w.heap.size ≤ gb103)) <| haq (hnq hg BK101.out) <| haq (hmq hg BK101.out) <| trivial;clear HO_5 HO_9 HO_102002 HL102_3 HL102_4 BK101 HR102_3 HR102_4 HB;obtain ⟨HO_5,HO_9,HO_102002,HL102_3,HL102_4,BK101,HR102_3,HR102_4,HB,BK103,GW103,GE103,NB101_103,NB103_101,_⟩ := n_;clear hb hbox hg;have hnb11 := NB103_101.out;have hnc11 := NB101_103.out;obtain ⟨hcz12_0,hcz12_1,hcz12_2,hcz12_3,hcz12_4,hcz12_5,hcz12_6,hfz12_0,hfz12_1,hfz12_2,hfz12_3,hfz12_4,hfz12_5,hfz12_6⟩ := hcq7 BK103.out) | ((with_reducible refine zaO (t := 36) (p := 7) rfl ?_);refine zaG (t := 36) (p := 7) (v := ?vo_w13) (w1 := (((((((w10.setCell ⟨gb103,0,none⟩ (.string ((zd l0_2 x11_1).f0))).setCell ⟨gb103,1,none⟩ (.int .i64 ((zd l0_2 x11_1).f1.f0))).setCell ⟨gb103,2,none⟩ (.int .i64 ((zd l0_2 x11_1).f1.f1))).setCell ⟨gb103,3,none⟩ (.slice A102_3 ((zd l0_2 x11_1).f1.f2).length c102_3)).setCell ⟨gb103,4,none⟩ (.slice A102_4 ((zd l0_2 x11_1).f1.f3).length c102_4)).setCell ⟨gb103,5,none⟩ (.int .i64 ((zd l0_2 x11_1).f1.f4.f0))).setCell ⟨gb103,6,none⟩ (.int .i64 ((zd l0_2 x11_1).f1.f4.f1)))) ?hg ?ho ?hn ?hr ?_;(case ho => rfl);(case hg => rfl);(case hn => rfl);(case hr => first | (go_simp;done) | (go_simp;rfl));intro w13 hw;have n_ := haq (((by rw [hw];exact (by (with_reducible repeat (first | apply Kd.N_alloc | apply Kd.N_drewN | apply Kd.N_drew));exact Kd.N_mono (Kd.N_far (p := ⟨gb103,6,none⟩) (Kd.N_far (p := ⟨gb103,5,none⟩) (Kd.N_far (p := ⟨gb103,4,none⟩) (Kd.N_far (p := ⟨gb103,3,none⟩) (Kd.N_far (p := ⟨gb103,2,none⟩) (Kd.N_far (p := ⟨gb103,1,none⟩) (Kd.N_far (p := ⟨gb103,0,none⟩) (Kd.N_mono HO_5.out (fun k_ hk => (⟨hk,hk.2⟩ : _ ∧ k_ ≠ gb103))) (fun _ hk => hk.2) (.string ((zd l0_2 x11_1).f0))) (fun _ hk => hk.2) (.int .i64 ((zd l0_2 x11_1).f1.f0))) (fun _ hk => hk.2) (.int .i64 ((zd l0_2 x11_1).f1.f1))) (fun _ hk => hk.2) (.slice A102_3 ((zd l0_2 x11_1).f1.f2).length c102_3)) (fun _ hk => hk.2) (.slice A102_4 ((zd l0_2 x11_1).f1.f3).length c102_4)) (fun _ hk => hk.2) (.int .i64 ((zd l0_2 x11_1).f1.f4.f0))) (fun _ hk => hk.2) (.int .i64 ((zd l0_2 x11_1).f1.f4.f1))) (fun _ hk => ⟨hk.1.1.1,⟨hk.1.1.2,hk.1.2⟩⟩))) : Kd.N k36 36 w13 w.heap.size (fun k_ => (P0_2_ k_ ∨ w.heap.size ≤ k_) ∧ k_ ≠ gb101 ∧ k_ ≠ gb103) u5 x5_1)) <| haq (((by rw [hw];exact (by (with_reducible repeat (first | apply Kd.V_alloc | apply Kd.V_drewN | apply Kd.V_drew));exact Kd.V_mono (Kd.V_far (p := ⟨gb103,6,none⟩) (Kd.V_far (p := ⟨gb103,5,none⟩) (Kd.V_far (p := ⟨gb103,4,none⟩) (Kd.V_far (p := ⟨gb103,3,none⟩) (Kd.V_far (p := ⟨gb103,2,none⟩) (Kd.V_far (p := ⟨gb103,1,none⟩) (Kd.V_far (p := ⟨gb103,0,none⟩) (Kd.V_mono HO_9.out (fun k_ hk => (⟨hk,hk.2⟩ : _ ∧ k_ ≠ gb103))) (fun _ hk => hk.2) (.string ((zd l0_2 x11_1).f0))) (fun _ hk => hk.2) (.int .i64 ((zd l0_2 x11_1).f1.f0))) (fun _ hk => hk.2) (.int .i64 ((zd l0_2 x11_1).f1.f1))) (fun _ hk => hk.2) (.slice A102_3 ((zd l0_2 x11_1).f1.f2).length c102_3)) (fun _ hk => hk.2) (.slice A102_4 ((zd l0_2 x11_1).f1.f3).length c102_4)) (fun _ hk => hk.2) (.int .i64 ((zd l0_2 x11_1).f1.f4.f0))) (fun _ hk => hk.2) (.int .i64 ((zd l0_2 x11_1).f1.f4.f1))) (fun _ hk => ⟨hk.1.1.1,⟨hk.1.1.2.1,⟨hk.1.1.2.2,hk.1.2⟩⟩⟩))) : Kd.V k36 36 w13 w.heap.size (fun k_ => (P0_2_ k_ ∨ w.heap.size ≤ k_) ∧ some k_ ≠ (u5 : Value).ownBlock ∧ k_ ≠ gb101 ∧ k_ ≠ gb103) (.slice (some ad102) l0_2.length c0_2) l0_2)) <| haq (((by rw [hw];exact (by (with_reducible repeat (first | apply Kd.V_alloc | apply Kd.V_drewN | apply Kd.V_drew));exact Kd.V_mono (Kd.V_far (p := ⟨gb103,6,none⟩) (Kd.V_far (p := ⟨gb103,5,none⟩) (Kd.V_far (p := ⟨gb103,4,none⟩) (Kd.V_far (p := ⟨gb103,3,none⟩) (Kd.V_far (p := ⟨gb103,2,none⟩) (Kd.V_far (p := ⟨gb103,1,none⟩) (Kd.V_far (p := ⟨gb103,0,none⟩) (Kd.V_mono HO_102002.out (fun k_ hk => (⟨hk,hk.2⟩ : _ ∧ k_ ≠ gb103))) (fun _ hk => hk.2) (.string ((zd l0_2 x11_1).f0))) (fun _ hk => hk.2) (.int .i64 ((zd l0_2 x11_1).f1.f0))) (fun _ hk => hk.2) (.int .i64 ((zd l0_2 x11_1).f1.f1))) (fun _ hk => hk.2) (.slice A102_3 ((zd l0_2 x11_1).f1.f2).length c102_3)) (fun _ hk => hk.2) (.slice A102_4 ((zd l0_2 x11_1).f1.f3).length c102_4)) (fun _ hk => hk.2) (.int .i64 ((zd l0_2 x11_1).f1.f4.f0))) (fun _ hk => hk.2) (.int .i64 ((zd l0_2 x11_1).f1.f4.f1))) (fun _ hk => ⟨hk.1.1.1,⟨hk.1.1.2.1,⟨hk.1.1.2.2,hk.1.2⟩⟩⟩))) : Kd.V k36 36 w13 w.heap.size (fun k_ => (P0_2_ k_ ∨ w.heap.size ≤ k_) ∧ some k_ ≠ (u5 : Value).ownBlock ∧ k_ ≠ gb101 ∧ k_ ≠ gb103) (.slice (some ad102) l0_2.length c0_2) l0_2)) <| haq (((by rw [hw];exact (by (with_reducible repeat (first | apply Kd.V_alloc | apply Kd.V_drewN | apply Kd.V_drew));exact Kd.V_mono (Kd.V_far (p := ⟨gb103,6,none⟩) (Kd.V_far (p := ⟨gb103,5,none⟩) (Kd.V_far (p := ⟨gb103,4,none⟩) (Kd.V_far (p := ⟨gb103,3,none⟩) (Kd.V_far (p := ⟨gb103,2,none⟩) (Kd.V_far (p := ⟨gb103,1,none⟩) (Kd.V_far (p := ⟨gb103,0,none⟩) (Kd.V_mono HL102_3.out (fun k_ hk => (⟨hk,hk.2⟩ : _ ∧ k_ ≠ gb103))) (fun _ hk => hk.2) (.string ((zd l0_2 x11_1).f0))) (fun _ hk => hk.2) (.int .i64 ((zd l0_2 x11_1).f1.f0))) (fun _ hk => hk.2) (.int .i64 ((zd l0_2 x11_1).f1.f1))) (fun _ hk => hk.2) (.slice A102_3 ((zd l0_2 x11_1).f1.f2).length c102_3)) (fun _ hk => hk.2) (.slice A102_4 ((zd l0_2 x11_1).f1.f3).length c102_4)) (fun _ hk => hk.2) (.int .i64 ((zd l0_2 x11_1).f1.f4.f0))) (fun _ hk => hk.2) (.int .i64 ((zd l0_2 x11_1).f1.f4.f1))) (fun _ hk => ⟨hk.1.1.1,⟨hk.1.1.2.1,⟨hk.1.1.2.2,hk.1.2⟩⟩⟩))) : Kd.V k72 72 w13 w.heap.size (fun k_ => (P0_2_ k_ ∨ w.heap.size ≤ k_) ∧ some k_ ≠ (u5 : Value).ownBlock ∧ k_ ≠ gb101 ∧ k_ ≠ gb103) (.slice A102_3 ((zd l0_2 x11_1).f1.f2).length c102_3) ((zd l0_2 x11_1).f1.f2))) <| haq (((by rw [hw];exact (by (with_reducible repeat (first | apply Kd.V_alloc | apply Kd.V_drewN | apply Kd.V_drew));exact Kd.V_mono (Kd.V_far (p := ⟨gb103,6,none⟩) (Kd.V_far (p := ⟨gb103,5,none⟩) (Kd.V_far (p := ⟨gb103,4,none⟩) (Kd.V_far (p := ⟨gb103,3,none⟩) (Kd.V_far (p := ⟨gb103,2,none⟩) (Kd.V_far (p := ⟨gb103,1,none⟩) (Kd.V_far (p := ⟨gb103,0,none⟩) (Kd.V_mono HL102_4.out (fun k_ hk => (⟨hk,hk.2⟩ : _ ∧ k_ ≠ gb103))) (fun _ hk => hk.2) (.string ((zd l0_2 x11_1).f0))) (fun _ hk => hk.2) (.int .i64 ((zd l0_2 x11_1).f1.f0))) (fun _ hk => hk.2) (.int .i64 ((zd l0_2 x11_1).f1.f1))) (fun _ hk => hk.2) (.slice A102_3 ((zd l0_2 x11_1).f1.f2).length c102_3)) (fun _ hk => hk.2) (.slice A102_4 ((zd l0_2 x11_1).f1.f3).length c102_4)) (fun _ hk => hk.2) (.int .i64 ((zd l0_2 x11_1).f1.f4.f0))) (fun _ hk => hk.2) (.int .i64 ((zd l0_2 x11_1).f1.f4.f1))) (fun _ hk => ⟨hk.1.1.1,⟨hk.1.1.2.1,⟨hk.1.1.2.2,hk.1.2⟩⟩⟩))) : Kd.V Kd.string 9 w13 w.heap.size (fun k_ => (P0_2_ k_ ∨ w.heap.size ≤ k_) ∧ some k_ ≠ (u5 : Value).ownBlock ∧ k_ ≠ gb101 ∧ k_ ≠ gb103) (.slice A102_4 ((zd l0_2 x11_1).f1.f3).length c102_4) ((zd l0_2 x11_1).f1.f3))) <| haq (hfq hw NB101_103.out BK101.out) <| haq (((by rw [hw];exact (hxq0p BK103.out)) : w13.heap[gb103]? = some (.cells #[.string ((zd l0_2 x11_1).f0),.int .i64 ((zd l0_2 x11_1).f1.f0),.int .i64 ((zd l0_2 x11_1).f1.f1),.slice A102_3 ((zd l0_2 x11_1).f1.f2).length c102_3,.slice A102_4 ((zd l0_2 x11_1).f1.f3).length c102_4,.int .i64 ((zd l0_2 x11_1).f1.f4.f0),.int .i64 ((zd l0_2 x11_1).f1.f4.f1)] 36 (0,0)))) <| haq (((by rw [hw];exact hCq) : Below w.heap.size w w13)) <| trivial;clear hw HO_5 HO_9 HO_102002 HL102_3 HL102_4 BK101 BK103 HB;obtain ⟨HO_5,HO_9,HO_102002,HL102_3,HL102_4,BK101,BK103,HB,_⟩ := n_;obtain ⟨hcz14_0,hcz14_1,hcz14_2,hcz14_3,hcz14_4,hcz14_5,hcz14_6,hfz14_0,hfz14_1,hfz14_2,hfz14_3,hfz14_4,hfz14_5,hfz14_6⟩ := hcq7 BK103.out) | ((with_reducible refine zbS (b := .append) (xs := #[.tmp 20,.tmp 22]) rfl ?_);at_builtin;refine Kd.N_append k36 (w0 := w) w.heap.size rfl (.tmp 20) (.tmp 22) 22 36 (.agg #[(.string ⟨#[]⟩),(.int .i64 0),(.int .i64 0),(.slice none 0 0),(.slice none 0 0),(.int .i64 0),(.int .i64 0)]) 96 rfl Try.underlying22 zeD rfl (by decide) (by omega) u5 x5_1 (⟨(zd l0_2 x11_1).f0,(⟨(zd l0_2 x11_1).f1.f0,(zd l0_2 x11_1).f1.f1,(zd l0_2 x11_1).f1.f2,(zd l0_2 x11_1).f1.f3,(⟨(zd l0_2 x11_1).f1.f4.f0,(zd l0_2 x11_1).f1.f4.f1⟩ : S28)⟩ : S30)⟩ : S36) [.string ((zd l0_2 x11_1).f0),.int .i64 ((zd l0_2 x11_1).f1.f0),.int .i64 ((zd l0_2 x11_1).f1.f1),.slice A102_3 ((zd l0_2 x11_1).f1.f2).length c102_3,.slice A102_4 ((zd l0_2 x11_1).f1.f3).length c102_4,.int .i64 ((zd l0_2 x11_1).f1.f4.f0),.int .i64 ((zd l0_2 x11_1).f1.f4.f1)] (fun k_ => (P0_2_ k_ ∨ w.heap.size ≤ k_) ∧ k_ ≠ gb101 ∧ k_ ≠ gb103) (fun k_ => ((fun k_ => (P0_2_ k_ ∨ w.heap.size ≤ k_) ∧ k_ ≠ gb101 ∧ k_ ≠ gb103)) k_ ∧ some k_ ≠ (u5 : Value).ownBlock) rfl rfl ?aP (fun _ hk => hk) ?aF ?aO ?aB ?aS ?aL ?_;(case aP => exact (zgy _ _ (⟨(zd l0_2 x11_1).f0,(⟨(zd l0_2 x11_1).f1.f0,(zd l0_2 x11_1).f1.f1,(zd l0_2 x11_1).f1.f2,(zd l0_2 x11_1).f1.f3,(⟨(zd l0_2 x11_1).f1.f4.f0,(zd l0_2 x11_1).f1.f4.f1⟩ : S28)⟩ : S30)⟩ : S36) (Kd.V_reads' (Kd.V_mono (ok' := (fun k_ => ((fun k_ => (P0_2_ k_ ∨ w.heap.size ≤ k_) ∧ k_ ≠ gb101 ∧ k_ ≠ gb103)) k_ ∧ some k_ ≠ (u5 : Value).ownBlock)) (HL102_3.out) (fun k_ hk => ⟨⟨hk.1,⟨hk.2.2.1,hk.2.2.2⟩⟩,hk.2.1⟩))).2.1 (Kd.V_F (Kd.V_mono (ok' := (fun k_ => ((fun k_ => (P0_2_ k_ ∨ w.heap.size ≤ k_) ∧ k_ ≠ gb101 ∧ k_ ≠ gb103)) k_ ∧ some k_ ≠ (u5 : Value).ownBlock)) (HL102_3.out) (fun k_ hk => ⟨⟨hk.1,⟨hk.2.2.1,hk.2.2.2⟩⟩,hk.2.1⟩))) (Kd.V_reads' (Kd.V_mono (ok' := (fun k_ => ((fun k_ => (P0_2_ k_ ∨ w.heap.size ≤ k_) ∧ k_ ≠ gb101 ∧ k_ ≠ gb103)) k_ ∧ some k_ ≠ (u5 : Value).ownBlock)) (HL102_4.out) (fun k_ hk => ⟨⟨hk.1,⟨hk.2.2.1,hk.2.2.2⟩⟩,hk.2.1⟩))).2.1 (Kd.V_F (Kd.V_mono (ok' := (fun k_ => ((fun k_ => (P0_2_ k_ ∨ w.heap.size ≤ k_) ∧ k_ ≠ gb101 ∧ k_ ≠ gb103)) k_ ∧ some k_ ≠ (u5 : Value).ownBlock)) (HL102_4.out) (fun k_ hk => ⟨⟨hk.1,⟨hk.2.2.1,hk.2.2.2⟩⟩,hk.2.1⟩)))));(case aB => exact hCq);(case aF => exact (fun k_ hk => ⟨(.inr (Nat.le_trans (zg hCq) hk)),Kd.freshB (g := gb101) (o := .cells #[.int .i64 a0_0,.int .i64 a0_1,.slice (some ad102) l0_2.length c0_2] 24 (0,0)) (hGq BK101.out) k_ hk,Kd.freshB (g := gb103) (o := .cells #[.string ((zd l0_2 x11_1).f0),.int .i64 ((zd l0_2 x11_1).f1.f0),.int .i64 ((zd l0_2 x11_1).f1.f1),.slice A102_3 ((zd l0_2 x11_1).f1.f2).length c102_3,.slice A102_4 ((zd l0_2 x11_1).f1.f3).length c102_4,.int .i64 ((zd l0_2 x11_1).f1.f4.f0),.int .i64 ((zd l0_2 x11_1).f1.f4.f1)] 36 (0,0)) (hGq BK103.out) k_ hk⟩));(case aO => exact (by (with_reducible repeat (first | apply Kd.N_alloc | apply Kd.N_drewN | apply Kd.N_drew));exact HO_5.out));(case aS => exact (zg hCq));(case aL => have := LMc9.out;omega);intro v105 w15 ho hb hg hat;rw [← Ny104.out] at ho;have n_ := haq (Kd.V_afterv (ok := (fun k_ => (P0_2_ k_ ∨ w.heap.size ≤ k_) ∧ k_ ≠ gb101 ∧ k_ ≠ gb103)) (by (with_reducible repeat (first | apply Kd.V_alloc | apply Kd.V_drewN | apply Kd.V_drew));exact Kd.V_mono HO_9.out (fun _ hk => ⟨⟨hk.1,⟨hk.2.2.1,hk.2.2.2⟩⟩,hk.2.1⟩)) hg hat) <| haq (Kd.V_afterv (ok := (fun k_ => (P0_2_ k_ ∨ w.heap.size ≤ k_) ∧ k_ ≠ gb101 ∧ k_ ≠ gb103)) (by (with_reducible repeat (first | apply Kd.V_alloc | apply Kd.V_drewN | apply Kd.V_drew));exact Kd.V_mono HO_102002.out (fun _ hk => ⟨⟨hk.1,⟨hk.2.2.1,hk.2.2.2⟩⟩,hk.2.1⟩)) hg hat) <| haq (zaU (g := gb101) (o := .cells #[.int .i64 a0_0,.int .i64 a0_1,.slice (some ad102) l0_2.length c0_2] 24 (0,0)) (hGq BK101.out) hg (Kd.N_ne HO_5.out BK101.out (by decide))) <| haq (Kd.V_afterv (ok := (fun k_ => (P0_2_ k_ ∨ w.heap.size ≤ k_) ∧ k_ ≠ gb101 ∧ k_ ≠ gb103)) (by (with_reducible repeat (first | apply Kd.V_alloc | apply Kd.V_drewN | apply Kd.V_drew));exact Kd.V_mono HL102_3.out (fun _ hk => ⟨⟨hk.1,⟨hk.2.2.1,hk.2.2.2⟩⟩,hk.2.1⟩)) hg hat) <| haq (Kd.V_afterv (ok := (fun k_ => (P0_2_ k_ ∨ w.heap.size ≤ k_) ∧ k_ ≠ gb101 ∧ k_ ≠ gb103)) (by (with_reducible repeat (first | apply Kd.V_alloc | apply Kd.V_drewN | apply Kd.V_drew));exact Kd.V_mono HL102_4.out (fun _ hk => ⟨⟨hk.1,⟨hk.2.2.1,hk.2.2.2⟩⟩,hk.2.1⟩)) hg hat) <| haq (zaU (g := gb103) (o := .cells #[.string ((zd l0_2 x11_1).f0),.int .i64 ((zd l0_2 x11_1).f1.f0),.int .i64 ((zd l0_2 x11_1).f1.f1),.slice A102_3 ((zd l0_2 x11_1).f1.f2).length c102_3,.slice A102_4 ((zd l0_2 x11_1).f1.f3).length c102_4,.int .i64 ((zd l0_2 x11_1).f1.f4.f0),.int .i64 ((zd l0_2 x11_1).f1.f4.f1)] 36 (0,0)) (hGq BK103.out) hg (Kd.N_away HO_5.out (fun _ hk => hk.2.2))) <| haq (hb) <| haq (ho) <| trivial;clear HO_9 HO_102002 BK101 HL102_3 HL102_4 BK103 HB HO_5;obtain ⟨HO_9,HO_102002,BK101,HL102_3,HL102_4,BK103,HB,HO106,_⟩ := n_;clear ho hb hg hat))
        go_roundg k1
        case measure => have := HK1.out;omega
        case rel => exact ⟨(y104),(wrap64 (x11_1 + 1)),(hDq),H',⟨by have := HK1.out;omega⟩,⟨by (with_reducible repeat (first | apply Kd.N_alloc | apply Kd.N_drewN | apply Kd.N_drew));exact Kd.N_mono HO106.out (fun _ hk => ⟨hk.1,hk.2.1⟩)⟩,⟨by (with_reducible repeat (first | apply Kd.V_alloc | apply Kd.V_drewN | apply Kd.V_drew));exact Kd.V_mono HO_9.out (fun _ hk => ⟨hk.1.1,⟨hk.2,hk.1.2.1⟩⟩)⟩,⟨by (with_reducible repeat (first | apply Kd.V_alloc | apply Kd.V_drewN | apply Kd.V_drew));exact Kd.V_mono HO_102002.out (fun _ hk => ⟨hk.1.1,⟨hk.2,hk.1.2.1⟩⟩)⟩,⟨hGq BK101.out⟩,⟨by repeat (first | (with_reducible first | exact HB.out | apply zl | apply zi | apply zq | refine zo ?_ GE101.out | refine zo ?_ GE103.out) | exact HB.out)⟩⟩
       ·rw [if_neg c9] at H
        exact absurd H (by simp)
      ·rw [if_neg c8] at H
       have c8b0 : (((zd l0_2 x11_1).f1.f1) == a1) = false := beq_eq_false_iff_ne.mpr c8
       have c8b1 : (((zd l0_2 x11_1).f1.f1) != a1) = true := bne_iff_ne.mpr c8
       have H' := za.mk H
       clear H
       have p102 : 0 ≤ (x11_1 : Int) := hFq
       have q102 : x11_1 < (l0_2.length : Int) := hFq
       obtain ⟨ad102,A102_3,c102_3,A102_4,c102_4,e102,hx102_0,hx102_1,hx102_2,hx102_3,hx102_4,hx102_5,hx102_6,hl102_3,hi102_3,hl102_4,hi102_4⟩ := zaH (Kd.V_reads' HO_9.out).2.2 x11_1 p102 q102
       cases e102
       obtain ⟨ce102,hce102,hMe102,hcc102⟩ := Kd.V_get HO_9.out z36 x11_1 p102 (by first | exact q102 | exact hFq | (have e_ := (Kd.V_reads' HO_9.out).1;omega))
       obtain ⟨ua102_3,uc102_3,ua102_4,uc102_4,rfl,ul102_3,ge102_3,ul102_4,ge102_4⟩ := zaW hMe102
       have hv102_3 := hcc102 3 _ rfl
       rw [zW _ _ 3 (by omega)] at hv102_3
       replace hv102_3 := Option.some.inj (hv102_3.symm.trans hx102_3)
       injection hv102_3 with hva_ hvn_ hvc_
       rw [hva_] at ge102_3
       rw [hvc_] at ul102_3
       have HL102_3 := za.mk (show Kd.V k72 72 _ w.heap.size _ _ ((zd l0_2 x11_1).f1.f2) from Kd.V_mk ul102_3 ge102_3)
       clear hva_ hvn_ hvc_ ge102_3 ul102_3
       have hv102_4 := hcc102 4 _ rfl
       rw [zW _ _ 4 (by omega)] at hv102_4
       replace hv102_4 := Option.some.inj (hv102_4.symm.trans hx102_4)
       injection hv102_4 with hva_ hvn_ hvc_
       rw [hva_] at ge102_4
       rw [hvc_] at ul102_4
       have HL102_4 := za.mk (show Kd.V Kd.string 9 _ w.heap.size _ _ ((zd l0_2 x11_1).f1.f3) from Kd.V_mk ul102_4 ge102_4)
       clear hva_ hvn_ hvc_ ge102_4 ul102_4
       clear hcc102 hce102
       have HR102_3 := za.mk hi102_3
       have HC102_3 := za.mk hl102_3
       clear hi102_3 hl102_3
       have HR102_4 := za.mk hi102_4
       have HC102_4 := za.mk hl102_4
       clear hi102_4 hl102_4
       replace p102 := eq_true p102
       replace q102 := eq_true q102
       go_wp2_with (first | ((with_reducible refine zu (N := 7) rfl ?_);refine zp ?hg (N := 7) ?hd (cs := #[.string (⟨#[]⟩ : ByteArray),.int .i64 0,.int .i64 0,.slice none 0 0,.slice none 0 0,.int .i64 0,.int .i64 0]) (t := 36) ?hr ?_;(case hd => rfl);(case hg => rfl);(case hr => first | (go_simp;done) | (go_simp;rfl));intro gb103 hg w16 hbox hb;have n_ := haq (Kd.N_below (Kd.N_elderB (by (with_reducible repeat (first | apply Kd.N_alloc | apply Kd.N_drewN | apply Kd.N_drew));exact HO_5.out) gb103 (Nat.le_of_eq hg.symm)) hb) <| haq (Kd.V_below (Kd.V_elderB (by (with_reducible repeat (first | apply Kd.V_alloc | apply Kd.V_drewN | apply Kd.V_drew));exact HO_9.out) gb103 (Nat.le_of_eq hg.symm)) hb) <| haq (Kd.V_below (Kd.V_elderB (by (with_reducible repeat (first | apply Kd.V_alloc | apply Kd.V_drewN | apply Kd.V_drew));exact HO_102002.out) gb103 (Nat.le_of_eq hg.symm)) hb) <| haq (Kd.V_below (Kd.V_elderB (by (with_reducible repeat (first | apply Kd.V_alloc | apply Kd.V_drewN | apply Kd.V_drew));exact HL102_3.out) gb103 (Nat.le_of_eq hg.symm)) hb) <| haq (Kd.V_below (Kd.V_elderB (by (with_reducible repeat (first | apply Kd.V_alloc | apply Kd.V_drewN | apply Kd.V_drew));exact HL102_4.out) gb103 (Nat.le_of_eq hg.symm)) hb) <| haq (hbq BK101.out hb) <| haq (Kd.C_below (by repeat (first | (with_reducible exact HR102_3.out) | (with_reducible refine Kd.C_alloc ?_ _) | (with_reducible refine Kd.C_drewN ?_ _) | (with_reducible refine Kd.C_drew ?_) | exact HR102_3.out)) hb) <| haq (Kd.C_below (by repeat (first | (with_reducible exact HR102_4.out) | (with_reducible refine Kd.C_alloc ?_ _) | (with_reducible refine Kd.C_drewN ?_ _) | (with_reducible refine Kd.C_drew ?_) | exact HR102_4.out)) hb) <| haq (ze hCq hb) <| haq (hbox) <| haq ((by rw [hg];exact (zg hCq) : w.heap.size ≤ gb103)) <| haq ((by rw [hg];exact (zg hCq) : w.heap.size ≤ gb103)) <| haq (hnq hg BK101.out) <| haq (hmq hg BK101.out) <| trivial;clear HO_5 HO_9 HO_102002 HL102_3 HL102_4 BK101 HR102_3 HR102_4 HB;obtain ⟨HO_5,HO_9,HO_102002,HL102_3,HL102_4,BK101,HR102_3,HR102_4,HB,BK103,GW103,GE103,NB101_103,NB103_101,_⟩ := n_;clear hb hbox hg;have hnb17 := NB103_101.out;have hnc17 := NB101_103.out;obtain ⟨hcz18_0,hcz18_1,hcz18_2,hcz18_3,hcz18_4,hcz18_5,hcz18_6,hfz18_0,hfz18_1,hfz18_2,hfz18_3,hfz18_4,hfz18_5,hfz18_6⟩ := hcq7 BK103.out))
       go_roundg k1
       case measure => have := HK1.out;omega
       case rel => exact ⟨(x5_1),(wrap64 (x11_1 + 1)),(hDq),H',⟨by have := HK1.out;omega⟩,⟨by (with_reducible repeat (first | apply Kd.N_alloc | apply Kd.N_drewN | apply Kd.N_drew));exact Kd.N_mono (Kd.N_far (p := ⟨gb103,6,none⟩) (Kd.N_far (p := ⟨gb103,5,none⟩) (Kd.N_far (p := ⟨gb103,4,none⟩) (Kd.N_far (p := ⟨gb103,3,none⟩) (Kd.N_far (p := ⟨gb103,2,none⟩) (Kd.N_far (p := ⟨gb103,1,none⟩) (Kd.N_far (p := ⟨gb103,0,none⟩) (Kd.N_mono HO_5.out (fun k_ hk => (⟨hk,hk.2⟩ : _ ∧ k_ ≠ gb103))) (fun _ hk => hk.2) (.string ((zd l0_2 x11_1).f0))) (fun _ hk => hk.2) (.int .i64 ((zd l0_2 x11_1).f1.f0))) (fun _ hk => hk.2) (.int .i64 ((zd l0_2 x11_1).f1.f1))) (fun _ hk => hk.2) (.slice A102_3 ((zd l0_2 x11_1).f1.f2).length c102_3)) (fun _ hk => hk.2) (.slice A102_4 ((zd l0_2 x11_1).f1.f3).length c102_4)) (fun _ hk => hk.2) (.int .i64 ((zd l0_2 x11_1).f1.f4.f0))) (fun _ hk => hk.2) (.int .i64 ((zd l0_2 x11_1).f1.f4.f1))) (fun _ hk => ⟨hk.1.1.1,hk.1.1.2⟩)⟩,⟨by (with_reducible repeat (first | apply Kd.V_alloc | apply Kd.V_drewN | apply Kd.V_drew));exact Kd.V_mono (Kd.V_far (p := ⟨gb103,6,none⟩) (Kd.V_far (p := ⟨gb103,5,none⟩) (Kd.V_far (p := ⟨gb103,4,none⟩) (Kd.V_far (p := ⟨gb103,3,none⟩) (Kd.V_far (p := ⟨gb103,2,none⟩) (Kd.V_far (p := ⟨gb103,1,none⟩) (Kd.V_far (p := ⟨gb103,0,none⟩) (Kd.V_mono HO_9.out (fun k_ hk => (⟨hk,hk.2⟩ : _ ∧ k_ ≠ gb103))) (fun _ hk => hk.2) (.string ((zd l0_2 x11_1).f0))) (fun _ hk => hk.2) (.int .i64 ((zd l0_2 x11_1).f1.f0))) (fun _ hk => hk.2) (.int .i64 ((zd l0_2 x11_1).f1.f1))) (fun _ hk => hk.2) (.slice A102_3 ((zd l0_2 x11_1).f1.f2).length c102_3)) (fun _ hk => hk.2) (.slice A102_4 ((zd l0_2 x11_1).f1.f3).length c102_4)) (fun _ hk => hk.2) (.int .i64 ((zd l0_2 x11_1).f1.f4.f0))) (fun _ hk => hk.2) (.int .i64 ((zd l0_2 x11_1).f1.f4.f1))) (fun _ hk => ⟨hk.1.1.1,⟨hk.1.1.2.1,hk.1.1.2.2⟩⟩)⟩,⟨by (with_reducible repeat (first | apply Kd.V_alloc | apply Kd.V_drewN | apply Kd.V_drew));exact Kd.V_mono (Kd.V_far (p := ⟨gb103,6,none⟩) (Kd.V_far (p := ⟨gb103,5,none⟩) (Kd.V_far (p := ⟨gb103,4,none⟩) (Kd.V_far (p := ⟨gb103,3,none⟩) (Kd.V_far (p := ⟨gb103,2,none⟩) (Kd.V_far (p := ⟨gb103,1,none⟩) (Kd.V_far (p := ⟨gb103,0,none⟩) (Kd.V_mono HO_102002.out (fun k_ hk => (⟨hk,hk.2⟩ : _ ∧ k_ ≠ gb103))) (fun _ hk => hk.2) (.string ((zd l0_2 x11_1).f0))) (fun _ hk => hk.2) (.int .i64 ((zd l0_2 x11_1).f1.f0))) (fun _ hk => hk.2) (.int .i64 ((zd l0_2 x11_1).f1.f1))) (fun _ hk => hk.2) (.slice A102_3 ((zd l0_2 x11_1).f1.f2).length c102_3)) (fun _ hk => hk.2) (.slice A102_4 ((zd l0_2 x11_1).f1.f3).length c102_4)) (fun _ hk => hk.2) (.int .i64 ((zd l0_2 x11_1).f1.f4.f0))) (fun _ hk => hk.2) (.int .i64 ((zd l0_2 x11_1).f1.f4.f1))) (fun _ hk => ⟨hk.1.1.1,⟨hk.1.1.2.1,hk.1.1.2.2⟩⟩)⟩,⟨hxq1 NB101_103.out BK101.out⟩,⟨by repeat (first | (with_reducible first | exact HB.out | apply zl | apply zi | apply zq | refine zo ?_ GE101.out | refine zo ?_ GE103.out) | exact HB.out)⟩⟩
     ·rw [if_neg c7] at H
      exact absurd H (by simp)
    ·rw [if_neg c6] at H
     exact absurd H (by simp)
   ·rw [if_neg c5] at H
    have c5b0 : decide (x11_1 < (l0_2.length : Int)) = false := decide_eq_false c5
    clear c5
    obtain rfl := Option.some.inj H
    go_wp2
    go_ret
    exact ⟨_,hHq,by (with_reducible repeat (first | apply Kd.N_alloc | apply Kd.N_drewN | apply Kd.N_drew));exact Kd.N_mono HO_5.out (fun _ hk => hk.1),hCq⟩
def zcA : List (ByteArray × Value) → ByteArray → Nat → Option (Nat × Value)
 | [],_,_ => none
 | p :: l,k,i => if p.1 = k then some (i,p.2) else zcA l k (i + 1)
def zem (l : List (ByteArray × Value)) (k : ByteArray) : Option Value := (zcA l k 0).map (·.2)
theorem zcX : ∀ (l : List (ByteArray × Value)) (k : ByteArray) (i : Nat),zcA l k i = (zcA l k 0).map fun p => (p.1 + i,p.2)
 | [],_,_ => rfl
 | p :: l,k,i => by
  rw [zcA,zcA]
  split
  ·simp
  ·rw [zcX l k (i + 1),zcX l k (0 + 1),Option.map_map]
   congr 1
   funext q
   simp only [Function.comp]
   rw [Nat.zero_add,Nat.add_assoc,Nat.add_comm 1 i]
theorem zb5 (p : ByteArray × Value) (l : List (ByteArray × Value)) (k : ByteArray) : zem (p :: l) k = if p.1 = k then some p.2 else zem l k := by
 unfold zem
 rw [zcA]
 split
 ·rfl
 ·rw [zcX l k (0 + 1),Option.map_map];rfl
theorem zhz {l : List (ByteArray × Value)} {k : ByteArray} : ∀ {i : Nat},zcA l k i = none ↔ ∀ p ∈ l,p.1 ≠ k := by
 induction l with
 | nil => simp [zcA]
 | cons p l ih =>
  intro i
  rw [zcA]
  split
  ·rename_i h;simp [h]
  ·rename_i h;rw [ih];simp [h]
theorem zhA {l : List (ByteArray × Value)} {k : ByteArray} {i : Nat} {v : Value} (h : zcA l k 0 = some (i,v)) : l[i]? = some (k,v) := by
 induction l generalizing i with
 | nil => simp [zcA] at h
 | cons p l ih =>
  rw [zcA] at h
  split at h
  ·rename_i hk
   injection h with h
   injection h with h1 h2
   subst h1;subst h2;subst hk;rfl
  ·rw [zcX,Option.map_eq_some_iff] at h
   obtain ⟨⟨j,u⟩,hj,e⟩ := h
   injection e with e1 e2
   subst e1;subst e2
   exact ih hj
def entM (e : MapEntry) : Value × Value := (e.key,e.val)
def strM (p : ByteArray × Value) : Value × Value := (.string p.1,p.2)
theorem zdC (k : ByteArray) : ∀ (es : List MapEntry) (l : List (ByteArray × Value)) (i : Nat),es.map entM = l.map strM → Instr.findNow .string (.string k) es i = some (zcA l k i)
 | [],[],_,_ => rfl
 | [],_ :: _,_,h => by simp at h
 | _ :: _,[],_,h => by simp at h
 | e :: es,p :: l,i,h => by
  rw [List.map_cons,List.map_cons,List.cons.injEq] at h
  obtain ⟨h1,h2⟩ := h
  have ek : e.key = .string p.1 := congrArg Prod.fst h1
  have ev : e.val = p.2 := congrArg Prod.snd h1
  rw [Instr.findNow,ek,Instr.sameNow,zcA]
  by_cases hk : p.1 = k
  ·rw [if_pos hk,show (k == p.1) = true from (Go.MapKept.bytes_beq _ _).2 hk.symm]
   simp only [ev]
  ·rw [if_neg hk,show (k == p.1) = false from Bool.eq_false_iff.2 (fun e => hk ((Go.MapKept.bytes_beq _ _).1 e).symm)]
   exact zdC k es l (i + 1) h2
def zdd (W : World) (g : Nat) (F : ByteArray → Option Value) : Prop :=
 ∃ (es : Array MapEntry) (c : Nat) (l : List (ByteArray × Value)),W.heap[g]? = some (.map es c) ∧ es.toList.map entM = l.map strM ∧ (l.map (·.1)).Nodup ∧ ∀ k,zem l k = F k
theorem mapF_new (W : World) : zdd (W.alloc (.map #[] 0)) W.heap.size (fun _ => none) := ⟨#[],0,[],heap_alloc_new W _,rfl,by simp,fun _ => rfl⟩
theorem zgg {W W' : World} {g : Nat} {F : ByteArray → Option Value} (h : zdd W g F) (hm : W'.heap[g]? = W.heap[g]?) : zdd W' g F := by
 obtain ⟨es,c,l,h1,h2⟩ := h
 exact ⟨es,c,l,hm.trans h1,h2⟩
theorem zfl {W : World} {g : Nat} {F : ByteArray → Option Value} (h : zdd W g F) : g < W.heap.size := by
 obtain ⟨es,c,l,h1,_⟩ := h
 exact (Array.getElem?_eq_some_iff.1 h1).1
theorem zfz {W W' : World} {g : Nat} {F : ByteArray → Option Value} (h : zdd W g F) (hb : Below W.heap.size W W') : zdd W' g F := zgg h (hb.block g (zfl h))
theorem zhB {W : World} {g : Nat} {F : ByteArray → Option Value} (h : zdd W g F) (o : Obj) : zdd (W.alloc o) g F := zfz h (Below.alloc (Below.refl _ _) (Nat.le_refl _) o)
theorem zhC {W W' : World} {g : Nat} {F : ByteArray → Option Value} (h : zdd W g F) {row : Option Nat} (hg : W.grownBy W' row) (hr : some g ≠ row) : zdd W' g F := zgg h (hg.block g (zfl h) hr)
theorem zie {W : World} {g : Nat} {F F' : ByteArray → Option Value} (h : zdd W g F) (e : ∀ k,F k = F' k) : zdd W g F' := by
 obtain ⟨es,c,l,h1,h2,h3,h4⟩ := h
 exact ⟨es,c,l,h1,h2,h3,fun k => (h4 k).trans (e k)⟩
section
variable {P : Program} {w : World} {t k e : TypeId} {g : Nat} {F : ByteArray → Option Value}
theorem zda (s : ByteArray) : Go.MapKept.IsKey .string (.string s) := by simp [Go.MapKept.IsKey]
theorem ziA (h : zdd w g F) (ht : P.underlying t = some (.map k e)) (hk : P.underlying k = some .string) {z : Value} (hz : (zeroValue e).run P w = .ok z w) (s : ByteArray) :
  (Instr.lookup t (.map (some g)) (.string s) false).run P w = .ok ((F s).getD z) w := by
 obtain ⟨es,c,l,h1,h2,h3,h4⟩ := h
 have hf := zdC s es.toList l 0 h2
 rw [← h4 s]
 unfold zem
 rcases hl : zcA l s 0 with _ | ⟨i,v⟩
 ·rw [hl] at hf
  simp [Instr.lookup,run_underlying ht,Go.MapKept.run_getObj_map h1,Go.MapKept.run_checkKey hk (zda s),Go.MapKept.run_findKey hk hf,hz,Result.andThen]
 ·rw [hl] at hf
  simp [Instr.lookup,run_underlying ht,Go.MapKept.run_getObj_map h1,Go.MapKept.run_checkKey hk (zda s),Go.MapKept.run_findKey hk hf,hz,Result.andThen]
theorem zgd {w : World} {g : Nat} {o : Obj} (hb : w.heap[g]? = some o) (o' : Obj) : w.grownBy { w with heap := w.heap.setIfInBounds g o' } (some g) :=
 ⟨rfl,rfl,rfl,by simp,fun i _ hi => (Go.MapKept.heap_set (o' := o') hb).2 i (fun e => hi (by rw [e]))⟩
theorem zgA (l : List (ByteArray × Value)) (s : ByteArray) (v : Value) (hn : ∀ p ∈ l,p.1 ≠ s) (x : ByteArray) : zem (l ++ [(s,v)]) x = if x = s then some v else zem l x := by
 induction l with
 | nil =>
  rw [List.nil_append,zb5]
  by_cases h : s = x
  ·rw [if_pos h,if_pos h.symm]
  ·rw [if_neg h,if_neg (fun e => h e.symm)]
 | cons p l ih =>
  rw [List.cons_append,zb5,zb5,ih (fun q hq => hn q (List.mem_cons_of_mem _ hq))]
  by_cases h : p.1 = x
  ·have : x ≠ s := fun e => hn p List.mem_cons_self (h.trans e)
   rw [if_pos h,if_neg this,if_pos h]
  ·rw [if_neg h,if_neg h]
theorem ziz (l : List (ByteArray × Value)) (hd : (l.map (·.1)).Nodup) (i : Nat) (s : ByteArray) (v0 v : Value) (hi : l[i]? = some (s,v0)) (x : ByteArray) : zem (l.set i (s,v)) x = if x = s then some v else zem l x := by
 induction l generalizing i with
 | nil => simp at hi
 | cons p l ih =>
  rw [List.map_cons,List.nodup_cons] at hd
  cases i with
  | zero =>
   rw [List.getElem?_cons_zero] at hi
   injection hi with hi
   subst hi
   rw [List.set_cons_zero,zb5,zb5]
   by_cases h : s = x
   ·rw [if_pos h,if_pos h.symm]
   ·rw [if_neg h,if_neg (fun e => h e.symm),if_neg h]
  | succ i =>
   rw [List.getElem?_cons_succ] at hi
   rw [List.set_cons_succ,zb5,zb5,ih hd.2 i hi]
   by_cases h : p.1 = x
   ·have : x ≠ s := fun e => hd.1 (List.mem_map.2 ⟨(s,v0),List.mem_of_getElem? hi,(h.trans e).symm⟩)
    rw [if_pos h,if_neg this,if_pos h]
   ·rw [if_neg h,if_neg h]
theorem zfA {l : List (ByteArray × Value)} (hd : (l.map (·.1)).Nodup) {i : Nat} {s : ByteArray} {v0 v : Value} (hi : l[i]? = some (s,v0)) : ((l.set i (s,v)).map (·.1)).Nodup := by
 have : (l.set i (s,v)).map (·.1) = l.map (·.1) := by
  rw [List.map_set]
  apply List.ext_getElem?
  intro j
  rw [List.getElem?_set]
  split
  ·rename_i e
   subst e
   rw [List.getElem?_map,hi]
   split
   ·rfl
   ·rename_i h
    have := (List.getElem?_eq_some_iff.1 hi).1
    simp at h;omega
  ·rfl
 rw [this];exact hd
theorem mapF_put (h : zdd w g F) (ht : P.underlying t = some (.map k e)) (hk : P.underlying k = some .string) (s : ByteArray) (v : Value) :
  ∃ w',(Instr.mapUpdate t (.map (some g)) (.string s) v).run P w = .ok () w' ∧ zdd w' g (fun x => if x = s then some v else F x) ∧ w.grownBy w' (some g) := by
 obtain ⟨es,c,l,h1,h2,h3,h4⟩ := h
 have hf := zdC s es.toList l 0 h2
 rcases hl : zcA l s 0 with _ | ⟨i,v0⟩
 ·rw [hl] at hf
  have hn := zhz.1 hl
  refine ⟨_,by simp [Instr.mapUpdate,run_underlying ht,Go.MapKept.run_getObj_map h1,Go.MapKept.run_checkKey hk (zda s),Go.MapKept.run_findKey hk hf,Go.MapKept.run_setObj_map _ h1,Result.andThen];rfl,⟨_,_,l ++ [(s,v)],(Go.MapKept.heap_set h1).1,?_,?_,fun x => ?_⟩,zgd h1 _⟩
  ·rw [Array.toList_push,List.map_append,List.map_append,h2];rfl
  ·rw [List.map_append,List.nodup_append]
   refine ⟨h3,by simp,?_⟩
   intro a ha b hb
   obtain ⟨q,hq,rfl⟩ := List.mem_map.1 ha
   simp at hb
   subst hb
   exact hn q hq
  ·rw [zgA l s v hn x,h4]
 ·rw [hl] at hf
  have hi := zhA hl
  have hie : es.toList[i]? = some (es.toList[i]?.getD default) ∧ entM (es.toList[i]?.getD default) = strM (s,v0) := by
   have hm : (es.toList.map entM)[i]? = (l.map strM)[i]? := by rw [h2]
   rw [List.getElem?_map,List.getElem?_map,hi] at hm
   rcases he : es.toList[i]? with _ | e0
   ·rw [he] at hm;cases hm
   ·rw [he] at hm;exact ⟨rfl,by simpa using hm⟩
  obtain ⟨he,hv⟩ := hie
  generalize es.toList[i]?.getD default = e0 at he hv
  have he' : es[i]? = some e0 := by rw [← Array.getElem?_toList];exact he
  have hkey : e0.key = .string s := congrArg Prod.fst hv
  refine ⟨_,by simp [Instr.mapUpdate,run_underlying ht,Go.MapKept.run_getObj_map h1,Go.MapKept.run_checkKey hk (zda s),Go.MapKept.run_findKey hk hf,he',hkey,Go.MapKept.run_keyThatStays (zda s),Go.MapKept.run_setObj_map _ h1,Result.andThen];rfl,⟨_,_,l.set i (s,v),(Go.MapKept.heap_set h1).1,?_,zfA h3 hi,fun x => ?_⟩,zgd h1 _⟩
  ·apply List.ext_getElem?
   intro j
   rw [List.getElem?_map,Array.getElem?_toList,Array.getElem?_modify,List.getElem?_map,List.getElem?_set]
   have hm : (es.toList.map entM)[j]? = (l.map strM)[j]? := by rw [h2]
   rw [List.getElem?_map,List.getElem?_map,Array.getElem?_toList] at hm
   by_cases hij : i = j
   ·subst hij
    rw [he',if_pos rfl,if_pos rfl,if_pos (List.getElem?_eq_some_iff.1 hi).1];rfl
   ·rw [if_neg hij,if_neg hij];exact hm
  ·rw [ziz l h3 i s v0 v hi x,h4]
end
theorem zet {P : Program} (w : World) {ops : Array Oper} {rest : List Oper} {o : Oper} {a : Act} {Q : Exit → Act → World → Prop}
  (hg : o.guard = none) (m x : Operand) (t : TypeId) (hop : o.op = Op.lookup t m x false) {k e : TypeId} {g : Nat} {F : ByteArray → Option Value} (h : zdd w g F) (ht : P.underlying t = some (.map k e)) (hk : P.underlying k = some .string) {z : Value} (hz : (zeroValue e).run P w = .ok z w)
  (s : ByteArray) (hm : a.eval m = .map (some g)) (hx : a.eval x = .string s) (hK : wpList P ops Q rest (a.put o.dst ((F s).getD z)) w) : wpList P ops Q (o :: rest) a w := by
 refine wpList_plain hg fun K' hK' => ?_
 unfold Oper.wp
 simp [execOp,hop,hm,hx,ziA h ht hk hz s,Result.andThen]
 exact hK' _ _ hK
theorem zhn {P : Program} (w : World) {ops : Array Oper} {rest : List Oper} {o : Oper} {a : Act} {Q : Exit → Act → World → Prop}
  (hg : o.guard = none) (m x v : Operand) (t : TypeId) (hop : o.op = Op.mapUpdate t m x v) {k e : TypeId} {g : Nat} {F : ByteArray → Option Value} (h : zdd w g F) (ht : P.underlying t = some (.map k e)) (hk : P.underlying k = some .string)
  (s : ByteArray) (u : Value) (hm : a.eval m = .map (some g)) (hx : a.eval x = .string s) (hv : a.eval v = u) (hK : ∀ w',zdd w' g (fun y => if y = s then some u else F y) → w.grownBy w' (some g) → wpList P ops Q rest (a.put o.dst undef) w') : wpList P ops Q (o :: rest) a w := by
 refine wpList_plain hg fun K' hK' => ?_
 obtain ⟨w',hrun,r1,r2⟩ := mapF_put h ht hk s u
 unfold Oper.wp
 simp [execOp,hop,hm,hx,hv,hrun,Result.andThen]
 exact hK' _ _ (hK w' r1 r2)
end Go.Proofs.Ytklhjlaofkngcaa.Px