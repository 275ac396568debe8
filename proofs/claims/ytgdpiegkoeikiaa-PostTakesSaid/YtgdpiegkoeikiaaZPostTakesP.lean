/- Part 16 of 35 of the proof of the law PostTakes: what is proved is the statement at the end of the last part; its conditions are those of the given row. -/
import Derived.Test.YtgdpiegkoeikiaaZPostTakesJ
import Derived.Test.YtgdpiegkoeikiaaZPostTakesM
namespace Go.Proofs.Ytgdpiegkoeikiaa.Px
open Go.RowKit Go.Proofs.YtgdpiegkoeikiaaW.PrintWords Go.Proofs.YtgdpiegkoeikiaaW.PrintLast Go.Proofs.YtgdpiegkoeikiaaW.PrintMore
attribute [local go_sem] zF zH zQ zR zy zz zG zI
set_option linter.unusedVariables false
set_option linter.unusedSimpArgs false
def zL.l0 : Nat → List (zY) → List (zY) → Int → Option (Bool)
 | 0,_,_,_ => none
 | k + 1,x0,x1,x5 => if x5 < (x0.length : Int) then (if 0 ≤ x5 then (if x5 < (x1.length : Int) then ((zbl.f k ((zX x0 x5).f0) ((zX x0 x5).f1) ((zX x0 x5).f2) ((zX x1 x5).f0) ((zX x1 x5).f1) ((zX x1 x5).f2)).bind fun t390 => (if t390 = true then (zL.l0 k x0 x1 (wrap64 (x5 + 1))) else (some false))) else (none)) else (none)) else (some true)
def zL.f (k : Nat) (l0 : List (zY)) (l1 : List (zY)) : Option (Bool) := if (l0.length : Int) = (l1.length : Int) then (zL.l0 k l0 l1 0) else (some false)
def zL.T6 : Bool × List (List Nat × List Nat) := (true,[([],[]),([],[]),([0,1],[0,1]),([2],[2]),([],[]),([],[]),([4,5],[4,5]),([6],[6]),([3,7],[3,7]),([8,8,0,1,2,3,4,5,6,7,8],[8])])
def zL.B6 : List Nat := [0,0,3,7,0,0,48,112,255,511]
theorem zL.tab6 : zcI .any (zhg Try.f44 6) = zL.T6 := by kernel_rfl
theorem zL.bits6 : zc5 zL.T6.2 zL.B6 = true := by kernel_rfl
set_option maxHeartbeats 8000000 in
set_option maxRecDepth 100000 in
theorem zL.calls (k : Nat) (A0 : Option Addr) (c0 : Nat) (l0 : List (zY)) (A1 : Option Addr) (c1 : Nat) (l1 : List (zY)) (r : Bool) (w : World) (hr0 : Kd.C zb1 w A0 l0.length l0) (hc0 : l0.length ≤ c0) (hr1 : Kd.C zb1 w A1 l1.length l1) (hc1 : l1.length ≤ c1) (h : zL.f k l0 l1 = some r) :
  Calls Try.prog 44 #[.slice A0 l0.length c0,.slice A1 l1.length c1] w fun e w' => e = .returned (.bool r) ∧ Below w.heap.size w w' := by
 have hu107 := Try.underlying107
 have HR0 := zc.mk hr0
 have HC0 := zc.mk hc0
 clear hr0 hc0
 have HR1 := zc.mk hr1
 have HC1 := zc.mk hc1
 clear hr1 hc1
 have HB := zc.mk (Below.refl w.heap.size w)
 have H : (if (l0.length : Int) = (l1.length : Int) then (zL.l0 k l0 l1 0) else (some false)) = some r := h
 clear h
 by_cases c3 : (l0.length : Int) = (l1.length : Int)
 ·rw [if_pos c3] at H
  have c3b0 : ((l0.length : Int) == (l1.length : Int)) = true := beq_iff_eq.mpr c3
  have c3b1 : ((l0.length : Int) != (l1.length : Int)) = false := bne_eq_false_iff_eq.mpr c3
  have c3b2 : (l0.length == l1.length) = true := by first | simpa using c3 | (simp at c3 ⊢;omega)
  clear c3
  have H' := zc.mk H
  clear H
  go_enter Try.func44,Try.ntmps44
  go_wp2
  go_loopg [5] k (fun kq v5 w' => ∃ (x5_1 : Int),v5 = .int .i64 x5_1 ∧ zc (zL.l0 kq l0 l1 x5_1 = some r) ∧ zc (kq ≤ k) ∧ zc (Below w.heap.size w w'))
  case atStart => exact ⟨(0),(hDq),H',⟨Nat.le_refl _⟩,⟨by repeat (first | (with_reducible first | exact HB.out | apply zA | apply zm | apply zJ) | exact HB.out)⟩⟩
  case round =>
   clear H'
   try clear c1
   try clear p2
   try clear c3
   try clear c3b0
   try clear c3b1
   try clear c3b2
   obtain ⟨x5_1,rfl,HA,HK1,HB⟩ := hrel
   cases gk with
   | zero => exact absurd HA.out (by simp [zL.l0])
   | succ k1 =>
    have H := HA.out
    clear HA
    simp only [zL.l0] at H
    by_cases c4 : x5_1 < (l0.length : Int)
    ·rw [if_pos c4] at H
     have c4b0 : decide (x5_1 < (l0.length : Int)) = true := decide_eq_true c4
     clear c4
     by_cases c5 : 0 ≤ x5_1
     ·rw [if_pos c5] at H
      have c5b0 : decide (0 ≤ x5_1) = true := decide_eq_true c5
      clear c5
      by_cases c6 : x5_1 < (l1.length : Int)
      ·rw [if_pos c6] at H
       have c6b0 : decide (x5_1 < (l1.length : Int)) = true := decide_eq_true c6
       clear c6
       replace H := Option.bind_eq_some_iff.mp H
       obtain ⟨t390,A70,H⟩ := H
       replace H : (if t390 = true then (zL.l0 k1 l0 l1 (wrap64 (x5_1 + 1))) else (some false)) = some r := H
       have A7 := zc.mk A70
       clear A70
       by_cases c8 : t390 = true
       ·subst c8
        have H1 : (zL.l0 k1 l0 l1 (wrap64 (x5_1 + 1))) = some r := by rw [if_pos rfl] at H;exact H
        clear H
        have H := H1
        clear H1
        have H' := zc.mk H
        clear H
        try go_wp2
        have n0_ := zc.mk (zJ HB.out)
        clear HB
        have HB := n0_
        clear n0_
        have p388 : 0 ≤ (x5_1 : Int) := hFq
        have q388 : x5_1 < (l0.length : Int) := hFq
        obtain ⟨ad388,A388_2,c388_2,e388,hx388_0,hx388_1,hx388_2,hl388_2,hi388_2⟩ := zbS HR0.out x5_1 p388 q388
        have hw388_2 := hx388_2
        have hw388_1 := hx388_1
        have hw388_0 := hx388_0
        cases e388
        replace hx388_0 := (HB.out.cell (World.block_lt_of_cell? w _ hx388_0)).trans hx388_0
        replace hx388_1 := (HB.out.cell (World.block_lt_of_cell? w _ hx388_1)).trans hx388_1
        replace hx388_2 := (HB.out.cell (World.block_lt_of_cell? w _ hx388_2)).trans hx388_2
        have HR388_2 := zc.mk hi388_2
        have HC388_2 := zc.mk hl388_2
        clear hi388_2 hl388_2
        replace p388 := eq_true p388
        replace q388 := eq_true q388
        have p389 : 0 ≤ (x5_1 : Int) := hFq
        have q389 : x5_1 < (l1.length : Int) := hFq
        obtain ⟨ad389,A389_2,c389_2,e389,hx389_0,hx389_1,hx389_2,hl389_2,hi389_2⟩ := zbS HR1.out x5_1 p389 q389
        have hw389_2 := hx389_2
        have hw389_1 := hx389_1
        have hw389_0 := hx389_0
        cases e389
        replace hx389_0 := (HB.out.cell (World.block_lt_of_cell? w _ hx389_0)).trans hx389_0
        replace hx389_1 := (HB.out.cell (World.block_lt_of_cell? w _ hx389_1)).trans hx389_1
        replace hx389_2 := (HB.out.cell (World.block_lt_of_cell? w _ hx389_2)).trans hx389_2
        have HR389_2 := zc.mk hi389_2
        have HC389_2 := zc.mk hl389_2
        clear hi389_2 hl389_2
        replace p389 := eq_true p389
        replace q389 := eq_true q389
        refine zgD (n := 10) (S := fun w' => w'.cell? (ad388.add ((x5_1).toNat * 3)) = some (.int .i64 ((zX l0 x5_1).f0)) ∧ w'.cell? ⟨(ad388.add ((x5_1).toNat * 3)).block,(ad388.add ((x5_1).toNat * 3)).off + 1,none⟩ = some (.int .i64 ((zX l0 x5_1).f1)) ∧ w'.cell? ⟨(ad388.add ((x5_1).toNat * 3)).block,(ad388.add ((x5_1).toNat * 3)).off + 2,none⟩ = some (.slice A388_2 ((zX l0 x5_1).f2).length c388_2) ∧ w'.cell? (ad389.add ((x5_1).toNat * 3)) = some (.int .i64 ((zX l1 x5_1).f0)) ∧ w'.cell? ⟨(ad389.add ((x5_1).toNat * 3)).block,(ad389.add ((x5_1).toNat * 3)).off + 1,none⟩ = some (.int .i64 ((zX l1 x5_1).f1)) ∧ w'.cell? ⟨(ad389.add ((x5_1).toNat * 3)).block,(ad389.add ((x5_1).toNat * 3)).off + 2,none⟩ = some (.slice A389_2 ((zX l1 x5_1).f2).length c389_2)) (ds := []) #[false,false,false,false,false,false,false,false,false,false] (by kernel_rfl) rfl rfl ⟨((HB.out.cell (World.block_lt_of_cell? w _ hw388_0)).trans hw388_0),((HB.out.cell (World.block_lt_of_cell? w _ hw388_1)).trans hw388_1),((HB.out.cell (World.block_lt_of_cell? w _ hw388_2)).trans hw388_2),((HB.out.cell (World.block_lt_of_cell? w _ hw389_0)).trans hw389_0),((HB.out.cell (World.block_lt_of_cell? w _ hw389_1)).trans hw389_1),((HB.out.cell (World.block_lt_of_cell? w _ hw389_2)).trans hw389_2)⟩ (fun hHeld => ?_);refine zec zL.tab6 zL.bits6 (fun HT_ HW_ => ?_)
        generalize wr.drew = w9 at HB HR388_2 HR389_2 hx388_0 hx388_1 hx388_2 hx389_0 hx389_1 hx389_2 hHeld ⊢
        refine zbM (i := 0) (N := some 18) (v := ?_) (a' := ?_) #[true,false,false,false,false,false,false,false,false,false] rfl rfl (zbi HT_.out (by kernel_rfl)) (fun _ _ _ h => h) (Or.inl ⟨by rfl,?_⟩) ?_ ?_
        rotate_left
        ·intro w'
         go_simp
         with_reducible rfl
        rotate_left
        ·simp only [Act.put,List.setIfInBounds_toArray,List.set_cons_zero,List.set_cons_succ,zan,zaq]
         rfl
        refine zbM (i := 1) (N := some 19) (v := ?_) (a' := ?_) #[true,true,false,false,false,false,false,false,false,false] rfl rfl (zbi HT_.out (by kernel_rfl)) (fun _ _ _ h => h) (Or.inl ⟨by rfl,?_⟩) ?_ ?_
        rotate_left
        ·intro w'
         go_simp
         with_reducible rfl
        rotate_left
        ·simp only [Act.put,List.setIfInBounds_toArray,List.set_cons_zero,List.set_cons_succ,zan,zaq]
         rfl
        refine zbM (i := 2) (N := some 20) (v := ?_) (a' := ?_) #[true,true,true,false,false,false,false,false,false,false] rfl rfl (zbi HT_.out (by kernel_rfl)) (fun _ _ _ h => h) (Or.inl ⟨by rfl,?_⟩) ?_ ?_
        rotate_left
        ·intro w'
         go_simp
         with_reducible rfl
        rotate_left
        ·simp only [Act.put,List.setIfInBounds_toArray,List.set_cons_zero,List.set_cons_succ,zan,zaq]
         rfl
        refine zbM (i := 4) (N := some 22) (v := ?_) (a' := ?_) #[true,true,true,false,true,false,false,false,false,false] rfl rfl (zbi HT_.out (by kernel_rfl)) (fun _ _ _ h => h) (Or.inl ⟨by rfl,?_⟩) ?_ ?_
        rotate_left
        ·intro w'
         go_simp
         with_reducible rfl
        rotate_left
        ·simp only [Act.put,List.setIfInBounds_toArray,List.set_cons_zero,List.set_cons_succ,zan,zaq]
         rfl
        refine zbM (i := 5) (N := some 23) (v := ?_) (a' := ?_) #[true,true,true,false,true,true,false,false,false,false] rfl rfl (zbi HT_.out (by kernel_rfl)) (fun _ _ _ h => h) (Or.inl ⟨by rfl,?_⟩) ?_ ?_
        rotate_left
        ·intro w'
         go_simp
         with_reducible rfl
        rotate_left
        ·simp only [Act.put,List.setIfInBounds_toArray,List.set_cons_zero,List.set_cons_succ,zan,zaq]
         rfl
        refine zbM (i := 6) (N := some 24) (v := ?_) (a' := ?_) #[true,true,true,false,true,true,true,false,false,false] rfl rfl (zbi HT_.out (by kernel_rfl)) (fun _ _ _ h => h) (Or.inl ⟨by rfl,?_⟩) ?_ ?_
        rotate_left
        ·intro w'
         go_simp
         with_reducible rfl
        rotate_left
        ·simp only [Act.put,List.setIfInBounds_toArray,List.set_cons_zero,List.set_cons_succ,zan,zaq]
         rfl
        refine take_ (i := 3) (N := some 21) (v := ?_) (a' := ?_) #[true,true,true,true,true,true,true,false,false,false] rfl rfl (zcw HT_.out HW_.out (by kernel_rfl)) (fun _ _ _ h => h) (Or.inl ⟨by rfl,?_⟩) hHeld ?_ ?_
        rotate_left
        ·rintro w' ⟨s0,s1,s2,s3,s4,s5⟩
         go_simp
         with_reducible rfl
        rotate_left
        ·simp only [Act.put,List.setIfInBounds_toArray,List.set_cons_zero,List.set_cons_succ,zan,zaq]
         rfl
        refine take_ (i := 7) (N := some 25) (v := ?_) (a' := ?_) #[true,true,true,true,true,true,true,true,false,false] rfl rfl (zcw HT_.out HW_.out (by kernel_rfl)) (fun _ _ _ h => h) (Or.inl ⟨by rfl,?_⟩) hHeld ?_ ?_
        rotate_left
        ·rintro w' ⟨s0,s1,s2,s3,s4,s5⟩
         go_simp
         with_reducible rfl
        rotate_left
        ·simp only [Act.put,List.setIfInBounds_toArray,List.set_cons_zero,List.set_cons_succ,zan,zaq]
         rfl
        refine zhf (i := 8) (N := some 26) #[true,true,true,true,true,true,true,true,true,false] rfl rfl (zeR HT_.out (by kernel_rfl)) (by decide) (fun K hK => ?_)
        refine zf4 Try.func70 (by kernel_rfl) rfl #[.agg #[.int .i64 ((zX l0 x5_1).f0),.int .i64 ((zX l0 x5_1).f1),.slice A388_2 ((zX l0 x5_1).f2).length c388_2],.agg #[.int .i64 ((zX l1 x5_1).f0),.int .i64 ((zX l1 x5_1).f1),.slice A389_2 ((zX l1 x5_1).f2).length c389_2]] (by rfl) rfl rfl (by (try simp only [List.map_toArray,List.map_cons,List.map_nil]);first | done | rfl | (simp only [List.length_drop,List.length_take];rfl)) ?_
        with_reducible refine (zbl.calls k1 ((zX l0 x5_1).f0) ((zX l0 x5_1).f1) _ _ ((zX l0 x5_1).f2) ((zX l1 x5_1).f0) ((zX l1 x5_1).f1) _ _ ((zX l1 x5_1).f2) true _ ?side1 ?side2 ?side3 ?side4 A7.out).mono ?_
        (case side1 => repeat (first | exact (Kd.C_below HR388_2.out HB.out) | (with_reducible refine Kd.C_alloc ?_ _) | (with_reducible refine Kd.C_drewN ?_ _) | (with_reducible refine Kd.C_drew ?_)))
        (case side2 => exact HC388_2.out)
        (case side3 => repeat (first | exact (Kd.C_below HR389_2.out HB.out) | (with_reducible refine Kd.C_alloc ?_ _) | (with_reducible refine Kd.C_drewN ?_ _) | (with_reducible refine Kd.C_drew ?_)))
        (case side4 => exact HC389_2.out)
        rintro e w10 ⟨rfl,hb⟩
        refine ⟨_,rfl,?_⟩
        have n0_ := zc.mk (zj hBq hb)
        clear HB
        have HB := n0_
        clear n0_
        (try clear hb)
        (try clear hb2)
        (try clear hk)
        (try clear hi)
        refine hK.out _ _ ⟨((HB.out.cell (World.block_lt_of_cell? w _ hw388_0)).trans hw388_0),((HB.out.cell (World.block_lt_of_cell? w _ hw388_1)).trans hw388_1),((HB.out.cell (World.block_lt_of_cell? w _ hw388_2)).trans hw388_2),((HB.out.cell (World.block_lt_of_cell? w _ hw389_0)).trans hw389_0),((HB.out.cell (World.block_lt_of_cell? w _ hw389_1)).trans hw389_1),((HB.out.cell (World.block_lt_of_cell? w _ hw389_2)).trans hw389_2)⟩ (fun hHeld => ?_)
        clear hK K
        refine zgd (a' := ?_) ?_ ?_
        rotate_left
        ·show Act.put _ (some 26) _ = _
         simp only [Act.put,List.setIfInBounds_toArray,List.set_cons_zero,List.set_cons_succ,zan,zaq]
         rfl
        refine zbM (i := 9) (N := some 6) (v := ?_) (a' := ?_) #[true,true,true,true,true,true,true,true,true,true] rfl rfl (zbi HT_.out (by kernel_rfl)) (fun _ _ _ h => h) (Or.inl ⟨by rfl,?_⟩) ?_ ?_
        rotate_left
        ·intro w'
         go_simp
         with_reducible rfl
        rotate_left
        ·simp only [Act.put,List.setIfInBounds_toArray,List.set_cons_zero,List.set_cons_succ,zan,zaq]
         rfl
        refine zg8 (zfJ HT_.out (by kernel_rfl)) ?_
        try go_wp2
        go_roundg k1
        case measure => have := HK1.out;omega
        case rel => exact ⟨(wrap64 (x5_1 + 1)),(hDq),H',⟨by have := HK1.out;omega⟩,⟨by repeat (first | (with_reducible first | exact HB.out | apply zA | apply zm | apply zJ) | exact HB.out)⟩⟩
       ·replace c8 := Bool.eq_false_iff.mpr c8
        subst c8
        have H1 : (some false) = some r := by rw [if_neg (show ¬ (false = true) by decide)] at H;exact H
        clear H
        have H := H1
        clear H1
        obtain rfl := Option.some.inj H
        try go_wp2
        have n0_ := zc.mk (zJ HB.out)
        clear HB
        have HB := n0_
        clear n0_
        have p388 : 0 ≤ (x5_1 : Int) := hFq
        have q388 : x5_1 < (l0.length : Int) := hFq
        obtain ⟨ad388,A388_2,c388_2,e388,hx388_0,hx388_1,hx388_2,hl388_2,hi388_2⟩ := zbS HR0.out x5_1 p388 q388
        have hw388_2 := hx388_2
        have hw388_1 := hx388_1
        have hw388_0 := hx388_0
        cases e388
        replace hx388_0 := (HB.out.cell (World.block_lt_of_cell? w _ hx388_0)).trans hx388_0
        replace hx388_1 := (HB.out.cell (World.block_lt_of_cell? w _ hx388_1)).trans hx388_1
        replace hx388_2 := (HB.out.cell (World.block_lt_of_cell? w _ hx388_2)).trans hx388_2
        have HR388_2 := zc.mk hi388_2
        have HC388_2 := zc.mk hl388_2
        clear hi388_2 hl388_2
        replace p388 := eq_true p388
        replace q388 := eq_true q388
        have p389 : 0 ≤ (x5_1 : Int) := hFq
        have q389 : x5_1 < (l1.length : Int) := hFq
        obtain ⟨ad389,A389_2,c389_2,e389,hx389_0,hx389_1,hx389_2,hl389_2,hi389_2⟩ := zbS HR1.out x5_1 p389 q389
        have hw389_2 := hx389_2
        have hw389_1 := hx389_1
        have hw389_0 := hx389_0
        cases e389
        replace hx389_0 := (HB.out.cell (World.block_lt_of_cell? w _ hx389_0)).trans hx389_0
        replace hx389_1 := (HB.out.cell (World.block_lt_of_cell? w _ hx389_1)).trans hx389_1
        replace hx389_2 := (HB.out.cell (World.block_lt_of_cell? w _ hx389_2)).trans hx389_2
        have HR389_2 := zc.mk hi389_2
        have HC389_2 := zc.mk hl389_2
        clear hi389_2 hl389_2
        replace p389 := eq_true p389
        replace q389 := eq_true q389
        refine zgD (n := 10) (S := fun w' => w'.cell? (ad388.add ((x5_1).toNat * 3)) = some (.int .i64 ((zX l0 x5_1).f0)) ∧ w'.cell? ⟨(ad388.add ((x5_1).toNat * 3)).block,(ad388.add ((x5_1).toNat * 3)).off + 1,none⟩ = some (.int .i64 ((zX l0 x5_1).f1)) ∧ w'.cell? ⟨(ad388.add ((x5_1).toNat * 3)).block,(ad388.add ((x5_1).toNat * 3)).off + 2,none⟩ = some (.slice A388_2 ((zX l0 x5_1).f2).length c388_2) ∧ w'.cell? (ad389.add ((x5_1).toNat * 3)) = some (.int .i64 ((zX l1 x5_1).f0)) ∧ w'.cell? ⟨(ad389.add ((x5_1).toNat * 3)).block,(ad389.add ((x5_1).toNat * 3)).off + 1,none⟩ = some (.int .i64 ((zX l1 x5_1).f1)) ∧ w'.cell? ⟨(ad389.add ((x5_1).toNat * 3)).block,(ad389.add ((x5_1).toNat * 3)).off + 2,none⟩ = some (.slice A389_2 ((zX l1 x5_1).f2).length c389_2)) (ds := []) #[false,false,false,false,false,false,false,false,false,false] (by kernel_rfl) rfl rfl ⟨((HB.out.cell (World.block_lt_of_cell? w _ hw388_0)).trans hw388_0),((HB.out.cell (World.block_lt_of_cell? w _ hw388_1)).trans hw388_1),((HB.out.cell (World.block_lt_of_cell? w _ hw388_2)).trans hw388_2),((HB.out.cell (World.block_lt_of_cell? w _ hw389_0)).trans hw389_0),((HB.out.cell (World.block_lt_of_cell? w _ hw389_1)).trans hw389_1),((HB.out.cell (World.block_lt_of_cell? w _ hw389_2)).trans hw389_2)⟩ (fun hHeld => ?_);refine zec zL.tab6 zL.bits6 (fun HT_ HW_ => ?_)
        generalize wr.drew = w11 at HB HR388_2 HR389_2 hx388_0 hx388_1 hx388_2 hx389_0 hx389_1 hx389_2 hHeld ⊢
        refine zbM (i := 0) (N := some 18) (v := ?_) (a' := ?_) #[true,false,false,false,false,false,false,false,false,false] rfl rfl (zbi HT_.out (by kernel_rfl)) (fun _ _ _ h => h) (Or.inl ⟨by rfl,?_⟩) ?_ ?_
        rotate_left
        ·intro w'
         go_simp
         with_reducible rfl
        rotate_left
        ·simp only [Act.put,List.setIfInBounds_toArray,List.set_cons_zero,List.set_cons_succ,zan,zaq]
         rfl
        refine zbM (i := 1) (N := some 19) (v := ?_) (a' := ?_) #[true,true,false,false,false,false,false,false,false,false] rfl rfl (zbi HT_.out (by kernel_rfl)) (fun _ _ _ h => h) (Or.inl ⟨by rfl,?_⟩) ?_ ?_
        rotate_left
        ·intro w'
         go_simp
         with_reducible rfl
        rotate_left
        ·simp only [Act.put,List.setIfInBounds_toArray,List.set_cons_zero,List.set_cons_succ,zan,zaq]
         rfl
        refine zbM (i := 2) (N := some 20) (v := ?_) (a' := ?_) #[true,true,true,false,false,false,false,false,false,false] rfl rfl (zbi HT_.out (by kernel_rfl)) (fun _ _ _ h => h) (Or.inl ⟨by rfl,?_⟩) ?_ ?_
        rotate_left
        ·intro w'
         go_simp
         with_reducible rfl
        rotate_left
        ·simp only [Act.put,List.setIfInBounds_toArray,List.set_cons_zero,List.set_cons_succ,zan,zaq]
         rfl
        refine zbM (i := 4) (N := some 22) (v := ?_) (a' := ?_) #[true,true,true,false,true,false,false,false,false,false] rfl rfl (zbi HT_.out (by kernel_rfl)) (fun _ _ _ h => h) (Or.inl ⟨by rfl,?_⟩) ?_ ?_
        rotate_left
        ·intro w'
         go_simp
         with_reducible rfl
        rotate_left
        ·simp only [Act.put,List.setIfInBounds_toArray,List.set_cons_zero,List.set_cons_succ,zan,zaq]
         rfl
        refine zbM (i := 5) (N := some 23) (v := ?_) (a' := ?_) #[true,true,true,false,true,true,false,false,false,false] rfl rfl (zbi HT_.out (by kernel_rfl)) (fun _ _ _ h => h) (Or.inl ⟨by rfl,?_⟩) ?_ ?_
        rotate_left
        ·intro w'
         go_simp
         with_reducible rfl
        rotate_left
        ·simp only [Act.put,List.setIfInBounds_toArray,List.set_cons_zero,List.set_cons_succ,zan,zaq]
         rfl
        refine zbM (i := 6) (N := some 24) (v := ?_) (a' := ?_) #[true,true,true,false,true,true,true,false,false,false] rfl rfl (zbi HT_.out (by kernel_rfl)) (fun _ _ _ h => h) (Or.inl ⟨by rfl,?_⟩) ?_ ?_
        rotate_left
        ·intro w'
         go_simp
         with_reducible rfl
        rotate_left
        ·simp only [Act.put,List.setIfInBounds_toArray,List.set_cons_zero,List.set_cons_succ,zan,zaq]
         rfl
        refine take_ (i := 3) (N := some 21) (v := ?_) (a' := ?_) #[true,true,true,true,true,true,true,false,false,false] rfl rfl (zcw HT_.out HW_.out (by kernel_rfl)) (fun _ _ _ h => h) (Or.inl ⟨by rfl,?_⟩) hHeld ?_ ?_
        rotate_left
        ·rintro w' ⟨s0,s1,s2,s3,s4,s5⟩
         go_simp
         with_reducible rfl
        rotate_left
        ·simp only [Act.put,List.setIfInBounds_toArray,List.set_cons_zero,List.set_cons_succ,zan,zaq]
         rfl
        refine take_ (i := 7) (N := some 25) (v := ?_) (a' := ?_) #[true,true,true,true,true,true,true,true,false,false] rfl rfl (zcw HT_.out HW_.out (by kernel_rfl)) (fun _ _ _ h => h) (Or.inl ⟨by rfl,?_⟩) hHeld ?_ ?_
        rotate_left
        ·rintro w' ⟨s0,s1,s2,s3,s4,s5⟩
         go_simp
         with_reducible rfl
        rotate_left
        ·simp only [Act.put,List.setIfInBounds_toArray,List.set_cons_zero,List.set_cons_succ,zan,zaq]
         rfl
        refine zhf (i := 8) (N := some 26) #[true,true,true,true,true,true,true,true,true,false] rfl rfl (zeR HT_.out (by kernel_rfl)) (by decide) (fun K hK => ?_)
        refine zf4 Try.func70 (by kernel_rfl) rfl #[.agg #[.int .i64 ((zX l0 x5_1).f0),.int .i64 ((zX l0 x5_1).f1),.slice A388_2 ((zX l0 x5_1).f2).length c388_2],.agg #[.int .i64 ((zX l1 x5_1).f0),.int .i64 ((zX l1 x5_1).f1),.slice A389_2 ((zX l1 x5_1).f2).length c389_2]] (by rfl) rfl rfl (by (try simp only [List.map_toArray,List.map_cons,List.map_nil]);first | done | rfl | (simp only [List.length_drop,List.length_take];rfl)) ?_
        with_reducible refine (zbl.calls k1 ((zX l0 x5_1).f0) ((zX l0 x5_1).f1) _ _ ((zX l0 x5_1).f2) ((zX l1 x5_1).f0) ((zX l1 x5_1).f1) _ _ ((zX l1 x5_1).f2) false _ ?side1 ?side2 ?side3 ?side4 A7.out).mono ?_
        (case side1 => repeat (first | exact (Kd.C_below HR388_2.out HB.out) | (with_reducible refine Kd.C_alloc ?_ _) | (with_reducible refine Kd.C_drewN ?_ _) | (with_reducible refine Kd.C_drew ?_)))
        (case side2 => exact HC388_2.out)
        (case side3 => repeat (first | exact (Kd.C_below HR389_2.out HB.out) | (with_reducible refine Kd.C_alloc ?_ _) | (with_reducible refine Kd.C_drewN ?_ _) | (with_reducible refine Kd.C_drew ?_)))
        (case side4 => exact HC389_2.out)
        rintro e w12 ⟨rfl,hb⟩
        refine ⟨_,rfl,?_⟩
        have n0_ := zc.mk (zj hBq hb)
        clear HB
        have HB := n0_
        clear n0_
        (try clear hb)
        (try clear hb2)
        (try clear hk)
        (try clear hi)
        refine hK.out _ _ ⟨((HB.out.cell (World.block_lt_of_cell? w _ hw388_0)).trans hw388_0),((HB.out.cell (World.block_lt_of_cell? w _ hw388_1)).trans hw388_1),((HB.out.cell (World.block_lt_of_cell? w _ hw388_2)).trans hw388_2),((HB.out.cell (World.block_lt_of_cell? w _ hw389_0)).trans hw389_0),((HB.out.cell (World.block_lt_of_cell? w _ hw389_1)).trans hw389_1),((HB.out.cell (World.block_lt_of_cell? w _ hw389_2)).trans hw389_2)⟩ (fun hHeld => ?_)
        clear hK K
        refine zgd (a' := ?_) ?_ ?_
        rotate_left
        ·show Act.put _ (some 26) _ = _
         simp only [Act.put,List.setIfInBounds_toArray,List.set_cons_zero,List.set_cons_succ,zan,zaq]
         rfl
        refine zbM (i := 9) (N := some 6) (v := ?_) (a' := ?_) #[true,true,true,true,true,true,true,true,true,true] rfl rfl (zbi HT_.out (by kernel_rfl)) (fun _ _ _ h => h) (Or.inl ⟨by rfl,?_⟩) ?_ ?_
        rotate_left
        ·intro w'
         go_simp
         with_reducible rfl
        rotate_left
        ·simp only [Act.put,List.setIfInBounds_toArray,List.set_cons_zero,List.set_cons_succ,zan,zaq]
         rfl
        refine zg8 (zfJ HT_.out (by kernel_rfl)) ?_
        try go_wp2
        go_ret
        exact ⟨hHq,hBq⟩
      ·rw [if_neg c6] at H
       exact absurd H (by simp)
     ·rw [if_neg c5] at H
      exact absurd H (by simp)
    ·rw [if_neg c4] at H
     have c4b0 : decide (x5_1 < (l0.length : Int)) = false := decide_eq_false c4
     clear c4
     obtain rfl := Option.some.inj H
     go_wp2
     go_ret
     exact ⟨hHq,hBq⟩
 ·rw [if_neg c3] at H
  have c3b0 : ((l0.length : Int) == (l1.length : Int)) = false := beq_eq_false_iff_ne.mpr c3
  have c3b1 : ((l0.length : Int) != (l1.length : Int)) = true := bne_iff_ne.mpr c3
  have c3b2 : (l0.length == l1.length) = false := by first | simpa using c3 | (simp at c3 ⊢;omega)
  obtain rfl := Option.some.inj H
  go_enter Try.func44,Try.ntmps44
  go_wp2
  go_ret
  exact ⟨hHq,hBq⟩
theorem zig (d : Nat) (w : World) (x0 y0 : Int) (x1 y1 : Int) :
  (Op.equalIn (d + 2) 26 (.agg #[.int .i64 x0,.int .i64 x1]) (.agg #[.int .i64 y0,.int .i64 y1])).run Try.prog w = .ok (x0 == y0 && (x1 == y1)) w := by
 refine zgq Try.underlying26 (by kernel_rfl) ?_
 refine zcW (by rfl) (by go_simp;rfl) (by go_simp;rfl) (by go_simp) ?_
 exact zeK (by rfl) (by go_simp;rfl) (by go_simp;rfl) (by go_simp)
end Go.Proofs.Ytgdpiegkoeikiaa.Px
namespace Go.Proofs.Ytgdpiegkoeikiaa.Px
open Go.RowKit Go.Proofs.YtgdpiegkoeikiaaW.PrintWords Go.Proofs.YtgdpiegkoeikiaaW.PrintLast Go.Proofs.YtgdpiegkoeikiaaW.PrintMore
attribute [local go_sem] zF zH zQ zR zy zz zG zI
set_option linter.unusedVariables false
set_option linter.unusedSimpArgs false
attribute [local go_sem high] zig
def zaP.f (k : Nat) (a0_0 : Int) (a0_1 : Int) (l0_2 : List (zY)) (l0_3 : List ByteArray) (a0_4 : Int) (a0_5 : Int) (a1_0 : Int) (a1_1 : Int) (l1_2 : List (zY)) (l1_3 : List ByteArray) (a1_4 : Int) (a1_5 : Int) : Option (Bool) := (zab.f k l0_3 l1_3).bind fun t393 => ((zL.f k l0_2 l1_2).bind fun t394 => (if t393 = true then (if t394 = true then (if a0_0 = a1_0 then (if a0_1 = a1_1 then (some (a0_4 == a1_4 && (a0_5 == a1_5))) else (some false)) else (some false)) else (some false)) else (some false)))
set_option maxHeartbeats 8000000 in
set_option maxRecDepth 100000 in
theorem zaP.calls (k : Nat) (a0_0 : Int) (a0_1 : Int) (A0_2 : Option Addr) (c0_2 : Nat) (l0_2 : List (zY)) (A0_3 : Option Addr) (c0_3 : Nat) (l0_3 : List ByteArray) (a0_4 : Int) (a0_5 : Int) (a1_0 : Int) (a1_1 : Int) (A1_2 : Option Addr) (c1_2 : Nat) (l1_2 : List (zY)) (A1_3 : Option Addr) (c1_3 : Nat) (l1_3 : List ByteArray) (a1_4 : Int) (a1_5 : Int) (r : Bool) (w : World) (hr0_2 : Kd.C zb1 w A0_2 l0_2.length l0_2) (hc0_2 : l0_2.length ≤ c0_2) (hr0_3 : Kd.C Kd.string w A0_3 l0_3.length l0_3) (hc0_3 : l0_3.length ≤ c0_3) (hr1_2 : Kd.C zb1 w A1_2 l1_2.length l1_2) (hc1_2 : l1_2.length ≤ c1_2) (hr1_3 : Kd.C Kd.string w A1_3 l1_3.length l1_3) (hc1_3 : l1_3.length ≤ c1_3) (h : zaP.f k a0_0 a0_1 l0_2 l0_3 a0_4 a0_5 a1_0 a1_1 l1_2 l1_3 a1_4 a1_5 = some r) :
  Calls Try.prog 16 #[.agg #[.int .i64 a0_0,.int .i64 a0_1,.slice A0_2 l0_2.length c0_2,.slice A0_3 l0_3.length c0_3,.int .i64 a0_4,.int .i64 a0_5],.agg #[.int .i64 a1_0,.int .i64 a1_1,.slice A1_2 l1_2.length c1_2,.slice A1_3 l1_3.length c1_3,.int .i64 a1_4,.int .i64 a1_5]] w fun e w' => e = .returned (.bool r) ∧ Below w.heap.size w w' := by
 have hu28 := Try.underlying28
 have hu26 := Try.underlying26
 have HR0_2 := zc.mk hr0_2
 have HC0_2 := zc.mk hc0_2
 clear hr0_2 hc0_2
 have HR0_3 := zc.mk hr0_3
 have HC0_3 := zc.mk hc0_3
 clear hr0_3 hc0_3
 have HR1_2 := zc.mk hr1_2
 have HC1_2 := zc.mk hc1_2
 clear hr1_2 hc1_2
 have HR1_3 := zc.mk hr1_3
 have HC1_3 := zc.mk hc1_3
 clear hr1_3 hc1_3
 have HB := zc.mk (Below.refl w.heap.size w)
 have H : ((zab.f k l0_3 l1_3).bind fun t393 => ((zL.f k l0_2 l1_2).bind fun t394 => (if t393 = true then (if t394 = true then (if a0_0 = a1_0 then (if a0_1 = a1_1 then (some (a0_4 == a1_4 && (a0_5 == a1_5))) else (some false)) else (some false)) else (some false)) else (some false)))) = some r := h
 clear h
 replace H := Option.bind_eq_some_iff.mp H
 obtain ⟨t393,A30,H⟩ := H
 replace H : ((zL.f k l0_2 l1_2).bind fun t394 => (if t393 = true then (if t394 = true then (if a0_0 = a1_0 then (if a0_1 = a1_1 then (some (a0_4 == a1_4 && (a0_5 == a1_5))) else (some false)) else (some false)) else (some false)) else (some false))) = some r := H
 have A3 := zc.mk A30
 clear A30
 replace H := Option.bind_eq_some_iff.mp H
 obtain ⟨t394,A40,H⟩ := H
 replace H : (if t393 = true then (if t394 = true then (if a0_0 = a1_0 then (if a0_1 = a1_1 then (some (a0_4 == a1_4 && (a0_5 == a1_5))) else (some false)) else (some false)) else (some false)) else (some false)) = some r := H
 have A4 := zc.mk A40
 clear A40
 by_cases c5 : t393 = true
 focus
  subst c5
  have H1 : (if t394 = true then (if a0_0 = a1_0 then (if a0_1 = a1_1 then (some (a0_4 == a1_4 && (a0_5 == a1_5))) else (some false)) else (some false)) else (some false)) = some r := by rw [if_pos rfl] at H;exact H
  clear H
  have H := H1
  clear H1
  by_cases c6 : t394 = true
  focus
   subst c6
   have H1 : (if a0_0 = a1_0 then (if a0_1 = a1_1 then (some (a0_4 == a1_4 && (a0_5 == a1_5))) else (some false)) else (some false)) = some r := by rw [if_pos rfl] at H;exact H
   clear H
   have H := H1
   clear H1
   by_cases c7 : a0_0 = a1_0
   focus
    rw [if_pos c7] at H
    have c7b0 : (a0_0 == a1_0) = true := beq_iff_eq.mpr c7
    have c7b1 : (a0_0 != a1_0) = false := bne_eq_false_iff_eq.mpr c7
    clear c7
    by_cases c8 : a0_1 = a1_1
    focus
     rw [if_pos c8] at H
     have c8b0 : (a0_1 == a1_1) = true := beq_iff_eq.mpr c8
     have c8b1 : (a0_1 != a1_1) = false := bne_eq_false_iff_eq.mpr c8
     clear c8
     obtain rfl := Option.some.inj H
     have EQ0 := True.intro
     have EQ1 := True.intro
    rotate_left
    focus
     rw [if_neg c8] at H
     have c8b0 : (a0_1 == a1_1) = false := beq_eq_false_iff_ne.mpr c8
     have c8b1 : (a0_1 != a1_1) = true := bne_iff_ne.mpr c8
     obtain rfl := Option.some.inj H
     have EQ0 := True.intro
     have EQ1 := True.intro
   rotate_left 2
   focus
    rw [if_neg c7] at H
    have c7b0 : (a0_0 == a1_0) = false := beq_eq_false_iff_ne.mpr c7
    have c7b1 : (a0_0 != a1_0) = true := bne_iff_ne.mpr c7
    obtain rfl := Option.some.inj H
    have EQ0 := True.intro
    have EQ1 := True.intro
  rotate_left 3
  focus
   replace c6 := Bool.eq_false_iff.mpr c6
   subst c6
   have H1 : (some false) = some r := by rw [if_neg (show ¬ (false = true) by decide)] at H;exact H
   clear H
   have H := H1
   clear H1
   obtain rfl := Option.some.inj H
   have EQ0 := True.intro
   have EQ2 := True.intro
 rotate_left 4
 focus
  replace c5 := Bool.eq_false_iff.mpr c5
  subst c5
  have H1 : (some false) = some r := by rw [if_neg (show ¬ (false = true) by decide)] at H;exact H
  clear H
  have H := H1
  clear H1
  obtain rfl := Option.some.inj H
  have EQ3 := True.intro
 all_goals
  go_enter Try.func16,Try.ntmps16
  go_wp2_with (first | ((with_reducible refine zu (N := 2) rfl ?_);refine zr ?hg (N := 2) ?hd (cs := #[.int .i64 a0_0,.int .i64 a0_1,.slice A0_2 l0_2.length c0_2,.slice A0_3 l0_3.length c0_3,.int .i64 a0_4,.int .i64 a0_5]) (t := 28) ?hr ?_;(case hd => rfl);(case hg => rfl);(case hr => first | (go_simp;done) | (go_simp;rfl));intro gb391 hg wQN22 hbox hb;have n0_ := zc.mk (zj hBq hb);have n1_ := zc.mk (hbox);have n2_ := zc.mk ((by rw [hg];exact (zl hBq) : w.heap.size ≤ gb391));have n3_ := zc.mk ((by rw [hg];exact (zl hBq) : w.heap.size ≤ gb391));clear HB;have HB := n0_;have BK391 := n1_;have GW391 := n2_;have GE391 := n3_;clear n0_ n1_ n2_ n3_;clear hb hbox hg) | ((with_reducible refine zu (N := 3) rfl ?_);refine zr ?hg (N := 3) ?hd (cs := #[.int .i64 a1_0,.int .i64 a1_1,.slice A1_2 l1_2.length c1_2,.slice A1_3 l1_3.length c1_3,.int .i64 a1_4,.int .i64 a1_5]) (t := 28) ?hr ?_;(case hd => rfl);(case hg => rfl);(case hr => first | (go_simp;done) | (go_simp;rfl));intro gb392 hg wQN32 hbox hb;have n0_ := zc.mk (zh (g := gb391) (o := .cells #[.int .i64 a0_0,.int .i64 a0_1,.slice A0_2 l0_2.length c0_2,.slice A0_3 l0_3.length c0_3,.int .i64 a0_4,.int .i64 a0_5] 28 (0,0)) (hGq BK391.out) hb);have n1_ := zc.mk (zj hCq hb);have n2_ := zc.mk (hbox);have n3_ := zc.mk ((by rw [hg];exact (zl hCq) : w.heap.size ≤ gb392));have n4_ := zc.mk ((by rw [hg];exact (zl hCq) : w.heap.size ≤ gb392));have n5_ := zc.mk ((by rw [hg];exact Nat.ne_of_lt (zP (g := gb391) (o := .cells #[.int .i64 a0_0,.int .i64 a0_1,.slice A0_2 l0_2.length c0_2,.slice A0_3 l0_3.length c0_3,.int .i64 a0_4,.int .i64 a0_5] 28 (0,0)) (hGq BK391.out)) : gb391 ≠ gb392));have n6_ := zc.mk ((by rw [hg];exact Nat.ne_of_gt (zP (g := gb391) (o := .cells #[.int .i64 a0_0,.int .i64 a0_1,.slice A0_2 l0_2.length c0_2,.slice A0_3 l0_3.length c0_3,.int .i64 a0_4,.int .i64 a0_5] 28 (0,0)) (hGq BK391.out)) : gb392 ≠ gb391));clear BK391;clear HB;have BK391 := n0_;have HB := n1_;have BK392 := n2_;have GW392 := n3_;have GE392 := n4_;have NBQN37 := n5_;have NBQN38 := n6_;clear n0_ n1_ n2_ n3_ n4_ n5_ n6_;clear hb hbox hg;have hnbQN39 := NBQN37.out;have hncQN310 := NBQN38.out;have hczQN311 : wQN32.cell? ⟨gb391,0,none⟩ = some (.int .i64 a0_0) := (zb BK391.out 0).trans rfl;have hczQN312 : wQN32.cell? ⟨gb391,1,none⟩ = some (.int .i64 a0_1) := (zb BK391.out 1).trans rfl;have hczQN313 : wQN32.cell? ⟨gb391,2,none⟩ = some (.slice A0_2 l0_2.length c0_2) := (zb BK391.out 2).trans rfl;have hczQN314 : wQN32.cell? ⟨gb391,3,none⟩ = some (.slice A0_3 l0_3.length c0_3) := (zb BK391.out 3).trans rfl;have hczQN315 : wQN32.cell? ⟨gb391,4,none⟩ = some (.int .i64 a0_4) := (zb BK391.out 4).trans rfl;have hczQN316 : wQN32.cell? ⟨gb391,5,none⟩ = some (.int .i64 a0_5) := (zb BK391.out 5).trans rfl;have hfzQN317 := za BK391.out 0;have hfzQN318 := za BK391.out 1;have hfzQN319 := za BK391.out 2;have hfzQN320 := za BK391.out 3;have hfzQN321 := za BK391.out 4;have hfzQN322 := za BK391.out 5;have hczQN323 : wQN32.cell? ⟨gb392,0,none⟩ = some (.int .i64 a1_0) := (zb BK392.out 0).trans rfl;have hczQN324 : wQN32.cell? ⟨gb392,1,none⟩ = some (.int .i64 a1_1) := (zb BK392.out 1).trans rfl;have hczQN325 : wQN32.cell? ⟨gb392,2,none⟩ = some (.slice A1_2 l1_2.length c1_2) := (zb BK392.out 2).trans rfl;have hczQN326 : wQN32.cell? ⟨gb392,3,none⟩ = some (.slice A1_3 l1_3.length c1_3) := (zb BK392.out 3).trans rfl;have hczQN327 : wQN32.cell? ⟨gb392,4,none⟩ = some (.int .i64 a1_4) := (zb BK392.out 4).trans rfl;have hczQN328 : wQN32.cell? ⟨gb392,5,none⟩ = some (.int .i64 a1_5) := (zb BK392.out 5).trans rfl;have hfzQN329 := za BK392.out 0;have hfzQN330 := za BK392.out 1;have hfzQN331 := za BK392.out 2;have hfzQN332 := za BK392.out 3;have hfzQN333 := za BK392.out 4;have hfzQN334 := za BK392.out 5) | (have _ := EQ0;((with_reducible refine zt (f := 43) rfl ?_);refine zU (some 11) rfl rfl Try.func43 (by kernel_rfl) rfl #[.slice A0_3 l0_3.length c0_3,.slice A1_3 l1_3.length c1_3] rfl (by (try simp only [List.map_toArray,List.map_cons,List.map_nil]);first | done | rfl | (simp only [List.length_drop,List.length_take];rfl)) ?_;(with_reducible refine (zab.calls k _ _ l0_3 _ _ l1_3 true _ ?side1 ?side2 ?side3 ?side4 A3.out).mono ?_);(case side1 => repeat (first | exact (Kd.C_below HR0_3.out HB.out) | (with_reducible refine Kd.C_alloc ?_ _) | (with_reducible refine Kd.C_drewN ?_ _) | (with_reducible refine Kd.C_drew ?_)));(case side2 => exact HC0_3.out);(case side3 => repeat (first | exact (Kd.C_below HR1_3.out HB.out) | (with_reducible refine Kd.C_alloc ?_ _) | (with_reducible refine Kd.C_drewN ?_ _) | (with_reducible refine Kd.C_drew ?_)));(case side4 => exact HC1_3.out);rintro e w' ⟨rfl,⟨nd,rfl⟩⟩;refine ⟨_,rfl,?_⟩)) | (have _ := EQ1;((with_reducible refine zt (f := 44) rfl ?_);refine zU (some 16) rfl rfl Try.func44 (by kernel_rfl) rfl #[.slice A0_2 l0_2.length c0_2,.slice A1_2 l1_2.length c1_2] rfl (by (try simp only [List.map_toArray,List.map_cons,List.map_nil]);first | done | rfl | (simp only [List.length_drop,List.length_take];rfl)) ?_;(with_reducible refine (zL.calls k _ _ l0_2 _ _ l1_2 true _ ?side1 ?side2 ?side3 ?side4 A4.out).mono ?_);(case side1 => repeat (first | exact (Kd.C_below HR0_2.out hCq) | (with_reducible refine Kd.C_alloc ?_ _) | (with_reducible refine Kd.C_drewN ?_ _) | (with_reducible refine Kd.C_drew ?_)));(case side2 => exact HC0_2.out);(case side3 => repeat (first | exact (Kd.C_below HR1_2.out hCq) | (with_reducible refine Kd.C_alloc ?_ _) | (with_reducible refine Kd.C_drewN ?_ _) | (with_reducible refine Kd.C_drew ?_)));(case side4 => exact HC1_2.out);rintro e wQF44A41 ⟨rfl,hb⟩;refine ⟨_,rfl,?_⟩;have n0_ := zc.mk (zh (g := gb391) (o := .cells #[.int .i64 a0_0,.int .i64 a0_1,.slice A0_2 l0_2.length c0_2,.slice A0_3 l0_3.length c0_3,.int .i64 a0_4,.int .i64 a0_5] 28 (0,0)) (hGq BK391.out) hb);have n1_ := zc.mk (zh (g := gb392) (o := .cells #[.int .i64 a1_0,.int .i64 a1_1,.slice A1_2 l1_2.length c1_2,.slice A1_3 l1_3.length c1_3,.int .i64 a1_4,.int .i64 a1_5] 28 (0,0)) (hGq BK392.out) hb);have n2_ := zc.mk (zj hCq hb);clear BK391;clear BK392;clear HB;have BK391 := n0_;have BK392 := n1_;have HB := n2_;clear n0_ n1_ n2_;(try clear hb);(try clear hb2);(try clear hk);(try clear hi);have hczQF44A44 : wQF44A41.cell? ⟨gb391,0,none⟩ = some (.int .i64 a0_0) := (zb BK391.out 0).trans rfl;have hczQF44A45 : wQF44A41.cell? ⟨gb391,1,none⟩ = some (.int .i64 a0_1) := (zb BK391.out 1).trans rfl;have hczQF44A46 : wQF44A41.cell? ⟨gb391,2,none⟩ = some (.slice A0_2 l0_2.length c0_2) := (zb BK391.out 2).trans rfl;have hczQF44A47 : wQF44A41.cell? ⟨gb391,3,none⟩ = some (.slice A0_3 l0_3.length c0_3) := (zb BK391.out 3).trans rfl;have hczQF44A48 : wQF44A41.cell? ⟨gb391,4,none⟩ = some (.int .i64 a0_4) := (zb BK391.out 4).trans rfl;have hczQF44A49 : wQF44A41.cell? ⟨gb391,5,none⟩ = some (.int .i64 a0_5) := (zb BK391.out 5).trans rfl;have hfzQF44A410 := za BK391.out 0;have hfzQF44A411 := za BK391.out 1;have hfzQF44A412 := za BK391.out 2;have hfzQF44A413 := za BK391.out 3;have hfzQF44A414 := za BK391.out 4;have hfzQF44A415 := za BK391.out 5;have hczQF44A416 : wQF44A41.cell? ⟨gb392,0,none⟩ = some (.int .i64 a1_0) := (zb BK392.out 0).trans rfl;have hczQF44A417 : wQF44A41.cell? ⟨gb392,1,none⟩ = some (.int .i64 a1_1) := (zb BK392.out 1).trans rfl;have hczQF44A418 : wQF44A41.cell? ⟨gb392,2,none⟩ = some (.slice A1_2 l1_2.length c1_2) := (zb BK392.out 2).trans rfl;have hczQF44A419 : wQF44A41.cell? ⟨gb392,3,none⟩ = some (.slice A1_3 l1_3.length c1_3) := (zb BK392.out 3).trans rfl;have hczQF44A420 : wQF44A41.cell? ⟨gb392,4,none⟩ = some (.int .i64 a1_4) := (zb BK392.out 4).trans rfl;have hczQF44A421 : wQF44A41.cell? ⟨gb392,5,none⟩ = some (.int .i64 a1_5) := (zb BK392.out 5).trans rfl;have hfzQF44A422 := za BK392.out 0;have hfzQF44A423 := za BK392.out 1;have hfzQF44A424 := za BK392.out 2;have hfzQF44A425 := za BK392.out 3;have hfzQF44A426 := za BK392.out 4;have hfzQF44A427 := za BK392.out 5)) | (have _ := EQ2;((with_reducible refine zt (f := 44) rfl ?_);refine zU (some 16) rfl rfl Try.func44 (by kernel_rfl) rfl #[.slice A0_2 l0_2.length c0_2,.slice A1_2 l1_2.length c1_2] rfl (by (try simp only [List.map_toArray,List.map_cons,List.map_nil]);first | done | rfl | (simp only [List.length_drop,List.length_take];rfl)) ?_;(with_reducible refine (zL.calls k _ _ l0_2 _ _ l1_2 false _ ?side1 ?side2 ?side3 ?side4 A4.out).mono ?_);(case side1 => repeat (first | exact (Kd.C_below HR0_2.out hCq) | (with_reducible refine Kd.C_alloc ?_ _) | (with_reducible refine Kd.C_drewN ?_ _) | (with_reducible refine Kd.C_drew ?_)));(case side2 => exact HC0_2.out);(case side3 => repeat (first | exact (Kd.C_below HR1_2.out hCq) | (with_reducible refine Kd.C_alloc ?_ _) | (with_reducible refine Kd.C_drewN ?_ _) | (with_reducible refine Kd.C_drew ?_)));(case side4 => exact HC1_2.out);rintro e wQF44A41 ⟨rfl,hb⟩;refine ⟨_,rfl,?_⟩;have n0_ := zc.mk (zh (g := gb391) (o := .cells #[.int .i64 a0_0,.int .i64 a0_1,.slice A0_2 l0_2.length c0_2,.slice A0_3 l0_3.length c0_3,.int .i64 a0_4,.int .i64 a0_5] 28 (0,0)) (hGq BK391.out) hb);have n1_ := zc.mk (zh (g := gb392) (o := .cells #[.int .i64 a1_0,.int .i64 a1_1,.slice A1_2 l1_2.length c1_2,.slice A1_3 l1_3.length c1_3,.int .i64 a1_4,.int .i64 a1_5] 28 (0,0)) (hGq BK392.out) hb);have n2_ := zc.mk (zj hCq hb);clear BK391;clear BK392;clear HB;have BK391 := n0_;have BK392 := n1_;have HB := n2_;clear n0_ n1_ n2_;(try clear hb);(try clear hb2);(try clear hk);(try clear hi))) | (have _ := EQ3;((with_reducible refine zt (f := 43) rfl ?_);refine zU (some 11) rfl rfl Try.func43 (by kernel_rfl) rfl #[.slice A0_3 l0_3.length c0_3,.slice A1_3 l1_3.length c1_3] rfl (by (try simp only [List.map_toArray,List.map_cons,List.map_nil]);first | done | rfl | (simp only [List.length_drop,List.length_take];rfl)) ?_;(with_reducible refine (zab.calls k _ _ l0_3 _ _ l1_3 false _ ?side1 ?side2 ?side3 ?side4 A3.out).mono ?_);(case side1 => repeat (first | exact (Kd.C_below HR0_3.out HB.out) | (with_reducible refine Kd.C_alloc ?_ _) | (with_reducible refine Kd.C_drewN ?_ _) | (with_reducible refine Kd.C_drew ?_)));(case side2 => exact HC0_3.out);(case side3 => repeat (first | exact (Kd.C_below HR1_3.out HB.out) | (with_reducible refine Kd.C_alloc ?_ _) | (with_reducible refine Kd.C_drewN ?_ _) | (with_reducible refine Kd.C_drew ?_)));(case side4 => exact HC1_3.out);rintro e w' ⟨rfl,⟨nd,rfl⟩⟩;refine ⟨_,rfl,?_⟩)) | (have _ := EQ3;((with_reducible refine zt (f := 44) rfl ?_);refine zU (some 16) rfl rfl Try.func44 (by kernel_rfl) rfl #[.slice A0_2 l0_2.length c0_2,.slice A1_2 l1_2.length c1_2] rfl (by (try simp only [List.map_toArray,List.map_cons,List.map_nil]);first | done | rfl | (simp only [List.length_drop,List.length_take];rfl)) ?_;(with_reducible refine (zL.calls k _ _ l0_2 _ _ l1_2 t394 _ ?side1 ?side2 ?side3 ?side4 A4.out).mono ?_);(case side1 => repeat (first | exact (Kd.C_below HR0_2.out hCq) | (with_reducible refine Kd.C_alloc ?_ _) | (with_reducible refine Kd.C_drewN ?_ _) | (with_reducible refine Kd.C_drew ?_)));(case side2 => exact HC0_2.out);(case side3 => repeat (first | exact (Kd.C_below HR1_2.out hCq) | (with_reducible refine Kd.C_alloc ?_ _) | (with_reducible refine Kd.C_drewN ?_ _) | (with_reducible refine Kd.C_drew ?_)));(case side4 => exact HC1_2.out);rintro e wQF44A41 ⟨rfl,hb⟩;refine ⟨_,rfl,?_⟩;have n0_ := zc.mk (zh (g := gb391) (o := .cells #[.int .i64 a0_0,.int .i64 a0_1,.slice A0_2 l0_2.length c0_2,.slice A0_3 l0_3.length c0_3,.int .i64 a0_4,.int .i64 a0_5] 28 (0,0)) (hGq BK391.out) hb);have n1_ := zc.mk (zh (g := gb392) (o := .cells #[.int .i64 a1_0,.int .i64 a1_1,.slice A1_2 l1_2.length c1_2,.slice A1_3 l1_3.length c1_3,.int .i64 a1_4,.int .i64 a1_5] 28 (0,0)) (hGq BK392.out) hb);have n2_ := zc.mk (zj hCq hb);clear BK391;clear BK392;clear HB;have BK391 := n0_;have BK392 := n1_;have HB := n2_;clear n0_ n1_ n2_;(try clear hb);(try clear hb2);(try clear hk);(try clear hi))))
  go_ret
  exact ⟨hHq,hCq⟩
end Go.Proofs.Ytgdpiegkoeikiaa.Px
namespace Go.Proofs.Ytgdpiegkoeikiaa.Px
open Go.RowKit Go.Proofs.YtgdpiegkoeikiaaW.PrintWords Go.Proofs.YtgdpiegkoeikiaaW.PrintLast Go.Proofs.YtgdpiegkoeikiaaW.PrintMore
attribute [local go_sem] zF zH zQ zR zy zz zG zI
set_option linter.unusedVariables false
set_option linter.unusedSimpArgs false
def vertex_Bytes.B5 : List Nat := [0,1,3,0,8,24,63,0,128,511,0,1024,3456,8191,0,16384,49152,131071,0,262144,786432,2097151,4194303,8388607]
end Go.Proofs.Ytgdpiegkoeikiaa.Px