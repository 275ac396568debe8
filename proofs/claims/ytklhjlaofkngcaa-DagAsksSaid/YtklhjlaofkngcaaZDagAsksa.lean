/- Part 27 of 33 of the proof of the law DagAsks: what is proved is the statement at the end of the last part; its conditions are those of the given row. -/
import Derived.Test.YtklhjlaofkngcaaZDagAsksQ
namespace Go.Proofs.Ytklhjlaofkngcaa.Px
open Go.RowKit Go.Proofs.YtklhjlaofkngcaaW.PrintWords Go.Proofs.YtklhjlaofkngcaaW.PrintLast Go.Proofs.YtklhjlaofkngcaaW.PrintMore
attribute [local go_sem] zF zH zM zN zB zC zG zI
set_option linter.unusedVariables false
set_option linter.unusedSimpArgs false
def zr.l0 : Nat → List (S36) → List (S36) → Int → Option (Bool)
 | 0,_,_,_ => none
 | k + 1,x0,x1,x5 => if x5 < (x0.length : Int) then (if 0 ≤ x5 then (if x5 < (x1.length : Int) then ((za2.f k ((zd x0 x5).f1.f0) ((zd x0 x5).f1.f1) ((zd x0 x5).f1.f2) ((zd x0 x5).f1.f3) ((zd x0 x5).f1.f4.f0) ((zd x0 x5).f1.f4.f1) ((zd x1 x5).f1.f0) ((zd x1 x5).f1.f1) ((zd x1 x5).f1.f2) ((zd x1 x5).f1.f3) ((zd x1 x5).f1.f4.f0) ((zd x1 x5).f1.f4.f1)).bind fun t181 => (if t181 = true then (if ((zd x0 x5).f0).toList = ((zd x1 x5).f0).toList then (zr.l0 k x0 x1 (wrap64 (x5 + 1))) else (some false)) else (some false))) else (none)) else (none)) else (some true)
def zr.f (k : Nat) (l0 : List (S36)) (l1 : List (S36)) : Option (Bool) := if (l0.length : Int) = (l1.length : Int) then (zr.l0 k l0 l1 0) else (some false)
def zr.T6 : Bool × List (List Nat × List Nat) := (true,[([],[]),([],[]),([0,1],[0,1]),([2],[2]),([3],[3]),([],[]),([],[]),([5,6],[5,6]),([7],[7]),([8],[8]),([4,9],[4,9]),([10,10,0,1,2,3,4,5,6,7,8,9,10],[10])])
def zr.B6 : List Nat := [0,0,3,7,15,0,0,96,224,480,1023,2047]
theorem zr.tab6 : zbV .any (zdf Try.f14 6) = zr.T6 := by kernel_rfl
theorem zr.bits6 : zbw zr.T6.2 zr.B6 = true := by kernel_rfl
def zr.T7 : Bool × List (List Nat × List Nat) := (true,[([],[]),([0],[0]),([1],[1]),([2],[2]),([2],[2]),([3,4,2],[2,3,4]),([5,2],[2,5]),([6,2],[2,6]),([2],[2]),([2],[2]),([8,9,2],[2,8,9]),([10,2],[2,10]),([11,2],[2,11]),([7,12,2],[2,7,12]),([2,13],[2,13])])
def zr.B7 : List Nat := [0,1,3,7,7,31,63,127,7,7,775,1799,3847,8191,16383]
theorem zr.tab7 : zbV .any (zdf Try.f14 7) = zr.T7 := by kernel_rfl
theorem zr.bits7 : zbw zr.T7.2 zr.B7 = true := by kernel_rfl
set_option maxHeartbeats 8000000 in
set_option maxRecDepth 100000 in
theorem zr.calls (k : Nat) (A0 : Option Addr) (c0 : Nat) (l0 : List (S36)) (A1 : Option Addr) (c1 : Nat) (l1 : List (S36)) (r : Bool) (w : World) (hr0 : Kd.C k36 w A0 l0.length l0) (hc0 : l0.length ≤ c0) (hr1 : Kd.C k36 w A1 l1.length l1) (hc1 : l1.length ≤ c1) (h : zr.f k l0 l1 = some r) :
  Calls Try.prog 14 #[.slice A0 l0.length c0,.slice A1 l1.length c1] w fun e w' => e = .returned (.bool r) ∧ Below w.heap.size w w' := by
 have hu30 := Try.underlying30
 have HR0 := za.mk hr0
 have HC0 := za.mk hc0
 clear hr0 hc0
 have HR1 := za.mk hr1
 have HC1 := za.mk hc1
 clear hr1 hc1
 have HB := za.mk (Below.refl w.heap.size w)
 have H : (if (l0.length : Int) = (l1.length : Int) then (zr.l0 k l0 l1 0) else (some false)) = some r := h
 clear h
 by_cases c3 : (l0.length : Int) = (l1.length : Int)
 ·rw [if_pos c3] at H
  have c3b0 : ((l0.length : Int) == (l1.length : Int)) = true := beq_iff_eq.mpr c3
  have c3b1 : ((l0.length : Int) != (l1.length : Int)) = false := bne_eq_false_iff_eq.mpr c3
  have c3b2 : (l0.length == l1.length) = true := by first | simpa using c3 | (simp at c3 ⊢;omega)
  clear c3
  have H' := za.mk H
  clear H
  go_enter Try.func14,Try.ntmps14
  go_wp2
  go_loopg [5] k (fun kq v5 w' => ∃ (x5_1 : Int),v5 = .int .i64 x5_1 ∧ za (zr.l0 kq l0 l1 x5_1 = some r) ∧ za (kq ≤ k) ∧ za (Below w.heap.size w w'))
  case atStart => exact ⟨(0),(hDq),H',⟨Nat.le_refl _⟩,⟨by repeat (first | (with_reducible first | exact HB.out | apply zl | apply zi | apply zq) | exact HB.out)⟩⟩
  case round =>
   clear H'
   try clear c1;try clear p2;try clear c3;try clear c3b0;try clear c3b1;try clear c3b2
   obtain ⟨x5_1,rfl,HA,HK1,HB⟩ := hrel
   cases gk with
   | zero => exact absurd HA.out (by simp [zr.l0])
   | succ k1 =>
    have H := HA.out
    clear HA
    simp only [zr.l0] at H
    by_cases c4 : x5_1 < (l0.length : Int)
    ·rw [if_pos c4] at H
     have c4b0 : decide (x5_1 < (l0.length : Int)) = true := decide_eq_true c4
     clear c4
     by_cases c5 : 0 ≤ x5_1
     ·rw [if_pos c5] at H
      have c5b0 : decide (0 ≤ x5_1) = true := decide_eq_true c5
      clear c5
      by_cases c6 : x5_1 < (l1.length : Int)
      ·rw [if_pos c6] at H
       have c6b0 : decide (x5_1 < (l1.length : Int)) = true := decide_eq_true c6
       clear c6
       replace H := Option.bind_eq_some_iff.mp H
       obtain ⟨t181,A70,H⟩ := H
       replace H : (if t181 = true then (if ((zd l0 x5_1).f0).toList = ((zd l1 x5_1).f0).toList then (zr.l0 k1 l0 l1 (wrap64 (x5_1 + 1))) else (some false)) else (some false)) = some r := H
       have A7 := za.mk A70
       clear A70
       by_cases c8 : t181 = true
       ·subst c8
        have H1 : (if ((zd l0 x5_1).f0).toList = ((zd l1 x5_1).f0).toList then (zr.l0 k1 l0 l1 (wrap64 (x5_1 + 1))) else (some false)) = some r := by rw [if_pos rfl] at H;exact H
        clear H
        have H := H1
        clear H1
        by_cases c9 : ((zd l0 x5_1).f0).toList = ((zd l1 x5_1).f0).toList
        ·rw [if_pos c9] at H
         have c9b0 : (((zd l0 x5_1).f0).toList == ((zd l1 x5_1).f0).toList) = true := beq_iff_eq.mpr c9
         have c9b1 : (((zd l0 x5_1).f0).toList != ((zd l1 x5_1).f0).toList) = false := bne_eq_false_iff_eq.mpr c9
         clear c9
         have H' := za.mk H
         clear H
         try go_wp2
         have n0_ := za.mk (zq HB.out)
         clear HB
         have HB := n0_
         clear n0_
         have p179 : 0 ≤ (x5_1 : Int) := hFq
         have q179 : x5_1 < (l0.length : Int) := hFq
         obtain ⟨ad179,A179_3,c179_3,A179_4,c179_4,e179,hx179_0,hx179_1,hx179_2,hx179_3,hx179_4,hx179_5,hx179_6,hl179_3,hi179_3,hl179_4,hi179_4⟩ := zaH HR0.out x5_1 p179 q179
         have hw179_6 := hx179_6
         have hw179_5 := hx179_5
         have hw179_4 := hx179_4
         have hw179_3 := hx179_3
         have hw179_2 := hx179_2
         have hw179_1 := hx179_1
         have hw179_0 := hx179_0
         cases e179
         replace hx179_0 := (HB.out.cell (World.block_lt_of_cell? w _ hx179_0)).trans hx179_0
         replace hx179_1 := (HB.out.cell (World.block_lt_of_cell? w _ hx179_1)).trans hx179_1
         replace hx179_2 := (HB.out.cell (World.block_lt_of_cell? w _ hx179_2)).trans hx179_2
         replace hx179_3 := (HB.out.cell (World.block_lt_of_cell? w _ hx179_3)).trans hx179_3
         replace hx179_4 := (HB.out.cell (World.block_lt_of_cell? w _ hx179_4)).trans hx179_4
         replace hx179_5 := (HB.out.cell (World.block_lt_of_cell? w _ hx179_5)).trans hx179_5
         replace hx179_6 := (HB.out.cell (World.block_lt_of_cell? w _ hx179_6)).trans hx179_6
         have HR179_3 := za.mk hi179_3
         have HC179_3 := za.mk hl179_3
         clear hi179_3 hl179_3
         have HR179_4 := za.mk hi179_4
         have HC179_4 := za.mk hl179_4
         clear hi179_4 hl179_4
         replace p179 := eq_true p179
         replace q179 := eq_true q179
         have p180 : 0 ≤ (x5_1 : Int) := hFq
         have q180 : x5_1 < (l1.length : Int) := hFq
         obtain ⟨ad180,A180_3,c180_3,A180_4,c180_4,e180,hx180_0,hx180_1,hx180_2,hx180_3,hx180_4,hx180_5,hx180_6,hl180_3,hi180_3,hl180_4,hi180_4⟩ := zaH HR1.out x5_1 p180 q180
         have hw180_6 := hx180_6
         have hw180_5 := hx180_5
         have hw180_4 := hx180_4
         have hw180_3 := hx180_3
         have hw180_2 := hx180_2
         have hw180_1 := hx180_1
         have hw180_0 := hx180_0
         cases e180
         replace hx180_0 := (HB.out.cell (World.block_lt_of_cell? w _ hx180_0)).trans hx180_0
         replace hx180_1 := (HB.out.cell (World.block_lt_of_cell? w _ hx180_1)).trans hx180_1
         replace hx180_2 := (HB.out.cell (World.block_lt_of_cell? w _ hx180_2)).trans hx180_2
         replace hx180_3 := (HB.out.cell (World.block_lt_of_cell? w _ hx180_3)).trans hx180_3
         replace hx180_4 := (HB.out.cell (World.block_lt_of_cell? w _ hx180_4)).trans hx180_4
         replace hx180_5 := (HB.out.cell (World.block_lt_of_cell? w _ hx180_5)).trans hx180_5
         replace hx180_6 := (HB.out.cell (World.block_lt_of_cell? w _ hx180_6)).trans hx180_6
         have HR180_3 := za.mk hi180_3
         have HC180_3 := za.mk hl180_3
         clear hi180_3 hl180_3
         have HR180_4 := za.mk hi180_4
         have HC180_4 := za.mk hl180_4
         clear hi180_4 hl180_4
         replace p180 := eq_true p180
         replace q180 := eq_true q180
         refine zbD (n := 12) (S := fun w' => w'.cell? (ad179.add ((x5_1).toNat * 7)) = some (.string ((zd l0 x5_1).f0)) ∧ w'.cell? ⟨(ad179.add ((x5_1).toNat * 7)).block,(ad179.add ((x5_1).toNat * 7)).off + 1,none⟩ = some (.int .i64 ((zd l0 x5_1).f1.f0)) ∧ w'.cell? ⟨(ad179.add ((x5_1).toNat * 7)).block,(ad179.add ((x5_1).toNat * 7)).off + 2,none⟩ = some (.int .i64 ((zd l0 x5_1).f1.f1)) ∧ w'.cell? ⟨(ad179.add ((x5_1).toNat * 7)).block,(ad179.add ((x5_1).toNat * 7)).off + 3,none⟩ = some (.slice A179_3 ((zd l0 x5_1).f1.f2).length c179_3) ∧ w'.cell? ⟨(ad179.add ((x5_1).toNat * 7)).block,(ad179.add ((x5_1).toNat * 7)).off + 4,none⟩ = some (.slice A179_4 ((zd l0 x5_1).f1.f3).length c179_4) ∧ w'.cell? ⟨(ad179.add ((x5_1).toNat * 7)).block,(ad179.add ((x5_1).toNat * 7)).off + 5,none⟩ = some (.int .i64 ((zd l0 x5_1).f1.f4.f0)) ∧ w'.cell? ⟨(ad179.add ((x5_1).toNat * 7)).block,(ad179.add ((x5_1).toNat * 7)).off + 6,none⟩ = some (.int .i64 ((zd l0 x5_1).f1.f4.f1)) ∧ w'.cell? (ad180.add ((x5_1).toNat * 7)) = some (.string ((zd l1 x5_1).f0)) ∧ w'.cell? ⟨(ad180.add ((x5_1).toNat * 7)).block,(ad180.add ((x5_1).toNat * 7)).off + 1,none⟩ = some (.int .i64 ((zd l1 x5_1).f1.f0)) ∧ w'.cell? ⟨(ad180.add ((x5_1).toNat * 7)).block,(ad180.add ((x5_1).toNat * 7)).off + 2,none⟩ = some (.int .i64 ((zd l1 x5_1).f1.f1)) ∧ w'.cell? ⟨(ad180.add ((x5_1).toNat * 7)).block,(ad180.add ((x5_1).toNat * 7)).off + 3,none⟩ = some (.slice A180_3 ((zd l1 x5_1).f1.f2).length c180_3) ∧ w'.cell? ⟨(ad180.add ((x5_1).toNat * 7)).block,(ad180.add ((x5_1).toNat * 7)).off + 4,none⟩ = some (.slice A180_4 ((zd l1 x5_1).f1.f3).length c180_4) ∧ w'.cell? ⟨(ad180.add ((x5_1).toNat * 7)).block,(ad180.add ((x5_1).toNat * 7)).off + 5,none⟩ = some (.int .i64 ((zd l1 x5_1).f1.f4.f0)) ∧ w'.cell? ⟨(ad180.add ((x5_1).toNat * 7)).block,(ad180.add ((x5_1).toNat * 7)).off + 6,none⟩ = some (.int .i64 ((zd l1 x5_1).f1.f4.f1))) (ds := []) #[false,false,false,false,false,false,false,false,false,false,false,false] (by kernel_rfl) rfl rfl ⟨((HB.out.cell (World.block_lt_of_cell? w _ hw179_0)).trans hw179_0),((HB.out.cell (World.block_lt_of_cell? w _ hw179_1)).trans hw179_1),((HB.out.cell (World.block_lt_of_cell? w _ hw179_2)).trans hw179_2),((HB.out.cell (World.block_lt_of_cell? w _ hw179_3)).trans hw179_3),((HB.out.cell (World.block_lt_of_cell? w _ hw179_4)).trans hw179_4),((HB.out.cell (World.block_lt_of_cell? w _ hw179_5)).trans hw179_5),((HB.out.cell (World.block_lt_of_cell? w _ hw179_6)).trans hw179_6),((HB.out.cell (World.block_lt_of_cell? w _ hw180_0)).trans hw180_0),((HB.out.cell (World.block_lt_of_cell? w _ hw180_1)).trans hw180_1),((HB.out.cell (World.block_lt_of_cell? w _ hw180_2)).trans hw180_2),((HB.out.cell (World.block_lt_of_cell? w _ hw180_3)).trans hw180_3),((HB.out.cell (World.block_lt_of_cell? w _ hw180_4)).trans hw180_4),((HB.out.cell (World.block_lt_of_cell? w _ hw180_5)).trans hw180_5),((HB.out.cell (World.block_lt_of_cell? w _ hw180_6)).trans hw180_6)⟩ (fun hHeld => ?_);refine zaL zr.tab6 zr.bits6 (fun HT_ HW_ => ?_)
         generalize wr.drew = w10 at HB HR179_3 HR179_4 HR180_3 HR180_4 hx179_0 hx179_1 hx179_2 hx179_3 hx179_4 hx179_5 hx179_6 hx180_0 hx180_1 hx180_2 hx180_3 hx180_4 hx180_5 hx180_6 hHeld ⊢
         refine zv (i := 0) (N := some 18) (v := ?_) (a' := ?_) #[true,false,false,false,false,false,false,false,false,false,false,false] rfl rfl (zn HT_.out (by kernel_rfl)) (fun _ _ _ h => h) (Or.inl ⟨by rfl,?_⟩) ?_ ?_
         rotate_left
         ·intro w'
          go_simp
          with_reducible rfl
         rotate_left
         ·simp only [Act.put,List.setIfInBounds_toArray,List.set_cons_zero,List.set_cons_succ,zk,zm]
          rfl
         refine zv (i := 1) (N := some 19) (v := ?_) (a' := ?_) #[true,true,false,false,false,false,false,false,false,false,false,false] rfl rfl (zn HT_.out (by kernel_rfl)) (fun _ _ _ h => h) (Or.inl ⟨by rfl,?_⟩) ?_ ?_
         rotate_left
         ·intro w'
          go_simp
          with_reducible rfl
         rotate_left
         ·simp only [Act.put,List.setIfInBounds_toArray,List.set_cons_zero,List.set_cons_succ,zk,zm]
          rfl
         refine zv (i := 2) (N := some 20) (v := ?_) (a' := ?_) #[true,true,true,false,false,false,false,false,false,false,false,false] rfl rfl (zn HT_.out (by kernel_rfl)) (fun _ _ _ h => h) (Or.inl ⟨by rfl,?_⟩) ?_ ?_
         rotate_left
         ·intro w'
          go_simp
          with_reducible rfl
         rotate_left
         ·simp only [Act.put,List.setIfInBounds_toArray,List.set_cons_zero,List.set_cons_succ,zk,zm]
          rfl
         refine zv (i := 3) (N := some 21) (v := ?_) (a' := ?_) #[true,true,true,true,false,false,false,false,false,false,false,false] rfl rfl (zn HT_.out (by kernel_rfl)) (fun _ _ _ h => h) (Or.inl ⟨by rfl,?_⟩) ?_ ?_
         rotate_left
         ·intro w'
          go_simp
          with_reducible rfl
         rotate_left
         ·simp only [Act.put,List.setIfInBounds_toArray,List.set_cons_zero,List.set_cons_succ,zk,zm]
          rfl
         refine zv (i := 5) (N := some 23) (v := ?_) (a' := ?_) #[true,true,true,true,false,true,false,false,false,false,false,false] rfl rfl (zn HT_.out (by kernel_rfl)) (fun _ _ _ h => h) (Or.inl ⟨by rfl,?_⟩) ?_ ?_
         rotate_left
         ·intro w'
          go_simp
          with_reducible rfl
         rotate_left
         ·simp only [Act.put,List.setIfInBounds_toArray,List.set_cons_zero,List.set_cons_succ,zk,zm]
          rfl
         refine zv (i := 6) (N := some 24) (v := ?_) (a' := ?_) #[true,true,true,true,false,true,true,false,false,false,false,false] rfl rfl (zn HT_.out (by kernel_rfl)) (fun _ _ _ h => h) (Or.inl ⟨by rfl,?_⟩) ?_ ?_
         rotate_left
         ·intro w'
          go_simp
          with_reducible rfl
         rotate_left
         ·simp only [Act.put,List.setIfInBounds_toArray,List.set_cons_zero,List.set_cons_succ,zk,zm]
          rfl
         refine zv (i := 7) (N := some 25) (v := ?_) (a' := ?_) #[true,true,true,true,false,true,true,true,false,false,false,false] rfl rfl (zn HT_.out (by kernel_rfl)) (fun _ _ _ h => h) (Or.inl ⟨by rfl,?_⟩) ?_ ?_
         rotate_left
         ·intro w'
          go_simp
          with_reducible rfl
         rotate_left
         ·simp only [Act.put,List.setIfInBounds_toArray,List.set_cons_zero,List.set_cons_succ,zk,zm]
          rfl
         refine zv (i := 8) (N := some 26) (v := ?_) (a' := ?_) #[true,true,true,true,false,true,true,true,true,false,false,false] rfl rfl (zn HT_.out (by kernel_rfl)) (fun _ _ _ h => h) (Or.inl ⟨by rfl,?_⟩) ?_ ?_
         rotate_left
         ·intro w'
          go_simp
          with_reducible rfl
         rotate_left
         ·simp only [Act.put,List.setIfInBounds_toArray,List.set_cons_zero,List.set_cons_succ,zk,zm]
          rfl
         refine take_ (i := 4) (N := some 22) (v := ?_) (a' := ?_) #[true,true,true,true,true,true,true,true,true,false,false,false] rfl rfl (zY HT_.out HW_.out (by kernel_rfl)) (fun _ _ _ h => h) (Or.inl ⟨by rfl,?_⟩) hHeld ?_ ?_
         rotate_left
         ·rintro w' ⟨s0,s1,s2,s3,s4,s5,s6,s7,s8,s9,s10,s11,s12,s13⟩
          go_simp
          with_reducible rfl
         rotate_left
         ·simp only [Act.put,List.setIfInBounds_toArray,List.set_cons_zero,List.set_cons_succ,zk,zm]
          rfl
         refine take_ (i := 9) (N := some 27) (v := ?_) (a' := ?_) #[true,true,true,true,true,true,true,true,true,true,false,false] rfl rfl (zY HT_.out HW_.out (by kernel_rfl)) (fun _ _ _ h => h) (Or.inl ⟨by rfl,?_⟩) hHeld ?_ ?_
         rotate_left
         ·rintro w' ⟨s0,s1,s2,s3,s4,s5,s6,s7,s8,s9,s10,s11,s12,s13⟩
          go_simp
          with_reducible rfl
         rotate_left
         ·simp only [Act.put,List.setIfInBounds_toArray,List.set_cons_zero,List.set_cons_succ,zk,zm]
          rfl
         refine zb0 (i := 10) (N := some 28) #[true,true,true,true,true,true,true,true,true,true,true,false] rfl rfl (zaY HT_.out (by kernel_rfl)) (by decide) (fun K hK => ?_)
         refine zbn Try.func28 (by kernel_rfl) rfl #[.agg #[.int .i64 ((zd l0 x5_1).f1.f0),.int .i64 ((zd l0 x5_1).f1.f1),.slice A179_3 ((zd l0 x5_1).f1.f2).length c179_3,.slice A179_4 ((zd l0 x5_1).f1.f3).length c179_4,.int .i64 ((zd l0 x5_1).f1.f4.f0),.int .i64 ((zd l0 x5_1).f1.f4.f1)],.agg #[.int .i64 ((zd l1 x5_1).f1.f0),.int .i64 ((zd l1 x5_1).f1.f1),.slice A180_3 ((zd l1 x5_1).f1.f2).length c180_3,.slice A180_4 ((zd l1 x5_1).f1.f3).length c180_4,.int .i64 ((zd l1 x5_1).f1.f4.f0),.int .i64 ((zd l1 x5_1).f1.f4.f1)]] (by rfl) rfl rfl hMq ?_
         with_reducible refine (za2.calls k1 ((zd l0 x5_1).f1.f0) ((zd l0 x5_1).f1.f1) _ _ ((zd l0 x5_1).f1.f2) _ _ ((zd l0 x5_1).f1.f3) ((zd l0 x5_1).f1.f4.f0) ((zd l0 x5_1).f1.f4.f1) ((zd l1 x5_1).f1.f0) ((zd l1 x5_1).f1.f1) _ _ ((zd l1 x5_1).f1.f2) _ _ ((zd l1 x5_1).f1.f3) ((zd l1 x5_1).f1.f4.f0) ((zd l1 x5_1).f1.f4.f1) true _ ?side1 ?side2 ?side3 ?side4 ?side5 ?side6 ?side7 ?side8 A7.out).mono ?_
         (case side1 => exact hKq (Kd.C_below HR179_3.out HB.out))
         (case side2 => exact HC179_3.out)
         (case side3 => exact hKq (Kd.C_below HR179_4.out HB.out))
         (case side4 => exact HC179_4.out)
         (case side5 => exact hKq (Kd.C_below HR180_3.out HB.out))
         (case side6 => exact HC180_3.out)
         (case side7 => exact hKq (Kd.C_below HR180_4.out HB.out))
         (case side8 => exact HC180_4.out)
         rintro e w11 ⟨rfl,hb⟩
         refine ⟨_,rfl,?_⟩
         have n0_ := za.mk (ze hBq hb)
         clear HB
         have HB := n0_
         clear n0_
         (try clear hb)
         (try clear hb2)
         (try clear hk)
         (try clear hi)
         refine hK.out _ _ ⟨((HB.out.cell (World.block_lt_of_cell? w _ hw179_0)).trans hw179_0),((HB.out.cell (World.block_lt_of_cell? w _ hw179_1)).trans hw179_1),((HB.out.cell (World.block_lt_of_cell? w _ hw179_2)).trans hw179_2),((HB.out.cell (World.block_lt_of_cell? w _ hw179_3)).trans hw179_3),((HB.out.cell (World.block_lt_of_cell? w _ hw179_4)).trans hw179_4),((HB.out.cell (World.block_lt_of_cell? w _ hw179_5)).trans hw179_5),((HB.out.cell (World.block_lt_of_cell? w _ hw179_6)).trans hw179_6),((HB.out.cell (World.block_lt_of_cell? w _ hw180_0)).trans hw180_0),((HB.out.cell (World.block_lt_of_cell? w _ hw180_1)).trans hw180_1),((HB.out.cell (World.block_lt_of_cell? w _ hw180_2)).trans hw180_2),((HB.out.cell (World.block_lt_of_cell? w _ hw180_3)).trans hw180_3),((HB.out.cell (World.block_lt_of_cell? w _ hw180_4)).trans hw180_4),((HB.out.cell (World.block_lt_of_cell? w _ hw180_5)).trans hw180_5),((HB.out.cell (World.block_lt_of_cell? w _ hw180_6)).trans hw180_6)⟩ (fun hHeld => ?_)
         clear hK K
         refine zbo (a' := ?_) ?_ ?_
         rotate_left
         ·show Act.put _ (some 28) _ = _
          simp only [Act.put,List.setIfInBounds_toArray,List.set_cons_zero,List.set_cons_succ,zk,zm]
          rfl
         refine zv (i := 11) (N := some 6) (v := ?_) (a' := ?_) #[true,true,true,true,true,true,true,true,true,true,true,true] rfl rfl (zn HT_.out (by kernel_rfl)) (fun _ _ _ h => h) (Or.inl ⟨by rfl,?_⟩) ?_ ?_
         rotate_left
         ·intro w'
          go_simp
          with_reducible rfl
         rotate_left
         ·simp only [Act.put,List.setIfInBounds_toArray,List.set_cons_zero,List.set_cons_succ,zk,zm]
          rfl
         refine zbF (zaR HT_.out (by kernel_rfl)) ?_
         try go_wp2
         have n0_ := za.mk (zq HB.out)
         clear HB
         have HB := n0_
         clear n0_
         have p182 : 0 ≤ (x5_1 : Int) := hFq
         have q182 : x5_1 < (l0.length : Int) := hFq
         obtain ⟨ad182,A182_3,c182_3,A182_4,c182_4,e182,hx182_0,hx182_1,hx182_2,hx182_3,hx182_4,hx182_5,hx182_6,hl182_3,hi182_3,hl182_4,hi182_4⟩ := zaH HR0.out x5_1 p182 q182
         have hw182_6 := hx182_6
         have hw182_5 := hx182_5
         have hw182_4 := hx182_4
         have hw182_3 := hx182_3
         have hw182_2 := hx182_2
         have hw182_1 := hx182_1
         have hw182_0 := hx182_0
         obtain rfl : ad179 = ad182 := (by injection e182)
         replace hx182_0 := (HB.out.cell (World.block_lt_of_cell? w _ hx182_0)).trans hx182_0
         replace hx182_1 := (HB.out.cell (World.block_lt_of_cell? w _ hx182_1)).trans hx182_1
         replace hx182_2 := (HB.out.cell (World.block_lt_of_cell? w _ hx182_2)).trans hx182_2
         replace hx182_3 := (HB.out.cell (World.block_lt_of_cell? w _ hx182_3)).trans hx182_3
         replace hx182_4 := (HB.out.cell (World.block_lt_of_cell? w _ hx182_4)).trans hx182_4
         replace hx182_5 := (HB.out.cell (World.block_lt_of_cell? w _ hx182_5)).trans hx182_5
         replace hx182_6 := (HB.out.cell (World.block_lt_of_cell? w _ hx182_6)).trans hx182_6
         have HR182_3 := za.mk hi182_3
         have HC182_3 := za.mk hl182_3
         clear hi182_3 hl182_3
         have HR182_4 := za.mk hi182_4
         have HC182_4 := za.mk hl182_4
         clear hi182_4 hl182_4
         replace p182 := eq_true p182
         replace q182 := eq_true q182
         have p183 : 0 ≤ (x5_1 : Int) := hFq
         have q183 : x5_1 < (l1.length : Int) := hFq
         obtain ⟨ad183,A183_3,c183_3,A183_4,c183_4,e183,hx183_0,hx183_1,hx183_2,hx183_3,hx183_4,hx183_5,hx183_6,hl183_3,hi183_3,hl183_4,hi183_4⟩ := zaH HR1.out x5_1 p183 q183
         have hw183_6 := hx183_6
         have hw183_5 := hx183_5
         have hw183_4 := hx183_4
         have hw183_3 := hx183_3
         have hw183_2 := hx183_2
         have hw183_1 := hx183_1
         have hw183_0 := hx183_0
         obtain rfl : ad180 = ad183 := (by injection e183)
         replace hx183_0 := (HB.out.cell (World.block_lt_of_cell? w _ hx183_0)).trans hx183_0
         replace hx183_1 := (HB.out.cell (World.block_lt_of_cell? w _ hx183_1)).trans hx183_1
         replace hx183_2 := (HB.out.cell (World.block_lt_of_cell? w _ hx183_2)).trans hx183_2
         replace hx183_3 := (HB.out.cell (World.block_lt_of_cell? w _ hx183_3)).trans hx183_3
         replace hx183_4 := (HB.out.cell (World.block_lt_of_cell? w _ hx183_4)).trans hx183_4
         replace hx183_5 := (HB.out.cell (World.block_lt_of_cell? w _ hx183_5)).trans hx183_5
         replace hx183_6 := (HB.out.cell (World.block_lt_of_cell? w _ hx183_6)).trans hx183_6
         have HR183_3 := za.mk hi183_3
         have HC183_3 := za.mk hl183_3
         clear hi183_3 hl183_3
         have HR183_4 := za.mk hi183_4
         have HC183_4 := za.mk hl183_4
         clear hi183_4 hl183_4
         replace p183 := eq_true p183
         replace q183 := eq_true q183
         refine zbD (n := 15) (S := fun w' => w'.cell? (ad179.add ((x5_1).toNat * 7)) = some (.string ((zd l0 x5_1).f0)) ∧ w'.cell? ⟨(ad179.add ((x5_1).toNat * 7)).block,(ad179.add ((x5_1).toNat * 7)).off + 1,none⟩ = some (.int .i64 ((zd l0 x5_1).f1.f0)) ∧ w'.cell? ⟨(ad179.add ((x5_1).toNat * 7)).block,(ad179.add ((x5_1).toNat * 7)).off + 2,none⟩ = some (.int .i64 ((zd l0 x5_1).f1.f1)) ∧ w'.cell? ⟨(ad179.add ((x5_1).toNat * 7)).block,(ad179.add ((x5_1).toNat * 7)).off + 3,none⟩ = some (.slice A182_3 ((zd l0 x5_1).f1.f2).length c182_3) ∧ w'.cell? ⟨(ad179.add ((x5_1).toNat * 7)).block,(ad179.add ((x5_1).toNat * 7)).off + 4,none⟩ = some (.slice A182_4 ((zd l0 x5_1).f1.f3).length c182_4) ∧ w'.cell? ⟨(ad179.add ((x5_1).toNat * 7)).block,(ad179.add ((x5_1).toNat * 7)).off + 5,none⟩ = some (.int .i64 ((zd l0 x5_1).f1.f4.f0)) ∧ w'.cell? ⟨(ad179.add ((x5_1).toNat * 7)).block,(ad179.add ((x5_1).toNat * 7)).off + 6,none⟩ = some (.int .i64 ((zd l0 x5_1).f1.f4.f1)) ∧ w'.cell? (ad180.add ((x5_1).toNat * 7)) = some (.string ((zd l1 x5_1).f0)) ∧ w'.cell? ⟨(ad180.add ((x5_1).toNat * 7)).block,(ad180.add ((x5_1).toNat * 7)).off + 1,none⟩ = some (.int .i64 ((zd l1 x5_1).f1.f0)) ∧ w'.cell? ⟨(ad180.add ((x5_1).toNat * 7)).block,(ad180.add ((x5_1).toNat * 7)).off + 2,none⟩ = some (.int .i64 ((zd l1 x5_1).f1.f1)) ∧ w'.cell? ⟨(ad180.add ((x5_1).toNat * 7)).block,(ad180.add ((x5_1).toNat * 7)).off + 3,none⟩ = some (.slice A183_3 ((zd l1 x5_1).f1.f2).length c183_3) ∧ w'.cell? ⟨(ad180.add ((x5_1).toNat * 7)).block,(ad180.add ((x5_1).toNat * 7)).off + 4,none⟩ = some (.slice A183_4 ((zd l1 x5_1).f1.f3).length c183_4) ∧ w'.cell? ⟨(ad180.add ((x5_1).toNat * 7)).block,(ad180.add ((x5_1).toNat * 7)).off + 5,none⟩ = some (.int .i64 ((zd l1 x5_1).f1.f4.f0)) ∧ w'.cell? ⟨(ad180.add ((x5_1).toNat * 7)).block,(ad180.add ((x5_1).toNat * 7)).off + 6,none⟩ = some (.int .i64 ((zd l1 x5_1).f1.f4.f1))) (ds := []) #[false,false,false,false,false,false,false,false,false,false,false,false,false,false,false] (by kernel_rfl) rfl rfl ⟨((HB.out.cell (World.block_lt_of_cell? w _ hw182_0)).trans hw182_0),((HB.out.cell (World.block_lt_of_cell? w _ hw182_1)).trans hw182_1),((HB.out.cell (World.block_lt_of_cell? w _ hw182_2)).trans hw182_2),((HB.out.cell (World.block_lt_of_cell? w _ hw182_3)).trans hw182_3),((HB.out.cell (World.block_lt_of_cell? w _ hw182_4)).trans hw182_4),((HB.out.cell (World.block_lt_of_cell? w _ hw182_5)).trans hw182_5),((HB.out.cell (World.block_lt_of_cell? w _ hw182_6)).trans hw182_6),((HB.out.cell (World.block_lt_of_cell? w _ hw183_0)).trans hw183_0),((HB.out.cell (World.block_lt_of_cell? w _ hw183_1)).trans hw183_1),((HB.out.cell (World.block_lt_of_cell? w _ hw183_2)).trans hw183_2),((HB.out.cell (World.block_lt_of_cell? w _ hw183_3)).trans hw183_3),((HB.out.cell (World.block_lt_of_cell? w _ hw183_4)).trans hw183_4),((HB.out.cell (World.block_lt_of_cell? w _ hw183_5)).trans hw183_5),((HB.out.cell (World.block_lt_of_cell? w _ hw183_6)).trans hw183_6)⟩ (fun hHeld => ?_);refine zaL zr.tab7 zr.bits7 (fun HT_ HW_ => ?_)
         generalize w11.drew = w12 at HB HR182_3 HR182_4 HR183_3 HR183_4 hx182_0 hx182_1 hx182_2 hx182_3 hx182_4 hx182_5 hx182_6 hx183_0 hx183_1 hx183_2 hx183_3 hx183_4 hx183_5 hx183_6 hHeld ⊢
         refine zv (i := 0) (N := some 29) (v := ?_) (a' := ?_) #[true,false,false,false,false,false,false,false,false,false,false,false,false,false,false] rfl rfl (zn HT_.out (by kernel_rfl)) (fun _ _ _ h => h) (Or.inl ⟨by rfl,?_⟩) ?_ ?_
         rotate_left
         ·intro w'
          go_simp
          with_reducible rfl
         rotate_left
         ·simp only [Act.put,List.setIfInBounds_toArray,List.set_cons_zero,List.set_cons_succ,zk,zm]
          rfl
         refine zv (i := 1) (N := some 30) (v := ?_) (a' := ?_) #[true,true,false,false,false,false,false,false,false,false,false,false,false,false,false] rfl rfl (zn HT_.out (by kernel_rfl)) (fun _ _ _ h => h) (Or.inl ⟨by rfl,?_⟩) ?_ ?_
         rotate_left
         ·intro w'
          go_simp
          with_reducible rfl
         rotate_left
         ·simp only [Act.put,List.setIfInBounds_toArray,List.set_cons_zero,List.set_cons_succ,zk,zm]
          rfl
         refine zv (i := 2) (N := some 31) (v := ?_) (a' := ?_) #[true,true,true,false,false,false,false,false,false,false,false,false,false,false,false] rfl rfl (zn HT_.out (by kernel_rfl)) (fun _ _ _ h => h) (Or.inl ⟨by rfl,?_⟩) ?_ ?_
         rotate_left
         ·intro w'
          go_simp
          with_reducible rfl
         rotate_left
         ·simp only [Act.put,List.setIfInBounds_toArray,List.set_cons_zero,List.set_cons_succ,zk,zm]
          rfl
         refine zv (i := 3) (N := some 32) (v := ?_) (a' := ?_) #[true,true,true,true,false,false,false,false,false,false,false,false,false,false,false] rfl rfl (zn HT_.out (by kernel_rfl)) (fun _ _ _ h => h) (Or.inl ⟨by rfl,?_⟩) ?_ ?_
         rotate_left
         ·intro w'
          go_simp
          with_reducible rfl
         rotate_left
         ·simp only [Act.put,List.setIfInBounds_toArray,List.set_cons_zero,List.set_cons_succ,zk,zm]
          rfl
         refine zv (i := 4) (N := some 33) (v := ?_) (a' := ?_) #[true,true,true,true,true,false,false,false,false,false,false,false,false,false,false] rfl rfl (zn HT_.out (by kernel_rfl)) (fun _ _ _ h => h) (Or.inl ⟨by rfl,?_⟩) ?_ ?_
         rotate_left
         ·intro w'
          go_simp
          with_reducible rfl
         rotate_left
         ·simp only [Act.put,List.setIfInBounds_toArray,List.set_cons_zero,List.set_cons_succ,zk,zm]
          rfl
         refine zv (i := 5) (N := some 34) (v := ?_) (a' := ?_) #[true,true,true,true,true,true,false,false,false,false,false,false,false,false,false] rfl rfl (zn HT_.out (by kernel_rfl)) (fun _ _ _ h => h) (Or.inl ⟨by rfl,?_⟩) ?_ ?_
         rotate_left
         ·intro w'
          go_simp
          with_reducible rfl
         rotate_left
         ·simp only [Act.put,List.setIfInBounds_toArray,List.set_cons_zero,List.set_cons_succ,zk,zm]
          rfl
         refine zv (i := 6) (N := some 35) (v := ?_) (a' := ?_) #[true,true,true,true,true,true,true,false,false,false,false,false,false,false,false] rfl rfl (zn HT_.out (by kernel_rfl)) (fun _ _ _ h => h) (Or.inl ⟨by rfl,?_⟩) ?_ ?_
         rotate_left
         ·intro w'
          go_simp
          with_reducible rfl
         rotate_left
         ·simp only [Act.put,List.setIfInBounds_toArray,List.set_cons_zero,List.set_cons_succ,zk,zm]
          rfl
         refine zv (i := 8) (N := some 37) (v := ?_) (a' := ?_) #[true,true,true,true,true,true,true,false,true,false,false,false,false,false,false] rfl rfl (zn HT_.out (by kernel_rfl)) (fun _ _ _ h => h) (Or.inl ⟨by rfl,?_⟩) ?_ ?_
         rotate_left
         ·intro w'
          go_simp
          with_reducible rfl
         rotate_left
         ·simp only [Act.put,List.setIfInBounds_toArray,List.set_cons_zero,List.set_cons_succ,zk,zm]
          rfl
         refine zv (i := 9) (N := some 38) (v := ?_) (a' := ?_) #[true,true,true,true,true,true,true,false,true,true,false,false,false,false,false] rfl rfl (zn HT_.out (by kernel_rfl)) (fun _ _ _ h => h) (Or.inl ⟨by rfl,?_⟩) ?_ ?_
         rotate_left
         ·intro w'
          go_simp
          with_reducible rfl
         rotate_left
         ·simp only [Act.put,List.setIfInBounds_toArray,List.set_cons_zero,List.set_cons_succ,zk,zm]
          rfl
         refine zv (i := 10) (N := some 39) (v := ?_) (a' := ?_) #[true,true,true,true,true,true,true,false,true,true,true,false,false,false,false] rfl rfl (zn HT_.out (by kernel_rfl)) (fun _ _ _ h => h) (Or.inl ⟨by rfl,?_⟩) ?_ ?_
         rotate_left
         ·intro w'
          go_simp
          with_reducible rfl
         rotate_left
         ·simp only [Act.put,List.setIfInBounds_toArray,List.set_cons_zero,List.set_cons_succ,zk,zm]
          rfl
         refine zv (i := 11) (N := some 40) (v := ?_) (a' := ?_) #[true,true,true,true,true,true,true,false,true,true,true,true,false,false,false] rfl rfl (zn HT_.out (by kernel_rfl)) (fun _ _ _ h => h) (Or.inl ⟨by rfl,?_⟩) ?_ ?_
         rotate_left
         ·intro w'
          go_simp
          with_reducible rfl
         rotate_left
         ·simp only [Act.put,List.setIfInBounds_toArray,List.set_cons_zero,List.set_cons_succ,zk,zm]
          rfl
         refine take_ (i := 7) (N := some 36) (v := ?_) (a' := ?_) #[true,true,true,true,true,true,true,true,true,true,true,true,false,false,false] rfl rfl (zY HT_.out HW_.out (by kernel_rfl)) (fun _ _ _ h => h) (Or.inl ⟨by rfl,?_⟩) hHeld ?_ ?_
         rotate_left
         ·rintro w' ⟨s0,s1,s2,s3,s4,s5,s6,s7,s8,s9,s10,s11,s12,s13⟩
          go_simp
          with_reducible rfl
         rotate_left
         ·simp only [Act.put,List.setIfInBounds_toArray,List.set_cons_zero,List.set_cons_succ,zk,zm]
          rfl
         refine take_ (i := 12) (N := some 41) (v := ?_) (a' := ?_) #[true,true,true,true,true,true,true,true,true,true,true,true,true,false,false] rfl rfl (zY HT_.out HW_.out (by kernel_rfl)) (fun _ _ _ h => h) (Or.inl ⟨by rfl,?_⟩) hHeld ?_ ?_
         rotate_left
         ·rintro w' ⟨s0,s1,s2,s3,s4,s5,s6,s7,s8,s9,s10,s11,s12,s13⟩
          go_simp
          with_reducible rfl
         rotate_left
         ·simp only [Act.put,List.setIfInBounds_toArray,List.set_cons_zero,List.set_cons_succ,zk,zm]
          rfl
         refine zv (i := 13) (N := some 42) (v := ?_) (a' := ?_) #[true,true,true,true,true,true,true,true,true,true,true,true,true,true,false] rfl rfl (zn HT_.out (by kernel_rfl)) (fun _ _ _ h => h) (Or.inl ⟨by rfl,?_⟩) ?_ ?_
         rotate_left
         ·intro w'
          go_simp
          with_reducible rfl
         rotate_left
         ·simp only [Act.put,List.setIfInBounds_toArray,List.set_cons_zero,List.set_cons_succ,zk,zm]
          rfl
         refine zv (i := 14) (N := some 43) (v := ?_) (a' := ?_) #[true,true,true,true,true,true,true,true,true,true,true,true,true,true,true] rfl rfl (zn HT_.out (by kernel_rfl)) (fun _ _ _ h => h) (Or.inl ⟨by rfl,?_⟩) ?_ ?_
         rotate_left
         ·intro w'
          go_simp
          with_reducible rfl
         rotate_left
         ·simp only [Act.put,List.setIfInBounds_toArray,List.set_cons_zero,List.set_cons_succ,zk,zm]
          rfl
         refine zbF (zaR HT_.out (by kernel_rfl)) ?_
         try go_wp2
         go_roundg k1
         case measure => have := HK1.out;omega
         case rel => exact ⟨(wrap64 (x5_1 + 1)),(hDq),H',⟨by have := HK1.out;omega⟩,⟨by repeat (first | (with_reducible first | exact HB.out | apply zl | apply zi | apply zq) | exact HB.out)⟩⟩
        ·rw [if_neg c9] at H
         have c9b0 : (((zd l0 x5_1).f0).toList == ((zd l1 x5_1).f0).toList) = false := beq_eq_false_iff_ne.mpr c9
         have c9b1 : (((zd l0 x5_1).f0).toList != ((zd l1 x5_1).f0).toList) = true := bne_iff_ne.mpr c9
         obtain rfl := Option.some.inj H
         try go_wp2
         have n0_ := za.mk (zq HB.out)
         clear HB
         have HB := n0_
         clear n0_
         have p179 : 0 ≤ (x5_1 : Int) := hFq
         have q179 : x5_1 < (l0.length : Int) := hFq
         obtain ⟨ad179,A179_3,c179_3,A179_4,c179_4,e179,hx179_0,hx179_1,hx179_2,hx179_3,hx179_4,hx179_5,hx179_6,hl179_3,hi179_3,hl179_4,hi179_4⟩ := zaH HR0.out x5_1 p179 q179
         have hw179_6 := hx179_6
         have hw179_5 := hx179_5
         have hw179_4 := hx179_4
         have hw179_3 := hx179_3
         have hw179_2 := hx179_2
         have hw179_1 := hx179_1
         have hw179_0 := hx179_0
         cases e179
         replace hx179_0 := (HB.out.cell (World.block_lt_of_cell? w _ hx179_0)).trans hx179_0
         replace hx179_1 := (HB.out.cell (World.block_lt_of_cell? w _ hx179_1)).trans hx179_1
         replace hx179_2 := (HB.out.cell (World.block_lt_of_cell? w _ hx179_2)).trans hx179_2
         replace hx179_3 := (HB.out.cell (World.block_lt_of_cell? w _ hx179_3)).trans hx179_3
         replace hx179_4 := (HB.out.cell (World.block_lt_of_cell? w _ hx179_4)).trans hx179_4
         replace hx179_5 := (HB.out.cell (World.block_lt_of_cell? w _ hx179_5)).trans hx179_5
         replace hx179_6 := (HB.out.cell (World.block_lt_of_cell? w _ hx179_6)).trans hx179_6
         have HR179_3 := za.mk hi179_3
         have HC179_3 := za.mk hl179_3
         clear hi179_3 hl179_3
         have HR179_4 := za.mk hi179_4
         have HC179_4 := za.mk hl179_4
         clear hi179_4 hl179_4
         replace p179 := eq_true p179
         replace q179 := eq_true q179
         have p180 : 0 ≤ (x5_1 : Int) := hFq
         have q180 : x5_1 < (l1.length : Int) := hFq
         obtain ⟨ad180,A180_3,c180_3,A180_4,c180_4,e180,hx180_0,hx180_1,hx180_2,hx180_3,hx180_4,hx180_5,hx180_6,hl180_3,hi180_3,hl180_4,hi180_4⟩ := zaH HR1.out x5_1 p180 q180
         have hw180_6 := hx180_6
         have hw180_5 := hx180_5
         have hw180_4 := hx180_4
         have hw180_3 := hx180_3
         have hw180_2 := hx180_2
         have hw180_1 := hx180_1
         have hw180_0 := hx180_0
         cases e180
         replace hx180_0 := (HB.out.cell (World.block_lt_of_cell? w _ hx180_0)).trans hx180_0
         replace hx180_1 := (HB.out.cell (World.block_lt_of_cell? w _ hx180_1)).trans hx180_1
         replace hx180_2 := (HB.out.cell (World.block_lt_of_cell? w _ hx180_2)).trans hx180_2
         replace hx180_3 := (HB.out.cell (World.block_lt_of_cell? w _ hx180_3)).trans hx180_3
         replace hx180_4 := (HB.out.cell (World.block_lt_of_cell? w _ hx180_4)).trans hx180_4
         replace hx180_5 := (HB.out.cell (World.block_lt_of_cell? w _ hx180_5)).trans hx180_5
         replace hx180_6 := (HB.out.cell (World.block_lt_of_cell? w _ hx180_6)).trans hx180_6
         have HR180_3 := za.mk hi180_3
         have HC180_3 := za.mk hl180_3
         clear hi180_3 hl180_3
         have HR180_4 := za.mk hi180_4
         have HC180_4 := za.mk hl180_4
         clear hi180_4 hl180_4
         replace p180 := eq_true p180
         replace q180 := eq_true q180
         refine zbD (n := 12) (S := fun w' => w'.cell? (ad179.add ((x5_1).toNat * 7)) = some (.string ((zd l0 x5_1).f0)) ∧ w'.cell? ⟨(ad179.add ((x5_1).toNat * 7)).block,(ad179.add ((x5_1).toNat * 7)).off + 1,none⟩ = some (.int .i64 ((zd l0 x5_1).f1.f0)) ∧ w'.cell? ⟨(ad179.add ((x5_1).toNat * 7)).block,(ad179.add ((x5_1).toNat * 7)).off + 2,none⟩ = some (.int .i64 ((zd l0 x5_1).f1.f1)) ∧ w'.cell? ⟨(ad179.add ((x5_1).toNat * 7)).block,(ad179.add ((x5_1).toNat * 7)).off + 3,none⟩ = some (.slice A179_3 ((zd l0 x5_1).f1.f2).length c179_3) ∧ w'.cell? ⟨(ad179.add ((x5_1).toNat * 7)).block,(ad179.add ((x5_1).toNat * 7)).off + 4,none⟩ = some (.slice A179_4 ((zd l0 x5_1).f1.f3).length c179_4) ∧ w'.cell? ⟨(ad179.add ((x5_1).toNat * 7)).block,(ad179.add ((x5_1).toNat * 7)).off + 5,none⟩ = some (.int .i64 ((zd l0 x5_1).f1.f4.f0)) ∧ w'.cell? ⟨(ad179.add ((x5_1).toNat * 7)).block,(ad179.add ((x5_1).toNat * 7)).off + 6,none⟩ = some (.int .i64 ((zd l0 x5_1).f1.f4.f1)) ∧ w'.cell? (ad180.add ((x5_1).toNat * 7)) = some (.string ((zd l1 x5_1).f0)) ∧ w'.cell? ⟨(ad180.add ((x5_1).toNat * 7)).block,(ad180.add ((x5_1).toNat * 7)).off + 1,none⟩ = some (.int .i64 ((zd l1 x5_1).f1.f0)) ∧ w'.cell? ⟨(ad180.add ((x5_1).toNat * 7)).block,(ad180.add ((x5_1).toNat * 7)).off + 2,none⟩ = some (.int .i64 ((zd l1 x5_1).f1.f1)) ∧ w'.cell? ⟨(ad180.add ((x5_1).toNat * 7)).block,(ad180.add ((x5_1).toNat * 7)).off + 3,none⟩ = some (.slice A180_3 ((zd l1 x5_1).f1.f2).length c180_3) ∧ w'.cell? ⟨(ad180.add ((x5_1).toNat * 7)).block,(ad180.add ((x5_1).toNat * 7)).off + 4,none⟩ = some (.slice A180_4 ((zd l1 x5_1).f1.f3).length c180_4) ∧ w'.cell? ⟨(ad180.add ((x5_1).toNat * 7)).block,(ad180.add ((x5_1).toNat * 7)).off + 5,none⟩ = some (.int .i64 ((zd l1 x5_1).f1.f4.f0)) ∧ w'.cell? ⟨(ad180.add ((x5_1).toNat * 7)).block,(ad180.add ((x5_1).toNat * 7)).off + 6,none⟩ = some (.int .i64 ((zd l1 x5_1).f1.f4.f1))) (ds := []) #[false,false,false,false,false,false,false,false,false,false,false,false] (by kernel_rfl) rfl rfl ⟨((HB.out.cell (World.block_lt_of_cell? w _ hw179_0)).trans hw179_0),((HB.out.cell (World.block_lt_of_cell? w _ hw179_1)).trans hw179_1),((HB.out.cell (World.block_lt_of_cell? w _ hw179_2)).trans hw179_2),((HB.out.cell (World.block_lt_of_cell? w _ hw179_3)).trans hw179_3),((HB.out.cell (World.block_lt_of_cell? w _ hw179_4)).trans hw179_4),((HB.out.cell (World.block_lt_of_cell? w _ hw179_5)).trans hw179_5),((HB.out.cell (World.block_lt_of_cell? w _ hw179_6)).trans hw179_6),((HB.out.cell (World.block_lt_of_cell? w _ hw180_0)).trans hw180_0),((HB.out.cell (World.block_lt_of_cell? w _ hw180_1)).trans hw180_1),((HB.out.cell (World.block_lt_of_cell? w _ hw180_2)).trans hw180_2),((HB.out.cell (World.block_lt_of_cell? w _ hw180_3)).trans hw180_3),((HB.out.cell (World.block_lt_of_cell? w _ hw180_4)).trans hw180_4),((HB.out.cell (World.block_lt_of_cell? w _ hw180_5)).trans hw180_5),((HB.out.cell (World.block_lt_of_cell? w _ hw180_6)).trans hw180_6)⟩ (fun hHeld => ?_);refine zaL zr.tab6 zr.bits6 (fun HT_ HW_ => ?_)
         generalize wr.drew = w13 at HB HR179_3 HR179_4 HR180_3 HR180_4 hx179_0 hx179_1 hx179_2 hx179_3 hx179_4 hx179_5 hx179_6 hx180_0 hx180_1 hx180_2 hx180_3 hx180_4 hx180_5 hx180_6 hHeld ⊢
         refine zv (i := 0) (N := some 18) (v := ?_) (a' := ?_) #[true,false,false,false,false,false,false,false,false,false,false,false] rfl rfl (zn HT_.out (by kernel_rfl)) (fun _ _ _ h => h) (Or.inl ⟨by rfl,?_⟩) ?_ ?_
         rotate_left
         ·intro w'
          go_simp
          with_reducible rfl
         rotate_left
         ·simp only [Act.put,List.setIfInBounds_toArray,List.set_cons_zero,List.set_cons_succ,zk,zm]
          rfl
         refine zv (i := 1) (N := some 19) (v := ?_) (a' := ?_) #[true,true,false,false,false,false,false,false,false,false,false,false] rfl rfl (zn HT_.out (by kernel_rfl)) (fun _ _ _ h => h) (Or.inl ⟨by rfl,?_⟩) ?_ ?_
         rotate_left
         ·intro w'
          go_simp
          with_reducible rfl
         rotate_left
         ·simp only [Act.put,List.setIfInBounds_toArray,List.set_cons_zero,List.set_cons_succ,zk,zm]
          rfl
         refine zv (i := 2) (N := some 20) (v := ?_) (a' := ?_) #[true,true,true,false,false,false,false,false,false,false,false,false] rfl rfl (zn HT_.out (by kernel_rfl)) (fun _ _ _ h => h) (Or.inl ⟨by rfl,?_⟩) ?_ ?_
         rotate_left
         ·intro w'
          go_simp
          with_reducible rfl
         rotate_left
         ·simp only [Act.put,List.setIfInBounds_toArray,List.set_cons_zero,List.set_cons_succ,zk,zm]
          rfl
         refine zv (i := 3) (N := some 21) (v := ?_) (a' := ?_) #[true,true,true,true,false,false,false,false,false,false,false,false] rfl rfl (zn HT_.out (by kernel_rfl)) (fun _ _ _ h => h) (Or.inl ⟨by rfl,?_⟩) ?_ ?_
         rotate_left
         ·intro w'
          go_simp
          with_reducible rfl
         rotate_left
         ·simp only [Act.put,List.setIfInBounds_toArray,List.set_cons_zero,List.set_cons_succ,zk,zm]
          rfl
         refine zv (i := 5) (N := some 23) (v := ?_) (a' := ?_) #[true,true,true,true,false,true,false,false,false,false,false,false] rfl rfl (zn HT_.out (by kernel_rfl)) (fun _ _ _ h => h) (Or.inl ⟨by rfl,?_⟩) ?_ ?_
         rotate_left
         ·intro w'
          go_simp
          with_reducible rfl
         rotate_left
         ·simp only [Act.put,List.setIfInBounds_toArray,List.set_cons_zero,List.set_cons_succ,zk,zm]
          rfl
         refine zv (i := 6) (N := some 24) (v := ?_) (a' := ?_) #[true,true,true,true,false,true,true,false,false,false,false,false] rfl rfl (zn HT_.out (by kernel_rfl)) (fun _ _ _ h => h) (Or.inl ⟨by rfl,?_⟩) ?_ ?_
         rotate_left
         ·intro w'
          go_simp
          with_reducible rfl
         rotate_left
         ·simp only [Act.put,List.setIfInBounds_toArray,List.set_cons_zero,List.set_cons_succ,zk,zm]
          rfl
         refine zv (i := 7) (N := some 25) (v := ?_) (a' := ?_) #[true,true,true,true,false,true,true,true,false,false,false,false] rfl rfl (zn HT_.out (by kernel_rfl)) (fun _ _ _ h => h) (Or.inl ⟨by rfl,?_⟩) ?_ ?_
         rotate_left
         ·intro w'
          go_simp
          with_reducible rfl
         rotate_left
         ·simp only [Act.put,List.setIfInBounds_toArray,List.set_cons_zero,List.set_cons_succ,zk,zm]
          rfl
         refine zv (i := 8) (N := some 26) (v := ?_) (a' := ?_) #[true,true,true,true,false,true,true,true,true,false,false,false] rfl rfl (zn HT_.out (by kernel_rfl)) (fun _ _ _ h => h) (Or.inl ⟨by rfl,?_⟩) ?_ ?_
         rotate_left
         ·intro w'
          go_simp
          with_reducible rfl
         rotate_left
         ·simp only [Act.put,List.setIfInBounds_toArray,List.set_cons_zero,List.set_cons_succ,zk,zm]
          rfl
         refine take_ (i := 4) (N := some 22) (v := ?_) (a' := ?_) #[true,true,true,true,true,true,true,true,true,false,false,false] rfl rfl (zY HT_.out HW_.out (by kernel_rfl)) (fun _ _ _ h => h) (Or.inl ⟨by rfl,?_⟩) hHeld ?_ ?_
         rotate_left
         ·rintro w' ⟨s0,s1,s2,s3,s4,s5,s6,s7,s8,s9,s10,s11,s12,s13⟩
          go_simp
          with_reducible rfl
         rotate_left
         ·simp only [Act.put,List.setIfInBounds_toArray,List.set_cons_zero,List.set_cons_succ,zk,zm]
          rfl
         refine take_ (i := 9) (N := some 27) (v := ?_) (a' := ?_) #[true,true,true,true,true,true,true,true,true,true,false,false] rfl rfl (zY HT_.out HW_.out (by kernel_rfl)) (fun _ _ _ h => h) (Or.inl ⟨by rfl,?_⟩) hHeld ?_ ?_
         rotate_left
         ·rintro w' ⟨s0,s1,s2,s3,s4,s5,s6,s7,s8,s9,s10,s11,s12,s13⟩
          go_simp
          with_reducible rfl
         rotate_left
         ·simp only [Act.put,List.setIfInBounds_toArray,List.set_cons_zero,List.set_cons_succ,zk,zm]
          rfl
         refine zb0 (i := 10) (N := some 28) #[true,true,true,true,true,true,true,true,true,true,true,false] rfl rfl (zaY HT_.out (by kernel_rfl)) (by decide) (fun K hK => ?_)
         refine zbn Try.func28 (by kernel_rfl) rfl #[.agg #[.int .i64 ((zd l0 x5_1).f1.f0),.int .i64 ((zd l0 x5_1).f1.f1),.slice A179_3 ((zd l0 x5_1).f1.f2).length c179_3,.slice A179_4 ((zd l0 x5_1).f1.f3).length c179_4,.int .i64 ((zd l0 x5_1).f1.f4.f0),.int .i64 ((zd l0 x5_1).f1.f4.f1)],.agg #[.int .i64 ((zd l1 x5_1).f1.f0),.int .i64 ((zd l1 x5_1).f1.f1),.slice A180_3 ((zd l1 x5_1).f1.f2).length c180_3,.slice A180_4 ((zd l1 x5_1).f1.f3).length c180_4,.int .i64 ((zd l1 x5_1).f1.f4.f0),.int .i64 ((zd l1 x5_1).f1.f4.f1)]] (by rfl) rfl rfl hMq ?_
         with_reducible refine (za2.calls k1 ((zd l0 x5_1).f1.f0) ((zd l0 x5_1).f1.f1) _ _ ((zd l0 x5_1).f1.f2) _ _ ((zd l0 x5_1).f1.f3) ((zd l0 x5_1).f1.f4.f0) ((zd l0 x5_1).f1.f4.f1) ((zd l1 x5_1).f1.f0) ((zd l1 x5_1).f1.f1) _ _ ((zd l1 x5_1).f1.f2) _ _ ((zd l1 x5_1).f1.f3) ((zd l1 x5_1).f1.f4.f0) ((zd l1 x5_1).f1.f4.f1) true _ ?side1 ?side2 ?side3 ?side4 ?side5 ?side6 ?side7 ?side8 A7.out).mono ?_
         (case side1 => exact hKq (Kd.C_below HR179_3.out HB.out))
         (case side2 => exact HC179_3.out)
         (case side3 => exact hKq (Kd.C_below HR179_4.out HB.out))
         (case side4 => exact HC179_4.out)
         (case side5 => exact hKq (Kd.C_below HR180_3.out HB.out))
         (case side6 => exact HC180_3.out)
         (case side7 => exact hKq (Kd.C_below HR180_4.out HB.out))
         (case side8 => exact HC180_4.out)
         rintro e w14 ⟨rfl,hb⟩
         refine ⟨_,rfl,?_⟩
         have n0_ := za.mk (ze hBq hb)
         clear HB
         have HB := n0_
         clear n0_
         (try clear hb)
         (try clear hb2)
         (try clear hk)
         (try clear hi)
         refine hK.out _ _ ⟨((HB.out.cell (World.block_lt_of_cell? w _ hw179_0)).trans hw179_0),((HB.out.cell (World.block_lt_of_cell? w _ hw179_1)).trans hw179_1),((HB.out.cell (World.block_lt_of_cell? w _ hw179_2)).trans hw179_2),((HB.out.cell (World.block_lt_of_cell? w _ hw179_3)).trans hw179_3),((HB.out.cell (World.block_lt_of_cell? w _ hw179_4)).trans hw179_4),((HB.out.cell (World.block_lt_of_cell? w _ hw179_5)).trans hw179_5),((HB.out.cell (World.block_lt_of_cell? w _ hw179_6)).trans hw179_6),((HB.out.cell (World.block_lt_of_cell? w _ hw180_0)).trans hw180_0),((HB.out.cell (World.block_lt_of_cell? w _ hw180_1)).trans hw180_1),((HB.out.cell (World.block_lt_of_cell? w _ hw180_2)).trans hw180_2),((HB.out.cell (World.block_lt_of_cell? w _ hw180_3)).trans hw180_3),((HB.out.cell (World.block_lt_of_cell? w _ hw180_4)).trans hw180_4),((HB.out.cell (World.block_lt_of_cell? w _ hw180_5)).trans hw180_5),((HB.out.cell (World.block_lt_of_cell? w _ hw180_6)).trans hw180_6)⟩ (fun hHeld => ?_)
         clear hK K
         refine zbo (a' := ?_) ?_ ?_
         rotate_left
         ·show Act.put _ (some 28) _ = _
          simp only [Act.put,List.setIfInBounds_toArray,List.set_cons_zero,List.set_cons_succ,zk,zm]
          rfl
         refine zv (i := 11) (N := some 6) (v := ?_) (a' := ?_) #[true,true,true,true,true,true,true,true,true,true,true,true] rfl rfl (zn HT_.out (by kernel_rfl)) (fun _ _ _ h => h) (Or.inl ⟨by rfl,?_⟩) ?_ ?_
         rotate_left
         ·intro w'
          go_simp
          with_reducible rfl
         rotate_left
         ·simp only [Act.put,List.setIfInBounds_toArray,List.set_cons_zero,List.set_cons_succ,zk,zm]
          rfl
         refine zbF (zaR HT_.out (by kernel_rfl)) ?_
         try go_wp2
         have n0_ := za.mk (zq HB.out)
         clear HB
         have HB := n0_
         clear n0_
         have p182 : 0 ≤ (x5_1 : Int) := hFq
         have q182 : x5_1 < (l0.length : Int) := hFq
         obtain ⟨ad182,A182_3,c182_3,A182_4,c182_4,e182,hx182_0,hx182_1,hx182_2,hx182_3,hx182_4,hx182_5,hx182_6,hl182_3,hi182_3,hl182_4,hi182_4⟩ := zaH HR0.out x5_1 p182 q182
         have hw182_6 := hx182_6
         have hw182_5 := hx182_5
         have hw182_4 := hx182_4
         have hw182_3 := hx182_3
         have hw182_2 := hx182_2
         have hw182_1 := hx182_1
         have hw182_0 := hx182_0
         obtain rfl : ad179 = ad182 := (by injection e182)
         replace hx182_0 := (HB.out.cell (World.block_lt_of_cell? w _ hx182_0)).trans hx182_0
         replace hx182_1 := (HB.out.cell (World.block_lt_of_cell? w _ hx182_1)).trans hx182_1
         replace hx182_2 := (HB.out.cell (World.block_lt_of_cell? w _ hx182_2)).trans hx182_2
         replace hx182_3 := (HB.out.cell (World.block_lt_of_cell? w _ hx182_3)).trans hx182_3
         replace hx182_4 := (HB.out.cell (World.block_lt_of_cell? w _ hx182_4)).trans hx182_4
         replace hx182_5 := (HB.out.cell (World.block_lt_of_cell? w _ hx182_5)).trans hx182_5
         replace hx182_6 := (HB.out.cell (World.block_lt_of_cell? w _ hx182_6)).trans hx182_6
         have HR182_3 := za.mk hi182_3
         have HC182_3 := za.mk hl182_3
         clear hi182_3 hl182_3
         have HR182_4 := za.mk hi182_4
         have HC182_4 := za.mk hl182_4
         clear hi182_4 hl182_4
         replace p182 := eq_true p182
         replace q182 := eq_true q182
         have p183 : 0 ≤ (x5_1 : Int) := hFq
         have q183 : x5_1 < (l1.length : Int) := hFq
         obtain ⟨ad183,A183_3,c183_3,A183_4,c183_4,e183,hx183_0,hx183_1,hx183_2,hx183_3,hx183_4,hx183_5,hx183_6,hl183_3,hi183_3,hl183_4,hi183_4⟩ := zaH HR1.out x5_1 p183 q183
         have hw183_6 := hx183_6
         have hw183_5 := hx183_5
         have hw183_4 := hx183_4
         have hw183_3 := hx183_3
         have hw183_2 := hx183_2
         have hw183_1 := hx183_1
         have hw183_0 := hx183_0
         obtain rfl : ad180 = ad183 := (by injection e183)
         replace hx183_0 := (HB.out.cell (World.block_lt_of_cell? w _ hx183_0)).trans hx183_0
         replace hx183_1 := (HB.out.cell (World.block_lt_of_cell? w _ hx183_1)).trans hx183_1
         replace hx183_2 := (HB.out.cell (World.block_lt_of_cell? w _ hx183_2)).trans hx183_2
         replace hx183_3 := (HB.out.cell (World.block_lt_of_cell? w _ hx183_3)).trans hx183_3
         replace hx183_4 := (HB.out.cell (World.block_lt_of_cell? w _ hx183_4)).trans hx183_4
         replace hx183_5 := (HB.out.cell (World.block_lt_of_cell? w _ hx183_5)).trans hx183_5
         replace hx183_6 := (HB.out.cell (World.block_lt_of_cell? w _ hx183_6)).trans hx183_6
         have HR183_3 := za.mk hi183_3
         have HC183_3 := za.mk hl183_3
         clear hi183_3 hl183_3
         have HR183_4 := za.mk hi183_4
         have HC183_4 := za.mk hl183_4
         clear hi183_4 hl183_4
         replace p183 := eq_true p183
         replace q183 := eq_true q183
         refine zbD (n := 15) (S := fun w' => w'.cell? (ad179.add ((x5_1).toNat * 7)) = some (.string ((zd l0 x5_1).f0)) ∧ w'.cell? ⟨(ad179.add ((x5_1).toNat * 7)).block,(ad179.add ((x5_1).toNat * 7)).off + 1,none⟩ = some (.int .i64 ((zd l0 x5_1).f1.f0)) ∧ w'.cell? ⟨(ad179.add ((x5_1).toNat * 7)).block,(ad179.add ((x5_1).toNat * 7)).off + 2,none⟩ = some (.int .i64 ((zd l0 x5_1).f1.f1)) ∧ w'.cell? ⟨(ad179.add ((x5_1).toNat * 7)).block,(ad179.add ((x5_1).toNat * 7)).off + 3,none⟩ = some (.slice A182_3 ((zd l0 x5_1).f1.f2).length c182_3) ∧ w'.cell? ⟨(ad179.add ((x5_1).toNat * 7)).block,(ad179.add ((x5_1).toNat * 7)).off + 4,none⟩ = some (.slice A182_4 ((zd l0 x5_1).f1.f3).length c182_4) ∧ w'.cell? ⟨(ad179.add ((x5_1).toNat * 7)).block,(ad179.add ((x5_1).toNat * 7)).off + 5,none⟩ = some (.int .i64 ((zd l0 x5_1).f1.f4.f0)) ∧ w'.cell? ⟨(ad179.add ((x5_1).toNat * 7)).block,(ad179.add ((x5_1).toNat * 7)).off + 6,none⟩ = some (.int .i64 ((zd l0 x5_1).f1.f4.f1)) ∧ w'.cell? (ad180.add ((x5_1).toNat * 7)) = some (.string ((zd l1 x5_1).f0)) ∧ w'.cell? ⟨(ad180.add ((x5_1).toNat * 7)).block,(ad180.add ((x5_1).toNat * 7)).off + 1,none⟩ = some (.int .i64 ((zd l1 x5_1).f1.f0)) ∧ w'.cell? ⟨(ad180.add ((x5_1).toNat * 7)).block,(ad180.add ((x5_1).toNat * 7)).off + 2,none⟩ = some (.int .i64 ((zd l1 x5_1).f1.f1)) ∧ w'.cell? ⟨(ad180.add ((x5_1).toNat * 7)).block,(ad180.add ((x5_1).toNat * 7)).off + 3,none⟩ = some (.slice A183_3 ((zd l1 x5_1).f1.f2).length c183_3) ∧ w'.cell? ⟨(ad180.add ((x5_1).toNat * 7)).block,(ad180.add ((x5_1).toNat * 7)).off + 4,none⟩ = some (.slice A183_4 ((zd l1 x5_1).f1.f3).length c183_4) ∧ w'.cell? ⟨(ad180.add ((x5_1).toNat * 7)).block,(ad180.add ((x5_1).toNat * 7)).off + 5,none⟩ = some (.int .i64 ((zd l1 x5_1).f1.f4.f0)) ∧ w'.cell? ⟨(ad180.add ((x5_1).toNat * 7)).block,(ad180.add ((x5_1).toNat * 7)).off + 6,none⟩ = some (.int .i64 ((zd l1 x5_1).f1.f4.f1))) (ds := []) #[false,false,false,false,false,false,false,false,false,false,false,false,false,false,false] (by kernel_rfl) rfl rfl ⟨((HB.out.cell (World.block_lt_of_cell? w _ hw182_0)).trans hw182_0),((HB.out.cell (World.block_lt_of_cell? w _ hw182_1)).trans hw182_1),((HB.out.cell (World.block_lt_of_cell? w _ hw182_2)).trans hw182_2),((HB.out.cell (World.block_lt_of_cell? w _ hw182_3)).trans hw182_3),((HB.out.cell (World.block_lt_of_cell? w _ hw182_4)).trans hw182_4),((HB.out.cell (World.block_lt_of_cell? w _ hw182_5)).trans hw182_5),((HB.out.cell (World.block_lt_of_cell? w _ hw182_6)).trans hw182_6),((HB.out.cell (World.block_lt_of_cell? w _ hw183_0)).trans hw183_0),((HB.out.cell (World.block_lt_of_cell? w _ hw183_1)).trans hw183_1),((HB.out.cell (World.block_lt_of_cell? w _ hw183_2)).trans hw183_2),((HB.out.cell (World.block_lt_of_cell? w _ hw183_3)).trans hw183_3),((HB.out.cell (World.block_lt_of_cell? w _ hw183_4)).trans hw183_4),((HB.out.cell (World.block_lt_of_cell? w _ hw183_5)).trans hw183_5),((HB.out.cell (World.block_lt_of_cell? w _ hw183_6)).trans hw183_6)⟩ (fun hHeld => ?_);refine zaL zr.tab7 zr.bits7 (fun HT_ HW_ => ?_)
         generalize w14.drew = w15 at HB HR182_3 HR182_4 HR183_3 HR183_4 hx182_0 hx182_1 hx182_2 hx182_3 hx182_4 hx182_5 hx182_6 hx183_0 hx183_1 hx183_2 hx183_3 hx183_4 hx183_5 hx183_6 hHeld ⊢
         refine zv (i := 0) (N := some 29) (v := ?_) (a' := ?_) #[true,false,false,false,false,false,false,false,false,false,false,false,false,false,false] rfl rfl (zn HT_.out (by kernel_rfl)) (fun _ _ _ h => h) (Or.inl ⟨by rfl,?_⟩) ?_ ?_
         rotate_left
         ·intro w'
          go_simp
          with_reducible rfl
         rotate_left
         ·simp only [Act.put,List.setIfInBounds_toArray,List.set_cons_zero,List.set_cons_succ,zk,zm]
          rfl
         refine zv (i := 1) (N := some 30) (v := ?_) (a' := ?_) #[true,true,false,false,false,false,false,false,false,false,false,false,false,false,false] rfl rfl (zn HT_.out (by kernel_rfl)) (fun _ _ _ h => h) (Or.inl ⟨by rfl,?_⟩) ?_ ?_
         rotate_left
         ·intro w'
          go_simp
          with_reducible rfl
         rotate_left
         ·simp only [Act.put,List.setIfInBounds_toArray,List.set_cons_zero,List.set_cons_succ,zk,zm]
          rfl
         refine zv (i := 2) (N := some 31) (v := ?_) (a' := ?_) #[true,true,true,false,false,false,false,false,false,false,false,false,false,false,false] rfl rfl (zn HT_.out (by kernel_rfl)) (fun _ _ _ h => h) (Or.inl ⟨by rfl,?_⟩) ?_ ?_
         rotate_left
         ·intro w'
          go_simp
          with_reducible rfl
         rotate_left
         ·simp only [Act.put,List.setIfInBounds_toArray,List.set_cons_zero,List.set_cons_succ,zk,zm]
          rfl
         refine zv (i := 3) (N := some 32) (v := ?_) (a' := ?_) #[true,true,true,true,false,false,false,false,false,false,false,false,false,false,false] rfl rfl (zn HT_.out (by kernel_rfl)) (fun _ _ _ h => h) (Or.inl ⟨by rfl,?_⟩) ?_ ?_
         rotate_left
         ·intro w'
          go_simp
          with_reducible rfl
         rotate_left
         ·simp only [Act.put,List.setIfInBounds_toArray,List.set_cons_zero,List.set_cons_succ,zk,zm]
          rfl
         refine zv (i := 4) (N := some 33) (v := ?_) (a' := ?_) #[true,true,true,true,true,false,false,false,false,false,false,false,false,false,false] rfl rfl (zn HT_.out (by kernel_rfl)) (fun _ _ _ h => h) (Or.inl ⟨by rfl,?_⟩) ?_ ?_
         rotate_left
         ·intro w'
          go_simp
          with_reducible rfl
         rotate_left
         ·simp only [Act.put,List.setIfInBounds_toArray,List.set_cons_zero,List.set_cons_succ,zk,zm]
          rfl
         refine zv (i := 5) (N := some 34) (v := ?_) (a' := ?_) #[true,true,true,true,true,true,false,false,false,false,false,false,false,false,false] rfl rfl (zn HT_.out (by kernel_rfl)) (fun _ _ _ h => h) (Or.inl ⟨by rfl,?_⟩) ?_ ?_
         rotate_left
         ·intro w'
          go_simp
          with_reducible rfl
         rotate_left
         ·simp only [Act.put,List.setIfInBounds_toArray,List.set_cons_zero,List.set_cons_succ,zk,zm]
          rfl
         refine zv (i := 6) (N := some 35) (v := ?_) (a' := ?_) #[true,true,true,true,true,true,true,false,false,false,false,false,false,false,false] rfl rfl (zn HT_.out (by kernel_rfl)) (fun _ _ _ h => h) (Or.inl ⟨by rfl,?_⟩) ?_ ?_
         rotate_left
         ·intro w'
          go_simp
          with_reducible rfl
         rotate_left
         ·simp only [Act.put,List.setIfInBounds_toArray,List.set_cons_zero,List.set_cons_succ,zk,zm]
          rfl
         refine zv (i := 8) (N := some 37) (v := ?_) (a' := ?_) #[true,true,true,true,true,true,true,false,true,false,false,false,false,false,false] rfl rfl (zn HT_.out (by kernel_rfl)) (fun _ _ _ h => h) (Or.inl ⟨by rfl,?_⟩) ?_ ?_
         rotate_left
         ·intro w'
          go_simp
          with_reducible rfl
         rotate_left
         ·simp only [Act.put,List.setIfInBounds_toArray,List.set_cons_zero,List.set_cons_succ,zk,zm]
          rfl
         refine zv (i := 9) (N := some 38) (v := ?_) (a' := ?_) #[true,true,true,true,true,true,true,false,true,true,false,false,false,false,false] rfl rfl (zn HT_.out (by kernel_rfl)) (fun _ _ _ h => h) (Or.inl ⟨by rfl,?_⟩) ?_ ?_
         rotate_left
         ·intro w'
          go_simp
          with_reducible rfl
         rotate_left
         ·simp only [Act.put,List.setIfInBounds_toArray,List.set_cons_zero,List.set_cons_succ,zk,zm]
          rfl
         refine zv (i := 10) (N := some 39) (v := ?_) (a' := ?_) #[true,true,true,true,true,true,true,false,true,true,true,false,false,false,false] rfl rfl (zn HT_.out (by kernel_rfl)) (fun _ _ _ h => h) (Or.inl ⟨by rfl,?_⟩) ?_ ?_
         rotate_left
         ·intro w'
          go_simp
          with_reducible rfl
         rotate_left
         ·simp only [Act.put,List.setIfInBounds_toArray,List.set_cons_zero,List.set_cons_succ,zk,zm]
          rfl
         refine zv (i := 11) (N := some 40) (v := ?_) (a' := ?_) #[true,true,true,true,true,true,true,false,true,true,true,true,false,false,false] rfl rfl (zn HT_.out (by kernel_rfl)) (fun _ _ _ h => h) (Or.inl ⟨by rfl,?_⟩) ?_ ?_
         rotate_left
         ·intro w'
          go_simp
          with_reducible rfl
         rotate_left
         ·simp only [Act.put,List.setIfInBounds_toArray,List.set_cons_zero,List.set_cons_succ,zk,zm]
          rfl
         refine take_ (i := 7) (N := some 36) (v := ?_) (a' := ?_) #[true,true,true,true,true,true,true,true,true,true,true,true,false,false,false] rfl rfl (zY HT_.out HW_.out (by kernel_rfl)) (fun _ _ _ h => h) (Or.inl ⟨by rfl,?_⟩) hHeld ?_ ?_
         rotate_left
         ·rintro w' ⟨s0,s1,s2,s3,s4,s5,s6,s7,s8,s9,s10,s11,s12,s13⟩
          go_simp
          with_reducible rfl
         rotate_left
         ·simp only [Act.put,List.setIfInBounds_toArray,List.set_cons_zero,List.set_cons_succ,zk,zm]
          rfl
         refine take_ (i := 12) (N := some 41) (v := ?_) (a' := ?_) #[true,true,true,true,true,true,true,true,true,true,true,true,true,false,false] rfl rfl (zY HT_.out HW_.out (by kernel_rfl)) (fun _ _ _ h => h) (Or.inl ⟨by rfl,?_⟩) hHeld ?_ ?_
         rotate_left
         ·rintro w' ⟨s0,s1,s2,s3,s4,s5,s6,s7,s8,s9,s10,s11,s12,s13⟩
          go_simp
          with_reducible rfl
         rotate_left
         ·simp only [Act.put,List.setIfInBounds_toArray,List.set_cons_zero,List.set_cons_succ,zk,zm]
          rfl
         refine zv (i := 13) (N := some 42) (v := ?_) (a' := ?_) #[true,true,true,true,true,true,true,true,true,true,true,true,true,true,false] rfl rfl (zn HT_.out (by kernel_rfl)) (fun _ _ _ h => h) (Or.inl ⟨by rfl,?_⟩) ?_ ?_
         rotate_left
         ·intro w'
          go_simp
          with_reducible rfl
         rotate_left
         ·simp only [Act.put,List.setIfInBounds_toArray,List.set_cons_zero,List.set_cons_succ,zk,zm]
          rfl
         refine zv (i := 14) (N := some 43) (v := ?_) (a' := ?_) #[true,true,true,true,true,true,true,true,true,true,true,true,true,true,true] rfl rfl (zn HT_.out (by kernel_rfl)) (fun _ _ _ h => h) (Or.inl ⟨by rfl,?_⟩) ?_ ?_
         rotate_left
         ·intro w'
          go_simp
          with_reducible rfl
         rotate_left
         ·simp only [Act.put,List.setIfInBounds_toArray,List.set_cons_zero,List.set_cons_succ,zk,zm]
          rfl
         refine zbF (zaR HT_.out (by kernel_rfl)) ?_
         try go_wp2
         go_ret
         exact ⟨hHq,hBq⟩
       ·replace c8 := Bool.eq_false_iff.mpr c8
        subst c8
        have H1 : (some false) = some r := by rw [if_neg (show ¬ (false = true) by decide)] at H;exact H
        clear H
        have H := H1
        clear H1
        obtain rfl := Option.some.inj H
        try go_wp2
        have n0_ := za.mk (zq HB.out)
        clear HB
        have HB := n0_
        clear n0_
        have p179 : 0 ≤ (x5_1 : Int) := hFq
        have q179 : x5_1 < (l0.length : Int) := hFq
        obtain ⟨ad179,A179_3,c179_3,A179_4,c179_4,e179,hx179_0,hx179_1,hx179_2,hx179_3,hx179_4,hx179_5,hx179_6,hl179_3,hi179_3,hl179_4,hi179_4⟩ := zaH HR0.out x5_1 p179 q179
        have hw179_6 := hx179_6
        have hw179_5 := hx179_5
        have hw179_4 := hx179_4
        have hw179_3 := hx179_3
        have hw179_2 := hx179_2
        have hw179_1 := hx179_1
        have hw179_0 := hx179_0
        cases e179
        replace hx179_0 := (HB.out.cell (World.block_lt_of_cell? w _ hx179_0)).trans hx179_0
        replace hx179_1 := (HB.out.cell (World.block_lt_of_cell? w _ hx179_1)).trans hx179_1
        replace hx179_2 := (HB.out.cell (World.block_lt_of_cell? w _ hx179_2)).trans hx179_2
        replace hx179_3 := (HB.out.cell (World.block_lt_of_cell? w _ hx179_3)).trans hx179_3
        replace hx179_4 := (HB.out.cell (World.block_lt_of_cell? w _ hx179_4)).trans hx179_4
        replace hx179_5 := (HB.out.cell (World.block_lt_of_cell? w _ hx179_5)).trans hx179_5
        replace hx179_6 := (HB.out.cell (World.block_lt_of_cell? w _ hx179_6)).trans hx179_6
        have HR179_3 := za.mk hi179_3
        have HC179_3 := za.mk hl179_3
        clear hi179_3 hl179_3
        have HR179_4 := za.mk hi179_4
        have HC179_4 := za.mk hl179_4
        clear hi179_4 hl179_4
        replace p179 := eq_true p179
        replace q179 := eq_true q179
        have p180 : 0 ≤ (x5_1 : Int) := hFq
        have q180 : x5_1 < (l1.length : Int) := hFq
        obtain ⟨ad180,A180_3,c180_3,A180_4,c180_4,e180,hx180_0,hx180_1,hx180_2,hx180_3,hx180_4,hx180_5,hx180_6,hl180_3,hi180_3,hl180_4,hi180_4⟩ := zaH HR1.out x5_1 p180 q180
        have hw180_6 := hx180_6
        have hw180_5 := hx180_5
        have hw180_4 := hx180_4
        have hw180_3 := hx180_3
        have hw180_2 := hx180_2
        have hw180_1 := hx180_1
        have hw180_0 := hx180_0
        cases e180
        replace hx180_0 := (HB.out.cell (World.block_lt_of_cell? w _ hx180_0)).trans hx180_0
        replace hx180_1 := (HB.out.cell (World.block_lt_of_cell? w _ hx180_1)).trans hx180_1
        replace hx180_2 := (HB.out.cell (World.block_lt_of_cell? w _ hx180_2)).trans hx180_2
        replace hx180_3 := (HB.out.cell (World.block_lt_of_cell? w _ hx180_3)).trans hx180_3
        replace hx180_4 := (HB.out.cell (World.block_lt_of_cell? w _ hx180_4)).trans hx180_4
        replace hx180_5 := (HB.out.cell (World.block_lt_of_cell? w _ hx180_5)).trans hx180_5
        replace hx180_6 := (HB.out.cell (World.block_lt_of_cell? w _ hx180_6)).trans hx180_6
        have HR180_3 := za.mk hi180_3
        have HC180_3 := za.mk hl180_3
        clear hi180_3 hl180_3
        have HR180_4 := za.mk hi180_4
        have HC180_4 := za.mk hl180_4
        clear hi180_4 hl180_4
        replace p180 := eq_true p180
        replace q180 := eq_true q180
        refine zbD (n := 12) (S := fun w' => w'.cell? (ad179.add ((x5_1).toNat * 7)) = some (.string ((zd l0 x5_1).f0)) ∧ w'.cell? ⟨(ad179.add ((x5_1).toNat * 7)).block,(ad179.add ((x5_1).toNat * 7)).off + 1,none⟩ = some (.int .i64 ((zd l0 x5_1).f1.f0)) ∧ w'.cell? ⟨(ad179.add ((x5_1).toNat * 7)).block,(ad179.add ((x5_1).toNat * 7)).off + 2,none⟩ = some (.int .i64 ((zd l0 x5_1).f1.f1)) ∧ w'.cell? ⟨(ad179.add ((x5_1).toNat * 7)).block,(ad179.add ((x5_1).toNat * 7)).off + 3,none⟩ = some (.slice A179_3 ((zd l0 x5_1).f1.f2).length c179_3) ∧ w'.cell? ⟨(ad179.add ((x5_1).toNat * 7)).block,(ad179.add ((x5_1).toNat * 7)).off + 4,none⟩ = some (.slice A179_4 ((zd l0 x5_1).f1.f3).length c179_4) ∧ w'.cell? ⟨(ad179.add ((x5_1).toNat * 7)).block,(ad179.add ((x5_1).toNat * 7)).off + 5,none⟩ = some (.int .i64 ((zd l0 x5_1).f1.f4.f0)) ∧ w'.cell? ⟨(ad179.add ((x5_1).toNat * 7)).block,(ad179.add ((x5_1).toNat * 7)).off + 6,none⟩ = some (.int .i64 ((zd l0 x5_1).f1.f4.f1)) ∧ w'.cell? (ad180.add ((x5_1).toNat * 7)) = some (.string ((zd l1 x5_1).f0)) ∧ w'.cell? ⟨(ad180.add ((x5_1).toNat * 7)).block,(ad180.add ((x5_1).toNat * 7)).off + 1,none⟩ = some (.int .i64 ((zd l1 x5_1).f1.f0)) ∧ w'.cell? ⟨(ad180.add ((x5_1).toNat * 7)).block,(ad180.add ((x5_1).toNat * 7)).off + 2,none⟩ = some (.int .i64 ((zd l1 x5_1).f1.f1)) ∧ w'.cell? ⟨(ad180.add ((x5_1).toNat * 7)).block,(ad180.add ((x5_1).toNat * 7)).off + 3,none⟩ = some (.slice A180_3 ((zd l1 x5_1).f1.f2).length c180_3) ∧ w'.cell? ⟨(ad180.add ((x5_1).toNat * 7)).block,(ad180.add ((x5_1).toNat * 7)).off + 4,none⟩ = some (.slice A180_4 ((zd l1 x5_1).f1.f3).length c180_4) ∧ w'.cell? ⟨(ad180.add ((x5_1).toNat * 7)).block,(ad180.add ((x5_1).toNat * 7)).off + 5,none⟩ = some (.int .i64 ((zd l1 x5_1).f1.f4.f0)) ∧ w'.cell? ⟨(ad180.add ((x5_1).toNat * 7)).block,(ad180.add ((x5_1).toNat * 7)).off + 6,none⟩ = some (.int .i64 ((zd l1 x5_1).f1.f4.f1))) (ds := []) #[false,false,false,false,false,false,false,false,false,false,false,false] (by kernel_rfl) rfl rfl ⟨((HB.out.cell (World.block_lt_of_cell? w _ hw179_0)).trans hw179_0),((HB.out.cell (World.block_lt_of_cell? w _ hw179_1)).trans hw179_1),((HB.out.cell (World.block_lt_of_cell? w _ hw179_2)).trans hw179_2),((HB.out.cell (World.block_lt_of_cell? w _ hw179_3)).trans hw179_3),((HB.out.cell (World.block_lt_of_cell? w _ hw179_4)).trans hw179_4),((HB.out.cell (World.block_lt_of_cell? w _ hw179_5)).trans hw179_5),((HB.out.cell (World.block_lt_of_cell? w _ hw179_6)).trans hw179_6),((HB.out.cell (World.block_lt_of_cell? w _ hw180_0)).trans hw180_0),((HB.out.cell (World.block_lt_of_cell? w _ hw180_1)).trans hw180_1),((HB.out.cell (World.block_lt_of_cell? w _ hw180_2)).trans hw180_2),((HB.out.cell (World.block_lt_of_cell? w _ hw180_3)).trans hw180_3),((HB.out.cell (World.block_lt_of_cell? w _ hw180_4)).trans hw180_4),((HB.out.cell (World.block_lt_of_cell? w _ hw180_5)).trans hw180_5),((HB.out.cell (World.block_lt_of_cell? w _ hw180_6)).trans hw180_6)⟩ (fun hHeld => ?_);refine zaL zr.tab6 zr.bits6 (fun HT_ HW_ => ?_)
        generalize wr.drew = w16 at HB HR179_3 HR179_4 HR180_3 HR180_4 hx179_0 hx179_1 hx179_2 hx179_3 hx179_4 hx179_5 hx179_6 hx180_0 hx180_1 hx180_2 hx180_3 hx180_4 hx180_5 hx180_6 hHeld ⊢
        refine zv (i := 0) (N := some 18) (v := ?_) (a' := ?_) #[true,false,false,false,false,false,false,false,false,false,false,false] rfl rfl (zn HT_.out (by kernel_rfl)) (fun _ _ _ h => h) (Or.inl ⟨by rfl,?_⟩) ?_ ?_
        rotate_left
        ·intro w'
         go_simp
         with_reducible rfl
        rotate_left
        ·simp only [Act.put,List.setIfInBounds_toArray,List.set_cons_zero,List.set_cons_succ,zk,zm]
         rfl
        refine zv (i := 1) (N := some 19) (v := ?_) (a' := ?_) #[true,true,false,false,false,false,false,false,false,false,false,false] rfl rfl (zn HT_.out (by kernel_rfl)) (fun _ _ _ h => h) (Or.inl ⟨by rfl,?_⟩) ?_ ?_
        rotate_left
        ·intro w'
         go_simp
         with_reducible rfl
        rotate_left
        ·simp only [Act.put,List.setIfInBounds_toArray,List.set_cons_zero,List.set_cons_succ,zk,zm]
         rfl
        refine zv (i := 2) (N := some 20) (v := ?_) (a' := ?_) #[true,true,true,false,false,false,false,false,false,false,false,false] rfl rfl (zn HT_.out (by kernel_rfl)) (fun _ _ _ h => h) (Or.inl ⟨by rfl,?_⟩) ?_ ?_
        rotate_left
        ·intro w'
         go_simp
         with_reducible rfl
        rotate_left
        ·simp only [Act.put,List.setIfInBounds_toArray,List.set_cons_zero,List.set_cons_succ,zk,zm]
         rfl
        refine zv (i := 3) (N := some 21) (v := ?_) (a' := ?_) #[true,true,true,true,false,false,false,false,false,false,false,false] rfl rfl (zn HT_.out (by kernel_rfl)) (fun _ _ _ h => h) (Or.inl ⟨by rfl,?_⟩) ?_ ?_
        rotate_left
        ·intro w'
         go_simp
         with_reducible rfl
        rotate_left
        ·simp only [Act.put,List.setIfInBounds_toArray,List.set_cons_zero,List.set_cons_succ,zk,zm]
         rfl
        refine zv (i := 5) (N := some 23) (v := ?_) (a' := ?_) #[true,true,true,true,false,true,false,false,false,false,false,false] rfl rfl (zn HT_.out (by kernel_rfl)) (fun _ _ _ h => h) (Or.inl ⟨by rfl,?_⟩) ?_ ?_
        rotate_left
        ·intro w'
         go_simp
         with_reducible rfl
        rotate_left
        ·simp only [Act.put,List.setIfInBounds_toArray,List.set_cons_zero,List.set_cons_succ,zk,zm]
         rfl
        refine zv (i := 6) (N := some 24) (v := ?_) (a' := ?_) #[true,true,true,true,false,true,true,false,false,false,false,false] rfl rfl (zn HT_.out (by kernel_rfl)) (fun _ _ _ h => h) (Or.inl ⟨by rfl,?_⟩) ?_ ?_
        rotate_left
        ·intro w'
         go_simp
         with_reducible rfl
        rotate_left
        ·simp only [Act.put,List.setIfInBounds_toArray,List.set_cons_zero,List.set_cons_succ,zk,zm]
         rfl
        refine zv (i := 7) (N := some 25) (v := ?_) (a' := ?_) #[true,true,true,true,false,true,true,true,false,false,false,false] rfl rfl (zn HT_.out (by kernel_rfl)) (fun _ _ _ h => h) (Or.inl ⟨by rfl,?_⟩) ?_ ?_
        rotate_left
        ·intro w'
         go_simp
         with_reducible rfl
        rotate_left
        ·simp only [Act.put,List.setIfInBounds_toArray,List.set_cons_zero,List.set_cons_succ,zk,zm]
         rfl
        refine zv (i := 8) (N := some 26) (v := ?_) (a' := ?_) #[true,true,true,true,false,true,true,true,true,false,false,false] rfl rfl (zn HT_.out (by kernel_rfl)) (fun _ _ _ h => h) (Or.inl ⟨by rfl,?_⟩) ?_ ?_
        rotate_left
        ·intro w'
         go_simp
         with_reducible rfl
        rotate_left
        ·simp only [Act.put,List.setIfInBounds_toArray,List.set_cons_zero,List.set_cons_succ,zk,zm]
         rfl
        refine take_ (i := 4) (N := some 22) (v := ?_) (a' := ?_) #[true,true,true,true,true,true,true,true,true,false,false,false] rfl rfl (zY HT_.out HW_.out (by kernel_rfl)) (fun _ _ _ h => h) (Or.inl ⟨by rfl,?_⟩) hHeld ?_ ?_
        rotate_left
        ·rintro w' ⟨s0,s1,s2,s3,s4,s5,s6,s7,s8,s9,s10,s11,s12,s13⟩
         go_simp
         with_reducible rfl
        rotate_left
        ·simp only [Act.put,List.setIfInBounds_toArray,List.set_cons_zero,List.set_cons_succ,zk,zm]
         rfl
        refine take_ (i := 9) (N := some 27) (v := ?_) (a' := ?_) #[true,true,true,true,true,true,true,true,true,true,false,false] rfl rfl (zY HT_.out HW_.out (by kernel_rfl)) (fun _ _ _ h => h) (Or.inl ⟨by rfl,?_⟩) hHeld ?_ ?_
        rotate_left
        ·rintro w' ⟨s0,s1,s2,s3,s4,s5,s6,s7,s8,s9,s10,s11,s12,s13⟩
         go_simp
         with_reducible rfl
        rotate_left
        ·simp only [Act.put,List.setIfInBounds_toArray,List.set_cons_zero,List.set_cons_succ,zk,zm]
         rfl
        refine zb0 (i := 10) (N := some 28) #[true,true,true,true,true,true,true,true,true,true,true,false] rfl rfl (zaY HT_.out (by kernel_rfl)) (by decide) (fun K hK => ?_)
        refine zbn Try.func28 (by kernel_rfl) rfl #[.agg #[.int .i64 ((zd l0 x5_1).f1.f0),.int .i64 ((zd l0 x5_1).f1.f1),.slice A179_3 ((zd l0 x5_1).f1.f2).length c179_3,.slice A179_4 ((zd l0 x5_1).f1.f3).length c179_4,.int .i64 ((zd l0 x5_1).f1.f4.f0),.int .i64 ((zd l0 x5_1).f1.f4.f1)],.agg #[.int .i64 ((zd l1 x5_1).f1.f0),.int .i64 ((zd l1 x5_1).f1.f1),.slice A180_3 ((zd l1 x5_1).f1.f2).length c180_3,.slice A180_4 ((zd l1 x5_1).f1.f3).length c180_4,.int .i64 ((zd l1 x5_1).f1.f4.f0),.int .i64 ((zd l1 x5_1).f1.f4.f1)]] (by rfl) rfl rfl hMq ?_
        with_reducible refine (za2.calls k1 ((zd l0 x5_1).f1.f0) ((zd l0 x5_1).f1.f1) _ _ ((zd l0 x5_1).f1.f2) _ _ ((zd l0 x5_1).f1.f3) ((zd l0 x5_1).f1.f4.f0) ((zd l0 x5_1).f1.f4.f1) ((zd l1 x5_1).f1.f0) ((zd l1 x5_1).f1.f1) _ _ ((zd l1 x5_1).f1.f2) _ _ ((zd l1 x5_1).f1.f3) ((zd l1 x5_1).f1.f4.f0) ((zd l1 x5_1).f1.f4.f1) false _ ?side1 ?side2 ?side3 ?side4 ?side5 ?side6 ?side7 ?side8 A7.out).mono ?_
        (case side1 => exact hKq (Kd.C_below HR179_3.out HB.out))
        (case side2 => exact HC179_3.out)
        (case side3 => exact hKq (Kd.C_below HR179_4.out HB.out))
        (case side4 => exact HC179_4.out)
        (case side5 => exact hKq (Kd.C_below HR180_3.out HB.out))
        (case side6 => exact HC180_3.out)
        (case side7 => exact hKq (Kd.C_below HR180_4.out HB.out))
        (case side8 => exact HC180_4.out)
        rintro e w17 ⟨rfl,hb⟩
        refine ⟨_,rfl,?_⟩
        have n0_ := za.mk (ze hBq hb)
        clear HB
        have HB := n0_
        clear n0_
        (try clear hb)
        (try clear hb2)
        (try clear hk)
        (try clear hi)
        refine hK.out _ _ ⟨((HB.out.cell (World.block_lt_of_cell? w _ hw179_0)).trans hw179_0),((HB.out.cell (World.block_lt_of_cell? w _ hw179_1)).trans hw179_1),((HB.out.cell (World.block_lt_of_cell? w _ hw179_2)).trans hw179_2),((HB.out.cell (World.block_lt_of_cell? w _ hw179_3)).trans hw179_3),((HB.out.cell (World.block_lt_of_cell? w _ hw179_4)).trans hw179_4),((HB.out.cell (World.block_lt_of_cell? w _ hw179_5)).trans hw179_5),((HB.out.cell (World.block_lt_of_cell? w _ hw179_6)).trans hw179_6),((HB.out.cell (World.block_lt_of_cell? w _ hw180_0)).trans hw180_0),((HB.out.cell (World.block_lt_of_cell? w _ hw180_1)).trans hw180_1),((HB.out.cell (World.block_lt_of_cell? w _ hw180_2)).trans hw180_2),((HB.out.cell (World.block_lt_of_cell? w _ hw180_3)).trans hw180_3),((HB.out.cell (World.block_lt_of_cell? w _ hw180_4)).trans hw180_4),((HB.out.cell (World.block_lt_of_cell? w _ hw180_5)).trans hw180_5),((HB.out.cell (World.block_lt_of_cell? w _ hw180_6)).trans hw180_6)⟩ (fun hHeld => ?_)
        clear hK K
        refine zbo (a' := ?_) ?_ ?_
        rotate_left
        ·show Act.put _ (some 28) _ = _
         simp only [Act.put,List.setIfInBounds_toArray,List.set_cons_zero,List.set_cons_succ,zk,zm]
         rfl
        refine zv (i := 11) (N := some 6) (v := ?_) (a' := ?_) #[true,true,true,true,true,true,true,true,true,true,true,true] rfl rfl (zn HT_.out (by kernel_rfl)) (fun _ _ _ h => h) (Or.inl ⟨by rfl,?_⟩) ?_ ?_
        rotate_left
        ·intro w'
         go_simp
         with_reducible rfl
        rotate_left
        ·simp only [Act.put,List.setIfInBounds_toArray,List.set_cons_zero,List.set_cons_succ,zk,zm]
         rfl
        refine zbF (zaR HT_.out (by kernel_rfl)) ?_
        try go_wp2
        have n0_ := za.mk (zq HB.out)
        clear HB
        have HB := n0_
        clear n0_
        refine zbD (n := 15) (S := fun w' => True) (ds := []) #[false,false,false,false,false,false,false,false,false,false,false,false,false,false,false] (by kernel_rfl) rfl rfl trivial (fun hHeld => ?_);refine zaL zr.tab7 zr.bits7 (fun HT_ HW_ => ?_)
        generalize w17.drew = w18 at HB hHeld ⊢
        refine zv (i := 0) (N := some 29) (v := ?_) (a' := ?_) #[true,false,false,false,false,false,false,false,false,false,false,false,false,false,false] rfl rfl (zn HT_.out (by kernel_rfl)) (fun _ _ _ h => h) (Or.inl ⟨by rfl,?_⟩) ?_ ?_
        rotate_left
        ·intro w'
         go_simp
         with_reducible rfl
        rotate_left
        ·simp only [Act.put,List.setIfInBounds_toArray,List.set_cons_zero,List.set_cons_succ,zk,zm]
         rfl
        refine zv (i := 1) (N := some 30) (v := ?_) (a' := ?_) #[true,true,false,false,false,false,false,false,false,false,false,false,false,false,false] rfl rfl (zn HT_.out (by kernel_rfl)) (fun _ _ _ h => h) (Or.inl ⟨by rfl,?_⟩) ?_ ?_
        rotate_left
        ·intro w'
         go_simp
         with_reducible rfl
        rotate_left
        ·simp only [Act.put,List.setIfInBounds_toArray,List.set_cons_zero,List.set_cons_succ,zk,zm]
         rfl
        refine zv (i := 2) (N := some 31) (v := ?_) (a' := ?_) #[true,true,true,false,false,false,false,false,false,false,false,false,false,false,false] rfl rfl (zn HT_.out (by kernel_rfl)) (fun _ _ _ h => h) (Or.inl ⟨by rfl,?_⟩) ?_ ?_
        rotate_left
        ·intro w'
         go_simp
         with_reducible rfl
        rotate_left
        ·simp only [Act.put,List.setIfInBounds_toArray,List.set_cons_zero,List.set_cons_succ,zk,zm]
         rfl
        refine zv (i := 3) (N := some 32) (v := undef) (a' := ?_) #[true,true,true,true,false,false,false,false,false,false,false,false,false,false,false] rfl rfl (zn HT_.out (by kernel_rfl)) (fun _ _ _ h => h) (Or.inr ⟨by rfl,rfl⟩) ?_ ?_
        rotate_left
        ·simp only [Act.put,List.setIfInBounds_toArray,List.set_cons_zero,List.set_cons_succ,zk,zm]
         rfl
        refine zv (i := 4) (N := some 33) (v := undef) (a' := ?_) #[true,true,true,true,true,false,false,false,false,false,false,false,false,false,false] rfl rfl (zn HT_.out (by kernel_rfl)) (fun _ _ _ h => h) (Or.inr ⟨by rfl,rfl⟩) ?_ ?_
        rotate_left
        ·simp only [Act.put,List.setIfInBounds_toArray,List.set_cons_zero,List.set_cons_succ,zk,zm]
         rfl
        refine zv (i := 5) (N := some 34) (v := undef) (a' := ?_) #[true,true,true,true,true,true,false,false,false,false,false,false,false,false,false] rfl rfl (zn HT_.out (by kernel_rfl)) (fun _ _ _ h => h) (Or.inr ⟨by rfl,rfl⟩) ?_ ?_
        rotate_left
        ·simp only [Act.put,List.setIfInBounds_toArray,List.set_cons_zero,List.set_cons_succ,zk,zm]
         rfl
        refine zv (i := 6) (N := some 35) (v := undef) (a' := ?_) #[true,true,true,true,true,true,true,false,false,false,false,false,false,false,false] rfl rfl (zn HT_.out (by kernel_rfl)) (fun _ _ _ h => h) (Or.inr ⟨by rfl,rfl⟩) ?_ ?_
        rotate_left
        ·simp only [Act.put,List.setIfInBounds_toArray,List.set_cons_zero,List.set_cons_succ,zk,zm]
         rfl
        refine zv (i := 7) (N := some 36) (v := undef) (a' := ?_) #[true,true,true,true,true,true,true,true,false,false,false,false,false,false,false] rfl rfl (zn HT_.out (by kernel_rfl)) (fun _ _ _ h => h) (Or.inr ⟨by rfl,rfl⟩) ?_ ?_
        rotate_left
        ·simp only [Act.put,List.setIfInBounds_toArray,List.set_cons_zero,List.set_cons_succ,zk,zm]
         rfl
        refine zv (i := 8) (N := some 37) (v := undef) (a' := ?_) #[true,true,true,true,true,true,true,true,true,false,false,false,false,false,false] rfl rfl (zn HT_.out (by kernel_rfl)) (fun _ _ _ h => h) (Or.inr ⟨by rfl,rfl⟩) ?_ ?_
        rotate_left
        ·simp only [Act.put,List.setIfInBounds_toArray,List.set_cons_zero,List.set_cons_succ,zk,zm]
         rfl
        refine zv (i := 9) (N := some 38) (v := undef) (a' := ?_) #[true,true,true,true,true,true,true,true,true,true,false,false,false,false,false] rfl rfl (zn HT_.out (by kernel_rfl)) (fun _ _ _ h => h) (Or.inr ⟨by rfl,rfl⟩) ?_ ?_
        rotate_left
        ·simp only [Act.put,List.setIfInBounds_toArray,List.set_cons_zero,List.set_cons_succ,zk,zm]
         rfl
        refine zv (i := 10) (N := some 39) (v := undef) (a' := ?_) #[true,true,true,true,true,true,true,true,true,true,true,false,false,false,false] rfl rfl (zn HT_.out (by kernel_rfl)) (fun _ _ _ h => h) (Or.inr ⟨by rfl,rfl⟩) ?_ ?_
        rotate_left
        ·simp only [Act.put,List.setIfInBounds_toArray,List.set_cons_zero,List.set_cons_succ,zk,zm]
         rfl
        refine zv (i := 11) (N := some 40) (v := undef) (a' := ?_) #[true,true,true,true,true,true,true,true,true,true,true,true,false,false,false] rfl rfl (zn HT_.out (by kernel_rfl)) (fun _ _ _ h => h) (Or.inr ⟨by rfl,rfl⟩) ?_ ?_
        rotate_left
        ·simp only [Act.put,List.setIfInBounds_toArray,List.set_cons_zero,List.set_cons_succ,zk,zm]
         rfl
        refine zv (i := 12) (N := some 41) (v := undef) (a' := ?_) #[true,true,true,true,true,true,true,true,true,true,true,true,true,false,false] rfl rfl (zn HT_.out (by kernel_rfl)) (fun _ _ _ h => h) (Or.inr ⟨by rfl,rfl⟩) ?_ ?_
        rotate_left
        ·simp only [Act.put,List.setIfInBounds_toArray,List.set_cons_zero,List.set_cons_succ,zk,zm]
         rfl
        refine zv (i := 13) (N := some 42) (v := undef) (a' := ?_) #[true,true,true,true,true,true,true,true,true,true,true,true,true,true,false] rfl rfl (zn HT_.out (by kernel_rfl)) (fun _ _ _ h => h) (Or.inr ⟨by rfl,rfl⟩) ?_ ?_
        rotate_left
        ·simp only [Act.put,List.setIfInBounds_toArray,List.set_cons_zero,List.set_cons_succ,zk,zm]
         rfl
        refine zv (i := 14) (N := some 43) (v := ?_) (a' := ?_) #[true,true,true,true,true,true,true,true,true,true,true,true,true,true,true] rfl rfl (zn HT_.out (by kernel_rfl)) (fun _ _ _ h => h) (Or.inl ⟨by rfl,?_⟩) ?_ ?_
        rotate_left
        ·intro w'
         go_simp
         with_reducible rfl
        rotate_left
        ·simp only [Act.put,List.setIfInBounds_toArray,List.set_cons_zero,List.set_cons_succ,zk,zm]
         rfl
        refine zbF (zaR HT_.out (by kernel_rfl)) ?_
        try go_wp2
        go_ret
        exact ⟨hHq,hBq⟩
      ·rw [if_neg c6] at H
       exact absurd H (by simp)
     ·rw [if_neg c5] at H
      exact absurd H (by simp)
    ·rw [if_neg c4] at H
     have c4b0 : decide (x5_1 < (l0.length : Int)) = false := decide_eq_false c4
     clear c4
     obtain rfl := Option.some.inj H
     go_wp2
     go_ret
     exact ⟨hHq,hBq⟩
 ·rw [if_neg c3] at H
  have c3b0 : ((l0.length : Int) == (l1.length : Int)) = false := beq_eq_false_iff_ne.mpr c3
  have c3b1 : ((l0.length : Int) != (l1.length : Int)) = true := bne_iff_ne.mpr c3
  have c3b2 : (l0.length == l1.length) = false := by first | simpa using c3 | (simp at c3 ⊢;omega)
  obtain rfl := Option.some.inj H
  go_enter Try.func14,Try.ntmps14
  go_wp2
  go_ret
  exact ⟨hHq,hBq⟩
end Go.Proofs.Ytklhjlaofkngcaa.Px