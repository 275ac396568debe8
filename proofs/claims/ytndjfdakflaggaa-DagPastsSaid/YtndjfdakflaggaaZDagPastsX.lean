/- Part 24 of 30 of the proof of the law DagPasts: what is proved is the statement at the end of the last part; its conditions are those of the given row. -/
import Derived.Test.YtndjfdakflaggaaZDagPastsK
namespace Go.Proofs.Ytndjfdakflaggaa.Px
open Go.RowKit Go.Proofs.YtndjfdakflaggaaW.PrintWords Go.Proofs.YtndjfdakflaggaaW.PrintLast Go.Proofs.YtndjfdakflaggaaW.PrintMore
attribute [local go_sem] zt zv zA zB zq zr zu zw
set_option linter.unusedVariables false
set_option linter.unusedSimpArgs false
def zk.l0 : Nat → List (S34) → List (S34) → Int → Option (Bool)
 | 0,_,_,_ => none
 | k + 1,x0,x1,x5 => if x5 < (x0.length : Int) then (if 0 ≤ x5 then (if x5 < (x1.length : Int) then ((zaI.f k ((zd x0 x5).f1.f0) ((zd x0 x5).f1.f1) ((zd x0 x5).f1.f2) ((zd x0 x5).f1.f3) ((zd x0 x5).f1.f4.f0) ((zd x0 x5).f1.f4.f1) ((zd x1 x5).f1.f0) ((zd x1 x5).f1.f1) ((zd x1 x5).f1.f2) ((zd x1 x5).f1.f3) ((zd x1 x5).f1.f4.f0) ((zd x1 x5).f1.f4.f1)).bind fun t264 => (if t264 = true then (if ((zd x0 x5).f0).toList = ((zd x1 x5).f0).toList then (zk.l0 k x0 x1 (wrap64 (x5 + 1))) else (some false)) else (some false))) else (none)) else (none)) else (some true)
def zk.f (k : Nat) (l0 : List (S34)) (l1 : List (S34)) : Option (Bool) := if (l0.length : Int) = (l1.length : Int) then (zk.l0 k l0 l1 0) else (some false)
def zk.T6 : Bool × List (List Nat × List Nat) := (true,[([],[]),([],[]),([0,1],[0,1]),([2],[2]),([3],[3]),([],[]),([],[]),([5,6],[5,6]),([7],[7]),([8],[8]),([4,9],[4,9]),([10,10,0,1,2,3,4,5,6,7,8,9,10],[10])])
def zk.B6 : List Nat := [0,0,3,7,15,0,0,96,224,480,1023,2047]
theorem zk.tab6 : zbI .any (zd6 Try.f10 6) = zk.T6 := by kernel_rfl
theorem zk.bits6 : zbw zk.T6.2 zk.B6 = true := by kernel_rfl
def zk.T7 : Bool × List (List Nat × List Nat) := (true,[([],[]),([0],[0]),([1],[1]),([2],[2]),([2],[2]),([3,4,2],[2,3,4]),([5,2],[2,5]),([6,2],[2,6]),([2],[2]),([2],[2]),([8,9,2],[2,8,9]),([10,2],[2,10]),([11,2],[2,11]),([7,12,2],[2,7,12]),([2,13],[2,13])])
def zk.B7 : List Nat := [0,1,3,7,7,31,63,127,7,7,775,1799,3847,8191,16383]
theorem zk.tab7 : zbI .any (zd6 Try.f10 7) = zk.T7 := by kernel_rfl
theorem zk.bits7 : zbw zk.T7.2 zk.B7 = true := by kernel_rfl
set_option maxHeartbeats 8000000 in
set_option maxRecDepth 100000 in
theorem zk.calls (k : Nat) (A0 : Option Addr) (c0 : Nat) (l0 : List (S34)) (A1 : Option Addr) (c1 : Nat) (l1 : List (S34)) (r : Bool) (w : World) (hr0 : Kd.C k34 w A0 l0.length l0) (hc0 : l0.length ≤ c0) (hr1 : Kd.C k34 w A1 l1.length l1) (hc1 : l1.length ≤ c1) (h : zk.f k l0 l1 = some r) :
  Calls Try.prog 10 #[.slice A0 l0.length c0,.slice A1 l1.length c1] w fun e w' => e = .returned (.bool r) ∧ Below w.heap.size w w' := by
 have hu32 := Try.underlying32
 have HR0 := za.mk hr0
 have HC0 := za.mk hc0
 clear hr0 hc0
 have HR1 := za.mk hr1
 have HC1 := za.mk hc1
 clear hr1 hc1
 have HB := za.mk (Below.refl w.heap.size w)
 have H : (if (l0.length : Int) = (l1.length : Int) then (zk.l0 k l0 l1 0) else (some false)) = some r := h
 clear h
 by_cases c3 : (l0.length : Int) = (l1.length : Int)
 ·rw [if_pos c3] at H
  have c3b0 : ((l0.length : Int) == (l1.length : Int)) = true := beq_iff_eq.mpr c3
  have c3b1 : ((l0.length : Int) != (l1.length : Int)) = false := bne_eq_false_iff_eq.mpr c3
  have c3b2 : (l0.length == l1.length) = true := by first | simpa using c3 | (simp at c3 ⊢;omega)
  clear c3
  have H' := za.mk H
  clear H
  go_enter Try.func10,Try.ntmps10
  go_wp2
  go_loopg [5] k (fun kq v5 w' => ∃ (x5_1 : Int),v5 = .int .i64 x5_1 ∧ za (zk.l0 kq l0 l1 x5_1 = some r) ∧ za (kq ≤ k) ∧ za (Below w.heap.size w w'))
  case atStart => exact ⟨(0),(hDq),H',⟨Nat.le_refl _⟩,⟨by repeat (first | (with_reducible first | exact HB.out | apply zi | apply zl | apply zx) | exact HB.out)⟩⟩
  case round =>
   clear H'
   try clear c1;try clear p2;try clear c3;try clear c3b0;try clear c3b1;try clear c3b2
   obtain ⟨x5_1,rfl,HA,HK1,HB⟩ := hrel
   cases gk with
   | zero => exact absurd HA.out (by simp [zk.l0])
   | succ k1 =>
    have H := HA.out
    clear HA
    simp only [zk.l0] at H
    by_cases c4 : x5_1 < (l0.length : Int)
    ·rw [if_pos c4] at H
     have c4b0 : decide (x5_1 < (l0.length : Int)) = true := decide_eq_true c4
     clear c4
     by_cases c5 : 0 ≤ x5_1
     ·rw [if_pos c5] at H
      have c5b0 : decide (0 ≤ x5_1) = true := decide_eq_true c5
      clear c5
      by_cases c6 : x5_1 < (l1.length : Int)
      ·rw [if_pos c6] at H
       have c6b0 : decide (x5_1 < (l1.length : Int)) = true := decide_eq_true c6
       clear c6
       replace H := Option.bind_eq_some_iff.mp H
       obtain ⟨t264,A70,H⟩ := H
       replace H : (if t264 = true then (if ((zd l0 x5_1).f0).toList = ((zd l1 x5_1).f0).toList then (zk.l0 k1 l0 l1 (wrap64 (x5_1 + 1))) else (some false)) else (some false)) = some r := H
       have A7 := za.mk A70
       clear A70
       by_cases c8 : t264 = true
       ·subst c8
        have H1 : (if ((zd l0 x5_1).f0).toList = ((zd l1 x5_1).f0).toList then (zk.l0 k1 l0 l1 (wrap64 (x5_1 + 1))) else (some false)) = some r := by rw [if_pos rfl] at H;exact H
        clear H
        have H := H1
        clear H1
        by_cases c9 : ((zd l0 x5_1).f0).toList = ((zd l1 x5_1).f0).toList
        ·rw [if_pos c9] at H
         have c9b0 : (((zd l0 x5_1).f0).toList == ((zd l1 x5_1).f0).toList) = true := beq_iff_eq.mpr c9
         have c9b1 : (((zd l0 x5_1).f0).toList != ((zd l1 x5_1).f0).toList) = false := bne_eq_false_iff_eq.mpr c9
         clear c9
         have H' := za.mk H
         clear H
         try go_wp2
         have n0_ := za.mk (zx HB.out)
         clear HB
         have HB := n0_
         clear n0_
         have p262 : 0 ≤ (x5_1 : Int) := hFq
         have q262 : x5_1 < (l0.length : Int) := hFq
         obtain ⟨ad262,A262_3,c262_3,A262_4,c262_4,e262,hx262_0,hx262_1,hx262_2,hx262_3,hx262_4,hx262_5,hx262_6,hl262_3,hi262_3,hl262_4,hi262_4⟩ := zai HR0.out x5_1 p262 q262
         have hw262_6 := hx262_6
         have hw262_5 := hx262_5
         have hw262_4 := hx262_4
         have hw262_3 := hx262_3
         have hw262_2 := hx262_2
         have hw262_1 := hx262_1
         have hw262_0 := hx262_0
         cases e262
         replace hx262_0 := (HB.out.cell (World.block_lt_of_cell? w _ hx262_0)).trans hx262_0
         replace hx262_1 := (HB.out.cell (World.block_lt_of_cell? w _ hx262_1)).trans hx262_1
         replace hx262_2 := (HB.out.cell (World.block_lt_of_cell? w _ hx262_2)).trans hx262_2
         replace hx262_3 := (HB.out.cell (World.block_lt_of_cell? w _ hx262_3)).trans hx262_3
         replace hx262_4 := (HB.out.cell (World.block_lt_of_cell? w _ hx262_4)).trans hx262_4
         replace hx262_5 := (HB.out.cell (World.block_lt_of_cell? w _ hx262_5)).trans hx262_5
         replace hx262_6 := (HB.out.cell (World.block_lt_of_cell? w _ hx262_6)).trans hx262_6
         have HR262_3 := za.mk hi262_3
         have HC262_3 := za.mk hl262_3
         clear hi262_3 hl262_3
         have HR262_4 := za.mk hi262_4
         have HC262_4 := za.mk hl262_4
         clear hi262_4 hl262_4
         replace p262 := eq_true p262
         replace q262 := eq_true q262
         have p263 : 0 ≤ (x5_1 : Int) := hFq
         have q263 : x5_1 < (l1.length : Int) := hFq
         obtain ⟨ad263,A263_3,c263_3,A263_4,c263_4,e263,hx263_0,hx263_1,hx263_2,hx263_3,hx263_4,hx263_5,hx263_6,hl263_3,hi263_3,hl263_4,hi263_4⟩ := zai HR1.out x5_1 p263 q263
         have hw263_6 := hx263_6
         have hw263_5 := hx263_5
         have hw263_4 := hx263_4
         have hw263_3 := hx263_3
         have hw263_2 := hx263_2
         have hw263_1 := hx263_1
         have hw263_0 := hx263_0
         cases e263
         replace hx263_0 := (HB.out.cell (World.block_lt_of_cell? w _ hx263_0)).trans hx263_0
         replace hx263_1 := (HB.out.cell (World.block_lt_of_cell? w _ hx263_1)).trans hx263_1
         replace hx263_2 := (HB.out.cell (World.block_lt_of_cell? w _ hx263_2)).trans hx263_2
         replace hx263_3 := (HB.out.cell (World.block_lt_of_cell? w _ hx263_3)).trans hx263_3
         replace hx263_4 := (HB.out.cell (World.block_lt_of_cell? w _ hx263_4)).trans hx263_4
         replace hx263_5 := (HB.out.cell (World.block_lt_of_cell? w _ hx263_5)).trans hx263_5
         replace hx263_6 := (HB.out.cell (World.block_lt_of_cell? w _ hx263_6)).trans hx263_6
         have HR263_3 := za.mk hi263_3
         have HC263_3 := za.mk hl263_3
         clear hi263_3 hl263_3
         have HR263_4 := za.mk hi263_4
         have HC263_4 := za.mk hl263_4
         clear hi263_4 hl263_4
         replace p263 := eq_true p263
         replace q263 := eq_true q263
         refine zbk (n := 12) (S := fun w' => w'.cell? (ad262.add ((x5_1).toNat * 7)) = some (.string ((zd l0 x5_1).f0)) ∧ w'.cell? ⟨(ad262.add ((x5_1).toNat * 7)).block,(ad262.add ((x5_1).toNat * 7)).off + 1,none⟩ = some (.int .i64 ((zd l0 x5_1).f1.f0)) ∧ w'.cell? ⟨(ad262.add ((x5_1).toNat * 7)).block,(ad262.add ((x5_1).toNat * 7)).off + 2,none⟩ = some (.int .i64 ((zd l0 x5_1).f1.f1)) ∧ w'.cell? ⟨(ad262.add ((x5_1).toNat * 7)).block,(ad262.add ((x5_1).toNat * 7)).off + 3,none⟩ = some (.slice A262_3 ((zd l0 x5_1).f1.f2).length c262_3) ∧ w'.cell? ⟨(ad262.add ((x5_1).toNat * 7)).block,(ad262.add ((x5_1).toNat * 7)).off + 4,none⟩ = some (.slice A262_4 ((zd l0 x5_1).f1.f3).length c262_4) ∧ w'.cell? ⟨(ad262.add ((x5_1).toNat * 7)).block,(ad262.add ((x5_1).toNat * 7)).off + 5,none⟩ = some (.int .i64 ((zd l0 x5_1).f1.f4.f0)) ∧ w'.cell? ⟨(ad262.add ((x5_1).toNat * 7)).block,(ad262.add ((x5_1).toNat * 7)).off + 6,none⟩ = some (.int .i64 ((zd l0 x5_1).f1.f4.f1)) ∧ w'.cell? (ad263.add ((x5_1).toNat * 7)) = some (.string ((zd l1 x5_1).f0)) ∧ w'.cell? ⟨(ad263.add ((x5_1).toNat * 7)).block,(ad263.add ((x5_1).toNat * 7)).off + 1,none⟩ = some (.int .i64 ((zd l1 x5_1).f1.f0)) ∧ w'.cell? ⟨(ad263.add ((x5_1).toNat * 7)).block,(ad263.add ((x5_1).toNat * 7)).off + 2,none⟩ = some (.int .i64 ((zd l1 x5_1).f1.f1)) ∧ w'.cell? ⟨(ad263.add ((x5_1).toNat * 7)).block,(ad263.add ((x5_1).toNat * 7)).off + 3,none⟩ = some (.slice A263_3 ((zd l1 x5_1).f1.f2).length c263_3) ∧ w'.cell? ⟨(ad263.add ((x5_1).toNat * 7)).block,(ad263.add ((x5_1).toNat * 7)).off + 4,none⟩ = some (.slice A263_4 ((zd l1 x5_1).f1.f3).length c263_4) ∧ w'.cell? ⟨(ad263.add ((x5_1).toNat * 7)).block,(ad263.add ((x5_1).toNat * 7)).off + 5,none⟩ = some (.int .i64 ((zd l1 x5_1).f1.f4.f0)) ∧ w'.cell? ⟨(ad263.add ((x5_1).toNat * 7)).block,(ad263.add ((x5_1).toNat * 7)).off + 6,none⟩ = some (.int .i64 ((zd l1 x5_1).f1.f4.f1))) (ds := []) (uQ 12 0) (by kernel_rfl) rfl rfl ⟨((HB.out.cell (World.block_lt_of_cell? w _ hw262_0)).trans hw262_0),((HB.out.cell (World.block_lt_of_cell? w _ hw262_1)).trans hw262_1),((HB.out.cell (World.block_lt_of_cell? w _ hw262_2)).trans hw262_2),((HB.out.cell (World.block_lt_of_cell? w _ hw262_3)).trans hw262_3),((HB.out.cell (World.block_lt_of_cell? w _ hw262_4)).trans hw262_4),((HB.out.cell (World.block_lt_of_cell? w _ hw262_5)).trans hw262_5),((HB.out.cell (World.block_lt_of_cell? w _ hw262_6)).trans hw262_6),((HB.out.cell (World.block_lt_of_cell? w _ hw263_0)).trans hw263_0),((HB.out.cell (World.block_lt_of_cell? w _ hw263_1)).trans hw263_1),((HB.out.cell (World.block_lt_of_cell? w _ hw263_2)).trans hw263_2),((HB.out.cell (World.block_lt_of_cell? w _ hw263_3)).trans hw263_3),((HB.out.cell (World.block_lt_of_cell? w _ hw263_4)).trans hw263_4),((HB.out.cell (World.block_lt_of_cell? w _ hw263_5)).trans hw263_5),((HB.out.cell (World.block_lt_of_cell? w _ hw263_6)).trans hw263_6)⟩ (fun hHeld => ?_);refine zaz zk.tab6 zk.bits6 (fun HT_ HW_ => ?_)
         generalize wr.drew = w10 at HB HR262_3 HR262_4 HR263_3 HR263_4 hx262_0 hx262_1 hx262_2 hx262_3 hx262_4 hx262_5 hx262_6 hx263_0 hx263_1 hx263_2 hx263_3 hx263_4 hx263_5 hx263_6 hHeld ⊢
         refine puq (i := 0) (N := some 18) HT_.out (uQ 12 1) ?_
         refine puq (i := 1) (N := some 19) HT_.out (uQ 12 2) ?_
         refine puq (i := 2) (N := some 20) HT_.out (uQ 12 3) ?_
         refine puq (i := 3) (N := some 21) HT_.out (uQ 12 4) ?_
         refine puq (i := 5) (N := some 23) HT_.out #[true,true,true,true,false,true,false,false,false,false,false,false] ?_
         refine puq (i := 6) (N := some 24) HT_.out #[true,true,true,true,false,true,true,false,false,false,false,false] ?_
         refine puq (i := 7) (N := some 25) HT_.out #[true,true,true,true,false,true,true,true,false,false,false,false] ?_
         refine puq (i := 8) (N := some 26) HT_.out #[true,true,true,true,false,true,true,true,true,false,false,false] ?_
         refine take_ (i := 4) (N := some 22) (uQ 12 9) rfl rfl (zI HT_.out HW_.out (by kernel_rfl)) (fun _ _ _ h => h) (Or.inl ⟨by rfl,by rintro w' ⟨s0,s1,s2,s3,s4,s5,s6,s7,s8,s9,s10,s11,s12,s13⟩;go_simp;with_reducible rfl⟩) hHeld hPq ?_
         refine take_ (i := 9) (N := some 27) (uQ 12 10) rfl rfl (zI HT_.out HW_.out (by kernel_rfl)) (fun _ _ _ h => h) (Or.inl ⟨by rfl,by rintro w' ⟨s0,s1,s2,s3,s4,s5,s6,s7,s8,s9,s10,s11,s12,s13⟩;go_simp;with_reducible rfl⟩) hHeld hPq ?_
         refine zb6 (i := 10) (N := some 28) (uQ 12 11) rfl rfl (zaO HT_.out (by kernel_rfl)) (by decide) (fun K hK => ?_)
         refine za8 Try.func25 (by kernel_rfl) rfl #[.agg #[.int .i64 ((zd l0 x5_1).f1.f0),.int .i64 ((zd l0 x5_1).f1.f1),.slice A262_3 ((zd l0 x5_1).f1.f2).length c262_3,.slice A262_4 ((zd l0 x5_1).f1.f3).length c262_4,.int .i64 ((zd l0 x5_1).f1.f4.f0),.int .i64 ((zd l0 x5_1).f1.f4.f1)],.agg #[.int .i64 ((zd l1 x5_1).f1.f0),.int .i64 ((zd l1 x5_1).f1.f1),.slice A263_3 ((zd l1 x5_1).f1.f2).length c263_3,.slice A263_4 ((zd l1 x5_1).f1.f3).length c263_4,.int .i64 ((zd l1 x5_1).f1.f4.f0),.int .i64 ((zd l1 x5_1).f1.f4.f1)]] (by rfl) rfl rfl hMq ?_
         with_reducible refine (zaI.calls k1 ((zd l0 x5_1).f1.f0) ((zd l0 x5_1).f1.f1) _ _ ((zd l0 x5_1).f1.f2) _ _ ((zd l0 x5_1).f1.f3) ((zd l0 x5_1).f1.f4.f0) ((zd l0 x5_1).f1.f4.f1) ((zd l1 x5_1).f1.f0) ((zd l1 x5_1).f1.f1) _ _ ((zd l1 x5_1).f1.f2) _ _ ((zd l1 x5_1).f1.f3) ((zd l1 x5_1).f1.f4.f0) ((zd l1 x5_1).f1.f4.f1) true _ ?side1 ?side2 ?side3 ?side4 ?side5 ?side6 ?side7 ?side8 A7.out).mono ?_
         (case side1 => exact hKq (Kd.C_below HR262_3.out HB.out))
         (case side2 => exact HC262_3.out)
         (case side3 => exact hKq (Kd.C_below HR262_4.out HB.out))
         (case side4 => exact HC262_4.out)
         (case side5 => exact hKq (Kd.C_below HR263_3.out HB.out))
         (case side6 => exact HC263_3.out)
         (case side7 => exact hKq (Kd.C_below HR263_4.out HB.out))
         (case side8 => exact HC263_4.out)
         rintro e w11 ⟨rfl,hb⟩
         refine ⟨_,rfl,?_⟩
         have n0_ := za.mk (zh hBq hb)
         clear HB
         have HB := n0_
         clear n0_
         (try clear hb)
         (try clear hb2)
         (try clear hk)
         (try clear hi)
         refine hK.out _ _ ⟨((HB.out.cell (World.block_lt_of_cell? w _ hw262_0)).trans hw262_0),((HB.out.cell (World.block_lt_of_cell? w _ hw262_1)).trans hw262_1),((HB.out.cell (World.block_lt_of_cell? w _ hw262_2)).trans hw262_2),((HB.out.cell (World.block_lt_of_cell? w _ hw262_3)).trans hw262_3),((HB.out.cell (World.block_lt_of_cell? w _ hw262_4)).trans hw262_4),((HB.out.cell (World.block_lt_of_cell? w _ hw262_5)).trans hw262_5),((HB.out.cell (World.block_lt_of_cell? w _ hw262_6)).trans hw262_6),((HB.out.cell (World.block_lt_of_cell? w _ hw263_0)).trans hw263_0),((HB.out.cell (World.block_lt_of_cell? w _ hw263_1)).trans hw263_1),((HB.out.cell (World.block_lt_of_cell? w _ hw263_2)).trans hw263_2),((HB.out.cell (World.block_lt_of_cell? w _ hw263_3)).trans hw263_3),((HB.out.cell (World.block_lt_of_cell? w _ hw263_4)).trans hw263_4),((HB.out.cell (World.block_lt_of_cell? w _ hw263_5)).trans hw263_5),((HB.out.cell (World.block_lt_of_cell? w _ hw263_6)).trans hw263_6)⟩ (fun hHeld => ?_)
         clear hK K
         refine za9 (a' := ?_) ?_ ?_
         rotate_left
         ·show Act.put _ (some 28) _ = _
          simp only [Act.put,List.setIfInBounds_toArray,List.set_cons_zero,List.set_cons_succ,z8,zaa]
          rfl
         refine puq (i := 11) (N := some 6) HT_.out (uQ 12 12) ?_
         refine zbl (zaF HT_.out (by kernel_rfl)) ?_
         try go_wp2
         have n0_ := za.mk (zx HB.out)
         clear HB
         have HB := n0_
         clear n0_
         have p265 : 0 ≤ (x5_1 : Int) := hFq
         have q265 : x5_1 < (l0.length : Int) := hFq
         obtain ⟨ad265,A265_3,c265_3,A265_4,c265_4,e265,hx265_0,hx265_1,hx265_2,hx265_3,hx265_4,hx265_5,hx265_6,hl265_3,hi265_3,hl265_4,hi265_4⟩ := zai HR0.out x5_1 p265 q265
         have hw265_6 := hx265_6
         have hw265_5 := hx265_5
         have hw265_4 := hx265_4
         have hw265_3 := hx265_3
         have hw265_2 := hx265_2
         have hw265_1 := hx265_1
         have hw265_0 := hx265_0
         obtain rfl : ad262 = ad265 := (by injection e265)
         replace hx265_0 := (HB.out.cell (World.block_lt_of_cell? w _ hx265_0)).trans hx265_0
         replace hx265_1 := (HB.out.cell (World.block_lt_of_cell? w _ hx265_1)).trans hx265_1
         replace hx265_2 := (HB.out.cell (World.block_lt_of_cell? w _ hx265_2)).trans hx265_2
         replace hx265_3 := (HB.out.cell (World.block_lt_of_cell? w _ hx265_3)).trans hx265_3
         replace hx265_4 := (HB.out.cell (World.block_lt_of_cell? w _ hx265_4)).trans hx265_4
         replace hx265_5 := (HB.out.cell (World.block_lt_of_cell? w _ hx265_5)).trans hx265_5
         replace hx265_6 := (HB.out.cell (World.block_lt_of_cell? w _ hx265_6)).trans hx265_6
         have HR265_3 := za.mk hi265_3
         have HC265_3 := za.mk hl265_3
         clear hi265_3 hl265_3
         have HR265_4 := za.mk hi265_4
         have HC265_4 := za.mk hl265_4
         clear hi265_4 hl265_4
         replace p265 := eq_true p265
         replace q265 := eq_true q265
         have p266 : 0 ≤ (x5_1 : Int) := hFq
         have q266 : x5_1 < (l1.length : Int) := hFq
         obtain ⟨ad266,A266_3,c266_3,A266_4,c266_4,e266,hx266_0,hx266_1,hx266_2,hx266_3,hx266_4,hx266_5,hx266_6,hl266_3,hi266_3,hl266_4,hi266_4⟩ := zai HR1.out x5_1 p266 q266
         have hw266_6 := hx266_6
         have hw266_5 := hx266_5
         have hw266_4 := hx266_4
         have hw266_3 := hx266_3
         have hw266_2 := hx266_2
         have hw266_1 := hx266_1
         have hw266_0 := hx266_0
         obtain rfl : ad263 = ad266 := (by injection e266)
         replace hx266_0 := (HB.out.cell (World.block_lt_of_cell? w _ hx266_0)).trans hx266_0
         replace hx266_1 := (HB.out.cell (World.block_lt_of_cell? w _ hx266_1)).trans hx266_1
         replace hx266_2 := (HB.out.cell (World.block_lt_of_cell? w _ hx266_2)).trans hx266_2
         replace hx266_3 := (HB.out.cell (World.block_lt_of_cell? w _ hx266_3)).trans hx266_3
         replace hx266_4 := (HB.out.cell (World.block_lt_of_cell? w _ hx266_4)).trans hx266_4
         replace hx266_5 := (HB.out.cell (World.block_lt_of_cell? w _ hx266_5)).trans hx266_5
         replace hx266_6 := (HB.out.cell (World.block_lt_of_cell? w _ hx266_6)).trans hx266_6
         have HR266_3 := za.mk hi266_3
         have HC266_3 := za.mk hl266_3
         clear hi266_3 hl266_3
         have HR266_4 := za.mk hi266_4
         have HC266_4 := za.mk hl266_4
         clear hi266_4 hl266_4
         replace p266 := eq_true p266
         replace q266 := eq_true q266
         refine zbk (n := 15) (S := fun w' => w'.cell? (ad262.add ((x5_1).toNat * 7)) = some (.string ((zd l0 x5_1).f0)) ∧ w'.cell? ⟨(ad262.add ((x5_1).toNat * 7)).block,(ad262.add ((x5_1).toNat * 7)).off + 1,none⟩ = some (.int .i64 ((zd l0 x5_1).f1.f0)) ∧ w'.cell? ⟨(ad262.add ((x5_1).toNat * 7)).block,(ad262.add ((x5_1).toNat * 7)).off + 2,none⟩ = some (.int .i64 ((zd l0 x5_1).f1.f1)) ∧ w'.cell? ⟨(ad262.add ((x5_1).toNat * 7)).block,(ad262.add ((x5_1).toNat * 7)).off + 3,none⟩ = some (.slice A265_3 ((zd l0 x5_1).f1.f2).length c265_3) ∧ w'.cell? ⟨(ad262.add ((x5_1).toNat * 7)).block,(ad262.add ((x5_1).toNat * 7)).off + 4,none⟩ = some (.slice A265_4 ((zd l0 x5_1).f1.f3).length c265_4) ∧ w'.cell? ⟨(ad262.add ((x5_1).toNat * 7)).block,(ad262.add ((x5_1).toNat * 7)).off + 5,none⟩ = some (.int .i64 ((zd l0 x5_1).f1.f4.f0)) ∧ w'.cell? ⟨(ad262.add ((x5_1).toNat * 7)).block,(ad262.add ((x5_1).toNat * 7)).off + 6,none⟩ = some (.int .i64 ((zd l0 x5_1).f1.f4.f1)) ∧ w'.cell? (ad263.add ((x5_1).toNat * 7)) = some (.string ((zd l1 x5_1).f0)) ∧ w'.cell? ⟨(ad263.add ((x5_1).toNat * 7)).block,(ad263.add ((x5_1).toNat * 7)).off + 1,none⟩ = some (.int .i64 ((zd l1 x5_1).f1.f0)) ∧ w'.cell? ⟨(ad263.add ((x5_1).toNat * 7)).block,(ad263.add ((x5_1).toNat * 7)).off + 2,none⟩ = some (.int .i64 ((zd l1 x5_1).f1.f1)) ∧ w'.cell? ⟨(ad263.add ((x5_1).toNat * 7)).block,(ad263.add ((x5_1).toNat * 7)).off + 3,none⟩ = some (.slice A266_3 ((zd l1 x5_1).f1.f2).length c266_3) ∧ w'.cell? ⟨(ad263.add ((x5_1).toNat * 7)).block,(ad263.add ((x5_1).toNat * 7)).off + 4,none⟩ = some (.slice A266_4 ((zd l1 x5_1).f1.f3).length c266_4) ∧ w'.cell? ⟨(ad263.add ((x5_1).toNat * 7)).block,(ad263.add ((x5_1).toNat * 7)).off + 5,none⟩ = some (.int .i64 ((zd l1 x5_1).f1.f4.f0)) ∧ w'.cell? ⟨(ad263.add ((x5_1).toNat * 7)).block,(ad263.add ((x5_1).toNat * 7)).off + 6,none⟩ = some (.int .i64 ((zd l1 x5_1).f1.f4.f1))) (ds := []) (uQ 15 0) (by kernel_rfl) rfl rfl ⟨((HB.out.cell (World.block_lt_of_cell? w _ hw265_0)).trans hw265_0),((HB.out.cell (World.block_lt_of_cell? w _ hw265_1)).trans hw265_1),((HB.out.cell (World.block_lt_of_cell? w _ hw265_2)).trans hw265_2),((HB.out.cell (World.block_lt_of_cell? w _ hw265_3)).trans hw265_3),((HB.out.cell (World.block_lt_of_cell? w _ hw265_4)).trans hw265_4),((HB.out.cell (World.block_lt_of_cell? w _ hw265_5)).trans hw265_5),((HB.out.cell (World.block_lt_of_cell? w _ hw265_6)).trans hw265_6),((HB.out.cell (World.block_lt_of_cell? w _ hw266_0)).trans hw266_0),((HB.out.cell (World.block_lt_of_cell? w _ hw266_1)).trans hw266_1),((HB.out.cell (World.block_lt_of_cell? w _ hw266_2)).trans hw266_2),((HB.out.cell (World.block_lt_of_cell? w _ hw266_3)).trans hw266_3),((HB.out.cell (World.block_lt_of_cell? w _ hw266_4)).trans hw266_4),((HB.out.cell (World.block_lt_of_cell? w _ hw266_5)).trans hw266_5),((HB.out.cell (World.block_lt_of_cell? w _ hw266_6)).trans hw266_6)⟩ (fun hHeld => ?_);refine zaz zk.tab7 zk.bits7 (fun HT_ HW_ => ?_)
         generalize w11.drew = w12 at HB HR265_3 HR265_4 HR266_3 HR266_4 hx265_0 hx265_1 hx265_2 hx265_3 hx265_4 hx265_5 hx265_6 hx266_0 hx266_1 hx266_2 hx266_3 hx266_4 hx266_5 hx266_6 hHeld ⊢
         refine puq (i := 0) (N := some 29) HT_.out (uQ 15 1) ?_
         refine puq (i := 1) (N := some 30) HT_.out (uQ 15 2) ?_
         refine puq (i := 2) (N := some 31) HT_.out (uQ 15 3) ?_
         refine puq (i := 3) (N := some 32) HT_.out (uQ 15 4) ?_
         refine puq (i := 4) (N := some 33) HT_.out (uQ 15 5) ?_
         refine puq (i := 5) (N := some 34) HT_.out (uQ 15 6) ?_
         refine puq (i := 6) (N := some 35) HT_.out (uQ 15 7) ?_
         refine puq (i := 8) (N := some 37) HT_.out #[true,true,true,true,true,true,true,false,true,false,false,false,false,false,false] ?_
         refine puq (i := 9) (N := some 38) HT_.out #[true,true,true,true,true,true,true,false,true,true,false,false,false,false,false] ?_
         refine puq (i := 10) (N := some 39) HT_.out #[true,true,true,true,true,true,true,false,true,true,true,false,false,false,false] ?_
         refine puq (i := 11) (N := some 40) HT_.out #[true,true,true,true,true,true,true,false,true,true,true,true,false,false,false] ?_
         refine take_ (i := 7) (N := some 36) (uQ 15 12) rfl rfl (zI HT_.out HW_.out (by kernel_rfl)) (fun _ _ _ h => h) (Or.inl ⟨by rfl,by rintro w' ⟨s0,s1,s2,s3,s4,s5,s6,s7,s8,s9,s10,s11,s12,s13⟩;go_simp;with_reducible rfl⟩) hHeld hPq ?_
         refine take_ (i := 12) (N := some 41) (uQ 15 13) rfl rfl (zI HT_.out HW_.out (by kernel_rfl)) (fun _ _ _ h => h) (Or.inl ⟨by rfl,by rintro w' ⟨s0,s1,s2,s3,s4,s5,s6,s7,s8,s9,s10,s11,s12,s13⟩;go_simp;with_reducible rfl⟩) hHeld hPq ?_
         refine puq (i := 13) (N := some 42) HT_.out (uQ 15 14) ?_
         refine puq (i := 14) (N := some 43) HT_.out (uQ 15 15) ?_
         refine zbl (zaF HT_.out (by kernel_rfl)) ?_
         try go_wp2
         go_roundg k1
         case measure => have := HK1.out;omega
         case rel => exact ⟨(wrap64 (x5_1 + 1)),(hDq),H',⟨by have := HK1.out;omega⟩,⟨by repeat (first | (with_reducible first | exact HB.out | apply zi | apply zl | apply zx) | exact HB.out)⟩⟩
        ·rw [if_neg c9] at H
         have c9b0 : (((zd l0 x5_1).f0).toList == ((zd l1 x5_1).f0).toList) = false := beq_eq_false_iff_ne.mpr c9
         have c9b1 : (((zd l0 x5_1).f0).toList != ((zd l1 x5_1).f0).toList) = true := bne_iff_ne.mpr c9
         obtain rfl := Option.some.inj H
         try go_wp2
         have n0_ := za.mk (zx HB.out)
         clear HB
         have HB := n0_
         clear n0_
         have p262 : 0 ≤ (x5_1 : Int) := hFq
         have q262 : x5_1 < (l0.length : Int) := hFq
         obtain ⟨ad262,A262_3,c262_3,A262_4,c262_4,e262,hx262_0,hx262_1,hx262_2,hx262_3,hx262_4,hx262_5,hx262_6,hl262_3,hi262_3,hl262_4,hi262_4⟩ := zai HR0.out x5_1 p262 q262
         have hw262_6 := hx262_6
         have hw262_5 := hx262_5
         have hw262_4 := hx262_4
         have hw262_3 := hx262_3
         have hw262_2 := hx262_2
         have hw262_1 := hx262_1
         have hw262_0 := hx262_0
         cases e262
         replace hx262_0 := (HB.out.cell (World.block_lt_of_cell? w _ hx262_0)).trans hx262_0
         replace hx262_1 := (HB.out.cell (World.block_lt_of_cell? w _ hx262_1)).trans hx262_1
         replace hx262_2 := (HB.out.cell (World.block_lt_of_cell? w _ hx262_2)).trans hx262_2
         replace hx262_3 := (HB.out.cell (World.block_lt_of_cell? w _ hx262_3)).trans hx262_3
         replace hx262_4 := (HB.out.cell (World.block_lt_of_cell? w _ hx262_4)).trans hx262_4
         replace hx262_5 := (HB.out.cell (World.block_lt_of_cell? w _ hx262_5)).trans hx262_5
         replace hx262_6 := (HB.out.cell (World.block_lt_of_cell? w _ hx262_6)).trans hx262_6
         have HR262_3 := za.mk hi262_3
         have HC262_3 := za.mk hl262_3
         clear hi262_3 hl262_3
         have HR262_4 := za.mk hi262_4
         have HC262_4 := za.mk hl262_4
         clear hi262_4 hl262_4
         replace p262 := eq_true p262
         replace q262 := eq_true q262
         have p263 : 0 ≤ (x5_1 : Int) := hFq
         have q263 : x5_1 < (l1.length : Int) := hFq
         obtain ⟨ad263,A263_3,c263_3,A263_4,c263_4,e263,hx263_0,hx263_1,hx263_2,hx263_3,hx263_4,hx263_5,hx263_6,hl263_3,hi263_3,hl263_4,hi263_4⟩ := zai HR1.out x5_1 p263 q263
         have hw263_6 := hx263_6
         have hw263_5 := hx263_5
         have hw263_4 := hx263_4
         have hw263_3 := hx263_3
         have hw263_2 := hx263_2
         have hw263_1 := hx263_1
         have hw263_0 := hx263_0
         cases e263
         replace hx263_0 := (HB.out.cell (World.block_lt_of_cell? w _ hx263_0)).trans hx263_0
         replace hx263_1 := (HB.out.cell (World.block_lt_of_cell? w _ hx263_1)).trans hx263_1
         replace hx263_2 := (HB.out.cell (World.block_lt_of_cell? w _ hx263_2)).trans hx263_2
         replace hx263_3 := (HB.out.cell (World.block_lt_of_cell? w _ hx263_3)).trans hx263_3
         replace hx263_4 := (HB.out.cell (World.block_lt_of_cell? w _ hx263_4)).trans hx263_4
         replace hx263_5 := (HB.out.cell (World.block_lt_of_cell? w _ hx263_5)).trans hx263_5
         replace hx263_6 := (HB.out.cell (World.block_lt_of_cell? w _ hx263_6)).trans hx263_6
         have HR263_3 := za.mk hi263_3
         have HC263_3 := za.mk hl263_3
         clear hi263_3 hl263_3
         have HR263_4 := za.mk hi263_4
         have HC263_4 := za.mk hl263_4
         clear hi263_4 hl263_4
         replace p263 := eq_true p263
         replace q263 := eq_true q263
         refine zbk (n := 12) (S := fun w' => w'.cell? (ad262.add ((x5_1).toNat * 7)) = some (.string ((zd l0 x5_1).f0)) ∧ w'.cell? ⟨(ad262.add ((x5_1).toNat * 7)).block,(ad262.add ((x5_1).toNat * 7)).off + 1,none⟩ = some (.int .i64 ((zd l0 x5_1).f1.f0)) ∧ w'.cell? ⟨(ad262.add ((x5_1).toNat * 7)).block,(ad262.add ((x5_1).toNat * 7)).off + 2,none⟩ = some (.int .i64 ((zd l0 x5_1).f1.f1)) ∧ w'.cell? ⟨(ad262.add ((x5_1).toNat * 7)).block,(ad262.add ((x5_1).toNat * 7)).off + 3,none⟩ = some (.slice A262_3 ((zd l0 x5_1).f1.f2).length c262_3) ∧ w'.cell? ⟨(ad262.add ((x5_1).toNat * 7)).block,(ad262.add ((x5_1).toNat * 7)).off + 4,none⟩ = some (.slice A262_4 ((zd l0 x5_1).f1.f3).length c262_4) ∧ w'.cell? ⟨(ad262.add ((x5_1).toNat * 7)).block,(ad262.add ((x5_1).toNat * 7)).off + 5,none⟩ = some (.int .i64 ((zd l0 x5_1).f1.f4.f0)) ∧ w'.cell? ⟨(ad262.add ((x5_1).toNat * 7)).block,(ad262.add ((x5_1).toNat * 7)).off + 6,none⟩ = some (.int .i64 ((zd l0 x5_1).f1.f4.f1)) ∧ w'.cell? (ad263.add ((x5_1).toNat * 7)) = some (.string ((zd l1 x5_1).f0)) ∧ w'.cell? ⟨(ad263.add ((x5_1).toNat * 7)).block,(ad263.add ((x5_1).toNat * 7)).off + 1,none⟩ = some (.int .i64 ((zd l1 x5_1).f1.f0)) ∧ w'.cell? ⟨(ad263.add ((x5_1).toNat * 7)).block,(ad263.add ((x5_1).toNat * 7)).off + 2,none⟩ = some (.int .i64 ((zd l1 x5_1).f1.f1)) ∧ w'.cell? ⟨(ad263.add ((x5_1).toNat * 7)).block,(ad263.add ((x5_1).toNat * 7)).off + 3,none⟩ = some (.slice A263_3 ((zd l1 x5_1).f1.f2).length c263_3) ∧ w'.cell? ⟨(ad263.add ((x5_1).toNat * 7)).block,(ad263.add ((x5_1).toNat * 7)).off + 4,none⟩ = some (.slice A263_4 ((zd l1 x5_1).f1.f3).length c263_4) ∧ w'.cell? ⟨(ad263.add ((x5_1).toNat * 7)).block,(ad263.add ((x5_1).toNat * 7)).off + 5,none⟩ = some (.int .i64 ((zd l1 x5_1).f1.f4.f0)) ∧ w'.cell? ⟨(ad263.add ((x5_1).toNat * 7)).block,(ad263.add ((x5_1).toNat * 7)).off + 6,none⟩ = some (.int .i64 ((zd l1 x5_1).f1.f4.f1))) (ds := []) (uQ 12 0) (by kernel_rfl) rfl rfl ⟨((HB.out.cell (World.block_lt_of_cell? w _ hw262_0)).trans hw262_0),((HB.out.cell (World.block_lt_of_cell? w _ hw262_1)).trans hw262_1),((HB.out.cell (World.block_lt_of_cell? w _ hw262_2)).trans hw262_2),((HB.out.cell (World.block_lt_of_cell? w _ hw262_3)).trans hw262_3),((HB.out.cell (World.block_lt_of_cell? w _ hw262_4)).trans hw262_4),((HB.out.cell (World.block_lt_of_cell? w _ hw262_5)).trans hw262_5),((HB.out.cell (World.block_lt_of_cell? w _ hw262_6)).trans hw262_6),((HB.out.cell (World.block_lt_of_cell? w _ hw263_0)).trans hw263_0),((HB.out.cell (World.block_lt_of_cell? w _ hw263_1)).trans hw263_1),((HB.out.cell (World.block_lt_of_cell? w _ hw263_2)).trans hw263_2),((HB.out.cell (World.block_lt_of_cell? w _ hw263_3)).trans hw263_3),((HB.out.cell (World.block_lt_of_cell? w _ hw263_4)).trans hw263_4),((HB.out.cell (World.block_lt_of_cell? w _ hw263_5)).trans hw263_5),((HB.out.cell (World.block_lt_of_cell? w _ hw263_6)).trans hw263_6)⟩ (fun hHeld => ?_);refine zaz zk.tab6 zk.bits6 (fun HT_ HW_ => ?_)
         generalize wr.drew = w13 at HB HR262_3 HR262_4 HR263_3 HR263_4 hx262_0 hx262_1 hx262_2 hx262_3 hx262_4 hx262_5 hx262_6 hx263_0 hx263_1 hx263_2 hx263_3 hx263_4 hx263_5 hx263_6 hHeld ⊢
         refine puq (i := 0) (N := some 18) HT_.out (uQ 12 1) ?_
         refine puq (i := 1) (N := some 19) HT_.out (uQ 12 2) ?_
         refine puq (i := 2) (N := some 20) HT_.out (uQ 12 3) ?_
         refine puq (i := 3) (N := some 21) HT_.out (uQ 12 4) ?_
         refine puq (i := 5) (N := some 23) HT_.out #[true,true,true,true,false,true,false,false,false,false,false,false] ?_
         refine puq (i := 6) (N := some 24) HT_.out #[true,true,true,true,false,true,true,false,false,false,false,false] ?_
         refine puq (i := 7) (N := some 25) HT_.out #[true,true,true,true,false,true,true,true,false,false,false,false] ?_
         refine puq (i := 8) (N := some 26) HT_.out #[true,true,true,true,false,true,true,true,true,false,false,false] ?_
         refine take_ (i := 4) (N := some 22) (uQ 12 9) rfl rfl (zI HT_.out HW_.out (by kernel_rfl)) (fun _ _ _ h => h) (Or.inl ⟨by rfl,by rintro w' ⟨s0,s1,s2,s3,s4,s5,s6,s7,s8,s9,s10,s11,s12,s13⟩;go_simp;with_reducible rfl⟩) hHeld hPq ?_
         refine take_ (i := 9) (N := some 27) (uQ 12 10) rfl rfl (zI HT_.out HW_.out (by kernel_rfl)) (fun _ _ _ h => h) (Or.inl ⟨by rfl,by rintro w' ⟨s0,s1,s2,s3,s4,s5,s6,s7,s8,s9,s10,s11,s12,s13⟩;go_simp;with_reducible rfl⟩) hHeld hPq ?_
         refine zb6 (i := 10) (N := some 28) (uQ 12 11) rfl rfl (zaO HT_.out (by kernel_rfl)) (by decide) (fun K hK => ?_)
         refine za8 Try.func25 (by kernel_rfl) rfl #[.agg #[.int .i64 ((zd l0 x5_1).f1.f0),.int .i64 ((zd l0 x5_1).f1.f1),.slice A262_3 ((zd l0 x5_1).f1.f2).length c262_3,.slice A262_4 ((zd l0 x5_1).f1.f3).length c262_4,.int .i64 ((zd l0 x5_1).f1.f4.f0),.int .i64 ((zd l0 x5_1).f1.f4.f1)],.agg #[.int .i64 ((zd l1 x5_1).f1.f0),.int .i64 ((zd l1 x5_1).f1.f1),.slice A263_3 ((zd l1 x5_1).f1.f2).length c263_3,.slice A263_4 ((zd l1 x5_1).f1.f3).length c263_4,.int .i64 ((zd l1 x5_1).f1.f4.f0),.int .i64 ((zd l1 x5_1).f1.f4.f1)]] (by rfl) rfl rfl hMq ?_
         with_reducible refine (zaI.calls k1 ((zd l0 x5_1).f1.f0) ((zd l0 x5_1).f1.f1) _ _ ((zd l0 x5_1).f1.f2) _ _ ((zd l0 x5_1).f1.f3) ((zd l0 x5_1).f1.f4.f0) ((zd l0 x5_1).f1.f4.f1) ((zd l1 x5_1).f1.f0) ((zd l1 x5_1).f1.f1) _ _ ((zd l1 x5_1).f1.f2) _ _ ((zd l1 x5_1).f1.f3) ((zd l1 x5_1).f1.f4.f0) ((zd l1 x5_1).f1.f4.f1) true _ ?side1 ?side2 ?side3 ?side4 ?side5 ?side6 ?side7 ?side8 A7.out).mono ?_
         (case side1 => exact hKq (Kd.C_below HR262_3.out HB.out))
         (case side2 => exact HC262_3.out)
         (case side3 => exact hKq (Kd.C_below HR262_4.out HB.out))
         (case side4 => exact HC262_4.out)
         (case side5 => exact hKq (Kd.C_below HR263_3.out HB.out))
         (case side6 => exact HC263_3.out)
         (case side7 => exact hKq (Kd.C_below HR263_4.out HB.out))
         (case side8 => exact HC263_4.out)
         rintro e w14 ⟨rfl,hb⟩
         refine ⟨_,rfl,?_⟩
         have n0_ := za.mk (zh hBq hb)
         clear HB
         have HB := n0_
         clear n0_
         (try clear hb)
         (try clear hb2)
         (try clear hk)
         (try clear hi)
         refine hK.out _ _ ⟨((HB.out.cell (World.block_lt_of_cell? w _ hw262_0)).trans hw262_0),((HB.out.cell (World.block_lt_of_cell? w _ hw262_1)).trans hw262_1),((HB.out.cell (World.block_lt_of_cell? w _ hw262_2)).trans hw262_2),((HB.out.cell (World.block_lt_of_cell? w _ hw262_3)).trans hw262_3),((HB.out.cell (World.block_lt_of_cell? w _ hw262_4)).trans hw262_4),((HB.out.cell (World.block_lt_of_cell? w _ hw262_5)).trans hw262_5),((HB.out.cell (World.block_lt_of_cell? w _ hw262_6)).trans hw262_6),((HB.out.cell (World.block_lt_of_cell? w _ hw263_0)).trans hw263_0),((HB.out.cell (World.block_lt_of_cell? w _ hw263_1)).trans hw263_1),((HB.out.cell (World.block_lt_of_cell? w _ hw263_2)).trans hw263_2),((HB.out.cell (World.block_lt_of_cell? w _ hw263_3)).trans hw263_3),((HB.out.cell (World.block_lt_of_cell? w _ hw263_4)).trans hw263_4),((HB.out.cell (World.block_lt_of_cell? w _ hw263_5)).trans hw263_5),((HB.out.cell (World.block_lt_of_cell? w _ hw263_6)).trans hw263_6)⟩ (fun hHeld => ?_)
         clear hK K
         refine za9 (a' := ?_) ?_ ?_
         rotate_left
         ·show Act.put _ (some 28) _ = _
          simp only [Act.put,List.setIfInBounds_toArray,List.set_cons_zero,List.set_cons_succ,z8,zaa]
          rfl
         refine puq (i := 11) (N := some 6) HT_.out (uQ 12 12) ?_
         refine zbl (zaF HT_.out (by kernel_rfl)) ?_
         try go_wp2
         have n0_ := za.mk (zx HB.out)
         clear HB
         have HB := n0_
         clear n0_
         have p265 : 0 ≤ (x5_1 : Int) := hFq
         have q265 : x5_1 < (l0.length : Int) := hFq
         obtain ⟨ad265,A265_3,c265_3,A265_4,c265_4,e265,hx265_0,hx265_1,hx265_2,hx265_3,hx265_4,hx265_5,hx265_6,hl265_3,hi265_3,hl265_4,hi265_4⟩ := zai HR0.out x5_1 p265 q265
         have hw265_6 := hx265_6
         have hw265_5 := hx265_5
         have hw265_4 := hx265_4
         have hw265_3 := hx265_3
         have hw265_2 := hx265_2
         have hw265_1 := hx265_1
         have hw265_0 := hx265_0
         obtain rfl : ad262 = ad265 := (by injection e265)
         replace hx265_0 := (HB.out.cell (World.block_lt_of_cell? w _ hx265_0)).trans hx265_0
         replace hx265_1 := (HB.out.cell (World.block_lt_of_cell? w _ hx265_1)).trans hx265_1
         replace hx265_2 := (HB.out.cell (World.block_lt_of_cell? w _ hx265_2)).trans hx265_2
         replace hx265_3 := (HB.out.cell (World.block_lt_of_cell? w _ hx265_3)).trans hx265_3
         replace hx265_4 := (HB.out.cell (World.block_lt_of_cell? w _ hx265_4)).trans hx265_4
         replace hx265_5 := (HB.out.cell (World.block_lt_of_cell? w _ hx265_5)).trans hx265_5
         replace hx265_6 := (HB.out.cell (World.block_lt_of_cell? w _ hx265_6)).trans hx265_6
         have HR265_3 := za.mk hi265_3
         have HC265_3 := za.mk hl265_3
         clear hi265_3 hl265_3
         have HR265_4 := za.mk hi265_4
         have HC265_4 := za.mk hl265_4
         clear hi265_4 hl265_4
         replace p265 := eq_true p265
         replace q265 := eq_true q265
         have p266 : 0 ≤ (x5_1 : Int) := hFq
         have q266 : x5_1 < (l1.length : Int) := hFq
         obtain ⟨ad266,A266_3,c266_3,A266_4,c266_4,e266,hx266_0,hx266_1,hx266_2,hx266_3,hx266_4,hx266_5,hx266_6,hl266_3,hi266_3,hl266_4,hi266_4⟩ := zai HR1.out x5_1 p266 q266
         have hw266_6 := hx266_6
         have hw266_5 := hx266_5
         have hw266_4 := hx266_4
         have hw266_3 := hx266_3
         have hw266_2 := hx266_2
         have hw266_1 := hx266_1
         have hw266_0 := hx266_0
         obtain rfl : ad263 = ad266 := (by injection e266)
         replace hx266_0 := (HB.out.cell (World.block_lt_of_cell? w _ hx266_0)).trans hx266_0
         replace hx266_1 := (HB.out.cell (World.block_lt_of_cell? w _ hx266_1)).trans hx266_1
         replace hx266_2 := (HB.out.cell (World.block_lt_of_cell? w _ hx266_2)).trans hx266_2
         replace hx266_3 := (HB.out.cell (World.block_lt_of_cell? w _ hx266_3)).trans hx266_3
         replace hx266_4 := (HB.out.cell (World.block_lt_of_cell? w _ hx266_4)).trans hx266_4
         replace hx266_5 := (HB.out.cell (World.block_lt_of_cell? w _ hx266_5)).trans hx266_5
         replace hx266_6 := (HB.out.cell (World.block_lt_of_cell? w _ hx266_6)).trans hx266_6
         have HR266_3 := za.mk hi266_3
         have HC266_3 := za.mk hl266_3
         clear hi266_3 hl266_3
         have HR266_4 := za.mk hi266_4
         have HC266_4 := za.mk hl266_4
         clear hi266_4 hl266_4
         replace p266 := eq_true p266
         replace q266 := eq_true q266
         refine zbk (n := 15) (S := fun w' => w'.cell? (ad262.add ((x5_1).toNat * 7)) = some (.string ((zd l0 x5_1).f0)) ∧ w'.cell? ⟨(ad262.add ((x5_1).toNat * 7)).block,(ad262.add ((x5_1).toNat * 7)).off + 1,none⟩ = some (.int .i64 ((zd l0 x5_1).f1.f0)) ∧ w'.cell? ⟨(ad262.add ((x5_1).toNat * 7)).block,(ad262.add ((x5_1).toNat * 7)).off + 2,none⟩ = some (.int .i64 ((zd l0 x5_1).f1.f1)) ∧ w'.cell? ⟨(ad262.add ((x5_1).toNat * 7)).block,(ad262.add ((x5_1).toNat * 7)).off + 3,none⟩ = some (.slice A265_3 ((zd l0 x5_1).f1.f2).length c265_3) ∧ w'.cell? ⟨(ad262.add ((x5_1).toNat * 7)).block,(ad262.add ((x5_1).toNat * 7)).off + 4,none⟩ = some (.slice A265_4 ((zd l0 x5_1).f1.f3).length c265_4) ∧ w'.cell? ⟨(ad262.add ((x5_1).toNat * 7)).block,(ad262.add ((x5_1).toNat * 7)).off + 5,none⟩ = some (.int .i64 ((zd l0 x5_1).f1.f4.f0)) ∧ w'.cell? ⟨(ad262.add ((x5_1).toNat * 7)).block,(ad262.add ((x5_1).toNat * 7)).off + 6,none⟩ = some (.int .i64 ((zd l0 x5_1).f1.f4.f1)) ∧ w'.cell? (ad263.add ((x5_1).toNat * 7)) = some (.string ((zd l1 x5_1).f0)) ∧ w'.cell? ⟨(ad263.add ((x5_1).toNat * 7)).block,(ad263.add ((x5_1).toNat * 7)).off + 1,none⟩ = some (.int .i64 ((zd l1 x5_1).f1.f0)) ∧ w'.cell? ⟨(ad263.add ((x5_1).toNat * 7)).block,(ad263.add ((x5_1).toNat * 7)).off + 2,none⟩ = some (.int .i64 ((zd l1 x5_1).f1.f1)) ∧ w'.cell? ⟨(ad263.add ((x5_1).toNat * 7)).block,(ad263.add ((x5_1).toNat * 7)).off + 3,none⟩ = some (.slice A266_3 ((zd l1 x5_1).f1.f2).length c266_3) ∧ w'.cell? ⟨(ad263.add ((x5_1).toNat * 7)).block,(ad263.add ((x5_1).toNat * 7)).off + 4,none⟩ = some (.slice A266_4 ((zd l1 x5_1).f1.f3).length c266_4) ∧ w'.cell? ⟨(ad263.add ((x5_1).toNat * 7)).block,(ad263.add ((x5_1).toNat * 7)).off + 5,none⟩ = some (.int .i64 ((zd l1 x5_1).f1.f4.f0)) ∧ w'.cell? ⟨(ad263.add ((x5_1).toNat * 7)).block,(ad263.add ((x5_1).toNat * 7)).off + 6,none⟩ = some (.int .i64 ((zd l1 x5_1).f1.f4.f1))) (ds := []) (uQ 15 0) (by kernel_rfl) rfl rfl ⟨((HB.out.cell (World.block_lt_of_cell? w _ hw265_0)).trans hw265_0),((HB.out.cell (World.block_lt_of_cell? w _ hw265_1)).trans hw265_1),((HB.out.cell (World.block_lt_of_cell? w _ hw265_2)).trans hw265_2),((HB.out.cell (World.block_lt_of_cell? w _ hw265_3)).trans hw265_3),((HB.out.cell (World.block_lt_of_cell? w _ hw265_4)).trans hw265_4),((HB.out.cell (World.block_lt_of_cell? w _ hw265_5)).trans hw265_5),((HB.out.cell (World.block_lt_of_cell? w _ hw265_6)).trans hw265_6),((HB.out.cell (World.block_lt_of_cell? w _ hw266_0)).trans hw266_0),((HB.out.cell (World.block_lt_of_cell? w _ hw266_1)).trans hw266_1),((HB.out.cell (World.block_lt_of_cell? w _ hw266_2)).trans hw266_2),((HB.out.cell (World.block_lt_of_cell? w _ hw266_3)).trans hw266_3),((HB.out.cell (World.block_lt_of_cell? w _ hw266_4)).trans hw266_4),((HB.out.cell (World.block_lt_of_cell? w _ hw266_5)).trans hw266_5),((HB.out.cell (World.block_lt_of_cell? w _ hw266_6)).trans hw266_6)⟩ (fun hHeld => ?_);refine zaz zk.tab7 zk.bits7 (fun HT_ HW_ => ?_)
         generalize w14.drew = w15 at HB HR265_3 HR265_4 HR266_3 HR266_4 hx265_0 hx265_1 hx265_2 hx265_3 hx265_4 hx265_5 hx265_6 hx266_0 hx266_1 hx266_2 hx266_3 hx266_4 hx266_5 hx266_6 hHeld ⊢
         refine puq (i := 0) (N := some 29) HT_.out (uQ 15 1) ?_
         refine puq (i := 1) (N := some 30) HT_.out (uQ 15 2) ?_
         refine puq (i := 2) (N := some 31) HT_.out (uQ 15 3) ?_
         refine puq (i := 3) (N := some 32) HT_.out (uQ 15 4) ?_
         refine puq (i := 4) (N := some 33) HT_.out (uQ 15 5) ?_
         refine puq (i := 5) (N := some 34) HT_.out (uQ 15 6) ?_
         refine puq (i := 6) (N := some 35) HT_.out (uQ 15 7) ?_
         refine puq (i := 8) (N := some 37) HT_.out #[true,true,true,true,true,true,true,false,true,false,false,false,false,false,false] ?_
         refine puq (i := 9) (N := some 38) HT_.out #[true,true,true,true,true,true,true,false,true,true,false,false,false,false,false] ?_
         refine puq (i := 10) (N := some 39) HT_.out #[true,true,true,true,true,true,true,false,true,true,true,false,false,false,false] ?_
         refine puq (i := 11) (N := some 40) HT_.out #[true,true,true,true,true,true,true,false,true,true,true,true,false,false,false] ?_
         refine take_ (i := 7) (N := some 36) (uQ 15 12) rfl rfl (zI HT_.out HW_.out (by kernel_rfl)) (fun _ _ _ h => h) (Or.inl ⟨by rfl,by rintro w' ⟨s0,s1,s2,s3,s4,s5,s6,s7,s8,s9,s10,s11,s12,s13⟩;go_simp;with_reducible rfl⟩) hHeld hPq ?_
         refine take_ (i := 12) (N := some 41) (uQ 15 13) rfl rfl (zI HT_.out HW_.out (by kernel_rfl)) (fun _ _ _ h => h) (Or.inl ⟨by rfl,by rintro w' ⟨s0,s1,s2,s3,s4,s5,s6,s7,s8,s9,s10,s11,s12,s13⟩;go_simp;with_reducible rfl⟩) hHeld hPq ?_
         refine puq (i := 13) (N := some 42) HT_.out (uQ 15 14) ?_
         refine puq (i := 14) (N := some 43) HT_.out (uQ 15 15) ?_
         refine zbl (zaF HT_.out (by kernel_rfl)) ?_
         try go_wp2
         go_ret
         exact ⟨hHq,hBq⟩
       ·replace c8 := Bool.eq_false_iff.mpr c8
        subst c8
        have H1 : (some false) = some r := by rw [if_neg (show ¬ (false = true) by decide)] at H;exact H
        clear H
        have H := H1
        clear H1
        obtain rfl := Option.some.inj H
        try go_wp2
        have n0_ := za.mk (zx HB.out)
        clear HB
        have HB := n0_
        clear n0_
        have p262 : 0 ≤ (x5_1 : Int) := hFq
        have q262 : x5_1 < (l0.length : Int) := hFq
        obtain ⟨ad262,A262_3,c262_3,A262_4,c262_4,e262,hx262_0,hx262_1,hx262_2,hx262_3,hx262_4,hx262_5,hx262_6,hl262_3,hi262_3,hl262_4,hi262_4⟩ := zai HR0.out x5_1 p262 q262
        have hw262_6 := hx262_6
        have hw262_5 := hx262_5
        have hw262_4 := hx262_4
        have hw262_3 := hx262_3
        have hw262_2 := hx262_2
        have hw262_1 := hx262_1
        have hw262_0 := hx262_0
        cases e262
        replace hx262_0 := (HB.out.cell (World.block_lt_of_cell? w _ hx262_0)).trans hx262_0
        replace hx262_1 := (HB.out.cell (World.block_lt_of_cell? w _ hx262_1)).trans hx262_1
        replace hx262_2 := (HB.out.cell (World.block_lt_of_cell? w _ hx262_2)).trans hx262_2
        replace hx262_3 := (HB.out.cell (World.block_lt_of_cell? w _ hx262_3)).trans hx262_3
        replace hx262_4 := (HB.out.cell (World.block_lt_of_cell? w _ hx262_4)).trans hx262_4
        replace hx262_5 := (HB.out.cell (World.block_lt_of_cell? w _ hx262_5)).trans hx262_5
        replace hx262_6 := (HB.out.cell (World.block_lt_of_cell? w _ hx262_6)).trans hx262_6
        have HR262_3 := za.mk hi262_3
        have HC262_3 := za.mk hl262_3
        clear hi262_3 hl262_3
        have HR262_4 := za.mk hi262_4
        have HC262_4 := za.mk hl262_4
        clear hi262_4 hl262_4
        replace p262 := eq_true p262
        replace q262 := eq_true q262
        have p263 : 0 ≤ (x5_1 : Int) := hFq
        have q263 : x5_1 < (l1.length : Int) := hFq
        obtain ⟨ad263,A263_3,c263_3,A263_4,c263_4,e263,hx263_0,hx263_1,hx263_2,hx263_3,hx263_4,hx263_5,hx263_6,hl263_3,hi263_3,hl263_4,hi263_4⟩ := zai HR1.out x5_1 p263 q263
        have hw263_6 := hx263_6
        have hw263_5 := hx263_5
        have hw263_4 := hx263_4
        have hw263_3 := hx263_3
        have hw263_2 := hx263_2
        have hw263_1 := hx263_1
        have hw263_0 := hx263_0
        cases e263
        replace hx263_0 := (HB.out.cell (World.block_lt_of_cell? w _ hx263_0)).trans hx263_0
        replace hx263_1 := (HB.out.cell (World.block_lt_of_cell? w _ hx263_1)).trans hx263_1
        replace hx263_2 := (HB.out.cell (World.block_lt_of_cell? w _ hx263_2)).trans hx263_2
        replace hx263_3 := (HB.out.cell (World.block_lt_of_cell? w _ hx263_3)).trans hx263_3
        replace hx263_4 := (HB.out.cell (World.block_lt_of_cell? w _ hx263_4)).trans hx263_4
        replace hx263_5 := (HB.out.cell (World.block_lt_of_cell? w _ hx263_5)).trans hx263_5
        replace hx263_6 := (HB.out.cell (World.block_lt_of_cell? w _ hx263_6)).trans hx263_6
        have HR263_3 := za.mk hi263_3
        have HC263_3 := za.mk hl263_3
        clear hi263_3 hl263_3
        have HR263_4 := za.mk hi263_4
        have HC263_4 := za.mk hl263_4
        clear hi263_4 hl263_4
        replace p263 := eq_true p263
        replace q263 := eq_true q263
        refine zbk (n := 12) (S := fun w' => w'.cell? (ad262.add ((x5_1).toNat * 7)) = some (.string ((zd l0 x5_1).f0)) ∧ w'.cell? ⟨(ad262.add ((x5_1).toNat * 7)).block,(ad262.add ((x5_1).toNat * 7)).off + 1,none⟩ = some (.int .i64 ((zd l0 x5_1).f1.f0)) ∧ w'.cell? ⟨(ad262.add ((x5_1).toNat * 7)).block,(ad262.add ((x5_1).toNat * 7)).off + 2,none⟩ = some (.int .i64 ((zd l0 x5_1).f1.f1)) ∧ w'.cell? ⟨(ad262.add ((x5_1).toNat * 7)).block,(ad262.add ((x5_1).toNat * 7)).off + 3,none⟩ = some (.slice A262_3 ((zd l0 x5_1).f1.f2).length c262_3) ∧ w'.cell? ⟨(ad262.add ((x5_1).toNat * 7)).block,(ad262.add ((x5_1).toNat * 7)).off + 4,none⟩ = some (.slice A262_4 ((zd l0 x5_1).f1.f3).length c262_4) ∧ w'.cell? ⟨(ad262.add ((x5_1).toNat * 7)).block,(ad262.add ((x5_1).toNat * 7)).off + 5,none⟩ = some (.int .i64 ((zd l0 x5_1).f1.f4.f0)) ∧ w'.cell? ⟨(ad262.add ((x5_1).toNat * 7)).block,(ad262.add ((x5_1).toNat * 7)).off + 6,none⟩ = some (.int .i64 ((zd l0 x5_1).f1.f4.f1)) ∧ w'.cell? (ad263.add ((x5_1).toNat * 7)) = some (.string ((zd l1 x5_1).f0)) ∧ w'.cell? ⟨(ad263.add ((x5_1).toNat * 7)).block,(ad263.add ((x5_1).toNat * 7)).off + 1,none⟩ = some (.int .i64 ((zd l1 x5_1).f1.f0)) ∧ w'.cell? ⟨(ad263.add ((x5_1).toNat * 7)).block,(ad263.add ((x5_1).toNat * 7)).off + 2,none⟩ = some (.int .i64 ((zd l1 x5_1).f1.f1)) ∧ w'.cell? ⟨(ad263.add ((x5_1).toNat * 7)).block,(ad263.add ((x5_1).toNat * 7)).off + 3,none⟩ = some (.slice A263_3 ((zd l1 x5_1).f1.f2).length c263_3) ∧ w'.cell? ⟨(ad263.add ((x5_1).toNat * 7)).block,(ad263.add ((x5_1).toNat * 7)).off + 4,none⟩ = some (.slice A263_4 ((zd l1 x5_1).f1.f3).length c263_4) ∧ w'.cell? ⟨(ad263.add ((x5_1).toNat * 7)).block,(ad263.add ((x5_1).toNat * 7)).off + 5,none⟩ = some (.int .i64 ((zd l1 x5_1).f1.f4.f0)) ∧ w'.cell? ⟨(ad263.add ((x5_1).toNat * 7)).block,(ad263.add ((x5_1).toNat * 7)).off + 6,none⟩ = some (.int .i64 ((zd l1 x5_1).f1.f4.f1))) (ds := []) (uQ 12 0) (by kernel_rfl) rfl rfl ⟨((HB.out.cell (World.block_lt_of_cell? w _ hw262_0)).trans hw262_0),((HB.out.cell (World.block_lt_of_cell? w _ hw262_1)).trans hw262_1),((HB.out.cell (World.block_lt_of_cell? w _ hw262_2)).trans hw262_2),((HB.out.cell (World.block_lt_of_cell? w _ hw262_3)).trans hw262_3),((HB.out.cell (World.block_lt_of_cell? w _ hw262_4)).trans hw262_4),((HB.out.cell (World.block_lt_of_cell? w _ hw262_5)).trans hw262_5),((HB.out.cell (World.block_lt_of_cell? w _ hw262_6)).trans hw262_6),((HB.out.cell (World.block_lt_of_cell? w _ hw263_0)).trans hw263_0),((HB.out.cell (World.block_lt_of_cell? w _ hw263_1)).trans hw263_1),((HB.out.cell (World.block_lt_of_cell? w _ hw263_2)).trans hw263_2),((HB.out.cell (World.block_lt_of_cell? w _ hw263_3)).trans hw263_3),((HB.out.cell (World.block_lt_of_cell? w _ hw263_4)).trans hw263_4),((HB.out.cell (World.block_lt_of_cell? w _ hw263_5)).trans hw263_5),((HB.out.cell (World.block_lt_of_cell? w _ hw263_6)).trans hw263_6)⟩ (fun hHeld => ?_);refine zaz zk.tab6 zk.bits6 (fun HT_ HW_ => ?_)
        generalize wr.drew = w16 at HB HR262_3 HR262_4 HR263_3 HR263_4 hx262_0 hx262_1 hx262_2 hx262_3 hx262_4 hx262_5 hx262_6 hx263_0 hx263_1 hx263_2 hx263_3 hx263_4 hx263_5 hx263_6 hHeld ⊢
        refine puq (i := 0) (N := some 18) HT_.out (uQ 12 1) ?_
        refine puq (i := 1) (N := some 19) HT_.out (uQ 12 2) ?_
        refine puq (i := 2) (N := some 20) HT_.out (uQ 12 3) ?_
        refine puq (i := 3) (N := some 21) HT_.out (uQ 12 4) ?_
        refine puq (i := 5) (N := some 23) HT_.out #[true,true,true,true,false,true,false,false,false,false,false,false] ?_
        refine puq (i := 6) (N := some 24) HT_.out #[true,true,true,true,false,true,true,false,false,false,false,false] ?_
        refine puq (i := 7) (N := some 25) HT_.out #[true,true,true,true,false,true,true,true,false,false,false,false] ?_
        refine puq (i := 8) (N := some 26) HT_.out #[true,true,true,true,false,true,true,true,true,false,false,false] ?_
        refine take_ (i := 4) (N := some 22) (uQ 12 9) rfl rfl (zI HT_.out HW_.out (by kernel_rfl)) (fun _ _ _ h => h) (Or.inl ⟨by rfl,by rintro w' ⟨s0,s1,s2,s3,s4,s5,s6,s7,s8,s9,s10,s11,s12,s13⟩;go_simp;with_reducible rfl⟩) hHeld hPq ?_
        refine take_ (i := 9) (N := some 27) (uQ 12 10) rfl rfl (zI HT_.out HW_.out (by kernel_rfl)) (fun _ _ _ h => h) (Or.inl ⟨by rfl,by rintro w' ⟨s0,s1,s2,s3,s4,s5,s6,s7,s8,s9,s10,s11,s12,s13⟩;go_simp;with_reducible rfl⟩) hHeld hPq ?_
        refine zb6 (i := 10) (N := some 28) (uQ 12 11) rfl rfl (zaO HT_.out (by kernel_rfl)) (by decide) (fun K hK => ?_)
        refine za8 Try.func25 (by kernel_rfl) rfl #[.agg #[.int .i64 ((zd l0 x5_1).f1.f0),.int .i64 ((zd l0 x5_1).f1.f1),.slice A262_3 ((zd l0 x5_1).f1.f2).length c262_3,.slice A262_4 ((zd l0 x5_1).f1.f3).length c262_4,.int .i64 ((zd l0 x5_1).f1.f4.f0),.int .i64 ((zd l0 x5_1).f1.f4.f1)],.agg #[.int .i64 ((zd l1 x5_1).f1.f0),.int .i64 ((zd l1 x5_1).f1.f1),.slice A263_3 ((zd l1 x5_1).f1.f2).length c263_3,.slice A263_4 ((zd l1 x5_1).f1.f3).length c263_4,.int .i64 ((zd l1 x5_1).f1.f4.f0),.int .i64 ((zd l1 x5_1).f1.f4.f1)]] (by rfl) rfl rfl hMq ?_
        with_reducible refine (zaI.calls k1 ((zd l0 x5_1).f1.f0) ((zd l0 x5_1).f1.f1) _ _ ((zd l0 x5_1).f1.f2) _ _ ((zd l0 x5_1).f1.f3) ((zd l0 x5_1).f1.f4.f0) ((zd l0 x5_1).f1.f4.f1) ((zd l1 x5_1).f1.f0) ((zd l1 x5_1).f1.f1) _ _ ((zd l1 x5_1).f1.f2) _ _ ((zd l1 x5_1).f1.f3) ((zd l1 x5_1).f1.f4.f0) ((zd l1 x5_1).f1.f4.f1) false _ ?side1 ?side2 ?side3 ?side4 ?side5 ?side6 ?side7 ?side8 A7.out).mono ?_
        (case side1 => exact hKq (Kd.C_below HR262_3.out HB.out))
        (case side2 => exact HC262_3.out)
        (case side3 => exact hKq (Kd.C_below HR262_4.out HB.out))
        (case side4 => exact HC262_4.out)
        (case side5 => exact hKq (Kd.C_below HR263_3.out HB.out))
        (case side6 => exact HC263_3.out)
        (case side7 => exact hKq (Kd.C_below HR263_4.out HB.out))
        (case side8 => exact HC263_4.out)
        rintro e w17 ⟨rfl,hb⟩
        refine ⟨_,rfl,?_⟩
        have n0_ := za.mk (zh hBq hb)
        clear HB
        have HB := n0_
        clear n0_
        (try clear hb)
        (try clear hb2)
        (try clear hk)
        (try clear hi)
        refine hK.out _ _ ⟨((HB.out.cell (World.block_lt_of_cell? w _ hw262_0)).trans hw262_0),((HB.out.cell (World.block_lt_of_cell? w _ hw262_1)).trans hw262_1),((HB.out.cell (World.block_lt_of_cell? w _ hw262_2)).trans hw262_2),((HB.out.cell (World.block_lt_of_cell? w _ hw262_3)).trans hw262_3),((HB.out.cell (World.block_lt_of_cell? w _ hw262_4)).trans hw262_4),((HB.out.cell (World.block_lt_of_cell? w _ hw262_5)).trans hw262_5),((HB.out.cell (World.block_lt_of_cell? w _ hw262_6)).trans hw262_6),((HB.out.cell (World.block_lt_of_cell? w _ hw263_0)).trans hw263_0),((HB.out.cell (World.block_lt_of_cell? w _ hw263_1)).trans hw263_1),((HB.out.cell (World.block_lt_of_cell? w _ hw263_2)).trans hw263_2),((HB.out.cell (World.block_lt_of_cell? w _ hw263_3)).trans hw263_3),((HB.out.cell (World.block_lt_of_cell? w _ hw263_4)).trans hw263_4),((HB.out.cell (World.block_lt_of_cell? w _ hw263_5)).trans hw263_5),((HB.out.cell (World.block_lt_of_cell? w _ hw263_6)).trans hw263_6)⟩ (fun hHeld => ?_)
        clear hK K
        refine za9 (a' := ?_) ?_ ?_
        rotate_left
        ·show Act.put _ (some 28) _ = _
         simp only [Act.put,List.setIfInBounds_toArray,List.set_cons_zero,List.set_cons_succ,z8,zaa]
         rfl
        refine puq (i := 11) (N := some 6) HT_.out (uQ 12 12) ?_
        refine zbl (zaF HT_.out (by kernel_rfl)) ?_
        try go_wp2
        have n0_ := za.mk (zx HB.out)
        clear HB
        have HB := n0_
        clear n0_
        refine zbk (n := 15) (S := fun w' => True) (ds := []) (uQ 15 0) (by kernel_rfl) rfl rfl trivial (fun hHeld => ?_);refine zaz zk.tab7 zk.bits7 (fun HT_ HW_ => ?_)
        generalize w17.drew = w18 at HB hHeld ⊢
        refine puq (i := 0) (N := some 29) HT_.out (uQ 15 1) ?_
        refine puq (i := 1) (N := some 30) HT_.out (uQ 15 2) ?_
        refine puq (i := 2) (N := some 31) HT_.out (uQ 15 3) ?_
        refine zaR (i := 3) (N := some 32) (v := undef) (a' := ?_) (uQ 15 4) rfl rfl (zat HT_.out (by kernel_rfl)) (fun _ _ _ h => h) (Or.inr ⟨by rfl,rfl⟩) ?_ ?_
        rotate_left
        ·simp only [Act.put,List.setIfInBounds_toArray,List.set_cons_zero,List.set_cons_succ,z8,zaa]
         rfl
        refine zaR (i := 4) (N := some 33) (v := undef) (a' := ?_) (uQ 15 5) rfl rfl (zat HT_.out (by kernel_rfl)) (fun _ _ _ h => h) (Or.inr ⟨by rfl,rfl⟩) ?_ ?_
        rotate_left
        ·simp only [Act.put,List.setIfInBounds_toArray,List.set_cons_zero,List.set_cons_succ,z8,zaa]
         rfl
        refine zaR (i := 5) (N := some 34) (v := undef) (a' := ?_) (uQ 15 6) rfl rfl (zat HT_.out (by kernel_rfl)) (fun _ _ _ h => h) (Or.inr ⟨by rfl,rfl⟩) ?_ ?_
        rotate_left
        ·simp only [Act.put,List.setIfInBounds_toArray,List.set_cons_zero,List.set_cons_succ,z8,zaa]
         rfl
        refine zaR (i := 6) (N := some 35) (v := undef) (a' := ?_) (uQ 15 7) rfl rfl (zat HT_.out (by kernel_rfl)) (fun _ _ _ h => h) (Or.inr ⟨by rfl,rfl⟩) ?_ ?_
        rotate_left
        ·simp only [Act.put,List.setIfInBounds_toArray,List.set_cons_zero,List.set_cons_succ,z8,zaa]
         rfl
        refine zaR (i := 7) (N := some 36) (v := undef) (a' := ?_) (uQ 15 8) rfl rfl (zat HT_.out (by kernel_rfl)) (fun _ _ _ h => h) (Or.inr ⟨by rfl,rfl⟩) ?_ ?_
        rotate_left
        ·simp only [Act.put,List.setIfInBounds_toArray,List.set_cons_zero,List.set_cons_succ,z8,zaa]
         rfl
        refine zaR (i := 8) (N := some 37) (v := undef) (a' := ?_) (uQ 15 9) rfl rfl (zat HT_.out (by kernel_rfl)) (fun _ _ _ h => h) (Or.inr ⟨by rfl,rfl⟩) ?_ ?_
        rotate_left
        ·simp only [Act.put,List.setIfInBounds_toArray,List.set_cons_zero,List.set_cons_succ,z8,zaa]
         rfl
        refine zaR (i := 9) (N := some 38) (v := undef) (a' := ?_) (uQ 15 10) rfl rfl (zat HT_.out (by kernel_rfl)) (fun _ _ _ h => h) (Or.inr ⟨by rfl,rfl⟩) ?_ ?_
        rotate_left
        ·simp only [Act.put,List.setIfInBounds_toArray,List.set_cons_zero,List.set_cons_succ,z8,zaa]
         rfl
        refine zaR (i := 10) (N := some 39) (v := undef) (a' := ?_) (uQ 15 11) rfl rfl (zat HT_.out (by kernel_rfl)) (fun _ _ _ h => h) (Or.inr ⟨by rfl,rfl⟩) ?_ ?_
        rotate_left
        ·simp only [Act.put,List.setIfInBounds_toArray,List.set_cons_zero,List.set_cons_succ,z8,zaa]
         rfl
        refine zaR (i := 11) (N := some 40) (v := undef) (a' := ?_) (uQ 15 12) rfl rfl (zat HT_.out (by kernel_rfl)) (fun _ _ _ h => h) (Or.inr ⟨by rfl,rfl⟩) ?_ ?_
        rotate_left
        ·simp only [Act.put,List.setIfInBounds_toArray,List.set_cons_zero,List.set_cons_succ,z8,zaa]
         rfl
        refine zaR (i := 12) (N := some 41) (v := undef) (a' := ?_) (uQ 15 13) rfl rfl (zat HT_.out (by kernel_rfl)) (fun _ _ _ h => h) (Or.inr ⟨by rfl,rfl⟩) ?_ ?_
        rotate_left
        ·simp only [Act.put,List.setIfInBounds_toArray,List.set_cons_zero,List.set_cons_succ,z8,zaa]
         rfl
        refine zaR (i := 13) (N := some 42) (v := undef) (a' := ?_) (uQ 15 14) rfl rfl (zat HT_.out (by kernel_rfl)) (fun _ _ _ h => h) (Or.inr ⟨by rfl,rfl⟩) ?_ ?_
        rotate_left
        ·simp only [Act.put,List.setIfInBounds_toArray,List.set_cons_zero,List.set_cons_succ,z8,zaa]
         rfl
        refine puq (i := 14) (N := some 43) HT_.out (uQ 15 15) ?_
        refine zbl (zaF HT_.out (by kernel_rfl)) ?_
        try go_wp2
        go_ret
        exact ⟨hHq,hBq⟩
      ·rw [if_neg c6] at H
       exact absurd H (by simp)
     ·rw [if_neg c5] at H
      exact absurd H (by simp)
    ·rw [if_neg c4] at H
     have c4b0 : decide (x5_1 < (l0.length : Int)) = false := decide_eq_false c4
     clear c4
     obtain rfl := Option.some.inj H
     go_wp2
     go_ret
     exact ⟨hHq,hBq⟩
 ·rw [if_neg c3] at H
  have c3b0 : ((l0.length : Int) == (l1.length : Int)) = false := beq_eq_false_iff_ne.mpr c3
  have c3b1 : ((l0.length : Int) != (l1.length : Int)) = true := bne_iff_ne.mpr c3
  have c3b2 : (l0.length == l1.length) = false := by first | simpa using c3 | (simp at c3 ⊢;omega)
  obtain rfl := Option.some.inj H
  go_enter Try.func10,Try.ntmps10
  go_wp2
  go_ret
  exact ⟨hHq,hBq⟩
end Go.Proofs.Ytndjfdakflaggaa.Px