/- Part 31 of 36 of the proof of the law DagAdds: what is proved is the statement at the end of the last part; its conditions are those of the given row. -/
import Derived.Test.YtlkfelmbhldgfaaGreatZDagAddsQ
namespace Go.Proofs.YtlkfelmbhldgfaaGreat.Px
open Go.RowKit Go.Proofs.YtlkfelmbhldgfaaGreatW.PrintWords Go.Proofs.YtlkfelmbhldgfaaGreatW.PrintLast Go.Proofs.YtlkfelmbhldgfaaGreatW.PrintMore
attribute [local go_sem] zA zC zH zI zv zw zB zD
set_option linter.unusedVariables false
set_option linter.unusedSimpArgs false
def zp.l0 : Nat → List (S42) → List (S42) → Int → Option (Bool)
 | 0,_,_,_ => none
 | k + 1,x0,x1,x5 => if x5 < (x0.length : Int) then (if 0 ≤ x5 then (if x5 < (x1.length : Int) then ((za1.f k ((zd x0 x5).f1.f0) ((zd x0 x5).f1.f1) ((zd x0 x5).f1.f2) ((zd x0 x5).f1.f3) ((zd x0 x5).f1.f4.f0) ((zd x0 x5).f1.f4.f1) ((zd x1 x5).f1.f0) ((zd x1 x5).f1.f1) ((zd x1 x5).f1.f2) ((zd x1 x5).f1.f3) ((zd x1 x5).f1.f4.f0) ((zd x1 x5).f1.f4.f1)).bind fun t246 => (if t246 = true then (if ((zd x0 x5).f0).toList = ((zd x1 x5).f0).toList then (zp.l0 k x0 x1 (wrap64 (x5 + 1))) else (some false)) else (some false))) else (none)) else (none)) else (some true)
def zp.f (k : Nat) (l0 : List (S42)) (l1 : List (S42)) : Option (Bool) := if (l0.length : Int) = (l1.length : Int) then (zp.l0 k l0 l1 0) else (some false)
def zp.T6 : Bool × List (List Nat × List Nat) := (true,[([],[]),([],[]),([0,1],[0,1]),([2],[2]),([3],[3]),([],[]),([],[]),([5,6],[5,6]),([7],[7]),([8],[8]),([4,9],[4,9]),([10,10,0,1,2,3,4,5,6,7,8,9,10],[10])])
def zp.B6 : List Nat := [0,0,3,7,15,0,0,96,224,480,1023,2047]
theorem zp.tab6 : zbX .any (zdG Tryz.f26 6) = zp.T6 := by kernel_rfl
theorem zp.bits6 : zbF zp.T6.2 zp.B6 = true := by kernel_rfl
def zp.T7 : Bool × List (List Nat × List Nat) := (true,[([],[]),([0],[0]),([1],[1]),([2],[2]),([2],[2]),([3,4,2],[2,3,4]),([5,2],[2,5]),([6,2],[2,6]),([2],[2]),([2],[2]),([8,9,2],[2,8,9]),([10,2],[2,10]),([11,2],[2,11]),([7,12,2],[2,7,12]),([2,13],[2,13])])
def zp.B7 : List Nat := [0,1,3,7,7,31,63,127,7,7,775,1799,3847,8191,16383]
theorem zp.tab7 : zbX .any (zdG Tryz.f26 7) = zp.T7 := by kernel_rfl
theorem zp.bits7 : zbF zp.T7.2 zp.B7 = true := by kernel_rfl
set_option maxHeartbeats 8000000 in
set_option maxRecDepth 100000 in
theorem zp.calls (k : Nat) (A0 : Option Addr) (c0 : Nat) (l0 : List (S42)) (A1 : Option Addr) (c1 : Nat) (l1 : List (S42)) (r : Bool) (w : World) (hr0 : Kd.C k42 w A0 l0.length l0) (hc0 : l0.length ≤ c0) (hr1 : Kd.C k42 w A1 l1.length l1) (hc1 : l1.length ≤ c1) (h : zp.f k l0 l1 = some r) :
  Calls Tryz.prog 26 #[.slice A0 l0.length c0,.slice A1 l1.length c1] w fun e w' => e = .returned (.bool r) ∧ Below w.heap.size w w' := by
 have hu30 := Tryz.underlying30
 have HR0 := za.mk hr0
 have HC0 := za.mk hc0
 clear hr0 hc0
 have HR1 := za.mk hr1
 have HC1 := za.mk hc1
 clear hr1 hc1
 have HB := za.mk (Below.refl w.heap.size w)
 have H : (if (l0.length : Int) = (l1.length : Int) then (zp.l0 k l0 l1 0) else (some false)) = some r := h
 clear h
 by_cases c3 : (l0.length : Int) = (l1.length : Int)
 ·rw [if_pos c3] at H
  have c3b0 : ((l0.length : Int) == (l1.length : Int)) = true := beq_iff_eq.mpr c3
  have c3b1 : ((l0.length : Int) != (l1.length : Int)) = false := bne_eq_false_iff_eq.mpr c3
  have c3b2 : (l0.length == l1.length) = true := by first | simpa using c3 | (simp at c3 ⊢;omega)
  clear c3
  have H' := za.mk H
  clear H
  go_enter Tryz.func26,Tryz.ntmps26
  go_wp2
  go_loopg [5] k (fun kq v5 w' => ∃ (x5_1 : Int),v5 = .int .i64 x5_1 ∧ za (zp.l0 kq l0 l1 x5_1 = some r) ∧ za (kq ≤ k) ∧ za (Below w.heap.size w w'))
  case atStart => exact ⟨(0),(hDq),H',⟨Nat.le_refl _⟩,⟨by repeat (first | (with_reducible first | exact HB.out | apply zk | apply zi | apply zo) | exact HB.out)⟩⟩
  case round =>
   clear H'
   try clear c1;try clear c2;try clear p2;try clear c3;try clear c3b0;try clear c3b1;try clear c3b2
   obtain ⟨x5_1,rfl,HA,HK1,HB⟩ := hrel
   cases gk with
   | zero => exact absurd HA.out (by simp [zp.l0])
   | succ k1 =>
    have H := HA.out
    clear HA
    simp only [zp.l0] at H
    by_cases c4 : x5_1 < (l0.length : Int)
    ·rw [if_pos c4] at H
     have c4b0 : decide (x5_1 < (l0.length : Int)) = true := decide_eq_true c4
     clear c4
     by_cases c5 : 0 ≤ x5_1
     ·rw [if_pos c5] at H
      have c5b0 : decide (0 ≤ x5_1) = true := decide_eq_true c5
      clear c5
      by_cases c6 : x5_1 < (l1.length : Int)
      ·rw [if_pos c6] at H
       have c6b0 : decide (x5_1 < (l1.length : Int)) = true := decide_eq_true c6
       clear c6
       replace H := Option.bind_eq_some_iff.mp H
       obtain ⟨t246,A70,H⟩ := H
       replace H : (if t246 = true then (if ((zd l0 x5_1).f0).toList = ((zd l1 x5_1).f0).toList then (zp.l0 k1 l0 l1 (wrap64 (x5_1 + 1))) else (some false)) else (some false)) = some r := H
       have A7 := za.mk A70
       clear A70
       by_cases c8 : t246 = true
       ·subst c8
        have H1 : (if ((zd l0 x5_1).f0).toList = ((zd l1 x5_1).f0).toList then (zp.l0 k1 l0 l1 (wrap64 (x5_1 + 1))) else (some false)) = some r := by rw [if_pos rfl] at H;exact H
        clear H
        have H := H1
        clear H1
        by_cases c9 : ((zd l0 x5_1).f0).toList = ((zd l1 x5_1).f0).toList
        ·rw [if_pos c9] at H
         have c9b0 : (((zd l0 x5_1).f0).toList == ((zd l1 x5_1).f0).toList) = true := beq_iff_eq.mpr c9
         have c9b1 : (((zd l0 x5_1).f0).toList != ((zd l1 x5_1).f0).toList) = false := bne_eq_false_iff_eq.mpr c9
         clear c9
         have H' := za.mk H
         clear H
         try go_wp2
         have n0_ := za.mk (zo HB.out)
         clear HB
         have HB := n0_
         clear n0_
         have p244 : 0 ≤ (x5_1 : Int) := hFq
         have q244 : x5_1 < (l0.length : Int) := hFq
         obtain ⟨ad244,A244_3,c244_3,A244_4,c244_4,e244,hx244_0,hx244_1,hx244_2,hx244_3,hx244_4,hx244_5,hx244_6,hl244_3,hi244_3,hl244_4,hi244_4⟩ := zaG HR0.out x5_1 p244 q244
         have hw244_6 := hx244_6
         have hw244_5 := hx244_5
         have hw244_4 := hx244_4
         have hw244_3 := hx244_3
         have hw244_2 := hx244_2
         have hw244_1 := hx244_1
         have hw244_0 := hx244_0
         cases e244
         replace hx244_0 := (HB.out.cell (World.block_lt_of_cell? w _ hx244_0)).trans hx244_0
         replace hx244_1 := (HB.out.cell (World.block_lt_of_cell? w _ hx244_1)).trans hx244_1
         replace hx244_2 := (HB.out.cell (World.block_lt_of_cell? w _ hx244_2)).trans hx244_2
         replace hx244_3 := (HB.out.cell (World.block_lt_of_cell? w _ hx244_3)).trans hx244_3
         replace hx244_4 := (HB.out.cell (World.block_lt_of_cell? w _ hx244_4)).trans hx244_4
         replace hx244_5 := (HB.out.cell (World.block_lt_of_cell? w _ hx244_5)).trans hx244_5
         replace hx244_6 := (HB.out.cell (World.block_lt_of_cell? w _ hx244_6)).trans hx244_6
         have HR244_3 := za.mk hi244_3
         have HC244_3 := za.mk hl244_3
         clear hi244_3 hl244_3
         have HR244_4 := za.mk hi244_4
         have HC244_4 := za.mk hl244_4
         clear hi244_4 hl244_4
         replace p244 := eq_true p244
         replace q244 := eq_true q244
         have p245 : 0 ≤ (x5_1 : Int) := hFq
         have q245 : x5_1 < (l1.length : Int) := hFq
         obtain ⟨ad245,A245_3,c245_3,A245_4,c245_4,e245,hx245_0,hx245_1,hx245_2,hx245_3,hx245_4,hx245_5,hx245_6,hl245_3,hi245_3,hl245_4,hi245_4⟩ := zaG HR1.out x5_1 p245 q245
         have hw245_6 := hx245_6
         have hw245_5 := hx245_5
         have hw245_4 := hx245_4
         have hw245_3 := hx245_3
         have hw245_2 := hx245_2
         have hw245_1 := hx245_1
         have hw245_0 := hx245_0
         cases e245
         replace hx245_0 := (HB.out.cell (World.block_lt_of_cell? w _ hx245_0)).trans hx245_0
         replace hx245_1 := (HB.out.cell (World.block_lt_of_cell? w _ hx245_1)).trans hx245_1
         replace hx245_2 := (HB.out.cell (World.block_lt_of_cell? w _ hx245_2)).trans hx245_2
         replace hx245_3 := (HB.out.cell (World.block_lt_of_cell? w _ hx245_3)).trans hx245_3
         replace hx245_4 := (HB.out.cell (World.block_lt_of_cell? w _ hx245_4)).trans hx245_4
         replace hx245_5 := (HB.out.cell (World.block_lt_of_cell? w _ hx245_5)).trans hx245_5
         replace hx245_6 := (HB.out.cell (World.block_lt_of_cell? w _ hx245_6)).trans hx245_6
         have HR245_3 := za.mk hi245_3
         have HC245_3 := za.mk hl245_3
         clear hi245_3 hl245_3
         have HR245_4 := za.mk hi245_4
         have HC245_4 := za.mk hl245_4
         clear hi245_4 hl245_4
         replace p245 := eq_true p245
         replace q245 := eq_true q245
         refine zbH (n := 12) (S := fun w' => w'.cell? (ad244.add ((x5_1).toNat * 7)) = some (.string ((zd l0 x5_1).f0)) ∧ w'.cell? ⟨(ad244.add ((x5_1).toNat * 7)).block,(ad244.add ((x5_1).toNat * 7)).off + 1,none⟩ = some (.int .i64 ((zd l0 x5_1).f1.f0)) ∧ w'.cell? ⟨(ad244.add ((x5_1).toNat * 7)).block,(ad244.add ((x5_1).toNat * 7)).off + 2,none⟩ = some (.int .i64 ((zd l0 x5_1).f1.f1)) ∧ w'.cell? ⟨(ad244.add ((x5_1).toNat * 7)).block,(ad244.add ((x5_1).toNat * 7)).off + 3,none⟩ = some (.slice A244_3 ((zd l0 x5_1).f1.f2).length c244_3) ∧ w'.cell? ⟨(ad244.add ((x5_1).toNat * 7)).block,(ad244.add ((x5_1).toNat * 7)).off + 4,none⟩ = some (.slice A244_4 ((zd l0 x5_1).f1.f3).length c244_4) ∧ w'.cell? ⟨(ad244.add ((x5_1).toNat * 7)).block,(ad244.add ((x5_1).toNat * 7)).off + 5,none⟩ = some (.int .i64 ((zd l0 x5_1).f1.f4.f0)) ∧ w'.cell? ⟨(ad244.add ((x5_1).toNat * 7)).block,(ad244.add ((x5_1).toNat * 7)).off + 6,none⟩ = some (.int .i64 ((zd l0 x5_1).f1.f4.f1)) ∧ w'.cell? (ad245.add ((x5_1).toNat * 7)) = some (.string ((zd l1 x5_1).f0)) ∧ w'.cell? ⟨(ad245.add ((x5_1).toNat * 7)).block,(ad245.add ((x5_1).toNat * 7)).off + 1,none⟩ = some (.int .i64 ((zd l1 x5_1).f1.f0)) ∧ w'.cell? ⟨(ad245.add ((x5_1).toNat * 7)).block,(ad245.add ((x5_1).toNat * 7)).off + 2,none⟩ = some (.int .i64 ((zd l1 x5_1).f1.f1)) ∧ w'.cell? ⟨(ad245.add ((x5_1).toNat * 7)).block,(ad245.add ((x5_1).toNat * 7)).off + 3,none⟩ = some (.slice A245_3 ((zd l1 x5_1).f1.f2).length c245_3) ∧ w'.cell? ⟨(ad245.add ((x5_1).toNat * 7)).block,(ad245.add ((x5_1).toNat * 7)).off + 4,none⟩ = some (.slice A245_4 ((zd l1 x5_1).f1.f3).length c245_4) ∧ w'.cell? ⟨(ad245.add ((x5_1).toNat * 7)).block,(ad245.add ((x5_1).toNat * 7)).off + 5,none⟩ = some (.int .i64 ((zd l1 x5_1).f1.f4.f0)) ∧ w'.cell? ⟨(ad245.add ((x5_1).toNat * 7)).block,(ad245.add ((x5_1).toNat * 7)).off + 6,none⟩ = some (.int .i64 ((zd l1 x5_1).f1.f4.f1))) (ds := []) (uQ 12 0) (by kernel_rfl) rfl rfl ⟨((HB.out.cell (World.block_lt_of_cell? w _ hw244_0)).trans hw244_0),((HB.out.cell (World.block_lt_of_cell? w _ hw244_1)).trans hw244_1),((HB.out.cell (World.block_lt_of_cell? w _ hw244_2)).trans hw244_2),((HB.out.cell (World.block_lt_of_cell? w _ hw244_3)).trans hw244_3),((HB.out.cell (World.block_lt_of_cell? w _ hw244_4)).trans hw244_4),((HB.out.cell (World.block_lt_of_cell? w _ hw244_5)).trans hw244_5),((HB.out.cell (World.block_lt_of_cell? w _ hw244_6)).trans hw244_6),((HB.out.cell (World.block_lt_of_cell? w _ hw245_0)).trans hw245_0),((HB.out.cell (World.block_lt_of_cell? w _ hw245_1)).trans hw245_1),((HB.out.cell (World.block_lt_of_cell? w _ hw245_2)).trans hw245_2),((HB.out.cell (World.block_lt_of_cell? w _ hw245_3)).trans hw245_3),((HB.out.cell (World.block_lt_of_cell? w _ hw245_4)).trans hw245_4),((HB.out.cell (World.block_lt_of_cell? w _ hw245_5)).trans hw245_5),((HB.out.cell (World.block_lt_of_cell? w _ hw245_6)).trans hw245_6)⟩ (fun hHeld => ?_);refine zaO zp.tab6 zp.bits6 (fun HT_ HW_ => ?_)
         generalize wr.drew = w10 at HB HR244_3 HR244_4 HR245_3 HR245_4 hx244_0 hx244_1 hx244_2 hx244_3 hx244_4 hx244_5 hx244_6 hx245_0 hx245_1 hx245_2 hx245_3 hx245_4 hx245_5 hx245_6 hHeld ⊢
         refine puq (i := 0) (N := some 18) HT_.out (uQ 12 1) ?_
         refine puq (i := 1) (N := some 19) HT_.out (uQ 12 2) ?_
         refine puq (i := 2) (N := some 20) HT_.out (uQ 12 3) ?_
         refine puq (i := 3) (N := some 21) HT_.out (uQ 12 4) ?_
         refine puq (i := 5) (N := some 23) HT_.out #[true,true,true,true,false,true,false,false,false,false,false,false] ?_
         refine puq (i := 6) (N := some 24) HT_.out #[true,true,true,true,false,true,true,false,false,false,false,false] ?_
         refine puq (i := 7) (N := some 25) HT_.out #[true,true,true,true,false,true,true,true,false,false,false,false] ?_
         refine puq (i := 8) (N := some 26) HT_.out #[true,true,true,true,false,true,true,true,true,false,false,false] ?_
         refine take_ (i := 4) (N := some 22) (uQ 12 9) rfl rfl (zY HT_.out HW_.out (by kernel_rfl)) (fun _ _ _ h => h) (Or.inl ⟨by rfl,by rintro w' ⟨s0,s1,s2,s3,s4,s5,s6,s7,s8,s9,s10,s11,s12,s13⟩;go_simp;with_reducible rfl⟩) hHeld hPq ?_
         refine take_ (i := 9) (N := some 27) (uQ 12 10) rfl rfl (zY HT_.out HW_.out (by kernel_rfl)) (fun _ _ _ h => h) (Or.inl ⟨by rfl,by rintro w' ⟨s0,s1,s2,s3,s4,s5,s6,s7,s8,s9,s10,s11,s12,s13⟩;go_simp;with_reducible rfl⟩) hHeld hPq ?_
         refine zb1 (i := 10) (N := some 28) (uQ 12 11) rfl rfl (zaR HT_.out (by kernel_rfl)) (by decide) (fun K hK => ?_)
         refine zbu Tryz.func41 (by kernel_rfl) rfl #[.agg #[.int .i64 ((zd l0 x5_1).f1.f0),.int .i64 ((zd l0 x5_1).f1.f1),.slice A244_3 ((zd l0 x5_1).f1.f2).length c244_3,.slice A244_4 ((zd l0 x5_1).f1.f3).length c244_4,.int .i64 ((zd l0 x5_1).f1.f4.f0),.int .i64 ((zd l0 x5_1).f1.f4.f1)],.agg #[.int .i64 ((zd l1 x5_1).f1.f0),.int .i64 ((zd l1 x5_1).f1.f1),.slice A245_3 ((zd l1 x5_1).f1.f2).length c245_3,.slice A245_4 ((zd l1 x5_1).f1.f3).length c245_4,.int .i64 ((zd l1 x5_1).f1.f4.f0),.int .i64 ((zd l1 x5_1).f1.f4.f1)]] (by rfl) rfl rfl hMq ?_
         with_reducible refine (za1.calls k1 ((zd l0 x5_1).f1.f0) ((zd l0 x5_1).f1.f1) _ _ ((zd l0 x5_1).f1.f2) _ _ ((zd l0 x5_1).f1.f3) ((zd l0 x5_1).f1.f4.f0) ((zd l0 x5_1).f1.f4.f1) ((zd l1 x5_1).f1.f0) ((zd l1 x5_1).f1.f1) _ _ ((zd l1 x5_1).f1.f2) _ _ ((zd l1 x5_1).f1.f3) ((zd l1 x5_1).f1.f4.f0) ((zd l1 x5_1).f1.f4.f1) true _ ?side1 ?side2 ?side3 ?side4 ?side5 ?side6 ?side7 ?side8 A7.out).mono ?_
         (case side1 => exact hKq (Kd.C_below HR244_3.out HB.out))
         (case side2 => exact HC244_3.out)
         (case side3 => exact hKq (Kd.C_below HR244_4.out HB.out))
         (case side4 => exact HC244_4.out)
         (case side5 => exact hKq (Kd.C_below HR245_3.out HB.out))
         (case side6 => exact HC245_3.out)
         (case side7 => exact hKq (Kd.C_below HR245_4.out HB.out))
         (case side8 => exact HC245_4.out)
         rintro e w11 ⟨rfl,hb⟩
         refine ⟨_,rfl,?_⟩
         have n0_ := za.mk (ze hBq hb)
         clear HB
         have HB := n0_
         clear n0_
         (try clear hb)
         (try clear hb2)
         (try clear hk)
         (try clear hi)
         refine hK.out _ _ ⟨((HB.out.cell (World.block_lt_of_cell? w _ hw244_0)).trans hw244_0),((HB.out.cell (World.block_lt_of_cell? w _ hw244_1)).trans hw244_1),((HB.out.cell (World.block_lt_of_cell? w _ hw244_2)).trans hw244_2),((HB.out.cell (World.block_lt_of_cell? w _ hw244_3)).trans hw244_3),((HB.out.cell (World.block_lt_of_cell? w _ hw244_4)).trans hw244_4),((HB.out.cell (World.block_lt_of_cell? w _ hw244_5)).trans hw244_5),((HB.out.cell (World.block_lt_of_cell? w _ hw244_6)).trans hw244_6),((HB.out.cell (World.block_lt_of_cell? w _ hw245_0)).trans hw245_0),((HB.out.cell (World.block_lt_of_cell? w _ hw245_1)).trans hw245_1),((HB.out.cell (World.block_lt_of_cell? w _ hw245_2)).trans hw245_2),((HB.out.cell (World.block_lt_of_cell? w _ hw245_3)).trans hw245_3),((HB.out.cell (World.block_lt_of_cell? w _ hw245_4)).trans hw245_4),((HB.out.cell (World.block_lt_of_cell? w _ hw245_5)).trans hw245_5),((HB.out.cell (World.block_lt_of_cell? w _ hw245_6)).trans hw245_6)⟩ (fun hHeld => ?_)
         clear hK K
         refine zbk (a' := ?_) ?_ ?_
         rotate_left
         ·show Act.put _ (some 28) _ = _
          simp only [Act.put,List.setIfInBounds_toArray,List.set_cons_zero,List.set_cons_succ,zaw,zaB]
          rfl
         refine puq (i := 11) (N := some 6) HT_.out (uQ 12 12) ?_
         refine zbJ (zaU HT_.out (by kernel_rfl)) ?_
         try go_wp2
         have n0_ := za.mk (zo HB.out)
         clear HB
         have HB := n0_
         clear n0_
         have p247 : 0 ≤ (x5_1 : Int) := hFq
         have q247 : x5_1 < (l0.length : Int) := hFq
         obtain ⟨ad247,A247_3,c247_3,A247_4,c247_4,e247,hx247_0,hx247_1,hx247_2,hx247_3,hx247_4,hx247_5,hx247_6,hl247_3,hi247_3,hl247_4,hi247_4⟩ := zaG HR0.out x5_1 p247 q247
         have hw247_6 := hx247_6
         have hw247_5 := hx247_5
         have hw247_4 := hx247_4
         have hw247_3 := hx247_3
         have hw247_2 := hx247_2
         have hw247_1 := hx247_1
         have hw247_0 := hx247_0
         obtain rfl : ad244 = ad247 := (by injection e247)
         replace hx247_0 := (HB.out.cell (World.block_lt_of_cell? w _ hx247_0)).trans hx247_0
         replace hx247_1 := (HB.out.cell (World.block_lt_of_cell? w _ hx247_1)).trans hx247_1
         replace hx247_2 := (HB.out.cell (World.block_lt_of_cell? w _ hx247_2)).trans hx247_2
         replace hx247_3 := (HB.out.cell (World.block_lt_of_cell? w _ hx247_3)).trans hx247_3
         replace hx247_4 := (HB.out.cell (World.block_lt_of_cell? w _ hx247_4)).trans hx247_4
         replace hx247_5 := (HB.out.cell (World.block_lt_of_cell? w _ hx247_5)).trans hx247_5
         replace hx247_6 := (HB.out.cell (World.block_lt_of_cell? w _ hx247_6)).trans hx247_6
         have HR247_3 := za.mk hi247_3
         have HC247_3 := za.mk hl247_3
         clear hi247_3 hl247_3
         have HR247_4 := za.mk hi247_4
         have HC247_4 := za.mk hl247_4
         clear hi247_4 hl247_4
         replace p247 := eq_true p247
         replace q247 := eq_true q247
         have p248 : 0 ≤ (x5_1 : Int) := hFq
         have q248 : x5_1 < (l1.length : Int) := hFq
         obtain ⟨ad248,A248_3,c248_3,A248_4,c248_4,e248,hx248_0,hx248_1,hx248_2,hx248_3,hx248_4,hx248_5,hx248_6,hl248_3,hi248_3,hl248_4,hi248_4⟩ := zaG HR1.out x5_1 p248 q248
         have hw248_6 := hx248_6
         have hw248_5 := hx248_5
         have hw248_4 := hx248_4
         have hw248_3 := hx248_3
         have hw248_2 := hx248_2
         have hw248_1 := hx248_1
         have hw248_0 := hx248_0
         obtain rfl : ad245 = ad248 := (by injection e248)
         replace hx248_0 := (HB.out.cell (World.block_lt_of_cell? w _ hx248_0)).trans hx248_0
         replace hx248_1 := (HB.out.cell (World.block_lt_of_cell? w _ hx248_1)).trans hx248_1
         replace hx248_2 := (HB.out.cell (World.block_lt_of_cell? w _ hx248_2)).trans hx248_2
         replace hx248_3 := (HB.out.cell (World.block_lt_of_cell? w _ hx248_3)).trans hx248_3
         replace hx248_4 := (HB.out.cell (World.block_lt_of_cell? w _ hx248_4)).trans hx248_4
         replace hx248_5 := (HB.out.cell (World.block_lt_of_cell? w _ hx248_5)).trans hx248_5
         replace hx248_6 := (HB.out.cell (World.block_lt_of_cell? w _ hx248_6)).trans hx248_6
         have HR248_3 := za.mk hi248_3
         have HC248_3 := za.mk hl248_3
         clear hi248_3 hl248_3
         have HR248_4 := za.mk hi248_4
         have HC248_4 := za.mk hl248_4
         clear hi248_4 hl248_4
         replace p248 := eq_true p248
         replace q248 := eq_true q248
         refine zbH (n := 15) (S := fun w' => w'.cell? (ad244.add ((x5_1).toNat * 7)) = some (.string ((zd l0 x5_1).f0)) ∧ w'.cell? ⟨(ad244.add ((x5_1).toNat * 7)).block,(ad244.add ((x5_1).toNat * 7)).off + 1,none⟩ = some (.int .i64 ((zd l0 x5_1).f1.f0)) ∧ w'.cell? ⟨(ad244.add ((x5_1).toNat * 7)).block,(ad244.add ((x5_1).toNat * 7)).off + 2,none⟩ = some (.int .i64 ((zd l0 x5_1).f1.f1)) ∧ w'.cell? ⟨(ad244.add ((x5_1).toNat * 7)).block,(ad244.add ((x5_1).toNat * 7)).off + 3,none⟩ = some (.slice A247_3 ((zd l0 x5_1).f1.f2).length c247_3) ∧ w'.cell? ⟨(ad244.add ((x5_1).toNat * 7)).block,(ad244.add ((x5_1).toNat * 7)).off + 4,none⟩ = some (.slice A247_4 ((zd l0 x5_1).f1.f3).length c247_4) ∧ w'.cell? ⟨(ad244.add ((x5_1).toNat * 7)).block,(ad244.add ((x5_1).toNat * 7)).off + 5,none⟩ = some (.int .i64 ((zd l0 x5_1).f1.f4.f0)) ∧ w'.cell? ⟨(ad244.add ((x5_1).toNat * 7)).block,(ad244.add ((x5_1).toNat * 7)).off + 6,none⟩ = some (.int .i64 ((zd l0 x5_1).f1.f4.f1)) ∧ w'.cell? (ad245.add ((x5_1).toNat * 7)) = some (.string ((zd l1 x5_1).f0)) ∧ w'.cell? ⟨(ad245.add ((x5_1).toNat * 7)).block,(ad245.add ((x5_1).toNat * 7)).off + 1,none⟩ = some (.int .i64 ((zd l1 x5_1).f1.f0)) ∧ w'.cell? ⟨(ad245.add ((x5_1).toNat * 7)).block,(ad245.add ((x5_1).toNat * 7)).off + 2,none⟩ = some (.int .i64 ((zd l1 x5_1).f1.f1)) ∧ w'.cell? ⟨(ad245.add ((x5_1).toNat * 7)).block,(ad245.add ((x5_1).toNat * 7)).off + 3,none⟩ = some (.slice A248_3 ((zd l1 x5_1).f1.f2).length c248_3) ∧ w'.cell? ⟨(ad245.add ((x5_1).toNat * 7)).block,(ad245.add ((x5_1).toNat * 7)).off + 4,none⟩ = some (.slice A248_4 ((zd l1 x5_1).f1.f3).length c248_4) ∧ w'.cell? ⟨(ad245.add ((x5_1).toNat * 7)).block,(ad245.add ((x5_1).toNat * 7)).off + 5,none⟩ = some (.int .i64 ((zd l1 x5_1).f1.f4.f0)) ∧ w'.cell? ⟨(ad245.add ((x5_1).toNat * 7)).block,(ad245.add ((x5_1).toNat * 7)).off + 6,none⟩ = some (.int .i64 ((zd l1 x5_1).f1.f4.f1))) (ds := []) (uQ 15 0) (by kernel_rfl) rfl rfl ⟨((HB.out.cell (World.block_lt_of_cell? w _ hw247_0)).trans hw247_0),((HB.out.cell (World.block_lt_of_cell? w _ hw247_1)).trans hw247_1),((HB.out.cell (World.block_lt_of_cell? w _ hw247_2)).trans hw247_2),((HB.out.cell (World.block_lt_of_cell? w _ hw247_3)).trans hw247_3),((HB.out.cell (World.block_lt_of_cell? w _ hw247_4)).trans hw247_4),((HB.out.cell (World.block_lt_of_cell? w _ hw247_5)).trans hw247_5),((HB.out.cell (World.block_lt_of_cell? w _ hw247_6)).trans hw247_6),((HB.out.cell (World.block_lt_of_cell? w _ hw248_0)).trans hw248_0),((HB.out.cell (World.block_lt_of_cell? w _ hw248_1)).trans hw248_1),((HB.out.cell (World.block_lt_of_cell? w _ hw248_2)).trans hw248_2),((HB.out.cell (World.block_lt_of_cell? w _ hw248_3)).trans hw248_3),((HB.out.cell (World.block_lt_of_cell? w _ hw248_4)).trans hw248_4),((HB.out.cell (World.block_lt_of_cell? w _ hw248_5)).trans hw248_5),((HB.out.cell (World.block_lt_of_cell? w _ hw248_6)).trans hw248_6)⟩ (fun hHeld => ?_);refine zaO zp.tab7 zp.bits7 (fun HT_ HW_ => ?_)
         generalize w11.drew = w12 at HB HR247_3 HR247_4 HR248_3 HR248_4 hx247_0 hx247_1 hx247_2 hx247_3 hx247_4 hx247_5 hx247_6 hx248_0 hx248_1 hx248_2 hx248_3 hx248_4 hx248_5 hx248_6 hHeld ⊢
         refine puq (i := 0) (N := some 29) HT_.out (uQ 15 1) ?_
         refine puq (i := 1) (N := some 30) HT_.out (uQ 15 2) ?_
         refine puq (i := 2) (N := some 31) HT_.out (uQ 15 3) ?_
         refine puq (i := 3) (N := some 32) HT_.out (uQ 15 4) ?_
         refine puq (i := 4) (N := some 33) HT_.out (uQ 15 5) ?_
         refine puq (i := 5) (N := some 34) HT_.out (uQ 15 6) ?_
         refine puq (i := 6) (N := some 35) HT_.out (uQ 15 7) ?_
         refine puq (i := 8) (N := some 37) HT_.out #[true,true,true,true,true,true,true,false,true,false,false,false,false,false,false] ?_
         refine puq (i := 9) (N := some 38) HT_.out #[true,true,true,true,true,true,true,false,true,true,false,false,false,false,false] ?_
         refine puq (i := 10) (N := some 39) HT_.out #[true,true,true,true,true,true,true,false,true,true,true,false,false,false,false] ?_
         refine puq (i := 11) (N := some 40) HT_.out #[true,true,true,true,true,true,true,false,true,true,true,true,false,false,false] ?_
         refine take_ (i := 7) (N := some 36) (uQ 15 12) rfl rfl (zY HT_.out HW_.out (by kernel_rfl)) (fun _ _ _ h => h) (Or.inl ⟨by rfl,by rintro w' ⟨s0,s1,s2,s3,s4,s5,s6,s7,s8,s9,s10,s11,s12,s13⟩;go_simp;with_reducible rfl⟩) hHeld hPq ?_
         refine take_ (i := 12) (N := some 41) (uQ 15 13) rfl rfl (zY HT_.out HW_.out (by kernel_rfl)) (fun _ _ _ h => h) (Or.inl ⟨by rfl,by rintro w' ⟨s0,s1,s2,s3,s4,s5,s6,s7,s8,s9,s10,s11,s12,s13⟩;go_simp;with_reducible rfl⟩) hHeld hPq ?_
         refine puq (i := 13) (N := some 42) HT_.out (uQ 15 14) ?_
         refine puq (i := 14) (N := some 43) HT_.out (uQ 15 15) ?_
         refine zbJ (zaU HT_.out (by kernel_rfl)) ?_
         try go_wp2
         go_roundg k1
         case measure => have := HK1.out;omega
         case rel => exact ⟨(wrap64 (x5_1 + 1)),(hDq),H',⟨by have := HK1.out;omega⟩,⟨by repeat (first | (with_reducible first | exact HB.out | apply zk | apply zi | apply zo) | exact HB.out)⟩⟩
        ·rw [if_neg c9] at H
         have c9b0 : (((zd l0 x5_1).f0).toList == ((zd l1 x5_1).f0).toList) = false := beq_eq_false_iff_ne.mpr c9
         have c9b1 : (((zd l0 x5_1).f0).toList != ((zd l1 x5_1).f0).toList) = true := bne_iff_ne.mpr c9
         obtain rfl := Option.some.inj H
         try go_wp2
         have n0_ := za.mk (zo HB.out)
         clear HB
         have HB := n0_
         clear n0_
         have p244 : 0 ≤ (x5_1 : Int) := hFq
         have q244 : x5_1 < (l0.length : Int) := hFq
         obtain ⟨ad244,A244_3,c244_3,A244_4,c244_4,e244,hx244_0,hx244_1,hx244_2,hx244_3,hx244_4,hx244_5,hx244_6,hl244_3,hi244_3,hl244_4,hi244_4⟩ := zaG HR0.out x5_1 p244 q244
         have hw244_6 := hx244_6
         have hw244_5 := hx244_5
         have hw244_4 := hx244_4
         have hw244_3 := hx244_3
         have hw244_2 := hx244_2
         have hw244_1 := hx244_1
         have hw244_0 := hx244_0
         cases e244
         replace hx244_0 := (HB.out.cell (World.block_lt_of_cell? w _ hx244_0)).trans hx244_0
         replace hx244_1 := (HB.out.cell (World.block_lt_of_cell? w _ hx244_1)).trans hx244_1
         replace hx244_2 := (HB.out.cell (World.block_lt_of_cell? w _ hx244_2)).trans hx244_2
         replace hx244_3 := (HB.out.cell (World.block_lt_of_cell? w _ hx244_3)).trans hx244_3
         replace hx244_4 := (HB.out.cell (World.block_lt_of_cell? w _ hx244_4)).trans hx244_4
         replace hx244_5 := (HB.out.cell (World.block_lt_of_cell? w _ hx244_5)).trans hx244_5
         replace hx244_6 := (HB.out.cell (World.block_lt_of_cell? w _ hx244_6)).trans hx244_6
         have HR244_3 := za.mk hi244_3
         have HC244_3 := za.mk hl244_3
         clear hi244_3 hl244_3
         have HR244_4 := za.mk hi244_4
         have HC244_4 := za.mk hl244_4
         clear hi244_4 hl244_4
         replace p244 := eq_true p244
         replace q244 := eq_true q244
         have p245 : 0 ≤ (x5_1 : Int) := hFq
         have q245 : x5_1 < (l1.length : Int) := hFq
         obtain ⟨ad245,A245_3,c245_3,A245_4,c245_4,e245,hx245_0,hx245_1,hx245_2,hx245_3,hx245_4,hx245_5,hx245_6,hl245_3,hi245_3,hl245_4,hi245_4⟩ := zaG HR1.out x5_1 p245 q245
         have hw245_6 := hx245_6
         have hw245_5 := hx245_5
         have hw245_4 := hx245_4
         have hw245_3 := hx245_3
         have hw245_2 := hx245_2
         have hw245_1 := hx245_1
         have hw245_0 := hx245_0
         cases e245
         replace hx245_0 := (HB.out.cell (World.block_lt_of_cell? w _ hx245_0)).trans hx245_0
         replace hx245_1 := (HB.out.cell (World.block_lt_of_cell? w _ hx245_1)).trans hx245_1
         replace hx245_2 := (HB.out.cell (World.block_lt_of_cell? w _ hx245_2)).trans hx245_2
         replace hx245_3 := (HB.out.cell (World.block_lt_of_cell? w _ hx245_3)).trans hx245_3
         replace hx245_4 := (HB.out.cell (World.block_lt_of_cell? w _ hx245_4)).trans hx245_4
         replace hx245_5 := (HB.out.cell (World.block_lt_of_cell? w _ hx245_5)).trans hx245_5
         replace hx245_6 := (HB.out.cell (World.block_lt_of_cell? w _ hx245_6)).trans hx245_6
         have HR245_3 := za.mk hi245_3
         have HC245_3 := za.mk hl245_3
         clear hi245_3 hl245_3
         have HR245_4 := za.mk hi245_4
         have HC245_4 := za.mk hl245_4
         clear hi245_4 hl245_4
         replace p245 := eq_true p245
         replace q245 := eq_true q245
         refine zbH (n := 12) (S := fun w' => w'.cell? (ad244.add ((x5_1).toNat * 7)) = some (.string ((zd l0 x5_1).f0)) ∧ w'.cell? ⟨(ad244.add ((x5_1).toNat * 7)).block,(ad244.add ((x5_1).toNat * 7)).off + 1,none⟩ = some (.int .i64 ((zd l0 x5_1).f1.f0)) ∧ w'.cell? ⟨(ad244.add ((x5_1).toNat * 7)).block,(ad244.add ((x5_1).toNat * 7)).off + 2,none⟩ = some (.int .i64 ((zd l0 x5_1).f1.f1)) ∧ w'.cell? ⟨(ad244.add ((x5_1).toNat * 7)).block,(ad244.add ((x5_1).toNat * 7)).off + 3,none⟩ = some (.slice A244_3 ((zd l0 x5_1).f1.f2).length c244_3) ∧ w'.cell? ⟨(ad244.add ((x5_1).toNat * 7)).block,(ad244.add ((x5_1).toNat * 7)).off + 4,none⟩ = some (.slice A244_4 ((zd l0 x5_1).f1.f3).length c244_4) ∧ w'.cell? ⟨(ad244.add ((x5_1).toNat * 7)).block,(ad244.add ((x5_1).toNat * 7)).off + 5,none⟩ = some (.int .i64 ((zd l0 x5_1).f1.f4.f0)) ∧ w'.cell? ⟨(ad244.add ((x5_1).toNat * 7)).block,(ad244.add ((x5_1).toNat * 7)).off + 6,none⟩ = some (.int .i64 ((zd l0 x5_1).f1.f4.f1)) ∧ w'.cell? (ad245.add ((x5_1).toNat * 7)) = some (.string ((zd l1 x5_1).f0)) ∧ w'.cell? ⟨(ad245.add ((x5_1).toNat * 7)).block,(ad245.add ((x5_1).toNat * 7)).off + 1,none⟩ = some (.int .i64 ((zd l1 x5_1).f1.f0)) ∧ w'.cell? ⟨(ad245.add ((x5_1).toNat * 7)).block,(ad245.add ((x5_1).toNat * 7)).off + 2,none⟩ = some (.int .i64 ((zd l1 x5_1).f1.f1)) ∧ w'.cell? ⟨(ad245.add ((x5_1).toNat * 7)).block,(ad245.add ((x5_1).toNat * 7)).off + 3,none⟩ = some (.slice A245_3 ((zd l1 x5_1).f1.f2).length c245_3) ∧ w'.cell? ⟨(ad245.add ((x5_1).toNat * 7)).block,(ad245.add ((x5_1).toNat * 7)).off + 4,none⟩ = some (.slice A245_4 ((zd l1 x5_1).f1.f3).length c245_4) ∧ w'.cell? ⟨(ad245.add ((x5_1).toNat * 7)).block,(ad245.add ((x5_1).toNat * 7)).off + 5,none⟩ = some (.int .i64 ((zd l1 x5_1).f1.f4.f0)) ∧ w'.cell? ⟨(ad245.add ((x5_1).toNat * 7)).block,(ad245.add ((x5_1).toNat * 7)).off + 6,none⟩ = some (.int .i64 ((zd l1 x5_1).f1.f4.f1))) (ds := []) (uQ 12 0) (by kernel_rfl) rfl rfl ⟨((HB.out.cell (World.block_lt_of_cell? w _ hw244_0)).trans hw244_0),((HB.out.cell (World.block_lt_of_cell? w _ hw244_1)).trans hw244_1),((HB.out.cell (World.block_lt_of_cell? w _ hw244_2)).trans hw244_2),((HB.out.cell (World.block_lt_of_cell? w _ hw244_3)).trans hw244_3),((HB.out.cell (World.block_lt_of_cell? w _ hw244_4)).trans hw244_4),((HB.out.cell (World.block_lt_of_cell? w _ hw244_5)).trans hw244_5),((HB.out.cell (World.block_lt_of_cell? w _ hw244_6)).trans hw244_6),((HB.out.cell (World.block_lt_of_cell? w _ hw245_0)).trans hw245_0),((HB.out.cell (World.block_lt_of_cell? w _ hw245_1)).trans hw245_1),((HB.out.cell (World.block_lt_of_cell? w _ hw245_2)).trans hw245_2),((HB.out.cell (World.block_lt_of_cell? w _ hw245_3)).trans hw245_3),((HB.out.cell (World.block_lt_of_cell? w _ hw245_4)).trans hw245_4),((HB.out.cell (World.block_lt_of_cell? w _ hw245_5)).trans hw245_5),((HB.out.cell (World.block_lt_of_cell? w _ hw245_6)).trans hw245_6)⟩ (fun hHeld => ?_);refine zaO zp.tab6 zp.bits6 (fun HT_ HW_ => ?_)
         generalize wr.drew = w13 at HB HR244_3 HR244_4 HR245_3 HR245_4 hx244_0 hx244_1 hx244_2 hx244_3 hx244_4 hx244_5 hx244_6 hx245_0 hx245_1 hx245_2 hx245_3 hx245_4 hx245_5 hx245_6 hHeld ⊢
         refine puq (i := 0) (N := some 18) HT_.out (uQ 12 1) ?_
         refine puq (i := 1) (N := some 19) HT_.out (uQ 12 2) ?_
         refine puq (i := 2) (N := some 20) HT_.out (uQ 12 3) ?_
         refine puq (i := 3) (N := some 21) HT_.out (uQ 12 4) ?_
         refine puq (i := 5) (N := some 23) HT_.out #[true,true,true,true,false,true,false,false,false,false,false,false] ?_
         refine puq (i := 6) (N := some 24) HT_.out #[true,true,true,true,false,true,true,false,false,false,false,false] ?_
         refine puq (i := 7) (N := some 25) HT_.out #[true,true,true,true,false,true,true,true,false,false,false,false] ?_
         refine puq (i := 8) (N := some 26) HT_.out #[true,true,true,true,false,true,true,true,true,false,false,false] ?_
         refine take_ (i := 4) (N := some 22) (uQ 12 9) rfl rfl (zY HT_.out HW_.out (by kernel_rfl)) (fun _ _ _ h => h) (Or.inl ⟨by rfl,by rintro w' ⟨s0,s1,s2,s3,s4,s5,s6,s7,s8,s9,s10,s11,s12,s13⟩;go_simp;with_reducible rfl⟩) hHeld hPq ?_
         refine take_ (i := 9) (N := some 27) (uQ 12 10) rfl rfl (zY HT_.out HW_.out (by kernel_rfl)) (fun _ _ _ h => h) (Or.inl ⟨by rfl,by rintro w' ⟨s0,s1,s2,s3,s4,s5,s6,s7,s8,s9,s10,s11,s12,s13⟩;go_simp;with_reducible rfl⟩) hHeld hPq ?_
         refine zb1 (i := 10) (N := some 28) (uQ 12 11) rfl rfl (zaR HT_.out (by kernel_rfl)) (by decide) (fun K hK => ?_)
         refine zbu Tryz.func41 (by kernel_rfl) rfl #[.agg #[.int .i64 ((zd l0 x5_1).f1.f0),.int .i64 ((zd l0 x5_1).f1.f1),.slice A244_3 ((zd l0 x5_1).f1.f2).length c244_3,.slice A244_4 ((zd l0 x5_1).f1.f3).length c244_4,.int .i64 ((zd l0 x5_1).f1.f4.f0),.int .i64 ((zd l0 x5_1).f1.f4.f1)],.agg #[.int .i64 ((zd l1 x5_1).f1.f0),.int .i64 ((zd l1 x5_1).f1.f1),.slice A245_3 ((zd l1 x5_1).f1.f2).length c245_3,.slice A245_4 ((zd l1 x5_1).f1.f3).length c245_4,.int .i64 ((zd l1 x5_1).f1.f4.f0),.int .i64 ((zd l1 x5_1).f1.f4.f1)]] (by rfl) rfl rfl hMq ?_
         with_reducible refine (za1.calls k1 ((zd l0 x5_1).f1.f0) ((zd l0 x5_1).f1.f1) _ _ ((zd l0 x5_1).f1.f2) _ _ ((zd l0 x5_1).f1.f3) ((zd l0 x5_1).f1.f4.f0) ((zd l0 x5_1).f1.f4.f1) ((zd l1 x5_1).f1.f0) ((zd l1 x5_1).f1.f1) _ _ ((zd l1 x5_1).f1.f2) _ _ ((zd l1 x5_1).f1.f3) ((zd l1 x5_1).f1.f4.f0) ((zd l1 x5_1).f1.f4.f1) true _ ?side1 ?side2 ?side3 ?side4 ?side5 ?side6 ?side7 ?side8 A7.out).mono ?_
         (case side1 => exact hKq (Kd.C_below HR244_3.out HB.out))
         (case side2 => exact HC244_3.out)
         (case side3 => exact hKq (Kd.C_below HR244_4.out HB.out))
         (case side4 => exact HC244_4.out)
         (case side5 => exact hKq (Kd.C_below HR245_3.out HB.out))
         (case side6 => exact HC245_3.out)
         (case side7 => exact hKq (Kd.C_below HR245_4.out HB.out))
         (case side8 => exact HC245_4.out)
         rintro e w14 ⟨rfl,hb⟩
         refine ⟨_,rfl,?_⟩
         have n0_ := za.mk (ze hBq hb)
         clear HB
         have HB := n0_
         clear n0_
         (try clear hb)
         (try clear hb2)
         (try clear hk)
         (try clear hi)
         refine hK.out _ _ ⟨((HB.out.cell (World.block_lt_of_cell? w _ hw244_0)).trans hw244_0),((HB.out.cell (World.block_lt_of_cell? w _ hw244_1)).trans hw244_1),((HB.out.cell (World.block_lt_of_cell? w _ hw244_2)).trans hw244_2),((HB.out.cell (World.block_lt_of_cell? w _ hw244_3)).trans hw244_3),((HB.out.cell (World.block_lt_of_cell? w _ hw244_4)).trans hw244_4),((HB.out.cell (World.block_lt_of_cell? w _ hw244_5)).trans hw244_5),((HB.out.cell (World.block_lt_of_cell? w _ hw244_6)).trans hw244_6),((HB.out.cell (World.block_lt_of_cell? w _ hw245_0)).trans hw245_0),((HB.out.cell (World.block_lt_of_cell? w _ hw245_1)).trans hw245_1),((HB.out.cell (World.block_lt_of_cell? w _ hw245_2)).trans hw245_2),((HB.out.cell (World.block_lt_of_cell? w _ hw245_3)).trans hw245_3),((HB.out.cell (World.block_lt_of_cell? w _ hw245_4)).trans hw245_4),((HB.out.cell (World.block_lt_of_cell? w _ hw245_5)).trans hw245_5),((HB.out.cell (World.block_lt_of_cell? w _ hw245_6)).trans hw245_6)⟩ (fun hHeld => ?_)
         clear hK K
         refine zbk (a' := ?_) ?_ ?_
         rotate_left
         ·show Act.put _ (some 28) _ = _
          simp only [Act.put,List.setIfInBounds_toArray,List.set_cons_zero,List.set_cons_succ,zaw,zaB]
          rfl
         refine puq (i := 11) (N := some 6) HT_.out (uQ 12 12) ?_
         refine zbJ (zaU HT_.out (by kernel_rfl)) ?_
         try go_wp2
         have n0_ := za.mk (zo HB.out)
         clear HB
         have HB := n0_
         clear n0_
         have p247 : 0 ≤ (x5_1 : Int) := hFq
         have q247 : x5_1 < (l0.length : Int) := hFq
         obtain ⟨ad247,A247_3,c247_3,A247_4,c247_4,e247,hx247_0,hx247_1,hx247_2,hx247_3,hx247_4,hx247_5,hx247_6,hl247_3,hi247_3,hl247_4,hi247_4⟩ := zaG HR0.out x5_1 p247 q247
         have hw247_6 := hx247_6
         have hw247_5 := hx247_5
         have hw247_4 := hx247_4
         have hw247_3 := hx247_3
         have hw247_2 := hx247_2
         have hw247_1 := hx247_1
         have hw247_0 := hx247_0
         obtain rfl : ad244 = ad247 := (by injection e247)
         replace hx247_0 := (HB.out.cell (World.block_lt_of_cell? w _ hx247_0)).trans hx247_0
         replace hx247_1 := (HB.out.cell (World.block_lt_of_cell? w _ hx247_1)).trans hx247_1
         replace hx247_2 := (HB.out.cell (World.block_lt_of_cell? w _ hx247_2)).trans hx247_2
         replace hx247_3 := (HB.out.cell (World.block_lt_of_cell? w _ hx247_3)).trans hx247_3
         replace hx247_4 := (HB.out.cell (World.block_lt_of_cell? w _ hx247_4)).trans hx247_4
         replace hx247_5 := (HB.out.cell (World.block_lt_of_cell? w _ hx247_5)).trans hx247_5
         replace hx247_6 := (HB.out.cell (World.block_lt_of_cell? w _ hx247_6)).trans hx247_6
         have HR247_3 := za.mk hi247_3
         have HC247_3 := za.mk hl247_3
         clear hi247_3 hl247_3
         have HR247_4 := za.mk hi247_4
         have HC247_4 := za.mk hl247_4
         clear hi247_4 hl247_4
         replace p247 := eq_true p247
         replace q247 := eq_true q247
         have p248 : 0 ≤ (x5_1 : Int) := hFq
         have q248 : x5_1 < (l1.length : Int) := hFq
         obtain ⟨ad248,A248_3,c248_3,A248_4,c248_4,e248,hx248_0,hx248_1,hx248_2,hx248_3,hx248_4,hx248_5,hx248_6,hl248_3,hi248_3,hl248_4,hi248_4⟩ := zaG HR1.out x5_1 p248 q248
         have hw248_6 := hx248_6
         have hw248_5 := hx248_5
         have hw248_4 := hx248_4
         have hw248_3 := hx248_3
         have hw248_2 := hx248_2
         have hw248_1 := hx248_1
         have hw248_0 := hx248_0
         obtain rfl : ad245 = ad248 := (by injection e248)
         replace hx248_0 := (HB.out.cell (World.block_lt_of_cell? w _ hx248_0)).trans hx248_0
         replace hx248_1 := (HB.out.cell (World.block_lt_of_cell? w _ hx248_1)).trans hx248_1
         replace hx248_2 := (HB.out.cell (World.block_lt_of_cell? w _ hx248_2)).trans hx248_2
         replace hx248_3 := (HB.out.cell (World.block_lt_of_cell? w _ hx248_3)).trans hx248_3
         replace hx248_4 := (HB.out.cell (World.block_lt_of_cell? w _ hx248_4)).trans hx248_4
         replace hx248_5 := (HB.out.cell (World.block_lt_of_cell? w _ hx248_5)).trans hx248_5
         replace hx248_6 := (HB.out.cell (World.block_lt_of_cell? w _ hx248_6)).trans hx248_6
         have HR248_3 := za.mk hi248_3
         have HC248_3 := za.mk hl248_3
         clear hi248_3 hl248_3
         have HR248_4 := za.mk hi248_4
         have HC248_4 := za.mk hl248_4
         clear hi248_4 hl248_4
         replace p248 := eq_true p248
         replace q248 := eq_true q248
         refine zbH (n := 15) (S := fun w' => w'.cell? (ad244.add ((x5_1).toNat * 7)) = some (.string ((zd l0 x5_1).f0)) ∧ w'.cell? ⟨(ad244.add ((x5_1).toNat * 7)).block,(ad244.add ((x5_1).toNat * 7)).off + 1,none⟩ = some (.int .i64 ((zd l0 x5_1).f1.f0)) ∧ w'.cell? ⟨(ad244.add ((x5_1).toNat * 7)).block,(ad244.add ((x5_1).toNat * 7)).off + 2,none⟩ = some (.int .i64 ((zd l0 x5_1).f1.f1)) ∧ w'.cell? ⟨(ad244.add ((x5_1).toNat * 7)).block,(ad244.add ((x5_1).toNat * 7)).off + 3,none⟩ = some (.slice A247_3 ((zd l0 x5_1).f1.f2).length c247_3) ∧ w'.cell? ⟨(ad244.add ((x5_1).toNat * 7)).block,(ad244.add ((x5_1).toNat * 7)).off + 4,none⟩ = some (.slice A247_4 ((zd l0 x5_1).f1.f3).length c247_4) ∧ w'.cell? ⟨(ad244.add ((x5_1).toNat * 7)).block,(ad244.add ((x5_1).toNat * 7)).off + 5,none⟩ = some (.int .i64 ((zd l0 x5_1).f1.f4.f0)) ∧ w'.cell? ⟨(ad244.add ((x5_1).toNat * 7)).block,(ad244.add ((x5_1).toNat * 7)).off + 6,none⟩ = some (.int .i64 ((zd l0 x5_1).f1.f4.f1)) ∧ w'.cell? (ad245.add ((x5_1).toNat * 7)) = some (.string ((zd l1 x5_1).f0)) ∧ w'.cell? ⟨(ad245.add ((x5_1).toNat * 7)).block,(ad245.add ((x5_1).toNat * 7)).off + 1,none⟩ = some (.int .i64 ((zd l1 x5_1).f1.f0)) ∧ w'.cell? ⟨(ad245.add ((x5_1).toNat * 7)).block,(ad245.add ((x5_1).toNat * 7)).off + 2,none⟩ = some (.int .i64 ((zd l1 x5_1).f1.f1)) ∧ w'.cell? ⟨(ad245.add ((x5_1).toNat * 7)).block,(ad245.add ((x5_1).toNat * 7)).off + 3,none⟩ = some (.slice A248_3 ((zd l1 x5_1).f1.f2).length c248_3) ∧ w'.cell? ⟨(ad245.add ((x5_1).toNat * 7)).block,(ad245.add ((x5_1).toNat * 7)).off + 4,none⟩ = some (.slice A248_4 ((zd l1 x5_1).f1.f3).length c248_4) ∧ w'.cell? ⟨(ad245.add ((x5_1).toNat * 7)).block,(ad245.add ((x5_1).toNat * 7)).off + 5,none⟩ = some (.int .i64 ((zd l1 x5_1).f1.f4.f0)) ∧ w'.cell? ⟨(ad245.add ((x5_1).toNat * 7)).block,(ad245.add ((x5_1).toNat * 7)).off + 6,none⟩ = some (.int .i64 ((zd l1 x5_1).f1.f4.f1))) (ds := []) (uQ 15 0) (by kernel_rfl) rfl rfl ⟨((HB.out.cell (World.block_lt_of_cell? w _ hw247_0)).trans hw247_0),((HB.out.cell (World.block_lt_of_cell? w _ hw247_1)).trans hw247_1),((HB.out.cell (World.block_lt_of_cell? w _ hw247_2)).trans hw247_2),((HB.out.cell (World.block_lt_of_cell? w _ hw247_3)).trans hw247_3),((HB.out.cell (World.block_lt_of_cell? w _ hw247_4)).trans hw247_4),((HB.out.cell (World.block_lt_of_cell? w _ hw247_5)).trans hw247_5),((HB.out.cell (World.block_lt_of_cell? w _ hw247_6)).trans hw247_6),((HB.out.cell (World.block_lt_of_cell? w _ hw248_0)).trans hw248_0),((HB.out.cell (World.block_lt_of_cell? w _ hw248_1)).trans hw248_1),((HB.out.cell (World.block_lt_of_cell? w _ hw248_2)).trans hw248_2),((HB.out.cell (World.block_lt_of_cell? w _ hw248_3)).trans hw248_3),((HB.out.cell (World.block_lt_of_cell? w _ hw248_4)).trans hw248_4),((HB.out.cell (World.block_lt_of_cell? w _ hw248_5)).trans hw248_5),((HB.out.cell (World.block_lt_of_cell? w _ hw248_6)).trans hw248_6)⟩ (fun hHeld => ?_);refine zaO zp.tab7 zp.bits7 (fun HT_ HW_ => ?_)
         generalize w14.drew = w15 at HB HR247_3 HR247_4 HR248_3 HR248_4 hx247_0 hx247_1 hx247_2 hx247_3 hx247_4 hx247_5 hx247_6 hx248_0 hx248_1 hx248_2 hx248_3 hx248_4 hx248_5 hx248_6 hHeld ⊢
         refine puq (i := 0) (N := some 29) HT_.out (uQ 15 1) ?_
         refine puq (i := 1) (N := some 30) HT_.out (uQ 15 2) ?_
         refine puq (i := 2) (N := some 31) HT_.out (uQ 15 3) ?_
         refine puq (i := 3) (N := some 32) HT_.out (uQ 15 4) ?_
         refine puq (i := 4) (N := some 33) HT_.out (uQ 15 5) ?_
         refine puq (i := 5) (N := some 34) HT_.out (uQ 15 6) ?_
         refine puq (i := 6) (N := some 35) HT_.out (uQ 15 7) ?_
         refine puq (i := 8) (N := some 37) HT_.out #[true,true,true,true,true,true,true,false,true,false,false,false,false,false,false] ?_
         refine puq (i := 9) (N := some 38) HT_.out #[true,true,true,true,true,true,true,false,true,true,false,false,false,false,false] ?_
         refine puq (i := 10) (N := some 39) HT_.out #[true,true,true,true,true,true,true,false,true,true,true,false,false,false,false] ?_
         refine puq (i := 11) (N := some 40) HT_.out #[true,true,true,true,true,true,true,false,true,true,true,true,false,false,false] ?_
         refine take_ (i := 7) (N := some 36) (uQ 15 12) rfl rfl (zY HT_.out HW_.out (by kernel_rfl)) (fun _ _ _ h => h) (Or.inl ⟨by rfl,by rintro w' ⟨s0,s1,s2,s3,s4,s5,s6,s7,s8,s9,s10,s11,s12,s13⟩;go_simp;with_reducible rfl⟩) hHeld hPq ?_
         refine take_ (i := 12) (N := some 41) (uQ 15 13) rfl rfl (zY HT_.out HW_.out (by kernel_rfl)) (fun _ _ _ h => h) (Or.inl ⟨by rfl,by rintro w' ⟨s0,s1,s2,s3,s4,s5,s6,s7,s8,s9,s10,s11,s12,s13⟩;go_simp;with_reducible rfl⟩) hHeld hPq ?_
         refine puq (i := 13) (N := some 42) HT_.out (uQ 15 14) ?_
         refine puq (i := 14) (N := some 43) HT_.out (uQ 15 15) ?_
         refine zbJ (zaU HT_.out (by kernel_rfl)) ?_
         try go_wp2
         go_ret
         exact ⟨hHq,hBq⟩
       ·replace c8 := Bool.eq_false_iff.mpr c8
        subst c8
        have H1 : (some false) = some r := by rw [if_neg (show ¬ (false = true) by decide)] at H;exact H
        clear H
        have H := H1
        clear H1
        obtain rfl := Option.some.inj H
        try go_wp2
        have n0_ := za.mk (zo HB.out)
        clear HB
        have HB := n0_
        clear n0_
        have p244 : 0 ≤ (x5_1 : Int) := hFq
        have q244 : x5_1 < (l0.length : Int) := hFq
        obtain ⟨ad244,A244_3,c244_3,A244_4,c244_4,e244,hx244_0,hx244_1,hx244_2,hx244_3,hx244_4,hx244_5,hx244_6,hl244_3,hi244_3,hl244_4,hi244_4⟩ := zaG HR0.out x5_1 p244 q244
        have hw244_6 := hx244_6
        have hw244_5 := hx244_5
        have hw244_4 := hx244_4
        have hw244_3 := hx244_3
        have hw244_2 := hx244_2
        have hw244_1 := hx244_1
        have hw244_0 := hx244_0
        cases e244
        replace hx244_0 := (HB.out.cell (World.block_lt_of_cell? w _ hx244_0)).trans hx244_0
        replace hx244_1 := (HB.out.cell (World.block_lt_of_cell? w _ hx244_1)).trans hx244_1
        replace hx244_2 := (HB.out.cell (World.block_lt_of_cell? w _ hx244_2)).trans hx244_2
        replace hx244_3 := (HB.out.cell (World.block_lt_of_cell? w _ hx244_3)).trans hx244_3
        replace hx244_4 := (HB.out.cell (World.block_lt_of_cell? w _ hx244_4)).trans hx244_4
        replace hx244_5 := (HB.out.cell (World.block_lt_of_cell? w _ hx244_5)).trans hx244_5
        replace hx244_6 := (HB.out.cell (World.block_lt_of_cell? w _ hx244_6)).trans hx244_6
        have HR244_3 := za.mk hi244_3
        have HC244_3 := za.mk hl244_3
        clear hi244_3 hl244_3
        have HR244_4 := za.mk hi244_4
        have HC244_4 := za.mk hl244_4
        clear hi244_4 hl244_4
        replace p244 := eq_true p244
        replace q244 := eq_true q244
        have p245 : 0 ≤ (x5_1 : Int) := hFq
        have q245 : x5_1 < (l1.length : Int) := hFq
        obtain ⟨ad245,A245_3,c245_3,A245_4,c245_4,e245,hx245_0,hx245_1,hx245_2,hx245_3,hx245_4,hx245_5,hx245_6,hl245_3,hi245_3,hl245_4,hi245_4⟩ := zaG HR1.out x5_1 p245 q245
        have hw245_6 := hx245_6
        have hw245_5 := hx245_5
        have hw245_4 := hx245_4
        have hw245_3 := hx245_3
        have hw245_2 := hx245_2
        have hw245_1 := hx245_1
        have hw245_0 := hx245_0
        cases e245
        replace hx245_0 := (HB.out.cell (World.block_lt_of_cell? w _ hx245_0)).trans hx245_0
        replace hx245_1 := (HB.out.cell (World.block_lt_of_cell? w _ hx245_1)).trans hx245_1
        replace hx245_2 := (HB.out.cell (World.block_lt_of_cell? w _ hx245_2)).trans hx245_2
        replace hx245_3 := (HB.out.cell (World.block_lt_of_cell? w _ hx245_3)).trans hx245_3
        replace hx245_4 := (HB.out.cell (World.block_lt_of_cell? w _ hx245_4)).trans hx245_4
        replace hx245_5 := (HB.out.cell (World.block_lt_of_cell? w _ hx245_5)).trans hx245_5
        replace hx245_6 := (HB.out.cell (World.block_lt_of_cell? w _ hx245_6)).trans hx245_6
        have HR245_3 := za.mk hi245_3
        have HC245_3 := za.mk hl245_3
        clear hi245_3 hl245_3
        have HR245_4 := za.mk hi245_4
        have HC245_4 := za.mk hl245_4
        clear hi245_4 hl245_4
        replace p245 := eq_true p245
        replace q245 := eq_true q245
        refine zbH (n := 12) (S := fun w' => w'.cell? (ad244.add ((x5_1).toNat * 7)) = some (.string ((zd l0 x5_1).f0)) ∧ w'.cell? ⟨(ad244.add ((x5_1).toNat * 7)).block,(ad244.add ((x5_1).toNat * 7)).off + 1,none⟩ = some (.int .i64 ((zd l0 x5_1).f1.f0)) ∧ w'.cell? ⟨(ad244.add ((x5_1).toNat * 7)).block,(ad244.add ((x5_1).toNat * 7)).off + 2,none⟩ = some (.int .i64 ((zd l0 x5_1).f1.f1)) ∧ w'.cell? ⟨(ad244.add ((x5_1).toNat * 7)).block,(ad244.add ((x5_1).toNat * 7)).off + 3,none⟩ = some (.slice A244_3 ((zd l0 x5_1).f1.f2).length c244_3) ∧ w'.cell? ⟨(ad244.add ((x5_1).toNat * 7)).block,(ad244.add ((x5_1).toNat * 7)).off + 4,none⟩ = some (.slice A244_4 ((zd l0 x5_1).f1.f3).length c244_4) ∧ w'.cell? ⟨(ad244.add ((x5_1).toNat * 7)).block,(ad244.add ((x5_1).toNat * 7)).off + 5,none⟩ = some (.int .i64 ((zd l0 x5_1).f1.f4.f0)) ∧ w'.cell? ⟨(ad244.add ((x5_1).toNat * 7)).block,(ad244.add ((x5_1).toNat * 7)).off + 6,none⟩ = some (.int .i64 ((zd l0 x5_1).f1.f4.f1)) ∧ w'.cell? (ad245.add ((x5_1).toNat * 7)) = some (.string ((zd l1 x5_1).f0)) ∧ w'.cell? ⟨(ad245.add ((x5_1).toNat * 7)).block,(ad245.add ((x5_1).toNat * 7)).off + 1,none⟩ = some (.int .i64 ((zd l1 x5_1).f1.f0)) ∧ w'.cell? ⟨(ad245.add ((x5_1).toNat * 7)).block,(ad245.add ((x5_1).toNat * 7)).off + 2,none⟩ = some (.int .i64 ((zd l1 x5_1).f1.f1)) ∧ w'.cell? ⟨(ad245.add ((x5_1).toNat * 7)).block,(ad245.add ((x5_1).toNat * 7)).off + 3,none⟩ = some (.slice A245_3 ((zd l1 x5_1).f1.f2).length c245_3) ∧ w'.cell? ⟨(ad245.add ((x5_1).toNat * 7)).block,(ad245.add ((x5_1).toNat * 7)).off + 4,none⟩ = some (.slice A245_4 ((zd l1 x5_1).f1.f3).length c245_4) ∧ w'.cell? ⟨(ad245.add ((x5_1).toNat * 7)).block,(ad245.add ((x5_1).toNat * 7)).off + 5,none⟩ = some (.int .i64 ((zd l1 x5_1).f1.f4.f0)) ∧ w'.cell? ⟨(ad245.add ((x5_1).toNat * 7)).block,(ad245.add ((x5_1).toNat * 7)).off + 6,none⟩ = some (.int .i64 ((zd l1 x5_1).f1.f4.f1))) (ds := []) (uQ 12 0) (by kernel_rfl) rfl rfl ⟨((HB.out.cell (World.block_lt_of_cell? w _ hw244_0)).trans hw244_0),((HB.out.cell (World.block_lt_of_cell? w _ hw244_1)).trans hw244_1),((HB.out.cell (World.block_lt_of_cell? w _ hw244_2)).trans hw244_2),((HB.out.cell (World.block_lt_of_cell? w _ hw244_3)).trans hw244_3),((HB.out.cell (World.block_lt_of_cell? w _ hw244_4)).trans hw244_4),((HB.out.cell (World.block_lt_of_cell? w _ hw244_5)).trans hw244_5),((HB.out.cell (World.block_lt_of_cell? w _ hw244_6)).trans hw244_6),((HB.out.cell (World.block_lt_of_cell? w _ hw245_0)).trans hw245_0),((HB.out.cell (World.block_lt_of_cell? w _ hw245_1)).trans hw245_1),((HB.out.cell (World.block_lt_of_cell? w _ hw245_2)).trans hw245_2),((HB.out.cell (World.block_lt_of_cell? w _ hw245_3)).trans hw245_3),((HB.out.cell (World.block_lt_of_cell? w _ hw245_4)).trans hw245_4),((HB.out.cell (World.block_lt_of_cell? w _ hw245_5)).trans hw245_5),((HB.out.cell (World.block_lt_of_cell? w _ hw245_6)).trans hw245_6)⟩ (fun hHeld => ?_);refine zaO zp.tab6 zp.bits6 (fun HT_ HW_ => ?_)
        generalize wr.drew = w16 at HB HR244_3 HR244_4 HR245_3 HR245_4 hx244_0 hx244_1 hx244_2 hx244_3 hx244_4 hx244_5 hx244_6 hx245_0 hx245_1 hx245_2 hx245_3 hx245_4 hx245_5 hx245_6 hHeld ⊢
        refine puq (i := 0) (N := some 18) HT_.out (uQ 12 1) ?_
        refine puq (i := 1) (N := some 19) HT_.out (uQ 12 2) ?_
        refine puq (i := 2) (N := some 20) HT_.out (uQ 12 3) ?_
        refine puq (i := 3) (N := some 21) HT_.out (uQ 12 4) ?_
        refine puq (i := 5) (N := some 23) HT_.out #[true,true,true,true,false,true,false,false,false,false,false,false] ?_
        refine puq (i := 6) (N := some 24) HT_.out #[true,true,true,true,false,true,true,false,false,false,false,false] ?_
        refine puq (i := 7) (N := some 25) HT_.out #[true,true,true,true,false,true,true,true,false,false,false,false] ?_
        refine puq (i := 8) (N := some 26) HT_.out #[true,true,true,true,false,true,true,true,true,false,false,false] ?_
        refine take_ (i := 4) (N := some 22) (uQ 12 9) rfl rfl (zY HT_.out HW_.out (by kernel_rfl)) (fun _ _ _ h => h) (Or.inl ⟨by rfl,by rintro w' ⟨s0,s1,s2,s3,s4,s5,s6,s7,s8,s9,s10,s11,s12,s13⟩;go_simp;with_reducible rfl⟩) hHeld hPq ?_
        refine take_ (i := 9) (N := some 27) (uQ 12 10) rfl rfl (zY HT_.out HW_.out (by kernel_rfl)) (fun _ _ _ h => h) (Or.inl ⟨by rfl,by rintro w' ⟨s0,s1,s2,s3,s4,s5,s6,s7,s8,s9,s10,s11,s12,s13⟩;go_simp;with_reducible rfl⟩) hHeld hPq ?_
        refine zb1 (i := 10) (N := some 28) (uQ 12 11) rfl rfl (zaR HT_.out (by kernel_rfl)) (by decide) (fun K hK => ?_)
        refine zbu Tryz.func41 (by kernel_rfl) rfl #[.agg #[.int .i64 ((zd l0 x5_1).f1.f0),.int .i64 ((zd l0 x5_1).f1.f1),.slice A244_3 ((zd l0 x5_1).f1.f2).length c244_3,.slice A244_4 ((zd l0 x5_1).f1.f3).length c244_4,.int .i64 ((zd l0 x5_1).f1.f4.f0),.int .i64 ((zd l0 x5_1).f1.f4.f1)],.agg #[.int .i64 ((zd l1 x5_1).f1.f0),.int .i64 ((zd l1 x5_1).f1.f1),.slice A245_3 ((zd l1 x5_1).f1.f2).length c245_3,.slice A245_4 ((zd l1 x5_1).f1.f3).length c245_4,.int .i64 ((zd l1 x5_1).f1.f4.f0),.int .i64 ((zd l1 x5_1).f1.f4.f1)]] (by rfl) rfl rfl hMq ?_
        with_reducible refine (za1.calls k1 ((zd l0 x5_1).f1.f0) ((zd l0 x5_1).f1.f1) _ _ ((zd l0 x5_1).f1.f2) _ _ ((zd l0 x5_1).f1.f3) ((zd l0 x5_1).f1.f4.f0) ((zd l0 x5_1).f1.f4.f1) ((zd l1 x5_1).f1.f0) ((zd l1 x5_1).f1.f1) _ _ ((zd l1 x5_1).f1.f2) _ _ ((zd l1 x5_1).f1.f3) ((zd l1 x5_1).f1.f4.f0) ((zd l1 x5_1).f1.f4.f1) false _ ?side1 ?side2 ?side3 ?side4 ?side5 ?side6 ?side7 ?side8 A7.out).mono ?_
        (case side1 => exact hKq (Kd.C_below HR244_3.out HB.out))
        (case side2 => exact HC244_3.out)
        (case side3 => exact hKq (Kd.C_below HR244_4.out HB.out))
        (case side4 => exact HC244_4.out)
        (case side5 => exact hKq (Kd.C_below HR245_3.out HB.out))
        (case side6 => exact HC245_3.out)
        (case side7 => exact hKq (Kd.C_below HR245_4.out HB.out))
        (case side8 => exact HC245_4.out)
        rintro e w17 ⟨rfl,hb⟩
        refine ⟨_,rfl,?_⟩
        have n0_ := za.mk (ze hBq hb)
        clear HB
        have HB := n0_
        clear n0_
        (try clear hb)
        (try clear hb2)
        (try clear hk)
        (try clear hi)
        refine hK.out _ _ ⟨((HB.out.cell (World.block_lt_of_cell? w _ hw244_0)).trans hw244_0),((HB.out.cell (World.block_lt_of_cell? w _ hw244_1)).trans hw244_1),((HB.out.cell (World.block_lt_of_cell? w _ hw244_2)).trans hw244_2),((HB.out.cell (World.block_lt_of_cell? w _ hw244_3)).trans hw244_3),((HB.out.cell (World.block_lt_of_cell? w _ hw244_4)).trans hw244_4),((HB.out.cell (World.block_lt_of_cell? w _ hw244_5)).trans hw244_5),((HB.out.cell (World.block_lt_of_cell? w _ hw244_6)).trans hw244_6),((HB.out.cell (World.block_lt_of_cell? w _ hw245_0)).trans hw245_0),((HB.out.cell (World.block_lt_of_cell? w _ hw245_1)).trans hw245_1),((HB.out.cell (World.block_lt_of_cell? w _ hw245_2)).trans hw245_2),((HB.out.cell (World.block_lt_of_cell? w _ hw245_3)).trans hw245_3),((HB.out.cell (World.block_lt_of_cell? w _ hw245_4)).trans hw245_4),((HB.out.cell (World.block_lt_of_cell? w _ hw245_5)).trans hw245_5),((HB.out.cell (World.block_lt_of_cell? w _ hw245_6)).trans hw245_6)⟩ (fun hHeld => ?_)
        clear hK K
        refine zbk (a' := ?_) ?_ ?_
        rotate_left
        ·show Act.put _ (some 28) _ = _
         simp only [Act.put,List.setIfInBounds_toArray,List.set_cons_zero,List.set_cons_succ,zaw,zaB]
         rfl
        refine puq (i := 11) (N := some 6) HT_.out (uQ 12 12) ?_
        refine zbJ (zaU HT_.out (by kernel_rfl)) ?_
        try go_wp2
        have n0_ := za.mk (zo HB.out)
        clear HB
        have HB := n0_
        clear n0_
        refine zbH (n := 15) (S := fun w' => True) (ds := []) (uQ 15 0) (by kernel_rfl) rfl rfl trivial (fun hHeld => ?_);refine zaO zp.tab7 zp.bits7 (fun HT_ HW_ => ?_)
        generalize w17.drew = w18 at HB hHeld ⊢
        refine puq (i := 0) (N := some 29) HT_.out (uQ 15 1) ?_
        refine puq (i := 1) (N := some 30) HT_.out (uQ 15 2) ?_
        refine puq (i := 2) (N := some 31) HT_.out (uQ 15 3) ?_
        refine zdq (i := 3) (N := some 32) (v := undef) (a' := ?_) (uQ 15 4) rfl rfl (zcp HT_.out (by kernel_rfl)) (fun _ _ _ h => h) (Or.inr ⟨by rfl,rfl⟩) ?_ ?_
        rotate_left
        ·simp only [Act.put,List.setIfInBounds_toArray,List.set_cons_zero,List.set_cons_succ,zaw,zaB]
         rfl
        refine zdq (i := 4) (N := some 33) (v := undef) (a' := ?_) (uQ 15 5) rfl rfl (zcp HT_.out (by kernel_rfl)) (fun _ _ _ h => h) (Or.inr ⟨by rfl,rfl⟩) ?_ ?_
        rotate_left
        ·simp only [Act.put,List.setIfInBounds_toArray,List.set_cons_zero,List.set_cons_succ,zaw,zaB]
         rfl
        refine zdq (i := 5) (N := some 34) (v := undef) (a' := ?_) (uQ 15 6) rfl rfl (zcp HT_.out (by kernel_rfl)) (fun _ _ _ h => h) (Or.inr ⟨by rfl,rfl⟩) ?_ ?_
        rotate_left
        ·simp only [Act.put,List.setIfInBounds_toArray,List.set_cons_zero,List.set_cons_succ,zaw,zaB]
         rfl
        refine zdq (i := 6) (N := some 35) (v := undef) (a' := ?_) (uQ 15 7) rfl rfl (zcp HT_.out (by kernel_rfl)) (fun _ _ _ h => h) (Or.inr ⟨by rfl,rfl⟩) ?_ ?_
        rotate_left
        ·simp only [Act.put,List.setIfInBounds_toArray,List.set_cons_zero,List.set_cons_succ,zaw,zaB]
         rfl
        refine zdq (i := 7) (N := some 36) (v := undef) (a' := ?_) (uQ 15 8) rfl rfl (zcp HT_.out (by kernel_rfl)) (fun _ _ _ h => h) (Or.inr ⟨by rfl,rfl⟩) ?_ ?_
        rotate_left
        ·simp only [Act.put,List.setIfInBounds_toArray,List.set_cons_zero,List.set_cons_succ,zaw,zaB]
         rfl
        refine zdq (i := 8) (N := some 37) (v := undef) (a' := ?_) (uQ 15 9) rfl rfl (zcp HT_.out (by kernel_rfl)) (fun _ _ _ h => h) (Or.inr ⟨by rfl,rfl⟩) ?_ ?_
        rotate_left
        ·simp only [Act.put,List.setIfInBounds_toArray,List.set_cons_zero,List.set_cons_succ,zaw,zaB]
         rfl
        refine zdq (i := 9) (N := some 38) (v := undef) (a' := ?_) (uQ 15 10) rfl rfl (zcp HT_.out (by kernel_rfl)) (fun _ _ _ h => h) (Or.inr ⟨by rfl,rfl⟩) ?_ ?_
        rotate_left
        ·simp only [Act.put,List.setIfInBounds_toArray,List.set_cons_zero,List.set_cons_succ,zaw,zaB]
         rfl
        refine zdq (i := 10) (N := some 39) (v := undef) (a' := ?_) (uQ 15 11) rfl rfl (zcp HT_.out (by kernel_rfl)) (fun _ _ _ h => h) (Or.inr ⟨by rfl,rfl⟩) ?_ ?_
        rotate_left
        ·simp only [Act.put,List.setIfInBounds_toArray,List.set_cons_zero,List.set_cons_succ,zaw,zaB]
         rfl
        refine zdq (i := 11) (N := some 40) (v := undef) (a' := ?_) (uQ 15 12) rfl rfl (zcp HT_.out (by kernel_rfl)) (fun _ _ _ h => h) (Or.inr ⟨by rfl,rfl⟩) ?_ ?_
        rotate_left
        ·simp only [Act.put,List.setIfInBounds_toArray,List.set_cons_zero,List.set_cons_succ,zaw,zaB]
         rfl
        refine zdq (i := 12) (N := some 41) (v := undef) (a' := ?_) (uQ 15 13) rfl rfl (zcp HT_.out (by kernel_rfl)) (fun _ _ _ h => h) (Or.inr ⟨by rfl,rfl⟩) ?_ ?_
        rotate_left
        ·simp only [Act.put,List.setIfInBounds_toArray,List.set_cons_zero,List.set_cons_succ,zaw,zaB]
         rfl
        refine zdq (i := 13) (N := some 42) (v := undef) (a' := ?_) (uQ 15 14) rfl rfl (zcp HT_.out (by kernel_rfl)) (fun _ _ _ h => h) (Or.inr ⟨by rfl,rfl⟩) ?_ ?_
        rotate_left
        ·simp only [Act.put,List.setIfInBounds_toArray,List.set_cons_zero,List.set_cons_succ,zaw,zaB]
         rfl
        refine puq (i := 14) (N := some 43) HT_.out (uQ 15 15) ?_
        refine zbJ (zaU HT_.out (by kernel_rfl)) ?_
        try go_wp2
        go_ret
        exact ⟨hHq,hBq⟩
      ·rw [if_neg c6] at H
       exact absurd H (by simp)
     ·rw [if_neg c5] at H
      exact absurd H (by simp)
    ·rw [if_neg c4] at H
     have c4b0 : decide (x5_1 < (l0.length : Int)) = false := decide_eq_false c4
     clear c4
     obtain rfl := Option.some.inj H
     go_wp2
     go_ret
     exact ⟨hHq,hBq⟩
 ·rw [if_neg c3] at H
  have c3b0 : ((l0.length : Int) == (l1.length : Int)) = false := beq_eq_false_iff_ne.mpr c3
  have c3b1 : ((l0.length : Int) != (l1.length : Int)) = true := bne_iff_ne.mpr c3
  have c3b2 : (l0.length == l1.length) = false := by first | simpa using c3 | (simp at c3 ⊢;omega)
  obtain rfl := Option.some.inj H
  go_enter Tryz.func26,Tryz.ntmps26
  go_wp2
  go_ret
  exact ⟨hHq,hBq⟩
end Go.Proofs.YtlkfelmbhldgfaaGreat.Px