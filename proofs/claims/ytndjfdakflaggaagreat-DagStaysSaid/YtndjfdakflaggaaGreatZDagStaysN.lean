/- Part 14 of 15 of the proof of the law DagStays: what is proved is the statement at the end of the last part; its conditions are those of the given row. -/
import Derived.Test.YtndjfdakflaggaaGreatZDagStaysM
namespace Go.Proofs.YtndjfdakflaggaaGreat.Px
open Go.RowKit Go.Proofs.YtndjfdakflaggaaGreatW.PrintWords Go.Proofs.YtndjfdakflaggaaGreatW.PrintLast Go.Proofs.YtndjfdakflaggaaGreatW.PrintMore
attribute [local go_sem] zA zC zH zI zv zw zB zD
set_option linter.unusedVariables false
set_option linter.unusedSimpArgs false
mutual
def zg.j0 : Nat → List (S35) → Int → Bool → Bool → Int → Int → Option (Bool)
 | 0,_,_,_,_,_,_ => none
 | k + 1,x1,x2,x7,x28,yA,yB => if x28 = true then (some x7) else (zg.l0 k x1 x2 0 0 yA yB ([] : List (S39)))
def zg.l0 : Nat → List (S35) → Int → Int → Int → Int → Int → List (S39) → Option (Bool)
 | 0,_,_,_,_,_,_,_ => none
 | k + 1,x1,x2,x9,x10,yA,yB,yv => if x10 < (x1.length : Int) then (if 0 ≤ x10 then ((zar.f yA yB yv ((zN x1 x10).f0) ((zN x1 x10).f1) ((zN x1 x10).f2) ((zN x1 x10).f3) ((zN x1 x10).f4.f0) ((zN x1 x10).f4.f1)).bind fun jl => (if jl.2.2.2 = 0 then (zg.l0 k x1 x2 (wrap64 (x9 + 1)) (wrap64 (x10 + 1)) jl.1 jl.2.1 jl.2.2.1) else (zg.l0 k x1 x2 x9 (wrap64 (x10 + 1)) jl.1 jl.2.1 jl.2.2.1))) else (none)) else (if (yv.length : Int) = x9 then ((zF.f yA yB yv yA yB yv).bind fun j9 => (if j9 = true then (if x9 = 0 then (zg.j2 k x2 x9 true yA yB yv) else ((zk.f k yA yB yv).bind fun jx => (zg.j2 k x2 x9 jx yA yB yv))) else (some true))) else (some false))
def zg.j2 : Nat → Int → Int → Bool → Int → Int → List (S39) → Option (Bool)
 | 0,_,_,_,_,_,_ => none
 | k + 1,x2,x9,x14,yA,yB,yv => zg.l1 k x2 x9 x14 0 yA yB yv
def zg.l1 : Nat → Int → Int → Bool → Int → Int → Int → List (S39) → Option (Bool)
 | 0,_,_,_,_,_,_,_ => none
 | k + 1,x2,x9,x14,x15,yA,yB,yv => if x15 < (yv.length : Int) then (zg.l2 k x2 x9 x14 x15 0 yA yB yv) else ((zY.f yA yB yv x2).bind fun jI => (if x9 = 0 then (if x14 = true then (some true) else (some false)) else ((zk.f k jI.1 jI.2.1 jI.2.2).bind fun jy => (if x14 = true then (if jy = true then (some true) else (some (decide (jI.2.1 < 0)))) else (some false)))))
def zg.l2 : Nat → Int → Int → Bool → Int → Int → Int → Int → List (S39) → Option (Bool)
 | 0,_,_,_,_,_,_,_,_ => none
 | k + 1,x2,x9,x14,x15,x16,yA,yB,yv => if 0 ≤ x15 then (if x15 < (yv.length : Int) then (if x16 < (((zd yv x15).f1.f3).length : Int) then (if 0 ≤ x16 then ((zbx.f yA yB yv ((zd yv x15).f0) (zz ByteArray.empty ((zd yv x15).f1.f3) x16)).bind fun Ja => (if Ja = true then (zg.l2 k x2 x9 x14 x15 (wrap64 (x16 + 1)) yA yB yv) else (some false))) else (none)) else (zg.l1 k x2 x9 x14 (wrap64 (x15 + 1)) yA yB yv)) else (none)) else (none)
end
def zg.f (k : Nat) (a0 : Int) (l1 : List (S35)) (a2 : Int) : Option (Bool) := (zaO.f).bind fun YL => (if YL = true then (zg.j0 k l1 a2 YL (decide ((l1.length : Int) > 60)) a0 0) else (zg.j0 k l1 a2 YL true a0 0))
def zg.T9 : Bool × List (List Nat × List Nat) := (true,[([],[]),([],[]),([],[]),([1,2],[1,2]),([3],[3]),([0,4],[0,4]),([5],[5]),([6],[6]),([6],[6]),([],[]),([9,7,5,0,1,2,3,4,5,6,7,9],[7,9]),([8,10,0,1,2,3,4,5,6,7,8,9,10],[8])])
def zg.B9 : List Nat := [0,0,0,6,14,31,63,127,127,0,767,2047]
theorem zg.tab9 : zb5 .any (zdW Tryz.f3 9) = zg.T9 := by kernel_rfl
theorem zg.bits9 : zbJ zg.T9.2 zg.B9 = true := by kernel_rfl
def zg.T25 : Bool × List (List Nat × List Nat) := (true,[([],[]),([],[]),([1],[1]),([],[]),([2,3],[2,3]),([4],[4]),([5],[5]),([],[]),([7],[7]),([],[]),([8,9],[8,9]),([10],[10]),([11],[11]),([12],[12]),([],[]),([13,14],[13,14]),([15],[15]),([0,6,16],[0,6,16]),([17],[17])])
def zg.B25 : List Nat := [0,0,2,0,14,30,62,0,128,0,896,1920,3968,8064,0,32640,65408,131071,262143]
theorem zg.tab25 : zb5 .any (zdW Tryz.f3 25) = zg.T25 := by kernel_rfl
theorem zg.bits25 : zbJ zg.T25.2 zg.B25 = true := by kernel_rfl
set_option maxHeartbeats 8000000 in
set_option maxRecDepth 100000 in
theorem zg.calls (k : Nat) (a0 : Int) (A1 : Option Addr) (c1 : Nat) (l1 : List (S35)) (a2 : Int) (r : Bool) (w : World) (hr1 : Kd.C k35 w A1 l1.length l1) (hc1 : l1.length ≤ c1) (h : zg.f k a0 l1 a2 = some r) :
  Calls Tryz.prog 3 #[.int .i64 a0,.slice A1 l1.length c1,.int .i64 a2] w fun e w' => e = .returned (.bool r) ∧ Below w.heap.size w w' := by
 have hu26 := Tryz.underlying26
 have hu35 := Tryz.underlying35
 have HR1 := za.mk hr1
 have HC1 := za.mk hc1
 clear hr1 hc1
 have HB := za.mk (Below.refl w.heap.size w)
 have H : ((zaO.f).bind fun YL => (if YL = true then (zg.j0 k l1 a2 YL (decide ((l1.length : Int) > 60)) a0 0) else (zg.j0 k l1 a2 YL true a0 0))) = some r := h
 clear h
 replace H := Option.bind_eq_some_iff.mp H
 obtain ⟨YL,A40,H⟩ := H
 replace H : (if YL = true then (zg.j0 k l1 a2 YL (decide ((l1.length : Int) > 60)) a0 0) else (zg.j0 k l1 a2 YL true a0 0)) = some r := H
 have A4 := za.mk A40
 clear A40
 have HC5 := za.mk H
 clear H
 go_enter Tryz.func3,Tryz.ntmps3
 go_upto_region 3 with (first | ((with_reducible refine zQ (f := 4) rfl ?_);refine zaB (some 19) rfl rfl Tryz.func4 (by kernel_rfl) rfl #[] rfl hMq ?_;(with_reducible refine (zaO.calls  YL _ A4.out).mono ?_);rintro e w6 ⟨rfl,hb⟩;refine ⟨_,rfl,?_⟩;have n_ := haq (ze hBq hb) <| trivial;clear HB;obtain ⟨HB,_⟩ := n_;(try clear hb);(try clear hb2);(try clear hk);(try clear hi)) | ((with_reducible refine zq (N := 8) rfl ?_);(try (refine zbq (by rfl) ?_;dsimp only));refine zn rfl (N := 8) rfl (cs := #[.int .i64 0,.int .i64 0,.slice none 0 0]) (t := 26) hrq ?_;intro yh hg w7 hbox hb;have n_ := haq (ze hBq hb) <| haq (hbox) <| haq ((by rw [hg];exact (zh hBq) : w.heap.size ≤ yh)) <| haq ((by rw [hg];exact (zh hBq) : w.heap.size ≤ yh)) <| trivial;clear HB;obtain ⟨HB,yc,jh,YF,_⟩ := n_;clear hb hbox hg;obtain ⟨hcz8_0,hcz8_1,hcz8_2,hfz8_0,hfz8_1,hfz8_2⟩ := hcq3 yc.out))
 (try simp only [Act.put,List.setIfInBounds_toArray,List.set_cons_zero,List.set_cons_succ])
 go_cut [28] (fun v28 wc => ∃ (kq : Nat) (x28_4 : Bool),v28 = .bool x28_4 ∧ za (zg.j0 kq l1 a2 YL x28_4 a0 0 = some r) ∧ za (kq ≤ k) ∧ za (wc.heap[yh]? = some (.cells #[.int .i64 a0,.int .i64 0,(.slice none 0 0)] 26 (0,0))) ∧ za (Below w.heap.size w wc))
 case first =>
  have H := HC5.out
  clear HC5
  by_cases c9 : YL = true
  ·subst c9
   have H1 : (zg.j0 k l1 a2 true (decide ((l1.length : Int) > 60)) a0 0) = some r := by rw [if_pos rfl] at H;exact H
   clear H
   have H := H1
   clear H1
   have H' := za.mk H
   clear H
   go_wp2
   go_meet
   case rel => exact ⟨_,(decide ((l1.length : Int) > 60)),(hDq),H',⟨by first | omega | exact Nat.le_refl _⟩,⟨hxq0p yc.out⟩,⟨by repeat (first | (with_reducible first | exact HB.out | apply zl | apply zi | apply zp | refine zm ?_ YF.out) | exact HB.out)⟩⟩
  ·replace c9 := Bool.eq_false_iff.mpr c9
   subst c9
   have H1 : (zg.j0 k l1 a2 false true a0 0) = some r := by rw [if_neg (show ¬ (false = true) by decide)] at H;exact H
   clear H
   have H := H1
   clear H1
   have H' := za.mk H
   clear H
   go_wp2
   go_meet
   case rel => exact ⟨_,(true),(hDq),H',⟨by first | omega | exact Nat.le_refl _⟩,⟨hxq0p yc.out⟩,⟨by repeat (first | (with_reducible first | exact HB.out | apply zl | apply zi | apply zp | refine zm ?_ YF.out) | exact HB.out)⟩⟩
 case rest =>
  clear HC5
  try clear c1;try clear p2;try clear c3;try clear c4;try clear c9;try clear hcz8_0;try clear hcz8_1;try clear hcz8_2;try clear hfz8_0;try clear hfz8_1;try clear hfz8_2
  obtain ⟨kq,x28_4,rfl,HA,HJ4,yc,HB⟩ := hcut
  cases kq with
  | zero => exact absurd HA.out (by simp [zg.j0])
  | succ kj4 =>
   have H := HA.out
   clear HA
   simp only [zg.j0] at H
   by_cases c10 : x28_4 = true
   ·subst c10
    have H1 : (some YL) = some r := by rw [if_pos rfl] at H;exact H
    clear H
    have H := H1
    clear H1
    obtain rfl := Option.some.inj H
    go_wp2
    go_ret
    exact ⟨hHq,hCq⟩
   ·replace c10 := Bool.eq_false_iff.mpr c10
    subst c10
    have H1 : (zg.l0 kj4 l1 a2 0 0 a0 0 ([] : List (S39))) = some r := by rw [if_neg (show ¬ (false = true) by decide)] at H;exact H
    clear H
    have H := H1
    clear H1
    have H' := za.mk H
    clear H
    go_wp2
    go_loopg [9,10] kj4 (fun kq v9 v10 w' => ∃ (x9_2 : Int) (x10_2 : Int) (yd : Int) (ye : Int) (ya : List (S39)) (u247002 : Value),v9 = .int .i64 x9_2 ∧ v10 = .int .i64 x10_2 ∧ za (zg.l0 kq l1 a2 x9_2 x10_2 yd ye ya = some r) ∧ za (kq ≤ kj4) ∧ za (Kd.V k39 39 w' w.heap.size (fun k_ => k_ ≠ yh) u247002 ya) ∧ za (w'.heap[yh]? = some (.cells #[.int .i64 yd,.int .i64 ye,u247002] 26 (0,0))) ∧ za (Below w.heap.size w w'))
    case atStart => exact ⟨(0),(0),(a0),(0),(([] : List (S39))),(.slice none 0 0),(hDq),(hDq),H',⟨Nat.le_refl _⟩,⟨Kd.V_nil _ _ _ _ _⟩,⟨hGq yc.out⟩,⟨by repeat (first | (with_reducible first | exact HB.out | apply zl | apply zi | apply zp | refine zm ?_ YF.out) | exact HB.out)⟩⟩
    case round =>
     clear H'
     try clear c1;try clear p2;try clear c3;try clear c4;try clear c9;try clear c10;try clear hcz8_0;try clear hcz8_1;try clear hcz8_2;try clear hfz8_0;try clear hfz8_1;try clear hfz8_2;try clear p2
     obtain ⟨x9_2,x10_2,yd,ye,ya,u247002,rfl,rfl,HA,HK2,yb,yc,HB⟩ := hrel
     cases gk with
     | zero => exact absurd HA.out (by simp [zg.l0])
     | succ k2 =>
      have H := HA.out
      clear HA
      simp only [zg.l0] at H
      by_cases c11 : x10_2 < (l1.length : Int)
      ·rw [if_pos c11] at H
       have c11b0 : decide (x10_2 < (l1.length : Int)) = true := decide_eq_true c11
       clear c11
       by_cases c12 : 0 ≤ x10_2
       ·rw [if_pos c12] at H
        have c12b0 : decide (0 ≤ x10_2) = true := decide_eq_true c12
        clear c12
        replace H := Option.bind_eq_some_iff.mp H
        obtain ⟨⟨YB,YC,YD,YI⟩,JJ,H⟩ := H
        replace H : (if YI = 0 then (zg.l0 k2 l1 a2 (wrap64 (x9_2 + 1)) (wrap64 (x10_2 + 1)) YB YC YD) else (zg.l0 k2 l1 a2 x9_2 (wrap64 (x10_2 + 1)) YB YC YD)) = some r := H
        have A13 := za.mk JJ
        clear JJ
        by_cases c14 : YI = 0
        ·rw [if_pos c14] at H
         have c14b0 : (YI == 0) = true := beq_iff_eq.mpr c14
         have c14b1 : (YI != 0) = false := bne_eq_false_iff_eq.mpr c14
         clear c14
         have H' := za.mk H
         clear H
         obtain ⟨Ao15,co15,eo15⟩ := Kd.V_slice yb.out
         subst eo15
         try go_wp2
         have n0_ := za.mk (Kd.V_drew yb.out)
         have n1_ := za.mk (zaf yc.out)
         have n2_ := za.mk (zp HB.out)
         clear yb
         clear yc
         clear HB
         have yb := n0_
         have yc := n1_
         have HB := n2_
         clear n0_ n1_ n2_
         have jr : 0 ≤ (x10_2 : Int) := hFq
         have js : x10_2 < (l1.length : Int) := hFq
         obtain ⟨yi,Yg,Yi,Yh,Yj,Jt,yI,yJ,yK,yL,yM,yN,YU,YO,YV,YP⟩ := at_T35 HR1.out x10_2 jr js
         have yt := yN
         have yr := yM
         have yq := yL
         have yp := yK
         have yo := yJ
         have yn := yI
         cases Jt
         replace yI := (HB.out.cell (World.block_lt_of_cell? w _ yI)).trans yI
         replace yJ := (HB.out.cell (World.block_lt_of_cell? w _ yJ)).trans yJ
         replace yK := (HB.out.cell (World.block_lt_of_cell? w _ yK)).trans yK
         replace yL := (HB.out.cell (World.block_lt_of_cell? w _ yL)).trans yL
         replace yM := (HB.out.cell (World.block_lt_of_cell? w _ yM)).trans yM
         replace yN := (HB.out.cell (World.block_lt_of_cell? w _ yN)).trans yN
         have Yr := za.mk YO
         have YM := za.mk YU
         clear YO YU
         have Ys := za.mk YP
         have YN := za.mk YV
         clear YP YV
         replace jr := eq_true jr
         replace js := eq_true js
         refine zbV (n := 12) (S := fun w' => w'.cell? ⟨yh,0,none⟩ = some (.int .i64 yd) ∧ w'.cell? ⟨yh,1,none⟩ = some (.int .i64 ye) ∧ w'.cell? ⟨yh,2,none⟩ = some (.slice Ao15 ya.length co15) ∧ w'.cell? (yi.add ((x10_2).toNat * 6)) = some (.int .i64 ((zN l1 x10_2).f0)) ∧ w'.cell? ⟨(yi.add ((x10_2).toNat * 6)).block,(yi.add ((x10_2).toNat * 6)).off + 1,none⟩ = some (.int .i64 ((zN l1 x10_2).f1)) ∧ w'.cell? ⟨(yi.add ((x10_2).toNat * 6)).block,(yi.add ((x10_2).toNat * 6)).off + 2,none⟩ = some (.slice Yg ((zN l1 x10_2).f2).length Yi) ∧ w'.cell? ⟨(yi.add ((x10_2).toNat * 6)).block,(yi.add ((x10_2).toNat * 6)).off + 3,none⟩ = some (.slice Yh ((zN l1 x10_2).f3).length Yj) ∧ w'.cell? ⟨(yi.add ((x10_2).toNat * 6)).block,(yi.add ((x10_2).toNat * 6)).off + 4,none⟩ = some (.int .i64 ((zN l1 x10_2).f4.f0)) ∧ w'.cell? ⟨(yi.add ((x10_2).toNat * 6)).block,(yi.add ((x10_2).toNat * 6)).off + 5,none⟩ = some (.int .i64 ((zN l1 x10_2).f4.f1))) (ds := []) (uQ 12 0) (by kernel_rfl) rfl rfl ⟨(zb yc.out 0).trans rfl,(zb yc.out 1).trans rfl,(zb yc.out 2).trans rfl,((HB.out.cell (World.block_lt_of_cell? w _ yn)).trans yn),((HB.out.cell (World.block_lt_of_cell? w _ yo)).trans yo),((HB.out.cell (World.block_lt_of_cell? w _ yp)).trans yp),((HB.out.cell (World.block_lt_of_cell? w _ yq)).trans yq),((HB.out.cell (World.block_lt_of_cell? w _ yr)).trans yr),((HB.out.cell (World.block_lt_of_cell? w _ yt)).trans yt)⟩ (fun hHeld => ?_);refine zaQ zg.tab9 zg.bits9 (fun HT_ HW_ => ?_)
         generalize wr.drew = w16 at yb yc HB Yr Ys yI yJ yK yL yM yN hHeld ⊢
         refine puq (i := 1) (N := some 38) HT_.out #[false,true,false,false,false,false,false,false,false,false,false,false] ?_
         refine puq (i := 2) (N := some 39) HT_.out #[false,true,true,false,false,false,false,false,false,false,false,false] ?_
         refine puq (i := 3) (N := some 40) HT_.out #[false,true,true,true,false,false,false,false,false,false,false,false] ?_
         refine take_ (i := 0) (N := some 37) (uQ 12 4) rfl rfl (zU HT_.out HW_.out (by kernel_rfl)) (fun _ _ _ h => h) (Or.inl ⟨by rfl,by rintro w' ⟨s0,s1,s2,s3,s4,s5,s6,s7,s8⟩;go_simp;with_reducible rfl⟩) hHeld hPq ?_
         refine take_ (i := 4) (N := some 41) (uQ 12 5) rfl rfl (zU HT_.out HW_.out (by kernel_rfl)) (fun _ _ _ h => h) (Or.inl ⟨by rfl,by rintro w' ⟨s0,s1,s2,s3,s4,s5,s6,s7,s8⟩;go_simp;with_reducible rfl⟩) hHeld hPq ?_
         refine join_ (σ := Value × Nat) 2 #[true,true,true,true,true,true,true,true,true,true,false,false] (fun s_ => [(42,.tuple #[.agg #[.int .i64 YB,.int .i64 YC,s_.1],.int .i64 YI]),(11,.pointer (some ⟨s_.2,0,none⟩)),(36,.tuple #[.agg #[.int .i64 YB,.int .i64 YC,s_.1],.int .i64 YI]),(43,.agg #[.int .i64 YB,.int .i64 YC,s_.1]),(44,.int .i64 YI)]) (fun s_ w' => (w'.cell? ⟨yh,0,none⟩ = some (.int .i64 yd) ∧ w'.cell? ⟨yh,1,none⟩ = some (.int .i64 ye) ∧ w'.cell? ⟨yh,2,none⟩ = some (.slice Ao15 ya.length co15) ∧ w'.cell? (yi.add ((x10_2).toNat * 6)) = some (.int .i64 ((zN l1 x10_2).f0)) ∧ w'.cell? ⟨(yi.add ((x10_2).toNat * 6)).block,(yi.add ((x10_2).toNat * 6)).off + 1,none⟩ = some (.int .i64 ((zN l1 x10_2).f1)) ∧ w'.cell? ⟨(yi.add ((x10_2).toNat * 6)).block,(yi.add ((x10_2).toNat * 6)).off + 2,none⟩ = some (.slice Yg ((zN l1 x10_2).f2).length Yi) ∧ w'.cell? ⟨(yi.add ((x10_2).toNat * 6)).block,(yi.add ((x10_2).toNat * 6)).off + 3,none⟩ = some (.slice Yh ((zN l1 x10_2).f3).length Yj) ∧ w'.cell? ⟨(yi.add ((x10_2).toNat * 6)).block,(yi.add ((x10_2).toNat * 6)).off + 4,none⟩ = some (.int .i64 ((zN l1 x10_2).f4.f0)) ∧ w'.cell? ⟨(yi.add ((x10_2).toNat * 6)).block,(yi.add ((x10_2).toNat * 6)).off + 5,none⟩ = some (.int .i64 ((zN l1 x10_2).f4.f1))) ∧ (Kd.V k39 39 w' w.heap.size (fun k_ => k_ ≠ yh ∧ k_ ≠ s_.2) s_.1 YD) ∧ (Kd.V k39 39 w' w.heap.size (fun k_ => k_ ≠ yh ∧ k_ ≠ s_.2) (.slice Ao15 ya.length co15) ya) ∧ (w'.heap[yh]? = some (.cells #[.int .i64 yd,.int .i64 ye,.slice Ao15 ya.length co15] 26 (0,0))) ∧ (w'.heap[s_.2]? = some (.cells #[.int .i64 0,.int .i64 0,.slice none 0 0] 26 (0,0))) ∧ (w.heap.size ≤ s_.2) ∧ (w.heap.size ≤ s_.2) ∧ (yh ≠ s_.2) ∧ (s_.2 ≠ yh) ∧ (Below w.heap.size w w')) ?_ ?_
         rotate_left
         ·intro hCont
          refine two_ (i := 5) (j := 9) (Ni := some 42) (Nj := some 11) #[true,true,true,true,true,true,false,false,false,false,false,false] #[true,true,true,true,true,false,false,false,false,true,false,false] rfl rfl rfl rfl (two_of HT_.out (by kernel_rfl)) (by decide) (by decide) (fun K hK => ?_) (fun K hK => ?_)
          ·skip
           refine zbG Tryz.func5 (by kernel_rfl) rfl #[.agg #[.int .i64 yd,.int .i64 ye,.slice Ao15 ya.length co15],.agg #[.int .i64 ((zN l1 x10_2).f0),.int .i64 ((zN l1 x10_2).f1),.slice Yg ((zN l1 x10_2).f2).length Yi,.slice Yh ((zN l1 x10_2).f3).length Yj,.int .i64 ((zN l1 x10_2).f4.f0),.int .i64 ((zN l1 x10_2).f4.f1)]] (by rfl) rfl rfl hMq ?_
           with_reducible refine (zar.calls yd ye (fun k_ => k_ ≠ yh) _ _ ya ((zN l1 x10_2).f0) ((zN l1 x10_2).f1) (fun k_ => k_ < w.heap.size) _ _ ((zN l1 x10_2).f2) (fun k_ => k_ < w.heap.size) _ _ ((zN l1 x10_2).f3) ((zN l1 x10_2).f4.f0) ((zN l1 x10_2).f4.f1) YB YC YD YI _ ?side1 ?side2 ?side3 A13.out).mono ?_
           (case side1 => exact yb.out)
           (case side2 => exact Kd.V_mk YM.out (Kd.F_below (Kd.C_F zd3 Yr.out) hCq))
           (case side3 => exact Kd.V_mk YN.out (Kd.F_below (Kd.C_F Kd.heap_string Ys.out) hCq))
           rintro e w17 ⟨jq,rfl,ho0,hb⟩
           refine ⟨_,rfl,?_⟩
           have n0_ := za.mk (Kd.V_below (by (with_reducible repeat (first | apply Kd.V_alloc | apply Kd.V_drewN | apply Kd.V_drew));exact yb.out) hb)
           have n1_ := za.mk (Kd.V_lower (Kd.V_mono (ok' := fun k_ => k_ ≠ yh) ho0 (fun k_ hk_ => Or.elim hk_ (fun hs_ => Or.elim hs_ (fun hs_ => hs_) (fun hs_ => Or.elim hs_ (fun hs_ => fun e_ => Nat.not_le.2 hs_ (by rw [e_];exact jh.out)) (fun hs_ => fun e_ => Nat.not_le.2 hs_ (by rw [e_];exact jh.out)))) (fun hn_ => (Kd.freshB (g := yh) (o := .cells #[.int .i64 yd,.int .i64 ye,.slice Ao15 ya.length co15] 26 (0,0)) (hGq yc.out) k_ hn_)))) (zh hCq))
           have n2_ := za.mk (hbq yc.out hb)
           have n3_ := za.mk (ze hCq hb)
           clear yb
           clear yc
           clear HB
           have yb := n0_
           have yO := n1_
           have yc := n2_
           have HB := n3_
           clear n0_ n1_ n2_ n3_
           (try clear hb)
           (try clear hb2)
           (try clear hk)
           (try clear hi)
           (try clear ho0)
           refine hK.out _ _ ⟨(zb yc.out 0).trans rfl,(zb yc.out 1).trans rfl,(zb yc.out 2).trans rfl,((HB.out.cell (World.block_lt_of_cell? w _ yn)).trans yn),((HB.out.cell (World.block_lt_of_cell? w _ yo)).trans yo),((HB.out.cell (World.block_lt_of_cell? w _ yp)).trans yp),((HB.out.cell (World.block_lt_of_cell? w _ yq)).trans yq),((HB.out.cell (World.block_lt_of_cell? w _ yr)).trans yr),((HB.out.cell (World.block_lt_of_cell? w _ yt)).trans yt)⟩ (fun hHeld => ?_)
           clear hK K
           refine za5 (a' := ?_) ?_ ?_
           rotate_left
           ·show Act.put _ (some 42) _ = _
            simp only [Act.put,List.setIfInBounds_toArray,List.set_cons_zero,List.set_cons_succ,zam,zap]
            rfl
           refine puq (i := 6) (N := some 36) HT_.out (uQ 12 7) ?_
           refine puq (i := 7) (N := some 43) HT_.out (uQ 12 8) ?_
           refine puq (i := 8) (N := some 44) HT_.out (uQ 12 9) ?_
           refine zct (i := 9) (N := some 11) (uQ 12 10) rfl rfl (za0 HT_.out (by kernel_rfl)) (by decide) (fun K hK => ?_)
           refine zeW ?hg (N := 11) ?hd (cs := #[.int .i64 0,.int .i64 0,.slice none 0 0]) (t := 26) ?hr ?_;(case hd => rfl);(case hg => rfl);(case hr => first | (go_simp;done) | (go_simp;rfl))
           intro yf hg w18 hbox hb
           have n0_ := za.mk (Kd.V_below (Kd.V_elderB (by (with_reducible repeat (first | apply Kd.V_alloc | apply Kd.V_drewN | apply Kd.V_drew));exact yb.out) yf (Nat.le_of_eq hg.symm)) hb)
           have n1_ := za.mk (Kd.V_below (Kd.V_elderB (by (with_reducible repeat (first | apply Kd.V_alloc | apply Kd.V_drewN | apply Kd.V_drew));exact yO.out) yf (Nat.le_of_eq hg.symm)) hb)
           have n2_ := za.mk (hbq yc.out hb)
           have n3_ := za.mk (ze hCq hb)
           have n4_ := za.mk (hbox)
           have n5_ := za.mk ((by rw [hg];exact (zh hCq) : w.heap.size ≤ yf))
           have n6_ := za.mk ((by rw [hg];exact (zh hCq) : w.heap.size ≤ yf))
           have n7_ := za.mk (hnq hg yc.out)
           have n8_ := za.mk (hmq hg yc.out)
           clear yb
           clear yO
           clear yc
           clear HB
           have yb := n0_
           have yO := n1_
           have yc := n2_
           have HB := n3_
           have yw := n4_
           have yk := n5_
           have YG := n6_
           have yg := n7_
           have yu := n8_
           clear n0_ n1_ n2_ n3_ n4_ n5_ n6_ n7_ n8_
           clear hb hbox hg
           refine hK.out _ _ ⟨(zb yc.out 0).trans rfl,(zb yc.out 1).trans rfl,(zb yc.out 2).trans rfl,((HB.out.cell (World.block_lt_of_cell? w _ yn)).trans yn),((HB.out.cell (World.block_lt_of_cell? w _ yo)).trans yo),((HB.out.cell (World.block_lt_of_cell? w _ yp)).trans yp),((HB.out.cell (World.block_lt_of_cell? w _ yq)).trans yq),((HB.out.cell (World.block_lt_of_cell? w _ yr)).trans yr),((HB.out.cell (World.block_lt_of_cell? w _ yt)).trans yt)⟩ (fun hHeld => ?_)
           clear hK K
           refine za5 (a' := ?_) ?_ ?_
           rotate_left
           ·show Act.put _ (some 11) _ = _
            simp only [Act.put,List.setIfInBounds_toArray,List.set_cons_zero,List.set_cons_succ,zam,zap]
            rfl
           exact za5 (by simp only [zdN,Act.put,List.setIfInBounds_toArray,List.set_cons_zero,List.set_cons_succ]) (hCont (jq,yf) _ ⟨hHeld,(by (with_reducible repeat (first | apply Kd.V_alloc | apply Kd.V_drewN | apply Kd.V_drew));exact yO.out),(by (with_reducible repeat (first | apply Kd.V_alloc | apply Kd.V_drewN | apply Kd.V_drew));exact yb.out),(hGq yc.out),(hGq yw.out),yk.out,YG.out,yg.out,yu.out,hCq⟩)
          ·skip
           refine zeW ?hg (N := 11) ?hd (cs := #[.int .i64 0,.int .i64 0,.slice none 0 0]) (t := 26) ?hr ?_;(case hd => rfl);(case hg => rfl);(case hr => first | (go_simp;done) | (go_simp;rfl))
           intro yf hg w17 hbox hb
           have n0_ := za.mk (Kd.V_below (Kd.V_elderB (by (with_reducible repeat (first | apply Kd.V_alloc | apply Kd.V_drewN | apply Kd.V_drew));exact yb.out) yf (Nat.le_of_eq hg.symm)) hb)
           have n1_ := za.mk (hbq yc.out hb)
           have n2_ := za.mk (ze hCq hb)
           have n3_ := za.mk (hbox)
           have n4_ := za.mk ((by rw [hg];exact (zh hCq) : w.heap.size ≤ yf))
           have n5_ := za.mk ((by rw [hg];exact (zh hCq) : w.heap.size ≤ yf))
           have n6_ := za.mk (hnq hg yc.out)
           have n7_ := za.mk (hmq hg yc.out)
           clear yb
           clear yc
           clear HB
           have yb := n0_
           have yc := n1_
           have HB := n2_
           have yw := n3_
           have yk := n4_
           have YG := n5_
           have yg := n6_
           have yu := n7_
           clear n0_ n1_ n2_ n3_ n4_ n5_ n6_ n7_
           clear hb hbox hg
           refine hK.out _ _ ⟨(zb yc.out 0).trans rfl,(zb yc.out 1).trans rfl,(zb yc.out 2).trans rfl,((HB.out.cell (World.block_lt_of_cell? w _ yn)).trans yn),((HB.out.cell (World.block_lt_of_cell? w _ yo)).trans yo),((HB.out.cell (World.block_lt_of_cell? w _ yp)).trans yp),((HB.out.cell (World.block_lt_of_cell? w _ yq)).trans yq),((HB.out.cell (World.block_lt_of_cell? w _ yr)).trans yr),((HB.out.cell (World.block_lt_of_cell? w _ yt)).trans yt)⟩ (fun hHeld => ?_)
           clear hK K
           refine za5 (a' := ?_) ?_ ?_
           rotate_left
           ·show Act.put _ (some 11) _ = _
            simp only [Act.put,List.setIfInBounds_toArray,List.set_cons_zero,List.set_cons_succ,zam,zap]
            rfl
           refine zct (i := 5) (N := some 42) #[true,true,true,true,true,true,false,false,false,true,false,false] rfl rfl (za0 HT_.out (by kernel_rfl)) (by decide) (fun K hK => ?_)
           refine zbG Tryz.func5 (by kernel_rfl) rfl #[.agg #[.int .i64 yd,.int .i64 ye,.slice Ao15 ya.length co15],.agg #[.int .i64 ((zN l1 x10_2).f0),.int .i64 ((zN l1 x10_2).f1),.slice Yg ((zN l1 x10_2).f2).length Yi,.slice Yh ((zN l1 x10_2).f3).length Yj,.int .i64 ((zN l1 x10_2).f4.f0),.int .i64 ((zN l1 x10_2).f4.f1)]] (by rfl) rfl rfl hMq ?_
           with_reducible refine (zar.calls yd ye (fun k_ => (k_ ≠ yh ∧ k_ ≠ yf)) _ _ ya ((zN l1 x10_2).f0) ((zN l1 x10_2).f1) (fun k_ => k_ < w.heap.size) _ _ ((zN l1 x10_2).f2) (fun k_ => k_ < w.heap.size) _ _ ((zN l1 x10_2).f3) ((zN l1 x10_2).f4.f0) ((zN l1 x10_2).f4.f1) YB YC YD YI _ ?side1 ?side2 ?side3 A13.out).mono ?_
           (case side1 => exact yb.out)
           (case side2 => exact Kd.V_mk YM.out (Kd.F_below (Kd.C_F zd3 Yr.out) hCq))
           (case side3 => exact Kd.V_mk YN.out (Kd.F_below (Kd.C_F Kd.heap_string Ys.out) hCq))
           rintro e w18 ⟨jq,rfl,ho0,hb⟩
           refine ⟨_,rfl,?_⟩
           have n0_ := za.mk (Kd.V_below (by (with_reducible repeat (first | apply Kd.V_alloc | apply Kd.V_drewN | apply Kd.V_drew));exact yb.out) hb)
           have n1_ := za.mk (Kd.V_lower (Kd.V_mono (ok' := fun k_ => k_ ≠ yh ∧ k_ ≠ yf) ho0 (fun k_ hk_ => ⟨Or.elim hk_ (fun hs_ => Or.elim hs_ (fun hs_ => hs_.1) (fun hs_ => Or.elim hs_ (fun hs_ => fun e_ => Nat.not_le.2 hs_ (by rw [e_];exact jh.out)) (fun hs_ => fun e_ => Nat.not_le.2 hs_ (by rw [e_];exact jh.out)))) (fun hn_ => (Kd.freshB (g := yh) (o := .cells #[.int .i64 yd,.int .i64 ye,.slice Ao15 ya.length co15] 26 (0,0)) (hGq yc.out) k_ hn_)),Or.elim hk_ (fun hs_ => Or.elim hs_ (fun hs_ => hs_.2) (fun hs_ => Or.elim hs_ (fun hs_ => fun e_ => Nat.not_le.2 hs_ (by rw [e_];exact yk.out)) (fun hs_ => fun e_ => Nat.not_le.2 hs_ (by rw [e_];exact yk.out)))) (fun hn_ => (Kd.freshB (g := yf) (o := .cells #[.int .i64 0,.int .i64 0,.slice none 0 0] 26 (0,0)) (hGq yw.out) k_ hn_))⟩)) (zh hCq))
           have n2_ := za.mk (hbq yc.out hb)
           have n3_ := za.mk (hbq yw.out hb)
           have n4_ := za.mk (ze hCq hb)
           clear yb
           clear yc
           clear yw
           clear HB
           have yb := n0_
           have yO := n1_
           have yc := n2_
           have yw := n3_
           have HB := n4_
           clear n0_ n1_ n2_ n3_ n4_
           (try clear hb)
           (try clear hb2)
           (try clear hk)
           (try clear hi)
           (try clear ho0)
           refine hK.out _ _ ⟨(zb yc.out 0).trans rfl,(zb yc.out 1).trans rfl,(zb yc.out 2).trans rfl,((HB.out.cell (World.block_lt_of_cell? w _ yn)).trans yn),((HB.out.cell (World.block_lt_of_cell? w _ yo)).trans yo),((HB.out.cell (World.block_lt_of_cell? w _ yp)).trans yp),((HB.out.cell (World.block_lt_of_cell? w _ yq)).trans yq),((HB.out.cell (World.block_lt_of_cell? w _ yr)).trans yr),((HB.out.cell (World.block_lt_of_cell? w _ yt)).trans yt)⟩ (fun hHeld => ?_)
           clear hK K
           refine za5 (a' := ?_) ?_ ?_
           rotate_left
           ·show Act.put _ (some 42) _ = _
            simp only [Act.put,List.setIfInBounds_toArray,List.set_cons_zero,List.set_cons_succ,zam,zap]
            rfl
           refine puq (i := 6) (N := some 36) HT_.out #[true,true,true,true,true,true,true,false,false,true,false,false] ?_
           refine puq (i := 7) (N := some 43) HT_.out #[true,true,true,true,true,true,true,true,false,true,false,false] ?_
           refine puq (i := 8) (N := some 44) HT_.out (uQ 12 10) ?_
           exact za5 (by simp only [zdN,Act.put,List.setIfInBounds_toArray,List.set_cons_zero,List.set_cons_succ]) (hCont (jq,yf) _ ⟨hHeld,(by (with_reducible repeat (first | apply Kd.V_alloc | apply Kd.V_drewN | apply Kd.V_drew));exact yO.out),(by (with_reducible repeat (first | apply Kd.V_alloc | apply Kd.V_drewN | apply Kd.V_drew));exact yb.out),(hGq yc.out),(hGq yw.out),yk.out,YG.out,yg.out,yu.out,hCq⟩)
         rintro ⟨jq,yf⟩ w19 ⟨hS_,h0_,h1_,h2_,h3_,h4_,h5_,h6_,h7_,h8_⟩
         have n0_ : za (Kd.V k39 39 w19 w.heap.size (fun k_ => k_ ≠ yh ∧ k_ ≠ yf) jq YD) := ⟨h0_⟩
         have n1_ : za (Kd.V k39 39 w19 w.heap.size (fun k_ => k_ ≠ yh ∧ k_ ≠ yf) (.slice Ao15 ya.length co15) ya) := ⟨h1_⟩
         have n2_ : za (w19.heap[yh]? = some (.cells #[.int .i64 yd,.int .i64 ye,.slice Ao15 ya.length co15] 26 (0,0))) := ⟨h2_⟩
         have n3_ : za (w19.heap[yf]? = some (.cells #[.int .i64 0,.int .i64 0,.slice none 0 0] 26 (0,0))) := ⟨h3_⟩
         have n4_ : za (w.heap.size ≤ yf) := ⟨h4_⟩
         have n5_ : za (w.heap.size ≤ yf) := ⟨h5_⟩
         have n6_ : za (yh ≠ yf) := ⟨h6_⟩
         have n7_ : za (yf ≠ yh) := ⟨h7_⟩
         have n8_ : za (Below w.heap.size w w19) := ⟨h8_⟩
         clear yb
         clear yc
         clear HB
         clear h0_ h1_ h2_ h3_ h4_ h5_ h6_ h7_ h8_
         have yO := n0_
         have yb := n1_
         have yc := n2_
         have yw := n3_
         have yk := n4_
         have YG := n5_
         have yg := n6_
         have yu := n7_
         have HB := n8_
         clear n0_ n1_ n2_ n3_ n4_ n5_ n6_ n7_ n8_
         have hHeld : w19.cell? ⟨yh,0,none⟩ = some (.int .i64 yd) ∧ w19.cell? ⟨yh,1,none⟩ = some (.int .i64 ye) ∧ w19.cell? ⟨yh,2,none⟩ = some (.slice Ao15 ya.length co15) ∧ w19.cell? (yi.add ((x10_2).toNat * 6)) = some (.int .i64 ((zN l1 x10_2).f0)) ∧ w19.cell? ⟨(yi.add ((x10_2).toNat * 6)).block,(yi.add ((x10_2).toNat * 6)).off + 1,none⟩ = some (.int .i64 ((zN l1 x10_2).f1)) ∧ w19.cell? ⟨(yi.add ((x10_2).toNat * 6)).block,(yi.add ((x10_2).toNat * 6)).off + 2,none⟩ = some (.slice Yg ((zN l1 x10_2).f2).length Yi) ∧ w19.cell? ⟨(yi.add ((x10_2).toNat * 6)).block,(yi.add ((x10_2).toNat * 6)).off + 3,none⟩ = some (.slice Yh ((zN l1 x10_2).f3).length Yj) ∧ w19.cell? ⟨(yi.add ((x10_2).toNat * 6)).block,(yi.add ((x10_2).toNat * 6)).off + 4,none⟩ = some (.int .i64 ((zN l1 x10_2).f4.f0)) ∧ w19.cell? ⟨(yi.add ((x10_2).toNat * 6)).block,(yi.add ((x10_2).toNat * 6)).off + 5,none⟩ = some (.int .i64 ((zN l1 x10_2).f4.f1)) := hS_
         obtain ⟨Ao22,co22,eo22⟩ := Kd.V_slice yO.out
         (first | subst eo22 | (injection eo22 with f1_ f2_ f3_;have f4_ := f1_.symm;have f5_ := f3_.symm;clear f1_ f2_ f3_;subst f4_;subst f5_))
         refine za5 (a' := ?_) ?_ ?_
         rotate_left
         ·simp only [zdN,Act.put,List.setIfInBounds_toArray,List.set_cons_zero,List.set_cons_succ]
          rfl
         refine zct (i := 10) (N := none) (uQ 12 11) rfl rfl (za0 HT_.out (by kernel_rfl)) (by decide) (fun K hK => ?_)
         have hs20 : w19.cell? ⟨yf,0,none⟩ = some (.int .i64 0) := (zb yw.out 0).trans rfl
         have hfs20 := zc yw.out 0
         have hns20_0 := yg.out
         have hms20_0 := yu.out
         have hs21 : w19.cell? ⟨yf,1,none⟩ = some (.int .i64 0) := (zb yw.out 1).trans rfl
         have hfs21 := zc yw.out 1
         have hns21_0 := yg.out
         have hms21_0 := yu.out
         have hs23 : w19.cell? ⟨yf,2,none⟩ = some (.slice none 0 0) := (zb yw.out 2).trans rfl
         have hfs23 := zc yw.out 2
         have hns23_0 := yg.out
         have hms23_0 := yu.out
         refine skip_ (w1 := ?_) (by rfl) rfl ?_ ?_
         rotate_left
         ·go_simp
          rfl
         refine hK.out _ _ ⟨((zW (p := ⟨yf,_,none⟩) yg.out _).trans (((zW (p := ⟨yf,_,none⟩) yg.out _).trans (((zW (p := ⟨yf,_,none⟩) yg.out _).trans (hHeld.1)))))),((zW (p := ⟨yf,_,none⟩) yg.out _).trans (((zW (p := ⟨yf,_,none⟩) yg.out _).trans (((zW (p := ⟨yf,_,none⟩) yg.out _).trans (hHeld.2.1)))))),((zW (p := ⟨yf,_,none⟩) yg.out _).trans (((zW (p := ⟨yf,_,none⟩) yg.out _).trans (((zW (p := ⟨yf,_,none⟩) yg.out _).trans (hHeld.2.2.1)))))),((zW (p := ⟨yf,_,none⟩) (hVq yn yk.out) _).trans (((zW (p := ⟨yf,_,none⟩) (hVq yn yk.out) _).trans (((zW (p := ⟨yf,_,none⟩) (hVq yn yk.out) _).trans (hHeld.2.2.2.1)))))),((zW (p := ⟨yf,_,none⟩) (hVq yo yk.out) _).trans (((zW (p := ⟨yf,_,none⟩) (hVq yo yk.out) _).trans (((zW (p := ⟨yf,_,none⟩) (hVq yo yk.out) _).trans (hHeld.2.2.2.2.1)))))),((zW (p := ⟨yf,_,none⟩) (hVq yp yk.out) _).trans (((zW (p := ⟨yf,_,none⟩) (hVq yp yk.out) _).trans (((zW (p := ⟨yf,_,none⟩) (hVq yp yk.out) _).trans (hHeld.2.2.2.2.2.1)))))),((zW (p := ⟨yf,_,none⟩) (hVq yq yk.out) _).trans (((zW (p := ⟨yf,_,none⟩) (hVq yq yk.out) _).trans (((zW (p := ⟨yf,_,none⟩) (hVq yq yk.out) _).trans (hHeld.2.2.2.2.2.2.1)))))),((zW (p := ⟨yf,_,none⟩) (hVq yr yk.out) _).trans (((zW (p := ⟨yf,_,none⟩) (hVq yr yk.out) _).trans (((zW (p := ⟨yf,_,none⟩) (hVq yr yk.out) _).trans (hHeld.2.2.2.2.2.2.2.1)))))),((zW (p := ⟨yf,_,none⟩) (hVq yt yk.out) _).trans (((zW (p := ⟨yf,_,none⟩) (hVq yt yk.out) _).trans (((zW (p := ⟨yf,_,none⟩) (hVq yt yk.out) _).trans (hHeld.2.2.2.2.2.2.2.2))))))⟩ (fun hHeld => ?_)
         clear hK K
         refine puq (i := 11) (N := some 12) HT_.out (uQ 12 12) ?_
         refine zbX (zaX HT_.out (by kernel_rfl)) ?_
         have hnb24 := yu.out
         have hnc24 := yg.out
         obtain ⟨hcz25_0,hcz25_1,hcz25_2,hfz25_0,hfz25_1,hfz25_2⟩ := hcq3 yw.out
         obtain ⟨hcz26_0,hcz26_1,hcz26_2,hfz26_0,hfz26_1,hfz26_2⟩ := hcq3 yc.out
         try go_wp2
         go_roundg k2
         case measure => have := HJ4.out;have := HK2.out;omega
         case rel => exact ⟨(wrap64 (x9_2 + 1)),(wrap64 (x10_2 + 1)),(YB),(YC),(YD),(.slice Ao22 YD.length co22),(hDq),(hDq),H',⟨by have := HJ4.out;have := HK2.out;omega⟩,⟨by (with_reducible repeat (first | apply Kd.V_alloc | apply Kd.V_drewN | apply Kd.V_drew));exact Kd.V_mono (Kd.V_far (p := ⟨yh,2,none⟩) (Kd.V_far (p := ⟨yh,1,none⟩) (Kd.V_far (p := ⟨yh,0,none⟩) (Kd.V_far (p := ⟨yf,2,none⟩) (Kd.V_far (p := ⟨yf,1,none⟩) (Kd.V_far (p := ⟨yf,0,none⟩) (Kd.V_mono (Kd.V_mono yO.out (fun k_ hk => (⟨hk,hk.2⟩ : _ ∧ k_ ≠ yf))) (fun k_ hk => (⟨hk,hk.1.1⟩ : _ ∧ k_ ≠ yh))) (fun _ hk => hk.1.2) (.int .i64 YB)) (fun _ hk => hk.1.2) (.int .i64 YC)) (fun _ hk => hk.1.2) (.slice Ao22 YD.length co22)) (fun _ hk => hk.2) (.int .i64 YB)) (fun _ hk => hk.2) (.int .i64 YC)) (fun _ hk => hk.2) (.slice Ao22 YD.length co22)) (fun _ hk => hk.1.1.1)⟩,⟨hxq1p yg.out yc.out⟩,⟨by repeat (first | (with_reducible first | exact HB.out | apply zl | apply zi | apply zp | refine zm ?_ YF.out | refine zm ?_ YG.out) | exact HB.out)⟩⟩
        ·rw [if_neg c14] at H
         have c14b0 : (YI == 0) = false := beq_eq_false_iff_ne.mpr c14
         have c14b1 : (YI != 0) = true := bne_iff_ne.mpr c14
         have H' := za.mk H
         clear H
         obtain ⟨Ao27,co27,eo27⟩ := Kd.V_slice yb.out
         subst eo27
         try go_wp2
         have n0_ := za.mk (Kd.V_drew yb.out)
         have n1_ := za.mk (zaf yc.out)
         have n2_ := za.mk (zp HB.out)
         clear yb
         clear yc
         clear HB
         have yb := n0_
         have yc := n1_
         have HB := n2_
         clear n0_ n1_ n2_
         have jr : 0 ≤ (x10_2 : Int) := hFq
         have js : x10_2 < (l1.length : Int) := hFq
         obtain ⟨yi,Yg,Yi,Yh,Yj,Jt,yI,yJ,yK,yL,yM,yN,YU,YO,YV,YP⟩ := at_T35 HR1.out x10_2 jr js
         have yt := yN
         have yr := yM
         have yq := yL
         have yp := yK
         have yo := yJ
         have yn := yI
         cases Jt
         replace yI := (HB.out.cell (World.block_lt_of_cell? w _ yI)).trans yI
         replace yJ := (HB.out.cell (World.block_lt_of_cell? w _ yJ)).trans yJ
         replace yK := (HB.out.cell (World.block_lt_of_cell? w _ yK)).trans yK
         replace yL := (HB.out.cell (World.block_lt_of_cell? w _ yL)).trans yL
         replace yM := (HB.out.cell (World.block_lt_of_cell? w _ yM)).trans yM
         replace yN := (HB.out.cell (World.block_lt_of_cell? w _ yN)).trans yN
         have Yr := za.mk YO
         have YM := za.mk YU
         clear YO YU
         have Ys := za.mk YP
         have YN := za.mk YV
         clear YP YV
         replace jr := eq_true jr
         replace js := eq_true js
         refine zbV (n := 12) (S := fun w' => w'.cell? ⟨yh,0,none⟩ = some (.int .i64 yd) ∧ w'.cell? ⟨yh,1,none⟩ = some (.int .i64 ye) ∧ w'.cell? ⟨yh,2,none⟩ = some (.slice Ao27 ya.length co27) ∧ w'.cell? (yi.add ((x10_2).toNat * 6)) = some (.int .i64 ((zN l1 x10_2).f0)) ∧ w'.cell? ⟨(yi.add ((x10_2).toNat * 6)).block,(yi.add ((x10_2).toNat * 6)).off + 1,none⟩ = some (.int .i64 ((zN l1 x10_2).f1)) ∧ w'.cell? ⟨(yi.add ((x10_2).toNat * 6)).block,(yi.add ((x10_2).toNat * 6)).off + 2,none⟩ = some (.slice Yg ((zN l1 x10_2).f2).length Yi) ∧ w'.cell? ⟨(yi.add ((x10_2).toNat * 6)).block,(yi.add ((x10_2).toNat * 6)).off + 3,none⟩ = some (.slice Yh ((zN l1 x10_2).f3).length Yj) ∧ w'.cell? ⟨(yi.add ((x10_2).toNat * 6)).block,(yi.add ((x10_2).toNat * 6)).off + 4,none⟩ = some (.int .i64 ((zN l1 x10_2).f4.f0)) ∧ w'.cell? ⟨(yi.add ((x10_2).toNat * 6)).block,(yi.add ((x10_2).toNat * 6)).off + 5,none⟩ = some (.int .i64 ((zN l1 x10_2).f4.f1))) (ds := []) (uQ 12 0) (by kernel_rfl) rfl rfl ⟨(zb yc.out 0).trans rfl,(zb yc.out 1).trans rfl,(zb yc.out 2).trans rfl,((HB.out.cell (World.block_lt_of_cell? w _ yn)).trans yn),((HB.out.cell (World.block_lt_of_cell? w _ yo)).trans yo),((HB.out.cell (World.block_lt_of_cell? w _ yp)).trans yp),((HB.out.cell (World.block_lt_of_cell? w _ yq)).trans yq),((HB.out.cell (World.block_lt_of_cell? w _ yr)).trans yr),((HB.out.cell (World.block_lt_of_cell? w _ yt)).trans yt)⟩ (fun hHeld => ?_);refine zaQ zg.tab9 zg.bits9 (fun HT_ HW_ => ?_)
         generalize wr.drew = w28 at yb yc HB Yr Ys yI yJ yK yL yM yN hHeld ⊢
         refine puq (i := 1) (N := some 38) HT_.out #[false,true,false,false,false,false,false,false,false,false,false,false] ?_
         refine puq (i := 2) (N := some 39) HT_.out #[false,true,true,false,false,false,false,false,false,false,false,false] ?_
         refine puq (i := 3) (N := some 40) HT_.out #[false,true,true,true,false,false,false,false,false,false,false,false] ?_
         refine take_ (i := 0) (N := some 37) (uQ 12 4) rfl rfl (zU HT_.out HW_.out (by kernel_rfl)) (fun _ _ _ h => h) (Or.inl ⟨by rfl,by rintro w' ⟨s0,s1,s2,s3,s4,s5,s6,s7,s8⟩;go_simp;with_reducible rfl⟩) hHeld hPq ?_
         refine take_ (i := 4) (N := some 41) (uQ 12 5) rfl rfl (zU HT_.out HW_.out (by kernel_rfl)) (fun _ _ _ h => h) (Or.inl ⟨by rfl,by rintro w' ⟨s0,s1,s2,s3,s4,s5,s6,s7,s8⟩;go_simp;with_reducible rfl⟩) hHeld hPq ?_
         refine join_ (σ := Value × Nat) 2 #[true,true,true,true,true,true,true,true,true,true,false,false] (fun s_ => [(42,.tuple #[.agg #[.int .i64 YB,.int .i64 YC,s_.1],.int .i64 YI]),(11,.pointer (some ⟨s_.2,0,none⟩)),(36,.tuple #[.agg #[.int .i64 YB,.int .i64 YC,s_.1],.int .i64 YI]),(43,.agg #[.int .i64 YB,.int .i64 YC,s_.1]),(44,.int .i64 YI)]) (fun s_ w' => (w'.cell? ⟨yh,0,none⟩ = some (.int .i64 yd) ∧ w'.cell? ⟨yh,1,none⟩ = some (.int .i64 ye) ∧ w'.cell? ⟨yh,2,none⟩ = some (.slice Ao27 ya.length co27) ∧ w'.cell? (yi.add ((x10_2).toNat * 6)) = some (.int .i64 ((zN l1 x10_2).f0)) ∧ w'.cell? ⟨(yi.add ((x10_2).toNat * 6)).block,(yi.add ((x10_2).toNat * 6)).off + 1,none⟩ = some (.int .i64 ((zN l1 x10_2).f1)) ∧ w'.cell? ⟨(yi.add ((x10_2).toNat * 6)).block,(yi.add ((x10_2).toNat * 6)).off + 2,none⟩ = some (.slice Yg ((zN l1 x10_2).f2).length Yi) ∧ w'.cell? ⟨(yi.add ((x10_2).toNat * 6)).block,(yi.add ((x10_2).toNat * 6)).off + 3,none⟩ = some (.slice Yh ((zN l1 x10_2).f3).length Yj) ∧ w'.cell? ⟨(yi.add ((x10_2).toNat * 6)).block,(yi.add ((x10_2).toNat * 6)).off + 4,none⟩ = some (.int .i64 ((zN l1 x10_2).f4.f0)) ∧ w'.cell? ⟨(yi.add ((x10_2).toNat * 6)).block,(yi.add ((x10_2).toNat * 6)).off + 5,none⟩ = some (.int .i64 ((zN l1 x10_2).f4.f1))) ∧ (Kd.V k39 39 w' w.heap.size (fun k_ => k_ ≠ yh ∧ k_ ≠ s_.2) s_.1 YD) ∧ (Kd.V k39 39 w' w.heap.size (fun k_ => k_ ≠ yh ∧ k_ ≠ s_.2) (.slice Ao27 ya.length co27) ya) ∧ (w'.heap[yh]? = some (.cells #[.int .i64 yd,.int .i64 ye,.slice Ao27 ya.length co27] 26 (0,0))) ∧ (w'.heap[s_.2]? = some (.cells #[.int .i64 0,.int .i64 0,.slice none 0 0] 26 (0,0))) ∧ (w.heap.size ≤ s_.2) ∧ (w.heap.size ≤ s_.2) ∧ (yh ≠ s_.2) ∧ (s_.2 ≠ yh) ∧ (Below w.heap.size w w')) ?_ ?_
         rotate_left
         ·intro hCont
          refine two_ (i := 5) (j := 9) (Ni := some 42) (Nj := some 11) #[true,true,true,true,true,true,false,false,false,false,false,false] #[true,true,true,true,true,false,false,false,false,true,false,false] rfl rfl rfl rfl (two_of HT_.out (by kernel_rfl)) (by decide) (by decide) (fun K hK => ?_) (fun K hK => ?_)
          ·skip
           refine zbG Tryz.func5 (by kernel_rfl) rfl #[.agg #[.int .i64 yd,.int .i64 ye,.slice Ao27 ya.length co27],.agg #[.int .i64 ((zN l1 x10_2).f0),.int .i64 ((zN l1 x10_2).f1),.slice Yg ((zN l1 x10_2).f2).length Yi,.slice Yh ((zN l1 x10_2).f3).length Yj,.int .i64 ((zN l1 x10_2).f4.f0),.int .i64 ((zN l1 x10_2).f4.f1)]] (by rfl) rfl rfl hMq ?_
           with_reducible refine (zar.calls yd ye (fun k_ => k_ ≠ yh) _ _ ya ((zN l1 x10_2).f0) ((zN l1 x10_2).f1) (fun k_ => k_ < w.heap.size) _ _ ((zN l1 x10_2).f2) (fun k_ => k_ < w.heap.size) _ _ ((zN l1 x10_2).f3) ((zN l1 x10_2).f4.f0) ((zN l1 x10_2).f4.f1) YB YC YD YI _ ?side1 ?side2 ?side3 A13.out).mono ?_
           (case side1 => exact yb.out)
           (case side2 => exact Kd.V_mk YM.out (Kd.F_below (Kd.C_F zd3 Yr.out) hCq))
           (case side3 => exact Kd.V_mk YN.out (Kd.F_below (Kd.C_F Kd.heap_string Ys.out) hCq))
           rintro e w29 ⟨jq,rfl,ho0,hb⟩
           refine ⟨_,rfl,?_⟩
           have n0_ := za.mk (Kd.V_below (by (with_reducible repeat (first | apply Kd.V_alloc | apply Kd.V_drewN | apply Kd.V_drew));exact yb.out) hb)
           have n1_ := za.mk (Kd.V_lower (Kd.V_mono (ok' := fun k_ => k_ ≠ yh) ho0 (fun k_ hk_ => Or.elim hk_ (fun hs_ => Or.elim hs_ (fun hs_ => hs_) (fun hs_ => Or.elim hs_ (fun hs_ => fun e_ => Nat.not_le.2 hs_ (by rw [e_];exact jh.out)) (fun hs_ => fun e_ => Nat.not_le.2 hs_ (by rw [e_];exact jh.out)))) (fun hn_ => (Kd.freshB (g := yh) (o := .cells #[.int .i64 yd,.int .i64 ye,.slice Ao27 ya.length co27] 26 (0,0)) (hGq yc.out) k_ hn_)))) (zh hCq))
           have n2_ := za.mk (hbq yc.out hb)
           have n3_ := za.mk (ze hCq hb)
           clear yb
           clear yc
           clear HB
           have yb := n0_
           have yO := n1_
           have yc := n2_
           have HB := n3_
           clear n0_ n1_ n2_ n3_
           (try clear hb)
           (try clear hb2)
           (try clear hk)
           (try clear hi)
           (try clear ho0)
           refine hK.out _ _ ⟨(zb yc.out 0).trans rfl,(zb yc.out 1).trans rfl,(zb yc.out 2).trans rfl,((HB.out.cell (World.block_lt_of_cell? w _ yn)).trans yn),((HB.out.cell (World.block_lt_of_cell? w _ yo)).trans yo),((HB.out.cell (World.block_lt_of_cell? w _ yp)).trans yp),((HB.out.cell (World.block_lt_of_cell? w _ yq)).trans yq),((HB.out.cell (World.block_lt_of_cell? w _ yr)).trans yr),((HB.out.cell (World.block_lt_of_cell? w _ yt)).trans yt)⟩ (fun hHeld => ?_)
           clear hK K
           refine za5 (a' := ?_) ?_ ?_
           rotate_left
           ·show Act.put _ (some 42) _ = _
            simp only [Act.put,List.setIfInBounds_toArray,List.set_cons_zero,List.set_cons_succ,zam,zap]
            rfl
           refine puq (i := 6) (N := some 36) HT_.out (uQ 12 7) ?_
           refine puq (i := 7) (N := some 43) HT_.out (uQ 12 8) ?_
           refine puq (i := 8) (N := some 44) HT_.out (uQ 12 9) ?_
           refine zct (i := 9) (N := some 11) (uQ 12 10) rfl rfl (za0 HT_.out (by kernel_rfl)) (by decide) (fun K hK => ?_)
           refine zeW ?hg (N := 11) ?hd (cs := #[.int .i64 0,.int .i64 0,.slice none 0 0]) (t := 26) ?hr ?_;(case hd => rfl);(case hg => rfl);(case hr => first | (go_simp;done) | (go_simp;rfl))
           intro yf hg w30 hbox hb
           have n0_ := za.mk (Kd.V_below (Kd.V_elderB (by (with_reducible repeat (first | apply Kd.V_alloc | apply Kd.V_drewN | apply Kd.V_drew));exact yb.out) yf (Nat.le_of_eq hg.symm)) hb)
           have n1_ := za.mk (Kd.V_below (Kd.V_elderB (by (with_reducible repeat (first | apply Kd.V_alloc | apply Kd.V_drewN | apply Kd.V_drew));exact yO.out) yf (Nat.le_of_eq hg.symm)) hb)
           have n2_ := za.mk (hbq yc.out hb)
           have n3_ := za.mk (ze hCq hb)
           have n4_ := za.mk (hbox)
           have n5_ := za.mk ((by rw [hg];exact (zh hCq) : w.heap.size ≤ yf))
           have n6_ := za.mk ((by rw [hg];exact (zh hCq) : w.heap.size ≤ yf))
           have n7_ := za.mk (hnq hg yc.out)
           have n8_ := za.mk (hmq hg yc.out)
           clear yb
           clear yO
           clear yc
           clear HB
           have yb := n0_
           have yO := n1_
           have yc := n2_
           have HB := n3_
           have yw := n4_
           have yk := n5_
           have YG := n6_
           have yg := n7_
           have yu := n8_
           clear n0_ n1_ n2_ n3_ n4_ n5_ n6_ n7_ n8_
           clear hb hbox hg
           refine hK.out _ _ ⟨(zb yc.out 0).trans rfl,(zb yc.out 1).trans rfl,(zb yc.out 2).trans rfl,((HB.out.cell (World.block_lt_of_cell? w _ yn)).trans yn),((HB.out.cell (World.block_lt_of_cell? w _ yo)).trans yo),((HB.out.cell (World.block_lt_of_cell? w _ yp)).trans yp),((HB.out.cell (World.block_lt_of_cell? w _ yq)).trans yq),((HB.out.cell (World.block_lt_of_cell? w _ yr)).trans yr),((HB.out.cell (World.block_lt_of_cell? w _ yt)).trans yt)⟩ (fun hHeld => ?_)
           clear hK K
           refine za5 (a' := ?_) ?_ ?_
           rotate_left
           ·show Act.put _ (some 11) _ = _
            simp only [Act.put,List.setIfInBounds_toArray,List.set_cons_zero,List.set_cons_succ,zam,zap]
            rfl
           exact za5 (by simp only [zdN,Act.put,List.setIfInBounds_toArray,List.set_cons_zero,List.set_cons_succ]) (hCont (jq,yf) _ ⟨hHeld,(by (with_reducible repeat (first | apply Kd.V_alloc | apply Kd.V_drewN | apply Kd.V_drew));exact yO.out),(by (with_reducible repeat (first | apply Kd.V_alloc | apply Kd.V_drewN | apply Kd.V_drew));exact yb.out),(hGq yc.out),(hGq yw.out),yk.out,YG.out,yg.out,yu.out,hCq⟩)
          ·skip
           refine zeW ?hg (N := 11) ?hd (cs := #[.int .i64 0,.int .i64 0,.slice none 0 0]) (t := 26) ?hr ?_;(case hd => rfl);(case hg => rfl);(case hr => first | (go_simp;done) | (go_simp;rfl))
           intro yf hg w29 hbox hb
           have n0_ := za.mk (Kd.V_below (Kd.V_elderB (by (with_reducible repeat (first | apply Kd.V_alloc | apply Kd.V_drewN | apply Kd.V_drew));exact yb.out) yf (Nat.le_of_eq hg.symm)) hb)
           have n1_ := za.mk (hbq yc.out hb)
           have n2_ := za.mk (ze hCq hb)
           have n3_ := za.mk (hbox)
           have n4_ := za.mk ((by rw [hg];exact (zh hCq) : w.heap.size ≤ yf))
           have n5_ := za.mk ((by rw [hg];exact (zh hCq) : w.heap.size ≤ yf))
           have n6_ := za.mk (hnq hg yc.out)
           have n7_ := za.mk (hmq hg yc.out)
           clear yb
           clear yc
           clear HB
           have yb := n0_
           have yc := n1_
           have HB := n2_
           have yw := n3_
           have yk := n4_
           have YG := n5_
           have yg := n6_
           have yu := n7_
           clear n0_ n1_ n2_ n3_ n4_ n5_ n6_ n7_
           clear hb hbox hg
           refine hK.out _ _ ⟨(zb yc.out 0).trans rfl,(zb yc.out 1).trans rfl,(zb yc.out 2).trans rfl,((HB.out.cell (World.block_lt_of_cell? w _ yn)).trans yn),((HB.out.cell (World.block_lt_of_cell? w _ yo)).trans yo),((HB.out.cell (World.block_lt_of_cell? w _ yp)).trans yp),((HB.out.cell (World.block_lt_of_cell? w _ yq)).trans yq),((HB.out.cell (World.block_lt_of_cell? w _ yr)).trans yr),((HB.out.cell (World.block_lt_of_cell? w _ yt)).trans yt)⟩ (fun hHeld => ?_)
           clear hK K
           refine za5 (a' := ?_) ?_ ?_
           rotate_left
           ·show Act.put _ (some 11) _ = _
            simp only [Act.put,List.setIfInBounds_toArray,List.set_cons_zero,List.set_cons_succ,zam,zap]
            rfl
           refine zct (i := 5) (N := some 42) #[true,true,true,true,true,true,false,false,false,true,false,false] rfl rfl (za0 HT_.out (by kernel_rfl)) (by decide) (fun K hK => ?_)
           refine zbG Tryz.func5 (by kernel_rfl) rfl #[.agg #[.int .i64 yd,.int .i64 ye,.slice Ao27 ya.length co27],.agg #[.int .i64 ((zN l1 x10_2).f0),.int .i64 ((zN l1 x10_2).f1),.slice Yg ((zN l1 x10_2).f2).length Yi,.slice Yh ((zN l1 x10_2).f3).length Yj,.int .i64 ((zN l1 x10_2).f4.f0),.int .i64 ((zN l1 x10_2).f4.f1)]] (by rfl) rfl rfl hMq ?_
           with_reducible refine (zar.calls yd ye (fun k_ => (k_ ≠ yh ∧ k_ ≠ yf)) _ _ ya ((zN l1 x10_2).f0) ((zN l1 x10_2).f1) (fun k_ => k_ < w.heap.size) _ _ ((zN l1 x10_2).f2) (fun k_ => k_ < w.heap.size) _ _ ((zN l1 x10_2).f3) ((zN l1 x10_2).f4.f0) ((zN l1 x10_2).f4.f1) YB YC YD YI _ ?side1 ?side2 ?side3 A13.out).mono ?_
           (case side1 => exact yb.out)
           (case side2 => exact Kd.V_mk YM.out (Kd.F_below (Kd.C_F zd3 Yr.out) hCq))
           (case side3 => exact Kd.V_mk YN.out (Kd.F_below (Kd.C_F Kd.heap_string Ys.out) hCq))
           rintro e w30 ⟨jq,rfl,ho0,hb⟩
           refine ⟨_,rfl,?_⟩
           have n0_ := za.mk (Kd.V_below (by (with_reducible repeat (first | apply Kd.V_alloc | apply Kd.V_drewN | apply Kd.V_drew));exact yb.out) hb)
           have n1_ := za.mk (Kd.V_lower (Kd.V_mono (ok' := fun k_ => k_ ≠ yh ∧ k_ ≠ yf) ho0 (fun k_ hk_ => ⟨Or.elim hk_ (fun hs_ => Or.elim hs_ (fun hs_ => hs_.1) (fun hs_ => Or.elim hs_ (fun hs_ => fun e_ => Nat.not_le.2 hs_ (by rw [e_];exact jh.out)) (fun hs_ => fun e_ => Nat.not_le.2 hs_ (by rw [e_];exact jh.out)))) (fun hn_ => (Kd.freshB (g := yh) (o := .cells #[.int .i64 yd,.int .i64 ye,.slice Ao27 ya.length co27] 26 (0,0)) (hGq yc.out) k_ hn_)),Or.elim hk_ (fun hs_ => Or.elim hs_ (fun hs_ => hs_.2) (fun hs_ => Or.elim hs_ (fun hs_ => fun e_ => Nat.not_le.2 hs_ (by rw [e_];exact yk.out)) (fun hs_ => fun e_ => Nat.not_le.2 hs_ (by rw [e_];exact yk.out)))) (fun hn_ => (Kd.freshB (g := yf) (o := .cells #[.int .i64 0,.int .i64 0,.slice none 0 0] 26 (0,0)) (hGq yw.out) k_ hn_))⟩)) (zh hCq))
           have n2_ := za.mk (hbq yc.out hb)
           have n3_ := za.mk (hbq yw.out hb)
           have n4_ := za.mk (ze hCq hb)
           clear yb
           clear yc
           clear yw
           clear HB
           have yb := n0_
           have yO := n1_
           have yc := n2_
           have yw := n3_
           have HB := n4_
           clear n0_ n1_ n2_ n3_ n4_
           (try clear hb)
           (try clear hb2)
           (try clear hk)
           (try clear hi)
           (try clear ho0)
           refine hK.out _ _ ⟨(zb yc.out 0).trans rfl,(zb yc.out 1).trans rfl,(zb yc.out 2).trans rfl,((HB.out.cell (World.block_lt_of_cell? w _ yn)).trans yn),((HB.out.cell (World.block_lt_of_cell? w _ yo)).trans yo),((HB.out.cell (World.block_lt_of_cell? w _ yp)).trans yp),((HB.out.cell (World.block_lt_of_cell? w _ yq)).trans yq),((HB.out.cell (World.block_lt_of_cell? w _ yr)).trans yr),((HB.out.cell (World.block_lt_of_cell? w _ yt)).trans yt)⟩ (fun hHeld => ?_)
           clear hK K
           refine za5 (a' := ?_) ?_ ?_
           rotate_left
           ·show Act.put _ (some 42) _ = _
            simp only [Act.put,List.setIfInBounds_toArray,List.set_cons_zero,List.set_cons_succ,zam,zap]
            rfl
           refine puq (i := 6) (N := some 36) HT_.out #[true,true,true,true,true,true,true,false,false,true,false,false] ?_
           refine puq (i := 7) (N := some 43) HT_.out #[true,true,true,true,true,true,true,true,false,true,false,false] ?_
           refine puq (i := 8) (N := some 44) HT_.out (uQ 12 10) ?_
           exact za5 (by simp only [zdN,Act.put,List.setIfInBounds_toArray,List.set_cons_zero,List.set_cons_succ]) (hCont (jq,yf) _ ⟨hHeld,(by (with_reducible repeat (first | apply Kd.V_alloc | apply Kd.V_drewN | apply Kd.V_drew));exact yO.out),(by (with_reducible repeat (first | apply Kd.V_alloc | apply Kd.V_drewN | apply Kd.V_drew));exact yb.out),(hGq yc.out),(hGq yw.out),yk.out,YG.out,yg.out,yu.out,hCq⟩)
         rintro ⟨jq,yf⟩ w31 ⟨hS_,h0_,h1_,h2_,h3_,h4_,h5_,h6_,h7_,h8_⟩
         have n0_ : za (Kd.V k39 39 w31 w.heap.size (fun k_ => k_ ≠ yh ∧ k_ ≠ yf) jq YD) := ⟨h0_⟩
         have n1_ : za (Kd.V k39 39 w31 w.heap.size (fun k_ => k_ ≠ yh ∧ k_ ≠ yf) (.slice Ao27 ya.length co27) ya) := ⟨h1_⟩
         have n2_ : za (w31.heap[yh]? = some (.cells #[.int .i64 yd,.int .i64 ye,.slice Ao27 ya.length co27] 26 (0,0))) := ⟨h2_⟩
         have n3_ : za (w31.heap[yf]? = some (.cells #[.int .i64 0,.int .i64 0,.slice none 0 0] 26 (0,0))) := ⟨h3_⟩
         have n4_ : za (w.heap.size ≤ yf) := ⟨h4_⟩
         have n5_ : za (w.heap.size ≤ yf) := ⟨h5_⟩
         have n6_ : za (yh ≠ yf) := ⟨h6_⟩
         have n7_ : za (yf ≠ yh) := ⟨h7_⟩
         have n8_ : za (Below w.heap.size w w31) := ⟨h8_⟩
         clear yb
         clear yc
         clear HB
         clear h0_ h1_ h2_ h3_ h4_ h5_ h6_ h7_ h8_
         have yO := n0_
         have yb := n1_
         have yc := n2_
         have yw := n3_
         have yk := n4_
         have YG := n5_
         have yg := n6_
         have yu := n7_
         have HB := n8_
         clear n0_ n1_ n2_ n3_ n4_ n5_ n6_ n7_ n8_
         have hHeld : w31.cell? ⟨yh,0,none⟩ = some (.int .i64 yd) ∧ w31.cell? ⟨yh,1,none⟩ = some (.int .i64 ye) ∧ w31.cell? ⟨yh,2,none⟩ = some (.slice Ao27 ya.length co27) ∧ w31.cell? (yi.add ((x10_2).toNat * 6)) = some (.int .i64 ((zN l1 x10_2).f0)) ∧ w31.cell? ⟨(yi.add ((x10_2).toNat * 6)).block,(yi.add ((x10_2).toNat * 6)).off + 1,none⟩ = some (.int .i64 ((zN l1 x10_2).f1)) ∧ w31.cell? ⟨(yi.add ((x10_2).toNat * 6)).block,(yi.add ((x10_2).toNat * 6)).off + 2,none⟩ = some (.slice Yg ((zN l1 x10_2).f2).length Yi) ∧ w31.cell? ⟨(yi.add ((x10_2).toNat * 6)).block,(yi.add ((x10_2).toNat * 6)).off + 3,none⟩ = some (.slice Yh ((zN l1 x10_2).f3).length Yj) ∧ w31.cell? ⟨(yi.add ((x10_2).toNat * 6)).block,(yi.add ((x10_2).toNat * 6)).off + 4,none⟩ = some (.int .i64 ((zN l1 x10_2).f4.f0)) ∧ w31.cell? ⟨(yi.add ((x10_2).toNat * 6)).block,(yi.add ((x10_2).toNat * 6)).off + 5,none⟩ = some (.int .i64 ((zN l1 x10_2).f4.f1)) := hS_
         obtain ⟨Ao34,co34,eo34⟩ := Kd.V_slice yO.out
         (first | subst eo34 | (injection eo34 with f1_ f2_ f3_;have f4_ := f1_.symm;have f5_ := f3_.symm;clear f1_ f2_ f3_;subst f4_;subst f5_))
         refine za5 (a' := ?_) ?_ ?_
         rotate_left
         ·simp only [zdN,Act.put,List.setIfInBounds_toArray,List.set_cons_zero,List.set_cons_succ]
          rfl
         refine zct (i := 10) (N := none) (uQ 12 11) rfl rfl (za0 HT_.out (by kernel_rfl)) (by decide) (fun K hK => ?_)
         have hs32 : w31.cell? ⟨yf,0,none⟩ = some (.int .i64 0) := (zb yw.out 0).trans rfl
         have hfs32 := zc yw.out 0
         have hns32_0 := yg.out
         have hms32_0 := yu.out
         have hs33 : w31.cell? ⟨yf,1,none⟩ = some (.int .i64 0) := (zb yw.out 1).trans rfl
         have hfs33 := zc yw.out 1
         have hns33_0 := yg.out
         have hms33_0 := yu.out
         have hs35 : w31.cell? ⟨yf,2,none⟩ = some (.slice none 0 0) := (zb yw.out 2).trans rfl
         have hfs35 := zc yw.out 2
         have hns35_0 := yg.out
         have hms35_0 := yu.out
         refine skip_ (w1 := ?_) (by rfl) rfl ?_ ?_
         rotate_left
         ·go_simp
          rfl
         refine hK.out _ _ ⟨((zW (p := ⟨yf,_,none⟩) yg.out _).trans (((zW (p := ⟨yf,_,none⟩) yg.out _).trans (((zW (p := ⟨yf,_,none⟩) yg.out _).trans (hHeld.1)))))),((zW (p := ⟨yf,_,none⟩) yg.out _).trans (((zW (p := ⟨yf,_,none⟩) yg.out _).trans (((zW (p := ⟨yf,_,none⟩) yg.out _).trans (hHeld.2.1)))))),((zW (p := ⟨yf,_,none⟩) yg.out _).trans (((zW (p := ⟨yf,_,none⟩) yg.out _).trans (((zW (p := ⟨yf,_,none⟩) yg.out _).trans (hHeld.2.2.1)))))),((zW (p := ⟨yf,_,none⟩) (hVq yn yk.out) _).trans (((zW (p := ⟨yf,_,none⟩) (hVq yn yk.out) _).trans (((zW (p := ⟨yf,_,none⟩) (hVq yn yk.out) _).trans (hHeld.2.2.2.1)))))),((zW (p := ⟨yf,_,none⟩) (hVq yo yk.out) _).trans (((zW (p := ⟨yf,_,none⟩) (hVq yo yk.out) _).trans (((zW (p := ⟨yf,_,none⟩) (hVq yo yk.out) _).trans (hHeld.2.2.2.2.1)))))),((zW (p := ⟨yf,_,none⟩) (hVq yp yk.out) _).trans (((zW (p := ⟨yf,_,none⟩) (hVq yp yk.out) _).trans (((zW (p := ⟨yf,_,none⟩) (hVq yp yk.out) _).trans (hHeld.2.2.2.2.2.1)))))),((zW (p := ⟨yf,_,none⟩) (hVq yq yk.out) _).trans (((zW (p := ⟨yf,_,none⟩) (hVq yq yk.out) _).trans (((zW (p := ⟨yf,_,none⟩) (hVq yq yk.out) _).trans (hHeld.2.2.2.2.2.2.1)))))),((zW (p := ⟨yf,_,none⟩) (hVq yr yk.out) _).trans (((zW (p := ⟨yf,_,none⟩) (hVq yr yk.out) _).trans (((zW (p := ⟨yf,_,none⟩) (hVq yr yk.out) _).trans (hHeld.2.2.2.2.2.2.2.1)))))),((zW (p := ⟨yf,_,none⟩) (hVq yt yk.out) _).trans (((zW (p := ⟨yf,_,none⟩) (hVq yt yk.out) _).trans (((zW (p := ⟨yf,_,none⟩) (hVq yt yk.out) _).trans (hHeld.2.2.2.2.2.2.2.2))))))⟩ (fun hHeld => ?_)
         clear hK K
         refine puq (i := 11) (N := some 12) HT_.out (uQ 12 12) ?_
         refine zbX (zaX HT_.out (by kernel_rfl)) ?_
         have hnb36 := yu.out
         have hnc36 := yg.out
         obtain ⟨hcz37_0,hcz37_1,hcz37_2,hfz37_0,hfz37_1,hfz37_2⟩ := hcq3 yw.out
         obtain ⟨hcz38_0,hcz38_1,hcz38_2,hfz38_0,hfz38_1,hfz38_2⟩ := hcq3 yc.out
         try go_wp2
         go_roundg k2
         case measure => have := HJ4.out;have := HK2.out;omega
         case rel => exact ⟨(x9_2),(wrap64 (x10_2 + 1)),(YB),(YC),(YD),(.slice Ao34 YD.length co34),(hDq),(hDq),H',⟨by have := HJ4.out;have := HK2.out;omega⟩,⟨by (with_reducible repeat (first | apply Kd.V_alloc | apply Kd.V_drewN | apply Kd.V_drew));exact Kd.V_mono (Kd.V_far (p := ⟨yh,2,none⟩) (Kd.V_far (p := ⟨yh,1,none⟩) (Kd.V_far (p := ⟨yh,0,none⟩) (Kd.V_far (p := ⟨yf,2,none⟩) (Kd.V_far (p := ⟨yf,1,none⟩) (Kd.V_far (p := ⟨yf,0,none⟩) (Kd.V_mono (Kd.V_mono yO.out (fun k_ hk => (⟨hk,hk.2⟩ : _ ∧ k_ ≠ yf))) (fun k_ hk => (⟨hk,hk.1.1⟩ : _ ∧ k_ ≠ yh))) (fun _ hk => hk.1.2) (.int .i64 YB)) (fun _ hk => hk.1.2) (.int .i64 YC)) (fun _ hk => hk.1.2) (.slice Ao34 YD.length co34)) (fun _ hk => hk.2) (.int .i64 YB)) (fun _ hk => hk.2) (.int .i64 YC)) (fun _ hk => hk.2) (.slice Ao34 YD.length co34)) (fun _ hk => hk.1.1.1)⟩,⟨hxq1p yg.out yc.out⟩,⟨by repeat (first | (with_reducible first | exact HB.out | apply zl | apply zi | apply zp | refine zm ?_ YF.out | refine zm ?_ YG.out) | exact HB.out)⟩⟩
       ·rw [if_neg c12] at H
        exact absurd H (by simp)
      ·rw [if_neg c11] at H
       have c11b0 : decide (x10_2 < (l1.length : Int)) = false := decide_eq_false c11
       clear c11
       by_cases c39 : (ya.length : Int) = x9_2
       ·rw [if_pos c39] at H
        have c39b0 : ((ya.length : Int) == x9_2) = true := beq_iff_eq.mpr c39
        have c39b1 : ((ya.length : Int) != x9_2) = false := bne_eq_false_iff_eq.mpr c39
        clear c39
        replace H := Option.bind_eq_some_iff.mp H
        obtain ⟨j9,JK,H⟩ := H
        replace H : (if j9 = true then (if x9_2 = 0 then (zg.j2 k2 a2 x9_2 true yd ye ya) else ((zk.f k2 yd ye ya).bind fun jx => (zg.j2 k2 a2 x9_2 jx yd ye ya))) else (some true)) = some r := H
        have A40 := za.mk JK
        clear JK
        by_cases c41 : j9 = true
        ·subst c41
         have H1 : (if x9_2 = 0 then (zg.j2 k2 a2 x9_2 true yd ye ya) else ((zk.f k2 yd ye ya).bind fun jx => (zg.j2 k2 a2 x9_2 jx yd ye ya))) = some r := by rw [if_pos rfl] at H;exact H
         clear H
         have H := H1
         clear H1
         have HC42 := za.mk H
         clear H
         obtain ⟨hcz43_0,hcz43_1,hcz43_2,hfz43_0,hfz43_1,hfz43_2⟩ := hcq3 yc.out
         obtain ⟨Ao44,co44,eo44⟩ := Kd.V_slice yb.out
         subst eo44
         go_upto_region 18 with (first | ((with_reducible refine zQ (f := 6) rfl ?_);refine zaB (some 57) rfl rfl Tryz.func6 (by kernel_rfl) rfl #[.agg #[.int .i64 yd,.int .i64 ye,.slice Ao44 ya.length co44],.agg #[.int .i64 yd,.int .i64 ye,.slice Ao44 ya.length co44]] rfl hMq ?_;(with_reducible refine (zF.calls yd ye _ _ ya yd ye _ _ ya true _ ?side1 ?side2 ?side3 ?side4 A40.out).mono ?_);(case side1 => repeat (first | exact (Kd.V_reads' yb.out).2.2 | (with_reducible refine Kd.C_alloc ?_ _) | (with_reducible refine Kd.C_drewN ?_ _) | (with_reducible refine Kd.C_drew ?_)));(case side2 => exact (Kd.V_reads' yb.out).2.1);(case side3 => repeat (first | exact (Kd.V_reads' yb.out).2.2 | (with_reducible refine Kd.C_alloc ?_ _) | (with_reducible refine Kd.C_drewN ?_ _) | (with_reducible refine Kd.C_drew ?_)));(case side4 => exact (Kd.V_reads' yb.out).2.1);rintro e w45 ⟨rfl,hb⟩;refine ⟨_,rfl,?_⟩;have n_ := haq (Kd.V_below (by (with_reducible repeat (first | apply Kd.V_alloc | apply Kd.V_drewN | apply Kd.V_drew));exact yb.out) hb) <| haq (hbq yc.out hb) <| haq (ze hCq hb) <| trivial;clear yb yc HB;obtain ⟨yb,yc,HB,_⟩ := n_;(try clear hb);(try clear hb2);(try clear hk);(try clear hi)))
         (try simp only [Act.put,List.setIfInBounds_toArray,List.set_cons_zero,List.set_cons_succ])
         go_cut [14] (fun v14 wc => ∃ (kq : Nat) (x14_41 : Bool),v14 = .bool x14_41 ∧ za (zg.j2 kq a2 x9_2 x14_41 yd ye ya = some r) ∧ za (kq ≤ k2) ∧ za (Kd.V k39 39 wc w.heap.size (fun k_ => k_ ≠ yh) (.slice Ao44 ya.length co44) ya) ∧ za (wc.heap[yh]? = some (.cells #[.int .i64 yd,.int .i64 ye,(.slice Ao44 ya.length co44)] 26 (0,0))) ∧ za (Below w.heap.size w wc))
         case first =>
          have H := HC42.out
          clear HC42
          by_cases c46 : x9_2 = 0
          ·rw [if_pos c46] at H
           have c46b0 : (x9_2 == 0) = true := beq_iff_eq.mpr c46
           have c46b1 : (x9_2 != 0) = false := bne_eq_false_iff_eq.mpr c46
           clear c46
           (first | rw [c46b0] | (simp only [zam,zap];rw [c46b0]) | skip)
           have H' := za.mk H
           clear H
           go_wp2
           go_meet
           case rel => exact ⟨_,(true),(hDq),H',⟨by have := HJ4.out;have := HK2.out;first | omega | exact Nat.le_refl _⟩,⟨by (with_reducible repeat (first | apply Kd.V_alloc | apply Kd.V_drewN | apply Kd.V_drew));exact yb.out⟩,⟨hGq yc.out⟩,⟨by repeat (first | (with_reducible first | exact HB.out | apply zl | apply zi | apply zp | refine zm ?_ YF.out) | exact HB.out)⟩⟩
          ·rw [if_neg c46] at H
           have c46b0 : (x9_2 == 0) = false := beq_eq_false_iff_ne.mpr c46
           have c46b1 : (x9_2 != 0) = true := bne_iff_ne.mpr c46
           (first | rw [c46b0] | (simp only [zam,zap];rw [c46b0]) | skip)
           replace H := Option.bind_eq_some_iff.mp H
           obtain ⟨jx,JL,H⟩ := H
           replace H : (zg.j2 k2 a2 x9_2 jx yd ye ya) = some r := H
           have A47 := za.mk JL
           clear JL
           have H' := za.mk H
           clear H
           obtain ⟨hcz48_0,hcz48_1,hcz48_2,hfz48_0,hfz48_1,hfz48_2⟩ := hcq3 yc.out
           go_wp2_with (first | (go_at_call 7;(with_reducible refine (zk.calls k2 yd ye _ _ ya jx _ ?side1 ?side2 A47.out).mono ?_);(case side1 => repeat (first | exact (Kd.V_reads' yb.out).2.2 | (with_reducible refine Kd.C_alloc ?_ _) | (with_reducible refine Kd.C_drewN ?_ _) | (with_reducible refine Kd.C_drew ?_)));(case side2 => exact (Kd.V_reads' yb.out).2.1);rintro e w49 ⟨rfl,hb⟩;have n_ := haq (Kd.V_below (by (with_reducible repeat (first | apply Kd.V_alloc | apply Kd.V_drewN | apply Kd.V_drew));exact yb.out) hb) <| haq (hbq yc.out hb) <| haq (ze hCq hb) <| trivial;clear yb yc HB;obtain ⟨yb,yc,HB,_⟩ := n_;(try clear hb);(try clear hb2);(try clear hk);(try clear hi)))
           go_meet
           case rel => exact ⟨_,(jx),(hDq),H',⟨by have := HJ4.out;have := HK2.out;first | omega | exact Nat.le_refl _⟩,⟨by (with_reducible repeat (first | apply Kd.V_alloc | apply Kd.V_drewN | apply Kd.V_drew));exact yb.out⟩,⟨hGq yc.out⟩,⟨by repeat (first | (with_reducible first | exact HB.out | apply zl | apply zi | apply zp | refine zm ?_ YF.out) | exact HB.out)⟩⟩
         case rest =>
          clear HC42
          try clear c1;try clear c2;try clear p2;try clear q2;try clear hx2;try clear c3;try clear c4;try clear c5;try clear c6;try clear p6;try clear c11;try clear c11b0;try clear c12;try clear c14;try clear c14b0;try clear c14b1;try clear c24;try clear p24;try clear q24;try clear hx24;try clear c36;try clear c39;try clear c39b0;try clear c39b1;try clear c41;try clear c46;try clear c46b0;try clear c46b1;try clear hcz25_0;try clear hcz25_1;try clear hcz25_2;try clear hcz26_0;try clear hcz26_1;try clear hcz26_2;try clear hcz37_0;try clear hcz37_1;try clear hcz37_2;try clear hcz38_0;try clear hcz38_1;try clear hcz38_2;try clear hcz43_0;try clear hcz43_1;try clear hcz43_2;try clear hcz48_0;try clear hcz48_1;try clear hcz48_2;try clear hfz25_0;try clear hfz25_1;try clear hfz25_2;try clear hfz26_0;try clear hfz26_1;try clear hfz26_2;try clear hfz37_0;try clear hfz37_1;try clear hfz37_2;try clear hfz38_0;try clear hfz38_1;try clear hfz38_2;try clear hfz43_0;try clear hfz43_1;try clear hfz43_2;try clear hfz48_0;try clear hfz48_1;try clear hfz48_2;try clear yI;try clear yJ;try clear yK;try clear yL;try clear yM;try clear yN;try clear jr;try clear js
          obtain ⟨kq,x14_41,rfl,HA,HJ41,yb,yc,HB⟩ := hcut
          cases kq with
          | zero => exact absurd HA.out (by simp [zg.j2])
          | succ kj41 =>
           have H := HA.out
           clear HA
           simp only [zg.j2] at H
           have H' := za.mk H
           clear H
           go_wp2
           go_loopg [15] kj41 (fun kq v15 w' => ∃ (x15_4 : Int),v15 = .int .i64 x15_4 ∧ za (zg.l1 kq a2 x9_2 x14_41 x15_4 yd ye ya = some r) ∧ za (kq ≤ kj41) ∧ za (Kd.V k39 39 w' w.heap.size (fun k_ => k_ ≠ yh) (.slice Ao44 ya.length co44) ya) ∧ za (w'.heap[yh]? = some (.cells #[.int .i64 yd,.int .i64 ye,(.slice Ao44 ya.length co44)] 26 (0,0))) ∧ za (Below w.heap.size w w'))
           case atStart => exact ⟨(0),(hDq),H',⟨Nat.le_refl _⟩,⟨by (with_reducible repeat (first | apply Kd.V_alloc | apply Kd.V_drewN | apply Kd.V_drew));exact yb.out⟩,⟨hGq yc.out⟩,⟨by repeat (first | (with_reducible first | exact HB.out | apply zl | apply zi | apply zp | refine zm ?_ YF.out) | exact HB.out)⟩⟩
           case round =>
            clear H'
            try clear c1;try clear c2;try clear p2;try clear q2;try clear hx2;try clear c3;try clear c4;try clear c5;try clear c6;try clear p6;try clear c11;try clear c11b0;try clear c12;try clear c14;try clear c14b0;try clear c14b1;try clear c24;try clear p24;try clear q24;try clear hx24;try clear c36;try clear c39;try clear c39b0;try clear c39b1;try clear c41;try clear c46;try clear c46b0;try clear c46b1;try clear hcz25_0;try clear hcz25_1;try clear hcz25_2;try clear hcz26_0;try clear hcz26_1;try clear hcz26_2;try clear hcz37_0;try clear hcz37_1;try clear hcz37_2;try clear hcz38_0;try clear hcz38_1;try clear hcz38_2;try clear hcz43_0;try clear hcz43_1;try clear hcz43_2;try clear hcz48_0;try clear hcz48_1;try clear hcz48_2;try clear hfz25_0;try clear hfz25_1;try clear hfz25_2;try clear hfz26_0;try clear hfz26_1;try clear hfz26_2;try clear hfz37_0;try clear hfz37_1;try clear hfz37_2;try clear hfz38_0;try clear hfz38_1;try clear hfz38_2;try clear hfz43_0;try clear hfz43_1;try clear hfz43_2;try clear hfz48_0;try clear hfz48_1;try clear hfz48_2;try clear yI;try clear yJ;try clear yK;try clear yL;try clear yM;try clear yN;try clear p2;try clear p24;try clear jr;try clear p6;try clear q2;try clear q24;try clear js
            obtain ⟨x15_4,rfl,HA,HK4,yb,yc,HB⟩ := hrel
            cases gk with
            | zero => exact absurd HA.out (by simp [zg.l1])
            | succ k4 =>
             have H := HA.out
             clear HA
             simp only [zg.l1] at H
             by_cases c50 : x15_4 < (ya.length : Int)
             ·rw [if_pos c50] at H
              have c50b0 : decide (x15_4 < (ya.length : Int)) = true := decide_eq_true c50
              clear c50
              have H' := za.mk H
              clear H
              obtain ⟨hcz51_0,hcz51_1,hcz51_2,hfz51_0,hfz51_1,hfz51_2⟩ := hcq3 yc.out
              go_wp2
              go_loopg [16] k4 (fun kq v16 w' => ∃ (x16_5 : Int),v16 = .int .i64 x16_5 ∧ za (zg.l2 kq a2 x9_2 x14_41 x15_4 x16_5 yd ye ya = some r) ∧ za (kq ≤ k4) ∧ za (Kd.V k39 39 w' w.heap.size (fun k_ => k_ ≠ yh) (.slice Ao44 ya.length co44) ya) ∧ za (w'.heap[yh]? = some (.cells #[.int .i64 yd,.int .i64 ye,(.slice Ao44 ya.length co44)] 26 (0,0))) ∧ za (Below w.heap.size w w'))
              case atStart => exact ⟨(0),(hDq),H',⟨Nat.le_refl _⟩,⟨by (with_reducible repeat (first | apply Kd.V_alloc | apply Kd.V_drewN | apply Kd.V_drew));exact yb.out⟩,⟨hGq yc.out⟩,⟨by repeat (first | (with_reducible first | exact HB.out | apply zl | apply zi | apply zp | refine zm ?_ YF.out) | exact HB.out)⟩⟩
              case round =>
               clear H'
               try clear c1;try clear c2;try clear p2;try clear q2;try clear hx2;try clear c3;try clear c4;try clear c5;try clear c6;try clear p6;try clear c11;try clear c11b0;try clear c12;try clear c14;try clear c14b0;try clear c14b1;try clear c24;try clear p24;try clear q24;try clear hx24;try clear c36;try clear c39;try clear c39b0;try clear c39b1;try clear c41;try clear c46;try clear c46b0;try clear c46b1;try clear c50;try clear c50b0;try clear hcz25_0;try clear hcz25_1;try clear hcz25_2;try clear hcz26_0;try clear hcz26_1;try clear hcz26_2;try clear hcz37_0;try clear hcz37_1;try clear hcz37_2;try clear hcz38_0;try clear hcz38_1;try clear hcz38_2;try clear hcz43_0;try clear hcz43_1;try clear hcz43_2;try clear hcz48_0;try clear hcz48_1;try clear hcz48_2;try clear hcz51_0;try clear hcz51_1;try clear hcz51_2;try clear hfz25_0;try clear hfz25_1;try clear hfz25_2;try clear hfz26_0;try clear hfz26_1;try clear hfz26_2;try clear hfz37_0;try clear hfz37_1;try clear hfz37_2;try clear hfz38_0;try clear hfz38_1;try clear hfz38_2;try clear hfz43_0;try clear hfz43_1;try clear hfz43_2;try clear hfz48_0;try clear hfz48_1;try clear hfz48_2;try clear hfz51_0;try clear hfz51_1;try clear hfz51_2;try clear yI;try clear yJ;try clear yK;try clear yL;try clear yM;try clear yN;try clear p2;try clear p24;try clear jr;try clear p6;try clear q2;try clear q24;try clear js
               obtain ⟨x16_5,rfl,HA,HK5,yb,yc,HB⟩ := hrel
               cases gk with
               | zero => exact absurd HA.out (by simp [zg.l2])
               | succ k5 =>
                have H := HA.out
                clear HA
                simp only [zg.l2] at H
                by_cases c52 : 0 ≤ x15_4
                ·rw [if_pos c52] at H
                 have c52b0 : decide (0 ≤ x15_4) = true := decide_eq_true c52
                 clear c52
                 by_cases c53 : x15_4 < (ya.length : Int)
                 ·rw [if_pos c53] at H
                  have c53b0 : decide (x15_4 < (ya.length : Int)) = true := decide_eq_true c53
                  clear c53
                  by_cases c54 : x16_5 < (((zd ya x15_4).f1.f3).length : Int)
                  ·rw [if_pos c54] at H
                   have c54b0 : decide (x16_5 < (((zd ya x15_4).f1.f3).length : Int)) = true := decide_eq_true c54
                   clear c54
                   by_cases c55 : 0 ≤ x16_5
                   ·rw [if_pos c55] at H
                    have c55b0 : decide (0 ≤ x16_5) = true := decide_eq_true c55
                    clear c55
                    replace H := Option.bind_eq_some_iff.mp H
                    obtain ⟨Ja,JM,H⟩ := H
                    replace H : (if Ja = true then (zg.l2 k5 a2 x9_2 x14_41 x15_4 (wrap64 (x16_5 + 1)) yd ye ya) else (some false)) = some r := H
                    have A56 := za.mk JM
                    clear JM
                    by_cases c57 : Ja = true
                    ·subst c57
                     have H1 : (zg.l2 k5 a2 x9_2 x14_41 x15_4 (wrap64 (x16_5 + 1)) yd ye ya) = some r := by rw [if_pos rfl] at H;exact H
                     clear H
                     have H := H1
                     clear H1
                     have H' := za.mk H
                     clear H
                     obtain ⟨hcz58_0,hcz58_1,hcz58_2,hfz58_0,hfz58_1,hfz58_2⟩ := hcq3 yc.out
                     have jf : 0 ≤ (x15_4 : Int) := hFq
                     have jg : x15_4 < (ya.length : Int) := hFq
                     obtain ⟨yj,jS,jX,jT,jY,jZ,jJ,jK,jL,Y0,Y3,jM,jN,Yn,Yl,Yo,Ym⟩ := zbe (Kd.V_reads' yb.out).2.2 x15_4 jf jg
                     cases jZ
                     obtain ⟨Jk,jp,jo,Yk⟩ := Kd.V_get yb.out z39 x15_4 jf (by first | exact jg | exact hFq | (have e_ := (Kd.V_reads' yb.out).1;omega))
                     obtain ⟨jO,jQ,jP,jR,rfl,yU,yS,yV,yT⟩ := zaN jo
                     have yG := Yk 3 _ rfl
                     rw [zM _ _ 3 (by omega)] at yG
                     replace yG := Option.some.inj (yG.symm.trans Y0)
                     injection yG with hva_ hvn_ hvc_
                     rw [hva_] at yS
                     rw [hvc_] at yU
                     have yC := za.mk (show Kd.V k75 75 _ w.heap.size _ _ ((zd ya x15_4).f1.f2) from Kd.V_mk yU yS)
                     clear hva_ hvn_ hvc_ yS yU
                     have yH := Yk 4 _ rfl
                     rw [zM _ _ 4 (by omega)] at yH
                     replace yH := Option.some.inj (yH.symm.trans Y3)
                     injection yH with hva_ hvn_ hvc_
                     rw [hva_] at yT
                     rw [hvc_] at yV
                     have yD := za.mk (show Kd.V Kd.string 9 _ w.heap.size _ _ ((zd ya x15_4).f1.f3) from Kd.V_mk yV yT)
                     clear hva_ hvn_ hvc_ yT yV
                     clear Yk jp
                     have yy := za.mk Yl
                     have jG := za.mk Yn
                     clear Yl Yn
                     have yz := za.mk Ym
                     have jH := za.mk Yo
                     clear Ym Yo
                     replace jf := eq_true jf
                     replace jg := eq_true jg
                     try go_wp2
                     have n0_ := za.mk (Kd.V_drew yb.out)
                     have n1_ := za.mk (Kd.V_drew yC.out)
                     have n2_ := za.mk (Kd.V_drew yD.out)
                     have n3_ := za.mk (zaf yc.out)
                     have n4_ := za.mk (Kd.C_drew yy.out)
                     have n5_ := za.mk (Kd.C_drew yz.out)
                     have n6_ := za.mk (zp HB.out)
                     clear yb
                     clear yC
                     clear yD
                     clear yc
                     clear yy
                     clear yz
                     clear HB
                     have yb := n0_
                     have yC := n1_
                     have yD := n2_
                     have yc := n3_
                     have yy := n4_
                     have yz := n5_
                     have HB := n6_
                     clear n0_ n1_ n2_ n3_ n4_ n5_ n6_
                     have jt : 0 ≤ (x15_4 : Int) := hFq
                     have jv : x15_4 < (ya.length : Int) := hFq
                     obtain ⟨jV,jj,jm,Jo,jn,Ju,Y4,Y5,Y6,Yc,Yd,Y7,Y8,YW,YQ,YX,YR⟩ := zbe (Kd.V_reads' yb.out).2.2 x15_4 jt jv
                     obtain rfl : yj = jV := (by injection Ju)
                     obtain ⟨JP,jC,jA,YJ⟩ := Kd.V_get yb.out z39 x15_4 jt (by first | exact jv | exact hFq | (have e_ := (Kd.V_reads' yb.out).1;omega))
                     obtain ⟨Jb,Jf,Jc,Jg,rfl,Yx,Yt,Yy,Yu⟩ := zaN jA
                     have y8 := YJ 3 _ rfl
                     rw [zM _ _ 3 (by omega)] at y8
                     replace y8 := Option.some.inj (y8.symm.trans Yc)
                     injection y8 with hva_ hvn_ hvc_
                     rw [hva_] at Yt
                     rw [hvc_] at Yx
                     have yW := za.mk (show Kd.V k75 75 _ w.heap.size _ _ ((zd ya x15_4).f1.f2) from Kd.V_mk Yx Yt)
                     clear hva_ hvn_ hvc_ Yt Yx
                     have y9 := YJ 4 _ rfl
                     rw [zM _ _ 4 (by omega)] at y9
                     replace y9 := Option.some.inj (y9.symm.trans Yd)
                     injection y9 with hva_ hvn_ hvc_
                     rw [hva_] at Yu
                     rw [hvc_] at Yy
                     have yX := za.mk (show Kd.V Kd.string 9 _ w.heap.size _ _ ((zd ya x15_4).f1.f3) from Kd.V_mk Yy Yu)
                     clear hva_ hvn_ hvc_ Yu Yy
                     clear YJ jC
                     have yP := za.mk YQ
                     have j5 := za.mk YW
                     clear YQ YW
                     have yQ := za.mk YR
                     have j6 := za.mk YX
                     clear YR YX
                     replace jt := eq_true jt
                     replace jv := eq_true jv
                     have ju : 0 ≤ (x15_4 : Int) := hFq
                     have jw : x15_4 < (ya.length : Int) := hFq
                     obtain ⟨jW,Jp,Jr,Jq,Js,Jv,Y9,ja,jb,Ye,Yf,jc,jd,YY,YS,YZ,YT⟩ := zbe (Kd.V_reads' yb.out).2.2 x15_4 ju jw
                     obtain rfl : yj = jW := (by injection Jv)
                     obtain ⟨JQ,jD,jB,YK⟩ := Kd.V_get yb.out z39 x15_4 ju (by first | exact jw | exact hFq | (have e_ := (Kd.V_reads' yb.out).1;omega))
                     obtain ⟨Jd,Jh,Je,Ji,rfl,Yz,Yv,YA,Yw⟩ := zaN jB
                     have Ya := YK 3 _ rfl
                     rw [zM _ _ 3 (by omega)] at Ya
                     replace Ya := Option.some.inj (Ya.symm.trans Ye)
                     injection Ya with hva_ hvn_ hvc_
                     rw [hva_] at Yv
                     rw [hvc_] at Yz
                     have yY := za.mk (show Kd.V k75 75 _ w.heap.size _ _ ((zd ya x15_4).f1.f2) from Kd.V_mk Yz Yv)
                     clear hva_ hvn_ hvc_ Yv Yz
                     have Yb := YK 4 _ rfl
                     rw [zM _ _ 4 (by omega)] at Yb
                     replace Yb := Option.some.inj (Yb.symm.trans Yf)
                     injection Yb with hva_ hvn_ hvc_
                     rw [hva_] at Yw
                     rw [hvc_] at YA
                     have yZ := za.mk (show Kd.V Kd.string 9 _ w.heap.size _ _ ((zd ya x15_4).f1.f3) from Kd.V_mk YA Yw)
                     clear hva_ hvn_ hvc_ Yw YA
                     clear YK jD
                     have yR := za.mk YS
                     have j7 := za.mk YY
                     clear YS YY
                     have yE := za.mk YT
                     have j8 := za.mk YZ
                     clear YT YZ
                     replace ju := eq_true ju
                     replace jw := eq_true jw
                     have ea_ := Option.some.inj (Yc.symm.trans Ye)
                     injection ea_ with ea_ en_ ec_
                     subst ea_
                     subst ec_
                     clear en_
                     have ea_ := Option.some.inj (Yd.symm.trans Yf)
                     injection ea_ with ea_ en_ ec_
                     subst ea_
                     subst ec_
                     clear en_
                     have jE : 0 ≤ (x16_5 : Int) := hFq
                     have jF : x16_5 < (((zd ya x15_4).f1.f3).length : Int) := hFq
                     obtain ⟨jk,Jw,je⟩ := Kd.at_string (by repeat (first | (with_reducible exact yE.out) | (with_reducible refine Kd.C_alloc ?_ _) | (with_reducible refine Kd.C_drewN ?_ _) | (with_reducible refine Kd.C_drew ?_) | exact yE.out)) x16_5 jE jF
                     cases Jw
                     replace jE := eq_true jE
                     replace jF := eq_true jF
                     refine zbV (n := 19) (S := fun w' => w'.cell? ⟨yh,0,none⟩ = some (.int .i64 yd) ∧ w'.cell? ⟨yh,1,none⟩ = some (.int .i64 ye) ∧ w'.cell? ⟨yh,2,none⟩ = some (.slice (some yj) ya.length co44) ∧ w'.cell? (yj.add ((x15_4).toNat * 7)) = some (.string ((zd ya x15_4).f0)) ∧ w'.cell? ⟨(yj.add ((x15_4).toNat * 7)).block,(yj.add ((x15_4).toNat * 7)).off + 1,none⟩ = some (.int .i64 ((zd ya x15_4).f1.f0)) ∧ w'.cell? ⟨(yj.add ((x15_4).toNat * 7)).block,(yj.add ((x15_4).toNat * 7)).off + 2,none⟩ = some (.int .i64 ((zd ya x15_4).f1.f1)) ∧ w'.cell? ⟨(yj.add ((x15_4).toNat * 7)).block,(yj.add ((x15_4).toNat * 7)).off + 3,none⟩ = some (.slice jj ((zd ya x15_4).f1.f2).length jm) ∧ w'.cell? ⟨(yj.add ((x15_4).toNat * 7)).block,(yj.add ((x15_4).toNat * 7)).off + 4,none⟩ = some (.slice (some jk) ((zd ya x15_4).f1.f3).length jn) ∧ w'.cell? ⟨(yj.add ((x15_4).toNat * 7)).block,(yj.add ((x15_4).toNat * 7)).off + 5,none⟩ = some (.int .i64 ((zd ya x15_4).f1.f4.f0)) ∧ w'.cell? ⟨(yj.add ((x15_4).toNat * 7)).block,(yj.add ((x15_4).toNat * 7)).off + 6,none⟩ = some (.int .i64 ((zd ya x15_4).f1.f4.f1)) ∧ w'.cell? (yj.add ((x15_4).toNat * 7)) = some (.string ((zd ya x15_4).f0)) ∧ w'.cell? ⟨(yj.add ((x15_4).toNat * 7)).block,(yj.add ((x15_4).toNat * 7)).off + 1,none⟩ = some (.int .i64 ((zd ya x15_4).f1.f0)) ∧ w'.cell? ⟨(yj.add ((x15_4).toNat * 7)).block,(yj.add ((x15_4).toNat * 7)).off + 2,none⟩ = some (.int .i64 ((zd ya x15_4).f1.f1)) ∧ w'.cell? ⟨(yj.add ((x15_4).toNat * 7)).block,(yj.add ((x15_4).toNat * 7)).off + 3,none⟩ = some (.slice jj ((zd ya x15_4).f1.f2).length jm) ∧ w'.cell? ⟨(yj.add ((x15_4).toNat * 7)).block,(yj.add ((x15_4).toNat * 7)).off + 4,none⟩ = some (.slice (some jk) ((zd ya x15_4).f1.f3).length jn) ∧ w'.cell? ⟨(yj.add ((x15_4).toNat * 7)).block,(yj.add ((x15_4).toNat * 7)).off + 5,none⟩ = some (.int .i64 ((zd ya x15_4).f1.f4.f0)) ∧ w'.cell? ⟨(yj.add ((x15_4).toNat * 7)).block,(yj.add ((x15_4).toNat * 7)).off + 6,none⟩ = some (.int .i64 ((zd ya x15_4).f1.f4.f1)) ∧ w'.cell? (jk.add (x16_5).toNat) = some (.string (zz ByteArray.empty ((zd ya x15_4).f1.f3) x16_5))) (ds := []) (uQ 19 0) (by kernel_rfl) rfl rfl ⟨(zb yc.out 0).trans rfl,(zb yc.out 1).trans rfl,(zb yc.out 2).trans rfl,Y4,Y5,Y6,Yc,Yd,Y7,Y8,Y9,ja,jb,Ye,Yf,jc,jd,je⟩ (fun hHeld => ?_);refine zaQ zg.tab25 zg.bits25 (fun HT_ HW_ => ?_)
                     generalize wr.drew = w59 at yb yC yD yc yy yz HB yW yX yY yZ yP yQ yR yE Y4 Y5 Y6 Yc Yd Y7 Y8 Y9 ja jb Ye Yf jc jd je hHeld ⊢
                     refine puq (i := 1) (N := some 86) HT_.out #[false,true,false,false,false,false,false,false,false,false,false,false,false,false,false,false,false,false,false] ?_
                     refine puq (i := 3) (N := some 88) HT_.out #[false,true,false,true,false,false,false,false,false,false,false,false,false,false,false,false,false,false,false] ?_
                     refine puq (i := 7) (N := some 92) HT_.out #[false,true,false,true,false,false,false,true,false,false,false,false,false,false,false,false,false,false,false] ?_
                     refine puq (i := 9) (N := some 94) HT_.out #[false,true,false,true,false,false,false,true,false,true,false,false,false,false,false,false,false,false,false] ?_
                     refine puq (i := 14) (N := some 99) HT_.out #[false,true,false,true,false,false,false,true,false,true,false,false,false,false,true,false,false,false,false] ?_
                     refine take_ (i := 0) (N := some 85) #[true,true,false,true,false,false,false,true,false,true,false,false,false,false,true,false,false,false,false] rfl rfl (zU HT_.out HW_.out (by kernel_rfl)) (fun _ _ _ h => h) (Or.inl ⟨by rfl,by rintro w' ⟨s0,s1,s2,s3,s4,s5,s6,s7,s8,s9,s10,s11,s12,s13,s14,s15,s16,s17⟩;go_simp;with_reducible rfl⟩) hHeld hPq ?_
                     refine take_ (i := 2) (N := some 87) #[true,true,true,true,false,false,false,true,false,true,false,false,false,false,true,false,false,false,false] rfl rfl (zU HT_.out HW_.out (by kernel_rfl)) (fun _ _ _ h => h) (Or.inl ⟨by rfl,by rintro w' ⟨s0,s1,s2,s3,s4,s5,s6,s7,s8,s9,s10,s11,s12,s13,s14,s15,s16,s17⟩;go_simp;with_reducible rfl⟩) hHeld hPq ?_
                     refine puq (i := 4) (N := some 89) HT_.out #[true,true,true,true,true,false,false,true,false,true,false,false,false,false,true,false,false,false,false] ?_
                     refine puq (i := 5) (N := some 90) HT_.out #[true,true,true,true,true,true,false,true,false,true,false,false,false,false,true,false,false,false,false] ?_
                     refine take_ (i := 6) (N := some 91) #[true,true,true,true,true,true,true,true,false,true,false,false,false,false,true,false,false,false,false] rfl rfl (zU HT_.out HW_.out (by kernel_rfl)) (fun _ _ _ h => h) (Or.inl ⟨by rfl,by rintro w' ⟨s0,s1,s2,s3,s4,s5,s6,s7,s8,s9,s10,s11,s12,s13,s14,s15,s16,s17⟩;go_simp;with_reducible rfl⟩) hHeld hPq ?_
                     refine take_ (i := 8) (N := some 93) #[true,true,true,true,true,true,true,true,true,true,false,false,false,false,true,false,false,false,false] rfl rfl (zU HT_.out HW_.out (by kernel_rfl)) (fun _ _ _ h => h) (Or.inl ⟨by rfl,by rintro w' ⟨s0,s1,s2,s3,s4,s5,s6,s7,s8,s9,s10,s11,s12,s13,s14,s15,s16,s17⟩;go_simp;with_reducible rfl⟩) hHeld hPq ?_
                     refine puq (i := 10) (N := some 95) HT_.out #[true,true,true,true,true,true,true,true,true,true,true,false,false,false,true,false,false,false,false] ?_
                     refine puq (i := 11) (N := some 96) HT_.out #[true,true,true,true,true,true,true,true,true,true,true,true,false,false,true,false,false,false,false] ?_
                     refine puq (i := 12) (N := some 97) HT_.out #[true,true,true,true,true,true,true,true,true,true,true,true,true,false,true,false,false,false,false] ?_
                     refine take_ (i := 13) (N := some 98) (uQ 19 15) rfl rfl (zU HT_.out HW_.out (by kernel_rfl)) (fun _ _ _ h => h) (Or.inl ⟨by rfl,by rintro w' ⟨s0,s1,s2,s3,s4,s5,s6,s7,s8,s9,s10,s11,s12,s13,s14,s15,s16,s17⟩;go_simp;with_reducible rfl⟩) hHeld hPq ?_
                     refine puq (i := 15) (N := some 100) HT_.out (uQ 19 16) ?_
                     refine take_ (i := 16) (N := some 101) (uQ 19 17) rfl rfl (zU HT_.out HW_.out (by kernel_rfl)) (fun _ _ _ h => h) (Or.inl ⟨by rfl,by rintro w' ⟨s0,s1,s2,s3,s4,s5,s6,s7,s8,s9,s10,s11,s12,s13,s14,s15,s16,s17⟩;go_simp;with_reducible rfl⟩) hHeld hPq ?_
                     refine zct (i := 17) (N := some 102) (uQ 19 18) rfl rfl (za0 HT_.out (by kernel_rfl)) (by decide) (fun K hK => ?_)
                     refine zbG Tryz.func8 (by kernel_rfl) rfl #[.agg #[.int .i64 yd,.int .i64 ye,.slice (some yj) ya.length co44],.string ((zd ya x15_4).f0),.string (zz ByteArray.empty ((zd ya x15_4).f1.f3) x16_5)] (by rfl) rfl rfl hMq ?_
                     with_reducible refine (zbx.calls yd ye (fun k_ => k_ ≠ yh) _ _ ya ((zd ya x15_4).f0) (zz ByteArray.empty ((zd ya x15_4).f1.f3) x16_5) true _ ?side1 A56.out).mono ?_
                     (case side1 => exact yb.out)
                     rintro e w60 ⟨rfl,hb⟩
                     have HS3_ := (hb.cell (World.block_lt_of_cell? _ _ (hHeld.2.2.2.1))).trans (hHeld.2.2.2.1)
                     have HS4_ := (hb.cell (World.block_lt_of_cell? _ _ (hHeld.2.2.2.2.1))).trans (hHeld.2.2.2.2.1)
                     have HS5_ := (hb.cell (World.block_lt_of_cell? _ _ (hHeld.2.2.2.2.2.1))).trans (hHeld.2.2.2.2.2.1)
                     have HS6_ := (hb.cell (World.block_lt_of_cell? _ _ (hHeld.2.2.2.2.2.2.1))).trans (hHeld.2.2.2.2.2.2.1)
                     have HS7_ := (hb.cell (World.block_lt_of_cell? _ _ (hHeld.2.2.2.2.2.2.2.1))).trans (hHeld.2.2.2.2.2.2.2.1)
                     have HS8_ := (hb.cell (World.block_lt_of_cell? _ _ (hHeld.2.2.2.2.2.2.2.2.1))).trans (hHeld.2.2.2.2.2.2.2.2.1)
                     have HS9_ := (hb.cell (World.block_lt_of_cell? _ _ (hHeld.2.2.2.2.2.2.2.2.2.1))).trans (hHeld.2.2.2.2.2.2.2.2.2.1)
                     have HS10_ := (hb.cell (World.block_lt_of_cell? _ _ (hHeld.2.2.2.2.2.2.2.2.2.2.1))).trans (hHeld.2.2.2.2.2.2.2.2.2.2.1)
                     have HS11_ := (hb.cell (World.block_lt_of_cell? _ _ (hHeld.2.2.2.2.2.2.2.2.2.2.2.1))).trans (hHeld.2.2.2.2.2.2.2.2.2.2.2.1)
                     have HS12_ := (hb.cell (World.block_lt_of_cell? _ _ (hHeld.2.2.2.2.2.2.2.2.2.2.2.2.1))).trans (hHeld.2.2.2.2.2.2.2.2.2.2.2.2.1)
                     have HS13_ := (hb.cell (World.block_lt_of_cell? _ _ (hHeld.2.2.2.2.2.2.2.2.2.2.2.2.2.1))).trans (hHeld.2.2.2.2.2.2.2.2.2.2.2.2.2.1)
                     have HS14_ := (hb.cell (World.block_lt_of_cell? _ _ (hHeld.2.2.2.2.2.2.2.2.2.2.2.2.2.2.1))).trans (hHeld.2.2.2.2.2.2.2.2.2.2.2.2.2.2.1)
                     have HS15_ := (hb.cell (World.block_lt_of_cell? _ _ (hHeld.2.2.2.2.2.2.2.2.2.2.2.2.2.2.2.1))).trans (hHeld.2.2.2.2.2.2.2.2.2.2.2.2.2.2.2.1)
                     have HS16_ := (hb.cell (World.block_lt_of_cell? _ _ (hHeld.2.2.2.2.2.2.2.2.2.2.2.2.2.2.2.2.1))).trans (hHeld.2.2.2.2.2.2.2.2.2.2.2.2.2.2.2.2.1)
                     have HS17_ := (hb.cell (World.block_lt_of_cell? _ _ (hHeld.2.2.2.2.2.2.2.2.2.2.2.2.2.2.2.2.2))).trans (hHeld.2.2.2.2.2.2.2.2.2.2.2.2.2.2.2.2.2)
                     refine ⟨_,rfl,?_⟩
                     have n0_ := za.mk (Kd.V_below (by (with_reducible repeat (first | apply Kd.V_alloc | apply Kd.V_drewN | apply Kd.V_drew));exact yb.out) hb)
                     have n1_ := za.mk (Kd.V_below (by (with_reducible repeat (first | apply Kd.V_alloc | apply Kd.V_drewN | apply Kd.V_drew));exact yC.out) hb)
                     have n2_ := za.mk (Kd.V_below (by (with_reducible repeat (first | apply Kd.V_alloc | apply Kd.V_drewN | apply Kd.V_drew));exact yD.out) hb)
                     have n3_ := za.mk (Kd.V_below (by (with_reducible repeat (first | apply Kd.V_alloc | apply Kd.V_drewN | apply Kd.V_drew));exact yW.out) hb)
                     have n4_ := za.mk (Kd.V_below (by (with_reducible repeat (first | apply Kd.V_alloc | apply Kd.V_drewN | apply Kd.V_drew));exact yX.out) hb)
                     have n5_ := za.mk (Kd.V_below (by (with_reducible repeat (first | apply Kd.V_alloc | apply Kd.V_drewN | apply Kd.V_drew));exact yY.out) hb)
                     have n6_ := za.mk (Kd.V_below (by (with_reducible repeat (first | apply Kd.V_alloc | apply Kd.V_drewN | apply Kd.V_drew));exact yZ.out) hb)
                     have n7_ := za.mk (hbq yc.out hb)
                     have n8_ := za.mk (Kd.C_below (by repeat (first | (with_reducible exact yy.out) | (with_reducible refine Kd.C_alloc ?_ _) | (with_reducible refine Kd.C_drewN ?_ _) | (with_reducible refine Kd.C_drew ?_) | exact yy.out)) hb)
                     have n9_ := za.mk (Kd.C_below (by repeat (first | (with_reducible exact yz.out) | (with_reducible refine Kd.C_alloc ?_ _) | (with_reducible refine Kd.C_drewN ?_ _) | (with_reducible refine Kd.C_drew ?_) | exact yz.out)) hb)
                     have n10_ := za.mk (Kd.C_below (by repeat (first | (with_reducible exact yP.out) | (with_reducible refine Kd.C_alloc ?_ _) | (with_reducible refine Kd.C_drewN ?_ _) | (with_reducible refine Kd.C_drew ?_) | exact yP.out)) hb)
                     have n11_ := za.mk (Kd.C_below (by repeat (first | (with_reducible exact yQ.out) | (with_reducible refine Kd.C_alloc ?_ _) | (with_reducible refine Kd.C_drewN ?_ _) | (with_reducible refine Kd.C_drew ?_) | exact yQ.out)) hb)
                     have n12_ := za.mk (Kd.C_below (by repeat (first | (with_reducible exact yR.out) | (with_reducible refine Kd.C_alloc ?_ _) | (with_reducible refine Kd.C_drewN ?_ _) | (with_reducible refine Kd.C_drew ?_) | exact yR.out)) hb)
                     have n13_ := za.mk (Kd.C_below (by repeat (first | (with_reducible exact yE.out) | (with_reducible refine Kd.C_alloc ?_ _) | (with_reducible refine Kd.C_drewN ?_ _) | (with_reducible refine Kd.C_drew ?_) | exact yE.out)) hb)
                     have n14_ := za.mk (ze hCq hb)
                     clear yb
                     clear yC
                     clear yD
                     clear yW
                     clear yX
                     clear yY
                     clear yZ
                     clear yc
                     clear yy
                     clear yz
                     clear yP
                     clear yQ
                     clear yR
                     clear yE
                     clear HB
                     have yb := n0_
                     have yC := n1_
                     have yD := n2_
                     have yW := n3_
                     have yX := n4_
                     have yY := n5_
                     have yZ := n6_
                     have yc := n7_
                     have yy := n8_
                     have yz := n9_
                     have yP := n10_
                     have yQ := n11_
                     have yR := n12_
                     have yE := n13_
                     have HB := n14_
                     clear n0_ n1_ n2_ n3_ n4_ n5_ n6_ n7_ n8_ n9_ n10_ n11_ n12_ n13_ n14_
                     (try clear hb)
                     (try clear hb2)
                     (try clear hk)
                     (try clear hi)
                     refine hK.out _ _ ⟨(zb yc.out 0).trans rfl,(zb yc.out 1).trans rfl,(zb yc.out 2).trans rfl,HS3_,HS4_,HS5_,HS6_,HS7_,HS8_,HS9_,HS10_,HS11_,HS12_,HS13_,HS14_,HS15_,HS16_,HS17_⟩ (fun hHeld => ?_)
                     clear hK K
                     refine za5 (a' := ?_) ?_ ?_
                     rotate_left
                     ·show Act.put _ (some 102) _ = _
                      simp only [Act.put,List.setIfInBounds_toArray,List.set_cons_zero,List.set_cons_succ,zam,zap]
                      rfl
                     refine puq (i := 18) (N := some 103) HT_.out (uQ 19 19) ?_
                     refine zbX (zaX HT_.out (by kernel_rfl)) ?_
                     try go_wp2
                     go_roundg k5
                     case measure => have := HJ4.out;have := HK2.out;have := HJ41.out;have := HK4.out;have := HK5.out;omega
                     case rel => exact ⟨(wrap64 (x16_5 + 1)),(hDq),H',⟨by have := HJ4.out;have := HK2.out;have := HJ41.out;have := HK4.out;have := HK5.out;omega⟩,⟨by (with_reducible repeat (first | apply Kd.V_alloc | apply Kd.V_drewN | apply Kd.V_drew));exact yb.out⟩,⟨hGq yc.out⟩,⟨by repeat (first | (with_reducible first | exact HB.out | apply zl | apply zi | apply zp | refine zm ?_ YF.out) | exact HB.out)⟩⟩
                    ·replace c57 := Bool.eq_false_iff.mpr c57
                     subst c57
                     have H1 : (some false) = some r := by rw [if_neg (show ¬ (false = true) by decide)] at H;exact H
                     clear H
                     have H := H1
                     clear H1
                     obtain rfl := Option.some.inj H
                     obtain ⟨hcz61_0,hcz61_1,hcz61_2,hfz61_0,hfz61_1,hfz61_2⟩ := hcq3 yc.out
                     have jf : 0 ≤ (x15_4 : Int) := hFq
                     have jg : x15_4 < (ya.length : Int) := hFq
                     obtain ⟨yj,jS,jX,jT,jY,jZ,jJ,jK,jL,Y0,Y3,jM,jN,Yn,Yl,Yo,Ym⟩ := zbe (Kd.V_reads' yb.out).2.2 x15_4 jf jg
                     cases jZ
                     obtain ⟨Jk,jp,jo,Yk⟩ := Kd.V_get yb.out z39 x15_4 jf (by first | exact jg | exact hFq | (have e_ := (Kd.V_reads' yb.out).1;omega))
                     obtain ⟨jO,jQ,jP,jR,rfl,yU,yS,yV,yT⟩ := zaN jo
                     have yG := Yk 3 _ rfl
                     rw [zM _ _ 3 (by omega)] at yG
                     replace yG := Option.some.inj (yG.symm.trans Y0)
                     injection yG with hva_ hvn_ hvc_
                     rw [hva_] at yS
                     rw [hvc_] at yU
                     have yC := za.mk (show Kd.V k75 75 _ w.heap.size _ _ ((zd ya x15_4).f1.f2) from Kd.V_mk yU yS)
                     clear hva_ hvn_ hvc_ yS yU
                     have yH := Yk 4 _ rfl
                     rw [zM _ _ 4 (by omega)] at yH
                     replace yH := Option.some.inj (yH.symm.trans Y3)
                     injection yH with hva_ hvn_ hvc_
                     rw [hva_] at yT
                     rw [hvc_] at yV
                     have yD := za.mk (show Kd.V Kd.string 9 _ w.heap.size _ _ ((zd ya x15_4).f1.f3) from Kd.V_mk yV yT)
                     clear hva_ hvn_ hvc_ yT yV
                     clear Yk jp
                     have yy := za.mk Yl
                     have jG := za.mk Yn
                     clear Yl Yn
                     have yz := za.mk Ym
                     have jH := za.mk Yo
                     clear Ym Yo
                     replace jf := eq_true jf
                     replace jg := eq_true jg
                     try go_wp2
                     have n0_ := za.mk (Kd.V_drew yb.out)
                     have n1_ := za.mk (Kd.V_drew yC.out)
                     have n2_ := za.mk (Kd.V_drew yD.out)
                     have n3_ := za.mk (zaf yc.out)
                     have n4_ := za.mk (Kd.C_drew yy.out)
                     have n5_ := za.mk (Kd.C_drew yz.out)
                     have n6_ := za.mk (zp HB.out)
                     clear yb
                     clear yC
                     clear yD
                     clear yc
                     clear yy
                     clear yz
                     clear HB
                     have yb := n0_
                     have yC := n1_
                     have yD := n2_
                     have yc := n3_
                     have yy := n4_
                     have yz := n5_
                     have HB := n6_
                     clear n0_ n1_ n2_ n3_ n4_ n5_ n6_
                     have jt : 0 ≤ (x15_4 : Int) := hFq
                     have jv : x15_4 < (ya.length : Int) := hFq
                     obtain ⟨jV,jj,jm,Jo,jn,Ju,Y4,Y5,Y6,Yc,Yd,Y7,Y8,YW,YQ,YX,YR⟩ := zbe (Kd.V_reads' yb.out).2.2 x15_4 jt jv
                     obtain rfl : yj = jV := (by injection Ju)
                     obtain ⟨JP,jC,jA,YJ⟩ := Kd.V_get yb.out z39 x15_4 jt (by first | exact jv | exact hFq | (have e_ := (Kd.V_reads' yb.out).1;omega))
                     obtain ⟨Jb,Jf,Jc,Jg,rfl,Yx,Yt,Yy,Yu⟩ := zaN jA
                     have y8 := YJ 3 _ rfl
                     rw [zM _ _ 3 (by omega)] at y8
                     replace y8 := Option.some.inj (y8.symm.trans Yc)
                     injection y8 with hva_ hvn_ hvc_
                     rw [hva_] at Yt
                     rw [hvc_] at Yx
                     have yW := za.mk (show Kd.V k75 75 _ w.heap.size _ _ ((zd ya x15_4).f1.f2) from Kd.V_mk Yx Yt)
                     clear hva_ hvn_ hvc_ Yt Yx
                     have y9 := YJ 4 _ rfl
                     rw [zM _ _ 4 (by omega)] at y9
                     replace y9 := Option.some.inj (y9.symm.trans Yd)
                     injection y9 with hva_ hvn_ hvc_
                     rw [hva_] at Yu
                     rw [hvc_] at Yy
                     have yX := za.mk (show Kd.V Kd.string 9 _ w.heap.size _ _ ((zd ya x15_4).f1.f3) from Kd.V_mk Yy Yu)
                     clear hva_ hvn_ hvc_ Yu Yy
                     clear YJ jC
                     have yP := za.mk YQ
                     have j5 := za.mk YW
                     clear YQ YW
                     have yQ := za.mk YR
                     have j6 := za.mk YX
                     clear YR YX
                     replace jt := eq_true jt
                     replace jv := eq_true jv
                     have ju : 0 ≤ (x15_4 : Int) := hFq
                     have jw : x15_4 < (ya.length : Int) := hFq
                     obtain ⟨jW,Jp,Jr,Jq,Js,Jv,Y9,ja,jb,Ye,Yf,jc,jd,YY,YS,YZ,YT⟩ := zbe (Kd.V_reads' yb.out).2.2 x15_4 ju jw
                     obtain rfl : yj = jW := (by injection Jv)
                     obtain ⟨JQ,jD,jB,YK⟩ := Kd.V_get yb.out z39 x15_4 ju (by first | exact jw | exact hFq | (have e_ := (Kd.V_reads' yb.out).1;omega))
                     obtain ⟨Jd,Jh,Je,Ji,rfl,Yz,Yv,YA,Yw⟩ := zaN jB
                     have Ya := YK 3 _ rfl
                     rw [zM _ _ 3 (by omega)] at Ya
                     replace Ya := Option.some.inj (Ya.symm.trans Ye)
                     injection Ya with hva_ hvn_ hvc_
                     rw [hva_] at Yv
                     rw [hvc_] at Yz
                     have yY := za.mk (show Kd.V k75 75 _ w.heap.size _ _ ((zd ya x15_4).f1.f2) from Kd.V_mk Yz Yv)
                     clear hva_ hvn_ hvc_ Yv Yz
                     have Yb := YK 4 _ rfl
                     rw [zM _ _ 4 (by omega)] at Yb
                     replace Yb := Option.some.inj (Yb.symm.trans Yf)
                     injection Yb with hva_ hvn_ hvc_
                     rw [hva_] at Yw
                     rw [hvc_] at YA
                     have yZ := za.mk (show Kd.V Kd.string 9 _ w.heap.size _ _ ((zd ya x15_4).f1.f3) from Kd.V_mk YA Yw)
                     clear hva_ hvn_ hvc_ Yw YA
                     clear YK jD
                     have yR := za.mk YS
                     have j7 := za.mk YY
                     clear YS YY
                     have yE := za.mk YT
                     have j8 := za.mk YZ
                     clear YT YZ
                     replace ju := eq_true ju
                     replace jw := eq_true jw
                     have ea_ := Option.some.inj (Yc.symm.trans Ye)
                     injection ea_ with ea_ en_ ec_
                     subst ea_
                     subst ec_
                     clear en_
                     have ea_ := Option.some.inj (Yd.symm.trans Yf)
                     injection ea_ with ea_ en_ ec_
                     subst ea_
                     subst ec_
                     clear en_
                     have jE : 0 ≤ (x16_5 : Int) := hFq
                     have jF : x16_5 < (((zd ya x15_4).f1.f3).length : Int) := hFq
                     obtain ⟨jk,Jw,je⟩ := Kd.at_string (by repeat (first | (with_reducible exact yE.out) | (with_reducible refine Kd.C_alloc ?_ _) | (with_reducible refine Kd.C_drewN ?_ _) | (with_reducible refine Kd.C_drew ?_) | exact yE.out)) x16_5 jE jF
                     cases Jw
                     replace jE := eq_true jE
                     replace jF := eq_true jF
                     refine zbV (n := 19) (S := fun w' => w'.cell? ⟨yh,0,none⟩ = some (.int .i64 yd) ∧ w'.cell? ⟨yh,1,none⟩ = some (.int .i64 ye) ∧ w'.cell? ⟨yh,2,none⟩ = some (.slice (some yj) ya.length co44) ∧ w'.cell? (yj.add ((x15_4).toNat * 7)) = some (.string ((zd ya x15_4).f0)) ∧ w'.cell? ⟨(yj.add ((x15_4).toNat * 7)).block,(yj.add ((x15_4).toNat * 7)).off + 1,none⟩ = some (.int .i64 ((zd ya x15_4).f1.f0)) ∧ w'.cell? ⟨(yj.add ((x15_4).toNat * 7)).block,(yj.add ((x15_4).toNat * 7)).off + 2,none⟩ = some (.int .i64 ((zd ya x15_4).f1.f1)) ∧ w'.cell? ⟨(yj.add ((x15_4).toNat * 7)).block,(yj.add ((x15_4).toNat * 7)).off + 3,none⟩ = some (.slice jj ((zd ya x15_4).f1.f2).length jm) ∧ w'.cell? ⟨(yj.add ((x15_4).toNat * 7)).block,(yj.add ((x15_4).toNat * 7)).off + 4,none⟩ = some (.slice (some jk) ((zd ya x15_4).f1.f3).length jn) ∧ w'.cell? ⟨(yj.add ((x15_4).toNat * 7)).block,(yj.add ((x15_4).toNat * 7)).off + 5,none⟩ = some (.int .i64 ((zd ya x15_4).f1.f4.f0)) ∧ w'.cell? ⟨(yj.add ((x15_4).toNat * 7)).block,(yj.add ((x15_4).toNat * 7)).off + 6,none⟩ = some (.int .i64 ((zd ya x15_4).f1.f4.f1)) ∧ w'.cell? (yj.add ((x15_4).toNat * 7)) = some (.string ((zd ya x15_4).f0)) ∧ w'.cell? ⟨(yj.add ((x15_4).toNat * 7)).block,(yj.add ((x15_4).toNat * 7)).off + 1,none⟩ = some (.int .i64 ((zd ya x15_4).f1.f0)) ∧ w'.cell? ⟨(yj.add ((x15_4).toNat * 7)).block,(yj.add ((x15_4).toNat * 7)).off + 2,none⟩ = some (.int .i64 ((zd ya x15_4).f1.f1)) ∧ w'.cell? ⟨(yj.add ((x15_4).toNat * 7)).block,(yj.add ((x15_4).toNat * 7)).off + 3,none⟩ = some (.slice jj ((zd ya x15_4).f1.f2).length jm) ∧ w'.cell? ⟨(yj.add ((x15_4).toNat * 7)).block,(yj.add ((x15_4).toNat * 7)).off + 4,none⟩ = some (.slice (some jk) ((zd ya x15_4).f1.f3).length jn) ∧ w'.cell? ⟨(yj.add ((x15_4).toNat * 7)).block,(yj.add ((x15_4).toNat * 7)).off + 5,none⟩ = some (.int .i64 ((zd ya x15_4).f1.f4.f0)) ∧ w'.cell? ⟨(yj.add ((x15_4).toNat * 7)).block,(yj.add ((x15_4).toNat * 7)).off + 6,none⟩ = some (.int .i64 ((zd ya x15_4).f1.f4.f1)) ∧ w'.cell? (jk.add (x16_5).toNat) = some (.string (zz ByteArray.empty ((zd ya x15_4).f1.f3) x16_5))) (ds := []) (uQ 19 0) (by kernel_rfl) rfl rfl ⟨(zb yc.out 0).trans rfl,(zb yc.out 1).trans rfl,(zb yc.out 2).trans rfl,Y4,Y5,Y6,Yc,Yd,Y7,Y8,Y9,ja,jb,Ye,Yf,jc,jd,je⟩ (fun hHeld => ?_);refine zaQ zg.tab25 zg.bits25 (fun HT_ HW_ => ?_)
                     generalize wr.drew = w62 at yb yC yD yc yy yz HB yW yX yY yZ yP yQ yR yE Y4 Y5 Y6 Yc Yd Y7 Y8 Y9 ja jb Ye Yf jc jd je hHeld ⊢
                     refine puq (i := 1) (N := some 86) HT_.out #[false,true,false,false,false,false,false,false,false,false,false,false,false,false,false,false,false,false,false] ?_
                     refine puq (i := 3) (N := some 88) HT_.out #[false,true,false,true,false,false,false,false,false,false,false,false,false,false,false,false,false,false,false] ?_
                     refine puq (i := 7) (N := some 92) HT_.out #[false,true,false,true,false,false,false,true,false,false,false,false,false,false,false,false,false,false,false] ?_
                     refine puq (i := 9) (N := some 94) HT_.out #[false,true,false,true,false,false,false,true,false,true,false,false,false,false,false,false,false,false,false] ?_
                     refine puq (i := 14) (N := some 99) HT_.out #[false,true,false,true,false,false,false,true,false,true,false,false,false,false,true,false,false,false,false] ?_
                     refine take_ (i := 0) (N := some 85) #[true,true,false,true,false,false,false,true,false,true,false,false,false,false,true,false,false,false,false] rfl rfl (zU HT_.out HW_.out (by kernel_rfl)) (fun _ _ _ h => h) (Or.inl ⟨by rfl,by rintro w' ⟨s0,s1,s2,s3,s4,s5,s6,s7,s8,s9,s10,s11,s12,s13,s14,s15,s16,s17⟩;go_simp;with_reducible rfl⟩) hHeld hPq ?_
                     refine take_ (i := 2) (N := some 87) #[true,true,true,true,false,false,false,true,false,true,false,false,false,false,true,false,false,false,false] rfl rfl (zU HT_.out HW_.out (by kernel_rfl)) (fun _ _ _ h => h) (Or.inl ⟨by rfl,by rintro w' ⟨s0,s1,s2,s3,s4,s5,s6,s7,s8,s9,s10,s11,s12,s13,s14,s15,s16,s17⟩;go_simp;with_reducible rfl⟩) hHeld hPq ?_
                     refine puq (i := 4) (N := some 89) HT_.out #[true,true,true,true,true,false,false,true,false,true,false,false,false,false,true,false,false,false,false] ?_
                     refine puq (i := 5) (N := some 90) HT_.out #[true,true,true,true,true,true,false,true,false,true,false,false,false,false,true,false,false,false,false] ?_
                     refine take_ (i := 6) (N := some 91) #[true,true,true,true,true,true,true,true,false,true,false,false,false,false,true,false,false,false,false] rfl rfl (zU HT_.out HW_.out (by kernel_rfl)) (fun _ _ _ h => h) (Or.inl ⟨by rfl,by rintro w' ⟨s0,s1,s2,s3,s4,s5,s6,s7,s8,s9,s10,s11,s12,s13,s14,s15,s16,s17⟩;go_simp;with_reducible rfl⟩) hHeld hPq ?_
                     refine take_ (i := 8) (N := some 93) #[true,true,true,true,true,true,true,true,true,true,false,false,false,false,true,false,false,false,false] rfl rfl (zU HT_.out HW_.out (by kernel_rfl)) (fun _ _ _ h => h) (Or.inl ⟨by rfl,by rintro w' ⟨s0,s1,s2,s3,s4,s5,s6,s7,s8,s9,s10,s11,s12,s13,s14,s15,s16,s17⟩;go_simp;with_reducible rfl⟩) hHeld hPq ?_
                     refine puq (i := 10) (N := some 95) HT_.out #[true,true,true,true,true,true,true,true,true,true,true,false,false,false,true,false,false,false,false] ?_
                     refine puq (i := 11) (N := some 96) HT_.out #[true,true,true,true,true,true,true,true,true,true,true,true,false,false,true,false,false,false,false] ?_
                     refine puq (i := 12) (N := some 97) HT_.out #[true,true,true,true,true,true,true,true,true,true,true,true,true,false,true,false,false,false,false] ?_
                     refine take_ (i := 13) (N := some 98) (uQ 19 15) rfl rfl (zU HT_.out HW_.out (by kernel_rfl)) (fun _ _ _ h => h) (Or.inl ⟨by rfl,by rintro w' ⟨s0,s1,s2,s3,s4,s5,s6,s7,s8,s9,s10,s11,s12,s13,s14,s15,s16,s17⟩;go_simp;with_reducible rfl⟩) hHeld hPq ?_
                     refine puq (i := 15) (N := some 100) HT_.out (uQ 19 16) ?_
                     refine take_ (i := 16) (N := some 101) (uQ 19 17) rfl rfl (zU HT_.out HW_.out (by kernel_rfl)) (fun _ _ _ h => h) (Or.inl ⟨by rfl,by rintro w' ⟨s0,s1,s2,s3,s4,s5,s6,s7,s8,s9,s10,s11,s12,s13,s14,s15,s16,s17⟩;go_simp;with_reducible rfl⟩) hHeld hPq ?_
                     refine zct (i := 17) (N := some 102) (uQ 19 18) rfl rfl (za0 HT_.out (by kernel_rfl)) (by decide) (fun K hK => ?_)
                     refine zbG Tryz.func8 (by kernel_rfl) rfl #[.agg #[.int .i64 yd,.int .i64 ye,.slice (some yj) ya.length co44],.string ((zd ya x15_4).f0),.string (zz ByteArray.empty ((zd ya x15_4).f1.f3) x16_5)] (by rfl) rfl rfl hMq ?_
                     with_reducible refine (zbx.calls yd ye (fun k_ => k_ ≠ yh) _ _ ya ((zd ya x15_4).f0) (zz ByteArray.empty ((zd ya x15_4).f1.f3) x16_5) false _ ?side1 A56.out).mono ?_
                     (case side1 => exact yb.out)
                     rintro e w63 ⟨rfl,hb⟩
                     have HS3_ := (hb.cell (World.block_lt_of_cell? _ _ (hHeld.2.2.2.1))).trans (hHeld.2.2.2.1)
                     have HS4_ := (hb.cell (World.block_lt_of_cell? _ _ (hHeld.2.2.2.2.1))).trans (hHeld.2.2.2.2.1)
                     have HS5_ := (hb.cell (World.block_lt_of_cell? _ _ (hHeld.2.2.2.2.2.1))).trans (hHeld.2.2.2.2.2.1)
                     have HS6_ := (hb.cell (World.block_lt_of_cell? _ _ (hHeld.2.2.2.2.2.2.1))).trans (hHeld.2.2.2.2.2.2.1)
                     have HS7_ := (hb.cell (World.block_lt_of_cell? _ _ (hHeld.2.2.2.2.2.2.2.1))).trans (hHeld.2.2.2.2.2.2.2.1)
                     have HS8_ := (hb.cell (World.block_lt_of_cell? _ _ (hHeld.2.2.2.2.2.2.2.2.1))).trans (hHeld.2.2.2.2.2.2.2.2.1)
                     have HS9_ := (hb.cell (World.block_lt_of_cell? _ _ (hHeld.2.2.2.2.2.2.2.2.2.1))).trans (hHeld.2.2.2.2.2.2.2.2.2.1)
                     have HS10_ := (hb.cell (World.block_lt_of_cell? _ _ (hHeld.2.2.2.2.2.2.2.2.2.2.1))).trans (hHeld.2.2.2.2.2.2.2.2.2.2.1)
                     have HS11_ := (hb.cell (World.block_lt_of_cell? _ _ (hHeld.2.2.2.2.2.2.2.2.2.2.2.1))).trans (hHeld.2.2.2.2.2.2.2.2.2.2.2.1)
                     have HS12_ := (hb.cell (World.block_lt_of_cell? _ _ (hHeld.2.2.2.2.2.2.2.2.2.2.2.2.1))).trans (hHeld.2.2.2.2.2.2.2.2.2.2.2.2.1)
                     have HS13_ := (hb.cell (World.block_lt_of_cell? _ _ (hHeld.2.2.2.2.2.2.2.2.2.2.2.2.2.1))).trans (hHeld.2.2.2.2.2.2.2.2.2.2.2.2.2.1)
                     have HS14_ := (hb.cell (World.block_lt_of_cell? _ _ (hHeld.2.2.2.2.2.2.2.2.2.2.2.2.2.2.1))).trans (hHeld.2.2.2.2.2.2.2.2.2.2.2.2.2.2.1)
                     have HS15_ := (hb.cell (World.block_lt_of_cell? _ _ (hHeld.2.2.2.2.2.2.2.2.2.2.2.2.2.2.2.1))).trans (hHeld.2.2.2.2.2.2.2.2.2.2.2.2.2.2.2.1)
                     have HS16_ := (hb.cell (World.block_lt_of_cell? _ _ (hHeld.2.2.2.2.2.2.2.2.2.2.2.2.2.2.2.2.1))).trans (hHeld.2.2.2.2.2.2.2.2.2.2.2.2.2.2.2.2.1)
                     have HS17_ := (hb.cell (World.block_lt_of_cell? _ _ (hHeld.2.2.2.2.2.2.2.2.2.2.2.2.2.2.2.2.2))).trans (hHeld.2.2.2.2.2.2.2.2.2.2.2.2.2.2.2.2.2)
                     refine ⟨_,rfl,?_⟩
                     have n0_ := za.mk (Kd.V_below (by (with_reducible repeat (first | apply Kd.V_alloc | apply Kd.V_drewN | apply Kd.V_drew));exact yb.out) hb)
                     have n1_ := za.mk (Kd.V_below (by (with_reducible repeat (first | apply Kd.V_alloc | apply Kd.V_drewN | apply Kd.V_drew));exact yC.out) hb)
                     have n2_ := za.mk (Kd.V_below (by (with_reducible repeat (first | apply Kd.V_alloc | apply Kd.V_drewN | apply Kd.V_drew));exact yD.out) hb)
                     have n3_ := za.mk (Kd.V_below (by (with_reducible repeat (first | apply Kd.V_alloc | apply Kd.V_drewN | apply Kd.V_drew));exact yW.out) hb)
                     have n4_ := za.mk (Kd.V_below (by (with_reducible repeat (first | apply Kd.V_alloc | apply Kd.V_drewN | apply Kd.V_drew));exact yX.out) hb)
                     have n5_ := za.mk (Kd.V_below (by (with_reducible repeat (first | apply Kd.V_alloc | apply Kd.V_drewN | apply Kd.V_drew));exact yY.out) hb)
                     have n6_ := za.mk (Kd.V_below (by (with_reducible repeat (first | apply Kd.V_alloc | apply Kd.V_drewN | apply Kd.V_drew));exact yZ.out) hb)
                     have n7_ := za.mk (hbq yc.out hb)
                     have n8_ := za.mk (Kd.C_below (by repeat (first | (with_reducible exact yy.out) | (with_reducible refine Kd.C_alloc ?_ _) | (with_reducible refine Kd.C_drewN ?_ _) | (with_reducible refine Kd.C_drew ?_) | exact yy.out)) hb)
                     have n9_ := za.mk (Kd.C_below (by repeat (first | (with_reducible exact yz.out) | (with_reducible refine Kd.C_alloc ?_ _) | (with_reducible refine Kd.C_drewN ?_ _) | (with_reducible refine Kd.C_drew ?_) | exact yz.out)) hb)
                     have n10_ := za.mk (Kd.C_below (by repeat (first | (with_reducible exact yP.out) | (with_reducible refine Kd.C_alloc ?_ _) | (with_reducible refine Kd.C_drewN ?_ _) | (with_reducible refine Kd.C_drew ?_) | exact yP.out)) hb)
                     have n11_ := za.mk (Kd.C_below (by repeat (first | (with_reducible exact yQ.out) | (with_reducible refine Kd.C_alloc ?_ _) | (with_reducible refine Kd.C_drewN ?_ _) | (with_reducible refine Kd.C_drew ?_) | exact yQ.out)) hb)
                     have n12_ := za.mk (Kd.C_below (by repeat (first | (with_reducible exact yR.out) | (with_reducible refine Kd.C_alloc ?_ _) | (with_reducible refine Kd.C_drewN ?_ _) | (with_reducible refine Kd.C_drew ?_) | exact yR.out)) hb)
                     have n13_ := za.mk (Kd.C_below (by repeat (first | (with_reducible exact yE.out) | (with_reducible refine Kd.C_alloc ?_ _) | (with_reducible refine Kd.C_drewN ?_ _) | (with_reducible refine Kd.C_drew ?_) | exact yE.out)) hb)
                     have n14_ := za.mk (ze hCq hb)
                     clear yb
                     clear yC
                     clear yD
                     clear yW
                     clear yX
                     clear yY
                     clear yZ
                     clear yc
                     clear yy
                     clear yz
                     clear yP
                     clear yQ
                     clear yR
                     clear yE
                     clear HB
                     have yb := n0_
                     have yC := n1_
                     have yD := n2_
                     have yW := n3_
                     have yX := n4_
                     have yY := n5_
                     have yZ := n6_
                     have yc := n7_
                     have yy := n8_
                     have yz := n9_
                     have yP := n10_
                     have yQ := n11_
                     have yR := n12_
                     have yE := n13_
                     have HB := n14_
                     clear n0_ n1_ n2_ n3_ n4_ n5_ n6_ n7_ n8_ n9_ n10_ n11_ n12_ n13_ n14_
                     (try clear hb)
                     (try clear hb2)
                     (try clear hk)
                     (try clear hi)
                     refine hK.out _ _ ⟨(zb yc.out 0).trans rfl,(zb yc.out 1).trans rfl,(zb yc.out 2).trans rfl,HS3_,HS4_,HS5_,HS6_,HS7_,HS8_,HS9_,HS10_,HS11_,HS12_,HS13_,HS14_,HS15_,HS16_,HS17_⟩ (fun hHeld => ?_)
                     clear hK K
                     refine za5 (a' := ?_) ?_ ?_
                     rotate_left
                     ·show Act.put _ (some 102) _ = _
                      simp only [Act.put,List.setIfInBounds_toArray,List.set_cons_zero,List.set_cons_succ,zam,zap]
                      rfl
                     refine puq (i := 18) (N := some 103) HT_.out (uQ 19 19) ?_
                     refine zbX (zaX HT_.out (by kernel_rfl)) ?_
                     try go_wp2
                     go_ret
                     exact ⟨hHq,hCq⟩
                   ·rw [if_neg c55] at H
                    exact absurd H (by simp)
                  ·rw [if_neg c54] at H
                   have c54b0 : decide (x16_5 < (((zd ya x15_4).f1.f3).length : Int)) = false := decide_eq_false c54
                   clear c54
                   have H' := za.mk H
                   clear H
                   obtain ⟨hcz64_0,hcz64_1,hcz64_2,hfz64_0,hfz64_1,hfz64_2⟩ := hcq3 yc.out
                   have jf : 0 ≤ (x15_4 : Int) := hFq
                   have jg : x15_4 < (ya.length : Int) := hFq
                   obtain ⟨yj,jS,jX,jT,jY,jZ,jJ,jK,jL,Y0,Y3,jM,jN,Yn,Yl,Yo,Ym⟩ := zbe (Kd.V_reads' yb.out).2.2 x15_4 jf jg
                   cases jZ
                   obtain ⟨Jk,jp,jo,Yk⟩ := Kd.V_get yb.out z39 x15_4 jf (by first | exact jg | exact hFq | (have e_ := (Kd.V_reads' yb.out).1;omega))
                   obtain ⟨jO,jQ,jP,jR,rfl,yU,yS,yV,yT⟩ := zaN jo
                   have yG := Yk 3 _ rfl
                   rw [zM _ _ 3 (by omega)] at yG
                   replace yG := Option.some.inj (yG.symm.trans Y0)
                   injection yG with hva_ hvn_ hvc_
                   rw [hva_] at yS
                   rw [hvc_] at yU
                   have yC := za.mk (show Kd.V k75 75 _ w.heap.size _ _ ((zd ya x15_4).f1.f2) from Kd.V_mk yU yS)
                   clear hva_ hvn_ hvc_ yS yU
                   have yH := Yk 4 _ rfl
                   rw [zM _ _ 4 (by omega)] at yH
                   replace yH := Option.some.inj (yH.symm.trans Y3)
                   injection yH with hva_ hvn_ hvc_
                   rw [hva_] at yT
                   rw [hvc_] at yV
                   have yD := za.mk (show Kd.V Kd.string 9 _ w.heap.size _ _ ((zd ya x15_4).f1.f3) from Kd.V_mk yV yT)
                   clear hva_ hvn_ hvc_ yT yV
                   clear Yk jp
                   have yy := za.mk Yl
                   have jG := za.mk Yn
                   clear Yl Yn
                   have yz := za.mk Ym
                   have jH := za.mk Yo
                   clear Ym Yo
                   replace jf := eq_true jf
                   replace jg := eq_true jg
                   go_wp2
                   go_roundg k5
                   case measure => have := HJ4.out;have := HK2.out;have := HJ41.out;have := HK4.out;have := HK5.out;omega
                   case rel => exact ⟨(wrap64 (x15_4 + 1)),(hDq),H',⟨by have := HJ4.out;have := HK2.out;have := HJ41.out;have := HK4.out;have := HK5.out;omega⟩,⟨by (with_reducible repeat (first | apply Kd.V_alloc | apply Kd.V_drewN | apply Kd.V_drew));exact yb.out⟩,⟨hGq yc.out⟩,⟨by repeat (first | (with_reducible first | exact HB.out | apply zl | apply zi | apply zp | refine zm ?_ YF.out) | exact HB.out)⟩⟩
                 ·rw [if_neg c53] at H
                  exact absurd H (by simp)
                ·rw [if_neg c52] at H
                 exact absurd H (by simp)
             ·rw [if_neg c50] at H
              have c50b0 : decide (x15_4 < (ya.length : Int)) = false := decide_eq_false c50
              clear c50
              replace H := Option.bind_eq_some_iff.mp H
              obtain ⟨⟨YH,Yp,Yq⟩,JN,H⟩ := H
              replace H : (if x9_2 = 0 then (if x14_41 = true then (some true) else (some false)) else ((zk.f k4 YH Yp Yq).bind fun jy => (if x14_41 = true then (if jy = true then (some true) else (some (decide (Yp < 0)))) else (some false)))) = some r := H
              have A65 := za.mk JN
              clear JN
              by_cases c66 : x9_2 = 0
              focus
               rw [if_pos c66] at H
               have c66b0 : (x9_2 == 0) = true := beq_iff_eq.mpr c66
               have c66b1 : (x9_2 != 0) = false := bne_eq_false_iff_eq.mpr c66
               clear c66
               by_cases c67 : x14_41 = true
               focus
                subst c67
                have H1 : (some true) = some r := by rw [if_pos rfl] at H;exact H
                clear H
                have H := H1
                clear H1
                obtain rfl := Option.some.inj H
                obtain ⟨hcz68_0,hcz68_1,hcz68_2,hfz68_0,hfz68_1,hfz68_2⟩ := hcq3 yc.out
               rotate_left
               focus
                replace c67 := Bool.eq_false_iff.mpr c67
                subst c67
                have H1 : (some false) = some r := by rw [if_neg (show ¬ (false = true) by decide)] at H;exact H
                clear H
                have H := H1
                clear H1
                obtain rfl := Option.some.inj H
                obtain ⟨hcz74_0,hcz74_1,hcz74_2,hfz74_0,hfz74_1,hfz74_2⟩ := hcq3 yc.out
              rotate_left 2
              focus
               rw [if_neg c66] at H
               have c66b0 : (x9_2 == 0) = false := beq_eq_false_iff_ne.mpr c66
               have c66b1 : (x9_2 != 0) = true := bne_iff_ne.mpr c66
               replace H := Option.bind_eq_some_iff.mp H
               obtain ⟨jy,JO,H⟩ := H
               replace H : (if x14_41 = true then (if jy = true then (some true) else (some (decide (Yp < 0)))) else (some false)) = some r := H
               have A80 := za.mk JO
               clear JO
               by_cases c81 : x14_41 = true
               focus
                subst c81
                have H1 : (if jy = true then (some true) else (some (decide (Yp < 0)))) = some r := by rw [if_pos rfl] at H;exact H
                clear H
                have H := H1
                clear H1
                by_cases c82 : jy = true
                focus
                 subst c82
                 have H1 : (some true) = some r := by rw [if_pos rfl] at H;exact H
                 clear H
                 have H := H1
                 clear H1
                 obtain rfl := Option.some.inj H
                 obtain ⟨hcz83_0,hcz83_1,hcz83_2,hfz83_0,hfz83_1,hfz83_2⟩ := hcq3 yc.out
                 have EQ0 := True.intro
                rotate_left
                focus
                 replace c82 := Bool.eq_false_iff.mpr c82
                 subst c82
                 have H1 : (some (decide (Yp < 0))) = some r := by rw [if_neg (show ¬ (false = true) by decide)] at H;exact H
                 clear H
                 have H := H1
                 clear H1
                 obtain rfl := Option.some.inj H
                 obtain ⟨hcz90_0,hcz90_1,hcz90_2,hfz90_0,hfz90_1,hfz90_2⟩ := hcq3 yc.out
                 have EQ1 := True.intro
               rotate_left 2
               focus
                replace c81 := Bool.eq_false_iff.mpr c81
                subst c81
                have H1 : (some false) = some r := by rw [if_neg (show ¬ (false = true) by decide)] at H;exact H
                clear H
                have H := H1
                clear H1
                obtain rfl := Option.some.inj H
                obtain ⟨hcz98_0,hcz98_1,hcz98_2,hfz98_0,hfz98_1,hfz98_2⟩ := hcq3 yc.out
                have EQ2 := True.intro
              all_goals
               go_wp2_with (first | ((with_reducible refine zQ (f := 9) rfl ?_);refine zaB (some 106) rfl rfl Tryz.func9 (by kernel_rfl) rfl #[.agg #[.int .i64 yd,.int .i64 ye,.slice Ao44 ya.length co44],.int .i64 a2] rfl hMq ?_;(with_reducible refine (zY.calls yd ye (fun k_ => k_ ≠ yh) _ _ ya a2 YH Yp Yq _ ?side1 A65.out).mono ?_);(case side1 => exact yb.out);rintro e J9 ⟨J8,rfl,ho0,hb⟩;refine ⟨_,rfl,?_⟩;have n_ := haq (Kd.V_below (by (with_reducible repeat (first | apply Kd.V_alloc | apply Kd.V_drewN | apply Kd.V_drew));exact yb.out) hb) <| haq (Kd.V_lower (Kd.V_mono (ok' := fun k_ => k_ ≠ yh) ho0 (fun k_ hk_ => Or.elim hk_ (fun hs_ => hs_) (fun hn_ => (Kd.freshB (g := yh) (o := .cells #[.int .i64 yd,.int .i64 ye,.slice Ao44 ya.length co44] 26 (0,0)) (hGq yc.out) k_ hn_)))) (zh hCq)) <| haq (hbq yc.out hb) <| haq (ze hCq hb) <| trivial;clear yb yc HB;obtain ⟨yb,ym,yc,HB,_⟩ := n_;(try clear hb);(try clear hb2);(try clear hk);(try clear hi);(try clear ho0)) | ((with_reducible refine zq (N := 17) rfl ?_);(try (refine zbq (by rfl) ?_;dsimp only));refine zn rfl (N := 17) rfl (cs := #[.int .i64 0,.int .i64 0,.slice none 0 0]) (t := 26) hrq ?_;intro yl hg yaa hbox hb;have n_ := haq (Kd.V_below (Kd.V_elderB (by (with_reducible repeat (first | apply Kd.V_alloc | apply Kd.V_drewN | apply Kd.V_drew));exact yb.out) yl (Nat.le_of_eq hg.symm)) hb) <| haq (Kd.V_below (Kd.V_elderB (by (with_reducible repeat (first | apply Kd.V_alloc | apply Kd.V_drewN | apply Kd.V_drew));exact ym.out) yl (Nat.le_of_eq hg.symm)) hb) <| haq (hbq yc.out hb) <| haq (ze hCq hb) <| haq (hbox) <| haq ((by rw [hg];exact (zh hCq) : w.heap.size ≤ yl)) <| haq ((by rw [hg];exact (zh hCq) : w.heap.size ≤ yl)) <| haq (hnq hg yc.out) <| haq (hmq hg yc.out) <| trivial;clear yb ym yc HB;obtain ⟨yb,ym,yc,HB,YE,yad,yac,ji,jU,_⟩ := n_;clear hb hbox hg;have JH := jU.out;have JI := ji.out;obtain ⟨JB,JC,JD,JE,JF,JG⟩ := hcq3 YE.out;obtain ⟨yF,yx,j4⟩ := Kd.V_slice ym.out;subst j4) | (have _ := EQ0;(go_at_call 7;(with_reducible refine (zk.calls k4 YH Yp _ _ Yq true _ ?side1 ?side2 A80.out).mono ?_);(case side1 => refine (Kd.V_reads' (e := 39) (base := w.heap.size) (ok := fun k_ => (k_ ≠ yh ∧ k_ ≠ yl)) (n := Yq.length) (c := yx) ?_).2.2;exact (by (with_reducible repeat (first | apply Kd.V_alloc | apply Kd.V_drewN | apply Kd.V_drew));exact (Kd.V_mono (Kd.V_far (p := ⟨yl,2,none⟩) (Kd.V_far (p := ⟨yl,1,none⟩) (Kd.V_far (p := ⟨yl,0,none⟩) (Kd.V_mono ym.out (fun k_ hk => (⟨hk,hk.2⟩ : _ ∧ k_ ≠ yl))) (fun _ hk => hk.2) (.int .i64 YH)) (fun _ hk => hk.2) (.int .i64 Yp)) (fun _ hk => hk.2) (.slice yF Yq.length yx)) (fun _ h_ => h_.1))));(case side2 => exact (Kd.V_reads' ym.out).2.1);rintro e jz ⟨rfl,hb⟩;have n_ := haq (Kd.V_below (by (with_reducible repeat (first | apply Kd.V_alloc | apply Kd.V_drewN | apply Kd.V_drew));exact (Kd.V_mono (Kd.V_far (p := ⟨yl,2,none⟩) (Kd.V_far (p := ⟨yl,1,none⟩) (Kd.V_far (p := ⟨yl,0,none⟩) (Kd.V_mono yb.out (fun k_ hk => (⟨hk,hk.2⟩ : _ ∧ k_ ≠ yl))) (fun _ hk => hk.2) (.int .i64 YH)) (fun _ hk => hk.2) (.int .i64 Yp)) (fun _ hk => hk.2) (.slice yF Yq.length yx)) (fun _ h_ => h_.1))) hb) <| haq (Kd.V_below (by (with_reducible repeat (first | apply Kd.V_alloc | apply Kd.V_drewN | apply Kd.V_drew));exact (Kd.V_mono (Kd.V_far (p := ⟨yl,2,none⟩) (Kd.V_far (p := ⟨yl,1,none⟩) (Kd.V_far (p := ⟨yl,0,none⟩) (Kd.V_mono ym.out (fun k_ hk => (⟨hk,hk.2⟩ : _ ∧ k_ ≠ yl))) (fun _ hk => hk.2) (.int .i64 YH)) (fun _ hk => hk.2) (.int .i64 Yp)) (fun _ hk => hk.2) (.slice yF Yq.length yx)) (fun _ h_ => h_.1))) hb) <| haq (zo (g := yh) (o := .cells #[.int .i64 yd,.int .i64 ye,.slice Ao44 ya.length co44] 26 (0,0)) (hxq1 ji.out yc.out) hb) <| haq (zo (g := yl) (o := .cells #[.int .i64 YH,.int .i64 Yp,.slice yF Yq.length yx] 26 (0,0)) (hxq0p YE.out) hb) <| haq (ze hCq hb) <| trivial;clear yb ym yc YE HB;obtain ⟨yb,ym,yc,YE,HB,_⟩ := n_;(try clear hb);(try clear hb2);(try clear hk);(try clear hi))) | (have _ := EQ1;(go_at_call 7;(with_reducible refine (zk.calls k4 YH Yp _ _ Yq false _ ?side1 ?side2 A80.out).mono ?_);(case side1 => refine (Kd.V_reads' (e := 39) (base := w.heap.size) (ok := fun k_ => (k_ ≠ yh ∧ k_ ≠ yl)) (n := Yq.length) (c := yx) ?_).2.2;exact (by (with_reducible repeat (first | apply Kd.V_alloc | apply Kd.V_drewN | apply Kd.V_drew));exact (Kd.V_mono (Kd.V_far (p := ⟨yl,2,none⟩) (Kd.V_far (p := ⟨yl,1,none⟩) (Kd.V_far (p := ⟨yl,0,none⟩) (Kd.V_mono ym.out (fun k_ hk => (⟨hk,hk.2⟩ : _ ∧ k_ ≠ yl))) (fun _ hk => hk.2) (.int .i64 YH)) (fun _ hk => hk.2) (.int .i64 Yp)) (fun _ hk => hk.2) (.slice yF Yq.length yx)) (fun _ h_ => h_.1))));(case side2 => exact (Kd.V_reads' ym.out).2.1);rintro e jz ⟨rfl,hb⟩;have n_ := haq (Kd.V_below (by (with_reducible repeat (first | apply Kd.V_alloc | apply Kd.V_drewN | apply Kd.V_drew));exact (Kd.V_mono (Kd.V_far (p := ⟨yl,2,none⟩) (Kd.V_far (p := ⟨yl,1,none⟩) (Kd.V_far (p := ⟨yl,0,none⟩) (Kd.V_mono yb.out (fun k_ hk => (⟨hk,hk.2⟩ : _ ∧ k_ ≠ yl))) (fun _ hk => hk.2) (.int .i64 YH)) (fun _ hk => hk.2) (.int .i64 Yp)) (fun _ hk => hk.2) (.slice yF Yq.length yx)) (fun _ h_ => h_.1))) hb) <| haq (Kd.V_below (by (with_reducible repeat (first | apply Kd.V_alloc | apply Kd.V_drewN | apply Kd.V_drew));exact (Kd.V_mono (Kd.V_far (p := ⟨yl,2,none⟩) (Kd.V_far (p := ⟨yl,1,none⟩) (Kd.V_far (p := ⟨yl,0,none⟩) (Kd.V_mono ym.out (fun k_ hk => (⟨hk,hk.2⟩ : _ ∧ k_ ≠ yl))) (fun _ hk => hk.2) (.int .i64 YH)) (fun _ hk => hk.2) (.int .i64 Yp)) (fun _ hk => hk.2) (.slice yF Yq.length yx)) (fun _ h_ => h_.1))) hb) <| haq (zo (g := yh) (o := .cells #[.int .i64 yd,.int .i64 ye,.slice Ao44 ya.length co44] 26 (0,0)) (hxq1 ji.out yc.out) hb) <| haq (zo (g := yl) (o := .cells #[.int .i64 YH,.int .i64 Yp,.slice yF Yq.length yx] 26 (0,0)) (hxq0p YE.out) hb) <| haq (ze hCq hb) <| trivial;clear yb ym yc YE HB;obtain ⟨yb,ym,yc,YE,HB,_⟩ := n_;(try clear hb);(try clear hb2);(try clear hk);(try clear hi);obtain ⟨Jx,Jy,Jz,JA,Jm,Jn⟩ := hcq3 YE.out)) | (have _ := EQ2;(go_at_call 7;(with_reducible refine (zk.calls k4 YH Yp _ _ Yq jy _ ?side1 ?side2 A80.out).mono ?_);(case side1 => refine (Kd.V_reads' (e := 39) (base := w.heap.size) (ok := fun k_ => (k_ ≠ yh ∧ k_ ≠ yl)) (n := Yq.length) (c := yx) ?_).2.2;exact (by (with_reducible repeat (first | apply Kd.V_alloc | apply Kd.V_drewN | apply Kd.V_drew));exact (Kd.V_mono (Kd.V_far (p := ⟨yl,2,none⟩) (Kd.V_far (p := ⟨yl,1,none⟩) (Kd.V_far (p := ⟨yl,0,none⟩) (Kd.V_mono ym.out (fun k_ hk => (⟨hk,hk.2⟩ : _ ∧ k_ ≠ yl))) (fun _ hk => hk.2) (.int .i64 YH)) (fun _ hk => hk.2) (.int .i64 Yp)) (fun _ hk => hk.2) (.slice yF Yq.length yx)) (fun _ h_ => h_.1))));(case side2 => exact (Kd.V_reads' ym.out).2.1);rintro e jz ⟨rfl,hb⟩;have n_ := haq (Kd.V_below (by (with_reducible repeat (first | apply Kd.V_alloc | apply Kd.V_drewN | apply Kd.V_drew));exact (Kd.V_mono (Kd.V_far (p := ⟨yl,2,none⟩) (Kd.V_far (p := ⟨yl,1,none⟩) (Kd.V_far (p := ⟨yl,0,none⟩) (Kd.V_mono yb.out (fun k_ hk => (⟨hk,hk.2⟩ : _ ∧ k_ ≠ yl))) (fun _ hk => hk.2) (.int .i64 YH)) (fun _ hk => hk.2) (.int .i64 Yp)) (fun _ hk => hk.2) (.slice yF Yq.length yx)) (fun _ h_ => h_.1))) hb) <| haq (Kd.V_below (by (with_reducible repeat (first | apply Kd.V_alloc | apply Kd.V_drewN | apply Kd.V_drew));exact (Kd.V_mono (Kd.V_far (p := ⟨yl,2,none⟩) (Kd.V_far (p := ⟨yl,1,none⟩) (Kd.V_far (p := ⟨yl,0,none⟩) (Kd.V_mono ym.out (fun k_ hk => (⟨hk,hk.2⟩ : _ ∧ k_ ≠ yl))) (fun _ hk => hk.2) (.int .i64 YH)) (fun _ hk => hk.2) (.int .i64 Yp)) (fun _ hk => hk.2) (.slice yF Yq.length yx)) (fun _ h_ => h_.1))) hb) <| haq (zo (g := yh) (o := .cells #[.int .i64 yd,.int .i64 ye,.slice Ao44 ya.length co44] 26 (0,0)) (hxq1 ji.out yc.out) hb) <| haq (zo (g := yl) (o := .cells #[.int .i64 YH,.int .i64 Yp,.slice yF Yq.length yx] 26 (0,0)) (hxq0p YE.out) hb) <| haq (ze hCq hb) <| trivial;clear yb ym yc YE HB;obtain ⟨yb,ym,yc,YE,HB,_⟩ := n_;(try clear hb);(try clear hb2);(try clear hk);(try clear hi))))
               go_ret
               exact ⟨hHq,hCq⟩
        ·replace c41 := Bool.eq_false_iff.mpr c41
         subst c41
         have H1 : (some true) = some r := by rw [if_neg (show ¬ (false = true) by decide)] at H;exact H
         clear H
         have H := H1
         clear H1
         obtain rfl := Option.some.inj H
         obtain ⟨JT,JU,JV,JZ,J1,J4⟩ := hcq3 yc.out
         obtain ⟨Jj,Jl,JR⟩ := Kd.V_slice yb.out
         subst JR
         go_wp2_with (first | ((with_reducible refine zQ (f := 6) rfl ?_);refine zaB (some 57) rfl rfl Tryz.func6 (by kernel_rfl) rfl #[.agg #[.int .i64 yd,.int .i64 ye,.slice Jj ya.length Jl],.agg #[.int .i64 yd,.int .i64 ye,.slice Jj ya.length Jl]] rfl hMq ?_;(with_reducible refine (zF.calls yd ye _ _ ya yd ye _ _ ya false _ ?side1 ?side2 ?side3 ?side4 A40.out).mono ?_);(case side1 => repeat (first | exact (Kd.V_reads' yb.out).2.2 | (with_reducible refine Kd.C_alloc ?_ _) | (with_reducible refine Kd.C_drewN ?_ _) | (with_reducible refine Kd.C_drew ?_)));(case side2 => exact (Kd.V_reads' yb.out).2.1);(case side3 => repeat (first | exact (Kd.V_reads' yb.out).2.2 | (with_reducible refine Kd.C_alloc ?_ _) | (with_reducible refine Kd.C_drewN ?_ _) | (with_reducible refine Kd.C_drew ?_)));(case side4 => exact (Kd.V_reads' yb.out).2.1);rintro e yaf ⟨rfl,hb⟩;refine ⟨_,rfl,?_⟩;have n_ := haq (Kd.V_below (by (with_reducible repeat (first | apply Kd.V_alloc | apply Kd.V_drewN | apply Kd.V_drew));exact yb.out) hb) <| haq (hbq yc.out hb) <| haq (ze hCq hb) <| trivial;clear yb yc HB;obtain ⟨yb,yc,HB,_⟩ := n_;(try clear hb);(try clear hb2);(try clear hk);(try clear hi)))
         go_ret
         exact ⟨hHq,hCq⟩
       ·rw [if_neg c39] at H
        have c39b0 : ((ya.length : Int) == x9_2) = false := beq_eq_false_iff_ne.mpr c39
        have c39b1 : ((ya.length : Int) != x9_2) = true := bne_iff_ne.mpr c39
        obtain rfl := Option.some.inj H
        obtain ⟨JW,JX,JY,J5,J6,J7⟩ := hcq3 yc.out
        obtain ⟨yab,yae,JS⟩ := Kd.V_slice yb.out
        subst JS
        go_wp2
        go_ret
        exact ⟨hHq,hCq⟩
end Go.Proofs.YtndjfdakflaggaaGreat.Px