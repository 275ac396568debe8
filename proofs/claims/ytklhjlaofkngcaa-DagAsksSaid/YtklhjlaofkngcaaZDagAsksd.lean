/- Part 30 of 33 of the proof of the law DagAsks: what is proved is the statement at the end of the last part; its conditions are those of the given row. -/
import Derived.Test.YtklhjlaofkngcaaZDagAsksM
import Derived.Test.YtklhjlaofkngcaaZDagAsksc
namespace Go.Proofs.Ytklhjlaofkngcaa.Px
open Go.RowKit Go.Proofs.YtklhjlaofkngcaaW.PrintWords Go.Proofs.YtklhjlaofkngcaaW.PrintLast Go.Proofs.YtklhjlaofkngcaaW.PrintMore
attribute [local go_sem] zF zH zM zN zB zC zG zI
set_option linter.unusedVariables false
set_option linter.unusedSimpArgs false
mutual
def zj.j0 : Nat → Bool → Int → Int → List (S36) → Option (Bool)
 | 0,_,_,_,_ => none
 | k + 1,x18,x250000,x250001,x250002 => if x18 = true then (some false) else (zj.l0 k 0 x250000 x250001 x250002)
def zj.l0 : Nat → Int → Int → Int → List (S36) → Option (Bool)
 | 0,_,_,_,_ => none
 | k + 1,x4,x250000,x250001,x250002 => if x4 < (x250002.length : Int) then (if 0 ≤ x4 then ((za4.f k ((zd x250002 x4).f1.f0) ((zd x250002 x4).f1.f1) ((zd x250002 x4).f1.f2) ((zd x250002 x4).f1.f3) ((zd x250002 x4).f1.f4.f0) ((zd x250002 x4).f1.f4.f1) x250000).bind fun bt253 => ((zx.f k x250000 x250001 x250002 ((zd x250002 x4).f1.f0) ((zd x250002 x4).f1.f1) ((zd x250002 x4).f1.f2) ((zd x250002 x4).f1.f3) ((zd x250002 x4).f1.f4.f0) ((zd x250002 x4).f1.f4.f1)).bind fun t255 => (if bt253.2 = 0 then (if bt253.1.toList = ((zd x250002 x4).f0).toList then (if ((zd x250002 x4).f1.f1) ≤ x250001 then (zj.j2 k x4 true x250000 x250001 x250002 ((zd x250002 x4).f0) ((zd x250002 x4).f1.f0) ((zd x250002 x4).f1.f1) ((zd x250002 x4).f1.f2) ((zd x250002 x4).f1.f3) ((zd x250002 x4).f1.f4.f0) ((zd x250002 x4).f1.f4.f1)) else (zj.j2 k x4 (decide ((t255.length : Int) > 0)) x250000 x250001 x250002 ((zd x250002 x4).f0) ((zd x250002 x4).f1.f0) ((zd x250002 x4).f1.f1) ((zd x250002 x4).f1.f2) ((zd x250002 x4).f1.f3) ((zd x250002 x4).f1.f4.f0) ((zd x250002 x4).f1.f4.f1))) else (zj.j2 k x4 true x250000 x250001 x250002 ((zd x250002 x4).f0) ((zd x250002 x4).f1.f0) ((zd x250002 x4).f1.f1) ((zd x250002 x4).f1.f2) ((zd x250002 x4).f1.f3) ((zd x250002 x4).f1.f4.f0) ((zd x250002 x4).f1.f4.f1))) else (zj.j2 k x4 true x250000 x250001 x250002 ((zd x250002 x4).f0) ((zd x250002 x4).f1.f0) ((zd x250002 x4).f1.f1) ((zd x250002 x4).f1.f2) ((zd x250002 x4).f1.f3) ((zd x250002 x4).f1.f4.f0) ((zd x250002 x4).f1.f4.f1))))) else (none)) else (some true)
def zj.j2 : Nat → Int → Bool → Int → Int → List (S36) → ByteArray → Int → Int → List (S72) → List ByteArray → Int → Int → Option (Bool)
 | 0,_,_,_,_,_,_,_,_,_,_,_,_ => none
 | k + 1,x4,x63,x250000,x250001,x250002,x253000,x253001,x253002,x253003,x253004,x253005,x253006 => if x63 = true then (some false) else (if x4 > 0 then (if 0 ≤ (wrap64 (x4 - 1)) then (if (wrap64 (x4 - 1)) < (x250002.length : Int) then ((zaA.f ((zd x250002 (wrap64 (x4 - 1))).f1.f0) ((zd x250002 (wrap64 (x4 - 1))).f1.f1) ((zd x250002 (wrap64 (x4 - 1))).f1.f2) ((zd x250002 (wrap64 (x4 - 1))).f1.f3) ((zd x250002 (wrap64 (x4 - 1))).f1.f4.f0) ((zd x250002 (wrap64 (x4 - 1))).f1.f4.f1) x253001 x253002 x253003 x253004 x253005 x253006).bind fun t259 => (if t259 = true then (zj.l0 k (wrap64 (x4 + 1)) x250000 x250001 x250002) else (some false))) else (none)) else (none)) else (zj.l0 k (wrap64 (x4 + 1)) x250000 x250001 x250002))
end
def zj.f (k : Nat) (a0_0 : Int) (a0_1 : Int) (l0_2 : List (S36)) : Option (Bool) := (zab.f a0_0).bind fun t250 => (if t250 = true then (zj.j0 k (decide (a0_1 < 0)) a0_0 a0_1 l0_2) else (zj.j0 k true a0_0 a0_1 l0_2))
def zj.T12 : Bool × List (List Nat × List Nat) := (true,[([],[]),([0],[0]),([1],[1]),([2],[2]),([3,2],[2,3]),([2],[2]),([5,2],[2,5]),([4,6,2],[2,4,6]),([7,2],[2,7]),([8,2],[2,8]),([2],[2]),([10,2],[2,10]),([9,11,2,2],[2,9,11]),([12,2],[2,12]),([2,13],[2,13])])
def zj.B12 : List Nat := [0,1,3,7,15,7,39,127,255,511,7,1031,4095,8191,16383]
theorem zj.tab12 : zbV .any (zdf Try.f21 12) = zj.T12 := by kernel_rfl
theorem zj.bits12 : zbw zj.T12.2 zj.B12 = true := by kernel_rfl
set_option maxHeartbeats 8000000 in
set_option maxRecDepth 100000 in
theorem zj.calls (k : Nat) (a0_0 : Int) (a0_1 : Int) (A0_2 : Option Addr) (c0_2 : Nat) (l0_2 : List (S36)) (r : Bool) (w : World) (hr0_2 : Kd.C k36 w A0_2 l0_2.length l0_2) (hc0_2 : l0_2.length ≤ c0_2) (h : zj.f k a0_0 a0_1 l0_2 = some r) :
  Calls Try.prog 21 #[.agg #[.int .i64 a0_0,.int .i64 a0_1,.slice A0_2 l0_2.length c0_2]] w fun e w' => e = .returned (.bool r) ∧ Below w.heap.size w w' := by
 have hu24 := Try.underlying24
 have hu36 := Try.underlying36
 have hu30 := Try.underlying30
 have HR0_2 := za.mk hr0_2
 have HC0_2 := za.mk hc0_2
 clear hr0_2 hc0_2
 have HB := za.mk (Below.refl w.heap.size w)
 have H : ((zab.f a0_0).bind fun t250 => (if t250 = true then (zj.j0 k (decide (a0_1 < 0)) a0_0 a0_1 l0_2) else (zj.j0 k true a0_0 a0_1 l0_2))) = some r := h
 clear h
 replace H := Option.bind_eq_some_iff.mp H
 obtain ⟨t250,A20,H⟩ := H
 replace H : (if t250 = true then (zj.j0 k (decide (a0_1 < 0)) a0_0 a0_1 l0_2) else (zj.j0 k true a0_0 a0_1 l0_2)) = some r := H
 have A2 := za.mk A20
 clear A20
 have HC3 := za.mk H
 clear H
 go_enter Try.func21,Try.ntmps21
 go_upto_region 2 with (first | ((with_reducible refine zu (N := 1) rfl ?_);(try (refine zbH (by rfl) ?_;dsimp only));refine zp ?hg (N := 1) ?hd (cs := #[.int .i64 a0_0,.int .i64 a0_1,.slice A0_2 l0_2.length c0_2]) (t := 24) ?hr ?_;(case hd => rfl);(case hg => rfl);(case hr => first | (go_simp;done) | (go_simp;rfl));intro gb249 hg w4 hbox hb;have n_ := haq (ze hBq hb) <| haq (hbox) <| haq ((by rw [hg];exact (zg hBq) : w.heap.size ≤ gb249)) <| haq ((by rw [hg];exact (zg hBq) : w.heap.size ≤ gb249)) <| trivial;clear HB;obtain ⟨HB,BK249,GW249,GE249,_⟩ := n_;clear hb hbox hg;obtain ⟨hcz5_0,hcz5_1,hcz5_2,hfz5_0,hfz5_1,hfz5_2⟩ := hcq3 BK249.out) | ((with_reducible refine zV (f := 32) rfl ?_);refine zaF (some 11) rfl rfl Try.func32 (by kernel_rfl) rfl #[.int .i64 a0_0] rfl hMq ?_;(with_reducible refine (zab.calls a0_0 t250 _ A2.out).mono ?_);rintro e w' ⟨rfl,⟨nd,rfl⟩⟩;refine ⟨_,rfl,?_⟩))
 (try simp only [Act.put,List.setIfInBounds_toArray,List.set_cons_zero,List.set_cons_succ])
 go_cut [18] (fun v18 wc => ∃ (kq : Nat) (x18_2 : Bool),v18 = .bool x18_2 ∧ za (zj.j0 kq x18_2 a0_0 a0_1 l0_2 = some r) ∧ za (kq ≤ k) ∧ za (wc.heap[gb249]? = some (.cells #[.int .i64 a0_0,.int .i64 a0_1,(.slice A0_2 l0_2.length c0_2)] 24 (0,0))) ∧ za (Below w.heap.size w wc))
 case first =>
  have H := HC3.out
  clear HC3
  by_cases c6 : t250 = true
  ·subst c6
   have H1 : (zj.j0 k (decide (a0_1 < 0)) a0_0 a0_1 l0_2) = some r := by rw [if_pos rfl] at H;exact H
   clear H
   have H := H1
   clear H1
   have H' := za.mk H
   clear H
   obtain ⟨hcz7_0,hcz7_1,hcz7_2,hfz7_0,hfz7_1,hfz7_2⟩ := hcq3 BK249.out
   go_wp2
   go_meet
   case rel => exact ⟨_,(decide (a0_1 < 0)),(hDq),H',⟨by first | omega | exact Nat.le_refl _⟩,⟨hGq BK249.out⟩,⟨by repeat (first | (with_reducible first | exact HB.out | apply zl | apply zi | apply zq | refine zo ?_ GE249.out) | exact HB.out)⟩⟩
  ·replace c6 := Bool.eq_false_iff.mpr c6
   subst c6
   have H1 : (zj.j0 k true a0_0 a0_1 l0_2) = some r := by rw [if_neg (show ¬ (false = true) by decide)] at H;exact H
   clear H
   have H := H1
   clear H1
   have H' := za.mk H
   clear H
   go_wp2
   go_meet
   case rel => exact ⟨_,(true),(hDq),H',⟨by first | omega | exact Nat.le_refl _⟩,⟨hGq BK249.out⟩,⟨by repeat (first | (with_reducible first | exact HB.out | apply zl | apply zi | apply zq | refine zo ?_ GE249.out) | exact HB.out)⟩⟩
 case rest =>
  clear HC3
  try clear c2;try clear p2;try clear c3;try clear c6;try clear hcz5_0;try clear hcz5_1;try clear hcz5_2;try clear hcz7_0;try clear hcz7_1;try clear hcz7_2;try clear hfz5_0;try clear hfz5_1;try clear hfz5_2;try clear hfz7_0;try clear hfz7_1;try clear hfz7_2
  obtain ⟨kq,x18_2,rfl,HA,HJ2,BK249,HB⟩ := hcut
  cases kq with
  | zero => exact absurd HA.out (by simp [zj.j0])
  | succ kj2 =>
   have H := HA.out
   clear HA
   simp only [zj.j0] at H
   by_cases c8 : x18_2 = true
   ·subst c8
    have H1 : (some false) = some r := by rw [if_pos rfl] at H;exact H
    clear H
    have H := H1
    clear H1
    obtain rfl := Option.some.inj H
    go_wp2
    go_ret
    exact ⟨hHq,hCq⟩
   ·replace c8 := Bool.eq_false_iff.mpr c8
    subst c8
    have H1 : (zj.l0 kj2 0 a0_0 a0_1 l0_2) = some r := by rw [if_neg (show ¬ (false = true) by decide)] at H;exact H
    clear H
    have H := H1
    clear H1
    have H' := za.mk H
    clear H
    go_wp2
    go_loopg [4] kj2 (fun kq v4 w' => ∃ (x4_2 : Int),v4 = .int .i64 x4_2 ∧ za (zj.l0 kq x4_2 a0_0 a0_1 l0_2 = some r) ∧ za (kq ≤ kj2) ∧ za (w'.heap[gb249]? = some (.cells #[.int .i64 a0_0,.int .i64 a0_1,(.slice A0_2 l0_2.length c0_2)] 24 (0,0))) ∧ za (Below w.heap.size w w'))
    case atStart => exact ⟨(0),(hDq),H',⟨Nat.le_refl _⟩,⟨hGq BK249.out⟩,⟨by repeat (first | (with_reducible first | exact HB.out | apply zl | apply zi | apply zq | refine zo ?_ GE249.out) | exact HB.out)⟩⟩
    case round =>
     clear H'
     try clear c2;try clear p2;try clear c3;try clear c6;try clear c8;try clear hcz5_0;try clear hcz5_1;try clear hcz5_2;try clear hcz7_0;try clear hcz7_1;try clear hcz7_2;try clear hfz5_0;try clear hfz5_1;try clear hfz5_2;try clear hfz7_0;try clear hfz7_1;try clear hfz7_2;try clear p2
     obtain ⟨x4_2,rfl,HA,HK2,BK249,HB⟩ := hrel
     cases gk with
     | zero => exact absurd HA.out (by simp [zj.l0])
     | succ k2 =>
      have H := HA.out
      clear HA
      simp only [zj.l0] at H
      by_cases c9 : x4_2 < (l0_2.length : Int)
      ·rw [if_pos c9] at H
       have c9b0 : decide (x4_2 < (l0_2.length : Int)) = true := decide_eq_true c9
       clear c9
       by_cases c10 : 0 ≤ x4_2
       ·rw [if_pos c10] at H
        have c10b0 : decide (0 ≤ x4_2) = true := decide_eq_true c10
        clear c10
        replace H := Option.bind_eq_some_iff.mp H
        obtain ⟨⟨t253,t254⟩,A110,H⟩ := H
        replace H : ((zx.f k2 a0_0 a0_1 l0_2 ((zd l0_2 x4_2).f1.f0) ((zd l0_2 x4_2).f1.f1) ((zd l0_2 x4_2).f1.f2) ((zd l0_2 x4_2).f1.f3) ((zd l0_2 x4_2).f1.f4.f0) ((zd l0_2 x4_2).f1.f4.f1)).bind fun t255 => (if t254 = 0 then (if t253.toList = ((zd l0_2 x4_2).f0).toList then (if ((zd l0_2 x4_2).f1.f1) ≤ a0_1 then (zj.j2 k2 x4_2 true a0_0 a0_1 l0_2 ((zd l0_2 x4_2).f0) ((zd l0_2 x4_2).f1.f0) ((zd l0_2 x4_2).f1.f1) ((zd l0_2 x4_2).f1.f2) ((zd l0_2 x4_2).f1.f3) ((zd l0_2 x4_2).f1.f4.f0) ((zd l0_2 x4_2).f1.f4.f1)) else (zj.j2 k2 x4_2 (decide ((t255.length : Int) > 0)) a0_0 a0_1 l0_2 ((zd l0_2 x4_2).f0) ((zd l0_2 x4_2).f1.f0) ((zd l0_2 x4_2).f1.f1) ((zd l0_2 x4_2).f1.f2) ((zd l0_2 x4_2).f1.f3) ((zd l0_2 x4_2).f1.f4.f0) ((zd l0_2 x4_2).f1.f4.f1))) else (zj.j2 k2 x4_2 true a0_0 a0_1 l0_2 ((zd l0_2 x4_2).f0) ((zd l0_2 x4_2).f1.f0) ((zd l0_2 x4_2).f1.f1) ((zd l0_2 x4_2).f1.f2) ((zd l0_2 x4_2).f1.f3) ((zd l0_2 x4_2).f1.f4.f0) ((zd l0_2 x4_2).f1.f4.f1))) else (zj.j2 k2 x4_2 true a0_0 a0_1 l0_2 ((zd l0_2 x4_2).f0) ((zd l0_2 x4_2).f1.f0) ((zd l0_2 x4_2).f1.f1) ((zd l0_2 x4_2).f1.f2) ((zd l0_2 x4_2).f1.f3) ((zd l0_2 x4_2).f1.f4.f0) ((zd l0_2 x4_2).f1.f4.f1)))) = some r := H
        have A11 := za.mk A110
        clear A110
        replace H := Option.bind_eq_some_iff.mp H
        obtain ⟨t255,A120,H⟩ := H
        replace H : (if t254 = 0 then (if t253.toList = ((zd l0_2 x4_2).f0).toList then (if ((zd l0_2 x4_2).f1.f1) ≤ a0_1 then (zj.j2 k2 x4_2 true a0_0 a0_1 l0_2 ((zd l0_2 x4_2).f0) ((zd l0_2 x4_2).f1.f0) ((zd l0_2 x4_2).f1.f1) ((zd l0_2 x4_2).f1.f2) ((zd l0_2 x4_2).f1.f3) ((zd l0_2 x4_2).f1.f4.f0) ((zd l0_2 x4_2).f1.f4.f1)) else (zj.j2 k2 x4_2 (decide ((t255.length : Int) > 0)) a0_0 a0_1 l0_2 ((zd l0_2 x4_2).f0) ((zd l0_2 x4_2).f1.f0) ((zd l0_2 x4_2).f1.f1) ((zd l0_2 x4_2).f1.f2) ((zd l0_2 x4_2).f1.f3) ((zd l0_2 x4_2).f1.f4.f0) ((zd l0_2 x4_2).f1.f4.f1))) else (zj.j2 k2 x4_2 true a0_0 a0_1 l0_2 ((zd l0_2 x4_2).f0) ((zd l0_2 x4_2).f1.f0) ((zd l0_2 x4_2).f1.f1) ((zd l0_2 x4_2).f1.f2) ((zd l0_2 x4_2).f1.f3) ((zd l0_2 x4_2).f1.f4.f0) ((zd l0_2 x4_2).f1.f4.f1))) else (zj.j2 k2 x4_2 true a0_0 a0_1 l0_2 ((zd l0_2 x4_2).f0) ((zd l0_2 x4_2).f1.f0) ((zd l0_2 x4_2).f1.f1) ((zd l0_2 x4_2).f1.f2) ((zd l0_2 x4_2).f1.f3) ((zd l0_2 x4_2).f1.f4.f0) ((zd l0_2 x4_2).f1.f4.f1))) = some r := H
        have A12 := za.mk A120
        clear A120
        have HC13 := za.mk H
        clear H
        obtain ⟨hcz14_0,hcz14_1,hcz14_2,hfz14_0,hfz14_1,hfz14_2⟩ := hcq3 BK249.out
        have p251 : 0 ≤ (x4_2 : Int) := hFq
        have q251 : x4_2 < (l0_2.length : Int) := hFq
        obtain ⟨ad251,A251_3,c251_3,A251_4,c251_4,e251,hx251_0,hx251_1,hx251_2,hx251_3,hx251_4,hx251_5,hx251_6,hl251_3,hi251_3,hl251_4,hi251_4⟩ := zaH HR0_2.out x4_2 p251 q251
        cases e251
        replace hx251_0 := (HB.out.cell (World.block_lt_of_cell? w _ hx251_0)).trans hx251_0
        replace hx251_1 := (HB.out.cell (World.block_lt_of_cell? w _ hx251_1)).trans hx251_1
        replace hx251_2 := (HB.out.cell (World.block_lt_of_cell? w _ hx251_2)).trans hx251_2
        replace hx251_3 := (HB.out.cell (World.block_lt_of_cell? w _ hx251_3)).trans hx251_3
        replace hx251_4 := (HB.out.cell (World.block_lt_of_cell? w _ hx251_4)).trans hx251_4
        replace hx251_5 := (HB.out.cell (World.block_lt_of_cell? w _ hx251_5)).trans hx251_5
        replace hx251_6 := (HB.out.cell (World.block_lt_of_cell? w _ hx251_6)).trans hx251_6
        have HR251_3 := za.mk hi251_3
        have HC251_3 := za.mk hl251_3
        clear hi251_3 hl251_3
        have HR251_4 := za.mk hi251_4
        have HC251_4 := za.mk hl251_4
        clear hi251_4 hl251_4
        replace p251 := eq_true p251
        replace q251 := eq_true q251
        go_upto_region 10 with (first | ((with_reducible refine zu (N := 5) rfl ?_);(try (refine zbH (by rfl) ?_;dsimp only));refine zp ?hg (N := 5) ?hd (cs := #[.string (⟨#[]⟩ : ByteArray),.int .i64 0,.int .i64 0,.slice none 0 0,.slice none 0 0,.int .i64 0,.int .i64 0]) (t := 36) ?hr ?_;(case hd => rfl);(case hg => rfl);(case hr => first | (go_simp;done) | (go_simp;rfl));intro gb252 hg w15 hbox hb;have n_ := haq (hbq BK249.out hb) <| haq (ze hCq hb) <| haq (hbox) <| haq ((by rw [hg];exact (zg hCq) : w.heap.size ≤ gb252)) <| haq ((by rw [hg];exact (zg hCq) : w.heap.size ≤ gb252)) <| haq (hnq hg BK249.out) <| haq (hmq hg BK249.out) <| trivial;clear BK249 HB;obtain ⟨BK249,HB,BK252,GW252,GE252,NB249_252,NB252_249,_⟩ := n_;clear hb hbox hg;have hnb16 := NB252_249.out;have hnc16 := NB249_252.out;obtain ⟨hcz17_0,hcz17_1,hcz17_2,hcz17_3,hcz17_4,hcz17_5,hcz17_6,hfz17_0,hfz17_1,hfz17_2,hfz17_3,hfz17_4,hfz17_5,hfz17_6⟩ := hcq7 BK252.out;obtain ⟨hcz18_0,hcz18_1,hcz18_2,hfz18_0,hfz18_1,hfz18_2⟩ := hcq3 BK249.out) | ((with_reducible refine zV (f := 33) rfl ?_);refine zaF (some 36) rfl rfl Try.func33 (by kernel_rfl) rfl #[.agg #[.int .i64 ((zd l0_2 x4_2).f1.f0),.int .i64 ((zd l0_2 x4_2).f1.f1),.slice A251_3 ((zd l0_2 x4_2).f1.f2).length c251_3,.slice A251_4 ((zd l0_2 x4_2).f1.f3).length c251_4,.int .i64 ((zd l0_2 x4_2).f1.f4.f0),.int .i64 ((zd l0_2 x4_2).f1.f4.f1)],.int .i64 a0_0] rfl hMq ?_;(with_reducible refine (za4.calls k2 ((zd l0_2 x4_2).f1.f0) ((zd l0_2 x4_2).f1.f1) _ _ ((zd l0_2 x4_2).f1.f2) _ _ ((zd l0_2 x4_2).f1.f3) ((zd l0_2 x4_2).f1.f4.f0) ((zd l0_2 x4_2).f1.f4.f1) a0_0 t253 t254 _ ?side1 ?side2 ?side3 ?side4 A11.out).mono ?_);(case side1 => exact Kd.C_below HR251_3.out hCq);(case side2 => exact HC251_3.out);(case side3 => exact Kd.C_below HR251_4.out hCq);(case side4 => exact HC251_4.out);rintro e w19 ⟨rfl,hb⟩;refine ⟨_,rfl,?_⟩;have n_ := haq (zt (g := gb249) (o := .cells #[.int .i64 a0_0,.int .i64 a0_1,.slice (some ad251) l0_2.length c0_2] 24 (0,0)) (hxq1 NB249_252.out BK249.out) hb) <| haq (zt (g := gb252) (o := .cells #[.string ((zd l0_2 x4_2).f0),.int .i64 ((zd l0_2 x4_2).f1.f0),.int .i64 ((zd l0_2 x4_2).f1.f1),.slice A251_3 ((zd l0_2 x4_2).f1.f2).length c251_3,.slice A251_4 ((zd l0_2 x4_2).f1.f3).length c251_4,.int .i64 ((zd l0_2 x4_2).f1.f4.f0),.int .i64 ((zd l0_2 x4_2).f1.f4.f1)] 36 (0,0)) (hxq0p BK252.out) hb) <| haq (ze hCq hb) <| trivial;clear BK249 BK252 HB;obtain ⟨BK249,BK252,HB,_⟩ := n_;(try clear hb);(try clear hb2);(try clear hk);(try clear hi);obtain ⟨hcz20_0,hcz20_1,hcz20_2,hfz20_0,hfz20_1,hfz20_2⟩ := hcq3 BK249.out;obtain ⟨hcz21_0,hcz21_1,hcz21_2,hcz21_3,hcz21_4,hcz21_5,hcz21_6,hfz21_0,hfz21_1,hfz21_2,hfz21_3,hfz21_4,hfz21_5,hfz21_6⟩ := hcq7 BK252.out) | ((with_reducible refine zV (f := 19) rfl ?_);refine zaF (some 42) rfl rfl Try.func19 (by kernel_rfl) rfl #[.agg #[.int .i64 a0_0,.int .i64 a0_1,.slice (some ad251) l0_2.length c0_2],.agg #[.int .i64 ((zd l0_2 x4_2).f1.f0),.int .i64 ((zd l0_2 x4_2).f1.f1),.slice A251_3 ((zd l0_2 x4_2).f1.f2).length c251_3,.slice A251_4 ((zd l0_2 x4_2).f1.f3).length c251_4,.int .i64 ((zd l0_2 x4_2).f1.f4.f0),.int .i64 ((zd l0_2 x4_2).f1.f4.f1)]] rfl hMq ?_;(with_reducible refine (zx.calls k2 a0_0 a0_1 _ _ l0_2 ((zd l0_2 x4_2).f1.f0) ((zd l0_2 x4_2).f1.f1) _ _ ((zd l0_2 x4_2).f1.f2) _ _ ((zd l0_2 x4_2).f1.f3) ((zd l0_2 x4_2).f1.f4.f0) ((zd l0_2 x4_2).f1.f4.f1) t255 _ ?side1 ?side2 ?side3 ?side4 ?side5 ?side6 A12.out).mono ?_);(case side1 => exact hKq (Kd.C_below HR0_2.out HB.out));(case side2 => exact HC0_2.out);(case side3 => exact hKq (Kd.C_below HR251_3.out HB.out));(case side4 => exact HC251_3.out);(case side5 => exact hKq (Kd.C_below HR251_4.out HB.out));(case side6 => exact HC251_4.out);rintro e w22 ⟨v256,rfl,ho0,hb⟩;refine ⟨_,rfl,?_⟩;have n_ := haq (Kd.R_lower ho0 (zg hCq)) <| haq (hbq BK249.out hb) <| haq (hbq BK252.out hb) <| haq (ze hCq hb) <| trivial;clear BK249 BK252 HB;obtain ⟨HO257,BK249,BK252,HB,_⟩ := n_;(try clear hb);(try clear hb2);(try clear hk);(try clear hi);(try clear ho0)))
        (try simp only [Act.put,List.setIfInBounds_toArray,List.set_cons_zero,List.set_cons_succ])
        go_cut [63] (fun v63 wc => ∃ (kq : Nat) (x63_12 : Bool),v63 = .bool x63_12 ∧ za (zj.j2 kq x4_2 x63_12 a0_0 a0_1 l0_2 ((zd l0_2 x4_2).f0) ((zd l0_2 x4_2).f1.f0) ((zd l0_2 x4_2).f1.f1) ((zd l0_2 x4_2).f1.f2) ((zd l0_2 x4_2).f1.f3) ((zd l0_2 x4_2).f1.f4.f0) ((zd l0_2 x4_2).f1.f4.f1) = some r) ∧ za (kq ≤ k2) ∧ za (wc.heap[gb249]? = some (.cells #[.int .i64 a0_0,.int .i64 a0_1,(.slice (some ad251) l0_2.length c0_2)] 24 (0,0))) ∧ za (wc.heap[gb252]? = some (.cells #[.string ((zd l0_2 x4_2).f0),.int .i64 ((zd l0_2 x4_2).f1.f0),.int .i64 ((zd l0_2 x4_2).f1.f1),(.slice A251_3 ((zd l0_2 x4_2).f1.f2).length c251_3),(.slice A251_4 ((zd l0_2 x4_2).f1.f3).length c251_4),.int .i64 ((zd l0_2 x4_2).f1.f4.f0),.int .i64 ((zd l0_2 x4_2).f1.f4.f1)] 36 (0,0))) ∧ za (Below w.heap.size w wc))
        case first =>
         have H := HC13.out
         clear HC13
         by_cases c23 : t254 = 0
         ·rw [if_pos c23] at H
          have c23b0 : (t254 == 0) = true := beq_iff_eq.mpr c23
          have c23b1 : (t254 != 0) = false := bne_eq_false_iff_eq.mpr c23
          clear c23
          (first | rw [c23b0] | (simp only [zk,zm];rw [c23b0]) | skip)
          by_cases c24 : t253.toList = ((zd l0_2 x4_2).f0).toList
          ·rw [if_pos c24] at H
           have c24b0 : (t253.toList == ((zd l0_2 x4_2).f0).toList) = true := beq_iff_eq.mpr c24
           have c24b1 : (t253.toList != ((zd l0_2 x4_2).f0).toList) = false := bne_eq_false_iff_eq.mpr c24
           clear c24
           by_cases c25 : ((zd l0_2 x4_2).f1.f1) ≤ a0_1
           ·rw [if_pos c25] at H
            have c25b0 : decide (((zd l0_2 x4_2).f1.f1) ≤ a0_1) = true := decide_eq_true c25
            clear c25
            have H' := za.mk H
            clear H
            have hnb26 := NB252_249.out
            have hnc26 := NB249_252.out
            obtain ⟨hcz27_0,hcz27_1,hcz27_2,hcz27_3,hcz27_4,hcz27_5,hcz27_6,hfz27_0,hfz27_1,hfz27_2,hfz27_3,hfz27_4,hfz27_5,hfz27_6⟩ := hcq7 BK252.out
            obtain ⟨hcz28_0,hcz28_1,hcz28_2,hfz28_0,hfz28_1,hfz28_2⟩ := hcq3 BK249.out
            go_wp2
            go_meet
            case rel => exact ⟨_,(true),(hDq),H',⟨by have := HJ2.out;have := HK2.out;first | omega | exact Nat.le_refl _⟩,⟨hGq BK249.out⟩,⟨hGq BK252.out⟩,⟨by repeat (first | (with_reducible first | exact HB.out | apply zl | apply zi | apply zq | refine zo ?_ GE249.out | refine zo ?_ GE252.out) | exact HB.out)⟩⟩
           ·rw [if_neg c25] at H
            have c25b0 : decide (((zd l0_2 x4_2).f1.f1) ≤ a0_1) = false := decide_eq_false c25
            clear c25
            have H' := za.mk H
            clear H
            have hnb29 := NB252_249.out
            have hnc29 := NB249_252.out
            obtain ⟨hcz30_0,hcz30_1,hcz30_2,hcz30_3,hcz30_4,hcz30_5,hcz30_6,hfz30_0,hfz30_1,hfz30_2,hfz30_3,hfz30_4,hfz30_5,hfz30_6⟩ := hcq7 BK252.out
            obtain ⟨hcz31_0,hcz31_1,hcz31_2,hfz31_0,hfz31_1,hfz31_2⟩ := hcq3 BK249.out
            obtain ⟨Ao32,co32,eo32⟩ := Kd.R_slice HO257.out
            subst eo32
            go_wp2
            go_meet
            case rel => exact ⟨_,(decide ((t255.length : Int) > 0)),(hDq),H',⟨by have := HJ2.out;have := HK2.out;first | omega | exact Nat.le_refl _⟩,⟨hGq BK249.out⟩,⟨hGq BK252.out⟩,⟨by repeat (first | (with_reducible first | exact HB.out | apply zl | apply zi | apply zq | refine zo ?_ GE249.out | refine zo ?_ GE252.out) | exact HB.out)⟩⟩
          ·rw [if_neg c24] at H
           have c24b0 : (t253.toList == ((zd l0_2 x4_2).f0).toList) = false := beq_eq_false_iff_ne.mpr c24
           have c24b1 : (t253.toList != ((zd l0_2 x4_2).f0).toList) = true := bne_iff_ne.mpr c24
           have H' := za.mk H
           clear H
           have hnb33 := NB252_249.out
           have hnc33 := NB249_252.out
           obtain ⟨hcz34_0,hcz34_1,hcz34_2,hcz34_3,hcz34_4,hcz34_5,hcz34_6,hfz34_0,hfz34_1,hfz34_2,hfz34_3,hfz34_4,hfz34_5,hfz34_6⟩ := hcq7 BK252.out
           go_wp2
           go_meet
           case rel => exact ⟨_,(true),(hDq),H',⟨by have := HJ2.out;have := HK2.out;first | omega | exact Nat.le_refl _⟩,⟨hGq BK249.out⟩,⟨hGq BK252.out⟩,⟨by repeat (first | (with_reducible first | exact HB.out | apply zl | apply zi | apply zq | refine zo ?_ GE249.out | refine zo ?_ GE252.out) | exact HB.out)⟩⟩
         ·rw [if_neg c23] at H
          have c23b0 : (t254 == 0) = false := beq_eq_false_iff_ne.mpr c23
          have c23b1 : (t254 != 0) = true := bne_iff_ne.mpr c23
          (first | rw [c23b0] | (simp only [zk,zm];rw [c23b0]) | skip)
          have H' := za.mk H
          clear H
          go_wp2
          go_meet
          case rel => exact ⟨_,(true),(hDq),H',⟨by have := HJ2.out;have := HK2.out;first | omega | exact Nat.le_refl _⟩,⟨hGq BK249.out⟩,⟨hGq BK252.out⟩,⟨by repeat (first | (with_reducible first | exact HB.out | apply zl | apply zi | apply zq | refine zo ?_ GE249.out | refine zo ?_ GE252.out) | exact HB.out)⟩⟩
        case rest =>
         clear HC13
         try clear c1;try clear c2;try clear p2;try clear q2;try clear hx2;try clear c3;try clear c6;try clear c8;try clear c9;try clear c9b0;try clear c10;try clear c10b0;try clear c16;try clear c19;try clear c21;try clear c23;try clear c23b0;try clear c23b1;try clear c24;try clear c24b0;try clear c24b1;try clear c25;try clear c25b0;try clear p25;try clear q25;try clear hx25;try clear c26;try clear c29;try clear c32;try clear c33;try clear hcz14_0;try clear hcz14_1;try clear hcz14_2;try clear hcz17_0;try clear hcz17_1;try clear hcz17_2;try clear hcz17_3;try clear hcz17_4;try clear hcz17_5;try clear hcz17_6;try clear hcz18_0;try clear hcz18_1;try clear hcz18_2;try clear hcz20_0;try clear hcz20_1;try clear hcz20_2;try clear hcz21_0;try clear hcz21_1;try clear hcz21_2;try clear hcz21_3;try clear hcz21_4;try clear hcz21_5;try clear hcz21_6;try clear hcz27_0;try clear hcz27_1;try clear hcz27_2;try clear hcz27_3;try clear hcz27_4;try clear hcz27_5;try clear hcz27_6;try clear hcz28_0;try clear hcz28_1;try clear hcz28_2;try clear hcz30_0;try clear hcz30_1;try clear hcz30_2;try clear hcz30_3;try clear hcz30_4;try clear hcz30_5;try clear hcz30_6;try clear hcz31_0;try clear hcz31_1;try clear hcz31_2;try clear hcz34_0;try clear hcz34_1;try clear hcz34_2;try clear hcz34_3;try clear hcz34_4;try clear hcz34_5;try clear hcz34_6;try clear hcz5_0;try clear hcz5_1;try clear hcz5_2;try clear hcz7_0;try clear hcz7_1;try clear hcz7_2;try clear hfz14_0;try clear hfz14_1;try clear hfz14_2;try clear hfz17_0;try clear hfz17_1;try clear hfz17_2;try clear hfz17_3;try clear hfz17_4;try clear hfz17_5;try clear hfz17_6;try clear hfz18_0;try clear hfz18_1;try clear hfz18_2;try clear hfz20_0;try clear hfz20_1;try clear hfz20_2;try clear hfz21_0;try clear hfz21_1;try clear hfz21_2;try clear hfz21_3;try clear hfz21_4;try clear hfz21_5;try clear hfz21_6;try clear hfz27_0;try clear hfz27_1;try clear hfz27_2;try clear hfz27_3;try clear hfz27_4;try clear hfz27_5;try clear hfz27_6;try clear hfz28_0;try clear hfz28_1;try clear hfz28_2;try clear hfz30_0;try clear hfz30_1;try clear hfz30_2;try clear hfz30_3;try clear hfz30_4;try clear hfz30_5;try clear hfz30_6;try clear hfz31_0;try clear hfz31_1;try clear hfz31_2;try clear hfz34_0;try clear hfz34_1;try clear hfz34_2;try clear hfz34_3;try clear hfz34_4;try clear hfz34_5;try clear hfz34_6;try clear hfz5_0;try clear hfz5_1;try clear hfz5_2;try clear hfz7_0;try clear hfz7_1;try clear hfz7_2;try clear hx251_0;try clear hx251_1;try clear hx251_2;try clear hx251_3;try clear hx251_4;try clear hx251_5;try clear hx251_6;try clear p2;try clear p251;try clear q251
         obtain ⟨kq,x63_12,rfl,HA,HJ12,BK249,BK252,HB⟩ := hcut
         cases kq with
         | zero => exact absurd HA.out (by simp [zj.j2])
         | succ kj12 =>
          have H := HA.out
          clear HA
          simp only [zj.j2] at H
          by_cases c35 : x63_12 = true
          ·subst c35
           have H1 : (some false) = some r := by rw [if_pos rfl] at H;exact H
           clear H
           have H := H1
           clear H1
           obtain rfl := Option.some.inj H
           go_wp2
           go_ret
           exact ⟨hHq,hCq⟩
          ·replace c35 := Bool.eq_false_iff.mpr c35
           subst c35
           have H1 : (if x4_2 > 0 then (if 0 ≤ (wrap64 (x4_2 - 1)) then (if (wrap64 (x4_2 - 1)) < (l0_2.length : Int) then ((zaA.f ((zd l0_2 (wrap64 (x4_2 - 1))).f1.f0) ((zd l0_2 (wrap64 (x4_2 - 1))).f1.f1) ((zd l0_2 (wrap64 (x4_2 - 1))).f1.f2) ((zd l0_2 (wrap64 (x4_2 - 1))).f1.f3) ((zd l0_2 (wrap64 (x4_2 - 1))).f1.f4.f0) ((zd l0_2 (wrap64 (x4_2 - 1))).f1.f4.f1) ((zd l0_2 x4_2).f1.f0) ((zd l0_2 x4_2).f1.f1) ((zd l0_2 x4_2).f1.f2) ((zd l0_2 x4_2).f1.f3) ((zd l0_2 x4_2).f1.f4.f0) ((zd l0_2 x4_2).f1.f4.f1)).bind fun t259 => (if t259 = true then (zj.l0 kj12 (wrap64 (x4_2 + 1)) a0_0 a0_1 l0_2) else (some false))) else (none)) else (none)) else (zj.l0 kj12 (wrap64 (x4_2 + 1)) a0_0 a0_1 l0_2)) = some r := by rw [if_neg (show ¬ (false = true) by decide)] at H;exact H
           clear H
           have H := H1
           clear H1
           by_cases c36 : x4_2 > 0
           ·rw [if_pos c36] at H
            have c36b0 : decide (0 < x4_2) = true := decide_eq_true c36
            clear c36
            obtain ⟨ji37,hji37⟩ : ∃ j_ : Int,(wrap64 (x4_2 - 1)) = j_ := ⟨_,rfl⟩
            replace H : (if 0 ≤ (ji37) then (if (ji37) < (l0_2.length : Int) then ((zaA.f ((zd l0_2 (ji37)).f1.f0) ((zd l0_2 (ji37)).f1.f1) ((zd l0_2 (ji37)).f1.f2) ((zd l0_2 (ji37)).f1.f3) ((zd l0_2 (ji37)).f1.f4.f0) ((zd l0_2 (ji37)).f1.f4.f1) ((zd l0_2 x4_2).f1.f0) ((zd l0_2 x4_2).f1.f1) ((zd l0_2 x4_2).f1.f2) ((zd l0_2 x4_2).f1.f3) ((zd l0_2 x4_2).f1.f4.f0) ((zd l0_2 x4_2).f1.f4.f1)).bind fun t259 => (if t259 = true then (zj.l0 kj12 (wrap64 (x4_2 + 1)) a0_0 a0_1 l0_2) else (some false))) else (none)) else (none)) = some r := by first | (rw [hji37] at H;exact H) | (simp only [hji37] at H ⊢;exact H)
            have hji37w : (IntKind.i64.wrap (x4_2 - 1)) = ji37 := (zk _).trans hji37
            by_cases c38 : 0 ≤ (ji37)
            ·rw [if_pos c38] at H
             have c38b0 : decide (0 ≤ (ji37)) = true := decide_eq_true c38
             clear c38
             by_cases c39 : (ji37) < (l0_2.length : Int)
             ·rw [if_pos c39] at H
              have c39b0 : decide ((ji37) < (l0_2.length : Int)) = true := decide_eq_true c39
              clear c39
              replace H := Option.bind_eq_some_iff.mp H
              obtain ⟨t259,A400,H⟩ := H
              replace H : (if t259 = true then (zj.l0 kj12 (wrap64 (x4_2 + 1)) a0_0 a0_1 l0_2) else (some false)) = some r := H
              have A40 := za.mk A400
              clear A400
              by_cases c41 : t259 = true
              ·subst c41
               have H1 : (zj.l0 kj12 (wrap64 (x4_2 + 1)) a0_0 a0_1 l0_2) = some r := by rw [if_pos rfl] at H;exact H
               clear H
               have H := H1
               clear H1
               have H' := za.mk H
               clear H
               try go_wp2
               have n0_ := za.mk (zam BK249.out)
               have n1_ := za.mk (zam BK252.out)
               have n2_ := za.mk (zq HB.out)
               clear BK249
               clear BK252
               clear HB
               have BK249 := n0_
               have BK252 := n1_
               have HB := n2_
               clear n0_ n1_ n2_
               have p258 : 0 ≤ ((ji37) : Int) := hFq
               have q258 : (ji37) < (l0_2.length : Int) := hFq
               obtain ⟨ad258,A258_3,c258_3,A258_4,c258_4,e258,hx258_0,hx258_1,hx258_2,hx258_3,hx258_4,hx258_5,hx258_6,hl258_3,hi258_3,hl258_4,hi258_4⟩ := zaH HR0_2.out (ji37) p258 q258
               have hw258_6 := hx258_6
               have hw258_5 := hx258_5
               have hw258_4 := hx258_4
               have hw258_3 := hx258_3
               have hw258_2 := hx258_2
               have hw258_1 := hx258_1
               have hw258_0 := hx258_0
               obtain rfl : ad251 = ad258 := (by injection e258)
               replace hx258_0 := (HB.out.cell (World.block_lt_of_cell? w _ hx258_0)).trans hx258_0
               replace hx258_1 := (HB.out.cell (World.block_lt_of_cell? w _ hx258_1)).trans hx258_1
               replace hx258_2 := (HB.out.cell (World.block_lt_of_cell? w _ hx258_2)).trans hx258_2
               replace hx258_3 := (HB.out.cell (World.block_lt_of_cell? w _ hx258_3)).trans hx258_3
               replace hx258_4 := (HB.out.cell (World.block_lt_of_cell? w _ hx258_4)).trans hx258_4
               replace hx258_5 := (HB.out.cell (World.block_lt_of_cell? w _ hx258_5)).trans hx258_5
               replace hx258_6 := (HB.out.cell (World.block_lt_of_cell? w _ hx258_6)).trans hx258_6
               have HR258_3 := za.mk hi258_3
               have HC258_3 := za.mk hl258_3
               clear hi258_3 hl258_3
               have HR258_4 := za.mk hi258_4
               have HC258_4 := za.mk hl258_4
               clear hi258_4 hl258_4
               replace p258 := eq_true p258
               replace q258 := eq_true q258
               refine zbD (n := 15) (S := fun w' => w'.cell? ⟨gb249,0,none⟩ = some (.int .i64 a0_0) ∧ w'.cell? ⟨gb249,1,none⟩ = some (.int .i64 a0_1) ∧ w'.cell? ⟨gb249,2,none⟩ = some (.slice (some ad251) l0_2.length c0_2) ∧ w'.cell? ⟨gb252,0,none⟩ = some (.string ((zd l0_2 x4_2).f0)) ∧ w'.cell? ⟨gb252,1,none⟩ = some (.int .i64 ((zd l0_2 x4_2).f1.f0)) ∧ w'.cell? ⟨gb252,2,none⟩ = some (.int .i64 ((zd l0_2 x4_2).f1.f1)) ∧ w'.cell? ⟨gb252,3,none⟩ = some (.slice A251_3 ((zd l0_2 x4_2).f1.f2).length c251_3) ∧ w'.cell? ⟨gb252,4,none⟩ = some (.slice A251_4 ((zd l0_2 x4_2).f1.f3).length c251_4) ∧ w'.cell? ⟨gb252,5,none⟩ = some (.int .i64 ((zd l0_2 x4_2).f1.f4.f0)) ∧ w'.cell? ⟨gb252,6,none⟩ = some (.int .i64 ((zd l0_2 x4_2).f1.f4.f1)) ∧ w'.cell? (ad251.add (((ji37)).toNat * 7)) = some (.string ((zd l0_2 (ji37)).f0)) ∧ w'.cell? ⟨(ad251.add (((ji37)).toNat * 7)).block,(ad251.add (((ji37)).toNat * 7)).off + 1,none⟩ = some (.int .i64 ((zd l0_2 (ji37)).f1.f0)) ∧ w'.cell? ⟨(ad251.add (((ji37)).toNat * 7)).block,(ad251.add (((ji37)).toNat * 7)).off + 2,none⟩ = some (.int .i64 ((zd l0_2 (ji37)).f1.f1)) ∧ w'.cell? ⟨(ad251.add (((ji37)).toNat * 7)).block,(ad251.add (((ji37)).toNat * 7)).off + 3,none⟩ = some (.slice A258_3 ((zd l0_2 (ji37)).f1.f2).length c258_3) ∧ w'.cell? ⟨(ad251.add (((ji37)).toNat * 7)).block,(ad251.add (((ji37)).toNat * 7)).off + 4,none⟩ = some (.slice A258_4 ((zd l0_2 (ji37)).f1.f3).length c258_4) ∧ w'.cell? ⟨(ad251.add (((ji37)).toNat * 7)).block,(ad251.add (((ji37)).toNat * 7)).off + 5,none⟩ = some (.int .i64 ((zd l0_2 (ji37)).f1.f4.f0)) ∧ w'.cell? ⟨(ad251.add (((ji37)).toNat * 7)).block,(ad251.add (((ji37)).toNat * 7)).off + 6,none⟩ = some (.int .i64 ((zd l0_2 (ji37)).f1.f4.f1))) (ds := []) #[false,false,false,false,false,false,false,false,false,false,false,false,false,false,false] (by kernel_rfl) rfl rfl ⟨(zb BK249.out 0).trans rfl,(zb BK249.out 1).trans rfl,(zb BK249.out 2).trans rfl,(zb BK252.out 0).trans rfl,(zb BK252.out 1).trans rfl,(zb BK252.out 2).trans rfl,(zb BK252.out 3).trans rfl,(zb BK252.out 4).trans rfl,(zb BK252.out 5).trans rfl,(zb BK252.out 6).trans rfl,((HB.out.cell (World.block_lt_of_cell? w _ hw258_0)).trans hw258_0),((HB.out.cell (World.block_lt_of_cell? w _ hw258_1)).trans hw258_1),((HB.out.cell (World.block_lt_of_cell? w _ hw258_2)).trans hw258_2),((HB.out.cell (World.block_lt_of_cell? w _ hw258_3)).trans hw258_3),((HB.out.cell (World.block_lt_of_cell? w _ hw258_4)).trans hw258_4),((HB.out.cell (World.block_lt_of_cell? w _ hw258_5)).trans hw258_5),((HB.out.cell (World.block_lt_of_cell? w _ hw258_6)).trans hw258_6)⟩ (fun hHeld => ?_);refine zaL zj.tab12 zj.bits12 (fun HT_ HW_ => ?_)
               generalize wc.drew = w42 at BK249 BK252 HB HR258_3 HR258_4 hx258_0 hx258_1 hx258_2 hx258_3 hx258_4 hx258_5 hx258_6 hHeld ⊢
               refine zv (i := 0) (N := some 64) (v := ?_) (a' := ?_) #[true,false,false,false,false,false,false,false,false,false,false,false,false,false,false] rfl rfl (zn HT_.out (by kernel_rfl)) (fun _ _ _ h => h) (Or.inl ⟨by rfl,?_⟩) ?_ ?_
               rotate_left
               ·intro w'
                go_simp
                with_reducible rfl
               rotate_left
               ·simp only [Act.put,List.setIfInBounds_toArray,List.set_cons_zero,List.set_cons_succ,zk,zm]
                rfl
               refine zv (i := 1) (N := some 65) (v := ?_) (a' := ?_) #[true,true,false,false,false,false,false,false,false,false,false,false,false,false,false] rfl rfl (zn HT_.out (by kernel_rfl)) (fun _ _ _ h => h) (Or.inl ⟨by rfl,?_⟩) ?_ ?_
               rotate_left
               ·intro w'
                go_simp
                with_reducible rfl
               rotate_left
               ·simp only [Act.put,List.setIfInBounds_toArray,List.set_cons_zero,List.set_cons_succ,zk,zm]
                rfl
               refine zv (i := 2) (N := some 66) (v := ?_) (a' := ?_) #[true,true,true,false,false,false,false,false,false,false,false,false,false,false,false] rfl rfl (zn HT_.out (by kernel_rfl)) (fun _ _ _ h => h) (Or.inl ⟨by rfl,?_⟩) ?_ ?_
               rotate_left
               ·intro w'
                go_simp
                with_reducible rfl
               rotate_left
               ·simp only [Act.put,List.setIfInBounds_toArray,List.set_cons_zero,List.set_cons_succ,zk,zm]
                rfl
               refine zv (i := 3) (N := some 67) (v := ?_) (a' := ?_) #[true,true,true,true,false,false,false,false,false,false,false,false,false,false,false] rfl rfl (zn HT_.out (by kernel_rfl)) (fun _ _ _ h => h) (Or.inl ⟨by rfl,?_⟩) ?_ ?_
               rotate_left
               ·intro w'
                go_simp
                with_reducible rfl
               rotate_left
               ·simp only [Act.put,List.setIfInBounds_toArray,List.set_cons_zero,List.set_cons_succ,zk,zm]
                rfl
               refine zv (i := 5) (N := some 69) (v := ?_) (a' := ?_) #[true,true,true,true,false,true,false,false,false,false,false,false,false,false,false] rfl rfl (zn HT_.out (by kernel_rfl)) (fun _ _ _ h => h) (Or.inl ⟨by rfl,?_⟩) ?_ ?_
               rotate_left
               ·intro w'
                go_simp
                with_reducible rfl
               rotate_left
               ·simp only [Act.put,List.setIfInBounds_toArray,List.set_cons_zero,List.set_cons_succ,zk,zm]
                rfl
               refine zv (i := 6) (N := some 70) (v := ?_) (a' := ?_) #[true,true,true,true,false,true,true,false,false,false,false,false,false,false,false] rfl rfl (zn HT_.out (by kernel_rfl)) (fun _ _ _ h => h) (Or.inl ⟨by rfl,?_⟩) ?_ ?_
               rotate_left
               ·intro w'
                go_simp
                with_reducible rfl
               rotate_left
               ·simp only [Act.put,List.setIfInBounds_toArray,List.set_cons_zero,List.set_cons_succ,zk,zm]
                rfl
               refine zv (i := 10) (N := some 74) (v := ?_) (a' := ?_) #[true,true,true,true,false,true,true,false,false,false,true,false,false,false,false] rfl rfl (zn HT_.out (by kernel_rfl)) (fun _ _ _ h => h) (Or.inl ⟨by rfl,?_⟩) ?_ ?_
               rotate_left
               ·intro w'
                go_simp
                with_reducible rfl
               rotate_left
               ·simp only [Act.put,List.setIfInBounds_toArray,List.set_cons_zero,List.set_cons_succ,zk,zm]
                rfl
               refine take_ (i := 4) (N := some 68) (v := ?_) (a' := ?_) #[true,true,true,true,true,true,true,false,false,false,true,false,false,false,false] rfl rfl (zY HT_.out HW_.out (by kernel_rfl)) (fun _ _ _ h => h) (Or.inl ⟨by rfl,?_⟩) hHeld ?_ ?_
               rotate_left
               ·rintro w' ⟨s0,s1,s2,s3,s4,s5,s6,s7,s8,s9,s10,s11,s12,s13,s14,s15,s16⟩
                go_simp
                with_reducible rfl
               rotate_left
               ·simp only [Act.put,List.setIfInBounds_toArray,List.set_cons_zero,List.set_cons_succ,zk,zm]
                rfl
               refine zv (i := 7) (N := some 71) (v := ?_) (a' := ?_) #[true,true,true,true,true,true,true,true,false,false,true,false,false,false,false] rfl rfl (zn HT_.out (by kernel_rfl)) (fun _ _ _ h => h) (Or.inl ⟨by rfl,?_⟩) ?_ ?_
               rotate_left
               ·intro w'
                go_simp
                with_reducible rfl
               rotate_left
               ·simp only [Act.put,List.setIfInBounds_toArray,List.set_cons_zero,List.set_cons_succ,zk,zm]
                rfl
               refine zv (i := 8) (N := some 72) (v := ?_) (a' := ?_) #[true,true,true,true,true,true,true,true,true,false,true,false,false,false,false] rfl rfl (zn HT_.out (by kernel_rfl)) (fun _ _ _ h => h) (Or.inl ⟨by rfl,?_⟩) ?_ ?_
               rotate_left
               ·intro w'
                go_simp
                with_reducible rfl
               rotate_left
               ·simp only [Act.put,List.setIfInBounds_toArray,List.set_cons_zero,List.set_cons_succ,zk,zm]
                rfl
               refine take_ (i := 9) (N := some 73) (v := ?_) (a' := ?_) #[true,true,true,true,true,true,true,true,true,true,true,false,false,false,false] rfl rfl (zY HT_.out HW_.out (by kernel_rfl)) (fun _ _ _ h => h) (Or.inl ⟨by rfl,?_⟩) hHeld ?_ ?_
               rotate_left
               ·rintro w' ⟨s0,s1,s2,s3,s4,s5,s6,s7,s8,s9,s10,s11,s12,s13,s14,s15,s16⟩
                go_simp
                with_reducible rfl
               rotate_left
               ·simp only [Act.put,List.setIfInBounds_toArray,List.set_cons_zero,List.set_cons_succ,zk,zm]
                rfl
               refine take_ (i := 11) (N := some 75) (v := ?_) (a' := ?_) #[true,true,true,true,true,true,true,true,true,true,true,true,false,false,false] rfl rfl (zY HT_.out HW_.out (by kernel_rfl)) (fun _ _ _ h => h) (Or.inl ⟨by rfl,?_⟩) hHeld ?_ ?_
               rotate_left
               ·rintro w' ⟨s0,s1,s2,s3,s4,s5,s6,s7,s8,s9,s10,s11,s12,s13,s14,s15,s16⟩
                go_simp
                with_reducible rfl
               rotate_left
               ·simp only [Act.put,List.setIfInBounds_toArray,List.set_cons_zero,List.set_cons_succ,zk,zm]
                rfl
               refine zb0 (i := 12) (N := some 76) #[true,true,true,true,true,true,true,true,true,true,true,true,true,false,false] rfl rfl (zaY HT_.out (by kernel_rfl)) (by decide) (fun K hK => ?_)
               refine zbn Try.func34 (by kernel_rfl) rfl #[.agg #[.int .i64 ((zd l0_2 (ji37)).f1.f0),.int .i64 ((zd l0_2 (ji37)).f1.f1),.slice A258_3 ((zd l0_2 (ji37)).f1.f2).length c258_3,.slice A258_4 ((zd l0_2 (ji37)).f1.f3).length c258_4,.int .i64 ((zd l0_2 (ji37)).f1.f4.f0),.int .i64 ((zd l0_2 (ji37)).f1.f4.f1)],.agg #[.int .i64 ((zd l0_2 x4_2).f1.f0),.int .i64 ((zd l0_2 x4_2).f1.f1),.slice A251_3 ((zd l0_2 x4_2).f1.f2).length c251_3,.slice A251_4 ((zd l0_2 x4_2).f1.f3).length c251_4,.int .i64 ((zd l0_2 x4_2).f1.f4.f0),.int .i64 ((zd l0_2 x4_2).f1.f4.f1)]] (by rfl) rfl rfl (by (try simp only [List.map_toArray,List.map_cons,List.map_nil]);first | done | (simp only [hji37];rfl) | rfl | (simp only [List.length_drop,List.length_take];rfl)) ?_
               with_reducible refine (zaA.calls ((zd l0_2 (ji37)).f1.f0) ((zd l0_2 (ji37)).f1.f1) _ _ ((zd l0_2 (ji37)).f1.f2) _ _ ((zd l0_2 (ji37)).f1.f3) ((zd l0_2 (ji37)).f1.f4.f0) ((zd l0_2 (ji37)).f1.f4.f1) ((zd l0_2 x4_2).f1.f0) ((zd l0_2 x4_2).f1.f1) _ _ ((zd l0_2 x4_2).f1.f2) _ _ ((zd l0_2 x4_2).f1.f3) ((zd l0_2 x4_2).f1.f4.f0) ((zd l0_2 x4_2).f1.f4.f1) true _ ?side1 ?side2 ?side3 ?side4 ?side5 ?side6 ?side7 ?side8 A40.out).mono ?_
               (case side1 => exact hKq (Kd.C_below HR258_3.out HB.out))
               (case side2 => exact HC258_3.out)
               (case side3 => exact hKq (Kd.C_below HR258_4.out HB.out))
               (case side4 => exact HC258_4.out)
               (case side5 => exact hKq (Kd.C_below HR251_3.out HB.out))
               (case side6 => exact HC251_3.out)
               (case side7 => exact hKq (Kd.C_below HR251_4.out HB.out))
               (case side8 => exact HC251_4.out)
               rintro e w43 ⟨rfl,hb⟩
               refine ⟨_,rfl,?_⟩
               have n0_ := za.mk (hbq BK249.out hb)
               have n1_ := za.mk (hbq BK252.out hb)
               have n2_ := za.mk (ze hCq hb)
               clear BK249
               clear BK252
               clear HB
               have BK249 := n0_
               have BK252 := n1_
               have HB := n2_
               clear n0_ n1_ n2_
               (try clear hb)
               (try clear hb2)
               (try clear hk)
               (try clear hi)
               refine hK.out _ _ ⟨(zb BK249.out 0).trans rfl,(zb BK249.out 1).trans rfl,(zb BK249.out 2).trans rfl,(zb BK252.out 0).trans rfl,(zb BK252.out 1).trans rfl,(zb BK252.out 2).trans rfl,(zb BK252.out 3).trans rfl,(zb BK252.out 4).trans rfl,(zb BK252.out 5).trans rfl,(zb BK252.out 6).trans rfl,((HB.out.cell (World.block_lt_of_cell? w _ hw258_0)).trans hw258_0),((HB.out.cell (World.block_lt_of_cell? w _ hw258_1)).trans hw258_1),((HB.out.cell (World.block_lt_of_cell? w _ hw258_2)).trans hw258_2),((HB.out.cell (World.block_lt_of_cell? w _ hw258_3)).trans hw258_3),((HB.out.cell (World.block_lt_of_cell? w _ hw258_4)).trans hw258_4),((HB.out.cell (World.block_lt_of_cell? w _ hw258_5)).trans hw258_5),((HB.out.cell (World.block_lt_of_cell? w _ hw258_6)).trans hw258_6)⟩ (fun hHeld => ?_)
               clear hK K
               refine zbo (a' := ?_) ?_ ?_
               rotate_left
               ·show Act.put _ (some 76) _ = _
                simp only [Act.put,List.setIfInBounds_toArray,List.set_cons_zero,List.set_cons_succ,zk,zm]
                rfl
               refine zv (i := 13) (N := some 77) (v := ?_) (a' := ?_) #[true,true,true,true,true,true,true,true,true,true,true,true,true,true,false] rfl rfl (zn HT_.out (by kernel_rfl)) (fun _ _ _ h => h) (Or.inl ⟨by rfl,?_⟩) ?_ ?_
               rotate_left
               ·intro w'
                go_simp
                with_reducible rfl
               rotate_left
               ·simp only [Act.put,List.setIfInBounds_toArray,List.set_cons_zero,List.set_cons_succ,zk,zm]
                rfl
               refine zv (i := 14) (N := some 78) (v := ?_) (a' := ?_) #[true,true,true,true,true,true,true,true,true,true,true,true,true,true,true] rfl rfl (zn HT_.out (by kernel_rfl)) (fun _ _ _ h => h) (Or.inl ⟨by rfl,?_⟩) ?_ ?_
               rotate_left
               ·intro w'
                go_simp
                with_reducible rfl
               rotate_left
               ·simp only [Act.put,List.setIfInBounds_toArray,List.set_cons_zero,List.set_cons_succ,zk,zm]
                rfl
               refine zbF (zaR HT_.out (by kernel_rfl)) ?_
               try go_wp2
               go_roundg kj12
               case measure => have := HJ2.out;have := HK2.out;have := HJ12.out;omega
               case rel => exact ⟨(wrap64 (x4_2 + 1)),(hDq),H',⟨by have := HJ2.out;have := HK2.out;have := HJ12.out;omega⟩,⟨hGq BK249.out⟩,⟨by repeat (first | (with_reducible first | exact HB.out | apply zl | apply zi | apply zq | refine zo ?_ GE249.out | refine zo ?_ GE252.out) | exact HB.out)⟩⟩
              ·replace c41 := Bool.eq_false_iff.mpr c41
               subst c41
               have H1 : (some false) = some r := by rw [if_neg (show ¬ (false = true) by decide)] at H;exact H
               clear H
               have H := H1
               clear H1
               obtain rfl := Option.some.inj H
               try go_wp2
               have n0_ := za.mk (zam BK249.out)
               have n1_ := za.mk (zam BK252.out)
               have n2_ := za.mk (zq HB.out)
               clear BK249
               clear BK252
               clear HB
               have BK249 := n0_
               have BK252 := n1_
               have HB := n2_
               clear n0_ n1_ n2_
               have p258 : 0 ≤ ((ji37) : Int) := hFq
               have q258 : (ji37) < (l0_2.length : Int) := hFq
               obtain ⟨ad258,A258_3,c258_3,A258_4,c258_4,e258,hx258_0,hx258_1,hx258_2,hx258_3,hx258_4,hx258_5,hx258_6,hl258_3,hi258_3,hl258_4,hi258_4⟩ := zaH HR0_2.out (ji37) p258 q258
               have hw258_6 := hx258_6
               have hw258_5 := hx258_5
               have hw258_4 := hx258_4
               have hw258_3 := hx258_3
               have hw258_2 := hx258_2
               have hw258_1 := hx258_1
               have hw258_0 := hx258_0
               obtain rfl : ad251 = ad258 := (by injection e258)
               replace hx258_0 := (HB.out.cell (World.block_lt_of_cell? w _ hx258_0)).trans hx258_0
               replace hx258_1 := (HB.out.cell (World.block_lt_of_cell? w _ hx258_1)).trans hx258_1
               replace hx258_2 := (HB.out.cell (World.block_lt_of_cell? w _ hx258_2)).trans hx258_2
               replace hx258_3 := (HB.out.cell (World.block_lt_of_cell? w _ hx258_3)).trans hx258_3
               replace hx258_4 := (HB.out.cell (World.block_lt_of_cell? w _ hx258_4)).trans hx258_4
               replace hx258_5 := (HB.out.cell (World.block_lt_of_cell? w _ hx258_5)).trans hx258_5
               replace hx258_6 := (HB.out.cell (World.block_lt_of_cell? w _ hx258_6)).trans hx258_6
               have HR258_3 := za.mk hi258_3
               have HC258_3 := za.mk hl258_3
               clear hi258_3 hl258_3
               have HR258_4 := za.mk hi258_4
               have HC258_4 := za.mk hl258_4
               clear hi258_4 hl258_4
               replace p258 := eq_true p258
               replace q258 := eq_true q258
               refine zbD (n := 15) (S := fun w' => w'.cell? ⟨gb249,0,none⟩ = some (.int .i64 a0_0) ∧ w'.cell? ⟨gb249,1,none⟩ = some (.int .i64 a0_1) ∧ w'.cell? ⟨gb249,2,none⟩ = some (.slice (some ad251) l0_2.length c0_2) ∧ w'.cell? ⟨gb252,0,none⟩ = some (.string ((zd l0_2 x4_2).f0)) ∧ w'.cell? ⟨gb252,1,none⟩ = some (.int .i64 ((zd l0_2 x4_2).f1.f0)) ∧ w'.cell? ⟨gb252,2,none⟩ = some (.int .i64 ((zd l0_2 x4_2).f1.f1)) ∧ w'.cell? ⟨gb252,3,none⟩ = some (.slice A251_3 ((zd l0_2 x4_2).f1.f2).length c251_3) ∧ w'.cell? ⟨gb252,4,none⟩ = some (.slice A251_4 ((zd l0_2 x4_2).f1.f3).length c251_4) ∧ w'.cell? ⟨gb252,5,none⟩ = some (.int .i64 ((zd l0_2 x4_2).f1.f4.f0)) ∧ w'.cell? ⟨gb252,6,none⟩ = some (.int .i64 ((zd l0_2 x4_2).f1.f4.f1)) ∧ w'.cell? (ad251.add (((ji37)).toNat * 7)) = some (.string ((zd l0_2 (ji37)).f0)) ∧ w'.cell? ⟨(ad251.add (((ji37)).toNat * 7)).block,(ad251.add (((ji37)).toNat * 7)).off + 1,none⟩ = some (.int .i64 ((zd l0_2 (ji37)).f1.f0)) ∧ w'.cell? ⟨(ad251.add (((ji37)).toNat * 7)).block,(ad251.add (((ji37)).toNat * 7)).off + 2,none⟩ = some (.int .i64 ((zd l0_2 (ji37)).f1.f1)) ∧ w'.cell? ⟨(ad251.add (((ji37)).toNat * 7)).block,(ad251.add (((ji37)).toNat * 7)).off + 3,none⟩ = some (.slice A258_3 ((zd l0_2 (ji37)).f1.f2).length c258_3) ∧ w'.cell? ⟨(ad251.add (((ji37)).toNat * 7)).block,(ad251.add (((ji37)).toNat * 7)).off + 4,none⟩ = some (.slice A258_4 ((zd l0_2 (ji37)).f1.f3).length c258_4) ∧ w'.cell? ⟨(ad251.add (((ji37)).toNat * 7)).block,(ad251.add (((ji37)).toNat * 7)).off + 5,none⟩ = some (.int .i64 ((zd l0_2 (ji37)).f1.f4.f0)) ∧ w'.cell? ⟨(ad251.add (((ji37)).toNat * 7)).block,(ad251.add (((ji37)).toNat * 7)).off + 6,none⟩ = some (.int .i64 ((zd l0_2 (ji37)).f1.f4.f1))) (ds := []) #[false,false,false,false,false,false,false,false,false,false,false,false,false,false,false] (by kernel_rfl) rfl rfl ⟨(zb BK249.out 0).trans rfl,(zb BK249.out 1).trans rfl,(zb BK249.out 2).trans rfl,(zb BK252.out 0).trans rfl,(zb BK252.out 1).trans rfl,(zb BK252.out 2).trans rfl,(zb BK252.out 3).trans rfl,(zb BK252.out 4).trans rfl,(zb BK252.out 5).trans rfl,(zb BK252.out 6).trans rfl,((HB.out.cell (World.block_lt_of_cell? w _ hw258_0)).trans hw258_0),((HB.out.cell (World.block_lt_of_cell? w _ hw258_1)).trans hw258_1),((HB.out.cell (World.block_lt_of_cell? w _ hw258_2)).trans hw258_2),((HB.out.cell (World.block_lt_of_cell? w _ hw258_3)).trans hw258_3),((HB.out.cell (World.block_lt_of_cell? w _ hw258_4)).trans hw258_4),((HB.out.cell (World.block_lt_of_cell? w _ hw258_5)).trans hw258_5),((HB.out.cell (World.block_lt_of_cell? w _ hw258_6)).trans hw258_6)⟩ (fun hHeld => ?_);refine zaL zj.tab12 zj.bits12 (fun HT_ HW_ => ?_)
               generalize wc.drew = w44 at BK249 BK252 HB HR258_3 HR258_4 hx258_0 hx258_1 hx258_2 hx258_3 hx258_4 hx258_5 hx258_6 hHeld ⊢
               refine zv (i := 0) (N := some 64) (v := ?_) (a' := ?_) #[true,false,false,false,false,false,false,false,false,false,false,false,false,false,false] rfl rfl (zn HT_.out (by kernel_rfl)) (fun _ _ _ h => h) (Or.inl ⟨by rfl,?_⟩) ?_ ?_
               rotate_left
               ·intro w'
                go_simp
                with_reducible rfl
               rotate_left
               ·simp only [Act.put,List.setIfInBounds_toArray,List.set_cons_zero,List.set_cons_succ,zk,zm]
                rfl
               refine zv (i := 1) (N := some 65) (v := ?_) (a' := ?_) #[true,true,false,false,false,false,false,false,false,false,false,false,false,false,false] rfl rfl (zn HT_.out (by kernel_rfl)) (fun _ _ _ h => h) (Or.inl ⟨by rfl,?_⟩) ?_ ?_
               rotate_left
               ·intro w'
                go_simp
                with_reducible rfl
               rotate_left
               ·simp only [Act.put,List.setIfInBounds_toArray,List.set_cons_zero,List.set_cons_succ,zk,zm]
                rfl
               refine zv (i := 2) (N := some 66) (v := ?_) (a' := ?_) #[true,true,true,false,false,false,false,false,false,false,false,false,false,false,false] rfl rfl (zn HT_.out (by kernel_rfl)) (fun _ _ _ h => h) (Or.inl ⟨by rfl,?_⟩) ?_ ?_
               rotate_left
               ·intro w'
                go_simp
                with_reducible rfl
               rotate_left
               ·simp only [Act.put,List.setIfInBounds_toArray,List.set_cons_zero,List.set_cons_succ,zk,zm]
                rfl
               refine zv (i := 3) (N := some 67) (v := ?_) (a' := ?_) #[true,true,true,true,false,false,false,false,false,false,false,false,false,false,false] rfl rfl (zn HT_.out (by kernel_rfl)) (fun _ _ _ h => h) (Or.inl ⟨by rfl,?_⟩) ?_ ?_
               rotate_left
               ·intro w'
                go_simp
                with_reducible rfl
               rotate_left
               ·simp only [Act.put,List.setIfInBounds_toArray,List.set_cons_zero,List.set_cons_succ,zk,zm]
                rfl
               refine zv (i := 5) (N := some 69) (v := ?_) (a' := ?_) #[true,true,true,true,false,true,false,false,false,false,false,false,false,false,false] rfl rfl (zn HT_.out (by kernel_rfl)) (fun _ _ _ h => h) (Or.inl ⟨by rfl,?_⟩) ?_ ?_
               rotate_left
               ·intro w'
                go_simp
                with_reducible rfl
               rotate_left
               ·simp only [Act.put,List.setIfInBounds_toArray,List.set_cons_zero,List.set_cons_succ,zk,zm]
                rfl
               refine zv (i := 6) (N := some 70) (v := ?_) (a' := ?_) #[true,true,true,true,false,true,true,false,false,false,false,false,false,false,false] rfl rfl (zn HT_.out (by kernel_rfl)) (fun _ _ _ h => h) (Or.inl ⟨by rfl,?_⟩) ?_ ?_
               rotate_left
               ·intro w'
                go_simp
                with_reducible rfl
               rotate_left
               ·simp only [Act.put,List.setIfInBounds_toArray,List.set_cons_zero,List.set_cons_succ,zk,zm]
                rfl
               refine zv (i := 10) (N := some 74) (v := ?_) (a' := ?_) #[true,true,true,true,false,true,true,false,false,false,true,false,false,false,false] rfl rfl (zn HT_.out (by kernel_rfl)) (fun _ _ _ h => h) (Or.inl ⟨by rfl,?_⟩) ?_ ?_
               rotate_left
               ·intro w'
                go_simp
                with_reducible rfl
               rotate_left
               ·simp only [Act.put,List.setIfInBounds_toArray,List.set_cons_zero,List.set_cons_succ,zk,zm]
                rfl
               refine take_ (i := 4) (N := some 68) (v := ?_) (a' := ?_) #[true,true,true,true,true,true,true,false,false,false,true,false,false,false,false] rfl rfl (zY HT_.out HW_.out (by kernel_rfl)) (fun _ _ _ h => h) (Or.inl ⟨by rfl,?_⟩) hHeld ?_ ?_
               rotate_left
               ·rintro w' ⟨s0,s1,s2,s3,s4,s5,s6,s7,s8,s9,s10,s11,s12,s13,s14,s15,s16⟩
                go_simp
                with_reducible rfl
               rotate_left
               ·simp only [Act.put,List.setIfInBounds_toArray,List.set_cons_zero,List.set_cons_succ,zk,zm]
                rfl
               refine zv (i := 7) (N := some 71) (v := ?_) (a' := ?_) #[true,true,true,true,true,true,true,true,false,false,true,false,false,false,false] rfl rfl (zn HT_.out (by kernel_rfl)) (fun _ _ _ h => h) (Or.inl ⟨by rfl,?_⟩) ?_ ?_
               rotate_left
               ·intro w'
                go_simp
                with_reducible rfl
               rotate_left
               ·simp only [Act.put,List.setIfInBounds_toArray,List.set_cons_zero,List.set_cons_succ,zk,zm]
                rfl
               refine zv (i := 8) (N := some 72) (v := ?_) (a' := ?_) #[true,true,true,true,true,true,true,true,true,false,true,false,false,false,false] rfl rfl (zn HT_.out (by kernel_rfl)) (fun _ _ _ h => h) (Or.inl ⟨by rfl,?_⟩) ?_ ?_
               rotate_left
               ·intro w'
                go_simp
                with_reducible rfl
               rotate_left
               ·simp only [Act.put,List.setIfInBounds_toArray,List.set_cons_zero,List.set_cons_succ,zk,zm]
                rfl
               refine take_ (i := 9) (N := some 73) (v := ?_) (a' := ?_) #[true,true,true,true,true,true,true,true,true,true,true,false,false,false,false] rfl rfl (zY HT_.out HW_.out (by kernel_rfl)) (fun _ _ _ h => h) (Or.inl ⟨by rfl,?_⟩) hHeld ?_ ?_
               rotate_left
               ·rintro w' ⟨s0,s1,s2,s3,s4,s5,s6,s7,s8,s9,s10,s11,s12,s13,s14,s15,s16⟩
                go_simp
                with_reducible rfl
               rotate_left
               ·simp only [Act.put,List.setIfInBounds_toArray,List.set_cons_zero,List.set_cons_succ,zk,zm]
                rfl
               refine take_ (i := 11) (N := some 75) (v := ?_) (a' := ?_) #[true,true,true,true,true,true,true,true,true,true,true,true,false,false,false] rfl rfl (zY HT_.out HW_.out (by kernel_rfl)) (fun _ _ _ h => h) (Or.inl ⟨by rfl,?_⟩) hHeld ?_ ?_
               rotate_left
               ·rintro w' ⟨s0,s1,s2,s3,s4,s5,s6,s7,s8,s9,s10,s11,s12,s13,s14,s15,s16⟩
                go_simp
                with_reducible rfl
               rotate_left
               ·simp only [Act.put,List.setIfInBounds_toArray,List.set_cons_zero,List.set_cons_succ,zk,zm]
                rfl
               refine zb0 (i := 12) (N := some 76) #[true,true,true,true,true,true,true,true,true,true,true,true,true,false,false] rfl rfl (zaY HT_.out (by kernel_rfl)) (by decide) (fun K hK => ?_)
               refine zbn Try.func34 (by kernel_rfl) rfl #[.agg #[.int .i64 ((zd l0_2 (ji37)).f1.f0),.int .i64 ((zd l0_2 (ji37)).f1.f1),.slice A258_3 ((zd l0_2 (ji37)).f1.f2).length c258_3,.slice A258_4 ((zd l0_2 (ji37)).f1.f3).length c258_4,.int .i64 ((zd l0_2 (ji37)).f1.f4.f0),.int .i64 ((zd l0_2 (ji37)).f1.f4.f1)],.agg #[.int .i64 ((zd l0_2 x4_2).f1.f0),.int .i64 ((zd l0_2 x4_2).f1.f1),.slice A251_3 ((zd l0_2 x4_2).f1.f2).length c251_3,.slice A251_4 ((zd l0_2 x4_2).f1.f3).length c251_4,.int .i64 ((zd l0_2 x4_2).f1.f4.f0),.int .i64 ((zd l0_2 x4_2).f1.f4.f1)]] (by rfl) rfl rfl (by (try simp only [List.map_toArray,List.map_cons,List.map_nil]);first | done | (simp only [hji37];rfl) | rfl | (simp only [List.length_drop,List.length_take];rfl)) ?_
               with_reducible refine (zaA.calls ((zd l0_2 (ji37)).f1.f0) ((zd l0_2 (ji37)).f1.f1) _ _ ((zd l0_2 (ji37)).f1.f2) _ _ ((zd l0_2 (ji37)).f1.f3) ((zd l0_2 (ji37)).f1.f4.f0) ((zd l0_2 (ji37)).f1.f4.f1) ((zd l0_2 x4_2).f1.f0) ((zd l0_2 x4_2).f1.f1) _ _ ((zd l0_2 x4_2).f1.f2) _ _ ((zd l0_2 x4_2).f1.f3) ((zd l0_2 x4_2).f1.f4.f0) ((zd l0_2 x4_2).f1.f4.f1) false _ ?side1 ?side2 ?side3 ?side4 ?side5 ?side6 ?side7 ?side8 A40.out).mono ?_
               (case side1 => exact hKq (Kd.C_below HR258_3.out HB.out))
               (case side2 => exact HC258_3.out)
               (case side3 => exact hKq (Kd.C_below HR258_4.out HB.out))
               (case side4 => exact HC258_4.out)
               (case side5 => exact hKq (Kd.C_below HR251_3.out HB.out))
               (case side6 => exact HC251_3.out)
               (case side7 => exact hKq (Kd.C_below HR251_4.out HB.out))
               (case side8 => exact HC251_4.out)
               rintro e w45 ⟨rfl,hb⟩
               refine ⟨_,rfl,?_⟩
               have n0_ := za.mk (hbq BK249.out hb)
               have n1_ := za.mk (hbq BK252.out hb)
               have n2_ := za.mk (ze hCq hb)
               clear BK249
               clear BK252
               clear HB
               have BK249 := n0_
               have BK252 := n1_
               have HB := n2_
               clear n0_ n1_ n2_
               (try clear hb)
               (try clear hb2)
               (try clear hk)
               (try clear hi)
               refine hK.out _ _ ⟨(zb BK249.out 0).trans rfl,(zb BK249.out 1).trans rfl,(zb BK249.out 2).trans rfl,(zb BK252.out 0).trans rfl,(zb BK252.out 1).trans rfl,(zb BK252.out 2).trans rfl,(zb BK252.out 3).trans rfl,(zb BK252.out 4).trans rfl,(zb BK252.out 5).trans rfl,(zb BK252.out 6).trans rfl,((HB.out.cell (World.block_lt_of_cell? w _ hw258_0)).trans hw258_0),((HB.out.cell (World.block_lt_of_cell? w _ hw258_1)).trans hw258_1),((HB.out.cell (World.block_lt_of_cell? w _ hw258_2)).trans hw258_2),((HB.out.cell (World.block_lt_of_cell? w _ hw258_3)).trans hw258_3),((HB.out.cell (World.block_lt_of_cell? w _ hw258_4)).trans hw258_4),((HB.out.cell (World.block_lt_of_cell? w _ hw258_5)).trans hw258_5),((HB.out.cell (World.block_lt_of_cell? w _ hw258_6)).trans hw258_6)⟩ (fun hHeld => ?_)
               clear hK K
               refine zbo (a' := ?_) ?_ ?_
               rotate_left
               ·show Act.put _ (some 76) _ = _
                simp only [Act.put,List.setIfInBounds_toArray,List.set_cons_zero,List.set_cons_succ,zk,zm]
                rfl
               refine zv (i := 13) (N := some 77) (v := ?_) (a' := ?_) #[true,true,true,true,true,true,true,true,true,true,true,true,true,true,false] rfl rfl (zn HT_.out (by kernel_rfl)) (fun _ _ _ h => h) (Or.inl ⟨by rfl,?_⟩) ?_ ?_
               rotate_left
               ·intro w'
                go_simp
                with_reducible rfl
               rotate_left
               ·simp only [Act.put,List.setIfInBounds_toArray,List.set_cons_zero,List.set_cons_succ,zk,zm]
                rfl
               refine zv (i := 14) (N := some 78) (v := ?_) (a' := ?_) #[true,true,true,true,true,true,true,true,true,true,true,true,true,true,true] rfl rfl (zn HT_.out (by kernel_rfl)) (fun _ _ _ h => h) (Or.inl ⟨by rfl,?_⟩) ?_ ?_
               rotate_left
               ·intro w'
                go_simp
                with_reducible rfl
               rotate_left
               ·simp only [Act.put,List.setIfInBounds_toArray,List.set_cons_zero,List.set_cons_succ,zk,zm]
                rfl
               refine zbF (zaR HT_.out (by kernel_rfl)) ?_
               try go_wp2
               go_ret
               exact ⟨by first | rfl | (simp [zca,zcb] <;> rfl) | (simp only [← hji37];first | rfl | (simp [zca,zcb] <;> rfl)) | (simp [*,zca,zcb] <;> rfl),hCq⟩
             ·rw [if_neg c39] at H
              exact absurd H (by simp)
            ·rw [if_neg c38] at H
             exact absurd H (by simp)
           ·rw [if_neg c36] at H
            have c36b0 : decide (0 < x4_2) = false := decide_eq_false c36
            clear c36
            have H' := za.mk H
            clear H
            try go_wp2
            have n0_ := za.mk (zam BK249.out)
            have n1_ := za.mk (zam BK252.out)
            have n2_ := za.mk (zq HB.out)
            clear BK249
            clear BK252
            clear HB
            have BK249 := n0_
            have BK252 := n1_
            have HB := n2_
            clear n0_ n1_ n2_
            refine zbD (n := 15) (S := fun w' => True) (ds := []) #[false,false,false,false,false,false,false,false,false,false,false,false,false,false,false] (by kernel_rfl) rfl rfl trivial (fun hHeld => ?_);refine zaL zj.tab12 zj.bits12 (fun HT_ HW_ => ?_)
            generalize wc.drew = w46 at BK249 BK252 HB hHeld ⊢
            refine zv (i := 0) (N := some 64) (v := ?_) (a' := ?_) #[true,false,false,false,false,false,false,false,false,false,false,false,false,false,false] rfl rfl (zn HT_.out (by kernel_rfl)) (fun _ _ _ h => h) (Or.inl ⟨by rfl,?_⟩) ?_ ?_
            rotate_left
            ·intro w'
             go_simp
             with_reducible rfl
            rotate_left
            ·simp only [Act.put,List.setIfInBounds_toArray,List.set_cons_zero,List.set_cons_succ,zk,zm]
             rfl
            refine zv (i := 1) (N := some 65) (v := ?_) (a' := ?_) #[true,true,false,false,false,false,false,false,false,false,false,false,false,false,false] rfl rfl (zn HT_.out (by kernel_rfl)) (fun _ _ _ h => h) (Or.inl ⟨by rfl,?_⟩) ?_ ?_
            rotate_left
            ·intro w'
             go_simp
             with_reducible rfl
            rotate_left
            ·simp only [Act.put,List.setIfInBounds_toArray,List.set_cons_zero,List.set_cons_succ,zk,zm]
             rfl
            refine zv (i := 2) (N := some 66) (v := ?_) (a' := ?_) #[true,true,true,false,false,false,false,false,false,false,false,false,false,false,false] rfl rfl (zn HT_.out (by kernel_rfl)) (fun _ _ _ h => h) (Or.inl ⟨by rfl,?_⟩) ?_ ?_
            rotate_left
            ·intro w'
             go_simp
             with_reducible rfl
            rotate_left
            ·simp only [Act.put,List.setIfInBounds_toArray,List.set_cons_zero,List.set_cons_succ,zk,zm]
             rfl
            refine zv (i := 3) (N := some 67) (v := undef) (a' := ?_) #[true,true,true,true,false,false,false,false,false,false,false,false,false,false,false] rfl rfl (zn HT_.out (by kernel_rfl)) (fun _ _ _ h => h) (Or.inr ⟨by rfl,rfl⟩) ?_ ?_
            rotate_left
            ·simp only [Act.put,List.setIfInBounds_toArray,List.set_cons_zero,List.set_cons_succ,zk,zm]
             rfl
            refine zv (i := 4) (N := some 68) (v := undef) (a' := ?_) #[true,true,true,true,true,false,false,false,false,false,false,false,false,false,false] rfl rfl (zn HT_.out (by kernel_rfl)) (fun _ _ _ h => h) (Or.inr ⟨by rfl,rfl⟩) ?_ ?_
            rotate_left
            ·simp only [Act.put,List.setIfInBounds_toArray,List.set_cons_zero,List.set_cons_succ,zk,zm]
             rfl
            refine zv (i := 5) (N := some 69) (v := undef) (a' := ?_) #[true,true,true,true,true,true,false,false,false,false,false,false,false,false,false] rfl rfl (zn HT_.out (by kernel_rfl)) (fun _ _ _ h => h) (Or.inr ⟨by rfl,rfl⟩) ?_ ?_
            rotate_left
            ·simp only [Act.put,List.setIfInBounds_toArray,List.set_cons_zero,List.set_cons_succ,zk,zm]
             rfl
            refine zv (i := 6) (N := some 70) (v := undef) (a' := ?_) #[true,true,true,true,true,true,true,false,false,false,false,false,false,false,false] rfl rfl (zn HT_.out (by kernel_rfl)) (fun _ _ _ h => h) (Or.inr ⟨by rfl,rfl⟩) ?_ ?_
            rotate_left
            ·simp only [Act.put,List.setIfInBounds_toArray,List.set_cons_zero,List.set_cons_succ,zk,zm]
             rfl
            refine zv (i := 7) (N := some 71) (v := undef) (a' := ?_) #[true,true,true,true,true,true,true,true,false,false,false,false,false,false,false] rfl rfl (zn HT_.out (by kernel_rfl)) (fun _ _ _ h => h) (Or.inr ⟨by rfl,rfl⟩) ?_ ?_
            rotate_left
            ·simp only [Act.put,List.setIfInBounds_toArray,List.set_cons_zero,List.set_cons_succ,zk,zm]
             rfl
            refine zv (i := 8) (N := some 72) (v := undef) (a' := ?_) #[true,true,true,true,true,true,true,true,true,false,false,false,false,false,false] rfl rfl (zn HT_.out (by kernel_rfl)) (fun _ _ _ h => h) (Or.inr ⟨by rfl,rfl⟩) ?_ ?_
            rotate_left
            ·simp only [Act.put,List.setIfInBounds_toArray,List.set_cons_zero,List.set_cons_succ,zk,zm]
             rfl
            refine zv (i := 9) (N := some 73) (v := undef) (a' := ?_) #[true,true,true,true,true,true,true,true,true,true,false,false,false,false,false] rfl rfl (zn HT_.out (by kernel_rfl)) (fun _ _ _ h => h) (Or.inr ⟨by rfl,rfl⟩) ?_ ?_
            rotate_left
            ·simp only [Act.put,List.setIfInBounds_toArray,List.set_cons_zero,List.set_cons_succ,zk,zm]
             rfl
            refine zv (i := 10) (N := some 74) (v := undef) (a' := ?_) #[true,true,true,true,true,true,true,true,true,true,true,false,false,false,false] rfl rfl (zn HT_.out (by kernel_rfl)) (fun _ _ _ h => h) (Or.inr ⟨by rfl,rfl⟩) ?_ ?_
            rotate_left
            ·simp only [Act.put,List.setIfInBounds_toArray,List.set_cons_zero,List.set_cons_succ,zk,zm]
             rfl
            refine zv (i := 11) (N := some 75) (v := undef) (a' := ?_) #[true,true,true,true,true,true,true,true,true,true,true,true,false,false,false] rfl rfl (zn HT_.out (by kernel_rfl)) (fun _ _ _ h => h) (Or.inr ⟨by rfl,rfl⟩) ?_ ?_
            rotate_left
            ·simp only [Act.put,List.setIfInBounds_toArray,List.set_cons_zero,List.set_cons_succ,zk,zm]
             rfl
            refine zv (i := 12) (N := some 76) (v := undef) (a' := ?_) #[true,true,true,true,true,true,true,true,true,true,true,true,true,false,false] rfl rfl (zn HT_.out (by kernel_rfl)) (fun _ _ _ h => h) (Or.inr ⟨by rfl,rfl⟩) ?_ ?_
            rotate_left
            ·simp only [Act.put,List.setIfInBounds_toArray,List.set_cons_zero,List.set_cons_succ,zk,zm]
             rfl
            refine zv (i := 13) (N := some 77) (v := undef) (a' := ?_) #[true,true,true,true,true,true,true,true,true,true,true,true,true,true,false] rfl rfl (zn HT_.out (by kernel_rfl)) (fun _ _ _ h => h) (Or.inr ⟨by rfl,rfl⟩) ?_ ?_
            rotate_left
            ·simp only [Act.put,List.setIfInBounds_toArray,List.set_cons_zero,List.set_cons_succ,zk,zm]
             rfl
            refine zv (i := 14) (N := some 78) (v := ?_) (a' := ?_) #[true,true,true,true,true,true,true,true,true,true,true,true,true,true,true] rfl rfl (zn HT_.out (by kernel_rfl)) (fun _ _ _ h => h) (Or.inl ⟨by rfl,?_⟩) ?_ ?_
            rotate_left
            ·intro w'
             go_simp
             with_reducible rfl
            rotate_left
            ·simp only [Act.put,List.setIfInBounds_toArray,List.set_cons_zero,List.set_cons_succ,zk,zm]
             rfl
            refine zbF (zaR HT_.out (by kernel_rfl)) ?_
            try go_wp2
            go_roundg kj12
            case measure => have := HJ2.out;have := HK2.out;have := HJ12.out;omega
            case rel => exact ⟨(wrap64 (x4_2 + 1)),(hDq),H',⟨by have := HJ2.out;have := HK2.out;have := HJ12.out;omega⟩,⟨hGq BK249.out⟩,⟨by repeat (first | (with_reducible first | exact HB.out | apply zl | apply zi | apply zq | refine zo ?_ GE249.out | refine zo ?_ GE252.out) | exact HB.out)⟩⟩
       ·rw [if_neg c10] at H
        exact absurd H (by simp)
      ·rw [if_neg c9] at H
       have c9b0 : decide (x4_2 < (l0_2.length : Int)) = false := decide_eq_false c9
       clear c9
       obtain rfl := Option.some.inj H
       obtain ⟨hcz47_0,hcz47_1,hcz47_2,hfz47_0,hfz47_1,hfz47_2⟩ := hcq3 BK249.out
       go_wp2
       go_ret
       exact ⟨hHq,hCq⟩
end Go.Proofs.Ytklhjlaofkngcaa.Px