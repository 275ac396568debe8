/- Part 23 of 25 of the proof of the law DagOrder: what is proved is the statement at the end of the last part; its conditions are those of the given row. -/
import Derived.Test.YtklhjlaofkngcaaZDagOrderT
import Derived.Test.YtklhjlaofkngcaaZDagOrderV
namespace Go.Proofs.Ytklhjlaofkngcaa.Px
open Go.RowKit Go.Proofs.YtklhjlaofkngcaaW.PrintWords Go.Proofs.YtklhjlaofkngcaaW.PrintLast Go.Proofs.YtklhjlaofkngcaaW.PrintMore
attribute [local go_sem] zx zz zE zF zr zt zy zA
set_option linter.unusedVariables false
set_option linter.unusedSimpArgs false
mutual
def zd.j0 : Nat → Int → List (S30) → Int → Bool → Bool → Option (Bool)
 | 0,_,_,_,_,_ => none
 | k + 1,x0,x1,x2,x7,x29 => if x29 = true then (some x7) else (zd.l0 k x1 x2 0 x0 0 ([] : List (S36)) x0 0)
def zd.l0 : Nat → List (S30) → Int → Int → Int → Int → List (S36) → Int → Int → Option (Bool)
 | 0,_,_,_,_,_,_,_,_ => none
 | k + 1,x1,x2,x10,x345000,x345001,x345002,x346000,x346001 => if x10 < (x1.length : Int) then (if 0 ≤ x10 then ((zU.f x345000 x345001 x345002 ((zB x1 x10).f0) ((zB x1 x10).f1) ((zB x1 x10).f2) ((zB x1 x10).f3) ((zB x1 x10).f4.f0) ((zB x1 x10).f4.f1)).bind fun bt347 => (if bt347.2.2.2 = 0 then (zd.l0 k x1 x2 (wrap64 (x10 + 1)) bt347.1 bt347.2.1 bt347.2.2.1 x346000 x346001) else (some true))) else (none)) else (if (x1.length : Int) = 0 then (none) else (if (Int.tmod x2 (x1.length : Int)) < 0 then (zd.j2 k x1 0 x345000 x345001 x345002 x346000 x346001) else (zd.j2 k x1 (Int.tmod x2 (x1.length : Int)) x345000 x345001 x345002 x346000 x346001)))
def zd.j2 : Nat → List (S30) → Int → Int → Int → List (S36) → Int → Int → Option (Bool)
 | 0,_,_,_,_,_,_,_ => none
 | k + 1,x1,x13,x345000,x345001,x345002,x346000,x346001 => zd.l1 k x1 x13 0 x345000 x345001 x345002 x346000 x346001 ([] : List (S36))
def zd.l1 : Nat → List (S30) → Int → Int → Int → Int → List (S36) → Int → Int → List (S36) → Option (Bool)
 | 0,_,_,_,_,_,_,_,_,_ => none
 | k + 1,x1,x13,x14,x345000,x345001,x345002,x346000,x346001,x346002 => if x14 < (x1.length : Int) then (zd.l2 k x1 x13 x14 0 x345000 x345001 x345002 x346000 x346001 x346002) else ((zaF.f k x345000 x345001 x345002 x346000 x346001 x346002).bind fun t354 => (some t354))
def zd.l2 : Nat → List (S30) → Int → Int → Int → Int → Int → List (S36) → Int → Int → List (S36) → Option (Bool)
 | 0,_,_,_,_,_,_,_,_,_,_ => none
 | k + 1,x1,x13,x14,x15,x345000,x345001,x345002,x346000,x346001,x346002 => if x15 < (x1.length : Int) then (if (x1.length : Int) = 0 then (none) else (if 0 ≤ (Int.tmod (wrap64 (x15 + x13)) (x1.length : Int)) then (if (Int.tmod (wrap64 (x15 + x13)) (x1.length : Int)) < (x1.length : Int) then ((zU.f x346000 x346001 x346002 ((zB x1 (Int.tmod (wrap64 (x15 + x13)) (x1.length : Int))).f0) ((zB x1 (Int.tmod (wrap64 (x15 + x13)) (x1.length : Int))).f1) ((zB x1 (Int.tmod (wrap64 (x15 + x13)) (x1.length : Int))).f2) ((zB x1 (Int.tmod (wrap64 (x15 + x13)) (x1.length : Int))).f3) ((zB x1 (Int.tmod (wrap64 (x15 + x13)) (x1.length : Int))).f4.f0) ((zB x1 (Int.tmod (wrap64 (x15 + x13)) (x1.length : Int))).f4.f1)).bind fun bt356 => (zd.l2 k x1 x13 x14 (wrap64 (x15 + 1)) x345000 x345001 x345002 bt356.1 bt356.2.1 bt356.2.2.1)) else (none)) else (none))) else (zd.l1 k x1 x13 (wrap64 (x14 + 1)) x345000 x345001 x345002 x346000 x346001 x346002)
end
def zd.f (k : Nat) (a0 : Int) (l1 : List (S30)) (a2 : Int) : Option (Bool) := (zal.f).bind fun t343 => (if t343 = true then (if (l1.length : Int) > 40 then (zd.j0 k a0 l1 a2 t343 true) else (zd.j0 k a0 l1 a2 t343 ((l1.length : Int) == 0))) else (zd.j0 k a0 l1 a2 t343 true))
def zd.T9 : Bool × List (List Nat × List Nat) := (true,[([],[]),([],[]),([],[]),([1,2],[1,2]),([3],[3]),([0,4],[0,4]),([5],[5]),([6],[6]),([6],[6]),([],[]),([9,7,5,0,1,2,3,4,5,6,7,9],[7,9]),([8,10,0,1,2,3,4,5,6,7,8,9,10],[8])])
def zd.B9 : List Nat := [0,0,0,6,14,31,63,127,127,0,767,2047]
theorem zd.tab9 : zbj .any (zdu Try.f4 9) = zd.T9 := by kernel_rfl
theorem zd.bits9 : zba zd.T9.2 zd.B9 = true := by kernel_rfl
def zd.T22 : Bool × List (List Nat × List Nat) := (true,[([],[]),([],[]),([],[]),([],[]),([2,3],[2,3]),([],[]),([5],[5]),([4,6],[4,6]),([1,7],[1,7]),([8],[8]),([0,9],[0,9]),([10],[10]),([11],[11]),([11],[11]),([12,10,0,1,2,3,4,5,6,7,8,9,10,11,12],[12])])
def zd.B22 : List Nat := [0,0,0,0,12,0,32,124,254,510,1023,2047,4095,4095,8191]
theorem zd.tab22 : zbj .any (zdu Try.f4 22) = zd.T22 := by kernel_rfl
theorem zd.bits22 : zba zd.T22.2 zd.B22 = true := by kernel_rfl
set_option maxHeartbeats 8000000 in
set_option maxRecDepth 100000 in
theorem zd.calls (k : Nat) (a0 : Int) (A1 : Option Addr) (c1 : Nat) (l1 : List (S30)) (a2 : Int) (r : Bool) (w : World) (hr1 : Kd.C k30 w A1 l1.length l1) (hc1 : l1.length ≤ c1) (h : zd.f k a0 l1 a2 = some r) :
  Calls Try.prog 4 #[.int .i64 a0,.slice A1 l1.length c1,.int .i64 a2] w fun e w' => e = .returned (.bool r) ∧ Below w.heap.size w w' := by
 have hu24 := Try.underlying24
 have hu30 := Try.underlying30
 have HR1 := zb.mk hr1
 have HC1 := zb.mk hc1
 clear hr1 hc1
 have HB := zb.mk (Below.refl w.heap.size w)
 have H : ((zal.f).bind fun t343 => (if t343 = true then (if (l1.length : Int) > 40 then (zd.j0 k a0 l1 a2 t343 true) else (zd.j0 k a0 l1 a2 t343 ((l1.length : Int) == 0))) else (zd.j0 k a0 l1 a2 t343 true))) = some r := h
 clear h
 replace H := Option.bind_eq_some_iff.mp H
 obtain ⟨t343,A40,H⟩ := H
 replace H : (if t343 = true then (if (l1.length : Int) > 40 then (zd.j0 k a0 l1 a2 t343 true) else (zd.j0 k a0 l1 a2 t343 ((l1.length : Int) == 0))) else (zd.j0 k a0 l1 a2 t343 true)) = some r := H
 have A4 := zb.mk A40
 clear A40
 have HC5 := zb.mk H
 clear H
 go_enter Try.func4,Try.ntmps4
 go_upto_region 2 with (first | ((with_reducible refine zN (f := 8) rfl ?_);refine zas (some 17) rfl rfl Try.func8 (by kernel_rfl) rfl #[] rfl hMq ?_;(with_reducible refine (zal.calls  t343 _ A4.out).mono ?_);rintro e w6 ⟨rfl,hb⟩;refine ⟨_,rfl,?_⟩;have n_ := haq (zh hBq hb) <| trivial;clear HB;obtain ⟨HB,_⟩ := n_;(try clear hb);(try clear hb2);(try clear hk);(try clear hi)))
 (try simp only [Act.put,List.setIfInBounds_toArray,List.set_cons_zero,List.set_cons_succ])
 go_cut [29] (fun v29 wc => ∃ (kq : Nat) (x29_4 : Bool),v29 = .bool x29_4 ∧ zb (zd.j0 kq a0 l1 a2 t343 x29_4 = some r) ∧ zb (kq ≤ k) ∧ zb (Below w.heap.size w wc))
 case first =>
  have H := HC5.out
  clear HC5
  by_cases c7 : t343 = true
  ·subst c7
   have H1 : (if (l1.length : Int) > 40 then (zd.j0 k a0 l1 a2 true true) else (zd.j0 k a0 l1 a2 true ((l1.length : Int) == 0))) = some r := by rw [if_pos rfl] at H;exact H
   clear H
   have H := H1
   clear H1
   by_cases c8 : (l1.length : Int) > 40
   ·rw [if_pos c8] at H
    have c8b0 : decide (40 < (l1.length : Int)) = true := decide_eq_true c8
    have c8b1 : decide (40 < l1.length) = true := decide_eq_true (by omega)
    clear c8
    (first | rw [c8b0] | (simp only [zk,zm];rw [c8b0]) | skip)
    have H' := zb.mk H
    clear H
    go_wp2
    go_meet
    case rel => exact ⟨_,(true),(hDq),H',⟨by first | omega | exact Nat.le_refl _⟩,⟨by repeat (first | (with_reducible first | exact HB.out | apply zq | apply zp | apply zG) | exact HB.out)⟩⟩
   ·rw [if_neg c8] at H
    have c8b0 : decide (40 < (l1.length : Int)) = false := decide_eq_false c8
    have c8b1 : decide (40 < l1.length) = false := decide_eq_false (by omega)
    clear c8
    (first | rw [c8b0] | (simp only [zk,zm];rw [c8b0]) | skip)
    have H' := zb.mk H
    clear H
    go_wp2
    go_meet
    case rel => exact ⟨_,(((l1.length : Int) == 0)),(hDq),H',⟨by first | omega | exact Nat.le_refl _⟩,⟨by repeat (first | (with_reducible first | exact HB.out | apply zq | apply zp | apply zG) | exact HB.out)⟩⟩
  ·replace c7 := Bool.eq_false_iff.mpr c7
   subst c7
   have H1 : (zd.j0 k a0 l1 a2 false true) = some r := by rw [if_neg (show ¬ (false = true) by decide)] at H;exact H
   clear H
   have H := H1
   clear H1
   have H' := zb.mk H
   clear H
   go_wp2
   go_meet
   case rel => exact ⟨_,(true),(hDq),H',⟨by first | omega | exact Nat.le_refl _⟩,⟨by repeat (first | (with_reducible first | exact HB.out | apply zq | apply zp | apply zG) | exact HB.out)⟩⟩
 case rest =>
  clear HC5
  try clear c1;try clear p2;try clear c4;try clear c7;try clear c8;try clear c8b0;try clear c8b1
  obtain ⟨kq,x29_4,rfl,HA,HJ4,HB⟩ := hcut
  cases kq with
  | zero => exact absurd HA.out (by simp [zd.j0])
  | succ kj4 =>
   have H := HA.out
   clear HA
   simp only [zd.j0] at H
   by_cases c9 : x29_4 = true
   ·subst c9
    have H1 : (some t343) = some r := by rw [if_pos rfl] at H;exact H
    clear H
    have H := H1
    clear H1
    obtain rfl := Option.some.inj H
    go_wp2
    go_ret
    exact ⟨hHq,hBq⟩
   ·replace c9 := Bool.eq_false_iff.mpr c9
    subst c9
    have H1 : (zd.l0 kj4 l1 a2 0 a0 0 ([] : List (S36)) a0 0) = some r := by rw [if_neg (show ¬ (false = true) by decide)] at H;exact H
    clear H
    have H := H1
    clear H1
    have H' := zb.mk H
    clear H
    go_wp2_with (first | ((with_reducible refine zC (N := 8) rfl ?_);(try (refine zbV (by rfl) ?_;dsimp only));refine zw ?hg (N := 8) ?hd (cs := #[.int .i64 0,.int .i64 0,.slice none 0 0]) (t := 24) ?hr ?_;(case hd => rfl);(case hg => rfl);(case hr => first | (go_simp;done) | (go_simp;rfl));intro gb344 hg w10 hbox hb;have n_ := haq (zh hBq hb) <| haq (hbox) <| haq ((by rw [hg];exact (zn hBq) : w.heap.size ≤ gb344)) <| haq ((by rw [hg];exact (zn hBq) : w.heap.size ≤ gb344)) <| trivial;clear HB;obtain ⟨HB,BK344,GW344,GE344,_⟩ := n_;clear hb hbox hg;obtain ⟨hcz11_0,hcz11_1,hcz11_2,hfz11_0,hfz11_1,hfz11_2⟩ := hcq3 BK344.out) | ((with_reducible refine zC (N := 9) rfl ?_);(try (refine zbV (by rfl) ?_;dsimp only));refine zw ?hg (N := 9) ?hd (cs := #[.int .i64 0,.int .i64 0,.slice none 0 0]) (t := 24) ?hr ?_;(case hd => rfl);(case hg => rfl);(case hr => first | (go_simp;done) | (go_simp;rfl));intro gb345 hg w12 hbox hb;have n_ := haq (zl (g := gb344) (o := .cells #[.int .i64 a0,.int .i64 0,.slice none 0 0] 24 (0,0)) (hxq0p BK344.out) hb) <| haq (zh hCq hb) <| haq (hbox) <| haq ((by rw [hg];exact (zn hCq) : w.heap.size ≤ gb345)) <| haq ((by rw [hg];exact (zn hCq) : w.heap.size ≤ gb345)) <| haq ((by rw [hg];exact Nat.ne_of_lt (zax (g := gb344) (o := .cells #[.int .i64 a0,.int .i64 0,.slice none 0 0] 24 (0,0)) (hxq0p BK344.out)) : gb344 ≠ gb345)) <| haq ((by rw [hg];exact Nat.ne_of_gt (zax (g := gb344) (o := .cells #[.int .i64 a0,.int .i64 0,.slice none 0 0] 24 (0,0)) (hxq0p BK344.out)) : gb345 ≠ gb344)) <| trivial;clear BK344 HB;obtain ⟨BK344,HB,BK345,GW345,GE345,NB344_345,NB345_344,_⟩ := n_;clear hb hbox hg;have hnb13 := NB345_344.out;have hnc13 := NB344_345.out;obtain ⟨hcz14_0,hcz14_1,hcz14_2,hfz14_0,hfz14_1,hfz14_2⟩ := hcq3 BK345.out))
    go_loopg [10] kj4 (fun kq v10 w' => ∃ (x10_2 : Int) (x345000_2 : Int) (x345001_2 : Int) (x345002_2 : List (S36)) (u345002 : Value),v10 = .int .i64 x10_2 ∧ zb (zd.l0 kq l1 a2 x10_2 x345000_2 x345001_2 x345002_2 a0 0 = some r) ∧ zb (kq ≤ kj4) ∧ zb (Kd.V k36 36 w' w.heap.size (fun k_ => k_ ≠ gb344 ∧ k_ ≠ gb345) u345002 x345002_2) ∧ zb (w'.heap[gb344]? = some (.cells #[.int .i64 x345000_2,.int .i64 x345001_2,u345002] 24 (0,0))) ∧ zb (w'.heap[gb345]? = some (.cells #[.int .i64 a0,.int .i64 0,(.slice none 0 0)] 24 (0,0))) ∧ zb (Below w.heap.size w w'))
    case atStart => exact ⟨(0),(a0),(0),(([] : List (S36))),(.slice none 0 0),(hDq),H',⟨Nat.le_refl _⟩,⟨Kd.V_nil _ _ _ _ _⟩,⟨hxq1 NB344_345.out BK344.out⟩,⟨hxq0p BK345.out⟩,⟨by repeat (first | (with_reducible first | exact HB.out | apply zq | apply zp | apply zG | refine zo ?_ GE344.out | refine zo ?_ GE345.out) | exact HB.out)⟩⟩
    case round =>
     clear H'
     try clear c1;try clear p2;try clear c4;try clear c7;try clear c8;try clear c8b0;try clear c8b1;try clear c9;try clear c13;try clear hcz11_0;try clear hcz11_1;try clear hcz11_2;try clear hcz14_0;try clear hcz14_1;try clear hcz14_2;try clear hfz11_0;try clear hfz11_1;try clear hfz11_2;try clear hfz14_0;try clear hfz14_1;try clear hfz14_2;try clear p2
     obtain ⟨x10_2,x345000_2,x345001_2,x345002_2,u345002,rfl,HA,HK2,HO_345002,BK344,BK345,HB⟩ := hrel
     cases gk with
     | zero => exact absurd HA.out (by simp [zd.l0])
     | succ k2 =>
      have H := HA.out
      clear HA
      simp only [zd.l0] at H
      by_cases c15 : x10_2 < (l1.length : Int)
      ·rw [if_pos c15] at H
       have c15b0 : decide (x10_2 < (l1.length : Int)) = true := decide_eq_true c15
       clear c15
       by_cases c16 : 0 ≤ x10_2
       ·rw [if_pos c16] at H
        have c16b0 : decide (0 ≤ x10_2) = true := decide_eq_true c16
        clear c16
        replace H := Option.bind_eq_some_iff.mp H
        obtain ⟨⟨t347,t348,t349,t352⟩,A170,H⟩ := H
        replace H : (if t352 = 0 then (zd.l0 k2 l1 a2 (wrap64 (x10_2 + 1)) t347 t348 t349 a0 0) else (some true)) = some r := H
        have A17 := zb.mk A170
        clear A170
        by_cases c18 : t352 = 0
        ·rw [if_pos c18] at H
         have c18b0 : (t352 == 0) = true := beq_iff_eq.mpr c18
         have c18b1 : (t352 != 0) = false := bne_eq_false_iff_eq.mpr c18
         clear c18
         have H' := zb.mk H
         clear H
         obtain ⟨Ao19,co19,eo19⟩ := Kd.V_slice HO_345002.out
         subst eo19
         try go_wp2
         have n0_ := zb.mk (Kd.V_drew HO_345002.out)
         have n1_ := zb.mk (zab BK344.out)
         have n2_ := zb.mk (zab BK345.out)
         have n3_ := zb.mk (zG HB.out)
         clear HO_345002
         clear BK344
         clear BK345
         clear HB
         have HO_345002 := n0_
         have BK344 := n1_
         have BK345 := n2_
         have HB := n3_
         clear n0_ n1_ n2_ n3_
         have p346 : 0 ≤ (x10_2 : Int) := hFq
         have q346 : x10_2 < (l1.length : Int) := hFq
         obtain ⟨ad346,A346_2,c346_2,A346_3,c346_3,e346,hx346_0,hx346_1,hx346_2,hx346_3,hx346_4,hx346_5,hl346_2,hi346_2,hl346_3,hi346_3⟩ := zfT HR1.out x10_2 p346 q346
         have hw346_5 := hx346_5
         have hw346_4 := hx346_4
         have hw346_3 := hx346_3
         have hw346_2 := hx346_2
         have hw346_1 := hx346_1
         have hw346_0 := hx346_0
         cases e346
         replace hx346_0 := (HB.out.cell (World.block_lt_of_cell? w _ hx346_0)).trans hx346_0
         replace hx346_1 := (HB.out.cell (World.block_lt_of_cell? w _ hx346_1)).trans hx346_1
         replace hx346_2 := (HB.out.cell (World.block_lt_of_cell? w _ hx346_2)).trans hx346_2
         replace hx346_3 := (HB.out.cell (World.block_lt_of_cell? w _ hx346_3)).trans hx346_3
         replace hx346_4 := (HB.out.cell (World.block_lt_of_cell? w _ hx346_4)).trans hx346_4
         replace hx346_5 := (HB.out.cell (World.block_lt_of_cell? w _ hx346_5)).trans hx346_5
         have HR346_2 := zb.mk hi346_2
         have HC346_2 := zb.mk hl346_2
         clear hi346_2 hl346_2
         have HR346_3 := zb.mk hi346_3
         have HC346_3 := zb.mk hl346_3
         clear hi346_3 hl346_3
         replace p346 := eq_true p346
         replace q346 := eq_true q346
         refine zbt (n := 12) (S := fun w' => w'.cell? ⟨gb344,0,none⟩ = some (.int .i64 x345000_2) ∧ w'.cell? ⟨gb344,1,none⟩ = some (.int .i64 x345001_2) ∧ w'.cell? ⟨gb344,2,none⟩ = some (.slice Ao19 x345002_2.length co19) ∧ w'.cell? (ad346.add ((x10_2).toNat * 6)) = some (.int .i64 ((zB l1 x10_2).f0)) ∧ w'.cell? ⟨(ad346.add ((x10_2).toNat * 6)).block,(ad346.add ((x10_2).toNat * 6)).off + 1,none⟩ = some (.int .i64 ((zB l1 x10_2).f1)) ∧ w'.cell? ⟨(ad346.add ((x10_2).toNat * 6)).block,(ad346.add ((x10_2).toNat * 6)).off + 2,none⟩ = some (.slice A346_2 ((zB l1 x10_2).f2).length c346_2) ∧ w'.cell? ⟨(ad346.add ((x10_2).toNat * 6)).block,(ad346.add ((x10_2).toNat * 6)).off + 3,none⟩ = some (.slice A346_3 ((zB l1 x10_2).f3).length c346_3) ∧ w'.cell? ⟨(ad346.add ((x10_2).toNat * 6)).block,(ad346.add ((x10_2).toNat * 6)).off + 4,none⟩ = some (.int .i64 ((zB l1 x10_2).f4.f0)) ∧ w'.cell? ⟨(ad346.add ((x10_2).toNat * 6)).block,(ad346.add ((x10_2).toNat * 6)).off + 5,none⟩ = some (.int .i64 ((zB l1 x10_2).f4.f1))) (ds := []) #[false,false,false,false,false,false,false,false,false,false,false,false] (by kernel_rfl) rfl rfl ⟨(za BK344.out 0).trans rfl,(za BK344.out 1).trans rfl,(za BK344.out 2).trans rfl,((HB.out.cell (World.block_lt_of_cell? w _ hw346_0)).trans hw346_0),((HB.out.cell (World.block_lt_of_cell? w _ hw346_1)).trans hw346_1),((HB.out.cell (World.block_lt_of_cell? w _ hw346_2)).trans hw346_2),((HB.out.cell (World.block_lt_of_cell? w _ hw346_3)).trans hw346_3),((HB.out.cell (World.block_lt_of_cell? w _ hw346_4)).trans hw346_4),((HB.out.cell (World.block_lt_of_cell? w _ hw346_5)).trans hw346_5)⟩ (fun hHeld => ?_);refine zaA zd.tab9 zd.bits9 (fun HT_ HW_ => ?_)
         generalize wr.drew = w20 at HO_345002 BK344 BK345 HB HR346_2 HR346_3 hx346_0 hx346_1 hx346_2 hx346_3 hx346_4 hx346_5 hHeld ⊢
         refine zv (i := 1) (N := some 43) (v := ?_) (a' := ?_) #[false,true,false,false,false,false,false,false,false,false,false,false] rfl rfl (zj HT_.out (by kernel_rfl)) (fun _ _ _ h => h) (Or.inl ⟨by rfl,?_⟩) ?_ ?_
         rotate_left
         ·intro w'
          go_simp
          with_reducible rfl
         rotate_left
         ·simp only [Act.put,List.setIfInBounds_toArray,List.set_cons_zero,List.set_cons_succ,zk,zm]
          rfl
         refine zv (i := 2) (N := some 44) (v := ?_) (a' := ?_) #[false,true,true,false,false,false,false,false,false,false,false,false] rfl rfl (zj HT_.out (by kernel_rfl)) (fun _ _ _ h => h) (Or.inl ⟨by rfl,?_⟩) ?_ ?_
         rotate_left
         ·intro w'
          go_simp
          with_reducible rfl
         rotate_left
         ·simp only [Act.put,List.setIfInBounds_toArray,List.set_cons_zero,List.set_cons_succ,zk,zm]
          rfl
         refine zv (i := 3) (N := some 45) (v := ?_) (a' := ?_) #[false,true,true,true,false,false,false,false,false,false,false,false] rfl rfl (zj HT_.out (by kernel_rfl)) (fun _ _ _ h => h) (Or.inl ⟨by rfl,?_⟩) ?_ ?_
         rotate_left
         ·intro w'
          go_simp
          with_reducible rfl
         rotate_left
         ·simp only [Act.put,List.setIfInBounds_toArray,List.set_cons_zero,List.set_cons_succ,zk,zm]
          rfl
         refine take_ (i := 0) (N := some 42) (v := ?_) (a' := ?_) #[true,true,true,true,false,false,false,false,false,false,false,false] rfl rfl (zP HT_.out HW_.out (by kernel_rfl)) (fun _ _ _ h => h) (Or.inl ⟨by rfl,?_⟩) hHeld ?_ ?_
         rotate_left
         ·rintro w' ⟨s0,s1,s2,s3,s4,s5,s6,s7,s8⟩
          go_simp
          with_reducible rfl
         rotate_left
         ·simp only [Act.put,List.setIfInBounds_toArray,List.set_cons_zero,List.set_cons_succ,zk,zm]
          rfl
         refine take_ (i := 4) (N := some 46) (v := ?_) (a' := ?_) #[true,true,true,true,true,false,false,false,false,false,false,false] rfl rfl (zP HT_.out HW_.out (by kernel_rfl)) (fun _ _ _ h => h) (Or.inl ⟨by rfl,?_⟩) hHeld ?_ ?_
         rotate_left
         ·rintro w' ⟨s0,s1,s2,s3,s4,s5,s6,s7,s8⟩
          go_simp
          with_reducible rfl
         rotate_left
         ·simp only [Act.put,List.setIfInBounds_toArray,List.set_cons_zero,List.set_cons_succ,zk,zm]
          rfl
         refine zig (σ := Value × Nat) 2 #[true,true,true,true,true,true,true,true,true,true,false,false] (fun s_ => [(47,.tuple #[.agg #[.int .i64 t347,.int .i64 t348,s_.1],.int .i64 t352]),(11,.pointer (some ⟨s_.2,0,none⟩)),(41,.tuple #[.agg #[.int .i64 t347,.int .i64 t348,s_.1],.int .i64 t352]),(48,.agg #[.int .i64 t347,.int .i64 t348,s_.1]),(49,.int .i64 t352)]) (fun s_ w' => (w'.cell? ⟨gb344,0,none⟩ = some (.int .i64 x345000_2) ∧ w'.cell? ⟨gb344,1,none⟩ = some (.int .i64 x345001_2) ∧ w'.cell? ⟨gb344,2,none⟩ = some (.slice Ao19 x345002_2.length co19) ∧ w'.cell? (ad346.add ((x10_2).toNat * 6)) = some (.int .i64 ((zB l1 x10_2).f0)) ∧ w'.cell? ⟨(ad346.add ((x10_2).toNat * 6)).block,(ad346.add ((x10_2).toNat * 6)).off + 1,none⟩ = some (.int .i64 ((zB l1 x10_2).f1)) ∧ w'.cell? ⟨(ad346.add ((x10_2).toNat * 6)).block,(ad346.add ((x10_2).toNat * 6)).off + 2,none⟩ = some (.slice A346_2 ((zB l1 x10_2).f2).length c346_2) ∧ w'.cell? ⟨(ad346.add ((x10_2).toNat * 6)).block,(ad346.add ((x10_2).toNat * 6)).off + 3,none⟩ = some (.slice A346_3 ((zB l1 x10_2).f3).length c346_3) ∧ w'.cell? ⟨(ad346.add ((x10_2).toNat * 6)).block,(ad346.add ((x10_2).toNat * 6)).off + 4,none⟩ = some (.int .i64 ((zB l1 x10_2).f4.f0)) ∧ w'.cell? ⟨(ad346.add ((x10_2).toNat * 6)).block,(ad346.add ((x10_2).toNat * 6)).off + 5,none⟩ = some (.int .i64 ((zB l1 x10_2).f4.f1))) ∧ (Kd.V k36 36 w' w.heap.size (fun k_ => k_ ≠ gb344 ∧ k_ ≠ gb345 ∧ k_ ≠ s_.2) s_.1 t349) ∧ (Kd.V k36 36 w' w.heap.size (fun k_ => k_ ≠ gb344 ∧ k_ ≠ gb345 ∧ k_ ≠ s_.2) (.slice Ao19 x345002_2.length co19) x345002_2) ∧ (w'.heap[gb344]? = some (.cells #[.int .i64 x345000_2,.int .i64 x345001_2,.slice Ao19 x345002_2.length co19] 24 (0,0))) ∧ (w'.heap[gb345]? = some (.cells #[.int .i64 a0,.int .i64 0,.slice none 0 0] 24 (0,0))) ∧ (w'.heap[s_.2]? = some (.cells #[.int .i64 0,.int .i64 0,.slice none 0 0] 24 (0,0))) ∧ (w.heap.size ≤ s_.2) ∧ (w.heap.size ≤ s_.2) ∧ (gb344 ≠ s_.2) ∧ (s_.2 ≠ gb344) ∧ (gb345 ≠ s_.2) ∧ (s_.2 ≠ gb345) ∧ (Below w.heap.size w w')) ?_ ?_
         rotate_left
         ·intro hCont
          refine two_ (i := 5) (j := 9) (Ni := some 47) (Nj := some 11) #[true,true,true,true,true,true,false,false,false,false,false,false] #[true,true,true,true,true,false,false,false,false,true,false,false] rfl rfl rfl rfl (zhK HT_.out (by kernel_rfl)) (by decide) (by decide) (fun K hK => ?_) (fun K hK => ?_)
          ·skip
           refine zbw Try.func22 (by kernel_rfl) rfl #[.agg #[.int .i64 x345000_2,.int .i64 x345001_2,.slice Ao19 x345002_2.length co19],.agg #[.int .i64 ((zB l1 x10_2).f0),.int .i64 ((zB l1 x10_2).f1),.slice A346_2 ((zB l1 x10_2).f2).length c346_2,.slice A346_3 ((zB l1 x10_2).f3).length c346_3,.int .i64 ((zB l1 x10_2).f4.f0),.int .i64 ((zB l1 x10_2).f4.f1)]] (by rfl) rfl rfl hMq ?_
           with_reducible refine (zU.calls x345000_2 x345001_2 (fun k_ => (k_ ≠ gb344 ∧ k_ ≠ gb345)) _ _ x345002_2 ((zB l1 x10_2).f0) ((zB l1 x10_2).f1) (fun k_ => k_ < w.heap.size) _ _ ((zB l1 x10_2).f2) (fun k_ => k_ < w.heap.size) _ _ ((zB l1 x10_2).f3) ((zB l1 x10_2).f4.f0) ((zB l1 x10_2).f4.f1) t347 t348 t349 t352 _ ?side1 ?side2 ?side3 A17.out).mono ?_
           (case side1 => exact HO_345002.out)
           (case side2 => exact Kd.V_mk HC346_2.out (Kd.F_below (Kd.C_F zcf HR346_2.out) hCq))
           (case side3 => exact Kd.V_mk HC346_3.out (Kd.F_below (Kd.C_F Kd.heap_string HR346_3.out) hCq))
           rintro e w21 ⟨v350,rfl,ho0,hb⟩
           refine ⟨_,rfl,?_⟩
           have n0_ := zb.mk (Kd.V_below (by (with_reducible repeat (first | apply Kd.V_alloc | apply Kd.V_drewN | apply Kd.V_drew));exact HO_345002.out) hb)
           have n1_ := zb.mk (Kd.V_lower (Kd.V_mono (ok' := fun k_ => k_ ≠ gb344 ∧ k_ ≠ gb345) ho0 (fun k_ hk_ => ⟨Or.elim hk_ (fun hs_ => Or.elim hs_ (fun hs_ => hs_.1) (fun hs_ => Or.elim hs_ (fun hs_ => fun e_ => Nat.not_le.2 hs_ (by rw [e_];exact GW344.out)) (fun hs_ => fun e_ => Nat.not_le.2 hs_ (by rw [e_];exact GW344.out)))) (fun hn_ => (Kd.freshB (g := gb344) (o := .cells #[.int .i64 x345000_2,.int .i64 x345001_2,.slice Ao19 x345002_2.length co19] 24 (0,0)) (hGq BK344.out) k_ hn_)),Or.elim hk_ (fun hs_ => Or.elim hs_ (fun hs_ => hs_.2) (fun hs_ => Or.elim hs_ (fun hs_ => fun e_ => Nat.not_le.2 hs_ (by rw [e_];exact GW345.out)) (fun hs_ => fun e_ => Nat.not_le.2 hs_ (by rw [e_];exact GW345.out)))) (fun hn_ => (Kd.freshB (g := gb345) (o := .cells #[.int .i64 a0,.int .i64 0,.slice none 0 0] 24 (0,0)) (hGq BK345.out) k_ hn_))⟩)) (zn hCq))
           have n2_ := zb.mk (hbq BK344.out hb)
           have n3_ := zb.mk (hbq BK345.out hb)
           have n4_ := zb.mk (zh hCq hb)
           clear HO_345002
           clear BK344
           clear BK345
           clear HB
           have HO_345002 := n0_
           have HO351 := n1_
           have BK344 := n2_
           have BK345 := n3_
           have HB := n4_
           clear n0_ n1_ n2_ n3_ n4_
           (try clear hb)
           (try clear hb2)
           (try clear hk)
           (try clear hi)
           (try clear ho0)
           refine hK.out _ _ ⟨(za BK344.out 0).trans rfl,(za BK344.out 1).trans rfl,(za BK344.out 2).trans rfl,((HB.out.cell (World.block_lt_of_cell? w _ hw346_0)).trans hw346_0),((HB.out.cell (World.block_lt_of_cell? w _ hw346_1)).trans hw346_1),((HB.out.cell (World.block_lt_of_cell? w _ hw346_2)).trans hw346_2),((HB.out.cell (World.block_lt_of_cell? w _ hw346_3)).trans hw346_3),((HB.out.cell (World.block_lt_of_cell? w _ hw346_4)).trans hw346_4),((HB.out.cell (World.block_lt_of_cell? w _ hw346_5)).trans hw346_5)⟩ (fun hHeld => ?_)
           clear hK K
           refine zaN (a' := ?_) ?_ ?_
           rotate_left
           ·show Act.put _ (some 47) _ = _
            simp only [Act.put,List.setIfInBounds_toArray,List.set_cons_zero,List.set_cons_succ,zk,zm]
            rfl
           refine zv (i := 6) (N := some 41) (v := ?_) (a' := ?_) #[true,true,true,true,true,true,true,false,false,false,false,false] rfl rfl (zj HT_.out (by kernel_rfl)) (fun _ _ _ h => h) (Or.inl ⟨by rfl,?_⟩) ?_ ?_
           rotate_left
           ·intro w'
            go_simp
            with_reducible rfl
           rotate_left
           ·simp only [Act.put,List.setIfInBounds_toArray,List.set_cons_zero,List.set_cons_succ,zk,zm]
            rfl
           refine zv (i := 7) (N := some 48) (v := ?_) (a' := ?_) #[true,true,true,true,true,true,true,true,false,false,false,false] rfl rfl (zj HT_.out (by kernel_rfl)) (fun _ _ _ h => h) (Or.inl ⟨by rfl,?_⟩) ?_ ?_
           rotate_left
           ·intro w'
            go_simp
            with_reducible rfl
           rotate_left
           ·simp only [Act.put,List.setIfInBounds_toArray,List.set_cons_zero,List.set_cons_succ,zk,zm]
            rfl
           refine zv (i := 8) (N := some 49) (v := ?_) (a' := ?_) #[true,true,true,true,true,true,true,true,true,false,false,false] rfl rfl (zj HT_.out (by kernel_rfl)) (fun _ _ _ h => h) (Or.inl ⟨by rfl,?_⟩) ?_ ?_
           rotate_left
           ·intro w'
            go_simp
            with_reducible rfl
           rotate_left
           ·simp only [Act.put,List.setIfInBounds_toArray,List.set_cons_zero,List.set_cons_succ,zk,zm]
            rfl
           refine zck (i := 9) (N := some 11) #[true,true,true,true,true,true,true,true,true,true,false,false] rfl rfl (zaM HT_.out (by kernel_rfl)) (by decide) (fun K hK => ?_)
           refine zc4 ?hg (N := 11) ?hd (cs := #[.int .i64 0,.int .i64 0,.slice none 0 0]) (t := 24) ?hr ?_;(case hd => rfl);(case hg => rfl);(case hr => first | (go_simp;done) | (go_simp;rfl))
           intro gb353 hg w22 hbox hb
           have n0_ := zb.mk (Kd.V_below (Kd.V_elderB (by (with_reducible repeat (first | apply Kd.V_alloc | apply Kd.V_drewN | apply Kd.V_drew));exact HO_345002.out) gb353 (Nat.le_of_eq hg.symm)) hb)
           have n1_ := zb.mk (Kd.V_below (Kd.V_elderB (by (with_reducible repeat (first | apply Kd.V_alloc | apply Kd.V_drewN | apply Kd.V_drew));exact HO351.out) gb353 (Nat.le_of_eq hg.symm)) hb)
           have n2_ := zb.mk (hbq BK344.out hb)
           have n3_ := zb.mk (hbq BK345.out hb)
           have n4_ := zb.mk (zh hCq hb)
           have n5_ := zb.mk (hbox)
           have n6_ := zb.mk ((by rw [hg];exact (zn hCq) : w.heap.size ≤ gb353))
           have n7_ := zb.mk ((by rw [hg];exact (zn hCq) : w.heap.size ≤ gb353))
           have n8_ := zb.mk (hnq hg BK344.out)
           have n9_ := zb.mk (hmq hg BK344.out)
           have n10_ := zb.mk (hnq hg BK345.out)
           have n11_ := zb.mk (hmq hg BK345.out)
           clear HO_345002
           clear HO351
           clear BK344
           clear BK345
           clear HB
           have HO_345002 := n0_
           have HO351 := n1_
           have BK344 := n2_
           have BK345 := n3_
           have HB := n4_
           have BK353 := n5_
           have GW353 := n6_
           have GE353 := n7_
           have NB344_353 := n8_
           have NB353_344 := n9_
           have NB345_353 := n10_
           have NB353_345 := n11_
           clear n0_ n1_ n2_ n3_ n4_ n5_ n6_ n7_ n8_ n9_ n10_ n11_
           clear hb hbox hg
           refine hK.out _ _ ⟨(za BK344.out 0).trans rfl,(za BK344.out 1).trans rfl,(za BK344.out 2).trans rfl,((HB.out.cell (World.block_lt_of_cell? w _ hw346_0)).trans hw346_0),((HB.out.cell (World.block_lt_of_cell? w _ hw346_1)).trans hw346_1),((HB.out.cell (World.block_lt_of_cell? w _ hw346_2)).trans hw346_2),((HB.out.cell (World.block_lt_of_cell? w _ hw346_3)).trans hw346_3),((HB.out.cell (World.block_lt_of_cell? w _ hw346_4)).trans hw346_4),((HB.out.cell (World.block_lt_of_cell? w _ hw346_5)).trans hw346_5)⟩ (fun hHeld => ?_)
           clear hK K
           refine zaN (a' := ?_) ?_ ?_
           rotate_left
           ·show Act.put _ (some 11) _ = _
            simp only [Act.put,List.setIfInBounds_toArray,List.set_cons_zero,List.set_cons_succ,zk,zm]
            rfl
           exact zaN (by simp only [zcv,Act.put,List.setIfInBounds_toArray,List.set_cons_zero,List.set_cons_succ]) (hCont (v350,gb353) _ ⟨hHeld,(by (with_reducible repeat (first | apply Kd.V_alloc | apply Kd.V_drewN | apply Kd.V_drew));exact Kd.V_mono HO351.out (fun _ hk => ⟨hk.1.1,⟨hk.1.2,hk.2⟩⟩)),(by (with_reducible repeat (first | apply Kd.V_alloc | apply Kd.V_drewN | apply Kd.V_drew));exact Kd.V_mono HO_345002.out (fun _ hk => ⟨hk.1.1,⟨hk.1.2,hk.2⟩⟩)),(hGq BK344.out),(hGq BK345.out),(hGq BK353.out),GW353.out,GE353.out,NB344_353.out,NB353_344.out,NB345_353.out,NB353_345.out,hCq⟩)
          ·skip
           refine zc4 ?hg (N := 11) ?hd (cs := #[.int .i64 0,.int .i64 0,.slice none 0 0]) (t := 24) ?hr ?_;(case hd => rfl);(case hg => rfl);(case hr => first | (go_simp;done) | (go_simp;rfl))
           intro gb353 hg w21 hbox hb
           have n0_ := zb.mk (Kd.V_below (Kd.V_elderB (by (with_reducible repeat (first | apply Kd.V_alloc | apply Kd.V_drewN | apply Kd.V_drew));exact HO_345002.out) gb353 (Nat.le_of_eq hg.symm)) hb)
           have n1_ := zb.mk (hbq BK344.out hb)
           have n2_ := zb.mk (hbq BK345.out hb)
           have n3_ := zb.mk (zh hCq hb)
           have n4_ := zb.mk (hbox)
           have n5_ := zb.mk ((by rw [hg];exact (zn hCq) : w.heap.size ≤ gb353))
           have n6_ := zb.mk ((by rw [hg];exact (zn hCq) : w.heap.size ≤ gb353))
           have n7_ := zb.mk (hnq hg BK344.out)
           have n8_ := zb.mk (hmq hg BK344.out)
           have n9_ := zb.mk (hnq hg BK345.out)
           have n10_ := zb.mk (hmq hg BK345.out)
           clear HO_345002
           clear BK344
           clear BK345
           clear HB
           have HO_345002 := n0_
           have BK344 := n1_
           have BK345 := n2_
           have HB := n3_
           have BK353 := n4_
           have GW353 := n5_
           have GE353 := n6_
           have NB344_353 := n7_
           have NB353_344 := n8_
           have NB345_353 := n9_
           have NB353_345 := n10_
           clear n0_ n1_ n2_ n3_ n4_ n5_ n6_ n7_ n8_ n9_ n10_
           clear hb hbox hg
           refine hK.out _ _ ⟨(za BK344.out 0).trans rfl,(za BK344.out 1).trans rfl,(za BK344.out 2).trans rfl,((HB.out.cell (World.block_lt_of_cell? w _ hw346_0)).trans hw346_0),((HB.out.cell (World.block_lt_of_cell? w _ hw346_1)).trans hw346_1),((HB.out.cell (World.block_lt_of_cell? w _ hw346_2)).trans hw346_2),((HB.out.cell (World.block_lt_of_cell? w _ hw346_3)).trans hw346_3),((HB.out.cell (World.block_lt_of_cell? w _ hw346_4)).trans hw346_4),((HB.out.cell (World.block_lt_of_cell? w _ hw346_5)).trans hw346_5)⟩ (fun hHeld => ?_)
           clear hK K
           refine zaN (a' := ?_) ?_ ?_
           rotate_left
           ·show Act.put _ (some 11) _ = _
            simp only [Act.put,List.setIfInBounds_toArray,List.set_cons_zero,List.set_cons_succ,zk,zm]
            rfl
           refine zck (i := 5) (N := some 47) #[true,true,true,true,true,true,false,false,false,true,false,false] rfl rfl (zaM HT_.out (by kernel_rfl)) (by decide) (fun K hK => ?_)
           refine zbw Try.func22 (by kernel_rfl) rfl #[.agg #[.int .i64 x345000_2,.int .i64 x345001_2,.slice Ao19 x345002_2.length co19],.agg #[.int .i64 ((zB l1 x10_2).f0),.int .i64 ((zB l1 x10_2).f1),.slice A346_2 ((zB l1 x10_2).f2).length c346_2,.slice A346_3 ((zB l1 x10_2).f3).length c346_3,.int .i64 ((zB l1 x10_2).f4.f0),.int .i64 ((zB l1 x10_2).f4.f1)]] (by rfl) rfl rfl hMq ?_
           with_reducible refine (zU.calls x345000_2 x345001_2 (fun k_ => ((k_ ≠ gb344 ∧ k_ ≠ gb345) ∧ k_ ≠ gb353)) _ _ x345002_2 ((zB l1 x10_2).f0) ((zB l1 x10_2).f1) (fun k_ => k_ < w.heap.size) _ _ ((zB l1 x10_2).f2) (fun k_ => k_ < w.heap.size) _ _ ((zB l1 x10_2).f3) ((zB l1 x10_2).f4.f0) ((zB l1 x10_2).f4.f1) t347 t348 t349 t352 _ ?side1 ?side2 ?side3 A17.out).mono ?_
           (case side1 => exact HO_345002.out)
           (case side2 => exact Kd.V_mk HC346_2.out (Kd.F_below (Kd.C_F zcf HR346_2.out) hCq))
           (case side3 => exact Kd.V_mk HC346_3.out (Kd.F_below (Kd.C_F Kd.heap_string HR346_3.out) hCq))
           rintro e w22 ⟨v350,rfl,ho0,hb⟩
           refine ⟨_,rfl,?_⟩
           have n0_ := zb.mk (Kd.V_below (by (with_reducible repeat (first | apply Kd.V_alloc | apply Kd.V_drewN | apply Kd.V_drew));exact HO_345002.out) hb)
           have n1_ := zb.mk (Kd.V_lower (Kd.V_mono (ok' := fun k_ => k_ ≠ gb344 ∧ k_ ≠ gb345 ∧ k_ ≠ gb353) ho0 (fun k_ hk_ => ⟨Or.elim hk_ (fun hs_ => Or.elim hs_ (fun hs_ => hs_.1.1) (fun hs_ => Or.elim hs_ (fun hs_ => fun e_ => Nat.not_le.2 hs_ (by rw [e_];exact GW344.out)) (fun hs_ => fun e_ => Nat.not_le.2 hs_ (by rw [e_];exact GW344.out)))) (fun hn_ => (Kd.freshB (g := gb344) (o := .cells #[.int .i64 x345000_2,.int .i64 x345001_2,.slice Ao19 x345002_2.length co19] 24 (0,0)) (hGq BK344.out) k_ hn_)),Or.elim hk_ (fun hs_ => Or.elim hs_ (fun hs_ => hs_.1.2) (fun hs_ => Or.elim hs_ (fun hs_ => fun e_ => Nat.not_le.2 hs_ (by rw [e_];exact GW345.out)) (fun hs_ => fun e_ => Nat.not_le.2 hs_ (by rw [e_];exact GW345.out)))) (fun hn_ => (Kd.freshB (g := gb345) (o := .cells #[.int .i64 a0,.int .i64 0,.slice none 0 0] 24 (0,0)) (hGq BK345.out) k_ hn_)),Or.elim hk_ (fun hs_ => Or.elim hs_ (fun hs_ => hs_.2) (fun hs_ => Or.elim hs_ (fun hs_ => fun e_ => Nat.not_le.2 hs_ (by rw [e_];exact GW353.out)) (fun hs_ => fun e_ => Nat.not_le.2 hs_ (by rw [e_];exact GW353.out)))) (fun hn_ => (Kd.freshB (g := gb353) (o := .cells #[.int .i64 0,.int .i64 0,.slice none 0 0] 24 (0,0)) (hGq BK353.out) k_ hn_))⟩)) (zn hCq))
           have n2_ := zb.mk (hbq BK344.out hb)
           have n3_ := zb.mk (hbq BK345.out hb)
           have n4_ := zb.mk (hbq BK353.out hb)
           have n5_ := zb.mk (zh hCq hb)
           clear HO_345002
           clear BK344
           clear BK345
           clear BK353
           clear HB
           have HO_345002 := n0_
           have HO351 := n1_
           have BK344 := n2_
           have BK345 := n3_
           have BK353 := n4_
           have HB := n5_
           clear n0_ n1_ n2_ n3_ n4_ n5_
           (try clear hb)
           (try clear hb2)
           (try clear hk)
           (try clear hi)
           (try clear ho0)
           refine hK.out _ _ ⟨(za BK344.out 0).trans rfl,(za BK344.out 1).trans rfl,(za BK344.out 2).trans rfl,((HB.out.cell (World.block_lt_of_cell? w _ hw346_0)).trans hw346_0),((HB.out.cell (World.block_lt_of_cell? w _ hw346_1)).trans hw346_1),((HB.out.cell (World.block_lt_of_cell? w _ hw346_2)).trans hw346_2),((HB.out.cell (World.block_lt_of_cell? w _ hw346_3)).trans hw346_3),((HB.out.cell (World.block_lt_of_cell? w _ hw346_4)).trans hw346_4),((HB.out.cell (World.block_lt_of_cell? w _ hw346_5)).trans hw346_5)⟩ (fun hHeld => ?_)
           clear hK K
           refine zaN (a' := ?_) ?_ ?_
           rotate_left
           ·show Act.put _ (some 47) _ = _
            simp only [Act.put,List.setIfInBounds_toArray,List.set_cons_zero,List.set_cons_succ,zk,zm]
            rfl
           refine zv (i := 6) (N := some 41) (v := ?_) (a' := ?_) #[true,true,true,true,true,true,true,false,false,true,false,false] rfl rfl (zj HT_.out (by kernel_rfl)) (fun _ _ _ h => h) (Or.inl ⟨by rfl,?_⟩) ?_ ?_
           rotate_left
           ·intro w'
            go_simp
            with_reducible rfl
           rotate_left
           ·simp only [Act.put,List.setIfInBounds_toArray,List.set_cons_zero,List.set_cons_succ,zk,zm]
            rfl
           refine zv (i := 7) (N := some 48) (v := ?_) (a' := ?_) #[true,true,true,true,true,true,true,true,false,true,false,false] rfl rfl (zj HT_.out (by kernel_rfl)) (fun _ _ _ h => h) (Or.inl ⟨by rfl,?_⟩) ?_ ?_
           rotate_left
           ·intro w'
            go_simp
            with_reducible rfl
           rotate_left
           ·simp only [Act.put,List.setIfInBounds_toArray,List.set_cons_zero,List.set_cons_succ,zk,zm]
            rfl
           refine zv (i := 8) (N := some 49) (v := ?_) (a' := ?_) #[true,true,true,true,true,true,true,true,true,true,false,false] rfl rfl (zj HT_.out (by kernel_rfl)) (fun _ _ _ h => h) (Or.inl ⟨by rfl,?_⟩) ?_ ?_
           rotate_left
           ·intro w'
            go_simp
            with_reducible rfl
           rotate_left
           ·simp only [Act.put,List.setIfInBounds_toArray,List.set_cons_zero,List.set_cons_succ,zk,zm]
            rfl
           exact zaN (by simp only [zcv,Act.put,List.setIfInBounds_toArray,List.set_cons_zero,List.set_cons_succ]) (hCont (v350,gb353) _ ⟨hHeld,(by (with_reducible repeat (first | apply Kd.V_alloc | apply Kd.V_drewN | apply Kd.V_drew));exact HO351.out),(by (with_reducible repeat (first | apply Kd.V_alloc | apply Kd.V_drewN | apply Kd.V_drew));exact Kd.V_mono HO_345002.out (fun _ hk => ⟨hk.1.1,⟨hk.1.2,hk.2⟩⟩)),(hGq BK344.out),(hGq BK345.out),(hGq BK353.out),GW353.out,GE353.out,NB344_353.out,NB353_344.out,NB345_353.out,NB353_345.out,hCq⟩)
         rintro ⟨v350,gb353⟩ w23 ⟨hS_,h0_,h1_,h2_,h3_,h4_,h5_,h6_,h7_,h8_,h9_,h10_,h11_⟩
         have n0_ : zb (Kd.V k36 36 w23 w.heap.size (fun k_ => k_ ≠ gb344 ∧ k_ ≠ gb345 ∧ k_ ≠ gb353) v350 t349) := ⟨h0_⟩
         have n1_ : zb (Kd.V k36 36 w23 w.heap.size (fun k_ => k_ ≠ gb344 ∧ k_ ≠ gb345 ∧ k_ ≠ gb353) (.slice Ao19 x345002_2.length co19) x345002_2) := ⟨h1_⟩
         have n2_ : zb (w23.heap[gb344]? = some (.cells #[.int .i64 x345000_2,.int .i64 x345001_2,.slice Ao19 x345002_2.length co19] 24 (0,0))) := ⟨h2_⟩
         have n3_ : zb (w23.heap[gb345]? = some (.cells #[.int .i64 a0,.int .i64 0,.slice none 0 0] 24 (0,0))) := ⟨h3_⟩
         have n4_ : zb (w23.heap[gb353]? = some (.cells #[.int .i64 0,.int .i64 0,.slice none 0 0] 24 (0,0))) := ⟨h4_⟩
         have n5_ : zb (w.heap.size ≤ gb353) := ⟨h5_⟩
         have n6_ : zb (w.heap.size ≤ gb353) := ⟨h6_⟩
         have n7_ : zb (gb344 ≠ gb353) := ⟨h7_⟩
         have n8_ : zb (gb353 ≠ gb344) := ⟨h8_⟩
         have n9_ : zb (gb345 ≠ gb353) := ⟨h9_⟩
         have n10_ : zb (gb353 ≠ gb345) := ⟨h10_⟩
         have n11_ : zb (Below w.heap.size w w23) := ⟨h11_⟩
         clear HO_345002
         clear BK344
         clear BK345
         clear HB
         clear h0_ h1_ h2_ h3_ h4_ h5_ h6_ h7_ h8_ h9_ h10_ h11_
         have HO351 := n0_
         have HO_345002 := n1_
         have BK344 := n2_
         have BK345 := n3_
         have BK353 := n4_
         have GW353 := n5_
         have GE353 := n6_
         have NB344_353 := n7_
         have NB353_344 := n8_
         have NB345_353 := n9_
         have NB353_345 := n10_
         have HB := n11_
         clear n0_ n1_ n2_ n3_ n4_ n5_ n6_ n7_ n8_ n9_ n10_ n11_
         have hHeld : w23.cell? ⟨gb344,0,none⟩ = some (.int .i64 x345000_2) ∧ w23.cell? ⟨gb344,1,none⟩ = some (.int .i64 x345001_2) ∧ w23.cell? ⟨gb344,2,none⟩ = some (.slice Ao19 x345002_2.length co19) ∧ w23.cell? (ad346.add ((x10_2).toNat * 6)) = some (.int .i64 ((zB l1 x10_2).f0)) ∧ w23.cell? ⟨(ad346.add ((x10_2).toNat * 6)).block,(ad346.add ((x10_2).toNat * 6)).off + 1,none⟩ = some (.int .i64 ((zB l1 x10_2).f1)) ∧ w23.cell? ⟨(ad346.add ((x10_2).toNat * 6)).block,(ad346.add ((x10_2).toNat * 6)).off + 2,none⟩ = some (.slice A346_2 ((zB l1 x10_2).f2).length c346_2) ∧ w23.cell? ⟨(ad346.add ((x10_2).toNat * 6)).block,(ad346.add ((x10_2).toNat * 6)).off + 3,none⟩ = some (.slice A346_3 ((zB l1 x10_2).f3).length c346_3) ∧ w23.cell? ⟨(ad346.add ((x10_2).toNat * 6)).block,(ad346.add ((x10_2).toNat * 6)).off + 4,none⟩ = some (.int .i64 ((zB l1 x10_2).f4.f0)) ∧ w23.cell? ⟨(ad346.add ((x10_2).toNat * 6)).block,(ad346.add ((x10_2).toNat * 6)).off + 5,none⟩ = some (.int .i64 ((zB l1 x10_2).f4.f1)) := hS_
         obtain ⟨Ao26,co26,eo26⟩ := Kd.V_slice HO351.out
         (first | subst eo26 | (injection eo26 with f1_ f2_ f3_;have f4_ := f1_.symm;have f5_ := f3_.symm;clear f1_ f2_ f3_;subst f4_;subst f5_))
         refine zaN (a' := ?_) ?_ ?_
         rotate_left
         ·simp only [zcv,Act.put,List.setIfInBounds_toArray,List.set_cons_zero,List.set_cons_succ]
          rfl
         refine zck (i := 10) (N := none) #[true,true,true,true,true,true,true,true,true,true,true,false] rfl rfl (zaM HT_.out (by kernel_rfl)) (by decide) (fun K hK => ?_)
         have hs24 : w23.cell? ⟨gb353,0,none⟩ = some (.int .i64 0) := (za BK353.out 0).trans rfl
         have hfs24 := zc BK353.out 0
         have hns24_0 := NB344_353.out
         have hns24_1 := NB345_353.out
         have hms24_0 := NB353_344.out
         have hms24_1 := NB353_345.out
         have hs25 : w23.cell? ⟨gb353,1,none⟩ = some (.int .i64 0) := (za BK353.out 1).trans rfl
         have hfs25 := zc BK353.out 1
         have hns25_0 := NB344_353.out
         have hns25_1 := NB345_353.out
         have hms25_0 := NB353_344.out
         have hms25_1 := NB353_345.out
         have hs27 : w23.cell? ⟨gb353,2,none⟩ = some (.slice none 0 0) := (za BK353.out 2).trans rfl
         have hfs27 := zc BK353.out 2
         have hns27_0 := NB344_353.out
         have hns27_1 := NB345_353.out
         have hms27_0 := NB353_344.out
         have hms27_1 := NB353_345.out
         refine zhG (w1 := ?_) (by rfl) rfl ?_ ?_
         rotate_left
         ·go_simp
          rfl
         refine hK.out _ _ ⟨((zI (p := ⟨gb353,_,none⟩) NB344_353.out _).trans (((zI (p := ⟨gb353,_,none⟩) NB344_353.out _).trans (((zI (p := ⟨gb353,_,none⟩) NB344_353.out _).trans (hHeld.1)))))),((zI (p := ⟨gb353,_,none⟩) NB344_353.out _).trans (((zI (p := ⟨gb353,_,none⟩) NB344_353.out _).trans (((zI (p := ⟨gb353,_,none⟩) NB344_353.out _).trans (hHeld.2.1)))))),((zI (p := ⟨gb353,_,none⟩) NB344_353.out _).trans (((zI (p := ⟨gb353,_,none⟩) NB344_353.out _).trans (((zI (p := ⟨gb353,_,none⟩) NB344_353.out _).trans (hHeld.2.2.1)))))),((zI (p := ⟨gb353,_,none⟩) (by first | exact Nat.ne_of_lt (Nat.lt_of_lt_of_le (by have := World.block_lt_of_cell? _ _ hw346_0;first | rwa [zf] at this | exact this) GW353.out) | (rw [zf];exact Nat.ne_of_lt (Nat.lt_of_lt_of_le (by have := World.block_lt_of_cell? _ _ hw346_0;first | rwa [zf] at this | exact this) GW353.out)) | (show (Addr.add _ _).block ≠ _;rw [zf];exact Nat.ne_of_lt (Nat.lt_of_lt_of_le (by have := World.block_lt_of_cell? _ _ hw346_0;first | rwa [zf] at this | exact this) GW353.out)) | (dsimp only;exact Nat.ne_of_lt (Nat.lt_of_lt_of_le (by have := World.block_lt_of_cell? _ _ hw346_0;first | rwa [zf] at this | exact this) GW353.out))) _).trans (((zI (p := ⟨gb353,_,none⟩) (by first | exact Nat.ne_of_lt (Nat.lt_of_lt_of_le (by have := World.block_lt_of_cell? _ _ hw346_0;first | rwa [zf] at this | exact this) GW353.out) | (rw [zf];exact Nat.ne_of_lt (Nat.lt_of_lt_of_le (by have := World.block_lt_of_cell? _ _ hw346_0;first | rwa [zf] at this | exact this) GW353.out)) | (show (Addr.add _ _).block ≠ _;rw [zf];exact Nat.ne_of_lt (Nat.lt_of_lt_of_le (by have := World.block_lt_of_cell? _ _ hw346_0;first | rwa [zf] at this | exact this) GW353.out)) | (dsimp only;exact Nat.ne_of_lt (Nat.lt_of_lt_of_le (by have := World.block_lt_of_cell? _ _ hw346_0;first | rwa [zf] at this | exact this) GW353.out))) _).trans (((zI (p := ⟨gb353,_,none⟩) (by first | exact Nat.ne_of_lt (Nat.lt_of_lt_of_le (by have := World.block_lt_of_cell? _ _ hw346_0;first | rwa [zf] at this | exact this) GW353.out) | (rw [zf];exact Nat.ne_of_lt (Nat.lt_of_lt_of_le (by have := World.block_lt_of_cell? _ _ hw346_0;first | rwa [zf] at this | exact this) GW353.out)) | (show (Addr.add _ _).block ≠ _;rw [zf];exact Nat.ne_of_lt (Nat.lt_of_lt_of_le (by have := World.block_lt_of_cell? _ _ hw346_0;first | rwa [zf] at this | exact this) GW353.out)) | (dsimp only;exact Nat.ne_of_lt (Nat.lt_of_lt_of_le (by have := World.block_lt_of_cell? _ _ hw346_0;first | rwa [zf] at this | exact this) GW353.out))) _).trans (hHeld.2.2.2.1)))))),((zI (p := ⟨gb353,_,none⟩) (by first | exact Nat.ne_of_lt (Nat.lt_of_lt_of_le (by have := World.block_lt_of_cell? _ _ hw346_1;first | rwa [zf] at this | exact this) GW353.out) | (rw [zf];exact Nat.ne_of_lt (Nat.lt_of_lt_of_le (by have := World.block_lt_of_cell? _ _ hw346_1;first | rwa [zf] at this | exact this) GW353.out)) | (show (Addr.add _ _).block ≠ _;rw [zf];exact Nat.ne_of_lt (Nat.lt_of_lt_of_le (by have := World.block_lt_of_cell? _ _ hw346_1;first | rwa [zf] at this | exact this) GW353.out)) | (dsimp only;exact Nat.ne_of_lt (Nat.lt_of_lt_of_le (by have := World.block_lt_of_cell? _ _ hw346_1;first | rwa [zf] at this | exact this) GW353.out))) _).trans (((zI (p := ⟨gb353,_,none⟩) (by first | exact Nat.ne_of_lt (Nat.lt_of_lt_of_le (by have := World.block_lt_of_cell? _ _ hw346_1;first | rwa [zf] at this | exact this) GW353.out) | (rw [zf];exact Nat.ne_of_lt (Nat.lt_of_lt_of_le (by have := World.block_lt_of_cell? _ _ hw346_1;first | rwa [zf] at this | exact this) GW353.out)) | (show (Addr.add _ _).block ≠ _;rw [zf];exact Nat.ne_of_lt (Nat.lt_of_lt_of_le (by have := World.block_lt_of_cell? _ _ hw346_1;first | rwa [zf] at this | exact this) GW353.out)) | (dsimp only;exact Nat.ne_of_lt (Nat.lt_of_lt_of_le (by have := World.block_lt_of_cell? _ _ hw346_1;first | rwa [zf] at this | exact this) GW353.out))) _).trans (((zI (p := ⟨gb353,_,none⟩) (by first | exact Nat.ne_of_lt (Nat.lt_of_lt_of_le (by have := World.block_lt_of_cell? _ _ hw346_1;first | rwa [zf] at this | exact this) GW353.out) | (rw [zf];exact Nat.ne_of_lt (Nat.lt_of_lt_of_le (by have := World.block_lt_of_cell? _ _ hw346_1;first | rwa [zf] at this | exact this) GW353.out)) | (show (Addr.add _ _).block ≠ _;rw [zf];exact Nat.ne_of_lt (Nat.lt_of_lt_of_le (by have := World.block_lt_of_cell? _ _ hw346_1;first | rwa [zf] at this | exact this) GW353.out)) | (dsimp only;exact Nat.ne_of_lt (Nat.lt_of_lt_of_le (by have := World.block_lt_of_cell? _ _ hw346_1;first | rwa [zf] at this | exact this) GW353.out))) _).trans (hHeld.2.2.2.2.1)))))),((zI (p := ⟨gb353,_,none⟩) (by first | exact Nat.ne_of_lt (Nat.lt_of_lt_of_le (by have := World.block_lt_of_cell? _ _ hw346_2;first | rwa [zf] at this | exact this) GW353.out) | (rw [zf];exact Nat.ne_of_lt (Nat.lt_of_lt_of_le (by have := World.block_lt_of_cell? _ _ hw346_2;first | rwa [zf] at this | exact this) GW353.out)) | (show (Addr.add _ _).block ≠ _;rw [zf];exact Nat.ne_of_lt (Nat.lt_of_lt_of_le (by have := World.block_lt_of_cell? _ _ hw346_2;first | rwa [zf] at this | exact this) GW353.out)) | (dsimp only;exact Nat.ne_of_lt (Nat.lt_of_lt_of_le (by have := World.block_lt_of_cell? _ _ hw346_2;first | rwa [zf] at this | exact this) GW353.out))) _).trans (((zI (p := ⟨gb353,_,none⟩) (by first | exact Nat.ne_of_lt (Nat.lt_of_lt_of_le (by have := World.block_lt_of_cell? _ _ hw346_2;first | rwa [zf] at this | exact this) GW353.out) | (rw [zf];exact Nat.ne_of_lt (Nat.lt_of_lt_of_le (by have := World.block_lt_of_cell? _ _ hw346_2;first | rwa [zf] at this | exact this) GW353.out)) | (show (Addr.add _ _).block ≠ _;rw [zf];exact Nat.ne_of_lt (Nat.lt_of_lt_of_le (by have := World.block_lt_of_cell? _ _ hw346_2;first | rwa [zf] at this | exact this) GW353.out)) | (dsimp only;exact Nat.ne_of_lt (Nat.lt_of_lt_of_le (by have := World.block_lt_of_cell? _ _ hw346_2;first | rwa [zf] at this | exact this) GW353.out))) _).trans (((zI (p := ⟨gb353,_,none⟩) (by first | exact Nat.ne_of_lt (Nat.lt_of_lt_of_le (by have := World.block_lt_of_cell? _ _ hw346_2;first | rwa [zf] at this | exact this) GW353.out) | (rw [zf];exact Nat.ne_of_lt (Nat.lt_of_lt_of_le (by have := World.block_lt_of_cell? _ _ hw346_2;first | rwa [zf] at this | exact this) GW353.out)) | (show (Addr.add _ _).block ≠ _;rw [zf];exact Nat.ne_of_lt (Nat.lt_of_lt_of_le (by have := World.block_lt_of_cell? _ _ hw346_2;first | rwa [zf] at this | exact this) GW353.out)) | (dsimp only;exact Nat.ne_of_lt (Nat.lt_of_lt_of_le (by have := World.block_lt_of_cell? _ _ hw346_2;first | rwa [zf] at this | exact this) GW353.out))) _).trans (hHeld.2.2.2.2.2.1)))))),((zI (p := ⟨gb353,_,none⟩) (by first | exact Nat.ne_of_lt (Nat.lt_of_lt_of_le (by have := World.block_lt_of_cell? _ _ hw346_3;first | rwa [zf] at this | exact this) GW353.out) | (rw [zf];exact Nat.ne_of_lt (Nat.lt_of_lt_of_le (by have := World.block_lt_of_cell? _ _ hw346_3;first | rwa [zf] at this | exact this) GW353.out)) | (show (Addr.add _ _).block ≠ _;rw [zf];exact Nat.ne_of_lt (Nat.lt_of_lt_of_le (by have := World.block_lt_of_cell? _ _ hw346_3;first | rwa [zf] at this | exact this) GW353.out)) | (dsimp only;exact Nat.ne_of_lt (Nat.lt_of_lt_of_le (by have := World.block_lt_of_cell? _ _ hw346_3;first | rwa [zf] at this | exact this) GW353.out))) _).trans (((zI (p := ⟨gb353,_,none⟩) (by first | exact Nat.ne_of_lt (Nat.lt_of_lt_of_le (by have := World.block_lt_of_cell? _ _ hw346_3;first | rwa [zf] at this | exact this) GW353.out) | (rw [zf];exact Nat.ne_of_lt (Nat.lt_of_lt_of_le (by have := World.block_lt_of_cell? _ _ hw346_3;first | rwa [zf] at this | exact this) GW353.out)) | (show (Addr.add _ _).block ≠ _;rw [zf];exact Nat.ne_of_lt (Nat.lt_of_lt_of_le (by have := World.block_lt_of_cell? _ _ hw346_3;first | rwa [zf] at this | exact this) GW353.out)) | (dsimp only;exact Nat.ne_of_lt (Nat.lt_of_lt_of_le (by have := World.block_lt_of_cell? _ _ hw346_3;first | rwa [zf] at this | exact this) GW353.out))) _).trans (((zI (p := ⟨gb353,_,none⟩) (by first | exact Nat.ne_of_lt (Nat.lt_of_lt_of_le (by have := World.block_lt_of_cell? _ _ hw346_3;first | rwa [zf] at this | exact this) GW353.out) | (rw [zf];exact Nat.ne_of_lt (Nat.lt_of_lt_of_le (by have := World.block_lt_of_cell? _ _ hw346_3;first | rwa [zf] at this | exact this) GW353.out)) | (show (Addr.add _ _).block ≠ _;rw [zf];exact Nat.ne_of_lt (Nat.lt_of_lt_of_le (by have := World.block_lt_of_cell? _ _ hw346_3;first | rwa [zf] at this | exact this) GW353.out)) | (dsimp only;exact Nat.ne_of_lt (Nat.lt_of_lt_of_le (by have := World.block_lt_of_cell? _ _ hw346_3;first | rwa [zf] at this | exact this) GW353.out))) _).trans (hHeld.2.2.2.2.2.2.1)))))),((zI (p := ⟨gb353,_,none⟩) (by first | exact Nat.ne_of_lt (Nat.lt_of_lt_of_le (by have := World.block_lt_of_cell? _ _ hw346_4;first | rwa [zf] at this | exact this) GW353.out) | (rw [zf];exact Nat.ne_of_lt (Nat.lt_of_lt_of_le (by have := World.block_lt_of_cell? _ _ hw346_4;first | rwa [zf] at this | exact this) GW353.out)) | (show (Addr.add _ _).block ≠ _;rw [zf];exact Nat.ne_of_lt (Nat.lt_of_lt_of_le (by have := World.block_lt_of_cell? _ _ hw346_4;first | rwa [zf] at this | exact this) GW353.out)) | (dsimp only;exact Nat.ne_of_lt (Nat.lt_of_lt_of_le (by have := World.block_lt_of_cell? _ _ hw346_4;first | rwa [zf] at this | exact this) GW353.out))) _).trans (((zI (p := ⟨gb353,_,none⟩) (by first | exact Nat.ne_of_lt (Nat.lt_of_lt_of_le (by have := World.block_lt_of_cell? _ _ hw346_4;first | rwa [zf] at this | exact this) GW353.out) | (rw [zf];exact Nat.ne_of_lt (Nat.lt_of_lt_of_le (by have := World.block_lt_of_cell? _ _ hw346_4;first | rwa [zf] at this | exact this) GW353.out)) | (show (Addr.add _ _).block ≠ _;rw [zf];exact Nat.ne_of_lt (Nat.lt_of_lt_of_le (by have := World.block_lt_of_cell? _ _ hw346_4;first | rwa [zf] at this | exact this) GW353.out)) | (dsimp only;exact Nat.ne_of_lt (Nat.lt_of_lt_of_le (by have := World.block_lt_of_cell? _ _ hw346_4;first | rwa [zf] at this | exact this) GW353.out))) _).trans (((zI (p := ⟨gb353,_,none⟩) (by first | exact Nat.ne_of_lt (Nat.lt_of_lt_of_le (by have := World.block_lt_of_cell? _ _ hw346_4;first | rwa [zf] at this | exact this) GW353.out) | (rw [zf];exact Nat.ne_of_lt (Nat.lt_of_lt_of_le (by have := World.block_lt_of_cell? _ _ hw346_4;first | rwa [zf] at this | exact this) GW353.out)) | (show (Addr.add _ _).block ≠ _;rw [zf];exact Nat.ne_of_lt (Nat.lt_of_lt_of_le (by have := World.block_lt_of_cell? _ _ hw346_4;first | rwa [zf] at this | exact this) GW353.out)) | (dsimp only;exact Nat.ne_of_lt (Nat.lt_of_lt_of_le (by have := World.block_lt_of_cell? _ _ hw346_4;first | rwa [zf] at this | exact this) GW353.out))) _).trans (hHeld.2.2.2.2.2.2.2.1)))))),((zI (p := ⟨gb353,_,none⟩) (by first | exact Nat.ne_of_lt (Nat.lt_of_lt_of_le (by have := World.block_lt_of_cell? _ _ hw346_5;first | rwa [zf] at this | exact this) GW353.out) | (rw [zf];exact Nat.ne_of_lt (Nat.lt_of_lt_of_le (by have := World.block_lt_of_cell? _ _ hw346_5;first | rwa [zf] at this | exact this) GW353.out)) | (show (Addr.add _ _).block ≠ _;rw [zf];exact Nat.ne_of_lt (Nat.lt_of_lt_of_le (by have := World.block_lt_of_cell? _ _ hw346_5;first | rwa [zf] at this | exact this) GW353.out)) | (dsimp only;exact Nat.ne_of_lt (Nat.lt_of_lt_of_le (by have := World.block_lt_of_cell? _ _ hw346_5;first | rwa [zf] at this | exact this) GW353.out))) _).trans (((zI (p := ⟨gb353,_,none⟩) (by first | exact Nat.ne_of_lt (Nat.lt_of_lt_of_le (by have := World.block_lt_of_cell? _ _ hw346_5;first | rwa [zf] at this | exact this) GW353.out) | (rw [zf];exact Nat.ne_of_lt (Nat.lt_of_lt_of_le (by have := World.block_lt_of_cell? _ _ hw346_5;first | rwa [zf] at this | exact this) GW353.out)) | (show (Addr.add _ _).block ≠ _;rw [zf];exact Nat.ne_of_lt (Nat.lt_of_lt_of_le (by have := World.block_lt_of_cell? _ _ hw346_5;first | rwa [zf] at this | exact this) GW353.out)) | (dsimp only;exact Nat.ne_of_lt (Nat.lt_of_lt_of_le (by have := World.block_lt_of_cell? _ _ hw346_5;first | rwa [zf] at this | exact this) GW353.out))) _).trans (((zI (p := ⟨gb353,_,none⟩) (by first | exact Nat.ne_of_lt (Nat.lt_of_lt_of_le (by have := World.block_lt_of_cell? _ _ hw346_5;first | rwa [zf] at this | exact this) GW353.out) | (rw [zf];exact Nat.ne_of_lt (Nat.lt_of_lt_of_le (by have := World.block_lt_of_cell? _ _ hw346_5;first | rwa [zf] at this | exact this) GW353.out)) | (show (Addr.add _ _).block ≠ _;rw [zf];exact Nat.ne_of_lt (Nat.lt_of_lt_of_le (by have := World.block_lt_of_cell? _ _ hw346_5;first | rwa [zf] at this | exact this) GW353.out)) | (dsimp only;exact Nat.ne_of_lt (Nat.lt_of_lt_of_le (by have := World.block_lt_of_cell? _ _ hw346_5;first | rwa [zf] at this | exact this) GW353.out))) _).trans (hHeld.2.2.2.2.2.2.2.2))))))⟩ (fun hHeld => ?_)
         clear hK K
         refine zv (i := 11) (N := some 12) (v := ?_) (a' := ?_) #[true,true,true,true,true,true,true,true,true,true,true,true] rfl rfl (zj HT_.out (by kernel_rfl)) (fun _ _ _ h => h) (Or.inl ⟨by rfl,?_⟩) ?_ ?_
         rotate_left
         ·intro w'
          go_simp
          with_reducible rfl
         rotate_left
         ·simp only [Act.put,List.setIfInBounds_toArray,List.set_cons_zero,List.set_cons_succ,zk,zm]
          rfl
         refine zbh (zaz HT_.out (by kernel_rfl)) ?_
         have hnb28 := NB353_344.out
         have hnc28 := NB344_353.out
         have hnb29 := NB353_345.out
         have hnc29 := NB345_353.out
         obtain ⟨hcz30_0,hcz30_1,hcz30_2,hfz30_0,hfz30_1,hfz30_2⟩ := hcq3 BK353.out
         have hnb31 := NB344_345.out
         have hnc31 := NB345_344.out
         obtain ⟨hcz32_0,hcz32_1,hcz32_2,hfz32_0,hfz32_1,hfz32_2⟩ := hcq3 BK344.out
         try go_wp2
         go_roundg k2
         case measure => have := HJ4.out;have := HK2.out;omega
         case rel => exact ⟨(wrap64 (x10_2 + 1)),(t347),(t348),(t349),(.slice Ao26 t349.length co26),(hDq),H',⟨by have := HJ4.out;have := HK2.out;omega⟩,⟨by (with_reducible repeat (first | apply Kd.V_alloc | apply Kd.V_drewN | apply Kd.V_drew));exact Kd.V_mono (Kd.V_far (p := ⟨gb344,2,none⟩) (Kd.V_far (p := ⟨gb344,1,none⟩) (Kd.V_far (p := ⟨gb344,0,none⟩) (Kd.V_far (p := ⟨gb353,2,none⟩) (Kd.V_far (p := ⟨gb353,1,none⟩) (Kd.V_far (p := ⟨gb353,0,none⟩) (Kd.V_mono (Kd.V_mono HO351.out (fun k_ hk => (⟨hk,hk.2.2⟩ : _ ∧ k_ ≠ gb353))) (fun k_ hk => (⟨hk,hk.1.1⟩ : _ ∧ k_ ≠ gb344))) (fun _ hk => hk.1.2) (.int .i64 t347)) (fun _ hk => hk.1.2) (.int .i64 t348)) (fun _ hk => hk.1.2) (.slice Ao26 t349.length co26)) (fun _ hk => hk.2) (.int .i64 t347)) (fun _ hk => hk.2) (.int .i64 t348)) (fun _ hk => hk.2) (.slice Ao26 t349.length co26)) (fun _ hk => ⟨hk.1.1.1,hk.1.1.2.1⟩)⟩,⟨hxq1p NB344_353.out BK344.out⟩,⟨hxq2 NB345_344.out NB345_353.out BK345.out⟩,⟨by repeat (first | (with_reducible first | exact HB.out | apply zq | apply zp | apply zG | refine zo ?_ GE344.out | refine zo ?_ GE345.out | refine zo ?_ GE353.out) | exact HB.out)⟩⟩
        ·rw [if_neg c18] at H
         have c18b0 : (t352 == 0) = false := beq_eq_false_iff_ne.mpr c18
         have c18b1 : (t352 != 0) = true := bne_iff_ne.mpr c18
         obtain rfl := Option.some.inj H
         obtain ⟨Ao33,co33,eo33⟩ := Kd.V_slice HO_345002.out
         subst eo33
         try go_wp2
         have n0_ := zb.mk (Kd.V_drew HO_345002.out)
         have n1_ := zb.mk (zab BK344.out)
         have n2_ := zb.mk (zab BK345.out)
         have n3_ := zb.mk (zG HB.out)
         clear HO_345002
         clear BK344
         clear BK345
         clear HB
         have HO_345002 := n0_
         have BK344 := n1_
         have BK345 := n2_
         have HB := n3_
         clear n0_ n1_ n2_ n3_
         have p346 : 0 ≤ (x10_2 : Int) := hFq
         have q346 : x10_2 < (l1.length : Int) := hFq
         obtain ⟨ad346,A346_2,c346_2,A346_3,c346_3,e346,hx346_0,hx346_1,hx346_2,hx346_3,hx346_4,hx346_5,hl346_2,hi346_2,hl346_3,hi346_3⟩ := zfT HR1.out x10_2 p346 q346
         have hw346_5 := hx346_5
         have hw346_4 := hx346_4
         have hw346_3 := hx346_3
         have hw346_2 := hx346_2
         have hw346_1 := hx346_1
         have hw346_0 := hx346_0
         cases e346
         replace hx346_0 := (HB.out.cell (World.block_lt_of_cell? w _ hx346_0)).trans hx346_0
         replace hx346_1 := (HB.out.cell (World.block_lt_of_cell? w _ hx346_1)).trans hx346_1
         replace hx346_2 := (HB.out.cell (World.block_lt_of_cell? w _ hx346_2)).trans hx346_2
         replace hx346_3 := (HB.out.cell (World.block_lt_of_cell? w _ hx346_3)).trans hx346_3
         replace hx346_4 := (HB.out.cell (World.block_lt_of_cell? w _ hx346_4)).trans hx346_4
         replace hx346_5 := (HB.out.cell (World.block_lt_of_cell? w _ hx346_5)).trans hx346_5
         have HR346_2 := zb.mk hi346_2
         have HC346_2 := zb.mk hl346_2
         clear hi346_2 hl346_2
         have HR346_3 := zb.mk hi346_3
         have HC346_3 := zb.mk hl346_3
         clear hi346_3 hl346_3
         replace p346 := eq_true p346
         replace q346 := eq_true q346
         refine zbt (n := 12) (S := fun w' => w'.cell? ⟨gb344,0,none⟩ = some (.int .i64 x345000_2) ∧ w'.cell? ⟨gb344,1,none⟩ = some (.int .i64 x345001_2) ∧ w'.cell? ⟨gb344,2,none⟩ = some (.slice Ao33 x345002_2.length co33) ∧ w'.cell? (ad346.add ((x10_2).toNat * 6)) = some (.int .i64 ((zB l1 x10_2).f0)) ∧ w'.cell? ⟨(ad346.add ((x10_2).toNat * 6)).block,(ad346.add ((x10_2).toNat * 6)).off + 1,none⟩ = some (.int .i64 ((zB l1 x10_2).f1)) ∧ w'.cell? ⟨(ad346.add ((x10_2).toNat * 6)).block,(ad346.add ((x10_2).toNat * 6)).off + 2,none⟩ = some (.slice A346_2 ((zB l1 x10_2).f2).length c346_2) ∧ w'.cell? ⟨(ad346.add ((x10_2).toNat * 6)).block,(ad346.add ((x10_2).toNat * 6)).off + 3,none⟩ = some (.slice A346_3 ((zB l1 x10_2).f3).length c346_3) ∧ w'.cell? ⟨(ad346.add ((x10_2).toNat * 6)).block,(ad346.add ((x10_2).toNat * 6)).off + 4,none⟩ = some (.int .i64 ((zB l1 x10_2).f4.f0)) ∧ w'.cell? ⟨(ad346.add ((x10_2).toNat * 6)).block,(ad346.add ((x10_2).toNat * 6)).off + 5,none⟩ = some (.int .i64 ((zB l1 x10_2).f4.f1))) (ds := []) #[false,false,false,false,false,false,false,false,false,false,false,false] (by kernel_rfl) rfl rfl ⟨(za BK344.out 0).trans rfl,(za BK344.out 1).trans rfl,(za BK344.out 2).trans rfl,((HB.out.cell (World.block_lt_of_cell? w _ hw346_0)).trans hw346_0),((HB.out.cell (World.block_lt_of_cell? w _ hw346_1)).trans hw346_1),((HB.out.cell (World.block_lt_of_cell? w _ hw346_2)).trans hw346_2),((HB.out.cell (World.block_lt_of_cell? w _ hw346_3)).trans hw346_3),((HB.out.cell (World.block_lt_of_cell? w _ hw346_4)).trans hw346_4),((HB.out.cell (World.block_lt_of_cell? w _ hw346_5)).trans hw346_5)⟩ (fun hHeld => ?_);refine zaA zd.tab9 zd.bits9 (fun HT_ HW_ => ?_)
         generalize wr.drew = w34 at HO_345002 BK344 BK345 HB HR346_2 HR346_3 hx346_0 hx346_1 hx346_2 hx346_3 hx346_4 hx346_5 hHeld ⊢
         refine zv (i := 1) (N := some 43) (v := ?_) (a' := ?_) #[false,true,false,false,false,false,false,false,false,false,false,false] rfl rfl (zj HT_.out (by kernel_rfl)) (fun _ _ _ h => h) (Or.inl ⟨by rfl,?_⟩) ?_ ?_
         rotate_left
         ·intro w'
          go_simp
          with_reducible rfl
         rotate_left
         ·simp only [Act.put,List.setIfInBounds_toArray,List.set_cons_zero,List.set_cons_succ,zk,zm]
          rfl
         refine zv (i := 2) (N := some 44) (v := ?_) (a' := ?_) #[false,true,true,false,false,false,false,false,false,false,false,false] rfl rfl (zj HT_.out (by kernel_rfl)) (fun _ _ _ h => h) (Or.inl ⟨by rfl,?_⟩) ?_ ?_
         rotate_left
         ·intro w'
          go_simp
          with_reducible rfl
         rotate_left
         ·simp only [Act.put,List.setIfInBounds_toArray,List.set_cons_zero,List.set_cons_succ,zk,zm]
          rfl
         refine zv (i := 3) (N := some 45) (v := ?_) (a' := ?_) #[false,true,true,true,false,false,false,false,false,false,false,false] rfl rfl (zj HT_.out (by kernel_rfl)) (fun _ _ _ h => h) (Or.inl ⟨by rfl,?_⟩) ?_ ?_
         rotate_left
         ·intro w'
          go_simp
          with_reducible rfl
         rotate_left
         ·simp only [Act.put,List.setIfInBounds_toArray,List.set_cons_zero,List.set_cons_succ,zk,zm]
          rfl
         refine take_ (i := 0) (N := some 42) (v := ?_) (a' := ?_) #[true,true,true,true,false,false,false,false,false,false,false,false] rfl rfl (zP HT_.out HW_.out (by kernel_rfl)) (fun _ _ _ h => h) (Or.inl ⟨by rfl,?_⟩) hHeld ?_ ?_
         rotate_left
         ·rintro w' ⟨s0,s1,s2,s3,s4,s5,s6,s7,s8⟩
          go_simp
          with_reducible rfl
         rotate_left
         ·simp only [Act.put,List.setIfInBounds_toArray,List.set_cons_zero,List.set_cons_succ,zk,zm]
          rfl
         refine take_ (i := 4) (N := some 46) (v := ?_) (a' := ?_) #[true,true,true,true,true,false,false,false,false,false,false,false] rfl rfl (zP HT_.out HW_.out (by kernel_rfl)) (fun _ _ _ h => h) (Or.inl ⟨by rfl,?_⟩) hHeld ?_ ?_
         rotate_left
         ·rintro w' ⟨s0,s1,s2,s3,s4,s5,s6,s7,s8⟩
          go_simp
          with_reducible rfl
         rotate_left
         ·simp only [Act.put,List.setIfInBounds_toArray,List.set_cons_zero,List.set_cons_succ,zk,zm]
          rfl
         refine zig (σ := Value × Nat) 2 #[true,true,true,true,true,true,true,true,true,true,false,false] (fun s_ => [(47,.tuple #[.agg #[.int .i64 t347,.int .i64 t348,s_.1],.int .i64 t352]),(11,.pointer (some ⟨s_.2,0,none⟩)),(41,.tuple #[.agg #[.int .i64 t347,.int .i64 t348,s_.1],.int .i64 t352]),(48,.agg #[.int .i64 t347,.int .i64 t348,s_.1]),(49,.int .i64 t352)]) (fun s_ w' => (w'.cell? ⟨gb344,0,none⟩ = some (.int .i64 x345000_2) ∧ w'.cell? ⟨gb344,1,none⟩ = some (.int .i64 x345001_2) ∧ w'.cell? ⟨gb344,2,none⟩ = some (.slice Ao33 x345002_2.length co33) ∧ w'.cell? (ad346.add ((x10_2).toNat * 6)) = some (.int .i64 ((zB l1 x10_2).f0)) ∧ w'.cell? ⟨(ad346.add ((x10_2).toNat * 6)).block,(ad346.add ((x10_2).toNat * 6)).off + 1,none⟩ = some (.int .i64 ((zB l1 x10_2).f1)) ∧ w'.cell? ⟨(ad346.add ((x10_2).toNat * 6)).block,(ad346.add ((x10_2).toNat * 6)).off + 2,none⟩ = some (.slice A346_2 ((zB l1 x10_2).f2).length c346_2) ∧ w'.cell? ⟨(ad346.add ((x10_2).toNat * 6)).block,(ad346.add ((x10_2).toNat * 6)).off + 3,none⟩ = some (.slice A346_3 ((zB l1 x10_2).f3).length c346_3) ∧ w'.cell? ⟨(ad346.add ((x10_2).toNat * 6)).block,(ad346.add ((x10_2).toNat * 6)).off + 4,none⟩ = some (.int .i64 ((zB l1 x10_2).f4.f0)) ∧ w'.cell? ⟨(ad346.add ((x10_2).toNat * 6)).block,(ad346.add ((x10_2).toNat * 6)).off + 5,none⟩ = some (.int .i64 ((zB l1 x10_2).f4.f1))) ∧ (Kd.V k36 36 w' w.heap.size (fun k_ => k_ ≠ gb344 ∧ k_ ≠ gb345 ∧ k_ ≠ s_.2) s_.1 t349) ∧ (Kd.V k36 36 w' w.heap.size (fun k_ => k_ ≠ gb344 ∧ k_ ≠ gb345 ∧ k_ ≠ s_.2) (.slice Ao33 x345002_2.length co33) x345002_2) ∧ (w'.heap[gb344]? = some (.cells #[.int .i64 x345000_2,.int .i64 x345001_2,.slice Ao33 x345002_2.length co33] 24 (0,0))) ∧ (w'.heap[gb345]? = some (.cells #[.int .i64 a0,.int .i64 0,.slice none 0 0] 24 (0,0))) ∧ (w'.heap[s_.2]? = some (.cells #[.int .i64 0,.int .i64 0,.slice none 0 0] 24 (0,0))) ∧ (w.heap.size ≤ s_.2) ∧ (w.heap.size ≤ s_.2) ∧ (gb344 ≠ s_.2) ∧ (s_.2 ≠ gb344) ∧ (gb345 ≠ s_.2) ∧ (s_.2 ≠ gb345) ∧ (Below w.heap.size w w')) ?_ ?_
         rotate_left
         ·intro hCont
          refine two_ (i := 5) (j := 9) (Ni := some 47) (Nj := some 11) #[true,true,true,true,true,true,false,false,false,false,false,false] #[true,true,true,true,true,false,false,false,false,true,false,false] rfl rfl rfl rfl (zhK HT_.out (by kernel_rfl)) (by decide) (by decide) (fun K hK => ?_) (fun K hK => ?_)
          ·skip
           refine zbw Try.func22 (by kernel_rfl) rfl #[.agg #[.int .i64 x345000_2,.int .i64 x345001_2,.slice Ao33 x345002_2.length co33],.agg #[.int .i64 ((zB l1 x10_2).f0),.int .i64 ((zB l1 x10_2).f1),.slice A346_2 ((zB l1 x10_2).f2).length c346_2,.slice A346_3 ((zB l1 x10_2).f3).length c346_3,.int .i64 ((zB l1 x10_2).f4.f0),.int .i64 ((zB l1 x10_2).f4.f1)]] (by rfl) rfl rfl hMq ?_
           with_reducible refine (zU.calls x345000_2 x345001_2 (fun k_ => (k_ ≠ gb344 ∧ k_ ≠ gb345)) _ _ x345002_2 ((zB l1 x10_2).f0) ((zB l1 x10_2).f1) (fun k_ => k_ < w.heap.size) _ _ ((zB l1 x10_2).f2) (fun k_ => k_ < w.heap.size) _ _ ((zB l1 x10_2).f3) ((zB l1 x10_2).f4.f0) ((zB l1 x10_2).f4.f1) t347 t348 t349 t352 _ ?side1 ?side2 ?side3 A17.out).mono ?_
           (case side1 => exact HO_345002.out)
           (case side2 => exact Kd.V_mk HC346_2.out (Kd.F_below (Kd.C_F zcf HR346_2.out) hCq))
           (case side3 => exact Kd.V_mk HC346_3.out (Kd.F_below (Kd.C_F Kd.heap_string HR346_3.out) hCq))
           rintro e w35 ⟨v350,rfl,ho0,hb⟩
           refine ⟨_,rfl,?_⟩
           have n0_ := zb.mk (Kd.V_below (by (with_reducible repeat (first | apply Kd.V_alloc | apply Kd.V_drewN | apply Kd.V_drew));exact HO_345002.out) hb)
           have n1_ := zb.mk (Kd.V_lower (Kd.V_mono (ok' := fun k_ => k_ ≠ gb344 ∧ k_ ≠ gb345) ho0 (fun k_ hk_ => ⟨Or.elim hk_ (fun hs_ => Or.elim hs_ (fun hs_ => hs_.1) (fun hs_ => Or.elim hs_ (fun hs_ => fun e_ => Nat.not_le.2 hs_ (by rw [e_];exact GW344.out)) (fun hs_ => fun e_ => Nat.not_le.2 hs_ (by rw [e_];exact GW344.out)))) (fun hn_ => (Kd.freshB (g := gb344) (o := .cells #[.int .i64 x345000_2,.int .i64 x345001_2,.slice Ao33 x345002_2.length co33] 24 (0,0)) (hGq BK344.out) k_ hn_)),Or.elim hk_ (fun hs_ => Or.elim hs_ (fun hs_ => hs_.2) (fun hs_ => Or.elim hs_ (fun hs_ => fun e_ => Nat.not_le.2 hs_ (by rw [e_];exact GW345.out)) (fun hs_ => fun e_ => Nat.not_le.2 hs_ (by rw [e_];exact GW345.out)))) (fun hn_ => (Kd.freshB (g := gb345) (o := .cells #[.int .i64 a0,.int .i64 0,.slice none 0 0] 24 (0,0)) (hGq BK345.out) k_ hn_))⟩)) (zn hCq))
           have n2_ := zb.mk (hbq BK344.out hb)
           have n3_ := zb.mk (hbq BK345.out hb)
           have n4_ := zb.mk (zh hCq hb)
           clear HO_345002
           clear BK344
           clear BK345
           clear HB
           have HO_345002 := n0_
           have HO351 := n1_
           have BK344 := n2_
           have BK345 := n3_
           have HB := n4_
           clear n0_ n1_ n2_ n3_ n4_
           (try clear hb)
           (try clear hb2)
           (try clear hk)
           (try clear hi)
           (try clear ho0)
           refine hK.out _ _ ⟨(za BK344.out 0).trans rfl,(za BK344.out 1).trans rfl,(za BK344.out 2).trans rfl,((HB.out.cell (World.block_lt_of_cell? w _ hw346_0)).trans hw346_0),((HB.out.cell (World.block_lt_of_cell? w _ hw346_1)).trans hw346_1),((HB.out.cell (World.block_lt_of_cell? w _ hw346_2)).trans hw346_2),((HB.out.cell (World.block_lt_of_cell? w _ hw346_3)).trans hw346_3),((HB.out.cell (World.block_lt_of_cell? w _ hw346_4)).trans hw346_4),((HB.out.cell (World.block_lt_of_cell? w _ hw346_5)).trans hw346_5)⟩ (fun hHeld => ?_)
           clear hK K
           refine zaN (a' := ?_) ?_ ?_
           rotate_left
           ·show Act.put _ (some 47) _ = _
            simp only [Act.put,List.setIfInBounds_toArray,List.set_cons_zero,List.set_cons_succ,zk,zm]
            rfl
           refine zv (i := 6) (N := some 41) (v := ?_) (a' := ?_) #[true,true,true,true,true,true,true,false,false,false,false,false] rfl rfl (zj HT_.out (by kernel_rfl)) (fun _ _ _ h => h) (Or.inl ⟨by rfl,?_⟩) ?_ ?_
           rotate_left
           ·intro w'
            go_simp
            with_reducible rfl
           rotate_left
           ·simp only [Act.put,List.setIfInBounds_toArray,List.set_cons_zero,List.set_cons_succ,zk,zm]
            rfl
           refine zv (i := 7) (N := some 48) (v := ?_) (a' := ?_) #[true,true,true,true,true,true,true,true,false,false,false,false] rfl rfl (zj HT_.out (by kernel_rfl)) (fun _ _ _ h => h) (Or.inl ⟨by rfl,?_⟩) ?_ ?_
           rotate_left
           ·intro w'
            go_simp
            with_reducible rfl
           rotate_left
           ·simp only [Act.put,List.setIfInBounds_toArray,List.set_cons_zero,List.set_cons_succ,zk,zm]
            rfl
           refine zv (i := 8) (N := some 49) (v := ?_) (a' := ?_) #[true,true,true,true,true,true,true,true,true,false,false,false] rfl rfl (zj HT_.out (by kernel_rfl)) (fun _ _ _ h => h) (Or.inl ⟨by rfl,?_⟩) ?_ ?_
           rotate_left
           ·intro w'
            go_simp
            with_reducible rfl
           rotate_left
           ·simp only [Act.put,List.setIfInBounds_toArray,List.set_cons_zero,List.set_cons_succ,zk,zm]
            rfl
           refine zck (i := 9) (N := some 11) #[true,true,true,true,true,true,true,true,true,true,false,false] rfl rfl (zaM HT_.out (by kernel_rfl)) (by decide) (fun K hK => ?_)
           refine zc4 ?hg (N := 11) ?hd (cs := #[.int .i64 0,.int .i64 0,.slice none 0 0]) (t := 24) ?hr ?_;(case hd => rfl);(case hg => rfl);(case hr => first | (go_simp;done) | (go_simp;rfl))
           intro gb353 hg w36 hbox hb
           have n0_ := zb.mk (Kd.V_below (Kd.V_elderB (by (with_reducible repeat (first | apply Kd.V_alloc | apply Kd.V_drewN | apply Kd.V_drew));exact HO_345002.out) gb353 (Nat.le_of_eq hg.symm)) hb)
           have n1_ := zb.mk (Kd.V_below (Kd.V_elderB (by (with_reducible repeat (first | apply Kd.V_alloc | apply Kd.V_drewN | apply Kd.V_drew));exact HO351.out) gb353 (Nat.le_of_eq hg.symm)) hb)
           have n2_ := zb.mk (hbq BK344.out hb)
           have n3_ := zb.mk (hbq BK345.out hb)
           have n4_ := zb.mk (zh hCq hb)
           have n5_ := zb.mk (hbox)
           have n6_ := zb.mk ((by rw [hg];exact (zn hCq) : w.heap.size ≤ gb353))
           have n7_ := zb.mk ((by rw [hg];exact (zn hCq) : w.heap.size ≤ gb353))
           have n8_ := zb.mk (hnq hg BK344.out)
           have n9_ := zb.mk (hmq hg BK344.out)
           have n10_ := zb.mk (hnq hg BK345.out)
           have n11_ := zb.mk (hmq hg BK345.out)
           clear HO_345002
           clear HO351
           clear BK344
           clear BK345
           clear HB
           have HO_345002 := n0_
           have HO351 := n1_
           have BK344 := n2_
           have BK345 := n3_
           have HB := n4_
           have BK353 := n5_
           have GW353 := n6_
           have GE353 := n7_
           have NB344_353 := n8_
           have NB353_344 := n9_
           have NB345_353 := n10_
           have NB353_345 := n11_
           clear n0_ n1_ n2_ n3_ n4_ n5_ n6_ n7_ n8_ n9_ n10_ n11_
           clear hb hbox hg
           refine hK.out _ _ ⟨(za BK344.out 0).trans rfl,(za BK344.out 1).trans rfl,(za BK344.out 2).trans rfl,((HB.out.cell (World.block_lt_of_cell? w _ hw346_0)).trans hw346_0),((HB.out.cell (World.block_lt_of_cell? w _ hw346_1)).trans hw346_1),((HB.out.cell (World.block_lt_of_cell? w _ hw346_2)).trans hw346_2),((HB.out.cell (World.block_lt_of_cell? w _ hw346_3)).trans hw346_3),((HB.out.cell (World.block_lt_of_cell? w _ hw346_4)).trans hw346_4),((HB.out.cell (World.block_lt_of_cell? w _ hw346_5)).trans hw346_5)⟩ (fun hHeld => ?_)
           clear hK K
           refine zaN (a' := ?_) ?_ ?_
           rotate_left
           ·show Act.put _ (some 11) _ = _
            simp only [Act.put,List.setIfInBounds_toArray,List.set_cons_zero,List.set_cons_succ,zk,zm]
            rfl
           exact zaN (by simp only [zcv,Act.put,List.setIfInBounds_toArray,List.set_cons_zero,List.set_cons_succ]) (hCont (v350,gb353) _ ⟨hHeld,(by (with_reducible repeat (first | apply Kd.V_alloc | apply Kd.V_drewN | apply Kd.V_drew));exact Kd.V_mono HO351.out (fun _ hk => ⟨hk.1.1,⟨hk.1.2,hk.2⟩⟩)),(by (with_reducible repeat (first | apply Kd.V_alloc | apply Kd.V_drewN | apply Kd.V_drew));exact Kd.V_mono HO_345002.out (fun _ hk => ⟨hk.1.1,⟨hk.1.2,hk.2⟩⟩)),(hGq BK344.out),(hGq BK345.out),(hGq BK353.out),GW353.out,GE353.out,NB344_353.out,NB353_344.out,NB345_353.out,NB353_345.out,hCq⟩)
          ·skip
           refine zc4 ?hg (N := 11) ?hd (cs := #[.int .i64 0,.int .i64 0,.slice none 0 0]) (t := 24) ?hr ?_;(case hd => rfl);(case hg => rfl);(case hr => first | (go_simp;done) | (go_simp;rfl))
           intro gb353 hg w35 hbox hb
           have n0_ := zb.mk (Kd.V_below (Kd.V_elderB (by (with_reducible repeat (first | apply Kd.V_alloc | apply Kd.V_drewN | apply Kd.V_drew));exact HO_345002.out) gb353 (Nat.le_of_eq hg.symm)) hb)
           have n1_ := zb.mk (hbq BK344.out hb)
           have n2_ := zb.mk (hbq BK345.out hb)
           have n3_ := zb.mk (zh hCq hb)
           have n4_ := zb.mk (hbox)
           have n5_ := zb.mk ((by rw [hg];exact (zn hCq) : w.heap.size ≤ gb353))
           have n6_ := zb.mk ((by rw [hg];exact (zn hCq) : w.heap.size ≤ gb353))
           have n7_ := zb.mk (hnq hg BK344.out)
           have n8_ := zb.mk (hmq hg BK344.out)
           have n9_ := zb.mk (hnq hg BK345.out)
           have n10_ := zb.mk (hmq hg BK345.out)
           clear HO_345002
           clear BK344
           clear BK345
           clear HB
           have HO_345002 := n0_
           have BK344 := n1_
           have BK345 := n2_
           have HB := n3_
           have BK353 := n4_
           have GW353 := n5_
           have GE353 := n6_
           have NB344_353 := n7_
           have NB353_344 := n8_
           have NB345_353 := n9_
           have NB353_345 := n10_
           clear n0_ n1_ n2_ n3_ n4_ n5_ n6_ n7_ n8_ n9_ n10_
           clear hb hbox hg
           refine hK.out _ _ ⟨(za BK344.out 0).trans rfl,(za BK344.out 1).trans rfl,(za BK344.out 2).trans rfl,((HB.out.cell (World.block_lt_of_cell? w _ hw346_0)).trans hw346_0),((HB.out.cell (World.block_lt_of_cell? w _ hw346_1)).trans hw346_1),((HB.out.cell (World.block_lt_of_cell? w _ hw346_2)).trans hw346_2),((HB.out.cell (World.block_lt_of_cell? w _ hw346_3)).trans hw346_3),((HB.out.cell (World.block_lt_of_cell? w _ hw346_4)).trans hw346_4),((HB.out.cell (World.block_lt_of_cell? w _ hw346_5)).trans hw346_5)⟩ (fun hHeld => ?_)
           clear hK K
           refine zaN (a' := ?_) ?_ ?_
           rotate_left
           ·show Act.put _ (some 11) _ = _
            simp only [Act.put,List.setIfInBounds_toArray,List.set_cons_zero,List.set_cons_succ,zk,zm]
            rfl
           refine zck (i := 5) (N := some 47) #[true,true,true,true,true,true,false,false,false,true,false,false] rfl rfl (zaM HT_.out (by kernel_rfl)) (by decide) (fun K hK => ?_)
           refine zbw Try.func22 (by kernel_rfl) rfl #[.agg #[.int .i64 x345000_2,.int .i64 x345001_2,.slice Ao33 x345002_2.length co33],.agg #[.int .i64 ((zB l1 x10_2).f0),.int .i64 ((zB l1 x10_2).f1),.slice A346_2 ((zB l1 x10_2).f2).length c346_2,.slice A346_3 ((zB l1 x10_2).f3).length c346_3,.int .i64 ((zB l1 x10_2).f4.f0),.int .i64 ((zB l1 x10_2).f4.f1)]] (by rfl) rfl rfl hMq ?_
           with_reducible refine (zU.calls x345000_2 x345001_2 (fun k_ => ((k_ ≠ gb344 ∧ k_ ≠ gb345) ∧ k_ ≠ gb353)) _ _ x345002_2 ((zB l1 x10_2).f0) ((zB l1 x10_2).f1) (fun k_ => k_ < w.heap.size) _ _ ((zB l1 x10_2).f2) (fun k_ => k_ < w.heap.size) _ _ ((zB l1 x10_2).f3) ((zB l1 x10_2).f4.f0) ((zB l1 x10_2).f4.f1) t347 t348 t349 t352 _ ?side1 ?side2 ?side3 A17.out).mono ?_
           (case side1 => exact HO_345002.out)
           (case side2 => exact Kd.V_mk HC346_2.out (Kd.F_below (Kd.C_F zcf HR346_2.out) hCq))
           (case side3 => exact Kd.V_mk HC346_3.out (Kd.F_below (Kd.C_F Kd.heap_string HR346_3.out) hCq))
           rintro e w36 ⟨v350,rfl,ho0,hb⟩
           refine ⟨_,rfl,?_⟩
           have n0_ := zb.mk (Kd.V_below (by (with_reducible repeat (first | apply Kd.V_alloc | apply Kd.V_drewN | apply Kd.V_drew));exact HO_345002.out) hb)
           have n1_ := zb.mk (Kd.V_lower (Kd.V_mono (ok' := fun k_ => k_ ≠ gb344 ∧ k_ ≠ gb345 ∧ k_ ≠ gb353) ho0 (fun k_ hk_ => ⟨Or.elim hk_ (fun hs_ => Or.elim hs_ (fun hs_ => hs_.1.1) (fun hs_ => Or.elim hs_ (fun hs_ => fun e_ => Nat.not_le.2 hs_ (by rw [e_];exact GW344.out)) (fun hs_ => fun e_ => Nat.not_le.2 hs_ (by rw [e_];exact GW344.out)))) (fun hn_ => (Kd.freshB (g := gb344) (o := .cells #[.int .i64 x345000_2,.int .i64 x345001_2,.slice Ao33 x345002_2.length co33] 24 (0,0)) (hGq BK344.out) k_ hn_)),Or.elim hk_ (fun hs_ => Or.elim hs_ (fun hs_ => hs_.1.2) (fun hs_ => Or.elim hs_ (fun hs_ => fun e_ => Nat.not_le.2 hs_ (by rw [e_];exact GW345.out)) (fun hs_ => fun e_ => Nat.not_le.2 hs_ (by rw [e_];exact GW345.out)))) (fun hn_ => (Kd.freshB (g := gb345) (o := .cells #[.int .i64 a0,.int .i64 0,.slice none 0 0] 24 (0,0)) (hGq BK345.out) k_ hn_)),Or.elim hk_ (fun hs_ => Or.elim hs_ (fun hs_ => hs_.2) (fun hs_ => Or.elim hs_ (fun hs_ => fun e_ => Nat.not_le.2 hs_ (by rw [e_];exact GW353.out)) (fun hs_ => fun e_ => Nat.not_le.2 hs_ (by rw [e_];exact GW353.out)))) (fun hn_ => (Kd.freshB (g := gb353) (o := .cells #[.int .i64 0,.int .i64 0,.slice none 0 0] 24 (0,0)) (hGq BK353.out) k_ hn_))⟩)) (zn hCq))
           have n2_ := zb.mk (hbq BK344.out hb)
           have n3_ := zb.mk (hbq BK345.out hb)
           have n4_ := zb.mk (hbq BK353.out hb)
           have n5_ := zb.mk (zh hCq hb)
           clear HO_345002
           clear BK344
           clear BK345
           clear BK353
           clear HB
           have HO_345002 := n0_
           have HO351 := n1_
           have BK344 := n2_
           have BK345 := n3_
           have BK353 := n4_
           have HB := n5_
           clear n0_ n1_ n2_ n3_ n4_ n5_
           (try clear hb)
           (try clear hb2)
           (try clear hk)
           (try clear hi)
           (try clear ho0)
           refine hK.out _ _ ⟨(za BK344.out 0).trans rfl,(za BK344.out 1).trans rfl,(za BK344.out 2).trans rfl,((HB.out.cell (World.block_lt_of_cell? w _ hw346_0)).trans hw346_0),((HB.out.cell (World.block_lt_of_cell? w _ hw346_1)).trans hw346_1),((HB.out.cell (World.block_lt_of_cell? w _ hw346_2)).trans hw346_2),((HB.out.cell (World.block_lt_of_cell? w _ hw346_3)).trans hw346_3),((HB.out.cell (World.block_lt_of_cell? w _ hw346_4)).trans hw346_4),((HB.out.cell (World.block_lt_of_cell? w _ hw346_5)).trans hw346_5)⟩ (fun hHeld => ?_)
           clear hK K
           refine zaN (a' := ?_) ?_ ?_
           rotate_left
           ·show Act.put _ (some 47) _ = _
            simp only [Act.put,List.setIfInBounds_toArray,List.set_cons_zero,List.set_cons_succ,zk,zm]
            rfl
           refine zv (i := 6) (N := some 41) (v := ?_) (a' := ?_) #[true,true,true,true,true,true,true,false,false,true,false,false] rfl rfl (zj HT_.out (by kernel_rfl)) (fun _ _ _ h => h) (Or.inl ⟨by rfl,?_⟩) ?_ ?_
           rotate_left
           ·intro w'
            go_simp
            with_reducible rfl
           rotate_left
           ·simp only [Act.put,List.setIfInBounds_toArray,List.set_cons_zero,List.set_cons_succ,zk,zm]
            rfl
           refine zv (i := 7) (N := some 48) (v := ?_) (a' := ?_) #[true,true,true,true,true,true,true,true,false,true,false,false] rfl rfl (zj HT_.out (by kernel_rfl)) (fun _ _ _ h => h) (Or.inl ⟨by rfl,?_⟩) ?_ ?_
           rotate_left
           ·intro w'
            go_simp
            with_reducible rfl
           rotate_left
           ·simp only [Act.put,List.setIfInBounds_toArray,List.set_cons_zero,List.set_cons_succ,zk,zm]
            rfl
           refine zv (i := 8) (N := some 49) (v := ?_) (a' := ?_) #[true,true,true,true,true,true,true,true,true,true,false,false] rfl rfl (zj HT_.out (by kernel_rfl)) (fun _ _ _ h => h) (Or.inl ⟨by rfl,?_⟩) ?_ ?_
           rotate_left
           ·intro w'
            go_simp
            with_reducible rfl
           rotate_left
           ·simp only [Act.put,List.setIfInBounds_toArray,List.set_cons_zero,List.set_cons_succ,zk,zm]
            rfl
           exact zaN (by simp only [zcv,Act.put,List.setIfInBounds_toArray,List.set_cons_zero,List.set_cons_succ]) (hCont (v350,gb353) _ ⟨hHeld,(by (with_reducible repeat (first | apply Kd.V_alloc | apply Kd.V_drewN | apply Kd.V_drew));exact HO351.out),(by (with_reducible repeat (first | apply Kd.V_alloc | apply Kd.V_drewN | apply Kd.V_drew));exact Kd.V_mono HO_345002.out (fun _ hk => ⟨hk.1.1,⟨hk.1.2,hk.2⟩⟩)),(hGq BK344.out),(hGq BK345.out),(hGq BK353.out),GW353.out,GE353.out,NB344_353.out,NB353_344.out,NB345_353.out,NB353_345.out,hCq⟩)
         rintro ⟨v350,gb353⟩ w37 ⟨hS_,h0_,h1_,h2_,h3_,h4_,h5_,h6_,h7_,h8_,h9_,h10_,h11_⟩
         have n0_ : zb (Kd.V k36 36 w37 w.heap.size (fun k_ => k_ ≠ gb344 ∧ k_ ≠ gb345 ∧ k_ ≠ gb353) v350 t349) := ⟨h0_⟩
         have n1_ : zb (Kd.V k36 36 w37 w.heap.size (fun k_ => k_ ≠ gb344 ∧ k_ ≠ gb345 ∧ k_ ≠ gb353) (.slice Ao33 x345002_2.length co33) x345002_2) := ⟨h1_⟩
         have n2_ : zb (w37.heap[gb344]? = some (.cells #[.int .i64 x345000_2,.int .i64 x345001_2,.slice Ao33 x345002_2.length co33] 24 (0,0))) := ⟨h2_⟩
         have n3_ : zb (w37.heap[gb345]? = some (.cells #[.int .i64 a0,.int .i64 0,.slice none 0 0] 24 (0,0))) := ⟨h3_⟩
         have n4_ : zb (w37.heap[gb353]? = some (.cells #[.int .i64 0,.int .i64 0,.slice none 0 0] 24 (0,0))) := ⟨h4_⟩
         have n5_ : zb (w.heap.size ≤ gb353) := ⟨h5_⟩
         have n6_ : zb (w.heap.size ≤ gb353) := ⟨h6_⟩
         have n7_ : zb (gb344 ≠ gb353) := ⟨h7_⟩
         have n8_ : zb (gb353 ≠ gb344) := ⟨h8_⟩
         have n9_ : zb (gb345 ≠ gb353) := ⟨h9_⟩
         have n10_ : zb (gb353 ≠ gb345) := ⟨h10_⟩
         have n11_ : zb (Below w.heap.size w w37) := ⟨h11_⟩
         clear HO_345002
         clear BK344
         clear BK345
         clear HB
         clear h0_ h1_ h2_ h3_ h4_ h5_ h6_ h7_ h8_ h9_ h10_ h11_
         have HO351 := n0_
         have HO_345002 := n1_
         have BK344 := n2_
         have BK345 := n3_
         have BK353 := n4_
         have GW353 := n5_
         have GE353 := n6_
         have NB344_353 := n7_
         have NB353_344 := n8_
         have NB345_353 := n9_
         have NB353_345 := n10_
         have HB := n11_
         clear n0_ n1_ n2_ n3_ n4_ n5_ n6_ n7_ n8_ n9_ n10_ n11_
         have hHeld : w37.cell? ⟨gb344,0,none⟩ = some (.int .i64 x345000_2) ∧ w37.cell? ⟨gb344,1,none⟩ = some (.int .i64 x345001_2) ∧ w37.cell? ⟨gb344,2,none⟩ = some (.slice Ao33 x345002_2.length co33) ∧ w37.cell? (ad346.add ((x10_2).toNat * 6)) = some (.int .i64 ((zB l1 x10_2).f0)) ∧ w37.cell? ⟨(ad346.add ((x10_2).toNat * 6)).block,(ad346.add ((x10_2).toNat * 6)).off + 1,none⟩ = some (.int .i64 ((zB l1 x10_2).f1)) ∧ w37.cell? ⟨(ad346.add ((x10_2).toNat * 6)).block,(ad346.add ((x10_2).toNat * 6)).off + 2,none⟩ = some (.slice A346_2 ((zB l1 x10_2).f2).length c346_2) ∧ w37.cell? ⟨(ad346.add ((x10_2).toNat * 6)).block,(ad346.add ((x10_2).toNat * 6)).off + 3,none⟩ = some (.slice A346_3 ((zB l1 x10_2).f3).length c346_3) ∧ w37.cell? ⟨(ad346.add ((x10_2).toNat * 6)).block,(ad346.add ((x10_2).toNat * 6)).off + 4,none⟩ = some (.int .i64 ((zB l1 x10_2).f4.f0)) ∧ w37.cell? ⟨(ad346.add ((x10_2).toNat * 6)).block,(ad346.add ((x10_2).toNat * 6)).off + 5,none⟩ = some (.int .i64 ((zB l1 x10_2).f4.f1)) := hS_
         obtain ⟨Ao40,co40,eo40⟩ := Kd.V_slice HO351.out
         (first | subst eo40 | (injection eo40 with f1_ f2_ f3_;have f4_ := f1_.symm;have f5_ := f3_.symm;clear f1_ f2_ f3_;subst f4_;subst f5_))
         refine zaN (a' := ?_) ?_ ?_
         rotate_left
         ·simp only [zcv,Act.put,List.setIfInBounds_toArray,List.set_cons_zero,List.set_cons_succ]
          rfl
         refine zck (i := 10) (N := none) #[true,true,true,true,true,true,true,true,true,true,true,false] rfl rfl (zaM HT_.out (by kernel_rfl)) (by decide) (fun K hK => ?_)
         have hs38 : w37.cell? ⟨gb353,0,none⟩ = some (.int .i64 0) := (za BK353.out 0).trans rfl
         have hfs38 := zc BK353.out 0
         have hns38_0 := NB344_353.out
         have hns38_1 := NB345_353.out
         have hms38_0 := NB353_344.out
         have hms38_1 := NB353_345.out
         have hs39 : w37.cell? ⟨gb353,1,none⟩ = some (.int .i64 0) := (za BK353.out 1).trans rfl
         have hfs39 := zc BK353.out 1
         have hns39_0 := NB344_353.out
         have hns39_1 := NB345_353.out
         have hms39_0 := NB353_344.out
         have hms39_1 := NB353_345.out
         have hs41 : w37.cell? ⟨gb353,2,none⟩ = some (.slice none 0 0) := (za BK353.out 2).trans rfl
         have hfs41 := zc BK353.out 2
         have hns41_0 := NB344_353.out
         have hns41_1 := NB345_353.out
         have hms41_0 := NB353_344.out
         have hms41_1 := NB353_345.out
         refine zhG (w1 := ?_) (by rfl) rfl ?_ ?_
         rotate_left
         ·go_simp
          rfl
         refine hK.out _ _ ⟨((zI (p := ⟨gb353,_,none⟩) NB344_353.out _).trans (((zI (p := ⟨gb353,_,none⟩) NB344_353.out _).trans (((zI (p := ⟨gb353,_,none⟩) NB344_353.out _).trans (hHeld.1)))))),((zI (p := ⟨gb353,_,none⟩) NB344_353.out _).trans (((zI (p := ⟨gb353,_,none⟩) NB344_353.out _).trans (((zI (p := ⟨gb353,_,none⟩) NB344_353.out _).trans (hHeld.2.1)))))),((zI (p := ⟨gb353,_,none⟩) NB344_353.out _).trans (((zI (p := ⟨gb353,_,none⟩) NB344_353.out _).trans (((zI (p := ⟨gb353,_,none⟩) NB344_353.out _).trans (hHeld.2.2.1)))))),((zI (p := ⟨gb353,_,none⟩) (by first | exact Nat.ne_of_lt (Nat.lt_of_lt_of_le (by have := World.block_lt_of_cell? _ _ hw346_0;first | rwa [zf] at this | exact this) GW353.out) | (rw [zf];exact Nat.ne_of_lt (Nat.lt_of_lt_of_le (by have := World.block_lt_of_cell? _ _ hw346_0;first | rwa [zf] at this | exact this) GW353.out)) | (show (Addr.add _ _).block ≠ _;rw [zf];exact Nat.ne_of_lt (Nat.lt_of_lt_of_le (by have := World.block_lt_of_cell? _ _ hw346_0;first | rwa [zf] at this | exact this) GW353.out)) | (dsimp only;exact Nat.ne_of_lt (Nat.lt_of_lt_of_le (by have := World.block_lt_of_cell? _ _ hw346_0;first | rwa [zf] at this | exact this) GW353.out))) _).trans (((zI (p := ⟨gb353,_,none⟩) (by first | exact Nat.ne_of_lt (Nat.lt_of_lt_of_le (by have := World.block_lt_of_cell? _ _ hw346_0;first | rwa [zf] at this | exact this) GW353.out) | (rw [zf];exact Nat.ne_of_lt (Nat.lt_of_lt_of_le (by have := World.block_lt_of_cell? _ _ hw346_0;first | rwa [zf] at this | exact this) GW353.out)) | (show (Addr.add _ _).block ≠ _;rw [zf];exact Nat.ne_of_lt (Nat.lt_of_lt_of_le (by have := World.block_lt_of_cell? _ _ hw346_0;first | rwa [zf] at this | exact this) GW353.out)) | (dsimp only;exact Nat.ne_of_lt (Nat.lt_of_lt_of_le (by have := World.block_lt_of_cell? _ _ hw346_0;first | rwa [zf] at this | exact this) GW353.out))) _).trans (((zI (p := ⟨gb353,_,none⟩) (by first | exact Nat.ne_of_lt (Nat.lt_of_lt_of_le (by have := World.block_lt_of_cell? _ _ hw346_0;first | rwa [zf] at this | exact this) GW353.out) | (rw [zf];exact Nat.ne_of_lt (Nat.lt_of_lt_of_le (by have := World.block_lt_of_cell? _ _ hw346_0;first | rwa [zf] at this | exact this) GW353.out)) | (show (Addr.add _ _).block ≠ _;rw [zf];exact Nat.ne_of_lt (Nat.lt_of_lt_of_le (by have := World.block_lt_of_cell? _ _ hw346_0;first | rwa [zf] at this | exact this) GW353.out)) | (dsimp only;exact Nat.ne_of_lt (Nat.lt_of_lt_of_le (by have := World.block_lt_of_cell? _ _ hw346_0;first | rwa [zf] at this | exact this) GW353.out))) _).trans (hHeld.2.2.2.1)))))),((zI (p := ⟨gb353,_,none⟩) (by first | exact Nat.ne_of_lt (Nat.lt_of_lt_of_le (by have := World.block_lt_of_cell? _ _ hw346_1;first | rwa [zf] at this | exact this) GW353.out) | (rw [zf];exact Nat.ne_of_lt (Nat.lt_of_lt_of_le (by have := World.block_lt_of_cell? _ _ hw346_1;first | rwa [zf] at this | exact this) GW353.out)) | (show (Addr.add _ _).block ≠ _;rw [zf];exact Nat.ne_of_lt (Nat.lt_of_lt_of_le (by have := World.block_lt_of_cell? _ _ hw346_1;first | rwa [zf] at this | exact this) GW353.out)) | (dsimp only;exact Nat.ne_of_lt (Nat.lt_of_lt_of_le (by have := World.block_lt_of_cell? _ _ hw346_1;first | rwa [zf] at this | exact this) GW353.out))) _).trans (((zI (p := ⟨gb353,_,none⟩) (by first | exact Nat.ne_of_lt (Nat.lt_of_lt_of_le (by have := World.block_lt_of_cell? _ _ hw346_1;first | rwa [zf] at this | exact this) GW353.out) | (rw [zf];exact Nat.ne_of_lt (Nat.lt_of_lt_of_le (by have := World.block_lt_of_cell? _ _ hw346_1;first | rwa [zf] at this | exact this) GW353.out)) | (show (Addr.add _ _).block ≠ _;rw [zf];exact Nat.ne_of_lt (Nat.lt_of_lt_of_le (by have := World.block_lt_of_cell? _ _ hw346_1;first | rwa [zf] at this | exact this) GW353.out)) | (dsimp only;exact Nat.ne_of_lt (Nat.lt_of_lt_of_le (by have := World.block_lt_of_cell? _ _ hw346_1;first | rwa [zf] at this | exact this) GW353.out))) _).trans (((zI (p := ⟨gb353,_,none⟩) (by first | exact Nat.ne_of_lt (Nat.lt_of_lt_of_le (by have := World.block_lt_of_cell? _ _ hw346_1;first | rwa [zf] at this | exact this) GW353.out) | (rw [zf];exact Nat.ne_of_lt (Nat.lt_of_lt_of_le (by have := World.block_lt_of_cell? _ _ hw346_1;first | rwa [zf] at this | exact this) GW353.out)) | (show (Addr.add _ _).block ≠ _;rw [zf];exact Nat.ne_of_lt (Nat.lt_of_lt_of_le (by have := World.block_lt_of_cell? _ _ hw346_1;first | rwa [zf] at this | exact this) GW353.out)) | (dsimp only;exact Nat.ne_of_lt (Nat.lt_of_lt_of_le (by have := World.block_lt_of_cell? _ _ hw346_1;first | rwa [zf] at this | exact this) GW353.out))) _).trans (hHeld.2.2.2.2.1)))))),((zI (p := ⟨gb353,_,none⟩) (by first | exact Nat.ne_of_lt (Nat.lt_of_lt_of_le (by have := World.block_lt_of_cell? _ _ hw346_2;first | rwa [zf] at this | exact this) GW353.out) | (rw [zf];exact Nat.ne_of_lt (Nat.lt_of_lt_of_le (by have := World.block_lt_of_cell? _ _ hw346_2;first | rwa [zf] at this | exact this) GW353.out)) | (show (Addr.add _ _).block ≠ _;rw [zf];exact Nat.ne_of_lt (Nat.lt_of_lt_of_le (by have := World.block_lt_of_cell? _ _ hw346_2;first | rwa [zf] at this | exact this) GW353.out)) | (dsimp only;exact Nat.ne_of_lt (Nat.lt_of_lt_of_le (by have := World.block_lt_of_cell? _ _ hw346_2;first | rwa [zf] at this | exact this) GW353.out))) _).trans (((zI (p := ⟨gb353,_,none⟩) (by first | exact Nat.ne_of_lt (Nat.lt_of_lt_of_le (by have := World.block_lt_of_cell? _ _ hw346_2;first | rwa [zf] at this | exact this) GW353.out) | (rw [zf];exact Nat.ne_of_lt (Nat.lt_of_lt_of_le (by have := World.block_lt_of_cell? _ _ hw346_2;first | rwa [zf] at this | exact this) GW353.out)) | (show (Addr.add _ _).block ≠ _;rw [zf];exact Nat.ne_of_lt (Nat.lt_of_lt_of_le (by have := World.block_lt_of_cell? _ _ hw346_2;first | rwa [zf] at this | exact this) GW353.out)) | (dsimp only;exact Nat.ne_of_lt (Nat.lt_of_lt_of_le (by have := World.block_lt_of_cell? _ _ hw346_2;first | rwa [zf] at this | exact this) GW353.out))) _).trans (((zI (p := ⟨gb353,_,none⟩) (by first | exact Nat.ne_of_lt (Nat.lt_of_lt_of_le (by have := World.block_lt_of_cell? _ _ hw346_2;first | rwa [zf] at this | exact this) GW353.out) | (rw [zf];exact Nat.ne_of_lt (Nat.lt_of_lt_of_le (by have := World.block_lt_of_cell? _ _ hw346_2;first | rwa [zf] at this | exact this) GW353.out)) | (show (Addr.add _ _).block ≠ _;rw [zf];exact Nat.ne_of_lt (Nat.lt_of_lt_of_le (by have := World.block_lt_of_cell? _ _ hw346_2;first | rwa [zf] at this | exact this) GW353.out)) | (dsimp only;exact Nat.ne_of_lt (Nat.lt_of_lt_of_le (by have := World.block_lt_of_cell? _ _ hw346_2;first | rwa [zf] at this | exact this) GW353.out))) _).trans (hHeld.2.2.2.2.2.1)))))),((zI (p := ⟨gb353,_,none⟩) (by first | exact Nat.ne_of_lt (Nat.lt_of_lt_of_le (by have := World.block_lt_of_cell? _ _ hw346_3;first | rwa [zf] at this | exact this) GW353.out) | (rw [zf];exact Nat.ne_of_lt (Nat.lt_of_lt_of_le (by have := World.block_lt_of_cell? _ _ hw346_3;first | rwa [zf] at this | exact this) GW353.out)) | (show (Addr.add _ _).block ≠ _;rw [zf];exact Nat.ne_of_lt (Nat.lt_of_lt_of_le (by have := World.block_lt_of_cell? _ _ hw346_3;first | rwa [zf] at this | exact this) GW353.out)) | (dsimp only;exact Nat.ne_of_lt (Nat.lt_of_lt_of_le (by have := World.block_lt_of_cell? _ _ hw346_3;first | rwa [zf] at this | exact this) GW353.out))) _).trans (((zI (p := ⟨gb353,_,none⟩) (by first | exact Nat.ne_of_lt (Nat.lt_of_lt_of_le (by have := World.block_lt_of_cell? _ _ hw346_3;first | rwa [zf] at this | exact this) GW353.out) | (rw [zf];exact Nat.ne_of_lt (Nat.lt_of_lt_of_le (by have := World.block_lt_of_cell? _ _ hw346_3;first | rwa [zf] at this | exact this) GW353.out)) | (show (Addr.add _ _).block ≠ _;rw [zf];exact Nat.ne_of_lt (Nat.lt_of_lt_of_le (by have := World.block_lt_of_cell? _ _ hw346_3;first | rwa [zf] at this | exact this) GW353.out)) | (dsimp only;exact Nat.ne_of_lt (Nat.lt_of_lt_of_le (by have := World.block_lt_of_cell? _ _ hw346_3;first | rwa [zf] at this | exact this) GW353.out))) _).trans (((zI (p := ⟨gb353,_,none⟩) (by first | exact Nat.ne_of_lt (Nat.lt_of_lt_of_le (by have := World.block_lt_of_cell? _ _ hw346_3;first | rwa [zf] at this | exact this) GW353.out) | (rw [zf];exact Nat.ne_of_lt (Nat.lt_of_lt_of_le (by have := World.block_lt_of_cell? _ _ hw346_3;first | rwa [zf] at this | exact this) GW353.out)) | (show (Addr.add _ _).block ≠ _;rw [zf];exact Nat.ne_of_lt (Nat.lt_of_lt_of_le (by have := World.block_lt_of_cell? _ _ hw346_3;first | rwa [zf] at this | exact this) GW353.out)) | (dsimp only;exact Nat.ne_of_lt (Nat.lt_of_lt_of_le (by have := World.block_lt_of_cell? _ _ hw346_3;first | rwa [zf] at this | exact this) GW353.out))) _).trans (hHeld.2.2.2.2.2.2.1)))))),((zI (p := ⟨gb353,_,none⟩) (by first | exact Nat.ne_of_lt (Nat.lt_of_lt_of_le (by have := World.block_lt_of_cell? _ _ hw346_4;first | rwa [zf] at this | exact this) GW353.out) | (rw [zf];exact Nat.ne_of_lt (Nat.lt_of_lt_of_le (by have := World.block_lt_of_cell? _ _ hw346_4;first | rwa [zf] at this | exact this) GW353.out)) | (show (Addr.add _ _).block ≠ _;rw [zf];exact Nat.ne_of_lt (Nat.lt_of_lt_of_le (by have := World.block_lt_of_cell? _ _ hw346_4;first | rwa [zf] at this | exact this) GW353.out)) | (dsimp only;exact Nat.ne_of_lt (Nat.lt_of_lt_of_le (by have := World.block_lt_of_cell? _ _ hw346_4;first | rwa [zf] at this | exact this) GW353.out))) _).trans (((zI (p := ⟨gb353,_,none⟩) (by first | exact Nat.ne_of_lt (Nat.lt_of_lt_of_le (by have := World.block_lt_of_cell? _ _ hw346_4;first | rwa [zf] at this | exact this) GW353.out) | (rw [zf];exact Nat.ne_of_lt (Nat.lt_of_lt_of_le (by have := World.block_lt_of_cell? _ _ hw346_4;first | rwa [zf] at this | exact this) GW353.out)) | (show (Addr.add _ _).block ≠ _;rw [zf];exact Nat.ne_of_lt (Nat.lt_of_lt_of_le (by have := World.block_lt_of_cell? _ _ hw346_4;first | rwa [zf] at this | exact this) GW353.out)) | (dsimp only;exact Nat.ne_of_lt (Nat.lt_of_lt_of_le (by have := World.block_lt_of_cell? _ _ hw346_4;first | rwa [zf] at this | exact this) GW353.out))) _).trans (((zI (p := ⟨gb353,_,none⟩) (by first | exact Nat.ne_of_lt (Nat.lt_of_lt_of_le (by have := World.block_lt_of_cell? _ _ hw346_4;first | rwa [zf] at this | exact this) GW353.out) | (rw [zf];exact Nat.ne_of_lt (Nat.lt_of_lt_of_le (by have := World.block_lt_of_cell? _ _ hw346_4;first | rwa [zf] at this | exact this) GW353.out)) | (show (Addr.add _ _).block ≠ _;rw [zf];exact Nat.ne_of_lt (Nat.lt_of_lt_of_le (by have := World.block_lt_of_cell? _ _ hw346_4;first | rwa [zf] at this | exact this) GW353.out)) | (dsimp only;exact Nat.ne_of_lt (Nat.lt_of_lt_of_le (by have := World.block_lt_of_cell? _ _ hw346_4;first | rwa [zf] at this | exact this) GW353.out))) _).trans (hHeld.2.2.2.2.2.2.2.1)))))),((zI (p := ⟨gb353,_,none⟩) (by first | exact Nat.ne_of_lt (Nat.lt_of_lt_of_le (by have := World.block_lt_of_cell? _ _ hw346_5;first | rwa [zf] at this | exact this) GW353.out) | (rw [zf];exact Nat.ne_of_lt (Nat.lt_of_lt_of_le (by have := World.block_lt_of_cell? _ _ hw346_5;first | rwa [zf] at this | exact this) GW353.out)) | (show (Addr.add _ _).block ≠ _;rw [zf];exact Nat.ne_of_lt (Nat.lt_of_lt_of_le (by have := World.block_lt_of_cell? _ _ hw346_5;first | rwa [zf] at this | exact this) GW353.out)) | (dsimp only;exact Nat.ne_of_lt (Nat.lt_of_lt_of_le (by have := World.block_lt_of_cell? _ _ hw346_5;first | rwa [zf] at this | exact this) GW353.out))) _).trans (((zI (p := ⟨gb353,_,none⟩) (by first | exact Nat.ne_of_lt (Nat.lt_of_lt_of_le (by have := World.block_lt_of_cell? _ _ hw346_5;first | rwa [zf] at this | exact this) GW353.out) | (rw [zf];exact Nat.ne_of_lt (Nat.lt_of_lt_of_le (by have := World.block_lt_of_cell? _ _ hw346_5;first | rwa [zf] at this | exact this) GW353.out)) | (show (Addr.add _ _).block ≠ _;rw [zf];exact Nat.ne_of_lt (Nat.lt_of_lt_of_le (by have := World.block_lt_of_cell? _ _ hw346_5;first | rwa [zf] at this | exact this) GW353.out)) | (dsimp only;exact Nat.ne_of_lt (Nat.lt_of_lt_of_le (by have := World.block_lt_of_cell? _ _ hw346_5;first | rwa [zf] at this | exact this) GW353.out))) _).trans (((zI (p := ⟨gb353,_,none⟩) (by first | exact Nat.ne_of_lt (Nat.lt_of_lt_of_le (by have := World.block_lt_of_cell? _ _ hw346_5;first | rwa [zf] at this | exact this) GW353.out) | (rw [zf];exact Nat.ne_of_lt (Nat.lt_of_lt_of_le (by have := World.block_lt_of_cell? _ _ hw346_5;first | rwa [zf] at this | exact this) GW353.out)) | (show (Addr.add _ _).block ≠ _;rw [zf];exact Nat.ne_of_lt (Nat.lt_of_lt_of_le (by have := World.block_lt_of_cell? _ _ hw346_5;first | rwa [zf] at this | exact this) GW353.out)) | (dsimp only;exact Nat.ne_of_lt (Nat.lt_of_lt_of_le (by have := World.block_lt_of_cell? _ _ hw346_5;first | rwa [zf] at this | exact this) GW353.out))) _).trans (hHeld.2.2.2.2.2.2.2.2))))))⟩ (fun hHeld => ?_)
         clear hK K
         refine zv (i := 11) (N := some 12) (v := ?_) (a' := ?_) #[true,true,true,true,true,true,true,true,true,true,true,true] rfl rfl (zj HT_.out (by kernel_rfl)) (fun _ _ _ h => h) (Or.inl ⟨by rfl,?_⟩) ?_ ?_
         rotate_left
         ·intro w'
          go_simp
          with_reducible rfl
         rotate_left
         ·simp only [Act.put,List.setIfInBounds_toArray,List.set_cons_zero,List.set_cons_succ,zk,zm]
          rfl
         refine zbh (zaz HT_.out (by kernel_rfl)) ?_
         try go_wp2
         go_ret
         exact ⟨hHq,hCq⟩
       ·rw [if_neg c16] at H
        exact absurd H (by simp)
      ·rw [if_neg c15] at H
       have c15b0 : decide (x10_2 < (l1.length : Int)) = false := decide_eq_false c15
       clear c15
       by_cases c42 : (l1.length : Int) = 0
       ·rw [if_pos c42] at H
        exact absurd H (by simp)
       ·rw [if_neg c42] at H
        have c42b0 : ((l1.length : Int) == 0) = false := beq_eq_false_iff_ne.mpr c42
        have c42b1 : ((l1.length : Int) != 0) = true := bne_iff_ne.mpr c42
        have c42b2 : ¬ (l1 = []) := fun h_ => c42 (by rw [h_];rfl)
        have HC43 := zb.mk H
        clear H
        go_upto_if 58 with (fail)
        go_cut [13] (fun v13 wc => ∃ (kq : Nat) (x13_42 : Int),v13 = .int .i64 x13_42 ∧ zb (zd.j2 kq l1 x13_42 x345000_2 x345001_2 x345002_2 a0 0 = some r) ∧ zb (kq ≤ k2) ∧ zb (Kd.V k36 36 wc w.heap.size (fun k_ => k_ ≠ gb344 ∧ k_ ≠ gb345) u345002 x345002_2) ∧ zb (wc.heap[gb344]? = some (.cells #[.int .i64 x345000_2,.int .i64 x345001_2,u345002] 24 (0,0))) ∧ zb (wc.heap[gb345]? = some (.cells #[.int .i64 a0,.int .i64 0,(.slice none 0 0)] 24 (0,0))) ∧ zb (Below w.heap.size w wc))
        case first =>
         have H := HC43.out
         clear HC43
         by_cases c44 : (Int.tmod a2 (l1.length : Int)) < 0
         ·rw [if_pos c44] at H
          have c44b0 : decide ((Int.tmod a2 (l1.length : Int)) < 0) = true := decide_eq_true c44
          clear c44
          (first | rw [c44b0] | (simp only [zk,zm];rw [c44b0]) | skip)
          have H' := zb.mk H
          clear H
          go_wp2
          go_meet
          case rel => exact ⟨_,(0),(hDq),H',⟨by have := HJ4.out;have := HK2.out;first | omega | exact Nat.le_refl _⟩,⟨by (with_reducible repeat (first | apply Kd.V_alloc | apply Kd.V_drewN | apply Kd.V_drew));exact HO_345002.out⟩,⟨hGq BK344.out⟩,⟨hGq BK345.out⟩,⟨by repeat (first | (with_reducible first | exact HB.out | apply zq | apply zp | apply zG | refine zo ?_ GE344.out | refine zo ?_ GE345.out) | exact HB.out)⟩⟩
         ·rw [if_neg c44] at H
          have c44b0 : decide ((Int.tmod a2 (l1.length : Int)) < 0) = false := decide_eq_false c44
          clear c44
          (first | rw [c44b0] | (simp only [zk,zm];rw [c44b0]) | skip)
          have H' := zb.mk H
          clear H
          go_wp2
          go_meet
          case rel => exact ⟨_,(Int.tmod a2 (l1.length : Int)),(hDq),H',⟨by have := HJ4.out;have := HK2.out;first | omega | exact Nat.le_refl _⟩,⟨by (with_reducible repeat (first | apply Kd.V_alloc | apply Kd.V_drewN | apply Kd.V_drew));exact HO_345002.out⟩,⟨hGq BK344.out⟩,⟨hGq BK345.out⟩,⟨by repeat (first | (with_reducible first | exact HB.out | apply zq | apply zp | apply zG | refine zo ?_ GE344.out | refine zo ?_ GE345.out) | exact HB.out)⟩⟩
        case rest =>
         clear HC43
         try clear c1;try clear c2;try clear p2;try clear c3;try clear p3;try clear q3;try clear hx3;try clear c4;try clear p6;try clear c15;try clear c15b0;try clear c16;try clear c18;try clear c18b0;try clear c18b1;try clear c22;try clear c28;try clear c29;try clear c31;try clear c34;try clear p34;try clear q34;try clear hx34;try clear c42;try clear c42b0;try clear c42b1;try clear c42b2;try clear c44;try clear c44b0;try clear hcz30_0;try clear hcz30_1;try clear hcz30_2;try clear hcz32_0;try clear hcz32_1;try clear hcz32_2;try clear hfz30_0;try clear hfz30_1;try clear hfz30_2;try clear hfz32_0;try clear hfz32_1;try clear hfz32_2;try clear hx346_0;try clear hx346_1;try clear hx346_2;try clear hx346_3;try clear hx346_4;try clear hx346_5;try clear p346;try clear q346
         obtain ⟨kq,x13_42,rfl,HA,HJ42,HO_345002,BK344,BK345,HB⟩ := hcut
         cases kq with
         | zero => exact absurd HA.out (by simp [zd.j2])
         | succ kj42 =>
          have H := HA.out
          clear HA
          simp only [zd.j2] at H
          have H' := zb.mk H
          clear H
          go_wp2
          go_loopg [14] kj42 (fun kq v14 w' => ∃ (x14_4 : Int) (x346000_4 : Int) (x346001_4 : Int) (x346002_4 : List (S36)) (u346002 : Value),v14 = .int .i64 x14_4 ∧ zb (zd.l1 kq l1 x13_42 x14_4 x345000_2 x345001_2 x345002_2 x346000_4 x346001_4 x346002_4 = some r) ∧ zb (kq ≤ kj42) ∧ zb (Kd.V k36 36 w' w.heap.size (fun k_ => k_ ≠ gb344 ∧ k_ ≠ gb345) u345002 x345002_2) ∧ zb (Kd.V k36 36 w' w.heap.size (fun k_ => k_ ≠ gb344 ∧ k_ ≠ gb345) u346002 x346002_4) ∧ zb (w'.heap[gb344]? = some (.cells #[.int .i64 x345000_2,.int .i64 x345001_2,u345002] 24 (0,0))) ∧ zb (w'.heap[gb345]? = some (.cells #[.int .i64 x346000_4,.int .i64 x346001_4,u346002] 24 (0,0))) ∧ zb (Below w.heap.size w w'))
          case atStart => exact ⟨(0),(a0),(0),(([] : List (S36))),(.slice none 0 0),(hDq),H',⟨Nat.le_refl _⟩,⟨by (with_reducible repeat (first | apply Kd.V_alloc | apply Kd.V_drewN | apply Kd.V_drew));exact HO_345002.out⟩,⟨by first | exact Kd.R_nil _ _ _ _ _ | exact Kd.N_nil _ _ _ _ _ | exact Kd.V_nil _ _ _ _ _ | exact Kd.Q_nil _ _ _ _ _ | exact Kd.S_nil _ _ _ _ _⟩,⟨hGq BK344.out⟩,⟨hGq BK345.out⟩,⟨by repeat (first | (with_reducible first | exact HB.out | apply zq | apply zp | apply zG | refine zo ?_ GE344.out | refine zo ?_ GE345.out) | exact HB.out)⟩⟩
          case round =>
           clear H'
           try clear c1;try clear c2;try clear p2;try clear c3;try clear p3;try clear q3;try clear hx3;try clear c4;try clear p6;try clear c15;try clear c15b0;try clear c16;try clear c18;try clear c18b0;try clear c18b1;try clear c22;try clear c28;try clear c29;try clear c31;try clear c34;try clear p34;try clear q34;try clear hx34;try clear c42;try clear c42b0;try clear c42b1;try clear c42b2;try clear c44;try clear c44b0;try clear hcz30_0;try clear hcz30_1;try clear hcz30_2;try clear hcz32_0;try clear hcz32_1;try clear hcz32_2;try clear hfz30_0;try clear hfz30_1;try clear hfz30_2;try clear hfz32_0;try clear hfz32_1;try clear hfz32_2;try clear hx346_0;try clear hx346_1;try clear hx346_2;try clear hx346_3;try clear hx346_4;try clear hx346_5;try clear p2;try clear p3;try clear p34;try clear p346;try clear p6;try clear q3;try clear q34;try clear q346
           obtain ⟨x14_4,x346000_4,x346001_4,x346002_4,u346002,rfl,HA,HK4,HO_345002,HO_346002,BK344,BK345,HB⟩ := hrel
           cases gk with
           | zero => exact absurd HA.out (by simp [zd.l1])
           | succ k4 =>
            have H := HA.out
            clear HA
            simp only [zd.l1] at H
            by_cases c45 : x14_4 < (l1.length : Int)
            ·rw [if_pos c45] at H
             have c45b0 : decide (x14_4 < (l1.length : Int)) = true := decide_eq_true c45
             clear c45
             have H' := zb.mk H
             clear H
             go_wp2
             go_loopg [15] k4 (fun kq v15 w' => ∃ (x15_5 : Int) (x346000_5 : Int) (x346001_5 : Int) (x346002_5 : List (S36)) (u346002 : Value),v15 = .int .i64 x15_5 ∧ zb (zd.l2 kq l1 x13_42 x14_4 x15_5 x345000_2 x345001_2 x345002_2 x346000_5 x346001_5 x346002_5 = some r) ∧ zb (kq ≤ k4) ∧ zb (Kd.V k36 36 w' w.heap.size (fun k_ => k_ ≠ gb344 ∧ k_ ≠ gb345) u345002 x345002_2) ∧ zb (Kd.V k36 36 w' w.heap.size (fun k_ => k_ ≠ gb344 ∧ k_ ≠ gb345) u346002 x346002_5) ∧ zb (w'.heap[gb344]? = some (.cells #[.int .i64 x345000_2,.int .i64 x345001_2,u345002] 24 (0,0))) ∧ zb (w'.heap[gb345]? = some (.cells #[.int .i64 x346000_5,.int .i64 x346001_5,u346002] 24 (0,0))) ∧ zb (Below w.heap.size w w'))
             case atStart => exact ⟨(0),(x346000_4),(x346001_4),(x346002_4),(u346002),(hDq),H',⟨Nat.le_refl _⟩,⟨by (with_reducible repeat (first | apply Kd.V_alloc | apply Kd.V_drewN | apply Kd.V_drew));exact HO_345002.out⟩,⟨by (with_reducible repeat (first | apply Kd.V_alloc | apply Kd.V_drewN | apply Kd.V_drew));exact HO_346002.out⟩,⟨hGq BK344.out⟩,⟨hGq BK345.out⟩,⟨by repeat (first | (with_reducible first | exact HB.out | apply zq | apply zp | apply zG | refine zo ?_ GE344.out | refine zo ?_ GE345.out) | exact HB.out)⟩⟩
             case round =>
              clear H'
              try clear c1;try clear c2;try clear p2;try clear c3;try clear p3;try clear q3;try clear hx3;try clear c4;try clear p6;try clear c15;try clear c15b0;try clear c16;try clear c18;try clear c18b0;try clear c18b1;try clear c22;try clear c28;try clear c29;try clear c31;try clear c34;try clear p34;try clear q34;try clear hx34;try clear c42;try clear c42b0;try clear c42b1;try clear c42b2;try clear c44;try clear c44b0;try clear c45;try clear c45b0;try clear hcz30_0;try clear hcz30_1;try clear hcz30_2;try clear hcz32_0;try clear hcz32_1;try clear hcz32_2;try clear hfz30_0;try clear hfz30_1;try clear hfz30_2;try clear hfz32_0;try clear hfz32_1;try clear hfz32_2;try clear hx346_0;try clear hx346_1;try clear hx346_2;try clear hx346_3;try clear hx346_4;try clear hx346_5;try clear p2;try clear p3;try clear p34;try clear p346;try clear p6;try clear q3;try clear q34;try clear q346
              obtain ⟨x15_5,x346000_5,x346001_5,x346002_5,u346002,rfl,HA,HK5,HO_345002,HO_346002,BK344,BK345,HB⟩ := hrel
              cases gk with
              | zero => exact absurd HA.out (by simp [zd.l2])
              | succ k5 =>
               have H := HA.out
               clear HA
               simp only [zd.l2] at H
               by_cases c46 : x15_5 < (l1.length : Int)
               ·rw [if_pos c46] at H
                have c46b0 : decide (x15_5 < (l1.length : Int)) = true := decide_eq_true c46
                clear c46
                by_cases c47 : (l1.length : Int) = 0
                ·rw [if_pos c47] at H
                 exact absurd H (by simp)
                ·rw [if_neg c47] at H
                 have c47b0 : ((l1.length : Int) == 0) = false := beq_eq_false_iff_ne.mpr c47
                 have c47b1 : ((l1.length : Int) != 0) = true := bne_iff_ne.mpr c47
                 have c47b2 : ¬ (l1 = []) := fun h_ => c47 (by rw [h_];rfl)
                 obtain ⟨ji48,hji48⟩ : ∃ j_ : Int,(Int.tmod (wrap64 (x15_5 + x13_42)) (l1.length : Int)) = j_ := ⟨_,rfl⟩
                 replace H : (if 0 ≤ (ji48) then (if (ji48) < (l1.length : Int) then ((zU.f x346000_5 x346001_5 x346002_5 ((zB l1 (ji48)).f0) ((zB l1 (ji48)).f1) ((zB l1 (ji48)).f2) ((zB l1 (ji48)).f3) ((zB l1 (ji48)).f4.f0) ((zB l1 (ji48)).f4.f1)).bind fun bt356 => (zd.l2 k5 l1 x13_42 x14_4 (wrap64 (x15_5 + 1)) x345000_2 x345001_2 x345002_2 bt356.1 bt356.2.1 bt356.2.2.1)) else (none)) else (none)) = some r := by first | (rw [hji48] at H;exact H) | (simp only [hji48] at H ⊢;exact H)
                 by_cases c49 : 0 ≤ (ji48)
                 ·rw [if_pos c49] at H
                  have c49b0 : decide (0 ≤ (ji48)) = true := decide_eq_true c49
                  clear c49
                  by_cases c50 : (ji48) < (l1.length : Int)
                  ·rw [if_pos c50] at H
                   have c50b0 : decide ((ji48) < (l1.length : Int)) = true := decide_eq_true c50
                   clear c50
                   replace H := Option.bind_eq_some_iff.mp H
                   obtain ⟨⟨t356,t357,t358,t361⟩,A510,H⟩ := H
                   replace H : (zd.l2 k5 l1 x13_42 x14_4 (wrap64 (x15_5 + 1)) x345000_2 x345001_2 x345002_2 t356 t357 t358) = some r := H
                   have A51 := zb.mk A510
                   clear A510
                   have H' := zb.mk H
                   clear H
                   try go_wp2
                   have n0_ := zb.mk (Kd.V_drew HO_345002.out)
                   have n1_ := zb.mk (Kd.V_drew HO_346002.out)
                   have n2_ := zb.mk (zab BK344.out)
                   have n3_ := zb.mk (zab BK345.out)
                   have n4_ := zb.mk (zG HB.out)
                   clear HO_345002
                   clear HO_346002
                   clear BK344
                   clear BK345
                   clear HB
                   have HO_345002 := n0_
                   have HO_346002 := n1_
                   have BK344 := n2_
                   have BK345 := n3_
                   have HB := n4_
                   clear n0_ n1_ n2_ n3_ n4_
                   have p355 : 0 ≤ ((ji48) : Int) := hFq
                   have q355 : (ji48) < (l1.length : Int) := hFq
                   obtain ⟨ad355,A355_2,c355_2,A355_3,c355_3,e355,hx355_0,hx355_1,hx355_2,hx355_3,hx355_4,hx355_5,hl355_2,hi355_2,hl355_3,hi355_3⟩ := zfT HR1.out (ji48) p355 q355
                   have hw355_5 := hx355_5
                   have hw355_4 := hx355_4
                   have hw355_3 := hx355_3
                   have hw355_2 := hx355_2
                   have hw355_1 := hx355_1
                   have hw355_0 := hx355_0
                   cases e355
                   replace hx355_0 := (HB.out.cell (World.block_lt_of_cell? w _ hx355_0)).trans hx355_0
                   replace hx355_1 := (HB.out.cell (World.block_lt_of_cell? w _ hx355_1)).trans hx355_1
                   replace hx355_2 := (HB.out.cell (World.block_lt_of_cell? w _ hx355_2)).trans hx355_2
                   replace hx355_3 := (HB.out.cell (World.block_lt_of_cell? w _ hx355_3)).trans hx355_3
                   replace hx355_4 := (HB.out.cell (World.block_lt_of_cell? w _ hx355_4)).trans hx355_4
                   replace hx355_5 := (HB.out.cell (World.block_lt_of_cell? w _ hx355_5)).trans hx355_5
                   have HR355_2 := zb.mk hi355_2
                   have HC355_2 := zb.mk hl355_2
                   clear hi355_2 hl355_2
                   have HR355_3 := zb.mk hi355_3
                   have HC355_3 := zb.mk hl355_3
                   clear hi355_3 hl355_3
                   replace p355 := eq_true p355
                   replace q355 := eq_true q355
                   obtain ⟨Ao53,co53,eo53⟩ := Kd.V_slice HO_346002.out
                   (first | subst eo53 | (injection eo53 with f1_ f2_ f3_;have f4_ := f1_.symm;have f5_ := f3_.symm;clear f1_ f2_ f3_;subst f4_;subst f5_))
                   refine zbt (n := 15) (S := fun w' => w'.cell? ⟨gb345,0,none⟩ = some (.int .i64 x346000_5) ∧ w'.cell? ⟨gb345,1,none⟩ = some (.int .i64 x346001_5) ∧ w'.cell? ⟨gb345,2,none⟩ = some (.slice Ao53 x346002_5.length co53) ∧ w'.cell? (ad355.add (((ji48)).toNat * 6)) = some (.int .i64 ((zB l1 (ji48)).f0)) ∧ w'.cell? ⟨(ad355.add (((ji48)).toNat * 6)).block,(ad355.add (((ji48)).toNat * 6)).off + 1,none⟩ = some (.int .i64 ((zB l1 (ji48)).f1)) ∧ w'.cell? ⟨(ad355.add (((ji48)).toNat * 6)).block,(ad355.add (((ji48)).toNat * 6)).off + 2,none⟩ = some (.slice A355_2 ((zB l1 (ji48)).f2).length c355_2) ∧ w'.cell? ⟨(ad355.add (((ji48)).toNat * 6)).block,(ad355.add (((ji48)).toNat * 6)).off + 3,none⟩ = some (.slice A355_3 ((zB l1 (ji48)).f3).length c355_3) ∧ w'.cell? ⟨(ad355.add (((ji48)).toNat * 6)).block,(ad355.add (((ji48)).toNat * 6)).off + 4,none⟩ = some (.int .i64 ((zB l1 (ji48)).f4.f0)) ∧ w'.cell? ⟨(ad355.add (((ji48)).toNat * 6)).block,(ad355.add (((ji48)).toNat * 6)).off + 5,none⟩ = some (.int .i64 ((zB l1 (ji48)).f4.f1))) (ds := [14]) #[false,false,false,false,false,false,false,false,false,false,false,false,false,false,false] (by kernel_rfl) rfl rfl ⟨(za BK345.out 0).trans rfl,(za BK345.out 1).trans rfl,(za BK345.out 2).trans rfl,((HB.out.cell (World.block_lt_of_cell? w _ hw355_0)).trans hw355_0),((HB.out.cell (World.block_lt_of_cell? w _ hw355_1)).trans hw355_1),((HB.out.cell (World.block_lt_of_cell? w _ hw355_2)).trans hw355_2),((HB.out.cell (World.block_lt_of_cell? w _ hw355_3)).trans hw355_3),((HB.out.cell (World.block_lt_of_cell? w _ hw355_4)).trans hw355_4),((HB.out.cell (World.block_lt_of_cell? w _ hw355_5)).trans hw355_5)⟩ (fun hHeld => ?_);refine zaA zd.tab22 zd.bits22 (fun HT_ HW_ => ?_)
                   generalize wr.drew = w52 at HO_345002 HO_346002 BK344 BK345 HB HR355_2 HR355_3 hx355_0 hx355_1 hx355_2 hx355_3 hx355_4 hx355_5 hHeld ⊢
                   refine zv (i := 1) (N := some 73) (v := ?_) (a' := ?_) #[false,true,false,false,false,false,false,false,false,false,false,false,false,false,false] rfl rfl (zj HT_.out (by kernel_rfl)) (fun _ _ _ h => h) (Or.inl ⟨by rfl,?_⟩) ?_ ?_
                   rotate_left
                   ·intro w'
                    go_simp
                    with_reducible rfl
                   rotate_left
                   ·simp only [Act.put,List.setIfInBounds_toArray,List.set_cons_zero,List.set_cons_succ,zk,zm]
                    rfl
                   refine zv (i := 2) (N := some 74) (v := ?_) (a' := ?_) #[false,true,true,false,false,false,false,false,false,false,false,false,false,false,false] rfl rfl (zj HT_.out (by kernel_rfl)) (fun _ _ _ h => h) (Or.inl ⟨by rfl,?_⟩) ?_ ?_
                   rotate_left
                   ·intro w'
                    go_simp
                    with_reducible rfl
                   rotate_left
                   ·simp only [Act.put,List.setIfInBounds_toArray,List.set_cons_zero,List.set_cons_succ,zk,zm]
                    rfl
                   refine zv (i := 3) (N := some 75) (v := ?_) (a' := ?_) #[false,true,true,true,false,false,false,false,false,false,false,false,false,false,false] rfl rfl (zj HT_.out (by kernel_rfl)) (fun _ _ _ h => h) (Or.inl ⟨by rfl,?_⟩) ?_ ?_
                   rotate_left
                   ·intro w'
                    go_simp
                    with_reducible rfl
                   rotate_left
                   ·simp only [Act.put,List.setIfInBounds_toArray,List.set_cons_zero,List.set_cons_succ,zk,zm]
                    rfl
                   refine zv (i := 4) (N := some 76) (v := ?_) (a' := ?_) #[false,true,true,true,true,false,false,false,false,false,false,false,false,false,false] rfl rfl (zj HT_.out (by kernel_rfl)) (fun _ _ _ h => h) (Or.inl ⟨by rfl,?_⟩) ?_ ?_
                   rotate_left
                   ·intro w'
                    go_simp
                    with_reducible rfl
                   rotate_left
                   ·simp only [Act.put,List.setIfInBounds_toArray,List.set_cons_zero,List.set_cons_succ,zk,zm]
                    rfl
                   refine zv (i := 5) (N := some 77) (v := ?_) (a' := ?_) #[false,true,true,true,true,true,false,false,false,false,false,false,false,false,false] rfl rfl (zj HT_.out (by kernel_rfl)) (fun _ _ _ h => h) (Or.inl ⟨by rfl,?_⟩) ?_ ?_
                   rotate_left
                   ·intro w'
                    go_simp
                    with_reducible rfl
                   rotate_left
                   ·simp only [Act.put,List.setIfInBounds_toArray,List.set_cons_zero,List.set_cons_succ,zk,zm]
                    rfl
                   refine zv (i := 6) (N := some 78) (v := ?_) (a' := ?_) #[false,true,true,true,true,true,true,false,false,false,false,false,false,false,false] rfl rfl (zj HT_.out (by kernel_rfl)) (fun _ _ _ h => h) (Or.inl ⟨by rfl,?_⟩) ?_ ?_
                   rotate_left
                   ·intro w'
                    go_simp
                    with_reducible rfl
                   rotate_left
                   ·simp only [Act.put,List.setIfInBounds_toArray,List.set_cons_zero,List.set_cons_succ,zk,zm]
                    rfl
                   refine zv (i := 7) (N := some 79) (v := ?_) (a' := ?_) #[false,true,true,true,true,true,true,true,false,false,false,false,false,false,false] rfl rfl (zj HT_.out (by kernel_rfl)) (fun _ _ _ h => h) (Or.inl ⟨by rfl,?_⟩) ?_ ?_
                   rotate_left
                   ·intro w'
                    go_simp
                    with_reducible rfl
                   rotate_left
                   ·simp only [Act.put,List.setIfInBounds_toArray,List.set_cons_zero,List.set_cons_succ,zk,zm]
                    rfl
                   refine zv (i := 8) (N := some 80) (v := ?_) (a' := ?_) #[false,true,true,true,true,true,true,true,true,false,false,false,false,false,false] rfl rfl (zj HT_.out (by kernel_rfl)) (fun _ _ _ h => h) (Or.inl ⟨by rfl,?_⟩) ?_ ?_
                   rotate_left
                   ·intro w'
                    go_simp
                    with_reducible rfl
                   rotate_left
                   ·simp only [Act.put,List.setIfInBounds_toArray,List.set_cons_zero,List.set_cons_succ,zk,zm]
                    rfl
                   refine take_ (i := 0) (N := some 72) (v := ?_) (a' := ?_) #[true,true,true,true,true,true,true,true,true,false,false,false,false,false,false] rfl rfl (zP HT_.out HW_.out (by kernel_rfl)) (fun _ _ _ h => h) (Or.inl ⟨by rfl,?_⟩) hHeld ?_ ?_
                   rotate_left
                   ·rintro w' ⟨s0,s1,s2,s3,s4,s5,s6,s7,s8⟩
                    go_simp
                    with_reducible rfl
                   rotate_left
                   ·simp only [Act.put,List.setIfInBounds_toArray,List.set_cons_zero,List.set_cons_succ,zk,zm]
                    rfl
                   refine take_ (i := 9) (N := some 81) (v := ?_) (a' := ?_) #[true,true,true,true,true,true,true,true,true,true,false,false,false,false,false] rfl rfl (zP HT_.out HW_.out (by kernel_rfl)) (fun _ _ _ h => h) (Or.inl ⟨by rfl,?_⟩) hHeld ?_ ?_
                   rotate_left
                   ·rintro w' ⟨s0,s1,s2,s3,s4,s5,s6,s7,s8⟩
                    go_simp
                    with_reducible rfl
                   rotate_left
                   ·simp only [Act.put,List.setIfInBounds_toArray,List.set_cons_zero,List.set_cons_succ,zk,zm]
                    rfl
                   refine zck (i := 10) (N := some 82) #[true,true,true,true,true,true,true,true,true,true,true,false,false,false,false] rfl rfl (zaM HT_.out (by kernel_rfl)) (by decide) (fun K hK => ?_)
                   refine zbw Try.func22 (by kernel_rfl) rfl #[.agg #[.int .i64 x346000_5,.int .i64 x346001_5,.slice Ao53 x346002_5.length co53],.agg #[.int .i64 ((zB l1 (ji48)).f0),.int .i64 ((zB l1 (ji48)).f1),.slice A355_2 ((zB l1 (ji48)).f2).length c355_2,.slice A355_3 ((zB l1 (ji48)).f3).length c355_3,.int .i64 ((zB l1 (ji48)).f4.f0),.int .i64 ((zB l1 (ji48)).f4.f1)]] (by rfl) rfl rfl (by (try simp only [List.map_toArray,List.map_cons,List.map_nil]);first | done | (simp only [hji48];rfl) | rfl | (simp only [List.length_drop,List.length_take];rfl)) ?_
                   with_reducible refine (zU.calls x346000_5 x346001_5 (fun k_ => (k_ ≠ gb344 ∧ k_ ≠ gb345)) _ _ x346002_5 ((zB l1 (ji48)).f0) ((zB l1 (ji48)).f1) (fun k_ => k_ < w.heap.size) _ _ ((zB l1 (ji48)).f2) (fun k_ => k_ < w.heap.size) _ _ ((zB l1 (ji48)).f3) ((zB l1 (ji48)).f4.f0) ((zB l1 (ji48)).f4.f1) t356 t357 t358 t361 _ ?side1 ?side2 ?side3 A51.out).mono ?_
                   (case side1 => exact HO_346002.out)
                   (case side2 => exact Kd.V_mk HC355_2.out (Kd.F_below (Kd.C_F zcf HR355_2.out) hCq))
                   (case side3 => exact Kd.V_mk HC355_3.out (Kd.F_below (Kd.C_F Kd.heap_string HR355_3.out) hCq))
                   rintro e w54 ⟨v359,rfl,ho0,hb⟩
                   refine ⟨_,rfl,?_⟩
                   have n0_ := zb.mk (Kd.V_below (by (with_reducible repeat (first | apply Kd.V_alloc | apply Kd.V_drewN | apply Kd.V_drew));exact HO_345002.out) hb)
                   have n1_ := zb.mk (Kd.V_below (by (with_reducible repeat (first | apply Kd.V_alloc | apply Kd.V_drewN | apply Kd.V_drew));exact HO_346002.out) hb)
                   have n2_ := zb.mk (Kd.V_lower (Kd.V_mono (ok' := fun k_ => k_ ≠ gb344 ∧ k_ ≠ gb345) ho0 (fun k_ hk_ => ⟨Or.elim hk_ (fun hs_ => Or.elim hs_ (fun hs_ => hs_.1) (fun hs_ => Or.elim hs_ (fun hs_ => fun e_ => Nat.not_le.2 hs_ (by rw [e_];exact GW344.out)) (fun hs_ => fun e_ => Nat.not_le.2 hs_ (by rw [e_];exact GW344.out)))) (fun hn_ => (Kd.freshB (g := gb344) (o := .cells #[.int .i64 x345000_2,.int .i64 x345001_2,u345002] 24 (0,0)) (hGq BK344.out) k_ hn_)),Or.elim hk_ (fun hs_ => Or.elim hs_ (fun hs_ => hs_.2) (fun hs_ => Or.elim hs_ (fun hs_ => fun e_ => Nat.not_le.2 hs_ (by rw [e_];exact GW345.out)) (fun hs_ => fun e_ => Nat.not_le.2 hs_ (by rw [e_];exact GW345.out)))) (fun hn_ => (Kd.freshB (g := gb345) (o := .cells #[.int .i64 x346000_5,.int .i64 x346001_5,.slice Ao53 x346002_5.length co53] 24 (0,0)) (hGq BK345.out) k_ hn_))⟩)) (zn hCq))
                   have n3_ := zb.mk (hbq BK344.out hb)
                   have n4_ := zb.mk (hbq BK345.out hb)
                   have n5_ := zb.mk (zh hCq hb)
                   clear HO_345002
                   clear HO_346002
                   clear BK344
                   clear BK345
                   clear HB
                   have HO_345002 := n0_
                   have HO_346002 := n1_
                   have HO360 := n2_
                   have BK344 := n3_
                   have BK345 := n4_
                   have HB := n5_
                   clear n0_ n1_ n2_ n3_ n4_ n5_
                   (try clear hb)
                   (try clear hb2)
                   (try clear hk)
                   (try clear hi)
                   (try clear ho0)
                   obtain ⟨Ao57,co57,eo57⟩ := Kd.V_slice HO360.out
                   (first | subst eo57 | (injection eo57 with f1_ f2_ f3_;have f4_ := f1_.symm;have f5_ := f3_.symm;clear f1_ f2_ f3_;subst f4_;subst f5_))
                   refine hK.out _ _ ⟨(za BK345.out 0).trans rfl,(za BK345.out 1).trans rfl,(za BK345.out 2).trans rfl,((HB.out.cell (World.block_lt_of_cell? w _ hw355_0)).trans hw355_0),((HB.out.cell (World.block_lt_of_cell? w _ hw355_1)).trans hw355_1),((HB.out.cell (World.block_lt_of_cell? w _ hw355_2)).trans hw355_2),((HB.out.cell (World.block_lt_of_cell? w _ hw355_3)).trans hw355_3),((HB.out.cell (World.block_lt_of_cell? w _ hw355_4)).trans hw355_4),((HB.out.cell (World.block_lt_of_cell? w _ hw355_5)).trans hw355_5)⟩ (fun hHeld => ?_)
                   clear hK K
                   refine zaN (a' := ?_) ?_ ?_
                   rotate_left
                   ·show Act.put _ (some 82) _ = _
                    simp only [Act.put,List.setIfInBounds_toArray,List.set_cons_zero,List.set_cons_succ,zk,zm]
                    rfl
                   refine zv (i := 11) (N := some 71) (v := ?_) (a' := ?_) #[true,true,true,true,true,true,true,true,true,true,true,true,false,false,false] rfl rfl (zj HT_.out (by kernel_rfl)) (fun _ _ _ h => h) (Or.inl ⟨by rfl,?_⟩) ?_ ?_
                   rotate_left
                   ·intro w'
                    go_simp
                    with_reducible rfl
                   rotate_left
                   ·simp only [Act.put,List.setIfInBounds_toArray,List.set_cons_zero,List.set_cons_succ,zk,zm]
                    rfl
                   refine zv (i := 12) (N := some 83) (v := ?_) (a' := ?_) #[true,true,true,true,true,true,true,true,true,true,true,true,true,false,false] rfl rfl (zj HT_.out (by kernel_rfl)) (fun _ _ _ h => h) (Or.inl ⟨by rfl,?_⟩) ?_ ?_
                   rotate_left
                   ·intro w'
                    go_simp
                    with_reducible rfl
                   rotate_left
                   ·simp only [Act.put,List.setIfInBounds_toArray,List.set_cons_zero,List.set_cons_succ,zk,zm]
                    rfl
                   refine zv (i := 13) (N := some 84) (v := ?_) (a' := ?_) #[true,true,true,true,true,true,true,true,true,true,true,true,true,true,false] rfl rfl (zj HT_.out (by kernel_rfl)) (fun _ _ _ h => h) (Or.inl ⟨by rfl,?_⟩) ?_ ?_
                   rotate_left
                   ·intro w'
                    go_simp
                    with_reducible rfl
                   rotate_left
                   ·simp only [Act.put,List.setIfInBounds_toArray,List.set_cons_zero,List.set_cons_succ,zk,zm]
                    rfl
                   refine ziW (i := 14) (N := none) #[true,true,true,true,true,true,true,true,true,true,true,true,true,true,true] rfl rfl (zaM HT_.out (by kernel_rfl)) (by decide) (fun K hK => ?_)
                   have hs55 : w54.cell? ⟨gb345,0,none⟩ = some (.int .i64 x346000_5) := (za BK345.out 0).trans rfl
                   have hfs55 := zc BK345.out 0
                   have hns55_0 := NB344_345.out
                   have hms55_0 := NB345_344.out
                   have hs56 : w54.cell? ⟨gb345,1,none⟩ = some (.int .i64 x346001_5) := (za BK345.out 1).trans rfl
                   have hfs56 := zc BK345.out 1
                   have hns56_0 := NB344_345.out
                   have hms56_0 := NB345_344.out
                   have hs58 : w54.cell? ⟨gb345,2,none⟩ = some (.slice Ao53 x346002_5.length co53) := (za BK345.out 2).trans rfl
                   have hfs58 := zc BK345.out 2
                   have hns58_0 := NB344_345.out
                   have hms58_0 := NB345_344.out
                   refine zhG (w1 := ?_) (by rfl) rfl ?_ ?_
                   rotate_left
                   ·go_simp
                    rfl
                   refine hK.out _ _ ?_
                   clear hK K
                   refine zbh (zaz HT_.out (by kernel_rfl)) ?_
                   try go_wp2
                   go_roundg k5
                   case measure => have := HJ4.out;have := HK2.out;have := HJ42.out;have := HK4.out;have := HK5.out;omega
                   case rel => exact ⟨(wrap64 (x15_5 + 1)),(t356),(t357),(t358),(.slice Ao57 t358.length co57),(hDq),H',⟨by have := HJ4.out;have := HK2.out;have := HJ42.out;have := HK4.out;have := HK5.out;omega⟩,⟨by (with_reducible repeat (first | apply Kd.V_alloc | apply Kd.V_drewN | apply Kd.V_drew));exact Kd.V_mono (Kd.V_far (p := ⟨gb345,2,none⟩) (Kd.V_far (p := ⟨gb345,1,none⟩) (Kd.V_far (p := ⟨gb345,0,none⟩) (Kd.V_mono HO_345002.out (fun k_ hk => (⟨hk,hk.2⟩ : _ ∧ k_ ≠ gb345))) (fun _ hk => hk.2) (.int .i64 t356)) (fun _ hk => hk.2) (.int .i64 t357)) (fun _ hk => hk.2) (.slice Ao57 t358.length co57)) (fun _ hk => ⟨hk.1.1,hk.1.2⟩)⟩,⟨by (with_reducible repeat (first | apply Kd.V_alloc | apply Kd.V_drewN | apply Kd.V_drew));exact Kd.V_mono (Kd.V_far (p := ⟨gb345,2,none⟩) (Kd.V_far (p := ⟨gb345,1,none⟩) (Kd.V_far (p := ⟨gb345,0,none⟩) (Kd.V_mono HO360.out (fun k_ hk => (⟨hk,hk.2⟩ : _ ∧ k_ ≠ gb345))) (fun _ hk => hk.2) (.int .i64 t356)) (fun _ hk => hk.2) (.int .i64 t357)) (fun _ hk => hk.2) (.slice Ao57 t358.length co57)) (fun _ hk => ⟨hk.1.1,hk.1.2⟩)⟩,⟨hxq1 NB344_345.out BK344.out⟩,⟨hxq0p BK345.out⟩,⟨by repeat (first | (with_reducible first | exact HB.out | apply zq | apply zp | apply zG | refine zo ?_ GE344.out | refine zo ?_ GE345.out) | exact HB.out)⟩⟩
                  ·rw [if_neg c50] at H
                   exact absurd H (by simp)
                 ·rw [if_neg c49] at H
                  exact absurd H (by simp)
               ·rw [if_neg c46] at H
                have c46b0 : decide (x15_5 < (l1.length : Int)) = false := decide_eq_false c46
                clear c46
                have H' := zb.mk H
                clear H
                go_wp2
                go_roundg k5
                case measure => have := HJ4.out;have := HK2.out;have := HJ42.out;have := HK4.out;have := HK5.out;omega
                case rel => exact ⟨(wrap64 (x14_4 + 1)),(x346000_5),(x346001_5),(x346002_5),(u346002),(hDq),H',⟨by have := HJ4.out;have := HK2.out;have := HJ42.out;have := HK4.out;have := HK5.out;omega⟩,⟨by (with_reducible repeat (first | apply Kd.V_alloc | apply Kd.V_drewN | apply Kd.V_drew));exact HO_345002.out⟩,⟨by (with_reducible repeat (first | apply Kd.V_alloc | apply Kd.V_drewN | apply Kd.V_drew));exact HO_346002.out⟩,⟨hGq BK344.out⟩,⟨hGq BK345.out⟩,⟨by repeat (first | (with_reducible first | exact HB.out | apply zq | apply zp | apply zG | refine zo ?_ GE344.out | refine zo ?_ GE345.out) | exact HB.out)⟩⟩
            ·rw [if_neg c45] at H
             have c45b0 : decide (x14_4 < (l1.length : Int)) = false := decide_eq_false c45
             clear c45
             replace H := Option.bind_eq_some_iff.mp H
             obtain ⟨t354,A590,H⟩ := H
             replace H : (some t354) = some r := H
             have A59 := zb.mk A590
             clear A590
             obtain rfl := Option.some.inj H
             have hnb60 := NB344_345.out
             have hnc60 := NB345_344.out
             obtain ⟨hcz61_0,hcz61_1,hcz61_2,hfz61_0,hfz61_1,hfz61_2⟩ := hcq3 BK344.out
             obtain ⟨hcz62_0,hcz62_1,hcz62_2,hfz62_0,hfz62_1,hfz62_2⟩ := hcq3 BK345.out
             obtain ⟨Ao63,co63,eo63⟩ := Kd.V_slice HO_345002.out
             subst eo63
             obtain ⟨Ao64,co64,eo64⟩ := Kd.V_slice HO_346002.out
             subst eo64
             go_wp2_with (first | ((with_reducible refine zN (f := 23) rfl ?_);refine zas (some 87) rfl rfl Try.func23 (by kernel_rfl) rfl #[.agg #[.int .i64 x345000_2,.int .i64 x345001_2,.slice Ao63 x345002_2.length co63],.agg #[.int .i64 x346000_4,.int .i64 x346001_4,.slice Ao64 x346002_4.length co64]] rfl hMq ?_;(with_reducible refine (zaF.calls k4 x345000_2 x345001_2 _ _ x345002_2 x346000_4 x346001_4 _ _ x346002_4 t354 _ ?side1 ?side2 ?side3 ?side4 A59.out).mono ?_);(case side1 => repeat (first | exact (Kd.V_reads' HO_345002.out).2.2 | (with_reducible refine Kd.C_alloc ?_ _) | (with_reducible refine Kd.C_drewN ?_ _) | (with_reducible refine Kd.C_drew ?_)));(case side2 => exact (Kd.V_reads' HO_345002.out).2.1);(case side3 => repeat (first | exact (Kd.V_reads' HO_346002.out).2.2 | (with_reducible refine Kd.C_alloc ?_ _) | (with_reducible refine Kd.C_drewN ?_ _) | (with_reducible refine Kd.C_drew ?_)));(case side4 => exact (Kd.V_reads' HO_346002.out).2.1);rintro e w65 ⟨rfl,hb⟩;refine ⟨_,rfl,?_⟩;have n_ := haq (Kd.V_below (by (with_reducible repeat (first | apply Kd.V_alloc | apply Kd.V_drewN | apply Kd.V_drew));exact HO_345002.out) hb) <| haq (Kd.V_below (by (with_reducible repeat (first | apply Kd.V_alloc | apply Kd.V_drewN | apply Kd.V_drew));exact HO_346002.out) hb) <| haq (hbq BK344.out hb) <| haq (hbq BK345.out hb) <| haq (zh hCq hb) <| trivial;clear HO_345002 HO_346002 BK344 BK345 HB;obtain ⟨HO_345002,HO_346002,BK344,BK345,HB,_⟩ := n_;(try clear hb);(try clear hb2);(try clear hk);(try clear hi)))
             go_ret
             exact ⟨hHq,hCq⟩
end Go.Proofs.Ytklhjlaofkngcaa.Px