/- Part 26 of 30 of the proof of the law DagPasts: what is proved is the statement at the end of the last part; its conditions are those of the given row. -/
import Derived.Test.YtndjfdakflaggaaZDagPastsD
namespace Go.Proofs.Ytndjfdakflaggaa.Px
open Go.RowKit Go.Proofs.YtndjfdakflaggaaW.PrintWords Go.Proofs.YtndjfdakflaggaaW.PrintLast Go.Proofs.YtndjfdakflaggaaW.PrintMore
attribute [local go_sem] zt zv zA zB zq zr zu zw
set_option linter.unusedVariables false
set_option linter.unusedSimpArgs false
mutual
def zf.l0 : Nat → ByteArray → List Bool → Int → Int → Int → Int → List (S34) → Option (List Bool)
 | 0,_,_,_,_,_,_,_ => none
 | k + 1,x1,x5,x6,x7,x316000,x316001,x316002 => if x7 ≥ 0 then (if 0 ≤ x7 then (if x7 < (x316002.length : Int) then (if ((zd x316002 x7).f0).toList = x1.toList then (zf.l0 k x1 x5 x7 (wrap64 (x7 - 1)) x316000 x316001 x316002) else (zf.l0 k x1 x5 x6 (wrap64 (x7 - 1)) x316000 x316001 x316002)) else (none)) else (none)) else (if x6 < 0 then (some x5) else (if 0 ≤ x6 then (if x6 < (x5.length : Int) then (zf.l1 k (x5.set (x6 : Int).toNat true) true x316000 x316001 x316002) else (none)) else (none)))
def zf.l1 : Nat → List Bool → Bool → Int → Int → List (S34) → Option (List Bool)
 | 0,_,_,_,_,_ => none
 | k + 1,x5,x8,x316000,x316001,x316002 => if x8 = true then (zf.l2 k x5 false 0 x316000 x316001 x316002) else (some x5)
def zf.l2 : Nat → List Bool → Bool → Int → Int → Int → List (S34) → Option (List Bool)
 | 0,_,_,_,_,_,_ => none
 | k + 1,x5,x8,x9,x316000,x316001,x316002 => if x9 < (x316002.length : Int) then (zf.l3 k x5 x8 x9 0 x316000 x316001 x316002) else (zf.l1 k x5 x8 x316000 x316001 x316002)
def zf.l3 : Nat → List Bool → Bool → Int → Int → Int → Int → List (S34) → Option (List Bool)
 | 0,_,_,_,_,_,_,_ => none
 | k + 1,x5,x8,x9,x10,x316000,x316001,x316002 => if x10 < (x316002.length : Int) then (if 0 ≤ x9 then (if x9 < (x5.length : Int) then (zf.j4 k x5 x8 x9 x10 (zz false x5 x9) x316000 x316001 x316002) else (none)) else (none)) else (zf.j4 k x5 x8 x9 x10 false x316000 x316001 x316002)
def zf.j4 : Nat → List Bool → Bool → Int → Int → Bool → Int → Int → List (S34) → Option (List Bool)
 | 0,_,_,_,_,_,_,_,_ => none
 | k + 1,x5,x8,x9,x10,x57,x316000,x316001,x316002 => if x57 = true then (if 0 ≤ x10 then (if x10 < (x5.length : Int) then (if zz false x5 x10 = true then (zf.j5 k x5 x8 x9 x10 true x316000 x316001 x316002) else (if x10 < (x316002.length : Int) then (if 0 ≤ x9 then (if x9 < (x316002.length : Int) then (zf.j5 k x5 x8 x9 x10 (((zd x316002 x10).f1.f1) != (wrap64 (((zd x316002 x9).f1.f1) - 1))) x316000 x316001 x316002) else (none)) else (none)) else (none))) else (none)) else (none)) else (zf.l2 k x5 x8 (wrap64 (x9 + 1)) x316000 x316001 x316002)
def zf.j5 : Nat → List Bool → Bool → Int → Int → Bool → Int → Int → List (S34) → Option (List Bool)
 | 0,_,_,_,_,_,_,_,_ => none
 | k + 1,x5,x8,x9,x10,x81,x316000,x316001,x316002 => if x81 = true then (zf.l3 k x5 x8 x9 (wrap64 (x10 + 1)) x316000 x316001 x316002) else (zf.l4 k x5 x8 x9 x10 0 x316000 x316001 x316002)
def zf.l4 : Nat → List Bool → Bool → Int → Int → Int → Int → Int → List (S34) → Option (List Bool)
 | 0,_,_,_,_,_,_,_,_ => none
 | k + 1,x5,x8,x9,x10,x11,x316000,x316001,x316002 => if 0 ≤ x9 then (if x9 < (x316002.length : Int) then (if x11 < (((zd x316002 x9).f1.f3).length : Int) then (if 0 ≤ x11 then (if 0 ≤ x10 then (if x10 < (x316002.length : Int) then (if (zz ByteArray.empty ((zd x316002 x9).f1.f3) x11).toList = ((zd x316002 x10).f0).toList then (if x10 < (x5.length : Int) then (zf.l4 k (x5.set (x10 : Int).toNat true) true x9 x10 (wrap64 (x11 + 1)) x316000 x316001 x316002) else (none)) else (zf.l4 k x5 x8 x9 x10 (wrap64 (x11 + 1)) x316000 x316001 x316002)) else (none)) else (none)) else (none)) else (zf.l3 k x5 x8 x9 (wrap64 (x10 + 1)) x316000 x316001 x316002)) else (none)) else (none)
end
def zf.f (k : Nat) (a0_0 : Int) (a0_1 : Int) (l0_2 : List (S34)) (a1 : ByteArray) : Option (List Bool) := if 0 ≤ (l0_2.length : Int) then (if ((l0_2.length : Int) : Int).toNat ≤ 281474976710656 then (zf.l0 k a1 (List.replicate ((l0_2.length : Int) : Int).toNat false) (-1) (wrap64 ((l0_2.length : Int) - 1)) a0_0 a0_1 l0_2) else (none)) else (none)
set_option maxHeartbeats 8000000 in
set_option maxRecDepth 100000 in
theorem zf.calls (k : Nat) (a0_0 : Int) (a0_1 : Int) (A0_2 : Option Addr) (c0_2 : Nat) (l0_2 : List (S34)) (a1 : ByteArray) (r : List Bool) (w : World) (hr0_2 : Kd.C k34 w A0_2 l0_2.length l0_2) (hc0_2 : l0_2.length ≤ c0_2) (h : zf.f k a0_0 a0_1 l0_2 a1 = some r) :
  Calls Try.prog 27 #[.agg #[.int .i64 a0_0,.int .i64 a0_1,.slice A0_2 l0_2.length c0_2],.string a1] w fun e w' => ∃ v0_ : Value,e = .returned (v0_) ∧ Kd.R Kd.bool 4 w' w.heap.size (fun _ => True) v0_ r ∧ Below w.heap.size w w' := by
 have hu24 := Try.underlying24
 have HR0_2 := za.mk hr0_2
 have HC0_2 := za.mk hc0_2
 clear hr0_2 hc0_2
 have HB := za.mk (Below.refl w.heap.size w)
 have H : (if 0 ≤ (l0_2.length : Int) then (if ((l0_2.length : Int) : Int).toNat ≤ 281474976710656 then (zf.l0 k a1 (List.replicate ((l0_2.length : Int) : Int).toNat false) (-1) (wrap64 ((l0_2.length : Int) - 1)) a0_0 a0_1 l0_2) else (none)) else (none)) = some r := h
 clear h
 by_cases c3 : 0 ≤ (l0_2.length : Int)
 ·rw [if_pos c3] at H
  have c3b0 := eq_true c3
  have c3b1 : decide (0 ≤ (l0_2.length : Int)) = true := decide_eq_true c3
  clear c3
  by_cases c4 : ((l0_2.length : Int) : Int).toNat ≤ 281474976710656
  ·rw [if_pos c4] at H
   have c4b0 := eq_true c4
   have c4b1 : decide (((l0_2.length : Int) : Int).toNat ≤ 281474976710656) = true := decide_eq_true c4
   clear c4
   obtain ⟨y316,hy316⟩ : ∃ y_ : List Bool,y_ = (List.replicate ((l0_2.length : Int) : Int).toNat false) := ⟨_,rfl⟩
   replace H : (zf.l0 k a1 y316 (-1) (wrap64 ((l0_2.length : Int) - 1)) a0_0 a0_1 l0_2) = some r := by first | (rw [hy316];with_reducible exact H) | (have H2_ := (Option.bind_some _ _).symm.trans H;rw [hy316];with_reducible exact H2_) | (have H2_ := (Option.bind_some _ _).symm.trans H;with_reducible exact H2_) | with_reducible exact H | (rw [hy316];exact H) | exact H
   have Ny316 := za.mk hy316
   clear hy316
   have H' := za.mk H
   clear H
   go_enter Try.func27,Try.ntmps27
   go_wp2_with (first | ((with_reducible refine zp (N := 2) rfl ?_);refine zn rfl (N := 2) rfl (cs := #[.int .i64 a0_0,.int .i64 a0_1,.slice A0_2 l0_2.length c0_2]) (t := 24) hrq ?_;intro gb315 hg w5 hbox hb;have n_ := haq (zh hBq hb) <| haq (hbox) <| haq ((by rw [hg];exact (zj hBq) : w.heap.size ≤ gb315)) <| haq ((by rw [hg];exact (zj hBq) : w.heap.size ≤ gb315)) <| trivial;clear HB;obtain ⟨HB,BK315,GW315,GE315,_⟩ := n_;clear hb hbox hg;obtain ⟨hcz6_0,hcz6_1,hcz6_2,hfz6_0,hfz6_1,hfz6_2⟩ := hcq3 BK315.out) | ((with_reducible refine zp (N := 15) rfl ?_);refine Kd.R_make Kd.bool _ 4 rfl (N := 15) rfl 58 _ _ rfl (l0_2.length : Int) rfl rfl Try.underlying58 (.bool false) 1 info4 rfl (by decide) (by omega) false (ok := fun _ => True) (okp := fun _ => True) rfl (fun _ hk => hk) trivial (hFq) (Nat.le_trans (Nat.mul_le_mul_right _ (hFq : (l0_2.length : Int).toNat ≤ 281474976710656)) (by omega)) (Below.refl _ _) (Nat.le_refl _) ?_;intro v317 w7 ho8 hb hg_ hnew_;clear hg_ hnew_;(first | rw [← Ny316.out] at ho8 | (simp only [Int.reduceToNat] at ho8;rw [← Ny316.out] at ho8));have n_ := haq (Kd.R_lower ho8 (zj hCq)) <| haq (hbq BK315.out hb) <| haq (zh hCq hb) <| trivial;clear BK315 HB;obtain ⟨HO318,BK315,HB,_⟩ := n_;clear hb ho8;obtain ⟨hcz9_0,hcz9_1,hcz9_2,hfz9_0,hfz9_1,hfz9_2⟩ := hcq3 BK315.out))
   repeat (go_quiet (first | ((with_reducible refine zp (N := 2) rfl ?_);refine zn rfl (N := 2) rfl (cs := #[.int .i64 a0_0,.int .i64 a0_1,.slice A0_2 l0_2.length c0_2]) (t := 24) hrq ?_;intro gb315 hg w5 hbox hb;have n_ := haq (zh hBq hb) <| haq (hbox) <| haq ((by rw [hg];exact (zj hBq) : w.heap.size ≤ gb315)) <| haq ((by rw [hg];exact (zj hBq) : w.heap.size ≤ gb315)) <| trivial;clear HB;obtain ⟨HB,BK315,GW315,GE315,_⟩ := n_;clear hb hbox hg;obtain ⟨hcz6_0,hcz6_1,hcz6_2,hfz6_0,hfz6_1,hfz6_2⟩ := hcq3 BK315.out) | ((with_reducible refine zp (N := 15) rfl ?_);refine Kd.R_make Kd.bool _ 4 rfl (N := 15) rfl 58 _ _ rfl (l0_2.length : Int) rfl rfl Try.underlying58 (.bool false) 1 info4 rfl (by decide) (by omega) false (ok := fun _ => True) (okp := fun _ => True) rfl (fun _ hk => hk) trivial (hFq) (Nat.le_trans (Nat.mul_le_mul_right _ (hFq : (l0_2.length : Int).toNat ≤ 281474976710656)) (by omega)) (Below.refl _ _) (Nat.le_refl _) ?_;intro v317 w7 ho8 hb hg_ hnew_;clear hg_ hnew_;(first | rw [← Ny316.out] at ho8 | (simp only [Int.reduceToNat] at ho8;rw [← Ny316.out] at ho8));have n_ := haq (Kd.R_lower ho8 (zj hCq)) <| haq (hbq BK315.out hb) <| haq (zh hCq hb) <| trivial;clear BK315 HB;obtain ⟨HO318,BK315,HB,_⟩ := n_;clear hb ho8;obtain ⟨hcz9_0,hcz9_1,hcz9_2,hfz9_0,hfz9_1,hfz9_2⟩ := hcq3 BK315.out));try go_wp2_with (first | ((with_reducible refine zp (N := 2) rfl ?_);refine zn rfl (N := 2) rfl (cs := #[.int .i64 a0_0,.int .i64 a0_1,.slice A0_2 l0_2.length c0_2]) (t := 24) hrq ?_;intro gb315 hg w5 hbox hb;have n_ := haq (zh hBq hb) <| haq (hbox) <| haq ((by rw [hg];exact (zj hBq) : w.heap.size ≤ gb315)) <| haq ((by rw [hg];exact (zj hBq) : w.heap.size ≤ gb315)) <| trivial;clear HB;obtain ⟨HB,BK315,GW315,GE315,_⟩ := n_;clear hb hbox hg;obtain ⟨hcz6_0,hcz6_1,hcz6_2,hfz6_0,hfz6_1,hfz6_2⟩ := hcq3 BK315.out) | ((with_reducible refine zp (N := 15) rfl ?_);refine Kd.R_make Kd.bool _ 4 rfl (N := 15) rfl 58 _ _ rfl (l0_2.length : Int) rfl rfl Try.underlying58 (.bool false) 1 info4 rfl (by decide) (by omega) false (ok := fun _ => True) (okp := fun _ => True) rfl (fun _ hk => hk) trivial (hFq) (Nat.le_trans (Nat.mul_le_mul_right _ (hFq : (l0_2.length : Int).toNat ≤ 281474976710656)) (by omega)) (Below.refl _ _) (Nat.le_refl _) ?_;intro v317 w7 ho8 hb hg_ hnew_;clear hg_ hnew_;(first | rw [← Ny316.out] at ho8 | (simp only [Int.reduceToNat] at ho8;rw [← Ny316.out] at ho8));have n_ := haq (Kd.R_lower ho8 (zj hCq)) <| haq (hbq BK315.out hb) <| haq (zh hCq hb) <| trivial;clear BK315 HB;obtain ⟨HO318,BK315,HB,_⟩ := n_;clear hb ho8;obtain ⟨hcz9_0,hcz9_1,hcz9_2,hfz9_0,hfz9_1,hfz9_2⟩ := hcq3 BK315.out)))
   go_loopg [6,7] k (fun kq v6 v7 w' => ∃ (x6_1 : Int) (x7_1 : Int),v6 = .int .i64 x6_1 ∧ v7 = .int .i64 x7_1 ∧ za (zf.l0 kq a1 y316 x6_1 x7_1 a0_0 a0_1 l0_2 = some r) ∧ za (kq ≤ k) ∧ za (Kd.R Kd.bool 4 w' w.heap.size (fun _ => True) v317 y316) ∧ za (w'.heap[gb315]? = some (.cells #[.int .i64 a0_0,.int .i64 a0_1,(.slice A0_2 l0_2.length c0_2)] 24 (0,0))) ∧ za (Below w.heap.size w w'))
   case atStart => exact ⟨((-1)),(wrap64 ((l0_2.length : Int) - 1)),(hDq),(hDq),H',⟨Nat.le_refl _⟩,⟨by (with_reducible repeat (first | apply Kd.R_alloc | apply Kd.R_drewN | apply Kd.R_drew));exact HO318.out⟩,⟨hGq BK315.out⟩,⟨by repeat (first | (with_reducible first | exact HB.out | apply zi | apply zl | apply zx | refine zm ?_ GE315.out) | exact HB.out)⟩⟩
   case round =>
    clear H'
    try clear c2;try clear p2;try clear c3;try clear c3b0;try clear c3b1;try clear c4;try clear c4b0;try clear c4b1;try clear p6;try clear hcz6_0;try clear hcz6_1;try clear hcz6_2;try clear hcz9_0;try clear hcz9_1;try clear hcz9_2;try clear hfz6_0;try clear hfz6_1;try clear hfz6_2;try clear hfz9_0;try clear hfz9_1;try clear hfz9_2
    obtain ⟨x6_1,x7_1,rfl,rfl,HA,HK1,HO_5,BK315,HB⟩ := hrel
    cases gk with
    | zero => exact absurd HA.out (by simp [zf.l0])
    | succ k1 =>
     have H := HA.out
     clear HA
     simp only [zf.l0] at H
     by_cases c10 : x7_1 ≥ 0
     ·rw [if_pos c10] at H
      have c10b0 : decide (0 ≤ x7_1) = true := decide_eq_true c10
      clear c10
      by_cases c11 : 0 ≤ x7_1
      ·rw [if_pos c11] at H
       have c11b0 : decide (0 ≤ x7_1) = true := decide_eq_true c11
       clear c11
       by_cases c12 : x7_1 < (l0_2.length : Int)
       ·rw [if_pos c12] at H
        have c12b0 : decide (x7_1 < (l0_2.length : Int)) = true := decide_eq_true c12
        clear c12
        by_cases c13 : ((zd l0_2 x7_1).f0).toList = a1.toList
        ·rw [if_pos c13] at H
         have c13b0 : (((zd l0_2 x7_1).f0).toList == a1.toList) = true := beq_iff_eq.mpr c13
         have c13b1 : (((zd l0_2 x7_1).f0).toList != a1.toList) = false := bne_eq_false_iff_eq.mpr c13
         clear c13
         have H' := za.mk H
         clear H
         obtain ⟨hcz14_0,hcz14_1,hcz14_2,hfz14_0,hfz14_1,hfz14_2⟩ := hcq3 BK315.out
         have p319 : 0 ≤ (x7_1 : Int) := hFq
         have q319 : x7_1 < (l0_2.length : Int) := hFq
         obtain ⟨ad319,A319_3,c319_3,A319_4,c319_4,e319,hx319_0,hx319_1,hx319_2,hx319_3,hx319_4,hx319_5,hx319_6,hl319_3,hi319_3,hl319_4,hi319_4⟩ := zai HR0_2.out x7_1 p319 q319
         cases e319
         replace hx319_0 := (HB.out.cell (World.block_lt_of_cell? w _ hx319_0)).trans hx319_0
         replace hx319_1 := (HB.out.cell (World.block_lt_of_cell? w _ hx319_1)).trans hx319_1
         replace hx319_2 := (HB.out.cell (World.block_lt_of_cell? w _ hx319_2)).trans hx319_2
         replace hx319_3 := (HB.out.cell (World.block_lt_of_cell? w _ hx319_3)).trans hx319_3
         replace hx319_4 := (HB.out.cell (World.block_lt_of_cell? w _ hx319_4)).trans hx319_4
         replace hx319_5 := (HB.out.cell (World.block_lt_of_cell? w _ hx319_5)).trans hx319_5
         replace hx319_6 := (HB.out.cell (World.block_lt_of_cell? w _ hx319_6)).trans hx319_6
         have HR319_3 := za.mk hi319_3
         have HC319_3 := za.mk hl319_3
         clear hi319_3 hl319_3
         have HR319_4 := za.mk hi319_4
         have HC319_4 := za.mk hl319_4
         clear hi319_4 hl319_4
         replace p319 := eq_true p319
         replace q319 := eq_true q319
         go_wp2
         repeat (go_quiet (fail);try go_wp2)
         go_roundg k1
         case measure => have := HK1.out;omega
         case rel => exact ⟨(x7_1),(wrap64 (x7_1 - 1)),(hDq),(hDq),H',⟨by have := HK1.out;omega⟩,⟨by (with_reducible repeat (first | apply Kd.R_alloc | apply Kd.R_drewN | apply Kd.R_drew));exact HO_5.out⟩,⟨hGq BK315.out⟩,⟨by repeat (first | (with_reducible first | exact HB.out | apply zi | apply zl | apply zx | refine zm ?_ GE315.out) | exact HB.out)⟩⟩
        ·rw [if_neg c13] at H
         have c13b0 : (((zd l0_2 x7_1).f0).toList == a1.toList) = false := beq_eq_false_iff_ne.mpr c13
         have c13b1 : (((zd l0_2 x7_1).f0).toList != a1.toList) = true := bne_iff_ne.mpr c13
         have H' := za.mk H
         clear H
         obtain ⟨hcz15_0,hcz15_1,hcz15_2,hfz15_0,hfz15_1,hfz15_2⟩ := hcq3 BK315.out
         have p319 : 0 ≤ (x7_1 : Int) := hFq
         have q319 : x7_1 < (l0_2.length : Int) := hFq
         obtain ⟨ad319,A319_3,c319_3,A319_4,c319_4,e319,hx319_0,hx319_1,hx319_2,hx319_3,hx319_4,hx319_5,hx319_6,hl319_3,hi319_3,hl319_4,hi319_4⟩ := zai HR0_2.out x7_1 p319 q319
         cases e319
         replace hx319_0 := (HB.out.cell (World.block_lt_of_cell? w _ hx319_0)).trans hx319_0
         replace hx319_1 := (HB.out.cell (World.block_lt_of_cell? w _ hx319_1)).trans hx319_1
         replace hx319_2 := (HB.out.cell (World.block_lt_of_cell? w _ hx319_2)).trans hx319_2
         replace hx319_3 := (HB.out.cell (World.block_lt_of_cell? w _ hx319_3)).trans hx319_3
         replace hx319_4 := (HB.out.cell (World.block_lt_of_cell? w _ hx319_4)).trans hx319_4
         replace hx319_5 := (HB.out.cell (World.block_lt_of_cell? w _ hx319_5)).trans hx319_5
         replace hx319_6 := (HB.out.cell (World.block_lt_of_cell? w _ hx319_6)).trans hx319_6
         have HR319_3 := za.mk hi319_3
         have HC319_3 := za.mk hl319_3
         clear hi319_3 hl319_3
         have HR319_4 := za.mk hi319_4
         have HC319_4 := za.mk hl319_4
         clear hi319_4 hl319_4
         replace p319 := eq_true p319
         replace q319 := eq_true q319
         go_wp2
         repeat (go_quiet (fail);try go_wp2)
         go_roundg k1
         case measure => have := HK1.out;omega
         case rel => exact ⟨(x6_1),(wrap64 (x7_1 - 1)),(hDq),(hDq),H',⟨by have := HK1.out;omega⟩,⟨by (with_reducible repeat (first | apply Kd.R_alloc | apply Kd.R_drewN | apply Kd.R_drew));exact HO_5.out⟩,⟨hGq BK315.out⟩,⟨by repeat (first | (with_reducible first | exact HB.out | apply zi | apply zl | apply zx | refine zm ?_ GE315.out) | exact HB.out)⟩⟩
       ·rw [if_neg c12] at H
        exact absurd H (by simp)
      ·rw [if_neg c11] at H
       exact absurd H (by simp)
     ·rw [if_neg c10] at H
      have c10b0 : decide (0 ≤ x7_1) = false := decide_eq_false c10
      clear c10
      by_cases c16 : x6_1 < 0
      ·rw [if_pos c16] at H
       have c16b0 : decide (x6_1 < 0) = true := decide_eq_true c16
       clear c16
       obtain rfl := Option.some.inj H
       go_wp2
       repeat (go_quiet (fail);try go_wp2)
       go_ret
       exact ⟨_,hHq,by (with_reducible repeat (first | apply Kd.R_alloc | apply Kd.R_drewN | apply Kd.R_drew));exact HO_5.out,hCq⟩
      ·rw [if_neg c16] at H
       have c16b0 : decide (x6_1 < 0) = false := decide_eq_false c16
       clear c16
       by_cases c17 : 0 ≤ x6_1
       ·rw [if_pos c17] at H
        have c17b0 : decide (0 ≤ x6_1) = true := decide_eq_true c17
        clear c17
        by_cases c18 : x6_1 < (y316.length : Int)
        ·rw [if_pos c18] at H
         have c18b0 : decide (x6_1 < (y316.length : Int)) = true := decide_eq_true c18
         clear c18
         obtain ⟨y320,hy320⟩ : ∃ y_ : List Bool,y_ = (y316.set (x6_1 : Int).toNat true) := ⟨_,rfl⟩
         replace H : (zf.l1 k1 y320 true a0_0 a0_1 l0_2) = some r := by first | (rw [hy320];with_reducible exact H) | (have H2_ := (Option.bind_some _ _).symm.trans H;rw [hy320];with_reducible exact H2_) | (have H2_ := (Option.bind_some _ _).symm.trans H;with_reducible exact H2_) | with_reducible exact H | (rw [hy320];exact H) | exact H
         have Ny320 := za.mk hy320
         clear hy320
         have H' := za.mk H
         clear H
         have p19 : 0 ≤ (x6_1 : Int) := hFq
         have q19 : (x6_1 : Int) < ((y316.length : Int) : Int) := hFq
         obtain ⟨go19,co19,eo19,gb19,gl19,cl19,HG19⟩ := Kd.R_form HO_5.out (by omega)
         (first | cases eo19 | (injection eo19 with ea_ en_ ec_;(first | subst ea_ | (injection ea_ with ea_;subst ea_));subst ec_;clear en_))
         have GB19 := za.mk gb19
         have GG19 := za.mk HG19
         clear gb19 gl19 HG19
         obtain ⟨hx19_0,hf19_0⟩ := Kd.R_celln false HO_5.out (x6_1 : Int) p19 q19
         replace p19 := eq_true p19
         replace q19 := eq_true q19
         have HP20 := Kd.R_putg HO_5.out (x6_1 : Int) true
         go_wp2_with (first | ((with_reducible refine z6 (t := 4) (p := 38) rfl ?_);(try (rw [zb9 wr];generalize hq_ : World.drewN wr _ = wr;have n_ := haq (Kd.R_at hq_ HO_5.out) <| haq (zek hq_ BK315.out) <| haq (zcU hq_ HB.out) <| trivial;clear hq_ HO_5 BK315 HB;obtain ⟨HO_5,BK315,HB,_⟩ := n_;(try (have HP20 := Kd.R_putg HO_5.out (x6_1 : Int) true))));refine zT (t := 4) (p := 38) (v := _) (w1 := (wr.setCell ⟨go19,(x6_1 : Int).toNat,none⟩ (.bool true))) rfl rfl rfl hrq ?_;intro w21 hw;have hg : wr.grownBy w21 (some go19) := (by rw [hw];exact HP20.2);have hp_ : Kd.R Kd.bool 4 w21 w.heap.size (fun _ => True) (.slice (some ⟨go19,0,none⟩) y316.length co19) y320 := (by rw [hw,Ny320.out];exact HP20.1);clear HP20;have n_ := haq (hp_) <| haq (zaJ (g := gb315) (o := .cells #[.int .i64 a0_0,.int .i64 a0_1,.slice A0_2 l0_2.length c0_2] 24 (0,0)) (hGq BK315.out) hg (Kd.R_ne HO_5.out BK315.out (by decide))) <| haq ((by rw [hw];exact zm (HB.out) GB19.out : Below w.heap.size w w21)) <| trivial;clear HO_5 BK315 HB;obtain ⟨HO_5,BK315,HB,_⟩ := n_;clear hg hw hp_))
         repeat (go_quiet (first | ((with_reducible refine z6 (t := 4) (p := 38) rfl ?_);(try (rw [zb9 wr];generalize hq_ : World.drewN wr _ = wr;have n_ := haq (Kd.R_at hq_ HO_5.out) <| haq (zek hq_ BK315.out) <| haq (zcU hq_ HB.out) <| trivial;clear hq_ HO_5 BK315 HB;obtain ⟨HO_5,BK315,HB,_⟩ := n_;(try (have HP20 := Kd.R_putg HO_5.out (x6_1 : Int) true))));refine zT (t := 4) (p := 38) (v := _) (w1 := (wr.setCell ⟨go19,(x6_1 : Int).toNat,none⟩ (.bool true))) rfl rfl rfl hrq ?_;intro w21 hw;have hg : wr.grownBy w21 (some go19) := (by rw [hw];exact HP20.2);have hp_ : Kd.R Kd.bool 4 w21 w.heap.size (fun _ => True) (.slice (some ⟨go19,0,none⟩) y316.length co19) y320 := (by rw [hw,Ny320.out];exact HP20.1);clear HP20;have n_ := haq (hp_) <| haq (zaJ (g := gb315) (o := .cells #[.int .i64 a0_0,.int .i64 a0_1,.slice A0_2 l0_2.length c0_2] 24 (0,0)) (hGq BK315.out) hg (Kd.R_ne HO_5.out BK315.out (by decide))) <| haq ((by rw [hw];exact zm (HB.out) GB19.out : Below w.heap.size w w21)) <| trivial;clear HO_5 BK315 HB;obtain ⟨HO_5,BK315,HB,_⟩ := n_;clear hg hw hp_));try go_wp2_with (first | ((with_reducible refine z6 (t := 4) (p := 38) rfl ?_);(try (rw [zb9 wr];generalize hq_ : World.drewN wr _ = wr;have n_ := haq (Kd.R_at hq_ HO_5.out) <| haq (zek hq_ BK315.out) <| haq (zcU hq_ HB.out) <| trivial;clear hq_ HO_5 BK315 HB;obtain ⟨HO_5,BK315,HB,_⟩ := n_;(try (have HP20 := Kd.R_putg HO_5.out (x6_1 : Int) true))));refine zT (t := 4) (p := 38) (v := _) (w1 := (wr.setCell ⟨go19,(x6_1 : Int).toNat,none⟩ (.bool true))) rfl rfl rfl hrq ?_;intro w21 hw;have hg : wr.grownBy w21 (some go19) := (by rw [hw];exact HP20.2);have hp_ : Kd.R Kd.bool 4 w21 w.heap.size (fun _ => True) (.slice (some ⟨go19,0,none⟩) y316.length co19) y320 := (by rw [hw,Ny320.out];exact HP20.1);clear HP20;have n_ := haq (hp_) <| haq (zaJ (g := gb315) (o := .cells #[.int .i64 a0_0,.int .i64 a0_1,.slice A0_2 l0_2.length c0_2] 24 (0,0)) (hGq BK315.out) hg (Kd.R_ne HO_5.out BK315.out (by decide))) <| haq ((by rw [hw];exact zm (HB.out) GB19.out : Below w.heap.size w w21)) <| trivial;clear HO_5 BK315 HB;obtain ⟨HO_5,BK315,HB,_⟩ := n_;clear hg hw hp_)))
         go_loopg [8] k1 (fun kq v8 w' => ∃ (x5_2 : List Bool) (x8_2 : Bool),v8 = .bool x8_2 ∧ za (zf.l1 kq x5_2 x8_2 a0_0 a0_1 l0_2 = some r) ∧ za (kq ≤ k1) ∧ za (Kd.R Kd.bool 4 w' w.heap.size (fun _ => True) (.slice (some ⟨go19,0,none⟩) y316.length co19) x5_2) ∧ za (w'.heap[gb315]? = some (.cells #[.int .i64 a0_0,.int .i64 a0_1,(.slice A0_2 l0_2.length c0_2)] 24 (0,0))) ∧ za (Below w.heap.size w w'))
         case atStart => exact ⟨(y320),(true),(hDq),H',⟨Nat.le_refl _⟩,⟨by (with_reducible repeat (first | apply Kd.R_alloc | apply Kd.R_drewN | apply Kd.R_drew));exact HO_5.out⟩,⟨hGq BK315.out⟩,⟨by repeat (first | (with_reducible first | exact HB.out | apply zi | apply zl | apply zx | refine zm ?_ GE315.out) | exact HB.out)⟩⟩
         case round =>
          clear H'
          try clear c1;try clear p1;try clear q1;try clear hx1;try clear c2;try clear p2;try clear c3;try clear c3b0;try clear c3b1;try clear p3;try clear q3;try clear hx3;try clear c4;try clear c4b0;try clear c4b1;try clear p6;try clear c10;try clear c10b0;try clear c11;try clear c11b0;try clear c12;try clear c12b0;try clear c13;try clear c13b0;try clear c13b1;try clear c16;try clear c16b0;try clear c17;try clear c17b0;try clear c18;try clear c18b0;try clear p19;try clear q19;try clear hx19;try clear hf19;try clear hcz14_0;try clear hcz14_1;try clear hcz14_2;try clear hcz15_0;try clear hcz15_1;try clear hcz15_2;try clear hcz6_0;try clear hcz6_1;try clear hcz6_2;try clear hcz9_0;try clear hcz9_1;try clear hcz9_2;try clear hfz14_0;try clear hfz14_1;try clear hfz14_2;try clear hfz15_0;try clear hfz15_1;try clear hfz15_2;try clear hfz6_0;try clear hfz6_1;try clear hfz6_2;try clear hfz9_0;try clear hfz9_1;try clear hfz9_2;try clear hx19_0;try clear hx319_0;try clear hx319_1;try clear hx319_2;try clear hx319_3;try clear hx319_4;try clear hx319_5;try clear hx319_6;try clear p19;try clear p2;try clear p319;try clear p6;try clear q19;try clear q319
          obtain ⟨x5_2,x8_2,rfl,HA,HK2,HO_5,BK315,HB⟩ := hrel
          have hl5_2 := (Kd.R_reads' HO_5.out).1
          rw [hl5_2] at HO_5
          (try simp only [hl5_2])
          (try simp only [hl5_2] at BK315)
          cases gk with
          | zero => exact absurd HA.out (by simp [zf.l1])
          | succ k2 =>
           have H := HA.out
           clear HA
           simp only [zf.l1] at H
           by_cases c22 : x8_2 = true
           ·subst c22
            have H1 : (zf.l2 k2 x5_2 false 0 a0_0 a0_1 l0_2) = some r := by rw [if_pos rfl] at H;exact H
            clear H
            have H := H1
            clear H1
            have H' := za.mk H
            clear H
            go_wp2
            repeat (go_quiet (fail);try go_wp2)
            go_loopg [8,9] k2 (fun kq v8 v9 w' => ∃ (x5_3 : List Bool) (x8_3 : Bool) (x9_3 : Int),v8 = .bool x8_3 ∧ v9 = .int .i64 x9_3 ∧ za (zf.l2 kq x5_3 x8_3 x9_3 a0_0 a0_1 l0_2 = some r) ∧ za (kq ≤ k2) ∧ za (Kd.R Kd.bool 4 w' w.heap.size (fun _ => True) (.slice (some ⟨go19,0,none⟩) x5_2.length co19) x5_3) ∧ za (w'.heap[gb315]? = some (.cells #[.int .i64 a0_0,.int .i64 a0_1,(.slice A0_2 l0_2.length c0_2)] 24 (0,0))) ∧ za (Below w.heap.size w w'))
            case atStart => exact ⟨(x5_2),(false),(0),(hDq),(hDq),H',⟨Nat.le_refl _⟩,⟨by (try simp only [hl5_2]);(with_reducible repeat (first | apply Kd.R_alloc | apply Kd.R_drewN | apply Kd.R_drew));exact HO_5.out⟩,⟨by (try simp only [hl5_2]);(with_reducible repeat (first | refine zL ?_ _ | refine zG ?_ | refine ze ?_ _));exact BK315.out⟩,⟨by repeat (first | (with_reducible first | exact HB.out | apply zi | apply zl | apply zx | refine zm ?_ GE315.out) | exact HB.out)⟩⟩
            case round =>
             clear H'
             try clear c1;try clear p1;try clear q1;try clear hx1;try clear c2;try clear p2;try clear c3;try clear c3b0;try clear c3b1;try clear p3;try clear q3;try clear hx3;try clear c4;try clear c4b0;try clear c4b1;try clear p6;try clear c10;try clear c10b0;try clear c11;try clear c11b0;try clear c12;try clear c12b0;try clear c13;try clear c13b0;try clear c13b1;try clear c16;try clear c16b0;try clear c17;try clear c17b0;try clear c18;try clear c18b0;try clear p19;try clear q19;try clear hx19;try clear hf19;try clear c22;try clear hcz14_0;try clear hcz14_1;try clear hcz14_2;try clear hcz15_0;try clear hcz15_1;try clear hcz15_2;try clear hcz6_0;try clear hcz6_1;try clear hcz6_2;try clear hcz9_0;try clear hcz9_1;try clear hcz9_2;try clear hfz14_0;try clear hfz14_1;try clear hfz14_2;try clear hfz15_0;try clear hfz15_1;try clear hfz15_2;try clear hfz6_0;try clear hfz6_1;try clear hfz6_2;try clear hfz9_0;try clear hfz9_1;try clear hfz9_2;try clear hx19_0;try clear hx319_0;try clear hx319_1;try clear hx319_2;try clear hx319_3;try clear hx319_4;try clear hx319_5;try clear hx319_6;try clear p1;try clear p19;try clear p2;try clear p3;try clear p319;try clear p6;try clear q1;try clear q19;try clear q3;try clear q319
             obtain ⟨x5_3,x8_3,x9_3,rfl,rfl,HA,HK3,HO_5,BK315,HB⟩ := hrel
             have hl5_3 := (Kd.R_reads' HO_5.out).1
             rw [hl5_3] at HO_5
             (try simp only [hl5_3])
             (try simp only [hl5_3] at BK315)
             cases gk with
             | zero => exact absurd HA.out (by simp [zf.l2])
             | succ k3 =>
              have H := HA.out
              clear HA
              simp only [zf.l2] at H
              by_cases c23 : x9_3 < (l0_2.length : Int)
              ·rw [if_pos c23] at H
               have c23b0 : decide (x9_3 < (l0_2.length : Int)) = true := decide_eq_true c23
               clear c23
               have H' := za.mk H
               clear H
               obtain ⟨hcz24_0,hcz24_1,hcz24_2,hfz24_0,hfz24_1,hfz24_2⟩ := hcq3 BK315.out
               go_wp2
               repeat (go_quiet (fail);try go_wp2)
               go_loopg [8,10] k3 (fun kq v8 v10 w' => ∃ (x5_4 : List Bool) (x8_4 : Bool) (x10_4 : Int),v8 = .bool x8_4 ∧ v10 = .int .i64 x10_4 ∧ za (zf.l3 kq x5_4 x8_4 x9_3 x10_4 a0_0 a0_1 l0_2 = some r) ∧ za (kq ≤ k3) ∧ za (Kd.R Kd.bool 4 w' w.heap.size (fun _ => True) (.slice (some ⟨go19,0,none⟩) x5_3.length co19) x5_4) ∧ za (w'.heap[gb315]? = some (.cells #[.int .i64 a0_0,.int .i64 a0_1,(.slice A0_2 l0_2.length c0_2)] 24 (0,0))) ∧ za (Below w.heap.size w w'))
               case atStart => exact ⟨(x5_3),(x8_3),(0),(hDq),(hDq),H',⟨Nat.le_refl _⟩,⟨by (try simp only [hl5_2]);(try simp only [hl5_3]);(with_reducible repeat (first | apply Kd.R_alloc | apply Kd.R_drewN | apply Kd.R_drew));exact HO_5.out⟩,⟨by (try simp only [hl5_2]);(try simp only [hl5_3]);(with_reducible repeat (first | refine zL ?_ _ | refine zG ?_ | refine ze ?_ _));exact BK315.out⟩,⟨by repeat (first | (with_reducible first | exact HB.out | apply zi | apply zl | apply zx | refine zm ?_ GE315.out) | exact HB.out)⟩⟩
               case round =>
                clear H'
                try clear c1;try clear p1;try clear q1;try clear hx1;try clear c2;try clear p2;try clear c3;try clear c3b0;try clear c3b1;try clear p3;try clear q3;try clear hx3;try clear c4;try clear c4b0;try clear c4b1;try clear p6;try clear c10;try clear c10b0;try clear c11;try clear c11b0;try clear c12;try clear c12b0;try clear c13;try clear c13b0;try clear c13b1;try clear c16;try clear c16b0;try clear c17;try clear c17b0;try clear c18;try clear c18b0;try clear p19;try clear q19;try clear hx19;try clear hf19;try clear c22;try clear c23;try clear c23b0;try clear hcz14_0;try clear hcz14_1;try clear hcz14_2;try clear hcz15_0;try clear hcz15_1;try clear hcz15_2;try clear hcz24_0;try clear hcz24_1;try clear hcz24_2;try clear hcz6_0;try clear hcz6_1;try clear hcz6_2;try clear hcz9_0;try clear hcz9_1;try clear hcz9_2;try clear hfz14_0;try clear hfz14_1;try clear hfz14_2;try clear hfz15_0;try clear hfz15_1;try clear hfz15_2;try clear hfz24_0;try clear hfz24_1;try clear hfz24_2;try clear hfz6_0;try clear hfz6_1;try clear hfz6_2;try clear hfz9_0;try clear hfz9_1;try clear hfz9_2;try clear hx19_0;try clear hx319_0;try clear hx319_1;try clear hx319_2;try clear hx319_3;try clear hx319_4;try clear hx319_5;try clear hx319_6;try clear p1;try clear p19;try clear p2;try clear p3;try clear p319;try clear p6;try clear q1;try clear q19;try clear q3;try clear q319
                obtain ⟨x5_4,x8_4,x10_4,rfl,rfl,HA,HK4,HO_5,BK315,HB⟩ := hrel
                have hl5_4 := (Kd.R_reads' HO_5.out).1
                rw [hl5_4] at HO_5
                (try simp only [hl5_4])
                (try simp only [hl5_4] at BK315)
                cases gk with
                | zero => exact absurd HA.out (by simp [zf.l3])
                | succ k4 =>
                 have H := HA.out
                 clear HA
                 simp only [zf.l3] at H
                 have HC25 := za.mk H
                 clear H
                 go_upto_region 18 with (fail)
                 repeat (go_quiet (fail);go_upto_region 18 with (fail))
                 go_cut [57] (fun v57 wc => ∃ (kq : Nat) (x57_24 : Bool),v57 = .bool x57_24 ∧ za (zf.j4 kq x5_4 x8_4 x9_3 x10_4 x57_24 a0_0 a0_1 l0_2 = some r) ∧ za (kq ≤ k4) ∧ za (Kd.R Kd.bool 4 wc w.heap.size (fun _ => True) (.slice (some ⟨go19,0,none⟩) x5_4.length co19) x5_4) ∧ za (wc.heap[gb315]? = some (.cells #[.int .i64 a0_0,.int .i64 a0_1,(.slice A0_2 l0_2.length c0_2)] 24 (0,0))) ∧ za (Below w.heap.size w wc))
                 case first =>
                  have H := HC25.out
                  clear HC25
                  by_cases c26 : x10_4 < (l0_2.length : Int)
                  ·rw [if_pos c26] at H
                   have c26b0 : decide (x10_4 < (l0_2.length : Int)) = true := decide_eq_true c26
                   clear c26
                   (first | rw [c26b0] | (simp only [z8,zaa];rw [c26b0]) | skip)
                   by_cases c27 : 0 ≤ x9_3
                   ·rw [if_pos c27] at H
                    have c27b0 : decide (0 ≤ x9_3) = true := decide_eq_true c27
                    clear c27
                    by_cases c28 : x9_3 < (x5_4.length : Int)
                    ·rw [if_pos c28] at H
                     have c28b0 : decide (x9_3 < (x5_4.length : Int)) = true := decide_eq_true c28
                     clear c28
                     have H' := za.mk H
                     clear H
                     obtain ⟨hcz29_0,hcz29_1,hcz29_2,hfz29_0,hfz29_1,hfz29_2⟩ := hcq3 BK315.out
                     have p321 : 0 ≤ (x9_3 : Int) := hFq
                     have q321 : x9_3 < (x5_4.length : Int) := hFq
                     obtain ⟨ad321,e321,hx321_0⟩ := Kd.at_bool (Kd.R_reads' HO_5.out).2.2 x9_3 p321 q321
                     obtain rfl : (⟨go19,0,none⟩ : Addr) = ad321 := (by injection e321)
                     (first | simp only [zbc] at hx321_0 | simp only [ze7] at hx321_0 | simp only [Addr.add,Nat.zero_add] at hx321_0 | skip)
                     replace p321 := eq_true p321
                     replace q321 := eq_true q321
                     go_wp2
                     repeat (go_quiet (fail);try go_wp2)
                     go_meet
                     case rel => exact ⟨_,(zz false x5_4 x9_3),(hDq),H',⟨by have := HK1.out;have := HK2.out;have := HK3.out;have := HK4.out;first | omega | exact Nat.le_refl _⟩,⟨by (try simp only [hl5_2]);(try simp only [hl5_3]);(try simp only [hl5_4]);(with_reducible repeat (first | apply Kd.R_alloc | apply Kd.R_drewN | apply Kd.R_drew));exact HO_5.out⟩,⟨by (try simp only [hl5_2]);(try simp only [hl5_3]);(try simp only [hl5_4]);(with_reducible repeat (first | refine zL ?_ _ | refine zG ?_ | refine ze ?_ _));exact BK315.out⟩,⟨by repeat (first | (with_reducible first | exact HB.out | apply zi | apply zl | apply zx | refine zm ?_ GE315.out) | exact HB.out)⟩⟩
                    ·rw [if_neg c28] at H
                     exact absurd H (by simp)
                   ·rw [if_neg c27] at H
                    exact absurd H (by simp)
                  ·rw [if_neg c26] at H
                   have c26b0 : decide (x10_4 < (l0_2.length : Int)) = false := decide_eq_false c26
                   clear c26
                   (first | rw [c26b0] | (simp only [z8,zaa];rw [c26b0]) | skip)
                   have H' := za.mk H
                   clear H
                   obtain ⟨hcz30_0,hcz30_1,hcz30_2,hfz30_0,hfz30_1,hfz30_2⟩ := hcq3 BK315.out
                   go_wp2
                   repeat (go_quiet (fail);try go_wp2)
                   go_meet
                   case rel => exact ⟨_,(false),(hDq),H',⟨by have := HK1.out;have := HK2.out;have := HK3.out;have := HK4.out;first | omega | exact Nat.le_refl _⟩,⟨by (try simp only [hl5_2]);(try simp only [hl5_3]);(try simp only [hl5_4]);(with_reducible repeat (first | apply Kd.R_alloc | apply Kd.R_drewN | apply Kd.R_drew));exact HO_5.out⟩,⟨by (try simp only [hl5_2]);(try simp only [hl5_3]);(try simp only [hl5_4]);(with_reducible repeat (first | refine zL ?_ _ | refine zG ?_ | refine ze ?_ _));exact BK315.out⟩,⟨by repeat (first | (with_reducible first | exact HB.out | apply zi | apply zl | apply zx | refine zm ?_ GE315.out) | exact HB.out)⟩⟩
                 case rest =>
                  clear HC25
                  try clear c1;try clear p1;try clear q1;try clear hx1;try clear c2;try clear p2;try clear c3;try clear c3b0;try clear c3b1;try clear p3;try clear q3;try clear hx3;try clear c4;try clear c4b0;try clear c4b1;try clear p6;try clear c10;try clear c10b0;try clear c11;try clear c11b0;try clear c12;try clear c12b0;try clear c13;try clear c13b0;try clear c13b1;try clear c16;try clear c16b0;try clear c17;try clear c17b0;try clear c18;try clear c18b0;try clear p19;try clear q19;try clear hx19;try clear hf19;try clear c22;try clear c23;try clear c23b0;try clear c26;try clear c26b0;try clear c27;try clear c27b0;try clear c28;try clear c28b0;try clear hcz14_0;try clear hcz14_1;try clear hcz14_2;try clear hcz15_0;try clear hcz15_1;try clear hcz15_2;try clear hcz24_0;try clear hcz24_1;try clear hcz24_2;try clear hcz29_0;try clear hcz29_1;try clear hcz29_2;try clear hcz30_0;try clear hcz30_1;try clear hcz30_2;try clear hcz6_0;try clear hcz6_1;try clear hcz6_2;try clear hcz9_0;try clear hcz9_1;try clear hcz9_2;try clear hfz14_0;try clear hfz14_1;try clear hfz14_2;try clear hfz15_0;try clear hfz15_1;try clear hfz15_2;try clear hfz24_0;try clear hfz24_1;try clear hfz24_2;try clear hfz29_0;try clear hfz29_1;try clear hfz29_2;try clear hfz30_0;try clear hfz30_1;try clear hfz30_2;try clear hfz6_0;try clear hfz6_1;try clear hfz6_2;try clear hfz9_0;try clear hfz9_1;try clear hfz9_2;try clear hx19_0;try clear hx319_0;try clear hx319_1;try clear hx319_2;try clear hx319_3;try clear hx319_4;try clear hx319_5;try clear hx319_6;try clear hx321_0;try clear p1;try clear p19;try clear p2;try clear p3;try clear p319;try clear p321;try clear p6;try clear q1;try clear q19;try clear q3;try clear q319;try clear q321
                  obtain ⟨kq,x57_24,rfl,HA,HJ24,HO_5,BK315,HB⟩ := hcut
                  cases kq with
                  | zero => exact absurd HA.out (by simp [zf.j4])
                  | succ kj24 =>
                   have H := HA.out
                   clear HA
                   simp only [zf.j4] at H
                   by_cases c31 : x57_24 = true
                   ·subst c31
                    have H1 : (if 0 ≤ x10_4 then (if x10_4 < (x5_4.length : Int) then (if zz false x5_4 x10_4 = true then (zf.j5 kj24 x5_4 x8_4 x9_3 x10_4 true a0_0 a0_1 l0_2) else (if x10_4 < (l0_2.length : Int) then (if 0 ≤ x9_3 then (if x9_3 < (l0_2.length : Int) then (zf.j5 kj24 x5_4 x8_4 x9_3 x10_4 (((zd l0_2 x10_4).f1.f1) != (wrap64 (((zd l0_2 x9_3).f1.f1) - 1))) a0_0 a0_1 l0_2) else (none)) else (none)) else (none))) else (none)) else (none)) = some r := by rw [if_pos rfl] at H;exact H
                    clear H
                    have H := H1
                    clear H1
                    have HC32 := za.mk H
                    clear H
                    go_upto_region 20 with (fail)
                    repeat (go_quiet (fail);go_upto_region 20 with (fail))
                    go_cut [81] (fun v81 wc => ∃ (kq : Nat) (x81_31 : Bool),v81 = .bool x81_31 ∧ za (zf.j5 kq x5_4 x8_4 x9_3 x10_4 x81_31 a0_0 a0_1 l0_2 = some r) ∧ za (kq ≤ kj24) ∧ za (Kd.R Kd.bool 4 wc w.heap.size (fun _ => True) (.slice (some ⟨go19,0,none⟩) x5_4.length co19) x5_4) ∧ za (wc.heap[gb315]? = some (.cells #[.int .i64 a0_0,.int .i64 a0_1,(.slice A0_2 l0_2.length c0_2)] 24 (0,0))) ∧ za (Below w.heap.size w wc))
                    case first =>
                     have H := HC32.out
                     clear HC32
                     by_cases c33 : 0 ≤ x10_4
                     ·rw [if_pos c33] at H
                      have c33b0 : decide (0 ≤ x10_4) = true := decide_eq_true c33
                      clear c33
                      (first | rw [c33b0] | (simp only [z8,zaa];rw [c33b0]) | skip)
                      by_cases c34 : x10_4 < (x5_4.length : Int)
                      ·rw [if_pos c34] at H
                       have c34b0 : decide (x10_4 < (x5_4.length : Int)) = true := decide_eq_true c34
                       clear c34
                       obtain ⟨bq35,hbq35⟩ : ∃ b_ : Bool,b_ = (zz false x5_4 x10_4) := ⟨_,rfl⟩
                       replace H : (if bq35 = true then (zf.j5 kj24 x5_4 x8_4 x9_3 x10_4 true a0_0 a0_1 l0_2) else (if x10_4 < (l0_2.length : Int) then (if 0 ≤ x9_3 then (if x9_3 < (l0_2.length : Int) then (zf.j5 kj24 x5_4 x8_4 x9_3 x10_4 (((zd l0_2 x10_4).f1.f1) != (wrap64 (((zd l0_2 x9_3).f1.f1) - 1))) a0_0 a0_1 l0_2) else (none)) else (none)) else (none))) = some r := by rw [← hbq35] at H;exact H
                       have Nbq35 := za.mk hbq35
                       clear hbq35
                       by_cases c36 : bq35 = true
                       ·subst c36
                        have H1 : (zf.j5 kj24 x5_4 x8_4 x9_3 x10_4 true a0_0 a0_1 l0_2) = some r := by rw [if_pos rfl] at H;exact H
                        clear H
                        have H := H1
                        clear H1
                        have H' := za.mk H
                        clear H
                        have p322 : 0 ≤ (x10_4 : Int) := hFq
                        have q322 : x10_4 < (x5_4.length : Int) := hFq
                        obtain ⟨ad322,e322,hx322_0⟩ := Kd.at_bool (Kd.R_reads' HO_5.out).2.2 x10_4 p322 q322
                        (try rw [← Nbq35.out] at hx322_0)
                        obtain rfl : (⟨go19,0,none⟩ : Addr) = ad322 := (by injection e322)
                        (first | simp only [zbc] at hx322_0 | simp only [ze7] at hx322_0 | simp only [Addr.add,Nat.zero_add] at hx322_0 | skip)
                        replace p322 := eq_true p322
                        replace q322 := eq_true q322
                        go_wp2
                        repeat (go_quiet (fail);try go_wp2)
                        go_meet
                        case rel => exact ⟨_,(true),(hDq),H',⟨by have := HK1.out;have := HK2.out;have := HK3.out;have := HK4.out;have := HJ24.out;first | omega | exact Nat.le_refl _⟩,⟨by (try simp only [hl5_2]);(try simp only [hl5_3]);(try simp only [hl5_4]);(with_reducible repeat (first | apply Kd.R_alloc | apply Kd.R_drewN | apply Kd.R_drew));exact HO_5.out⟩,⟨by (try simp only [hl5_2]);(try simp only [hl5_3]);(try simp only [hl5_4]);(with_reducible repeat (first | refine zL ?_ _ | refine zG ?_ | refine ze ?_ _));exact BK315.out⟩,⟨by repeat (first | (with_reducible first | exact HB.out | apply zi | apply zl | apply zx | refine zm ?_ GE315.out) | exact HB.out)⟩⟩
                       ·replace c36 := Bool.eq_false_iff.mpr c36
                        subst c36
                        have H1 : (if x10_4 < (l0_2.length : Int) then (if 0 ≤ x9_3 then (if x9_3 < (l0_2.length : Int) then (zf.j5 kj24 x5_4 x8_4 x9_3 x10_4 (((zd l0_2 x10_4).f1.f1) != (wrap64 (((zd l0_2 x9_3).f1.f1) - 1))) a0_0 a0_1 l0_2) else (none)) else (none)) else (none)) = some r := by rw [if_neg (show ¬ (false = true) by decide)] at H;exact H
                        clear H
                        have H := H1
                        clear H1
                        by_cases c37 : x10_4 < (l0_2.length : Int)
                        ·rw [if_pos c37] at H
                         have c37b0 : decide (x10_4 < (l0_2.length : Int)) = true := decide_eq_true c37
                         clear c37
                         by_cases c38 : 0 ≤ x9_3
                         ·rw [if_pos c38] at H
                          have c38b0 : decide (0 ≤ x9_3) = true := decide_eq_true c38
                          clear c38
                          by_cases c39 : x9_3 < (l0_2.length : Int)
                          ·rw [if_pos c39] at H
                           have c39b0 : decide (x9_3 < (l0_2.length : Int)) = true := decide_eq_true c39
                           clear c39
                           have H' := za.mk H
                           clear H
                           have p322 : 0 ≤ (x10_4 : Int) := hFq
                           have q322 : x10_4 < (x5_4.length : Int) := hFq
                           obtain ⟨ad322,e322,hx322_0⟩ := Kd.at_bool (Kd.R_reads' HO_5.out).2.2 x10_4 p322 q322
                           (try rw [← Nbq35.out] at hx322_0)
                           obtain rfl : (⟨go19,0,none⟩ : Addr) = ad322 := (by injection e322)
                           (first | simp only [zbc] at hx322_0 | simp only [ze7] at hx322_0 | simp only [Addr.add,Nat.zero_add] at hx322_0 | skip)
                           replace p322 := eq_true p322
                           replace q322 := eq_true q322
                           obtain ⟨hcz40_0,hcz40_1,hcz40_2,hfz40_0,hfz40_1,hfz40_2⟩ := hcq3 BK315.out
                           have p323 : 0 ≤ (x10_4 : Int) := hFq
                           have q323 : x10_4 < (l0_2.length : Int) := hFq
                           obtain ⟨ad323,A323_3,c323_3,A323_4,c323_4,e323,hx323_0,hx323_1,hx323_2,hx323_3,hx323_4,hx323_5,hx323_6,hl323_3,hi323_3,hl323_4,hi323_4⟩ := zai HR0_2.out x10_4 p323 q323
                           cases e323
                           replace hx323_0 := (HB.out.cell (World.block_lt_of_cell? w _ hx323_0)).trans hx323_0
                           replace hx323_1 := (HB.out.cell (World.block_lt_of_cell? w _ hx323_1)).trans hx323_1
                           replace hx323_2 := (HB.out.cell (World.block_lt_of_cell? w _ hx323_2)).trans hx323_2
                           replace hx323_3 := (HB.out.cell (World.block_lt_of_cell? w _ hx323_3)).trans hx323_3
                           replace hx323_4 := (HB.out.cell (World.block_lt_of_cell? w _ hx323_4)).trans hx323_4
                           replace hx323_5 := (HB.out.cell (World.block_lt_of_cell? w _ hx323_5)).trans hx323_5
                           replace hx323_6 := (HB.out.cell (World.block_lt_of_cell? w _ hx323_6)).trans hx323_6
                           have HR323_3 := za.mk hi323_3
                           have HC323_3 := za.mk hl323_3
                           clear hi323_3 hl323_3
                           have HR323_4 := za.mk hi323_4
                           have HC323_4 := za.mk hl323_4
                           clear hi323_4 hl323_4
                           replace p323 := eq_true p323
                           replace q323 := eq_true q323
                           have p324 : 0 ≤ (x9_3 : Int) := hFq
                           have q324 : x9_3 < (l0_2.length : Int) := hFq
                           obtain ⟨ad324,A324_3,c324_3,A324_4,c324_4,e324,hx324_0,hx324_1,hx324_2,hx324_3,hx324_4,hx324_5,hx324_6,hl324_3,hi324_3,hl324_4,hi324_4⟩ := zai HR0_2.out x9_3 p324 q324
                           obtain rfl : ad323 = ad324 := (by injection e324)
                           replace hx324_0 := (HB.out.cell (World.block_lt_of_cell? w _ hx324_0)).trans hx324_0
                           replace hx324_1 := (HB.out.cell (World.block_lt_of_cell? w _ hx324_1)).trans hx324_1
                           replace hx324_2 := (HB.out.cell (World.block_lt_of_cell? w _ hx324_2)).trans hx324_2
                           replace hx324_3 := (HB.out.cell (World.block_lt_of_cell? w _ hx324_3)).trans hx324_3
                           replace hx324_4 := (HB.out.cell (World.block_lt_of_cell? w _ hx324_4)).trans hx324_4
                           replace hx324_5 := (HB.out.cell (World.block_lt_of_cell? w _ hx324_5)).trans hx324_5
                           replace hx324_6 := (HB.out.cell (World.block_lt_of_cell? w _ hx324_6)).trans hx324_6
                           have HR324_3 := za.mk hi324_3
                           have HC324_3 := za.mk hl324_3
                           clear hi324_3 hl324_3
                           have HR324_4 := za.mk hi324_4
                           have HC324_4 := za.mk hl324_4
                           clear hi324_4 hl324_4
                           replace p324 := eq_true p324
                           replace q324 := eq_true q324
                           go_wp2
                           repeat (go_quiet (fail);try go_wp2)
                           go_meet
                           case rel => exact ⟨_,((((zd l0_2 x10_4).f1.f1) != (wrap64 (((zd l0_2 x9_3).f1.f1) - 1)))),(hDq),H',⟨by have := HK1.out;have := HK2.out;have := HK3.out;have := HK4.out;have := HJ24.out;first | omega | exact Nat.le_refl _⟩,⟨by (try simp only [hl5_2]);(try simp only [hl5_3]);(try simp only [hl5_4]);(with_reducible repeat (first | apply Kd.R_alloc | apply Kd.R_drewN | apply Kd.R_drew));exact HO_5.out⟩,⟨by (try simp only [hl5_2]);(try simp only [hl5_3]);(try simp only [hl5_4]);(with_reducible repeat (first | refine zL ?_ _ | refine zG ?_ | refine ze ?_ _));exact BK315.out⟩,⟨by repeat (first | (with_reducible first | exact HB.out | apply zi | apply zl | apply zx | refine zm ?_ GE315.out) | exact HB.out)⟩⟩
                          ·rw [if_neg c39] at H
                           exact absurd H (by simp)
                         ·rw [if_neg c38] at H
                          exact absurd H (by simp)
                        ·rw [if_neg c37] at H
                         exact absurd H (by simp)
                      ·rw [if_neg c34] at H
                       exact absurd H (by simp)
                     ·rw [if_neg c33] at H
                      exact absurd H (by simp)
                    case rest =>
                     clear HC32
                     try clear c1;try clear p1;try clear q1;try clear hx1;try clear c2;try clear p2;try clear c3;try clear c3b0;try clear c3b1;try clear p3;try clear q3;try clear hx3;try clear c4;try clear c4b0;try clear c4b1;try clear p6;try clear c10;try clear c10b0;try clear c11;try clear c11b0;try clear c12;try clear c12b0;try clear c13;try clear c13b0;try clear c13b1;try clear c16;try clear c16b0;try clear c17;try clear c17b0;try clear c18;try clear c18b0;try clear p19;try clear q19;try clear hx19;try clear hf19;try clear c22;try clear c23;try clear c23b0;try clear c26;try clear c26b0;try clear c27;try clear c27b0;try clear c28;try clear c28b0;try clear c31;try clear p31;try clear q31;try clear hx31;try clear c32;try clear p32;try clear q32;try clear hx32;try clear c33;try clear c33b0;try clear c34;try clear c34b0;try clear q35;try clear c36;try clear c37;try clear c37b0;try clear c38;try clear c38b0;try clear c39;try clear c39b0;try clear hcz14_0;try clear hcz14_1;try clear hcz14_2;try clear hcz15_0;try clear hcz15_1;try clear hcz15_2;try clear hcz24_0;try clear hcz24_1;try clear hcz24_2;try clear hcz29_0;try clear hcz29_1;try clear hcz29_2;try clear hcz30_0;try clear hcz30_1;try clear hcz30_2;try clear hcz40_0;try clear hcz40_1;try clear hcz40_2;try clear hcz6_0;try clear hcz6_1;try clear hcz6_2;try clear hcz9_0;try clear hcz9_1;try clear hcz9_2;try clear hfz14_0;try clear hfz14_1;try clear hfz14_2;try clear hfz15_0;try clear hfz15_1;try clear hfz15_2;try clear hfz24_0;try clear hfz24_1;try clear hfz24_2;try clear hfz29_0;try clear hfz29_1;try clear hfz29_2;try clear hfz30_0;try clear hfz30_1;try clear hfz30_2;try clear hfz40_0;try clear hfz40_1;try clear hfz40_2;try clear hfz6_0;try clear hfz6_1;try clear hfz6_2;try clear hfz9_0;try clear hfz9_1;try clear hfz9_2;try clear hx19_0;try clear hx319_0;try clear hx319_1;try clear hx319_2;try clear hx319_3;try clear hx319_4;try clear hx319_5;try clear hx319_6;try clear hx321_0;try clear hx322_0;try clear hx323_0;try clear hx323_1;try clear hx323_2;try clear hx323_3;try clear hx323_4;try clear hx323_5;try clear hx323_6;try clear hx324_0;try clear hx324_1;try clear hx324_2;try clear hx324_3;try clear hx324_4;try clear hx324_5;try clear hx324_6;try clear p1;try clear p19;try clear p2;try clear p3;try clear p319;try clear p321;try clear p322;try clear p323;try clear p324;try clear p6;try clear q1;try clear q19;try clear q3;try clear q319;try clear q321;try clear q322;try clear q323;try clear q324
                     obtain ⟨kq,x81_31,rfl,HA,HJ31,HO_5,BK315,HB⟩ := hcut
                     cases kq with
                     | zero => exact absurd HA.out (by simp [zf.j5])
                     | succ kj31 =>
                      have H := HA.out
                      clear HA
                      simp only [zf.j5] at H
                      by_cases c41 : x81_31 = true
                      ·subst c41
                       have H1 : (zf.l3 kj31 x5_4 x8_4 x9_3 (wrap64 (x10_4 + 1)) a0_0 a0_1 l0_2) = some r := by rw [if_pos rfl] at H;exact H
                       clear H
                       have H := H1
                       clear H1
                       have H' := za.mk H
                       clear H
                       go_wp2
                       repeat (go_quiet (fail);try go_wp2)
                       (try simp only [← hl5_4])
                       go_roundg kj31
                       case measure => have := HK1.out;have := HK2.out;have := HK3.out;have := HK4.out;have := HJ24.out;have := HJ31.out;omega
                       case rel => exact ⟨(x5_4),(x8_4),(wrap64 (x10_4 + 1)),(hDq),(hDq),H',⟨by have := HK1.out;have := HK2.out;have := HK3.out;have := HK4.out;have := HJ24.out;have := HJ31.out;omega⟩,⟨by (try simp only [hl5_2]);(try simp only [hl5_3]);(try simp only [hl5_4]);(with_reducible repeat (first | apply Kd.R_alloc | apply Kd.R_drewN | apply Kd.R_drew));exact HO_5.out⟩,⟨by (try simp only [hl5_2]);(try simp only [hl5_3]);(try simp only [hl5_4]);(with_reducible repeat (first | refine zL ?_ _ | refine zG ?_ | refine ze ?_ _));exact BK315.out⟩,⟨by repeat (first | (with_reducible first | exact HB.out | apply zi | apply zl | apply zx | refine zm ?_ GE315.out) | exact HB.out)⟩⟩
                      ·replace c41 := Bool.eq_false_iff.mpr c41
                       subst c41
                       have H1 : (zf.l4 kj31 x5_4 x8_4 x9_3 x10_4 0 a0_0 a0_1 l0_2) = some r := by rw [if_neg (show ¬ (false = true) by decide)] at H;exact H
                       clear H
                       have H := H1
                       clear H1
                       have H' := za.mk H
                       clear H
                       go_wp2
                       repeat (go_quiet (fail);try go_wp2)
                       go_loopg [8,11] kj31 (fun kq v8 v11 w' => ∃ (x5_7 : List Bool) (x8_7 : Bool) (x11_7 : Int),v8 = .bool x8_7 ∧ v11 = .int .i64 x11_7 ∧ za (zf.l4 kq x5_7 x8_7 x9_3 x10_4 x11_7 a0_0 a0_1 l0_2 = some r) ∧ za (kq ≤ kj31) ∧ za (Kd.R Kd.bool 4 w' w.heap.size (fun _ => True) (.slice (some ⟨go19,0,none⟩) x5_4.length co19) x5_7) ∧ za (w'.heap[gb315]? = some (.cells #[.int .i64 a0_0,.int .i64 a0_1,(.slice A0_2 l0_2.length c0_2)] 24 (0,0))) ∧ za (Below w.heap.size w w'))
                       case atStart => exact ⟨(x5_4),(x8_4),(0),(hDq),(hDq),H',⟨Nat.le_refl _⟩,⟨by (try simp only [hl5_2]);(try simp only [hl5_3]);(try simp only [hl5_4]);(with_reducible repeat (first | apply Kd.R_alloc | apply Kd.R_drewN | apply Kd.R_drew));exact HO_5.out⟩,⟨by (try simp only [hl5_2]);(try simp only [hl5_3]);(try simp only [hl5_4]);(with_reducible repeat (first | refine zL ?_ _ | refine zG ?_ | refine ze ?_ _));exact BK315.out⟩,⟨by repeat (first | (with_reducible first | exact HB.out | apply zi | apply zl | apply zx | refine zm ?_ GE315.out) | exact HB.out)⟩⟩
                       case round =>
                        clear H'
                        try clear c1;try clear p1;try clear q1;try clear hx1;try clear c2;try clear p2;try clear c3;try clear c3b0;try clear c3b1;try clear p3;try clear q3;try clear hx3;try clear c4;try clear c4b0;try clear c4b1;try clear p6;try clear c10;try clear c10b0;try clear c11;try clear c11b0;try clear c12;try clear c12b0;try clear c13;try clear c13b0;try clear c13b1;try clear c16;try clear c16b0;try clear c17;try clear c17b0;try clear c18;try clear c18b0;try clear p19;try clear q19;try clear hx19;try clear hf19;try clear c22;try clear c23;try clear c23b0;try clear c26;try clear c26b0;try clear c27;try clear c27b0;try clear c28;try clear c28b0;try clear c31;try clear p31;try clear q31;try clear hx31;try clear c32;try clear p32;try clear q32;try clear hx32;try clear c33;try clear c33b0;try clear c34;try clear c34b0;try clear q35;try clear c36;try clear c37;try clear c37b0;try clear c38;try clear c38b0;try clear c39;try clear c39b0;try clear c41;try clear hcz14_0;try clear hcz14_1;try clear hcz14_2;try clear hcz15_0;try clear hcz15_1;try clear hcz15_2;try clear hcz24_0;try clear hcz24_1;try clear hcz24_2;try clear hcz29_0;try clear hcz29_1;try clear hcz29_2;try clear hcz30_0;try clear hcz30_1;try clear hcz30_2;try clear hcz40_0;try clear hcz40_1;try clear hcz40_2;try clear hcz6_0;try clear hcz6_1;try clear hcz6_2;try clear hcz9_0;try clear hcz9_1;try clear hcz9_2;try clear hfz14_0;try clear hfz14_1;try clear hfz14_2;try clear hfz15_0;try clear hfz15_1;try clear hfz15_2;try clear hfz24_0;try clear hfz24_1;try clear hfz24_2;try clear hfz29_0;try clear hfz29_1;try clear hfz29_2;try clear hfz30_0;try clear hfz30_1;try clear hfz30_2;try clear hfz40_0;try clear hfz40_1;try clear hfz40_2;try clear hfz6_0;try clear hfz6_1;try clear hfz6_2;try clear hfz9_0;try clear hfz9_1;try clear hfz9_2;try clear hx19_0;try clear hx319_0;try clear hx319_1;try clear hx319_2;try clear hx319_3;try clear hx319_4;try clear hx319_5;try clear hx319_6;try clear hx321_0;try clear hx322_0;try clear hx323_0;try clear hx323_1;try clear hx323_2;try clear hx323_3;try clear hx323_4;try clear hx323_5;try clear hx323_6;try clear hx324_0;try clear hx324_1;try clear hx324_2;try clear hx324_3;try clear hx324_4;try clear hx324_5;try clear hx324_6;try clear p1;try clear p19;try clear p2;try clear p3;try clear p31;try clear p319;try clear p32;try clear p321;try clear p322;try clear p323;try clear p324;try clear p6;try clear q1;try clear q19;try clear q3;try clear q31;try clear q319;try clear q32;try clear q321;try clear q322;try clear q323;try clear q324;try clear q35
                        obtain ⟨x5_7,x8_7,x11_7,rfl,rfl,HA,HK7,HO_5,BK315,HB⟩ := hrel
                        have hl5_7 := (Kd.R_reads' HO_5.out).1
                        rw [hl5_7] at HO_5
                        (try simp only [hl5_7])
                        (try simp only [hl5_7] at BK315)
                        cases gk with
                        | zero => exact absurd HA.out (by simp [zf.l4])
                        | succ k7 =>
                         have H := HA.out
                         clear HA
                         simp only [zf.l4] at H
                         by_cases c42 : 0 ≤ x9_3
                         ·rw [if_pos c42] at H
                          have c42b0 : decide (0 ≤ x9_3) = true := decide_eq_true c42
                          clear c42
                          by_cases c43 : x9_3 < (l0_2.length : Int)
                          ·rw [if_pos c43] at H
                           have c43b0 : decide (x9_3 < (l0_2.length : Int)) = true := decide_eq_true c43
                           clear c43
                           by_cases c44 : x11_7 < (((zd l0_2 x9_3).f1.f3).length : Int)
                           ·rw [if_pos c44] at H
                            have c44b0 : decide (x11_7 < (((zd l0_2 x9_3).f1.f3).length : Int)) = true := decide_eq_true c44
                            clear c44
                            by_cases c45 : 0 ≤ x11_7
                            ·rw [if_pos c45] at H
                             have c45b0 : decide (0 ≤ x11_7) = true := decide_eq_true c45
                             clear c45
                             by_cases c46 : 0 ≤ x10_4
                             ·rw [if_pos c46] at H
                              have c46b0 : decide (0 ≤ x10_4) = true := decide_eq_true c46
                              clear c46
                              by_cases c47 : x10_4 < (l0_2.length : Int)
                              ·rw [if_pos c47] at H
                               have c47b0 : decide (x10_4 < (l0_2.length : Int)) = true := decide_eq_true c47
                               clear c47
                               by_cases c48 : (zz ByteArray.empty ((zd l0_2 x9_3).f1.f3) x11_7).toList = ((zd l0_2 x10_4).f0).toList
                               ·rw [if_pos c48] at H
                                have c48b0 : ((zz ByteArray.empty ((zd l0_2 x9_3).f1.f3) x11_7).toList == ((zd l0_2 x10_4).f0).toList) = true := beq_iff_eq.mpr c48
                                have c48b1 : ((zz ByteArray.empty ((zd l0_2 x9_3).f1.f3) x11_7).toList != ((zd l0_2 x10_4).f0).toList) = false := bne_eq_false_iff_eq.mpr c48
                                clear c48
                                by_cases c49 : x10_4 < (x5_7.length : Int)
                                ·rw [if_pos c49] at H
                                 have c49b0 : decide (x10_4 < (x5_7.length : Int)) = true := decide_eq_true c49
                                 clear c49
                                 obtain ⟨y329,hy329⟩ : ∃ y_ : List Bool,y_ = (x5_7.set (x10_4 : Int).toNat true) := ⟨_,rfl⟩
                                 replace H : (zf.l4 k7 y329 true x9_3 x10_4 (wrap64 (x11_7 + 1)) a0_0 a0_1 l0_2) = some r := by first | (rw [hy329];with_reducible exact H) | (have H2_ := (Option.bind_some _ _).symm.trans H;rw [hy329];with_reducible exact H2_) | (have H2_ := (Option.bind_some _ _).symm.trans H;with_reducible exact H2_) | with_reducible exact H | (rw [hy329];exact H) | exact H
                                 have Ny329 := za.mk hy329
                                 clear hy329
                                 have H' := za.mk H
                                 clear H
                                 obtain ⟨hcz51_0,hcz51_1,hcz51_2,hfz51_0,hfz51_1,hfz51_2⟩ := hcq3 BK315.out
                                 have p325 : 0 ≤ (x9_3 : Int) := hFq
                                 have q325 : x9_3 < (l0_2.length : Int) := hFq
                                 obtain ⟨ad325,A325_3,c325_3,A325_4,c325_4,e325,hx325_0,hx325_1,hx325_2,hx325_3,hx325_4,hx325_5,hx325_6,hl325_3,hi325_3,hl325_4,hi325_4⟩ := zai HR0_2.out x9_3 p325 q325
                                 cases e325
                                 replace hx325_0 := (HB.out.cell (World.block_lt_of_cell? w _ hx325_0)).trans hx325_0
                                 replace hx325_1 := (HB.out.cell (World.block_lt_of_cell? w _ hx325_1)).trans hx325_1
                                 replace hx325_2 := (HB.out.cell (World.block_lt_of_cell? w _ hx325_2)).trans hx325_2
                                 replace hx325_3 := (HB.out.cell (World.block_lt_of_cell? w _ hx325_3)).trans hx325_3
                                 replace hx325_4 := (HB.out.cell (World.block_lt_of_cell? w _ hx325_4)).trans hx325_4
                                 replace hx325_5 := (HB.out.cell (World.block_lt_of_cell? w _ hx325_5)).trans hx325_5
                                 replace hx325_6 := (HB.out.cell (World.block_lt_of_cell? w _ hx325_6)).trans hx325_6
                                 have HR325_3 := za.mk hi325_3
                                 have HC325_3 := za.mk hl325_3
                                 clear hi325_3 hl325_3
                                 have HR325_4 := za.mk hi325_4
                                 have HC325_4 := za.mk hl325_4
                                 clear hi325_4 hl325_4
                                 replace p325 := eq_true p325
                                 replace q325 := eq_true q325
                                 have p326 : 0 ≤ (x9_3 : Int) := hFq
                                 have q326 : x9_3 < (l0_2.length : Int) := hFq
                                 obtain ⟨ad326,A326_3,c326_3,A326_4,c326_4,e326,hx326_0,hx326_1,hx326_2,hx326_3,hx326_4,hx326_5,hx326_6,hl326_3,hi326_3,hl326_4,hi326_4⟩ := zai HR0_2.out x9_3 p326 q326
                                 obtain rfl : ad325 = ad326 := (by injection e326)
                                 replace hx326_0 := (HB.out.cell (World.block_lt_of_cell? w _ hx326_0)).trans hx326_0
                                 replace hx326_1 := (HB.out.cell (World.block_lt_of_cell? w _ hx326_1)).trans hx326_1
                                 replace hx326_2 := (HB.out.cell (World.block_lt_of_cell? w _ hx326_2)).trans hx326_2
                                 replace hx326_3 := (HB.out.cell (World.block_lt_of_cell? w _ hx326_3)).trans hx326_3
                                 replace hx326_4 := (HB.out.cell (World.block_lt_of_cell? w _ hx326_4)).trans hx326_4
                                 replace hx326_5 := (HB.out.cell (World.block_lt_of_cell? w _ hx326_5)).trans hx326_5
                                 replace hx326_6 := (HB.out.cell (World.block_lt_of_cell? w _ hx326_6)).trans hx326_6
                                 have HR326_3 := za.mk hi326_3
                                 have HC326_3 := za.mk hl326_3
                                 clear hi326_3 hl326_3
                                 have HR326_4 := za.mk hi326_4
                                 have HC326_4 := za.mk hl326_4
                                 clear hi326_4 hl326_4
                                 replace p326 := eq_true p326
                                 replace q326 := eq_true q326
                                 have ea_ := Option.some.inj (hx325_3.symm.trans hx326_3)
                                 injection ea_ with ea_ en_ ec_
                                 subst ea_
                                 subst ec_
                                 clear en_
                                 have ea_ := Option.some.inj (hx325_4.symm.trans hx326_4)
                                 injection ea_ with ea_ en_ ec_
                                 subst ea_
                                 subst ec_
                                 clear en_
                                 have p327 : 0 ≤ (x11_7 : Int) := hFq
                                 have q327 : x11_7 < (((zd l0_2 x9_3).f1.f3).length : Int) := hFq
                                 obtain ⟨ad327,e327,hx327_0⟩ := Kd.at_string HR326_4.out x11_7 p327 q327
                                 cases e327
                                 replace hx327_0 := (HB.out.cell (World.block_lt_of_cell? w _ hx327_0)).trans hx327_0
                                 replace p327 := eq_true p327
                                 replace q327 := eq_true q327
                                 have p328 : 0 ≤ (x10_4 : Int) := hFq
                                 have q328 : x10_4 < (l0_2.length : Int) := hFq
                                 obtain ⟨ad328,A328_3,c328_3,A328_4,c328_4,e328,hx328_0,hx328_1,hx328_2,hx328_3,hx328_4,hx328_5,hx328_6,hl328_3,hi328_3,hl328_4,hi328_4⟩ := zai HR0_2.out x10_4 p328 q328
                                 obtain rfl : ad325 = ad328 := (by injection e328)
                                 replace hx328_0 := (HB.out.cell (World.block_lt_of_cell? w _ hx328_0)).trans hx328_0
                                 replace hx328_1 := (HB.out.cell (World.block_lt_of_cell? w _ hx328_1)).trans hx328_1
                                 replace hx328_2 := (HB.out.cell (World.block_lt_of_cell? w _ hx328_2)).trans hx328_2
                                 replace hx328_3 := (HB.out.cell (World.block_lt_of_cell? w _ hx328_3)).trans hx328_3
                                 replace hx328_4 := (HB.out.cell (World.block_lt_of_cell? w _ hx328_4)).trans hx328_4
                                 replace hx328_5 := (HB.out.cell (World.block_lt_of_cell? w _ hx328_5)).trans hx328_5
                                 replace hx328_6 := (HB.out.cell (World.block_lt_of_cell? w _ hx328_6)).trans hx328_6
                                 have HR328_3 := za.mk hi328_3
                                 have HC328_3 := za.mk hl328_3
                                 clear hi328_3 hl328_3
                                 have HR328_4 := za.mk hi328_4
                                 have HC328_4 := za.mk hl328_4
                                 clear hi328_4 hl328_4
                                 replace p328 := eq_true p328
                                 replace q328 := eq_true q328
                                 have p50 : 0 ≤ (x10_4 : Int) := hFq
                                 have q50 : (x10_4 : Int) < ((x5_7.length : Int) : Int) := hFq
                                 obtain ⟨hx50_0,hf50_0⟩ := Kd.R_celln false HO_5.out (x10_4 : Int) p50 q50
                                 replace p50 := eq_true p50
                                 replace q50 := eq_true q50
                                 have HP52 := Kd.R_putg HO_5.out (x10_4 : Int) true
                                 go_wp2_with (first | ((with_reducible refine z6 (t := 4) (p := 113) rfl ?_);(try (rw [zb9 wr];generalize hq_ : World.drewN wr _ = wr;have n_ := haq (Kd.R_at hq_ HO_5.out) <| haq (zek hq_ BK315.out) <| haq (zcU hq_ HB.out) <| trivial;clear hq_ HO_5 BK315 HB;obtain ⟨HO_5,BK315,HB,_⟩ := n_;(try (have HP52 := Kd.R_putg HO_5.out (x10_4 : Int) true));(try (obtain ⟨hx50_0,hf50_0⟩ := Kd.R_celln false HO_5.out (x10_4 : Int) (of_eq_true p50) (of_eq_true q50)))));refine zT (t := 4) (p := 113) (v := _) (w1 := (wr.setCell ⟨go19,(x10_4 : Int).toNat,none⟩ (.bool true))) rfl rfl rfl hrq ?_;intro w53 hw;have hg : wr.grownBy w53 (some go19) := (by rw [hw];exact HP52.2);have hp_ : Kd.R Kd.bool 4 w53 w.heap.size (fun _ => True) (.slice (some ⟨go19,0,none⟩) x5_7.length co19) y329 := (by rw [hw,Ny329.out];exact HP52.1);clear HP52;have n_ := haq (hp_) <| haq (zaJ (g := gb315) (o := .cells #[.int .i64 a0_0,.int .i64 a0_1,.slice (some ad325) l0_2.length c0_2] 24 (0,0)) (hGq BK315.out) hg (Kd.R_ne HO_5.out BK315.out (by decide))) <| haq ((by rw [hw];exact zm (HB.out) GB19.out : Below w.heap.size w w53)) <| trivial;clear HO_5 BK315 HB;obtain ⟨HO_5,BK315,HB,_⟩ := n_;clear hg hw hp_))
                                 repeat (go_quiet (first | ((with_reducible refine z6 (t := 4) (p := 113) rfl ?_);(try (rw [zb9 wr];generalize hq_ : World.drewN wr _ = wr;have n_ := haq (Kd.R_at hq_ HO_5.out) <| haq (zek hq_ BK315.out) <| haq (zcU hq_ HB.out) <| trivial;clear hq_ HO_5 BK315 HB;obtain ⟨HO_5,BK315,HB,_⟩ := n_;(try (have HP52 := Kd.R_putg HO_5.out (x10_4 : Int) true));(try (obtain ⟨hx50_0,hf50_0⟩ := Kd.R_celln false HO_5.out (x10_4 : Int) (of_eq_true p50) (of_eq_true q50)))));refine zT (t := 4) (p := 113) (v := _) (w1 := (wr.setCell ⟨go19,(x10_4 : Int).toNat,none⟩ (.bool true))) rfl rfl rfl hrq ?_;intro w53 hw;have hg : wr.grownBy w53 (some go19) := (by rw [hw];exact HP52.2);have hp_ : Kd.R Kd.bool 4 w53 w.heap.size (fun _ => True) (.slice (some ⟨go19,0,none⟩) x5_7.length co19) y329 := (by rw [hw,Ny329.out];exact HP52.1);clear HP52;have n_ := haq (hp_) <| haq (zaJ (g := gb315) (o := .cells #[.int .i64 a0_0,.int .i64 a0_1,.slice (some ad325) l0_2.length c0_2] 24 (0,0)) (hGq BK315.out) hg (Kd.R_ne HO_5.out BK315.out (by decide))) <| haq ((by rw [hw];exact zm (HB.out) GB19.out : Below w.heap.size w w53)) <| trivial;clear HO_5 BK315 HB;obtain ⟨HO_5,BK315,HB,_⟩ := n_;clear hg hw hp_));try go_wp2_with (first | ((with_reducible refine z6 (t := 4) (p := 113) rfl ?_);(try (rw [zb9 wr];generalize hq_ : World.drewN wr _ = wr;have n_ := haq (Kd.R_at hq_ HO_5.out) <| haq (zek hq_ BK315.out) <| haq (zcU hq_ HB.out) <| trivial;clear hq_ HO_5 BK315 HB;obtain ⟨HO_5,BK315,HB,_⟩ := n_;(try (have HP52 := Kd.R_putg HO_5.out (x10_4 : Int) true));(try (obtain ⟨hx50_0,hf50_0⟩ := Kd.R_celln false HO_5.out (x10_4 : Int) (of_eq_true p50) (of_eq_true q50)))));refine zT (t := 4) (p := 113) (v := _) (w1 := (wr.setCell ⟨go19,(x10_4 : Int).toNat,none⟩ (.bool true))) rfl rfl rfl hrq ?_;intro w53 hw;have hg : wr.grownBy w53 (some go19) := (by rw [hw];exact HP52.2);have hp_ : Kd.R Kd.bool 4 w53 w.heap.size (fun _ => True) (.slice (some ⟨go19,0,none⟩) x5_7.length co19) y329 := (by rw [hw,Ny329.out];exact HP52.1);clear HP52;have n_ := haq (hp_) <| haq (zaJ (g := gb315) (o := .cells #[.int .i64 a0_0,.int .i64 a0_1,.slice (some ad325) l0_2.length c0_2] 24 (0,0)) (hGq BK315.out) hg (Kd.R_ne HO_5.out BK315.out (by decide))) <| haq ((by rw [hw];exact zm (HB.out) GB19.out : Below w.heap.size w w53)) <| trivial;clear HO_5 BK315 HB;obtain ⟨HO_5,BK315,HB,_⟩ := n_;clear hg hw hp_)))
                                 (try simp only [← hl5_7])
                                 go_roundg k7
                                 case measure => have := HK1.out;have := HK2.out;have := HK3.out;have := HK4.out;have := HJ24.out;have := HJ31.out;have := HK7.out;omega
                                 case rel => exact ⟨(y329),(true),(wrap64 (x11_7 + 1)),(hDq),(hDq),H',⟨by have := HK1.out;have := HK2.out;have := HK3.out;have := HK4.out;have := HJ24.out;have := HJ31.out;have := HK7.out;omega⟩,⟨by (try simp only [hl5_2]);(try simp only [hl5_3]);(try simp only [hl5_4]);(try simp only [hl5_7]);(with_reducible repeat (first | apply Kd.R_alloc | apply Kd.R_drewN | apply Kd.R_drew));exact HO_5.out⟩,⟨by (try simp only [hl5_2]);(try simp only [hl5_3]);(try simp only [hl5_4]);(try simp only [hl5_7]);(with_reducible repeat (first | refine zL ?_ _ | refine zG ?_ | refine ze ?_ _));exact BK315.out⟩,⟨by repeat (first | (with_reducible first | exact HB.out | apply zi | apply zl | apply zx | refine zm ?_ GE315.out) | exact HB.out)⟩⟩
                                ·rw [if_neg c49] at H
                                 exact absurd H (by simp)
                               ·rw [if_neg c48] at H
                                have c48b0 : ((zz ByteArray.empty ((zd l0_2 x9_3).f1.f3) x11_7).toList == ((zd l0_2 x10_4).f0).toList) = false := beq_eq_false_iff_ne.mpr c48
                                have c48b1 : ((zz ByteArray.empty ((zd l0_2 x9_3).f1.f3) x11_7).toList != ((zd l0_2 x10_4).f0).toList) = true := bne_iff_ne.mpr c48
                                have H' := za.mk H
                                clear H
                                obtain ⟨hcz54_0,hcz54_1,hcz54_2,hfz54_0,hfz54_1,hfz54_2⟩ := hcq3 BK315.out
                                have p325 : 0 ≤ (x9_3 : Int) := hFq
                                have q325 : x9_3 < (l0_2.length : Int) := hFq
                                obtain ⟨ad325,A325_3,c325_3,A325_4,c325_4,e325,hx325_0,hx325_1,hx325_2,hx325_3,hx325_4,hx325_5,hx325_6,hl325_3,hi325_3,hl325_4,hi325_4⟩ := zai HR0_2.out x9_3 p325 q325
                                cases e325
                                replace hx325_0 := (HB.out.cell (World.block_lt_of_cell? w _ hx325_0)).trans hx325_0
                                replace hx325_1 := (HB.out.cell (World.block_lt_of_cell? w _ hx325_1)).trans hx325_1
                                replace hx325_2 := (HB.out.cell (World.block_lt_of_cell? w _ hx325_2)).trans hx325_2
                                replace hx325_3 := (HB.out.cell (World.block_lt_of_cell? w _ hx325_3)).trans hx325_3
                                replace hx325_4 := (HB.out.cell (World.block_lt_of_cell? w _ hx325_4)).trans hx325_4
                                replace hx325_5 := (HB.out.cell (World.block_lt_of_cell? w _ hx325_5)).trans hx325_5
                                replace hx325_6 := (HB.out.cell (World.block_lt_of_cell? w _ hx325_6)).trans hx325_6
                                have HR325_3 := za.mk hi325_3
                                have HC325_3 := za.mk hl325_3
                                clear hi325_3 hl325_3
                                have HR325_4 := za.mk hi325_4
                                have HC325_4 := za.mk hl325_4
                                clear hi325_4 hl325_4
                                replace p325 := eq_true p325
                                replace q325 := eq_true q325
                                have p326 : 0 ≤ (x9_3 : Int) := hFq
                                have q326 : x9_3 < (l0_2.length : Int) := hFq
                                obtain ⟨ad326,A326_3,c326_3,A326_4,c326_4,e326,hx326_0,hx326_1,hx326_2,hx326_3,hx326_4,hx326_5,hx326_6,hl326_3,hi326_3,hl326_4,hi326_4⟩ := zai HR0_2.out x9_3 p326 q326
                                obtain rfl : ad325 = ad326 := (by injection e326)
                                replace hx326_0 := (HB.out.cell (World.block_lt_of_cell? w _ hx326_0)).trans hx326_0
                                replace hx326_1 := (HB.out.cell (World.block_lt_of_cell? w _ hx326_1)).trans hx326_1
                                replace hx326_2 := (HB.out.cell (World.block_lt_of_cell? w _ hx326_2)).trans hx326_2
                                replace hx326_3 := (HB.out.cell (World.block_lt_of_cell? w _ hx326_3)).trans hx326_3
                                replace hx326_4 := (HB.out.cell (World.block_lt_of_cell? w _ hx326_4)).trans hx326_4
                                replace hx326_5 := (HB.out.cell (World.block_lt_of_cell? w _ hx326_5)).trans hx326_5
                                replace hx326_6 := (HB.out.cell (World.block_lt_of_cell? w _ hx326_6)).trans hx326_6
                                have HR326_3 := za.mk hi326_3
                                have HC326_3 := za.mk hl326_3
                                clear hi326_3 hl326_3
                                have HR326_4 := za.mk hi326_4
                                have HC326_4 := za.mk hl326_4
                                clear hi326_4 hl326_4
                                replace p326 := eq_true p326
                                replace q326 := eq_true q326
                                have ea_ := Option.some.inj (hx325_3.symm.trans hx326_3)
                                injection ea_ with ea_ en_ ec_
                                subst ea_
                                subst ec_
                                clear en_
                                have ea_ := Option.some.inj (hx325_4.symm.trans hx326_4)
                                injection ea_ with ea_ en_ ec_
                                subst ea_
                                subst ec_
                                clear en_
                                have p327 : 0 ≤ (x11_7 : Int) := hFq
                                have q327 : x11_7 < (((zd l0_2 x9_3).f1.f3).length : Int) := hFq
                                obtain ⟨ad327,e327,hx327_0⟩ := Kd.at_string HR326_4.out x11_7 p327 q327
                                cases e327
                                replace hx327_0 := (HB.out.cell (World.block_lt_of_cell? w _ hx327_0)).trans hx327_0
                                replace p327 := eq_true p327
                                replace q327 := eq_true q327
                                have p328 : 0 ≤ (x10_4 : Int) := hFq
                                have q328 : x10_4 < (l0_2.length : Int) := hFq
                                obtain ⟨ad328,A328_3,c328_3,A328_4,c328_4,e328,hx328_0,hx328_1,hx328_2,hx328_3,hx328_4,hx328_5,hx328_6,hl328_3,hi328_3,hl328_4,hi328_4⟩ := zai HR0_2.out x10_4 p328 q328
                                obtain rfl : ad325 = ad328 := (by injection e328)
                                replace hx328_0 := (HB.out.cell (World.block_lt_of_cell? w _ hx328_0)).trans hx328_0
                                replace hx328_1 := (HB.out.cell (World.block_lt_of_cell? w _ hx328_1)).trans hx328_1
                                replace hx328_2 := (HB.out.cell (World.block_lt_of_cell? w _ hx328_2)).trans hx328_2
                                replace hx328_3 := (HB.out.cell (World.block_lt_of_cell? w _ hx328_3)).trans hx328_3
                                replace hx328_4 := (HB.out.cell (World.block_lt_of_cell? w _ hx328_4)).trans hx328_4
                                replace hx328_5 := (HB.out.cell (World.block_lt_of_cell? w _ hx328_5)).trans hx328_5
                                replace hx328_6 := (HB.out.cell (World.block_lt_of_cell? w _ hx328_6)).trans hx328_6
                                have HR328_3 := za.mk hi328_3
                                have HC328_3 := za.mk hl328_3
                                clear hi328_3 hl328_3
                                have HR328_4 := za.mk hi328_4
                                have HC328_4 := za.mk hl328_4
                                clear hi328_4 hl328_4
                                replace p328 := eq_true p328
                                replace q328 := eq_true q328
                                go_wp2
                                repeat (go_quiet (fail);try go_wp2)
                                (try simp only [← hl5_7])
                                go_roundg k7
                                case measure => have := HK1.out;have := HK2.out;have := HK3.out;have := HK4.out;have := HJ24.out;have := HJ31.out;have := HK7.out;omega
                                case rel => exact ⟨(x5_7),(x8_7),(wrap64 (x11_7 + 1)),(hDq),(hDq),H',⟨by have := HK1.out;have := HK2.out;have := HK3.out;have := HK4.out;have := HJ24.out;have := HJ31.out;have := HK7.out;omega⟩,⟨by (try simp only [hl5_2]);(try simp only [hl5_3]);(try simp only [hl5_4]);(try simp only [hl5_7]);(with_reducible repeat (first | apply Kd.R_alloc | apply Kd.R_drewN | apply Kd.R_drew));exact HO_5.out⟩,⟨by (try simp only [hl5_2]);(try simp only [hl5_3]);(try simp only [hl5_4]);(try simp only [hl5_7]);(with_reducible repeat (first | refine zL ?_ _ | refine zG ?_ | refine ze ?_ _));exact BK315.out⟩,⟨by repeat (first | (with_reducible first | exact HB.out | apply zi | apply zl | apply zx | refine zm ?_ GE315.out) | exact HB.out)⟩⟩
                              ·rw [if_neg c47] at H
                               exact absurd H (by simp)
                             ·rw [if_neg c46] at H
                              exact absurd H (by simp)
                            ·rw [if_neg c45] at H
                             exact absurd H (by simp)
                           ·rw [if_neg c44] at H
                            have c44b0 : decide (x11_7 < (((zd l0_2 x9_3).f1.f3).length : Int)) = false := decide_eq_false c44
                            clear c44
                            have H' := za.mk H
                            clear H
                            obtain ⟨hcz55_0,hcz55_1,hcz55_2,hfz55_0,hfz55_1,hfz55_2⟩ := hcq3 BK315.out
                            have p325 : 0 ≤ (x9_3 : Int) := hFq
                            have q325 : x9_3 < (l0_2.length : Int) := hFq
                            obtain ⟨ad325,A325_3,c325_3,A325_4,c325_4,e325,hx325_0,hx325_1,hx325_2,hx325_3,hx325_4,hx325_5,hx325_6,hl325_3,hi325_3,hl325_4,hi325_4⟩ := zai HR0_2.out x9_3 p325 q325
                            cases e325
                            replace hx325_0 := (HB.out.cell (World.block_lt_of_cell? w _ hx325_0)).trans hx325_0
                            replace hx325_1 := (HB.out.cell (World.block_lt_of_cell? w _ hx325_1)).trans hx325_1
                            replace hx325_2 := (HB.out.cell (World.block_lt_of_cell? w _ hx325_2)).trans hx325_2
                            replace hx325_3 := (HB.out.cell (World.block_lt_of_cell? w _ hx325_3)).trans hx325_3
                            replace hx325_4 := (HB.out.cell (World.block_lt_of_cell? w _ hx325_4)).trans hx325_4
                            replace hx325_5 := (HB.out.cell (World.block_lt_of_cell? w _ hx325_5)).trans hx325_5
                            replace hx325_6 := (HB.out.cell (World.block_lt_of_cell? w _ hx325_6)).trans hx325_6
                            have HR325_3 := za.mk hi325_3
                            have HC325_3 := za.mk hl325_3
                            clear hi325_3 hl325_3
                            have HR325_4 := za.mk hi325_4
                            have HC325_4 := za.mk hl325_4
                            clear hi325_4 hl325_4
                            replace p325 := eq_true p325
                            replace q325 := eq_true q325
                            go_wp2
                            repeat (go_quiet (fail);try go_wp2)
                            (try simp only [← hl5_4,← hl5_7])
                            go_roundg k7
                            case measure => have := HK1.out;have := HK2.out;have := HK3.out;have := HK4.out;have := HJ24.out;have := HJ31.out;have := HK7.out;omega
                            case rel => exact ⟨(x5_7),(x8_7),(wrap64 (x10_4 + 1)),(hDq),(hDq),H',⟨by have := HK1.out;have := HK2.out;have := HK3.out;have := HK4.out;have := HJ24.out;have := HJ31.out;have := HK7.out;omega⟩,⟨by (try simp only [hl5_2]);(try simp only [hl5_3]);(try simp only [hl5_4]);(try simp only [hl5_7]);(with_reducible repeat (first | apply Kd.R_alloc | apply Kd.R_drewN | apply Kd.R_drew));exact HO_5.out⟩,⟨by (try simp only [hl5_2]);(try simp only [hl5_3]);(try simp only [hl5_4]);(try simp only [hl5_7]);(with_reducible repeat (first | refine zL ?_ _ | refine zG ?_ | refine ze ?_ _));exact BK315.out⟩,⟨by repeat (first | (with_reducible first | exact HB.out | apply zi | apply zl | apply zx | refine zm ?_ GE315.out) | exact HB.out)⟩⟩
                          ·rw [if_neg c43] at H
                           exact absurd H (by simp)
                         ·rw [if_neg c42] at H
                          exact absurd H (by simp)
                   ·replace c31 := Bool.eq_false_iff.mpr c31
                    subst c31
                    have H1 : (zf.l2 kj24 x5_4 x8_4 (wrap64 (x9_3 + 1)) a0_0 a0_1 l0_2) = some r := by rw [if_neg (show ¬ (false = true) by decide)] at H;exact H
                    clear H
                    have H := H1
                    clear H1
                    have H' := za.mk H
                    clear H
                    go_wp2
                    repeat (go_quiet (fail);try go_wp2)
                    (try simp only [← hl5_3,← hl5_4])
                    go_roundg kj24
                    case measure => have := HK1.out;have := HK2.out;have := HK3.out;have := HK4.out;have := HJ24.out;omega
                    case rel => exact ⟨(x5_4),(x8_4),(wrap64 (x9_3 + 1)),(hDq),(hDq),H',⟨by have := HK1.out;have := HK2.out;have := HK3.out;have := HK4.out;have := HJ24.out;omega⟩,⟨by (try simp only [hl5_2]);(try simp only [hl5_3]);(try simp only [hl5_4]);(with_reducible repeat (first | apply Kd.R_alloc | apply Kd.R_drewN | apply Kd.R_drew));exact HO_5.out⟩,⟨by (try simp only [hl5_2]);(try simp only [hl5_3]);(try simp only [hl5_4]);(with_reducible repeat (first | refine zL ?_ _ | refine zG ?_ | refine ze ?_ _));exact BK315.out⟩,⟨by repeat (first | (with_reducible first | exact HB.out | apply zi | apply zl | apply zx | refine zm ?_ GE315.out) | exact HB.out)⟩⟩
              ·rw [if_neg c23] at H
               have c23b0 : decide (x9_3 < (l0_2.length : Int)) = false := decide_eq_false c23
               clear c23
               have H' := za.mk H
               clear H
               obtain ⟨hcz56_0,hcz56_1,hcz56_2,hfz56_0,hfz56_1,hfz56_2⟩ := hcq3 BK315.out
               go_wp2
               repeat (go_quiet (fail);try go_wp2)
               (try simp only [← hl5_2,← hl5_3])
               go_roundg k3
               case measure => have := HK1.out;have := HK2.out;have := HK3.out;omega
               case rel => exact ⟨(x5_3),(x8_3),(hDq),H',⟨by have := HK1.out;have := HK2.out;have := HK3.out;omega⟩,⟨by (try simp only [hl5_2]);(try simp only [hl5_3]);(with_reducible repeat (first | apply Kd.R_alloc | apply Kd.R_drewN | apply Kd.R_drew));exact HO_5.out⟩,⟨by (try simp only [hl5_2]);(try simp only [hl5_3]);(with_reducible repeat (first | refine zL ?_ _ | refine zG ?_ | refine ze ?_ _));exact BK315.out⟩,⟨by repeat (first | (with_reducible first | exact HB.out | apply zi | apply zl | apply zx | refine zm ?_ GE315.out) | exact HB.out)⟩⟩
           ·replace c22 := Bool.eq_false_iff.mpr c22
            subst c22
            have H1 : (some x5_2) = some r := by rw [if_neg (show ¬ (false = true) by decide)] at H;exact H
            clear H
            have H := H1
            clear H1
            obtain rfl := Option.some.inj H
            go_wp2
            repeat (go_quiet (fail);try go_wp2)
            go_ret
            exact ⟨_,hHq,by (with_reducible repeat (first | apply Kd.R_alloc | apply Kd.R_drewN | apply Kd.R_drew));exact HO_5.out,hCq⟩
        ·rw [if_neg c18] at H
         exact absurd H (by simp)
       ·rw [if_neg c17] at H
        exact absurd H (by simp)
  ·rw [if_neg c4] at H
   exact absurd H (by simp)
 ·rw [if_neg c3] at H
  exact absurd H (by simp)
end Go.Proofs.Ytndjfdakflaggaa.Px