/- Part 23 of 30 of the proof of the law CertBack: what is proved is the statement at the end of the last part; its conditions are those of the given row. -/
import Derived.Test.YtgdpiegkoeikiaaZCertBackV
namespace Go.Proofs.Ytgdpiegkoeikiaa.Px
open Go.RowKit Go.Proofs.YtgdpiegkoeikiaaW.PrintWords Go.Proofs.YtgdpiegkoeikiaaW.PrintLast Go.Proofs.YtgdpiegkoeikiaaW.PrintMore
attribute [local go_sem] zx zz zJ zK zn zo zy zA
set_option linter.unusedVariables false
set_option linter.unusedSimpArgs false
def zv.l0 : Nat → List ByteArray → Int → Int → Int → List (zW) → List ByteArray → Int → Int → Option (ByteArray × Int)
 | 0,_,_,_,_,_,_,_,_ => none
 | k + 1,x7,x8,x410000,x410001,x410002,x410003,x410004,x410005 => if x8 < (x410002.length : Int) then (if 0 ≤ x8 then ((zah.f k ((zL x410002 x8).f0) ((zL x410002 x8).f1) ((zL x410002 x8).f2)).bind fun bt412 => (if x7.length < 8796093022208 then (zv.l0 k (x7 ++ [bt412.1]) (wrap64 (x8 + 1)) x410000 x410001 x410002 x410003 x410004 x410005) else (none))) else (none)) else ((zr.f k (IntKind.u64.wrap (x410000))).bind fun t417 => ((zr.f k (IntKind.u64.wrap (x410001))).bind fun t418 => (if t417.size + t418.size ≤ 9223372036854775807 then ((zS.f x7).bind fun t419 => (if (t417 ++ t418).size + t419.size ≤ 9223372036854775807 then ((zS.f x410003).bind fun t420 => (if ((t417 ++ t418) ++ t419).size + t420.size ≤ 9223372036854775807 then ((zr.f k (IntKind.u64.wrap (x410004))).bind fun t421 => (if (((t417 ++ t418) ++ t419) ++ t420).size + t421.size ≤ 9223372036854775807 then ((zr.f k (IntKind.u64.wrap (x410005))).bind fun t422 => (if ((((t417 ++ t418) ++ t419) ++ t420) ++ t421).size + t422.size ≤ 9223372036854775807 then (some (((((t417 ++ t418) ++ t419) ++ t420) ++ t421) ++ t422,0)) else (none))) else (none))) else (none))) else (none))) else (none))))
def zv.f (k : Nat) (a0_0 : Int) (a0_1 : Int) (l0_2 : List (zW)) (l0_3 : List ByteArray) (a0_4 : Int) (a0_5 : Int) (a1 : Int) : Option (ByteArray × Int) := (zi.f k a0_0 a0_1 l0_2 l0_3 a0_4 a0_5 a1).bind fun t410 => (if t410 = true then (zv.l0 k ([] : List ByteArray) 0 a0_0 a0_1 l0_2 l0_3 a0_4 a0_5) else (some ((⟨#[]⟩ : ByteArray),1)))
def zv.T10 : Bool × List (List Nat × List Nat) := (true,[([],[]),([0],[0]),([1],[1]),([2],[2]),([],[]),([4],[4]),([5],[5]),([6,3],[6]),([3,7],[3,7]),([],[]),([9,7],[9]),([8,10],[8,10]),([],[]),([12],[12]),([13,10],[13]),([11,14],[11,14]),([15,14,0,1,2,3,4,5,6,7,8,9,10,11,12,13,14,15],[15])])
def zv.B10 : List Nat := [0,1,3,7,0,16,48,127,255,0,767,2047,0,4096,14079,32767,65535]
theorem zv.tab10 : zcD .any (zfZ Try.f71 10) = zv.T10 := by kernel_rfl
theorem zv.bits10 : zcu zv.T10.2 zv.B10 = true := by kernel_rfl
def zv.T11 : Bool × List (List Nat × List Nat) := (true,[([],[]),([],[]),([1],[1]),([2],[2]),([3],[3]),([4],[4]),([0,5],[0,5]),([],[]),([7],[7]),([8],[8]),([9],[9]),([10,5],[10]),([6,11],[6,11]),([12,11,0,1,2,3,4,5,6,7,8,9,10,11,12],[12]),([13,0,1,2,3,4,5,6,7,8,9,10,11,12,13],[])])
def zv.B11 : List Nat := [0,0,2,6,14,30,63,0,128,384,896,1982,4095,8191,16383]
theorem zv.tab11 : zcD .any (zfZ Try.f71 11) = zv.T11 := by kernel_rfl
theorem zv.bits11 : zcu zv.T11.2 zv.B11 = true := by kernel_rfl
set_option maxHeartbeats 8000000 in
set_option maxRecDepth 100000 in
theorem zv.calls (k : Nat) (a0_0 : Int) (a0_1 : Int) (A0_2 : Option Addr) (c0_2 : Nat) (l0_2 : List (zW)) (A0_3 : Option Addr) (c0_3 : Nat) (l0_3 : List ByteArray) (a0_4 : Int) (a0_5 : Int) (a1 : Int) (r1 : ByteArray) (r2 : Int) (w : World) (hr0_2 : Kd.C zb0 w A0_2 l0_2.length l0_2) (hc0_2 : l0_2.length ≤ c0_2) (hr0_3 : Kd.C Kd.string w A0_3 l0_3.length l0_3) (hc0_3 : l0_3.length ≤ c0_3) (h : zv.f k a0_0 a0_1 l0_2 l0_3 a0_4 a0_5 a1 = some (r1,r2)) :
  Calls Try.prog 71 #[.agg #[.int .i64 a0_0,.int .i64 a0_1,.slice A0_2 l0_2.length c0_2,.slice A0_3 l0_3.length c0_3,.int .i64 a0_4,.int .i64 a0_5],.int .i64 a1] w fun e w' => e = .returned (.tuple #[.string r1,.int .i64 r2]) ∧ Below w.heap.size w w' := by
 have hu28 := Try.underlying28
 have hu107 := Try.underlying107
 have HR0_2 := zc.mk hr0_2
 have HC0_2 := zc.mk hc0_2
 clear hr0_2 hc0_2
 have HR0_3 := zc.mk hr0_3
 have HC0_3 := zc.mk hc0_3
 clear hr0_3 hc0_3
 have HB := zc.mk (Below.refl w.heap.size w)
 have H : ((zi.f k a0_0 a0_1 l0_2 l0_3 a0_4 a0_5 a1).bind fun t410 => (if t410 = true then (zv.l0 k ([] : List ByteArray) 0 a0_0 a0_1 l0_2 l0_3 a0_4 a0_5) else (some ((⟨#[]⟩ : ByteArray),1)))) = some (r1,r2) := h
 clear h
 replace H := Option.bind_eq_some_iff.mp H
 obtain ⟨t410,A30,H⟩ := H
 replace H : (if t410 = true then (zv.l0 k ([] : List ByteArray) 0 a0_0 a0_1 l0_2 l0_3 a0_4 a0_5) else (some ((⟨#[]⟩ : ByteArray),1))) = some (r1,r2) := H
 have A3 := zc.mk A30
 clear A30
 by_cases c4 : t410 = true
 ·subst c4
  have H1 : (zv.l0 k ([] : List ByteArray) 0 a0_0 a0_1 l0_2 l0_3 a0_4 a0_5) = some (r1,r2) := by rw [if_pos rfl] at H;exact H
  clear H
  have H := H1
  clear H1
  have H' := zc.mk H
  clear H
  go_enter Try.func71,Try.ntmps71
  go_wp2_with (first | ((with_reducible refine zD (N := 2) rfl ?_);refine zq ?hg (N := 2) ?hd (cs := #[.int .i64 a0_0,.int .i64 a0_1,.slice A0_2 l0_2.length c0_2,.slice A0_3 l0_3.length c0_3,.int .i64 a0_4,.int .i64 a0_5]) (t := 28) ?hr ?_;(case hd => rfl);(case hg => rfl);(case hr => first | (go_simp;done) | (go_simp;rfl));intro gb409 hg w5 hbox hb;have n0_ := zc.mk (zg hBq hb);have n1_ := zc.mk (hbox);have n2_ := zc.mk ((by rw [hg];exact (zj hBq) : w.heap.size ≤ gb409));have n3_ := zc.mk ((by rw [hg];exact (zj hBq) : w.heap.size ≤ gb409));clear HB;have HB := n0_;have BK409 := n1_;have GW409 := n2_;have GE409 := n3_;clear n0_ n1_ n2_ n3_;clear hb hbox hg;have hcz6_0 : w5.cell? ⟨gb409,0,none⟩ = some (.int .i64 a0_0) := (zb BK409.out 0).trans rfl;have hcz6_1 : w5.cell? ⟨gb409,1,none⟩ = some (.int .i64 a0_1) := (zb BK409.out 1).trans rfl;have hcz6_2 : w5.cell? ⟨gb409,2,none⟩ = some (.slice A0_2 l0_2.length c0_2) := (zb BK409.out 2).trans rfl;have hcz6_3 : w5.cell? ⟨gb409,3,none⟩ = some (.slice A0_3 l0_3.length c0_3) := (zb BK409.out 3).trans rfl;have hcz6_4 : w5.cell? ⟨gb409,4,none⟩ = some (.int .i64 a0_4) := (zb BK409.out 4).trans rfl;have hcz6_5 : w5.cell? ⟨gb409,5,none⟩ = some (.int .i64 a0_5) := (zb BK409.out 5).trans rfl;have hfz6_0 := za BK409.out 0;have hfz6_1 := za BK409.out 1;have hfz6_2 := za BK409.out 2;have hfz6_3 := za BK409.out 3;have hfz6_4 := za BK409.out 4;have hfz6_5 := za BK409.out 5) | ((with_reducible refine zp (f := 63) rfl ?_);refine z6 (some 14) rfl rfl Try.func63 (by kernel_rfl) rfl #[.agg #[.int .i64 a0_0,.int .i64 a0_1,.slice A0_2 l0_2.length c0_2,.slice A0_3 l0_3.length c0_3,.int .i64 a0_4,.int .i64 a0_5],.int .i64 a1] rfl (by (try simp only [List.map_toArray,List.map_cons,List.map_nil]);first | done | rfl | (simp only [List.length_drop,List.length_take];rfl)) ?_;(with_reducible refine (zi.calls k a0_0 a0_1 _ _ l0_2 _ _ l0_3 a0_4 a0_5 a1 true _ ?side1 ?side2 ?side3 ?side4 A3.out).mono ?_);(case side1 => repeat (first | exact (Kd.C_below HR0_2.out HB.out) | (with_reducible refine Kd.C_alloc ?_ _) | (with_reducible refine Kd.C_drewN ?_ _) | (with_reducible refine Kd.C_drew ?_)));(case side2 => exact HC0_2.out);(case side3 => repeat (first | exact (Kd.C_below HR0_3.out HB.out) | (with_reducible refine Kd.C_alloc ?_ _) | (with_reducible refine Kd.C_drewN ?_ _) | (with_reducible refine Kd.C_drew ?_)));(case side4 => exact HC0_3.out);rintro e w7 ⟨rfl,hb⟩;refine ⟨_,rfl,?_⟩;have n0_ := zc.mk (zh (g := gb409) (o := .cells #[.int .i64 a0_0,.int .i64 a0_1,.slice A0_2 l0_2.length c0_2,.slice A0_3 l0_3.length c0_3,.int .i64 a0_4,.int .i64 a0_5] 28 (0,0)) (hGq BK409.out) hb);have n1_ := zc.mk (zg hCq hb);clear BK409;clear HB;have BK409 := n0_;have HB := n1_;clear n0_ n1_;(try clear hb);(try clear hb2);(try clear hk);(try clear hi)))
  go_loopg [7,8] k (fun kq v7 v8 w' => ∃ (x7_1 : List ByteArray) (x8_1 : Int),v8 = .int .i64 x8_1 ∧ zc (zv.l0 kq x7_1 x8_1 a0_0 a0_1 l0_2 l0_3 a0_4 a0_5 = some (r1,r2)) ∧ zc (kq ≤ k) ∧ zc (Kd.R Kd.string 9 w' w.heap.size (fun _ => True) v7 x7_1) ∧ zc (w'.heap[gb409]? = some (.cells #[.int .i64 a0_0,.int .i64 a0_1,(.slice A0_2 l0_2.length c0_2),(.slice A0_3 l0_3.length c0_3),.int .i64 a0_4,.int .i64 a0_5] 28 (0,0))) ∧ zc (Below w.heap.size w w'))
  case atStart => exact ⟨(([] : List ByteArray)),(0),(hDq),H',⟨Nat.le_refl _⟩,⟨by first | exact Kd.R_nil _ _ _ _ _ | exact Kd.N_nil _ _ _ _ _ | exact Kd.V_nil _ _ _ _ _ | exact Kd.Q_nil _ _ _ _ _ | exact Kd.S_nil _ _ _ _ _⟩,⟨hGq BK409.out⟩,⟨by repeat (first | (with_reducible first | exact HB.out | apply zI | apply zk | apply zB | refine zw ?_ GE409.out) | exact HB.out)⟩⟩
  case round =>
   clear H'
   try clear p2
   try clear c4
   try clear c6
   try clear c7
   try clear hcz6_0
   try clear hcz6_1
   try clear hcz6_2
   try clear hcz6_3
   try clear hcz6_4
   try clear hcz6_5
   try clear hfz6_0
   try clear hfz6_1
   try clear hfz6_2
   try clear hfz6_3
   try clear hfz6_4
   try clear hfz6_5
   obtain ⟨x7_1,x8_1,rfl,HA,HK1,HO_7,BK409,HB⟩ := hrel
   cases gk with
   | zero => exact absurd HA.out (by simp [zv.l0])
   | succ k1 =>
    have H := HA.out
    clear HA
    simp only [zv.l0] at H
    by_cases c8 : x8_1 < (l0_2.length : Int)
    ·rw [if_pos c8] at H
     have c8b0 : decide (x8_1 < (l0_2.length : Int)) = true := decide_eq_true c8
     clear c8
     by_cases c9 : 0 ≤ x8_1
     ·rw [if_pos c9] at H
      have c9b0 : decide (0 ≤ x8_1) = true := decide_eq_true c9
      clear c9
      replace H := Option.bind_eq_some_iff.mp H
      obtain ⟨⟨t412,t413⟩,A100,H⟩ := H
      replace H : (if x7_1.length < 8796093022208 then (zv.l0 k1 (x7_1 ++ [t412]) (wrap64 (x8_1 + 1)) a0_0 a0_1 l0_2 l0_3 a0_4 a0_5) else (none)) = some (r1,r2) := H
      have A10 := zc.mk A100
      clear A100
      by_cases c11 : x7_1.length < 8796093022208
      ·rw [if_pos c11] at H
       have LMc11 := zc.mk c11
       clear c11
       obtain ⟨y414,hy414⟩ : ∃ y_ : List ByteArray,y_ = (x7_1 ++ [t412]) := ⟨_,rfl⟩
       replace H : (zv.l0 k1 y414 (wrap64 (x8_1 + 1)) a0_0 a0_1 l0_2 l0_3 a0_4 a0_5) = some (r1,r2) := by first | (rw [hy414];with_reducible exact H) | (have H2_ := (Option.bind_some _ _).symm.trans H;rw [hy414];with_reducible exact H2_) | (have H2_ := (Option.bind_some _ _).symm.trans H;with_reducible exact H2_) | with_reducible exact H | (rw [hy414];exact H) | exact H
       have Ny414 := zc.mk hy414
       clear hy414
       have H' := zc.mk H
       clear H
       have hcz12_0 : wr.cell? ⟨gb409,0,none⟩ = some (.int .i64 a0_0) := (zb BK409.out 0).trans rfl
       have hcz12_1 : wr.cell? ⟨gb409,1,none⟩ = some (.int .i64 a0_1) := (zb BK409.out 1).trans rfl
       have hcz12_2 : wr.cell? ⟨gb409,2,none⟩ = some (.slice A0_2 l0_2.length c0_2) := (zb BK409.out 2).trans rfl
       have hcz12_3 : wr.cell? ⟨gb409,3,none⟩ = some (.slice A0_3 l0_3.length c0_3) := (zb BK409.out 3).trans rfl
       have hcz12_4 : wr.cell? ⟨gb409,4,none⟩ = some (.int .i64 a0_4) := (zb BK409.out 4).trans rfl
       have hcz12_5 : wr.cell? ⟨gb409,5,none⟩ = some (.int .i64 a0_5) := (zb BK409.out 5).trans rfl
       have hfz12_0 := za BK409.out 0
       have hfz12_1 := za BK409.out 1
       have hfz12_2 := za BK409.out 2
       have hfz12_3 := za BK409.out 3
       have hfz12_4 := za BK409.out 4
       have hfz12_5 := za BK409.out 5
       have p411 : 0 ≤ (x8_1 : Int) := hFq
       have q411 : x8_1 < (l0_2.length : Int) := hFq
       obtain ⟨ad411,A411_2,c411_2,e411,hx411_0,hx411_1,hx411_2,hl411_2,hi411_2⟩ := zbH HR0_2.out x8_1 p411 q411
       cases e411
       replace hx411_0 := (HB.out.cell (World.block_lt_of_cell? w _ hx411_0)).trans hx411_0
       replace hx411_1 := (HB.out.cell (World.block_lt_of_cell? w _ hx411_1)).trans hx411_1
       replace hx411_2 := (HB.out.cell (World.block_lt_of_cell? w _ hx411_2)).trans hx411_2
       have HR411_2 := zc.mk hi411_2
       have HC411_2 := zc.mk hl411_2
       clear hi411_2 hl411_2
       replace p411 := eq_true p411
       replace q411 := eq_true q411
       go_wp2_with (first | ((with_reducible refine zp (f := 102) rfl ?_);refine z6 (some 30) rfl rfl Try.func102 (by kernel_rfl) rfl #[.agg #[.int .i64 ((zL l0_2 x8_1).f0),.int .i64 ((zL l0_2 x8_1).f1),.slice A411_2 ((zL l0_2 x8_1).f2).length c411_2]] rfl (by (try simp only [List.map_toArray,List.map_cons,List.map_nil]);first | done | rfl | (simp only [List.length_drop,List.length_take];rfl)) ?_;(with_reducible refine (zah.calls k1 ((zL l0_2 x8_1).f0) ((zL l0_2 x8_1).f1) _ _ ((zL l0_2 x8_1).f2) t412 t413 _ ?side1 ?side2 A10.out).mono ?_);(case side1 => repeat (first | exact (Kd.C_below HR411_2.out HB.out) | (with_reducible refine Kd.C_alloc ?_ _) | (with_reducible refine Kd.C_drewN ?_ _) | (with_reducible refine Kd.C_drew ?_)));(case side2 => exact HC411_2.out);rintro e w13 ⟨rfl,hb⟩;refine ⟨_,rfl,?_⟩;have n0_ := zc.mk (Kd.R_below (by (with_reducible repeat (first | apply Kd.R_alloc | apply Kd.R_drewN | apply Kd.R_drew));exact HO_7.out) hb);have n1_ := zc.mk (zh (g := gb409) (o := .cells #[.int .i64 a0_0,.int .i64 a0_1,.slice (some ad411) l0_2.length c0_2,.slice A0_3 l0_3.length c0_3,.int .i64 a0_4,.int .i64 a0_5] 28 (0,0)) (hGq BK409.out) hb);have n2_ := zc.mk (zg hCq hb);clear HO_7;clear BK409;clear HB;have HO_7 := n0_;have BK409 := n1_;have HB := n2_;clear n0_ n1_ n2_;(try clear hb);(try clear hb2);(try clear hk);(try clear hi)) | ((with_reducible refine zeA (b := .append) (xs := #[.tmp 33,.tmp 35]) rfl ?_);at_builtin;refine Kd.R_append Kd.string (w0 := w) w.heap.size rfl (.tmp 33) (.tmp 35) 24 9 (.string ⟨#[]⟩) 16 rfl Try.underlying24 info9 rfl (by decide) (by omega) u7 x7_1 t412 [.string t412] (fun _ => True) (fun _ => False) rfl rfl ?aP (fun _ hk => hk.elim) ?aF ?aO ?aB ?aS ?aL ?_;(case aP => exact rfl);(case aB => exact hCq);(case aF => exact (fun _ _ => trivial));(case aO => exact (by (with_reducible repeat (first | apply Kd.R_alloc | apply Kd.R_drewN | apply Kd.R_drew));exact HO_7.out));(case aS => exact (zj hCq));(case aL => have := LMc11.out;omega);intro v415 w14 ho hb hg hat;rw [← Ny414.out] at ho;have n0_ := zc.mk (zc1 (g := gb409) (o := .cells #[.int .i64 a0_0,.int .i64 a0_1,.slice (some ad411) l0_2.length c0_2,.slice A0_3 l0_3.length c0_3,.int .i64 a0_4,.int .i64 a0_5] 28 (0,0)) (hGq BK409.out) hg (Kd.R_ne HO_7.out BK409.out (by decide)));have n1_ := zc.mk (hb);have n2_ := zc.mk (ho);clear BK409;clear HB;clear HO_7;have BK409 := n0_;have HB := n1_;have HO416 := n2_;clear n0_ n1_ n2_;clear ho hb hg hat))
       go_roundg k1
       case measure => have := HK1.out;omega
       case rel => exact ⟨(y414),(wrap64 (x8_1 + 1)),(hDq),H',⟨by have := HK1.out;omega⟩,⟨by (with_reducible repeat (first | apply Kd.R_alloc | apply Kd.R_drewN | apply Kd.R_drew));exact HO416.out⟩,⟨hGq BK409.out⟩,⟨by repeat (first | (with_reducible first | exact HB.out | apply zI | apply zk | apply zB | refine zw ?_ GE409.out) | exact HB.out)⟩⟩
      ·rw [if_neg c11] at H
       exact absurd H (by simp)
     ·rw [if_neg c9] at H
      exact absurd H (by simp)
    ·rw [if_neg c8] at H
     have c8b0 : decide (x8_1 < (l0_2.length : Int)) = false := decide_eq_false c8
     clear c8
     replace H := Option.bind_eq_some_iff.mp H
     obtain ⟨t417,A150,H⟩ := H
     replace H : ((zr.f k1 (IntKind.u64.wrap (a0_1))).bind fun t418 => (if t417.size + t418.size ≤ 9223372036854775807 then ((zS.f x7_1).bind fun t419 => (if (t417 ++ t418).size + t419.size ≤ 9223372036854775807 then ((zS.f l0_3).bind fun t420 => (if ((t417 ++ t418) ++ t419).size + t420.size ≤ 9223372036854775807 then ((zr.f k1 (IntKind.u64.wrap (a0_4))).bind fun t421 => (if (((t417 ++ t418) ++ t419) ++ t420).size + t421.size ≤ 9223372036854775807 then ((zr.f k1 (IntKind.u64.wrap (a0_5))).bind fun t422 => (if ((((t417 ++ t418) ++ t419) ++ t420) ++ t421).size + t422.size ≤ 9223372036854775807 then (some (((((t417 ++ t418) ++ t419) ++ t420) ++ t421) ++ t422,0)) else (none))) else (none))) else (none))) else (none))) else (none))) = some (r1,r2) := H
     have A15 := zc.mk A150
     clear A150
     replace H := Option.bind_eq_some_iff.mp H
     obtain ⟨t418,A160,H⟩ := H
     replace H : (if t417.size + t418.size ≤ 9223372036854775807 then ((zS.f x7_1).bind fun t419 => (if (t417 ++ t418).size + t419.size ≤ 9223372036854775807 then ((zS.f l0_3).bind fun t420 => (if ((t417 ++ t418) ++ t419).size + t420.size ≤ 9223372036854775807 then ((zr.f k1 (IntKind.u64.wrap (a0_4))).bind fun t421 => (if (((t417 ++ t418) ++ t419) ++ t420).size + t421.size ≤ 9223372036854775807 then ((zr.f k1 (IntKind.u64.wrap (a0_5))).bind fun t422 => (if ((((t417 ++ t418) ++ t419) ++ t420) ++ t421).size + t422.size ≤ 9223372036854775807 then (some (((((t417 ++ t418) ++ t419) ++ t420) ++ t421) ++ t422,0)) else (none))) else (none))) else (none))) else (none))) else (none)) = some (r1,r2) := H
     have A16 := zc.mk A160
     clear A160
     by_cases c17 : t417.size + t418.size ≤ 9223372036854775807
     ·rw [if_pos c17] at H
      have c17b0 := eq_true c17
      have c17b1 : decide (t417.size + t418.size ≤ 9223372036854775807) = true := decide_eq_true c17
      try have c17b2 : (9223372036854775807 < t417.size + t418.size) = False := eq_false (Nat.not_lt.2 c17)
      replace H := Option.bind_eq_some_iff.mp H
      obtain ⟨t419,A180,H⟩ := H
      replace H : (if (t417 ++ t418).size + t419.size ≤ 9223372036854775807 then ((zS.f l0_3).bind fun t420 => (if ((t417 ++ t418) ++ t419).size + t420.size ≤ 9223372036854775807 then ((zr.f k1 (IntKind.u64.wrap (a0_4))).bind fun t421 => (if (((t417 ++ t418) ++ t419) ++ t420).size + t421.size ≤ 9223372036854775807 then ((zr.f k1 (IntKind.u64.wrap (a0_5))).bind fun t422 => (if ((((t417 ++ t418) ++ t419) ++ t420) ++ t421).size + t422.size ≤ 9223372036854775807 then (some (((((t417 ++ t418) ++ t419) ++ t420) ++ t421) ++ t422,0)) else (none))) else (none))) else (none))) else (none)) = some (r1,r2) := H
      have A18 := zc.mk A180
      clear A180
      by_cases c19 : (t417 ++ t418).size + t419.size ≤ 9223372036854775807
      ·rw [if_pos c19] at H
       have c19b0 := eq_true c19
       have c19b1 : decide ((t417 ++ t418).size + t419.size ≤ 9223372036854775807) = true := decide_eq_true c19
       try have c19b2 : (9223372036854775807 < (t417 ++ t418).size + t419.size) = False := eq_false (Nat.not_lt.2 c19)
       try (have c19b3 := c19;simp [ByteArray.size_append] at c19b3;have c19b4 := eq_false (Nat.not_lt.2 c19b3);clear c19b3)
       replace H := Option.bind_eq_some_iff.mp H
       obtain ⟨t420,A200,H⟩ := H
       replace H : (if ((t417 ++ t418) ++ t419).size + t420.size ≤ 9223372036854775807 then ((zr.f k1 (IntKind.u64.wrap (a0_4))).bind fun t421 => (if (((t417 ++ t418) ++ t419) ++ t420).size + t421.size ≤ 9223372036854775807 then ((zr.f k1 (IntKind.u64.wrap (a0_5))).bind fun t422 => (if ((((t417 ++ t418) ++ t419) ++ t420) ++ t421).size + t422.size ≤ 9223372036854775807 then (some (((((t417 ++ t418) ++ t419) ++ t420) ++ t421) ++ t422,0)) else (none))) else (none))) else (none)) = some (r1,r2) := H
       have A20 := zc.mk A200
       clear A200
       by_cases c21 : ((t417 ++ t418) ++ t419).size + t420.size ≤ 9223372036854775807
       ·rw [if_pos c21] at H
        have c21b0 := eq_true c21
        have c21b1 : decide (((t417 ++ t418) ++ t419).size + t420.size ≤ 9223372036854775807) = true := decide_eq_true c21
        try have c21b2 : (9223372036854775807 < ((t417 ++ t418) ++ t419).size + t420.size) = False := eq_false (Nat.not_lt.2 c21)
        try (have c21b3 := c21;simp [ByteArray.size_append] at c21b3;have c21b4 := eq_false (Nat.not_lt.2 c21b3);clear c21b3)
        replace H := Option.bind_eq_some_iff.mp H
        obtain ⟨t421,A220,H⟩ := H
        replace H : (if (((t417 ++ t418) ++ t419) ++ t420).size + t421.size ≤ 9223372036854775807 then ((zr.f k1 (IntKind.u64.wrap (a0_5))).bind fun t422 => (if ((((t417 ++ t418) ++ t419) ++ t420) ++ t421).size + t422.size ≤ 9223372036854775807 then (some (((((t417 ++ t418) ++ t419) ++ t420) ++ t421) ++ t422,0)) else (none))) else (none)) = some (r1,r2) := H
        have A22 := zc.mk A220
        clear A220
        by_cases c23 : (((t417 ++ t418) ++ t419) ++ t420).size + t421.size ≤ 9223372036854775807
        ·rw [if_pos c23] at H
         have c23b0 := eq_true c23
         have c23b1 : decide ((((t417 ++ t418) ++ t419) ++ t420).size + t421.size ≤ 9223372036854775807) = true := decide_eq_true c23
         try have c23b2 : (9223372036854775807 < (((t417 ++ t418) ++ t419) ++ t420).size + t421.size) = False := eq_false (Nat.not_lt.2 c23)
         try (have c23b3 := c23;simp [ByteArray.size_append] at c23b3;have c23b4 := eq_false (Nat.not_lt.2 c23b3);clear c23b3)
         replace H := Option.bind_eq_some_iff.mp H
         obtain ⟨t422,A240,H⟩ := H
         replace H : (if ((((t417 ++ t418) ++ t419) ++ t420) ++ t421).size + t422.size ≤ 9223372036854775807 then (some (((((t417 ++ t418) ++ t419) ++ t420) ++ t421) ++ t422,0)) else (none)) = some (r1,r2) := H
         have A24 := zc.mk A240
         clear A240
         by_cases c25 : ((((t417 ++ t418) ++ t419) ++ t420) ++ t421).size + t422.size ≤ 9223372036854775807
         ·rw [if_pos c25] at H
          have c25b0 := eq_true c25
          have c25b1 : decide (((((t417 ++ t418) ++ t419) ++ t420) ++ t421).size + t422.size ≤ 9223372036854775807) = true := decide_eq_true c25
          try have c25b2 : (9223372036854775807 < ((((t417 ++ t418) ++ t419) ++ t420) ++ t421).size + t422.size) = False := eq_false (Nat.not_lt.2 c25)
          try (have c25b3 := c25;simp [ByteArray.size_append] at c25b3;have c25b4 := eq_false (Nat.not_lt.2 c25b3);clear c25b3)
          simp only [Option.some.injEq,Prod.mk.injEq] at H
          obtain ⟨rfl,rfl⟩ := H
          have hcz26_0 : wr.cell? ⟨gb409,0,none⟩ = some (.int .i64 a0_0) := (zb BK409.out 0).trans rfl
          have hcz26_1 : wr.cell? ⟨gb409,1,none⟩ = some (.int .i64 a0_1) := (zb BK409.out 1).trans rfl
          have hcz26_2 : wr.cell? ⟨gb409,2,none⟩ = some (.slice A0_2 l0_2.length c0_2) := (zb BK409.out 2).trans rfl
          have hcz26_3 : wr.cell? ⟨gb409,3,none⟩ = some (.slice A0_3 l0_3.length c0_3) := (zb BK409.out 3).trans rfl
          have hcz26_4 : wr.cell? ⟨gb409,4,none⟩ = some (.int .i64 a0_4) := (zb BK409.out 4).trans rfl
          have hcz26_5 : wr.cell? ⟨gb409,5,none⟩ = some (.int .i64 a0_5) := (zb BK409.out 5).trans rfl
          have hfz26_0 := za BK409.out 0
          have hfz26_1 := za BK409.out 1
          have hfz26_2 := za BK409.out 2
          have hfz26_3 := za BK409.out 3
          have hfz26_4 := za BK409.out 4
          have hfz26_5 := za BK409.out 5
          try go_wp2
          have n0_ := zc.mk (Kd.R_drew HO_7.out)
          have n1_ := zc.mk (zf BK409.out)
          have n2_ := zc.mk (zB HB.out)
          clear HO_7
          clear BK409
          clear HB
          have HO_7 := n0_
          have BK409 := n1_
          have HB := n2_
          clear n0_ n1_ n2_
          refine zdg (n := 17) (S := fun w' => w'.cell? ⟨gb409,0,none⟩ = some (.int .i64 a0_0) ∧ w'.cell? ⟨gb409,1,none⟩ = some (.int .i64 a0_1) ∧ w'.cell? ⟨gb409,2,none⟩ = some (.slice A0_2 l0_2.length c0_2) ∧ w'.cell? ⟨gb409,3,none⟩ = some (.slice A0_3 l0_3.length c0_3) ∧ w'.cell? ⟨gb409,4,none⟩ = some (.int .i64 a0_4) ∧ w'.cell? ⟨gb409,5,none⟩ = some (.int .i64 a0_5)) (ds := []) #[false,false,false,false,false,false,false,false,false,false,false,false,false,false,false,false,false] (by kernel_rfl) rfl rfl ⟨(zb BK409.out 0).trans rfl,(zb BK409.out 1).trans rfl,(zb BK409.out 2).trans rfl,(zb BK409.out 3).trans rfl,(zb BK409.out 4).trans rfl,(zb BK409.out 5).trans rfl⟩ (fun hHeld => ?_);refine zck zv.tab10 zv.bits10 (fun HT_ HW_ => ?_)
          generalize wr.drew = w27 at HO_7 BK409 HB hHeld ⊢
          refine zai (i := 0) (N := some 37) (v := ?_) (a' := ?_) #[true,false,false,false,false,false,false,false,false,false,false,false,false,false,false,false,false] rfl rfl (z9 HT_.out (by kernel_rfl)) (fun _ _ _ h => h) (Or.inl ⟨by rfl,?_⟩) ?_ ?_
          rotate_left
          ·intro w'
           go_simp
           with_reducible rfl
          rotate_left
          ·simp only [Act.put,List.setIfInBounds_toArray,List.set_cons_zero,List.set_cons_succ,zN,zQ]
           rfl
          refine zai (i := 4) (N := some 41) (v := ?_) (a' := ?_) #[true,false,false,false,true,false,false,false,false,false,false,false,false,false,false,false,false] rfl rfl (z9 HT_.out (by kernel_rfl)) (fun _ _ _ h => h) (Or.inl ⟨by rfl,?_⟩) ?_ ?_
          rotate_left
          ·intro w'
           go_simp
           with_reducible rfl
          rotate_left
          ·simp only [Act.put,List.setIfInBounds_toArray,List.set_cons_zero,List.set_cons_succ,zN,zQ]
           rfl
          refine zai (i := 9) (N := some 46) (v := ?_) (a' := ?_) #[true,false,false,false,true,false,false,false,false,true,false,false,false,false,false,false,false] rfl rfl (z9 HT_.out (by kernel_rfl)) (fun _ _ _ h => h) (Or.inl ⟨by rfl,?_⟩) ?_ ?_
          rotate_left
          ·intro w'
           go_simp
           with_reducible rfl
          rotate_left
          ·simp only [Act.put,List.setIfInBounds_toArray,List.set_cons_zero,List.set_cons_succ,zN,zQ]
           rfl
          refine zai (i := 12) (N := some 49) (v := ?_) (a' := ?_) #[true,false,false,false,true,false,false,false,false,true,false,false,true,false,false,false,false] rfl rfl (z9 HT_.out (by kernel_rfl)) (fun _ _ _ h => h) (Or.inl ⟨by rfl,?_⟩) ?_ ?_
          rotate_left
          ·intro w'
           go_simp
           with_reducible rfl
          rotate_left
          ·simp only [Act.put,List.setIfInBounds_toArray,List.set_cons_zero,List.set_cons_succ,zN,zQ]
           rfl
          refine take_ (i := 1) (N := some 38) (v := ?_) (a' := ?_) #[true,true,false,false,true,false,false,false,false,true,false,false,true,false,false,false,false] rfl rfl (zaY HT_.out HW_.out (by kernel_rfl)) (fun _ _ _ h => h) (Or.inl ⟨by rfl,?_⟩) hHeld ?_ ?_
          rotate_left
          ·rintro w' ⟨s0,s1,s2,s3,s4,s5⟩
           go_simp
           with_reducible rfl
          rotate_left
          ·simp only [Act.put,List.setIfInBounds_toArray,List.set_cons_zero,List.set_cons_succ,zN,zQ]
           rfl
          refine zai (i := 2) (N := some 39) (v := ?_) (a' := ?_) #[true,true,true,false,true,false,false,false,false,true,false,false,true,false,false,false,false] rfl rfl (z9 HT_.out (by kernel_rfl)) (fun _ _ _ h => h) (Or.inl ⟨by rfl,?_⟩) ?_ ?_
          rotate_left
          ·intro w'
           go_simp
           with_reducible rfl
          rotate_left
          ·simp only [Act.put,List.setIfInBounds_toArray,List.set_cons_zero,List.set_cons_succ,zN,zQ]
           rfl
          refine take_ (i := 5) (N := some 42) (v := ?_) (a' := ?_) #[true,true,true,false,true,true,false,false,false,true,false,false,true,false,false,false,false] rfl rfl (zaY HT_.out HW_.out (by kernel_rfl)) (fun _ _ _ h => h) (Or.inl ⟨by rfl,?_⟩) hHeld ?_ ?_
          rotate_left
          ·rintro w' ⟨s0,s1,s2,s3,s4,s5⟩
           go_simp
           with_reducible rfl
          rotate_left
          ·simp only [Act.put,List.setIfInBounds_toArray,List.set_cons_zero,List.set_cons_succ,zN,zQ]
           rfl
          refine zai (i := 6) (N := some 43) (v := ?_) (a' := ?_) #[true,true,true,false,true,true,true,false,false,true,false,false,true,false,false,false,false] rfl rfl (z9 HT_.out (by kernel_rfl)) (fun _ _ _ h => h) (Or.inl ⟨by rfl,?_⟩) ?_ ?_
          rotate_left
          ·intro w'
           go_simp
           with_reducible rfl
          rotate_left
          ·simp only [Act.put,List.setIfInBounds_toArray,List.set_cons_zero,List.set_cons_succ,zN,zQ]
           rfl
          refine take_ (i := 13) (N := some 50) (v := ?_) (a' := ?_) #[true,true,true,false,true,true,true,false,false,true,false,false,true,true,false,false,false] rfl rfl (zaY HT_.out HW_.out (by kernel_rfl)) (fun _ _ _ h => h) (Or.inl ⟨by rfl,?_⟩) hHeld ?_ ?_
          rotate_left
          ·rintro w' ⟨s0,s1,s2,s3,s4,s5⟩
           go_simp
           with_reducible rfl
          rotate_left
          ·simp only [Act.put,List.setIfInBounds_toArray,List.set_cons_zero,List.set_cons_succ,zN,zQ]
           rfl
          refine zc7 (i := 3) (N := some 40) #[true,true,true,true,true,true,true,false,false,true,false,false,true,true,false,false,false] rfl rfl (zbT HT_.out (by kernel_rfl)) (by decide) (fun K hK => ?_)
          refine zb4 Try.func103 (by kernel_rfl) rfl #[.int .u64 (IntKind.u64.wrap (a0_0))] (by rfl) rfl rfl (by (try simp only [List.map_toArray,List.map_cons,List.map_nil]);first | done | rfl | (simp only [List.length_drop,List.length_take];rfl)) ?_
          with_reducible refine (zr.calls k1 (IntKind.u64.wrap (a0_0)) t417 _ A15.out).mono ?_
          rintro e w28 ⟨rfl,hb⟩
          refine ⟨_,rfl,?_⟩
          have n0_ := zc.mk (Kd.R_below (by (with_reducible repeat (first | apply Kd.R_alloc | apply Kd.R_drewN | apply Kd.R_drew));exact HO_7.out) hb)
          have n1_ := zc.mk (zh (g := gb409) (o := .cells #[.int .i64 a0_0,.int .i64 a0_1,.slice A0_2 l0_2.length c0_2,.slice A0_3 l0_3.length c0_3,.int .i64 a0_4,.int .i64 a0_5] 28 (0,0)) (hGq BK409.out) hb)
          have n2_ := zc.mk (zg hCq hb)
          clear HO_7
          clear BK409
          clear HB
          have HO_7 := n0_
          have BK409 := n1_
          have HB := n2_
          clear n0_ n1_ n2_
          (try clear hb)
          (try clear hb2)
          (try clear hk)
          (try clear hi)
          refine hK.out _ _ ⟨(zb BK409.out 0).trans rfl,(zb BK409.out 1).trans rfl,(zb BK409.out 2).trans rfl,(zb BK409.out 3).trans rfl,(zb BK409.out 4).trans rfl,(zb BK409.out 5).trans rfl⟩ (fun hHeld => ?_)
          clear hK K
          refine zb5 (a' := ?_) ?_ ?_
          rotate_left
          ·show Act.put _ (some 40) _ = _
           simp only [Act.put,List.setIfInBounds_toArray,List.set_cons_zero,List.set_cons_succ,zN,zQ]
           rfl
          refine zc7 (i := 7) (N := some 44) #[true,true,true,true,true,true,true,true,false,true,false,false,true,true,false,false,false] rfl rfl (zbT HT_.out (by kernel_rfl)) (by decide) (fun K hK => ?_)
          refine zb4 Try.func103 (by kernel_rfl) rfl #[.int .u64 (IntKind.u64.wrap (a0_1))] (by rfl) rfl rfl (by (try simp only [List.map_toArray,List.map_cons,List.map_nil]);first | done | rfl | (simp only [List.length_drop,List.length_take];rfl)) ?_
          with_reducible refine (zr.calls k1 (IntKind.u64.wrap (a0_1)) t418 _ A16.out).mono ?_
          rintro e w29 ⟨rfl,hb⟩
          refine ⟨_,rfl,?_⟩
          have n0_ := zc.mk (Kd.R_below (by (with_reducible repeat (first | apply Kd.R_alloc | apply Kd.R_drewN | apply Kd.R_drew));exact HO_7.out) hb)
          have n1_ := zc.mk (zh (g := gb409) (o := .cells #[.int .i64 a0_0,.int .i64 a0_1,.slice A0_2 l0_2.length c0_2,.slice A0_3 l0_3.length c0_3,.int .i64 a0_4,.int .i64 a0_5] 28 (0,0)) (hGq BK409.out) hb)
          have n2_ := zc.mk (zg hCq hb)
          clear HO_7
          clear BK409
          clear HB
          have HO_7 := n0_
          have BK409 := n1_
          have HB := n2_
          clear n0_ n1_ n2_
          (try clear hb)
          (try clear hb2)
          (try clear hk)
          (try clear hi)
          obtain ⟨Ao30,co30,eo30⟩ := Kd.R_slice HO_7.out
          (first | subst eo30 | (injection eo30 with f1_ f2_ f3_;have f4_ := f1_.symm;have f5_ := f3_.symm;clear f1_ f2_ f3_;subst f4_;subst f5_))
          refine hK.out _ _ ⟨(zb BK409.out 0).trans rfl,(zb BK409.out 1).trans rfl,(zb BK409.out 2).trans rfl,(zb BK409.out 3).trans rfl,(zb BK409.out 4).trans rfl,(zb BK409.out 5).trans rfl⟩ (fun hHeld => ?_)
          clear hK K
          refine zb5 (a' := ?_) ?_ ?_
          rotate_left
          ·show Act.put _ (some 44) _ = _
           simp only [Act.put,List.setIfInBounds_toArray,List.set_cons_zero,List.set_cons_succ,zN,zQ]
           rfl
          refine zai (i := 8) (N := some 45) (v := ?_) (a' := ?_) #[true,true,true,true,true,true,true,true,true,true,false,false,true,true,false,false,false] rfl rfl (z9 HT_.out (by kernel_rfl)) (fun _ _ _ h => h) (Or.inl ⟨by rfl,?_⟩) ?_ ?_
          rotate_left
          ·intro w'
           go_simp
           with_reducible rfl
          rotate_left
          ·simp only [Act.put,List.setIfInBounds_toArray,List.set_cons_zero,List.set_cons_succ,zN,zQ]
           rfl
          refine zc7 (i := 10) (N := some 47) #[true,true,true,true,true,true,true,true,true,true,true,false,true,true,false,false,false] rfl rfl (zbT HT_.out (by kernel_rfl)) (by decide) (fun K hK => ?_)
          refine zb4 Try.func104 (by kernel_rfl) rfl #[.slice Ao30 x7_1.length co30] (by rfl) rfl rfl (by (try simp only [List.map_toArray,List.map_cons,List.map_nil]);first | done | rfl | (simp only [List.length_drop,List.length_take];rfl)) ?_
          with_reducible refine (zS.calls _ _ x7_1 t419 _ ?side1 ?side2 A18.out).mono ?_
          (case side1 => repeat (first | exact (Kd.R_reads' HO_7.out).2.2 | (with_reducible refine Kd.C_alloc ?_ _) | (with_reducible refine Kd.C_drewN ?_ _) | (with_reducible refine Kd.C_drew ?_)))
          (case side2 => exact (Kd.R_reads' HO_7.out).2.1)
          rintro e w31 ⟨rfl,hb⟩
          refine ⟨_,rfl,?_⟩
          have n0_ := zc.mk (Kd.R_below (by (with_reducible repeat (first | apply Kd.R_alloc | apply Kd.R_drewN | apply Kd.R_drew));exact HO_7.out) hb)
          have n1_ := zc.mk (zh (g := gb409) (o := .cells #[.int .i64 a0_0,.int .i64 a0_1,.slice A0_2 l0_2.length c0_2,.slice A0_3 l0_3.length c0_3,.int .i64 a0_4,.int .i64 a0_5] 28 (0,0)) (hGq BK409.out) hb)
          have n2_ := zc.mk (zg hCq hb)
          clear HO_7
          clear BK409
          clear HB
          have HO_7 := n0_
          have BK409 := n1_
          have HB := n2_
          clear n0_ n1_ n2_
          (try clear hb)
          (try clear hb2)
          (try clear hk)
          (try clear hi)
          refine hK.out _ _ ⟨(zb BK409.out 0).trans rfl,(zb BK409.out 1).trans rfl,(zb BK409.out 2).trans rfl,(zb BK409.out 3).trans rfl,(zb BK409.out 4).trans rfl,(zb BK409.out 5).trans rfl⟩ (fun hHeld => ?_)
          clear hK K
          refine zb5 (a' := ?_) ?_ ?_
          rotate_left
          ·show Act.put _ (some 47) _ = _
           simp only [Act.put,List.setIfInBounds_toArray,List.set_cons_zero,List.set_cons_succ,zN,zQ]
           rfl
          refine zai (i := 11) (N := some 48) (v := ?_) (a' := ?_) #[true,true,true,true,true,true,true,true,true,true,true,true,true,true,false,false,false] rfl rfl (z9 HT_.out (by kernel_rfl)) (fun _ _ _ h => h) (Or.inl ⟨by rfl,?_⟩) ?_ ?_
          rotate_left
          ·intro w'
           go_simp
           with_reducible rfl
          rotate_left
          ·simp only [Act.put,List.setIfInBounds_toArray,List.set_cons_zero,List.set_cons_succ,zN,zQ]
           rfl
          refine zc7 (i := 14) (N := some 51) #[true,true,true,true,true,true,true,true,true,true,true,true,true,true,true,false,false] rfl rfl (zbT HT_.out (by kernel_rfl)) (by decide) (fun K hK => ?_)
          refine zb4 Try.func104 (by kernel_rfl) rfl #[.slice A0_3 l0_3.length c0_3] (by rfl) rfl rfl (by (try simp only [List.map_toArray,List.map_cons,List.map_nil]);first | done | rfl | (simp only [List.length_drop,List.length_take];rfl)) ?_
          with_reducible refine (zS.calls _ _ l0_3 t420 _ ?side1 ?side2 A20.out).mono ?_
          (case side1 => repeat (first | exact (Kd.C_below HR0_3.out HB.out) | (with_reducible refine Kd.C_alloc ?_ _) | (with_reducible refine Kd.C_drewN ?_ _) | (with_reducible refine Kd.C_drew ?_)))
          (case side2 => exact HC0_3.out)
          rintro e w32 ⟨rfl,hb⟩
          refine ⟨_,rfl,?_⟩
          have n0_ := zc.mk (Kd.R_below (by (with_reducible repeat (first | apply Kd.R_alloc | apply Kd.R_drewN | apply Kd.R_drew));exact HO_7.out) hb)
          have n1_ := zc.mk (zh (g := gb409) (o := .cells #[.int .i64 a0_0,.int .i64 a0_1,.slice A0_2 l0_2.length c0_2,.slice A0_3 l0_3.length c0_3,.int .i64 a0_4,.int .i64 a0_5] 28 (0,0)) (hGq BK409.out) hb)
          have n2_ := zc.mk (zg hCq hb)
          clear HO_7
          clear BK409
          clear HB
          have HO_7 := n0_
          have BK409 := n1_
          have HB := n2_
          clear n0_ n1_ n2_
          (try clear hb)
          (try clear hb2)
          (try clear hk)
          (try clear hi)
          refine hK.out _ _ ⟨(zb BK409.out 0).trans rfl,(zb BK409.out 1).trans rfl,(zb BK409.out 2).trans rfl,(zb BK409.out 3).trans rfl,(zb BK409.out 4).trans rfl,(zb BK409.out 5).trans rfl⟩ (fun hHeld => ?_)
          clear hK K
          refine zb5 (a' := ?_) ?_ ?_
          rotate_left
          ·show Act.put _ (some 51) _ = _
           simp only [Act.put,List.setIfInBounds_toArray,List.set_cons_zero,List.set_cons_succ,zN,zQ]
           rfl
          refine zai (i := 15) (N := some 52) (v := ?_) (a' := ?_) #[true,true,true,true,true,true,true,true,true,true,true,true,true,true,true,true,false] rfl rfl (z9 HT_.out (by kernel_rfl)) (fun _ _ _ h => h) (Or.inl ⟨by rfl,?_⟩) ?_ ?_
          rotate_left
          ·intro w'
           go_simp
           with_reducible rfl
          rotate_left
          ·simp only [Act.put,List.setIfInBounds_toArray,List.set_cons_zero,List.set_cons_succ,zN,zQ]
           rfl
          refine zai (i := 16) (N := some 11) (v := ?_) (a' := ?_) #[true,true,true,true,true,true,true,true,true,true,true,true,true,true,true,true,true] rfl rfl (z9 HT_.out (by kernel_rfl)) (fun _ _ _ h => h) (Or.inl ⟨by rfl,?_⟩) ?_ ?_
          rotate_left
          ·intro w'
           go_simp
           with_reducible rfl
          rotate_left
          ·simp only [Act.put,List.setIfInBounds_toArray,List.set_cons_zero,List.set_cons_succ,zN,zQ]
           rfl
          refine zeg (zc8 HT_.out (by kernel_rfl)) ?_
          try go_wp2
          have n0_ := zc.mk (Kd.R_drew HO_7.out)
          have n1_ := zc.mk (zf BK409.out)
          have n2_ := zc.mk (zB HB.out)
          clear HO_7
          clear BK409
          clear HB
          have HO_7 := n0_
          have BK409 := n1_
          have HB := n2_
          clear n0_ n1_ n2_
          refine zdg (n := 15) (S := fun w' => w'.cell? ⟨gb409,0,none⟩ = some (.int .i64 a0_0) ∧ w'.cell? ⟨gb409,1,none⟩ = some (.int .i64 a0_1) ∧ w'.cell? ⟨gb409,2,none⟩ = some (.slice A0_2 l0_2.length c0_2) ∧ w'.cell? ⟨gb409,3,none⟩ = some (.slice A0_3 l0_3.length c0_3) ∧ w'.cell? ⟨gb409,4,none⟩ = some (.int .i64 a0_4) ∧ w'.cell? ⟨gb409,5,none⟩ = some (.int .i64 a0_5)) (ds := []) #[false,false,false,false,false,false,false,false,false,false,false,false,false,false,false] (by kernel_rfl) rfl rfl ⟨(zb BK409.out 0).trans rfl,(zb BK409.out 1).trans rfl,(zb BK409.out 2).trans rfl,(zb BK409.out 3).trans rfl,(zb BK409.out 4).trans rfl,(zb BK409.out 5).trans rfl⟩ (fun hHeld => ?_);refine zck zv.tab11 zv.bits11 (fun HT_ HW_ => ?_)
          generalize w32.drew = w33 at HO_7 BK409 HB hHeld ⊢
          refine zai (i := 0) (N := some 53) (v := ?_) (a' := ?_) #[true,false,false,false,false,false,false,false,false,false,false,false,false,false,false] rfl rfl (z9 HT_.out (by kernel_rfl)) (fun _ _ _ h => h) (Or.inl ⟨by rfl,?_⟩) ?_ ?_
          rotate_left
          ·intro w'
           go_simp
           with_reducible rfl
          rotate_left
          ·simp only [Act.put,List.setIfInBounds_toArray,List.set_cons_zero,List.set_cons_succ,zN,zQ]
           rfl
          refine zai (i := 1) (N := some 54) (v := ?_) (a' := ?_) #[true,true,false,false,false,false,false,false,false,false,false,false,false,false,false] rfl rfl (z9 HT_.out (by kernel_rfl)) (fun _ _ _ h => h) (Or.inl ⟨by rfl,?_⟩) ?_ ?_
          rotate_left
          ·intro w'
           go_simp
           with_reducible rfl
          rotate_left
          ·simp only [Act.put,List.setIfInBounds_toArray,List.set_cons_zero,List.set_cons_succ,zN,zQ]
           rfl
          refine zai (i := 2) (N := some 55) (v := ?_) (a' := ?_) #[true,true,true,false,false,false,false,false,false,false,false,false,false,false,false] rfl rfl (z9 HT_.out (by kernel_rfl)) (fun _ _ _ h => h) (Or.inl ⟨by rfl,?_⟩) ?_ ?_
          rotate_left
          ·intro w'
           go_simp
           with_reducible rfl
          rotate_left
          ·simp only [Act.put,List.setIfInBounds_toArray,List.set_cons_zero,List.set_cons_succ,zN,zQ]
           rfl
          refine zai (i := 7) (N := some 60) (v := ?_) (a' := ?_) #[true,true,true,false,false,false,false,true,false,false,false,false,false,false,false] rfl rfl (z9 HT_.out (by kernel_rfl)) (fun _ _ _ h => h) (Or.inl ⟨by rfl,?_⟩) ?_ ?_
          rotate_left
          ·intro w'
           go_simp
           with_reducible rfl
          rotate_left
          ·simp only [Act.put,List.setIfInBounds_toArray,List.set_cons_zero,List.set_cons_succ,zN,zQ]
           rfl
          refine zai (i := 8) (N := some 61) (v := ?_) (a' := ?_) #[true,true,true,false,false,false,false,true,true,false,false,false,false,false,false] rfl rfl (z9 HT_.out (by kernel_rfl)) (fun _ _ _ h => h) (Or.inl ⟨by rfl,?_⟩) ?_ ?_
          rotate_left
          ·intro w'
           go_simp
           with_reducible rfl
          rotate_left
          ·simp only [Act.put,List.setIfInBounds_toArray,List.set_cons_zero,List.set_cons_succ,zN,zQ]
           rfl
          refine take_ (i := 3) (N := some 56) (v := ?_) (a' := ?_) #[true,true,true,true,false,false,false,true,true,false,false,false,false,false,false] rfl rfl (zaY HT_.out HW_.out (by kernel_rfl)) (fun _ _ _ h => h) (Or.inl ⟨by rfl,?_⟩) hHeld ?_ ?_
          rotate_left
          ·rintro w' ⟨s0,s1,s2,s3,s4,s5⟩
           go_simp
           with_reducible rfl
          rotate_left
          ·simp only [Act.put,List.setIfInBounds_toArray,List.set_cons_zero,List.set_cons_succ,zN,zQ]
           rfl
          refine zai (i := 4) (N := some 57) (v := ?_) (a' := ?_) #[true,true,true,true,true,false,false,true,true,false,false,false,false,false,false] rfl rfl (z9 HT_.out (by kernel_rfl)) (fun _ _ _ h => h) (Or.inl ⟨by rfl,?_⟩) ?_ ?_
          rotate_left
          ·intro w'
           go_simp
           with_reducible rfl
          rotate_left
          ·simp only [Act.put,List.setIfInBounds_toArray,List.set_cons_zero,List.set_cons_succ,zN,zQ]
           rfl
          refine take_ (i := 9) (N := some 62) (v := ?_) (a' := ?_) #[true,true,true,true,true,false,false,true,true,true,false,false,false,false,false] rfl rfl (zaY HT_.out HW_.out (by kernel_rfl)) (fun _ _ _ h => h) (Or.inl ⟨by rfl,?_⟩) hHeld ?_ ?_
          rotate_left
          ·rintro w' ⟨s0,s1,s2,s3,s4,s5⟩
           go_simp
           with_reducible rfl
          rotate_left
          ·simp only [Act.put,List.setIfInBounds_toArray,List.set_cons_zero,List.set_cons_succ,zN,zQ]
           rfl
          refine zai (i := 10) (N := some 63) (v := ?_) (a' := ?_) #[true,true,true,true,true,false,false,true,true,true,true,false,false,false,false] rfl rfl (z9 HT_.out (by kernel_rfl)) (fun _ _ _ h => h) (Or.inl ⟨by rfl,?_⟩) ?_ ?_
          rotate_left
          ·intro w'
           go_simp
           with_reducible rfl
          rotate_left
          ·simp only [Act.put,List.setIfInBounds_toArray,List.set_cons_zero,List.set_cons_succ,zN,zQ]
           rfl
          refine zc7 (i := 5) (N := some 58) #[true,true,true,true,true,true,false,true,true,true,true,false,false,false,false] rfl rfl (zbT HT_.out (by kernel_rfl)) (by decide) (fun K hK => ?_)
          refine zb4 Try.func103 (by kernel_rfl) rfl #[.int .u64 (IntKind.u64.wrap (a0_4))] (by rfl) rfl rfl (by (try simp only [List.map_toArray,List.map_cons,List.map_nil]);first | done | rfl | (simp only [List.length_drop,List.length_take];rfl)) ?_
          with_reducible refine (zr.calls k1 (IntKind.u64.wrap (a0_4)) t421 _ A22.out).mono ?_
          rintro e w34 ⟨rfl,hb⟩
          refine ⟨_,rfl,?_⟩
          have n0_ := zc.mk (Kd.R_below (by (with_reducible repeat (first | apply Kd.R_alloc | apply Kd.R_drewN | apply Kd.R_drew));exact HO_7.out) hb)
          have n1_ := zc.mk (zh (g := gb409) (o := .cells #[.int .i64 a0_0,.int .i64 a0_1,.slice A0_2 l0_2.length c0_2,.slice A0_3 l0_3.length c0_3,.int .i64 a0_4,.int .i64 a0_5] 28 (0,0)) (hGq BK409.out) hb)
          have n2_ := zc.mk (zg hCq hb)
          clear HO_7
          clear BK409
          clear HB
          have HO_7 := n0_
          have BK409 := n1_
          have HB := n2_
          clear n0_ n1_ n2_
          (try clear hb)
          (try clear hb2)
          (try clear hk)
          (try clear hi)
          refine hK.out _ _ ⟨(zb BK409.out 0).trans rfl,(zb BK409.out 1).trans rfl,(zb BK409.out 2).trans rfl,(zb BK409.out 3).trans rfl,(zb BK409.out 4).trans rfl,(zb BK409.out 5).trans rfl⟩ (fun hHeld => ?_)
          clear hK K
          refine zb5 (a' := ?_) ?_ ?_
          rotate_left
          ·show Act.put _ (some 58) _ = _
           simp only [Act.put,List.setIfInBounds_toArray,List.set_cons_zero,List.set_cons_succ,zN,zQ]
           rfl
          refine zai (i := 6) (N := some 59) (v := ?_) (a' := ?_) #[true,true,true,true,true,true,true,true,true,true,true,false,false,false,false] rfl rfl (z9 HT_.out (by kernel_rfl)) (fun _ _ _ h => h) (Or.inl ⟨by rfl,?_⟩) ?_ ?_
          rotate_left
          ·intro w'
           go_simp
           with_reducible rfl
          rotate_left
          ·simp only [Act.put,List.setIfInBounds_toArray,List.set_cons_zero,List.set_cons_succ,zN,zQ]
           rfl
          refine zc7 (i := 11) (N := some 64) #[true,true,true,true,true,true,true,true,true,true,true,true,false,false,false] rfl rfl (zbT HT_.out (by kernel_rfl)) (by decide) (fun K hK => ?_)
          refine zb4 Try.func103 (by kernel_rfl) rfl #[.int .u64 (IntKind.u64.wrap (a0_5))] (by rfl) rfl rfl (by (try simp only [List.map_toArray,List.map_cons,List.map_nil]);first | done | rfl | (simp only [List.length_drop,List.length_take];rfl)) ?_
          with_reducible refine (zr.calls k1 (IntKind.u64.wrap (a0_5)) t422 _ A24.out).mono ?_
          rintro e w35 ⟨rfl,hb⟩
          refine ⟨_,rfl,?_⟩
          have n0_ := zc.mk (Kd.R_below (by (with_reducible repeat (first | apply Kd.R_alloc | apply Kd.R_drewN | apply Kd.R_drew));exact HO_7.out) hb)
          have n1_ := zc.mk (zh (g := gb409) (o := .cells #[.int .i64 a0_0,.int .i64 a0_1,.slice A0_2 l0_2.length c0_2,.slice A0_3 l0_3.length c0_3,.int .i64 a0_4,.int .i64 a0_5] 28 (0,0)) (hGq BK409.out) hb)
          have n2_ := zc.mk (zg hCq hb)
          clear HO_7
          clear BK409
          clear HB
          have HO_7 := n0_
          have BK409 := n1_
          have HB := n2_
          clear n0_ n1_ n2_
          (try clear hb)
          (try clear hb2)
          (try clear hk)
          (try clear hi)
          refine hK.out _ _ ⟨(zb BK409.out 0).trans rfl,(zb BK409.out 1).trans rfl,(zb BK409.out 2).trans rfl,(zb BK409.out 3).trans rfl,(zb BK409.out 4).trans rfl,(zb BK409.out 5).trans rfl⟩ (fun hHeld => ?_)
          clear hK K
          refine zb5 (a' := ?_) ?_ ?_
          rotate_left
          ·show Act.put _ (some 64) _ = _
           simp only [Act.put,List.setIfInBounds_toArray,List.set_cons_zero,List.set_cons_succ,zN,zQ]
           rfl
          refine zai (i := 12) (N := some 65) (v := ?_) (a' := ?_) #[true,true,true,true,true,true,true,true,true,true,true,true,true,false,false] rfl rfl (z9 HT_.out (by kernel_rfl)) (fun _ _ _ h => h) (Or.inl ⟨by rfl,?_⟩) ?_ ?_
          rotate_left
          ·intro w'
           go_simp
           with_reducible rfl
          rotate_left
          ·simp only [Act.put,List.setIfInBounds_toArray,List.set_cons_zero,List.set_cons_succ,zN,zQ]
           rfl
          refine zai (i := 13) (N := some 4) (v := ?_) (a' := ?_) #[true,true,true,true,true,true,true,true,true,true,true,true,true,true,false] rfl rfl (z9 HT_.out (by kernel_rfl)) (fun _ _ _ h => h) (Or.inl ⟨by rfl,?_⟩) ?_ ?_
          rotate_left
          ·intro w'
           go_simp
           with_reducible rfl
          rotate_left
          ·simp only [Act.put,List.setIfInBounds_toArray,List.set_cons_zero,List.set_cons_succ,zN,zQ]
           rfl
          refine zai (i := 14) (N := some 5) (v := ?_) (a' := ?_) #[true,true,true,true,true,true,true,true,true,true,true,true,true,true,true] rfl rfl (z9 HT_.out (by kernel_rfl)) (fun _ _ _ h => h) (Or.inl ⟨by rfl,?_⟩) ?_ ?_
          rotate_left
          ·intro w'
           go_simp
           with_reducible rfl
          rotate_left
          ·simp only [Act.put,List.setIfInBounds_toArray,List.set_cons_zero,List.set_cons_succ,zN,zQ]
           rfl
          refine zeg (zc8 HT_.out (by kernel_rfl)) ?_
          try go_wp2
          go_ret2
          exact ⟨hHq,hCq⟩
         ·rw [if_neg c25] at H
          exact absurd H (by simp)
        ·rw [if_neg c23] at H
         exact absurd H (by simp)
       ·rw [if_neg c21] at H
        exact absurd H (by simp)
      ·rw [if_neg c19] at H
       exact absurd H (by simp)
     ·rw [if_neg c17] at H
      exact absurd H (by simp)
 ·replace c4 := Bool.eq_false_iff.mpr c4
  subst c4
  have H1 : (some ((⟨#[]⟩ : ByteArray),1)) = some (r1,r2) := by rw [if_neg (show ¬ (false = true) by decide)] at H;exact H
  clear H
  have H := H1
  clear H1
  simp only [Option.some.injEq,Prod.mk.injEq] at H
  obtain ⟨rfl,rfl⟩ := H
  go_enter Try.func71,Try.ntmps71
  go_wp2_with (first | ((with_reducible refine zD (N := 2) rfl ?_);refine zq ?hg (N := 2) ?hd (cs := #[.int .i64 a0_0,.int .i64 a0_1,.slice A0_2 l0_2.length c0_2,.slice A0_3 l0_3.length c0_3,.int .i64 a0_4,.int .i64 a0_5]) (t := 28) ?hr ?_;(case hd => rfl);(case hg => rfl);(case hr => first | (go_simp;done) | (go_simp;rfl));intro gb409 hg w36 hbox hb;have n0_ := zc.mk (zg hBq hb);have n1_ := zc.mk (hbox);have n2_ := zc.mk ((by rw [hg];exact (zj hBq) : w.heap.size ≤ gb409));have n3_ := zc.mk ((by rw [hg];exact (zj hBq) : w.heap.size ≤ gb409));clear HB;have HB := n0_;have BK409 := n1_;have GW409 := n2_;have GE409 := n3_;clear n0_ n1_ n2_ n3_;clear hb hbox hg;have hcz37_0 : w36.cell? ⟨gb409,0,none⟩ = some (.int .i64 a0_0) := (zb BK409.out 0).trans rfl;have hcz37_1 : w36.cell? ⟨gb409,1,none⟩ = some (.int .i64 a0_1) := (zb BK409.out 1).trans rfl;have hcz37_2 : w36.cell? ⟨gb409,2,none⟩ = some (.slice A0_2 l0_2.length c0_2) := (zb BK409.out 2).trans rfl;have hcz37_3 : w36.cell? ⟨gb409,3,none⟩ = some (.slice A0_3 l0_3.length c0_3) := (zb BK409.out 3).trans rfl;have hcz37_4 : w36.cell? ⟨gb409,4,none⟩ = some (.int .i64 a0_4) := (zb BK409.out 4).trans rfl;have hcz37_5 : w36.cell? ⟨gb409,5,none⟩ = some (.int .i64 a0_5) := (zb BK409.out 5).trans rfl;have hfz37_0 := za BK409.out 0;have hfz37_1 := za BK409.out 1;have hfz37_2 := za BK409.out 2;have hfz37_3 := za BK409.out 3;have hfz37_4 := za BK409.out 4;have hfz37_5 := za BK409.out 5) | ((with_reducible refine zp (f := 63) rfl ?_);refine z6 (some 14) rfl rfl Try.func63 (by kernel_rfl) rfl #[.agg #[.int .i64 a0_0,.int .i64 a0_1,.slice A0_2 l0_2.length c0_2,.slice A0_3 l0_3.length c0_3,.int .i64 a0_4,.int .i64 a0_5],.int .i64 a1] rfl (by (try simp only [List.map_toArray,List.map_cons,List.map_nil]);first | done | rfl | (simp only [List.length_drop,List.length_take];rfl)) ?_;(with_reducible refine (zi.calls k a0_0 a0_1 _ _ l0_2 _ _ l0_3 a0_4 a0_5 a1 false _ ?side1 ?side2 ?side3 ?side4 A3.out).mono ?_);(case side1 => repeat (first | exact (Kd.C_below HR0_2.out HB.out) | (with_reducible refine Kd.C_alloc ?_ _) | (with_reducible refine Kd.C_drewN ?_ _) | (with_reducible refine Kd.C_drew ?_)));(case side2 => exact HC0_2.out);(case side3 => repeat (first | exact (Kd.C_below HR0_3.out HB.out) | (with_reducible refine Kd.C_alloc ?_ _) | (with_reducible refine Kd.C_drewN ?_ _) | (with_reducible refine Kd.C_drew ?_)));(case side4 => exact HC0_3.out);rintro e w38 ⟨rfl,hb⟩;refine ⟨_,rfl,?_⟩;have n0_ := zc.mk (zh (g := gb409) (o := .cells #[.int .i64 a0_0,.int .i64 a0_1,.slice A0_2 l0_2.length c0_2,.slice A0_3 l0_3.length c0_3,.int .i64 a0_4,.int .i64 a0_5] 28 (0,0)) (hGq BK409.out) hb);have n1_ := zc.mk (zg hCq hb);clear BK409;clear HB;have BK409 := n0_;have HB := n1_;clear n0_ n1_;(try clear hb);(try clear hb2);(try clear hk);(try clear hi)))
  go_ret2
  exact ⟨hHq,hCq⟩
end Go.Proofs.Ytgdpiegkoeikiaa.Px