/- Part 19 of 24 of the proof of the law CertGrows: what is proved is the statement at the end of the last part; its conditions are those of the given row. -/
import Derived.Test.YtcncoepijagadaaZCertGrowsP
import Derived.Test.YtcncoepijagadaaZCertGrowsR
namespace Go.Proofs.Ytcncoepijagadaa.Px
open Go.RowKit Go.Proofs.YtcncoepijagadaaW.PrintWords Go.Proofs.YtcncoepijagadaaW.PrintLast Go.Proofs.YtcncoepijagadaaW.PrintMore
attribute [local go_sem] zp zr zy zz zl zm zq zs
set_option linter.unusedVariables false
set_option linter.unusedSimpArgs false
def zj.l0 : Nat → List ByteArray → Int → Int → Int → List (S50) → List ByteArray → Int → Int → Option (ByteArray × Int)
 | 0,_,_,_,_,_,_,_,_ => none
 | k + 1,x7,x8,x182000,x182001,x182002,x182003,x182004,x182005 => if x8 < (x182002.length : Int) then (if 0 ≤ x8 then ((zN.f k ((zG x182002 x8).f0) ((zG x182002 x8).f1) ((zG x182002 x8).f2)).bind fun bt184 => (if x7.length < 8796093022208 then (zj.l0 k (x7 ++ [bt184.1]) (wrap64 (x8 + 1)) x182000 x182001 x182002 x182003 x182004 x182005) else (none))) else (none)) else ((zh.f k (IntKind.u64.wrap (x182000))).bind fun t189 => ((zh.f k (IntKind.u64.wrap (x182001))).bind fun t190 => (if t189.size + t190.size ≤ 9223372036854775807 then ((zC.f x7).bind fun t191 => (if (t189 ++ t190).size + t191.size ≤ 9223372036854775807 then ((zC.f x182003).bind fun t192 => (if ((t189 ++ t190) ++ t191).size + t192.size ≤ 9223372036854775807 then ((zh.f k (IntKind.u64.wrap (x182004))).bind fun t193 => (if (((t189 ++ t190) ++ t191) ++ t192).size + t193.size ≤ 9223372036854775807 then ((zh.f k (IntKind.u64.wrap (x182005))).bind fun t194 => (if ((((t189 ++ t190) ++ t191) ++ t192) ++ t193).size + t194.size ≤ 9223372036854775807 then (some (((((t189 ++ t190) ++ t191) ++ t192) ++ t193) ++ t194,0)) else (none))) else (none))) else (none))) else (none))) else (none))))
def zj.f (k : Nat) (a0_0 : Int) (a0_1 : Int) (l0_2 : List (S50)) (l0_3 : List ByteArray) (a0_4 : Int) (a0_5 : Int) (a1 : Int) : Option (ByteArray × Int) := (ze.f k a0_0 a0_1 l0_2 l0_3 a0_4 a0_5 a1).bind fun t182 => (if t182 = true then (zj.l0 k ([] : List ByteArray) 0 a0_0 a0_1 l0_2 l0_3 a0_4 a0_5) else (some ((⟨#[]⟩ : ByteArray),1)))
def zj.T10 : Bool × List (List Nat × List Nat) := (true,[([],[]),([0],[0]),([1],[1]),([2],[2]),([],[]),([4],[4]),([5],[5]),([6,3],[6]),([3,7],[3,7]),([],[]),([9,7],[9]),([8,10],[8,10]),([],[]),([12],[12]),([13,10],[13]),([11,14],[11,14]),([15,14,0,1,2,3,4,5,6,7,8,9,10,11,12,13,14,15],[15])])
def zj.B10 : List Nat := [0,1,3,7,0,16,48,127,255,0,767,2047,0,4096,14079,32767,65535]
theorem zj.tab10 : zbT .any (ze5 Try.f19 10) = zj.T10 := by kernel_rfl
theorem zj.bits10 : zbU zj.T10.2 zj.B10 = true := by kernel_rfl
def zj.T11 : Bool × List (List Nat × List Nat) := (true,[([],[]),([],[]),([1],[1]),([2],[2]),([3],[3]),([4],[4]),([0,5],[0,5]),([],[]),([7],[7]),([8],[8]),([9],[9]),([10,5],[10]),([6,11],[6,11]),([12,11,0,1,2,3,4,5,6,7,8,9,10,11,12],[12]),([13,0,1,2,3,4,5,6,7,8,9,10,11,12,13],[])])
def zj.B11 : List Nat := [0,0,2,6,14,30,63,0,128,384,896,1982,4095,8191,16383]
theorem zj.tab11 : zbT .any (ze5 Try.f19 11) = zj.T11 := by kernel_rfl
theorem zj.bits11 : zbU zj.T11.2 zj.B11 = true := by kernel_rfl
set_option maxHeartbeats 8000000 in
set_option maxRecDepth 100000 in
theorem zj.calls (k : Nat) (a0_0 : Int) (a0_1 : Int) (A0_2 : Option Addr) (c0_2 : Nat) (l0_2 : List (S50)) (A0_3 : Option Addr) (c0_3 : Nat) (l0_3 : List ByteArray) (a0_4 : Int) (a0_5 : Int) (a1 : Int) (r1 : ByteArray) (r2 : Int) (w : World) (hr0_2 : Kd.C k50 w A0_2 l0_2.length l0_2) (hc0_2 : l0_2.length ≤ c0_2) (hr0_3 : Kd.C Kd.string w A0_3 l0_3.length l0_3) (hc0_3 : l0_3.length ≤ c0_3) (h : zj.f k a0_0 a0_1 l0_2 l0_3 a0_4 a0_5 a1 = some (r1,r2)) :
  Calls Try.prog 19 #[.agg #[.int .i64 a0_0,.int .i64 a0_1,.slice A0_2 l0_2.length c0_2,.slice A0_3 l0_3.length c0_3,.int .i64 a0_4,.int .i64 a0_5],.int .i64 a1] w fun e w' => e = .returned (.tuple #[.string r1,.int .i64 r2]) ∧ Below w.heap.size w w' := by
 have hu28 := Try.underlying28
 have hu50 := Try.underlying50
 have HR0_2 := za.mk hr0_2
 have HC0_2 := za.mk hc0_2
 clear hr0_2 hc0_2
 have HR0_3 := za.mk hr0_3
 have HC0_3 := za.mk hc0_3
 clear hr0_3 hc0_3
 have HB := za.mk (Below.refl w.heap.size w)
 have H : ((ze.f k a0_0 a0_1 l0_2 l0_3 a0_4 a0_5 a1).bind fun t182 => (if t182 = true then (zj.l0 k ([] : List ByteArray) 0 a0_0 a0_1 l0_2 l0_3 a0_4 a0_5) else (some ((⟨#[]⟩ : ByteArray),1)))) = some (r1,r2) := h
 clear h
 replace H := Option.bind_eq_some_iff.mp H
 obtain ⟨t182,A30,H⟩ := H
 replace H : (if t182 = true then (zj.l0 k ([] : List ByteArray) 0 a0_0 a0_1 l0_2 l0_3 a0_4 a0_5) else (some ((⟨#[]⟩ : ByteArray),1))) = some (r1,r2) := H
 have A3 := za.mk A30
 clear A30
 by_cases c4 : t182 = true
 ·subst c4
  have H1 : (zj.l0 k ([] : List ByteArray) 0 a0_0 a0_1 l0_2 l0_3 a0_4 a0_5) = some (r1,r2) := by rw [if_pos rfl] at H;exact H
  clear H
  have H := H1
  clear H1
  have H' := za.mk H
  clear H
  go_enter Try.func19,Try.ntmps19
  go_wp2_with (first | ((with_reducible refine zo (N := 2) rfl ?_);refine zk rfl (N := 2) rfl (cs := #[.int .i64 a0_0,.int .i64 a0_1,.slice A0_2 l0_2.length c0_2,.slice A0_3 l0_3.length c0_3,.int .i64 a0_4,.int .i64 a0_5]) (t := 28) hrq ?_;intro gb181 hg w5 hbox hb;have n_ := haq (zd hBq hb) <| haq (hbox) <| haq ((by rw [hg];exact (zf hBq) : w.heap.size ≤ gb181)) <| haq ((by rw [hg];exact (zf hBq) : w.heap.size ≤ gb181)) <| trivial;clear HB;obtain ⟨HB,BK181,GW181,GE181,_⟩ := n_;clear hb hbox hg;obtain ⟨hcz6_0,hcz6_1,hcz6_2,hcz6_3,hcz6_4,hcz6_5,hfz6_0,hfz6_1,hfz6_2,hfz6_3,hfz6_4,hfz6_5⟩ := hcq6 BK181.out) | ((with_reducible refine zv (f := 33) rfl ?_);refine zT (some 14) rfl rfl Try.func33 (by kernel_rfl) rfl #[.agg #[.int .i64 a0_0,.int .i64 a0_1,.slice A0_2 l0_2.length c0_2,.slice A0_3 l0_3.length c0_3,.int .i64 a0_4,.int .i64 a0_5],.int .i64 a1] rfl hMq ?_;(with_reducible refine (ze.calls k a0_0 a0_1 _ _ l0_2 _ _ l0_3 a0_4 a0_5 a1 true _ ?side1 ?side2 ?side3 ?side4 A3.out).mono ?_);(case side1 => exact hKq (Kd.C_below HR0_2.out HB.out));(case side2 => exact HC0_2.out);(case side3 => exact hKq (Kd.C_below HR0_3.out HB.out));(case side4 => exact HC0_3.out);rintro e w7 ⟨rfl,hb⟩;refine ⟨_,rfl,?_⟩;have n_ := haq (hbq BK181.out hb) <| haq (zd hCq hb) <| trivial;clear BK181 HB;obtain ⟨BK181,HB,_⟩ := n_;(try clear hb);(try clear hb2);(try clear hk);(try clear hi)))
  go_loopg [7,8] k (fun kq v7 v8 w' => ∃ (x7_1 : List ByteArray) (x8_1 : Int),v8 = .int .i64 x8_1 ∧ za (zj.l0 kq x7_1 x8_1 a0_0 a0_1 l0_2 l0_3 a0_4 a0_5 = some (r1,r2)) ∧ za (kq ≤ k) ∧ za (Kd.R Kd.string 9 w' w.heap.size (fun _ => True) v7 x7_1) ∧ za (w'.heap[gb181]? = some (.cells #[.int .i64 a0_0,.int .i64 a0_1,(.slice A0_2 l0_2.length c0_2),(.slice A0_3 l0_3.length c0_3),.int .i64 a0_4,.int .i64 a0_5] 28 (0,0))) ∧ za (Below w.heap.size w w'))
  case atStart => exact ⟨(([] : List ByteArray)),(0),(hDq),H',⟨Nat.le_refl _⟩,⟨by first | exact Kd.R_nil _ _ _ _ _ | exact Kd.N_nil _ _ _ _ _ | exact Kd.V_nil _ _ _ _ _ | exact Kd.Q_nil _ _ _ _ _ | exact Kd.S_nil _ _ _ _ _⟩,⟨hGq BK181.out⟩,⟨by repeat (first | (with_reducible first | exact HB.out | apply zw | apply zg | apply zn | refine zE ?_ GE181.out) | exact HB.out)⟩⟩
  case round =>
   clear H'
   try clear c1;try clear p2;try clear c3;try clear c4;try clear hcz6_0;try clear hcz6_1;try clear hcz6_2;try clear hcz6_3;try clear hcz6_4;try clear hcz6_5;try clear hfz6_0;try clear hfz6_1;try clear hfz6_2;try clear hfz6_3;try clear hfz6_4;try clear hfz6_5
   obtain ⟨x7_1,x8_1,rfl,HA,HK1,HO_7,BK181,HB⟩ := hrel
   cases gk with
   | zero => exact absurd HA.out (by simp [zj.l0])
   | succ k1 =>
    have H := HA.out
    clear HA
    simp only [zj.l0] at H
    by_cases c8 : x8_1 < (l0_2.length : Int)
    ·rw [if_pos c8] at H
     have c8b0 : decide (x8_1 < (l0_2.length : Int)) = true := decide_eq_true c8
     clear c8
     by_cases c9 : 0 ≤ x8_1
     ·rw [if_pos c9] at H
      have c9b0 : decide (0 ≤ x8_1) = true := decide_eq_true c9
      clear c9
      replace H := Option.bind_eq_some_iff.mp H
      obtain ⟨⟨t184,t185⟩,A100,H⟩ := H
      replace H : (if x7_1.length < 8796093022208 then (zj.l0 k1 (x7_1 ++ [t184]) (wrap64 (x8_1 + 1)) a0_0 a0_1 l0_2 l0_3 a0_4 a0_5) else (none)) = some (r1,r2) := H
      have A10 := za.mk A100
      clear A100
      by_cases c11 : x7_1.length < 8796093022208
      ·rw [if_pos c11] at H
       have LMc11 := za.mk c11
       clear c11
       obtain ⟨y186,hy186⟩ : ∃ y_ : List ByteArray,y_ = (x7_1 ++ [t184]) := ⟨_,rfl⟩
       replace H : (zj.l0 k1 y186 (wrap64 (x8_1 + 1)) a0_0 a0_1 l0_2 l0_3 a0_4 a0_5) = some (r1,r2) := by first | (rw [hy186];with_reducible exact H) | (have H2_ := (Option.bind_some _ _).symm.trans H;rw [hy186];with_reducible exact H2_) | (have H2_ := (Option.bind_some _ _).symm.trans H;with_reducible exact H2_) | with_reducible exact H | (rw [hy186];exact H) | exact H
       have Ny186 := za.mk hy186
       clear hy186
       have H' := za.mk H
       clear H
       obtain ⟨hcz12_0,hcz12_1,hcz12_2,hcz12_3,hcz12_4,hcz12_5,hfz12_0,hfz12_1,hfz12_2,hfz12_3,hfz12_4,hfz12_5⟩ := hcq6 BK181.out
       have p183 : 0 ≤ (x8_1 : Int) := hFq
       have q183 : x8_1 < (l0_2.length : Int) := hFq
       obtain ⟨ad183,A183_2,c183_2,e183,hx183_0,hx183_1,hx183_2,hl183_2,hi183_2⟩ := zbZ HR0_2.out x8_1 p183 q183
       cases e183
       replace hx183_0 := (HB.out.cell (World.block_lt_of_cell? w _ hx183_0)).trans hx183_0
       replace hx183_1 := (HB.out.cell (World.block_lt_of_cell? w _ hx183_1)).trans hx183_1
       replace hx183_2 := (HB.out.cell (World.block_lt_of_cell? w _ hx183_2)).trans hx183_2
       have HR183_2 := za.mk hi183_2
       have HC183_2 := za.mk hl183_2
       clear hi183_2 hl183_2
       replace p183 := eq_true p183
       replace q183 := eq_true q183
       go_wp2_with (first | ((with_reducible refine zv (f := 34) rfl ?_);refine zT (some 30) rfl rfl Try.func34 (by kernel_rfl) rfl #[.agg #[.int .i64 ((zG l0_2 x8_1).f0),.int .i64 ((zG l0_2 x8_1).f1),.slice A183_2 ((zG l0_2 x8_1).f2).length c183_2]] rfl hMq ?_;(with_reducible refine (zN.calls k1 ((zG l0_2 x8_1).f0) ((zG l0_2 x8_1).f1) _ _ ((zG l0_2 x8_1).f2) t184 t185 _ ?side1 ?side2 A10.out).mono ?_);(case side1 => exact hKq (Kd.C_below HR183_2.out HB.out));(case side2 => exact HC183_2.out);rintro e w13 ⟨rfl,hb⟩;refine ⟨_,rfl,?_⟩;have n_ := haq (Kd.R_below (hRq HO_7.out) hb) <| haq (hbq BK181.out hb) <| haq (zd hCq hb) <| trivial;clear HO_7 BK181 HB;obtain ⟨HO_7,BK181,HB,_⟩ := n_;(try clear hb);(try clear hb2);(try clear hk);(try clear hi)) | ((with_reducible refine zbj (b := .append) (xs := #[.tmp 33,.tmp 35]) rfl ?_);at_builtin;refine Kd.R_append Kd.string (w0 := w) w.heap.size rfl (.tmp 33) (.tmp 35) 24 9 (.string ⟨#[]⟩) 16 rfl Try.underlying24 info9 rfl (by decide) (by omega) u7 x7_1 t184 [.string t184] (fun _ => True) (fun _ => False) rfl rfl ?aP (fun _ hk => hk.elim) ?aF ?aO ?aB ?aS ?aL ?_;(case aP => exact rfl);(case aB => exact hCq);(case aF => exact (fun _ _ => trivial));(case aO => exact (hRq HO_7.out));(case aS => exact (zf hCq));(case aL => have := LMc11.out;omega);intro v187 w14 ho hb hg hat;rw [← Ny186.out] at ho;have n_ := haq (zdo (g := gb181) (o := .cells #[.int .i64 a0_0,.int .i64 a0_1,.slice (some ad183) l0_2.length c0_2,.slice A0_3 l0_3.length c0_3,.int .i64 a0_4,.int .i64 a0_5] 28 (0,0)) (hGq BK181.out) hg (Kd.R_ne HO_7.out BK181.out (by decide))) <| haq (hb) <| haq (ho) <| trivial;clear BK181 HB HO_7;obtain ⟨BK181,HB,HO188,_⟩ := n_;clear ho hb hg hat))
       go_roundg k1
       case measure => have := HK1.out;omega
       case rel => exact ⟨(y186),(wrap64 (x8_1 + 1)),(hDq),H',⟨by have := HK1.out;omega⟩,⟨by (with_reducible repeat (first | apply Kd.R_alloc | apply Kd.R_drewN | apply Kd.R_drew));exact HO188.out⟩,⟨hGq BK181.out⟩,⟨by repeat (first | (with_reducible first | exact HB.out | apply zw | apply zg | apply zn | refine zE ?_ GE181.out) | exact HB.out)⟩⟩
      ·rw [if_neg c11] at H
       exact absurd H (by simp)
     ·rw [if_neg c9] at H
      exact absurd H (by simp)
    ·rw [if_neg c8] at H
     have c8b0 : decide (x8_1 < (l0_2.length : Int)) = false := decide_eq_false c8
     clear c8
     replace H := Option.bind_eq_some_iff.mp H
     obtain ⟨t189,A150,H⟩ := H
     replace H : ((zh.f k1 (IntKind.u64.wrap (a0_1))).bind fun t190 => (if t189.size + t190.size ≤ 9223372036854775807 then ((zC.f x7_1).bind fun t191 => (if (t189 ++ t190).size + t191.size ≤ 9223372036854775807 then ((zC.f l0_3).bind fun t192 => (if ((t189 ++ t190) ++ t191).size + t192.size ≤ 9223372036854775807 then ((zh.f k1 (IntKind.u64.wrap (a0_4))).bind fun t193 => (if (((t189 ++ t190) ++ t191) ++ t192).size + t193.size ≤ 9223372036854775807 then ((zh.f k1 (IntKind.u64.wrap (a0_5))).bind fun t194 => (if ((((t189 ++ t190) ++ t191) ++ t192) ++ t193).size + t194.size ≤ 9223372036854775807 then (some (((((t189 ++ t190) ++ t191) ++ t192) ++ t193) ++ t194,0)) else (none))) else (none))) else (none))) else (none))) else (none))) = some (r1,r2) := H
     have A15 := za.mk A150
     clear A150
     replace H := Option.bind_eq_some_iff.mp H
     obtain ⟨t190,A160,H⟩ := H
     replace H : (if t189.size + t190.size ≤ 9223372036854775807 then ((zC.f x7_1).bind fun t191 => (if (t189 ++ t190).size + t191.size ≤ 9223372036854775807 then ((zC.f l0_3).bind fun t192 => (if ((t189 ++ t190) ++ t191).size + t192.size ≤ 9223372036854775807 then ((zh.f k1 (IntKind.u64.wrap (a0_4))).bind fun t193 => (if (((t189 ++ t190) ++ t191) ++ t192).size + t193.size ≤ 9223372036854775807 then ((zh.f k1 (IntKind.u64.wrap (a0_5))).bind fun t194 => (if ((((t189 ++ t190) ++ t191) ++ t192) ++ t193).size + t194.size ≤ 9223372036854775807 then (some (((((t189 ++ t190) ++ t191) ++ t192) ++ t193) ++ t194,0)) else (none))) else (none))) else (none))) else (none))) else (none)) = some (r1,r2) := H
     have A16 := za.mk A160
     clear A160
     by_cases c17 : t189.size + t190.size ≤ 9223372036854775807
     ·rw [if_pos c17] at H
      have c17b0 := eq_true c17
      have c17b1 : decide (t189.size + t190.size ≤ 9223372036854775807) = true := decide_eq_true c17
      try have c17b2 : (9223372036854775807 < t189.size + t190.size) = False := eq_false (Nat.not_lt.2 c17)
      replace H := Option.bind_eq_some_iff.mp H
      obtain ⟨t191,A180,H⟩ := H
      replace H : (if (t189 ++ t190).size + t191.size ≤ 9223372036854775807 then ((zC.f l0_3).bind fun t192 => (if ((t189 ++ t190) ++ t191).size + t192.size ≤ 9223372036854775807 then ((zh.f k1 (IntKind.u64.wrap (a0_4))).bind fun t193 => (if (((t189 ++ t190) ++ t191) ++ t192).size + t193.size ≤ 9223372036854775807 then ((zh.f k1 (IntKind.u64.wrap (a0_5))).bind fun t194 => (if ((((t189 ++ t190) ++ t191) ++ t192) ++ t193).size + t194.size ≤ 9223372036854775807 then (some (((((t189 ++ t190) ++ t191) ++ t192) ++ t193) ++ t194,0)) else (none))) else (none))) else (none))) else (none)) = some (r1,r2) := H
      have A18 := za.mk A180
      clear A180
      by_cases c19 : (t189 ++ t190).size + t191.size ≤ 9223372036854775807
      ·rw [if_pos c19] at H
       have c19b0 := eq_true c19
       have c19b1 : decide ((t189 ++ t190).size + t191.size ≤ 9223372036854775807) = true := decide_eq_true c19
       try have c19b2 : (9223372036854775807 < (t189 ++ t190).size + t191.size) = False := eq_false (Nat.not_lt.2 c19)
       try (have c19b3 := c19;simp [ByteArray.size_append] at c19b3;have c19b4 := eq_false (Nat.not_lt.2 c19b3);clear c19b3)
       replace H := Option.bind_eq_some_iff.mp H
       obtain ⟨t192,A200,H⟩ := H
       replace H : (if ((t189 ++ t190) ++ t191).size + t192.size ≤ 9223372036854775807 then ((zh.f k1 (IntKind.u64.wrap (a0_4))).bind fun t193 => (if (((t189 ++ t190) ++ t191) ++ t192).size + t193.size ≤ 9223372036854775807 then ((zh.f k1 (IntKind.u64.wrap (a0_5))).bind fun t194 => (if ((((t189 ++ t190) ++ t191) ++ t192) ++ t193).size + t194.size ≤ 9223372036854775807 then (some (((((t189 ++ t190) ++ t191) ++ t192) ++ t193) ++ t194,0)) else (none))) else (none))) else (none)) = some (r1,r2) := H
       have A20 := za.mk A200
       clear A200
       by_cases c21 : ((t189 ++ t190) ++ t191).size + t192.size ≤ 9223372036854775807
       ·rw [if_pos c21] at H
        have c21b0 := eq_true c21
        have c21b1 : decide (((t189 ++ t190) ++ t191).size + t192.size ≤ 9223372036854775807) = true := decide_eq_true c21
        try have c21b2 : (9223372036854775807 < ((t189 ++ t190) ++ t191).size + t192.size) = False := eq_false (Nat.not_lt.2 c21)
        try (have c21b3 := c21;simp [ByteArray.size_append] at c21b3;have c21b4 := eq_false (Nat.not_lt.2 c21b3);clear c21b3)
        replace H := Option.bind_eq_some_iff.mp H
        obtain ⟨t193,A220,H⟩ := H
        replace H : (if (((t189 ++ t190) ++ t191) ++ t192).size + t193.size ≤ 9223372036854775807 then ((zh.f k1 (IntKind.u64.wrap (a0_5))).bind fun t194 => (if ((((t189 ++ t190) ++ t191) ++ t192) ++ t193).size + t194.size ≤ 9223372036854775807 then (some (((((t189 ++ t190) ++ t191) ++ t192) ++ t193) ++ t194,0)) else (none))) else (none)) = some (r1,r2) := H
        have A22 := za.mk A220
        clear A220
        by_cases c23 : (((t189 ++ t190) ++ t191) ++ t192).size + t193.size ≤ 9223372036854775807
        ·rw [if_pos c23] at H
         have c23b0 := eq_true c23
         have c23b1 : decide ((((t189 ++ t190) ++ t191) ++ t192).size + t193.size ≤ 9223372036854775807) = true := decide_eq_true c23
         try have c23b2 : (9223372036854775807 < (((t189 ++ t190) ++ t191) ++ t192).size + t193.size) = False := eq_false (Nat.not_lt.2 c23)
         try (have c23b3 := c23;simp [ByteArray.size_append] at c23b3;have c23b4 := eq_false (Nat.not_lt.2 c23b3);clear c23b3)
         replace H := Option.bind_eq_some_iff.mp H
         obtain ⟨t194,A240,H⟩ := H
         replace H : (if ((((t189 ++ t190) ++ t191) ++ t192) ++ t193).size + t194.size ≤ 9223372036854775807 then (some (((((t189 ++ t190) ++ t191) ++ t192) ++ t193) ++ t194,0)) else (none)) = some (r1,r2) := H
         have A24 := za.mk A240
         clear A240
         by_cases c25 : ((((t189 ++ t190) ++ t191) ++ t192) ++ t193).size + t194.size ≤ 9223372036854775807
         ·rw [if_pos c25] at H
          have c25b0 := eq_true c25
          have c25b1 : decide (((((t189 ++ t190) ++ t191) ++ t192) ++ t193).size + t194.size ≤ 9223372036854775807) = true := decide_eq_true c25
          try have c25b2 : (9223372036854775807 < ((((t189 ++ t190) ++ t191) ++ t192) ++ t193).size + t194.size) = False := eq_false (Nat.not_lt.2 c25)
          try (have c25b3 := c25;simp [ByteArray.size_append] at c25b3;have c25b4 := eq_false (Nat.not_lt.2 c25b3);clear c25b3)
          simp only [Option.some.injEq,Prod.mk.injEq] at H
          obtain ⟨rfl,rfl⟩ := H
          obtain ⟨hcz26_0,hcz26_1,hcz26_2,hcz26_3,hcz26_4,hcz26_5,hfz26_0,hfz26_1,hfz26_2,hfz26_3,hfz26_4,hfz26_5⟩ := hcq6 BK181.out
          try go_wp2
          have n0_ := za.mk (Kd.R_drew HO_7.out)
          have n1_ := za.mk (zav BK181.out)
          have n2_ := za.mk (zn HB.out)
          clear HO_7
          clear BK181
          clear HB
          have HO_7 := n0_
          have BK181 := n1_
          have HB := n2_
          clear n0_ n1_ n2_
          refine zcq (n := 17) (S := fun w' => w'.cell? ⟨gb181,0,none⟩ = some (.int .i64 a0_0) ∧ w'.cell? ⟨gb181,1,none⟩ = some (.int .i64 a0_1) ∧ w'.cell? ⟨gb181,2,none⟩ = some (.slice A0_2 l0_2.length c0_2) ∧ w'.cell? ⟨gb181,3,none⟩ = some (.slice A0_3 l0_3.length c0_3) ∧ w'.cell? ⟨gb181,4,none⟩ = some (.int .i64 a0_4) ∧ w'.cell? ⟨gb181,5,none⟩ = some (.int .i64 a0_5)) (ds := []) (uQ 17 0) (by kernel_rfl) rfl rfl ⟨(zb BK181.out 0).trans rfl,(zb BK181.out 1).trans rfl,(zb BK181.out 2).trans rfl,(zb BK181.out 3).trans rfl,(zb BK181.out 4).trans rfl,(zb BK181.out 5).trans rfl⟩ (fun hHeld => ?_);refine zbM zj.tab10 zj.bits10 (fun HT_ HW_ => ?_)
          generalize wr.drew = w27 at HO_7 BK181 HB hHeld ⊢
          refine puq (i := 0) (N := some 37) HT_.out (uQ 17 1) ?_
          refine puq (i := 4) (N := some 41) HT_.out #[true,false,false,false,true,false,false,false,false,false,false,false,false,false,false,false,false] ?_
          refine puq (i := 9) (N := some 46) HT_.out #[true,false,false,false,true,false,false,false,false,true,false,false,false,false,false,false,false] ?_
          refine puq (i := 12) (N := some 49) HT_.out #[true,false,false,false,true,false,false,false,false,true,false,false,true,false,false,false,false] ?_
          refine take_ (i := 1) (N := some 38) #[true,true,false,false,true,false,false,false,false,true,false,false,true,false,false,false,false] rfl rfl (zaD HT_.out HW_.out (by kernel_rfl)) (fun _ _ _ h => h) (Or.inl ⟨by rfl,by rintro w' ⟨s0,s1,s2,s3,s4,s5⟩;go_simp;with_reducible rfl⟩) hHeld hPq ?_
          refine puq (i := 2) (N := some 39) HT_.out #[true,true,true,false,true,false,false,false,false,true,false,false,true,false,false,false,false] ?_
          refine take_ (i := 5) (N := some 42) #[true,true,true,false,true,true,false,false,false,true,false,false,true,false,false,false,false] rfl rfl (zaD HT_.out HW_.out (by kernel_rfl)) (fun _ _ _ h => h) (Or.inl ⟨by rfl,by rintro w' ⟨s0,s1,s2,s3,s4,s5⟩;go_simp;with_reducible rfl⟩) hHeld hPq ?_
          refine puq (i := 6) (N := some 43) HT_.out #[true,true,true,false,true,true,true,false,false,true,false,false,true,false,false,false,false] ?_
          refine take_ (i := 13) (N := some 50) #[true,true,true,false,true,true,true,false,false,true,false,false,true,true,false,false,false] rfl rfl (zaD HT_.out HW_.out (by kernel_rfl)) (fun _ _ _ h => h) (Or.inl ⟨by rfl,by rintro w' ⟨s0,s1,s2,s3,s4,s5⟩;go_simp;with_reducible rfl⟩) hHeld hPq ?_
          refine zcg (i := 3) (N := some 40) #[true,true,true,true,true,true,true,false,false,true,false,false,true,true,false,false,false] rfl rfl (zbp HT_.out (by kernel_rfl)) (by decide) (fun K hK => ?_)
          refine zbz Try.func35 (by kernel_rfl) rfl #[.int .u64 (IntKind.u64.wrap (a0_0))] (by rfl) rfl rfl hMq ?_
          with_reducible refine (zh.calls k1 (IntKind.u64.wrap (a0_0)) t189 _ A15.out).mono ?_
          rintro e w28 ⟨rfl,hb⟩
          refine ⟨_,rfl,?_⟩
          have n0_ := za.mk (Kd.R_below (hRq HO_7.out) hb)
          have n1_ := za.mk (hbq BK181.out hb)
          have n2_ := za.mk (zd hCq hb)
          clear HO_7
          clear BK181
          clear HB
          have HO_7 := n0_
          have BK181 := n1_
          have HB := n2_
          clear n0_ n1_ n2_
          (try clear hb)
          (try clear hb2)
          (try clear hk)
          (try clear hi)
          refine hK.out _ _ ⟨(zb BK181.out 0).trans rfl,(zb BK181.out 1).trans rfl,(zb BK181.out 2).trans rfl,(zb BK181.out 3).trans rfl,(zb BK181.out 4).trans rfl,(zb BK181.out 5).trans rfl⟩ (fun hHeld => ?_)
          clear hK K
          refine zbr (a' := ?_) ?_ ?_
          rotate_left
          ·show Act.put _ (some 40) _ = _
           simp only [Act.put,List.setIfInBounds_toArray,List.set_cons_zero,List.set_cons_succ,zaB,zaL]
           rfl
          refine zcg (i := 7) (N := some 44) #[true,true,true,true,true,true,true,true,false,true,false,false,true,true,false,false,false] rfl rfl (zbp HT_.out (by kernel_rfl)) (by decide) (fun K hK => ?_)
          refine zbz Try.func35 (by kernel_rfl) rfl #[.int .u64 (IntKind.u64.wrap (a0_1))] (by rfl) rfl rfl hMq ?_
          with_reducible refine (zh.calls k1 (IntKind.u64.wrap (a0_1)) t190 _ A16.out).mono ?_
          rintro e w29 ⟨rfl,hb⟩
          refine ⟨_,rfl,?_⟩
          have n0_ := za.mk (Kd.R_below (hRq HO_7.out) hb)
          have n1_ := za.mk (hbq BK181.out hb)
          have n2_ := za.mk (zd hCq hb)
          clear HO_7
          clear BK181
          clear HB
          have HO_7 := n0_
          have BK181 := n1_
          have HB := n2_
          clear n0_ n1_ n2_
          (try clear hb)
          (try clear hb2)
          (try clear hk)
          (try clear hi)
          obtain ⟨Ao30,co30,eo30⟩ := Kd.R_slice HO_7.out
          (first | subst eo30 | (injection eo30 with f1_ f2_ f3_;have f4_ := f1_.symm;have f5_ := f3_.symm;clear f1_ f2_ f3_;subst f4_;subst f5_))
          refine hK.out _ _ ⟨(zb BK181.out 0).trans rfl,(zb BK181.out 1).trans rfl,(zb BK181.out 2).trans rfl,(zb BK181.out 3).trans rfl,(zb BK181.out 4).trans rfl,(zb BK181.out 5).trans rfl⟩ (fun hHeld => ?_)
          clear hK K
          refine zbr (a' := ?_) ?_ ?_
          rotate_left
          ·show Act.put _ (some 44) _ = _
           simp only [Act.put,List.setIfInBounds_toArray,List.set_cons_zero,List.set_cons_succ,zaB,zaL]
           rfl
          refine puq (i := 8) (N := some 45) HT_.out #[true,true,true,true,true,true,true,true,true,true,false,false,true,true,false,false,false] ?_
          refine zcg (i := 10) (N := some 47) #[true,true,true,true,true,true,true,true,true,true,true,false,true,true,false,false,false] rfl rfl (zbp HT_.out (by kernel_rfl)) (by decide) (fun K hK => ?_)
          refine zbz Try.func36 (by kernel_rfl) rfl #[.slice Ao30 x7_1.length co30] (by rfl) rfl rfl hMq ?_
          with_reducible refine (zC.calls _ _ x7_1 t191 _ ?side1 ?side2 A18.out).mono ?_
          (case side1 => repeat (first | exact (Kd.R_reads' HO_7.out).2.2 | (with_reducible refine Kd.C_alloc ?_ _) | (with_reducible refine Kd.C_drewN ?_ _) | (with_reducible refine Kd.C_drew ?_)))
          (case side2 => exact (Kd.R_reads' HO_7.out).2.1)
          rintro e w31 ⟨rfl,hb⟩
          refine ⟨_,rfl,?_⟩
          have n0_ := za.mk (Kd.R_below (hRq HO_7.out) hb)
          have n1_ := za.mk (hbq BK181.out hb)
          have n2_ := za.mk (zd hCq hb)
          clear HO_7
          clear BK181
          clear HB
          have HO_7 := n0_
          have BK181 := n1_
          have HB := n2_
          clear n0_ n1_ n2_
          (try clear hb)
          (try clear hb2)
          (try clear hk)
          (try clear hi)
          refine hK.out _ _ ⟨(zb BK181.out 0).trans rfl,(zb BK181.out 1).trans rfl,(zb BK181.out 2).trans rfl,(zb BK181.out 3).trans rfl,(zb BK181.out 4).trans rfl,(zb BK181.out 5).trans rfl⟩ (fun hHeld => ?_)
          clear hK K
          refine zbr (a' := ?_) ?_ ?_
          rotate_left
          ·show Act.put _ (some 47) _ = _
           simp only [Act.put,List.setIfInBounds_toArray,List.set_cons_zero,List.set_cons_succ,zaB,zaL]
           rfl
          refine puq (i := 11) (N := some 48) HT_.out (uQ 17 14) ?_
          refine zcg (i := 14) (N := some 51) (uQ 17 15) rfl rfl (zbp HT_.out (by kernel_rfl)) (by decide) (fun K hK => ?_)
          refine zbz Try.func36 (by kernel_rfl) rfl #[.slice A0_3 l0_3.length c0_3] (by rfl) rfl rfl hMq ?_
          with_reducible refine (zC.calls _ _ l0_3 t192 _ ?side1 ?side2 A20.out).mono ?_
          (case side1 => exact hKq (Kd.C_below HR0_3.out HB.out))
          (case side2 => exact HC0_3.out)
          rintro e w32 ⟨rfl,hb⟩
          refine ⟨_,rfl,?_⟩
          have n0_ := za.mk (Kd.R_below (hRq HO_7.out) hb)
          have n1_ := za.mk (hbq BK181.out hb)
          have n2_ := za.mk (zd hCq hb)
          clear HO_7
          clear BK181
          clear HB
          have HO_7 := n0_
          have BK181 := n1_
          have HB := n2_
          clear n0_ n1_ n2_
          (try clear hb)
          (try clear hb2)
          (try clear hk)
          (try clear hi)
          refine hK.out _ _ ⟨(zb BK181.out 0).trans rfl,(zb BK181.out 1).trans rfl,(zb BK181.out 2).trans rfl,(zb BK181.out 3).trans rfl,(zb BK181.out 4).trans rfl,(zb BK181.out 5).trans rfl⟩ (fun hHeld => ?_)
          clear hK K
          refine zbr (a' := ?_) ?_ ?_
          rotate_left
          ·show Act.put _ (some 51) _ = _
           simp only [Act.put,List.setIfInBounds_toArray,List.set_cons_zero,List.set_cons_succ,zaB,zaL]
           rfl
          refine puq (i := 15) (N := some 52) HT_.out (uQ 17 16) ?_
          refine puq (i := 16) (N := some 11) HT_.out (uQ 17 17) ?_
          refine zdc (zcu HT_.out (by kernel_rfl)) ?_
          try go_wp2
          have n0_ := za.mk (Kd.R_drew HO_7.out)
          have n1_ := za.mk (zav BK181.out)
          have n2_ := za.mk (zn HB.out)
          clear HO_7
          clear BK181
          clear HB
          have HO_7 := n0_
          have BK181 := n1_
          have HB := n2_
          clear n0_ n1_ n2_
          refine zcq (n := 15) (S := fun w' => w'.cell? ⟨gb181,0,none⟩ = some (.int .i64 a0_0) ∧ w'.cell? ⟨gb181,1,none⟩ = some (.int .i64 a0_1) ∧ w'.cell? ⟨gb181,2,none⟩ = some (.slice A0_2 l0_2.length c0_2) ∧ w'.cell? ⟨gb181,3,none⟩ = some (.slice A0_3 l0_3.length c0_3) ∧ w'.cell? ⟨gb181,4,none⟩ = some (.int .i64 a0_4) ∧ w'.cell? ⟨gb181,5,none⟩ = some (.int .i64 a0_5)) (ds := []) (uQ 15 0) (by kernel_rfl) rfl rfl ⟨(zb BK181.out 0).trans rfl,(zb BK181.out 1).trans rfl,(zb BK181.out 2).trans rfl,(zb BK181.out 3).trans rfl,(zb BK181.out 4).trans rfl,(zb BK181.out 5).trans rfl⟩ (fun hHeld => ?_);refine zbM zj.tab11 zj.bits11 (fun HT_ HW_ => ?_)
          generalize w32.drew = w33 at HO_7 BK181 HB hHeld ⊢
          refine puq (i := 0) (N := some 53) HT_.out (uQ 15 1) ?_
          refine puq (i := 1) (N := some 54) HT_.out (uQ 15 2) ?_
          refine puq (i := 2) (N := some 55) HT_.out (uQ 15 3) ?_
          refine puq (i := 7) (N := some 60) HT_.out #[true,true,true,false,false,false,false,true,false,false,false,false,false,false,false] ?_
          refine puq (i := 8) (N := some 61) HT_.out #[true,true,true,false,false,false,false,true,true,false,false,false,false,false,false] ?_
          refine take_ (i := 3) (N := some 56) #[true,true,true,true,false,false,false,true,true,false,false,false,false,false,false] rfl rfl (zaD HT_.out HW_.out (by kernel_rfl)) (fun _ _ _ h => h) (Or.inl ⟨by rfl,by rintro w' ⟨s0,s1,s2,s3,s4,s5⟩;go_simp;with_reducible rfl⟩) hHeld hPq ?_
          refine puq (i := 4) (N := some 57) HT_.out #[true,true,true,true,true,false,false,true,true,false,false,false,false,false,false] ?_
          refine take_ (i := 9) (N := some 62) #[true,true,true,true,true,false,false,true,true,true,false,false,false,false,false] rfl rfl (zaD HT_.out HW_.out (by kernel_rfl)) (fun _ _ _ h => h) (Or.inl ⟨by rfl,by rintro w' ⟨s0,s1,s2,s3,s4,s5⟩;go_simp;with_reducible rfl⟩) hHeld hPq ?_
          refine puq (i := 10) (N := some 63) HT_.out #[true,true,true,true,true,false,false,true,true,true,true,false,false,false,false] ?_
          refine zcg (i := 5) (N := some 58) #[true,true,true,true,true,true,false,true,true,true,true,false,false,false,false] rfl rfl (zbp HT_.out (by kernel_rfl)) (by decide) (fun K hK => ?_)
          refine zbz Try.func35 (by kernel_rfl) rfl #[.int .u64 (IntKind.u64.wrap (a0_4))] (by rfl) rfl rfl hMq ?_
          with_reducible refine (zh.calls k1 (IntKind.u64.wrap (a0_4)) t193 _ A22.out).mono ?_
          rintro e w34 ⟨rfl,hb⟩
          refine ⟨_,rfl,?_⟩
          have n0_ := za.mk (Kd.R_below (hRq HO_7.out) hb)
          have n1_ := za.mk (hbq BK181.out hb)
          have n2_ := za.mk (zd hCq hb)
          clear HO_7
          clear BK181
          clear HB
          have HO_7 := n0_
          have BK181 := n1_
          have HB := n2_
          clear n0_ n1_ n2_
          (try clear hb)
          (try clear hb2)
          (try clear hk)
          (try clear hi)
          refine hK.out _ _ ⟨(zb BK181.out 0).trans rfl,(zb BK181.out 1).trans rfl,(zb BK181.out 2).trans rfl,(zb BK181.out 3).trans rfl,(zb BK181.out 4).trans rfl,(zb BK181.out 5).trans rfl⟩ (fun hHeld => ?_)
          clear hK K
          refine zbr (a' := ?_) ?_ ?_
          rotate_left
          ·show Act.put _ (some 58) _ = _
           simp only [Act.put,List.setIfInBounds_toArray,List.set_cons_zero,List.set_cons_succ,zaB,zaL]
           rfl
          refine puq (i := 6) (N := some 59) HT_.out (uQ 15 11) ?_
          refine zcg (i := 11) (N := some 64) (uQ 15 12) rfl rfl (zbp HT_.out (by kernel_rfl)) (by decide) (fun K hK => ?_)
          refine zbz Try.func35 (by kernel_rfl) rfl #[.int .u64 (IntKind.u64.wrap (a0_5))] (by rfl) rfl rfl hMq ?_
          with_reducible refine (zh.calls k1 (IntKind.u64.wrap (a0_5)) t194 _ A24.out).mono ?_
          rintro e w35 ⟨rfl,hb⟩
          refine ⟨_,rfl,?_⟩
          have n0_ := za.mk (Kd.R_below (hRq HO_7.out) hb)
          have n1_ := za.mk (hbq BK181.out hb)
          have n2_ := za.mk (zd hCq hb)
          clear HO_7
          clear BK181
          clear HB
          have HO_7 := n0_
          have BK181 := n1_
          have HB := n2_
          clear n0_ n1_ n2_
          (try clear hb)
          (try clear hb2)
          (try clear hk)
          (try clear hi)
          refine hK.out _ _ ⟨(zb BK181.out 0).trans rfl,(zb BK181.out 1).trans rfl,(zb BK181.out 2).trans rfl,(zb BK181.out 3).trans rfl,(zb BK181.out 4).trans rfl,(zb BK181.out 5).trans rfl⟩ (fun hHeld => ?_)
          clear hK K
          refine zbr (a' := ?_) ?_ ?_
          rotate_left
          ·show Act.put _ (some 64) _ = _
           simp only [Act.put,List.setIfInBounds_toArray,List.set_cons_zero,List.set_cons_succ,zaB,zaL]
           rfl
          refine puq (i := 12) (N := some 65) HT_.out (uQ 15 13) ?_
          refine puq (i := 13) (N := some 4) HT_.out (uQ 15 14) ?_
          refine puq (i := 14) (N := some 5) HT_.out (uQ 15 15) ?_
          refine zdc (zcu HT_.out (by kernel_rfl)) ?_
          try go_wp2
          go_ret2
          exact ⟨hHq,hCq⟩
         ·rw [if_neg c25] at H
          exact absurd H (by simp)
        ·rw [if_neg c23] at H
         exact absurd H (by simp)
       ·rw [if_neg c21] at H
        exact absurd H (by simp)
      ·rw [if_neg c19] at H
       exact absurd H (by simp)
     ·rw [if_neg c17] at H
      exact absurd H (by simp)
 ·replace c4 := Bool.eq_false_iff.mpr c4
  subst c4
  have H1 : (some ((⟨#[]⟩ : ByteArray),1)) = some (r1,r2) := by rw [if_neg (show ¬ (false = true) by decide)] at H;exact H
  clear H
  have H := H1
  clear H1
  simp only [Option.some.injEq,Prod.mk.injEq] at H
  obtain ⟨rfl,rfl⟩ := H
  go_enter Try.func19,Try.ntmps19
  go_wp2_with (first | ((with_reducible refine zo (N := 2) rfl ?_);refine zk rfl (N := 2) rfl (cs := #[.int .i64 a0_0,.int .i64 a0_1,.slice A0_2 l0_2.length c0_2,.slice A0_3 l0_3.length c0_3,.int .i64 a0_4,.int .i64 a0_5]) (t := 28) hrq ?_;intro gb181 hg w36 hbox hb;have n_ := haq (zd hBq hb) <| haq (hbox) <| haq ((by rw [hg];exact (zf hBq) : w.heap.size ≤ gb181)) <| haq ((by rw [hg];exact (zf hBq) : w.heap.size ≤ gb181)) <| trivial;clear HB;obtain ⟨HB,BK181,GW181,GE181,_⟩ := n_;clear hb hbox hg;obtain ⟨hcz37_0,hcz37_1,hcz37_2,hcz37_3,hcz37_4,hcz37_5,hfz37_0,hfz37_1,hfz37_2,hfz37_3,hfz37_4,hfz37_5⟩ := hcq6 BK181.out) | ((with_reducible refine zv (f := 33) rfl ?_);refine zT (some 14) rfl rfl Try.func33 (by kernel_rfl) rfl #[.agg #[.int .i64 a0_0,.int .i64 a0_1,.slice A0_2 l0_2.length c0_2,.slice A0_3 l0_3.length c0_3,.int .i64 a0_4,.int .i64 a0_5],.int .i64 a1] rfl hMq ?_;(with_reducible refine (ze.calls k a0_0 a0_1 _ _ l0_2 _ _ l0_3 a0_4 a0_5 a1 false _ ?side1 ?side2 ?side3 ?side4 A3.out).mono ?_);(case side1 => exact hKq (Kd.C_below HR0_2.out HB.out));(case side2 => exact HC0_2.out);(case side3 => exact hKq (Kd.C_below HR0_3.out HB.out));(case side4 => exact HC0_3.out);rintro e w38 ⟨rfl,hb⟩;refine ⟨_,rfl,?_⟩;have n_ := haq (hbq BK181.out hb) <| haq (zd hCq hb) <| trivial;clear BK181 HB;obtain ⟨BK181,HB,_⟩ := n_;(try clear hb);(try clear hb2);(try clear hk);(try clear hi)))
  go_ret2
  exact ⟨hHq,hCq⟩
def zas.f (k : Nat) (a0_0 : Int) (a0_1 : Int) (l0_2 : List (S50)) (l0_3 : List ByteArray) (a0_4 : Int) (a0_5 : Int) (a1 : Int) : Option (ByteArray × Int) := (zj.f k a0_0 a0_1 l0_2 l0_3 a0_4 a0_5 a1).bind fun bt196 => (if bt196.2 = 0 then (if 1 + bt196.1.size ≤ 9223372036854775807 then ((zap.f ((⟨#[118]⟩ : ByteArray) ++ bt196.1)).bind fun t198 => (some (t198,0))) else (none)) else (some ((⟨#[]⟩ : ByteArray),bt196.2)))
set_option maxHeartbeats 8000000 in
set_option maxRecDepth 100000 in
theorem zas.calls (k : Nat) (a0_0 : Int) (a0_1 : Int) (A0_2 : Option Addr) (c0_2 : Nat) (l0_2 : List (S50)) (A0_3 : Option Addr) (c0_3 : Nat) (l0_3 : List ByteArray) (a0_4 : Int) (a0_5 : Int) (a1 : Int) (r1 : ByteArray) (r2 : Int) (w : World) (hr0_2 : Kd.C k50 w A0_2 l0_2.length l0_2) (hc0_2 : l0_2.length ≤ c0_2) (hr0_3 : Kd.C Kd.string w A0_3 l0_3.length l0_3) (hc0_3 : l0_3.length ≤ c0_3) (h : zas.f k a0_0 a0_1 l0_2 l0_3 a0_4 a0_5 a1 = some (r1,r2)) :
  Calls Try.prog 8 #[.agg #[.int .i64 a0_0,.int .i64 a0_1,.slice A0_2 l0_2.length c0_2,.slice A0_3 l0_3.length c0_3,.int .i64 a0_4,.int .i64 a0_5],.int .i64 a1] w fun e w' => e = .returned (.tuple #[.string r1,.int .i64 r2]) ∧ Below w.heap.size w w' := by
 have hu28 := Try.underlying28
 have HR0_2 := za.mk hr0_2
 have HC0_2 := za.mk hc0_2
 clear hr0_2 hc0_2
 have HR0_3 := za.mk hr0_3
 have HC0_3 := za.mk hc0_3
 clear hr0_3 hc0_3
 have HB := za.mk (Below.refl w.heap.size w)
 have H : ((zj.f k a0_0 a0_1 l0_2 l0_3 a0_4 a0_5 a1).bind fun bt196 => (if bt196.2 = 0 then (if 1 + bt196.1.size ≤ 9223372036854775807 then ((zap.f ((⟨#[118]⟩ : ByteArray) ++ bt196.1)).bind fun t198 => (some (t198,0))) else (none)) else (some ((⟨#[]⟩ : ByteArray),bt196.2)))) = some (r1,r2) := h
 clear h
 replace H := Option.bind_eq_some_iff.mp H
 obtain ⟨⟨t196,t197⟩,A30,H⟩ := H
 replace H : (if t197 = 0 then (if 1 + t196.size ≤ 9223372036854775807 then ((zap.f ((⟨#[118]⟩ : ByteArray) ++ t196)).bind fun t198 => (some (t198,0))) else (none)) else (some ((⟨#[]⟩ : ByteArray),t197))) = some (r1,r2) := H
 have A3 := za.mk A30
 clear A30
 by_cases c4 : t197 = 0
 ·rw [if_pos c4] at H
  have c4b0 : (t197 == 0) = true := beq_iff_eq.mpr c4
  have c4b1 : (t197 != 0) = false := bne_eq_false_iff_eq.mpr c4
  clear c4
  by_cases c5 : 1 + t196.size ≤ 9223372036854775807
  ·rw [if_pos c5] at H
   have c5b0 := eq_true c5
   have c5b1 : decide (1 + t196.size ≤ 9223372036854775807) = true := decide_eq_true c5
   try have c5b2 : (9223372036854775807 < 1 + t196.size) = False := eq_false (Nat.not_lt.2 c5)
   replace H := Option.bind_eq_some_iff.mp H
   obtain ⟨t198,A60,H⟩ := H
   replace H : (some (t198,0)) = some (r1,r2) := H
   have A6 := za.mk A60
   clear A60
   simp only [Option.some.injEq,Prod.mk.injEq] at H
   obtain ⟨rfl,rfl⟩ := H
   go_enter Try.func8,Try.ntmps8
   go_wp2_with (first | ((with_reducible refine zo (N := 2) rfl ?_);refine zk rfl (N := 2) rfl (cs := #[.int .i64 a0_0,.int .i64 a0_1,.slice A0_2 l0_2.length c0_2,.slice A0_3 l0_3.length c0_3,.int .i64 a0_4,.int .i64 a0_5]) (t := 28) hrq ?_;intro gb195 hg w7 hbox hb;have n_ := haq (zd hBq hb) <| haq (hbox) <| haq ((by rw [hg];exact (zf hBq) : w.heap.size ≤ gb195)) <| haq ((by rw [hg];exact (zf hBq) : w.heap.size ≤ gb195)) <| trivial;clear HB;obtain ⟨HB,BK195,GW195,GE195,_⟩ := n_;clear hb hbox hg;obtain ⟨hcz8_0,hcz8_1,hcz8_2,hcz8_3,hcz8_4,hcz8_5,hfz8_0,hfz8_1,hfz8_2,hfz8_3,hfz8_4,hfz8_5⟩ := hcq6 BK195.out) | ((with_reducible refine zv (f := 19) rfl ?_);refine zT (some 11) rfl rfl Try.func19 (by kernel_rfl) rfl #[.agg #[.int .i64 a0_0,.int .i64 a0_1,.slice A0_2 l0_2.length c0_2,.slice A0_3 l0_3.length c0_3,.int .i64 a0_4,.int .i64 a0_5],.int .i64 a1] rfl hMq ?_;(with_reducible refine (zj.calls k a0_0 a0_1 _ _ l0_2 _ _ l0_3 a0_4 a0_5 a1 t196 t197 _ ?side1 ?side2 ?side3 ?side4 A3.out).mono ?_);(case side1 => exact hKq (Kd.C_below HR0_2.out HB.out));(case side2 => exact HC0_2.out);(case side3 => exact hKq (Kd.C_below HR0_3.out HB.out));(case side4 => exact HC0_3.out);rintro e w9 ⟨rfl,hb⟩;refine ⟨_,rfl,?_⟩;have n_ := haq (hbq BK195.out hb) <| haq (zd hCq hb) <| trivial;clear BK195 HB;obtain ⟨BK195,HB,_⟩ := n_;(try clear hb);(try clear hb2);(try clear hk);(try clear hi)) | ((with_reducible refine zv (f := 20) rfl ?_);refine zT (some 19) rfl rfl Try.func20 (by kernel_rfl) rfl #[.string ((⟨#[118]⟩ : ByteArray) ++ t196)] rfl hMq ?_;(with_reducible refine (zap.calls ((⟨#[118]⟩ : ByteArray) ++ t196) t198 _ A6.out).mono ?_);rintro e w10 ⟨rfl,hb⟩;refine ⟨_,rfl,?_⟩;have n_ := haq (hbq BK195.out hb) <| haq (zd hCq hb) <| trivial;clear BK195 HB;obtain ⟨BK195,HB,_⟩ := n_;(try clear hb);(try clear hb2);(try clear hk);(try clear hi)))
   go_ret2
   exact ⟨hHq,hCq⟩
  ·rw [if_neg c5] at H
   exact absurd H (by simp)
 ·rw [if_neg c4] at H
  have c4b0 : (t197 == 0) = false := beq_eq_false_iff_ne.mpr c4
  have c4b1 : (t197 != 0) = true := bne_iff_ne.mpr c4
  simp only [Option.some.injEq,Prod.mk.injEq] at H
  obtain ⟨rfl,rfl⟩ := H
  go_enter Try.func8,Try.ntmps8
  go_wp2_with (first | ((with_reducible refine zo (N := 2) rfl ?_);refine zk rfl (N := 2) rfl (cs := #[.int .i64 a0_0,.int .i64 a0_1,.slice A0_2 l0_2.length c0_2,.slice A0_3 l0_3.length c0_3,.int .i64 a0_4,.int .i64 a0_5]) (t := 28) hrq ?_;intro gb195 hg w11 hbox hb;have n_ := haq (zd hBq hb) <| haq (hbox) <| haq ((by rw [hg];exact (zf hBq) : w.heap.size ≤ gb195)) <| haq ((by rw [hg];exact (zf hBq) : w.heap.size ≤ gb195)) <| trivial;clear HB;obtain ⟨HB,BK195,GW195,GE195,_⟩ := n_;clear hb hbox hg;obtain ⟨hcz12_0,hcz12_1,hcz12_2,hcz12_3,hcz12_4,hcz12_5,hfz12_0,hfz12_1,hfz12_2,hfz12_3,hfz12_4,hfz12_5⟩ := hcq6 BK195.out) | ((with_reducible refine zv (f := 19) rfl ?_);refine zT (some 11) rfl rfl Try.func19 (by kernel_rfl) rfl #[.agg #[.int .i64 a0_0,.int .i64 a0_1,.slice A0_2 l0_2.length c0_2,.slice A0_3 l0_3.length c0_3,.int .i64 a0_4,.int .i64 a0_5],.int .i64 a1] rfl hMq ?_;(with_reducible refine (zj.calls k a0_0 a0_1 _ _ l0_2 _ _ l0_3 a0_4 a0_5 a1 t196 t197 _ ?side1 ?side2 ?side3 ?side4 A3.out).mono ?_);(case side1 => exact hKq (Kd.C_below HR0_2.out HB.out));(case side2 => exact HC0_2.out);(case side3 => exact hKq (Kd.C_below HR0_3.out HB.out));(case side4 => exact HC0_3.out);rintro e w13 ⟨rfl,hb⟩;refine ⟨_,rfl,?_⟩;have n_ := haq (hbq BK195.out hb) <| haq (zd hCq hb) <| trivial;clear BK195 HB;obtain ⟨BK195,HB,_⟩ := n_;(try clear hb);(try clear hb2);(try clear hk);(try clear hi)))
  go_ret2
  exact ⟨hHq,hCq⟩
end Go.Proofs.Ytcncoepijagadaa.Px