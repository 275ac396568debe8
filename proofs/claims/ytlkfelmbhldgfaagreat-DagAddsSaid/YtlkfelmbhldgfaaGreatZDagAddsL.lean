/- Part 12 of 36 of the proof of the law DagAdds: what is proved is the statement at the end of the last part; its conditions are those of the given row. -/
import Derived.Test.YtlkfelmbhldgfaaGreatZDagAddsH
import Derived.Test.YtlkfelmbhldgfaaGreatZDagAddsK
namespace Go.Proofs.YtlkfelmbhldgfaaGreat.Px
open Go.RowKit Go.Proofs.YtlkfelmbhldgfaaGreatW.PrintWords Go.Proofs.YtlkfelmbhldgfaaGreatW.PrintLast Go.Proofs.YtlkfelmbhldgfaaGreatW.PrintMore
attribute [local go_sem] zA zC zH zI zv zw zB zD
set_option linter.unusedVariables false
set_option linter.unusedSimpArgs false
def zu.l0 : Nat → List ByteArray → Int → Int → Int → List (S67) → List ByteArray → Int → Int → Option (ByteArray × Int)
 | 0,_,_,_,_,_,_,_,_ => none
 | k + 1,x7,x8,x187000,x187001,x187002,x187003,x187004,x187005 => if x8 < (x187002.length : Int) then (if 0 ≤ x8 then ((zab.f k ((zN x187002 x8).f0) ((zN x187002 x8).f1) ((zN x187002 x8).f2)).bind fun bt189 => (if x7.length < 8796093022208 then (zu.l0 k (x7 ++ [bt189.1]) (wrap64 (x8 + 1)) x187000 x187001 x187002 x187003 x187004 x187005) else (none))) else (none)) else ((zq.f k (IntKind.u64.wrap (x187000))).bind fun t194 => ((zq.f k (IntKind.u64.wrap (x187001))).bind fun t195 => (if t194.size + t195.size ≤ 9223372036854775807 then ((zM.f x7).bind fun t196 => (if (t194 ++ t195).size + t196.size ≤ 9223372036854775807 then ((zM.f x187003).bind fun t197 => (if ((t194 ++ t195) ++ t196).size + t197.size ≤ 9223372036854775807 then ((zq.f k (IntKind.u64.wrap (x187004))).bind fun t198 => (if (((t194 ++ t195) ++ t196) ++ t197).size + t198.size ≤ 9223372036854775807 then ((zq.f k (IntKind.u64.wrap (x187005))).bind fun t199 => (if ((((t194 ++ t195) ++ t196) ++ t197) ++ t198).size + t199.size ≤ 9223372036854775807 then (some (((((t194 ++ t195) ++ t196) ++ t197) ++ t198) ++ t199,0)) else (none))) else (none))) else (none))) else (none))) else (none))))
def zu.f (k : Nat) (a0_0 : Int) (a0_1 : Int) (l0_2 : List (S67)) (l0_3 : List ByteArray) (a0_4 : Int) (a0_5 : Int) (a1 : Int) : Option (ByteArray × Int) := (zh.f k a0_0 a0_1 l0_2 l0_3 a0_4 a0_5 a1).bind fun t187 => (if t187 = true then (zu.l0 k ([] : List ByteArray) 0 a0_0 a0_1 l0_2 l0_3 a0_4 a0_5) else (some ((⟨#[]⟩ : ByteArray),1)))
def zu.T10 : Bool × List (List Nat × List Nat) := (true,[([],[]),([0],[0]),([1],[1]),([2],[2]),([],[]),([4],[4]),([5],[5]),([6,3],[6]),([3,7],[3,7]),([],[]),([9,7],[9]),([8,10],[8,10]),([],[]),([12],[12]),([13,10],[13]),([11,14],[11,14]),([15,14,0,1,2,3,4,5,6,7,8,9,10,11,12,13,14,15],[15])])
def zu.B10 : List Nat := [0,1,3,7,0,16,48,127,255,0,767,2047,0,4096,14079,32767,65535]
theorem zu.tab10 : zbX .any (zdG Tryz.f38 10) = zu.T10 := by kernel_rfl
theorem zu.bits10 : zbF zu.T10.2 zu.B10 = true := by kernel_rfl
def zu.T11 : Bool × List (List Nat × List Nat) := (true,[([],[]),([],[]),([1],[1]),([2],[2]),([3],[3]),([4],[4]),([0,5],[0,5]),([],[]),([7],[7]),([8],[8]),([9],[9]),([10,5],[10]),([6,11],[6,11]),([12,11,0,1,2,3,4,5,6,7,8,9,10,11,12],[12]),([13,0,1,2,3,4,5,6,7,8,9,10,11,12,13],[])])
def zu.B11 : List Nat := [0,0,2,6,14,30,63,0,128,384,896,1982,4095,8191,16383]
theorem zu.tab11 : zbX .any (zdG Tryz.f38 11) = zu.T11 := by kernel_rfl
theorem zu.bits11 : zbF zu.T11.2 zu.B11 = true := by kernel_rfl
set_option maxHeartbeats 8000000 in
set_option maxRecDepth 100000 in
theorem zu.calls (k : Nat) (a0_0 : Int) (a0_1 : Int) (A0_2 : Option Addr) (c0_2 : Nat) (l0_2 : List (S67)) (A0_3 : Option Addr) (c0_3 : Nat) (l0_3 : List ByteArray) (a0_4 : Int) (a0_5 : Int) (a1 : Int) (r1 : ByteArray) (r2 : Int) (w : World) (hr0_2 : Kd.C k67 w A0_2 l0_2.length l0_2) (hc0_2 : l0_2.length ≤ c0_2) (hr0_3 : Kd.C Kd.string w A0_3 l0_3.length l0_3) (hc0_3 : l0_3.length ≤ c0_3) (h : zu.f k a0_0 a0_1 l0_2 l0_3 a0_4 a0_5 a1 = some (r1,r2)) :
  Calls Tryz.prog 38 #[.agg #[.int .i64 a0_0,.int .i64 a0_1,.slice A0_2 l0_2.length c0_2,.slice A0_3 l0_3.length c0_3,.int .i64 a0_4,.int .i64 a0_5],.int .i64 a1] w fun e w' => e = .returned (.tuple #[.string r1,.int .i64 r2]) ∧ Below w.heap.size w w' := by
 have hu30 := Tryz.underlying30
 have hu67 := Tryz.underlying67
 have HR0_2 := za.mk hr0_2
 have HC0_2 := za.mk hc0_2
 clear hr0_2 hc0_2
 have HR0_3 := za.mk hr0_3
 have HC0_3 := za.mk hc0_3
 clear hr0_3 hc0_3
 have HB := za.mk (Below.refl w.heap.size w)
 have H : ((zh.f k a0_0 a0_1 l0_2 l0_3 a0_4 a0_5 a1).bind fun t187 => (if t187 = true then (zu.l0 k ([] : List ByteArray) 0 a0_0 a0_1 l0_2 l0_3 a0_4 a0_5) else (some ((⟨#[]⟩ : ByteArray),1)))) = some (r1,r2) := h
 clear h
 replace H := Option.bind_eq_some_iff.mp H
 obtain ⟨t187,A30,H⟩ := H
 replace H : (if t187 = true then (zu.l0 k ([] : List ByteArray) 0 a0_0 a0_1 l0_2 l0_3 a0_4 a0_5) else (some ((⟨#[]⟩ : ByteArray),1))) = some (r1,r2) := H
 have A3 := za.mk A30
 clear A30
 by_cases c4 : t187 = true
 ·subst c4
  have H1 : (zu.l0 k ([] : List ByteArray) 0 a0_0 a0_1 l0_2 l0_3 a0_4 a0_5) = some (r1,r2) := by rw [if_pos rfl] at H;exact H
  clear H
  have H := H1
  clear H1
  have H' := za.mk H
  clear H
  go_enter Tryz.func38,Tryz.ntmps38
  go_wp2_with (first | ((with_reducible refine zn (N := 2) rfl ?_);refine zl rfl (N := 2) rfl (cs := #[.int .i64 a0_0,.int .i64 a0_1,.slice A0_2 l0_2.length c0_2,.slice A0_3 l0_3.length c0_3,.int .i64 a0_4,.int .i64 a0_5]) (t := 30) hrq ?_;intro gb186 hg w5 hbox hb;have n_ := haq (ze hBq hb) <| haq (hbox) <| haq ((by rw [hg];exact (zg hBq) : w.heap.size ≤ gb186)) <| haq ((by rw [hg];exact (zg hBq) : w.heap.size ≤ gb186)) <| trivial;clear HB;obtain ⟨HB,BK186,GW186,GE186,_⟩ := n_;clear hb hbox hg;obtain ⟨hcz6_0,hcz6_1,hcz6_2,hcz6_3,hcz6_4,hcz6_5,hfz6_0,hfz6_1,hfz6_2,hfz6_3,hfz6_4,hfz6_5⟩ := hcq6 BK186.out) | ((with_reducible refine zL (f := 55) rfl ?_);refine zaq (some 14) rfl rfl Tryz.func55 (by kernel_rfl) rfl #[.agg #[.int .i64 a0_0,.int .i64 a0_1,.slice A0_2 l0_2.length c0_2,.slice A0_3 l0_3.length c0_3,.int .i64 a0_4,.int .i64 a0_5],.int .i64 a1] rfl hMq ?_;(with_reducible refine (zh.calls k a0_0 a0_1 _ _ l0_2 _ _ l0_3 a0_4 a0_5 a1 true _ ?side1 ?side2 ?side3 ?side4 A3.out).mono ?_);(case side1 => exact hKq (Kd.C_below HR0_2.out HB.out));(case side2 => exact HC0_2.out);(case side3 => exact hKq (Kd.C_below HR0_3.out HB.out));(case side4 => exact HC0_3.out);rintro e w7 ⟨rfl,hb⟩;refine ⟨_,rfl,?_⟩;have n_ := haq (hbq BK186.out hb) <| haq (ze hCq hb) <| trivial;clear BK186 HB;obtain ⟨BK186,HB,_⟩ := n_;(try clear hb);(try clear hb2);(try clear hk);(try clear hi)))
  go_loopg [7,8] k (fun kq v7 v8 w' => ∃ (x7_1 : List ByteArray) (x8_1 : Int),v8 = .int .i64 x8_1 ∧ za (zu.l0 kq x7_1 x8_1 a0_0 a0_1 l0_2 l0_3 a0_4 a0_5 = some (r1,r2)) ∧ za (kq ≤ k) ∧ za (Kd.R Kd.string 9 w' w.heap.size (fun _ => True) v7 x7_1) ∧ za (w'.heap[gb186]? = some (.cells #[.int .i64 a0_0,.int .i64 a0_1,(.slice A0_2 l0_2.length c0_2),(.slice A0_3 l0_3.length c0_3),.int .i64 a0_4,.int .i64 a0_5] 30 (0,0))) ∧ za (Below w.heap.size w w'))
  case atStart => exact ⟨(([] : List ByteArray)),(0),(hDq),H',⟨Nat.le_refl _⟩,⟨by first | exact Kd.R_nil _ _ _ _ _ | exact Kd.N_nil _ _ _ _ _ | exact Kd.V_nil _ _ _ _ _ | exact Kd.Q_nil _ _ _ _ _ | exact Kd.S_nil _ _ _ _ _⟩,⟨hGq BK186.out⟩,⟨by repeat (first | (with_reducible first | exact HB.out | apply zk | apply zi | apply zo | refine zj ?_ GE186.out) | exact HB.out)⟩⟩
  case round =>
   clear H'
   try clear p2;try clear c3;try clear c4;try clear c5;try clear hcz6_0;try clear hcz6_1;try clear hcz6_2;try clear hcz6_3;try clear hcz6_4;try clear hcz6_5;try clear hfz6_0;try clear hfz6_1;try clear hfz6_2;try clear hfz6_3;try clear hfz6_4;try clear hfz6_5
   obtain ⟨x7_1,x8_1,rfl,HA,HK1,HO_7,BK186,HB⟩ := hrel
   cases gk with
   | zero => exact absurd HA.out (by simp [zu.l0])
   | succ k1 =>
    have H := HA.out
    clear HA
    simp only [zu.l0] at H
    by_cases c8 : x8_1 < (l0_2.length : Int)
    ·rw [if_pos c8] at H
     have c8b0 : decide (x8_1 < (l0_2.length : Int)) = true := decide_eq_true c8
     clear c8
     by_cases c9 : 0 ≤ x8_1
     ·rw [if_pos c9] at H
      have c9b0 : decide (0 ≤ x8_1) = true := decide_eq_true c9
      clear c9
      replace H := Option.bind_eq_some_iff.mp H
      obtain ⟨⟨t189,t190⟩,A100,H⟩ := H
      replace H : (if x7_1.length < 8796093022208 then (zu.l0 k1 (x7_1 ++ [t189]) (wrap64 (x8_1 + 1)) a0_0 a0_1 l0_2 l0_3 a0_4 a0_5) else (none)) = some (r1,r2) := H
      have A10 := za.mk A100
      clear A100
      by_cases c11 : x7_1.length < 8796093022208
      ·rw [if_pos c11] at H
       have LMc11 := za.mk c11
       clear c11
       obtain ⟨y191,hy191⟩ : ∃ y_ : List ByteArray,y_ = (x7_1 ++ [t189]) := ⟨_,rfl⟩
       replace H : (zu.l0 k1 y191 (wrap64 (x8_1 + 1)) a0_0 a0_1 l0_2 l0_3 a0_4 a0_5) = some (r1,r2) := by first | (rw [hy191];with_reducible exact H) | (have H2_ := (Option.bind_some _ _).symm.trans H;rw [hy191];with_reducible exact H2_) | (have H2_ := (Option.bind_some _ _).symm.trans H;with_reducible exact H2_) | with_reducible exact H | (rw [hy191];exact H) | exact H
       have Ny191 := za.mk hy191
       clear hy191
       have H' := za.mk H
       clear H
       obtain ⟨hcz12_0,hcz12_1,hcz12_2,hcz12_3,hcz12_4,hcz12_5,hfz12_0,hfz12_1,hfz12_2,hfz12_3,hfz12_4,hfz12_5⟩ := hcq6 BK186.out
       have p188 : 0 ≤ (x8_1 : Int) := hFq
       have q188 : x8_1 < (l0_2.length : Int) := hFq
       obtain ⟨ad188,A188_2,c188_2,e188,hx188_0,hx188_1,hx188_2,hl188_2,hi188_2⟩ := zbZ HR0_2.out x8_1 p188 q188
       cases e188
       replace hx188_0 := (HB.out.cell (World.block_lt_of_cell? w _ hx188_0)).trans hx188_0
       replace hx188_1 := (HB.out.cell (World.block_lt_of_cell? w _ hx188_1)).trans hx188_1
       replace hx188_2 := (HB.out.cell (World.block_lt_of_cell? w _ hx188_2)).trans hx188_2
       have HR188_2 := za.mk hi188_2
       have HC188_2 := za.mk hl188_2
       clear hi188_2 hl188_2
       replace p188 := eq_true p188
       replace q188 := eq_true q188
       go_wp2_with (first | ((with_reducible refine zL (f := 56) rfl ?_);refine zaq (some 30) rfl rfl Tryz.func56 (by kernel_rfl) rfl #[.agg #[.int .i64 ((zN l0_2 x8_1).f0),.int .i64 ((zN l0_2 x8_1).f1),.slice A188_2 ((zN l0_2 x8_1).f2).length c188_2]] rfl hMq ?_;(with_reducible refine (zab.calls k1 ((zN l0_2 x8_1).f0) ((zN l0_2 x8_1).f1) _ _ ((zN l0_2 x8_1).f2) t189 t190 _ ?side1 ?side2 A10.out).mono ?_);(case side1 => exact hKq (Kd.C_below HR188_2.out HB.out));(case side2 => exact HC188_2.out);rintro e w13 ⟨rfl,hb⟩;refine ⟨_,rfl,?_⟩;have n_ := haq (Kd.R_below (hRq HO_7.out) hb) <| haq (hbq BK186.out hb) <| haq (ze hCq hb) <| trivial;clear HO_7 BK186 HB;obtain ⟨HO_7,BK186,HB,_⟩ := n_;(try clear hb);(try clear hb2);(try clear hk);(try clear hi)) | ((with_reducible refine zaZ (b := .append) (xs := #[.tmp 33,.tmp 35]) rfl ?_);at_builtin;refine Kd.R_append Kd.string (w0 := w) w.heap.size rfl (.tmp 33) (.tmp 35) 26 9 (.string ⟨#[]⟩) 16 rfl Tryz.underlying26 ziD rfl (by decide) (by omega) u7 x7_1 t189 [.string t189] (fun _ => True) (fun _ => False) rfl rfl ?aP (fun _ hk => hk.elim) ?aF ?aO ?aB ?aS ?aL ?_;(case aP => exact rfl);(case aB => exact hCq);(case aF => exact (fun _ _ => trivial));(case aO => exact (hRq HO_7.out));(case aS => exact (zg hCq));(case aL => have := LMc11.out;omega);intro v192 w14 ho hb hg hat;rw [← Ny191.out] at ho;have n_ := haq (zaE (g := gb186) (o := .cells #[.int .i64 a0_0,.int .i64 a0_1,.slice (some ad188) l0_2.length c0_2,.slice A0_3 l0_3.length c0_3,.int .i64 a0_4,.int .i64 a0_5] 30 (0,0)) (hGq BK186.out) hg (Kd.R_ne HO_7.out BK186.out (by decide))) <| haq (hb) <| haq (ho) <| trivial;clear BK186 HB HO_7;obtain ⟨BK186,HB,HO193,_⟩ := n_;clear ho hb hg hat))
       go_roundg k1
       case measure => have := HK1.out;omega
       case rel => exact ⟨(y191),(wrap64 (x8_1 + 1)),(hDq),H',⟨by have := HK1.out;omega⟩,⟨by (with_reducible repeat (first | apply Kd.R_alloc | apply Kd.R_drewN | apply Kd.R_drew));exact HO193.out⟩,⟨hGq BK186.out⟩,⟨by repeat (first | (with_reducible first | exact HB.out | apply zk | apply zi | apply zo | refine zj ?_ GE186.out) | exact HB.out)⟩⟩
      ·rw [if_neg c11] at H
       exact absurd H (by simp)
     ·rw [if_neg c9] at H
      exact absurd H (by simp)
    ·rw [if_neg c8] at H
     have c8b0 : decide (x8_1 < (l0_2.length : Int)) = false := decide_eq_false c8
     clear c8
     replace H := Option.bind_eq_some_iff.mp H
     obtain ⟨t194,A150,H⟩ := H
     replace H : ((zq.f k1 (IntKind.u64.wrap (a0_1))).bind fun t195 => (if t194.size + t195.size ≤ 9223372036854775807 then ((zM.f x7_1).bind fun t196 => (if (t194 ++ t195).size + t196.size ≤ 9223372036854775807 then ((zM.f l0_3).bind fun t197 => (if ((t194 ++ t195) ++ t196).size + t197.size ≤ 9223372036854775807 then ((zq.f k1 (IntKind.u64.wrap (a0_4))).bind fun t198 => (if (((t194 ++ t195) ++ t196) ++ t197).size + t198.size ≤ 9223372036854775807 then ((zq.f k1 (IntKind.u64.wrap (a0_5))).bind fun t199 => (if ((((t194 ++ t195) ++ t196) ++ t197) ++ t198).size + t199.size ≤ 9223372036854775807 then (some (((((t194 ++ t195) ++ t196) ++ t197) ++ t198) ++ t199,0)) else (none))) else (none))) else (none))) else (none))) else (none))) = some (r1,r2) := H
     have A15 := za.mk A150
     clear A150
     replace H := Option.bind_eq_some_iff.mp H
     obtain ⟨t195,A160,H⟩ := H
     replace H : (if t194.size + t195.size ≤ 9223372036854775807 then ((zM.f x7_1).bind fun t196 => (if (t194 ++ t195).size + t196.size ≤ 9223372036854775807 then ((zM.f l0_3).bind fun t197 => (if ((t194 ++ t195) ++ t196).size + t197.size ≤ 9223372036854775807 then ((zq.f k1 (IntKind.u64.wrap (a0_4))).bind fun t198 => (if (((t194 ++ t195) ++ t196) ++ t197).size + t198.size ≤ 9223372036854775807 then ((zq.f k1 (IntKind.u64.wrap (a0_5))).bind fun t199 => (if ((((t194 ++ t195) ++ t196) ++ t197) ++ t198).size + t199.size ≤ 9223372036854775807 then (some (((((t194 ++ t195) ++ t196) ++ t197) ++ t198) ++ t199,0)) else (none))) else (none))) else (none))) else (none))) else (none)) = some (r1,r2) := H
     have A16 := za.mk A160
     clear A160
     by_cases c17 : t194.size + t195.size ≤ 9223372036854775807
     ·rw [if_pos c17] at H
      have c17b0 := eq_true c17
      have c17b1 : decide (t194.size + t195.size ≤ 9223372036854775807) = true := decide_eq_true c17
      try have c17b2 : (9223372036854775807 < t194.size + t195.size) = False := eq_false (Nat.not_lt.2 c17)
      replace H := Option.bind_eq_some_iff.mp H
      obtain ⟨t196,A180,H⟩ := H
      replace H : (if (t194 ++ t195).size + t196.size ≤ 9223372036854775807 then ((zM.f l0_3).bind fun t197 => (if ((t194 ++ t195) ++ t196).size + t197.size ≤ 9223372036854775807 then ((zq.f k1 (IntKind.u64.wrap (a0_4))).bind fun t198 => (if (((t194 ++ t195) ++ t196) ++ t197).size + t198.size ≤ 9223372036854775807 then ((zq.f k1 (IntKind.u64.wrap (a0_5))).bind fun t199 => (if ((((t194 ++ t195) ++ t196) ++ t197) ++ t198).size + t199.size ≤ 9223372036854775807 then (some (((((t194 ++ t195) ++ t196) ++ t197) ++ t198) ++ t199,0)) else (none))) else (none))) else (none))) else (none)) = some (r1,r2) := H
      have A18 := za.mk A180
      clear A180
      by_cases c19 : (t194 ++ t195).size + t196.size ≤ 9223372036854775807
      ·rw [if_pos c19] at H
       have c19b0 := eq_true c19
       have c19b1 : decide ((t194 ++ t195).size + t196.size ≤ 9223372036854775807) = true := decide_eq_true c19
       try have c19b2 : (9223372036854775807 < (t194 ++ t195).size + t196.size) = False := eq_false (Nat.not_lt.2 c19)
       try (have c19b3 := c19;simp [ByteArray.size_append] at c19b3;have c19b4 := eq_false (Nat.not_lt.2 c19b3);clear c19b3)
       replace H := Option.bind_eq_some_iff.mp H
       obtain ⟨t197,A200,H⟩ := H
       replace H : (if ((t194 ++ t195) ++ t196).size + t197.size ≤ 9223372036854775807 then ((zq.f k1 (IntKind.u64.wrap (a0_4))).bind fun t198 => (if (((t194 ++ t195) ++ t196) ++ t197).size + t198.size ≤ 9223372036854775807 then ((zq.f k1 (IntKind.u64.wrap (a0_5))).bind fun t199 => (if ((((t194 ++ t195) ++ t196) ++ t197) ++ t198).size + t199.size ≤ 9223372036854775807 then (some (((((t194 ++ t195) ++ t196) ++ t197) ++ t198) ++ t199,0)) else (none))) else (none))) else (none)) = some (r1,r2) := H
       have A20 := za.mk A200
       clear A200
       by_cases c21 : ((t194 ++ t195) ++ t196).size + t197.size ≤ 9223372036854775807
       ·rw [if_pos c21] at H
        have c21b0 := eq_true c21
        have c21b1 : decide (((t194 ++ t195) ++ t196).size + t197.size ≤ 9223372036854775807) = true := decide_eq_true c21
        try have c21b2 : (9223372036854775807 < ((t194 ++ t195) ++ t196).size + t197.size) = False := eq_false (Nat.not_lt.2 c21)
        try (have c21b3 := c21;simp [ByteArray.size_append] at c21b3;have c21b4 := eq_false (Nat.not_lt.2 c21b3);clear c21b3)
        replace H := Option.bind_eq_some_iff.mp H
        obtain ⟨t198,A220,H⟩ := H
        replace H : (if (((t194 ++ t195) ++ t196) ++ t197).size + t198.size ≤ 9223372036854775807 then ((zq.f k1 (IntKind.u64.wrap (a0_5))).bind fun t199 => (if ((((t194 ++ t195) ++ t196) ++ t197) ++ t198).size + t199.size ≤ 9223372036854775807 then (some (((((t194 ++ t195) ++ t196) ++ t197) ++ t198) ++ t199,0)) else (none))) else (none)) = some (r1,r2) := H
        have A22 := za.mk A220
        clear A220
        by_cases c23 : (((t194 ++ t195) ++ t196) ++ t197).size + t198.size ≤ 9223372036854775807
        ·rw [if_pos c23] at H
         have c23b0 := eq_true c23
         have c23b1 : decide ((((t194 ++ t195) ++ t196) ++ t197).size + t198.size ≤ 9223372036854775807) = true := decide_eq_true c23
         try have c23b2 : (9223372036854775807 < (((t194 ++ t195) ++ t196) ++ t197).size + t198.size) = False := eq_false (Nat.not_lt.2 c23)
         try (have c23b3 := c23;simp [ByteArray.size_append] at c23b3;have c23b4 := eq_false (Nat.not_lt.2 c23b3);clear c23b3)
         replace H := Option.bind_eq_some_iff.mp H
         obtain ⟨t199,A240,H⟩ := H
         replace H : (if ((((t194 ++ t195) ++ t196) ++ t197) ++ t198).size + t199.size ≤ 9223372036854775807 then (some (((((t194 ++ t195) ++ t196) ++ t197) ++ t198) ++ t199,0)) else (none)) = some (r1,r2) := H
         have A24 := za.mk A240
         clear A240
         by_cases c25 : ((((t194 ++ t195) ++ t196) ++ t197) ++ t198).size + t199.size ≤ 9223372036854775807
         ·rw [if_pos c25] at H
          have c25b0 := eq_true c25
          have c25b1 : decide (((((t194 ++ t195) ++ t196) ++ t197) ++ t198).size + t199.size ≤ 9223372036854775807) = true := decide_eq_true c25
          try have c25b2 : (9223372036854775807 < ((((t194 ++ t195) ++ t196) ++ t197) ++ t198).size + t199.size) = False := eq_false (Nat.not_lt.2 c25)
          try (have c25b3 := c25;simp [ByteArray.size_append] at c25b3;have c25b4 := eq_false (Nat.not_lt.2 c25b3);clear c25b3)
          simp only [Option.some.injEq,Prod.mk.injEq] at H
          obtain ⟨rfl,rfl⟩ := H
          obtain ⟨hcz26_0,hcz26_1,hcz26_2,hcz26_3,hcz26_4,hcz26_5,hfz26_0,hfz26_1,hfz26_2,hfz26_3,hfz26_4,hfz26_5⟩ := hcq6 BK186.out
          try go_wp2
          have n0_ := za.mk (Kd.R_drew HO_7.out)
          have n1_ := za.mk (z6 BK186.out)
          have n2_ := za.mk (zo HB.out)
          clear HO_7
          clear BK186
          clear HB
          have HO_7 := n0_
          have BK186 := n1_
          have HB := n2_
          clear n0_ n1_ n2_
          refine zbH (n := 17) (S := fun w' => w'.cell? ⟨gb186,0,none⟩ = some (.int .i64 a0_0) ∧ w'.cell? ⟨gb186,1,none⟩ = some (.int .i64 a0_1) ∧ w'.cell? ⟨gb186,2,none⟩ = some (.slice A0_2 l0_2.length c0_2) ∧ w'.cell? ⟨gb186,3,none⟩ = some (.slice A0_3 l0_3.length c0_3) ∧ w'.cell? ⟨gb186,4,none⟩ = some (.int .i64 a0_4) ∧ w'.cell? ⟨gb186,5,none⟩ = some (.int .i64 a0_5)) (ds := []) (uQ 17 0) (by kernel_rfl) rfl rfl ⟨(zb BK186.out 0).trans rfl,(zb BK186.out 1).trans rfl,(zb BK186.out 2).trans rfl,(zb BK186.out 3).trans rfl,(zb BK186.out 4).trans rfl,(zb BK186.out 5).trans rfl⟩ (fun hHeld => ?_);refine zaO zu.tab10 zu.bits10 (fun HT_ HW_ => ?_)
          generalize wr.drew = w27 at HO_7 BK186 HB hHeld ⊢
          refine puq (i := 0) (N := some 37) HT_.out (uQ 17 1) ?_
          refine puq (i := 4) (N := some 41) HT_.out #[true,false,false,false,true,false,false,false,false,false,false,false,false,false,false,false,false] ?_
          refine puq (i := 9) (N := some 46) HT_.out #[true,false,false,false,true,false,false,false,false,true,false,false,false,false,false,false,false] ?_
          refine puq (i := 12) (N := some 49) HT_.out #[true,false,false,false,true,false,false,false,false,true,false,false,true,false,false,false,false] ?_
          refine take_ (i := 1) (N := some 38) #[true,true,false,false,true,false,false,false,false,true,false,false,true,false,false,false,false] rfl rfl (zY HT_.out HW_.out (by kernel_rfl)) (fun _ _ _ h => h) (Or.inl ⟨by rfl,by rintro w' ⟨s0,s1,s2,s3,s4,s5⟩;go_simp;with_reducible rfl⟩) hHeld hPq ?_
          refine puq (i := 2) (N := some 39) HT_.out #[true,true,true,false,true,false,false,false,false,true,false,false,true,false,false,false,false] ?_
          refine take_ (i := 5) (N := some 42) #[true,true,true,false,true,true,false,false,false,true,false,false,true,false,false,false,false] rfl rfl (zY HT_.out HW_.out (by kernel_rfl)) (fun _ _ _ h => h) (Or.inl ⟨by rfl,by rintro w' ⟨s0,s1,s2,s3,s4,s5⟩;go_simp;with_reducible rfl⟩) hHeld hPq ?_
          refine puq (i := 6) (N := some 43) HT_.out #[true,true,true,false,true,true,true,false,false,true,false,false,true,false,false,false,false] ?_
          refine take_ (i := 13) (N := some 50) #[true,true,true,false,true,true,true,false,false,true,false,false,true,true,false,false,false] rfl rfl (zY HT_.out HW_.out (by kernel_rfl)) (fun _ _ _ h => h) (Or.inl ⟨by rfl,by rintro w' ⟨s0,s1,s2,s3,s4,s5⟩;go_simp;with_reducible rfl⟩) hHeld hPq ?_
          refine zb1 (i := 3) (N := some 40) #[true,true,true,true,true,true,true,false,false,true,false,false,true,true,false,false,false] rfl rfl (zaR HT_.out (by kernel_rfl)) (by decide) (fun K hK => ?_)
          refine zbu Tryz.func57 (by kernel_rfl) rfl #[.int .u64 (IntKind.u64.wrap (a0_0))] (by rfl) rfl rfl hMq ?_
          with_reducible refine (zq.calls k1 (IntKind.u64.wrap (a0_0)) t194 _ A15.out).mono ?_
          rintro e w28 ⟨rfl,hb⟩
          refine ⟨_,rfl,?_⟩
          have n0_ := za.mk (Kd.R_below (hRq HO_7.out) hb)
          have n1_ := za.mk (hbq BK186.out hb)
          have n2_ := za.mk (ze hCq hb)
          clear HO_7
          clear BK186
          clear HB
          have HO_7 := n0_
          have BK186 := n1_
          have HB := n2_
          clear n0_ n1_ n2_
          (try clear hb)
          (try clear hb2)
          (try clear hk)
          (try clear hi)
          refine hK.out _ _ ⟨(zb BK186.out 0).trans rfl,(zb BK186.out 1).trans rfl,(zb BK186.out 2).trans rfl,(zb BK186.out 3).trans rfl,(zb BK186.out 4).trans rfl,(zb BK186.out 5).trans rfl⟩ (fun hHeld => ?_)
          clear hK K
          refine zbk (a' := ?_) ?_ ?_
          rotate_left
          ·show Act.put _ (some 40) _ = _
           simp only [Act.put,List.setIfInBounds_toArray,List.set_cons_zero,List.set_cons_succ,zaw,zaB]
           rfl
          refine zb1 (i := 7) (N := some 44) #[true,true,true,true,true,true,true,true,false,true,false,false,true,true,false,false,false] rfl rfl (zaR HT_.out (by kernel_rfl)) (by decide) (fun K hK => ?_)
          refine zbu Tryz.func57 (by kernel_rfl) rfl #[.int .u64 (IntKind.u64.wrap (a0_1))] (by rfl) rfl rfl hMq ?_
          with_reducible refine (zq.calls k1 (IntKind.u64.wrap (a0_1)) t195 _ A16.out).mono ?_
          rintro e w29 ⟨rfl,hb⟩
          refine ⟨_,rfl,?_⟩
          have n0_ := za.mk (Kd.R_below (hRq HO_7.out) hb)
          have n1_ := za.mk (hbq BK186.out hb)
          have n2_ := za.mk (ze hCq hb)
          clear HO_7
          clear BK186
          clear HB
          have HO_7 := n0_
          have BK186 := n1_
          have HB := n2_
          clear n0_ n1_ n2_
          (try clear hb)
          (try clear hb2)
          (try clear hk)
          (try clear hi)
          obtain ⟨Ao30,co30,eo30⟩ := Kd.R_slice HO_7.out
          (first | subst eo30 | (injection eo30 with f1_ f2_ f3_;have f4_ := f1_.symm;have f5_ := f3_.symm;clear f1_ f2_ f3_;subst f4_;subst f5_))
          refine hK.out _ _ ⟨(zb BK186.out 0).trans rfl,(zb BK186.out 1).trans rfl,(zb BK186.out 2).trans rfl,(zb BK186.out 3).trans rfl,(zb BK186.out 4).trans rfl,(zb BK186.out 5).trans rfl⟩ (fun hHeld => ?_)
          clear hK K
          refine zbk (a' := ?_) ?_ ?_
          rotate_left
          ·show Act.put _ (some 44) _ = _
           simp only [Act.put,List.setIfInBounds_toArray,List.set_cons_zero,List.set_cons_succ,zaw,zaB]
           rfl
          refine puq (i := 8) (N := some 45) HT_.out #[true,true,true,true,true,true,true,true,true,true,false,false,true,true,false,false,false] ?_
          refine zb1 (i := 10) (N := some 47) #[true,true,true,true,true,true,true,true,true,true,true,false,true,true,false,false,false] rfl rfl (zaR HT_.out (by kernel_rfl)) (by decide) (fun K hK => ?_)
          refine zbu Tryz.func58 (by kernel_rfl) rfl #[.slice Ao30 x7_1.length co30] (by rfl) rfl rfl hMq ?_
          with_reducible refine (zM.calls _ _ x7_1 t196 _ ?side1 ?side2 A18.out).mono ?_
          (case side1 => repeat (first | exact (Kd.R_reads' HO_7.out).2.2 | (with_reducible refine Kd.C_alloc ?_ _) | (with_reducible refine Kd.C_drewN ?_ _) | (with_reducible refine Kd.C_drew ?_)))
          (case side2 => exact (Kd.R_reads' HO_7.out).2.1)
          rintro e w31 ⟨rfl,hb⟩
          refine ⟨_,rfl,?_⟩
          have n0_ := za.mk (Kd.R_below (hRq HO_7.out) hb)
          have n1_ := za.mk (hbq BK186.out hb)
          have n2_ := za.mk (ze hCq hb)
          clear HO_7
          clear BK186
          clear HB
          have HO_7 := n0_
          have BK186 := n1_
          have HB := n2_
          clear n0_ n1_ n2_
          (try clear hb)
          (try clear hb2)
          (try clear hk)
          (try clear hi)
          refine hK.out _ _ ⟨(zb BK186.out 0).trans rfl,(zb BK186.out 1).trans rfl,(zb BK186.out 2).trans rfl,(zb BK186.out 3).trans rfl,(zb BK186.out 4).trans rfl,(zb BK186.out 5).trans rfl⟩ (fun hHeld => ?_)
          clear hK K
          refine zbk (a' := ?_) ?_ ?_
          rotate_left
          ·show Act.put _ (some 47) _ = _
           simp only [Act.put,List.setIfInBounds_toArray,List.set_cons_zero,List.set_cons_succ,zaw,zaB]
           rfl
          refine puq (i := 11) (N := some 48) HT_.out (uQ 17 14) ?_
          refine zb1 (i := 14) (N := some 51) (uQ 17 15) rfl rfl (zaR HT_.out (by kernel_rfl)) (by decide) (fun K hK => ?_)
          refine zbu Tryz.func58 (by kernel_rfl) rfl #[.slice A0_3 l0_3.length c0_3] (by rfl) rfl rfl hMq ?_
          with_reducible refine (zM.calls _ _ l0_3 t197 _ ?side1 ?side2 A20.out).mono ?_
          (case side1 => exact hKq (Kd.C_below HR0_3.out HB.out))
          (case side2 => exact HC0_3.out)
          rintro e w32 ⟨rfl,hb⟩
          refine ⟨_,rfl,?_⟩
          have n0_ := za.mk (Kd.R_below (hRq HO_7.out) hb)
          have n1_ := za.mk (hbq BK186.out hb)
          have n2_ := za.mk (ze hCq hb)
          clear HO_7
          clear BK186
          clear HB
          have HO_7 := n0_
          have BK186 := n1_
          have HB := n2_
          clear n0_ n1_ n2_
          (try clear hb)
          (try clear hb2)
          (try clear hk)
          (try clear hi)
          refine hK.out _ _ ⟨(zb BK186.out 0).trans rfl,(zb BK186.out 1).trans rfl,(zb BK186.out 2).trans rfl,(zb BK186.out 3).trans rfl,(zb BK186.out 4).trans rfl,(zb BK186.out 5).trans rfl⟩ (fun hHeld => ?_)
          clear hK K
          refine zbk (a' := ?_) ?_ ?_
          rotate_left
          ·show Act.put _ (some 51) _ = _
           simp only [Act.put,List.setIfInBounds_toArray,List.set_cons_zero,List.set_cons_succ,zaw,zaB]
           rfl
          refine puq (i := 15) (N := some 52) HT_.out (uQ 17 16) ?_
          refine puq (i := 16) (N := some 11) HT_.out (uQ 17 17) ?_
          refine zbJ (zaU HT_.out (by kernel_rfl)) ?_
          try go_wp2
          have n0_ := za.mk (Kd.R_drew HO_7.out)
          have n1_ := za.mk (z6 BK186.out)
          have n2_ := za.mk (zo HB.out)
          clear HO_7
          clear BK186
          clear HB
          have HO_7 := n0_
          have BK186 := n1_
          have HB := n2_
          clear n0_ n1_ n2_
          refine zbH (n := 15) (S := fun w' => w'.cell? ⟨gb186,0,none⟩ = some (.int .i64 a0_0) ∧ w'.cell? ⟨gb186,1,none⟩ = some (.int .i64 a0_1) ∧ w'.cell? ⟨gb186,2,none⟩ = some (.slice A0_2 l0_2.length c0_2) ∧ w'.cell? ⟨gb186,3,none⟩ = some (.slice A0_3 l0_3.length c0_3) ∧ w'.cell? ⟨gb186,4,none⟩ = some (.int .i64 a0_4) ∧ w'.cell? ⟨gb186,5,none⟩ = some (.int .i64 a0_5)) (ds := []) (uQ 15 0) (by kernel_rfl) rfl rfl ⟨(zb BK186.out 0).trans rfl,(zb BK186.out 1).trans rfl,(zb BK186.out 2).trans rfl,(zb BK186.out 3).trans rfl,(zb BK186.out 4).trans rfl,(zb BK186.out 5).trans rfl⟩ (fun hHeld => ?_);refine zaO zu.tab11 zu.bits11 (fun HT_ HW_ => ?_)
          generalize w32.drew = w33 at HO_7 BK186 HB hHeld ⊢
          refine puq (i := 0) (N := some 53) HT_.out (uQ 15 1) ?_
          refine puq (i := 1) (N := some 54) HT_.out (uQ 15 2) ?_
          refine puq (i := 2) (N := some 55) HT_.out (uQ 15 3) ?_
          refine puq (i := 7) (N := some 60) HT_.out #[true,true,true,false,false,false,false,true,false,false,false,false,false,false,false] ?_
          refine puq (i := 8) (N := some 61) HT_.out #[true,true,true,false,false,false,false,true,true,false,false,false,false,false,false] ?_
          refine take_ (i := 3) (N := some 56) #[true,true,true,true,false,false,false,true,true,false,false,false,false,false,false] rfl rfl (zY HT_.out HW_.out (by kernel_rfl)) (fun _ _ _ h => h) (Or.inl ⟨by rfl,by rintro w' ⟨s0,s1,s2,s3,s4,s5⟩;go_simp;with_reducible rfl⟩) hHeld hPq ?_
          refine puq (i := 4) (N := some 57) HT_.out #[true,true,true,true,true,false,false,true,true,false,false,false,false,false,false] ?_
          refine take_ (i := 9) (N := some 62) #[true,true,true,true,true,false,false,true,true,true,false,false,false,false,false] rfl rfl (zY HT_.out HW_.out (by kernel_rfl)) (fun _ _ _ h => h) (Or.inl ⟨by rfl,by rintro w' ⟨s0,s1,s2,s3,s4,s5⟩;go_simp;with_reducible rfl⟩) hHeld hPq ?_
          refine puq (i := 10) (N := some 63) HT_.out #[true,true,true,true,true,false,false,true,true,true,true,false,false,false,false] ?_
          refine zb1 (i := 5) (N := some 58) #[true,true,true,true,true,true,false,true,true,true,true,false,false,false,false] rfl rfl (zaR HT_.out (by kernel_rfl)) (by decide) (fun K hK => ?_)
          refine zbu Tryz.func57 (by kernel_rfl) rfl #[.int .u64 (IntKind.u64.wrap (a0_4))] (by rfl) rfl rfl hMq ?_
          with_reducible refine (zq.calls k1 (IntKind.u64.wrap (a0_4)) t198 _ A22.out).mono ?_
          rintro e w34 ⟨rfl,hb⟩
          refine ⟨_,rfl,?_⟩
          have n0_ := za.mk (Kd.R_below (hRq HO_7.out) hb)
          have n1_ := za.mk (hbq BK186.out hb)
          have n2_ := za.mk (ze hCq hb)
          clear HO_7
          clear BK186
          clear HB
          have HO_7 := n0_
          have BK186 := n1_
          have HB := n2_
          clear n0_ n1_ n2_
          (try clear hb)
          (try clear hb2)
          (try clear hk)
          (try clear hi)
          refine hK.out _ _ ⟨(zb BK186.out 0).trans rfl,(zb BK186.out 1).trans rfl,(zb BK186.out 2).trans rfl,(zb BK186.out 3).trans rfl,(zb BK186.out 4).trans rfl,(zb BK186.out 5).trans rfl⟩ (fun hHeld => ?_)
          clear hK K
          refine zbk (a' := ?_) ?_ ?_
          rotate_left
          ·show Act.put _ (some 58) _ = _
           simp only [Act.put,List.setIfInBounds_toArray,List.set_cons_zero,List.set_cons_succ,zaw,zaB]
           rfl
          refine puq (i := 6) (N := some 59) HT_.out (uQ 15 11) ?_
          refine zb1 (i := 11) (N := some 64) (uQ 15 12) rfl rfl (zaR HT_.out (by kernel_rfl)) (by decide) (fun K hK => ?_)
          refine zbu Tryz.func57 (by kernel_rfl) rfl #[.int .u64 (IntKind.u64.wrap (a0_5))] (by rfl) rfl rfl hMq ?_
          with_reducible refine (zq.calls k1 (IntKind.u64.wrap (a0_5)) t199 _ A24.out).mono ?_
          rintro e w35 ⟨rfl,hb⟩
          refine ⟨_,rfl,?_⟩
          have n0_ := za.mk (Kd.R_below (hRq HO_7.out) hb)
          have n1_ := za.mk (hbq BK186.out hb)
          have n2_ := za.mk (ze hCq hb)
          clear HO_7
          clear BK186
          clear HB
          have HO_7 := n0_
          have BK186 := n1_
          have HB := n2_
          clear n0_ n1_ n2_
          (try clear hb)
          (try clear hb2)
          (try clear hk)
          (try clear hi)
          refine hK.out _ _ ⟨(zb BK186.out 0).trans rfl,(zb BK186.out 1).trans rfl,(zb BK186.out 2).trans rfl,(zb BK186.out 3).trans rfl,(zb BK186.out 4).trans rfl,(zb BK186.out 5).trans rfl⟩ (fun hHeld => ?_)
          clear hK K
          refine zbk (a' := ?_) ?_ ?_
          rotate_left
          ·show Act.put _ (some 64) _ = _
           simp only [Act.put,List.setIfInBounds_toArray,List.set_cons_zero,List.set_cons_succ,zaw,zaB]
           rfl
          refine puq (i := 12) (N := some 65) HT_.out (uQ 15 13) ?_
          refine puq (i := 13) (N := some 4) HT_.out (uQ 15 14) ?_
          refine puq (i := 14) (N := some 5) HT_.out (uQ 15 15) ?_
          refine zbJ (zaU HT_.out (by kernel_rfl)) ?_
          try go_wp2
          go_ret2
          exact ⟨hHq,hCq⟩
         ·rw [if_neg c25] at H
          exact absurd H (by simp)
        ·rw [if_neg c23] at H
         exact absurd H (by simp)
       ·rw [if_neg c21] at H
        exact absurd H (by simp)
      ·rw [if_neg c19] at H
       exact absurd H (by simp)
     ·rw [if_neg c17] at H
      exact absurd H (by simp)
 ·replace c4 := Bool.eq_false_iff.mpr c4
  subst c4
  have H1 : (some ((⟨#[]⟩ : ByteArray),1)) = some (r1,r2) := by rw [if_neg (show ¬ (false = true) by decide)] at H;exact H
  clear H
  have H := H1
  clear H1
  simp only [Option.some.injEq,Prod.mk.injEq] at H
  obtain ⟨rfl,rfl⟩ := H
  go_enter Tryz.func38,Tryz.ntmps38
  go_wp2_with (first | ((with_reducible refine zn (N := 2) rfl ?_);refine zl rfl (N := 2) rfl (cs := #[.int .i64 a0_0,.int .i64 a0_1,.slice A0_2 l0_2.length c0_2,.slice A0_3 l0_3.length c0_3,.int .i64 a0_4,.int .i64 a0_5]) (t := 30) hrq ?_;intro gb186 hg w36 hbox hb;have n_ := haq (ze hBq hb) <| haq (hbox) <| haq ((by rw [hg];exact (zg hBq) : w.heap.size ≤ gb186)) <| haq ((by rw [hg];exact (zg hBq) : w.heap.size ≤ gb186)) <| trivial;clear HB;obtain ⟨HB,BK186,GW186,GE186,_⟩ := n_;clear hb hbox hg;obtain ⟨hcz37_0,hcz37_1,hcz37_2,hcz37_3,hcz37_4,hcz37_5,hfz37_0,hfz37_1,hfz37_2,hfz37_3,hfz37_4,hfz37_5⟩ := hcq6 BK186.out) | ((with_reducible refine zL (f := 55) rfl ?_);refine zaq (some 14) rfl rfl Tryz.func55 (by kernel_rfl) rfl #[.agg #[.int .i64 a0_0,.int .i64 a0_1,.slice A0_2 l0_2.length c0_2,.slice A0_3 l0_3.length c0_3,.int .i64 a0_4,.int .i64 a0_5],.int .i64 a1] rfl hMq ?_;(with_reducible refine (zh.calls k a0_0 a0_1 _ _ l0_2 _ _ l0_3 a0_4 a0_5 a1 false _ ?side1 ?side2 ?side3 ?side4 A3.out).mono ?_);(case side1 => exact hKq (Kd.C_below HR0_2.out HB.out));(case side2 => exact HC0_2.out);(case side3 => exact hKq (Kd.C_below HR0_3.out HB.out));(case side4 => exact HC0_3.out);rintro e w38 ⟨rfl,hb⟩;refine ⟨_,rfl,?_⟩;have n_ := haq (hbq BK186.out hb) <| haq (ze hCq hb) <| trivial;clear BK186 HB;obtain ⟨BK186,HB,_⟩ := n_;(try clear hb);(try clear hb2);(try clear hk);(try clear hi)))
  go_ret2
  exact ⟨hHq,hCq⟩
def zaD.f (k : Nat) (a0_0 : Int) (a0_1 : Int) (l0_2 : List (S67)) (l0_3 : List ByteArray) (a0_4 : Int) (a0_5 : Int) (a1 : Int) : Option (ByteArray × Int) := (zu.f k a0_0 a0_1 l0_2 l0_3 a0_4 a0_5 a1).bind fun bt201 => (if bt201.2 = 0 then (if 1 + bt201.1.size ≤ 9223372036854775807 then ((zaM.f ((⟨#[118]⟩ : ByteArray) ++ bt201.1)).bind fun t203 => (some (t203,0))) else (none)) else (some ((⟨#[]⟩ : ByteArray),bt201.2)))
set_option maxHeartbeats 8000000 in
set_option maxRecDepth 100000 in
theorem zaD.calls (k : Nat) (a0_0 : Int) (a0_1 : Int) (A0_2 : Option Addr) (c0_2 : Nat) (l0_2 : List (S67)) (A0_3 : Option Addr) (c0_3 : Nat) (l0_3 : List ByteArray) (a0_4 : Int) (a0_5 : Int) (a1 : Int) (r1 : ByteArray) (r2 : Int) (w : World) (hr0_2 : Kd.C k67 w A0_2 l0_2.length l0_2) (hc0_2 : l0_2.length ≤ c0_2) (hr0_3 : Kd.C Kd.string w A0_3 l0_3.length l0_3) (hc0_3 : l0_3.length ≤ c0_3) (h : zaD.f k a0_0 a0_1 l0_2 l0_3 a0_4 a0_5 a1 = some (r1,r2)) :
  Calls Tryz.prog 21 #[.agg #[.int .i64 a0_0,.int .i64 a0_1,.slice A0_2 l0_2.length c0_2,.slice A0_3 l0_3.length c0_3,.int .i64 a0_4,.int .i64 a0_5],.int .i64 a1] w fun e w' => e = .returned (.tuple #[.string r1,.int .i64 r2]) ∧ Below w.heap.size w w' := by
 have hu30 := Tryz.underlying30
 have HR0_2 := za.mk hr0_2
 have HC0_2 := za.mk hc0_2
 clear hr0_2 hc0_2
 have HR0_3 := za.mk hr0_3
 have HC0_3 := za.mk hc0_3
 clear hr0_3 hc0_3
 have HB := za.mk (Below.refl w.heap.size w)
 have H : ((zu.f k a0_0 a0_1 l0_2 l0_3 a0_4 a0_5 a1).bind fun bt201 => (if bt201.2 = 0 then (if 1 + bt201.1.size ≤ 9223372036854775807 then ((zaM.f ((⟨#[118]⟩ : ByteArray) ++ bt201.1)).bind fun t203 => (some (t203,0))) else (none)) else (some ((⟨#[]⟩ : ByteArray),bt201.2)))) = some (r1,r2) := h
 clear h
 replace H := Option.bind_eq_some_iff.mp H
 obtain ⟨⟨t201,t202⟩,A30,H⟩ := H
 replace H : (if t202 = 0 then (if 1 + t201.size ≤ 9223372036854775807 then ((zaM.f ((⟨#[118]⟩ : ByteArray) ++ t201)).bind fun t203 => (some (t203,0))) else (none)) else (some ((⟨#[]⟩ : ByteArray),t202))) = some (r1,r2) := H
 have A3 := za.mk A30
 clear A30
 by_cases c4 : t202 = 0
 ·rw [if_pos c4] at H
  have c4b0 : (t202 == 0) = true := beq_iff_eq.mpr c4
  have c4b1 : (t202 != 0) = false := bne_eq_false_iff_eq.mpr c4
  clear c4
  by_cases c5 : 1 + t201.size ≤ 9223372036854775807
  ·rw [if_pos c5] at H
   have c5b0 := eq_true c5
   have c5b1 : decide (1 + t201.size ≤ 9223372036854775807) = true := decide_eq_true c5
   try have c5b2 : (9223372036854775807 < 1 + t201.size) = False := eq_false (Nat.not_lt.2 c5)
   replace H := Option.bind_eq_some_iff.mp H
   obtain ⟨t203,A60,H⟩ := H
   replace H : (some (t203,0)) = some (r1,r2) := H
   have A6 := za.mk A60
   clear A60
   simp only [Option.some.injEq,Prod.mk.injEq] at H
   obtain ⟨rfl,rfl⟩ := H
   go_enter Tryz.func21,Tryz.ntmps21
   go_wp2_with (first | ((with_reducible refine zn (N := 2) rfl ?_);refine zl rfl (N := 2) rfl (cs := #[.int .i64 a0_0,.int .i64 a0_1,.slice A0_2 l0_2.length c0_2,.slice A0_3 l0_3.length c0_3,.int .i64 a0_4,.int .i64 a0_5]) (t := 30) hrq ?_;intro gb200 hg w7 hbox hb;have n_ := haq (ze hBq hb) <| haq (hbox) <| haq ((by rw [hg];exact (zg hBq) : w.heap.size ≤ gb200)) <| haq ((by rw [hg];exact (zg hBq) : w.heap.size ≤ gb200)) <| trivial;clear HB;obtain ⟨HB,BK200,GW200,GE200,_⟩ := n_;clear hb hbox hg;obtain ⟨hcz8_0,hcz8_1,hcz8_2,hcz8_3,hcz8_4,hcz8_5,hfz8_0,hfz8_1,hfz8_2,hfz8_3,hfz8_4,hfz8_5⟩ := hcq6 BK200.out) | ((with_reducible refine zL (f := 38) rfl ?_);refine zaq (some 11) rfl rfl Tryz.func38 (by kernel_rfl) rfl #[.agg #[.int .i64 a0_0,.int .i64 a0_1,.slice A0_2 l0_2.length c0_2,.slice A0_3 l0_3.length c0_3,.int .i64 a0_4,.int .i64 a0_5],.int .i64 a1] rfl hMq ?_;(with_reducible refine (zu.calls k a0_0 a0_1 _ _ l0_2 _ _ l0_3 a0_4 a0_5 a1 t201 t202 _ ?side1 ?side2 ?side3 ?side4 A3.out).mono ?_);(case side1 => exact hKq (Kd.C_below HR0_2.out HB.out));(case side2 => exact HC0_2.out);(case side3 => exact hKq (Kd.C_below HR0_3.out HB.out));(case side4 => exact HC0_3.out);rintro e w9 ⟨rfl,hb⟩;refine ⟨_,rfl,?_⟩;have n_ := haq (hbq BK200.out hb) <| haq (ze hCq hb) <| trivial;clear BK200 HB;obtain ⟨BK200,HB,_⟩ := n_;(try clear hb);(try clear hb2);(try clear hk);(try clear hi)) | ((with_reducible refine zL (f := 39) rfl ?_);refine zaq (some 19) rfl rfl Tryz.func39 (by kernel_rfl) rfl #[.string ((⟨#[118]⟩ : ByteArray) ++ t201)] rfl hMq ?_;(with_reducible refine (zaM.calls ((⟨#[118]⟩ : ByteArray) ++ t201) t203 _ A6.out).mono ?_);rintro e w10 ⟨rfl,hb⟩;refine ⟨_,rfl,?_⟩;have n_ := haq (hbq BK200.out hb) <| haq (ze hCq hb) <| trivial;clear BK200 HB;obtain ⟨BK200,HB,_⟩ := n_;(try clear hb);(try clear hb2);(try clear hk);(try clear hi)))
   go_ret2
   exact ⟨hHq,hCq⟩
  ·rw [if_neg c5] at H
   exact absurd H (by simp)
 ·rw [if_neg c4] at H
  have c4b0 : (t202 == 0) = false := beq_eq_false_iff_ne.mpr c4
  have c4b1 : (t202 != 0) = true := bne_iff_ne.mpr c4
  simp only [Option.some.injEq,Prod.mk.injEq] at H
  obtain ⟨rfl,rfl⟩ := H
  go_enter Tryz.func21,Tryz.ntmps21
  go_wp2_with (first | ((with_reducible refine zn (N := 2) rfl ?_);refine zl rfl (N := 2) rfl (cs := #[.int .i64 a0_0,.int .i64 a0_1,.slice A0_2 l0_2.length c0_2,.slice A0_3 l0_3.length c0_3,.int .i64 a0_4,.int .i64 a0_5]) (t := 30) hrq ?_;intro gb200 hg w11 hbox hb;have n_ := haq (ze hBq hb) <| haq (hbox) <| haq ((by rw [hg];exact (zg hBq) : w.heap.size ≤ gb200)) <| haq ((by rw [hg];exact (zg hBq) : w.heap.size ≤ gb200)) <| trivial;clear HB;obtain ⟨HB,BK200,GW200,GE200,_⟩ := n_;clear hb hbox hg;obtain ⟨hcz12_0,hcz12_1,hcz12_2,hcz12_3,hcz12_4,hcz12_5,hfz12_0,hfz12_1,hfz12_2,hfz12_3,hfz12_4,hfz12_5⟩ := hcq6 BK200.out) | ((with_reducible refine zL (f := 38) rfl ?_);refine zaq (some 11) rfl rfl Tryz.func38 (by kernel_rfl) rfl #[.agg #[.int .i64 a0_0,.int .i64 a0_1,.slice A0_2 l0_2.length c0_2,.slice A0_3 l0_3.length c0_3,.int .i64 a0_4,.int .i64 a0_5],.int .i64 a1] rfl hMq ?_;(with_reducible refine (zu.calls k a0_0 a0_1 _ _ l0_2 _ _ l0_3 a0_4 a0_5 a1 t201 t202 _ ?side1 ?side2 ?side3 ?side4 A3.out).mono ?_);(case side1 => exact hKq (Kd.C_below HR0_2.out HB.out));(case side2 => exact HC0_2.out);(case side3 => exact hKq (Kd.C_below HR0_3.out HB.out));(case side4 => exact HC0_3.out);rintro e w13 ⟨rfl,hb⟩;refine ⟨_,rfl,?_⟩;have n_ := haq (hbq BK200.out hb) <| haq (ze hCq hb) <| trivial;clear BK200 HB;obtain ⟨BK200,HB,_⟩ := n_;(try clear hb);(try clear hb2);(try clear hk);(try clear hi)))
  go_ret2
  exact ⟨hHq,hCq⟩
end Go.Proofs.YtlkfelmbhldgfaaGreat.Px