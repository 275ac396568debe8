/- Part 12 of 33 of the proof of the law DagAsks: what is proved is the statement at the end of the last part; its conditions are those of the given row. -/
import Derived.Test.YtklhjlaofkngcaaZDagAsksK
namespace Go.Proofs.Ytklhjlaofkngcaa.Px
open Go.RowKit Go.Proofs.YtklhjlaofkngcaaW.PrintWords Go.Proofs.YtklhjlaofkngcaaW.PrintLast Go.Proofs.YtklhjlaofkngcaaW.PrintMore
attribute [local go_sem] zF zH zM zN zB zC zG zI
set_option linter.unusedVariables false
set_option linter.unusedSimpArgs false
def zz.l0 : Nat → List ByteArray → Int → Int → Int → List (S72) → List ByteArray → Int → Int → Option (ByteArray × Int)
 | 0,_,_,_,_,_,_,_,_ => none
 | k + 1,x7,x8,x230000,x230001,x230002,x230003,x230004,x230005 => if x8 < (x230002.length : Int) then (if 0 ≤ x8 then ((zac.f k ((zQ x230002 x8).f0) ((zQ x230002 x8).f1) ((zQ x230002 x8).f2)).bind fun bt232 => (if x7.length < 8796093022208 then (zz.l0 k (x7 ++ [bt232.1]) (wrap64 (x8 + 1)) x230000 x230001 x230002 x230003 x230004 x230005) else (none))) else (none)) else ((zw.f k (IntKind.u64.wrap (x230000))).bind fun t237 => ((zw.f k (IntKind.u64.wrap (x230001))).bind fun t238 => (if t237.size + t238.size ≤ 9223372036854775807 then ((zP.f x7).bind fun t239 => (if (t237 ++ t238).size + t239.size ≤ 9223372036854775807 then ((zP.f x230003).bind fun t240 => (if ((t237 ++ t238) ++ t239).size + t240.size ≤ 9223372036854775807 then ((zw.f k (IntKind.u64.wrap (x230004))).bind fun t241 => (if (((t237 ++ t238) ++ t239) ++ t240).size + t241.size ≤ 9223372036854775807 then ((zw.f k (IntKind.u64.wrap (x230005))).bind fun t242 => (if ((((t237 ++ t238) ++ t239) ++ t240) ++ t241).size + t242.size ≤ 9223372036854775807 then (some (((((t237 ++ t238) ++ t239) ++ t240) ++ t241) ++ t242,0)) else (none))) else (none))) else (none))) else (none))) else (none))))
def zz.f (k : Nat) (a0_0 : Int) (a0_1 : Int) (l0_2 : List (S72)) (l0_3 : List ByteArray) (a0_4 : Int) (a0_5 : Int) (a1 : Int) : Option (ByteArray × Int) := (zh.f k a0_0 a0_1 l0_2 l0_3 a0_4 a0_5 a1).bind fun t230 => (if t230 = true then (zz.l0 k ([] : List ByteArray) 0 a0_0 a0_1 l0_2 l0_3 a0_4 a0_5) else (some ((⟨#[]⟩ : ByteArray),1)))
def zz.T10 : Bool × List (List Nat × List Nat) := (true,[([],[]),([0],[0]),([1],[1]),([2],[2]),([],[]),([4],[4]),([5],[5]),([6,3],[6]),([3,7],[3,7]),([],[]),([9,7],[9]),([8,10],[8,10]),([],[]),([12],[12]),([13,10],[13]),([11,14],[11,14]),([15,14,0,1,2,3,4,5,6,7,8,9,10,11,12,13,14,15],[15])])
def zz.B10 : List Nat := [0,1,3,7,0,16,48,127,255,0,767,2047,0,4096,14079,32767,65535]
theorem zz.tab10 : zbV .any (zdf Try.f44 10) = zz.T10 := by kernel_rfl
theorem zz.bits10 : zbw zz.T10.2 zz.B10 = true := by kernel_rfl
def zz.T11 : Bool × List (List Nat × List Nat) := (true,[([],[]),([],[]),([1],[1]),([2],[2]),([3],[3]),([4],[4]),([0,5],[0,5]),([],[]),([7],[7]),([8],[8]),([9],[9]),([10,5],[10]),([6,11],[6,11]),([12,11,0,1,2,3,4,5,6,7,8,9,10,11,12],[12]),([13,0,1,2,3,4,5,6,7,8,9,10,11,12,13],[])])
def zz.B11 : List Nat := [0,0,2,6,14,30,63,0,128,384,896,1982,4095,8191,16383]
theorem zz.tab11 : zbV .any (zdf Try.f44 11) = zz.T11 := by kernel_rfl
theorem zz.bits11 : zbw zz.T11.2 zz.B11 = true := by kernel_rfl
set_option maxHeartbeats 8000000 in
set_option maxRecDepth 100000 in
theorem zz.calls (k : Nat) (a0_0 : Int) (a0_1 : Int) (A0_2 : Option Addr) (c0_2 : Nat) (l0_2 : List (S72)) (A0_3 : Option Addr) (c0_3 : Nat) (l0_3 : List ByteArray) (a0_4 : Int) (a0_5 : Int) (a1 : Int) (r1 : ByteArray) (r2 : Int) (w : World) (hr0_2 : Kd.C k72 w A0_2 l0_2.length l0_2) (hc0_2 : l0_2.length ≤ c0_2) (hr0_3 : Kd.C Kd.string w A0_3 l0_3.length l0_3) (hc0_3 : l0_3.length ≤ c0_3) (h : zz.f k a0_0 a0_1 l0_2 l0_3 a0_4 a0_5 a1 = some (r1,r2)) :
  Calls Try.prog 44 #[.agg #[.int .i64 a0_0,.int .i64 a0_1,.slice A0_2 l0_2.length c0_2,.slice A0_3 l0_3.length c0_3,.int .i64 a0_4,.int .i64 a0_5],.int .i64 a1] w fun e w' => e = .returned (.tuple #[.string r1,.int .i64 r2]) ∧ Below w.heap.size w w' := by
 have hu30 := Try.underlying30
 have hu72 := Try.underlying72
 have HR0_2 := za.mk hr0_2
 have HC0_2 := za.mk hc0_2
 clear hr0_2 hc0_2
 have HR0_3 := za.mk hr0_3
 have HC0_3 := za.mk hc0_3
 clear hr0_3 hc0_3
 have HB := za.mk (Below.refl w.heap.size w)
 have H : ((zh.f k a0_0 a0_1 l0_2 l0_3 a0_4 a0_5 a1).bind fun t230 => (if t230 = true then (zz.l0 k ([] : List ByteArray) 0 a0_0 a0_1 l0_2 l0_3 a0_4 a0_5) else (some ((⟨#[]⟩ : ByteArray),1)))) = some (r1,r2) := h
 clear h
 replace H := Option.bind_eq_some_iff.mp H
 obtain ⟨t230,A30,H⟩ := H
 replace H : (if t230 = true then (zz.l0 k ([] : List ByteArray) 0 a0_0 a0_1 l0_2 l0_3 a0_4 a0_5) else (some ((⟨#[]⟩ : ByteArray),1))) = some (r1,r2) := H
 have A3 := za.mk A30
 clear A30
 by_cases c4 : t230 = true
 ·subst c4
  have H1 : (zz.l0 k ([] : List ByteArray) 0 a0_0 a0_1 l0_2 l0_3 a0_4 a0_5) = some (r1,r2) := by rw [if_pos rfl] at H;exact H
  clear H
  have H := H1
  clear H1
  have H' := za.mk H
  clear H
  go_enter Try.func44,Try.ntmps44
  go_wp2_with (first | ((with_reducible refine zu (N := 2) rfl ?_);refine zp ?hg (N := 2) ?hd (cs := #[.int .i64 a0_0,.int .i64 a0_1,.slice A0_2 l0_2.length c0_2,.slice A0_3 l0_3.length c0_3,.int .i64 a0_4,.int .i64 a0_5]) (t := 30) ?hr ?_;(case hd => rfl);(case hg => rfl);(case hr => first | (go_simp;done) | (go_simp;rfl));intro gb229 hg w5 hbox hb;have n_ := haq (ze hBq hb) <| haq (hbox) <| haq ((by rw [hg];exact (zg hBq) : w.heap.size ≤ gb229)) <| haq ((by rw [hg];exact (zg hBq) : w.heap.size ≤ gb229)) <| trivial;clear HB;obtain ⟨HB,BK229,GW229,GE229,_⟩ := n_;clear hb hbox hg;obtain ⟨hcz6_0,hcz6_1,hcz6_2,hcz6_3,hcz6_4,hcz6_5,hfz6_0,hfz6_1,hfz6_2,hfz6_3,hfz6_4,hfz6_5⟩ := hcq6 BK229.out) | ((with_reducible refine zV (f := 61) rfl ?_);refine zaF (some 14) rfl rfl Try.func61 (by kernel_rfl) rfl #[.agg #[.int .i64 a0_0,.int .i64 a0_1,.slice A0_2 l0_2.length c0_2,.slice A0_3 l0_3.length c0_3,.int .i64 a0_4,.int .i64 a0_5],.int .i64 a1] rfl hMq ?_;(with_reducible refine (zh.calls k a0_0 a0_1 _ _ l0_2 _ _ l0_3 a0_4 a0_5 a1 true _ ?side1 ?side2 ?side3 ?side4 A3.out).mono ?_);(case side1 => exact hKq (Kd.C_below HR0_2.out HB.out));(case side2 => exact HC0_2.out);(case side3 => exact hKq (Kd.C_below HR0_3.out HB.out));(case side4 => exact HC0_3.out);rintro e w7 ⟨rfl,hb⟩;refine ⟨_,rfl,?_⟩;have n_ := haq (hbq BK229.out hb) <| haq (ze hCq hb) <| trivial;clear BK229 HB;obtain ⟨BK229,HB,_⟩ := n_;(try clear hb);(try clear hb2);(try clear hk);(try clear hi)))
  go_loopg [7,8] k (fun kq v7 v8 w' => ∃ (x7_1 : List ByteArray) (x8_1 : Int),v8 = .int .i64 x8_1 ∧ za (zz.l0 kq x7_1 x8_1 a0_0 a0_1 l0_2 l0_3 a0_4 a0_5 = some (r1,r2)) ∧ za (kq ≤ k) ∧ za (Kd.R Kd.string 9 w' w.heap.size (fun _ => True) v7 x7_1) ∧ za (w'.heap[gb229]? = some (.cells #[.int .i64 a0_0,.int .i64 a0_1,(.slice A0_2 l0_2.length c0_2),(.slice A0_3 l0_3.length c0_3),.int .i64 a0_4,.int .i64 a0_5] 30 (0,0))) ∧ za (Below w.heap.size w w'))
  case atStart => exact ⟨(([] : List ByteArray)),(0),(hDq),H',⟨Nat.le_refl _⟩,⟨by first | exact Kd.R_nil _ _ _ _ _ | exact Kd.N_nil _ _ _ _ _ | exact Kd.V_nil _ _ _ _ _ | exact Kd.Q_nil _ _ _ _ _ | exact Kd.S_nil _ _ _ _ _⟩,⟨hGq BK229.out⟩,⟨by repeat (first | (with_reducible first | exact HB.out | apply zl | apply zi | apply zq | refine zo ?_ GE229.out) | exact HB.out)⟩⟩
  case round =>
   clear H'
   try clear p2;try clear c4;try clear c6;try clear hcz6_0;try clear hcz6_1;try clear hcz6_2;try clear hcz6_3;try clear hcz6_4;try clear hcz6_5;try clear hfz6_0;try clear hfz6_1;try clear hfz6_2;try clear hfz6_3;try clear hfz6_4;try clear hfz6_5
   obtain ⟨x7_1,x8_1,rfl,HA,HK1,HO_7,BK229,HB⟩ := hrel
   cases gk with
   | zero => exact absurd HA.out (by simp [zz.l0])
   | succ k1 =>
    have H := HA.out
    clear HA
    simp only [zz.l0] at H
    by_cases c8 : x8_1 < (l0_2.length : Int)
    ·rw [if_pos c8] at H
     have c8b0 : decide (x8_1 < (l0_2.length : Int)) = true := decide_eq_true c8
     clear c8
     by_cases c9 : 0 ≤ x8_1
     ·rw [if_pos c9] at H
      have c9b0 : decide (0 ≤ x8_1) = true := decide_eq_true c9
      clear c9
      replace H := Option.bind_eq_some_iff.mp H
      obtain ⟨⟨t232,t233⟩,A100,H⟩ := H
      replace H : (if x7_1.length < 8796093022208 then (zz.l0 k1 (x7_1 ++ [t232]) (wrap64 (x8_1 + 1)) a0_0 a0_1 l0_2 l0_3 a0_4 a0_5) else (none)) = some (r1,r2) := H
      have A10 := za.mk A100
      clear A100
      by_cases c11 : x7_1.length < 8796093022208
      ·rw [if_pos c11] at H
       have LMc11 := za.mk c11
       clear c11
       obtain ⟨y234,hy234⟩ : ∃ y_ : List ByteArray,y_ = (x7_1 ++ [t232]) := ⟨_,rfl⟩
       replace H : (zz.l0 k1 y234 (wrap64 (x8_1 + 1)) a0_0 a0_1 l0_2 l0_3 a0_4 a0_5) = some (r1,r2) := by first | (rw [hy234];with_reducible exact H) | (have H2_ := (Option.bind_some _ _).symm.trans H;rw [hy234];with_reducible exact H2_) | (have H2_ := (Option.bind_some _ _).symm.trans H;with_reducible exact H2_) | with_reducible exact H | (rw [hy234];exact H) | exact H
       have Ny234 := za.mk hy234
       clear hy234
       have H' := za.mk H
       clear H
       obtain ⟨hcz12_0,hcz12_1,hcz12_2,hcz12_3,hcz12_4,hcz12_5,hfz12_0,hfz12_1,hfz12_2,hfz12_3,hfz12_4,hfz12_5⟩ := hcq6 BK229.out
       have p231 : 0 ≤ (x8_1 : Int) := hFq
       have q231 : x8_1 < (l0_2.length : Int) := hFq
       obtain ⟨ad231,A231_2,c231_2,e231,hx231_0,hx231_1,hx231_2,hl231_2,hi231_2⟩ := zbX HR0_2.out x8_1 p231 q231
       cases e231
       replace hx231_0 := (HB.out.cell (World.block_lt_of_cell? w _ hx231_0)).trans hx231_0
       replace hx231_1 := (HB.out.cell (World.block_lt_of_cell? w _ hx231_1)).trans hx231_1
       replace hx231_2 := (HB.out.cell (World.block_lt_of_cell? w _ hx231_2)).trans hx231_2
       have HR231_2 := za.mk hi231_2
       have HC231_2 := za.mk hl231_2
       clear hi231_2 hl231_2
       replace p231 := eq_true p231
       replace q231 := eq_true q231
       go_wp2_with (first | ((with_reducible refine zV (f := 62) rfl ?_);refine zaF (some 30) rfl rfl Try.func62 (by kernel_rfl) rfl #[.agg #[.int .i64 ((zQ l0_2 x8_1).f0),.int .i64 ((zQ l0_2 x8_1).f1),.slice A231_2 ((zQ l0_2 x8_1).f2).length c231_2]] rfl hMq ?_;(with_reducible refine (zac.calls k1 ((zQ l0_2 x8_1).f0) ((zQ l0_2 x8_1).f1) _ _ ((zQ l0_2 x8_1).f2) t232 t233 _ ?side1 ?side2 A10.out).mono ?_);(case side1 => exact hKq (Kd.C_below HR231_2.out HB.out));(case side2 => exact HC231_2.out);rintro e w13 ⟨rfl,hb⟩;refine ⟨_,rfl,?_⟩;have n_ := haq (Kd.R_below (hRq HO_7.out) hb) <| haq (hbq BK229.out hb) <| haq (ze hCq hb) <| trivial;clear HO_7 BK229 HB;obtain ⟨HO_7,BK229,HB,_⟩ := n_;(try clear hb);(try clear hb2);(try clear hk);(try clear hi)) | ((with_reducible refine zbS (b := .append) (xs := #[.tmp 33,.tmp 35]) rfl ?_);at_builtin;refine Kd.R_append Kd.string (w0 := w) w.heap.size rfl (.tmp 33) (.tmp 35) 26 9 (.string ⟨#[]⟩) 16 rfl Try.underlying26 zib rfl (by decide) (by omega) u7 x7_1 t232 [.string t232] (fun _ => True) (fun _ => False) rfl rfl ?aP (fun _ hk => hk.elim) ?aF ?aO ?aB ?aS ?aL ?_;(case aP => exact rfl);(case aB => exact hCq);(case aF => exact (fun _ _ => trivial));(case aO => exact (hRq HO_7.out));(case aS => exact (zg hCq));(case aL => have := LMc11.out;omega);intro v235 w14 ho hb hg hat;rw [← Ny234.out] at ho;have n_ := haq (zaU (g := gb229) (o := .cells #[.int .i64 a0_0,.int .i64 a0_1,.slice (some ad231) l0_2.length c0_2,.slice A0_3 l0_3.length c0_3,.int .i64 a0_4,.int .i64 a0_5] 30 (0,0)) (hGq BK229.out) hg (Kd.R_ne HO_7.out BK229.out (by decide))) <| haq (hb) <| haq (ho) <| trivial;clear BK229 HB HO_7;obtain ⟨BK229,HB,HO236,_⟩ := n_;clear ho hb hg hat))
       go_roundg k1
       case measure => have := HK1.out;omega
       case rel => exact ⟨(y234),(wrap64 (x8_1 + 1)),(hDq),H',⟨by have := HK1.out;omega⟩,⟨by (with_reducible repeat (first | apply Kd.R_alloc | apply Kd.R_drewN | apply Kd.R_drew));exact HO236.out⟩,⟨hGq BK229.out⟩,⟨by repeat (first | (with_reducible first | exact HB.out | apply zl | apply zi | apply zq | refine zo ?_ GE229.out) | exact HB.out)⟩⟩
      ·rw [if_neg c11] at H
       exact absurd H (by simp)
     ·rw [if_neg c9] at H
      exact absurd H (by simp)
    ·rw [if_neg c8] at H
     have c8b0 : decide (x8_1 < (l0_2.length : Int)) = false := decide_eq_false c8
     clear c8
     replace H := Option.bind_eq_some_iff.mp H
     obtain ⟨t237,A150,H⟩ := H
     replace H : ((zw.f k1 (IntKind.u64.wrap (a0_1))).bind fun t238 => (if t237.size + t238.size ≤ 9223372036854775807 then ((zP.f x7_1).bind fun t239 => (if (t237 ++ t238).size + t239.size ≤ 9223372036854775807 then ((zP.f l0_3).bind fun t240 => (if ((t237 ++ t238) ++ t239).size + t240.size ≤ 9223372036854775807 then ((zw.f k1 (IntKind.u64.wrap (a0_4))).bind fun t241 => (if (((t237 ++ t238) ++ t239) ++ t240).size + t241.size ≤ 9223372036854775807 then ((zw.f k1 (IntKind.u64.wrap (a0_5))).bind fun t242 => (if ((((t237 ++ t238) ++ t239) ++ t240) ++ t241).size + t242.size ≤ 9223372036854775807 then (some (((((t237 ++ t238) ++ t239) ++ t240) ++ t241) ++ t242,0)) else (none))) else (none))) else (none))) else (none))) else (none))) = some (r1,r2) := H
     have A15 := za.mk A150
     clear A150
     replace H := Option.bind_eq_some_iff.mp H
     obtain ⟨t238,A160,H⟩ := H
     replace H : (if t237.size + t238.size ≤ 9223372036854775807 then ((zP.f x7_1).bind fun t239 => (if (t237 ++ t238).size + t239.size ≤ 9223372036854775807 then ((zP.f l0_3).bind fun t240 => (if ((t237 ++ t238) ++ t239).size + t240.size ≤ 9223372036854775807 then ((zw.f k1 (IntKind.u64.wrap (a0_4))).bind fun t241 => (if (((t237 ++ t238) ++ t239) ++ t240).size + t241.size ≤ 9223372036854775807 then ((zw.f k1 (IntKind.u64.wrap (a0_5))).bind fun t242 => (if ((((t237 ++ t238) ++ t239) ++ t240) ++ t241).size + t242.size ≤ 9223372036854775807 then (some (((((t237 ++ t238) ++ t239) ++ t240) ++ t241) ++ t242,0)) else (none))) else (none))) else (none))) else (none))) else (none)) = some (r1,r2) := H
     have A16 := za.mk A160
     clear A160
     by_cases c17 : t237.size + t238.size ≤ 9223372036854775807
     ·rw [if_pos c17] at H
      have c17b0 := eq_true c17
      have c17b1 : decide (t237.size + t238.size ≤ 9223372036854775807) = true := decide_eq_true c17
      try have c17b2 : (9223372036854775807 < t237.size + t238.size) = False := eq_false (Nat.not_lt.2 c17)
      replace H := Option.bind_eq_some_iff.mp H
      obtain ⟨t239,A180,H⟩ := H
      replace H : (if (t237 ++ t238).size + t239.size ≤ 9223372036854775807 then ((zP.f l0_3).bind fun t240 => (if ((t237 ++ t238) ++ t239).size + t240.size ≤ 9223372036854775807 then ((zw.f k1 (IntKind.u64.wrap (a0_4))).bind fun t241 => (if (((t237 ++ t238) ++ t239) ++ t240).size + t241.size ≤ 9223372036854775807 then ((zw.f k1 (IntKind.u64.wrap (a0_5))).bind fun t242 => (if ((((t237 ++ t238) ++ t239) ++ t240) ++ t241).size + t242.size ≤ 9223372036854775807 then (some (((((t237 ++ t238) ++ t239) ++ t240) ++ t241) ++ t242,0)) else (none))) else (none))) else (none))) else (none)) = some (r1,r2) := H
      have A18 := za.mk A180
      clear A180
      by_cases c19 : (t237 ++ t238).size + t239.size ≤ 9223372036854775807
      ·rw [if_pos c19] at H
       have c19b0 := eq_true c19
       have c19b1 : decide ((t237 ++ t238).size + t239.size ≤ 9223372036854775807) = true := decide_eq_true c19
       try have c19b2 : (9223372036854775807 < (t237 ++ t238).size + t239.size) = False := eq_false (Nat.not_lt.2 c19)
       try (have c19b3 := c19;simp [ByteArray.size_append] at c19b3;have c19b4 := eq_false (Nat.not_lt.2 c19b3);clear c19b3)
       replace H := Option.bind_eq_some_iff.mp H
       obtain ⟨t240,A200,H⟩ := H
       replace H : (if ((t237 ++ t238) ++ t239).size + t240.size ≤ 9223372036854775807 then ((zw.f k1 (IntKind.u64.wrap (a0_4))).bind fun t241 => (if (((t237 ++ t238) ++ t239) ++ t240).size + t241.size ≤ 9223372036854775807 then ((zw.f k1 (IntKind.u64.wrap (a0_5))).bind fun t242 => (if ((((t237 ++ t238) ++ t239) ++ t240) ++ t241).size + t242.size ≤ 9223372036854775807 then (some (((((t237 ++ t238) ++ t239) ++ t240) ++ t241) ++ t242,0)) else (none))) else (none))) else (none)) = some (r1,r2) := H
       have A20 := za.mk A200
       clear A200
       by_cases c21 : ((t237 ++ t238) ++ t239).size + t240.size ≤ 9223372036854775807
       ·rw [if_pos c21] at H
        have c21b0 := eq_true c21
        have c21b1 : decide (((t237 ++ t238) ++ t239).size + t240.size ≤ 9223372036854775807) = true := decide_eq_true c21
        try have c21b2 : (9223372036854775807 < ((t237 ++ t238) ++ t239).size + t240.size) = False := eq_false (Nat.not_lt.2 c21)
        try (have c21b3 := c21;simp [ByteArray.size_append] at c21b3;have c21b4 := eq_false (Nat.not_lt.2 c21b3);clear c21b3)
        replace H := Option.bind_eq_some_iff.mp H
        obtain ⟨t241,A220,H⟩ := H
        replace H : (if (((t237 ++ t238) ++ t239) ++ t240).size + t241.size ≤ 9223372036854775807 then ((zw.f k1 (IntKind.u64.wrap (a0_5))).bind fun t242 => (if ((((t237 ++ t238) ++ t239) ++ t240) ++ t241).size + t242.size ≤ 9223372036854775807 then (some (((((t237 ++ t238) ++ t239) ++ t240) ++ t241) ++ t242,0)) else (none))) else (none)) = some (r1,r2) := H
        have A22 := za.mk A220
        clear A220
        by_cases c23 : (((t237 ++ t238) ++ t239) ++ t240).size + t241.size ≤ 9223372036854775807
        ·rw [if_pos c23] at H
         have c23b0 := eq_true c23
         have c23b1 : decide ((((t237 ++ t238) ++ t239) ++ t240).size + t241.size ≤ 9223372036854775807) = true := decide_eq_true c23
         try have c23b2 : (9223372036854775807 < (((t237 ++ t238) ++ t239) ++ t240).size + t241.size) = False := eq_false (Nat.not_lt.2 c23)
         try (have c23b3 := c23;simp [ByteArray.size_append] at c23b3;have c23b4 := eq_false (Nat.not_lt.2 c23b3);clear c23b3)
         replace H := Option.bind_eq_some_iff.mp H
         obtain ⟨t242,A240,H⟩ := H
         replace H : (if ((((t237 ++ t238) ++ t239) ++ t240) ++ t241).size + t242.size ≤ 9223372036854775807 then (some (((((t237 ++ t238) ++ t239) ++ t240) ++ t241) ++ t242,0)) else (none)) = some (r1,r2) := H
         have A24 := za.mk A240
         clear A240
         by_cases c25 : ((((t237 ++ t238) ++ t239) ++ t240) ++ t241).size + t242.size ≤ 9223372036854775807
         ·rw [if_pos c25] at H
          have c25b0 := eq_true c25
          have c25b1 : decide (((((t237 ++ t238) ++ t239) ++ t240) ++ t241).size + t242.size ≤ 9223372036854775807) = true := decide_eq_true c25
          try have c25b2 : (9223372036854775807 < ((((t237 ++ t238) ++ t239) ++ t240) ++ t241).size + t242.size) = False := eq_false (Nat.not_lt.2 c25)
          try (have c25b3 := c25;simp [ByteArray.size_append] at c25b3;have c25b4 := eq_false (Nat.not_lt.2 c25b3);clear c25b3)
          simp only [Option.some.injEq,Prod.mk.injEq] at H
          obtain ⟨rfl,rfl⟩ := H
          obtain ⟨hcz26_0,hcz26_1,hcz26_2,hcz26_3,hcz26_4,hcz26_5,hfz26_0,hfz26_1,hfz26_2,hfz26_3,hfz26_4,hfz26_5⟩ := hcq6 BK229.out
          try go_wp2
          have n0_ := za.mk (Kd.R_drew HO_7.out)
          have n1_ := za.mk (zam BK229.out)
          have n2_ := za.mk (zq HB.out)
          clear HO_7
          clear BK229
          clear HB
          have HO_7 := n0_
          have BK229 := n1_
          have HB := n2_
          clear n0_ n1_ n2_
          refine zbD (n := 17) (S := fun w' => w'.cell? ⟨gb229,0,none⟩ = some (.int .i64 a0_0) ∧ w'.cell? ⟨gb229,1,none⟩ = some (.int .i64 a0_1) ∧ w'.cell? ⟨gb229,2,none⟩ = some (.slice A0_2 l0_2.length c0_2) ∧ w'.cell? ⟨gb229,3,none⟩ = some (.slice A0_3 l0_3.length c0_3) ∧ w'.cell? ⟨gb229,4,none⟩ = some (.int .i64 a0_4) ∧ w'.cell? ⟨gb229,5,none⟩ = some (.int .i64 a0_5)) (ds := []) #[false,false,false,false,false,false,false,false,false,false,false,false,false,false,false,false,false] (by kernel_rfl) rfl rfl ⟨(zb BK229.out 0).trans rfl,(zb BK229.out 1).trans rfl,(zb BK229.out 2).trans rfl,(zb BK229.out 3).trans rfl,(zb BK229.out 4).trans rfl,(zb BK229.out 5).trans rfl⟩ (fun hHeld => ?_);refine zaL zz.tab10 zz.bits10 (fun HT_ HW_ => ?_)
          generalize wr.drew = w27 at HO_7 BK229 HB hHeld ⊢
          refine zv (i := 0) (N := some 37) (v := ?_) (a' := ?_) #[true,false,false,false,false,false,false,false,false,false,false,false,false,false,false,false,false] rfl rfl (zn HT_.out (by kernel_rfl)) (fun _ _ _ h => h) (Or.inl ⟨by rfl,?_⟩) ?_ ?_
          rotate_left
          ·intro w'
           go_simp
           with_reducible rfl
          rotate_left
          ·simp only [Act.put,List.setIfInBounds_toArray,List.set_cons_zero,List.set_cons_succ,zk,zm]
           rfl
          refine zv (i := 4) (N := some 41) (v := ?_) (a' := ?_) #[true,false,false,false,true,false,false,false,false,false,false,false,false,false,false,false,false] rfl rfl (zn HT_.out (by kernel_rfl)) (fun _ _ _ h => h) (Or.inl ⟨by rfl,?_⟩) ?_ ?_
          rotate_left
          ·intro w'
           go_simp
           with_reducible rfl
          rotate_left
          ·simp only [Act.put,List.setIfInBounds_toArray,List.set_cons_zero,List.set_cons_succ,zk,zm]
           rfl
          refine zv (i := 9) (N := some 46) (v := ?_) (a' := ?_) #[true,false,false,false,true,false,false,false,false,true,false,false,false,false,false,false,false] rfl rfl (zn HT_.out (by kernel_rfl)) (fun _ _ _ h => h) (Or.inl ⟨by rfl,?_⟩) ?_ ?_
          rotate_left
          ·intro w'
           go_simp
           with_reducible rfl
          rotate_left
          ·simp only [Act.put,List.setIfInBounds_toArray,List.set_cons_zero,List.set_cons_succ,zk,zm]
           rfl
          refine zv (i := 12) (N := some 49) (v := ?_) (a' := ?_) #[true,false,false,false,true,false,false,false,false,true,false,false,true,false,false,false,false] rfl rfl (zn HT_.out (by kernel_rfl)) (fun _ _ _ h => h) (Or.inl ⟨by rfl,?_⟩) ?_ ?_
          rotate_left
          ·intro w'
           go_simp
           with_reducible rfl
          rotate_left
          ·simp only [Act.put,List.setIfInBounds_toArray,List.set_cons_zero,List.set_cons_succ,zk,zm]
           rfl
          refine take_ (i := 1) (N := some 38) (v := ?_) (a' := ?_) #[true,true,false,false,true,false,false,false,false,true,false,false,true,false,false,false,false] rfl rfl (zY HT_.out HW_.out (by kernel_rfl)) (fun _ _ _ h => h) (Or.inl ⟨by rfl,?_⟩) hHeld ?_ ?_
          rotate_left
          ·rintro w' ⟨s0,s1,s2,s3,s4,s5⟩
           go_simp
           with_reducible rfl
          rotate_left
          ·simp only [Act.put,List.setIfInBounds_toArray,List.set_cons_zero,List.set_cons_succ,zk,zm]
           rfl
          refine zv (i := 2) (N := some 39) (v := ?_) (a' := ?_) #[true,true,true,false,true,false,false,false,false,true,false,false,true,false,false,false,false] rfl rfl (zn HT_.out (by kernel_rfl)) (fun _ _ _ h => h) (Or.inl ⟨by rfl,?_⟩) ?_ ?_
          rotate_left
          ·intro w'
           go_simp
           with_reducible rfl
          rotate_left
          ·simp only [Act.put,List.setIfInBounds_toArray,List.set_cons_zero,List.set_cons_succ,zk,zm]
           rfl
          refine take_ (i := 5) (N := some 42) (v := ?_) (a' := ?_) #[true,true,true,false,true,true,false,false,false,true,false,false,true,false,false,false,false] rfl rfl (zY HT_.out HW_.out (by kernel_rfl)) (fun _ _ _ h => h) (Or.inl ⟨by rfl,?_⟩) hHeld ?_ ?_
          rotate_left
          ·rintro w' ⟨s0,s1,s2,s3,s4,s5⟩
           go_simp
           with_reducible rfl
          rotate_left
          ·simp only [Act.put,List.setIfInBounds_toArray,List.set_cons_zero,List.set_cons_succ,zk,zm]
           rfl
          refine zv (i := 6) (N := some 43) (v := ?_) (a' := ?_) #[true,true,true,false,true,true,true,false,false,true,false,false,true,false,false,false,false] rfl rfl (zn HT_.out (by kernel_rfl)) (fun _ _ _ h => h) (Or.inl ⟨by rfl,?_⟩) ?_ ?_
          rotate_left
          ·intro w'
           go_simp
           with_reducible rfl
          rotate_left
          ·simp only [Act.put,List.setIfInBounds_toArray,List.set_cons_zero,List.set_cons_succ,zk,zm]
           rfl
          refine take_ (i := 13) (N := some 50) (v := ?_) (a' := ?_) #[true,true,true,false,true,true,true,false,false,true,false,false,true,true,false,false,false] rfl rfl (zY HT_.out HW_.out (by kernel_rfl)) (fun _ _ _ h => h) (Or.inl ⟨by rfl,?_⟩) hHeld ?_ ?_
          rotate_left
          ·rintro w' ⟨s0,s1,s2,s3,s4,s5⟩
           go_simp
           with_reducible rfl
          rotate_left
          ·simp only [Act.put,List.setIfInBounds_toArray,List.set_cons_zero,List.set_cons_succ,zk,zm]
           rfl
          refine zb0 (i := 3) (N := some 40) #[true,true,true,true,true,true,true,false,false,true,false,false,true,true,false,false,false] rfl rfl (zaY HT_.out (by kernel_rfl)) (by decide) (fun K hK => ?_)
          refine zbn Try.func63 (by kernel_rfl) rfl #[.int .u64 (IntKind.u64.wrap (a0_0))] (by rfl) rfl rfl hMq ?_
          with_reducible refine (zw.calls k1 (IntKind.u64.wrap (a0_0)) t237 _ A15.out).mono ?_
          rintro e w28 ⟨rfl,hb⟩
          refine ⟨_,rfl,?_⟩
          have n0_ := za.mk (Kd.R_below (hRq HO_7.out) hb)
          have n1_ := za.mk (hbq BK229.out hb)
          have n2_ := za.mk (ze hCq hb)
          clear HO_7
          clear BK229
          clear HB
          have HO_7 := n0_
          have BK229 := n1_
          have HB := n2_
          clear n0_ n1_ n2_
          (try clear hb)
          (try clear hb2)
          (try clear hk)
          (try clear hi)
          refine hK.out _ _ ⟨(zb BK229.out 0).trans rfl,(zb BK229.out 1).trans rfl,(zb BK229.out 2).trans rfl,(zb BK229.out 3).trans rfl,(zb BK229.out 4).trans rfl,(zb BK229.out 5).trans rfl⟩ (fun hHeld => ?_)
          clear hK K
          refine zbo (a' := ?_) ?_ ?_
          rotate_left
          ·show Act.put _ (some 40) _ = _
           simp only [Act.put,List.setIfInBounds_toArray,List.set_cons_zero,List.set_cons_succ,zk,zm]
           rfl
          refine zb0 (i := 7) (N := some 44) #[true,true,true,true,true,true,true,true,false,true,false,false,true,true,false,false,false] rfl rfl (zaY HT_.out (by kernel_rfl)) (by decide) (fun K hK => ?_)
          refine zbn Try.func63 (by kernel_rfl) rfl #[.int .u64 (IntKind.u64.wrap (a0_1))] (by rfl) rfl rfl hMq ?_
          with_reducible refine (zw.calls k1 (IntKind.u64.wrap (a0_1)) t238 _ A16.out).mono ?_
          rintro e w29 ⟨rfl,hb⟩
          refine ⟨_,rfl,?_⟩
          have n0_ := za.mk (Kd.R_below (hRq HO_7.out) hb)
          have n1_ := za.mk (hbq BK229.out hb)
          have n2_ := za.mk (ze hCq hb)
          clear HO_7
          clear BK229
          clear HB
          have HO_7 := n0_
          have BK229 := n1_
          have HB := n2_
          clear n0_ n1_ n2_
          (try clear hb)
          (try clear hb2)
          (try clear hk)
          (try clear hi)
          obtain ⟨Ao30,co30,eo30⟩ := Kd.R_slice HO_7.out
          (first | subst eo30 | (injection eo30 with f1_ f2_ f3_;have f4_ := f1_.symm;have f5_ := f3_.symm;clear f1_ f2_ f3_;subst f4_;subst f5_))
          refine hK.out _ _ ⟨(zb BK229.out 0).trans rfl,(zb BK229.out 1).trans rfl,(zb BK229.out 2).trans rfl,(zb BK229.out 3).trans rfl,(zb BK229.out 4).trans rfl,(zb BK229.out 5).trans rfl⟩ (fun hHeld => ?_)
          clear hK K
          refine zbo (a' := ?_) ?_ ?_
          rotate_left
          ·show Act.put _ (some 44) _ = _
           simp only [Act.put,List.setIfInBounds_toArray,List.set_cons_zero,List.set_cons_succ,zk,zm]
           rfl
          refine zv (i := 8) (N := some 45) (v := ?_) (a' := ?_) #[true,true,true,true,true,true,true,true,true,true,false,false,true,true,false,false,false] rfl rfl (zn HT_.out (by kernel_rfl)) (fun _ _ _ h => h) (Or.inl ⟨by rfl,?_⟩) ?_ ?_
          rotate_left
          ·intro w'
           go_simp
           with_reducible rfl
          rotate_left
          ·simp only [Act.put,List.setIfInBounds_toArray,List.set_cons_zero,List.set_cons_succ,zk,zm]
           rfl
          refine zb0 (i := 10) (N := some 47) #[true,true,true,true,true,true,true,true,true,true,true,false,true,true,false,false,false] rfl rfl (zaY HT_.out (by kernel_rfl)) (by decide) (fun K hK => ?_)
          refine zbn Try.func64 (by kernel_rfl) rfl #[.slice Ao30 x7_1.length co30] (by rfl) rfl rfl hMq ?_
          with_reducible refine (zP.calls _ _ x7_1 t239 _ ?side1 ?side2 A18.out).mono ?_
          (case side1 => repeat (first | exact (Kd.R_reads' HO_7.out).2.2 | (with_reducible refine Kd.C_alloc ?_ _) | (with_reducible refine Kd.C_drewN ?_ _) | (with_reducible refine Kd.C_drew ?_)))
          (case side2 => exact (Kd.R_reads' HO_7.out).2.1)
          rintro e w31 ⟨rfl,hb⟩
          refine ⟨_,rfl,?_⟩
          have n0_ := za.mk (Kd.R_below (hRq HO_7.out) hb)
          have n1_ := za.mk (hbq BK229.out hb)
          have n2_ := za.mk (ze hCq hb)
          clear HO_7
          clear BK229
          clear HB
          have HO_7 := n0_
          have BK229 := n1_
          have HB := n2_
          clear n0_ n1_ n2_
          (try clear hb)
          (try clear hb2)
          (try clear hk)
          (try clear hi)
          refine hK.out _ _ ⟨(zb BK229.out 0).trans rfl,(zb BK229.out 1).trans rfl,(zb BK229.out 2).trans rfl,(zb BK229.out 3).trans rfl,(zb BK229.out 4).trans rfl,(zb BK229.out 5).trans rfl⟩ (fun hHeld => ?_)
          clear hK K
          refine zbo (a' := ?_) ?_ ?_
          rotate_left
          ·show Act.put _ (some 47) _ = _
           simp only [Act.put,List.setIfInBounds_toArray,List.set_cons_zero,List.set_cons_succ,zk,zm]
           rfl
          refine zv (i := 11) (N := some 48) (v := ?_) (a' := ?_) #[true,true,true,true,true,true,true,true,true,true,true,true,true,true,false,false,false] rfl rfl (zn HT_.out (by kernel_rfl)) (fun _ _ _ h => h) (Or.inl ⟨by rfl,?_⟩) ?_ ?_
          rotate_left
          ·intro w'
           go_simp
           with_reducible rfl
          rotate_left
          ·simp only [Act.put,List.setIfInBounds_toArray,List.set_cons_zero,List.set_cons_succ,zk,zm]
           rfl
          refine zb0 (i := 14) (N := some 51) #[true,true,true,true,true,true,true,true,true,true,true,true,true,true,true,false,false] rfl rfl (zaY HT_.out (by kernel_rfl)) (by decide) (fun K hK => ?_)
          refine zbn Try.func64 (by kernel_rfl) rfl #[.slice A0_3 l0_3.length c0_3] (by rfl) rfl rfl hMq ?_
          with_reducible refine (zP.calls _ _ l0_3 t240 _ ?side1 ?side2 A20.out).mono ?_
          (case side1 => exact hKq (Kd.C_below HR0_3.out HB.out))
          (case side2 => exact HC0_3.out)
          rintro e w32 ⟨rfl,hb⟩
          refine ⟨_,rfl,?_⟩
          have n0_ := za.mk (Kd.R_below (hRq HO_7.out) hb)
          have n1_ := za.mk (hbq BK229.out hb)
          have n2_ := za.mk (ze hCq hb)
          clear HO_7
          clear BK229
          clear HB
          have HO_7 := n0_
          have BK229 := n1_
          have HB := n2_
          clear n0_ n1_ n2_
          (try clear hb)
          (try clear hb2)
          (try clear hk)
          (try clear hi)
          refine hK.out _ _ ⟨(zb BK229.out 0).trans rfl,(zb BK229.out 1).trans rfl,(zb BK229.out 2).trans rfl,(zb BK229.out 3).trans rfl,(zb BK229.out 4).trans rfl,(zb BK229.out 5).trans rfl⟩ (fun hHeld => ?_)
          clear hK K
          refine zbo (a' := ?_) ?_ ?_
          rotate_left
          ·show Act.put _ (some 51) _ = _
           simp only [Act.put,List.setIfInBounds_toArray,List.set_cons_zero,List.set_cons_succ,zk,zm]
           rfl
          refine zv (i := 15) (N := some 52) (v := ?_) (a' := ?_) #[true,true,true,true,true,true,true,true,true,true,true,true,true,true,true,true,false] rfl rfl (zn HT_.out (by kernel_rfl)) (fun _ _ _ h => h) (Or.inl ⟨by rfl,?_⟩) ?_ ?_
          rotate_left
          ·intro w'
           go_simp
           with_reducible rfl
          rotate_left
          ·simp only [Act.put,List.setIfInBounds_toArray,List.set_cons_zero,List.set_cons_succ,zk,zm]
           rfl
          refine zv (i := 16) (N := some 11) (v := ?_) (a' := ?_) #[true,true,true,true,true,true,true,true,true,true,true,true,true,true,true,true,true] rfl rfl (zn HT_.out (by kernel_rfl)) (fun _ _ _ h => h) (Or.inl ⟨by rfl,?_⟩) ?_ ?_
          rotate_left
          ·intro w'
           go_simp
           with_reducible rfl
          rotate_left
          ·simp only [Act.put,List.setIfInBounds_toArray,List.set_cons_zero,List.set_cons_succ,zk,zm]
           rfl
          refine zbF (zaR HT_.out (by kernel_rfl)) ?_
          try go_wp2
          have n0_ := za.mk (Kd.R_drew HO_7.out)
          have n1_ := za.mk (zam BK229.out)
          have n2_ := za.mk (zq HB.out)
          clear HO_7
          clear BK229
          clear HB
          have HO_7 := n0_
          have BK229 := n1_
          have HB := n2_
          clear n0_ n1_ n2_
          refine zbD (n := 15) (S := fun w' => w'.cell? ⟨gb229,0,none⟩ = some (.int .i64 a0_0) ∧ w'.cell? ⟨gb229,1,none⟩ = some (.int .i64 a0_1) ∧ w'.cell? ⟨gb229,2,none⟩ = some (.slice A0_2 l0_2.length c0_2) ∧ w'.cell? ⟨gb229,3,none⟩ = some (.slice A0_3 l0_3.length c0_3) ∧ w'.cell? ⟨gb229,4,none⟩ = some (.int .i64 a0_4) ∧ w'.cell? ⟨gb229,5,none⟩ = some (.int .i64 a0_5)) (ds := []) #[false,false,false,false,false,false,false,false,false,false,false,false,false,false,false] (by kernel_rfl) rfl rfl ⟨(zb BK229.out 0).trans rfl,(zb BK229.out 1).trans rfl,(zb BK229.out 2).trans rfl,(zb BK229.out 3).trans rfl,(zb BK229.out 4).trans rfl,(zb BK229.out 5).trans rfl⟩ (fun hHeld => ?_);refine zaL zz.tab11 zz.bits11 (fun HT_ HW_ => ?_)
          generalize w32.drew = w33 at HO_7 BK229 HB hHeld ⊢
          refine zv (i := 0) (N := some 53) (v := ?_) (a' := ?_) #[true,false,false,false,false,false,false,false,false,false,false,false,false,false,false] rfl rfl (zn HT_.out (by kernel_rfl)) (fun _ _ _ h => h) (Or.inl ⟨by rfl,?_⟩) ?_ ?_
          rotate_left
          ·intro w'
           go_simp
           with_reducible rfl
          rotate_left
          ·simp only [Act.put,List.setIfInBounds_toArray,List.set_cons_zero,List.set_cons_succ,zk,zm]
           rfl
          refine zv (i := 1) (N := some 54) (v := ?_) (a' := ?_) #[true,true,false,false,false,false,false,false,false,false,false,false,false,false,false] rfl rfl (zn HT_.out (by kernel_rfl)) (fun _ _ _ h => h) (Or.inl ⟨by rfl,?_⟩) ?_ ?_
          rotate_left
          ·intro w'
           go_simp
           with_reducible rfl
          rotate_left
          ·simp only [Act.put,List.setIfInBounds_toArray,List.set_cons_zero,List.set_cons_succ,zk,zm]
           rfl
          refine zv (i := 2) (N := some 55) (v := ?_) (a' := ?_) #[true,true,true,false,false,false,false,false,false,false,false,false,false,false,false] rfl rfl (zn HT_.out (by kernel_rfl)) (fun _ _ _ h => h) (Or.inl ⟨by rfl,?_⟩) ?_ ?_
          rotate_left
          ·intro w'
           go_simp
           with_reducible rfl
          rotate_left
          ·simp only [Act.put,List.setIfInBounds_toArray,List.set_cons_zero,List.set_cons_succ,zk,zm]
           rfl
          refine zv (i := 7) (N := some 60) (v := ?_) (a' := ?_) #[true,true,true,false,false,false,false,true,false,false,false,false,false,false,false] rfl rfl (zn HT_.out (by kernel_rfl)) (fun _ _ _ h => h) (Or.inl ⟨by rfl,?_⟩) ?_ ?_
          rotate_left
          ·intro w'
           go_simp
           with_reducible rfl
          rotate_left
          ·simp only [Act.put,List.setIfInBounds_toArray,List.set_cons_zero,List.set_cons_succ,zk,zm]
           rfl
          refine zv (i := 8) (N := some 61) (v := ?_) (a' := ?_) #[true,true,true,false,false,false,false,true,true,false,false,false,false,false,false] rfl rfl (zn HT_.out (by kernel_rfl)) (fun _ _ _ h => h) (Or.inl ⟨by rfl,?_⟩) ?_ ?_
          rotate_left
          ·intro w'
           go_simp
           with_reducible rfl
          rotate_left
          ·simp only [Act.put,List.setIfInBounds_toArray,List.set_cons_zero,List.set_cons_succ,zk,zm]
           rfl
          refine take_ (i := 3) (N := some 56) (v := ?_) (a' := ?_) #[true,true,true,true,false,false,false,true,true,false,false,false,false,false,false] rfl rfl (zY HT_.out HW_.out (by kernel_rfl)) (fun _ _ _ h => h) (Or.inl ⟨by rfl,?_⟩) hHeld ?_ ?_
          rotate_left
          ·rintro w' ⟨s0,s1,s2,s3,s4,s5⟩
           go_simp
           with_reducible rfl
          rotate_left
          ·simp only [Act.put,List.setIfInBounds_toArray,List.set_cons_zero,List.set_cons_succ,zk,zm]
           rfl
          refine zv (i := 4) (N := some 57) (v := ?_) (a' := ?_) #[true,true,true,true,true,false,false,true,true,false,false,false,false,false,false] rfl rfl (zn HT_.out (by kernel_rfl)) (fun _ _ _ h => h) (Or.inl ⟨by rfl,?_⟩) ?_ ?_
          rotate_left
          ·intro w'
           go_simp
           with_reducible rfl
          rotate_left
          ·simp only [Act.put,List.setIfInBounds_toArray,List.set_cons_zero,List.set_cons_succ,zk,zm]
           rfl
          refine take_ (i := 9) (N := some 62) (v := ?_) (a' := ?_) #[true,true,true,true,true,false,false,true,true,true,false,false,false,false,false] rfl rfl (zY HT_.out HW_.out (by kernel_rfl)) (fun _ _ _ h => h) (Or.inl ⟨by rfl,?_⟩) hHeld ?_ ?_
          rotate_left
          ·rintro w' ⟨s0,s1,s2,s3,s4,s5⟩
           go_simp
           with_reducible rfl
          rotate_left
          ·simp only [Act.put,List.setIfInBounds_toArray,List.set_cons_zero,List.set_cons_succ,zk,zm]
           rfl
          refine zv (i := 10) (N := some 63) (v := ?_) (a' := ?_) #[true,true,true,true,true,false,false,true,true,true,true,false,false,false,false] rfl rfl (zn HT_.out (by kernel_rfl)) (fun _ _ _ h => h) (Or.inl ⟨by rfl,?_⟩) ?_ ?_
          rotate_left
          ·intro w'
           go_simp
           with_reducible rfl
          rotate_left
          ·simp only [Act.put,List.setIfInBounds_toArray,List.set_cons_zero,List.set_cons_succ,zk,zm]
           rfl
          refine zb0 (i := 5) (N := some 58) #[true,true,true,true,true,true,false,true,true,true,true,false,false,false,false] rfl rfl (zaY HT_.out (by kernel_rfl)) (by decide) (fun K hK => ?_)
          refine zbn Try.func63 (by kernel_rfl) rfl #[.int .u64 (IntKind.u64.wrap (a0_4))] (by rfl) rfl rfl hMq ?_
          with_reducible refine (zw.calls k1 (IntKind.u64.wrap (a0_4)) t241 _ A22.out).mono ?_
          rintro e w34 ⟨rfl,hb⟩
          refine ⟨_,rfl,?_⟩
          have n0_ := za.mk (Kd.R_below (hRq HO_7.out) hb)
          have n1_ := za.mk (hbq BK229.out hb)
          have n2_ := za.mk (ze hCq hb)
          clear HO_7
          clear BK229
          clear HB
          have HO_7 := n0_
          have BK229 := n1_
          have HB := n2_
          clear n0_ n1_ n2_
          (try clear hb)
          (try clear hb2)
          (try clear hk)
          (try clear hi)
          refine hK.out _ _ ⟨(zb BK229.out 0).trans rfl,(zb BK229.out 1).trans rfl,(zb BK229.out 2).trans rfl,(zb BK229.out 3).trans rfl,(zb BK229.out 4).trans rfl,(zb BK229.out 5).trans rfl⟩ (fun hHeld => ?_)
          clear hK K
          refine zbo (a' := ?_) ?_ ?_
          rotate_left
          ·show Act.put _ (some 58) _ = _
           simp only [Act.put,List.setIfInBounds_toArray,List.set_cons_zero,List.set_cons_succ,zk,zm]
           rfl
          refine zv (i := 6) (N := some 59) (v := ?_) (a' := ?_) #[true,true,true,true,true,true,true,true,true,true,true,false,false,false,false] rfl rfl (zn HT_.out (by kernel_rfl)) (fun _ _ _ h => h) (Or.inl ⟨by rfl,?_⟩) ?_ ?_
          rotate_left
          ·intro w'
           go_simp
           with_reducible rfl
          rotate_left
          ·simp only [Act.put,List.setIfInBounds_toArray,List.set_cons_zero,List.set_cons_succ,zk,zm]
           rfl
          refine zb0 (i := 11) (N := some 64) #[true,true,true,true,true,true,true,true,true,true,true,true,false,false,false] rfl rfl (zaY HT_.out (by kernel_rfl)) (by decide) (fun K hK => ?_)
          refine zbn Try.func63 (by kernel_rfl) rfl #[.int .u64 (IntKind.u64.wrap (a0_5))] (by rfl) rfl rfl hMq ?_
          with_reducible refine (zw.calls k1 (IntKind.u64.wrap (a0_5)) t242 _ A24.out).mono ?_
          rintro e w35 ⟨rfl,hb⟩
          refine ⟨_,rfl,?_⟩
          have n0_ := za.mk (Kd.R_below (hRq HO_7.out) hb)
          have n1_ := za.mk (hbq BK229.out hb)
          have n2_ := za.mk (ze hCq hb)
          clear HO_7
          clear BK229
          clear HB
          have HO_7 := n0_
          have BK229 := n1_
          have HB := n2_
          clear n0_ n1_ n2_
          (try clear hb)
          (try clear hb2)
          (try clear hk)
          (try clear hi)
          refine hK.out _ _ ⟨(zb BK229.out 0).trans rfl,(zb BK229.out 1).trans rfl,(zb BK229.out 2).trans rfl,(zb BK229.out 3).trans rfl,(zb BK229.out 4).trans rfl,(zb BK229.out 5).trans rfl⟩ (fun hHeld => ?_)
          clear hK K
          refine zbo (a' := ?_) ?_ ?_
          rotate_left
          ·show Act.put _ (some 64) _ = _
           simp only [Act.put,List.setIfInBounds_toArray,List.set_cons_zero,List.set_cons_succ,zk,zm]
           rfl
          refine zv (i := 12) (N := some 65) (v := ?_) (a' := ?_) #[true,true,true,true,true,true,true,true,true,true,true,true,true,false,false] rfl rfl (zn HT_.out (by kernel_rfl)) (fun _ _ _ h => h) (Or.inl ⟨by rfl,?_⟩) ?_ ?_
          rotate_left
          ·intro w'
           go_simp
           with_reducible rfl
          rotate_left
          ·simp only [Act.put,List.setIfInBounds_toArray,List.set_cons_zero,List.set_cons_succ,zk,zm]
           rfl
          refine zv (i := 13) (N := some 4) (v := ?_) (a' := ?_) #[true,true,true,true,true,true,true,true,true,true,true,true,true,true,false] rfl rfl (zn HT_.out (by kernel_rfl)) (fun _ _ _ h => h) (Or.inl ⟨by rfl,?_⟩) ?_ ?_
          rotate_left
          ·intro w'
           go_simp
           with_reducible rfl
          rotate_left
          ·simp only [Act.put,List.setIfInBounds_toArray,List.set_cons_zero,List.set_cons_succ,zk,zm]
           rfl
          refine zv (i := 14) (N := some 5) (v := ?_) (a' := ?_) #[true,true,true,true,true,true,true,true,true,true,true,true,true,true,true] rfl rfl (zn HT_.out (by kernel_rfl)) (fun _ _ _ h => h) (Or.inl ⟨by rfl,?_⟩) ?_ ?_
          rotate_left
          ·intro w'
           go_simp
           with_reducible rfl
          rotate_left
          ·simp only [Act.put,List.setIfInBounds_toArray,List.set_cons_zero,List.set_cons_succ,zk,zm]
           rfl
          refine zbF (zaR HT_.out (by kernel_rfl)) ?_
          try go_wp2
          go_ret2
          exact ⟨hHq,hCq⟩
         ·rw [if_neg c25] at H
          exact absurd H (by simp)
        ·rw [if_neg c23] at H
         exact absurd H (by simp)
       ·rw [if_neg c21] at H
        exact absurd H (by simp)
      ·rw [if_neg c19] at H
       exact absurd H (by simp)
     ·rw [if_neg c17] at H
      exact absurd H (by simp)
 ·replace c4 := Bool.eq_false_iff.mpr c4
  subst c4
  have H1 : (some ((⟨#[]⟩ : ByteArray),1)) = some (r1,r2) := by rw [if_neg (show ¬ (false = true) by decide)] at H;exact H
  clear H
  have H := H1
  clear H1
  simp only [Option.some.injEq,Prod.mk.injEq] at H
  obtain ⟨rfl,rfl⟩ := H
  go_enter Try.func44,Try.ntmps44
  go_wp2_with (first | ((with_reducible refine zu (N := 2) rfl ?_);refine zp ?hg (N := 2) ?hd (cs := #[.int .i64 a0_0,.int .i64 a0_1,.slice A0_2 l0_2.length c0_2,.slice A0_3 l0_3.length c0_3,.int .i64 a0_4,.int .i64 a0_5]) (t := 30) ?hr ?_;(case hd => rfl);(case hg => rfl);(case hr => first | (go_simp;done) | (go_simp;rfl));intro gb229 hg w36 hbox hb;have n_ := haq (ze hBq hb) <| haq (hbox) <| haq ((by rw [hg];exact (zg hBq) : w.heap.size ≤ gb229)) <| haq ((by rw [hg];exact (zg hBq) : w.heap.size ≤ gb229)) <| trivial;clear HB;obtain ⟨HB,BK229,GW229,GE229,_⟩ := n_;clear hb hbox hg;obtain ⟨hcz37_0,hcz37_1,hcz37_2,hcz37_3,hcz37_4,hcz37_5,hfz37_0,hfz37_1,hfz37_2,hfz37_3,hfz37_4,hfz37_5⟩ := hcq6 BK229.out) | ((with_reducible refine zV (f := 61) rfl ?_);refine zaF (some 14) rfl rfl Try.func61 (by kernel_rfl) rfl #[.agg #[.int .i64 a0_0,.int .i64 a0_1,.slice A0_2 l0_2.length c0_2,.slice A0_3 l0_3.length c0_3,.int .i64 a0_4,.int .i64 a0_5],.int .i64 a1] rfl hMq ?_;(with_reducible refine (zh.calls k a0_0 a0_1 _ _ l0_2 _ _ l0_3 a0_4 a0_5 a1 false _ ?side1 ?side2 ?side3 ?side4 A3.out).mono ?_);(case side1 => exact hKq (Kd.C_below HR0_2.out HB.out));(case side2 => exact HC0_2.out);(case side3 => exact hKq (Kd.C_below HR0_3.out HB.out));(case side4 => exact HC0_3.out);rintro e w38 ⟨rfl,hb⟩;refine ⟨_,rfl,?_⟩;have n_ := haq (hbq BK229.out hb) <| haq (ze hCq hb) <| trivial;clear BK229 HB;obtain ⟨BK229,HB,_⟩ := n_;(try clear hb);(try clear hb2);(try clear hk);(try clear hi)))
  go_ret2
  exact ⟨hHq,hCq⟩
end Go.Proofs.Ytklhjlaofkngcaa.Px