/- Part 27 of 35 of the proof of the law CertBytes: what is proved is the statement at the end of the last part; its conditions are those of the given row. -/
import Derived.Test.YtfhbeonhnhjikaaGreatZCertBytesV
import Derived.Test.YtfhbeonhnhjikaaGreatZCertBytesZ
namespace Go.Proofs.YtfhbeonhnhjikaaGreat.Px
open Go.RowKit Go.Proofs.YtfhbeonhnhjikaaGreatW.PrintWords Go.Proofs.YtfhbeonhnhjikaaGreatW.PrintLast Go.Proofs.YtfhbeonhnhjikaaGreatW.PrintMore
attribute [local go_sem] zz zB zI zJ zp zq zA zC
set_option linter.unusedVariables false
set_option linter.unusedSimpArgs false
def za5.f (k : Nat) (a0_0 : Int) (a0_1 : Int) (l0_2 : List (S73)) (l0_3 : List ByteArray) (a0_4 : Int) (a0_5 : Int) (a1 : Int) : Option (ByteArray × Int) := (zv.f k a0_0 a0_1 l0_2 l0_3 a0_4 a0_5 a1).bind fun bt145 => (if bt145.2 = 0 then (if 1 + bt145.1.size ≤ 9223372036854775807 then ((zaY.f ((⟨#[118]⟩ : ByteArray) ++ bt145.1)).bind fun t147 => (some (t147,0))) else (none)) else (some ((⟨#[]⟩ : ByteArray),bt145.2)))
set_option maxHeartbeats 8000000 in
set_option maxRecDepth 100000 in
theorem za5.calls (k : Nat) (a0_0 : Int) (a0_1 : Int) (A0_2 : Option Addr) (c0_2 : Nat) (l0_2 : List (S73)) (A0_3 : Option Addr) (c0_3 : Nat) (l0_3 : List ByteArray) (a0_4 : Int) (a0_5 : Int) (a1 : Int) (r1 : ByteArray) (r2 : Int) (w : World) (hr0_2 : Kd.C k73 w A0_2 l0_2.length l0_2) (hc0_2 : l0_2.length ≤ c0_2) (hr0_3 : Kd.C Kd.string w A0_3 l0_3.length l0_3) (hc0_3 : l0_3.length ≤ c0_3) (h : za5.f k a0_0 a0_1 l0_2 l0_3 a0_4 a0_5 a1 = some (r1,r2)) :
  Calls Tryz.prog 11 #[.agg #[.int .i64 a0_0,.int .i64 a0_1,.slice A0_2 l0_2.length c0_2,.slice A0_3 l0_3.length c0_3,.int .i64 a0_4,.int .i64 a0_5],.int .i64 a1] w fun e w' => e = .returned (.tuple #[.string r1,.int .i64 r2]) ∧ Below w.heap.size w w' := by
 have hu27 := Tryz.underlying27
 have HR0_2 := za.mk hr0_2
 have HC0_2 := za.mk hc0_2
 clear hr0_2 hc0_2
 have HR0_3 := za.mk hr0_3
 have HC0_3 := za.mk hc0_3
 clear hr0_3 hc0_3
 have HB := za.mk (Below.refl w.heap.size w)
 have H : ((zv.f k a0_0 a0_1 l0_2 l0_3 a0_4 a0_5 a1).bind fun bt145 => (if bt145.2 = 0 then (if 1 + bt145.1.size ≤ 9223372036854775807 then ((zaY.f ((⟨#[118]⟩ : ByteArray) ++ bt145.1)).bind fun t147 => (some (t147,0))) else (none)) else (some ((⟨#[]⟩ : ByteArray),bt145.2)))) = some (r1,r2) := h
 clear h
 replace H := Option.bind_eq_some_iff.mp H
 obtain ⟨⟨t145,t146⟩,A30,H⟩ := H
 replace H : (if t146 = 0 then (if 1 + t145.size ≤ 9223372036854775807 then ((zaY.f ((⟨#[118]⟩ : ByteArray) ++ t145)).bind fun t147 => (some (t147,0))) else (none)) else (some ((⟨#[]⟩ : ByteArray),t146))) = some (r1,r2) := H
 have A3 := za.mk A30
 clear A30
 by_cases c4 : t146 = 0
 ·rw [if_pos c4] at H
  have c4b0 : (t146 == 0) = true := beq_iff_eq.mpr c4
  have c4b1 : (t146 != 0) = false := bne_eq_false_iff_eq.mpr c4
  clear c4
  by_cases c5 : 1 + t145.size ≤ 9223372036854775807
  ·rw [if_pos c5] at H
   have c5b0 := eq_true c5
   have c5b1 : decide (1 + t145.size ≤ 9223372036854775807) = true := decide_eq_true c5
   try have c5b2 : (9223372036854775807 < 1 + t145.size) = False := eq_false (Nat.not_lt.2 c5)
   replace H := Option.bind_eq_some_iff.mp H
   obtain ⟨t147,A60,H⟩ := H
   replace H : (some (t147,0)) = some (r1,r2) := H
   have A6 := za.mk A60
   clear A60
   simp only [Option.some.injEq,Prod.mk.injEq] at H
   obtain ⟨rfl,rfl⟩ := H
   go_enter Tryz.func11,Tryz.ntmps11
   go_wp2_with (first | ((with_reducible refine zy (N := 2) rfl ?_);refine zo ?hg (N := 2) ?hd (cs := #[.int .i64 a0_0,.int .i64 a0_1,.slice A0_2 l0_2.length c0_2,.slice A0_3 l0_3.length c0_3,.int .i64 a0_4,.int .i64 a0_5]) (t := 27) ?hr ?_;(case hd => rfl);(case hg => rfl);(case hr => first | (go_simp;done) | (go_simp;rfl));intro gb144 hg w7 hbox hb;have n_ := haq (zd hBq hb) <| haq (hbox) <| haq ((by rw [hg];exact (ze hBq) : w.heap.size ≤ gb144)) <| haq ((by rw [hg];exact (ze hBq) : w.heap.size ≤ gb144)) <| trivial;clear HB;obtain ⟨HB,BK144,GW144,GE144,_⟩ := n_;clear hb hbox hg;obtain ⟨hcz8_0,hcz8_1,hcz8_2,hcz8_3,hcz8_4,hcz8_5,hfz8_0,hfz8_1,hfz8_2,hfz8_3,hfz8_4,hfz8_5⟩ := hcq6 BK144.out) | ((with_reducible refine zj (f := 19) rfl ?_);refine zQ (some 11) rfl rfl Tryz.func19 (by kernel_rfl) rfl #[.agg #[.int .i64 a0_0,.int .i64 a0_1,.slice A0_2 l0_2.length c0_2,.slice A0_3 l0_3.length c0_3,.int .i64 a0_4,.int .i64 a0_5],.int .i64 a1] rfl hMq ?_;(with_reducible refine (zv.calls k a0_0 a0_1 _ _ l0_2 _ _ l0_3 a0_4 a0_5 a1 t145 t146 _ ?side1 ?side2 ?side3 ?side4 A3.out).mono ?_);(case side1 => exact hKq (Kd.C_below HR0_2.out HB.out));(case side2 => exact HC0_2.out);(case side3 => exact hKq (Kd.C_below HR0_3.out HB.out));(case side4 => exact HC0_3.out);rintro e w9 ⟨rfl,hb⟩;refine ⟨_,rfl,?_⟩;have n_ := haq (hbq BK144.out hb) <| haq (zd hCq hb) <| trivial;clear BK144 HB;obtain ⟨BK144,HB,_⟩ := n_;(try clear hb);(try clear hb2);(try clear hk);(try clear hi)) | ((with_reducible refine zj (f := 30) rfl ?_);refine zQ (some 19) rfl rfl Tryz.func30 (by kernel_rfl) rfl #[.string ((⟨#[118]⟩ : ByteArray) ++ t145)] rfl hMq ?_;(with_reducible refine (zaY.calls ((⟨#[118]⟩ : ByteArray) ++ t145) t147 _ A6.out).mono ?_);rintro e w10 ⟨rfl,hb⟩;refine ⟨_,rfl,?_⟩;have n_ := haq (hbq BK144.out hb) <| haq (zd hCq hb) <| trivial;clear BK144 HB;obtain ⟨BK144,HB,_⟩ := n_;(try clear hb);(try clear hb2);(try clear hk);(try clear hi)))
   go_ret2
   exact ⟨hHq,hCq⟩
  ·rw [if_neg c5] at H
   exact absurd H (by simp)
 ·rw [if_neg c4] at H
  have c4b0 : (t146 == 0) = false := beq_eq_false_iff_ne.mpr c4
  have c4b1 : (t146 != 0) = true := bne_iff_ne.mpr c4
  simp only [Option.some.injEq,Prod.mk.injEq] at H
  obtain ⟨rfl,rfl⟩ := H
  go_enter Tryz.func11,Tryz.ntmps11
  go_wp2_with (first | ((with_reducible refine zy (N := 2) rfl ?_);refine zo ?hg (N := 2) ?hd (cs := #[.int .i64 a0_0,.int .i64 a0_1,.slice A0_2 l0_2.length c0_2,.slice A0_3 l0_3.length c0_3,.int .i64 a0_4,.int .i64 a0_5]) (t := 27) ?hr ?_;(case hd => rfl);(case hg => rfl);(case hr => first | (go_simp;done) | (go_simp;rfl));intro gb144 hg w11 hbox hb;have n_ := haq (zd hBq hb) <| haq (hbox) <| haq ((by rw [hg];exact (ze hBq) : w.heap.size ≤ gb144)) <| haq ((by rw [hg];exact (ze hBq) : w.heap.size ≤ gb144)) <| trivial;clear HB;obtain ⟨HB,BK144,GW144,GE144,_⟩ := n_;clear hb hbox hg;obtain ⟨hcz12_0,hcz12_1,hcz12_2,hcz12_3,hcz12_4,hcz12_5,hfz12_0,hfz12_1,hfz12_2,hfz12_3,hfz12_4,hfz12_5⟩ := hcq6 BK144.out) | ((with_reducible refine zj (f := 19) rfl ?_);refine zQ (some 11) rfl rfl Tryz.func19 (by kernel_rfl) rfl #[.agg #[.int .i64 a0_0,.int .i64 a0_1,.slice A0_2 l0_2.length c0_2,.slice A0_3 l0_3.length c0_3,.int .i64 a0_4,.int .i64 a0_5],.int .i64 a1] rfl hMq ?_;(with_reducible refine (zv.calls k a0_0 a0_1 _ _ l0_2 _ _ l0_3 a0_4 a0_5 a1 t145 t146 _ ?side1 ?side2 ?side3 ?side4 A3.out).mono ?_);(case side1 => exact hKq (Kd.C_below HR0_2.out HB.out));(case side2 => exact HC0_2.out);(case side3 => exact hKq (Kd.C_below HR0_3.out HB.out));(case side4 => exact HC0_3.out);rintro e w13 ⟨rfl,hb⟩;refine ⟨_,rfl,?_⟩;have n_ := haq (hbq BK144.out hb) <| haq (zd hCq hb) <| trivial;clear BK144 HB;obtain ⟨BK144,HB,_⟩ := n_;(try clear hb);(try clear hb2);(try clear hk);(try clear hi)))
  go_ret2
  exact ⟨hHq,hCq⟩
def zbu.f (k : Nat)  : Option (Bool) := (za5.f k 1 1 ([] : List (S73)) ([] : List ByteArray) 0 0 4).bind fun bt200 => (if 1 + bt200.1.size ≤ 9223372036854775807 then ((some (([(⟨1,(⟨#[121]⟩ : ByteArray) ++ bt200.1⟩ : S45),(⟨2,(⟨#[121]⟩ : ByteArray) ++ bt200.1⟩ : S45),(⟨3,(⟨#[121]⟩ : ByteArray) ++ bt200.1⟩ : S45)] : List (S45)) : List (S45))).bind fun y202 => ((zbg.f k 4 y202 1 1 ([] : List (S73)) ([] : List ByteArray) 0 0 7).bind fun t205 => ((zbg.f k 4 y202 1 1 ([] : List (S73)) ([] : List ByteArray) 0 0 3).bind fun t206 => ((zbl.f bt200.1).bind fun t207 => (if t207.toList = ((⟨#[121]⟩ : ByteArray) ++ bt200.1).toList then (if t205 = 0 then (some (t206 == 2)) else (some false)) else (some false)))))) else (none))
set_option maxHeartbeats 8000000 in
set_option maxRecDepth 100000 in
theorem zbu.calls (k : Nat)  (r : Bool) (w : World) (h : zbu.f k  = some r) :
  Calls Tryz.prog 4 #[] w fun e w' => e = .returned (.bool r) ∧ Below w.heap.size w w' := by
 have hu27 := Tryz.underlying27
 have hu45 := Tryz.underlying45
 have hu30 := Tryz.underlying30
 have HB := za.mk (Below.refl w.heap.size w)
 have H : ((za5.f k 1 1 ([] : List (S73)) ([] : List ByteArray) 0 0 4).bind fun bt200 => (if 1 + bt200.1.size ≤ 9223372036854775807 then ((some (([(⟨1,(⟨#[121]⟩ : ByteArray) ++ bt200.1⟩ : S45),(⟨2,(⟨#[121]⟩ : ByteArray) ++ bt200.1⟩ : S45),(⟨3,(⟨#[121]⟩ : ByteArray) ++ bt200.1⟩ : S45)] : List (S45)) : List (S45))).bind fun y202 => ((zbg.f k 4 y202 1 1 ([] : List (S73)) ([] : List ByteArray) 0 0 7).bind fun t205 => ((zbg.f k 4 y202 1 1 ([] : List (S73)) ([] : List ByteArray) 0 0 3).bind fun t206 => ((zbl.f bt200.1).bind fun t207 => (if t207.toList = ((⟨#[121]⟩ : ByteArray) ++ bt200.1).toList then (if t205 = 0 then (some (t206 == 2)) else (some false)) else (some false)))))) else (none))) = some r := h
 clear h
 replace H := Option.bind_eq_some_iff.mp H
 obtain ⟨⟨t200,t201⟩,A10,H⟩ := H
 replace H : (if 1 + t200.size ≤ 9223372036854775807 then ((some (([(⟨1,(⟨#[121]⟩ : ByteArray) ++ t200⟩ : S45),(⟨2,(⟨#[121]⟩ : ByteArray) ++ t200⟩ : S45),(⟨3,(⟨#[121]⟩ : ByteArray) ++ t200⟩ : S45)] : List (S45)) : List (S45))).bind fun y202 => ((zbg.f k 4 y202 1 1 ([] : List (S73)) ([] : List ByteArray) 0 0 7).bind fun t205 => ((zbg.f k 4 y202 1 1 ([] : List (S73)) ([] : List ByteArray) 0 0 3).bind fun t206 => ((zbl.f t200).bind fun t207 => (if t207.toList = ((⟨#[121]⟩ : ByteArray) ++ t200).toList then (if t205 = 0 then (some (t206 == 2)) else (some false)) else (some false)))))) else (none)) = some r := H
 have A1 := za.mk A10
 clear A10
 by_cases c2 : 1 + t200.size ≤ 9223372036854775807
 focus
  rw [if_pos c2] at H
  have c2b0 := eq_true c2
  have c2b1 : decide (1 + t200.size ≤ 9223372036854775807) = true := decide_eq_true c2
  try have c2b2 : (9223372036854775807 < 1 + t200.size) = False := eq_false (Nat.not_lt.2 c2)
  obtain ⟨y202,hy202⟩ : ∃ y_ : List (S45),y_ = (([(⟨1,(⟨#[121]⟩ : ByteArray) ++ t200⟩ : S45),(⟨2,(⟨#[121]⟩ : ByteArray) ++ t200⟩ : S45),(⟨3,(⟨#[121]⟩ : ByteArray) ++ t200⟩ : S45)] : List (S45))) := ⟨_,rfl⟩
  replace H : ((zbg.f k 4 y202 1 1 ([] : List (S73)) ([] : List ByteArray) 0 0 7).bind fun t205 => ((zbg.f k 4 y202 1 1 ([] : List (S73)) ([] : List ByteArray) 0 0 3).bind fun t206 => ((zbl.f t200).bind fun t207 => (if t207.toList = ((⟨#[121]⟩ : ByteArray) ++ t200).toList then (if t205 = 0 then (some (t206 == 2)) else (some false)) else (some false))))) = some r := by first | (rw [hy202];with_reducible exact H) | (have H2_ := (Option.bind_some _ _).symm.trans H;rw [hy202];with_reducible exact H2_) | (have H2_ := (Option.bind_some _ _).symm.trans H;with_reducible exact H2_) | with_reducible exact H | (rw [hy202];exact H) | exact H
  have Ny202 := za.mk hy202
  clear hy202
  replace H := Option.bind_eq_some_iff.mp H
  obtain ⟨t205,A30,H⟩ := H
  replace H : ((zbg.f k 4 y202 1 1 ([] : List (S73)) ([] : List ByteArray) 0 0 3).bind fun t206 => ((zbl.f t200).bind fun t207 => (if t207.toList = ((⟨#[121]⟩ : ByteArray) ++ t200).toList then (if t205 = 0 then (some (t206 == 2)) else (some false)) else (some false)))) = some r := H
  have A3 := za.mk A30
  clear A30
  replace H := Option.bind_eq_some_iff.mp H
  obtain ⟨t206,A40,H⟩ := H
  replace H : ((zbl.f t200).bind fun t207 => (if t207.toList = ((⟨#[121]⟩ : ByteArray) ++ t200).toList then (if t205 = 0 then (some (t206 == 2)) else (some false)) else (some false))) = some r := H
  have A4 := za.mk A40
  clear A40
  replace H := Option.bind_eq_some_iff.mp H
  obtain ⟨t207,A50,H⟩ := H
  replace H : (if t207.toList = ((⟨#[121]⟩ : ByteArray) ++ t200).toList then (if t205 = 0 then (some (t206 == 2)) else (some false)) else (some false)) = some r := H
  have A5 := za.mk A50
  clear A50
  by_cases c6 : t207.toList = ((⟨#[121]⟩ : ByteArray) ++ t200).toList
  focus
   rw [if_pos c6] at H
   have c6b0 : (t207.toList == ((⟨#[121]⟩ : ByteArray) ++ t200).toList) = true := beq_iff_eq.mpr c6
   have c6b1 : (t207.toList != ((⟨#[121]⟩ : ByteArray) ++ t200).toList) = false := bne_eq_false_iff_eq.mpr c6
   clear c6
   by_cases c7 : t205 = 0
   focus
    rw [if_pos c7] at H
    have c7b0 : (t205 == 0) = true := beq_iff_eq.mpr c7
    have c7b1 : (t205 != 0) = false := bne_eq_false_iff_eq.mpr c7
    clear c7
    obtain rfl := Option.some.inj H
   rotate_left
   focus
    rw [if_neg c7] at H
    have c7b0 : (t205 == 0) = false := beq_eq_false_iff_ne.mpr c7
    have c7b1 : (t205 != 0) = true := bne_iff_ne.mpr c7
    obtain rfl := Option.some.inj H
  rotate_left 2
  focus
   rw [if_neg c6] at H
   have c6b0 : (t207.toList == ((⟨#[121]⟩ : ByteArray) ++ t200).toList) = false := beq_eq_false_iff_ne.mpr c6
   have c6b1 : (t207.toList != ((⟨#[121]⟩ : ByteArray) ++ t200).toList) = true := bne_iff_ne.mpr c6
   obtain rfl := Option.some.inj H
 rotate_left 3
 ·rw [if_neg c2] at H
  exact absurd H (by simp)
 all_goals
  go_enter Tryz.func4,Tryz.ntmps4
  go_wp2_with (first | ((with_reducible refine zy (N := 1) rfl ?_);refine zo ?hg (N := 1) ?hd (cs := #[.int .i64 0,.int .i64 0,.slice none 0 0,.slice none 0 0,.int .i64 0,.int .i64 0]) (t := 27) ?hr ?_;(case hd => rfl);(case hg => rfl);(case hr => first | (go_simp;done) | (go_simp;rfl));intro gb199 hg wQN12 hbox hb;have n_ := haq (zd hBq hb) <| haq (hbox) <| haq ((by rw [hg];exact (ze hBq) : w.heap.size ≤ gb199)) <| haq ((by rw [hg];exact (ze hBq) : w.heap.size ≤ gb199)) <| trivial;clear HB;obtain ⟨HB,BK199,GW199,GE199,_⟩ := n_;clear hb hbox hg;obtain ⟨hczQN16,hczQN17,hczQN18,hczQN19,hczQN110,hczQN111,hfzQN112,hfzQN113,hfzQN114,hfzQN115,hfzQN116,hfzQN117⟩ := hcq6 BK199.out) | ((with_reducible refine zj (f := 11) rfl ?_);refine zQ (some 10) rfl rfl Tryz.func11 (by kernel_rfl) rfl #[.agg #[.int .i64 1,.int .i64 1,.slice none 0 0,.slice none 0 0,.int .i64 0,.int .i64 0],.int .i64 4] rfl hMq ?_;(refine (za5.calls k 1 1 _ _ ([] : List (S73)) _ _ ([] : List ByteArray) 0 0 4 t200 t201 _ ?side1 ?side2 ?side3 ?side4 A1.out).mono ?_);(case side1 => exact Kd.C_nil _ _);(case side2 => exact Nat.le_refl _);(case side3 => exact Kd.C_nil _ _);(case side4 => exact Nat.le_refl _);rintro e wQF11A11 ⟨rfl,hb⟩;refine ⟨_,rfl,?_⟩;have n_ := haq (zx (g := gb199) (o := .cells #[.int .i64 1,.int .i64 1,.slice none 0 0,.slice none 0 0,.int .i64 0,.int .i64 0] 27 (0,0)) (hxq0p BK199.out) hb) <| haq (zd hCq hb) <| trivial;clear BK199 HB;obtain ⟨BK199,HB,_⟩ := n_;(try clear hb);(try clear hb2);(try clear hk);(try clear hi)) | ((with_reducible refine zy (N := 22) rfl ?_);refine Kd.R_lit k45 _ 45 ?hg (N := 22) ?hd (xs := ([(⟨1,(⟨#[121]⟩ : ByteArray) ++ t200⟩ : S45),(⟨2,(⟨#[121]⟩ : ByteArray) ++ t200⟩ : S45),(⟨3,(⟨#[121]⟩ : ByteArray) ++ t200⟩ : S45)] : List (S45))) (inner := [.int .i64 1,.string ((⟨#[121]⟩ : ByteArray) ++ t200),.int .i64 2,.string ((⟨#[121]⟩ : ByteArray) ++ t200),.int .i64 3,.string ((⟨#[121]⟩ : ByteArray) ++ t200)]) (ok := fun _ => True) (okp := fun _ => True) ?hr ?hp (fun _ hk => hk) trivial (Below.refl _ _) (Nat.le_refl _) (by simp) ?_;(case hd => rfl);(case hg => rfl);(case hr => first | (go_simp;done) | (go_simp;rfl));(case hp => exact (za2.c2 (show Kd.M k45 _ _ _ (⟨1,(⟨#[121]⟩ : ByteArray) ++ t200⟩ : S45) [.int .i64 1,.string ((⟨#[121]⟩ : ByteArray) ++ t200)] from (zhT _ _ _ (⟨1,(⟨#[121]⟩ : ByteArray) ++ t200⟩ : S45) )) (za2.c2 (show Kd.M k45 _ _ _ (⟨2,(⟨#[121]⟩ : ByteArray) ++ t200⟩ : S45) [.int .i64 2,.string ((⟨#[121]⟩ : ByteArray) ++ t200)] from (zhT _ _ _ (⟨2,(⟨#[121]⟩ : ByteArray) ++ t200⟩ : S45) )) (za2.c2 (show Kd.M k45 _ _ _ (⟨3,(⟨#[121]⟩ : ByteArray) ++ t200⟩ : S45) [.int .i64 3,.string ((⟨#[121]⟩ : ByteArray) ++ t200)] from (zhT _ _ _ (⟨3,(⟨#[121]⟩ : ByteArray) ++ t200⟩ : S45) )) (za2.none _ _)))));intro vQN221 wQN222 hoQN223 hb hg_ hnew_;clear hg_ hnew_;(first | rw [← Ny202.out] at hoQN223 | (simp only [Int.reduceToNat] at hoQN223;rw [← Ny202.out] at hoQN223));have n_ := haq (Kd.R_lower hoQN223 (ze hCq)) <| haq (hbq BK199.out hb) <| haq (zd hCq hb) <| trivial;clear BK199 HB;obtain ⟨HOQN224,BK199,HB,_⟩ := n_;clear hb hoQN223;obtain ⟨hczQN226,hczQN227,hczQN228,hczQN229,hczQN2210,hczQN2211,hfzQN2212,hfzQN2213,hfzQN2214,hfzQN2215,hfzQN2216,hfzQN2217⟩ := hcq6 BK199.out;obtain ⟨AoQN2218,coQN2219,eoQN2220⟩ := Kd.R_slice HOQN224.out;subst eoQN2220) | ((with_reducible refine zj (f := 12) rfl ?_);refine zQ (some 26) rfl rfl Tryz.func12 (by kernel_rfl) rfl #[.int .i64 4,.slice AoQN2218 y202.length coQN2219,.agg #[.int .i64 1,.int .i64 1,.slice none 0 0,.slice none 0 0,.int .i64 0,.int .i64 0,.int .u64 7]] rfl hMq ?_;(refine (zbg.calls k 4 _ _ y202 1 1 _ _ ([] : List (S73)) _ _ ([] : List ByteArray) 0 0 7 t205 _ ?side1 ?side2 ?side3 ?side4 ?side5 ?side6 A3.out).mono ?_);(case side1 => repeat (first | exact (Kd.R_reads' HOQN224.out).2.2 | (with_reducible refine Kd.C_alloc ?_ _) | (with_reducible refine Kd.C_drewN ?_ _) | (with_reducible refine Kd.C_drew ?_)));(case side2 => exact (Kd.R_reads' HOQN224.out).2.1);(case side3 => exact Kd.C_nil _ _);(case side4 => exact Nat.le_refl _);(case side5 => exact Kd.C_nil _ _);(case side6 => exact Nat.le_refl _);rintro e wQF12A31 ⟨rfl,hb⟩;refine ⟨_,rfl,?_⟩;have n_ := haq (Kd.R_below (hRq HOQN224.out) hb) <| haq (hbq BK199.out hb) <| haq (zd hCq hb) <| trivial;clear HOQN224 BK199 HB;obtain ⟨HOQN224,BK199,HB,_⟩ := n_;(try clear hb);(try clear hb2);(try clear hk);(try clear hi);obtain ⟨hczQF12A34,hczQF12A35,hczQF12A36,hczQF12A37,hczQF12A38,hczQF12A39,hfzQF12A310,hfzQF12A311,hfzQF12A312,hfzQF12A313,hfzQF12A314,hfzQF12A315⟩ := hcq6 BK199.out) | ((with_reducible refine zj (f := 12) rfl ?_);refine zQ (some 30) rfl rfl Tryz.func12 (by kernel_rfl) rfl #[.int .i64 4,.slice AoQN2218 y202.length coQN2219,.agg #[.int .i64 1,.int .i64 1,.slice none 0 0,.slice none 0 0,.int .i64 0,.int .i64 0,.int .u64 3]] rfl hMq ?_;(refine (zbg.calls k 4 _ _ y202 1 1 _ _ ([] : List (S73)) _ _ ([] : List ByteArray) 0 0 3 t206 _ ?side1 ?side2 ?side3 ?side4 ?side5 ?side6 A4.out).mono ?_);(case side1 => repeat (first | exact (Kd.R_reads' HOQN224.out).2.2 | (with_reducible refine Kd.C_alloc ?_ _) | (with_reducible refine Kd.C_drewN ?_ _) | (with_reducible refine Kd.C_drew ?_)));(case side2 => exact (Kd.R_reads' HOQN224.out).2.1);(case side3 => exact Kd.C_nil _ _);(case side4 => exact Nat.le_refl _);(case side5 => exact Kd.C_nil _ _);(case side6 => exact Nat.le_refl _);rintro e wQF12A41 ⟨rfl,hb⟩;refine ⟨_,rfl,?_⟩;have n_ := haq (Kd.R_below (hRq HOQN224.out) hb) <| haq (hbq BK199.out hb) <| haq (zd hCq hb) <| trivial;clear HOQN224 BK199 HB;obtain ⟨HOQN224,BK199,HB,_⟩ := n_;(try clear hb);(try clear hb2);(try clear hk);(try clear hi)) | ((with_reducible refine zj (f := 13) rfl ?_);refine zQ (some 32) rfl rfl Tryz.func13 (by kernel_rfl) rfl #[.string t200] rfl hMq ?_;(with_reducible refine (zbl.calls t200 t207 _ A5.out).mono ?_);rintro e w' ⟨rfl,⟨nd,rfl⟩⟩;refine ⟨_,rfl,?_⟩))
  go_ret
  exact ⟨hHq,hCq⟩
def zZ.l0 : Nat → Int → List Int → Int → Option (List Int)
 | 0,_,_,_ => none
 | k + 1,x0,x3,x4 => if x4 ≤ 64 then (if (Int.tmod x0 2) = 1 then (if x3.length < 17592186044416 then (zZ.l0 k (IntKind.u64.wrap (Int.tdiv x0 2)) (x3 ++ [x4]) (wrap64 (x4 + 1))) else (none)) else (zZ.l0 k (IntKind.u64.wrap (Int.tdiv x0 2)) x3 (wrap64 (x4 + 1)))) else (some x3)
def zZ.f (k : Nat) (a0 : Int) : Option (List Int) := zZ.l0 k a0 ([] : List Int) 1
set_option maxHeartbeats 8000000 in
set_option maxRecDepth 100000 in
theorem zZ.calls (k : Nat) (a0 : Int) (r : List Int) (w : World) (h : zZ.f k a0 = some r) :
  Calls Tryz.prog 80 #[.int .u64 a0] w fun e w' => ∃ v0_ : Value,e = .returned (v0_) ∧ Kd.R (Kd.int .i64) 3 w' w.heap.size (fun _ => True) v0_ r ∧ Below w.heap.size w w' := by
 have HB := za.mk (Below.refl w.heap.size w)
 have H : (zZ.l0 k a0 ([] : List Int) 1) = some r := h
 clear h
 have H' := za.mk H
 clear H
 go_enter Tryz.func80,Tryz.ntmps80
 go_wp2
 go_loopg [0,3,4] k (fun kq v0 v3 v4 w' => ∃ (x0_1 : Int) (x3_1 : List Int) (x4_1 : Int),v0 = .int .u64 x0_1 ∧ v4 = .int .i64 x4_1 ∧ za (zZ.l0 kq x0_1 x3_1 x4_1 = some r) ∧ za (kq ≤ k) ∧ za (Kd.R (Kd.int .i64) 3 w' w.heap.size (fun _ => True) v3 x3_1) ∧ za (Below w.heap.size w w'))
 case atStart => exact ⟨(a0),(([] : List Int)),(1),(hDq),(hDq),H',⟨Nat.le_refl _⟩,⟨by first | exact Kd.R_nil _ _ _ _ _ | exact Kd.N_nil _ _ _ _ _ | exact Kd.V_nil _ _ _ _ _ | exact Kd.Q_nil _ _ _ _ _ | exact Kd.S_nil _ _ _ _ _⟩,⟨by repeat (first | (with_reducible first | exact HB.out | apply zk | apply zf | apply zm) | exact HB.out)⟩⟩
 case round =>
  clear H'
  obtain ⟨x0_1,x3_1,x4_1,rfl,rfl,HA,HK1,HO_3,HB⟩ := hrel
  cases gk with
  | zero => exact absurd HA.out (by simp [zZ.l0])
  | succ k1 =>
   have H := HA.out
   clear HA
   simp only [zZ.l0] at H
   by_cases c2 : x4_1 ≤ 64
   ·rw [if_pos c2] at H
    have c2b0 : decide (x4_1 ≤ 64) = true := decide_eq_true c2
    clear c2
    by_cases c3 : (Int.tmod x0_1 2) = 1
    ·rw [if_pos c3] at H
     have c3b0 : ((Int.tmod x0_1 2) == 1) = true := beq_iff_eq.mpr c3
     have c3b1 : ((Int.tmod x0_1 2) != 1) = false := bne_eq_false_iff_eq.mpr c3
     clear c3
     by_cases c4 : x3_1.length < 17592186044416
     ·rw [if_pos c4] at H
      have LMc4 := za.mk c4
      clear c4
      obtain ⟨y214,hy214⟩ : ∃ y_ : List Int,y_ = (x3_1 ++ [x4_1]) := ⟨_,rfl⟩
      replace H : (zZ.l0 k1 (IntKind.u64.wrap (Int.tdiv x0_1 2)) y214 (wrap64 (x4_1 + 1))) = some r := by first | (rw [hy214];with_reducible exact H) | (have H2_ := (Option.bind_some _ _).symm.trans H;rw [hy214];with_reducible exact H2_) | (have H2_ := (Option.bind_some _ _).symm.trans H;with_reducible exact H2_) | with_reducible exact H | (rw [hy214];exact H) | exact H
      have Ny214 := za.mk hy214
      clear hy214
      have H' := za.mk H
      clear H
      go_wp2_with (first | ((with_reducible refine zcN (b := .append) (xs := #[.tmp 12,.tmp 14]) rfl ?_);at_builtin;refine Kd.R_append (Kd.int .i64) (w0 := w) w.heap.size rfl (.tmp 12) (.tmp 14) 77 3 (.int .i64 0) 8 rfl Tryz.underlying77 info3 rfl (by decide) (by omega) u3 x3_1 x4_1 [.int .i64 x4_1] (fun _ => True) (fun _ => False) rfl rfl ?aP (fun _ hk => hk.elim) ?aF ?aO ?aB ?aS ?aL ?_;(case aP => exact rfl);(case aB => exact hBq);(case aF => exact (fun _ _ => trivial));(case aO => exact (hRq HO_3.out));(case aS => exact (ze hBq));(case aL => have := LMc4.out;omega);intro v215 w5 ho hb hg hat;rw [← Ny214.out] at ho;have n_ := haq (hb) <| haq (ho) <| trivial;clear HB HO_3;obtain ⟨HB,HO216,_⟩ := n_;clear ho hb hg hat))
      go_roundg k1
      case measure => have := HK1.out;omega
      case rel => exact ⟨(IntKind.u64.wrap (Int.tdiv x0_1 2)),(y214),(wrap64 (x4_1 + 1)),(hDq),(hDq),H',⟨by have := HK1.out;omega⟩,⟨by (with_reducible repeat (first | apply Kd.R_alloc | apply Kd.R_drewN | apply Kd.R_drew));exact HO216.out⟩,⟨by repeat (first | (with_reducible first | exact HB.out | apply zk | apply zf | apply zm) | exact HB.out)⟩⟩
     ·rw [if_neg c4] at H
      exact absurd H (by simp)
    ·rw [if_neg c3] at H
     have c3b0 : ((Int.tmod x0_1 2) == 1) = false := beq_eq_false_iff_ne.mpr c3
     have c3b1 : ((Int.tmod x0_1 2) != 1) = true := bne_iff_ne.mpr c3
     have H' := za.mk H
     clear H
     go_wp2
     go_roundg k1
     case measure => have := HK1.out;omega
     case rel => exact ⟨(IntKind.u64.wrap (Int.tdiv x0_1 2)),(x3_1),(wrap64 (x4_1 + 1)),(hDq),(hDq),H',⟨by have := HK1.out;omega⟩,⟨by (with_reducible repeat (first | apply Kd.R_alloc | apply Kd.R_drewN | apply Kd.R_drew));exact HO_3.out⟩,⟨by repeat (first | (with_reducible first | exact HB.out | apply zk | apply zf | apply zm) | exact HB.out)⟩⟩
   ·rw [if_neg c2] at H
    have c2b0 : decide (x4_1 ≤ 64) = false := decide_eq_false c2
    clear c2
    obtain rfl := Option.some.inj H
    go_wp2
    go_ret
    exact ⟨_,hHq,by (with_reducible repeat (first | apply Kd.R_alloc | apply Kd.R_drewN | apply Kd.R_drew));exact HO_3.out,hBq⟩
def zaI.f (k : Nat) (a0 : Int) : Option (Int) := (zZ.f k a0).bind fun t221 => (some (t221.length : Int))
set_option maxHeartbeats 8000000 in
set_option maxRecDepth 100000 in
theorem zaI.calls (k : Nat) (a0 : Int) (r : Int) (w : World) (h : zaI.f k a0 = some r) :
  Calls Tryz.prog 45 #[.int .u64 a0] w fun e w' => e = .returned (.int .i64 r) ∧ Below w.heap.size w w' := by
 have HB := za.mk (Below.refl w.heap.size w)
 have H : ((zZ.f k a0).bind fun t221 => (some (t221.length : Int))) = some r := h
 clear h
 replace H := Option.bind_eq_some_iff.mp H
 obtain ⟨t221,A20,H⟩ := H
 replace H : (some (t221.length : Int)) = some r := H
 have A2 := za.mk A20
 clear A20
 obtain rfl := Option.some.inj H
 go_enter Tryz.func45,Tryz.ntmps45
 go_wp2_with (first | ((with_reducible refine zj (f := 80) rfl ?_);refine zQ (some 5) rfl rfl Tryz.func80 (by kernel_rfl) rfl #[.int .u64 a0] rfl hMq ?_;(with_reducible refine (zZ.calls k a0 t221 _ A2.out).mono ?_);rintro e w3 ⟨v222,rfl,ho0,hb⟩;refine ⟨_,rfl,?_⟩;have n_ := haq (Kd.R_lower ho0 (ze hBq)) <| haq (zd hBq hb) <| trivial;clear HB;obtain ⟨HO223,HB,_⟩ := n_;(try clear hb);(try clear hb2);(try clear hk);(try clear hi);(try clear ho0);obtain ⟨Ao4,co4,eo4⟩ := Kd.R_slice HO223.out;subst eo4))
 go_ret
 exact ⟨hHq,hBq⟩
def zaM.f (k : Nat) (a0 : Int) (a1 : Int) : Option (Bool) := if a1 < 0 then (some false) else (if a1 > 64 then (some false) else ((zZ.f k a0).bind fun t217 => (if (t217.length : Int) = 0 then (some true) else (if 0 ≤ (wrap64 ((t217.length : Int) - 1)) then (if (wrap64 ((t217.length : Int) - 1)) < (t217.length : Int) then (some (decide ((rd t217 (wrap64 ((t217.length : Int) - 1))) ≤ a1))) else (none)) else (none)))))
set_option maxHeartbeats 8000000 in
set_option maxRecDepth 100000 in
theorem zaM.calls (k : Nat) (a0 : Int) (a1 : Int) (r : Bool) (w : World) (h : zaM.f k a0 a1 = some r) :
  Calls Tryz.prog 44 #[.int .u64 a0,.int .i64 a1] w fun e w' => e = .returned (.bool r) ∧ Below w.heap.size w w' := by
 have HB := za.mk (Below.refl w.heap.size w)
 have H : (if a1 < 0 then (some false) else (if a1 > 64 then (some false) else ((zZ.f k a0).bind fun t217 => (if (t217.length : Int) = 0 then (some true) else (if 0 ≤ (wrap64 ((t217.length : Int) - 1)) then (if (wrap64 ((t217.length : Int) - 1)) < (t217.length : Int) then (some (decide ((rd t217 (wrap64 ((t217.length : Int) - 1))) ≤ a1))) else (none)) else (none)))))) = some r := h
 clear h
 by_cases c3 : a1 < 0
 ·rw [if_pos c3] at H
  have c3b0 : decide (a1 < 0) = true := decide_eq_true c3
  clear c3
  obtain rfl := Option.some.inj H
  go_enter Tryz.func44,Tryz.ntmps44
  go_wp2
  go_ret
  exact ⟨hHq,hBq⟩
 ·rw [if_neg c3] at H
  have c3b0 : decide (a1 < 0) = false := decide_eq_false c3
  clear c3
  by_cases c4 : a1 > 64
  ·rw [if_pos c4] at H
   have c4b0 : decide (64 < a1) = true := decide_eq_true c4
   clear c4
   obtain rfl := Option.some.inj H
   go_enter Tryz.func44,Tryz.ntmps44
   go_wp2
   go_ret
   exact ⟨hHq,hBq⟩
  ·rw [if_neg c4] at H
   have c4b0 : decide (64 < a1) = false := decide_eq_false c4
   clear c4
   replace H := Option.bind_eq_some_iff.mp H
   obtain ⟨t217,A50,H⟩ := H
   replace H : (if (t217.length : Int) = 0 then (some true) else (if 0 ≤ (wrap64 ((t217.length : Int) - 1)) then (if (wrap64 ((t217.length : Int) - 1)) < (t217.length : Int) then (some (decide ((rd t217 (wrap64 ((t217.length : Int) - 1))) ≤ a1))) else (none)) else (none))) = some r := H
   have A5 := za.mk A50
   clear A50
   by_cases c6 : (t217.length : Int) = 0
   ·rw [if_pos c6] at H
    have c6b0 : ((t217.length : Int) == 0) = true := beq_iff_eq.mpr c6
    have c6b1 : ((t217.length : Int) != 0) = false := bne_eq_false_iff_eq.mpr c6
    clear c6
    obtain rfl := Option.some.inj H
    go_enter Tryz.func44,Tryz.ntmps44
    go_wp2_with (first | ((with_reducible refine zj (f := 80) rfl ?_);refine zQ (some 13) rfl rfl Tryz.func80 (by kernel_rfl) rfl #[.int .u64 a0] rfl hMq ?_;(with_reducible refine (zZ.calls k a0 t217 _ A5.out).mono ?_);rintro e w7 ⟨v218,rfl,ho0,hb⟩;refine ⟨_,rfl,?_⟩;have n_ := haq (Kd.R_lower ho0 (ze hBq)) <| haq (zd hBq hb) <| trivial;clear HB;obtain ⟨HO219,HB,_⟩ := n_;(try clear hb);(try clear hb2);(try clear hk);(try clear hi);(try clear ho0);obtain ⟨Ao8,co8,eo8⟩ := Kd.R_slice HO219.out;subst eo8))
    go_ret
    exact ⟨hHq,hBq⟩
   ·rw [if_neg c6] at H
    have c6b0 : ((t217.length : Int) == 0) = false := beq_eq_false_iff_ne.mpr c6
    have c6b1 : ((t217.length : Int) != 0) = true := bne_iff_ne.mpr c6
    have c6b2 : ¬ (t217 = []) := fun h_ => c6 (by rw [h_];rfl)
    obtain ⟨ji9,hji9⟩ : ∃ j_ : Int,(wrap64 ((t217.length : Int) - 1)) = j_ := ⟨_,rfl⟩
    replace H : (if 0 ≤ (ji9) then (if (ji9) < (t217.length : Int) then (some (decide ((rd t217 (ji9)) ≤ a1))) else (none)) else (none)) = some r := by first | (rw [hji9] at H;exact H) | (simp only [hji9] at H ⊢;exact H)
    (try rw [hji9] at A5)
    have hji9w : (IntKind.i64.wrap ((t217.length : Int) - 1)) = ji9 := (zK _).trans hji9
    by_cases c10 : 0 ≤ (ji9)
    ·rw [if_pos c10] at H
     have c10b0 : decide (0 ≤ (ji9)) = true := decide_eq_true c10
     clear c10
     by_cases c11 : (ji9) < (t217.length : Int)
     ·rw [if_pos c11] at H
      have c11b0 : decide ((ji9) < (t217.length : Int)) = true := decide_eq_true c11
      clear c11
      obtain rfl := Option.some.inj H
      go_enter Tryz.func44,Tryz.ntmps44
      go_wp2_with (first | ((with_reducible refine zj (f := 80) rfl ?_);refine zQ (some 13) rfl rfl Tryz.func80 (by kernel_rfl) rfl #[.int .u64 a0] rfl hMq ?_;(with_reducible refine (zZ.calls k a0 t217 _ A5.out).mono ?_);rintro e w12 ⟨v218,rfl,ho0,hb⟩;refine ⟨_,rfl,?_⟩;have n_ := haq (Kd.R_lower ho0 (ze hBq)) <| haq (zd hBq hb) <| trivial;clear HB;obtain ⟨HO219,HB,_⟩ := n_;(try clear hb);(try clear hb2);(try clear hk);(try clear hi);(try clear ho0);obtain ⟨Ao13,co13,eo13⟩ := Kd.R_slice HO219.out;subst eo13;have p220 : 0 ≤ ((ji9) : Int) := hFq;have q220 : (ji9) < (t217.length : Int) := hFq;obtain ⟨ad220,e220,hx220_0⟩ := Kd.at_int (Kd.R_reads' HO219.out).2.2 (ji9) p220 q220;cases e220;replace p220 := eq_true p220;replace q220 := eq_true q220))
      go_ret
      exact ⟨by first | rfl | (simp [zbm,zbn] <;> rfl) | (simp only [← hji9];first | rfl | (simp [zbm,zbn] <;> rfl)) | (simp [*,zbm,zbn] <;> rfl),hBq⟩
     ·rw [if_neg c11] at H
      exact absurd H (by simp)
    ·rw [if_neg c10] at H
     exact absurd H (by simp)
def zay.f (k : Nat) (a0_0 : Int) (a0_1 : Int) (l0_2 : List (S73)) (l0_3 : List ByteArray) (a0_4 : Int) (a0_5 : Int) (a0_6 : Int) (a1 : Int) : Option (Int) := (zg.f k a0_0 a0_1 l0_2 l0_3 a0_4 a0_5 a1).bind fun t225 => (if t225 = true then ((zaM.f k a0_6 a1).bind fun t226 => (if t226 = true then ((zaI.f k a0_6).bind fun t227 => ((zY.f a1).bind fun t228 => (if t227 < t228 then (some 2) else (some 0)))) else (some 4))) else (some 1))
set_option maxHeartbeats 8000000 in
set_option maxRecDepth 100000 in
theorem zay.calls (k : Nat) (a0_0 : Int) (a0_1 : Int) (A0_2 : Option Addr) (c0_2 : Nat) (l0_2 : List (S73)) (A0_3 : Option Addr) (c0_3 : Nat) (l0_3 : List ByteArray) (a0_4 : Int) (a0_5 : Int) (a0_6 : Int) (a1 : Int) (r : Int) (w : World) (hr0_2 : Kd.C k73 w A0_2 l0_2.length l0_2) (hc0_2 : l0_2.length ≤ c0_2) (hr0_3 : Kd.C Kd.string w A0_3 l0_3.length l0_3) (hc0_3 : l0_3.length ≤ c0_3) (h : zay.f k a0_0 a0_1 l0_2 l0_3 a0_4 a0_5 a0_6 a1 = some r) :
  Calls Tryz.prog 18 #[.agg #[.int .i64 a0_0,.int .i64 a0_1,.slice A0_2 l0_2.length c0_2,.slice A0_3 l0_3.length c0_3,.int .i64 a0_4,.int .i64 a0_5,.int .u64 a0_6],.int .i64 a1] w fun e w' => e = .returned (.int .i64 r) ∧ Below w.heap.size w w' := by
 have hu30 := Tryz.underlying30
 have hu27 := Tryz.underlying27
 have HR0_2 := za.mk hr0_2
 have HC0_2 := za.mk hc0_2
 clear hr0_2 hc0_2
 have HR0_3 := za.mk hr0_3
 have HC0_3 := za.mk hc0_3
 clear hr0_3 hc0_3
 have HB := za.mk (Below.refl w.heap.size w)
 have H : ((zg.f k a0_0 a0_1 l0_2 l0_3 a0_4 a0_5 a1).bind fun t225 => (if t225 = true then ((zaM.f k a0_6 a1).bind fun t226 => (if t226 = true then ((zaI.f k a0_6).bind fun t227 => ((zY.f a1).bind fun t228 => (if t227 < t228 then (some 2) else (some 0)))) else (some 4))) else (some 1))) = some r := h
 clear h
 replace H := Option.bind_eq_some_iff.mp H
 obtain ⟨t225,A30,H⟩ := H
 replace H : (if t225 = true then ((zaM.f k a0_6 a1).bind fun t226 => (if t226 = true then ((zaI.f k a0_6).bind fun t227 => ((zY.f a1).bind fun t228 => (if t227 < t228 then (some 2) else (some 0)))) else (some 4))) else (some 1)) = some r := H
 have A3 := za.mk A30
 clear A30
 by_cases c4 : t225 = true
 focus
  subst c4
  have H1 : ((zaM.f k a0_6 a1).bind fun t226 => (if t226 = true then ((zaI.f k a0_6).bind fun t227 => ((zY.f a1).bind fun t228 => (if t227 < t228 then (some 2) else (some 0)))) else (some 4))) = some r := by rw [if_pos rfl] at H;exact H
  clear H
  have H := H1
  clear H1
  replace H := Option.bind_eq_some_iff.mp H
  obtain ⟨t226,A50,H⟩ := H
  replace H : (if t226 = true then ((zaI.f k a0_6).bind fun t227 => ((zY.f a1).bind fun t228 => (if t227 < t228 then (some 2) else (some 0)))) else (some 4)) = some r := H
  have A5 := za.mk A50
  clear A50
  by_cases c6 : t226 = true
  focus
   subst c6
   have H1 : ((zaI.f k a0_6).bind fun t227 => ((zY.f a1).bind fun t228 => (if t227 < t228 then (some 2) else (some 0)))) = some r := by rw [if_pos rfl] at H;exact H
   clear H
   have H := H1
   clear H1
   replace H := Option.bind_eq_some_iff.mp H
   obtain ⟨t227,A70,H⟩ := H
   replace H : ((zY.f a1).bind fun t228 => (if t227 < t228 then (some 2) else (some 0))) = some r := H
   have A7 := za.mk A70
   clear A70
   replace H := Option.bind_eq_some_iff.mp H
   obtain ⟨t228,A80,H⟩ := H
   replace H : (if t227 < t228 then (some 2) else (some 0)) = some r := H
   have A8 := za.mk A80
   clear A80
   by_cases c9 : t227 < t228
   focus
    rw [if_pos c9] at H
    have c9b0 : decide (t227 < t228) = true := decide_eq_true c9
    clear c9
    obtain rfl := Option.some.inj H
    have EQ0 := True.intro
    have EQ1 := True.intro
   rotate_left
   focus
    rw [if_neg c9] at H
    have c9b0 : decide (t227 < t228) = false := decide_eq_false c9
    clear c9
    obtain rfl := Option.some.inj H
    have EQ0 := True.intro
    have EQ1 := True.intro
  rotate_left 2
  focus
   replace c6 := Bool.eq_false_iff.mpr c6
   subst c6
   have H1 : (some 4) = some r := by rw [if_neg (show ¬ (false = true) by decide)] at H;exact H
   clear H
   have H := H1
   clear H1
   obtain rfl := Option.some.inj H
   have EQ0 := True.intro
   have EQ2 := True.intro
 rotate_left 3
 focus
  replace c4 := Bool.eq_false_iff.mpr c4
  subst c4
  have H1 : (some 1) = some r := by rw [if_neg (show ¬ (false = true) by decide)] at H;exact H
  clear H
  have H := H1
  clear H1
  obtain rfl := Option.some.inj H
  have EQ3 := True.intro
 all_goals
  go_enter Tryz.func18,Tryz.ntmps18
  go_wp2_with (first | ((with_reducible refine zy (N := 2) rfl ?_);refine zo ?hg (N := 2) ?hd (cs := #[.int .i64 a0_0,.int .i64 a0_1,.slice A0_2 l0_2.length c0_2,.slice A0_3 l0_3.length c0_3,.int .i64 a0_4,.int .i64 a0_5,.int .u64 a0_6]) (t := 30) ?hr ?_;(case hd => rfl);(case hg => rfl);(case hr => first | (go_simp;done) | (go_simp;rfl));intro gb224 hg wQN22 hbox hb;have n_ := haq (zd hBq hb) <| haq (hbox) <| haq ((by rw [hg];exact (ze hBq) : w.heap.size ≤ gb224)) <| haq ((by rw [hg];exact (ze hBq) : w.heap.size ≤ gb224)) <| trivial;clear HB;obtain ⟨HB,BK224,GW224,GE224,_⟩ := n_;clear hb hbox hg;obtain ⟨hczQN26,hczQN27,hczQN28,hczQN29,hczQN210,hczQN211,hczQN212,hfzQN213,hfzQN214,hfzQN215,hfzQN216,hfzQN217,hfzQN218,hfzQN219⟩ := hcq7 BK224.out) | (have _ := EQ0;((with_reducible refine zj (f := 43) rfl ?_);refine zQ (some 10) rfl rfl Tryz.func43 (by kernel_rfl) rfl #[.agg #[.int .i64 a0_0,.int .i64 a0_1,.slice A0_2 l0_2.length c0_2,.slice A0_3 l0_3.length c0_3,.int .i64 a0_4,.int .i64 a0_5],.int .i64 a1] rfl hMq ?_;(with_reducible refine (zg.calls k a0_0 a0_1 _ _ l0_2 _ _ l0_3 a0_4 a0_5 a1 true _ ?side1 ?side2 ?side3 ?side4 A3.out).mono ?_);(case side1 => exact hKq (Kd.C_below HR0_2.out HB.out));(case side2 => exact HC0_2.out);(case side3 => exact hKq (Kd.C_below HR0_3.out HB.out));(case side4 => exact HC0_3.out);rintro e wQF43A31 ⟨rfl,hb⟩;refine ⟨_,rfl,?_⟩;have n_ := haq (hbq BK224.out hb) <| haq (zd hCq hb) <| trivial;clear BK224 HB;obtain ⟨BK224,HB,_⟩ := n_;(try clear hb);(try clear hb2);(try clear hk);(try clear hi);obtain ⟨hczQF43A33,hczQF43A34,hczQF43A35,hczQF43A36,hczQF43A37,hczQF43A38,hczQF43A39,hfzQF43A310,hfzQF43A311,hfzQF43A312,hfzQF43A313,hfzQF43A314,hfzQF43A315,hfzQF43A316⟩ := hcq7 BK224.out)) | (have _ := EQ1;((with_reducible refine zj (f := 44) rfl ?_);refine zQ (some 16) rfl rfl Tryz.func44 (by kernel_rfl) rfl #[.int .u64 a0_6,.int .i64 a1] rfl hMq ?_;(with_reducible refine (zaM.calls k a0_6 a1 true _ A5.out).mono ?_);rintro e wQF44A51 ⟨rfl,hb⟩;refine ⟨_,rfl,?_⟩;have n_ := haq (hbq BK224.out hb) <| haq (zd hCq hb) <| trivial;clear BK224 HB;obtain ⟨BK224,HB,_⟩ := n_;(try clear hb);(try clear hb2);(try clear hk);(try clear hi);obtain ⟨hczQF44A53,hczQF44A54,hczQF44A55,hczQF44A56,hczQF44A57,hczQF44A58,hczQF44A59,hfzQF44A510,hfzQF44A511,hfzQF44A512,hfzQF44A513,hfzQF44A514,hfzQF44A515,hfzQF44A516⟩ := hcq7 BK224.out)) | (have _ := EQ1;((with_reducible refine zj (f := 45) rfl ?_);refine zQ (some 21) rfl rfl Tryz.func45 (by kernel_rfl) rfl #[.int .u64 a0_6] rfl hMq ?_;(with_reducible refine (zaI.calls k a0_6 t227 _ A7.out).mono ?_);rintro e wQF45A71 ⟨rfl,hb⟩;refine ⟨_,rfl,?_⟩;have n_ := haq (hbq BK224.out hb) <| haq (zd hCq hb) <| trivial;clear BK224 HB;obtain ⟨BK224,HB,_⟩ := n_;(try clear hb);(try clear hb2);(try clear hk);(try clear hi))) | (have _ := EQ1;((with_reducible refine zj (f := 46) rfl ?_);refine zQ (some 23) rfl rfl Tryz.func46 (by kernel_rfl) rfl #[.int .i64 a1] rfl hMq ?_;(with_reducible refine (zY.calls a1 t228 _ A8.out).mono ?_);rintro e w' ⟨rfl,⟨nd,rfl⟩⟩;refine ⟨_,rfl,?_⟩)) | (have _ := EQ2;((with_reducible refine zj (f := 44) rfl ?_);refine zQ (some 16) rfl rfl Tryz.func44 (by kernel_rfl) rfl #[.int .u64 a0_6,.int .i64 a1] rfl hMq ?_;(with_reducible refine (zaM.calls k a0_6 a1 false _ A5.out).mono ?_);rintro e wQF44A51 ⟨rfl,hb⟩;refine ⟨_,rfl,?_⟩;have n_ := haq (hbq BK224.out hb) <| haq (zd hCq hb) <| trivial;clear BK224 HB;obtain ⟨BK224,HB,_⟩ := n_;(try clear hb);(try clear hb2);(try clear hk);(try clear hi))) | (have _ := EQ3;((with_reducible refine zj (f := 43) rfl ?_);refine zQ (some 10) rfl rfl Tryz.func43 (by kernel_rfl) rfl #[.agg #[.int .i64 a0_0,.int .i64 a0_1,.slice A0_2 l0_2.length c0_2,.slice A0_3 l0_3.length c0_3,.int .i64 a0_4,.int .i64 a0_5],.int .i64 a1] rfl hMq ?_;(with_reducible refine (zg.calls k a0_0 a0_1 _ _ l0_2 _ _ l0_3 a0_4 a0_5 a1 false _ ?side1 ?side2 ?side3 ?side4 A3.out).mono ?_);(case side1 => exact hKq (Kd.C_below HR0_2.out HB.out));(case side2 => exact HC0_2.out);(case side3 => exact hKq (Kd.C_below HR0_3.out HB.out));(case side4 => exact HC0_3.out);rintro e wQF43A31 ⟨rfl,hb⟩;refine ⟨_,rfl,?_⟩;have n_ := haq (hbq BK224.out hb) <| haq (zd hCq hb) <| trivial;clear BK224 HB;obtain ⟨BK224,HB,_⟩ := n_;(try clear hb);(try clear hb2);(try clear hk);(try clear hi))))
  go_ret
  exact ⟨hHq,hCq⟩
end Go.Proofs.YtfhbeonhnhjikaaGreat.Px