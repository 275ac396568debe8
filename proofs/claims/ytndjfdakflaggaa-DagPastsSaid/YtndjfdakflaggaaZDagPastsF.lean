/- Part 6 of 30 of the proof of the law DagPasts: what is proved is the statement at the end of the last part; its conditions are those of the given row. -/
import Derived.Laws.BitsAllLaws
import Derived.Test.YtndjfdakflaggaaZDagPastsD
namespace Go.Proofs.Ytndjfdakflaggaa.Px
open Go.RowKit Go.Proofs.YtndjfdakflaggaaW.PrintWords Go.Proofs.YtndjfdakflaggaaW.PrintLast Go.Proofs.YtndjfdakflaggaaW.PrintMore
attribute [local go_sem] zt zv zA zB zq zr zu zw
set_option linter.unusedVariables false
set_option linter.unusedSimpArgs false
def zbu.f (a0_0 : Int) (a0_1 : Int) : Option (Bool) := if a0_0 ≥ 0 then (if a0_0 < 10007 then (if a0_1 ≥ 0 then (some (decide (a0_1 < 10007))) else (some false)) else (some false)) else (some false)
set_option maxHeartbeats 8000000 in
set_option maxRecDepth 100000 in
theorem zbu.calls (a0_0 : Int) (a0_1 : Int) (r : Bool) (w : World) (h : zbu.f a0_0 a0_1 = some r) :
  Calls Try.prog 89 #[.agg #[.int .i64 a0_0,.int .i64 a0_1]] w fun e w' => e = .returned (.bool r) ∧ Below w.heap.size w w' := by
 have hu30 := Try.underlying30
 have HB := za.mk (Below.refl w.heap.size w)
 have H : (if a0_0 ≥ 0 then (if a0_0 < 10007 then (if a0_1 ≥ 0 then (some (decide (a0_1 < 10007))) else (some false)) else (some false)) else (some false)) = some r := h
 clear h
 by_cases c2 : a0_0 ≥ 0
 ·rw [if_pos c2] at H
  have c2b0 : decide (0 ≤ a0_0) = true := decide_eq_true c2
  clear c2
  by_cases c3 : a0_0 < 10007
  ·rw [if_pos c3] at H
   have c3b0 : decide (a0_0 < 10007) = true := decide_eq_true c3
   clear c3
   by_cases c4 : a0_1 ≥ 0
   ·rw [if_pos c4] at H
    have c4b0 : decide (0 ≤ a0_1) = true := decide_eq_true c4
    clear c4
    obtain rfl := Option.some.inj H
    go_enter Try.func89,Try.ntmps89
    go_wp2_with (first | ((with_reducible refine zp (N := 1) rfl ?_);refine zn rfl (N := 1) rfl (cs := #[.int .i64 a0_0,.int .i64 a0_1]) (t := 30) hrq ?_;intro gb101 hg w5 hbox hb;have n_ := haq (zh hBq hb) <| haq (hbox) <| haq ((by rw [hg];exact (zj hBq) : w.heap.size ≤ gb101)) <| haq ((by rw [hg];exact (zj hBq) : w.heap.size ≤ gb101)) <| trivial;clear HB;obtain ⟨HB,BK101,GW101,GE101,_⟩ := n_;clear hb hbox hg;obtain ⟨hcz6_0,hcz6_1,hfz6_0,hfz6_1⟩ := hcq2 BK101.out))
    go_ret
    exact ⟨hHq,hCq⟩
   ·rw [if_neg c4] at H
    have c4b0 : decide (0 ≤ a0_1) = false := decide_eq_false c4
    clear c4
    obtain rfl := Option.some.inj H
    go_enter Try.func89,Try.ntmps89
    go_wp2_with (first | ((with_reducible refine zp (N := 1) rfl ?_);refine zn rfl (N := 1) rfl (cs := #[.int .i64 a0_0,.int .i64 a0_1]) (t := 30) hrq ?_;intro gb101 hg w7 hbox hb;have n_ := haq (zh hBq hb) <| haq (hbox) <| haq ((by rw [hg];exact (zj hBq) : w.heap.size ≤ gb101)) <| haq ((by rw [hg];exact (zj hBq) : w.heap.size ≤ gb101)) <| trivial;clear HB;obtain ⟨HB,BK101,GW101,GE101,_⟩ := n_;clear hb hbox hg;obtain ⟨hcz8_0,hcz8_1,hfz8_0,hfz8_1⟩ := hcq2 BK101.out))
    go_ret
    exact ⟨hHq,hCq⟩
  ·rw [if_neg c3] at H
   have c3b0 : decide (a0_0 < 10007) = false := decide_eq_false c3
   clear c3
   obtain rfl := Option.some.inj H
   go_enter Try.func89,Try.ntmps89
   go_wp2_with (first | ((with_reducible refine zp (N := 1) rfl ?_);refine zn rfl (N := 1) rfl (cs := #[.int .i64 a0_0,.int .i64 a0_1]) (t := 30) hrq ?_;intro gb101 hg w9 hbox hb;have n_ := haq (zh hBq hb) <| haq (hbox) <| haq ((by rw [hg];exact (zj hBq) : w.heap.size ≤ gb101)) <| haq ((by rw [hg];exact (zj hBq) : w.heap.size ≤ gb101)) <| trivial;clear HB;obtain ⟨HB,BK101,GW101,GE101,_⟩ := n_;clear hb hbox hg;obtain ⟨hcz10_0,hcz10_1,hfz10_0,hfz10_1⟩ := hcq2 BK101.out))
   go_ret
   exact ⟨hHq,hCq⟩
 ·rw [if_neg c2] at H
  have c2b0 : decide (0 ≤ a0_0) = false := decide_eq_false c2
  clear c2
  obtain rfl := Option.some.inj H
  go_enter Try.func89,Try.ntmps89
  go_wp2_with (first | ((with_reducible refine zp (N := 1) rfl ?_);refine zn rfl (N := 1) rfl (cs := #[.int .i64 a0_0,.int .i64 a0_1]) (t := 30) hrq ?_;intro gb101 hg w11 hbox hb;have n_ := haq (zh hBq hb) <| haq (hbox) <| haq ((by rw [hg];exact (zj hBq) : w.heap.size ≤ gb101)) <| haq ((by rw [hg];exact (zj hBq) : w.heap.size ≤ gb101)) <| trivial;clear HB;obtain ⟨HB,BK101,GW101,GE101,_⟩ := n_;clear hb hbox hg;obtain ⟨hcz12_0,hcz12_1,hfz12_0,hfz12_1⟩ := hcq2 BK101.out))
  go_ret
  exact ⟨hHq,hCq⟩
def zab.f (a0 : Int) : Option (Bool) := if a0 ≥ 4 then (if a0 ≤ 64 then (some ((Int.tmod a0 3) == 1)) else (some false)) else (some false)
set_option maxHeartbeats 8000000 in
set_option maxRecDepth 100000 in
theorem zab.calls (a0 : Int) (r : Bool) (w : World) (h : zab.f a0 = some r) :
  Calls Try.prog 39 #[.int .i64 a0] w fun e w' => e = .returned (.bool r) ∧ za3 w w' := by
 have H : (if a0 ≥ 4 then (if a0 ≤ 64 then (some ((Int.tmod a0 3) == 1)) else (some false)) else (some false)) = some r := h
 clear h
 by_cases c2 : a0 ≥ 4
 ·rw [if_pos c2] at H
  have c2b0 : decide (4 ≤ a0) = true := decide_eq_true c2
  clear c2
  by_cases c3 : a0 ≤ 64
  ·rw [if_pos c3] at H
   have c3b0 : decide (a0 ≤ 64) = true := decide_eq_true c3
   clear c3
   obtain rfl := Option.some.inj H
   go_enter Try.func39,Try.ntmps39
   go_wp2
   go_ret
   exact ⟨hDq,hEq⟩
  ·rw [if_neg c3] at H
   have c3b0 : decide (a0 ≤ 64) = false := decide_eq_false c3
   clear c3
   obtain rfl := Option.some.inj H
   go_enter Try.func39,Try.ntmps39
   go_wp2
   go_ret
   exact ⟨hDq,hEq⟩
 ·rw [if_neg c2] at H
  have c2b0 : decide (4 ≤ a0) = false := decide_eq_false c2
  clear c2
  obtain rfl := Option.some.inj H
  go_enter Try.func39,Try.ntmps39
  go_wp2
  go_ret
  exact ⟨hDq,hEq⟩
def za0.f (a0 : Int) : Option (Int) := (zab.f a0).bind fun t102 => (if t102 = true then (some (wrap64 (Int.tdiv (wrap64 (a0 - 1)) 3))) else (some 0))
set_option maxHeartbeats 8000000 in
set_option maxRecDepth 100000 in
theorem za0.calls (a0 : Int) (r : Int) (w : World) (h : za0.f a0 = some r) :
  Calls Try.prog 109 #[.int .i64 a0] w fun e w' => e = .returned (.int .i64 r) ∧ za3 w w' := by
 have H : ((zab.f a0).bind fun t102 => (if t102 = true then (some (wrap64 (Int.tdiv (wrap64 (a0 - 1)) 3))) else (some 0))) = some r := h
 clear h
 replace H := Option.bind_eq_some_iff.mp H
 obtain ⟨t102,A20,H⟩ := H
 replace H : (if t102 = true then (some (wrap64 (Int.tdiv (wrap64 (a0 - 1)) 3))) else (some 0)) = some r := H
 have A2 := za.mk A20
 clear A20
 by_cases c3 : t102 = true
 ·subst c3
  have H1 : (some (wrap64 (Int.tdiv (wrap64 (a0 - 1)) 3))) = some r := by rw [if_pos rfl] at H;exact H
  clear H
  have H := H1
  clear H1
  obtain rfl := Option.some.inj H
  go_enter Try.func109,Try.ntmps109
  go_wp2_with (first | ((with_reducible refine zN (f := 39) rfl ?_);refine zaG (some 4) rfl rfl Try.func39 (by kernel_rfl) rfl #[.int .i64 a0] rfl hMq ?_;(with_reducible refine (zab.calls a0 true _ A2.out).mono ?_);rintro e w' ⟨rfl,⟨nd,rfl⟩⟩;refine ⟨_,rfl,?_⟩))
  go_ret
  exact ⟨hDq,hEq⟩
 ·replace c3 := Bool.eq_false_iff.mpr c3
  subst c3
  have H1 : (some 0) = some r := by rw [if_neg (show ¬ (false = true) by decide)] at H;exact H
  clear H
  have H := H1
  clear H1
  obtain rfl := Option.some.inj H
  go_enter Try.func109,Try.ntmps109
  go_wp2_with (first | ((with_reducible refine zN (f := 39) rfl ?_);refine zaG (some 4) rfl rfl Try.func39 (by kernel_rfl) rfl #[.int .i64 a0] rfl hMq ?_;(with_reducible refine (zab.calls a0 false _ A2.out).mono ?_);rintro e w' ⟨rfl,⟨nd,rfl⟩⟩;refine ⟨_,rfl,?_⟩))
  go_ret
  exact ⟨hDq,hEq⟩
def zbj.f (a0 : Int) : Option (Int) := (zab.f a0).bind fun t103 => (if t103 = true then ((za0.f a0).bind fun t104 => (some (wrap64 (a0 - t104)))) else (some 0))
set_option maxHeartbeats 8000000 in
set_option maxRecDepth 100000 in
theorem zbj.calls (a0 : Int) (r : Int) (w : World) (h : zbj.f a0 = some r) :
  Calls Try.prog 101 #[.int .i64 a0] w fun e w' => e = .returned (.int .i64 r) ∧ za3 w w' := by
 have H : ((zab.f a0).bind fun t103 => (if t103 = true then ((za0.f a0).bind fun t104 => (some (wrap64 (a0 - t104)))) else (some 0))) = some r := h
 clear h
 replace H := Option.bind_eq_some_iff.mp H
 obtain ⟨t103,A20,H⟩ := H
 replace H : (if t103 = true then ((za0.f a0).bind fun t104 => (some (wrap64 (a0 - t104)))) else (some 0)) = some r := H
 have A2 := za.mk A20
 clear A20
 by_cases c3 : t103 = true
 ·subst c3
  have H1 : ((za0.f a0).bind fun t104 => (some (wrap64 (a0 - t104)))) = some r := by rw [if_pos rfl] at H;exact H
  clear H
  have H := H1
  clear H1
  replace H := Option.bind_eq_some_iff.mp H
  obtain ⟨t104,A40,H⟩ := H
  replace H : (some (wrap64 (a0 - t104))) = some r := H
  have A4 := za.mk A40
  clear A40
  obtain rfl := Option.some.inj H
  go_enter Try.func101,Try.ntmps101
  go_wp2_with (first | ((with_reducible refine zN (f := 39) rfl ?_);refine zaG (some 4) rfl rfl Try.func39 (by kernel_rfl) rfl #[.int .i64 a0] rfl hMq ?_;(with_reducible refine (zab.calls a0 true _ A2.out).mono ?_);rintro e w' ⟨rfl,⟨nd,rfl⟩⟩;refine ⟨_,rfl,?_⟩) | ((with_reducible refine zN (f := 109) rfl ?_);refine zaG (some 8) rfl rfl Try.func109 (by kernel_rfl) rfl #[.int .i64 a0] rfl hMq ?_;(with_reducible refine (za0.calls a0 t104 _ A4.out).mono ?_);rintro e w' ⟨rfl,⟨nd,rfl⟩⟩;refine ⟨_,rfl,?_⟩))
  go_ret
  exact ⟨hDq,hEq⟩
 ·replace c3 := Bool.eq_false_iff.mpr c3
  subst c3
  have H1 : (some 0) = some r := by rw [if_neg (show ¬ (false = true) by decide)] at H;exact H
  clear H
  have H := H1
  clear H1
  obtain rfl := Option.some.inj H
  go_enter Try.func101,Try.ntmps101
  go_wp2_with (first | ((with_reducible refine zN (f := 39) rfl ?_);refine zaG (some 4) rfl rfl Try.func39 (by kernel_rfl) rfl #[.int .i64 a0] rfl hMq ?_;(with_reducible refine (zab.calls a0 false _ A2.out).mono ?_);rintro e w' ⟨rfl,⟨nd,rfl⟩⟩;refine ⟨_,rfl,?_⟩))
  go_ret
  exact ⟨hDq,hEq⟩
def zX.l0 : Nat → List ByteArray → Int → List ByteArray → Int → Int → Option (Bool)
 | 0,_,_,_,_,_ => none
 | k + 1,x0,x2,x14,x15,x16 => if x16 < x15 then (if 0 ≤ x16 then (if x16 < (x14.length : Int) then (if ((zz ByteArray.empty x14 x16).size : Int) = 32 then (if x16 > 0 then (if 0 ≤ (wrap64 (x16 - 1)) then (if (wrap64 (x16 - 1)) < (x0.length : Int) then (if ((Op.bytesLess ((zz ByteArray.empty x0 (wrap64 (x16 - 1))).toList) ((zz ByteArray.empty x14 x16).toList)) = true) then (zX.l0 k x0 x2 x14 x15 (wrap64 (x16 + 1))) else (some false)) else (none)) else (none)) else (zX.l0 k x0 x2 x14 x15 (wrap64 (x16 + 1)))) else (some false)) else (none)) else (none)) else ((zbj.f x2).bind fun t107 => (if (x0.length : Int) ≥ t107 then (some (decide ((x0.length : Int) ≤ x2))) else (some false)))
def zX.f (k : Nat) (l0 : List ByteArray) (a1 : Int) (a2 : Int) : Option (Bool) := if a1 = 1 then (some ((l0.length : Int) == 0)) else (zX.l0 k l0 a2 l0 (l0.length : Int) 0)
set_option maxHeartbeats 8000000 in
set_option maxRecDepth 100000 in
theorem zX.calls (k : Nat) (A0 : Option Addr) (c0 : Nat) (l0 : List ByteArray) (a1 : Int) (a2 : Int) (r : Bool) (w : World) (hr0 : Kd.C Kd.string w A0 l0.length l0) (hc0 : l0.length ≤ c0) (h : zX.f k l0 a1 a2 = some r) :
  Calls Try.prog 91 #[.slice A0 l0.length c0,.int .i64 a1,.int .i64 a2] w fun e w' => e = .returned (.bool r) ∧ za3 w w' := by
 have HR0 := za.mk hr0
 have HC0 := za.mk hc0
 clear hr0 hc0
 have H : (if a1 = 1 then (some ((l0.length : Int) == 0)) else (zX.l0 k l0 a2 l0 (l0.length : Int) 0)) = some r := h
 clear h
 by_cases c4 : a1 = 1
 ·rw [if_pos c4] at H
  have c4b0 : (a1 == 1) = true := beq_iff_eq.mpr c4
  have c4b1 : (a1 != 1) = false := bne_eq_false_iff_eq.mpr c4
  clear c4
  obtain rfl := Option.some.inj H
  go_enter Try.func91,Try.ntmps91
  go_wp2
  go_ret
  exact ⟨hDq,hEq⟩
 ·rw [if_neg c4] at H
  have c4b0 : (a1 == 1) = false := beq_eq_false_iff_ne.mpr c4
  have c4b1 : (a1 != 1) = true := bne_iff_ne.mpr c4
  have H' := za.mk H
  clear H
  go_enter Try.func91,Try.ntmps91
  go_wp2
  go_loopg [16] k (fun kq v16 w' => ∃ (x16_1 : Int),v16 = .int .i64 x16_1 ∧ za (zX.l0 kq l0 a2 l0 (l0.length : Int) x16_1 = some r) ∧ za (kq ≤ k) ∧ za3 w w')
  case atStart => exact ⟨(0),(hDq),H',⟨Nat.le_refl _⟩,hEq⟩
  case round =>
   clear H'
   try clear p2;try clear c4;try clear c4b0;try clear c4b1
   obtain ⟨x16_1,rfl,HA,HK1,⟨m1,rfl⟩⟩ := hrel
   cases gk with
   | zero => exact absurd HA.out (by simp [zX.l0])
   | succ k1 =>
    have H := HA.out
    clear HA
    simp only [zX.l0] at H
    by_cases c5 : x16_1 < (l0.length : Int)
    ·rw [if_pos c5] at H
     have c5b0 : decide (x16_1 < (l0.length : Int)) = true := decide_eq_true c5
     clear c5
     by_cases c6 : 0 ≤ x16_1
     ·rw [if_pos c6] at H
      have c6b0 : decide (0 ≤ x16_1) = true := decide_eq_true c6
      clear c6
      by_cases c7 : x16_1 < (l0.length : Int)
      ·rw [if_pos c7] at H
       have c7b0 : decide (x16_1 < (l0.length : Int)) = true := decide_eq_true c7
       clear c7
       by_cases c8 : ((zz ByteArray.empty l0 x16_1).size : Int) = 32
       ·rw [if_pos c8] at H
        have c8b0 : (((zz ByteArray.empty l0 x16_1).size : Int) == 32) = true := beq_iff_eq.mpr c8
        have c8b1 : (((zz ByteArray.empty l0 x16_1).size : Int) != 32) = false := bne_eq_false_iff_eq.mpr c8
        clear c8
        by_cases c9 : x16_1 > 0
        ·rw [if_pos c9] at H
         have c9b0 : decide (0 < x16_1) = true := decide_eq_true c9
         clear c9
         obtain ⟨ji10,hji10⟩ : ∃ j_ : Int,(wrap64 (x16_1 - 1)) = j_ := ⟨_,rfl⟩
         replace H : (if 0 ≤ (ji10) then (if (ji10) < (l0.length : Int) then (if ((Op.bytesLess ((zz ByteArray.empty l0 (ji10)).toList) ((zz ByteArray.empty l0 x16_1).toList)) = true) then (zX.l0 k1 l0 a2 l0 (l0.length : Int) (wrap64 (x16_1 + 1))) else (some false)) else (none)) else (none)) = some r := by first | (rw [hji10] at H;exact H) | (simp only [hji10] at H ⊢;exact H)
         have hji10w : (IntKind.i64.wrap (x16_1 - 1)) = ji10 := (z8 _).trans hji10
         by_cases c11 : 0 ≤ (ji10)
         ·rw [if_pos c11] at H
          have c11b0 : decide (0 ≤ (ji10)) = true := decide_eq_true c11
          clear c11
          by_cases c12 : (ji10) < (l0.length : Int)
          ·rw [if_pos c12] at H
           have c12b0 : decide ((ji10) < (l0.length : Int)) = true := decide_eq_true c12
           clear c12
           by_cases c13 : ((Op.bytesLess ((zz ByteArray.empty l0 (ji10)).toList) ((zz ByteArray.empty l0 x16_1).toList)) = true)
           ·rw [if_pos c13] at H
            have c13b0 : (Op.bytesLess ((zz ByteArray.empty l0 (ji10)).toList) ((zz ByteArray.empty l0 x16_1).toList)) = true := c13
            clear c13
            have H' := za.mk H
            clear H
            have p105 : 0 ≤ (x16_1 : Int) := hFq
            have q105 : x16_1 < (l0.length : Int) := hFq
            obtain ⟨ad105,e105,hx105_0⟩ := Kd.at_string HR0.out x16_1 p105 q105
            cases e105
            replace p105 := eq_true p105
            replace q105 := eq_true q105
            have p106 : 0 ≤ ((ji10) : Int) := hFq
            have q106 : (ji10) < (l0.length : Int) := hFq
            obtain ⟨ad106,e106,hx106_0⟩ := Kd.at_string HR0.out (ji10) p106 q106
            obtain rfl : ad105 = ad106 := (by injection e106)
            replace p106 := eq_true p106
            replace q106 := eq_true q106
            go_wp2
            go_roundg k1
            case measure => have := HK1.out;omega
            case rel => exact ⟨(wrap64 (x16_1 + 1)),(hDq),H',⟨by have := HK1.out;omega⟩,hEq⟩
           ·rw [if_neg c13] at H
            have c13b0 : (Op.bytesLess ((zz ByteArray.empty l0 (ji10)).toList) ((zz ByteArray.empty l0 x16_1).toList)) = false := by simpa using c13
            clear c13
            obtain rfl := Option.some.inj H
            have p105 : 0 ≤ (x16_1 : Int) := hFq
            have q105 : x16_1 < (l0.length : Int) := hFq
            obtain ⟨ad105,e105,hx105_0⟩ := Kd.at_string HR0.out x16_1 p105 q105
            cases e105
            replace p105 := eq_true p105
            replace q105 := eq_true q105
            have p106 : 0 ≤ ((ji10) : Int) := hFq
            have q106 : (ji10) < (l0.length : Int) := hFq
            obtain ⟨ad106,e106,hx106_0⟩ := Kd.at_string HR0.out (ji10) p106 q106
            obtain rfl : ad105 = ad106 := (by injection e106)
            replace p106 := eq_true p106
            replace q106 := eq_true q106
            go_wp2
            go_ret
            exact ⟨by first | rfl | (simp;done) | (simp only [← hji10] <;> (first | rfl | simp)) | (simp [*];done),hEq⟩
          ·rw [if_neg c12] at H
           exact absurd H (by simp)
         ·rw [if_neg c11] at H
          exact absurd H (by simp)
        ·rw [if_neg c9] at H
         have c9b0 : decide (0 < x16_1) = false := decide_eq_false c9
         clear c9
         have H' := za.mk H
         clear H
         have p105 : 0 ≤ (x16_1 : Int) := hFq
         have q105 : x16_1 < (l0.length : Int) := hFq
         obtain ⟨ad105,e105,hx105_0⟩ := Kd.at_string HR0.out x16_1 p105 q105
         cases e105
         replace p105 := eq_true p105
         replace q105 := eq_true q105
         go_wp2
         go_roundg k1
         case measure => have := HK1.out;omega
         case rel => exact ⟨(wrap64 (x16_1 + 1)),(hDq),H',⟨by have := HK1.out;omega⟩,hEq⟩
       ·rw [if_neg c8] at H
        have c8b0 : (((zz ByteArray.empty l0 x16_1).size : Int) == 32) = false := beq_eq_false_iff_ne.mpr c8
        have c8b1 : (((zz ByteArray.empty l0 x16_1).size : Int) != 32) = true := bne_iff_ne.mpr c8
        obtain rfl := Option.some.inj H
        have p105 : 0 ≤ (x16_1 : Int) := hFq
        have q105 : x16_1 < (l0.length : Int) := hFq
        obtain ⟨ad105,e105,hx105_0⟩ := Kd.at_string HR0.out x16_1 p105 q105
        cases e105
        replace p105 := eq_true p105
        replace q105 := eq_true q105
        go_wp2
        go_ret
        exact ⟨hDq,hEq⟩
      ·rw [if_neg c7] at H
       exact absurd H (by simp)
     ·rw [if_neg c6] at H
      exact absurd H (by simp)
    ·rw [if_neg c5] at H
     have c5b0 : decide (x16_1 < (l0.length : Int)) = false := decide_eq_false c5
     clear c5
     replace H := Option.bind_eq_some_iff.mp H
     obtain ⟨t107,A140,H⟩ := H
     replace H : (if (l0.length : Int) ≥ t107 then (some (decide ((l0.length : Int) ≤ a2))) else (some false)) = some r := H
     have A14 := za.mk A140
     clear A140
     by_cases c15 : (l0.length : Int) ≥ t107
     ·rw [if_pos c15] at H
      have c15b0 : decide (t107 ≤ (l0.length : Int)) = true := decide_eq_true c15
      clear c15
      obtain rfl := Option.some.inj H
      go_wp2_with (first | ((with_reducible refine zN (f := 101) rfl ?_);refine zaG (some 41) rfl rfl Try.func101 (by kernel_rfl) rfl #[.int .i64 a2] rfl hMq ?_;(with_reducible refine (zbj.calls a2 t107 _ A14.out).mono ?_);rintro e w' ⟨rfl,⟨nd,rfl⟩⟩;refine ⟨_,rfl,?_⟩))
      go_ret
      exact ⟨hDq,hEq⟩
     ·rw [if_neg c15] at H
      have c15b0 : decide (t107 ≤ (l0.length : Int)) = false := decide_eq_false c15
      clear c15
      obtain rfl := Option.some.inj H
      go_wp2_with (first | ((with_reducible refine zN (f := 101) rfl ?_);refine zaG (some 41) rfl rfl Try.func101 (by kernel_rfl) rfl #[.int .i64 a2] rfl hMq ?_;(with_reducible refine (zbj.calls a2 t107 _ A14.out).mono ?_);rintro e w' ⟨rfl,⟨nd,rfl⟩⟩;refine ⟨_,rfl,?_⟩))
      go_ret
      exact ⟨hDq,hEq⟩
def za2.f (a0 : Int) : Option (Bool) := if a0 ≥ 3 then (some ((Int.tmod a0 3) == 0)) else (some false)
set_option maxHeartbeats 8000000 in
set_option maxRecDepth 100000 in
theorem za2.calls (a0 : Int) (r : Bool) (w : World) (h : za2.f a0 = some r) :
  Calls Try.prog 90 #[.int .i64 a0] w fun e w' => e = .returned (.bool r) ∧ za3 w w' := by
 have H : (if a0 ≥ 3 then (some ((Int.tmod a0 3) == 0)) else (some false)) = some r := h
 clear h
 by_cases c2 : a0 ≥ 3
 ·rw [if_pos c2] at H
  have c2b0 : decide (3 ≤ a0) = true := decide_eq_true c2
  clear c2
  obtain rfl := Option.some.inj H
  go_enter Try.func90,Try.ntmps90
  go_wp2
  go_ret
  exact ⟨hDq,hEq⟩
 ·rw [if_neg c2] at H
  have c2b0 : decide (3 ≤ a0) = false := decide_eq_false c2
  clear c2
  obtain rfl := Option.some.inj H
  go_enter Try.func90,Try.ntmps90
  go_wp2
  go_ret
  exact ⟨hDq,hEq⟩
def zg5 : Bs → Bs → Bool
 | [],b => !b.isEmpty
 | _ :: _,[] => false
 | x :: xs,y :: ys => if x = y then zg5 xs ys else decide (x.toNat < y.toNat)
theorem zdi : ∀ a b : Bs,Op.bytesLess a b = zg5 a b
 | [],[] => rfl
 | [],_ :: _ => rfl
 | _ :: _,[] => rfl
 | x :: xs,y :: ys => by
  rw [Op.bytesLess,zg5,zdi xs ys]
  by_cases h : x = y
  ·subst h;simp
  ·rw [if_neg h]
   have hn : x.toNat ≠ y.toNat := fun e => h (UInt8.toNat_inj.1 e)
   by_cases h1 : x < y
   ·have := UInt8.lt_iff_toNat_lt.1 h1
    simp [h1,this]
   ·have h2 : ¬ x.toNat < y.toNat := fun e => h1 (UInt8.lt_iff_toNat_lt.2 e)
    have h3 : y < x := UInt8.lt_iff_toNat_lt.2 (by omega)
    simp [h1,h2]
    exact fun e => absurd e h
def zdU (n : Int) : Bool := decide (4 ≤ n) && decide (n ≤ 64) && decide (n % 3 = 1)
theorem zas (n : Int) : zab.f n = some (zdU n) := by
 unfold zab.f zdU
 by_cases h : n ≥ 4
 ·rw [if_pos h]
  by_cases h1 : n ≤ 64
  ·rw [if_pos h1,Int.tmod_eq_emod_of_nonneg (by omega)]
   by_cases h2 : n % 3 = 1
   ·simp [h1,h2];omega
   ·simp [h2]
  ·rw [if_neg h1];simp [h1]
 ·rw [if_neg h]
  have : ¬ 4 ≤ n := by omega
  simp [this]
theorem zcZ (n : Int) : zdU n = true ↔ 4 ≤ n ∧ n ≤ 64 ∧ n % 3 = 1 := by
 unfold zdU;simp [and_assoc]
def zd9 (n : Int) : Int := if zdU n = true then n - (n - 1) / 3 else 0
theorem zeU (n : Int) : zbj.f n = some (zd9 n) := by
 unfold zbj.f za0.f zd9
 rw [zas]
 simp only [Option.bind_some]
 by_cases h : zdU n = true
 ·rw [if_pos h,if_pos h,if_pos h]
  obtain ⟨h1,h2,h3⟩ := (zcZ n).1 h
  simp only [Option.bind_some]
  rw [zak (x := n - 1) (by omega) (by omega),Int.tdiv_eq_ediv_of_nonneg (by omega),zak (x := (n - 1) / 3) (by omega) (by omega),zak (by omega) (by omega)]
 ·rw [if_neg h,if_neg h]
def zhM (a b : Int) : Bool := decide (0 ≤ a) && decide (a < 10007) && decide (0 ≤ b) && decide (b < 10007)
theorem zfp (a b : Int) : zhM a b = true ↔ 0 ≤ a ∧ a < 10007 ∧ 0 ≤ b ∧ b < 10007 := by
 unfold zhM;simp [and_assoc]
theorem zbT (a b : Int) : zbu.f a b = some (zhM a b) := by
 unfold zbu.f zhM
 by_cases h1 : 0 ≤ a <;> by_cases h2 : a < 10007 <;> by_cases h3 : 0 ≤ b <;> simp [h1,h2,h3]
def zfN (r : Int) : Bool := decide (3 ≤ r) && decide (r % 3 = 0)
theorem zbF (r : Int) : za2.f r = some (zfN r) := by
 unfold za2.f zfN
 by_cases h : r ≥ 3
 ·rw [if_pos h,Int.tmod_eq_emod_of_nonneg (by omega)]
  have : 3 ≤ r := h
  by_cases h2 : r % 3 = 0 <;> simp [this,h2]
 ·rw [if_neg h]
  have : ¬ 3 ≤ r := by omega
  simp [this]
def ziT (l : List ByteArray) (j : Nat) : Bool := decide ((l.getD j ByteArray.empty).size = 32) && (decide (j = 0) || zg5 (ofB (l.getD (j - 1) ByteArray.empty)) (ofB (l.getD j ByteArray.empty)))
def zcH (l : List ByteArray) : Nat → Nat → Bool
 | 0,_ => true
 | d + 1,j => ziT l j && zcH l d (j + 1)
def zbX (l : List ByteArray) (r n : Int) : Bool :=
 if r = 1 then decide (l.length = 0) else zcH l l.length 0 && decide (zd9 n ≤ l.length) && decide ((l.length : Int) ≤ n)
theorem zgD (l : List ByteArray) (n : Int) (hl : l.length ≤ 9223372036854775807) (d : Nat) : ∀ j,j + d = l.length →
  Ev (fun k => zX.l0 k l n l (l.length : Int) (j : Int)) (zcH l d j && decide (zd9 n ≤ l.length) && decide ((l.length : Int) ≤ n)) := by
 induction d with
 | zero =>
  intro j hj
  refine Ev.step (fun k => by rw [zX.l0]) ?_
  refine zU (by omega) (za6 (zeU n) ?_)
  by_cases h : zd9 n ≤ l.length
  ·exact zF h (zah (Ev.now _) (by simp [zcH,h]))
  ·exact zU h (zah (Ev.now _) (by simp [zcH,h]))
 | succ d ih =>
  intro j hj
  refine Ev.step (fun k => by rw [zX.l0]) ?_
  refine zF (by omega) (zF (by omega) (zF (by omega) ?_))
  have e1 : zz ByteArray.empty l (j : Int) = l.getD j ByteArray.empty := by rw [zz,Int.toNat_natCast]
  rw [e1]
  by_cases h : (l.getD j ByteArray.empty).size = 32
  ·refine zF (by omega) ?_
   rw [zak (x := (j : Int) + 1) (by omega) (by omega)]
   by_cases h0 : j = 0
   ·subst h0
    refine zU (by omega) (zah (ih 1 (by omega)) ?_)
    simp only [zcH,ziT,h];simp
   ·refine zF (by omega) ?_
    have e2 : wrap64 ((j : Int) - 1) = ((j - 1 : Nat) : Int) := by rw [zak (by omega) (by omega)];omega
    rw [e2]
    refine zF (by omega) (zF (by omega) ?_)
    have e3 : zz ByteArray.empty l ((j - 1 : Nat) : Int) = l.getD (j - 1) ByteArray.empty := by rw [zz,Int.toNat_natCast]
    rw [e3,zcd,zcd,zdi]
    by_cases h2 : zg5 (ofB (l.getD (j - 1) ByteArray.empty)) (ofB (l.getD j ByteArray.empty)) = true
    ·refine zF h2 (zah (ih (j + 1) (by omega)) ?_)
     simp only [zcH,ziT,h,h2];simp
    ·refine zU h2 (zah (Ev.now _) ?_)
     rw [Bool.not_eq_true] at h2
     simp only [zcH,ziT,h,h0,h2];simp
  ·refine zU (by omega) (zah (Ev.now _) ?_)
   simp only [zcH,ziT,h];simp
theorem zhQ (l : List ByteArray) (r n : Int) (hl : l.length ≤ 9223372036854775807) : Ev (fun k => zX.f k l r n) (zbX l r n) := by
 unfold zbX
 by_cases h : r = 1
 ·rw [if_pos h]
  refine zF h (zah (Ev.now _) ?_)
  by_cases h0 : l.length = 0 <;> simp [h0]
 ·rw [if_neg h]
  exact zU h (zgD l n hl l.length 0 (by omega))
def zbR.f (a0 : Int) (a1 : Int) : Option (Int) := if 0 ≤ (Go.bits .and .u64 (IntKind.u64.wrap (a1)) 31) then (if 0 ≤ (IntKind.u64.wrap (32 - (Go.bits .and .u64 (IntKind.u64.wrap (a1)) 31))) then (some (Go.bits .or .u32 (shl .u32 a0 (Go.bits .and .u64 (IntKind.u64.wrap (a1)) 31)) (shr .u32 a0 (IntKind.u64.wrap (32 - (Go.bits .and .u64 (IntKind.u64.wrap (a1)) 31)))))) else (none)) else (none)
def zfK.f (a0 : Int) (a1 : Int) : Option (Int) := (zbR.f a0 (wrap64 (-a1))).bind fun t130 => (some t130)
def zcl (x : Int) : Prop := 0 ≤ x ∧ x < 4294967296
def zcr (x : Int) : Int := IntKind.u32.wrap x
theorem ze3 (x : Int) : zcr x = x % 4294967296 := IntKind.wrap_u32 x
theorem ze4 (x : Int) : zcl (zcr x) := by rw [ze3];unfold zcl;omega
def zar (n : Nat) (x : Int) : Int := x / 2 ^ n + x % 2 ^ n * 2 ^ (32 - n)
def zb5 (a b : Int) : Int := Go.bits .xor .u32 a b
def zdm (a b : Int) : Int := Go.bits .and .u32 a b
def zgK (L : List Int) (k w : Int) : List Int :=
 let t := zcr (zcr (zcr (zcr (L.getD 7 0 + zb5 (zb5 (zar 6 (L.getD 4 0)) (zar 11 (L.getD 4 0))) (zar 25 (L.getD 4 0))) + zb5 (zdm (L.getD 4 0) (L.getD 5 0)) (zdm (4294967295 - L.getD 4 0) (L.getD 6 0))) + k) + w)
 let u := zcr (zb5 (zb5 (zar 2 (L.getD 0 0)) (zar 13 (L.getD 0 0))) (zar 22 (L.getD 0 0)) + zb5 (zb5 (zdm (L.getD 0 0) (L.getD 1 0)) (zdm (L.getD 0 0) (L.getD 2 0))) (zdm (L.getD 1 0) (L.getD 2 0)))
 [zcr (t + u),L.getD 0 0,L.getD 1 0,L.getD 2 0,zcr (L.getD 3 0 + t),L.getD 4 0,L.getD 5 0,L.getD 6 0]
def okL (L : List Int) : Prop := ∀ i,zcl (L.getD i 0)
theorem zgy : okL [] := fun i => by simp [zcl]
theorem zaT {x : Int} {L : List Int} (hx : zcl x) (hL : okL L) : okL (x :: L) := fun i => by
 rcases i with _ | i
 ·exact hx
 ·exact hL i
theorem zhf {x : Int} {L : List Int} (hL : okL L) (hx : zcl x) : okL (L ++ [x]) := fun i => by
 rw [List.getD_eq_getElem?_getD]
 rcases Nat.lt_trichotomy i L.length with h | h | h
 ·rw [List.getElem?_append_left h,← List.getD_eq_getElem?_getD];exact hL i
 ·subst h;simp;exact hx
 ·rw [List.getElem?_eq_none (by rw [List.length_append];simp;omega)];simp [zcl]
theorem ziI {L : List Int} (h : okL L) (k w : Int) : okL (zgK L k w) :=
 zaT (ze4 _) (zaT (h 0) (zaT (h 1) (zaT (h 2) (zaT (ze4 _) (zaT (h 4) (zaT (h 5) (zaT (h 6) zgy)))))))
def zhx (b : ByteArray) (i : Nat) : Int := bt b ((4 * i : Nat) : Int) * 16777216 + bt b ((4 * i + 1 : Nat) : Int) * 65536 + bt b ((4 * i + 2 : Nat) : Int) * 256 + bt b ((4 * i + 3 : Nat) : Int)
theorem word4_ok (b : ByteArray) (i : Nat) : zcl (zhx b i) := by
 have h0 := zcj b ((4 * i : Nat) : Int)
 have h1 := zcj b ((4 * i + 1 : Nat) : Int)
 have h2 := zcj b ((4 * i + 2 : Nat) : Int)
 have h3 := zcj b ((4 * i + 3 : Nat) : Int)
 unfold zcl zhx;omega
def zeE (b : ByteArray) : Nat → List Int
 | 0 => []
 | n + 1 => zeE b n ++ [zhx b n]
theorem zcV (b : ByteArray) : ∀ n,(zeE b n).length = n
 | 0 => rfl
 | n + 1 => by rw [zeE,List.length_append,zcV b n];rfl
theorem zg2 (b : ByteArray) : ∀ n,okL (zeE b n)
 | 0 => zgy
 | n + 1 => zhf (zg2 b n) (word4_ok b n)
def zfJ (W : List Int) (i : Nat) : Int :=
 zcr (zcr (zcr (W.getD (i - 16) 0 + zb5 (zb5 (zar 7 (W.getD (i - 15) 0)) (zar 18 (W.getD (i - 15) 0))) (W.getD (i - 15) 0 / 8)) + W.getD (i - 7) 0) + zb5 (zb5 (zar 17 (W.getD (i - 2) 0)) (zar 19 (W.getD (i - 2) 0))) (W.getD (i - 2) 0 / 1024))
def zZ (b : ByteArray) : Nat → List Int
 | 0 => zeE b 16
 | n + 1 => zZ b n ++ [zfJ (zZ b n) (16 + n)]
theorem zbJ (b : ByteArray) : ∀ n,(zZ b n).length = 16 + n
 | 0 => zcV b 16
 | n + 1 => by rw [zZ,List.length_append,zbJ b n];rfl
theorem zgc (b : ByteArray) : ∀ n,okL (zZ b n)
 | 0 => zg2 b 16
 | n + 1 => zhf (zgc b n) (ze4 _)
def zb1 (S K W : List Int) : Nat → List Int
 | 0 => S
 | n + 1 => zgK (zb1 S K W n) (K.getD n 0) (W.getD n 0)
theorem zfG {S : List Int} (h : okL S) (K W : List Int) : ∀ n,okL (zb1 S K W n)
 | 0 => h
 | n + 1 => ziI (zfG h K W n) _ _
theorem zeK {S : List Int} (h : S.length = 8) (K W : List Int) : ∀ n,(zb1 S K W n).length = 8
 | 0 => h
 | _ + 1 => rfl
def zcF (S H : List Int) (k : Nat) : List Int := (List.range 8).map fun j => if j < k then zcr (S.getD j 0 + H.getD j 0) else S.getD j 0
theorem zcw (S H : List Int) (k : Nat) : (zcF S H k).length = 8 := by simp [zcF]
theorem zc5 (S H : List Int) (k j : Nat) (hj : j < 8) : (zcF S H k).getD j 0 = if j < k then zcr (S.getD j 0 + H.getD j 0) else S.getD j 0 := by
 rw [zcF,List.getD_eq_getElem?_getD,List.getElem?_map,List.getElem?_range hj];rfl
theorem zg9 {A B : List Int} (ha : A.length = 8) (hb : B.length = 8) (h : ∀ j,j < 8 → A.getD j 0 = B.getD j 0) : A = B := by
 apply List.ext_getElem (by rw [ha,hb])
 intro i h1 h2
 have := h i (by omega)
 rwa [List.getD_eq_getElem?_getD,List.getD_eq_getElem?_getD,List.getElem?_eq_getElem h1,List.getElem?_eq_getElem h2] at this
theorem zh1 {S : List Int} (h : S.length = 8) (H : List Int) : zcF S H 0 = S :=
 zg9 (zcw _ _ _) h (fun j hj => by rw [zc5 _ _ _ _ hj,if_neg (by omega)])
theorem getD_set (L : List Int) (k j : Nat) (v : Int) (hk : k < L.length) : (L.set k v).getD j 0 = if j = k then v else L.getD j 0 := by
 rw [List.getD_eq_getElem?_getD,List.getElem?_set]
 by_cases h : k = j
 ·subst h;rw [if_pos rfl,if_pos hk,if_pos rfl];rfl
 ·rw [if_neg h,if_neg (Ne.symm h),← List.getD_eq_getElem?_getD]
theorem zh0 (S H : List Int) (k : Nat) (hk : k < 8) : (zcF S H k).set k (zcr (S.getD k 0 + H.getD k 0)) = zcF S H (k + 1) := by
 refine zg9 (by rw [List.length_set,zcw]) (zcw _ _ _) (fun j hj => ?_)
 rw [getD_set _ _ _ _ (by rw [zcw];exact hk),zc5 _ _ _ _ hj,zc5 _ _ _ _ hj]
 by_cases h : j = k
 ·subst h;rw [if_pos rfl,if_pos (by omega)]
 ·rw [if_neg h]
  by_cases h2 : j < k
  ·rw [if_pos h2,if_pos (by omega)]
  ·rw [if_neg h2,if_neg (by omega)]
def zgv (S K : List Int) (b : ByteArray) : List Int := zcF (zb1 S K (zZ b 48) 64) S 8
theorem zd5 (S K : List Int) (b : ByteArray) : (zgv S K b).length = 8 := zcw _ _ _
theorem mixL_ok (S K : List Int) (b : ByteArray) : okL (zgv S K b) := fun i => by
 rcases Nat.lt_or_ge i 8 with h | h
 ·rw [zgv,zc5 _ _ _ _ h,if_pos h];exact ze4 _
 ·rw [List.getD_eq_getElem?_getD,List.getElem?_eq_none (by rw [zd5];exact h)];simp [zcl]
def kL : List Int := [1116352408,1899447441,3049323471,3921009573,961987163,1508970993,2453635748,2870763221,3624381080,310598401,607225278,1426881987,1925078388,2162078206,2614888103,3248222580,3835390401,4022224774,264347078,604807628,770255983,1249150122,1555081692,1996064986,2554220882,2821834349,2952996808,3210313671,3336571891,3584528711,113926993,338241895,666307205,773529912,1294757372,1396182291,1695183700,1986661051,2177026350,2456956037,2730485921,2820302411,3259730800,3345764771,3516065817,3600352804,4094571909,275423344,430227734,506948616,659060556,883997877,958139571,1322822218,1537002063,1747873779,1955562222,2024104815,2227730452,2361852424,2428436474,2756734187,3204031479,3329325298]
def hL : List Int := [1779033703,3144134277,1013904242,2773480762,1359893119,2600822924,528734635,1541459225]
theorem hL_ok : okL hL := by
 refine zaT ?_ (zaT ?_ (zaT ?_ (zaT ?_ (zaT ?_ (zaT ?_ (zaT ?_ (zaT ?_ zgy))))))) <;> (constructor <;> decide)
def ze9 (n : Nat) : Bs := [UInt8.ofNat (n / 72057594037927936 % 256),UInt8.ofNat (n / 281474976710656 % 256),UInt8.ofNat (n / 1099511627776 % 256),UInt8.ofNat (n / 4294967296 % 256),UInt8.ofNat (n / 16777216 % 256),UInt8.ofNat (n / 65536 % 256),UInt8.ofNat (n / 256 % 256),UInt8.ofNat (n % 256)]
def zdV (n : Nat) : Nat := (119 - n % 64) % 64
def zeO (s : Bs) : Bs := s ++ 128 :: (List.replicate (zdV s.length) 0 ++ ze9 (s.length * 8))
theorem padL_len (s : Bs) : ∃ m,(zeO s).length = 64 * m := by
 refine ⟨(s.length + 9 + zdV s.length) / 64,?_⟩
 have : (zeO s).length = s.length + 9 + zdV s.length := by simp [zeO,ze9];omega
 rw [this];unfold zdV;omega
def zbh (p : ByteArray) : Nat → List Int
 | 0 => hL
 | i + 1 => zgv (zbh p i) kL (p.extract (64 * i) (64 * i + 64))
theorem zbN (p : ByteArray) : ∀ i,(zbh p i).length = 8
 | 0 => rfl
 | _ + 1 => zd5 _ _ _
theorem zfb (p : ByteArray) : ∀ i,okL (zbh p i)
 | 0 => hL_ok
 | _ + 1 => mixL_ok _ _ _
def zc8 (x : Int) : Bs := [UInt8.ofNat (x.toNat / 16777216 % 256),UInt8.ofNat (x.toNat / 65536 % 256),UInt8.ofNat (x.toNat / 256 % 256),UInt8.ofNat (x.toNat % 256)]
def zhX (s : ByteArray) : ByteArray := toB ((zbh (toB (zeO (ofB s))) ((zeO (ofB s)).length / 64)).flatMap zc8)
theorem zd2 (l : List Int) : (l.flatMap zc8).length = 4 * l.length := by
 induction l with
 | nil => rfl
 | cons x l ih => rw [List.flatMap_cons,List.length_append,ih,List.length_cons];show 4 + _ = _;omega
theorem ziM (s : ByteArray) : (zhX s).size = 32 := by
 rw [zhX,zb2,zd2,zbN]
def zJ (L : List Int) : Array Value := (L.map (Value.int .u32)).toArray
theorem zbi (L : List Int) : (zJ L).size = L.length := by simp [zJ]
theorem zal (L : List Int) (i : Nat) (h : i < L.length) : (zJ L)[i]? = some (.int .u32 (L.getD i 0)) := by
 rw [zJ,List.getElem?_toArray,List.getElem?_map,List.getElem?_eq_getElem h,List.getD_eq_getElem?_getD,List.getElem?_eq_getElem h];rfl
theorem zeA (L : List Int) (i : Nat) (v : Int) : (zJ L).setIfInBounds i (.int .u32 v) = zJ (L.set i v) := by
 simp [zJ,List.map_set]
theorem zez (L : List Int) (h : L.length = 8) : zJ L = #[.int .u32 (L.getD 0 0),.int .u32 (L.getD 1 0),.int .u32 (L.getD 2 0),.int .u32 (L.getD 3 0),.int .u32 (L.getD 4 0),.int .u32 (L.getD 5 0),.int .u32 (L.getD 6 0),.int .u32 (L.getD 7 0)] := by
 obtain ⟨a,b,c,d,e,f,g,k,rfl⟩ : ∃ a b c d e f g k,L = [a,b,c,d,e,f,g,k] := by
  match L,h with
  | [a,b,c,d,e,f,g,k],_ => exact ⟨a,b,c,d,e,f,g,k,rfl⟩
 rfl
def zbH (W : List Int) : List Int := W ++ List.replicate (64 - W.length) 0
theorem zdc {W : List Int} (h : W.length ≤ 64) : (zbH W).length = 64 := by simp [zbH];omega
theorem zff {W : List Int} (i : Nat) (h : i < W.length) : (zbH W).getD i 0 = W.getD i 0 := by
 rw [zbH,List.getD_eq_getElem?_getD,List.getElem?_append_left h,← List.getD_eq_getElem?_getD]
theorem zhI {W : List Int} (h : W.length < 64) (v : Int) : (zbH W).set W.length v = zbH (W ++ [v]) := by
 rw [zbH,zbH,List.set_append_right _ _ (Nat.le_refl _),Nat.sub_self,List.length_append]
 obtain ⟨m,hm⟩ : ∃ m,64 - W.length = m + 1 := ⟨63 - W.length,by omega⟩
 rw [hm,List.replicate_succ,List.set_cons_zero,show 64 - (W.length + [v].length) = m by simp;omega]
 simp
theorem pow_pq (n : Nat) (h1 : n ≤ 32) : (2 : Int) ^ n * 2 ^ (32 - n) = 4294967296 := by
 rw [← Int.pow_add,show n + (32 - n) = 32 by omega];rfl
theorem zhi (n : Nat) : (0 : Int) < 2 ^ n := Int.pow_pos (by decide)
theorem rot_join (n : Nat) (h1 : n ≤ 32) {x : Int} (hx : zcl x) : Go.bits .or .u32 (IntKind.u32.wrap (x * 2 ^ (32 - n))) (x / 2 ^ n) = zar n x := by
 have hpq := pow_pq n h1
 have hp := zhi n
 have hq := zhi (32 - n)
 have h2 := Int.emod_nonneg x (Int.ne_of_gt hp)
 have h3 := Int.emod_lt_of_pos x hp
 have h4 : 0 ≤ x / 2 ^ n := Int.ediv_nonneg hx.1 (Int.le_of_lt hp)
 have h5 : x / 2 ^ n < 2 ^ (32 - n) := Int.ediv_lt_of_lt_mul hp (by rw [Int.mul_comm,hpq];exact hx.2)
 have h8 : x / 2 ^ n < 4294967296 := by
  have : x / 2 ^ n ≤ x := Int.ediv_le_self _ hx.1
  have := hx.2;omega
 have e : IntKind.u32.wrap (x * 2 ^ (32 - n)) = x % 2 ^ n * 2 ^ (32 - n) := by
  rw [IntKind.wrap_u32,← hpq,Int.mul_comm x,Int.mul_comm (2 ^ n),Int.mul_emod_mul_of_pos _ _ hq,Int.mul_comm]
 have h6 : x % 2 ^ n * 2 ^ (32 - n) ≤ (2 ^ n - 1) * 2 ^ (32 - n) := Int.mul_le_mul_of_nonneg_right (by omega) (by omega)
 rw [Int.sub_mul,hpq,Int.one_mul] at h6
 have h7 : 0 ≤ x % 2 ^ n * 2 ^ (32 - n) := Int.mul_nonneg h2 (by omega)
 rw [e,bits_join .u32 32 (by decide) (fun n h0 h1 => by rw [IntKind.wrap_u32];omega) (32 - n) _ _ h7 (Int.mul_emod_left _ _) (by omega) h4 h5 (by omega),zar,Int.add_comm]
theorem zhs (n : Nat) (h0 : 1 ≤ n) (h1 : n ≤ 31) {x : Int} (hx : zcl x) : zfK.f x (n : Int) = some (zar n x) := by
 unfold zfK.f zbR.f
 have e1 : wrap64 (-(n : Int)) = -(n : Int) := zak (by omega) (by omega)
 have e2 : IntKind.u64.wrap (-(n : Int)) = 18446744073709551616 - (n : Int) := by
  show (-(n : Int)) % 18446744073709551616 = _
  omega
 have e3 : Go.bits .and .u64 (18446744073709551616 - (n : Int)) 31 = ((32 - n : Nat) : Int) := by
  have := bits_mask .u64 64 (by decide) (fun n h0 h1 => zcm h0 (by omega)) 5 (by decide) (18446744073709551616 - (n : Int)) (by omega) (by omega)
  rw [show ((2 : Int) ^ 5 - 1) = 31 from rfl,show (2 : Int) ^ 5 = 32 from rfl] at this
  rw [this];omega
 have e4 : IntKind.u64.wrap (32 - ((32 - n : Nat) : Int)) = (n : Int) := by rw [zcm (by omega) (by omega)];omega
 rw [e1,e2,e3,e4,if_pos (by omega),if_pos (by omega)]
 simp only [Option.bind_some]
 congr 1
 unfold shl shr
 rw [Int.toNat_natCast,Int.toNat_natCast,Nat.min_eq_left (by show 32 - n ≤ 32;omega),Nat.min_eq_left (by show n ≤ 32;omega)]
 exact rot_join n (by omega) hx
end Go.Proofs.Ytndjfdakflaggaa.Px