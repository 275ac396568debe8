/- Part 9 of 35 of the proof of the law PostTakes: what is proved is the statement at the end of the last part; its conditions are those of the given row. -/
import Derived.Test.YtgdpiegkoeikiaaZPostTakesH
namespace Go.Proofs.Ytgdpiegkoeikiaa.Px
open Go.RowKit Go.Proofs.YtgdpiegkoeikiaaW.PrintWords Go.Proofs.YtgdpiegkoeikiaaW.PrintLast Go.Proofs.YtgdpiegkoeikiaaW.PrintMore
attribute [local go_sem] zF zH zQ zR zy zz zG zI
set_option linter.unusedVariables false
set_option linter.unusedSimpArgs false
def zat.l0 : Nat → List ByteArray → Int → List ByteArray → Int → Int → Option (Bool)
 | 0,_,_,_,_,_ => none
 | k + 1,x0,x2,x14,x15,x16 => if x16 < x15 then (if 0 ≤ x16 then (if x16 < (x14.length : Int) then (if ((zaF ByteArray.empty x14 x16).size : Int) = 32 then (if x16 > 0 then (if 0 ≤ (wrap64 (x16 - 1)) then (if (wrap64 (x16 - 1)) < (x0.length : Int) then (if ((Op.bytesLess ((zaF ByteArray.empty x0 (wrap64 (x16 - 1))).toList) ((zaF ByteArray.empty x14 x16).toList)) = true) then (zat.l0 k x0 x2 x14 x15 (wrap64 (x16 + 1))) else (some false)) else (none)) else (none)) else (zat.l0 k x0 x2 x14 x15 (wrap64 (x16 + 1)))) else (some false)) else (none)) else (none)) else ((zaO.f x2).bind fun t141 => (if (x0.length : Int) ≥ t141 then (some (decide ((x0.length : Int) ≤ x2))) else (some false)))
def zat.f (k : Nat) (l0 : List ByteArray) (a1 : Int) (a2 : Int) : Option (Bool) := if a1 = 1 then (some ((l0.length : Int) == 0)) else (zat.l0 k l0 a2 l0 (l0.length : Int) 0)
set_option maxHeartbeats 8000000 in
set_option maxRecDepth 100000 in
theorem zat.calls (k : Nat) (A0 : Option Addr) (c0 : Nat) (l0 : List ByteArray) (a1 : Int) (a2 : Int) (r : Bool) (w : World) (hr0 : Kd.C Kd.string w A0 l0.length l0) (hc0 : l0.length ≤ c0) (h : zat.f k l0 a1 a2 = some r) :
  Calls Try.prog 93 #[.slice A0 l0.length c0,.int .i64 a1,.int .i64 a2] w fun e w' => e = .returned (.bool r) ∧ zax w w' := by
 have HR0 := zc.mk hr0
 have HC0 := zc.mk hc0
 clear hr0 hc0
 have H : (if a1 = 1 then (some ((l0.length : Int) == 0)) else (zat.l0 k l0 a2 l0 (l0.length : Int) 0)) = some r := h
 clear h
 by_cases c4 : a1 = 1
 ·rw [if_pos c4] at H
  have c4b0 : (a1 == 1) = true := beq_iff_eq.mpr c4
  have c4b1 : (a1 != 1) = false := bne_eq_false_iff_eq.mpr c4
  clear c4
  obtain rfl := Option.some.inj H
  go_enter Try.func93,Try.ntmps93
  go_wp2
  go_ret
  exact ⟨hDq,hEq⟩
 ·rw [if_neg c4] at H
  have c4b0 : (a1 == 1) = false := beq_eq_false_iff_ne.mpr c4
  have c4b1 : (a1 != 1) = true := bne_iff_ne.mpr c4
  have H' := zc.mk H
  clear H
  go_enter Try.func93,Try.ntmps93
  go_wp2
  go_loopg [16] k (fun kq v16 w' => ∃ (x16_1 : Int),v16 = .int .i64 x16_1 ∧ zc (zat.l0 kq l0 a2 l0 (l0.length : Int) x16_1 = some r) ∧ zc (kq ≤ k) ∧ zax w w')
  case atStart => exact ⟨(0),(hDq),H',⟨Nat.le_refl _⟩,hEq⟩
  case round =>
   clear H'
   try clear p2
   try clear c4
   try clear c4b0
   try clear c4b1
   obtain ⟨x16_1,rfl,HA,HK1,⟨m1,rfl⟩⟩ := hrel
   cases gk with
   | zero => exact absurd HA.out (by simp [zat.l0])
   | succ k1 =>
    have H := HA.out
    clear HA
    simp only [zat.l0] at H
    by_cases c5 : x16_1 < (l0.length : Int)
    ·rw [if_pos c5] at H
     have c5b0 : decide (x16_1 < (l0.length : Int)) = true := decide_eq_true c5
     clear c5
     by_cases c6 : 0 ≤ x16_1
     ·rw [if_pos c6] at H
      have c6b0 : decide (0 ≤ x16_1) = true := decide_eq_true c6
      clear c6
      by_cases c7 : x16_1 < (l0.length : Int)
      ·rw [if_pos c7] at H
       have c7b0 : decide (x16_1 < (l0.length : Int)) = true := decide_eq_true c7
       clear c7
       by_cases c8 : ((zaF ByteArray.empty l0 x16_1).size : Int) = 32
       ·rw [if_pos c8] at H
        have c8b0 : (((zaF ByteArray.empty l0 x16_1).size : Int) == 32) = true := beq_iff_eq.mpr c8
        have c8b1 : (((zaF ByteArray.empty l0 x16_1).size : Int) != 32) = false := bne_eq_false_iff_eq.mpr c8
        clear c8
        by_cases c9 : x16_1 > 0
        ·rw [if_pos c9] at H
         have c9b0 : decide (0 < x16_1) = true := decide_eq_true c9
         clear c9
         obtain ⟨ji10,hji10⟩ : ∃ j_ : Int,(wrap64 (x16_1 - 1)) = j_ := ⟨_,rfl⟩
         replace H : (if 0 ≤ (ji10) then (if (ji10) < (l0.length : Int) then (if ((Op.bytesLess ((zaF ByteArray.empty l0 (ji10)).toList) ((zaF ByteArray.empty l0 x16_1).toList)) = true) then (zat.l0 k1 l0 a2 l0 (l0.length : Int) (wrap64 (x16_1 + 1))) else (some false)) else (none)) else (none)) = some r := by first | (rw [hji10] at H;exact H) | (simp only [hji10] at H ⊢;exact H)
         have hji10w : (IntKind.i64.wrap (x16_1 - 1)) = ji10 := (zan _).trans hji10
         by_cases c11 : 0 ≤ (ji10)
         ·rw [if_pos c11] at H
          have c11b0 : decide (0 ≤ (ji10)) = true := decide_eq_true c11
          clear c11
          by_cases c12 : (ji10) < (l0.length : Int)
          ·rw [if_pos c12] at H
           have c12b0 : decide ((ji10) < (l0.length : Int)) = true := decide_eq_true c12
           clear c12
           by_cases c13 : ((Op.bytesLess ((zaF ByteArray.empty l0 (ji10)).toList) ((zaF ByteArray.empty l0 x16_1).toList)) = true)
           ·rw [if_pos c13] at H
            have c13b0 : (Op.bytesLess ((zaF ByteArray.empty l0 (ji10)).toList) ((zaF ByteArray.empty l0 x16_1).toList)) = true := c13
            clear c13
            have H' := zc.mk H
            clear H
            have p139 : 0 ≤ (x16_1 : Int) := hFq
            have q139 : x16_1 < (l0.length : Int) := hFq
            obtain ⟨ad139,e139,hx139_0⟩ := Kd.at_string HR0.out x16_1 p139 q139
            cases e139
            replace p139 := eq_true p139
            replace q139 := eq_true q139
            have p140 : 0 ≤ ((ji10) : Int) := hFq
            have q140 : (ji10) < (l0.length : Int) := hFq
            obtain ⟨ad140,e140,hx140_0⟩ := Kd.at_string HR0.out (ji10) p140 q140
            obtain rfl : ad139 = ad140 := (by injection e140)
            replace p140 := eq_true p140
            replace q140 := eq_true q140
            go_wp2
            go_roundg k1
            case measure => have := HK1.out;omega
            case rel => exact ⟨(wrap64 (x16_1 + 1)),(hDq),H',⟨by have := HK1.out;omega⟩,hEq⟩
           ·rw [if_neg c13] at H
            have c13b0 : (Op.bytesLess ((zaF ByteArray.empty l0 (ji10)).toList) ((zaF ByteArray.empty l0 x16_1).toList)) = false := by simpa using c13
            clear c13
            obtain rfl := Option.some.inj H
            have p139 : 0 ≤ (x16_1 : Int) := hFq
            have q139 : x16_1 < (l0.length : Int) := hFq
            obtain ⟨ad139,e139,hx139_0⟩ := Kd.at_string HR0.out x16_1 p139 q139
            cases e139
            replace p139 := eq_true p139
            replace q139 := eq_true q139
            have p140 : 0 ≤ ((ji10) : Int) := hFq
            have q140 : (ji10) < (l0.length : Int) := hFq
            obtain ⟨ad140,e140,hx140_0⟩ := Kd.at_string HR0.out (ji10) p140 q140
            obtain rfl : ad139 = ad140 := (by injection e140)
            replace p140 := eq_true p140
            replace q140 := eq_true q140
            go_wp2
            go_ret
            exact ⟨by first | rfl | (simp;done) | (simp only [← hji10] <;> (first | rfl | simp)) | (simp [*];done),hEq⟩
          ·rw [if_neg c12] at H
           exact absurd H (by simp)
         ·rw [if_neg c11] at H
          exact absurd H (by simp)
        ·rw [if_neg c9] at H
         have c9b0 : decide (0 < x16_1) = false := decide_eq_false c9
         clear c9
         have H' := zc.mk H
         clear H
         have p139 : 0 ≤ (x16_1 : Int) := hFq
         have q139 : x16_1 < (l0.length : Int) := hFq
         obtain ⟨ad139,e139,hx139_0⟩ := Kd.at_string HR0.out x16_1 p139 q139
         cases e139
         replace p139 := eq_true p139
         replace q139 := eq_true q139
         go_wp2
         go_roundg k1
         case measure => have := HK1.out;omega
         case rel => exact ⟨(wrap64 (x16_1 + 1)),(hDq),H',⟨by have := HK1.out;omega⟩,hEq⟩
       ·rw [if_neg c8] at H
        have c8b0 : (((zaF ByteArray.empty l0 x16_1).size : Int) == 32) = false := beq_eq_false_iff_ne.mpr c8
        have c8b1 : (((zaF ByteArray.empty l0 x16_1).size : Int) != 32) = true := bne_iff_ne.mpr c8
        obtain rfl := Option.some.inj H
        have p139 : 0 ≤ (x16_1 : Int) := hFq
        have q139 : x16_1 < (l0.length : Int) := hFq
        obtain ⟨ad139,e139,hx139_0⟩ := Kd.at_string HR0.out x16_1 p139 q139
        cases e139
        replace p139 := eq_true p139
        replace q139 := eq_true q139
        go_wp2
        go_ret
        exact ⟨hDq,hEq⟩
      ·rw [if_neg c7] at H
       exact absurd H (by simp)
     ·rw [if_neg c6] at H
      exact absurd H (by simp)
    ·rw [if_neg c5] at H
     have c5b0 : decide (x16_1 < (l0.length : Int)) = false := decide_eq_false c5
     clear c5
     replace H := Option.bind_eq_some_iff.mp H
     obtain ⟨t141,A140,H⟩ := H
     replace H : (if (l0.length : Int) ≥ t141 then (some (decide ((l0.length : Int) ≤ a2))) else (some false)) = some r := H
     have A14 := zc.mk A140
     clear A140
     by_cases c15 : (l0.length : Int) ≥ t141
     ·rw [if_pos c15] at H
      have c15b0 : decide (t141 ≤ (l0.length : Int)) = true := decide_eq_true c15
      clear c15
      obtain rfl := Option.some.inj H
      go_wp2_with (first | ((with_reducible refine zt (f := 77) rfl ?_);refine zU (some 41) rfl rfl Try.func77 (by kernel_rfl) rfl #[.int .i64 a2] rfl (by (try simp only [List.map_toArray,List.map_cons,List.map_nil]);first | done | rfl | (simp only [List.length_drop,List.length_take];rfl)) ?_;(with_reducible refine (zaO.calls a2 t141 _ A14.out).mono ?_);rintro e w' ⟨rfl,⟨nd,rfl⟩⟩;refine ⟨_,rfl,?_⟩))
      go_ret
      exact ⟨hDq,hEq⟩
     ·rw [if_neg c15] at H
      have c15b0 : decide (t141 ≤ (l0.length : Int)) = false := decide_eq_false c15
      clear c15
      obtain rfl := Option.some.inj H
      go_wp2_with (first | ((with_reducible refine zt (f := 77) rfl ?_);refine zU (some 41) rfl rfl Try.func77 (by kernel_rfl) rfl #[.int .i64 a2] rfl (by (try simp only [List.map_toArray,List.map_cons,List.map_nil]);first | done | rfl | (simp only [List.length_drop,List.length_take];rfl)) ?_;(with_reducible refine (zaO.calls a2 t141 _ A14.out).mono ?_);rintro e w' ⟨rfl,⟨nd,rfl⟩⟩;refine ⟨_,rfl,?_⟩))
      go_ret
      exact ⟨hDq,hEq⟩
def zbF.f (a0 : Int) : Option (Bool) := if a0 ≥ 3 then (some ((Int.tmod a0 3) == 0)) else (some false)
set_option maxHeartbeats 8000000 in
set_option maxRecDepth 100000 in
theorem zbF.calls (a0 : Int) (r : Bool) (w : World) (h : zbF.f a0 = some r) :
  Calls Try.prog 92 #[.int .i64 a0] w fun e w' => e = .returned (.bool r) ∧ zax w w' := by
 have H : (if a0 ≥ 3 then (some ((Int.tmod a0 3) == 0)) else (some false)) = some r := h
 clear h
 by_cases c2 : a0 ≥ 3
 ·rw [if_pos c2] at H
  have c2b0 : decide (3 ≤ a0) = true := decide_eq_true c2
  clear c2
  obtain rfl := Option.some.inj H
  go_enter Try.func92,Try.ntmps92
  go_wp2
  go_ret
  exact ⟨hDq,hEq⟩
 ·rw [if_neg c2] at H
  have c2b0 : decide (3 ≤ a0) = false := decide_eq_false c2
  clear c2
  obtain rfl := Option.some.inj H
  go_enter Try.func92,Try.ntmps92
  go_wp2
  go_ret
  exact ⟨hDq,hEq⟩
mutual
def zS.l0 : Nat → ByteArray → ByteArray → Int → Option (Bool)
 | 0,_,_,_ => none
 | k + 1,x0,x1,x5 => if x5 < (x0.size : Int) then (zS.j1 k x0 x1 x5 (decide (x5 < (x1.size : Int)))) else (zS.j1 k x0 x1 x5 false)
def zS.j1 : Nat → ByteArray → ByteArray → Int → Bool → Option (Bool)
 | 0,_,_,_,_ => none
 | k + 1,x0,x1,x5,x15 => if x15 = true then (if 0 ≤ x5 then (if x5 < (x0.size : Int) then (if x5 < (x1.size : Int) then (if (bt x0 x5) = (bt x1 x5) then (zS.l0 k x0 x1 (wrap64 (x5 + 1))) else (some (decide ((bt x0 x5) < (bt x1 x5))))) else (none)) else (none)) else (none)) else (some (decide ((x0.size : Int) < (x1.size : Int))))
end
def zS.f (k : Nat) (a0 : ByteArray) (a1 : ByteArray) : Option (Bool) := zS.l0 k a0 a1 0
set_option maxHeartbeats 8000000 in
set_option maxRecDepth 100000 in
theorem zS.calls (k : Nat) (a0 : ByteArray) (a1 : ByteArray) (r : Bool) (w : World) (h : zS.f k a0 a1 = some r) :
  Calls Try.prog 97 #[.string a0,.string a1] w fun e w' => e = .returned (.bool r) ∧ zax w w' := by
 have H : (zS.l0 k a0 a1 0) = some r := h
 clear h
 have H' := zc.mk H
 clear H
 go_enter Try.func97,Try.ntmps97
 go_wp2
 repeat (go_quiet (fail);try go_wp2)
 go_loopg [5] k (fun kq v5 w' => ∃ (x5_1 : Int),v5 = .int .i64 x5_1 ∧ zc (zS.l0 kq a0 a1 x5_1 = some r) ∧ zc (kq ≤ k) ∧ zax w w')
 case atStart => exact ⟨(0),(hDq),H',⟨Nat.le_refl _⟩,hEq⟩
 case round =>
  clear H'
  try clear p2
  obtain ⟨x5_1,rfl,HA,HK1,⟨m1,rfl⟩⟩ := hrel
  cases gk with
  | zero => exact absurd HA.out (by simp [zS.l0])
  | succ k1 =>
   have H := HA.out
   clear HA
   simp only [zS.l0] at H
   have HC3 := zc.mk H
   clear H
   go_upto_region 2 with (fail)
   repeat (go_quiet (fail);go_upto_region 2 with (fail))
   go_cut [15] (fun v15 wc => ∃ (kq : Nat) (x15_2 : Bool),v15 = .bool x15_2 ∧ zc (zS.j1 kq a0 a1 x5_1 x15_2 = some r) ∧ zc (kq ≤ k1) ∧ zax w wc)
   case first =>
    have H := HC3.out
    clear HC3
    by_cases c4 : x5_1 < (a0.size : Int)
    ·rw [if_pos c4] at H
     have c4b0 : decide (x5_1 < (a0.size : Int)) = true := decide_eq_true c4
     clear c4
     (first | rw [c4b0] | (simp only [zan,zaq];rw [c4b0]) | skip)
     have H' := zc.mk H
     clear H
     go_wp2
     repeat (go_quiet (fail);try go_wp2)
     go_meet
     case rel => exact ⟨_,(decide (x5_1 < (a1.size : Int))),(hDq),H',⟨by have := HK1.out;first | omega | exact Nat.le_refl _⟩,hEq⟩
    ·rw [if_neg c4] at H
     have c4b0 : decide (x5_1 < (a0.size : Int)) = false := decide_eq_false c4
     clear c4
     (first | rw [c4b0] | (simp only [zan,zaq];rw [c4b0]) | skip)
     have H' := zc.mk H
     clear H
     go_wp2
     repeat (go_quiet (fail);try go_wp2)
     go_meet
     case rel => exact ⟨_,(false),(hDq),H',⟨by have := HK1.out;first | omega | exact Nat.le_refl _⟩,hEq⟩
   case rest =>
    clear HC3
    try clear p2
    try clear c4
    try clear c4b0
    try clear p2
    obtain ⟨kq,x15_2,rfl,HA,HJ2,⟨mc2,rfl⟩⟩ := hcut
    cases kq with
    | zero => exact absurd HA.out (by simp [zS.j1])
    | succ kj2 =>
     have H := HA.out
     clear HA
     simp only [zS.j1] at H
     by_cases c5 : x15_2 = true
     ·subst c5
      have H1 : (if 0 ≤ x5_1 then (if x5_1 < (a0.size : Int) then (if x5_1 < (a1.size : Int) then (if (bt a0 x5_1) = (bt a1 x5_1) then (zS.l0 kj2 a0 a1 (wrap64 (x5_1 + 1))) else (some (decide ((bt a0 x5_1) < (bt a1 x5_1))))) else (none)) else (none)) else (none)) = some r := by rw [if_pos rfl] at H;exact H
      clear H
      have H := H1
      clear H1
      by_cases c6 : 0 ≤ x5_1
      ·rw [if_pos c6] at H
       have c6b0 : decide (0 ≤ x5_1) = true := decide_eq_true c6
       clear c6
       by_cases c7 : x5_1 < (a0.size : Int)
       ·rw [if_pos c7] at H
        have c7b0 : decide (x5_1 < (a0.size : Int)) = true := decide_eq_true c7
        clear c7
        by_cases c9 : x5_1 < (a1.size : Int)
        ·rw [if_pos c9] at H
         have c9b0 : decide (x5_1 < (a1.size : Int)) = true := decide_eq_true c9
         clear c9
         by_cases c11 : (bt a0 x5_1) = (bt a1 x5_1)
         ·rw [if_pos c11] at H
          have c11b0 : ((bt a0 x5_1) == (bt a1 x5_1)) = true := beq_iff_eq.mpr c11
          have c11b1 : ((bt a0 x5_1) != (bt a1 x5_1)) = false := bne_eq_false_iff_eq.mpr c11
          clear c11
          have H' := zc.mk H
          clear H
          have p8 : 0 ≤ (x5_1 : Int) := hFq
          have q8 : x5_1 < (a0.size : Int) := hFq
          have hx8 := zcn a0 x5_1
          replace p8 := eq_true p8
          replace q8 := eq_true q8
          have p10 : 0 ≤ (x5_1 : Int) := hFq
          have q10 : x5_1 < (a1.size : Int) := hFq
          have hx10 := zcn a1 x5_1
          replace p10 := eq_true p10
          replace q10 := eq_true q10
          go_wp2
          repeat (go_quiet (fail);try go_wp2)
          go_roundg kj2
          case measure => have := HK1.out;have := HJ2.out;omega
          case rel => exact ⟨(wrap64 (x5_1 + 1)),(hDq),H',⟨by have := HK1.out;have := HJ2.out;omega⟩,hEq⟩
         ·rw [if_neg c11] at H
          have c11b0 : ((bt a0 x5_1) == (bt a1 x5_1)) = false := beq_eq_false_iff_ne.mpr c11
          have c11b1 : ((bt a0 x5_1) != (bt a1 x5_1)) = true := bne_iff_ne.mpr c11
          obtain rfl := Option.some.inj H
          have p8 : 0 ≤ (x5_1 : Int) := hFq
          have q8 : x5_1 < (a0.size : Int) := hFq
          have hx8 := zcn a0 x5_1
          replace p8 := eq_true p8
          replace q8 := eq_true q8
          have p10 : 0 ≤ (x5_1 : Int) := hFq
          have q10 : x5_1 < (a1.size : Int) := hFq
          have hx10 := zcn a1 x5_1
          replace p10 := eq_true p10
          replace q10 := eq_true q10
          have p12 : 0 ≤ (x5_1 : Int) := hFq
          have q12 : x5_1 < (a0.size : Int) := hFq
          have hx12 := zcn a0 x5_1
          replace p12 := eq_true p12
          replace q12 := eq_true q12
          have p13 : 0 ≤ (x5_1 : Int) := hFq
          have q13 : x5_1 < (a1.size : Int) := hFq
          have hx13 := zcn a1 x5_1
          replace p13 := eq_true p13
          replace q13 := eq_true q13
          go_wp2
          repeat (go_quiet (fail);try go_wp2)
          go_ret
          exact ⟨hDq,hEq⟩
        ·rw [if_neg c9] at H
         exact absurd H (by simp)
       ·rw [if_neg c7] at H
        exact absurd H (by simp)
      ·rw [if_neg c6] at H
       exact absurd H (by simp)
     ·replace c5 := Bool.eq_false_iff.mpr c5
      subst c5
      have H1 : (some (decide ((a0.size : Int) < (a1.size : Int)))) = some r := by rw [if_neg (show ¬ (false = true) by decide)] at H;exact H
      clear H
      have H := H1
      clear H1
      obtain rfl := Option.some.inj H
      go_wp2
      repeat (go_quiet (fail);try go_wp2)
      go_ret
      exact ⟨hDq,hEq⟩
def zdc : Bs → Bs → Bool
 | [],b => !b.isEmpty
 | _ :: _,[] => false
 | x :: xs,y :: ys => if x = y then zdc xs ys else decide (x.toNat < y.toNat)
theorem zg7 (l : Bs) (j : Nat) : bt (toB l) (j : Int) = ((l.getD j 0).toNat : Int) := by rw [zdZ,zae]
theorem zd0 (l : Bs) (j : Nat) (h : j < l.length) : l.drop j = l.getD j 0 :: l.drop (j + 1) := by
 rw [List.drop_eq_getElem_cons h,List.getD_eq_getElem?_getD,List.getElem?_eq_getElem h];rfl
theorem zgW (a b : Bs) (ha : a.length < 4611686018427387904) (d : Nat) : ∀ j,j + d = a.length →
  Ev (fun k => zS.l0 k (toB a) (toB b) (j : Int)) (zdc (a.drop j) (b.drop j)) := by
 induction d with
 | zero =>
  intro j hj
  have e : a.drop j = [] := List.drop_eq_nil_of_le (by omega)
  refine Ev.step (fun k => by rw [zS.l0]) ?_
  refine zO (by rw [zV];omega) (Ev.step (fun k => by rw [zS.j1]) ?_)
  refine zO (by simp) (zao (Ev.now _) ?_)
  rw [e,zdc,zV,zV]
  by_cases h : j < b.length
  ·rw [zd0 b j h];simp;omega
  ·rw [List.drop_eq_nil_of_le (by omega)];simp;omega
 | succ d ih =>
  intro j hj
  have e := zd0 a j (by omega)
  refine Ev.step (fun k => by rw [zS.l0]) ?_
  refine zw (by rw [zV];omega) (Ev.step (fun k => by rw [zS.j1]) ?_)
  by_cases h : j < b.length
  ·have f := zd0 b j h
   refine zw (by rw [zV];simp;omega) (zw (by omega) (zw (by rw [zV];omega) (zw (by rw [zV];omega) ?_)))
   rw [zg7,zg7,zag (by omega) (by omega),e,f,zdc]
   by_cases hx : a.getD j 0 = b.getD j 0
   ·rw [if_pos hx]
    exact zw (by rw [hx]) (ih (j + 1) (by omega))
   ·rw [if_neg hx]
    exact zO (fun h => hx (UInt8.toNat_inj.1 (by omega))) (zao (Ev.now _) (by simp))
  ·have f : b.drop j = [] := List.drop_eq_nil_of_le (by omega)
   refine zO (by rw [zV];simp;omega) (zao (Ev.now _) ?_)
   rw [e,f,zdc,zV,zV]
   simp;omega
theorem zhG (a b : ByteArray) (ha : a.size < 4611686018427387904) : Ev (fun k => zS.f k a b) (zdc (ofB a) (ofB b)) := by
 have h := zgW (ofB a) (ofB b) (by rw [zah];exact ha) (ofB a).length 0 (by omega)
 rw [zcl,zcl] at h
 exact h
theorem zc6 : ∀ a b : Bs,Op.bytesLess a b = zdc a b
 | [],[] => rfl
 | [],_ :: _ => rfl
 | _ :: _,[] => rfl
 | x :: xs,y :: ys => by
  rw [Op.bytesLess,zdc,zc6 xs ys]
  by_cases h : x = y
  ·subst h;simp
  ·rw [if_neg h]
   have hn : x.toNat ≠ y.toNat := fun e => h (UInt8.toNat_inj.1 e)
   by_cases h1 : x < y
   ·have := UInt8.lt_iff_toNat_lt.1 h1
    simp [h1,this]
   ·have h2 : ¬ x.toNat < y.toNat := fun e => h1 (UInt8.lt_iff_toNat_lt.2 e)
    have h3 : y < x := UInt8.lt_iff_toNat_lt.2 (by omega)
    simp [h1,h2]
    exact fun e => absurd e h
def zdd (n : Int) : Bool := decide (4 ≤ n) && decide (n ≤ 64) && decide (n % 3 = 1)
theorem zaV (n : Int) : zaG.f n = some (zdd n) := by
 unfold zaG.f zdd
 by_cases h : n ≥ 4
 ·rw [if_pos h]
  by_cases h1 : n ≤ 64
  ·rw [if_pos h1,Int.tmod_eq_emod_of_nonneg (by omega)]
   by_cases h2 : n % 3 = 1
   ·simp [h1,h2];omega
   ·simp [h2]
  ·rw [if_neg h1];simp [h1]
 ·rw [if_neg h]
  have : ¬ 4 ≤ n := by omega
  simp [this]
theorem zde (n : Int) : zdd n = true ↔ 4 ≤ n ∧ n ≤ 64 ∧ n % 3 = 1 := by
 unfold zdd;simp [and_assoc]
def zbC (n : Int) : Int := if zdd n = true then n - (n - 1) / 3 else 0
theorem zc8 (n : Int) : zaO.f n = some (zbC n) := by
 unfold zaO.f zbD.f zbC
 rw [zaV]
 simp only [Option.bind_some]
 by_cases h : zdd n = true
 ·rw [if_pos h,if_pos h,if_pos h]
  obtain ⟨h1,h2,h3⟩ := (zde n).1 h
  simp only [Option.bind_some]
  rw [zag (x := n - 1) (by omega) (by omega),Int.tdiv_eq_ediv_of_nonneg (by omega),zag (x := (n - 1) / 3) (by omega) (by omega),zag (by omega) (by omega)]
 ·rw [if_neg h,if_neg h]
def zeo (a b : Int) : Bool := decide (0 ≤ a) && decide (a < 10007) && decide (0 ≤ b) && decide (b < 10007)
theorem zgc (a b : Int) : zeo a b = true ↔ 0 ≤ a ∧ a < 10007 ∧ 0 ≤ b ∧ b < 10007 := by
 unfold zeo;simp [and_assoc]
theorem zcc (a b : Int) : zbV.f a b = some (zeo a b) := by
 unfold zbV.f zeo
 by_cases h1 : 0 ≤ a <;> by_cases h2 : a < 10007 <;> by_cases h3 : 0 ≤ b <;> simp [h1,h2,h3]
def zcU (r : Int) : Bool := decide (3 ≤ r) && decide (r % 3 = 0)
theorem zb3 (r : Int) : zbF.f r = some (zcU r) := by
 unfold zbF.f zcU
 by_cases h : r ≥ 3
 ·rw [if_pos h,Int.tmod_eq_emod_of_nonneg (by omega)]
  have : 3 ≤ r := h
  by_cases h2 : r % 3 = 0 <;> simp [this,h2]
 ·rw [if_neg h]
  have : ¬ 3 ≤ r := by omega
  simp [this]
def zfo (l : List ByteArray) (j : Nat) : Bool := decide ((l.getD j ByteArray.empty).size = 32) && (decide (j = 0) || zdc (ofB (l.getD (j - 1) ByteArray.empty)) (ofB (l.getD j ByteArray.empty)))
def zbr (l : List ByteArray) : Nat → Nat → Bool
 | 0,_ => true
 | d + 1,j => zfo l j && zbr l d (j + 1)
def zcd (l : List ByteArray) (r n : Int) : Bool :=
 if r = 1 then decide (l.length = 0) else zbr l l.length 0 && decide (zbC n ≤ l.length) && decide ((l.length : Int) ≤ n)
theorem zfM (l : List ByteArray) (n : Int) (hl : l.length ≤ 9223372036854775807) (d : Nat) : ∀ j,j + d = l.length →
  Ev (fun k => zat.l0 k l n l (l.length : Int) (j : Int)) (zbr l d j && decide (zbC n ≤ l.length) && decide ((l.length : Int) ≤ n)) := by
 induction d with
 | zero =>
  intro j hj
  refine Ev.step (fun k => by rw [zat.l0]) ?_
  refine zO (by omega) (zad (zc8 n) ?_)
  by_cases h : zbC n ≤ l.length
  ·exact zw h (zao (Ev.now _) (by simp [zbr,h]))
  ·exact zO h (zao (Ev.now _) (by simp [zbr,h]))
 | succ d ih =>
  intro j hj
  refine Ev.step (fun k => by rw [zat.l0]) ?_
  refine zw (by omega) (zw (by omega) (zw (by omega) ?_))
  have e1 : zaF ByteArray.empty l (j : Int) = l.getD j ByteArray.empty := by rw [zaF,Int.toNat_natCast]
  rw [e1]
  by_cases h : (l.getD j ByteArray.empty).size = 32
  ·refine zw (by omega) ?_
   rw [zag (x := (j : Int) + 1) (by omega) (by omega)]
   by_cases h0 : j = 0
   ·subst h0
    refine zO (by omega) (zao (ih 1 (by omega)) ?_)
    simp only [zbr,zfo,h];simp
   ·refine zw (by omega) ?_
    have e2 : wrap64 ((j : Int) - 1) = ((j - 1 : Nat) : Int) := by rw [zag (by omega) (by omega)];omega
    rw [e2]
    refine zw (by omega) (zw (by omega) ?_)
    have e3 : zaF ByteArray.empty l ((j - 1 : Nat) : Int) = l.getD (j - 1) ByteArray.empty := by rw [zaF,Int.toNat_natCast]
    rw [e3,zaT,zaT,zc6]
    by_cases h2 : zdc (ofB (l.getD (j - 1) ByteArray.empty)) (ofB (l.getD j ByteArray.empty)) = true
    ·refine zw h2 (zao (ih (j + 1) (by omega)) ?_)
     simp only [zbr,zfo,h,h2];simp
    ·refine zO h2 (zao (Ev.now _) ?_)
     rw [Bool.not_eq_true] at h2
     simp only [zbr,zfo,h,h0,h2];simp
  ·refine zO (by omega) (zao (Ev.now _) ?_)
   simp only [zbr,zfo,h];simp
theorem zgv (l : List ByteArray) (r n : Int) (hl : l.length ≤ 9223372036854775807) : Ev (fun k => zat.f k l r n) (zcd l r n) := by
 unfold zcd
 by_cases h : r = 1
 ·rw [if_pos h]
  refine zw h (zao (Ev.now _) ?_)
  by_cases h0 : l.length = 0 <;> simp [h0]
 ·rw [if_neg h]
  exact zO h (zfM l n hl l.length 0 (by omega))
end Go.Proofs.Ytgdpiegkoeikiaa.Px