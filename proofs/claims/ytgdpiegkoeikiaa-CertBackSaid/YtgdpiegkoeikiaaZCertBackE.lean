/- Part 5 of 30 of the proof of the law CertBack: what is proved is the statement at the end of the last part; its conditions are those of the given row. -/
import Derived.Test.YtgdpiegkoeikiaaZCertBackD
namespace Go.Proofs.Ytgdpiegkoeikiaa.Px
open Go.RowKit Go.Proofs.YtgdpiegkoeikiaaW.PrintWords Go.Proofs.YtgdpiegkoeikiaaW.PrintLast Go.Proofs.YtgdpiegkoeikiaaW.PrintMore
attribute [local go_sem] zx zz zJ zK zn zo zy zA
set_option linter.unusedVariables false
set_option linter.unusedSimpArgs false
def zcz (s : ByteArray) : Bool := decide (s.size = 0) || decide (48 < s.size)
theorem zaG.odd (s : ByteArray) (w : World) : Calls Try.prog 115 #[.string s] w fun e w' => e = .returned (.bool (zcz s)) ∧ w = w' := by
 by_cases h : s.toList = []
 ·have hb : (s.toList == []) = true := beq_iff_eq.mpr h
  have h0 : s.size = 0 := by rw [← zab,← zbo,h];rfl
  have HO : zc (zcz s = true) := ⟨by simp [zcz,h0]⟩
  clear h h0
  go_enter Try.func115,Try.ntmps115
  go_wp2
  go_ret
  rw [HO.out]
  exact ⟨rfl,rfl⟩
 ·have hb : (s.toList == []) = false := beq_eq_false_iff_ne.mpr h
  have h0 : s.size ≠ 0 := fun hz => h (List.eq_nil_of_length_eq_zero (by rw [zbo,zab,hz]))
  have HO : zc (zcz s = decide (48 < (s.size : Int))) := ⟨by simp [zcz,h0];omega⟩
  clear h h0
  by_cases h1 : 48 < (s.size : Int)
  ·have h1b : decide (48 < (s.size : Int)) = true := decide_eq_true h1
   rw [h1b] at HO
   clear h1
   go_enter Try.func115,Try.ntmps115
   go_wp2
   go_ret
   rw [HO.out]
   exact ⟨rfl,rfl⟩
  ·have h1b : decide (48 < (s.size : Int)) = false := decide_eq_false h1
   rw [h1b] at HO
   clear h1
   go_enter Try.func115,Try.ntmps115
   go_wp2
   go_ret
   rw [HO.out]
   exact ⟨rfl,rfl⟩
theorem zaG.idx (A : Option Addr) (c : Nat) (l : List ByteArray) (w : World) (hr : Kd.C Kd.string w A l.length l) (hc : l.length ≤ c) :
  Calls Try.prog 129 #[.slice A l.length c,.func (.func 115) #[] #[]] w fun e w' => e = .returned (.int .i64 (zhH zcz l)) ∧ w = w' := by
 have hm := hr.2.1
 have HR := zc.mk hr
 clear hr
 go_enter Try.func129,Try.ntmps129
 go_wp2_with fail
 go_loop [5,8] (fun v5 v8 => ∃ k : Nat,v8 = .int .i64 k ∧ k ≤ l.length ∧ zc (∀ (j : Nat) (y : ByteArray),j < k → l[j]? = some y → zcz y = false)) (fun _ v8 => l.length - (match v8 with | .int _ q => q | _ => 0).toNat)
 case atStart => exact ⟨0,rfl,Nat.zero_le _,⟨fun j y hj => absurd hj (Nat.not_lt_zero _)⟩⟩
 case round =>
  obtain ⟨k,rfl,hk,HN⟩ := hrel
  by_cases hlt : k < l.length
  ·obtain ⟨ad,rfl,hcell⟩ := Kd.at_string HR.out (k : Int) (by omega) (by omega)
   rw [Int.toNat_natCast] at hcell
   have hb : decide (k < l.length) = true := decide_eq_true hlt
   have hx : l[k]? = some (zH ByteArray.empty l (k : Int)) := by
    rw [zH,Int.toNat_natCast,List.getD_eq_getElem?_getD,List.getElem?_eq_getElem hlt];rfl
   have HX := zc.mk hx
   clear hx
   generalize zH ByteArray.empty l (k : Int) = s at *
   rcases ho : zcz s with _ | _
   ·have HO := zc.mk ho
    clear ho
    go_wp2_with (go_at_call 115;(with_reducible refine (zaG.odd _ _).mono ?_);rintro e w1 ⟨rfl,rfl⟩;rw [HO.out])
    go_round
    case rel =>
     refine ⟨k + 1,by go_num,by omega,⟨fun j y hj hy => ?_⟩⟩
     rcases Nat.lt_succ_iff_lt_or_eq.1 hj with h | h
     ·exact HN.out j y h hy
     ·subst h
      rw [HX.out] at hy
      injection hy with hy
      subst hy
      exact HO.out
    case measure => simp;omega
   ·have HO := zc.mk ho
    clear ho
    go_wp2_with (go_at_call 115;(with_reducible refine (zaG.odd _ _).mono ?_);rintro e w1 ⟨rfl,rfl⟩;rw [HO.out])
    go_ret
    exact ⟨by rw [zhJ HX.out HO.out HN.out];rfl,rfl⟩
  ·obtain rfl : k = l.length := by omega
   go_wp2_with fail
   go_ret
   exact ⟨by rw [zgI (fun j y hy => HN.out j y (List.getElem?_eq_some_iff.1 hy).1 hy)];rfl,rfl⟩
theorem zaG.contains (A : Option Addr) (c : Nat) (l : List ByteArray) (w : World) (hr : Kd.C Kd.string w A l.length l) (hc : l.length ≤ c) :
  Calls Try.prog 116 #[.slice A l.length c,.func (.func 115) #[] #[]] w fun e w' => e = .returned (.bool (l.any zcz)) ∧ w = w' := by
 have HR := zc.mk hr
 have HC := zc.mk hc
 clear hr hc
 have HA := zc.mk (zhI zcz l)
 go_enter Try.func116,Try.ntmps116
 go_wp2_with (go_at_call 129;(with_reducible refine (zaG.idx _ _ _ _ HR.out HC.out).mono ?_);rintro e w1 ⟨rfl,rfl⟩)
 go_ret
 exact ⟨by rw [← HA.out];rfl,rfl⟩
def zcB (o q : Int) (l : List ByteArray) : Bool := decide (1 ≤ o) && decide (o ≤ 64) && decide (1 ≤ q) && decide (q ≤ 1073741824) && decide (1 ≤ l.length) && decide (l.length ≤ 4) && !l.any zcz
def zaG.f (a0_0 : Int) (a0_1 : Int) (l0_2 : List ByteArray) : Option (Bool) := some (zcB a0_0 a0_1 l0_2)
theorem zaG.walk (a0_0 : Int) (a0_1 : Int) (A : Option Addr) (c : Nat) (l : List ByteArray) (w : World) (hr : Kd.C Kd.string w A l.length l) (hc : l.length ≤ c) :
  Calls Try.prog 87 #[.agg #[.int .i64 a0_0,.int .i64 a0_1,.slice A l.length c]] w fun e w' => e = .returned (.bool (zcB a0_0 a0_1 l)) ∧ Below w.heap.size w w' := by
 have HR := zc.mk hr
 have HC := zc.mk hc
 clear hr hc
 have HW := fun (o : Obj) => Kd.C_below HR.out (Below.alloc (Below.refl w.heap.size w) (Nat.le_refl _) o)
 have HW' := zc.mk HW
 clear HW
 go_enter Try.func87,Try.ntmps87
 go_wp2_with (go_at_call 116;(with_reducible refine (zaG.contains _ _ _ _ (HW'.out _) HC.out).mono ?_);rintro e w1 ⟨rfl,rfl⟩)
 all_goals go_ret
 all_goals refine ⟨may_ret ?_,(Below.refl _ _).alloc (Nat.le_refl _) _⟩
 all_goals (unfold zcB;simp;try omega)
theorem zaG.calls (a0_0 : Int) (a0_1 : Int) (A0_2 : Option Addr) (c0_2 : Nat) (l0_2 : List ByteArray) (r : Bool) (w : World) (hr0_2 : Kd.C Kd.string w A0_2 l0_2.length l0_2) (hc0_2 : l0_2.length ≤ c0_2) (h : zaG.f a0_0 a0_1 l0_2 = some r) :
  Calls Try.prog 87 #[.agg #[.int .i64 a0_0,.int .i64 a0_1,.slice A0_2 l0_2.length c0_2]] w fun e w' => e = .returned (.bool r) ∧ Below w.heap.size w w' := by
 obtain rfl := Option.some.inj h
 exact zaG.walk a0_0 a0_1 A0_2 c0_2 l0_2 w hr0_2 hc0_2
def zbZ.f (a0_0 : Int) (a0_1 : Int) : Option (Bool) := if a0_0 ≥ 0 then (if a0_0 < 10007 then (if a0_1 ≥ 0 then (some (decide (a0_1 < 10007))) else (some false)) else (some false)) else (some false)
set_option maxHeartbeats 8000000 in
set_option maxRecDepth 100000 in
theorem zbZ.calls (a0_0 : Int) (a0_1 : Int) (r : Bool) (w : World) (h : zbZ.f a0_0 a0_1 = some r) :
  Calls Try.prog 91 #[.agg #[.int .i64 a0_0,.int .i64 a0_1]] w fun e w' => e = .returned (.bool r) ∧ Below w.heap.size w w' := by
 have hu26 := Try.underlying26
 have HB := zc.mk (Below.refl w.heap.size w)
 have H : (if a0_0 ≥ 0 then (if a0_0 < 10007 then (if a0_1 ≥ 0 then (some (decide (a0_1 < 10007))) else (some false)) else (some false)) else (some false)) = some r := h
 clear h
 by_cases c2 : a0_0 ≥ 0
 ·rw [if_pos c2] at H
  have c2b0 : decide (0 ≤ a0_0) = true := decide_eq_true c2
  clear c2
  by_cases c3 : a0_0 < 10007
  ·rw [if_pos c3] at H
   have c3b0 : decide (a0_0 < 10007) = true := decide_eq_true c3
   clear c3
   by_cases c4 : a0_1 ≥ 0
   ·rw [if_pos c4] at H
    have c4b0 : decide (0 ≤ a0_1) = true := decide_eq_true c4
    clear c4
    obtain rfl := Option.some.inj H
    go_enter Try.func91,Try.ntmps91
    go_wp2_with (first | ((with_reducible refine zD (N := 1) rfl ?_);refine zq ?hg (N := 1) ?hd (cs := #[.int .i64 a0_0,.int .i64 a0_1]) (t := 26) ?hr ?_;(case hd => rfl);(case hg => rfl);(case hr => first | (go_simp;done) | (go_simp;rfl));intro gb138 hg w5 hbox hb;have n0_ := zc.mk (zg hBq hb);have n1_ := zc.mk (hbox);have n2_ := zc.mk ((by rw [hg];exact (zj hBq) : w.heap.size ≤ gb138));have n3_ := zc.mk ((by rw [hg];exact (zj hBq) : w.heap.size ≤ gb138));clear HB;have HB := n0_;have BK138 := n1_;have GW138 := n2_;have GE138 := n3_;clear n0_ n1_ n2_ n3_;clear hb hbox hg;have hcz6_0 : w5.cell? ⟨gb138,0,none⟩ = some (.int .i64 a0_0) := (zb BK138.out 0).trans rfl;have hcz6_1 : w5.cell? ⟨gb138,1,none⟩ = some (.int .i64 a0_1) := (zb BK138.out 1).trans rfl;have hfz6_0 := za BK138.out 0;have hfz6_1 := za BK138.out 1))
    go_ret
    exact ⟨hHq,hCq⟩
   ·rw [if_neg c4] at H
    have c4b0 : decide (0 ≤ a0_1) = false := decide_eq_false c4
    clear c4
    obtain rfl := Option.some.inj H
    go_enter Try.func91,Try.ntmps91
    go_wp2_with (first | ((with_reducible refine zD (N := 1) rfl ?_);refine zq ?hg (N := 1) ?hd (cs := #[.int .i64 a0_0,.int .i64 a0_1]) (t := 26) ?hr ?_;(case hd => rfl);(case hg => rfl);(case hr => first | (go_simp;done) | (go_simp;rfl));intro gb138 hg w7 hbox hb;have n0_ := zc.mk (zg hBq hb);have n1_ := zc.mk (hbox);have n2_ := zc.mk ((by rw [hg];exact (zj hBq) : w.heap.size ≤ gb138));have n3_ := zc.mk ((by rw [hg];exact (zj hBq) : w.heap.size ≤ gb138));clear HB;have HB := n0_;have BK138 := n1_;have GW138 := n2_;have GE138 := n3_;clear n0_ n1_ n2_ n3_;clear hb hbox hg;have hcz8_0 : w7.cell? ⟨gb138,0,none⟩ = some (.int .i64 a0_0) := (zb BK138.out 0).trans rfl;have hcz8_1 : w7.cell? ⟨gb138,1,none⟩ = some (.int .i64 a0_1) := (zb BK138.out 1).trans rfl;have hfz8_0 := za BK138.out 0;have hfz8_1 := za BK138.out 1))
    go_ret
    exact ⟨hHq,hCq⟩
  ·rw [if_neg c3] at H
   have c3b0 : decide (a0_0 < 10007) = false := decide_eq_false c3
   clear c3
   obtain rfl := Option.some.inj H
   go_enter Try.func91,Try.ntmps91
   go_wp2_with (first | ((with_reducible refine zD (N := 1) rfl ?_);refine zq ?hg (N := 1) ?hd (cs := #[.int .i64 a0_0,.int .i64 a0_1]) (t := 26) ?hr ?_;(case hd => rfl);(case hg => rfl);(case hr => first | (go_simp;done) | (go_simp;rfl));intro gb138 hg w9 hbox hb;have n0_ := zc.mk (zg hBq hb);have n1_ := zc.mk (hbox);have n2_ := zc.mk ((by rw [hg];exact (zj hBq) : w.heap.size ≤ gb138));have n3_ := zc.mk ((by rw [hg];exact (zj hBq) : w.heap.size ≤ gb138));clear HB;have HB := n0_;have BK138 := n1_;have GW138 := n2_;have GE138 := n3_;clear n0_ n1_ n2_ n3_;clear hb hbox hg;have hcz10_0 : w9.cell? ⟨gb138,0,none⟩ = some (.int .i64 a0_0) := (zb BK138.out 0).trans rfl;have hcz10_1 : w9.cell? ⟨gb138,1,none⟩ = some (.int .i64 a0_1) := (zb BK138.out 1).trans rfl;have hfz10_0 := za BK138.out 0;have hfz10_1 := za BK138.out 1))
   go_ret
   exact ⟨hHq,hCq⟩
 ·rw [if_neg c2] at H
  have c2b0 : decide (0 ≤ a0_0) = false := decide_eq_false c2
  clear c2
  obtain rfl := Option.some.inj H
  go_enter Try.func91,Try.ntmps91
  go_wp2_with (first | ((with_reducible refine zD (N := 1) rfl ?_);refine zq ?hg (N := 1) ?hd (cs := #[.int .i64 a0_0,.int .i64 a0_1]) (t := 26) ?hr ?_;(case hd => rfl);(case hg => rfl);(case hr => first | (go_simp;done) | (go_simp;rfl));intro gb138 hg w11 hbox hb;have n0_ := zc.mk (zg hBq hb);have n1_ := zc.mk (hbox);have n2_ := zc.mk ((by rw [hg];exact (zj hBq) : w.heap.size ≤ gb138));have n3_ := zc.mk ((by rw [hg];exact (zj hBq) : w.heap.size ≤ gb138));clear HB;have HB := n0_;have BK138 := n1_;have GW138 := n2_;have GE138 := n3_;clear n0_ n1_ n2_ n3_;clear hb hbox hg;have hcz12_0 : w11.cell? ⟨gb138,0,none⟩ = some (.int .i64 a0_0) := (zb BK138.out 0).trans rfl;have hcz12_1 : w11.cell? ⟨gb138,1,none⟩ = some (.int .i64 a0_1) := (zb BK138.out 1).trans rfl;have hfz12_0 := za BK138.out 0;have hfz12_1 := za BK138.out 1))
  go_ret
  exact ⟨hHq,hCq⟩
def zas.l0 : Nat → List ByteArray → Int → List ByteArray → Int → Int → Option (Bool)
 | 0,_,_,_,_,_ => none
 | k + 1,x0,x2,x14,x15,x16 => if x16 < x15 then (if 0 ≤ x16 then (if x16 < (x14.length : Int) then (if ((zH ByteArray.empty x14 x16).size : Int) = 32 then (if x16 > 0 then (if 0 ≤ (wrap64 (x16 - 1)) then (if (wrap64 (x16 - 1)) < (x0.length : Int) then (if ((Op.bytesLess ((zH ByteArray.empty x0 (wrap64 (x16 - 1))).toList) ((zH ByteArray.empty x14 x16).toList)) = true) then (zas.l0 k x0 x2 x14 x15 (wrap64 (x16 + 1))) else (some false)) else (none)) else (none)) else (zas.l0 k x0 x2 x14 x15 (wrap64 (x16 + 1)))) else (some false)) else (none)) else (none)) else ((zaJ.f x2).bind fun t141 => (if (x0.length : Int) ≥ t141 then (some (decide ((x0.length : Int) ≤ x2))) else (some false)))
def zas.f (k : Nat) (l0 : List ByteArray) (a1 : Int) (a2 : Int) : Option (Bool) := if a1 = 1 then (some ((l0.length : Int) == 0)) else (zas.l0 k l0 a2 l0 (l0.length : Int) 0)
set_option maxHeartbeats 8000000 in
set_option maxRecDepth 100000 in
theorem zas.calls (k : Nat) (A0 : Option Addr) (c0 : Nat) (l0 : List ByteArray) (a1 : Int) (a2 : Int) (r : Bool) (w : World) (hr0 : Kd.C Kd.string w A0 l0.length l0) (hc0 : l0.length ≤ c0) (h : zas.f k l0 a1 a2 = some r) :
  Calls Try.prog 93 #[.slice A0 l0.length c0,.int .i64 a1,.int .i64 a2] w fun e w' => e = .returned (.bool r) ∧ zaF w w' := by
 have HR0 := zc.mk hr0
 have HC0 := zc.mk hc0
 clear hr0 hc0
 have H : (if a1 = 1 then (some ((l0.length : Int) == 0)) else (zas.l0 k l0 a2 l0 (l0.length : Int) 0)) = some r := h
 clear h
 by_cases c4 : a1 = 1
 ·rw [if_pos c4] at H
  have c4b0 : (a1 == 1) = true := beq_iff_eq.mpr c4
  have c4b1 : (a1 != 1) = false := bne_eq_false_iff_eq.mpr c4
  clear c4
  obtain rfl := Option.some.inj H
  go_enter Try.func93,Try.ntmps93
  go_wp2
  go_ret
  exact ⟨hDq,hEq⟩
 ·rw [if_neg c4] at H
  have c4b0 : (a1 == 1) = false := beq_eq_false_iff_ne.mpr c4
  have c4b1 : (a1 != 1) = true := bne_iff_ne.mpr c4
  have H' := zc.mk H
  clear H
  go_enter Try.func93,Try.ntmps93
  go_wp2
  go_loopg [16] k (fun kq v16 w' => ∃ (x16_1 : Int),v16 = .int .i64 x16_1 ∧ zc (zas.l0 kq l0 a2 l0 (l0.length : Int) x16_1 = some r) ∧ zc (kq ≤ k) ∧ zaF w w')
  case atStart => exact ⟨(0),(hDq),H',⟨Nat.le_refl _⟩,hEq⟩
  case round =>
   clear H'
   try clear p2
   try clear c4
   try clear c4b0
   try clear c4b1
   obtain ⟨x16_1,rfl,HA,HK1,⟨m1,rfl⟩⟩ := hrel
   cases gk with
   | zero => exact absurd HA.out (by simp [zas.l0])
   | succ k1 =>
    have H := HA.out
    clear HA
    simp only [zas.l0] at H
    by_cases c5 : x16_1 < (l0.length : Int)
    ·rw [if_pos c5] at H
     have c5b0 : decide (x16_1 < (l0.length : Int)) = true := decide_eq_true c5
     clear c5
     by_cases c6 : 0 ≤ x16_1
     ·rw [if_pos c6] at H
      have c6b0 : decide (0 ≤ x16_1) = true := decide_eq_true c6
      clear c6
      by_cases c7 : x16_1 < (l0.length : Int)
      ·rw [if_pos c7] at H
       have c7b0 : decide (x16_1 < (l0.length : Int)) = true := decide_eq_true c7
       clear c7
       by_cases c8 : ((zH ByteArray.empty l0 x16_1).size : Int) = 32
       ·rw [if_pos c8] at H
        have c8b0 : (((zH ByteArray.empty l0 x16_1).size : Int) == 32) = true := beq_iff_eq.mpr c8
        have c8b1 : (((zH ByteArray.empty l0 x16_1).size : Int) != 32) = false := bne_eq_false_iff_eq.mpr c8
        clear c8
        by_cases c9 : x16_1 > 0
        ·rw [if_pos c9] at H
         have c9b0 : decide (0 < x16_1) = true := decide_eq_true c9
         clear c9
         obtain ⟨ji10,hji10⟩ : ∃ j_ : Int,(wrap64 (x16_1 - 1)) = j_ := ⟨_,rfl⟩
         replace H : (if 0 ≤ (ji10) then (if (ji10) < (l0.length : Int) then (if ((Op.bytesLess ((zH ByteArray.empty l0 (ji10)).toList) ((zH ByteArray.empty l0 x16_1).toList)) = true) then (zas.l0 k1 l0 a2 l0 (l0.length : Int) (wrap64 (x16_1 + 1))) else (some false)) else (none)) else (none)) = some r := by first | (rw [hji10] at H;exact H) | (simp only [hji10] at H ⊢;exact H)
         have hji10w : (IntKind.i64.wrap (x16_1 - 1)) = ji10 := (zN _).trans hji10
         by_cases c11 : 0 ≤ (ji10)
         ·rw [if_pos c11] at H
          have c11b0 : decide (0 ≤ (ji10)) = true := decide_eq_true c11
          clear c11
          by_cases c12 : (ji10) < (l0.length : Int)
          ·rw [if_pos c12] at H
           have c12b0 : decide ((ji10) < (l0.length : Int)) = true := decide_eq_true c12
           clear c12
           by_cases c13 : ((Op.bytesLess ((zH ByteArray.empty l0 (ji10)).toList) ((zH ByteArray.empty l0 x16_1).toList)) = true)
           ·rw [if_pos c13] at H
            have c13b0 : (Op.bytesLess ((zH ByteArray.empty l0 (ji10)).toList) ((zH ByteArray.empty l0 x16_1).toList)) = true := c13
            clear c13
            have H' := zc.mk H
            clear H
            have p139 : 0 ≤ (x16_1 : Int) := hFq
            have q139 : x16_1 < (l0.length : Int) := hFq
            obtain ⟨ad139,e139,hx139_0⟩ := Kd.at_string HR0.out x16_1 p139 q139
            cases e139
            replace p139 := eq_true p139
            replace q139 := eq_true q139
            have p140 : 0 ≤ ((ji10) : Int) := hFq
            have q140 : (ji10) < (l0.length : Int) := hFq
            obtain ⟨ad140,e140,hx140_0⟩ := Kd.at_string HR0.out (ji10) p140 q140
            obtain rfl : ad139 = ad140 := (by injection e140)
            replace p140 := eq_true p140
            replace q140 := eq_true q140
            go_wp2
            go_roundg k1
            case measure => have := HK1.out;omega
            case rel => exact ⟨(wrap64 (x16_1 + 1)),(hDq),H',⟨by have := HK1.out;omega⟩,hEq⟩
           ·rw [if_neg c13] at H
            have c13b0 : (Op.bytesLess ((zH ByteArray.empty l0 (ji10)).toList) ((zH ByteArray.empty l0 x16_1).toList)) = false := by simpa using c13
            clear c13
            obtain rfl := Option.some.inj H
            have p139 : 0 ≤ (x16_1 : Int) := hFq
            have q139 : x16_1 < (l0.length : Int) := hFq
            obtain ⟨ad139,e139,hx139_0⟩ := Kd.at_string HR0.out x16_1 p139 q139
            cases e139
            replace p139 := eq_true p139
            replace q139 := eq_true q139
            have p140 : 0 ≤ ((ji10) : Int) := hFq
            have q140 : (ji10) < (l0.length : Int) := hFq
            obtain ⟨ad140,e140,hx140_0⟩ := Kd.at_string HR0.out (ji10) p140 q140
            obtain rfl : ad139 = ad140 := (by injection e140)
            replace p140 := eq_true p140
            replace q140 := eq_true q140
            go_wp2
            go_ret
            exact ⟨by first | rfl | (simp;done) | (simp only [← hji10] <;> (first | rfl | simp)) | (simp [*];done),hEq⟩
          ·rw [if_neg c12] at H
           exact absurd H (by simp)
         ·rw [if_neg c11] at H
          exact absurd H (by simp)
        ·rw [if_neg c9] at H
         have c9b0 : decide (0 < x16_1) = false := decide_eq_false c9
         clear c9
         have H' := zc.mk H
         clear H
         have p139 : 0 ≤ (x16_1 : Int) := hFq
         have q139 : x16_1 < (l0.length : Int) := hFq
         obtain ⟨ad139,e139,hx139_0⟩ := Kd.at_string HR0.out x16_1 p139 q139
         cases e139
         replace p139 := eq_true p139
         replace q139 := eq_true q139
         go_wp2
         go_roundg k1
         case measure => have := HK1.out;omega
         case rel => exact ⟨(wrap64 (x16_1 + 1)),(hDq),H',⟨by have := HK1.out;omega⟩,hEq⟩
       ·rw [if_neg c8] at H
        have c8b0 : (((zH ByteArray.empty l0 x16_1).size : Int) == 32) = false := beq_eq_false_iff_ne.mpr c8
        have c8b1 : (((zH ByteArray.empty l0 x16_1).size : Int) != 32) = true := bne_iff_ne.mpr c8
        obtain rfl := Option.some.inj H
        have p139 : 0 ≤ (x16_1 : Int) := hFq
        have q139 : x16_1 < (l0.length : Int) := hFq
        obtain ⟨ad139,e139,hx139_0⟩ := Kd.at_string HR0.out x16_1 p139 q139
        cases e139
        replace p139 := eq_true p139
        replace q139 := eq_true q139
        go_wp2
        go_ret
        exact ⟨hDq,hEq⟩
      ·rw [if_neg c7] at H
       exact absurd H (by simp)
     ·rw [if_neg c6] at H
      exact absurd H (by simp)
    ·rw [if_neg c5] at H
     have c5b0 : decide (x16_1 < (l0.length : Int)) = false := decide_eq_false c5
     clear c5
     replace H := Option.bind_eq_some_iff.mp H
     obtain ⟨t141,A140,H⟩ := H
     replace H : (if (l0.length : Int) ≥ t141 then (some (decide ((l0.length : Int) ≤ a2))) else (some false)) = some r := H
     have A14 := zc.mk A140
     clear A140
     by_cases c15 : (l0.length : Int) ≥ t141
     ·rw [if_pos c15] at H
      have c15b0 : decide (t141 ≤ (l0.length : Int)) = true := decide_eq_true c15
      clear c15
      obtain rfl := Option.some.inj H
      go_wp2_with (first | ((with_reducible refine zp (f := 77) rfl ?_);refine z6 (some 41) rfl rfl Try.func77 (by kernel_rfl) rfl #[.int .i64 a2] rfl (by (try simp only [List.map_toArray,List.map_cons,List.map_nil]);first | done | rfl | (simp only [List.length_drop,List.length_take];rfl)) ?_;(with_reducible refine (zaJ.calls a2 t141 _ A14.out).mono ?_);rintro e w' ⟨rfl,⟨nd,rfl⟩⟩;refine ⟨_,rfl,?_⟩))
      go_ret
      exact ⟨hDq,hEq⟩
     ·rw [if_neg c15] at H
      have c15b0 : decide (t141 ≤ (l0.length : Int)) = false := decide_eq_false c15
      clear c15
      obtain rfl := Option.some.inj H
      go_wp2_with (first | ((with_reducible refine zp (f := 77) rfl ?_);refine z6 (some 41) rfl rfl Try.func77 (by kernel_rfl) rfl #[.int .i64 a2] rfl (by (try simp only [List.map_toArray,List.map_cons,List.map_nil]);first | done | rfl | (simp only [List.length_drop,List.length_take];rfl)) ?_;(with_reducible refine (zaJ.calls a2 t141 _ A14.out).mono ?_);rintro e w' ⟨rfl,⟨nd,rfl⟩⟩;refine ⟨_,rfl,?_⟩))
      go_ret
      exact ⟨hDq,hEq⟩
def zbB.f (a0 : Int) : Option (Bool) := if a0 ≥ 3 then (some ((Int.tmod a0 3) == 0)) else (some false)
set_option maxHeartbeats 8000000 in
set_option maxRecDepth 100000 in
theorem zbB.calls (a0 : Int) (r : Bool) (w : World) (h : zbB.f a0 = some r) :
  Calls Try.prog 92 #[.int .i64 a0] w fun e w' => e = .returned (.bool r) ∧ zaF w w' := by
 have H : (if a0 ≥ 3 then (some ((Int.tmod a0 3) == 0)) else (some false)) = some r := h
 clear h
 by_cases c2 : a0 ≥ 3
 ·rw [if_pos c2] at H
  have c2b0 : decide (3 ≤ a0) = true := decide_eq_true c2
  clear c2
  obtain rfl := Option.some.inj H
  go_enter Try.func92,Try.ntmps92
  go_wp2
  go_ret
  exact ⟨hDq,hEq⟩
 ·rw [if_neg c2] at H
  have c2b0 : decide (3 ≤ a0) = false := decide_eq_false c2
  clear c2
  obtain rfl := Option.some.inj H
  go_enter Try.func92,Try.ntmps92
  go_wp2
  go_ret
  exact ⟨hDq,hEq⟩
theorem zF {α : Type} {c : Prop} [Decidable c] {f g : Nat → Option α} {r : α} (h : c) (e : Ev f r) : Ev (fun k => if c then f k else g k) r := by
 simp only [if_pos h]
 exact e
theorem zU {α : Type} {c : Prop} [Decidable c] {f g : Nat → Option α} {r : α} (h : ¬ c) (e : Ev g r) : Ev (fun k => if c then f k else g k) r := by
 simp only [if_neg h]
 exact e
theorem ev_ite {α : Type} {c : Prop} [Decidable c] {f g : Nat → Option α} {a b : α} (h : c → Ev f a) (h' : ¬ c → Ev g b) : Ev (fun k => if c then f k else g k) (if c then a else b) := by
 by_cases hc : c
 ·rw [if_pos hc];exact zF hc (h hc)
 ·rw [if_neg hc];exact zU hc (h' hc)
theorem zap {α : Type} {f : Nat → Option α} {a b : α} (h : Ev f a) (e : a = b) : Ev f b := e ▸ h
theorem zac {α β : Type} {o : Option α} {f : Nat → α → Option β} {a : α} {r : β} (h : o = some a) (k : Ev (fun n => f n a) r) : Ev (fun n => o.bind (f n)) r := by
 subst h
 exact k
theorem za4 {x : Int} (h0 : 0 ≤ x) (h1 : x < 18446744073709551616) : IntKind.u64.wrap x = x := by
 show x % 18446744073709551616 = x
 omega
theorem zak {x : Int} (h0 : -9223372036854775808 ≤ x) (h1 : x < 9223372036854775808) : wrap64 x = x := by
 unfold wrap64
 omega
theorem u64_wf {x : Int} (h : (Lit.int .u64 x).wf = true) : 0 ≤ x ∧ x < 18446744073709551616 := by
 simp [Lit.wf,IntKind.min,IntKind.max,IntKind.signed,IntKind.bits] at h
 omega
theorem i64_wf {x : Int} (h : (Lit.int .i64 x).wf = true) : -9223372036854775808 ≤ x ∧ x ≤ 9223372036854775807 := by
 simp [Lit.wf,IntKind.min,IntKind.max,IntKind.signed,IntKind.bits] at h
 omega
mutual
def zM.l0 : Nat → ByteArray → ByteArray → Int → Option (Bool)
 | 0,_,_,_ => none
 | k + 1,x0,x1,x5 => if x5 < (x0.size : Int) then (zM.j1 k x0 x1 x5 (decide (x5 < (x1.size : Int)))) else (zM.j1 k x0 x1 x5 false)
def zM.j1 : Nat → ByteArray → ByteArray → Int → Bool → Option (Bool)
 | 0,_,_,_,_ => none
 | k + 1,x0,x1,x5,x15 => if x15 = true then (if 0 ≤ x5 then (if x5 < (x0.size : Int) then (if x5 < (x1.size : Int) then (if (bt x0 x5) = (bt x1 x5) then (zM.l0 k x0 x1 (wrap64 (x5 + 1))) else (some (decide ((bt x0 x5) < (bt x1 x5))))) else (none)) else (none)) else (none)) else (some (decide ((x0.size : Int) < (x1.size : Int))))
end
def zM.f (k : Nat) (a0 : ByteArray) (a1 : ByteArray) : Option (Bool) := zM.l0 k a0 a1 0
set_option maxHeartbeats 8000000 in
set_option maxRecDepth 100000 in
theorem zM.calls (k : Nat) (a0 : ByteArray) (a1 : ByteArray) (r : Bool) (w : World) (h : zM.f k a0 a1 = some r) :
  Calls Try.prog 97 #[.string a0,.string a1] w fun e w' => e = .returned (.bool r) ∧ zaF w w' := by
 have H : (zM.l0 k a0 a1 0) = some r := h
 clear h
 have H' := zc.mk H
 clear H
 go_enter Try.func97,Try.ntmps97
 go_wp2
 repeat (go_quiet (fail);try go_wp2)
 go_loopg [5] k (fun kq v5 w' => ∃ (x5_1 : Int),v5 = .int .i64 x5_1 ∧ zc (zM.l0 kq a0 a1 x5_1 = some r) ∧ zc (kq ≤ k) ∧ zaF w w')
 case atStart => exact ⟨(0),(hDq),H',⟨Nat.le_refl _⟩,hEq⟩
 case round =>
  clear H'
  try clear p2
  obtain ⟨x5_1,rfl,HA,HK1,⟨m1,rfl⟩⟩ := hrel
  cases gk with
  | zero => exact absurd HA.out (by simp [zM.l0])
  | succ k1 =>
   have H := HA.out
   clear HA
   simp only [zM.l0] at H
   have HC3 := zc.mk H
   clear H
   go_upto_region 2 with (fail)
   repeat (go_quiet (fail);go_upto_region 2 with (fail))
   go_cut [15] (fun v15 wc => ∃ (kq : Nat) (x15_2 : Bool),v15 = .bool x15_2 ∧ zc (zM.j1 kq a0 a1 x5_1 x15_2 = some r) ∧ zc (kq ≤ k1) ∧ zaF w wc)
   case first =>
    have H := HC3.out
    clear HC3
    by_cases c4 : x5_1 < (a0.size : Int)
    ·rw [if_pos c4] at H
     have c4b0 : decide (x5_1 < (a0.size : Int)) = true := decide_eq_true c4
     clear c4
     (first | rw [c4b0] | (simp only [zN,zQ];rw [c4b0]) | skip)
     have H' := zc.mk H
     clear H
     go_wp2
     repeat (go_quiet (fail);try go_wp2)
     go_meet
     case rel => exact ⟨_,(decide (x5_1 < (a1.size : Int))),(hDq),H',⟨by have := HK1.out;first | omega | exact Nat.le_refl _⟩,hEq⟩
    ·rw [if_neg c4] at H
     have c4b0 : decide (x5_1 < (a0.size : Int)) = false := decide_eq_false c4
     clear c4
     (first | rw [c4b0] | (simp only [zN,zQ];rw [c4b0]) | skip)
     have H' := zc.mk H
     clear H
     go_wp2
     repeat (go_quiet (fail);try go_wp2)
     go_meet
     case rel => exact ⟨_,(false),(hDq),H',⟨by have := HK1.out;first | omega | exact Nat.le_refl _⟩,hEq⟩
   case rest =>
    clear HC3
    try clear p2
    try clear c4
    try clear c4b0
    try clear p2
    obtain ⟨kq,x15_2,rfl,HA,HJ2,⟨mc2,rfl⟩⟩ := hcut
    cases kq with
    | zero => exact absurd HA.out (by simp [zM.j1])
    | succ kj2 =>
     have H := HA.out
     clear HA
     simp only [zM.j1] at H
     by_cases c5 : x15_2 = true
     ·subst c5
      have H1 : (if 0 ≤ x5_1 then (if x5_1 < (a0.size : Int) then (if x5_1 < (a1.size : Int) then (if (bt a0 x5_1) = (bt a1 x5_1) then (zM.l0 kj2 a0 a1 (wrap64 (x5_1 + 1))) else (some (decide ((bt a0 x5_1) < (bt a1 x5_1))))) else (none)) else (none)) else (none)) = some r := by rw [if_pos rfl] at H;exact H
      clear H
      have H := H1
      clear H1
      by_cases c6 : 0 ≤ x5_1
      ·rw [if_pos c6] at H
       have c6b0 : decide (0 ≤ x5_1) = true := decide_eq_true c6
       clear c6
       by_cases c7 : x5_1 < (a0.size : Int)
       ·rw [if_pos c7] at H
        have c7b0 : decide (x5_1 < (a0.size : Int)) = true := decide_eq_true c7
        clear c7
        by_cases c9 : x5_1 < (a1.size : Int)
        ·rw [if_pos c9] at H
         have c9b0 : decide (x5_1 < (a1.size : Int)) = true := decide_eq_true c9
         clear c9
         by_cases c11 : (bt a0 x5_1) = (bt a1 x5_1)
         ·rw [if_pos c11] at H
          have c11b0 : ((bt a0 x5_1) == (bt a1 x5_1)) = true := beq_iff_eq.mpr c11
          have c11b1 : ((bt a0 x5_1) != (bt a1 x5_1)) = false := bne_eq_false_iff_eq.mpr c11
          clear c11
          have H' := zc.mk H
          clear H
          have p8 : 0 ≤ (x5_1 : Int) := hFq
          have q8 : x5_1 < (a0.size : Int) := hFq
          have hx8 := zcy a0 x5_1
          replace p8 := eq_true p8
          replace q8 := eq_true q8
          have p10 : 0 ≤ (x5_1 : Int) := hFq
          have q10 : x5_1 < (a1.size : Int) := hFq
          have hx10 := zcy a1 x5_1
          replace p10 := eq_true p10
          replace q10 := eq_true q10
          go_wp2
          repeat (go_quiet (fail);try go_wp2)
          go_roundg kj2
          case measure => have := HK1.out;have := HJ2.out;omega
          case rel => exact ⟨(wrap64 (x5_1 + 1)),(hDq),H',⟨by have := HK1.out;have := HJ2.out;omega⟩,hEq⟩
         ·rw [if_neg c11] at H
          have c11b0 : ((bt a0 x5_1) == (bt a1 x5_1)) = false := beq_eq_false_iff_ne.mpr c11
          have c11b1 : ((bt a0 x5_1) != (bt a1 x5_1)) = true := bne_iff_ne.mpr c11
          obtain rfl := Option.some.inj H
          have p8 : 0 ≤ (x5_1 : Int) := hFq
          have q8 : x5_1 < (a0.size : Int) := hFq
          have hx8 := zcy a0 x5_1
          replace p8 := eq_true p8
          replace q8 := eq_true q8
          have p10 : 0 ≤ (x5_1 : Int) := hFq
          have q10 : x5_1 < (a1.size : Int) := hFq
          have hx10 := zcy a1 x5_1
          replace p10 := eq_true p10
          replace q10 := eq_true q10
          have p12 : 0 ≤ (x5_1 : Int) := hFq
          have q12 : x5_1 < (a0.size : Int) := hFq
          have hx12 := zcy a0 x5_1
          replace p12 := eq_true p12
          replace q12 := eq_true q12
          have p13 : 0 ≤ (x5_1 : Int) := hFq
          have q13 : x5_1 < (a1.size : Int) := hFq
          have hx13 := zcy a1 x5_1
          replace p13 := eq_true p13
          replace q13 := eq_true q13
          go_wp2
          repeat (go_quiet (fail);try go_wp2)
          go_ret
          exact ⟨hDq,hEq⟩
        ·rw [if_neg c9] at H
         exact absurd H (by simp)
       ·rw [if_neg c7] at H
        exact absurd H (by simp)
      ·rw [if_neg c6] at H
       exact absurd H (by simp)
     ·replace c5 := Bool.eq_false_iff.mpr c5
      subst c5
      have H1 : (some (decide ((a0.size : Int) < (a1.size : Int)))) = some r := by rw [if_neg (show ¬ (false = true) by decide)] at H;exact H
      clear H
      have H := H1
      clear H1
      obtain rfl := Option.some.inj H
      go_wp2
      repeat (go_quiet (fail);try go_wp2)
      go_ret
      exact ⟨hDq,hEq⟩
def zdO : Bs → Bs → Bool
 | [],b => !b.isEmpty
 | _ :: _,[] => false
 | x :: xs,y :: ys => if x = y then zdO xs ys else decide (x.toNat < y.toNat)
theorem bt_toB (l : Bs) (j : Nat) : bt (toB l) (j : Int) = ((l.getD j 0).toNat : Int) := by rw [zh6,zat]
theorem zeR (l : Bs) (j : Nat) (h : j < l.length) : l.drop j = l.getD j 0 :: l.drop (j + 1) := by
 rw [List.drop_eq_getElem_cons h,List.getD_eq_getElem?_getD,List.getElem?_eq_getElem h];rfl
theorem ziM (a b : Bs) (ha : a.length < 4611686018427387904) (d : Nat) : ∀ j,j + d = a.length →
  Ev (fun k => zM.l0 k (toB a) (toB b) (j : Int)) (zdO (a.drop j) (b.drop j)) := by
 induction d with
 | zero =>
  intro j hj
  have e : a.drop j = [] := List.drop_eq_nil_of_le (by omega)
  refine Ev.step (fun k => by rw [zM.l0]) ?_
  refine zU (by rw [zX];omega) (Ev.step (fun k => by rw [zM.j1]) ?_)
  refine zU (by simp) (zap (Ev.now _) ?_)
  rw [e,zdO,zX,zX]
  by_cases h : j < b.length
  ·rw [zeR b j h];simp;omega
  ·rw [List.drop_eq_nil_of_le (by omega)];simp;omega
 | succ d ih =>
  intro j hj
  have e := zeR a j (by omega)
  refine Ev.step (fun k => by rw [zM.l0]) ?_
  refine zF (by rw [zX];omega) (Ev.step (fun k => by rw [zM.j1]) ?_)
  by_cases h : j < b.length
  ·have f := zeR b j h
   refine zF (by rw [zX];simp;omega) (zF (by omega) (zF (by rw [zX];omega) (zF (by rw [zX];omega) ?_)))
   rw [bt_toB,bt_toB,zak (by omega) (by omega),e,f,zdO]
   by_cases hx : a.getD j 0 = b.getD j 0
   ·rw [if_pos hx]
    exact zF (by rw [hx]) (ih (j + 1) (by omega))
   ·rw [if_neg hx]
    exact zU (fun h => hx (UInt8.toNat_inj.1 (by omega))) (zap (Ev.now _) (by simp))
  ·have f : b.drop j = [] := List.drop_eq_nil_of_le (by omega)
   refine zU (by rw [zX];simp;omega) (zap (Ev.now _) ?_)
   rw [e,f,zdO,zX,zX]
   simp;omega
theorem less_ev (a b : ByteArray) (ha : a.size < 4611686018427387904) : Ev (fun k => zM.f k a b) (zdO (ofB a) (ofB b)) := by
 have h := ziM (ofB a) (ofB b) (by rw [zab];exact ha) (ofB a).length 0 (by omega)
 rw [zct,zct] at h
 exact h
theorem zdB : ∀ a b : Bs,Op.bytesLess a b = zdO a b
 | [],[] => rfl
 | [],_ :: _ => rfl
 | _ :: _,[] => rfl
 | x :: xs,y :: ys => by
  rw [Op.bytesLess,zdO,zdB xs ys]
  by_cases h : x = y
  ·subst h;simp
  ·rw [if_neg h]
   have hn : x.toNat ≠ y.toNat := fun e => h (UInt8.toNat_inj.1 e)
   by_cases h1 : x < y
   ·have := UInt8.lt_iff_toNat_lt.1 h1
    simp [h1,this]
   ·have h2 : ¬ x.toNat < y.toNat := fun e => h1 (UInt8.lt_iff_toNat_lt.2 e)
    have h3 : y < x := UInt8.lt_iff_toNat_lt.2 (by omega)
    simp [h1,h2]
    exact fun e => absurd e h
def zdP (n : Int) : Bool := decide (4 ≤ n) && decide (n ≤ 64) && decide (n % 3 = 1)
theorem zaU (n : Int) : zaA.f n = some (zdP n) := by
 unfold zaA.f zdP
 by_cases h : n ≥ 4
 ·rw [if_pos h]
  by_cases h1 : n ≤ 64
  ·rw [if_pos h1,Int.tmod_eq_emod_of_nonneg (by omega)]
   by_cases h2 : n % 3 = 1
   ·simp [h1,h2];omega
   ·simp [h2]
  ·rw [if_neg h1];simp [h1]
 ·rw [if_neg h]
  have : ¬ 4 ≤ n := by omega
  simp [this]
theorem zbQ (n : Int) : zdP n = true ↔ 4 ≤ n ∧ n ≤ 64 ∧ n % 3 = 1 := by
 unfold zdP;simp [and_assoc]
def zby (n : Int) : Int := if zdP n = true then n - (n - 1) / 3 else 0
theorem zdC (n : Int) : zaJ.f n = some (zby n) := by
 unfold zaJ.f zbz.f zby
 rw [zaU]
 simp only [Option.bind_some]
 by_cases h : zdP n = true
 ·rw [if_pos h,if_pos h,if_pos h]
  obtain ⟨h1,h2,h3⟩ := (zbQ n).1 h
  simp only [Option.bind_some]
  rw [zak (x := n - 1) (by omega) (by omega),Int.tdiv_eq_ediv_of_nonneg (by omega),zak (x := (n - 1) / 3) (by omega) (by omega),zak (by omega) (by omega)]
 ·rw [if_neg h,if_neg h]
def zfq (a b : Int) : Bool := decide (0 ≤ a) && decide (a < 10007) && decide (0 ≤ b) && decide (b < 10007)
theorem zcq (a b : Int) : zfq a b = true ↔ 0 ≤ a ∧ a < 10007 ∧ 0 ≤ b ∧ b < 10007 := by
 unfold zfq;simp [and_assoc]
theorem zcp (a b : Int) : zbZ.f a b = some (zfq a b) := by
 unfold zbZ.f zfq
 by_cases h1 : 0 ≤ a <;> by_cases h2 : a < 10007 <;> by_cases h3 : 0 ≤ b <;> simp [h1,h2,h3]
def zdh (r : Int) : Bool := decide (3 ≤ r) && decide (r % 3 = 0)
theorem zcd (r : Int) : zbB.f r = some (zdh r) := by
 unfold zbB.f zdh
 by_cases h : r ≥ 3
 ·rw [if_pos h,Int.tmod_eq_emod_of_nonneg (by omega)]
  have : 3 ≤ r := h
  by_cases h2 : r % 3 = 0 <;> simp [this,h2]
 ·rw [if_neg h]
  have : ¬ 3 ≤ r := by omega
  simp [this]
def zgA (l : List ByteArray) (j : Nat) : Bool := decide ((l.getD j ByteArray.empty).size = 32) && (decide (j = 0) || zdO (ofB (l.getD (j - 1) ByteArray.empty)) (ofB (l.getD j ByteArray.empty)))
def zbj (l : List ByteArray) : Nat → Nat → Bool
 | 0,_ => true
 | d + 1,j => zgA l j && zbj l d (j + 1)
def zb9 (l : List ByteArray) (r n : Int) : Bool :=
 if r = 1 then decide (l.length = 0) else zbj l l.length 0 && decide (zby n ≤ l.length) && decide ((l.length : Int) ≤ n)
theorem zhf (l : List ByteArray) (n : Int) (hl : l.length ≤ 9223372036854775807) (d : Nat) : ∀ j,j + d = l.length →
  Ev (fun k => zas.l0 k l n l (l.length : Int) (j : Int)) (zbj l d j && decide (zby n ≤ l.length) && decide ((l.length : Int) ≤ n)) := by
 induction d with
 | zero =>
  intro j hj
  refine Ev.step (fun k => by rw [zas.l0]) ?_
  refine zU (by omega) (zac (zdC n) ?_)
  by_cases h : zby n ≤ l.length
  ·exact zF h (zap (Ev.now _) (by simp [zbj,h]))
  ·exact zU h (zap (Ev.now _) (by simp [zbj,h]))
 | succ d ih =>
  intro j hj
  refine Ev.step (fun k => by rw [zas.l0]) ?_
  refine zF (by omega) (zF (by omega) (zF (by omega) ?_))
  have e1 : zH ByteArray.empty l (j : Int) = l.getD j ByteArray.empty := by rw [zH,Int.toNat_natCast]
  rw [e1]
  by_cases h : (l.getD j ByteArray.empty).size = 32
  ·refine zF (by omega) ?_
   rw [zak (x := (j : Int) + 1) (by omega) (by omega)]
   by_cases h0 : j = 0
   ·subst h0
    refine zU (by omega) (zap (ih 1 (by omega)) ?_)
    simp only [zbj,zgA,h];simp
   ·refine zF (by omega) ?_
    have e2 : wrap64 ((j : Int) - 1) = ((j - 1 : Nat) : Int) := by rw [zak (by omega) (by omega)];omega
    rw [e2]
    refine zF (by omega) (zF (by omega) ?_)
    have e3 : zH ByteArray.empty l ((j - 1 : Nat) : Int) = l.getD (j - 1) ByteArray.empty := by rw [zH,Int.toNat_natCast]
    rw [e3,zbo,zbo,zdB]
    by_cases h2 : zdO (ofB (l.getD (j - 1) ByteArray.empty)) (ofB (l.getD j ByteArray.empty)) = true
    ·refine zF h2 (zap (ih (j + 1) (by omega)) ?_)
     simp only [zbj,zgA,h,h2];simp
    ·refine zU h2 (zap (Ev.now _) ?_)
     rw [Bool.not_eq_true] at h2
     simp only [zbj,zgA,h,h0,h2];simp
  ·refine zU (by omega) (zap (Ev.now _) ?_)
   simp only [zbj,zgA,h];simp
theorem zic (l : List ByteArray) (r n : Int) (hl : l.length ≤ 9223372036854775807) : Ev (fun k => zas.f k l r n) (zb9 l r n) := by
 unfold zb9
 by_cases h : r = 1
 ·rw [if_pos h]
  refine zF h (zap (Ev.now _) ?_)
  by_cases h0 : l.length = 0 <;> simp [h0]
 ·rw [if_neg h]
  exact zU h (zhf l n hl l.length 0 (by omega))
end Go.Proofs.Ytgdpiegkoeikiaa.Px