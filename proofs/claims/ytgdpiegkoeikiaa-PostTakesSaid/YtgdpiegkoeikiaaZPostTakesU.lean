/- Part 21 of 35 of the proof of the law PostTakes: what is proved is the statement at the end of the last part; its conditions are those of the given row. -/
import Derived.Test.YtgdpiegkoeikiaaZPostTakesQ
import Derived.Test.YtgdpiegkoeikiaaZPostTakesS
namespace Go.Proofs.Ytgdpiegkoeikiaa.Px
open Go.RowKit Go.Proofs.YtgdpiegkoeikiaaW.PrintWords Go.Proofs.YtgdpiegkoeikiaaW.PrintLast Go.Proofs.YtgdpiegkoeikiaaW.PrintMore
attribute [local go_sem] zF zH zQ zR zy zz zG zI
set_option linter.unusedVariables false
set_option linter.unusedSimpArgs false
def cert_Bytes.B5 : List Nat := [0,1,0,4,15,31,63,127]
def z8.l0 : Nat → Int → List Int → Int → Option (List Int)
 | 0,_,_,_ => none
 | k + 1,x0,x3,x4 => if x4 ≤ 64 then (if (Int.tmod x0 2) = 1 then (if x3.length < 17592186044416 then (z8.l0 k (IntKind.u64.wrap (Int.tdiv x0 2)) (x3 ++ [x4]) (wrap64 (x4 + 1))) else (none)) else (z8.l0 k (IntKind.u64.wrap (Int.tdiv x0 2)) x3 (wrap64 (x4 + 1)))) else (some x3)
def z8.f (k : Nat) (a0 : Int) : Option (List Int) := z8.l0 k a0 ([] : List Int) 1
set_option maxHeartbeats 8000000 in
set_option maxRecDepth 100000 in
theorem z8.calls (k : Nat) (a0 : Int) (r : List Int) (w : World) (h : z8.f k a0 = some r) :
  Calls Try.prog 118 #[.int .u64 a0] w fun e w' => ∃ v0_ : Value,e = .returned (v0_) ∧ Kd.R (Kd.int .i64) 3 w' w.heap.size (fun _ => True) v0_ r ∧ Below w.heap.size w w' := by
 have HB := zc.mk (Below.refl w.heap.size w)
 have H : (z8.l0 k a0 ([] : List Int) 1) = some r := h
 clear h
 have H' := zc.mk H
 clear H
 go_enter Try.func118,Try.ntmps118
 go_wp2
 go_loopg [0,3,4] k (fun kq v0 v3 v4 w' => ∃ (x0_1 : Int) (x3_1 : List Int) (x4_1 : Int),v0 = .int .u64 x0_1 ∧ v4 = .int .i64 x4_1 ∧ zc (z8.l0 kq x0_1 x3_1 x4_1 = some r) ∧ zc (kq ≤ k) ∧ zc (Kd.R (Kd.int .i64) 3 w' w.heap.size (fun _ => True) v3 x3_1) ∧ zc (Below w.heap.size w w'))
 case atStart => exact ⟨(a0),(([] : List Int)),(1),(hDq),(hDq),H',⟨Nat.le_refl _⟩,⟨by first | exact Kd.R_nil _ _ _ _ _ | exact Kd.N_nil _ _ _ _ _ | exact Kd.V_nil _ _ _ _ _ | exact Kd.Q_nil _ _ _ _ _ | exact Kd.S_nil _ _ _ _ _⟩,⟨by repeat (first | (with_reducible first | exact HB.out | apply zA | apply zm | apply zJ) | exact HB.out)⟩⟩
 case round =>
  clear H'
  try clear c1
  obtain ⟨x0_1,x3_1,x4_1,rfl,rfl,HA,HK1,HO_3,HB⟩ := hrel
  cases gk with
  | zero => exact absurd HA.out (by simp [z8.l0])
  | succ k1 =>
   have H := HA.out
   clear HA
   simp only [z8.l0] at H
   by_cases c2 : x4_1 ≤ 64
   ·rw [if_pos c2] at H
    have c2b0 : decide (x4_1 ≤ 64) = true := decide_eq_true c2
    clear c2
    by_cases c3 : (Int.tmod x0_1 2) = 1
    ·rw [if_pos c3] at H
     have c3b0 : ((Int.tmod x0_1 2) == 1) = true := beq_iff_eq.mpr c3
     have c3b1 : ((Int.tmod x0_1 2) != 1) = false := bne_eq_false_iff_eq.mpr c3
     clear c3
     by_cases c4 : x3_1.length < 17592186044416
     ·rw [if_pos c4] at H
      have LMc4 := zc.mk c4
      clear c4
      obtain ⟨y295,hy295⟩ : ∃ y_ : List Int,y_ = (x3_1 ++ [x4_1]) := ⟨_,rfl⟩
      replace H : (z8.l0 k1 (IntKind.u64.wrap (Int.tdiv x0_1 2)) y295 (wrap64 (x4_1 + 1))) = some r := by first | (rw [hy295];with_reducible exact H) | (have H2_ := (Option.bind_some _ _).symm.trans H;rw [hy295];with_reducible exact H2_) | (have H2_ := (Option.bind_some _ _).symm.trans H;with_reducible exact H2_) | with_reducible exact H | (rw [hy295];exact H) | exact H
      have Ny295 := zc.mk hy295
      clear hy295
      have H' := zc.mk H
      clear H
      go_wp2_with (first | ((with_reducible refine zcC (b := .append) (xs := #[.tmp 12,.tmp 14]) rfl ?_);at_builtin;refine Kd.R_append (Kd.int .i64) (w0 := w) w.heap.size rfl (.tmp 12) (.tmp 14) 129 3 (.int .i64 0) 8 rfl Try.underlying129 zii rfl (by decide) (by omega) u3 x3_1 x4_1 [.int .i64 x4_1] (fun _ => True) (fun _ => False) rfl rfl ?aP (fun _ hk => hk.elim) ?aF ?aO ?aB ?aS ?aL ?_;(case aP => exact rfl);(case aB => exact hBq);(case aF => exact (fun _ _ => trivial));(case aO => exact (by (with_reducible repeat (first | apply Kd.R_alloc | apply Kd.R_drewN | apply Kd.R_drew));exact HO_3.out));(case aS => exact (zl hBq));(case aL => have := LMc4.out;omega);intro v296 w5 ho hb hg hat;rw [← Ny295.out] at ho;have n0_ := zc.mk (hb);have n1_ := zc.mk (ho);clear HB;clear HO_3;have HB := n0_;have HO297 := n1_;clear n0_ n1_;clear ho hb hg hat))
      go_roundg k1
      case measure => have := HK1.out;omega
      case rel => exact ⟨(IntKind.u64.wrap (Int.tdiv x0_1 2)),(y295),(wrap64 (x4_1 + 1)),(hDq),(hDq),H',⟨by have := HK1.out;omega⟩,⟨by (with_reducible repeat (first | apply Kd.R_alloc | apply Kd.R_drewN | apply Kd.R_drew));exact HO297.out⟩,⟨by repeat (first | (with_reducible first | exact HB.out | apply zA | apply zm | apply zJ) | exact HB.out)⟩⟩
     ·rw [if_neg c4] at H
      exact absurd H (by simp)
    ·rw [if_neg c3] at H
     have c3b0 : ((Int.tmod x0_1 2) == 1) = false := beq_eq_false_iff_ne.mpr c3
     have c3b1 : ((Int.tmod x0_1 2) != 1) = true := bne_iff_ne.mpr c3
     have H' := zc.mk H
     clear H
     go_wp2
     go_roundg k1
     case measure => have := HK1.out;omega
     case rel => exact ⟨(IntKind.u64.wrap (Int.tdiv x0_1 2)),(x3_1),(wrap64 (x4_1 + 1)),(hDq),(hDq),H',⟨by have := HK1.out;omega⟩,⟨by (with_reducible repeat (first | apply Kd.R_alloc | apply Kd.R_drewN | apply Kd.R_drew));exact HO_3.out⟩,⟨by repeat (first | (with_reducible first | exact HB.out | apply zA | apply zm | apply zJ) | exact HB.out)⟩⟩
   ·rw [if_neg c2] at H
    have c2b0 : decide (x4_1 ≤ 64) = false := decide_eq_false c2
    clear c2
    obtain rfl := Option.some.inj H
    go_wp2
    go_ret
    exact ⟨_,hHq,by (with_reducible repeat (first | apply Kd.R_alloc | apply Kd.R_drewN | apply Kd.R_drew));exact HO_3.out,hBq⟩
def zaC.f (k : Nat) (a0 : Int) : Option (Int) := (z8.f k a0).bind fun t302 => (some (t302.length : Int))
set_option maxHeartbeats 8000000 in
set_option maxRecDepth 100000 in
theorem zaC.calls (k : Nat) (a0 : Int) (r : Int) (w : World) (h : zaC.f k a0 = some r) :
  Calls Try.prog 101 #[.int .u64 a0] w fun e w' => e = .returned (.int .i64 r) ∧ Below w.heap.size w w' := by
 have HB := zc.mk (Below.refl w.heap.size w)
 have H : ((z8.f k a0).bind fun t302 => (some (t302.length : Int))) = some r := h
 clear h
 replace H := Option.bind_eq_some_iff.mp H
 obtain ⟨t302,A20,H⟩ := H
 replace H : (some (t302.length : Int)) = some r := H
 have A2 := zc.mk A20
 clear A20
 obtain rfl := Option.some.inj H
 go_enter Try.func101,Try.ntmps101
 go_wp2_with (first | ((with_reducible refine zt (f := 118) rfl ?_);refine zU (some 5) rfl rfl Try.func118 (by kernel_rfl) rfl #[.int .u64 a0] rfl (by (try simp only [List.map_toArray,List.map_cons,List.map_nil]);first | done | rfl | (simp only [List.length_drop,List.length_take];rfl)) ?_;(with_reducible refine (z8.calls k a0 t302 _ A2.out).mono ?_);rintro e w3 ⟨v303,rfl,ho0,hb⟩;refine ⟨_,rfl,?_⟩;have n0_ := zc.mk (Kd.R_lower ho0 (zl hBq));have n1_ := zc.mk (zj hBq hb);clear HB;have HO304 := n0_;have HB := n1_;clear n0_ n1_;(try clear hb);(try clear hb2);(try clear hk);(try clear hi);(try clear ho0);obtain ⟨Ao4,co4,eo4⟩ := Kd.R_slice HO304.out;subst eo4))
 go_ret
 exact ⟨hHq,hBq⟩
def zaE.f (k : Nat) (a0 : Int) (a1 : Int) : Option (Bool) := if a1 < 0 then (some false) else (if a1 > 64 then (some false) else ((z8.f k a0).bind fun t298 => (if (t298.length : Int) = 0 then (some true) else (if 0 ≤ (wrap64 ((t298.length : Int) - 1)) then (if (wrap64 ((t298.length : Int) - 1)) < (t298.length : Int) then (some (decide ((rd t298 (wrap64 ((t298.length : Int) - 1))) ≤ a1))) else (none)) else (none)))))
set_option maxHeartbeats 8000000 in
set_option maxRecDepth 100000 in
theorem zaE.calls (k : Nat) (a0 : Int) (a1 : Int) (r : Bool) (w : World) (h : zaE.f k a0 a1 = some r) :
  Calls Try.prog 100 #[.int .u64 a0,.int .i64 a1] w fun e w' => e = .returned (.bool r) ∧ Below w.heap.size w w' := by
 have HB := zc.mk (Below.refl w.heap.size w)
 have H : (if a1 < 0 then (some false) else (if a1 > 64 then (some false) else ((z8.f k a0).bind fun t298 => (if (t298.length : Int) = 0 then (some true) else (if 0 ≤ (wrap64 ((t298.length : Int) - 1)) then (if (wrap64 ((t298.length : Int) - 1)) < (t298.length : Int) then (some (decide ((rd t298 (wrap64 ((t298.length : Int) - 1))) ≤ a1))) else (none)) else (none)))))) = some r := h
 clear h
 by_cases c3 : a1 < 0
 ·rw [if_pos c3] at H
  have c3b0 : decide (a1 < 0) = true := decide_eq_true c3
  clear c3
  obtain rfl := Option.some.inj H
  go_enter Try.func100,Try.ntmps100
  go_wp2
  go_ret
  exact ⟨hHq,hBq⟩
 ·rw [if_neg c3] at H
  have c3b0 : decide (a1 < 0) = false := decide_eq_false c3
  clear c3
  by_cases c4 : a1 > 64
  ·rw [if_pos c4] at H
   have c4b0 : decide (64 < a1) = true := decide_eq_true c4
   clear c4
   obtain rfl := Option.some.inj H
   go_enter Try.func100,Try.ntmps100
   go_wp2
   go_ret
   exact ⟨hHq,hBq⟩
  ·rw [if_neg c4] at H
   have c4b0 : decide (64 < a1) = false := decide_eq_false c4
   clear c4
   replace H := Option.bind_eq_some_iff.mp H
   obtain ⟨t298,A50,H⟩ := H
   replace H : (if (t298.length : Int) = 0 then (some true) else (if 0 ≤ (wrap64 ((t298.length : Int) - 1)) then (if (wrap64 ((t298.length : Int) - 1)) < (t298.length : Int) then (some (decide ((rd t298 (wrap64 ((t298.length : Int) - 1))) ≤ a1))) else (none)) else (none))) = some r := H
   have A5 := zc.mk A50
   clear A50
   by_cases c6 : (t298.length : Int) = 0
   ·rw [if_pos c6] at H
    have c6b0 : ((t298.length : Int) == 0) = true := beq_iff_eq.mpr c6
    have c6b1 : ((t298.length : Int) != 0) = false := bne_eq_false_iff_eq.mpr c6
    clear c6
    obtain rfl := Option.some.inj H
    go_enter Try.func100,Try.ntmps100
    go_wp2_with (first | ((with_reducible refine zt (f := 118) rfl ?_);refine zU (some 13) rfl rfl Try.func118 (by kernel_rfl) rfl #[.int .u64 a0] rfl (by (try simp only [List.map_toArray,List.map_cons,List.map_nil]);first | done | rfl | (simp only [List.length_drop,List.length_take];rfl)) ?_;(with_reducible refine (z8.calls k a0 t298 _ A5.out).mono ?_);rintro e w7 ⟨v299,rfl,ho0,hb⟩;refine ⟨_,rfl,?_⟩;have n0_ := zc.mk (Kd.R_lower ho0 (zl hBq));have n1_ := zc.mk (zj hBq hb);clear HB;have HO300 := n0_;have HB := n1_;clear n0_ n1_;(try clear hb);(try clear hb2);(try clear hk);(try clear hi);(try clear ho0);obtain ⟨Ao8,co8,eo8⟩ := Kd.R_slice HO300.out;subst eo8))
    go_ret
    exact ⟨hHq,hBq⟩
   ·rw [if_neg c6] at H
    have c6b0 : ((t298.length : Int) == 0) = false := beq_eq_false_iff_ne.mpr c6
    have c6b1 : ((t298.length : Int) != 0) = true := bne_iff_ne.mpr c6
    have c6b2 : ¬ (t298 = []) := fun h_ => c6 (by rw [h_];rfl)
    obtain ⟨ji9,hji9⟩ : ∃ j_ : Int,(wrap64 ((t298.length : Int) - 1)) = j_ := ⟨_,rfl⟩
    replace H : (if 0 ≤ (ji9) then (if (ji9) < (t298.length : Int) then (some (decide ((rd t298 (ji9)) ≤ a1))) else (none)) else (none)) = some r := by first | (rw [hji9] at H;exact H) | (simp only [hji9] at H ⊢;exact H)
    (try rw [hji9] at A5)
    have hji9w : (IntKind.i64.wrap ((t298.length : Int) - 1)) = ji9 := (zan _).trans hji9
    by_cases c10 : 0 ≤ (ji9)
    ·rw [if_pos c10] at H
     have c10b0 : decide (0 ≤ (ji9)) = true := decide_eq_true c10
     clear c10
     by_cases c11 : (ji9) < (t298.length : Int)
     ·rw [if_pos c11] at H
      have c11b0 : decide ((ji9) < (t298.length : Int)) = true := decide_eq_true c11
      clear c11
      obtain rfl := Option.some.inj H
      go_enter Try.func100,Try.ntmps100
      go_wp2_with (first | ((with_reducible refine zt (f := 118) rfl ?_);refine zU (some 13) rfl rfl Try.func118 (by kernel_rfl) rfl #[.int .u64 a0] rfl (by (try simp only [List.map_toArray,List.map_cons,List.map_nil]);first | done | rfl | (simp only [List.length_drop,List.length_take];rfl)) ?_;(with_reducible refine (z8.calls k a0 t298 _ A5.out).mono ?_);rintro e w12 ⟨v299,rfl,ho0,hb⟩;refine ⟨_,rfl,?_⟩;have n0_ := zc.mk (Kd.R_lower ho0 (zl hBq));have n1_ := zc.mk (zj hBq hb);clear HB;have HO300 := n0_;have HB := n1_;clear n0_ n1_;(try clear hb);(try clear hb2);(try clear hk);(try clear hi);(try clear ho0);obtain ⟨Ao13,co13,eo13⟩ := Kd.R_slice HO300.out;subst eo13;have p301 : 0 ≤ ((ji9) : Int) := hFq;have q301 : (ji9) < (t298.length : Int) := hFq;obtain ⟨ad301,e301,hx301_0⟩ := Kd.at_int (Kd.R_reads' HO300.out).2.2 (ji9) p301 q301;cases e301;replace p301 := eq_true p301;replace q301 := eq_true q301))
      go_ret
      exact ⟨by first | rfl | (simp [za4,za5] <;> rfl) | (simp only [← hji9];first | rfl | (simp [za4,za5] <;> rfl)) | (simp [*,za4,za5] <;> rfl),hBq⟩
     ·rw [if_neg c11] at H
      exact absurd H (by simp)
    ·rw [if_neg c10] at H
     exact absurd H (by simp)
def zav.f (a0 : Int) : Option (Bool) := if a0 = 4 then (some true) else (if a0 > 4 then (if a0 ≤ 64 then (some ((Int.tmod (wrap64 (a0 - 1)) 3) == 0)) else (some false)) else (some false))
set_option maxHeartbeats 8000000 in
set_option maxRecDepth 100000 in
theorem zav.calls (a0 : Int) (r : Bool) (w : World) (h : zav.f a0 = some r) :
  Calls Try.prog 95 #[.int .i64 a0] w fun e w' => e = .returned (.bool r) ∧ zax w w' := by
 have H : (if a0 = 4 then (some true) else (if a0 > 4 then (if a0 ≤ 64 then (some ((Int.tmod (wrap64 (a0 - 1)) 3) == 0)) else (some false)) else (some false))) = some r := h
 clear h
 by_cases c2 : a0 = 4
 ·rw [if_pos c2] at H
  have c2b0 : (a0 == 4) = true := beq_iff_eq.mpr c2
  have c2b1 : (a0 != 4) = false := bne_eq_false_iff_eq.mpr c2
  clear c2
  obtain rfl := Option.some.inj H
  go_enter Try.func95,Try.ntmps95
  go_wp2
  go_ret
  exact ⟨hDq,hEq⟩
 ·rw [if_neg c2] at H
  have c2b0 : (a0 == 4) = false := beq_eq_false_iff_ne.mpr c2
  have c2b1 : (a0 != 4) = true := bne_iff_ne.mpr c2
  by_cases c3 : a0 > 4
  ·rw [if_pos c3] at H
   have c3b0 : decide (4 < a0) = true := decide_eq_true c3
   clear c3
   by_cases c4 : a0 ≤ 64
   ·rw [if_pos c4] at H
    have c4b0 : decide (a0 ≤ 64) = true := decide_eq_true c4
    clear c4
    obtain rfl := Option.some.inj H
    go_enter Try.func95,Try.ntmps95
    go_wp2
    go_ret
    exact ⟨hDq,hEq⟩
   ·rw [if_neg c4] at H
    have c4b0 : decide (a0 ≤ 64) = false := decide_eq_false c4
    clear c4
    obtain rfl := Option.some.inj H
    go_enter Try.func95,Try.ntmps95
    go_wp2
    go_ret
    exact ⟨hDq,hEq⟩
  ·rw [if_neg c3] at H
   have c3b0 : decide (4 < a0) = false := decide_eq_false c3
   clear c3
   obtain rfl := Option.some.inj H
   go_enter Try.func95,Try.ntmps95
   go_wp2
   go_ret
   exact ⟨hDq,hEq⟩
def z7.f (a0 : Int) : Option (Int) := (zav.f a0).bind fun t205 => (if t205 = true then (some (wrap64 (a0 - (wrap64 (Int.tdiv (wrap64 (a0 - 1)) 3))))) else (some 0))
set_option maxHeartbeats 8000000 in
set_option maxRecDepth 100000 in
theorem z7.calls (a0 : Int) (r : Int) (w : World) (h : z7.f a0 = some r) :
  Calls Try.prog 96 #[.int .i64 a0] w fun e w' => e = .returned (.int .i64 r) ∧ zax w w' := by
 have H : ((zav.f a0).bind fun t205 => (if t205 = true then (some (wrap64 (a0 - (wrap64 (Int.tdiv (wrap64 (a0 - 1)) 3))))) else (some 0))) = some r := h
 clear h
 replace H := Option.bind_eq_some_iff.mp H
 obtain ⟨t205,A20,H⟩ := H
 replace H : (if t205 = true then (some (wrap64 (a0 - (wrap64 (Int.tdiv (wrap64 (a0 - 1)) 3))))) else (some 0)) = some r := H
 have A2 := zc.mk A20
 clear A20
 by_cases c3 : t205 = true
 ·subst c3
  have H1 : (some (wrap64 (a0 - (wrap64 (Int.tdiv (wrap64 (a0 - 1)) 3))))) = some r := by rw [if_pos rfl] at H;exact H
  clear H
  have H := H1
  clear H1
  obtain rfl := Option.some.inj H
  go_enter Try.func96,Try.ntmps96
  go_wp2_with (first | ((with_reducible refine zt (f := 95) rfl ?_);refine zU (some 5) rfl rfl Try.func95 (by kernel_rfl) rfl #[.int .i64 a0] rfl (by (try simp only [List.map_toArray,List.map_cons,List.map_nil]);first | done | rfl | (simp only [List.length_drop,List.length_take];rfl)) ?_;(with_reducible refine (zav.calls a0 true _ A2.out).mono ?_);rintro e w' ⟨rfl,⟨nd,rfl⟩⟩;refine ⟨_,rfl,?_⟩))
  go_ret
  exact ⟨hDq,hEq⟩
 ·replace c3 := Bool.eq_false_iff.mpr c3
  subst c3
  have H1 : (some 0) = some r := by rw [if_neg (show ¬ (false = true) by decide)] at H;exact H
  clear H
  have H := H1
  clear H1
  obtain rfl := Option.some.inj H
  go_enter Try.func96,Try.ntmps96
  go_wp2_with (first | ((with_reducible refine zt (f := 95) rfl ?_);refine zU (some 5) rfl rfl Try.func95 (by kernel_rfl) rfl #[.int .i64 a0] rfl (by (try simp only [List.map_toArray,List.map_cons,List.map_nil]);first | done | rfl | (simp only [List.length_drop,List.length_take];rfl)) ?_;(with_reducible refine (zav.calls a0 false _ A2.out).mono ?_);rintro e w' ⟨rfl,⟨nd,rfl⟩⟩;refine ⟨_,rfl,?_⟩))
  go_ret
  exact ⟨hDq,hEq⟩
def zau.f (a0_0 : Int) (a0_1 : Int) : Option (Bool) := if a0_0 ≥ 0 then (if a0_0 < 10007 then (if a0_1 ≥ 0 then (some (decide (a0_1 < 10007))) else (some false)) else (some false)) else (some false)
set_option maxHeartbeats 8000000 in
set_option maxRecDepth 100000 in
theorem zau.calls (a0_0 : Int) (a0_1 : Int) (r : Bool) (w : World) (h : zau.f a0_0 a0_1 = some r) :
  Calls Try.prog 98 #[.agg #[.int .i64 a0_0,.int .i64 a0_1]] w fun e w' => e = .returned (.bool r) ∧ Below w.heap.size w w' := by
 have hu26 := Try.underlying26
 have HB := zc.mk (Below.refl w.heap.size w)
 have H : (if a0_0 ≥ 0 then (if a0_0 < 10007 then (if a0_1 ≥ 0 then (some (decide (a0_1 < 10007))) else (some false)) else (some false)) else (some false)) = some r := h
 clear h
 by_cases c2 : a0_0 ≥ 0
 ·rw [if_pos c2] at H
  have c2b0 : decide (0 ≤ a0_0) = true := decide_eq_true c2
  clear c2
  by_cases c3 : a0_0 < 10007
  ·rw [if_pos c3] at H
   have c3b0 : decide (a0_0 < 10007) = true := decide_eq_true c3
   clear c3
   by_cases c4 : a0_1 ≥ 0
   ·rw [if_pos c4] at H
    have c4b0 : decide (0 ≤ a0_1) = true := decide_eq_true c4
    clear c4
    obtain rfl := Option.some.inj H
    go_enter Try.func98,Try.ntmps98
    go_wp2_with (first | ((with_reducible refine zu (N := 1) rfl ?_);refine zr ?hg (N := 1) ?hd (cs := #[.int .i64 a0_0,.int .i64 a0_1]) (t := 26) ?hr ?_;(case hd => rfl);(case hg => rfl);(case hr => first | (go_simp;done) | (go_simp;rfl));intro gb206 hg w5 hbox hb;have n0_ := zc.mk (zj hBq hb);have n1_ := zc.mk (hbox);have n2_ := zc.mk ((by rw [hg];exact (zl hBq) : w.heap.size ≤ gb206));have n3_ := zc.mk ((by rw [hg];exact (zl hBq) : w.heap.size ≤ gb206));clear HB;have HB := n0_;have BK206 := n1_;have GW206 := n2_;have GE206 := n3_;clear n0_ n1_ n2_ n3_;clear hb hbox hg;have hcz6_0 : w5.cell? ⟨gb206,0,none⟩ = some (.int .i64 a0_0) := (zb BK206.out 0).trans rfl;have hcz6_1 : w5.cell? ⟨gb206,1,none⟩ = some (.int .i64 a0_1) := (zb BK206.out 1).trans rfl;have hfz6_0 := za BK206.out 0;have hfz6_1 := za BK206.out 1))
    go_ret
    exact ⟨hHq,hCq⟩
   ·rw [if_neg c4] at H
    have c4b0 : decide (0 ≤ a0_1) = false := decide_eq_false c4
    clear c4
    obtain rfl := Option.some.inj H
    go_enter Try.func98,Try.ntmps98
    go_wp2_with (first | ((with_reducible refine zu (N := 1) rfl ?_);refine zr ?hg (N := 1) ?hd (cs := #[.int .i64 a0_0,.int .i64 a0_1]) (t := 26) ?hr ?_;(case hd => rfl);(case hg => rfl);(case hr => first | (go_simp;done) | (go_simp;rfl));intro gb206 hg w7 hbox hb;have n0_ := zc.mk (zj hBq hb);have n1_ := zc.mk (hbox);have n2_ := zc.mk ((by rw [hg];exact (zl hBq) : w.heap.size ≤ gb206));have n3_ := zc.mk ((by rw [hg];exact (zl hBq) : w.heap.size ≤ gb206));clear HB;have HB := n0_;have BK206 := n1_;have GW206 := n2_;have GE206 := n3_;clear n0_ n1_ n2_ n3_;clear hb hbox hg;have hcz8_0 : w7.cell? ⟨gb206,0,none⟩ = some (.int .i64 a0_0) := (zb BK206.out 0).trans rfl;have hcz8_1 : w7.cell? ⟨gb206,1,none⟩ = some (.int .i64 a0_1) := (zb BK206.out 1).trans rfl;have hfz8_0 := za BK206.out 0;have hfz8_1 := za BK206.out 1))
    go_ret
    exact ⟨hHq,hCq⟩
  ·rw [if_neg c3] at H
   have c3b0 : decide (a0_0 < 10007) = false := decide_eq_false c3
   clear c3
   obtain rfl := Option.some.inj H
   go_enter Try.func98,Try.ntmps98
   go_wp2_with (first | ((with_reducible refine zu (N := 1) rfl ?_);refine zr ?hg (N := 1) ?hd (cs := #[.int .i64 a0_0,.int .i64 a0_1]) (t := 26) ?hr ?_;(case hd => rfl);(case hg => rfl);(case hr => first | (go_simp;done) | (go_simp;rfl));intro gb206 hg w9 hbox hb;have n0_ := zc.mk (zj hBq hb);have n1_ := zc.mk (hbox);have n2_ := zc.mk ((by rw [hg];exact (zl hBq) : w.heap.size ≤ gb206));have n3_ := zc.mk ((by rw [hg];exact (zl hBq) : w.heap.size ≤ gb206));clear HB;have HB := n0_;have BK206 := n1_;have GW206 := n2_;have GE206 := n3_;clear n0_ n1_ n2_ n3_;clear hb hbox hg;have hcz10_0 : w9.cell? ⟨gb206,0,none⟩ = some (.int .i64 a0_0) := (zb BK206.out 0).trans rfl;have hcz10_1 : w9.cell? ⟨gb206,1,none⟩ = some (.int .i64 a0_1) := (zb BK206.out 1).trans rfl;have hfz10_0 := za BK206.out 0;have hfz10_1 := za BK206.out 1))
   go_ret
   exact ⟨hHq,hCq⟩
 ·rw [if_neg c2] at H
  have c2b0 : decide (0 ≤ a0_0) = false := decide_eq_false c2
  clear c2
  obtain rfl := Option.some.inj H
  go_enter Try.func98,Try.ntmps98
  go_wp2_with (first | ((with_reducible refine zu (N := 1) rfl ?_);refine zr ?hg (N := 1) ?hd (cs := #[.int .i64 a0_0,.int .i64 a0_1]) (t := 26) ?hr ?_;(case hd => rfl);(case hg => rfl);(case hr => first | (go_simp;done) | (go_simp;rfl));intro gb206 hg w11 hbox hb;have n0_ := zc.mk (zj hBq hb);have n1_ := zc.mk (hbox);have n2_ := zc.mk ((by rw [hg];exact (zl hBq) : w.heap.size ≤ gb206));have n3_ := zc.mk ((by rw [hg];exact (zl hBq) : w.heap.size ≤ gb206));clear HB;have HB := n0_;have BK206 := n1_;have GW206 := n2_;have GE206 := n3_;clear n0_ n1_ n2_ n3_;clear hb hbox hg;have hcz12_0 : w11.cell? ⟨gb206,0,none⟩ = some (.int .i64 a0_0) := (zb BK206.out 0).trans rfl;have hcz12_1 : w11.cell? ⟨gb206,1,none⟩ = some (.int .i64 a0_1) := (zb BK206.out 1).trans rfl;have hfz12_0 := za BK206.out 0;have hfz12_1 := za BK206.out 1))
  go_ret
  exact ⟨hHq,hCq⟩
def zal.f (a0 : Int) : Option (Bool) := if a0 > 0 then (some ((Int.tmod a0 3) == 0)) else (some false)
set_option maxHeartbeats 8000000 in
set_option maxRecDepth 100000 in
theorem zal.calls (a0 : Int) (r : Bool) (w : World) (h : zal.f a0 = some r) :
  Calls Try.prog 99 #[.int .i64 a0] w fun e w' => e = .returned (.bool r) ∧ zax w w' := by
 have H : (if a0 > 0 then (some ((Int.tmod a0 3) == 0)) else (some false)) = some r := h
 clear h
 by_cases c2 : a0 > 0
 ·rw [if_pos c2] at H
  have c2b0 : decide (0 < a0) = true := decide_eq_true c2
  clear c2
  obtain rfl := Option.some.inj H
  go_enter Try.func99,Try.ntmps99
  go_wp2
  go_ret
  exact ⟨hDq,hEq⟩
 ·rw [if_neg c2] at H
  have c2b0 : decide (0 < a0) = false := decide_eq_false c2
  clear c2
  obtain rfl := Option.some.inj H
  go_enter Try.func99,Try.ntmps99
  go_wp2
  go_ret
  exact ⟨hDq,hEq⟩
end Go.Proofs.Ytgdpiegkoeikiaa.Px