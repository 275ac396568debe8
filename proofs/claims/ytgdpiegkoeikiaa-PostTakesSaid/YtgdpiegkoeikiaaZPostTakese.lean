/- Part 31 of 35 of the proof of the law PostTakes: what is proved is the statement at the end of the last part; its conditions are those of the given row. -/
import Derived.Test.YtgdpiegkoeikiaaZPostTakesd
namespace Go.Proofs.Ytgdpiegkoeikiaa.Px
open Go.RowKit Go.Proofs.YtgdpiegkoeikiaaW.PrintWords Go.Proofs.YtgdpiegkoeikiaaW.PrintLast Go.Proofs.YtgdpiegkoeikiaaW.PrintMore
attribute [local go_sem] zF zH zQ zR zy zz zG zI
set_option linter.unusedVariables false
set_option linter.unusedSimpArgs false
def zbe.f (k : Nat)  : Option (Bool) := if 32 ≤ 281474976710656 then ((some (List.replicate 32 0 : List Int)).bind fun y108 => ((zay.f k 1 2 3 (strOfNums y108)).bind fun bt111 => (if 7 + (strOfNums y108).size ≤ 9223372036854775807 then (if bt111.1.toList = ((⟨#[121,1,1,1,2,1,3]⟩ : ByteArray) ++ (strOfNums y108)).toList then (if bt111.2 = 0 then ((zbk.f (⟨#[]⟩ : ByteArray)).bind fun t113 => (if t113 = 0 then ((zbk.f bt111.1).bind fun t114 => (some (t114 == 121))) else (some false))) else (some false)) else (some false)) else (none)))) else (none)
set_option maxHeartbeats 8000000 in
set_option maxRecDepth 100000 in
theorem zbe.calls (k : Nat)  (r : Bool) (w : World) (h : zbe.f k  = some r) :
  Calls Try.prog 5 #[] w fun e w' => e = .returned (.bool r) ∧ Below w.heap.size w w' := by
 have hu42 := Try.underlying42
 have HB := zc.mk (Below.refl w.heap.size w)
 have H : (if 32 ≤ 281474976710656 then ((some (List.replicate 32 0 : List Int)).bind fun y108 => ((zay.f k 1 2 3 (strOfNums y108)).bind fun bt111 => (if 7 + (strOfNums y108).size ≤ 9223372036854775807 then (if bt111.1.toList = ((⟨#[121,1,1,1,2,1,3]⟩ : ByteArray) ++ (strOfNums y108)).toList then (if bt111.2 = 0 then ((zbk.f (⟨#[]⟩ : ByteArray)).bind fun t113 => (if t113 = 0 then ((zbk.f bt111.1).bind fun t114 => (some (t114 == 121))) else (some false))) else (some false)) else (some false)) else (none)))) else (none)) = some r := h
 clear h
 by_cases c1 : 32 ≤ 281474976710656
 focus
  rw [if_pos c1] at H
  have c1b0 := eq_true c1
  have c1b1 : decide (32 ≤ 281474976710656) = true := decide_eq_true c1
  clear c1
  obtain ⟨y108,hy108⟩ : ∃ y_ : List Int,y_ = (List.replicate 32 0) := ⟨_,rfl⟩
  replace H : ((zay.f k 1 2 3 (strOfNums y108)).bind fun bt111 => (if 7 + (strOfNums y108).size ≤ 9223372036854775807 then (if bt111.1.toList = ((⟨#[121,1,1,1,2,1,3]⟩ : ByteArray) ++ (strOfNums y108)).toList then (if bt111.2 = 0 then ((zbk.f (⟨#[]⟩ : ByteArray)).bind fun t113 => (if t113 = 0 then ((zbk.f bt111.1).bind fun t114 => (some (t114 == 121))) else (some false))) else (some false)) else (some false)) else (none))) = some r := by first | (rw [hy108];with_reducible exact H) | (have H2_ := (Option.bind_some _ _).symm.trans H;rw [hy108];with_reducible exact H2_) | (have H2_ := (Option.bind_some _ _).symm.trans H;with_reducible exact H2_) | with_reducible exact H | (rw [hy108];exact H) | exact H
  have Ny108 := zc.mk hy108
  clear hy108
  replace H := Option.bind_eq_some_iff.mp H
  obtain ⟨⟨t111,t112⟩,A20,H⟩ := H
  replace H : (if 7 + (strOfNums y108).size ≤ 9223372036854775807 then (if t111.toList = ((⟨#[121,1,1,1,2,1,3]⟩ : ByteArray) ++ (strOfNums y108)).toList then (if t112 = 0 then ((zbk.f (⟨#[]⟩ : ByteArray)).bind fun t113 => (if t113 = 0 then ((zbk.f t111).bind fun t114 => (some (t114 == 121))) else (some false))) else (some false)) else (some false)) else (none)) = some r := H
  have A2 := zc.mk A20
  clear A20
  by_cases c3 : 7 + (strOfNums y108).size ≤ 9223372036854775807
  focus
   rw [if_pos c3] at H
   have c3b0 := eq_true c3
   have c3b1 : decide (7 + (strOfNums y108).size ≤ 9223372036854775807) = true := decide_eq_true c3
   try have c3b2 : (9223372036854775807 < 7 + (strOfNums y108).size) = False := eq_false (Nat.not_lt.2 c3)
   by_cases c4 : t111.toList = ((⟨#[121,1,1,1,2,1,3]⟩ : ByteArray) ++ (strOfNums y108)).toList
   focus
    rw [if_pos c4] at H
    have c4b0 : (t111.toList == ((⟨#[121,1,1,1,2,1,3]⟩ : ByteArray) ++ (strOfNums y108)).toList) = true := beq_iff_eq.mpr c4
    have c4b1 : (t111.toList != ((⟨#[121,1,1,1,2,1,3]⟩ : ByteArray) ++ (strOfNums y108)).toList) = false := bne_eq_false_iff_eq.mpr c4
    clear c4
    by_cases c5 : t112 = 0
    focus
     rw [if_pos c5] at H
     have c5b0 : (t112 == 0) = true := beq_iff_eq.mpr c5
     have c5b1 : (t112 != 0) = false := bne_eq_false_iff_eq.mpr c5
     clear c5
     replace H := Option.bind_eq_some_iff.mp H
     obtain ⟨t113,A60,H⟩ := H
     replace H : (if t113 = 0 then ((zbk.f t111).bind fun t114 => (some (t114 == 121))) else (some false)) = some r := H
     have A6 := zc.mk A60
     clear A60
     by_cases c7 : t113 = 0
     focus
      rw [if_pos c7] at H
      have c7b0 : (t113 == 0) = true := beq_iff_eq.mpr c7
      have c7b1 : (t113 != 0) = false := bne_eq_false_iff_eq.mpr c7
      clear c7
      replace H := Option.bind_eq_some_iff.mp H
      obtain ⟨t114,A80,H⟩ := H
      replace H : (some (t114 == 121)) = some r := H
      have A8 := zc.mk A80
      clear A80
      obtain rfl := Option.some.inj H
      have EQ0 := True.intro
      have EQ1 := True.intro
     rotate_left
     focus
      rw [if_neg c7] at H
      have c7b0 : (t113 == 0) = false := beq_eq_false_iff_ne.mpr c7
      have c7b1 : (t113 != 0) = true := bne_iff_ne.mpr c7
      obtain rfl := Option.some.inj H
      have EQ0 := True.intro
    rotate_left 2
    focus
     rw [if_neg c5] at H
     have c5b0 : (t112 == 0) = false := beq_eq_false_iff_ne.mpr c5
     have c5b1 : (t112 != 0) = true := bne_iff_ne.mpr c5
     obtain rfl := Option.some.inj H
   rotate_left 3
   focus
    rw [if_neg c4] at H
    have c4b0 : (t111.toList == ((⟨#[121,1,1,1,2,1,3]⟩ : ByteArray) ++ (strOfNums y108)).toList) = false := beq_eq_false_iff_ne.mpr c4
    have c4b1 : (t111.toList != ((⟨#[121,1,1,1,2,1,3]⟩ : ByteArray) ++ (strOfNums y108)).toList) = true := bne_iff_ne.mpr c4
    obtain rfl := Option.some.inj H
  rotate_left 4
  ·rw [if_neg c3] at H
   exact absurd H (by simp)
 rotate_left 4
 ·rw [if_neg c1] at H
  exact absurd H (by simp)
 all_goals
  go_enter Try.func5,Try.ntmps5
  go_wp2_with (first | ((with_reducible refine zu (N := 4) rfl ?_);refine Kd.R_make (Kd.int .u8) _ 5 rfl (N := 4) rfl 62 _ _ rfl 32 rfl rfl Try.underlying62 (.int .u8 0) 1 zij rfl (by decide) (by omega) 0 (ok := fun _ => True) (okp := fun _ => True) rfl (fun _ hk => hk) trivial (by omega) (by omega) (Below.refl _ _) (Nat.le_refl _) ?_;intro vQN41 wQN42 hoQN43 hb hg_ hnew_;clear hg_ hnew_;(first | rw [← Ny108.out] at hoQN43 | (simp only [Int.reduceToNat] at hoQN43;rw [← Ny108.out] at hoQN43));have n0_ := zc.mk (Kd.R_lower hoQN43 (zl hBq));have n1_ := zc.mk (zj hBq hb);clear HB;have HOQN44 := n0_;have HB := n1_;clear n0_ n1_;clear hb hoQN43;have hcvQN45 := zgu (P := Try.prog) Try.underlying62 Try.underlying5 Try.underlying9 (Kd.own_of_R HOQN44.out)) | ((with_reducible refine zt (f := 21) rfl ?_);refine zU (some 9) rfl rfl Try.func21 (by kernel_rfl) rfl #[.agg #[.int .i64 1,.int .i64 2,.int .i64 3,.string (strOfNums y108)]] rfl (by (try simp only [List.map_toArray,List.map_cons,List.map_nil]);first | done | rfl | (simp only [List.length_drop,List.length_take];rfl)) ?_;(with_reducible refine (zay.calls k 1 2 3 (strOfNums y108) t111 t112 _ A2.out).mono ?_);rintro e wQF21A21 ⟨rfl,hb⟩;refine ⟨_,rfl,?_⟩;have n0_ := zc.mk (Kd.R_below (by (with_reducible repeat (first | apply Kd.R_alloc | apply Kd.R_drewN | apply Kd.R_drew));exact HOQN44.out) hb);have n1_ := zc.mk (zj hBq hb);clear HOQN44;clear HB;have HOQN44 := n0_;have HB := n1_;clear n0_ n1_;(try clear hb);(try clear hb2);(try clear hk);(try clear hi)) | (have _ := EQ0;(go_at_call 22;(with_reducible refine (zbk.calls (⟨#[]⟩ : ByteArray) t113 _ A6.out).mono ?_);rintro e w' ⟨rfl,⟨nd,rfl⟩⟩)) | (have _ := EQ1;(go_at_call 22;(with_reducible refine (zbk.calls t111 t114 _ A8.out).mono ?_);rintro e w' ⟨rfl,⟨nd,rfl⟩⟩)))
  go_ret
  exact ⟨hHq,hBq⟩
def z6.f (a0 : ByteArray) : Option (Int) := if (a0.size : Int) = 0 then (some 0) else (if 0 < (a0.size : Int) then (some (bt a0 0)) else (none))
set_option maxHeartbeats 8000000 in
set_option maxRecDepth 100000 in
theorem z6.calls (a0 : ByteArray) (r : Int) (w : World) (h : z6.f a0 = some r) :
  Calls Try.prog 27 #[.string a0] w fun e w' => e = .returned (.int .u8 r) ∧ zax w w' := by
 have H : (if (a0.size : Int) = 0 then (some 0) else (if 0 < (a0.size : Int) then (some (bt a0 0)) else (none))) = some r := h
 clear h
 by_cases c2 : (a0.size : Int) = 0
 ·rw [if_pos c2] at H
  have c2b0 : ((a0.size : Int) == 0) = true := beq_iff_eq.mpr c2
  have c2b1 : ((a0.size : Int) != 0) = false := bne_eq_false_iff_eq.mpr c2
  clear c2
  obtain rfl := Option.some.inj H
  go_enter Try.func27,Try.ntmps27
  go_wp2
  go_ret
  exact ⟨hDq,hEq⟩
 ·rw [if_neg c2] at H
  have c2b0 : ((a0.size : Int) == 0) = false := beq_eq_false_iff_ne.mpr c2
  have c2b1 : ((a0.size : Int) != 0) = true := bne_iff_ne.mpr c2
  by_cases c3 : 0 < (a0.size : Int)
  ·rw [if_pos c3] at H
   have c3b0 : decide (0 < (a0.size : Int)) = true := decide_eq_true c3
   have c3b1 : decide (0 < a0.size) = true := decide_eq_true (by omega)
   clear c3
   obtain rfl := Option.some.inj H
   have p4 : 0 ≤ (0 : Int) := (by omega)
   have q4 : 0 < a0.size := (by have : (0 : Int) < (a0.size : Int) := hFq;omega)
   have hx4 : ∀ h : 0 < a0.size,((a0[0]'h).toNat : Int) = bt a0 0 := zcn a0 0
   clear p4
   have qi4 : (0 < (a0.size : Int)) = True := eq_true (hFq)
   replace q4 := eq_true q4
   go_enter Try.func27,Try.ntmps27
   go_wp2
   go_ret
   exact ⟨hDq,hEq⟩
  ·rw [if_neg c3] at H
   exact absurd H (by simp)
def z4.f (a0 : Int) (a1 : Int) (a2 : ByteArray) : Option (Bool) := if a0 ≥ 1 then (if a0 ≤ 64 then (if a1 ≥ 1 then (if a1 ≤ 1048576 then (some ((a2.size : Int) == 32)) else (some false)) else (some false)) else (some false)) else (some false)
set_option maxHeartbeats 8000000 in
set_option maxRecDepth 100000 in
theorem z4.calls (a0 : Int) (a1 : Int) (a2 : ByteArray) (r : Bool) (w : World) (h : z4.f a0 a1 a2 = some r) :
  Calls Try.prog 38 #[.int .i64 a0,.int .i64 a1,.string a2] w fun e w' => e = .returned (.bool r) ∧ zax w w' := by
 have H : (if a0 ≥ 1 then (if a0 ≤ 64 then (if a1 ≥ 1 then (if a1 ≤ 1048576 then (some ((a2.size : Int) == 32)) else (some false)) else (some false)) else (some false)) else (some false)) = some r := h
 clear h
 by_cases c4 : a0 ≥ 1
 ·rw [if_pos c4] at H
  have c4b0 : decide (1 ≤ a0) = true := decide_eq_true c4
  clear c4
  by_cases c5 : a0 ≤ 64
  ·rw [if_pos c5] at H
   have c5b0 : decide (a0 ≤ 64) = true := decide_eq_true c5
   clear c5
   by_cases c6 : a1 ≥ 1
   ·rw [if_pos c6] at H
    have c6b0 : decide (1 ≤ a1) = true := decide_eq_true c6
    clear c6
    by_cases c7 : a1 ≤ 1048576
    ·rw [if_pos c7] at H
     have c7b0 : decide (a1 ≤ 1048576) = true := decide_eq_true c7
     clear c7
     obtain rfl := Option.some.inj H
     go_enter Try.func38,Try.ntmps38
     go_wp2
     go_ret
     exact ⟨hDq,hEq⟩
    ·rw [if_neg c7] at H
     have c7b0 : decide (a1 ≤ 1048576) = false := decide_eq_false c7
     clear c7
     obtain rfl := Option.some.inj H
     go_enter Try.func38,Try.ntmps38
     go_wp2
     go_ret
     exact ⟨hDq,hEq⟩
   ·rw [if_neg c6] at H
    have c6b0 : decide (1 ≤ a1) = false := decide_eq_false c6
    clear c6
    obtain rfl := Option.some.inj H
    go_enter Try.func38,Try.ntmps38
    go_wp2
    go_ret
    exact ⟨hDq,hEq⟩
  ·rw [if_neg c5] at H
   have c5b0 : decide (a0 ≤ 64) = false := decide_eq_false c5
   clear c5
   obtain rfl := Option.some.inj H
   go_enter Try.func38,Try.ntmps38
   go_wp2
   go_ret
   exact ⟨hDq,hEq⟩
 ·rw [if_neg c4] at H
  have c4b0 : decide (1 ≤ a0) = false := decide_eq_false c4
  clear c4
  obtain rfl := Option.some.inj H
  go_enter Try.func38,Try.ntmps38
  go_wp2
  go_ret
  exact ⟨hDq,hEq⟩
def zK.f (k : Nat) (a0 : ByteArray) : Option (Int × ByteArray × Bool) := (zp.f k a0).bind fun bt351 => (if bt351.2.2 = 0 then (if bt351.1 > 1048576 then (some (0,(⟨#[]⟩ : ByteArray),false)) else (some (wrap64 (bt351.1),bt351.2.1,true))) else (some (0,(⟨#[]⟩ : ByteArray),false)))
set_option maxHeartbeats 8000000 in
set_option maxRecDepth 100000 in
theorem zK.calls (k : Nat) (a0 : ByteArray) (r1 : Int) (r2 : ByteArray) (r3 : Bool) (w : World) (h : zK.f k a0 = some (r1,r2,r3)) :
  Calls Try.prog 37 #[.string a0] w fun e w' => e = .returned (.tuple #[.int .i64 r1,.string r2,.bool r3]) ∧ zax w w' := by
 have H : ((zp.f k a0).bind fun bt351 => (if bt351.2.2 = 0 then (if bt351.1 > 1048576 then (some (0,(⟨#[]⟩ : ByteArray),false)) else (some (wrap64 (bt351.1),bt351.2.1,true))) else (some (0,(⟨#[]⟩ : ByteArray),false)))) = some (r1,r2,r3) := h
 clear h
 replace H := Option.bind_eq_some_iff.mp H
 obtain ⟨⟨t351,t352,t353⟩,A20,H⟩ := H
 replace H : (if t353 = 0 then (if t351 > 1048576 then (some (0,(⟨#[]⟩ : ByteArray),false)) else (some (wrap64 (t351),t352,true))) else (some (0,(⟨#[]⟩ : ByteArray),false))) = some (r1,r2,r3) := H
 have A2 := zc.mk A20
 clear A20
 by_cases c3 : t353 = 0
 ·rw [if_pos c3] at H
  have c3b0 : (t353 == 0) = true := beq_iff_eq.mpr c3
  have c3b1 : (t353 != 0) = false := bne_eq_false_iff_eq.mpr c3
  clear c3
  by_cases c4 : t351 > 1048576
  ·rw [if_pos c4] at H
   have c4b0 : decide (1048576 < t351) = true := decide_eq_true c4
   clear c4
   simp only [Option.some.injEq,Prod.mk.injEq] at H
   obtain ⟨rfl,rfl,rfl⟩ := H
   go_enter Try.func37,Try.ntmps37
   go_wp2_with (first | ((with_reducible refine zt (f := 60) rfl ?_);refine zU (some 10) rfl rfl Try.func60 (by kernel_rfl) rfl #[.string a0] rfl (by (try simp only [List.map_toArray,List.map_cons,List.map_nil]);first | done | rfl | (simp only [List.length_drop,List.length_take];rfl)) ?_;(with_reducible refine (zp.calls k a0 t351 t352 t353 _ A2.out).mono ?_);rintro e w' ⟨rfl,⟨nd,rfl⟩⟩;refine ⟨_,rfl,?_⟩))
   go_ret3
   exact ⟨hDq,hEq⟩
  ·rw [if_neg c4] at H
   have c4b0 : decide (1048576 < t351) = false := decide_eq_false c4
   clear c4
   simp only [Option.some.injEq,Prod.mk.injEq] at H
   obtain ⟨rfl,rfl,rfl⟩ := H
   go_enter Try.func37,Try.ntmps37
   go_wp2_with (first | ((with_reducible refine zt (f := 60) rfl ?_);refine zU (some 10) rfl rfl Try.func60 (by kernel_rfl) rfl #[.string a0] rfl (by (try simp only [List.map_toArray,List.map_cons,List.map_nil]);first | done | rfl | (simp only [List.length_drop,List.length_take];rfl)) ?_;(with_reducible refine (zp.calls k a0 t351 t352 t353 _ A2.out).mono ?_);rintro e w' ⟨rfl,⟨nd,rfl⟩⟩;refine ⟨_,rfl,?_⟩))
   go_ret3
   exact ⟨hDq,hEq⟩
 ·rw [if_neg c3] at H
  have c3b0 : (t353 == 0) = false := beq_eq_false_iff_ne.mpr c3
  have c3b1 : (t353 != 0) = true := bne_iff_ne.mpr c3
  simp only [Option.some.injEq,Prod.mk.injEq] at H
  obtain ⟨rfl,rfl,rfl⟩ := H
  go_enter Try.func37,Try.ntmps37
  go_wp2_with (first | ((with_reducible refine zt (f := 60) rfl ?_);refine zU (some 10) rfl rfl Try.func60 (by kernel_rfl) rfl #[.string a0] rfl (by (try simp only [List.map_toArray,List.map_cons,List.map_nil]);first | done | rfl | (simp only [List.length_drop,List.length_take];rfl)) ?_;(with_reducible refine (zp.calls k a0 t351 t352 t353 _ A2.out).mono ?_);rintro e w' ⟨rfl,⟨nd,rfl⟩⟩;refine ⟨_,rfl,?_⟩))
  go_ret3
  exact ⟨hDq,hEq⟩
def za0.f (k : Nat) (a0 : ByteArray) : Option (Int × Int × ByteArray × Int) := (z6.f a0).bind fun t372 => (if t372 = 118 then (if 1 ≤ (a0.size : Int) then ((zK.f k (a0.extract 1 a0.size)).bind fun bt373 => (if bt373.2.2 = true then ((zK.f k bt373.2.1).bind fun bt376 => ((z4.f bt373.1 bt376.1 bt376.2.1).bind fun t379 => (if bt376.2.2 = true then (if t379 = true then (some (bt373.1,bt376.1,bt376.2.1,0)) else (some (0,0,(⟨#[]⟩ : ByteArray),3))) else (some (0,0,(⟨#[]⟩ : ByteArray),3))))) else (some (0,0,(⟨#[]⟩ : ByteArray),3)))) else (none)) else (some (0,0,(⟨#[]⟩ : ByteArray),3)))
set_option maxHeartbeats 8000000 in
set_option maxRecDepth 100000 in
theorem za0.calls (k : Nat) (a0 : ByteArray) (r1 : Int) (r2 : Int) (r3 : ByteArray) (r4 : Int) (w : World) (h : za0.f k a0 = some (r1,r2,r3,r4)) :
  Calls Try.prog 13 #[.string a0] w fun e w' => e = .returned (.tuple #[.agg #[.int .i64 r1,.int .i64 r2,.string r3],.int .i64 r4]) ∧ Below w.heap.size w w' := by
 have hu48 := Try.underlying48
 have HB := zc.mk (Below.refl w.heap.size w)
 have H : ((z6.f a0).bind fun t372 => (if t372 = 118 then (if 1 ≤ (a0.size : Int) then ((zK.f k (a0.extract 1 a0.size)).bind fun bt373 => (if bt373.2.2 = true then ((zK.f k bt373.2.1).bind fun bt376 => ((z4.f bt373.1 bt376.1 bt376.2.1).bind fun t379 => (if bt376.2.2 = true then (if t379 = true then (some (bt373.1,bt376.1,bt376.2.1,0)) else (some (0,0,(⟨#[]⟩ : ByteArray),3))) else (some (0,0,(⟨#[]⟩ : ByteArray),3))))) else (some (0,0,(⟨#[]⟩ : ByteArray),3)))) else (none)) else (some (0,0,(⟨#[]⟩ : ByteArray),3)))) = some (r1,r2,r3,r4) := h
 clear h
 replace H := Option.bind_eq_some_iff.mp H
 obtain ⟨t372,A20,H⟩ := H
 replace H : (if t372 = 118 then (if 1 ≤ (a0.size : Int) then ((zK.f k (a0.extract 1 a0.size)).bind fun bt373 => (if bt373.2.2 = true then ((zK.f k bt373.2.1).bind fun bt376 => ((z4.f bt373.1 bt376.1 bt376.2.1).bind fun t379 => (if bt376.2.2 = true then (if t379 = true then (some (bt373.1,bt376.1,bt376.2.1,0)) else (some (0,0,(⟨#[]⟩ : ByteArray),3))) else (some (0,0,(⟨#[]⟩ : ByteArray),3))))) else (some (0,0,(⟨#[]⟩ : ByteArray),3)))) else (none)) else (some (0,0,(⟨#[]⟩ : ByteArray),3))) = some (r1,r2,r3,r4) := H
 have A2 := zc.mk A20
 clear A20
 by_cases c3 : t372 = 118
 focus
  rw [if_pos c3] at H
  have c3b0 : (t372 == 118) = true := beq_iff_eq.mpr c3
  have c3b1 : (t372 != 118) = false := bne_eq_false_iff_eq.mpr c3
  clear c3
  by_cases c4 : 1 ≤ (a0.size : Int)
  focus
   rw [if_pos c4] at H
   have c4b0 := eq_true c4
   have c4b1 : decide (1 ≤ (a0.size : Int)) = true := decide_eq_true c4
   clear c4
   replace H := Option.bind_eq_some_iff.mp H
   obtain ⟨⟨t373,t374,t375⟩,A50,H⟩ := H
   replace H : (if t375 = true then ((zK.f k t374).bind fun bt376 => ((z4.f t373 bt376.1 bt376.2.1).bind fun t379 => (if bt376.2.2 = true then (if t379 = true then (some (t373,bt376.1,bt376.2.1,0)) else (some (0,0,(⟨#[]⟩ : ByteArray),3))) else (some (0,0,(⟨#[]⟩ : ByteArray),3))))) else (some (0,0,(⟨#[]⟩ : ByteArray),3))) = some (r1,r2,r3,r4) := H
   have A5 := zc.mk A50
   clear A50
   by_cases c6 : t375 = true
   focus
    subst c6
    have H1 : ((zK.f k t374).bind fun bt376 => ((z4.f t373 bt376.1 bt376.2.1).bind fun t379 => (if bt376.2.2 = true then (if t379 = true then (some (t373,bt376.1,bt376.2.1,0)) else (some (0,0,(⟨#[]⟩ : ByteArray),3))) else (some (0,0,(⟨#[]⟩ : ByteArray),3))))) = some (r1,r2,r3,r4) := by rw [if_pos rfl] at H;exact H
    clear H
    have H := H1
    clear H1
    replace H := Option.bind_eq_some_iff.mp H
    obtain ⟨⟨t376,t377,t378⟩,A70,H⟩ := H
    replace H : ((z4.f t373 t376 t377).bind fun t379 => (if t378 = true then (if t379 = true then (some (t373,t376,t377,0)) else (some (0,0,(⟨#[]⟩ : ByteArray),3))) else (some (0,0,(⟨#[]⟩ : ByteArray),3)))) = some (r1,r2,r3,r4) := H
    have A7 := zc.mk A70
    clear A70
    replace H := Option.bind_eq_some_iff.mp H
    obtain ⟨t379,A80,H⟩ := H
    replace H : (if t378 = true then (if t379 = true then (some (t373,t376,t377,0)) else (some (0,0,(⟨#[]⟩ : ByteArray),3))) else (some (0,0,(⟨#[]⟩ : ByteArray),3))) = some (r1,r2,r3,r4) := H
    have A8 := zc.mk A80
    clear A80
    by_cases c9 : t378 = true
    focus
     subst c9
     have H1 : (if t379 = true then (some (t373,t376,t377,0)) else (some (0,0,(⟨#[]⟩ : ByteArray),3))) = some (r1,r2,r3,r4) := by rw [if_pos rfl] at H;exact H
     clear H
     have H := H1
     clear H1
     by_cases c10 : t379 = true
     focus
      subst c10
      have H1 : (some (t373,t376,t377,0)) = some (r1,r2,r3,r4) := by rw [if_pos rfl] at H;exact H
      clear H
      have H := H1
      clear H1
      simp only [Option.some.injEq,Prod.mk.injEq] at H
      obtain ⟨rfl,rfl,rfl,rfl⟩ := H
      have EQ0 := True.intro
      have EQ1 := True.intro
      have EQ2 := True.intro
      have EQ3 := True.intro
     rotate_left
     focus
      replace c10 := Bool.eq_false_iff.mpr c10
      subst c10
      have H1 : (some (0,0,(⟨#[]⟩ : ByteArray),3)) = some (r1,r2,r3,r4) := by rw [if_neg (show ¬ (false = true) by decide)] at H;exact H
      clear H
      have H := H1
      clear H1
      simp only [Option.some.injEq,Prod.mk.injEq] at H
      obtain ⟨rfl,rfl,rfl,rfl⟩ := H
      have EQ0 := True.intro
      have EQ1 := True.intro
      have EQ2 := True.intro
      have EQ4 := True.intro
      have EQ8 := True.intro
    rotate_left 2
    focus
     replace c9 := Bool.eq_false_iff.mpr c9
     subst c9
     have H1 : (some (0,0,(⟨#[]⟩ : ByteArray),3)) = some (r1,r2,r3,r4) := by rw [if_neg (show ¬ (false = true) by decide)] at H;exact H
     clear H
     have H := H1
     clear H1
     simp only [Option.some.injEq,Prod.mk.injEq] at H
     obtain ⟨rfl,rfl,rfl,rfl⟩ := H
     have EQ0 := True.intro
     have EQ1 := True.intro
     have EQ5 := True.intro
     have EQ8 := True.intro
   rotate_left 3
   focus
    replace c6 := Bool.eq_false_iff.mpr c6
    subst c6
    have H1 : (some (0,0,(⟨#[]⟩ : ByteArray),3)) = some (r1,r2,r3,r4) := by rw [if_neg (show ¬ (false = true) by decide)] at H;exact H
    clear H
    have H := H1
    clear H1
    simp only [Option.some.injEq,Prod.mk.injEq] at H
    obtain ⟨rfl,rfl,rfl,rfl⟩ := H
    have EQ0 := True.intro
    have EQ6 := True.intro
    have EQ8 := True.intro
  rotate_left 4
  ·rw [if_neg c4] at H
   exact absurd H (by simp)
 rotate_left 4
 focus
  rw [if_neg c3] at H
  have c3b0 : (t372 == 118) = false := beq_eq_false_iff_ne.mpr c3
  have c3b1 : (t372 != 118) = true := bne_iff_ne.mpr c3
  simp only [Option.some.injEq,Prod.mk.injEq] at H
  obtain ⟨rfl,rfl,rfl,rfl⟩ := H
  have EQ7 := True.intro
  have EQ8 := True.intro
 all_goals
  go_enter Try.func13,Try.ntmps13
  go_wp2_with (first | ((with_reducible refine zu (N := 2) rfl ?_);refine zr ?hg (N := 2) ?hd (cs := #[.int .i64 0,.int .i64 0,.string (⟨#[]⟩ : ByteArray)]) (t := 48) ?hr ?_;(case hd => rfl);(case hg => rfl);(case hr => first | (go_simp;done) | (go_simp;rfl));intro gb371 hg wQN22 hbox hb;have n0_ := zc.mk (zj hBq hb);have n1_ := zc.mk (hbox);have n2_ := zc.mk ((by rw [hg];exact (zl hBq) : w.heap.size ≤ gb371));have n3_ := zc.mk ((by rw [hg];exact (zl hBq) : w.heap.size ≤ gb371));clear HB;have HB := n0_;have BK371 := n1_;have GW371 := n2_;have GE371 := n3_;clear n0_ n1_ n2_ n3_;clear hb hbox hg) | (have _ := EQ0;((with_reducible refine zt (f := 27) rfl ?_);refine zU (some 12) rfl rfl Try.func27 (by kernel_rfl) rfl #[.string a0] rfl (by (try simp only [List.map_toArray,List.map_cons,List.map_nil]);first | done | rfl | (simp only [List.length_drop,List.length_take];rfl)) ?_;(with_reducible refine (z6.calls a0 t372 _ A2.out).mono ?_);rintro e w' ⟨rfl,⟨nd,rfl⟩⟩;refine ⟨_,rfl,?_⟩;(try (rw [zar wQN22];generalize hq_ : World.drewN wQN22 _ = wQN22;have n0_ : zc (wQN22.heap[gb371]? = some (.cells #[.int .i64 0,.int .i64 0,.string (⟨#[]⟩ : ByteArray)] 48 (0,0))) := ⟨by rw [← hq_];exact (hGq BK371.out)⟩;have n1_ : zc (Below w.heap.size w wQN22) := ⟨by rw [← hq_];exact hCq⟩;clear BK371 HB hq_;have BK371 := n0_;have HB := n1_;clear n0_ n1_)))) | (have _ := EQ1;((with_reducible refine zt (f := 37) rfl ?_);refine zU (some 18) rfl rfl Try.func37 (by kernel_rfl) rfl #[.string (a0.extract 1 a0.size)] rfl (by (try simp only [List.map_toArray,List.map_cons,List.map_nil]);first | done | rfl | (simp only [List.length_drop,List.length_take];rfl)) ?_;(with_reducible refine (zK.calls k (a0.extract 1 a0.size) t373 t374 true _ A5.out).mono ?_);rintro e w' ⟨rfl,⟨nd,rfl⟩⟩;refine ⟨_,rfl,?_⟩;(try (rw [zar wQN22];generalize hq_ : World.drewN wQN22 _ = wQN22;have n0_ : zc (wQN22.heap[gb371]? = some (.cells #[.int .i64 0,.int .i64 0,.string (⟨#[]⟩ : ByteArray)] 48 (0,0))) := ⟨by rw [← hq_];exact (hGq BK371.out)⟩;have n1_ : zc (Below w.heap.size w wQN22) := ⟨by rw [← hq_];exact hCq⟩;clear BK371 HB hq_;have BK371 := n0_;have HB := n1_;clear n0_ n1_)))) | (have _ := EQ2;((with_reducible refine zt (f := 37) rfl ?_);refine zU (some 27) rfl rfl Try.func37 (by kernel_rfl) rfl #[.string t374] rfl (by (try simp only [List.map_toArray,List.map_cons,List.map_nil]);first | done | rfl | (simp only [List.length_drop,List.length_take];rfl)) ?_;(with_reducible refine (zK.calls k t374 t376 t377 true _ A7.out).mono ?_);rintro e w' ⟨rfl,⟨nd,rfl⟩⟩;refine ⟨_,rfl,?_⟩;(try (rw [zar wQN22];generalize hq_ : World.drewN wQN22 _ = wQN22;have n0_ : zc (wQN22.heap[gb371]? = some (.cells #[.int .i64 0,.int .i64 0,.string (⟨#[]⟩ : ByteArray)] 48 (0,0))) := ⟨by rw [← hq_];exact (hGq BK371.out)⟩;have n1_ : zc (Below w.heap.size w wQN22) := ⟨by rw [← hq_];exact hCq⟩;clear BK371 HB hq_;have BK371 := n0_;have HB := n1_;clear n0_ n1_)))) | (have _ := EQ3;((with_reducible refine zt (f := 38) rfl ?_);refine zU (some 34) rfl rfl Try.func38 (by kernel_rfl) rfl #[.int .i64 t373,.int .i64 t376,.string t377] rfl (by (try simp only [List.map_toArray,List.map_cons,List.map_nil]);first | done | rfl | (simp only [List.length_drop,List.length_take];rfl)) ?_;(with_reducible refine (z4.calls t373 t376 t377 true _ A8.out).mono ?_);rintro e w' ⟨rfl,⟨nd,rfl⟩⟩;refine ⟨_,rfl,?_⟩;(try (rw [zar wQN22];generalize hq_ : World.drewN wQN22 _ = wQN22;have n0_ : zc (wQN22.heap[gb371]? = some (.cells #[.int .i64 0,.int .i64 0,.string (⟨#[]⟩ : ByteArray)] 48 (0,0))) := ⟨by rw [← hq_];exact (hGq BK371.out)⟩;have n1_ : zc (Below w.heap.size w wQN22) := ⟨by rw [← hq_];exact hCq⟩;clear BK371 HB hq_;have BK371 := n0_;have HB := n1_;clear n0_ n1_));have hczQF38A82 : wQN22.cell? ⟨gb371,0,none⟩ = some (.int .i64 0) := (zb BK371.out 0).trans rfl;have hczQF38A83 : wQN22.cell? ⟨gb371,1,none⟩ = some (.int .i64 0) := (zb BK371.out 1).trans rfl;have hczQF38A84 : wQN22.cell? ⟨gb371,2,none⟩ = some (.string (⟨#[]⟩ : ByteArray)) := (zb BK371.out 2).trans rfl;have hfzQF38A85 := za BK371.out 0;have hfzQF38A86 := za BK371.out 1;have hfzQF38A87 := za BK371.out 2)) | (have _ := EQ4;((with_reducible refine zt (f := 38) rfl ?_);refine zU (some 34) rfl rfl Try.func38 (by kernel_rfl) rfl #[.int .i64 t373,.int .i64 t376,.string t377] rfl (by (try simp only [List.map_toArray,List.map_cons,List.map_nil]);first | done | rfl | (simp only [List.length_drop,List.length_take];rfl)) ?_;(with_reducible refine (z4.calls t373 t376 t377 false _ A8.out).mono ?_);rintro e w' ⟨rfl,⟨nd,rfl⟩⟩;refine ⟨_,rfl,?_⟩;(try (rw [zar wQN22];generalize hq_ : World.drewN wQN22 _ = wQN22;have n0_ : zc (wQN22.heap[gb371]? = some (.cells #[.int .i64 0,.int .i64 0,.string (⟨#[]⟩ : ByteArray)] 48 (0,0))) := ⟨by rw [← hq_];exact (hGq BK371.out)⟩;have n1_ : zc (Below w.heap.size w wQN22) := ⟨by rw [← hq_];exact hCq⟩;clear BK371 HB hq_;have BK371 := n0_;have HB := n1_;clear n0_ n1_));have hczQF38A82 : wQN22.cell? ⟨gb371,0,none⟩ = some (.int .i64 0) := (zb BK371.out 0).trans rfl;have hczQF38A83 : wQN22.cell? ⟨gb371,1,none⟩ = some (.int .i64 0) := (zb BK371.out 1).trans rfl;have hczQF38A84 : wQN22.cell? ⟨gb371,2,none⟩ = some (.string (⟨#[]⟩ : ByteArray)) := (zb BK371.out 2).trans rfl;have hfzQF38A85 := za BK371.out 0;have hfzQF38A86 := za BK371.out 1;have hfzQF38A87 := za BK371.out 2)) | (have _ := EQ5;((with_reducible refine zt (f := 37) rfl ?_);refine zU (some 27) rfl rfl Try.func37 (by kernel_rfl) rfl #[.string t374] rfl (by (try simp only [List.map_toArray,List.map_cons,List.map_nil]);first | done | rfl | (simp only [List.length_drop,List.length_take];rfl)) ?_;(with_reducible refine (zK.calls k t374 t376 t377 false _ A7.out).mono ?_);rintro e w' ⟨rfl,⟨nd,rfl⟩⟩;refine ⟨_,rfl,?_⟩;(try (rw [zar wQN22];generalize hq_ : World.drewN wQN22 _ = wQN22;have n0_ : zc (wQN22.heap[gb371]? = some (.cells #[.int .i64 0,.int .i64 0,.string (⟨#[]⟩ : ByteArray)] 48 (0,0))) := ⟨by rw [← hq_];exact (hGq BK371.out)⟩;have n1_ : zc (Below w.heap.size w wQN22) := ⟨by rw [← hq_];exact hCq⟩;clear BK371 HB hq_;have BK371 := n0_;have HB := n1_;clear n0_ n1_)))) | (have _ := EQ5;((with_reducible refine zt (f := 38) rfl ?_);refine zU (some 34) rfl rfl Try.func38 (by kernel_rfl) rfl #[.int .i64 t373,.int .i64 t376,.string t377] rfl (by (try simp only [List.map_toArray,List.map_cons,List.map_nil]);first | done | rfl | (simp only [List.length_drop,List.length_take];rfl)) ?_;(with_reducible refine (z4.calls t373 t376 t377 t379 _ A8.out).mono ?_);rintro e w' ⟨rfl,⟨nd,rfl⟩⟩;refine ⟨_,rfl,?_⟩;(try (rw [zar wQN22];generalize hq_ : World.drewN wQN22 _ = wQN22;have n0_ : zc (wQN22.heap[gb371]? = some (.cells #[.int .i64 0,.int .i64 0,.string (⟨#[]⟩ : ByteArray)] 48 (0,0))) := ⟨by rw [← hq_];exact (hGq BK371.out)⟩;have n1_ : zc (Below w.heap.size w wQN22) := ⟨by rw [← hq_];exact hCq⟩;clear BK371 HB hq_;have BK371 := n0_;have HB := n1_;clear n0_ n1_));have hczQF38A82 : wQN22.cell? ⟨gb371,0,none⟩ = some (.int .i64 0) := (zb BK371.out 0).trans rfl;have hczQF38A83 : wQN22.cell? ⟨gb371,1,none⟩ = some (.int .i64 0) := (zb BK371.out 1).trans rfl;have hczQF38A84 : wQN22.cell? ⟨gb371,2,none⟩ = some (.string (⟨#[]⟩ : ByteArray)) := (zb BK371.out 2).trans rfl;have hfzQF38A85 := za BK371.out 0;have hfzQF38A86 := za BK371.out 1;have hfzQF38A87 := za BK371.out 2)) | (have _ := EQ6;((with_reducible refine zt (f := 37) rfl ?_);refine zU (some 18) rfl rfl Try.func37 (by kernel_rfl) rfl #[.string (a0.extract 1 a0.size)] rfl (by (try simp only [List.map_toArray,List.map_cons,List.map_nil]);first | done | rfl | (simp only [List.length_drop,List.length_take];rfl)) ?_;(with_reducible refine (zK.calls k (a0.extract 1 a0.size) t373 t374 false _ A5.out).mono ?_);rintro e w' ⟨rfl,⟨nd,rfl⟩⟩;refine ⟨_,rfl,?_⟩;(try (rw [zar wQN22];generalize hq_ : World.drewN wQN22 _ = wQN22;have n0_ : zc (wQN22.heap[gb371]? = some (.cells #[.int .i64 0,.int .i64 0,.string (⟨#[]⟩ : ByteArray)] 48 (0,0))) := ⟨by rw [← hq_];exact (hGq BK371.out)⟩;have n1_ : zc (Below w.heap.size w wQN22) := ⟨by rw [← hq_];exact hCq⟩;clear BK371 HB hq_;have BK371 := n0_;have HB := n1_;clear n0_ n1_));have hczQF37A52 : wQN22.cell? ⟨gb371,0,none⟩ = some (.int .i64 0) := (zb BK371.out 0).trans rfl;have hczQF37A53 : wQN22.cell? ⟨gb371,1,none⟩ = some (.int .i64 0) := (zb BK371.out 1).trans rfl;have hczQF37A54 : wQN22.cell? ⟨gb371,2,none⟩ = some (.string (⟨#[]⟩ : ByteArray)) := (zb BK371.out 2).trans rfl;have hfzQF37A55 := za BK371.out 0;have hfzQF37A56 := za BK371.out 1;have hfzQF37A57 := za BK371.out 2)) | (have _ := EQ7;((with_reducible refine zt (f := 27) rfl ?_);refine zU (some 12) rfl rfl Try.func27 (by kernel_rfl) rfl #[.string a0] rfl (by (try simp only [List.map_toArray,List.map_cons,List.map_nil]);first | done | rfl | (simp only [List.length_drop,List.length_take];rfl)) ?_;(with_reducible refine (z6.calls a0 t372 _ A2.out).mono ?_);rintro e w' ⟨rfl,⟨nd,rfl⟩⟩;refine ⟨_,rfl,?_⟩;(try (rw [zar wQN22];generalize hq_ : World.drewN wQN22 _ = wQN22;have n0_ : zc (wQN22.heap[gb371]? = some (.cells #[.int .i64 0,.int .i64 0,.string (⟨#[]⟩ : ByteArray)] 48 (0,0))) := ⟨by rw [← hq_];exact (hGq BK371.out)⟩;have n1_ : zc (Below w.heap.size w wQN22) := ⟨by rw [← hq_];exact hCq⟩;clear BK371 HB hq_;have BK371 := n0_;have HB := n1_;clear n0_ n1_));have hczQF27A22 : wQN22.cell? ⟨gb371,0,none⟩ = some (.int .i64 0) := (zb BK371.out 0).trans rfl;have hczQF27A23 : wQN22.cell? ⟨gb371,1,none⟩ = some (.int .i64 0) := (zb BK371.out 1).trans rfl;have hczQF27A24 : wQN22.cell? ⟨gb371,2,none⟩ = some (.string (⟨#[]⟩ : ByteArray)) := (zb BK371.out 2).trans rfl;have hfzQF27A25 := za BK371.out 0;have hfzQF27A26 := za BK371.out 1;have hfzQF27A27 := za BK371.out 2)))
  first | (have _ := EQ3;refine bodyPost_ret (z9 rfl _ _ gb371 48 #[.int .i64 t373,.int .i64 t376,.string t377] (0,0) _ rfl (by (with_reducible repeat (first | refine zd ?_ _ | refine zf ?_ | refine ze ?_ _));refine zi (cs := #[.int .i64 t373,.int .i64 t376,.string (⟨#[]⟩ : ByteArray)]) ?_ 2 _ rfl;(with_reducible repeat (first | refine zd ?_ _ | refine zf ?_ | refine ze ?_ _));refine zi (cs := #[.int .i64 t373,.int .i64 0,.string (⟨#[]⟩ : ByteArray)]) ?_ 1 _ rfl;(with_reducible repeat (first | refine zd ?_ _ | refine zf ?_ | refine ze ?_ _));refine zi (cs := #[.int .i64 0,.int .i64 0,.string (⟨#[]⟩ : ByteArray)]) ?_ 0 _ rfl;(with_reducible repeat (first | refine zd ?_ _ | refine zf ?_ | refine ze ?_ _));exact BK371.out) Try.underlying48 rfl (by kernel_rfl)) rfl ?_;exact ⟨hHq,hCq⟩) | (have _ := EQ8;refine bodyPost_ret (z9 rfl _ _ gb371 48 #[.int .i64 0,.int .i64 0,.string (⟨#[]⟩ : ByteArray)] (0,0) _ rfl (by (with_reducible repeat (first | refine zd ?_ _ | refine zf ?_ | refine ze ?_ _));refine zi (cs := #[.int .i64 0,.int .i64 0,.string (⟨#[]⟩ : ByteArray)]) ?_ 2 _ rfl;(with_reducible repeat (first | refine zd ?_ _ | refine zf ?_ | refine ze ?_ _));refine zi (cs := #[.int .i64 0,.int .i64 0,.string (⟨#[]⟩ : ByteArray)]) ?_ 1 _ rfl;(with_reducible repeat (first | refine zd ?_ _ | refine zf ?_ | refine ze ?_ _));refine zi (cs := #[.int .i64 0,.int .i64 0,.string (⟨#[]⟩ : ByteArray)]) ?_ 0 _ rfl;(with_reducible repeat (first | refine zd ?_ _ | refine zf ?_ | refine ze ?_ _));exact BK371.out) Try.underlying48 rfl (by kernel_rfl)) rfl ?_;exact ⟨hHq,hCq⟩)
end Go.Proofs.Ytgdpiegkoeikiaa.Px