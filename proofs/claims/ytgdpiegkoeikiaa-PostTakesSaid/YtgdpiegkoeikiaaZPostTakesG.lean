/- Part 7 of 35 of the proof of the law PostTakes: what is proved is the statement at the end of the last part; its conditions are those of the given row. -/
import Derived.Test.YtgdpiegkoeikiaaZPostTakesE
namespace Go.Proofs.Ytgdpiegkoeikiaa.Px
open Go.RowKit Go.Proofs.YtgdpiegkoeikiaaW.PrintWords Go.Proofs.YtgdpiegkoeikiaaW.PrintLast Go.Proofs.YtgdpiegkoeikiaaW.PrintMore
attribute [local go_sem] zF zH zQ zR zy zz zG zI
set_option linter.unusedVariables false
set_option linter.unusedSimpArgs false
def zak.j0 : Nat → Int → ByteArray → Bool → Option (ByteArray × ByteArray × Int)
 | 0,_,_,_ => none
 | k + 1,x7,x8,x20 => if x20 = true then (some ((⟨#[]⟩ : ByteArray),(⟨#[]⟩ : ByteArray),4)) else (if x7 > (IntKind.u64.wrap ((x8.size : Int))) then (some ((⟨#[]⟩ : ByteArray),(⟨#[]⟩ : ByteArray),2)) else (if 0 ≤ x7 then (if x7 ≤ (x8.size : Int) then (some (x8.extract 0 (x7 : Int).toNat,x8.extract (x7 : Int).toNat x8.size,0)) else (none)) else (none)))
def zak.f (k : Nat) (a0 : ByteArray) (a1 : Int) : Option (ByteArray × ByteArray × Int) := (zC.f k a0).bind fun bt118 => (if bt118.2.2 = 0 then (if a1 < 0 then (zak.j0 k bt118.1 bt118.2.1 true) else (zak.j0 k bt118.1 bt118.2.1 (decide (bt118.1 > (IntKind.u64.wrap (a1)))))) else (some ((⟨#[]⟩ : ByteArray),(⟨#[]⟩ : ByteArray),bt118.2.2)))
set_option maxHeartbeats 8000000 in
set_option maxRecDepth 100000 in
theorem zak.calls (k : Nat) (a0 : ByteArray) (a1 : Int) (r1 : ByteArray) (r2 : ByteArray) (r3 : Int) (w : World) (h : zak.f k a0 a1 = some (r1,r2,r3)) :
  Calls Try.prog 52 #[.string a0,.int .i64 a1] w fun e w' => e = .returned (.tuple #[.string r1,.string r2,.int .i64 r3]) ∧ zax w w' := by
 have H : ((zC.f k a0).bind fun bt118 => (if bt118.2.2 = 0 then (if a1 < 0 then (zak.j0 k bt118.1 bt118.2.1 true) else (zak.j0 k bt118.1 bt118.2.1 (decide (bt118.1 > (IntKind.u64.wrap (a1)))))) else (some ((⟨#[]⟩ : ByteArray),(⟨#[]⟩ : ByteArray),bt118.2.2)))) = some (r1,r2,r3) := h
 clear h
 replace H := Option.bind_eq_some_iff.mp H
 obtain ⟨⟨t118,t119,t120⟩,A30,H⟩ := H
 replace H : (if t120 = 0 then (if a1 < 0 then (zak.j0 k t118 t119 true) else (zak.j0 k t118 t119 (decide (t118 > (IntKind.u64.wrap (a1)))))) else (some ((⟨#[]⟩ : ByteArray),(⟨#[]⟩ : ByteArray),t120))) = some (r1,r2,r3) := H
 have A3 := zc.mk A30
 clear A30
 by_cases c4 : t120 = 0
 ·rw [if_pos c4] at H
  have c4b0 : (t120 == 0) = true := beq_iff_eq.mpr c4
  have c4b1 : (t120 != 0) = false := bne_eq_false_iff_eq.mpr c4
  clear c4
  have HC5 := zc.mk H
  clear H
  go_enter Try.func52,Try.ntmps52
  go_upto_region 4 with (first | (go_at_call 53;(with_reducible refine (zC.calls k a0 t118 t119 t120 _ A3.out).mono ?_);rintro e w' ⟨rfl,⟨nd,rfl⟩⟩;(try first | exact ⟨rfl,_,World.drewN_drewN _ _ _⟩ | exact ⟨rfl,_,Eq.trans (World.drewN_drewN _ _ _) (congrArg (World.drewN _) (Nat.add_assoc _ _ _))⟩)))
  repeat (go_quiet (first | (go_at_call 53;(with_reducible refine (zC.calls k a0 t118 t119 t120 _ A3.out).mono ?_);rintro e w' ⟨rfl,⟨nd,rfl⟩⟩;(try first | exact ⟨rfl,_,World.drewN_drewN _ _ _⟩ | exact ⟨rfl,_,Eq.trans (World.drewN_drewN _ _ _) (congrArg (World.drewN _) (Nat.add_assoc _ _ _))⟩)));go_upto_region 4 with (first | (go_at_call 53;(with_reducible refine (zC.calls k a0 t118 t119 t120 _ A3.out).mono ?_);rintro e w' ⟨rfl,⟨nd,rfl⟩⟩;(try first | exact ⟨rfl,_,World.drewN_drewN _ _ _⟩ | exact ⟨rfl,_,Eq.trans (World.drewN_drewN _ _ _) (congrArg (World.drewN _) (Nat.add_assoc _ _ _))⟩))))
  (try simp only [Act.put,List.setIfInBounds_toArray,List.set_cons_zero,List.set_cons_succ])
  go_cut [20] (fun v20 wc => ∃ (kq : Nat) (x20_4 : Bool),v20 = .bool x20_4 ∧ zc (zak.j0 kq t118 t119 x20_4 = some (r1,r2,r3)) ∧ zc (kq ≤ k) ∧ zax w wc)
  case first =>
   have H := HC5.out
   clear HC5
   by_cases c6 : a1 < 0
   ·rw [if_pos c6] at H
    have c6b0 : decide (a1 < 0) = true := decide_eq_true c6
    clear c6
    (first | rw [c6b0] | (simp only [zan,zaq];rw [c6b0]) | skip)
    have H' := zc.mk H
    clear H
    go_wp2
    repeat (go_quiet (fail);try go_wp2)
    go_meet
    case rel => exact ⟨_,(true),(hDq),H',⟨by first | omega | exact Nat.le_refl _⟩,hEq⟩
   ·rw [if_neg c6] at H
    have c6b0 : decide (a1 < 0) = false := decide_eq_false c6
    clear c6
    (first | rw [c6b0] | (simp only [zan,zaq];rw [c6b0]) | skip)
    have H' := zc.mk H
    clear H
    go_wp2
    repeat (go_quiet (fail);try go_wp2)
    go_meet
    case rel => exact ⟨_,(decide (t118 > (IntKind.u64.wrap (a1)))),(hDq),H',⟨by first | omega | exact Nat.le_refl _⟩,hEq⟩
  case rest =>
   clear HC5
   try clear p2
   try clear c4
   try clear c4b0
   try clear c4b1
   try clear c5
   try clear c6
   try clear c6b0
   obtain ⟨kq,x20_4,rfl,HA,HJ4,⟨mc4,rfl⟩⟩ := hcut
   cases kq with
   | zero => exact absurd HA.out (by simp [zak.j0])
   | succ kj4 =>
    have H := HA.out
    clear HA
    simp only [zak.j0] at H
    by_cases c7 : x20_4 = true
    ·subst c7
     have H1 : (some ((⟨#[]⟩ : ByteArray),(⟨#[]⟩ : ByteArray),4)) = some (r1,r2,r3) := by rw [if_pos rfl] at H;exact H
     clear H
     have H := H1
     clear H1
     simp only [Option.some.injEq,Prod.mk.injEq] at H
     obtain ⟨rfl,rfl,rfl⟩ := H
     go_wp2
     repeat (go_quiet (fail);try go_wp2)
     go_ret3
     exact ⟨hDq,hEq⟩
    ·replace c7 := Bool.eq_false_iff.mpr c7
     subst c7
     have H1 : (if t118 > (IntKind.u64.wrap ((t119.size : Int))) then (some ((⟨#[]⟩ : ByteArray),(⟨#[]⟩ : ByteArray),2)) else (if 0 ≤ t118 then (if t118 ≤ (t119.size : Int) then (some (t119.extract 0 (t118 : Int).toNat,t119.extract (t118 : Int).toNat t119.size,0)) else (none)) else (none))) = some (r1,r2,r3) := by rw [if_neg (show ¬ (false = true) by decide)] at H;exact H
     clear H
     have H := H1
     clear H1
     by_cases c8 : t118 > (IntKind.u64.wrap ((t119.size : Int)))
     ·rw [if_pos c8] at H
      have c8b0 : decide ((IntKind.u64.wrap ((t119.size : Int))) < t118) = true := decide_eq_true c8
      clear c8
      simp only [Option.some.injEq,Prod.mk.injEq] at H
      obtain ⟨rfl,rfl,rfl⟩ := H
      go_wp2
      repeat (go_quiet (fail);try go_wp2)
      go_ret3
      exact ⟨hDq,hEq⟩
     ·rw [if_neg c8] at H
      have c8b0 : decide ((IntKind.u64.wrap ((t119.size : Int))) < t118) = false := decide_eq_false c8
      clear c8
      by_cases c9 : 0 ≤ t118
      ·rw [if_pos c9] at H
       have c9b0 := eq_true c9
       have c9b1 : decide (0 ≤ t118) = true := decide_eq_true c9
       clear c9
       by_cases c10 : t118 ≤ (t119.size : Int)
       ·rw [if_pos c10] at H
        have c10b0 := eq_true c10
        have c10b1 : decide (t118 ≤ (t119.size : Int)) = true := decide_eq_true c10
        clear c10
        have c11b0 := eq_true (hFq : 0 ≤ t118)
        have c12b0 := eq_true (hFq : t118 ≤ (t119.size : Int))
        simp only [Option.some.injEq,Prod.mk.injEq] at H
        obtain ⟨rfl,rfl,rfl⟩ := H
        go_wp2
        repeat (go_quiet (fail);try go_wp2)
        go_ret3
        exact ⟨hDq,hEq⟩
       ·rw [if_neg c10] at H
        exact absurd H (by simp)
      ·rw [if_neg c9] at H
       exact absurd H (by simp)
 ·rw [if_neg c4] at H
  have c4b0 : (t120 == 0) = false := beq_eq_false_iff_ne.mpr c4
  have c4b1 : (t120 != 0) = true := bne_iff_ne.mpr c4
  simp only [Option.some.injEq,Prod.mk.injEq] at H
  obtain ⟨rfl,rfl,rfl⟩ := H
  go_enter Try.func52,Try.ntmps52
  go_wp2_with (first | (go_at_call 53;(with_reducible refine (zC.calls k a0 t118 t119 t120 _ A3.out).mono ?_);rintro e w' ⟨rfl,⟨nd,rfl⟩⟩;(try first | exact ⟨rfl,_,World.drewN_drewN _ _ _⟩ | exact ⟨rfl,_,Eq.trans (World.drewN_drewN _ _ _) (congrArg (World.drewN _) (Nat.add_assoc _ _ _))⟩)))
  repeat (go_quiet (first | (go_at_call 53;(with_reducible refine (zC.calls k a0 t118 t119 t120 _ A3.out).mono ?_);rintro e w' ⟨rfl,⟨nd,rfl⟩⟩;(try first | exact ⟨rfl,_,World.drewN_drewN _ _ _⟩ | exact ⟨rfl,_,Eq.trans (World.drewN_drewN _ _ _) (congrArg (World.drewN _) (Nat.add_assoc _ _ _))⟩)));try go_wp2_with (first | (go_at_call 53;(with_reducible refine (zC.calls k a0 t118 t119 t120 _ A3.out).mono ?_);rintro e w' ⟨rfl,⟨nd,rfl⟩⟩;(try first | exact ⟨rfl,_,World.drewN_drewN _ _ _⟩ | exact ⟨rfl,_,Eq.trans (World.drewN_drewN _ _ _) (congrArg (World.drewN _) (Nat.add_assoc _ _ _))⟩))))
  go_ret3
  exact ⟨hDq,hEq⟩
def zW.j0 : Nat → Int → ByteArray → Bool → Option (ByteArray × ByteArray × Int)
 | 0,_,_,_ => none
 | k + 1,x7,x8,x26 => if x26 = true then (some ((⟨#[]⟩ : ByteArray),(⟨#[]⟩ : ByteArray),4)) else (if x7 > (IntKind.u64.wrap ((x8.size : Int))) then (some ((⟨#[]⟩ : ByteArray),(⟨#[]⟩ : ByteArray),2)) else (if 0 ≤ x7 then (if x7 ≤ (x8.size : Int) then (some (x8.extract 0 (x7 : Int).toNat,x8.extract (x7 : Int).toNat x8.size,0)) else (none)) else (none)))
def zW.f (k : Nat) (a0 : ByteArray) (a1 : Int) : Option (ByteArray × ByteArray × Int) := (zp.f k a0).bind fun bt176 => (if bt176.2.2 = 0 then (if a1 < 0 then (zW.j0 k bt176.1 bt176.2.1 true) else (zW.j0 k bt176.1 bt176.2.1 (decide (bt176.1 > (IntKind.u64.wrap (a1)))))) else (some ((⟨#[]⟩ : ByteArray),(⟨#[]⟩ : ByteArray),bt176.2.2)))
set_option maxHeartbeats 8000000 in
set_option maxRecDepth 100000 in
theorem zW.calls (k : Nat) (a0 : ByteArray) (a1 : Int) (r1 : ByteArray) (r2 : ByteArray) (r3 : Int) (w : World) (h : zW.f k a0 a1 = some (r1,r2,r3)) :
  Calls Try.prog 65 #[.string a0,.int .i64 a1] w fun e w' => e = .returned (.tuple #[.string r1,.string r2,.int .i64 r3]) ∧ zax w w' := by
 have H : ((zp.f k a0).bind fun bt176 => (if bt176.2.2 = 0 then (if a1 < 0 then (zW.j0 k bt176.1 bt176.2.1 true) else (zW.j0 k bt176.1 bt176.2.1 (decide (bt176.1 > (IntKind.u64.wrap (a1)))))) else (some ((⟨#[]⟩ : ByteArray),(⟨#[]⟩ : ByteArray),bt176.2.2)))) = some (r1,r2,r3) := h
 clear h
 replace H := Option.bind_eq_some_iff.mp H
 obtain ⟨⟨t176,t177,t178⟩,A30,H⟩ := H
 replace H : (if t178 = 0 then (if a1 < 0 then (zW.j0 k t176 t177 true) else (zW.j0 k t176 t177 (decide (t176 > (IntKind.u64.wrap (a1)))))) else (some ((⟨#[]⟩ : ByteArray),(⟨#[]⟩ : ByteArray),t178))) = some (r1,r2,r3) := H
 have A3 := zc.mk A30
 clear A30
 by_cases c4 : t178 = 0
 ·rw [if_pos c4] at H
  have c4b0 : (t178 == 0) = true := beq_iff_eq.mpr c4
  have c4b1 : (t178 != 0) = false := bne_eq_false_iff_eq.mpr c4
  clear c4
  have HC5 := zc.mk H
  clear H
  go_enter Try.func65,Try.ntmps65
  go_upto_region 4 with (first | (go_at_call 60;(with_reducible refine (zp.calls k a0 t176 t177 t178 _ A3.out).mono ?_);rintro e w' ⟨rfl,⟨nd,rfl⟩⟩;(try first | exact ⟨rfl,_,World.drewN_drewN _ _ _⟩ | exact ⟨rfl,_,Eq.trans (World.drewN_drewN _ _ _) (congrArg (World.drewN _) (Nat.add_assoc _ _ _))⟩)))
  repeat (go_quiet (first | (go_at_call 60;(with_reducible refine (zp.calls k a0 t176 t177 t178 _ A3.out).mono ?_);rintro e w' ⟨rfl,⟨nd,rfl⟩⟩;(try first | exact ⟨rfl,_,World.drewN_drewN _ _ _⟩ | exact ⟨rfl,_,Eq.trans (World.drewN_drewN _ _ _) (congrArg (World.drewN _) (Nat.add_assoc _ _ _))⟩)));go_upto_region 4 with (first | (go_at_call 60;(with_reducible refine (zp.calls k a0 t176 t177 t178 _ A3.out).mono ?_);rintro e w' ⟨rfl,⟨nd,rfl⟩⟩;(try first | exact ⟨rfl,_,World.drewN_drewN _ _ _⟩ | exact ⟨rfl,_,Eq.trans (World.drewN_drewN _ _ _) (congrArg (World.drewN _) (Nat.add_assoc _ _ _))⟩))))
  (try simp only [Act.put,List.setIfInBounds_toArray,List.set_cons_zero,List.set_cons_succ])
  go_cut [26] (fun v26 wc => ∃ (kq : Nat) (x26_4 : Bool),v26 = .bool x26_4 ∧ zc (zW.j0 kq t176 t177 x26_4 = some (r1,r2,r3)) ∧ zc (kq ≤ k) ∧ zax w wc)
  case first =>
   have H := HC5.out
   clear HC5
   by_cases c6 : a1 < 0
   ·rw [if_pos c6] at H
    have c6b0 : decide (a1 < 0) = true := decide_eq_true c6
    clear c6
    (first | rw [c6b0] | (simp only [zan,zaq];rw [c6b0]) | skip)
    have H' := zc.mk H
    clear H
    go_wp2
    repeat (go_quiet (fail);try go_wp2)
    go_meet
    case rel => exact ⟨_,(true),(hDq),H',⟨by first | omega | exact Nat.le_refl _⟩,hEq⟩
   ·rw [if_neg c6] at H
    have c6b0 : decide (a1 < 0) = false := decide_eq_false c6
    clear c6
    (first | rw [c6b0] | (simp only [zan,zaq];rw [c6b0]) | skip)
    have H' := zc.mk H
    clear H
    go_wp2
    repeat (go_quiet (fail);try go_wp2)
    go_meet
    case rel => exact ⟨_,(decide (t176 > (IntKind.u64.wrap (a1)))),(hDq),H',⟨by first | omega | exact Nat.le_refl _⟩,hEq⟩
  case rest =>
   clear HC5
   try clear p2
   try clear c4
   try clear c4b0
   try clear c4b1
   try clear c6
   try clear c6b0
   obtain ⟨kq,x26_4,rfl,HA,HJ4,⟨mc4,rfl⟩⟩ := hcut
   cases kq with
   | zero => exact absurd HA.out (by simp [zW.j0])
   | succ kj4 =>
    have H := HA.out
    clear HA
    simp only [zW.j0] at H
    by_cases c7 : x26_4 = true
    ·subst c7
     have H1 : (some ((⟨#[]⟩ : ByteArray),(⟨#[]⟩ : ByteArray),4)) = some (r1,r2,r3) := by rw [if_pos rfl] at H;exact H
     clear H
     have H := H1
     clear H1
     simp only [Option.some.injEq,Prod.mk.injEq] at H
     obtain ⟨rfl,rfl,rfl⟩ := H
     go_wp2
     repeat (go_quiet (fail);try go_wp2)
     go_ret3
     exact ⟨hDq,hEq⟩
    ·replace c7 := Bool.eq_false_iff.mpr c7
     subst c7
     have H1 : (if t176 > (IntKind.u64.wrap ((t177.size : Int))) then (some ((⟨#[]⟩ : ByteArray),(⟨#[]⟩ : ByteArray),2)) else (if 0 ≤ t176 then (if t176 ≤ (t177.size : Int) then (some (t177.extract 0 (t176 : Int).toNat,t177.extract (t176 : Int).toNat t177.size,0)) else (none)) else (none))) = some (r1,r2,r3) := by rw [if_neg (show ¬ (false = true) by decide)] at H;exact H
     clear H
     have H := H1
     clear H1
     by_cases c8 : t176 > (IntKind.u64.wrap ((t177.size : Int)))
     ·rw [if_pos c8] at H
      have c8b0 : decide ((IntKind.u64.wrap ((t177.size : Int))) < t176) = true := decide_eq_true c8
      clear c8
      simp only [Option.some.injEq,Prod.mk.injEq] at H
      obtain ⟨rfl,rfl,rfl⟩ := H
      go_wp2
      repeat (go_quiet (fail);try go_wp2)
      go_ret3
      exact ⟨hDq,hEq⟩
     ·rw [if_neg c8] at H
      have c8b0 : decide ((IntKind.u64.wrap ((t177.size : Int))) < t176) = false := decide_eq_false c8
      clear c8
      by_cases c9 : 0 ≤ t176
      ·rw [if_pos c9] at H
       have c9b0 := eq_true c9
       have c9b1 : decide (0 ≤ t176) = true := decide_eq_true c9
       clear c9
       by_cases c10 : t176 ≤ (t177.size : Int)
       ·rw [if_pos c10] at H
        have c10b0 := eq_true c10
        have c10b1 : decide (t176 ≤ (t177.size : Int)) = true := decide_eq_true c10
        clear c10
        have c11b0 := eq_true (hFq : 0 ≤ t176)
        have c12b0 := eq_true (hFq : t176 ≤ (t177.size : Int))
        simp only [Option.some.injEq,Prod.mk.injEq] at H
        obtain ⟨rfl,rfl,rfl⟩ := H
        go_wp2
        repeat (go_quiet (fail);try go_wp2)
        go_ret3
        exact ⟨hDq,hEq⟩
       ·rw [if_neg c10] at H
        exact absurd H (by simp)
      ·rw [if_neg c9] at H
       exact absurd H (by simp)
 ·rw [if_neg c4] at H
  have c4b0 : (t178 == 0) = false := beq_eq_false_iff_ne.mpr c4
  have c4b1 : (t178 != 0) = true := bne_iff_ne.mpr c4
  simp only [Option.some.injEq,Prod.mk.injEq] at H
  obtain ⟨rfl,rfl,rfl⟩ := H
  go_enter Try.func65,Try.ntmps65
  go_wp2_with (first | (go_at_call 60;(with_reducible refine (zp.calls k a0 t176 t177 t178 _ A3.out).mono ?_);rintro e w' ⟨rfl,⟨nd,rfl⟩⟩;(try first | exact ⟨rfl,_,World.drewN_drewN _ _ _⟩ | exact ⟨rfl,_,Eq.trans (World.drewN_drewN _ _ _) (congrArg (World.drewN _) (Nat.add_assoc _ _ _))⟩)))
  repeat (go_quiet (first | (go_at_call 60;(with_reducible refine (zp.calls k a0 t176 t177 t178 _ A3.out).mono ?_);rintro e w' ⟨rfl,⟨nd,rfl⟩⟩;(try first | exact ⟨rfl,_,World.drewN_drewN _ _ _⟩ | exact ⟨rfl,_,Eq.trans (World.drewN_drewN _ _ _) (congrArg (World.drewN _) (Nat.add_assoc _ _ _))⟩)));try go_wp2_with (first | (go_at_call 60;(with_reducible refine (zp.calls k a0 t176 t177 t178 _ A3.out).mono ?_);rintro e w' ⟨rfl,⟨nd,rfl⟩⟩;(try first | exact ⟨rfl,_,World.drewN_drewN _ _ _⟩ | exact ⟨rfl,_,Eq.trans (World.drewN_drewN _ _ _) (congrArg (World.drewN _) (Nat.add_assoc _ _ _))⟩))))
  go_ret3
  exact ⟨hDq,hEq⟩
def za3 (v : Nat) (r : Bs) (most : Int) : Bs × Bs × Int :=
 if most < 0 ∨ most < (v : Int) then ([],[],4) else if r.length < v then ([],[],2) else (r.take v,r.drop v,0)
def zb4 (q : Nat × Bs × Int) (most : Int) : Bs × Bs × Int := if q.2.2 = 0 then za3 q.1 q.2.1 most else ([],[],q.2.2)
def zaB (s : Bs) (most : Int) : Bs × Bs × Int := zb4 (zv s) most
def zaA (s : ByteArray) (most : Int) : ByteArray × ByteArray × Int := (toB (zaB (ofB s) most).1,toB (zaB (ofB s) most).2.1,(zaB (ofB s) most).2.2)
theorem zaW (s : Bs) : (zv s).2.1.length ≤ s.length := by
 rcases s with _ | ⟨c,t⟩
 ·simp [zv]
 ·simp only [zv]
  (repeat' split) <;> simp <;> omega
theorem zaQ (s : Bs) : (zv s).1 < 18446744073709551616 := by
 rcases h : zv s with ⟨v,r,e⟩
 rcases zfU h with he | ⟨hv,_⟩
 ·subst he;exact (zbf h).2
 ·show v < _;omega
theorem zee (l : Bs) (i j : Nat) : (toB l).extract i j = toB ((l.drop i).take (j - i)) := zdp (by rw [zcp,zae,zae])
theorem zdW (v : Nat) (r : Bs) (h : ¬ r.length < v) : ((toB r).extract 0 v,(toB r).extract v (toB r).size) = (toB (r.take v),toB (r.drop v)) := by
 rw [zee,zee,zV,List.drop_zero,Nat.sub_zero,List.take_of_length_le (l := r.drop v) (by rw [List.length_drop];omega)]
theorem zel (s : ByteArray) (most : Int) (hs : s.size < 4611686018427387904) (hw : (Lit.int .i64 most).wf = true) : Ev (fun k => zak.f k s most) (zaA s most) := by
 obtain ⟨m0,m1⟩ := zfK hw
 have hv := zaQ (ofB s)
 have hl := zaW (ofB s)
 rw [zah] at hl
 refine Ev.bind (zbU s hs) ?_
 rcases hq : zv (ofB s) with ⟨v,r,e⟩
 rw [hq] at hv hl
 simp only [zbd,zaA,zaB,hq]
 simp only at hv hl
 by_cases he : e = 0
 ·subst he
  refine zw rfl ?_
  have hj : ∀ b : Bool,(b = true ↔ (most < 0 ∨ most < (v : Int))) → Ev (fun k => zak.j0 k (v : Int) (toB r) b) (toB (za3 v r most).1,toB (za3 v r most).2.1,(za3 v r most).2.2) := by
   intro b hb
   refine Ev.step (fun k => by rw [zak.j0]) ?_
   by_cases h4 : most < 0 ∨ most < (v : Int)
   ·rw [za3,if_pos h4]
    exact zw (hb.2 h4) (Ev.now _)
   ·rw [za3,if_neg h4]
    refine zO (fun h => h4 (hb.1 h)) ?_
    rw [zV,zaY (by omega) (by omega)]
    by_cases h2 : r.length < v
    ·rw [if_pos h2]
     exact zw (by omega) (Ev.now _)
    ·rw [if_neg h2]
     refine zO (by omega) (zw (by omega) (zw (by omega) ?_))
     rw [Int.toNat_natCast]
     have hx := zdW v r h2
     rw [zV] at hx
     injection hx with hx1 hx2
     rw [hx1,hx2]
     exact Ev.now _
  by_cases hm : most < 0
  ·exact zw hm (hj true (by simp [hm]))
  ·refine zO hm ?_
   rw [zaY (by omega) (by omega)]
   exact hj _ (by simp;omega)
 ·refine zO he ?_
  rw [zb4,if_neg he]
  exact Ev.now _
theorem zdi (s : ByteArray) (most : Int) (hs : s.size < 4611686018427387904) (hw : (Lit.int .i64 most).wf = true) : Ev (fun k => zW.f k s most) (zaA s most) := by
 obtain ⟨m0,m1⟩ := zfK hw
 have hv := zaQ (ofB s)
 have hl := zaW (ofB s)
 rw [zah] at hl
 refine Ev.bind (za9 s hs) ?_
 rcases hq : zv (ofB s) with ⟨v,r,e⟩
 rw [hq] at hv hl
 simp only [zbd,zaA,zaB,hq]
 simp only at hv hl
 by_cases he : e = 0
 ·subst he
  refine zw rfl ?_
  have hj : ∀ b : Bool,(b = true ↔ (most < 0 ∨ most < (v : Int))) → Ev (fun k => zW.j0 k (v : Int) (toB r) b) (toB (za3 v r most).1,toB (za3 v r most).2.1,(za3 v r most).2.2) := by
   intro b hb
   refine Ev.step (fun k => by rw [zW.j0]) ?_
   by_cases h4 : most < 0 ∨ most < (v : Int)
   ·rw [za3,if_pos h4]
    exact zw (hb.2 h4) (Ev.now _)
   ·rw [za3,if_neg h4]
    refine zO (fun h => h4 (hb.1 h)) ?_
    rw [zV,zaY (by omega) (by omega)]
    by_cases h2 : r.length < v
    ·rw [if_pos h2]
     exact zw (by omega) (Ev.now _)
    ·rw [if_neg h2]
     refine zO (by omega) (zw (by omega) (zw (by omega) ?_))
     rw [Int.toNat_natCast]
     have hx := zdW v r h2
     rw [zV] at hx
     injection hx with hx1 hx2
     rw [hx1,hx2]
     exact Ev.now _
  by_cases hm : most < 0
  ·exact zw hm (hj true (by simp [hm]))
  ·refine zO hm ?_
   rw [zaY (by omega) (by omega)]
   exact hj _ (by simp;omega)
 ·refine zO he ?_
  rw [zb4,if_neg he]
  exact Ev.now _
def zaM (most : Int) : Nat → Bs → List ByteArray → List ByteArray × Bs × Int
 | 0,s,acc => (acc,s,0)
 | n + 1,s,acc => if (zaB s most).2.2 = 0 then zaM most n (zaB s most).2.1 (acc ++ [toB (zaB s most).1]) else ([],[],(zaB s most).2.2)
def zbu (q : Nat × Bs × Int) (many most : Int) : List ByteArray × Bs × Int :=
 if q.2.2 = 0 then (if many < 0 ∨ many < (q.1 : Int) then ([],[],4) else zaM most q.1 q.2.1 []) else ([],[],q.2.2)
def zai (s : Bs) (many most : Int) : List ByteArray × Bs × Int := zbu (zv s) many most
theorem zcy {s : Bs} {most : Int} (h : (zaB s most).2.2 = 0) : (zaB s most).2.1.length < s.length := by
 unfold zaB zb4 at h ⊢
 split at h
 ·rename_i h0
  rw [if_pos h0]
  unfold za3 at h ⊢
  split at h
  ·cases h
  ·rename_i h1
   rw [if_neg h1]
   split at h
   ·cases h
   ·rename_i h2
    rw [if_neg h2]
    rcases hq : zv s with ⟨v,r,e⟩
    rw [hq] at h0
    simp only at h0
    subst h0
    obtain ⟨rfl,_⟩ := zbf hq
    simp only [List.length_drop,List.length_append,zbb,List.length_cons]
    omega
 ·rename_i h0
  exact absurd h h0
theorem zZ.take1k (s : ByteArray) (most : Int) (hs : s.size < 4611686018427387904) (hw : (Lit.int .i64 most).wf = true) : ∃ k,zak.f k s most = some ((zaA s most).1,(zaA s most).2.1,(zaA s most).2.2) := (zel s most hs hw).rounds
set_option maxRecDepth 100000 in
theorem zZ.take1 (s : ByteArray) (most : Int) (b : Nat) (w : World) (hs : s.size < 4611686018427387904) (hw : (Lit.int .i64 most).wf = true) (hc : w.cell? ⟨b,0,none⟩ = some (.int .i64 most)) :
  Calls Try.prog 86 #[.string s,.pointer (some ⟨b,0,none⟩)] w fun e w' => e = .returned (.tuple #[.string (zaA s most).1,.string (zaA s most).2.1,.int .i64 (zaA s most).2.2]) ∧ zax w w' := by
 obtain ⟨k,hk⟩ := zZ.take1k s most hs hw
 have HK := zc.mk hk
 clear hk hs hw
 generalize zaA s most = q at *
 go_enter Try.func86,Try.ntmps86
 go_wp2_with (go_at_call 52;(with_reducible refine (zak.calls _ _ _ _ _ _ _ HK.out).mono ?_);rintro e w1 ⟨rfl,hd⟩)
 go_ret3
 exact ⟨rfl,by assumption⟩
theorem zZ.info : (Try.prog.info? 9).map (fun i => (i.zero,i.size,i.bytes)) = some (some (.string ⟨#[]⟩),1,16) := by kernel_rfl
def zZ.Rel (most : Int) (w0 : World) (fin : List ByteArray × Bs × Int) (n j : Nat) (s : ByteArray) (v : Value) (wr : World) : Prop :=
 ∃ acc : List ByteArray,zaM most (n - j) (ofB s) acc = fin ∧ acc.length ≤ j ∧ (n ≤ 8796093022207 ∨ acc.length + s.size ≤ 8796093022207) ∧ s.size < 4611686018427387904 ∧ Kd.R Kd.string 9 wr w0.heap.size (fun _ => True) v acc ∧ Below w0.heap.size w0 wr
theorem zZ.Rel.step {most : Int} {w0 wr : World} {fin : List ByteArray × Bs × Int} {n j : Nat} {s : ByteArray} {v : Value} (h : zZ.Rel most w0 fin n j s v wr) (hj : j < n) (h0 : (zaA s most).2.2 = 0) :
  ∃ acc : List ByteArray,(acc.length + 1) * 16 ≤ 140737488355328 ∧ Kd.R Kd.string 9 wr w0.heap.size (fun _ => True) v acc ∧ Below w0.heap.size w0 wr ∧
   ∀ v' w',Kd.R Kd.string 9 w' w0.heap.size (fun _ => True) v' (acc ++ [(zaA s most).1]) → Below w0.heap.size w0 w' → zZ.Rel most w0 fin n (j + 1) (zaA s most).2.1 v' w' := by
 obtain ⟨acc,h1,h2,h3,h4,h5,h6⟩ := h
 have hsh := zcy (s := ofB s) (most := most) h0
 rw [zah] at hsh
 have e : n - j = (n - (j + 1)) + 1 := by omega
 have h0' : (zaB (ofB s) most).2.2 = 0 := h0
 rw [e,zaM,if_pos h0'] at h1
 have hsz : (zaA s most).2.1.size = (zaB (ofB s) most).2.1.length := by rw [zaA,zV]
 refine ⟨acc,by omega,h5,h6,fun v' w' k1 k2 => ⟨_,?_,by rw [List.length_append,List.length_singleton];omega,?_,by omega,k1,k2⟩⟩
 ·rw [show ofB (zaA s most).2.1 = (zaB (ofB s) most).2.1 by rw [zaA,zae]]
  exact h1
 ·rw [List.length_append,List.length_singleton];omega
theorem zZ.Rel.fail {most : Int} {w0 wr : World} {fin : List ByteArray × Bs × Int} {n j : Nat} {s : ByteArray} {v : Value} (h : zZ.Rel most w0 fin n j s v wr) (hj : j < n) (h0 : ¬ (zaA s most).2.2 = 0) : fin = ([],[],(zaA s most).2.2) := by
 obtain ⟨acc,h1,_⟩ := h
 have e : n - j = (n - (j + 1)) + 1 := by omega
 have h0' : ¬ (zaB (ofB s) most).2.2 = 0 := h0
 rw [e,zaM,if_neg h0'] at h1
 exact h1.symm
set_option maxRecDepth 100000 in
set_option maxHeartbeats 4000000 in
theorem zZ.several (s : ByteArray) (n : Nat) (most : Int) (b : Nat) (w : World) (hn : n < 18446744073709551616) (hs : s.size < 4611686018427387904) (hw : (Lit.int .i64 most).wf = true) (hc : w.cell? ⟨b,0,none⟩ = some (.int .i64 most)) (hroom : s.size ≤ 8796093022207 ∨ n ≤ 8796093022207) (fin : List ByteArray × Bs × Int) (hfin : zaM most n (ofB s) [] = fin) :
  Calls Try.prog 85 #[.string s,.int .u64 n,.func (.func 86) #[] #[.pointer (some ⟨b,0,none⟩)]] w fun e w' => ∃ v0_ : Value,e = .returned (.tuple #[v0_,.string (toB fin.2.1),.int .i64 fin.2.2]) ∧ Kd.R Kd.string 9 w' w.heap.size (fun _ => True) v0_ fin.1 ∧ Below w.heap.size w w' := by
 have HF : zc (zZ.Rel most w fin n 0 s (.slice none 0 0) w) := ⟨⟨[],by rw [Nat.sub_zero];exact hfin,Nat.le_refl _,by simp only [List.length_nil];omega,hs,Kd.R_nil _ _ _ _ _,Below.refl _ _⟩⟩
 have HW := zc.mk hw
 have HC := zc.mk hc
 clear hfin hroom hs hw hc
 go_enter Try.func85,Try.ntmps85
 go_wp2_with fail
 go_loopw [0,9,10,11,12,14] (fun v0 v9 _ _ _ v14 wr => ∃ (j : Nat) (s' : ByteArray),v0 = .string s' ∧ v14 = .int .u64 j ∧ j ≤ n ∧ zc (zZ.Rel most w fin n j s' v9 wr)) (fun _ _ _ _ _ v14 _ => n - (match v14 with | .int _ q => q | _ => 0).toNat)
 case atStart => exact ⟨0,s,rfl,rfl,Nat.zero_le _,HF⟩
 case round =>
  obtain ⟨j,s',rfl,rfl,hj,HR⟩ := hrel
  by_cases hlt : j < n
  ·have hb : decide (j < n) = true := decide_eq_true hlt
   have HT := zc.mk (zZ.take1 s' most b)
   obtain ⟨hs',hbel⟩ : s'.size < 4611686018427387904 ∧ Below w.heap.size w wr := by
    obtain ⟨_,_,_,_,h4,_,h6⟩ := HR.out
    exact ⟨h4,h6⟩
   have HCW := zc.mk (zcj hbel HC.out)
   have HS := zc.mk hs'
   clear hs' hbel
   by_cases h0 : (zaA s' most).2.2 = 0
   ·obtain ⟨acc,a1,a2,a3,a4⟩ := HR.out.step hlt h0
    have HL := zc.mk a1
    have HO := zc.mk a2
    have HB := zc.mk a3
    have HN := zc.mk a4
    clear a1 a2 a3 a4
    have HZ := zc.mk h0
    clear h0
    generalize zaA s' most = q at *
    obtain ⟨q1,q2,q3⟩ := q
    have hq3 := HZ.out
    simp only at hq3
    subst hq3
    simp only at HN HT
    clear HZ
    go_wp2_with (first | (go_at_call 86;(with_reducible refine (HT.out _ HS.out HW.out HCW.out).mono ?_);rintro e w1 ⟨rfl,⟨nd,rfl⟩⟩) | (at_builtin;refine Kd.R_append Kd.string (w0 := w) w.heap.size rfl (.tmp 26) (.tmp 28) 24 9 (.string ⟨#[]⟩) 16 rfl Try.underlying24 zZ.info rfl (by decide) (by omega) _ acc q1 [.string q1] (fun _ => True) (fun _ => False) rfl rfl ?aP (fun _ hk => hk.elim) ?aF ?aO ?aB ?aS ?aL ?_;(case aP => exact rfl);(case aF => exact (fun _ _ => trivial));(case aO => exact (Kd.R_drewN HO.out _));(case aB => exact (zm HB.out _));(case aS => exact (zl (zm HB.out _)));(case aL => exact HL.out);intro v3 w3 ho hb hg hat;have HX := zc.mk (HN.out _ _ ho hb);clear ho hb hg hat))
    go_roundw
    case rel => exact ⟨j + 1,q2,rfl,by go_num,by omega,HX⟩
    case measure => simp;omega
   ·have hf := HR.out.fail hlt h0
    have HB : zc (Below w.heap.size w wr) := ⟨by obtain ⟨_,_,_,_,_,_,h6⟩ := HR.out;exact h6⟩
    have hz : ((zaA s' most).2.2 == 0) = false := beq_eq_false_iff_ne.2 h0
    have hz2 : ((zaA s' most).2.2 != 0) = true := by rw [bne,hz];rfl
    clear h0
    have HF2 := zc.mk hf
    clear hf HF
    generalize zaA s' most = q at *
    obtain ⟨q1,q2,q3⟩ := q
    simp only at hz hz2 HF2 HT
    go_wp2_with (go_at_call 86;(with_reducible refine (HT.out _ HS.out HW.out HCW.out).mono ?_);rintro e w1 ⟨rfl,⟨nd,rfl⟩⟩)
    go_ret3
    rw [HF2.out]
    exact ⟨_,rfl,Kd.R_nil _ _ _ _ _,zm HB.out _⟩
  ·obtain rfl : j = n := by omega
   obtain ⟨acc,h1,_,_,_,h5,h6⟩ := HR.out
   rw [Nat.sub_self,zaM] at h1
   have H1 := zc.mk h1
   have H5 := zc.mk h5
   have H6 := zc.mk h6
   clear h1 h5 h6 hlt HF HR
   go_wp2_with fail
   go_ret3
   rw [← H1.out]
   exact ⟨_,by simp only [zcl];rfl,H5.out,H6.out⟩
def zZ.f (a0 : ByteArray) (a1 : Int) (a2 : Int) : Option (List ByteArray × ByteArray × Int) :=
 if (Lit.int .i64 a1).wf = true ∧ (Lit.int .i64 a2).wf = true ∧ a0.size < 4611686018427387904 ∧ (a0.size ≤ 8796093022207 ∨ a1 ≤ 8796093022207) then some ((zai (ofB a0) a1 a2).1,toB (zai (ofB a0) a1 a2).2.1,(zai (ofB a0) a1 a2).2.2) else none
set_option maxHeartbeats 4000000 in
set_option maxRecDepth 100000 in
theorem zZ.walk (a0 : ByteArray) (a1 : Int) (a2 : Int) (w : World) (h1 : (Lit.int .i64 a1).wf = true) (h2 : (Lit.int .i64 a2).wf = true) (hs : a0.size < 4611686018427387904) (hroom : a0.size ≤ 8796093022207 ∨ a1 ≤ 8796093022207) (fin : List ByteArray × Bs × Int) (hfin : zai (ofB a0) a1 a2 = fin) :
  Calls Try.prog 57 #[.string a0,.int .i64 a1,.int .i64 a2] w fun e w' => ∃ v0_ : Value,e = .returned (.tuple #[v0_,.string (toB fin.2.1),.int .i64 fin.2.2]) ∧ Kd.R Kd.string 9 w' w.heap.size (fun _ => True) v0_ fin.1 ∧ Below w.heap.size w w' := by
 obtain ⟨m0,m1⟩ := zfK h1
 obtain ⟨k,hk⟩ := (zbU a0 hs).rounds
 have hv := zaQ (ofB a0)
 have hl := zaW (ofB a0)
 rw [zah] at hl
 rcases hq : zv (ofB a0) with ⟨v,r,e⟩
 rw [zai,hq] at hfin
 rw [hq] at hv hl
 simp only [zbd,hq] at hk
 simp only at hv hl
 have HK := zc.mk hk
 have H2 := zc.mk h2
 have HF := zc.mk hfin
 have HR := zc.mk hroom
 have HL := zc.mk hl
 clear hk h1 h2 hfin hroom hl hq
 by_cases he : e = 0
 ·subst he
  by_cases h4 : a1 < 0 ∨ a1 < (v : Int)
  ·have hf := HF.out
   rw [zbu,if_pos rfl,if_pos h4] at hf
   have HF2 := zc.mk hf
   clear hf HF
   by_cases hneg : a1 < 0
   ·have hb : decide (a1 < 0) = true := decide_eq_true hneg
    clear h4
    go_enter Try.func57,Try.ntmps57
    go_wp2_with (go_at_call 53;(with_reducible refine (zC.calls _ _ _ _ _ _ HK.out).mono ?_);rintro e w1 ⟨rfl,⟨nd,rfl⟩⟩)
    go_ret3
    rw [← HF2.out]
    exact ⟨_,rfl,Kd.R_nil _ _ _ _ _,zm ((Below.refl _ _).alloc (Nat.le_refl _) _) _⟩
   ·have hb : decide (a1 < 0) = false := decide_eq_false hneg
    have hpos : 0 ≤ a1 := by omega
    have hlt : a1 < (v : Int) := by omega
    have hb2 : decide (a1 < (v : Int)) = true := decide_eq_true hlt
    clear h4 hneg
    go_enter Try.func57,Try.ntmps57
    go_wp2_with (go_at_call 53;(with_reducible refine (zC.calls _ _ _ _ _ _ HK.out).mono ?_);rintro e w1 ⟨rfl,⟨nd,rfl⟩⟩)
    go_ret3
    rw [← HF2.out]
    exact ⟨_,rfl,Kd.R_nil _ _ _ _ _,zm ((Below.refl _ _).alloc (Nat.le_refl _) _) _⟩
  ·have hf := HF.out
   rw [zbu,if_pos rfl,if_neg h4] at hf
   have HF2 := zc.mk hf
   clear hf HF
   have hpos : 0 ≤ a1 := by omega
   have hge : (v : Int) ≤ a1 := by omega
   have hb : decide (a1 < 0) = false := decide_eq_false (by omega)
   have hb2 : decide (a1 < (v : Int)) = false := decide_eq_false (by omega)
   have HV := zc.mk hv
   have HS := zc.mk hs
   have HG := zc.mk hge
   clear h4 hge hv hs
   go_enter Try.func57,Try.ntmps57
   go_wp2_with (first | (go_at_call 53;(with_reducible refine (zC.calls _ _ _ _ _ _ HK.out).mono ?_);rintro e w1 ⟨rfl,⟨nd,rfl⟩⟩) | (go_at_call 85;refine (zZ.several (toB r) v a2 w.heap.size _ HV.out (by rw [zV];have := HL.out;have := HS.out;omega) H2.out (by simp [World.cell?_alloc_new]) (by rw [zV];have := HL.out;have := HR.out;have := HG.out;omega) fin (by rw [zae];exact HF2.out)).mono ?_;rintro e w2 ⟨v0,rfl,hR,hB⟩))
   go_ret3
   have hW : Below w.heap.size w ((w.alloc (.cells #[.int .i64 a2] 3)).drewN nd) := zm ((Below.refl _ _).alloc (Nat.le_refl _) _) _
   exact ⟨_,rfl,Kd.R_lower hR hW.size,zj hW hB⟩
 ·have hf := HF.out
  rw [zbu,if_neg he] at hf
  have HF2 := zc.mk hf
  have hz : (e == 0) = false := beq_eq_false_iff_ne.2 he
  have hz2 : (e != 0) = true := by rw [bne,hz];rfl
  clear hf HF he
  go_enter Try.func57,Try.ntmps57
  go_wp2_with (go_at_call 53;(with_reducible refine (zC.calls _ _ _ _ _ _ HK.out).mono ?_);rintro e w1 ⟨rfl,⟨nd,rfl⟩⟩)
  go_ret3
  rw [← HF2.out]
  exact ⟨_,rfl,Kd.R_nil _ _ _ _ _,zm ((Below.refl _ _).alloc (Nat.le_refl _) _) _⟩
theorem zZ.calls (a0 : ByteArray) (a1 : Int) (a2 : Int) (r1 : List ByteArray) (r2 : ByteArray) (r3 : Int) (w : World) (h : zZ.f a0 a1 a2 = some (r1,r2,r3)) :
  Calls Try.prog 57 #[.string a0,.int .i64 a1,.int .i64 a2] w fun e w' => ∃ v0_ : Value,e = .returned (.tuple #[v0_,.string r2,.int .i64 r3]) ∧ Kd.R Kd.string 9 w' w.heap.size (fun _ => True) v0_ r1 ∧ Below w.heap.size w w' := by
 unfold zZ.f at h
 split at h
 ·rename_i hc
  obtain ⟨h1,h2,h3,h4⟩ := hc
  simp only [Option.some.injEq,Prod.mk.injEq] at h
  obtain ⟨rfl,rfl,rfl⟩ := h
  exact zZ.walk a0 a1 a2 w h1 h2 h3 h4 _ rfl
 ·cases h
end Go.Proofs.Ytgdpiegkoeikiaa.Px