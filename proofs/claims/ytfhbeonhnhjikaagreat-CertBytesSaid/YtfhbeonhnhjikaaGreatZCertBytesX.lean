/- Part 24 of 35 of the proof of the law CertBytes: what is proved is the statement at the end of the last part; its conditions are those of the given row. -/
import Derived.Test.YtfhbeonhnhjikaaGreatZCertBytesW
namespace Go.Proofs.YtfhbeonhnhjikaaGreat.Px
open Go.RowKit Go.Proofs.YtfhbeonhnhjikaaGreatW.PrintWords Go.Proofs.YtfhbeonhnhjikaaGreatW.PrintLast Go.Proofs.YtfhbeonhnhjikaaGreatW.PrintMore
attribute [local go_sem] zz zB zI zJ zp zq zA zC
set_option linter.unusedVariables false
set_option linter.unusedSimpArgs false
def zY.f (a0 : Int) : Option (Int) := (zax.f a0).bind fun t107 => (if t107 = true then (some (wrap64 (a0 - (wrap64 (Int.tdiv (wrap64 (a0 - 1)) 3))))) else (some 0))
set_option maxHeartbeats 8000000 in
set_option maxRecDepth 100000 in
theorem zY.calls (a0 : Int) (r : Int) (w : World) (h : zY.f a0 = some r) :
  Calls Tryz.prog 46 #[.int .i64 a0] w fun e w' => e = .returned (.int .i64 r) ∧ zaB w w' := by
 have H : ((zax.f a0).bind fun t107 => (if t107 = true then (some (wrap64 (a0 - (wrap64 (Int.tdiv (wrap64 (a0 - 1)) 3))))) else (some 0))) = some r := h
 clear h
 replace H := Option.bind_eq_some_iff.mp H
 obtain ⟨t107,A20,H⟩ := H
 replace H : (if t107 = true then (some (wrap64 (a0 - (wrap64 (Int.tdiv (wrap64 (a0 - 1)) 3))))) else (some 0)) = some r := H
 have A2 := za.mk A20
 clear A20
 by_cases c3 : t107 = true
 ·subst c3
  have H1 : (some (wrap64 (a0 - (wrap64 (Int.tdiv (wrap64 (a0 - 1)) 3))))) = some r := by rw [if_pos rfl] at H;exact H
  clear H
  have H := H1
  clear H1
  obtain rfl := Option.some.inj H
  go_enter Tryz.func46,Tryz.ntmps46
  go_wp2_with (first | ((with_reducible refine zj (f := 75) rfl ?_);refine zQ (some 5) rfl rfl Tryz.func75 (by kernel_rfl) rfl #[.int .i64 a0] rfl hMq ?_;(with_reducible refine (zax.calls a0 true _ A2.out).mono ?_);rintro e w' ⟨rfl,⟨nd,rfl⟩⟩;refine ⟨_,rfl,?_⟩))
  go_ret
  exact ⟨hDq,hEq⟩
 ·replace c3 := Bool.eq_false_iff.mpr c3
  subst c3
  have H1 : (some 0) = some r := by rw [if_neg (show ¬ (false = true) by decide)] at H;exact H
  clear H
  have H := H1
  clear H1
  obtain rfl := Option.some.inj H
  go_enter Tryz.func46,Tryz.ntmps46
  go_wp2_with (first | ((with_reducible refine zj (f := 75) rfl ?_);refine zQ (some 5) rfl rfl Tryz.func75 (by kernel_rfl) rfl #[.int .i64 a0] rfl hMq ?_;(with_reducible refine (zax.calls a0 false _ A2.out).mono ?_);rintro e w' ⟨rfl,⟨nd,rfl⟩⟩;refine ⟨_,rfl,?_⟩))
  go_ret
  exact ⟨hDq,hEq⟩
def zai.f (a0 : Int) : Option (Bool) := if a0 > 0 then (some ((Int.tmod a0 3) == 0)) else (some false)
set_option maxHeartbeats 8000000 in
set_option maxRecDepth 100000 in
theorem zai.calls (a0 : Int) (r : Bool) (w : World) (h : zai.f a0 = some r) :
  Calls Tryz.prog 79 #[.int .i64 a0] w fun e w' => e = .returned (.bool r) ∧ zaB w w' := by
 have H : (if a0 > 0 then (some ((Int.tmod a0 3) == 0)) else (some false)) = some r := h
 clear h
 by_cases c2 : a0 > 0
 ·rw [if_pos c2] at H
  have c2b0 : decide (0 < a0) = true := decide_eq_true c2
  clear c2
  obtain rfl := Option.some.inj H
  go_enter Tryz.func79,Tryz.ntmps79
  go_wp2
  go_ret
  exact ⟨hDq,hEq⟩
 ·rw [if_neg c2] at H
  have c2b0 : decide (0 < a0) = false := decide_eq_false c2
  clear c2
  obtain rfl := Option.some.inj H
  go_enter Tryz.func79,Tryz.ntmps79
  go_wp2
  go_ret
  exact ⟨hDq,hEq⟩
end Go.Proofs.YtfhbeonhnhjikaaGreat.Px