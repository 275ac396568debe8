/- Part 19 of 35 of the proof of the law PostTakes: what is proved is the statement at the end of the last part; its conditions are those of the given row. -/
import Derived.Test.YtgdpiegkoeikiaaZPostTakesJ
namespace Go.Proofs.Ytgdpiegkoeikiaa.Px
open Go.RowKit Go.Proofs.YtgdpiegkoeikiaaW.PrintWords Go.Proofs.YtgdpiegkoeikiaaW.PrintLast Go.Proofs.YtgdpiegkoeikiaaW.PrintMore
attribute [local go_sem] zF zH zQ zR zy zz zG zI
set_option linter.unusedVariables false
set_option linter.unusedSimpArgs false
def zbj.f (a0 : Int) : Option (Int) := some (Go.bits .and .i64 (wrap64 (IntKind.u64.wrap ((IntKind.u64.wrap ((IntKind.u64.wrap ((Go.bits .and .u64 (IntKind.u64.wrap (((IntKind.u64.wrap ((Go.bits .and .u64 ((IntKind.u64.wrap ((Go.bits .and .u64 (a0 / 2) 6148914691236517205) + (Go.bits .and .u64 a0 6148914691236517205))) / 4) 3689348814741910323) + (Go.bits .and .u64 (IntKind.u64.wrap ((Go.bits .and .u64 (a0 / 2) 6148914691236517205) + (Go.bits .and .u64 a0 6148914691236517205))) 3689348814741910323))) / 16) + (IntKind.u64.wrap ((Go.bits .and .u64 ((IntKind.u64.wrap ((Go.bits .and .u64 (a0 / 2) 6148914691236517205) + (Go.bits .and .u64 a0 6148914691236517205))) / 4) 3689348814741910323) + (Go.bits .and .u64 (IntKind.u64.wrap ((Go.bits .and .u64 (a0 / 2) 6148914691236517205) + (Go.bits .and .u64 a0 6148914691236517205))) 3689348814741910323))))) 1085102592571150095) + ((Go.bits .and .u64 (IntKind.u64.wrap (((IntKind.u64.wrap ((Go.bits .and .u64 ((IntKind.u64.wrap ((Go.bits .and .u64 (a0 / 2) 6148914691236517205) + (Go.bits .and .u64 a0 6148914691236517205))) / 4) 3689348814741910323) + (Go.bits .and .u64 (IntKind.u64.wrap ((Go.bits .and .u64 (a0 / 2) 6148914691236517205) + (Go.bits .and .u64 a0 6148914691236517205))) 3689348814741910323))) / 16) + (IntKind.u64.wrap ((Go.bits .and .u64 ((IntKind.u64.wrap ((Go.bits .and .u64 (a0 / 2) 6148914691236517205) + (Go.bits .and .u64 a0 6148914691236517205))) / 4) 3689348814741910323) + (Go.bits .and .u64 (IntKind.u64.wrap ((Go.bits .and .u64 (a0 / 2) 6148914691236517205) + (Go.bits .and .u64 a0 6148914691236517205))) 3689348814741910323))))) 1085102592571150095) / 256))) + ((IntKind.u64.wrap ((Go.bits .and .u64 (IntKind.u64.wrap (((IntKind.u64.wrap ((Go.bits .and .u64 ((IntKind.u64.wrap ((Go.bits .and .u64 (a0 / 2) 6148914691236517205) + (Go.bits .and .u64 a0 6148914691236517205))) / 4) 3689348814741910323) + (Go.bits .and .u64 (IntKind.u64.wrap ((Go.bits .and .u64 (a0 / 2) 6148914691236517205) + (Go.bits .and .u64 a0 6148914691236517205))) 3689348814741910323))) / 16) + (IntKind.u64.wrap ((Go.bits .and .u64 ((IntKind.u64.wrap ((Go.bits .and .u64 (a0 / 2) 6148914691236517205) + (Go.bits .and .u64 a0 6148914691236517205))) / 4) 3689348814741910323) + (Go.bits .and .u64 (IntKind.u64.wrap ((Go.bits .and .u64 (a0 / 2) 6148914691236517205) + (Go.bits .and .u64 a0 6148914691236517205))) 3689348814741910323))))) 1085102592571150095) + ((Go.bits .and .u64 (IntKind.u64.wrap (((IntKind.u64.wrap ((Go.bits .and .u64 ((IntKind.u64.wrap ((Go.bits .and .u64 (a0 / 2) 6148914691236517205) + (Go.bits .and .u64 a0 6148914691236517205))) / 4) 3689348814741910323) + (Go.bits .and .u64 (IntKind.u64.wrap ((Go.bits .and .u64 (a0 / 2) 6148914691236517205) + (Go.bits .and .u64 a0 6148914691236517205))) 3689348814741910323))) / 16) + (IntKind.u64.wrap ((Go.bits .and .u64 ((IntKind.u64.wrap ((Go.bits .and .u64 (a0 / 2) 6148914691236517205) + (Go.bits .and .u64 a0 6148914691236517205))) / 4) 3689348814741910323) + (Go.bits .and .u64 (IntKind.u64.wrap ((Go.bits .and .u64 (a0 / 2) 6148914691236517205) + (Go.bits .and .u64 a0 6148914691236517205))) 3689348814741910323))))) 1085102592571150095) / 256))) / 65536))) + ((IntKind.u64.wrap ((IntKind.u64.wrap ((Go.bits .and .u64 (IntKind.u64.wrap (((IntKind.u64.wrap ((Go.bits .and .u64 ((IntKind.u64.wrap ((Go.bits .and .u64 (a0 / 2) 6148914691236517205) + (Go.bits .and .u64 a0 6148914691236517205))) / 4) 3689348814741910323) + (Go.bits .and .u64 (IntKind.u64.wrap ((Go.bits .and .u64 (a0 / 2) 6148914691236517205) + (Go.bits .and .u64 a0 6148914691236517205))) 3689348814741910323))) / 16) + (IntKind.u64.wrap ((Go.bits .and .u64 ((IntKind.u64.wrap ((Go.bits .and .u64 (a0 / 2) 6148914691236517205) + (Go.bits .and .u64 a0 6148914691236517205))) / 4) 3689348814741910323) + (Go.bits .and .u64 (IntKind.u64.wrap ((Go.bits .and .u64 (a0 / 2) 6148914691236517205) + (Go.bits .and .u64 a0 6148914691236517205))) 3689348814741910323))))) 1085102592571150095) + ((Go.bits .and .u64 (IntKind.u64.wrap (((IntKind.u64.wrap ((Go.bits .and .u64 ((IntKind.u64.wrap ((Go.bits .and .u64 (a0 / 2) 6148914691236517205) + (Go.bits .and .u64 a0 6148914691236517205))) / 4) 3689348814741910323) + (Go.bits .and .u64 (IntKind.u64.wrap ((Go.bits .and .u64 (a0 / 2) 6148914691236517205) + (Go.bits .and .u64 a0 6148914691236517205))) 3689348814741910323))) / 16) + (IntKind.u64.wrap ((Go.bits .and .u64 ((IntKind.u64.wrap ((Go.bits .and .u64 (a0 / 2) 6148914691236517205) + (Go.bits .and .u64 a0 6148914691236517205))) / 4) 3689348814741910323) + (Go.bits .and .u64 (IntKind.u64.wrap ((Go.bits .and .u64 (a0 / 2) 6148914691236517205) + (Go.bits .and .u64 a0 6148914691236517205))) 3689348814741910323))))) 1085102592571150095) / 256))) + ((IntKind.u64.wrap ((Go.bits .and .u64 (IntKind.u64.wrap (((IntKind.u64.wrap ((Go.bits .and .u64 ((IntKind.u64.wrap ((Go.bits .and .u64 (a0 / 2) 6148914691236517205) + (Go.bits .and .u64 a0 6148914691236517205))) / 4) 3689348814741910323) + (Go.bits .and .u64 (IntKind.u64.wrap ((Go.bits .and .u64 (a0 / 2) 6148914691236517205) + (Go.bits .and .u64 a0 6148914691236517205))) 3689348814741910323))) / 16) + (IntKind.u64.wrap ((Go.bits .and .u64 ((IntKind.u64.wrap ((Go.bits .and .u64 (a0 / 2) 6148914691236517205) + (Go.bits .and .u64 a0 6148914691236517205))) / 4) 3689348814741910323) + (Go.bits .and .u64 (IntKind.u64.wrap ((Go.bits .and .u64 (a0 / 2) 6148914691236517205) + (Go.bits .and .u64 a0 6148914691236517205))) 3689348814741910323))))) 1085102592571150095) + ((Go.bits .and .u64 (IntKind.u64.wrap (((IntKind.u64.wrap ((Go.bits .and .u64 ((IntKind.u64.wrap ((Go.bits .and .u64 (a0 / 2) 6148914691236517205) + (Go.bits .and .u64 a0 6148914691236517205))) / 4) 3689348814741910323) + (Go.bits .and .u64 (IntKind.u64.wrap ((Go.bits .and .u64 (a0 / 2) 6148914691236517205) + (Go.bits .and .u64 a0 6148914691236517205))) 3689348814741910323))) / 16) + (IntKind.u64.wrap ((Go.bits .and .u64 ((IntKind.u64.wrap ((Go.bits .and .u64 (a0 / 2) 6148914691236517205) + (Go.bits .and .u64 a0 6148914691236517205))) / 4) 3689348814741910323) + (Go.bits .and .u64 (IntKind.u64.wrap ((Go.bits .and .u64 (a0 / 2) 6148914691236517205) + (Go.bits .and .u64 a0 6148914691236517205))) 3689348814741910323))))) 1085102592571150095) / 256))) / 65536))) / 4294967296)))) 127)
set_option maxHeartbeats 8000000 in
set_option maxRecDepth 100000 in
theorem zbj.calls (a0 : Int) (r : Int) (w : World) (h : zbj.f a0 = some r) :
  Calls Try.prog 110 #[.int .u64 a0] w fun e w' => e = .returned (.int .i64 r) ∧ zax w w' := by
 have H : (some (Go.bits .and .i64 (wrap64 (IntKind.u64.wrap ((IntKind.u64.wrap ((IntKind.u64.wrap ((Go.bits .and .u64 (IntKind.u64.wrap (((IntKind.u64.wrap ((Go.bits .and .u64 ((IntKind.u64.wrap ((Go.bits .and .u64 (a0 / 2) 6148914691236517205) + (Go.bits .and .u64 a0 6148914691236517205))) / 4) 3689348814741910323) + (Go.bits .and .u64 (IntKind.u64.wrap ((Go.bits .and .u64 (a0 / 2) 6148914691236517205) + (Go.bits .and .u64 a0 6148914691236517205))) 3689348814741910323))) / 16) + (IntKind.u64.wrap ((Go.bits .and .u64 ((IntKind.u64.wrap ((Go.bits .and .u64 (a0 / 2) 6148914691236517205) + (Go.bits .and .u64 a0 6148914691236517205))) / 4) 3689348814741910323) + (Go.bits .and .u64 (IntKind.u64.wrap ((Go.bits .and .u64 (a0 / 2) 6148914691236517205) + (Go.bits .and .u64 a0 6148914691236517205))) 3689348814741910323))))) 1085102592571150095) + ((Go.bits .and .u64 (IntKind.u64.wrap (((IntKind.u64.wrap ((Go.bits .and .u64 ((IntKind.u64.wrap ((Go.bits .and .u64 (a0 / 2) 6148914691236517205) + (Go.bits .and .u64 a0 6148914691236517205))) / 4) 3689348814741910323) + (Go.bits .and .u64 (IntKind.u64.wrap ((Go.bits .and .u64 (a0 / 2) 6148914691236517205) + (Go.bits .and .u64 a0 6148914691236517205))) 3689348814741910323))) / 16) + (IntKind.u64.wrap ((Go.bits .and .u64 ((IntKind.u64.wrap ((Go.bits .and .u64 (a0 / 2) 6148914691236517205) + (Go.bits .and .u64 a0 6148914691236517205))) / 4) 3689348814741910323) + (Go.bits .and .u64 (IntKind.u64.wrap ((Go.bits .and .u64 (a0 / 2) 6148914691236517205) + (Go.bits .and .u64 a0 6148914691236517205))) 3689348814741910323))))) 1085102592571150095) / 256))) + ((IntKind.u64.wrap ((Go.bits .and .u64 (IntKind.u64.wrap (((IntKind.u64.wrap ((Go.bits .and .u64 ((IntKind.u64.wrap ((Go.bits .and .u64 (a0 / 2) 6148914691236517205) + (Go.bits .and .u64 a0 6148914691236517205))) / 4) 3689348814741910323) + (Go.bits .and .u64 (IntKind.u64.wrap ((Go.bits .and .u64 (a0 / 2) 6148914691236517205) + (Go.bits .and .u64 a0 6148914691236517205))) 3689348814741910323))) / 16) + (IntKind.u64.wrap ((Go.bits .and .u64 ((IntKind.u64.wrap ((Go.bits .and .u64 (a0 / 2) 6148914691236517205) + (Go.bits .and .u64 a0 6148914691236517205))) / 4) 3689348814741910323) + (Go.bits .and .u64 (IntKind.u64.wrap ((Go.bits .and .u64 (a0 / 2) 6148914691236517205) + (Go.bits .and .u64 a0 6148914691236517205))) 3689348814741910323))))) 1085102592571150095) + ((Go.bits .and .u64 (IntKind.u64.wrap (((IntKind.u64.wrap ((Go.bits .and .u64 ((IntKind.u64.wrap ((Go.bits .and .u64 (a0 / 2) 6148914691236517205) + (Go.bits .and .u64 a0 6148914691236517205))) / 4) 3689348814741910323) + (Go.bits .and .u64 (IntKind.u64.wrap ((Go.bits .and .u64 (a0 / 2) 6148914691236517205) + (Go.bits .and .u64 a0 6148914691236517205))) 3689348814741910323))) / 16) + (IntKind.u64.wrap ((Go.bits .and .u64 ((IntKind.u64.wrap ((Go.bits .and .u64 (a0 / 2) 6148914691236517205) + (Go.bits .and .u64 a0 6148914691236517205))) / 4) 3689348814741910323) + (Go.bits .and .u64 (IntKind.u64.wrap ((Go.bits .and .u64 (a0 / 2) 6148914691236517205) + (Go.bits .and .u64 a0 6148914691236517205))) 3689348814741910323))))) 1085102592571150095) / 256))) / 65536))) + ((IntKind.u64.wrap ((IntKind.u64.wrap ((Go.bits .and .u64 (IntKind.u64.wrap (((IntKind.u64.wrap ((Go.bits .and .u64 ((IntKind.u64.wrap ((Go.bits .and .u64 (a0 / 2) 6148914691236517205) + (Go.bits .and .u64 a0 6148914691236517205))) / 4) 3689348814741910323) + (Go.bits .and .u64 (IntKind.u64.wrap ((Go.bits .and .u64 (a0 / 2) 6148914691236517205) + (Go.bits .and .u64 a0 6148914691236517205))) 3689348814741910323))) / 16) + (IntKind.u64.wrap ((Go.bits .and .u64 ((IntKind.u64.wrap ((Go.bits .and .u64 (a0 / 2) 6148914691236517205) + (Go.bits .and .u64 a0 6148914691236517205))) / 4) 3689348814741910323) + (Go.bits .and .u64 (IntKind.u64.wrap ((Go.bits .and .u64 (a0 / 2) 6148914691236517205) + (Go.bits .and .u64 a0 6148914691236517205))) 3689348814741910323))))) 1085102592571150095) + ((Go.bits .and .u64 (IntKind.u64.wrap (((IntKind.u64.wrap ((Go.bits .and .u64 ((IntKind.u64.wrap ((Go.bits .and .u64 (a0 / 2) 6148914691236517205) + (Go.bits .and .u64 a0 6148914691236517205))) / 4) 3689348814741910323) + (Go.bits .and .u64 (IntKind.u64.wrap ((Go.bits .and .u64 (a0 / 2) 6148914691236517205) + (Go.bits .and .u64 a0 6148914691236517205))) 3689348814741910323))) / 16) + (IntKind.u64.wrap ((Go.bits .and .u64 ((IntKind.u64.wrap ((Go.bits .and .u64 (a0 / 2) 6148914691236517205) + (Go.bits .and .u64 a0 6148914691236517205))) / 4) 3689348814741910323) + (Go.bits .and .u64 (IntKind.u64.wrap ((Go.bits .and .u64 (a0 / 2) 6148914691236517205) + (Go.bits .and .u64 a0 6148914691236517205))) 3689348814741910323))))) 1085102592571150095) / 256))) + ((IntKind.u64.wrap ((Go.bits .and .u64 (IntKind.u64.wrap (((IntKind.u64.wrap ((Go.bits .and .u64 ((IntKind.u64.wrap ((Go.bits .and .u64 (a0 / 2) 6148914691236517205) + (Go.bits .and .u64 a0 6148914691236517205))) / 4) 3689348814741910323) + (Go.bits .and .u64 (IntKind.u64.wrap ((Go.bits .and .u64 (a0 / 2) 6148914691236517205) + (Go.bits .and .u64 a0 6148914691236517205))) 3689348814741910323))) / 16) + (IntKind.u64.wrap ((Go.bits .and .u64 ((IntKind.u64.wrap ((Go.bits .and .u64 (a0 / 2) 6148914691236517205) + (Go.bits .and .u64 a0 6148914691236517205))) / 4) 3689348814741910323) + (Go.bits .and .u64 (IntKind.u64.wrap ((Go.bits .and .u64 (a0 / 2) 6148914691236517205) + (Go.bits .and .u64 a0 6148914691236517205))) 3689348814741910323))))) 1085102592571150095) + ((Go.bits .and .u64 (IntKind.u64.wrap (((IntKind.u64.wrap ((Go.bits .and .u64 ((IntKind.u64.wrap ((Go.bits .and .u64 (a0 / 2) 6148914691236517205) + (Go.bits .and .u64 a0 6148914691236517205))) / 4) 3689348814741910323) + (Go.bits .and .u64 (IntKind.u64.wrap ((Go.bits .and .u64 (a0 / 2) 6148914691236517205) + (Go.bits .and .u64 a0 6148914691236517205))) 3689348814741910323))) / 16) + (IntKind.u64.wrap ((Go.bits .and .u64 ((IntKind.u64.wrap ((Go.bits .and .u64 (a0 / 2) 6148914691236517205) + (Go.bits .and .u64 a0 6148914691236517205))) / 4) 3689348814741910323) + (Go.bits .and .u64 (IntKind.u64.wrap ((Go.bits .and .u64 (a0 / 2) 6148914691236517205) + (Go.bits .and .u64 a0 6148914691236517205))) 3689348814741910323))))) 1085102592571150095) / 256))) / 65536))) / 4294967296)))) 127)) = some r := h
 clear h
 obtain rfl := Option.some.inj H
 go_enter Try.func110,Try.ntmps110
 go_wp2
 go_ret
 exact ⟨hDq,hEq⟩
def zbq.f (a0 : Int) : Option (Int) := (zbj.f a0).bind fun t268 => (some t268)
set_option maxHeartbeats 8000000 in
set_option maxRecDepth 100000 in
theorem zbq.calls (a0 : Int) (r : Int) (w : World) (h : zbq.f a0 = some r) :
  Calls Try.prog 76 #[.int .u64 a0] w fun e w' => e = .returned (.int .i64 r) ∧ zax w w' := by
 have H : ((zbj.f a0).bind fun t268 => (some t268)) = some r := h
 clear h
 replace H := Option.bind_eq_some_iff.mp H
 obtain ⟨t268,A20,H⟩ := H
 replace H : (some t268) = some r := H
 have A2 := zc.mk A20
 clear A20
 obtain rfl := Option.some.inj H
 go_enter Try.func76,Try.ntmps76
 go_wp2_with (first | ((with_reducible refine zt (f := 110) rfl ?_);refine zU (some 4) rfl rfl Try.func110 (by kernel_rfl) rfl #[.int .u64 a0] rfl (by (try simp only [List.map_toArray,List.map_cons,List.map_nil]);first | done | rfl | (simp only [List.length_drop,List.length_take];rfl)) ?_;(with_reducible refine (zbj.calls a0 t268 _ A2.out).mono ?_);rintro e w' ⟨rfl,⟨nd,rfl⟩⟩;refine ⟨_,rfl,?_⟩))
 go_ret
 exact ⟨hDq,hEq⟩
def zbo.f (a0 : Int) (a1 : Int) : Option (Bool) := if a1 < 0 then (some false) else (if a1 > 64 then (some false) else (if (shr .u64 (a0 / 2) (mx (wrap64 (a1 - 1)) 0)) = 0 then (if a1 > 0 then (some true) else (some (a0 == 0))) else (some false)))
set_option maxHeartbeats 8000000 in
set_option maxRecDepth 100000 in
theorem zbo.calls (a0 : Int) (a1 : Int) (r : Bool) (w : World) (h : zbo.f a0 a1 = some r) :
  Calls Try.prog 75 #[.int .u64 a0,.int .i64 a1] w fun e w' => e = .returned (.bool r) ∧ Below w.heap.size w w' := by
 have HB := zc.mk (Below.refl w.heap.size w)
 have H : (if a1 < 0 then (some false) else (if a1 > 64 then (some false) else (if (shr .u64 (a0 / 2) (mx (wrap64 (a1 - 1)) 0)) = 0 then (if a1 > 0 then (some true) else (some (a0 == 0))) else (some false)))) = some r := h
 clear h
 by_cases c3 : a1 < 0
 ·rw [if_pos c3] at H
  have c3b0 : decide (a1 < 0) = true := decide_eq_true c3
  clear c3
  obtain rfl := Option.some.inj H
  go_enter Try.func75,Try.ntmps75
  go_wp2
  go_ret
  exact ⟨hHq,hBq⟩
 ·rw [if_neg c3] at H
  have c3b0 : decide (a1 < 0) = false := decide_eq_false c3
  clear c3
  by_cases c4 : a1 > 64
  ·rw [if_pos c4] at H
   have c4b0 : decide (64 < a1) = true := decide_eq_true c4
   clear c4
   obtain rfl := Option.some.inj H
   go_enter Try.func75,Try.ntmps75
   go_wp2
   go_ret
   exact ⟨hHq,hBq⟩
  ·rw [if_neg c4] at H
   have c4b0 : decide (64 < a1) = false := decide_eq_false c4
   clear c4
   obtain ⟨ji5,hji5⟩ : ∃ j_ : Int,(mx (wrap64 (a1 - 1)) 0) = j_ := ⟨_,rfl⟩
   replace H : (if (shr .u64 (a0 / 2) (ji5)) = 0 then (if a1 > 0 then (some true) else (some (a0 == 0))) else (some false)) = some r := by first | (rw [hji5] at H;exact H) | (simp only [hji5] at H ⊢;exact H)
   (try (have hji5l : 0 ≤ ji5 := by (rw [← hji5];unfold mx;(repeat' split) <;> omega)))
   (try (have hji5m : 0 ≤ ji5 := by omega))
   have hji5_ : (if (wrap64 (a1 - 1)) < 0 then 0 else (wrap64 (a1 - 1))) = ji5 := hji5
   obtain ⟨ji6,hji6⟩ : ∃ j_ : Int,(shr .u64 (a0 / 2) (ji5)) = j_ := ⟨_,rfl⟩
   replace H : (if (ji6) = 0 then (if a1 > 0 then (some true) else (some (a0 == 0))) else (some false)) = some r := by first | (rw [hji6] at H;exact H) | (simp only [hji6] at H ⊢;exact H)
   have hji6_ : ((a0 / 2) / 2 ^ min (ji5).toNat 64) = ji6 := hji6
   have hji6z : (ji5) ≤ 64 → ((a0 / 2) / 2 ^ (ji5).toNat) = ji6 := zgZ hji6
   by_cases c7 : (ji6) = 0
   ·rw [if_pos c7] at H
    have c7b0 : ((ji6) == 0) = true := beq_iff_eq.mpr c7
    have c7b1 : ((ji6) != 0) = false := bne_eq_false_iff_eq.mpr c7
    clear c7
    by_cases c8 : a1 > 0
    ·rw [if_pos c8] at H
     have c8b0 : decide (0 < a1) = true := decide_eq_true c8
     clear c8
     obtain rfl := Option.some.inj H
     go_enter Try.func75,Try.ntmps75
     go_wp2
     go_ret
     exact ⟨by first | rfl | (simp [za4,za5] <;> rfl) | (simp only [← hji5,← hji6];first | rfl | (simp [za4,za5] <;> rfl)) | (simp [*,za4,za5] <;> rfl),hBq⟩
    ·rw [if_neg c8] at H
     have c8b0 : decide (0 < a1) = false := decide_eq_false c8
     clear c8
     obtain rfl := Option.some.inj H
     go_enter Try.func75,Try.ntmps75
     go_wp2
     go_ret
     exact ⟨by first | rfl | (simp [za4,za5] <;> rfl) | (simp only [← hji5,← hji6];first | rfl | (simp [za4,za5] <;> rfl)) | (simp [*,za4,za5] <;> rfl),hBq⟩
   ·rw [if_neg c7] at H
    have c7b0 : ((ji6) == 0) = false := beq_eq_false_iff_ne.mpr c7
    have c7b1 : ((ji6) != 0) = true := bne_iff_ne.mpr c7
    obtain rfl := Option.some.inj H
    go_enter Try.func75,Try.ntmps75
    go_wp2
    go_ret
    exact ⟨by first | rfl | (simp [za4,za5] <;> rfl) | (simp only [← hji5,← hji6];first | rfl | (simp [za4,za5] <;> rfl)) | (simp [*,za4,za5] <;> rfl),hBq⟩
def zbB.f (a0_0 : Int) (a0_1 : Int) (l0_2 : List (zY)) (l0_3 : List ByteArray) (a0_4 : Int) (a0_5 : Int) (a0_6 : Int) (a1 : Int) : Option (Int) := (zaw.f a0_0 a0_1 l0_2 l0_3 a0_4 a0_5 a1).bind fun t270 => (if t270 = true then ((zbo.f a0_6 a1).bind fun t271 => (if t271 = true then ((zbq.f a0_6).bind fun t272 => ((zaO.f a1).bind fun t273 => (if t272 < t273 then (some 2) else (some 0)))) else (some 4))) else (some 1))
set_option maxHeartbeats 8000000 in
set_option maxRecDepth 100000 in
theorem zbB.calls (a0_0 : Int) (a0_1 : Int) (A0_2 : Option Addr) (c0_2 : Nat) (l0_2 : List (zY)) (A0_3 : Option Addr) (c0_3 : Nat) (l0_3 : List ByteArray) (a0_4 : Int) (a0_5 : Int) (a0_6 : Int) (a1 : Int) (r : Int) (w : World) (hr0_2 : Kd.C zb1 w A0_2 l0_2.length l0_2) (hc0_2 : l0_2.length ≤ c0_2) (hr0_3 : Kd.C Kd.string w A0_3 l0_3.length l0_3) (hc0_3 : l0_3.length ≤ c0_3) (h : zbB.f a0_0 a0_1 l0_2 l0_3 a0_4 a0_5 a0_6 a1 = some r) :
  Calls Try.prog 48 #[.agg #[.int .i64 a0_0,.int .i64 a0_1,.slice A0_2 l0_2.length c0_2,.slice A0_3 l0_3.length c0_3,.int .i64 a0_4,.int .i64 a0_5,.int .u64 a0_6],.int .i64 a1] w fun e w' => e = .returned (.int .i64 r) ∧ Below w.heap.size w w' := by
 have hu36 := Try.underlying36
 have hu28 := Try.underlying28
 have HR0_2 := zc.mk hr0_2
 have HC0_2 := zc.mk hc0_2
 clear hr0_2 hc0_2
 have HR0_3 := zc.mk hr0_3
 have HC0_3 := zc.mk hc0_3
 clear hr0_3 hc0_3
 have HB := zc.mk (Below.refl w.heap.size w)
 have H : ((zaw.f a0_0 a0_1 l0_2 l0_3 a0_4 a0_5 a1).bind fun t270 => (if t270 = true then ((zbo.f a0_6 a1).bind fun t271 => (if t271 = true then ((zbq.f a0_6).bind fun t272 => ((zaO.f a1).bind fun t273 => (if t272 < t273 then (some 2) else (some 0)))) else (some 4))) else (some 1))) = some r := h
 clear h
 replace H := Option.bind_eq_some_iff.mp H
 obtain ⟨t270,A30,H⟩ := H
 replace H : (if t270 = true then ((zbo.f a0_6 a1).bind fun t271 => (if t271 = true then ((zbq.f a0_6).bind fun t272 => ((zaO.f a1).bind fun t273 => (if t272 < t273 then (some 2) else (some 0)))) else (some 4))) else (some 1)) = some r := H
 have A3 := zc.mk A30
 clear A30
 by_cases c4 : t270 = true
 focus
  subst c4
  have H1 : ((zbo.f a0_6 a1).bind fun t271 => (if t271 = true then ((zbq.f a0_6).bind fun t272 => ((zaO.f a1).bind fun t273 => (if t272 < t273 then (some 2) else (some 0)))) else (some 4))) = some r := by rw [if_pos rfl] at H;exact H
  clear H
  have H := H1
  clear H1
  replace H := Option.bind_eq_some_iff.mp H
  obtain ⟨t271,A50,H⟩ := H
  replace H : (if t271 = true then ((zbq.f a0_6).bind fun t272 => ((zaO.f a1).bind fun t273 => (if t272 < t273 then (some 2) else (some 0)))) else (some 4)) = some r := H
  have A5 := zc.mk A50
  clear A50
  by_cases c6 : t271 = true
  focus
   subst c6
   have H1 : ((zbq.f a0_6).bind fun t272 => ((zaO.f a1).bind fun t273 => (if t272 < t273 then (some 2) else (some 0)))) = some r := by rw [if_pos rfl] at H;exact H
   clear H
   have H := H1
   clear H1
   replace H := Option.bind_eq_some_iff.mp H
   obtain ⟨t272,A70,H⟩ := H
   replace H : ((zaO.f a1).bind fun t273 => (if t272 < t273 then (some 2) else (some 0))) = some r := H
   have A7 := zc.mk A70
   clear A70
   replace H := Option.bind_eq_some_iff.mp H
   obtain ⟨t273,A80,H⟩ := H
   replace H : (if t272 < t273 then (some 2) else (some 0)) = some r := H
   have A8 := zc.mk A80
   clear A80
   by_cases c9 : t272 < t273
   focus
    rw [if_pos c9] at H
    have c9b0 : decide (t272 < t273) = true := decide_eq_true c9
    clear c9
    obtain rfl := Option.some.inj H
    have EQ0 := True.intro
    have EQ1 := True.intro
   rotate_left
   focus
    rw [if_neg c9] at H
    have c9b0 : decide (t272 < t273) = false := decide_eq_false c9
    clear c9
    obtain rfl := Option.some.inj H
    have EQ0 := True.intro
    have EQ1 := True.intro
  rotate_left 2
  focus
   replace c6 := Bool.eq_false_iff.mpr c6
   subst c6
   have H1 : (some 4) = some r := by rw [if_neg (show ¬ (false = true) by decide)] at H;exact H
   clear H
   have H := H1
   clear H1
   obtain rfl := Option.some.inj H
   have EQ0 := True.intro
   have EQ2 := True.intro
 rotate_left 3
 focus
  replace c4 := Bool.eq_false_iff.mpr c4
  subst c4
  have H1 : (some 1) = some r := by rw [if_neg (show ¬ (false = true) by decide)] at H;exact H
  clear H
  have H := H1
  clear H1
  obtain rfl := Option.some.inj H
  have EQ3 := True.intro
 all_goals
  go_enter Try.func48,Try.ntmps48
  go_wp2_with (first | ((with_reducible refine zu (N := 2) rfl ?_);refine zr ?hg (N := 2) ?hd (cs := #[.int .i64 a0_0,.int .i64 a0_1,.slice A0_2 l0_2.length c0_2,.slice A0_3 l0_3.length c0_3,.int .i64 a0_4,.int .i64 a0_5,.int .u64 a0_6]) (t := 36) ?hr ?_;(case hd => rfl);(case hg => rfl);(case hr => first | (go_simp;done) | (go_simp;rfl));intro gb269 hg wQN22 hbox hb;have n0_ := zc.mk (zj hBq hb);have n1_ := zc.mk (hbox);have n2_ := zc.mk ((by rw [hg];exact (zl hBq) : w.heap.size ≤ gb269));have n3_ := zc.mk ((by rw [hg];exact (zl hBq) : w.heap.size ≤ gb269));clear HB;have HB := n0_;have BK269 := n1_;have GW269 := n2_;have GE269 := n3_;clear n0_ n1_ n2_ n3_;clear hb hbox hg;have hczQN26 : wQN22.cell? ⟨gb269,0,none⟩ = some (.int .i64 a0_0) := (zb BK269.out 0).trans rfl;have hczQN27 : wQN22.cell? ⟨gb269,1,none⟩ = some (.int .i64 a0_1) := (zb BK269.out 1).trans rfl;have hczQN28 : wQN22.cell? ⟨gb269,2,none⟩ = some (.slice A0_2 l0_2.length c0_2) := (zb BK269.out 2).trans rfl;have hczQN29 : wQN22.cell? ⟨gb269,3,none⟩ = some (.slice A0_3 l0_3.length c0_3) := (zb BK269.out 3).trans rfl;have hczQN210 : wQN22.cell? ⟨gb269,4,none⟩ = some (.int .i64 a0_4) := (zb BK269.out 4).trans rfl;have hczQN211 : wQN22.cell? ⟨gb269,5,none⟩ = some (.int .i64 a0_5) := (zb BK269.out 5).trans rfl;have hczQN212 : wQN22.cell? ⟨gb269,6,none⟩ = some (.int .u64 a0_6) := (zb BK269.out 6).trans rfl;have hfzQN213 := za BK269.out 0;have hfzQN214 := za BK269.out 1;have hfzQN215 := za BK269.out 2;have hfzQN216 := za BK269.out 3;have hfzQN217 := za BK269.out 4;have hfzQN218 := za BK269.out 5;have hfzQN219 := za BK269.out 6) | (have _ := EQ0;((with_reducible refine zt (f := 59) rfl ?_);refine zU (some 9) rfl rfl Try.func59 (by kernel_rfl) rfl #[.agg #[.int .i64 a0_0,.int .i64 a0_1,.slice A0_2 l0_2.length c0_2,.slice A0_3 l0_3.length c0_3,.int .i64 a0_4,.int .i64 a0_5],.int .i64 a1] rfl (by (try simp only [List.map_toArray,List.map_cons,List.map_nil]);first | done | rfl | (simp only [List.length_drop,List.length_take];rfl)) ?_;(with_reducible refine (zaw.calls a0_0 a0_1 _ _ l0_2 _ _ l0_3 a0_4 a0_5 a1 true _ ?side1 ?side2 ?side3 ?side4 A3.out).mono ?_);(case side1 => repeat (first | exact (Kd.C_below HR0_2.out HB.out) | (with_reducible refine Kd.C_alloc ?_ _) | (with_reducible refine Kd.C_drewN ?_ _) | (with_reducible refine Kd.C_drew ?_)));(case side2 => exact HC0_2.out);(case side3 => repeat (first | exact (Kd.C_below HR0_3.out HB.out) | (with_reducible refine Kd.C_alloc ?_ _) | (with_reducible refine Kd.C_drewN ?_ _) | (with_reducible refine Kd.C_drew ?_)));(case side4 => exact HC0_3.out);rintro e wQF59A31 ⟨rfl,hb⟩;refine ⟨_,rfl,?_⟩;have n0_ := zc.mk (zh (g := gb269) (o := .cells #[.int .i64 a0_0,.int .i64 a0_1,.slice A0_2 l0_2.length c0_2,.slice A0_3 l0_3.length c0_3,.int .i64 a0_4,.int .i64 a0_5,.int .u64 a0_6] 36 (0,0)) (hGq BK269.out) hb);have n1_ := zc.mk (zj hCq hb);clear BK269;clear HB;have BK269 := n0_;have HB := n1_;clear n0_ n1_;(try clear hb);(try clear hb2);(try clear hk);(try clear hi);have hczQF59A33 : wQF59A31.cell? ⟨gb269,0,none⟩ = some (.int .i64 a0_0) := (zb BK269.out 0).trans rfl;have hczQF59A34 : wQF59A31.cell? ⟨gb269,1,none⟩ = some (.int .i64 a0_1) := (zb BK269.out 1).trans rfl;have hczQF59A35 : wQF59A31.cell? ⟨gb269,2,none⟩ = some (.slice A0_2 l0_2.length c0_2) := (zb BK269.out 2).trans rfl;have hczQF59A36 : wQF59A31.cell? ⟨gb269,3,none⟩ = some (.slice A0_3 l0_3.length c0_3) := (zb BK269.out 3).trans rfl;have hczQF59A37 : wQF59A31.cell? ⟨gb269,4,none⟩ = some (.int .i64 a0_4) := (zb BK269.out 4).trans rfl;have hczQF59A38 : wQF59A31.cell? ⟨gb269,5,none⟩ = some (.int .i64 a0_5) := (zb BK269.out 5).trans rfl;have hczQF59A39 : wQF59A31.cell? ⟨gb269,6,none⟩ = some (.int .u64 a0_6) := (zb BK269.out 6).trans rfl;have hfzQF59A310 := za BK269.out 0;have hfzQF59A311 := za BK269.out 1;have hfzQF59A312 := za BK269.out 2;have hfzQF59A313 := za BK269.out 3;have hfzQF59A314 := za BK269.out 4;have hfzQF59A315 := za BK269.out 5;have hfzQF59A316 := za BK269.out 6)) | (have _ := EQ1;((with_reducible refine zt (f := 75) rfl ?_);refine zU (some 15) rfl rfl Try.func75 (by kernel_rfl) rfl #[.int .u64 a0_6,.int .i64 a1] rfl (by (try simp only [List.map_toArray,List.map_cons,List.map_nil]);first | done | rfl | (simp only [List.length_drop,List.length_take];rfl)) ?_;(with_reducible refine (zbo.calls a0_6 a1 true _ A5.out).mono ?_);rintro e wQF75A51 ⟨rfl,hb⟩;refine ⟨_,rfl,?_⟩;have n0_ := zc.mk (zh (g := gb269) (o := .cells #[.int .i64 a0_0,.int .i64 a0_1,.slice A0_2 l0_2.length c0_2,.slice A0_3 l0_3.length c0_3,.int .i64 a0_4,.int .i64 a0_5,.int .u64 a0_6] 36 (0,0)) (hGq BK269.out) hb);have n1_ := zc.mk (zj hCq hb);clear BK269;clear HB;have BK269 := n0_;have HB := n1_;clear n0_ n1_;(try clear hb);(try clear hb2);(try clear hk);(try clear hi);have hczQF75A53 : wQF75A51.cell? ⟨gb269,0,none⟩ = some (.int .i64 a0_0) := (zb BK269.out 0).trans rfl;have hczQF75A54 : wQF75A51.cell? ⟨gb269,1,none⟩ = some (.int .i64 a0_1) := (zb BK269.out 1).trans rfl;have hczQF75A55 : wQF75A51.cell? ⟨gb269,2,none⟩ = some (.slice A0_2 l0_2.length c0_2) := (zb BK269.out 2).trans rfl;have hczQF75A56 : wQF75A51.cell? ⟨gb269,3,none⟩ = some (.slice A0_3 l0_3.length c0_3) := (zb BK269.out 3).trans rfl;have hczQF75A57 : wQF75A51.cell? ⟨gb269,4,none⟩ = some (.int .i64 a0_4) := (zb BK269.out 4).trans rfl;have hczQF75A58 : wQF75A51.cell? ⟨gb269,5,none⟩ = some (.int .i64 a0_5) := (zb BK269.out 5).trans rfl;have hczQF75A59 : wQF75A51.cell? ⟨gb269,6,none⟩ = some (.int .u64 a0_6) := (zb BK269.out 6).trans rfl;have hfzQF75A510 := za BK269.out 0;have hfzQF75A511 := za BK269.out 1;have hfzQF75A512 := za BK269.out 2;have hfzQF75A513 := za BK269.out 3;have hfzQF75A514 := za BK269.out 4;have hfzQF75A515 := za BK269.out 5;have hfzQF75A516 := za BK269.out 6)) | (have _ := EQ1;((with_reducible refine zt (f := 76) rfl ?_);refine zU (some 20) rfl rfl Try.func76 (by kernel_rfl) rfl #[.int .u64 a0_6] rfl (by (try simp only [List.map_toArray,List.map_cons,List.map_nil]);first | done | rfl | (simp only [List.length_drop,List.length_take];rfl)) ?_;(with_reducible refine (zbq.calls a0_6 t272 _ A7.out).mono ?_);rintro e w' ⟨rfl,⟨nd,rfl⟩⟩;refine ⟨_,rfl,?_⟩)) | (have _ := EQ1;((with_reducible refine zt (f := 77) rfl ?_);refine zU (some 22) rfl rfl Try.func77 (by kernel_rfl) rfl #[.int .i64 a1] rfl (by (try simp only [List.map_toArray,List.map_cons,List.map_nil]);first | done | rfl | (simp only [List.length_drop,List.length_take];rfl)) ?_;(with_reducible refine (zaO.calls a1 t273 _ A8.out).mono ?_);rintro e w' ⟨rfl,⟨nd,rfl⟩⟩;refine ⟨_,rfl,?_⟩)) | (have _ := EQ2;((with_reducible refine zt (f := 75) rfl ?_);refine zU (some 15) rfl rfl Try.func75 (by kernel_rfl) rfl #[.int .u64 a0_6,.int .i64 a1] rfl (by (try simp only [List.map_toArray,List.map_cons,List.map_nil]);first | done | rfl | (simp only [List.length_drop,List.length_take];rfl)) ?_;(with_reducible refine (zbo.calls a0_6 a1 false _ A5.out).mono ?_);rintro e wQF75A51 ⟨rfl,hb⟩;refine ⟨_,rfl,?_⟩;have n0_ := zc.mk (zh (g := gb269) (o := .cells #[.int .i64 a0_0,.int .i64 a0_1,.slice A0_2 l0_2.length c0_2,.slice A0_3 l0_3.length c0_3,.int .i64 a0_4,.int .i64 a0_5,.int .u64 a0_6] 36 (0,0)) (hGq BK269.out) hb);have n1_ := zc.mk (zj hCq hb);clear BK269;clear HB;have BK269 := n0_;have HB := n1_;clear n0_ n1_;(try clear hb);(try clear hb2);(try clear hk);(try clear hi))) | (have _ := EQ3;((with_reducible refine zt (f := 59) rfl ?_);refine zU (some 9) rfl rfl Try.func59 (by kernel_rfl) rfl #[.agg #[.int .i64 a0_0,.int .i64 a0_1,.slice A0_2 l0_2.length c0_2,.slice A0_3 l0_3.length c0_3,.int .i64 a0_4,.int .i64 a0_5],.int .i64 a1] rfl (by (try simp only [List.map_toArray,List.map_cons,List.map_nil]);first | done | rfl | (simp only [List.length_drop,List.length_take];rfl)) ?_;(with_reducible refine (zaw.calls a0_0 a0_1 _ _ l0_2 _ _ l0_3 a0_4 a0_5 a1 false _ ?side1 ?side2 ?side3 ?side4 A3.out).mono ?_);(case side1 => repeat (first | exact (Kd.C_below HR0_2.out HB.out) | (with_reducible refine Kd.C_alloc ?_ _) | (with_reducible refine Kd.C_drewN ?_ _) | (with_reducible refine Kd.C_drew ?_)));(case side2 => exact HC0_2.out);(case side3 => repeat (first | exact (Kd.C_below HR0_3.out HB.out) | (with_reducible refine Kd.C_alloc ?_ _) | (with_reducible refine Kd.C_drewN ?_ _) | (with_reducible refine Kd.C_drew ?_)));(case side4 => exact HC0_3.out);rintro e wQF59A31 ⟨rfl,hb⟩;refine ⟨_,rfl,?_⟩;have n0_ := zc.mk (zh (g := gb269) (o := .cells #[.int .i64 a0_0,.int .i64 a0_1,.slice A0_2 l0_2.length c0_2,.slice A0_3 l0_3.length c0_3,.int .i64 a0_4,.int .i64 a0_5,.int .u64 a0_6] 36 (0,0)) (hGq BK269.out) hb);have n1_ := zc.mk (zj hCq hb);clear BK269;clear HB;have BK269 := n0_;have HB := n1_;clear n0_ n1_;(try clear hb);(try clear hb2);(try clear hk);(try clear hi))))
  go_ret
  exact ⟨hHq,hCq⟩
end Go.Proofs.Ytgdpiegkoeikiaa.Px