-- printed by this session's pprint.py (the kit's print, with this session's plugs) out of the translation; Lean checks it
import Derived.Test.YtijnodcbgadooaaPx0
import Derived.Test.YtijnodcbgadooaaPxDigitsNum
import Derived.Test.YtijnodcbgadooaaPxDigitsText
import Derived.Test.YtijnodcbgadooaaPxSelvedgelaw01Shown
import Derived.Test.YtijnodcbgadooaaPxSelvedgeref01Num
import Derived.Test.YtijnodcbgadooaaPxSelvedgeref01Text
namespace Go.Proofs.Ytijnodcbgadooaa.Px
open Go.RowKit Go.Proofs.YtijnodcbgadooaaW.PrintWords Go.Proofs.YtijnodcbgadooaaW.PrintLast Go.Proofs.YtijnodcbgadooaaW.PrintMore
attribute [local go_sem] max2_int min2_int max_two min_two max_three min_three max_four min_four   -- for this text's walks alone
set_option linter.unusedVariables false
set_option linter.unusedSimpArgs false

/-! ### selvedgelaw01_DigitsNums: function 3 -/
def selvedgelaw01_DigitsNums.f (k : Nat) (a0 : Int) (a1 : ByteArray) : Option (Bool) := (selvedgelaw01_shown.f k).bind fun t116 => (if t116 = true then ((digits_Num.f a0).bind fun t117 => ((selvedgeref01_Num.f k a0).bind fun t118 => (if t117.toList = t118.toList then ((digits_Text.f a1).bind fun t119 => ((selvedgeref01_Text.f a1).bind fun t120 => (some (t119.toList == t120.toList)))) else (some false)))) else (some false))
theorem selvedgelaw01_DigitsNums.mono : ∀ a0 a1 k, LeO (selvedgelaw01_DigitsNums.f k a0 a1) (selvedgelaw01_DigitsNums.f (k + 1) a0 a1) := by
  intro a0 a1 k
  unfold selvedgelaw01_DigitsNums.f
  repeat' first
      | (with_reducible exact selvedgelaw01_shown.mono _)
      | (with_reducible exact selvedgeref01_Num.mono _ _)
      | (with_reducible exact LeO.refl _)
      | (with_reducible exact LeO.none _)
      | (with_reducible refine LeO.ite ?_ ?_)
      | (with_reducible refine LeO.bind ?_ (fun _ => ?_))
      | exact selvedgelaw01_shown.mono _
      | exact selvedgeref01_Num.mono _ _
      | exact LeO.none _
      | refine LeO.ite ?_ ?_
      | refine LeO.bind ?_ (fun _ => ?_)
set_option maxHeartbeats 8000000 in
set_option maxRecDepth 100000 in
theorem selvedgelaw01_DigitsNums.calls (k : Nat) (a0 : Int) (a1 : ByteArray) (r : Bool) (w : World) (h : selvedgelaw01_DigitsNums.f k a0 a1 = some r) :
    Calls Try.prog 3 #[.int .u64 a0, .string a1] w fun e w' => e = .returned (.bool r) ∧ Below w.heap.size w w' := by
  have HB := Aside0.mk (Below.refl w.heap.size w)
  have H : ((selvedgelaw01_shown.f k).bind fun t116 => (if t116 = true then ((digits_Num.f a0).bind fun t117 => ((selvedgeref01_Num.f k a0).bind fun t118 => (if t117.toList = t118.toList then ((digits_Text.f a1).bind fun t119 => ((selvedgeref01_Text.f a1).bind fun t120 => (some (t119.toList == t120.toList)))) else (some false)))) else (some false))) = some r := h
  clear h
  replace H := Option.bind_eq_some_iff.mp H
  obtain ⟨t116, A30, H⟩ := H
  replace H : (if t116 = true then ((digits_Num.f a0).bind fun t117 => ((selvedgeref01_Num.f k a0).bind fun t118 => (if t117.toList = t118.toList then ((digits_Text.f a1).bind fun t119 => ((selvedgeref01_Text.f a1).bind fun t120 => (some (t119.toList == t120.toList)))) else (some false)))) else (some false)) = some r := H
  have A3 := Aside0.mk A30
  clear A30
  by_cases c4 : t116 = true
  · subst c4
    have H1 : ((digits_Num.f a0).bind fun t117 => ((selvedgeref01_Num.f k a0).bind fun t118 => (if t117.toList = t118.toList then ((digits_Text.f a1).bind fun t119 => ((selvedgeref01_Text.f a1).bind fun t120 => (some (t119.toList == t120.toList)))) else (some false)))) = some r := by rw [if_pos rfl] at H; exact H
    clear H
    have H := H1
    clear H1
    replace H := Option.bind_eq_some_iff.mp H
    obtain ⟨t117, A50, H⟩ := H
    replace H : ((selvedgeref01_Num.f k a0).bind fun t118 => (if t117.toList = t118.toList then ((digits_Text.f a1).bind fun t119 => ((selvedgeref01_Text.f a1).bind fun t120 => (some (t119.toList == t120.toList)))) else (some false))) = some r := H
    have A5 := Aside0.mk A50
    clear A50
    replace H := Option.bind_eq_some_iff.mp H
    obtain ⟨t118, A60, H⟩ := H
    replace H : (if t117.toList = t118.toList then ((digits_Text.f a1).bind fun t119 => ((selvedgeref01_Text.f a1).bind fun t120 => (some (t119.toList == t120.toList)))) else (some false)) = some r := H
    have A6 := Aside0.mk A60
    clear A60
    by_cases c7 : t117.toList = t118.toList
    · rw [if_pos c7] at H
      have c7b0 : (t117.toList == t118.toList) = true := beq_iff_eq.mpr c7
      have c7b1 : (t117.toList != t118.toList) = false := bne_eq_false_iff_eq.mpr c7
      clear c7
      replace H := Option.bind_eq_some_iff.mp H
      obtain ⟨t119, A80, H⟩ := H
      replace H : ((selvedgeref01_Text.f a1).bind fun t120 => (some (t119.toList == t120.toList))) = some r := H
      have A8 := Aside0.mk A80
      clear A80
      replace H := Option.bind_eq_some_iff.mp H
      obtain ⟨t120, A90, H⟩ := H
      replace H : (some (t119.toList == t120.toList)) = some r := H
      have A9 := Aside0.mk A90
      clear A90
      obtain rfl := Option.some.inj H
      go_enter Try.func3, Try.ntmps3
      go_wp2_with (first | ((with_reducible refine gate_callee (f := 18) rfl ?_); refine goesL_ (some 6) rfl rfl Try.func18 (by kernel_rfl) rfl #[] rfl (by (try simp only [List.map_toArray, List.map_cons, List.map_nil]); first | done | rfl | (simp only [List.length_drop, List.length_take]; rfl)) ?_; (with_reducible refine (selvedgelaw01_shown.calls k  true _ A3.out).mono ?_); rintro e w10 ⟨rfl, hb⟩; refine ⟨_, rfl, ?_⟩; have n0_ := Aside0.mk (below_step (by repeat (first | (with_reducible first | exact HB.out | apply below_alloc | apply pw_below_drewN | apply below_drew1) | exact HB.out)) hb); clear HB; have HB := n0_; clear n0_; (try clear hb); (try clear hb2); (try clear hk); (try clear hi)) | (go_at_call 19; (with_reducible refine (digits_Num.calls a0 t117 _ A5.out).mono ?_); rintro e w11 ⟨rfl, hb⟩; have n0_ := Aside0.mk (below_step (by repeat (first | (with_reducible first | exact HB.out | apply below_alloc | apply pw_below_drewN | apply below_drew1) | exact HB.out)) hb); clear HB; have HB := n0_; clear n0_; (try clear hb); (try clear hb2); (try clear hk); (try clear hi)) | (go_at_call 20; (with_reducible refine (selvedgeref01_Num.calls k a0 t118 _ A6.out).mono ?_); rintro e w12 ⟨rfl, hb⟩; have n0_ := Aside0.mk (below_step (by repeat (first | (with_reducible first | exact HB.out | apply below_alloc | apply pw_below_drewN | apply below_drew1) | exact HB.out)) hb); clear HB; have HB := n0_; clear n0_; (try clear hb); (try clear hb2); (try clear hk); (try clear hi)) | (go_at_call 21; (with_reducible refine (digits_Text.calls a1 t119 _ A8.out).mono ?_); rintro e w13 ⟨rfl, hb⟩; have n0_ := Aside0.mk (below_step (by repeat (first | (with_reducible first | exact HB.out | apply below_alloc | apply pw_below_drewN | apply below_drew1) | exact HB.out)) hb); clear HB; have HB := n0_; clear n0_; (try clear hb); (try clear hb2); (try clear hk); (try clear hi)) | (go_at_call 22; (with_reducible refine (selvedgeref01_Text.calls a1 t120 _ A9.out).mono ?_); rintro e w14 ⟨rfl, hb⟩; have n0_ := Aside0.mk (below_step (by repeat (first | (with_reducible first | exact HB.out | apply below_alloc | apply pw_below_drewN | apply below_drew1) | exact HB.out)) hb); clear HB; have HB := n0_; clear n0_; (try clear hb); (try clear hb2); (try clear hk); (try clear hi)))
      go_ret
      exact ⟨by first | rfl | (simp [errW_none, errW_some] <;> rfl) | (simp [*, errW_none, errW_some] <;> rfl), by repeat (first | (with_reducible first | exact HB.out | apply below_alloc | apply pw_below_drewN | apply below_drew1) | exact HB.out)⟩
    · rw [if_neg c7] at H
      have c7b0 : (t117.toList == t118.toList) = false := beq_eq_false_iff_ne.mpr c7
      have c7b1 : (t117.toList != t118.toList) = true := bne_iff_ne.mpr c7
      obtain rfl := Option.some.inj H
      go_enter Try.func3, Try.ntmps3
      go_wp2_with (first | ((with_reducible refine gate_callee (f := 18) rfl ?_); refine goesL_ (some 6) rfl rfl Try.func18 (by kernel_rfl) rfl #[] rfl (by (try simp only [List.map_toArray, List.map_cons, List.map_nil]); first | done | rfl | (simp only [List.length_drop, List.length_take]; rfl)) ?_; (with_reducible refine (selvedgelaw01_shown.calls k  true _ A3.out).mono ?_); rintro e w15 ⟨rfl, hb⟩; refine ⟨_, rfl, ?_⟩; have n0_ := Aside0.mk (below_step (by repeat (first | (with_reducible first | exact HB.out | apply below_alloc | apply pw_below_drewN | apply below_drew1) | exact HB.out)) hb); clear HB; have HB := n0_; clear n0_; (try clear hb); (try clear hb2); (try clear hk); (try clear hi)) | (go_at_call 19; (with_reducible refine (digits_Num.calls a0 t117 _ A5.out).mono ?_); rintro e w16 ⟨rfl, hb⟩; have n0_ := Aside0.mk (below_step (by repeat (first | (with_reducible first | exact HB.out | apply below_alloc | apply pw_below_drewN | apply below_drew1) | exact HB.out)) hb); clear HB; have HB := n0_; clear n0_; (try clear hb); (try clear hb2); (try clear hk); (try clear hi)) | (go_at_call 20; (with_reducible refine (selvedgeref01_Num.calls k a0 t118 _ A6.out).mono ?_); rintro e w17 ⟨rfl, hb⟩; have n0_ := Aside0.mk (below_step (by repeat (first | (with_reducible first | exact HB.out | apply below_alloc | apply pw_below_drewN | apply below_drew1) | exact HB.out)) hb); clear HB; have HB := n0_; clear n0_; (try clear hb); (try clear hb2); (try clear hk); (try clear hi)))
      go_ret
      exact ⟨by first | rfl | (simp [errW_none, errW_some] <;> rfl) | (simp [*, errW_none, errW_some] <;> rfl), by repeat (first | (with_reducible first | exact HB.out | apply below_alloc | apply pw_below_drewN | apply below_drew1) | exact HB.out)⟩
  · replace c4 := Bool.eq_false_iff.mpr c4
    subst c4
    have H1 : (some false) = some r := by rw [if_neg (show ¬ (false = true) by decide)] at H; exact H
    clear H
    have H := H1
    clear H1
    obtain rfl := Option.some.inj H
    go_enter Try.func3, Try.ntmps3
    go_wp2_with (first | ((with_reducible refine gate_callee (f := 18) rfl ?_); refine goesL_ (some 6) rfl rfl Try.func18 (by kernel_rfl) rfl #[] rfl (by (try simp only [List.map_toArray, List.map_cons, List.map_nil]); first | done | rfl | (simp only [List.length_drop, List.length_take]; rfl)) ?_; (with_reducible refine (selvedgelaw01_shown.calls k  false _ A3.out).mono ?_); rintro e w18 ⟨rfl, hb⟩; refine ⟨_, rfl, ?_⟩; have n0_ := Aside0.mk (below_step (by repeat (first | (with_reducible first | exact HB.out | apply below_alloc | apply pw_below_drewN | apply below_drew1) | exact HB.out)) hb); clear HB; have HB := n0_; clear n0_; (try clear hb); (try clear hb2); (try clear hk); (try clear hi)))
    go_ret
    exact ⟨by first | rfl | (simp [errW_none, errW_some] <;> rfl) | (simp [*, errW_none, errW_some] <;> rfl), by repeat (first | (with_reducible first | exact HB.out | apply below_alloc | apply pw_below_drewN | apply below_drew1) | exact HB.out)⟩

/-- THE ONE PURE STATEMENT of selvedgelaw01_DigitsNums: yours. -/
def selvedgelaw01_DigitsNums.Pure : Prop := ∀ (a0 : Int) (a1 : ByteArray), (Lit.int .u64 a0).wf = true → a1.size ≤ 140737488351232 → ∃ k, selvedgelaw01_DigitsNums.f k a0 a1 = some true
theorem selvedgelaw01_DigitsNums.walk (P : selvedgelaw01_DigitsNums.Pure) (a0 : Int) (a1 : ByteArray) (w : World) (w0 : (Lit.int .u64 a0).wf = true) (w1 : a1.size ≤ 140737488351232) :
    Calls Try.prog 3 #[.int .u64 a0, .string a1] w fun e w' => e = .returned (.bool true) ∧ Below w.heap.size w w' := by
  obtain ⟨k, h⟩ := P a0 a1 w0 w1
  refine (selvedgelaw01_DigitsNums.calls k a0 a1 true w h).mono ?_
  rintro e w' ⟨rfl, hd⟩
  exact ⟨rfl, hd⟩

end Go.Proofs.Ytijnodcbgadooaa.Px
