-- printed by this session's pprint.py (the kit's print, with this session's plugs) out of the translation; Lean checks it
import Derived.Test.YtijnodcbgadooaaPx0
import Derived.Test.YtijnodcbgadooaaPxDigitsNum
import Derived.Test.YtijnodcbgadooaaPxSelvedgelaw01Shown
namespace Go.Proofs.Ytijnodcbgadooaa.Px
open Go.RowKit Go.Proofs.YtijnodcbgadooaaW.PrintWords Go.Proofs.YtijnodcbgadooaaW.PrintLast Go.Proofs.YtijnodcbgadooaaW.PrintMore
attribute [local go_sem] max2_int min2_int max_two min_two max_three min_three max_four min_four   -- for this text's walks alone
set_option linter.unusedVariables false
set_option linter.unusedSimpArgs false

/-! ### selvedgelaw01_DigitsSizes: function 6 -/
def selvedgelaw01_DigitsSizes.l0 : Nat → Bool → ByteArray → Int → Int → Option (Bool)
  | 0, _, _, _, _ => none
  | k + 1, x3, x4, x5, x6 => if x6 > 0 then (selvedgelaw01_DigitsSizes.l0 k x3 x4 (wrap64 (x5 + 1)) (IntKind.u64.wrap (Int.tdiv x6 256))) else (if x3 = true then (if (x4.size : Int) = (wrap64 (x5 + 1)) then (if 0 < (x4.size : Int) then (some ((wrap64 (bt x4 0)) == x5)) else (none)) else (some false)) else (some false))
def selvedgelaw01_DigitsSizes.f (k : Nat) (a0 : Int) : Option (Bool) := (selvedgelaw01_shown.f k).bind fun t134 => ((digits_Num.f a0).bind fun t135 => (selvedgelaw01_DigitsSizes.l0 k t134 t135 0 a0))
theorem selvedgelaw01_DigitsSizes.mono_l : ∀ k, (∀ y0 y1 y2 y3, LeO (selvedgelaw01_DigitsSizes.l0 k y0 y1 y2 y3) (selvedgelaw01_DigitsSizes.l0 (k + 1) y0 y1 y2 y3))
  | 0 => fun _ _ _ _ r h => by simp [selvedgelaw01_DigitsSizes.l0] at h
  | k + 1 => by
    have ih0 := selvedgelaw01_DigitsSizes.mono_l k
    · intro y0 y1 y2 y3
      unfold selvedgelaw01_DigitsSizes.l0
      repeat' first
      | (with_reducible exact ih0 _ _ _ _)
      | (with_reducible exact selvedgelaw01_shown.mono _)
      | (with_reducible exact LeO.refl _)
      | (with_reducible exact LeO.none _)
      | (with_reducible refine LeO.ite ?_ ?_)
      | (with_reducible refine LeO.bind ?_ (fun _ => ?_))
      | exact ih0 _ _ _ _
      | exact selvedgelaw01_shown.mono _
      | exact LeO.none _
      | refine LeO.ite ?_ ?_
      | refine LeO.bind ?_ (fun _ => ?_)
theorem selvedgelaw01_DigitsSizes.mono : ∀ a0 k, LeO (selvedgelaw01_DigitsSizes.f k a0) (selvedgelaw01_DigitsSizes.f (k + 1) a0) := by
  intro a0 k
  have ih0 := selvedgelaw01_DigitsSizes.mono_l k
  unfold selvedgelaw01_DigitsSizes.f
  repeat' first
      | (with_reducible exact ih0 _ _ _ _)
      | (with_reducible exact selvedgelaw01_shown.mono _)
      | (with_reducible exact LeO.refl _)
      | (with_reducible exact LeO.none _)
      | (with_reducible refine LeO.ite ?_ ?_)
      | (with_reducible refine LeO.bind ?_ (fun _ => ?_))
      | exact ih0 _ _ _ _
      | exact selvedgelaw01_shown.mono _
      | exact LeO.none _
      | refine LeO.ite ?_ ?_
      | refine LeO.bind ?_ (fun _ => ?_)
set_option maxHeartbeats 8000000 in
set_option maxRecDepth 100000 in
theorem selvedgelaw01_DigitsSizes.calls (k : Nat) (a0 : Int) (r : Bool) (w : World) (h : selvedgelaw01_DigitsSizes.f k a0 = some r) :
    Calls Try.prog 6 #[.int .u64 a0] w fun e w' => e = .returned (.bool r) ∧ Below w.heap.size w w' := by
  have HB := Aside0.mk (Below.refl w.heap.size w)
  have H : ((selvedgelaw01_shown.f k).bind fun t134 => ((digits_Num.f a0).bind fun t135 => (selvedgelaw01_DigitsSizes.l0 k t134 t135 0 a0))) = some r := h
  clear h
  replace H := Option.bind_eq_some_iff.mp H
  obtain ⟨t134, A20, H⟩ := H
  replace H : ((digits_Num.f a0).bind fun t135 => (selvedgelaw01_DigitsSizes.l0 k t134 t135 0 a0)) = some r := H
  have A2 := Aside0.mk A20
  clear A20
  replace H := Option.bind_eq_some_iff.mp H
  obtain ⟨t135, A30, H⟩ := H
  replace H : (selvedgelaw01_DigitsSizes.l0 k t134 t135 0 a0) = some r := H
  have A3 := Aside0.mk A30
  clear A30
  have H' := Aside0.mk H
  clear H
  go_enter Try.func6, Try.ntmps6
  go_wp2_with (first | ((with_reducible refine gate_callee (f := 18) rfl ?_); refine goesL_ (some 7) rfl rfl Try.func18 (by kernel_rfl) rfl #[] rfl (by (try simp only [List.map_toArray, List.map_cons, List.map_nil]); first | done | rfl | (simp only [List.length_drop, List.length_take]; rfl)) ?_; (with_reducible refine (selvedgelaw01_shown.calls k  t134 _ A2.out).mono ?_); rintro e w4 ⟨rfl, hb⟩; refine ⟨_, rfl, ?_⟩; have n0_ := Aside0.mk (below_step (by repeat (first | (with_reducible first | exact HB.out | apply below_alloc | apply pw_below_drewN | apply below_drew1) | exact HB.out)) hb); clear HB; have HB := n0_; clear n0_; (try clear hb); (try clear hb2); (try clear hk); (try clear hi)) | ((with_reducible refine gate_callee (f := 19) rfl ?_); refine goesL_ (some 9) rfl rfl Try.func19 (by kernel_rfl) rfl #[.int .u64 a0] rfl (by (try simp only [List.map_toArray, List.map_cons, List.map_nil]); first | done | rfl | (simp only [List.length_drop, List.length_take]; rfl)) ?_; (with_reducible refine (digits_Num.calls a0 t135 _ A3.out).mono ?_); rintro e w5 ⟨rfl, hb⟩; refine ⟨_, rfl, ?_⟩; have n0_ := Aside0.mk (below_step (by repeat (first | (with_reducible first | exact HB.out | apply below_alloc | apply pw_below_drewN | apply below_drew1) | exact HB.out)) hb); clear HB; have HB := n0_; clear n0_; (try clear hb); (try clear hb2); (try clear hk); (try clear hi)))
  go_loopg [5, 6] k (fun kq v5 v6 w' => ∃ (x5_1 : Int) (x6_1 : Int), v5 = .int .i64 x5_1 ∧ v6 = .int .u64 x6_1 ∧ Aside0 (selvedgelaw01_DigitsSizes.l0 kq t134 t135 x5_1 x6_1 = some r) ∧ Aside0 (kq ≤ k) ∧ Aside0 (Below w.heap.size w w'))
  case atStart => exact ⟨(0), (a0), (by first | rfl | (simp; done) | (simp [*]; done)), (by first | rfl | (simp; done) | (simp [*]; done)), H', ⟨Nat.le_refl _⟩, ⟨by repeat (first | (with_reducible first | exact HB.out | apply below_alloc | apply pw_below_drewN | apply below_drew1) | exact HB.out)⟩⟩
  case round =>
    clear H'
    try clear c1
    try clear p2
    obtain ⟨x5_1, x6_1, rfl, rfl, HA, HK1, HB⟩ := hrel
    cases gk with
    | zero => exact absurd HA.out (by simp [selvedgelaw01_DigitsSizes.l0])
    | succ k1 =>
      have H := HA.out
      clear HA
      simp only [selvedgelaw01_DigitsSizes.l0] at H
      by_cases c6 : x6_1 > 0
      · rw [if_pos c6] at H
        have c6b0 : decide (0 < x6_1) = true := decide_eq_true c6
        clear c6
        have H' := Aside0.mk H
        clear H
        go_wp2
        go_roundg k1
        case measure => have := HK1.out; omega
        case rel => exact ⟨(wrap64 (x5_1 + 1)), (IntKind.u64.wrap (Int.tdiv x6_1 256)), (by first | rfl | (simp; done) | (simp [*]; done)), (by first | rfl | (simp; done) | (simp [*]; done)), H', ⟨by have := HK1.out; omega⟩, ⟨by repeat (first | (with_reducible first | exact HB.out | apply below_alloc | apply pw_below_drewN | apply below_drew1) | exact HB.out)⟩⟩
      · rw [if_neg c6] at H
        have c6b0 : decide (0 < x6_1) = false := decide_eq_false c6
        clear c6
        by_cases c7 : t134 = true
        · subst c7
          have H1 : (if (t135.size : Int) = (wrap64 (x5_1 + 1)) then (if 0 < (t135.size : Int) then (some ((wrap64 (bt t135 0)) == x5_1)) else (none)) else (some false)) = some r := by rw [if_pos rfl] at H; exact H
          clear H
          have H := H1
          clear H1
          by_cases c8 : (t135.size : Int) = (wrap64 (x5_1 + 1))
          · rw [if_pos c8] at H
            have c8b0 : ((t135.size : Int) == (wrap64 (x5_1 + 1))) = true := beq_iff_eq.mpr c8
            have c8b1 : ((t135.size : Int) != (wrap64 (x5_1 + 1))) = false := bne_eq_false_iff_eq.mpr c8
            clear c8
            by_cases c9 : 0 < (t135.size : Int)
            · rw [if_pos c9] at H
              have c9b0 : decide (0 < (t135.size : Int)) = true := decide_eq_true c9
              have c9b1 : decide (0 < t135.size) = true := decide_eq_true (by omega)
              clear c9
              obtain rfl := Option.some.inj H
              have p10 : 0 ≤ (0 : Int) := (by omega)
              have q10 : 0 < t135.size := (by have : (0 : Int) < (t135.size : Int) := of_decide_eq_true (by first | (with_reducible assumption) | assumption); omega)
              have hx10 : ∀ h : 0 < t135.size, ((t135[0]'h).toNat : Int) = bt t135 0 := bt_at t135 0
              clear p10
              have qi10 : (0 < (t135.size : Int)) = True := eq_true (of_decide_eq_true (by first | (with_reducible assumption) | assumption))
              replace q10 := eq_true q10
              go_wp2
              go_ret
              exact ⟨by first | rfl | (simp [errW_none, errW_some] <;> rfl) | (simp [*, errW_none, errW_some] <;> rfl), by repeat (first | (with_reducible first | exact HB.out | apply below_alloc | apply pw_below_drewN | apply below_drew1) | exact HB.out)⟩
            · rw [if_neg c9] at H
              exact absurd H (by simp)
          · rw [if_neg c8] at H
            have c8b0 : ((t135.size : Int) == (wrap64 (x5_1 + 1))) = false := beq_eq_false_iff_ne.mpr c8
            have c8b1 : ((t135.size : Int) != (wrap64 (x5_1 + 1))) = true := bne_iff_ne.mpr c8
            obtain rfl := Option.some.inj H
            go_wp2
            go_ret
            exact ⟨by first | rfl | (simp [errW_none, errW_some] <;> rfl) | (simp [*, errW_none, errW_some] <;> rfl), by repeat (first | (with_reducible first | exact HB.out | apply below_alloc | apply pw_below_drewN | apply below_drew1) | exact HB.out)⟩
        · replace c7 := Bool.eq_false_iff.mpr c7
          subst c7
          have H1 : (some false) = some r := by rw [if_neg (show ¬ (false = true) by decide)] at H; exact H
          clear H
          have H := H1
          clear H1
          obtain rfl := Option.some.inj H
          go_wp2
          go_ret
          exact ⟨by first | rfl | (simp [errW_none, errW_some] <;> rfl) | (simp [*, errW_none, errW_some] <;> rfl), by repeat (first | (with_reducible first | exact HB.out | apply below_alloc | apply pw_below_drewN | apply below_drew1) | exact HB.out)⟩

/-- THE ONE PURE STATEMENT of selvedgelaw01_DigitsSizes: yours. -/
def selvedgelaw01_DigitsSizes.Pure : Prop := ∀ (a0 : Int), (Lit.int .u64 a0).wf = true → ∃ k, selvedgelaw01_DigitsSizes.f k a0 = some true
theorem selvedgelaw01_DigitsSizes.walk (P : selvedgelaw01_DigitsSizes.Pure) (a0 : Int) (w : World) (w0 : (Lit.int .u64 a0).wf = true) :
    Calls Try.prog 6 #[.int .u64 a0] w fun e w' => e = .returned (.bool true) ∧ Below w.heap.size w w' := by
  obtain ⟨k, h⟩ := P a0 w0
  refine (selvedgelaw01_DigitsSizes.calls k a0 true w h).mono ?_
  rintro e w' ⟨rfl, hd⟩
  exact ⟨rfl, hd⟩

end Go.Proofs.Ytijnodcbgadooaa.Px
