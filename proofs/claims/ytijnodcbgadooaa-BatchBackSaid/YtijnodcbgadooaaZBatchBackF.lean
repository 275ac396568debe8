/- part 6 of the law BatchBack: the texts of its proof, merged by this session's bundle.py. What is proved: the statement at the end of the last of these texts; its conditions are those of the given row. -/
import Derived.WalkKit
import Derived.ProofKit
import Derived.OpenShut
import Derived.ShutString
import Derived.ChangeOld
import Derived.Below
import Derived.SizedLaws
import Derived.JoinedCond
import Derived.Carry
import Derived.WideShapes
import Derived.Test.YtijnodcbgadooaaZBatchBackA
import Derived.Test.YtijnodcbgadooaaZBatchBackB
import Derived.Test.YtijnodcbgadooaaZBatchBackC
import Derived.Test.YtijnodcbgadooaaZBatchBackD
import Derived.Test.YtijnodcbgadooaaZBatchBackE
-- printed by this session's pprint.py (the kit's print, with this session's plugs) out of the translation; Lean checks it
namespace Go.Proofs.Ytijnodcbgadooaa.Px
open Go.RowKit Go.Proofs.YtijnodcbgadooaaW.PrintWords Go.Proofs.YtijnodcbgadooaaW.PrintLast Go.Proofs.YtijnodcbgadooaaW.PrintMore
attribute [local go_sem] max2_int min2_int max_two min_two max_three min_three max_four min_four   -- for this text's walks alone
set_option linter.unusedVariables false
set_option linter.unusedSimpArgs false

/-! ### selvedgeref07_Take: function 46 -/
mutual
def selvedgeref07_Take.j0 : Nat → Int → ByteArray → Bool → Option (Int × Int × List ByteArray × Int)
  | 0, _, _, _ => none
  | k + 1, x4, x5, x26 => if x26 = true then (some (0, 0, ([] : List ByteArray), 3)) else ((selvedgeref01_TakeNum.f k x5).bind fun bt319 => (if bt319.2.2 = 0 then (selvedgeref07_Take.j1 k x4 bt319.1 bt319.2.1 (decide (bt319.1 > 1073741824))) else (selvedgeref07_Take.j1 k x4 bt319.1 bt319.2.1 true)))
def selvedgeref07_Take.j1 : Nat → Int → Int → ByteArray → Bool → Option (Int × Int × List ByteArray × Int)
  | 0, _, _, _, _ => none
  | k + 1, x4, x7, x8, x39 => if x39 = true then (some (0, 0, ([] : List ByteArray), 3)) else ((selvedgeref01_TakeRow.f k x8 4 48).bind fun bt322 => ((selvedgeref07_May.f k (wrap64 (x4)) (wrap64 (x7)) bt322.1).bind fun t328 => (if bt322.2.2 = 0 then (if (bt322.2.1.size : Int) > 0 then (some (0, 0, ([] : List ByteArray), 3)) else (if t328 = true then (some (wrap64 (x4), wrap64 (x7), bt322.1, 0)) else (some (0, 0, ([] : List ByteArray), 3)))) else (some (0, 0, ([] : List ByteArray), 3)))))
end
def selvedgeref07_Take.f (k : Nat) (a0 : ByteArray) : Option (Int × Int × List ByteArray × Int) := (selvedgeref01_TakeNum.f k a0).bind fun bt316 => (if bt316.2.2 = 0 then (selvedgeref07_Take.j0 k bt316.1 bt316.2.1 (decide (bt316.1 > 64))) else (selvedgeref07_Take.j0 k bt316.1 bt316.2.1 true))
theorem selvedgeref07_Take.mono_l : ∀ k, (∀ y0 y1 y2, LeO (selvedgeref07_Take.j0 k y0 y1 y2) (selvedgeref07_Take.j0 (k + 1) y0 y1 y2)) ∧ (∀ y0 y1 y2 y3, LeO (selvedgeref07_Take.j1 k y0 y1 y2 y3) (selvedgeref07_Take.j1 (k + 1) y0 y1 y2 y3))
  | 0 => ⟨fun _ _ _ r h => by simp [selvedgeref07_Take.j0] at h, fun _ _ _ _ r h => by simp [selvedgeref07_Take.j1] at h⟩
  | k + 1 => by
    obtain ⟨ih0, ih1⟩ := selvedgeref07_Take.mono_l k
    refine ⟨?_, ?_⟩
    · intro y0 y1 y2
      unfold selvedgeref07_Take.j0
      repeat' first
      | (with_reducible exact ih0 _ _ _)
      | (with_reducible exact ih1 _ _ _ _)
      | (with_reducible exact selvedgeref01_TakeNum.mono _ _)
      | (with_reducible exact selvedgeref01_TakeRow.mono _ _ _ _)
      | (with_reducible exact selvedgeref07_May.mono _ _ _ _)
      | (with_reducible exact LeO.refl _)
      | (with_reducible exact LeO.none _)
      | (with_reducible refine LeO.ite ?_ ?_)
      | (with_reducible refine LeO.bind ?_ (fun _ => ?_))
      | exact ih0 _ _ _
      | exact ih1 _ _ _ _
      | exact selvedgeref01_TakeNum.mono _ _
      | exact selvedgeref01_TakeRow.mono _ _ _ _
      | exact selvedgeref07_May.mono _ _ _ _
      | exact LeO.none _
      | refine LeO.ite ?_ ?_
      | refine LeO.bind ?_ (fun _ => ?_)
    · intro y0 y1 y2 y3
      unfold selvedgeref07_Take.j1
      repeat' first
      | (with_reducible exact ih0 _ _ _)
      | (with_reducible exact ih1 _ _ _ _)
      | (with_reducible exact selvedgeref01_TakeNum.mono _ _)
      | (with_reducible exact selvedgeref01_TakeRow.mono _ _ _ _)
      | (with_reducible exact selvedgeref07_May.mono _ _ _ _)
      | (with_reducible exact LeO.refl _)
      | (with_reducible exact LeO.none _)
      | (with_reducible refine LeO.ite ?_ ?_)
      | (with_reducible refine LeO.bind ?_ (fun _ => ?_))
      | exact ih0 _ _ _
      | exact ih1 _ _ _ _
      | exact selvedgeref01_TakeNum.mono _ _
      | exact selvedgeref01_TakeRow.mono _ _ _ _
      | exact selvedgeref07_May.mono _ _ _ _
      | exact LeO.none _
      | refine LeO.ite ?_ ?_
      | refine LeO.bind ?_ (fun _ => ?_)
theorem selvedgeref07_Take.mono : ∀ a0 k, LeO (selvedgeref07_Take.f k a0) (selvedgeref07_Take.f (k + 1) a0) := by
  intro a0 k
  obtain ⟨ih0, ih1⟩ := selvedgeref07_Take.mono_l k
  unfold selvedgeref07_Take.f
  repeat' first
      | (with_reducible exact ih0 _ _ _)
      | (with_reducible exact ih1 _ _ _ _)
      | (with_reducible exact selvedgeref01_TakeNum.mono _ _)
      | (with_reducible exact selvedgeref01_TakeRow.mono _ _ _ _)
      | (with_reducible exact selvedgeref07_May.mono _ _ _ _)
      | (with_reducible exact LeO.refl _)
      | (with_reducible exact LeO.none _)
      | (with_reducible refine LeO.ite ?_ ?_)
      | (with_reducible refine LeO.bind ?_ (fun _ => ?_))
      | exact ih0 _ _ _
      | exact ih1 _ _ _ _
      | exact selvedgeref01_TakeNum.mono _ _
      | exact selvedgeref01_TakeRow.mono _ _ _ _
      | exact selvedgeref07_May.mono _ _ _ _
      | exact LeO.none _
      | refine LeO.ite ?_ ?_
      | refine LeO.bind ?_ (fun _ => ?_)
set_option maxHeartbeats 8000000 in
set_option maxRecDepth 100000 in
theorem selvedgeref07_Take.calls (k : Nat) (a0 : ByteArray) (r1 : Int) (r2 : Int) (r3 : List ByteArray) (r4 : Int) (w : World) (h : selvedgeref07_Take.f k a0 = some (r1, r2, r3, r4)) :
    Calls Try.prog 46 #[.string a0] w fun e w' => ∃ v2_ : Value, e = .returned (.tuple #[.agg #[.int .i64 r1, .int .i64 r2, v2_], .int .i64 r4]) ∧ Kd.R Kd.string 9 w' w.heap.size (fun _ => True) v2_ r3 ∧ Below w.heap.size w w' := by
  have hu43 := Try.underlying43
  have HB := Aside0.mk (Below.refl w.heap.size w)
  have H : ((selvedgeref01_TakeNum.f k a0).bind fun bt316 => (if bt316.2.2 = 0 then (selvedgeref07_Take.j0 k bt316.1 bt316.2.1 (decide (bt316.1 > 64))) else (selvedgeref07_Take.j0 k bt316.1 bt316.2.1 true))) = some (r1, r2, r3, r4) := h
  clear h
  replace H := Option.bind_eq_some_iff.mp H
  obtain ⟨⟨t316, t317, t318⟩, A20, H⟩ := H
  replace H : (if t318 = 0 then (selvedgeref07_Take.j0 k t316 t317 (decide (t316 > 64))) else (selvedgeref07_Take.j0 k t316 t317 true)) = some (r1, r2, r3, r4) := H
  have A2 := Aside0.mk A20
  clear A20
  have HC3 := Aside0.mk H
  clear H
  go_enter Try.func46, Try.ntmps46
  go_upto_region 2 with (first | ((with_reducible refine gate_dst (N := 2) rfl ?_); (try (refine gate_guard (by rfl) ?_; dsimp only)); refine box_event ?hg (N := 2) ?hd (cs := #[.int .i64 0, .int .i64 0, .slice none 0 0]) (t := 43) ?hr ?_; (case hd => rfl); (case hg => rfl); (case hr => first | (go_simp; done) | (go_simp; rfl)); intro gb315 hg w4 hbox hb; have n0_ := Aside0.mk (below_step (by repeat (first | (with_reducible first | exact HB.out | apply below_alloc | apply pw_below_drewN | apply below_drew1) | exact HB.out)) hb); have n1_ := Aside0.mk (hbox); have n2_ := Aside0.mk ((by rw [hg]; exact (below_size (by repeat (first | (with_reducible first | exact HB.out | apply below_alloc | apply pw_below_drewN | apply below_drew1) | exact HB.out))) : w.heap.size ≤ gb315)); have n3_ := Aside0.mk ((by rw [hg]; exact (below_size (by repeat (first | (with_reducible first | exact HB.out | apply below_alloc | apply pw_below_drewN | apply below_drew1) | exact HB.out))) : w.heap.size ≤ gb315)); clear HB; have HB := n0_; have BK315 := n1_; have GW315 := n2_; have GE315 := n3_; clear n0_ n1_ n2_ n3_; clear hb hbox hg) | ((with_reducible refine gate_callee (f := 24) rfl ?_); refine goesL_ (some 17) rfl rfl Try.func24 (by kernel_rfl) rfl #[.string a0] rfl (by (try simp only [List.map_toArray, List.map_cons, List.map_nil]); first | done | rfl | (simp only [List.length_drop, List.length_take]; rfl)) ?_; (with_reducible refine (selvedgeref01_TakeNum.calls k a0 t316 t317 t318 _ A2.out).mono ?_); rintro e w' ⟨rfl, ⟨nd, rfl⟩⟩; refine ⟨_, rfl, ?_⟩))
  (try simp only [Act.put, List.setIfInBounds_toArray, List.set_cons_zero, List.set_cons_succ])
  go_cut [26] (fun v26 wc => ∃ (kq : Nat) (x26_2 : Bool), v26 = .bool x26_2 ∧ Aside0 (selvedgeref07_Take.j0 kq t316 t317 x26_2 = some (r1, r2, r3, r4)) ∧ Aside0 (kq ≤ k) ∧ Aside0 (wc.heap[gb315]? = some (.cells #[.int .i64 0, .int .i64 0, (.slice none 0 0)] 43 (0, 0))) ∧ Aside0 (Below w.heap.size w wc))
  case first =>
    have H := HC3.out
    clear HC3
    by_cases c5 : t318 = 0
    · rw [if_pos c5] at H
      have c5b0 : (t318 == 0) = true := beq_iff_eq.mpr c5
      have c5b1 : (t318 != 0) = false := bne_eq_false_iff_eq.mpr c5
      clear c5
      (first | rw [c5b0] | (simp only [i64_w, i32_w]; rw [c5b0]) | skip)
      have H' := Aside0.mk H
      clear H
      go_wp2
      go_meet
      case rel => exact ⟨_, (decide (t316 > 64)), (by first | rfl | (simp; done) | (simp [*]; done)), H', ⟨by first | omega | exact Nat.le_refl _⟩, ⟨by (with_reducible repeat (first | refine blk_drewN ?_ _ | refine blk_drew ?_ | refine blk_alloc ?_ _)); exact BK315.out⟩, ⟨by repeat (first | (with_reducible first | exact HB.out | apply below_alloc | apply pw_below_drewN | apply below_drew1 | refine below_set ?_ GE315.out) | exact HB.out)⟩⟩
    · rw [if_neg c5] at H
      have c5b0 : (t318 == 0) = false := beq_eq_false_iff_ne.mpr c5
      have c5b1 : (t318 != 0) = true := bne_iff_ne.mpr c5
      (first | rw [c5b0] | (simp only [i64_w, i32_w]; rw [c5b0]) | skip)
      have H' := Aside0.mk H
      clear H
      go_wp2
      go_meet
      case rel => exact ⟨_, (true), (by first | rfl | (simp; done) | (simp [*]; done)), H', ⟨by first | omega | exact Nat.le_refl _⟩, ⟨by (with_reducible repeat (first | refine blk_drewN ?_ _ | refine blk_drew ?_ | refine blk_alloc ?_ _)); exact BK315.out⟩, ⟨by repeat (first | (with_reducible first | exact HB.out | apply below_alloc | apply pw_below_drewN | apply below_drew1 | refine below_set ?_ GE315.out) | exact HB.out)⟩⟩
  case rest =>
    clear HC3
    try clear c2
    try clear p2
    try clear c4
    try clear c5
    try clear c5b0
    try clear c5b1
    obtain ⟨kq, x26_2, rfl, HA, HJ2, BK315, HB⟩ := hcut
    cases kq with
    | zero => exact absurd HA.out (by simp [selvedgeref07_Take.j0])
    | succ kj2 =>
      have H := HA.out
      clear HA
      simp only [selvedgeref07_Take.j0] at H
      by_cases c6 : x26_2 = true
      · subst c6
        have H1 : (some (0, 0, ([] : List ByteArray), 3)) = some (r1, r2, r3, r4) := by rw [if_pos rfl] at H; exact H
        clear H
        have H := H1
        clear H1
        simp only [Option.some.injEq, Prod.mk.injEq] at H
        obtain ⟨rfl, rfl, rfl, rfl⟩ := H
        have hcz7_0 : wc.cell? ⟨gb315, 0, none⟩ = some (.int .i64 0) := (blk_cell BK315.out 0).trans rfl
        have hcz7_1 : wc.cell? ⟨gb315, 1, none⟩ = some (.int .i64 0) := (blk_cell BK315.out 1).trans rfl
        have hcz7_2 : wc.cell? ⟨gb315, 2, none⟩ = some (.slice none 0 0) := (blk_cell BK315.out 2).trans rfl
        have hfz7_0 := blk_frozen BK315.out 0
        have hfz7_1 := blk_frozen BK315.out 1
        have hfz7_2 := blk_frozen BK315.out 2
        go_wp2
        refine bodyPost_ret (results_ct rfl _ _ gb315 43 #[.int .i64 0, .int .i64 0, .slice none 0 0] (0, 0) _ rfl (by (with_reducible repeat (first | refine blk_drewN ?_ _ | refine blk_drew ?_ | refine blk_alloc ?_ _)); refine blk_put (cs := #[.int .i64 0, .int .i64 0, .slice none 0 0]) ?_ 2 _ rfl; (with_reducible repeat (first | refine blk_drewN ?_ _ | refine blk_drew ?_ | refine blk_alloc ?_ _)); refine blk_put (cs := #[.int .i64 0, .int .i64 0, .slice none 0 0]) ?_ 1 _ rfl; (with_reducible repeat (first | refine blk_drewN ?_ _ | refine blk_drew ?_ | refine blk_alloc ?_ _)); refine blk_put (cs := #[.int .i64 0, .int .i64 0, .slice none 0 0]) ?_ 0 _ rfl; (with_reducible repeat (first | refine blk_drewN ?_ _ | refine blk_drew ?_ | refine blk_alloc ?_ _)); exact BK315.out) Try.underlying43 rfl (by kernel_rfl)) rfl ?_
        exact ⟨_, by first | rfl | (simp [errW_none, errW_some] <;> rfl) | (simp [*, errW_none, errW_some] <;> rfl), by first | exact Kd.R_nil _ _ _ _ _ | exact Kd.N_nil _ _ _ _ _ | exact Kd.V_nil _ _ _ _ _ | exact Kd.Q_nil _ _ _ _ _ | exact Kd.S_nil _ _ _ _ _, by repeat (first | (with_reducible first | exact HB.out | apply below_alloc | apply pw_below_drewN | apply below_drew1 | refine below_set ?_ GE315.out) | exact HB.out)⟩
      · replace c6 := Bool.eq_false_iff.mpr c6
        subst c6
        have H1 : ((selvedgeref01_TakeNum.f kj2 t317).bind fun bt319 => (if bt319.2.2 = 0 then (selvedgeref07_Take.j1 kj2 t316 bt319.1 bt319.2.1 (decide (bt319.1 > 1073741824))) else (selvedgeref07_Take.j1 kj2 t316 bt319.1 bt319.2.1 true))) = some (r1, r2, r3, r4) := by rw [if_neg (show ¬ (false = true) by decide)] at H; exact H
        clear H
        have H := H1
        clear H1
        replace H := Option.bind_eq_some_iff.mp H
        obtain ⟨⟨t319, t320, t321⟩, A80, H⟩ := H
        replace H : (if t321 = 0 then (selvedgeref07_Take.j1 kj2 t316 t319 t320 (decide (t319 > 1073741824))) else (selvedgeref07_Take.j1 kj2 t316 t319 t320 true)) = some (r1, r2, r3, r4) := H
        have A8 := Aside0.mk A80
        clear A80
        have HC9 := Aside0.mk H
        clear H
        go_upto_region 5 with (first | ((with_reducible refine gate_callee (f := 24) rfl ?_); refine goesL_ (some 30) rfl rfl Try.func24 (by kernel_rfl) rfl #[.string t317] rfl (by (try simp only [List.map_toArray, List.map_cons, List.map_nil]); first | done | rfl | (simp only [List.length_drop, List.length_take]; rfl)) ?_; (with_reducible refine (selvedgeref01_TakeNum.calls kj2 t317 t319 t320 t321 _ A8.out).mono ?_); rintro e w' ⟨rfl, ⟨nd, rfl⟩⟩; refine ⟨_, rfl, ?_⟩))
        (try simp only [Act.put, List.setIfInBounds_toArray, List.set_cons_zero, List.set_cons_succ])
        go_cut [39] (fun v39 wc => ∃ (kq : Nat) (x39_8 : Bool), v39 = .bool x39_8 ∧ Aside0 (selvedgeref07_Take.j1 kq t316 t319 t320 x39_8 = some (r1, r2, r3, r4)) ∧ Aside0 (kq ≤ kj2) ∧ Aside0 (wc.heap[gb315]? = some (.cells #[.int .i64 0, .int .i64 0, (.slice none 0 0)] 43 (0, 0))) ∧ Aside0 (Below w.heap.size w wc))
        case first =>
          have H := HC9.out
          clear HC9
          by_cases c10 : t321 = 0
          · rw [if_pos c10] at H
            have c10b0 : (t321 == 0) = true := beq_iff_eq.mpr c10
            have c10b1 : (t321 != 0) = false := bne_eq_false_iff_eq.mpr c10
            clear c10
            (first | rw [c10b0] | (simp only [i64_w, i32_w]; rw [c10b0]) | skip)
            have H' := Aside0.mk H
            clear H
            go_wp2
            go_meet
            case rel => exact ⟨_, (decide (t319 > 1073741824)), (by first | rfl | (simp; done) | (simp [*]; done)), H', ⟨by have := HJ2.out; first | omega | exact Nat.le_refl _⟩, ⟨by (with_reducible repeat (first | refine blk_drewN ?_ _ | refine blk_drew ?_ | refine blk_alloc ?_ _)); exact BK315.out⟩, ⟨by repeat (first | (with_reducible first | exact HB.out | apply below_alloc | apply pw_below_drewN | apply below_drew1 | refine below_set ?_ GE315.out) | exact HB.out)⟩⟩
          · rw [if_neg c10] at H
            have c10b0 : (t321 == 0) = false := beq_eq_false_iff_ne.mpr c10
            have c10b1 : (t321 != 0) = true := bne_iff_ne.mpr c10
            (first | rw [c10b0] | (simp only [i64_w, i32_w]; rw [c10b0]) | skip)
            have H' := Aside0.mk H
            clear H
            go_wp2
            go_meet
            case rel => exact ⟨_, (true), (by first | rfl | (simp; done) | (simp [*]; done)), H', ⟨by have := HJ2.out; first | omega | exact Nat.le_refl _⟩, ⟨by (with_reducible repeat (first | refine blk_drewN ?_ _ | refine blk_drew ?_ | refine blk_alloc ?_ _)); exact BK315.out⟩, ⟨by repeat (first | (with_reducible first | exact HB.out | apply below_alloc | apply pw_below_drewN | apply below_drew1 | refine below_set ?_ GE315.out) | exact HB.out)⟩⟩
        case rest =>
          clear HC9
          try clear c1
          try clear c2
          try clear p2
          try clear c4
          try clear c5
          try clear c5b0
          try clear c5b1
          try clear c6
          try clear c10
          try clear c10b0
          try clear c10b1
          try clear hcz7_0
          try clear hcz7_1
          try clear hcz7_2
          try clear hfz7_0
          try clear hfz7_1
          try clear hfz7_2
          try clear p2
          obtain ⟨kq, x39_8, rfl, HA, HJ8, BK315, HB⟩ := hcut
          cases kq with
          | zero => exact absurd HA.out (by simp [selvedgeref07_Take.j1])
          | succ kj8 =>
            have H := HA.out
            clear HA
            simp only [selvedgeref07_Take.j1] at H
            by_cases c11 : x39_8 = true
            · subst c11
              have H1 : (some (0, 0, ([] : List ByteArray), 3)) = some (r1, r2, r3, r4) := by rw [if_pos rfl] at H; exact H
              clear H
              have H := H1
              clear H1
              simp only [Option.some.injEq, Prod.mk.injEq] at H
              obtain ⟨rfl, rfl, rfl, rfl⟩ := H
              have hcz12_0 : wc.cell? ⟨gb315, 0, none⟩ = some (.int .i64 0) := (blk_cell BK315.out 0).trans rfl
              have hcz12_1 : wc.cell? ⟨gb315, 1, none⟩ = some (.int .i64 0) := (blk_cell BK315.out 1).trans rfl
              have hcz12_2 : wc.cell? ⟨gb315, 2, none⟩ = some (.slice none 0 0) := (blk_cell BK315.out 2).trans rfl
              have hfz12_0 := blk_frozen BK315.out 0
              have hfz12_1 := blk_frozen BK315.out 1
              have hfz12_2 := blk_frozen BK315.out 2
              go_wp2
              refine bodyPost_ret (results_ct rfl _ _ gb315 43 #[.int .i64 0, .int .i64 0, .slice none 0 0] (0, 0) _ rfl (by (with_reducible repeat (first | refine blk_drewN ?_ _ | refine blk_drew ?_ | refine blk_alloc ?_ _)); refine blk_put (cs := #[.int .i64 0, .int .i64 0, .slice none 0 0]) ?_ 2 _ rfl; (with_reducible repeat (first | refine blk_drewN ?_ _ | refine blk_drew ?_ | refine blk_alloc ?_ _)); refine blk_put (cs := #[.int .i64 0, .int .i64 0, .slice none 0 0]) ?_ 1 _ rfl; (with_reducible repeat (first | refine blk_drewN ?_ _ | refine blk_drew ?_ | refine blk_alloc ?_ _)); refine blk_put (cs := #[.int .i64 0, .int .i64 0, .slice none 0 0]) ?_ 0 _ rfl; (with_reducible repeat (first | refine blk_drewN ?_ _ | refine blk_drew ?_ | refine blk_alloc ?_ _)); exact BK315.out) Try.underlying43 rfl (by kernel_rfl)) rfl ?_
              exact ⟨_, by first | rfl | (simp [errW_none, errW_some] <;> rfl) | (simp [*, errW_none, errW_some] <;> rfl), by first | exact Kd.R_nil _ _ _ _ _ | exact Kd.N_nil _ _ _ _ _ | exact Kd.V_nil _ _ _ _ _ | exact Kd.Q_nil _ _ _ _ _ | exact Kd.S_nil _ _ _ _ _, by repeat (first | (with_reducible first | exact HB.out | apply below_alloc | apply pw_below_drewN | apply below_drew1 | refine below_set ?_ GE315.out) | exact HB.out)⟩
            · replace c11 := Bool.eq_false_iff.mpr c11
              subst c11
              have H1 : ((selvedgeref01_TakeRow.f kj8 t320 4 48).bind fun bt322 => ((selvedgeref07_May.f kj8 (wrap64 (t316)) (wrap64 (t319)) bt322.1).bind fun t328 => (if bt322.2.2 = 0 then (if (bt322.2.1.size : Int) > 0 then (some (0, 0, ([] : List ByteArray), 3)) else (if t328 = true then (some (wrap64 (t316), wrap64 (t319), bt322.1, 0)) else (some (0, 0, ([] : List ByteArray), 3)))) else (some (0, 0, ([] : List ByteArray), 3))))) = some (r1, r2, r3, r4) := by rw [if_neg (show ¬ (false = true) by decide)] at H; exact H
              clear H
              have H := H1
              clear H1
              replace H := Option.bind_eq_some_iff.mp H
              obtain ⟨⟨t322, t323, t324⟩, A130, H⟩ := H
              replace H : ((selvedgeref07_May.f kj8 (wrap64 (t316)) (wrap64 (t319)) t322).bind fun t328 => (if t324 = 0 then (if (t323.size : Int) > 0 then (some (0, 0, ([] : List ByteArray), 3)) else (if t328 = true then (some (wrap64 (t316), wrap64 (t319), t322, 0)) else (some (0, 0, ([] : List ByteArray), 3)))) else (some (0, 0, ([] : List ByteArray), 3)))) = some (r1, r2, r3, r4) := H
              have A13 := Aside0.mk A130
              clear A130
              replace H := Option.bind_eq_some_iff.mp H
              obtain ⟨t328, A140, H⟩ := H
              replace H : (if t324 = 0 then (if (t323.size : Int) > 0 then (some (0, 0, ([] : List ByteArray), 3)) else (if t328 = true then (some (wrap64 (t316), wrap64 (t319), t322, 0)) else (some (0, 0, ([] : List ByteArray), 3)))) else (some (0, 0, ([] : List ByteArray), 3))) = some (r1, r2, r3, r4) := H
              have A14 := Aside0.mk A140
              clear A140
              by_cases c15 : t324 = 0
              · rw [if_pos c15] at H
                have c15b0 : (t324 == 0) = true := beq_iff_eq.mpr c15
                have c15b1 : (t324 != 0) = false := bne_eq_false_iff_eq.mpr c15
                clear c15
                by_cases c16 : (t323.size : Int) > 0
                · rw [if_pos c16] at H
                  have c16b0 : decide (0 < (t323.size : Int)) = true := decide_eq_true c16
                  have c16b1 : decide (0 < t323.size) = true := decide_eq_true (by omega)
                  clear c16
                  simp only [Option.some.injEq, Prod.mk.injEq] at H
                  obtain ⟨rfl, rfl, rfl, rfl⟩ := H
                  go_wp2_with (first | ((with_reducible refine gate_callee (f := 33) rfl ?_); refine goesL_ (some 43) rfl rfl Try.func33 (by kernel_rfl) rfl #[.string t320, .int .i64 4, .int .i64 48] rfl (by (try simp only [List.map_toArray, List.map_cons, List.map_nil]); first | done | rfl | (simp only [List.length_drop, List.length_take]; rfl)) ?_; (with_reducible refine (selvedgeref01_TakeRow.calls kj8 t320 4 48 t322 t323 t324 _ A13.out).mono ?_); rintro e w17 ⟨v325, rfl, ho0, hb⟩; refine ⟨_, rfl, ?_⟩; have n0_ := Aside0.mk (Kd.R_lower ho0 (below_size (by repeat (first | (with_reducible first | exact HB.out | apply below_alloc | apply pw_below_drewN | apply below_drew1 | refine below_set ?_ GE315.out) | exact HB.out)))); have n1_ := Aside0.mk (blk_below (g := gb315) (o := .cells #[.int .i64 0, .int .i64 0, .slice none 0 0] 43 (0, 0)) (by (with_reducible repeat (first | refine blk_drewN ?_ _ | refine blk_drew ?_ | refine blk_alloc ?_ _)); exact BK315.out) hb); have n2_ := Aside0.mk (below_step (by repeat (first | (with_reducible first | exact HB.out | apply below_alloc | apply pw_below_drewN | apply below_drew1 | refine below_set ?_ GE315.out) | exact HB.out)) hb); clear BK315; clear HB; have HO326 := n0_; have BK315 := n1_; have HB := n2_; clear n0_ n1_ n2_; (try clear hb); (try clear hb2); (try clear hk); (try clear hi); (try clear ho0); obtain ⟨Ao18, co18, eo18⟩ := Kd.R_slice HO326.out; subst eo18) | ((with_reducible refine gate_dst (N := 13) rfl ?_); (try (refine gate_guard (by rfl) ?_; dsimp only)); refine box_event ?hg (N := 13) ?hd (cs := #[.int .i64 0, .int .i64 0, .slice none 0 0]) (t := 43) ?hr ?_; (case hd => rfl); (case hg => rfl); (case hr => first | (go_simp; done) | (go_simp; rfl)); intro gb327 hg w19 hbox hb; have n0_ := Aside0.mk (Kd.R_below (by (with_reducible repeat (first | apply Kd.R_alloc | apply Kd.R_drewN | apply Kd.R_drew)); exact HO326.out) hb); have n1_ := Aside0.mk (blk_below (g := gb315) (o := .cells #[.int .i64 0, .int .i64 0, .slice none 0 0] 43 (0, 0)) (by (with_reducible repeat (first | refine blk_drewN ?_ _ | refine blk_drew ?_ | refine blk_alloc ?_ _)); exact BK315.out) hb); have n2_ := Aside0.mk (below_step (by repeat (first | (with_reducible first | exact HB.out | apply below_alloc | apply pw_below_drewN | apply below_drew1 | refine below_set ?_ GE315.out) | exact HB.out)) hb); have n3_ := Aside0.mk (hbox); have n4_ := Aside0.mk ((by rw [hg]; exact (below_size (by repeat (first | (with_reducible first | exact HB.out | apply below_alloc | apply pw_below_drewN | apply below_drew1 | refine below_set ?_ GE315.out) | exact HB.out))) : w.heap.size ≤ gb327)); have n5_ := Aside0.mk ((by rw [hg]; exact (below_size (by repeat (first | (with_reducible first | exact HB.out | apply below_alloc | apply pw_below_drewN | apply below_drew1 | refine below_set ?_ GE315.out) | exact HB.out))) : w.heap.size ≤ gb327)); have n6_ := Aside0.mk ((by rw [hg]; exact Nat.ne_of_lt (blk_lt (g := gb315) (o := .cells #[.int .i64 0, .int .i64 0, .slice none 0 0] 43 (0, 0)) (by (with_reducible repeat (first | refine blk_drewN ?_ _ | refine blk_drew ?_ | refine blk_alloc ?_ _)); exact BK315.out)) : gb315 ≠ gb327)); have n7_ := Aside0.mk ((by rw [hg]; exact Nat.ne_of_gt (blk_lt (g := gb315) (o := .cells #[.int .i64 0, .int .i64 0, .slice none 0 0] 43 (0, 0)) (by (with_reducible repeat (first | refine blk_drewN ?_ _ | refine blk_drew ?_ | refine blk_alloc ?_ _)); exact BK315.out)) : gb327 ≠ gb315)); clear HO326; clear BK315; clear HB; have HO326 := n0_; have BK315 := n1_; have HB := n2_; have BK327 := n3_; have GW327 := n4_; have GE327 := n5_; have NB315_327 := n6_; have NB327_315 := n7_; clear n0_ n1_ n2_ n3_ n4_ n5_ n6_ n7_; clear hb hbox hg; have hnb20 := NB327_315.out; have hnc20 := NB315_327.out; have hcz21_0 : w19.cell? ⟨gb327, 0, none⟩ = some (.int .i64 0) := (blk_cell BK327.out 0).trans rfl; have hcz21_1 : w19.cell? ⟨gb327, 1, none⟩ = some (.int .i64 0) := (blk_cell BK327.out 1).trans rfl; have hcz21_2 : w19.cell? ⟨gb327, 2, none⟩ = some (.slice none 0 0) := (blk_cell BK327.out 2).trans rfl; have hfz21_0 := blk_frozen BK327.out 0; have hfz21_1 := blk_frozen BK327.out 1; have hfz21_2 := blk_frozen BK327.out 2) | ((with_reducible refine gate_callee (f := 70) rfl ?_); refine goesL_ (some 54) rfl rfl Try.func70 (by kernel_rfl) rfl #[.agg #[.int .i64 (wrap64 (t316)), .int .i64 (wrap64 (t319)), .slice Ao18 t322.length co18]] rfl (by (try simp only [List.map_toArray, List.map_cons, List.map_nil]); first | done | rfl | (simp only [List.length_drop, List.length_take]; rfl)) ?_; (with_reducible refine (selvedgeref07_May.calls kj8 (wrap64 (t316)) (wrap64 (t319)) _ _ t322 t328 _ ?side1 ?side2 A14.out).mono ?_); (case side1 => refine (Kd.R_reads' (e := 9) (base := w.heap.size) (ok := fun k_ => True) (n := t322.length) (c := co18) ?_).2.2; exact (by (with_reducible repeat (first | apply Kd.R_alloc | apply Kd.R_drewN | apply Kd.R_drew)); exact (Kd.R_mono (Kd.R_far (p := ⟨gb327, 2, none⟩) (Kd.R_far (p := ⟨gb327, 1, none⟩) (Kd.R_far (p := ⟨gb327, 0, none⟩) (Kd.R_types HO326.out BK327.out (by decide)) (fun _ hk => hk.2) (.int .i64 (wrap64 (t316)))) (fun _ hk => hk.2) (.int .i64 (wrap64 (t319)))) (fun _ hk => hk.2) (.slice Ao18 t322.length co18)) (fun _ h_ => h_.1)))); (case side2 => exact (Kd.R_reads' HO326.out).2.1); rintro e w22 ⟨rfl, hb⟩; refine ⟨_, rfl, ?_⟩; have n0_ := Aside0.mk (Kd.R_below (by (with_reducible repeat (first | apply Kd.R_alloc | apply Kd.R_drewN | apply Kd.R_drew)); exact (Kd.R_mono (Kd.R_far (p := ⟨gb327, 2, none⟩) (Kd.R_far (p := ⟨gb327, 1, none⟩) (Kd.R_far (p := ⟨gb327, 0, none⟩) (Kd.R_types HO326.out BK327.out (by decide)) (fun _ hk => hk.2) (.int .i64 (wrap64 (t316)))) (fun _ hk => hk.2) (.int .i64 (wrap64 (t319)))) (fun _ hk => hk.2) (.slice Ao18 t322.length co18)) (fun _ h_ => h_.1))) hb); have n1_ := Aside0.mk (blk_below (g := gb315) (o := .cells #[.int .i64 0, .int .i64 0, .slice none 0 0] 43 (0, 0)) (by (with_reducible repeat (first | refine blk_drewN ?_ _ | refine blk_drew ?_ | refine blk_alloc ?_ _)); refine blk_far ?_ NB315_327.out _; (with_reducible repeat (first | refine blk_drewN ?_ _ | refine blk_drew ?_ | refine blk_alloc ?_ _)); refine blk_far ?_ NB315_327.out _; (with_reducible repeat (first | refine blk_drewN ?_ _ | refine blk_drew ?_ | refine blk_alloc ?_ _)); refine blk_far ?_ NB315_327.out _; (with_reducible repeat (first | refine blk_drewN ?_ _ | refine blk_drew ?_ | refine blk_alloc ?_ _)); exact BK315.out) hb); have n2_ := Aside0.mk (blk_below (g := gb327) (o := .cells #[.int .i64 (wrap64 (t316)), .int .i64 (wrap64 (t319)), .slice Ao18 t322.length co18] 43 (0, 0)) (by (with_reducible repeat (first | refine blk_drewN ?_ _ | refine blk_drew ?_ | refine blk_alloc ?_ _)); refine blk_put (cs := #[.int .i64 (wrap64 (t316)), .int .i64 (wrap64 (t319)), .slice none 0 0]) ?_ 2 _ rfl; (with_reducible repeat (first | refine blk_drewN ?_ _ | refine blk_drew ?_ | refine blk_alloc ?_ _)); refine blk_put (cs := #[.int .i64 (wrap64 (t316)), .int .i64 0, .slice none 0 0]) ?_ 1 _ rfl; (with_reducible repeat (first | refine blk_drewN ?_ _ | refine blk_drew ?_ | refine blk_alloc ?_ _)); refine blk_put (cs := #[.int .i64 0, .int .i64 0, .slice none 0 0]) ?_ 0 _ rfl; (with_reducible repeat (first | refine blk_drewN ?_ _ | refine blk_drew ?_ | refine blk_alloc ?_ _)); exact BK327.out) hb); have n3_ := Aside0.mk (below_step (by repeat (first | (with_reducible first | exact HB.out | apply below_alloc | apply pw_below_drewN | apply below_drew1 | refine below_set ?_ GE315.out | refine below_set ?_ GE327.out) | exact HB.out)) hb); clear HO326; clear BK315; clear BK327; clear HB; have HO326 := n0_; have BK315 := n1_; have BK327 := n2_; have HB := n3_; clear n0_ n1_ n2_ n3_; (try clear hb); (try clear hb2); (try clear hk); (try clear hi); have hcz23_0 : w22.cell? ⟨gb315, 0, none⟩ = some (.int .i64 0) := (blk_cell BK315.out 0).trans rfl; have hcz23_1 : w22.cell? ⟨gb315, 1, none⟩ = some (.int .i64 0) := (blk_cell BK315.out 1).trans rfl; have hcz23_2 : w22.cell? ⟨gb315, 2, none⟩ = some (.slice none 0 0) := (blk_cell BK315.out 2).trans rfl; have hfz23_0 := blk_frozen BK315.out 0; have hfz23_1 := blk_frozen BK315.out 1; have hfz23_2 := blk_frozen BK315.out 2))
                  refine bodyPost_ret (results_ct rfl _ _ gb315 43 #[.int .i64 0, .int .i64 0, .slice none 0 0] (0, 0) _ rfl (by (with_reducible repeat (first | refine blk_drewN ?_ _ | refine blk_drew ?_ | refine blk_alloc ?_ _)); refine blk_put (cs := #[.int .i64 0, .int .i64 0, .slice none 0 0]) ?_ 2 _ rfl; (with_reducible repeat (first | refine blk_drewN ?_ _ | refine blk_drew ?_ | refine blk_alloc ?_ _)); refine blk_put (cs := #[.int .i64 0, .int .i64 0, .slice none 0 0]) ?_ 1 _ rfl; (with_reducible repeat (first | refine blk_drewN ?_ _ | refine blk_drew ?_ | refine blk_alloc ?_ _)); refine blk_put (cs := #[.int .i64 0, .int .i64 0, .slice none 0 0]) ?_ 0 _ rfl; (with_reducible repeat (first | refine blk_drewN ?_ _ | refine blk_drew ?_ | refine blk_alloc ?_ _)); exact BK315.out) Try.underlying43 rfl (by kernel_rfl)) rfl ?_
                  exact ⟨_, by first | rfl | (simp [errW_none, errW_some] <;> rfl) | (simp [*, errW_none, errW_some] <;> rfl), by first | exact Kd.R_nil _ _ _ _ _ | exact Kd.N_nil _ _ _ _ _ | exact Kd.V_nil _ _ _ _ _ | exact Kd.Q_nil _ _ _ _ _ | exact Kd.S_nil _ _ _ _ _, by repeat (first | (with_reducible first | exact HB.out | apply below_alloc | apply pw_below_drewN | apply below_drew1 | refine below_set ?_ GE315.out | refine below_set ?_ GE327.out) | exact HB.out)⟩
                · rw [if_neg c16] at H
                  have c16b0 : decide (0 < (t323.size : Int)) = false := decide_eq_false c16
                  have c16b1 : decide (0 < t323.size) = false := decide_eq_false (by omega)
                  clear c16
                  by_cases c24 : t328 = true
                  · subst c24
                    have H1 : (some (wrap64 (t316), wrap64 (t319), t322, 0)) = some (r1, r2, r3, r4) := by rw [if_pos rfl] at H; exact H
                    clear H
                    have H := H1
                    clear H1
                    simp only [Option.some.injEq, Prod.mk.injEq] at H
                    obtain ⟨rfl, rfl, rfl, rfl⟩ := H
                    go_wp2_with (first | ((with_reducible refine gate_callee (f := 33) rfl ?_); refine goesL_ (some 43) rfl rfl Try.func33 (by kernel_rfl) rfl #[.string t320, .int .i64 4, .int .i64 48] rfl (by (try simp only [List.map_toArray, List.map_cons, List.map_nil]); first | done | rfl | (simp only [List.length_drop, List.length_take]; rfl)) ?_; (with_reducible refine (selvedgeref01_TakeRow.calls kj8 t320 4 48 t322 t323 t324 _ A13.out).mono ?_); rintro e w25 ⟨v325, rfl, ho0, hb⟩; refine ⟨_, rfl, ?_⟩; have n0_ := Aside0.mk (Kd.R_lower ho0 (below_size (by repeat (first | (with_reducible first | exact HB.out | apply below_alloc | apply pw_below_drewN | apply below_drew1 | refine below_set ?_ GE315.out) | exact HB.out)))); have n1_ := Aside0.mk (blk_below (g := gb315) (o := .cells #[.int .i64 0, .int .i64 0, .slice none 0 0] 43 (0, 0)) (by (with_reducible repeat (first | refine blk_drewN ?_ _ | refine blk_drew ?_ | refine blk_alloc ?_ _)); exact BK315.out) hb); have n2_ := Aside0.mk (below_step (by repeat (first | (with_reducible first | exact HB.out | apply below_alloc | apply pw_below_drewN | apply below_drew1 | refine below_set ?_ GE315.out) | exact HB.out)) hb); clear BK315; clear HB; have HO326 := n0_; have BK315 := n1_; have HB := n2_; clear n0_ n1_ n2_; (try clear hb); (try clear hb2); (try clear hk); (try clear hi); (try clear ho0); obtain ⟨Ao26, co26, eo26⟩ := Kd.R_slice HO326.out; subst eo26) | ((with_reducible refine gate_dst (N := 13) rfl ?_); (try (refine gate_guard (by rfl) ?_; dsimp only)); refine box_event ?hg (N := 13) ?hd (cs := #[.int .i64 0, .int .i64 0, .slice none 0 0]) (t := 43) ?hr ?_; (case hd => rfl); (case hg => rfl); (case hr => first | (go_simp; done) | (go_simp; rfl)); intro gb327 hg w27 hbox hb; have n0_ := Aside0.mk (Kd.R_below (by (with_reducible repeat (first | apply Kd.R_alloc | apply Kd.R_drewN | apply Kd.R_drew)); exact HO326.out) hb); have n1_ := Aside0.mk (blk_below (g := gb315) (o := .cells #[.int .i64 0, .int .i64 0, .slice none 0 0] 43 (0, 0)) (by (with_reducible repeat (first | refine blk_drewN ?_ _ | refine blk_drew ?_ | refine blk_alloc ?_ _)); exact BK315.out) hb); have n2_ := Aside0.mk (below_step (by repeat (first | (with_reducible first | exact HB.out | apply below_alloc | apply pw_below_drewN | apply below_drew1 | refine below_set ?_ GE315.out) | exact HB.out)) hb); have n3_ := Aside0.mk (hbox); have n4_ := Aside0.mk ((by rw [hg]; exact (below_size (by repeat (first | (with_reducible first | exact HB.out | apply below_alloc | apply pw_below_drewN | apply below_drew1 | refine below_set ?_ GE315.out) | exact HB.out))) : w.heap.size ≤ gb327)); have n5_ := Aside0.mk ((by rw [hg]; exact (below_size (by repeat (first | (with_reducible first | exact HB.out | apply below_alloc | apply pw_below_drewN | apply below_drew1 | refine below_set ?_ GE315.out) | exact HB.out))) : w.heap.size ≤ gb327)); have n6_ := Aside0.mk ((by rw [hg]; exact Nat.ne_of_lt (blk_lt (g := gb315) (o := .cells #[.int .i64 0, .int .i64 0, .slice none 0 0] 43 (0, 0)) (by (with_reducible repeat (first | refine blk_drewN ?_ _ | refine blk_drew ?_ | refine blk_alloc ?_ _)); exact BK315.out)) : gb315 ≠ gb327)); have n7_ := Aside0.mk ((by rw [hg]; exact Nat.ne_of_gt (blk_lt (g := gb315) (o := .cells #[.int .i64 0, .int .i64 0, .slice none 0 0] 43 (0, 0)) (by (with_reducible repeat (first | refine blk_drewN ?_ _ | refine blk_drew ?_ | refine blk_alloc ?_ _)); exact BK315.out)) : gb327 ≠ gb315)); clear HO326; clear BK315; clear HB; have HO326 := n0_; have BK315 := n1_; have HB := n2_; have BK327 := n3_; have GW327 := n4_; have GE327 := n5_; have NB315_327 := n6_; have NB327_315 := n7_; clear n0_ n1_ n2_ n3_ n4_ n5_ n6_ n7_; clear hb hbox hg; have hnb28 := NB327_315.out; have hnc28 := NB315_327.out; have hcz29_0 : w27.cell? ⟨gb327, 0, none⟩ = some (.int .i64 0) := (blk_cell BK327.out 0).trans rfl; have hcz29_1 : w27.cell? ⟨gb327, 1, none⟩ = some (.int .i64 0) := (blk_cell BK327.out 1).trans rfl; have hcz29_2 : w27.cell? ⟨gb327, 2, none⟩ = some (.slice none 0 0) := (blk_cell BK327.out 2).trans rfl; have hfz29_0 := blk_frozen BK327.out 0; have hfz29_1 := blk_frozen BK327.out 1; have hfz29_2 := blk_frozen BK327.out 2) | ((with_reducible refine gate_callee (f := 70) rfl ?_); refine goesL_ (some 54) rfl rfl Try.func70 (by kernel_rfl) rfl #[.agg #[.int .i64 (wrap64 (t316)), .int .i64 (wrap64 (t319)), .slice Ao26 t322.length co26]] rfl (by (try simp only [List.map_toArray, List.map_cons, List.map_nil]); first | done | rfl | (simp only [List.length_drop, List.length_take]; rfl)) ?_; (with_reducible refine (selvedgeref07_May.calls kj8 (wrap64 (t316)) (wrap64 (t319)) _ _ t322 true _ ?side1 ?side2 A14.out).mono ?_); (case side1 => refine (Kd.R_reads' (e := 9) (base := w.heap.size) (ok := fun k_ => True) (n := t322.length) (c := co26) ?_).2.2; exact (by (with_reducible repeat (first | apply Kd.R_alloc | apply Kd.R_drewN | apply Kd.R_drew)); exact (Kd.R_mono (Kd.R_far (p := ⟨gb327, 2, none⟩) (Kd.R_far (p := ⟨gb327, 1, none⟩) (Kd.R_far (p := ⟨gb327, 0, none⟩) (Kd.R_types HO326.out BK327.out (by decide)) (fun _ hk => hk.2) (.int .i64 (wrap64 (t316)))) (fun _ hk => hk.2) (.int .i64 (wrap64 (t319)))) (fun _ hk => hk.2) (.slice Ao26 t322.length co26)) (fun _ h_ => h_.1)))); (case side2 => exact (Kd.R_reads' HO326.out).2.1); rintro e w30 ⟨rfl, hb⟩; refine ⟨_, rfl, ?_⟩; have n0_ := Aside0.mk (Kd.R_below (by (with_reducible repeat (first | apply Kd.R_alloc | apply Kd.R_drewN | apply Kd.R_drew)); exact (Kd.R_mono (Kd.R_far (p := ⟨gb327, 2, none⟩) (Kd.R_far (p := ⟨gb327, 1, none⟩) (Kd.R_far (p := ⟨gb327, 0, none⟩) (Kd.R_types HO326.out BK327.out (by decide)) (fun _ hk => hk.2) (.int .i64 (wrap64 (t316)))) (fun _ hk => hk.2) (.int .i64 (wrap64 (t319)))) (fun _ hk => hk.2) (.slice Ao26 t322.length co26)) (fun _ h_ => h_.1))) hb); have n1_ := Aside0.mk (blk_below (g := gb315) (o := .cells #[.int .i64 0, .int .i64 0, .slice none 0 0] 43 (0, 0)) (by (with_reducible repeat (first | refine blk_drewN ?_ _ | refine blk_drew ?_ | refine blk_alloc ?_ _)); refine blk_far ?_ NB315_327.out _; (with_reducible repeat (first | refine blk_drewN ?_ _ | refine blk_drew ?_ | refine blk_alloc ?_ _)); refine blk_far ?_ NB315_327.out _; (with_reducible repeat (first | refine blk_drewN ?_ _ | refine blk_drew ?_ | refine blk_alloc ?_ _)); refine blk_far ?_ NB315_327.out _; (with_reducible repeat (first | refine blk_drewN ?_ _ | refine blk_drew ?_ | refine blk_alloc ?_ _)); exact BK315.out) hb); have n2_ := Aside0.mk (blk_below (g := gb327) (o := .cells #[.int .i64 (wrap64 (t316)), .int .i64 (wrap64 (t319)), .slice Ao26 t322.length co26] 43 (0, 0)) (by (with_reducible repeat (first | refine blk_drewN ?_ _ | refine blk_drew ?_ | refine blk_alloc ?_ _)); refine blk_put (cs := #[.int .i64 (wrap64 (t316)), .int .i64 (wrap64 (t319)), .slice none 0 0]) ?_ 2 _ rfl; (with_reducible repeat (first | refine blk_drewN ?_ _ | refine blk_drew ?_ | refine blk_alloc ?_ _)); refine blk_put (cs := #[.int .i64 (wrap64 (t316)), .int .i64 0, .slice none 0 0]) ?_ 1 _ rfl; (with_reducible repeat (first | refine blk_drewN ?_ _ | refine blk_drew ?_ | refine blk_alloc ?_ _)); refine blk_put (cs := #[.int .i64 0, .int .i64 0, .slice none 0 0]) ?_ 0 _ rfl; (with_reducible repeat (first | refine blk_drewN ?_ _ | refine blk_drew ?_ | refine blk_alloc ?_ _)); exact BK327.out) hb); have n3_ := Aside0.mk (below_step (by repeat (first | (with_reducible first | exact HB.out | apply below_alloc | apply pw_below_drewN | apply below_drew1 | refine below_set ?_ GE315.out | refine below_set ?_ GE327.out) | exact HB.out)) hb); clear HO326; clear BK315; clear BK327; clear HB; have HO326 := n0_; have BK315 := n1_; have BK327 := n2_; have HB := n3_; clear n0_ n1_ n2_ n3_; (try clear hb); (try clear hb2); (try clear hk); (try clear hi); have hcz31_0 : w30.cell? ⟨gb327, 0, none⟩ = some (.int .i64 (wrap64 (t316))) := (blk_cell BK327.out 0).trans rfl; have hcz31_1 : w30.cell? ⟨gb327, 1, none⟩ = some (.int .i64 (wrap64 (t319))) := (blk_cell BK327.out 1).trans rfl; have hcz31_2 : w30.cell? ⟨gb327, 2, none⟩ = some (.slice Ao26 t322.length co26) := (blk_cell BK327.out 2).trans rfl; have hfz31_0 := blk_frozen BK327.out 0; have hfz31_1 := blk_frozen BK327.out 1; have hfz31_2 := blk_frozen BK327.out 2; have hcz32_0 : w30.cell? ⟨gb315, 0, none⟩ = some (.int .i64 0) := (blk_cell BK315.out 0).trans rfl; have hcz32_1 : w30.cell? ⟨gb315, 1, none⟩ = some (.int .i64 0) := (blk_cell BK315.out 1).trans rfl; have hcz32_2 : w30.cell? ⟨gb315, 2, none⟩ = some (.slice none 0 0) := (blk_cell BK315.out 2).trans rfl; have hfz32_0 := blk_frozen BK315.out 0; have hfz32_1 := blk_frozen BK315.out 1; have hfz32_2 := blk_frozen BK315.out 2))
                    refine bodyPost_ret (results_ct rfl _ _ gb315 43 #[.int .i64 (wrap64 (t316)), .int .i64 (wrap64 (t319)), .slice Ao26 t322.length co26] (0, 0) _ rfl (by (with_reducible repeat (first | refine blk_drewN ?_ _ | refine blk_drew ?_ | refine blk_alloc ?_ _)); refine blk_put (cs := #[.int .i64 (wrap64 (t316)), .int .i64 (wrap64 (t319)), .slice none 0 0]) ?_ 2 _ rfl; (with_reducible repeat (first | refine blk_drewN ?_ _ | refine blk_drew ?_ | refine blk_alloc ?_ _)); refine blk_put (cs := #[.int .i64 (wrap64 (t316)), .int .i64 0, .slice none 0 0]) ?_ 1 _ rfl; (with_reducible repeat (first | refine blk_drewN ?_ _ | refine blk_drew ?_ | refine blk_alloc ?_ _)); refine blk_put (cs := #[.int .i64 0, .int .i64 0, .slice none 0 0]) ?_ 0 _ rfl; (with_reducible repeat (first | refine blk_drewN ?_ _ | refine blk_drew ?_ | refine blk_alloc ?_ _)); exact BK315.out) Try.underlying43 rfl (by kernel_rfl)) rfl ?_
                    exact ⟨_, by first | rfl | (simp [errW_none, errW_some] <;> rfl) | (simp [*, errW_none, errW_some] <;> rfl), by (with_reducible repeat (first | apply Kd.R_alloc | apply Kd.R_drewN | apply Kd.R_drew)); exact Kd.R_mono (Kd.R_far (p := ⟨gb315, 2, none⟩) (Kd.R_far (p := ⟨gb315, 1, none⟩) (Kd.R_far (p := ⟨gb315, 0, none⟩) (Kd.R_types HO326.out BK315.out (by decide)) (fun _ hk => hk.2) (.int .i64 (wrap64 (t316)))) (fun _ hk => hk.2) (.int .i64 (wrap64 (t319)))) (fun _ hk => hk.2) (.slice Ao26 t322.length co26)) (fun _ hk => trivial), by repeat (first | (with_reducible first | exact HB.out | apply below_alloc | apply pw_below_drewN | apply below_drew1 | refine below_set ?_ GE315.out | refine below_set ?_ GE327.out) | exact HB.out)⟩
                  · replace c24 := Bool.eq_false_iff.mpr c24
                    subst c24
                    have H1 : (some (0, 0, ([] : List ByteArray), 3)) = some (r1, r2, r3, r4) := by rw [if_neg (show ¬ (false = true) by decide)] at H; exact H
                    clear H
                    have H := H1
                    clear H1
                    simp only [Option.some.injEq, Prod.mk.injEq] at H
                    obtain ⟨rfl, rfl, rfl, rfl⟩ := H
                    go_wp2_with (first | ((with_reducible refine gate_callee (f := 33) rfl ?_); refine goesL_ (some 43) rfl rfl Try.func33 (by kernel_rfl) rfl #[.string t320, .int .i64 4, .int .i64 48] rfl (by (try simp only [List.map_toArray, List.map_cons, List.map_nil]); first | done | rfl | (simp only [List.length_drop, List.length_take]; rfl)) ?_; (with_reducible refine (selvedgeref01_TakeRow.calls kj8 t320 4 48 t322 t323 t324 _ A13.out).mono ?_); rintro e w33 ⟨v325, rfl, ho0, hb⟩; refine ⟨_, rfl, ?_⟩; have n0_ := Aside0.mk (Kd.R_lower ho0 (below_size (by repeat (first | (with_reducible first | exact HB.out | apply below_alloc | apply pw_below_drewN | apply below_drew1 | refine below_set ?_ GE315.out) | exact HB.out)))); have n1_ := Aside0.mk (blk_below (g := gb315) (o := .cells #[.int .i64 0, .int .i64 0, .slice none 0 0] 43 (0, 0)) (by (with_reducible repeat (first | refine blk_drewN ?_ _ | refine blk_drew ?_ | refine blk_alloc ?_ _)); exact BK315.out) hb); have n2_ := Aside0.mk (below_step (by repeat (first | (with_reducible first | exact HB.out | apply below_alloc | apply pw_below_drewN | apply below_drew1 | refine below_set ?_ GE315.out) | exact HB.out)) hb); clear BK315; clear HB; have HO326 := n0_; have BK315 := n1_; have HB := n2_; clear n0_ n1_ n2_; (try clear hb); (try clear hb2); (try clear hk); (try clear hi); (try clear ho0); obtain ⟨Ao34, co34, eo34⟩ := Kd.R_slice HO326.out; subst eo34) | ((with_reducible refine gate_dst (N := 13) rfl ?_); (try (refine gate_guard (by rfl) ?_; dsimp only)); refine box_event ?hg (N := 13) ?hd (cs := #[.int .i64 0, .int .i64 0, .slice none 0 0]) (t := 43) ?hr ?_; (case hd => rfl); (case hg => rfl); (case hr => first | (go_simp; done) | (go_simp; rfl)); intro gb327 hg w35 hbox hb; have n0_ := Aside0.mk (Kd.R_below (by (with_reducible repeat (first | apply Kd.R_alloc | apply Kd.R_drewN | apply Kd.R_drew)); exact HO326.out) hb); have n1_ := Aside0.mk (blk_below (g := gb315) (o := .cells #[.int .i64 0, .int .i64 0, .slice none 0 0] 43 (0, 0)) (by (with_reducible repeat (first | refine blk_drewN ?_ _ | refine blk_drew ?_ | refine blk_alloc ?_ _)); exact BK315.out) hb); have n2_ := Aside0.mk (below_step (by repeat (first | (with_reducible first | exact HB.out | apply below_alloc | apply pw_below_drewN | apply below_drew1 | refine below_set ?_ GE315.out) | exact HB.out)) hb); have n3_ := Aside0.mk (hbox); have n4_ := Aside0.mk ((by rw [hg]; exact (below_size (by repeat (first | (with_reducible first | exact HB.out | apply below_alloc | apply pw_below_drewN | apply below_drew1 | refine below_set ?_ GE315.out) | exact HB.out))) : w.heap.size ≤ gb327)); have n5_ := Aside0.mk ((by rw [hg]; exact (below_size (by repeat (first | (with_reducible first | exact HB.out | apply below_alloc | apply pw_below_drewN | apply below_drew1 | refine below_set ?_ GE315.out) | exact HB.out))) : w.heap.size ≤ gb327)); have n6_ := Aside0.mk ((by rw [hg]; exact Nat.ne_of_lt (blk_lt (g := gb315) (o := .cells #[.int .i64 0, .int .i64 0, .slice none 0 0] 43 (0, 0)) (by (with_reducible repeat (first | refine blk_drewN ?_ _ | refine blk_drew ?_ | refine blk_alloc ?_ _)); exact BK315.out)) : gb315 ≠ gb327)); have n7_ := Aside0.mk ((by rw [hg]; exact Nat.ne_of_gt (blk_lt (g := gb315) (o := .cells #[.int .i64 0, .int .i64 0, .slice none 0 0] 43 (0, 0)) (by (with_reducible repeat (first | refine blk_drewN ?_ _ | refine blk_drew ?_ | refine blk_alloc ?_ _)); exact BK315.out)) : gb327 ≠ gb315)); clear HO326; clear BK315; clear HB; have HO326 := n0_; have BK315 := n1_; have HB := n2_; have BK327 := n3_; have GW327 := n4_; have GE327 := n5_; have NB315_327 := n6_; have NB327_315 := n7_; clear n0_ n1_ n2_ n3_ n4_ n5_ n6_ n7_; clear hb hbox hg; have hnb36 := NB327_315.out; have hnc36 := NB315_327.out; have hcz37_0 : w35.cell? ⟨gb327, 0, none⟩ = some (.int .i64 0) := (blk_cell BK327.out 0).trans rfl; have hcz37_1 : w35.cell? ⟨gb327, 1, none⟩ = some (.int .i64 0) := (blk_cell BK327.out 1).trans rfl; have hcz37_2 : w35.cell? ⟨gb327, 2, none⟩ = some (.slice none 0 0) := (blk_cell BK327.out 2).trans rfl; have hfz37_0 := blk_frozen BK327.out 0; have hfz37_1 := blk_frozen BK327.out 1; have hfz37_2 := blk_frozen BK327.out 2) | ((with_reducible refine gate_callee (f := 70) rfl ?_); refine goesL_ (some 54) rfl rfl Try.func70 (by kernel_rfl) rfl #[.agg #[.int .i64 (wrap64 (t316)), .int .i64 (wrap64 (t319)), .slice Ao34 t322.length co34]] rfl (by (try simp only [List.map_toArray, List.map_cons, List.map_nil]); first | done | rfl | (simp only [List.length_drop, List.length_take]; rfl)) ?_; (with_reducible refine (selvedgeref07_May.calls kj8 (wrap64 (t316)) (wrap64 (t319)) _ _ t322 false _ ?side1 ?side2 A14.out).mono ?_); (case side1 => refine (Kd.R_reads' (e := 9) (base := w.heap.size) (ok := fun k_ => True) (n := t322.length) (c := co34) ?_).2.2; exact (by (with_reducible repeat (first | apply Kd.R_alloc | apply Kd.R_drewN | apply Kd.R_drew)); exact (Kd.R_mono (Kd.R_far (p := ⟨gb327, 2, none⟩) (Kd.R_far (p := ⟨gb327, 1, none⟩) (Kd.R_far (p := ⟨gb327, 0, none⟩) (Kd.R_types HO326.out BK327.out (by decide)) (fun _ hk => hk.2) (.int .i64 (wrap64 (t316)))) (fun _ hk => hk.2) (.int .i64 (wrap64 (t319)))) (fun _ hk => hk.2) (.slice Ao34 t322.length co34)) (fun _ h_ => h_.1)))); (case side2 => exact (Kd.R_reads' HO326.out).2.1); rintro e w38 ⟨rfl, hb⟩; refine ⟨_, rfl, ?_⟩; have n0_ := Aside0.mk (Kd.R_below (by (with_reducible repeat (first | apply Kd.R_alloc | apply Kd.R_drewN | apply Kd.R_drew)); exact (Kd.R_mono (Kd.R_far (p := ⟨gb327, 2, none⟩) (Kd.R_far (p := ⟨gb327, 1, none⟩) (Kd.R_far (p := ⟨gb327, 0, none⟩) (Kd.R_types HO326.out BK327.out (by decide)) (fun _ hk => hk.2) (.int .i64 (wrap64 (t316)))) (fun _ hk => hk.2) (.int .i64 (wrap64 (t319)))) (fun _ hk => hk.2) (.slice Ao34 t322.length co34)) (fun _ h_ => h_.1))) hb); have n1_ := Aside0.mk (blk_below (g := gb315) (o := .cells #[.int .i64 0, .int .i64 0, .slice none 0 0] 43 (0, 0)) (by (with_reducible repeat (first | refine blk_drewN ?_ _ | refine blk_drew ?_ | refine blk_alloc ?_ _)); refine blk_far ?_ NB315_327.out _; (with_reducible repeat (first | refine blk_drewN ?_ _ | refine blk_drew ?_ | refine blk_alloc ?_ _)); refine blk_far ?_ NB315_327.out _; (with_reducible repeat (first | refine blk_drewN ?_ _ | refine blk_drew ?_ | refine blk_alloc ?_ _)); refine blk_far ?_ NB315_327.out _; (with_reducible repeat (first | refine blk_drewN ?_ _ | refine blk_drew ?_ | refine blk_alloc ?_ _)); exact BK315.out) hb); have n2_ := Aside0.mk (blk_below (g := gb327) (o := .cells #[.int .i64 (wrap64 (t316)), .int .i64 (wrap64 (t319)), .slice Ao34 t322.length co34] 43 (0, 0)) (by (with_reducible repeat (first | refine blk_drewN ?_ _ | refine blk_drew ?_ | refine blk_alloc ?_ _)); refine blk_put (cs := #[.int .i64 (wrap64 (t316)), .int .i64 (wrap64 (t319)), .slice none 0 0]) ?_ 2 _ rfl; (with_reducible repeat (first | refine blk_drewN ?_ _ | refine blk_drew ?_ | refine blk_alloc ?_ _)); refine blk_put (cs := #[.int .i64 (wrap64 (t316)), .int .i64 0, .slice none 0 0]) ?_ 1 _ rfl; (with_reducible repeat (first | refine blk_drewN ?_ _ | refine blk_drew ?_ | refine blk_alloc ?_ _)); refine blk_put (cs := #[.int .i64 0, .int .i64 0, .slice none 0 0]) ?_ 0 _ rfl; (with_reducible repeat (first | refine blk_drewN ?_ _ | refine blk_drew ?_ | refine blk_alloc ?_ _)); exact BK327.out) hb); have n3_ := Aside0.mk (below_step (by repeat (first | (with_reducible first | exact HB.out | apply below_alloc | apply pw_below_drewN | apply below_drew1 | refine below_set ?_ GE315.out | refine below_set ?_ GE327.out) | exact HB.out)) hb); clear HO326; clear BK315; clear BK327; clear HB; have HO326 := n0_; have BK315 := n1_; have BK327 := n2_; have HB := n3_; clear n0_ n1_ n2_ n3_; (try clear hb); (try clear hb2); (try clear hk); (try clear hi); have hcz39_0 : w38.cell? ⟨gb315, 0, none⟩ = some (.int .i64 0) := (blk_cell BK315.out 0).trans rfl; have hcz39_1 : w38.cell? ⟨gb315, 1, none⟩ = some (.int .i64 0) := (blk_cell BK315.out 1).trans rfl; have hcz39_2 : w38.cell? ⟨gb315, 2, none⟩ = some (.slice none 0 0) := (blk_cell BK315.out 2).trans rfl; have hfz39_0 := blk_frozen BK315.out 0; have hfz39_1 := blk_frozen BK315.out 1; have hfz39_2 := blk_frozen BK315.out 2))
                    refine bodyPost_ret (results_ct rfl _ _ gb315 43 #[.int .i64 0, .int .i64 0, .slice none 0 0] (0, 0) _ rfl (by (with_reducible repeat (first | refine blk_drewN ?_ _ | refine blk_drew ?_ | refine blk_alloc ?_ _)); refine blk_put (cs := #[.int .i64 0, .int .i64 0, .slice none 0 0]) ?_ 2 _ rfl; (with_reducible repeat (first | refine blk_drewN ?_ _ | refine blk_drew ?_ | refine blk_alloc ?_ _)); refine blk_put (cs := #[.int .i64 0, .int .i64 0, .slice none 0 0]) ?_ 1 _ rfl; (with_reducible repeat (first | refine blk_drewN ?_ _ | refine blk_drew ?_ | refine blk_alloc ?_ _)); refine blk_put (cs := #[.int .i64 0, .int .i64 0, .slice none 0 0]) ?_ 0 _ rfl; (with_reducible repeat (first | refine blk_drewN ?_ _ | refine blk_drew ?_ | refine blk_alloc ?_ _)); exact BK315.out) Try.underlying43 rfl (by kernel_rfl)) rfl ?_
                    exact ⟨_, by first | rfl | (simp [errW_none, errW_some] <;> rfl) | (simp [*, errW_none, errW_some] <;> rfl), by first | exact Kd.R_nil _ _ _ _ _ | exact Kd.N_nil _ _ _ _ _ | exact Kd.V_nil _ _ _ _ _ | exact Kd.Q_nil _ _ _ _ _ | exact Kd.S_nil _ _ _ _ _, by repeat (first | (with_reducible first | exact HB.out | apply below_alloc | apply pw_below_drewN | apply below_drew1 | refine below_set ?_ GE315.out | refine below_set ?_ GE327.out) | exact HB.out)⟩
              · rw [if_neg c15] at H
                have c15b0 : (t324 == 0) = false := beq_eq_false_iff_ne.mpr c15
                have c15b1 : (t324 != 0) = true := bne_iff_ne.mpr c15
                simp only [Option.some.injEq, Prod.mk.injEq] at H
                obtain ⟨rfl, rfl, rfl, rfl⟩ := H
                go_wp2_with (first | ((with_reducible refine gate_callee (f := 33) rfl ?_); refine goesL_ (some 43) rfl rfl Try.func33 (by kernel_rfl) rfl #[.string t320, .int .i64 4, .int .i64 48] rfl (by (try simp only [List.map_toArray, List.map_cons, List.map_nil]); first | done | rfl | (simp only [List.length_drop, List.length_take]; rfl)) ?_; (with_reducible refine (selvedgeref01_TakeRow.calls kj8 t320 4 48 t322 t323 t324 _ A13.out).mono ?_); rintro e w40 ⟨v325, rfl, ho0, hb⟩; refine ⟨_, rfl, ?_⟩; have n0_ := Aside0.mk (Kd.R_lower ho0 (below_size (by repeat (first | (with_reducible first | exact HB.out | apply below_alloc | apply pw_below_drewN | apply below_drew1 | refine below_set ?_ GE315.out) | exact HB.out)))); have n1_ := Aside0.mk (blk_below (g := gb315) (o := .cells #[.int .i64 0, .int .i64 0, .slice none 0 0] 43 (0, 0)) (by (with_reducible repeat (first | refine blk_drewN ?_ _ | refine blk_drew ?_ | refine blk_alloc ?_ _)); exact BK315.out) hb); have n2_ := Aside0.mk (below_step (by repeat (first | (with_reducible first | exact HB.out | apply below_alloc | apply pw_below_drewN | apply below_drew1 | refine below_set ?_ GE315.out) | exact HB.out)) hb); clear BK315; clear HB; have HO326 := n0_; have BK315 := n1_; have HB := n2_; clear n0_ n1_ n2_; (try clear hb); (try clear hb2); (try clear hk); (try clear hi); (try clear ho0); obtain ⟨Ao41, co41, eo41⟩ := Kd.R_slice HO326.out; subst eo41) | ((with_reducible refine gate_dst (N := 13) rfl ?_); (try (refine gate_guard (by rfl) ?_; dsimp only)); refine box_event ?hg (N := 13) ?hd (cs := #[.int .i64 0, .int .i64 0, .slice none 0 0]) (t := 43) ?hr ?_; (case hd => rfl); (case hg => rfl); (case hr => first | (go_simp; done) | (go_simp; rfl)); intro gb327 hg w42 hbox hb; have n0_ := Aside0.mk (Kd.R_below (by (with_reducible repeat (first | apply Kd.R_alloc | apply Kd.R_drewN | apply Kd.R_drew)); exact HO326.out) hb); have n1_ := Aside0.mk (blk_below (g := gb315) (o := .cells #[.int .i64 0, .int .i64 0, .slice none 0 0] 43 (0, 0)) (by (with_reducible repeat (first | refine blk_drewN ?_ _ | refine blk_drew ?_ | refine blk_alloc ?_ _)); exact BK315.out) hb); have n2_ := Aside0.mk (below_step (by repeat (first | (with_reducible first | exact HB.out | apply below_alloc | apply pw_below_drewN | apply below_drew1 | refine below_set ?_ GE315.out) | exact HB.out)) hb); have n3_ := Aside0.mk (hbox); have n4_ := Aside0.mk ((by rw [hg]; exact (below_size (by repeat (first | (with_reducible first | exact HB.out | apply below_alloc | apply pw_below_drewN | apply below_drew1 | refine below_set ?_ GE315.out) | exact HB.out))) : w.heap.size ≤ gb327)); have n5_ := Aside0.mk ((by rw [hg]; exact (below_size (by repeat (first | (with_reducible first | exact HB.out | apply below_alloc | apply pw_below_drewN | apply below_drew1 | refine below_set ?_ GE315.out) | exact HB.out))) : w.heap.size ≤ gb327)); have n6_ := Aside0.mk ((by rw [hg]; exact Nat.ne_of_lt (blk_lt (g := gb315) (o := .cells #[.int .i64 0, .int .i64 0, .slice none 0 0] 43 (0, 0)) (by (with_reducible repeat (first | refine blk_drewN ?_ _ | refine blk_drew ?_ | refine blk_alloc ?_ _)); exact BK315.out)) : gb315 ≠ gb327)); have n7_ := Aside0.mk ((by rw [hg]; exact Nat.ne_of_gt (blk_lt (g := gb315) (o := .cells #[.int .i64 0, .int .i64 0, .slice none 0 0] 43 (0, 0)) (by (with_reducible repeat (first | refine blk_drewN ?_ _ | refine blk_drew ?_ | refine blk_alloc ?_ _)); exact BK315.out)) : gb327 ≠ gb315)); clear HO326; clear BK315; clear HB; have HO326 := n0_; have BK315 := n1_; have HB := n2_; have BK327 := n3_; have GW327 := n4_; have GE327 := n5_; have NB315_327 := n6_; have NB327_315 := n7_; clear n0_ n1_ n2_ n3_ n4_ n5_ n6_ n7_; clear hb hbox hg; have hnb43 := NB327_315.out; have hnc43 := NB315_327.out; have hcz44_0 : w42.cell? ⟨gb327, 0, none⟩ = some (.int .i64 0) := (blk_cell BK327.out 0).trans rfl; have hcz44_1 : w42.cell? ⟨gb327, 1, none⟩ = some (.int .i64 0) := (blk_cell BK327.out 1).trans rfl; have hcz44_2 : w42.cell? ⟨gb327, 2, none⟩ = some (.slice none 0 0) := (blk_cell BK327.out 2).trans rfl; have hfz44_0 := blk_frozen BK327.out 0; have hfz44_1 := blk_frozen BK327.out 1; have hfz44_2 := blk_frozen BK327.out 2) | ((with_reducible refine gate_callee (f := 70) rfl ?_); refine goesL_ (some 54) rfl rfl Try.func70 (by kernel_rfl) rfl #[.agg #[.int .i64 (wrap64 (t316)), .int .i64 (wrap64 (t319)), .slice Ao41 t322.length co41]] rfl (by (try simp only [List.map_toArray, List.map_cons, List.map_nil]); first | done | rfl | (simp only [List.length_drop, List.length_take]; rfl)) ?_; (with_reducible refine (selvedgeref07_May.calls kj8 (wrap64 (t316)) (wrap64 (t319)) _ _ t322 t328 _ ?side1 ?side2 A14.out).mono ?_); (case side1 => refine (Kd.R_reads' (e := 9) (base := w.heap.size) (ok := fun k_ => True) (n := t322.length) (c := co41) ?_).2.2; exact (by (with_reducible repeat (first | apply Kd.R_alloc | apply Kd.R_drewN | apply Kd.R_drew)); exact (Kd.R_mono (Kd.R_far (p := ⟨gb327, 2, none⟩) (Kd.R_far (p := ⟨gb327, 1, none⟩) (Kd.R_far (p := ⟨gb327, 0, none⟩) (Kd.R_types HO326.out BK327.out (by decide)) (fun _ hk => hk.2) (.int .i64 (wrap64 (t316)))) (fun _ hk => hk.2) (.int .i64 (wrap64 (t319)))) (fun _ hk => hk.2) (.slice Ao41 t322.length co41)) (fun _ h_ => h_.1)))); (case side2 => exact (Kd.R_reads' HO326.out).2.1); rintro e w45 ⟨rfl, hb⟩; refine ⟨_, rfl, ?_⟩; have n0_ := Aside0.mk (Kd.R_below (by (with_reducible repeat (first | apply Kd.R_alloc | apply Kd.R_drewN | apply Kd.R_drew)); exact (Kd.R_mono (Kd.R_far (p := ⟨gb327, 2, none⟩) (Kd.R_far (p := ⟨gb327, 1, none⟩) (Kd.R_far (p := ⟨gb327, 0, none⟩) (Kd.R_types HO326.out BK327.out (by decide)) (fun _ hk => hk.2) (.int .i64 (wrap64 (t316)))) (fun _ hk => hk.2) (.int .i64 (wrap64 (t319)))) (fun _ hk => hk.2) (.slice Ao41 t322.length co41)) (fun _ h_ => h_.1))) hb); have n1_ := Aside0.mk (blk_below (g := gb315) (o := .cells #[.int .i64 0, .int .i64 0, .slice none 0 0] 43 (0, 0)) (by (with_reducible repeat (first | refine blk_drewN ?_ _ | refine blk_drew ?_ | refine blk_alloc ?_ _)); refine blk_far ?_ NB315_327.out _; (with_reducible repeat (first | refine blk_drewN ?_ _ | refine blk_drew ?_ | refine blk_alloc ?_ _)); refine blk_far ?_ NB315_327.out _; (with_reducible repeat (first | refine blk_drewN ?_ _ | refine blk_drew ?_ | refine blk_alloc ?_ _)); refine blk_far ?_ NB315_327.out _; (with_reducible repeat (first | refine blk_drewN ?_ _ | refine blk_drew ?_ | refine blk_alloc ?_ _)); exact BK315.out) hb); have n2_ := Aside0.mk (blk_below (g := gb327) (o := .cells #[.int .i64 (wrap64 (t316)), .int .i64 (wrap64 (t319)), .slice Ao41 t322.length co41] 43 (0, 0)) (by (with_reducible repeat (first | refine blk_drewN ?_ _ | refine blk_drew ?_ | refine blk_alloc ?_ _)); refine blk_put (cs := #[.int .i64 (wrap64 (t316)), .int .i64 (wrap64 (t319)), .slice none 0 0]) ?_ 2 _ rfl; (with_reducible repeat (first | refine blk_drewN ?_ _ | refine blk_drew ?_ | refine blk_alloc ?_ _)); refine blk_put (cs := #[.int .i64 (wrap64 (t316)), .int .i64 0, .slice none 0 0]) ?_ 1 _ rfl; (with_reducible repeat (first | refine blk_drewN ?_ _ | refine blk_drew ?_ | refine blk_alloc ?_ _)); refine blk_put (cs := #[.int .i64 0, .int .i64 0, .slice none 0 0]) ?_ 0 _ rfl; (with_reducible repeat (first | refine blk_drewN ?_ _ | refine blk_drew ?_ | refine blk_alloc ?_ _)); exact BK327.out) hb); have n3_ := Aside0.mk (below_step (by repeat (first | (with_reducible first | exact HB.out | apply below_alloc | apply pw_below_drewN | apply below_drew1 | refine below_set ?_ GE315.out | refine below_set ?_ GE327.out) | exact HB.out)) hb); clear HO326; clear BK315; clear BK327; clear HB; have HO326 := n0_; have BK315 := n1_; have BK327 := n2_; have HB := n3_; clear n0_ n1_ n2_ n3_; (try clear hb); (try clear hb2); (try clear hk); (try clear hi); have hcz46_0 : w45.cell? ⟨gb315, 0, none⟩ = some (.int .i64 0) := (blk_cell BK315.out 0).trans rfl; have hcz46_1 : w45.cell? ⟨gb315, 1, none⟩ = some (.int .i64 0) := (blk_cell BK315.out 1).trans rfl; have hcz46_2 : w45.cell? ⟨gb315, 2, none⟩ = some (.slice none 0 0) := (blk_cell BK315.out 2).trans rfl; have hfz46_0 := blk_frozen BK315.out 0; have hfz46_1 := blk_frozen BK315.out 1; have hfz46_2 := blk_frozen BK315.out 2))
                refine bodyPost_ret (results_ct rfl _ _ gb315 43 #[.int .i64 0, .int .i64 0, .slice none 0 0] (0, 0) _ rfl (by (with_reducible repeat (first | refine blk_drewN ?_ _ | refine blk_drew ?_ | refine blk_alloc ?_ _)); refine blk_put (cs := #[.int .i64 0, .int .i64 0, .slice none 0 0]) ?_ 2 _ rfl; (with_reducible repeat (first | refine blk_drewN ?_ _ | refine blk_drew ?_ | refine blk_alloc ?_ _)); refine blk_put (cs := #[.int .i64 0, .int .i64 0, .slice none 0 0]) ?_ 1 _ rfl; (with_reducible repeat (first | refine blk_drewN ?_ _ | refine blk_drew ?_ | refine blk_alloc ?_ _)); refine blk_put (cs := #[.int .i64 0, .int .i64 0, .slice none 0 0]) ?_ 0 _ rfl; (with_reducible repeat (first | refine blk_drewN ?_ _ | refine blk_drew ?_ | refine blk_alloc ?_ _)); exact BK315.out) Try.underlying43 rfl (by kernel_rfl)) rfl ?_
                exact ⟨_, by first | rfl | (simp [errW_none, errW_some] <;> rfl) | (simp [*, errW_none, errW_some] <;> rfl), by first | exact Kd.R_nil _ _ _ _ _ | exact Kd.N_nil _ _ _ _ _ | exact Kd.V_nil _ _ _ _ _ | exact Kd.Q_nil _ _ _ _ _ | exact Kd.S_nil _ _ _ _ _, by repeat (first | (with_reducible first | exact HB.out | apply below_alloc | apply pw_below_drewN | apply below_drew1 | refine below_set ?_ GE315.out | refine below_set ?_ GE327.out) | exact HB.out)⟩

end Go.Proofs.Ytijnodcbgadooaa.Px

-- printed by this session's pprint.py (the kit's print, with this session's plugs) out of the translation; Lean checks it
namespace Go.Proofs.Ytijnodcbgadooaa.Px
open Go.RowKit Go.Proofs.YtijnodcbgadooaaW.PrintWords Go.Proofs.YtijnodcbgadooaaW.PrintLast Go.Proofs.YtijnodcbgadooaaW.PrintMore
attribute [local go_sem] max2_int min2_int max_two min_two max_three min_three max_four min_four   -- for this text's walks alone
set_option linter.unusedVariables false
set_option linter.unusedSimpArgs false

/-! ### words: w14_takerow2.tpl -/

/-! the reference takes the same row -/
def takeRowB (s : ByteArray) (many most : Int) : List ByteArray × ByteArray × Int := ((takeRowL (ofB s) many most).1, toB (takeRowL (ofB s) many most).2.1, (takeRowL (ofB s) many most).2.2)
theorem digits_TakeRow_of (s : ByteArray) (many most : Int) (h1 : (Lit.int .i64 many).wf = true) (h2 : (Lit.int .i64 most).wf = true) (h3 : s.size < 4611686018427387904) (h4 : s.size ≤ 8796093022207 ∨ many ≤ 8796093022207) : digits_TakeRow.f s many most = some (takeRowB s many most) := by
  unfold digits_TakeRow.f
  rw [if_pos ⟨h1, h2, h3, h4⟩]; rfl
theorem refTakeTexts_ev (most : Int) (hw : (Lit.int .i64 most).wf = true) (n : Nat) (hn : n < 18446744073709551616) (d : Nat) : ∀ (j : Nat) (s : Bs) (acc : List ByteArray), j + d = n → s.length < 4611686018427387904 → (n ≤ 8796093022207 ∧ acc.length ≤ j ∨ acc.length + s.length ≤ 8796093022207) →
    Ev (fun k => selvedgeref01_TakeRow.l0 k most (n : Int) (toB s) acc (j : Int)) ((takeTexts most d s acc).1, toB (takeTexts most d s acc).2.1, (takeTexts most d s acc).2.2) := by
  induction d with
  | zero =>
    intro j s acc hj hs hroom
    refine Ev.step (fun k => by rw [selvedgeref01_TakeRow.l0]) ?_
    exact ev_neg (by omega) (Ev.now _)
  | succ d ih =>
    intro j s acc hj hs hroom
    refine Ev.step (fun k => by rw [selvedgeref01_TakeRow.l0]) ?_
    refine ev_pos (by omega) (Ev.bind (refTakeText_ev (toB s) most (by rw [toB_size]; omega) hw) ?_)
    simp only [takeTextB, ofB_toB]
    by_cases h0 : (takeTextL s most).2.2 = 0
    · have hsh := takeTextL_short h0
      refine ev_pos h0 (ev_pos (by omega) ?_)
      rw [takeTexts, if_pos h0, u64_wrap_of (by omega) (by omega)]
      exact ih (j + 1) _ _ (by omega) (by omega) (by rw [List.length_append, List.length_singleton]; omega)
    · refine ev_neg h0 ?_
      rw [takeTexts, if_neg h0]
      exact Ev.now _
theorem refTakeRow_ev (s : ByteArray) (many most : Int) (h1 : (Lit.int .i64 many).wf = true) (h2 : (Lit.int .i64 most).wf = true) (h3 : s.size < 4611686018427387904) (h4 : s.size ≤ 8796093022207 ∨ many ≤ 8796093022207) : Ev (fun k => selvedgeref01_TakeRow.f k s many most) (takeRowB s many most) := by
  obtain ⟨m0, m1⟩ := i64_wf h1
  have hv := takeNumL_val (ofB s)
  have hl := takeNumL_len (ofB s)
  rw [ofB_length] at hl
  refine Ev.bind (refTakeNum_ev s h3) ?_
  rcases hq : takeNumL (ofB s) with ⟨v, r, e⟩
  rw [hq] at hv hl
  simp only [takeNumB, takeRowB, takeRowL, hq]
  simp only at hv hl
  by_cases he : e = 0
  · subst he
    refine ev_pos rfl ?_
    have hj : ∀ b : Bool, (b = true ↔ (many < 0 ∨ many < (v : Int))) → Ev (fun k => selvedgeref01_TakeRow.j0 k most (v : Int) (toB r) b) ((takeRowIf (v, r, 0) many most).1, toB (takeRowIf (v, r, 0) many most).2.1, (takeRowIf (v, r, 0) many most).2.2) := by
      intro b hb
      refine Ev.step (fun k => by rw [selvedgeref01_TakeRow.j0]) ?_
      rw [takeRowIf, if_pos rfl]
      by_cases h5 : many < 0 ∨ many < (v : Int)
      · rw [if_pos h5]
        exact ev_pos (hb.2 h5) (Ev.now _)
      · rw [if_neg h5]
        exact ev_neg (fun h => h5 (hb.1 h)) (refTakeTexts_ev most h2 v hv v 0 r [] (by omega) (by omega) (by simp only [List.length_nil]; omega))
    by_cases hm : many < 0
    · exact ev_pos hm (hj true (by simp [hm]))
    · refine ev_neg hm ?_
      rw [u64_wrap_of (by omega) (by omega)]
      exact hj _ (by simp; omega)
  · refine ev_neg he ?_
    rw [takeRowIf, if_neg he]
    exact Ev.now _
/-! what a row's taking comes to -/
theorem takeTextL_text {t : ByteArray} {most : Int} (h0 : (t.size : Int) ≤ most) (h1 : t.size < 18446744073709551616) (r : Bs) : takeTextL (textL (ofB t) ++ r) most = (ofB t, r, 0) := by
  rw [takeTextL, textL, List.append_assoc, takeNumL_num (by rw [ofB_length]; exact h1), takeTextIf, if_pos rfl, takeTextOf, if_neg (by rw [ofB_length]; omega)]
  simp only
  rw [if_neg (by rw [List.length_append]; omega), List.take_left, List.drop_left]
theorem takeTextL_ok {s t r : Bs} {most : Int} (h : takeTextL s most = (t, r, 0)) : s = textL t ++ r ∧ (t.length : Int) ≤ most ∧ t.length < 18446744073709551616 := by
  unfold takeTextL takeTextIf at h
  split at h
  · rename_i h0
    rcases hq : takeNumL s with ⟨v, q, e⟩
    rw [hq] at h h0
    simp only at h0 h
    subst h0
    obtain ⟨rfl, hv⟩ := takeNumL_ok hq
    unfold takeTextOf at h
    split at h
    · cases h
    · rename_i h1
      split at h
      · cases h
      · rename_i h2
        simp only [Prod.mk.injEq, and_true] at h
        obtain ⟨rfl, rfl⟩ := h
        have hl : (List.take v q).length = v := by rw [List.length_take]; omega
        refine ⟨?_, by rw [hl]; omega, by rw [hl]; exact hv⟩
        rw [textL, hl, List.append_assoc, List.take_append_drop]
  · rename_i h0
    simp only [Prod.mk.injEq] at h
    exact absurd h.2.2 h0
theorem takeTexts_row (most : Int) : ∀ (l : List ByteArray) (r : Bs) (acc : List ByteArray), (∀ t ∈ l, (t.size : Int) ≤ most ∧ t.size < 18446744073709551616) → takeTexts most l.length (rowOf l ++ r) acc = (acc ++ l, r, 0)
  | [], r, acc, _ => by simp [takeTexts, rowOf]
  | t :: l, r, acc, h => by
    have e : rowOf (t :: l) ++ r = textL (ofB t) ++ (rowOf l ++ r) := by rw [← List.append_assoc]; rfl
    obtain ⟨h1, h2⟩ := h t List.mem_cons_self
    rw [List.length_cons, takeTexts, e, takeTextL_text h1 h2, if_pos rfl, takeTexts_row most l r _ (fun x hx => h x (List.mem_cons_of_mem _ hx)), toB_ofB]
    simp
theorem takeTexts_ok (most : Int) : ∀ (n : Nat) (s : Bs) (acc l : List ByteArray) (r : Bs), takeTexts most n s acc = (l, r, 0) → ∃ l', l = acc ++ l' ∧ l'.length = n ∧ s = rowOf l' ++ r ∧ ∀ t ∈ l', (t.size : Int) ≤ most ∧ t.size < 18446744073709551616
  | 0, s, acc, l, r, h => by
    simp only [takeTexts, Prod.mk.injEq, and_true] at h
    obtain ⟨rfl, rfl⟩ := h
    exact ⟨[], by simp, rfl, by simp [rowOf], by simp⟩
  | n + 1, s, acc, l, r, h => by
    rw [takeTexts] at h
    split at h
    · rename_i h0
      obtain ⟨l', rfl, h2, h3, h4⟩ := takeTexts_ok most n _ _ _ _ h
      rcases hq : takeTextL s most with ⟨t, q, e⟩
      rw [hq] at h0 h3
      simp only at h0 h3
      subst h0
      obtain ⟨h5, h6, h7⟩ := takeTextL_ok hq
      refine ⟨toB t :: l', by simp, by simp [h2], ?_, ?_⟩
      · rw [h5, h3]
        have e : rowOf (toB t :: l') = textL (ofB (toB t)) ++ rowOf l' := rfl
        rw [e, ofB_toB, List.append_assoc]
      · intro x hx
        rcases List.mem_cons.1 hx with rfl | hx
        · rw [toB_size]; exact ⟨h6, h7⟩
        · exact h4 x hx
    · rename_i h0
      simp only [Prod.mk.injEq] at h
      exact absurd h.2.2 h0
theorem takeRowL_row {l : List ByteArray} {many most : Int} (hm : (l.length : Int) ≤ many) (hl : l.length < 18446744073709551616) (h : ∀ t ∈ l, (t.size : Int) ≤ most ∧ t.size < 18446744073709551616) (r : Bs) : takeRowL (rowL l ++ r) many most = (l, r, 0) := by
  rw [takeRowL, rowL, List.append_assoc, takeNumL_num hl, takeRowIf, if_pos rfl, if_neg (by simp only; omega)]
  simp only
  rw [takeTexts_row most l r [] h, List.nil_append]
theorem takeRowL_ok {s r : Bs} {l : List ByteArray} {many most : Int} (h : takeRowL s many most = (l, r, 0)) : s = rowL l ++ r ∧ (l.length : Int) ≤ many ∧ l.length < 18446744073709551616 ∧ ∀ t ∈ l, (t.size : Int) ≤ most ∧ t.size < 18446744073709551616 := by
  unfold takeRowL takeRowIf at h
  split at h
  · rename_i h0
    rcases hq : takeNumL s with ⟨v, q, e⟩
    rw [hq] at h h0
    simp only at h0 h
    subst h0
    obtain ⟨rfl, hv⟩ := takeNumL_ok hq
    split at h
    · cases h
    · rename_i h1
      obtain ⟨l', hl', h2, h3, h4⟩ := takeTexts_ok most v q [] l r h
      rw [List.nil_append] at hl'
      subst hl'
      refine ⟨?_, by omega, by omega, h4⟩
      rw [rowL, h2, h3, List.append_assoc]
  · rename_i h0
    simp only [Prod.mk.injEq] at h
    exact absurd h.2.2 h0
/-- a beginning of a row's bytes is none -/
theorem takeRowL_cut {l : List ByteArray} {many most : Int} (hl : l.length < 18446744073709551616) (hs : ∀ t ∈ l, t.size < 18446744073709551616) (cut : Nat) (hc : cut < (rowL l).length) : (takeRowL ((rowL l).take cut) many most).2.2 ≠ 0 := by
  intro h
  rcases hq : takeRowL ((rowL l).take cut) many most with ⟨l', r, e⟩
  rw [hq] at h
  simp only at h
  subst h
  obtain ⟨h1, _, h3, h4⟩ := takeRowL_ok hq
  have e : rowL l' ++ (r ++ (rowL l).drop cut) = rowL l ++ [] := by rw [← List.append_assoc, ← h1, List.take_append_drop, List.append_nil]
  obtain ⟨_, h6⟩ := rowL_cancel h3 hl (fun t ht => (h4 t ht).2) hs e
  have := congrArg List.length h6
  rw [List.length_append, List.length_drop] at this
  simp only [List.length_nil] at this
  omega
theorem takeNumL_cut {v : Nat} (hv : v < 18446744073709551616) (cut : Nat) (hc : cut < (numL v).length) : (takeNumL ((numL v).take cut)).2.2 = 2 := by
  have hl := be_len8 hv
  rcases cut with _ | cut
  · rfl
  · have hn : (UInt8.ofNat (be v).length).toNat = (be v).length := by simp; omega
    rw [numL, List.length_cons] at hc
    rw [numL, List.take_succ_cons, takeNumL, hn, if_neg (by omega), if_pos (by rw [List.length_take]; omega)]
theorem rowOf_bulk (l : List ByteArray) (h : ∀ t ∈ l, t.size < 18446744073709551616) : (rowOf l).length ≤ 10 * (l.map (fun t => t.size + 1)).sum ∧ l.length ≤ (l.map (fun t => t.size + 1)).sum ∧ ∀ t ∈ l, t.size ≤ (l.map (fun t => t.size + 1)).sum := by
  induction l with
  | nil => simp [rowOf]
  | cons t l ih =>
    have e : rowOf (t :: l) = textL (ofB t) ++ rowOf l := rfl
    have h1 := h t List.mem_cons_self
    obtain ⟨h2, h3, h4⟩ := ih (fun x hx => h x (List.mem_cons_of_mem _ hx))
    have h5 := numL_length (v := (ofB t).length) (by rw [ofB_length]; omega)
    rw [ofB_length] at h5
    rw [e, List.length_append, textL, List.length_append, ofB_length, List.length_cons, List.map_cons, List.sum_cons]
    refine ⟨by omega, by omega, fun x hx => ?_⟩
    rcases List.mem_cons.1 hx with rfl | hx
    · omega
    · have := h4 x hx; omega


end Go.Proofs.Ytijnodcbgadooaa.Px

-- printed by this session's pprint.py (the kit's print, with this session's plugs) out of the translation; Lean checks it
namespace Go.Proofs.Ytijnodcbgadooaa.Px
open Go.RowKit Go.Proofs.YtijnodcbgadooaaW.PrintWords Go.Proofs.YtijnodcbgadooaaW.PrintLast Go.Proofs.YtijnodcbgadooaaW.PrintMore
attribute [local go_sem] max2_int min2_int max_two min_two max_three min_three max_four min_four   -- for this text's walks alone
set_option linter.unusedVariables false
set_option linter.unusedSimpArgs false

/-! ### words: w15_batchtake.tpl -/

/-! the batch of bytes -/
def takeBatchIf (o q : Int) (e : Bool) (s : Bs) : Int × Int × List ByteArray × Int :=
  if e = true ∧ o ≤ 64 ∧ q ≤ 1073741824 ∧ (takeRowL s 4 48).2.2 = 0 ∧ (takeRowL s 4 48).2.1 = [] ∧ mayB o q (takeRowL s 4 48).1 = true then (o, q, (takeRowL s 4 48).1, 0) else (0, 0, [], 3)
theorem takeBatchIf_pos {o q : Int} {e : Bool} {s : Bs} (h : e = true ∧ o ≤ 64 ∧ q ≤ 1073741824 ∧ (takeRowL s 4 48).2.2 = 0 ∧ (takeRowL s 4 48).2.1 = [] ∧ mayB o q (takeRowL s 4 48).1 = true) : takeBatchIf o q e s = (o, q, (takeRowL s 4 48).1, 0) := if_pos h
theorem takeBatchIf_neg {o q : Int} {e : Bool} {s : Bs} (h : ¬ (e = true ∧ o ≤ 64 ∧ q ≤ 1073741824 ∧ (takeRowL s 4 48).2.2 = 0 ∧ (takeRowL s 4 48).2.1 = [] ∧ mayB o q (takeRowL s 4 48).1 = true)) : takeBatchIf o q e s = (0, 0, [], 3) := if_neg h
def takeBatchL (s : Bs) : Int × Int × List ByteArray × Int :=
  takeBatchIf (takeNumL s).1 (takeNumL (takeNumL s).2.1).1 (decide ((takeNumL s).2.2 = 0 ∧ (takeNumL (takeNumL s).2.1).2.2 = 0)) (takeNumL (takeNumL s).2.1).2.1
theorem toList_nil (s : ByteArray) : s.toList = ([] : List UInt8) ↔ ofB s = [] := by rw [toList_ofB]
theorem batchTake_j0 (s : Bs) (o q : Nat) (e b : Bool) (hs : s.length < 4611686018427387904) (ho : o < 18446744073709551616) (hq : q < 18446744073709551616) (hb : b = true ↔ ¬ (e = true ∧ (o : Int) ≤ 64 ∧ (q : Int) ≤ 1073741824)) :
    Ev (fun k => batch_Take.j0 k (toB s) (o : Int) (q : Int) b) (takeBatchIf o q e s) := by
  refine Ev.step (fun k => by rw [batch_Take.j0]) ?_
  by_cases h : e = true ∧ (o : Int) ≤ 64 ∧ (q : Int) ≤ 1073741824
  · obtain ⟨h1, h2, h3⟩ := h
    refine ev_neg (fun hh => hb.1 hh ⟨h1, h2, h3⟩) (ev_bind_const (digits_TakeRow_of (toB s) 4 48 (by decide) (by decide) (by rw [toB_size]; exact hs) (.inr (by omega))) ?_)
    simp only [takeRowB, ofB_toB]
    rw [wrap64_of (by omega) (by omega), wrap64_of (by omega) (by omega)]
    by_cases h4 : (takeRowL s 4 48).2.2 = 0
    · refine ev_pos h4 ?_
      by_cases h5 : (takeRowL s 4 48).2.1 = []
      · refine ev_pos (by rw [toList_nil, ofB_toB]; exact h5) (ev_bind_const rfl ?_)
        by_cases h6 : mayB o q (takeRowL s 4 48).1 = true
        · rw [takeBatchIf_pos ⟨h1, h2, h3, h4, h5, h6⟩]
          exact ev_pos h6 (Ev.now _)
        · rw [takeBatchIf_neg (fun hh => h6 hh.2.2.2.2.2)]
          exact ev_neg h6 (Ev.now _)
      · rw [takeBatchIf_neg (fun hh => h5 hh.2.2.2.2.1)]
        exact ev_neg (by rw [toList_nil, ofB_toB]; exact h5) (Ev.now _)
    · rw [takeBatchIf_neg (fun hh => h4 hh.2.2.2.1)]
      exact ev_neg h4 (Ev.now _)
  · rw [takeBatchIf_neg (fun hh => h ⟨hh.1, hh.2.1, hh.2.2.1⟩)]
    exact ev_pos (hb.2 h) (Ev.now _)
theorem batchTake_ev (s : ByteArray) (hs : s.size < 4611686018427387904) : Ev (fun k => batch_Take.f k s) (takeBatchL (ofB s)) := by
  have h1 := takeNumL_len (ofB s)
  have h2 := takeNumL_len (takeNumL (ofB s)).2.1
  have h3 := takeNumL_val (ofB s)
  have h4 := takeNumL_val (takeNumL (ofB s)).2.1
  rw [ofB_length] at h1
  have t2 := takeNum_ev (takeNumB s).2.1 (by simp only [takeNumB, toB_size]; omega)
  refine Ev.bind (takeNum_ev s hs) (Ev.bind t2 ?_)
  simp only [takeNumB, ofB_toB]
  have key := fun b => batchTake_j0 (takeNumL (takeNumL (ofB s)).2.1).2.1 (takeNumL (ofB s)).1 (takeNumL (takeNumL (ofB s)).2.1).1 (decide ((takeNumL (ofB s)).2.2 = 0 ∧ (takeNumL (takeNumL (ofB s)).2.1).2.2 = 0)) b (by omega) h3 h4
  by_cases e1 : (takeNumL (ofB s)).2.2 = 0
  · refine ev_pos e1 ?_
    by_cases e2 : (takeNumL (takeNumL (ofB s)).2.1).2.2 = 0
    · refine ev_pos e2 ?_
      by_cases e3 : ((takeNumL (ofB s)).1 : Int) > 64
      · exact ev_pos e3 (key true (by simp [e1, e2]; omega))
      · exact ev_neg e3 (key _ (by simp [e1, e2]; omega))
    · exact ev_neg e2 (key true (by simp [e2]))
  · exact ev_neg e1 (key true (by simp [e1]))
theorem refMay_loop (o q : Int) (l : List ByteArray) (hl : l.length < 4611686018427387904) (d : Nat) : ∀ j, j + d = l.length →
    Ev (fun k => selvedgeref07_May.l0 k (j : Int) o q l) (!(l.drop j).any oddTx) := by
  induction d with
  | zero =>
    intro j hj
    refine Ev.step (fun k => by rw [selvedgeref07_May.l0]) ?_
    refine ev_neg (by omega) (ev_eq (Ev.now _) ?_)
    rw [List.drop_eq_nil_of_le (by omega)]; rfl
  | succ d ih =>
    intro j hj
    have hjl : j < l.length := by omega
    refine Ev.step (fun k => by rw [selvedgeref07_May.l0]) ?_
    refine ev_pos (by omega) (ev_pos (by omega) ?_)
    rw [rdOf_at l j hjl, List.drop_eq_getElem_cons hjl, wrap64_of (by omega) (by omega), List.any_cons]
    by_cases h1 : (l[j].size : Int) < 1
    · refine ev_pos h1 (ev_eq (Ev.now _) ?_)
      have : l[j].size = 0 := by omega
      simp [oddTx, this]
    · refine ev_neg h1 ?_
      by_cases h2 : (l[j].size : Int) > 48
      · refine ev_pos h2 (ev_eq (Ev.now _) ?_)
        have : 48 < l[j].size := by omega
        simp [oddTx, this]
      · refine ev_neg h2 (ev_eq (ih (j + 1) (by omega)) ?_)
        have e1 : oddTx l[j] = false := by
          have : ¬ l[j].size = 0 := by omega
          have h3 : ¬ 48 < l[j].size := by omega
          simp [oddTx, this, h3]
        rw [e1, Bool.false_or]
theorem refMay_ev (o q : Int) (l : List ByteArray) (hl : l.length < 4611686018427387904) : Ev (fun k => selvedgeref07_May.f k o q l) (mayB o q l) := by
  have key : ∀ b : Bool, (b = true ↔ ¬ (1 ≤ o ∧ o ≤ 64 ∧ 1 ≤ q ∧ q ≤ 1073741824 ∧ 1 ≤ l.length ∧ l.length ≤ 4)) → Ev (fun k => selvedgeref07_May.j0 k b o q l) (mayB o q l) := by
    intro b hb
    refine Ev.step (fun k => by rw [selvedgeref07_May.j0]) ?_
    by_cases h : 1 ≤ o ∧ o ≤ 64 ∧ 1 ≤ q ∧ q ≤ 1073741824 ∧ 1 ≤ l.length ∧ l.length ≤ 4
    · refine ev_neg (fun hh => hb.1 hh h) (ev_eq (refMay_loop o q l hl l.length 0 (by omega)) ?_)
      obtain ⟨h1, h2, h3, h4, h5, h6⟩ := h
      simp [mayB, h1, h2, h3, h4, h5, h6]
    · refine ev_pos (hb.2 h) (ev_eq (Ev.now _) ?_)
      symm
      rw [← Bool.not_eq_true, mayB_iff]
      exact fun ⟨h1, h2, h3, h4, h5, h6, _⟩ => h ⟨h1, h2, h3, h4, h5, h6⟩
  by_cases h1 : o < 1
  · exact ev_pos h1 (key true (by simp; omega))
  refine ev_neg h1 ?_
  by_cases h2 : o > 64
  · exact ev_pos h2 (key true (by simp; omega))
  refine ev_neg h2 ?_
  by_cases h3 : q < 1
  · exact ev_pos h3 (key true (by simp; omega))
  refine ev_neg h3 ?_
  by_cases h4 : q > 1073741824
  · exact ev_pos h4 (key true (by simp; omega))
  refine ev_neg h4 ?_
  by_cases h5 : (l.length : Int) < 1
  · exact ev_pos h5 (key true (by simp; omega))
  exact ev_neg h5 (key _ (by simp; omega))
theorem takeRowL_fail {s : Bs} {many most : Int} (h : ¬ (takeRowL s many most).2.2 = 0) : (takeRowL s many most).1.length < 4611686018427387904 := by
  have key : ∀ (n : Nat) (s : Bs) (acc : List ByteArray), (takeTexts most n s acc).2.2 ≠ 0 → (takeTexts most n s acc).1 = [] := by
    intro n
    induction n with
    | zero => intro s acc hh; exact absurd rfl hh
    | succ n ih =>
      intro s acc hh
      rw [takeTexts] at hh ⊢
      split
      · rename_i h0; rw [if_pos h0] at hh; exact ih _ _ hh
      · rfl
  unfold takeRowL takeRowIf at h ⊢
  split
  · rename_i h0
    rw [if_pos h0] at h
    split
    · simp
    · rename_i h1
      rw [if_neg h1] at h
      rw [key _ _ _ h]; simp
  · simp
theorem takeRowL_len (s : Bs) (many most : Int) (hm : many < 4611686018427387904) : (takeRowL s many most).1.length < 4611686018427387904 := by
  by_cases h : (takeRowL s many most).2.2 = 0
  · rcases hq : takeRowL s many most with ⟨l, r, e⟩
    rw [hq] at h
    simp only at h
    subst h
    obtain ⟨_, h2, _⟩ := takeRowL_ok hq
    simp only; omega
  · exact takeRowL_fail h
theorem refBatchTake_ev (s : ByteArray) (hs : s.size < 4611686018427387904) : Ev (fun k => selvedgeref07_Take.f k s) (takeBatchL (ofB s)) := by
  have h1 := takeNumL_len (ofB s)
  have h2 := takeNumL_len (takeNumL (ofB s)).2.1
  have h3 := takeNumL_val (ofB s)
  have h4 := takeNumL_val (takeNumL (ofB s)).2.1
  rw [ofB_length] at h1
  have t2 := refTakeNum_ev (toB (takeNumL (ofB s)).2.1) (by simp only [toB_size]; omega)
  refine Ev.bind (refTakeNum_ev s hs) ?_
  simp only [takeNumB, ofB_toB] at t2 ⊢
  have key1 : ∀ b : Bool, (b = true ↔ ¬ ((takeNumL (takeNumL (ofB s)).2.1).2.2 = 0 ∧ ((takeNumL (takeNumL (ofB s)).2.1).1 : Int) ≤ 1073741824)) → (takeNumL (ofB s)).2.2 = 0 → ((takeNumL (ofB s)).1 : Int) ≤ 64 →
      Ev (fun k => selvedgeref07_Take.j1 k ((takeNumL (ofB s)).1 : Int) ((takeNumL (takeNumL (ofB s)).2.1).1 : Int) (toB (takeNumL (takeNumL (ofB s)).2.1).2.1) b) (takeBatchL (ofB s)) := by
    intro b hb e1 e0
    refine Ev.step (fun k => by rw [selvedgeref07_Take.j1]) ?_
    rw [takeBatchL]
    by_cases h : (takeNumL (takeNumL (ofB s)).2.1).2.2 = 0 ∧ ((takeNumL (takeNumL (ofB s)).2.1).1 : Int) ≤ 1073741824
    · obtain ⟨h5, h6⟩ := h
      refine ev_neg (fun hh => hb.1 hh ⟨h5, h6⟩) (Ev.bind (refTakeRow_ev (toB (takeNumL (takeNumL (ofB s)).2.1).2.1) 4 48 (by decide) (by decide) (by rw [toB_size]; omega) (.inr (by omega))) ?_)
      simp only [takeRowB, ofB_toB]
      rw [wrap64_of (by omega) (by omega), wrap64_of (by omega) (by omega)]
      refine Ev.bind (refMay_ev _ _ _ (takeRowL_len _ _ _ (by omega))) ?_
      by_cases h7 : (takeRowL (takeNumL (takeNumL (ofB s)).2.1).2.1 4 48).2.2 = 0
      · refine ev_pos h7 ?_
        by_cases h8 : (takeRowL (takeNumL (takeNumL (ofB s)).2.1).2.1 4 48).2.1 = []
        · refine ev_neg (by rw [h8, toB_size]; simp) ?_
          by_cases h9 : mayB (takeNumL (ofB s)).1 (takeNumL (takeNumL (ofB s)).2.1).1 (takeRowL (takeNumL (takeNumL (ofB s)).2.1).2.1 4 48).1 = true
          · rw [takeBatchIf_pos ⟨by simp [e1, h5], e0, h6, h7, h8, h9⟩]
            exact ev_pos h9 (Ev.now _)
          · rw [takeBatchIf_neg (fun hh => h9 hh.2.2.2.2.2)]
            exact ev_neg h9 (Ev.now _)
        · rw [takeBatchIf_neg (fun hh => h8 hh.2.2.2.2.1)]
          refine ev_pos ?_ (Ev.now _)
          rw [toB_size]
          have : (takeRowL (takeNumL (takeNumL (ofB s)).2.1).2.1 4 48).2.1.length ≠ 0 := fun hh => h8 (List.eq_nil_of_length_eq_zero hh)
          omega
      · rw [takeBatchIf_neg (fun hh => h7 hh.2.2.2.1)]
        exact ev_neg h7 (Ev.now _)
    · rw [takeBatchIf_neg (fun hh => h ⟨(of_decide_eq_true hh.1).2, hh.2.2.1⟩)]
      exact ev_pos (hb.2 h) (Ev.now _)
  have key0 : ∀ b : Bool, (b = true ↔ ¬ ((takeNumL (ofB s)).2.2 = 0 ∧ ((takeNumL (ofB s)).1 : Int) ≤ 64)) → Ev (fun k => selvedgeref07_Take.j0 k ((takeNumL (ofB s)).1 : Int) (toB (takeNumL (ofB s)).2.1) b) (takeBatchL (ofB s)) := by
    intro b hb
    refine Ev.step (fun k => by rw [selvedgeref07_Take.j0]) ?_
    by_cases h : (takeNumL (ofB s)).2.2 = 0 ∧ ((takeNumL (ofB s)).1 : Int) ≤ 64
    · obtain ⟨e1, e0⟩ := h
      refine ev_neg (fun hh => hb.1 hh ⟨e1, e0⟩) (Ev.bind t2 ?_)
      by_cases e2 : (takeNumL (takeNumL (ofB s)).2.1).2.2 = 0
      · exact ev_pos e2 (key1 _ (by simp [e2]) e1 e0)
      · exact ev_neg e2 (key1 true (by simp [e2]) e1 e0)
    · rw [takeBatchL, takeBatchIf_neg (fun hh => h ⟨(of_decide_eq_true hh.1).1, hh.2.1⟩)]
      exact ev_pos (hb.2 h) (Ev.now _)
  by_cases e1 : (takeNumL (ofB s)).2.2 = 0
  · exact ev_pos e1 (key0 _ (by simp [e1]))
  · exact ev_neg e1 (key0 true (by simp [e1]))
theorem takeBatchL_err (s : Bs) : (takeBatchL s).2.2.2 = 0 ∨ takeBatchL s = (0, 0, [], 3) := by
  unfold takeBatchL takeBatchIf
  split
  · exact .inl rfl
  · exact .inr rfl
theorem takeBatchL_len (s : Bs) : (takeBatchL s).2.2.1.length < 4611686018427387904 := by
  unfold takeBatchL takeBatchIf
  split
  · exact takeRowL_len _ _ _ (by omega)
  · simp
theorem takeBatchL_ok {s : Bs} {o q : Int} {l : List ByteArray} (h : takeBatchL s = (o, q, l, 0)) : s = batchL o q l ∧ mayB o q l = true := by
  unfold takeBatchL takeBatchIf at h
  split at h
  · rename_i hc
    obtain ⟨h1, h2, h3, h4, h5, h6⟩ := hc
    obtain ⟨h7, h8⟩ := of_decide_eq_true h1
    simp only [Prod.mk.injEq, and_true] at h
    obtain ⟨rfl, rfl, rfl⟩ := h
    refine ⟨?_, h6⟩
    rcases hq : takeNumL s with ⟨v, r, e⟩
    rw [hq] at h4 h5 h7 h8
    simp only at h4 h5 h7 h8 ⊢
    subst h7
    obtain ⟨rfl, _⟩ := takeNumL_ok hq
    rcases hq2 : takeNumL r with ⟨v2, r2, e2⟩
    rw [hq2] at h4 h5 h8
    simp only at h4 h5 h8 ⊢
    subst h8
    obtain ⟨rfl, _⟩ := takeNumL_ok hq2
    rcases hq3 : takeRowL r2 4 48 with ⟨l, r3, e3⟩
    rw [hq3] at h4 h5
    simp only at h4 h5 ⊢
    subst h4 h5
    obtain ⟨h9, _⟩ := takeRowL_ok hq3
    rw [List.append_nil] at h9
    rw [batchL, ← h9, Int.toNat_natCast, Int.toNat_natCast, List.append_assoc]
  · simp at h
theorem takeBatchL_batch {o q : Int} {l : List ByteArray} (h : mayB o q l = true) : takeBatchL (batchL o q l) = (o, q, l, 0) := by
  obtain ⟨h1, h2, h3, h4, h5, h6, h7⟩ := (mayB_iff o q l).1 h
  obtain ⟨a, rfl⟩ := Int.eq_ofNat_of_zero_le (show 0 ≤ o by omega)
  obtain ⟨b, rfl⟩ := Int.eq_ofNat_of_zero_le (show 0 ≤ q by omega)
  have e1 : takeNumL (batchL a b l) = (a, numL b ++ rowL l, 0) := by
    rw [batchL, Int.toNat_natCast, Int.toNat_natCast, List.append_assoc]
    exact takeNumL_num (by omega) _
  have e2 : takeNumL (numL b ++ rowL l) = (b, rowL l, 0) := takeNumL_num (by omega) _
  have e3 : takeRowL (rowL l) 4 48 = (l, [], 0) := by
    have := takeRowL_row (l := l) (many := 4) (most := 48) (by omega) (by omega) (fun t ht => by have := h7 t ht; omega) []
    rwa [List.append_nil] at this
  rw [takeBatchL, e1]
  simp only
  rw [e2]
  simp only
  rw [takeBatchIf_pos (by rw [e3]; exact ⟨by simp, h2, h4, rfl, rfl, h⟩), e3]


end Go.Proofs.Ytijnodcbgadooaa.Px

/- BatchBack as a statement without Go: a batch that may be is taken from its bytes as it was; a byte more is none, a byte less is none; for every batch and every cut. -/
namespace Go.Proofs.Ytijnodcbgadooaa.Pure
open Go.RowKit Go.Proofs.Ytijnodcbgadooaa.Px Go.Proofs.YtijnodcbgadooaaW.PrintWords Go.Proofs.YtijnodcbgadooaaW.PrintLast Go.Proofs.YtijnodcbgadooaaW.PrintMore

theorem takeBatch_none {s : Bs} (h : ∀ o q l, mayB o q l = true → s ≠ batchL o q l) : (takeBatchL s).2.2.2 = 3 := by
  rcases takeBatchL_err s with h0 | h0
  · rcases hq : takeBatchL s with ⟨o, q, l, e⟩
    rw [hq] at h0
    simp only at h0
    subst h0
    obtain ⟨h1, h2⟩ := takeBatchL_ok hq
    exact absurd h1 (h o q l h2)
  · rw [h0]

theorem BatchBack : selvedgelaw07_BatchBack_PureS := by
  rintro a0 a1 _ hw ⟨_, _, k1, _⟩ _
  have hl : a0.f2.length < 4611686018427387904 := by
    have : a0.f2.length * 16 ≤ 140737488351232 := k1
    omega
  refine Ev.rounds (ev_bind_const shown07_of (ev_bind_const (batch_Bytes_of _ _ _) ?_))
  by_cases h : mayB a0.f0 a0.f1 a0.f2 = true
  · rw [if_pos h]
    obtain ⟨_, _, _, _, _, h6, h7⟩ := (mayB_iff _ _ _).1 h
    have r1 := rowOf_le a0.f2 48 (by omega) (fun t ht => (h7 t ht).2)
    have r2 := numL_length (v := a0.f2.length) (by omega)
    have r4 := numL_length (v := a0.f0.toNat) (by omega)
    have r5 := numL_length (v := a0.f1.toNat) (by omega)
    have r3 : (batchL a0.f0 a0.f1 a0.f2).length ≤ 400 := by rw [batchL, List.length_append, List.length_append, rowL, List.length_append]; omega
    have t1 := takeBatchL_batch h
    refine ev_pos rfl (Ev.bind (batchTake_ev _ (by rw [toB_size]; omega)) (Ev.bind (refBatchSame_ev _ _ _ _ _ _ (by rw [ofB_toB, t1]; exact hl)) (ev_pos (by rw [toB_size]; omega) ?_)))
    refine Ev.bind (batchTake_ev _ (by rw [ByteArray.size_append, toB_size]; show _ + 1 < _; omega)) ?_
    rw [ofB_toB, t1]
    have e0 : (takeBatchL (ofB (toB (batchL a0.f0 a0.f1 a0.f2) ++ (⟨#[0]⟩ : ByteArray)))).2.2.2 = 3 := by
      rw [ofB_append, ofB_toB]
      refine takeBatch_none (fun o q l hm he => ?_)
      obtain ⟨_, _, _, h9⟩ := batchL_cancel h hm (r := [0]) (t := []) (by rw [List.append_nil]; exact he)
      cases h9
    refine ev_pos (by simp [batchEq]) (ev_pos rfl (Ev.step (fun k => by rw [selvedgelaw07_BatchBack.j0]) ?_))
    refine ev_neg (by rw [e0]; decide) ?_
    by_cases c1 : a1 < 0
    · exact ev_pos c1 (Ev.now _)
    refine ev_neg c1 ?_
    by_cases c2 : a1 ≥ ((toB (batchL a0.f0 a0.f1 a0.f2)).size : Int)
    · exact ev_pos c2 (Ev.now _)
    rw [toB_size] at c2
    refine ev_neg (by rw [toB_size]; exact c2) (ev_pos (by omega) (ev_pos (by rw [toB_size]; omega) ?_))
    have ex : (toB (batchL a0.f0 a0.f1 a0.f2)).extract 0 a1.toNat = toB ((batchL a0.f0 a0.f1 a0.f2).take a1.toNat) := by rw [extract_toB, List.drop_zero, Nat.sub_zero]
    rw [ex]
    refine Ev.bind (batchTake_ev _ (by rw [toB_size, List.length_take]; omega)) (ev_pos rfl (ev_eq (Ev.now _) ?_))
    rw [ofB_toB, beq_iff_eq]
    refine takeBatch_none (fun o q l hm he => ?_)
    obtain ⟨_, _, _, h9⟩ := batchL_cancel h hm (r := []) (t := (batchL a0.f0 a0.f1 a0.f2).drop a1.toNat) (by rw [List.append_nil, ← he, List.take_append_drop])
    have := congrArg List.length h9
    rw [List.length_drop, List.length_nil] at this
    omega
  · rw [if_neg h]
    refine ev_neg (by simp) (ev_pos rfl (ev_bind_const rfl (ev_eq (Ev.now _) ?_)))
    simpa using h

end Go.Proofs.Ytijnodcbgadooaa.Pure

-- written by this session's rows.py: the row of the law BatchBack
namespace Go.Proofs.Ytijnodcbgadooaa.batchBack
open Go.ChangeShapes Go.WideShapes Go.ChangeAt Go.RowKit
open Go.ChangeMaps (open_string shut_string)
open Go.RowKit Go.Proofs.Ytijnodcbgadooaa.Px Go.Proofs.YtijnodcbgadooaaW.PrintWords Go.Proofs.YtijnodcbgadooaaW.PrintLast Go.Proofs.YtijnodcbgadooaaW.PrintMore
set_option linter.unusedVariables false
theorem own : ownKnob Try.prog.godebug = none := by kernel_rfl
theorem laidOut : laidOutB Try.prog = true := by kernel_rfl
set_option maxRecDepth 100000 in
/-- what the walk gives, for every argument of the row -/
theorem contract (H : Type) (enc : TypeId × Value → H) (W : World) (base : Nat) (args : Array Value) (ds gs : List (DataW H)) (before : List MemPlace)
    (hval0 : ∀ (j : Nat) t v, Try.f17.params[j]? = some t → args[j]? = some v → Value.okWide Try.prog W .any base t v)
    (hW : DataW.Whole enc Try.prog Try.f17.params.toList Rows.batchBackSpec.vars false W args.toList ds gs before)
    (hsz0 : (DataW.weightsEach Try.prog (Try.f17.params.toList ++ Rows.batchBackSpec.plain.varTypes Try.prog) (ds ++ gs)).all (· ≤ reachBytes) = true) :
    Calls Try.prog 17 args W fun e W' => ∃ v, e = .returned v ∧ Rows.batchBackSpec.post enc Try.prog Try.f17 false true false false W args v W' := by
  have hval : ∀ (j : Nat) t v, Try.f17.params[j]? = some t → args[j]? = some v → Value.okWide Try.prog W .any base t v := hval0
  have hW' := hW
  obtain ⟨p, q, hA0, hV, rfl, hfz, hnd⟩ := hW
  have hA : DataW.TrodAll enc Try.prog W 0 (fun _ => true) true Try.f17.params.toList args.toList ds p := hA0
  have hsz := hsz0
  rw [Try.params17] at hA hval hsz
  obtain ⟨v0, vs0, d0, ds0, p0, q0, hargs, rfl, rfl, h0, r0⟩ := trodAll_cons hA
  obtain ⟨v1, vs1, d1, ds1, p1, q1, rfl, rfl, rfl, h1, r1⟩ := trodAll_cons r0
  obtain ⟨rfl, rfl, rfl⟩ := trodAll_nil r1
  obtain rfl : args = #[v0, v1] := by cases args; simp_all
  obtain ⟨rfl, rfl⟩ := trodVars_none hV
  have t0 := h0
  have lt0 : ∀ x ∈ p0, x.block < W.heap.size := by obtain ⟨m, hm⟩ := t0; exact DataW.trod_lt m _ _ _ hm
  have t1 := h1
  have lt1 : ∀ x ∈ p1, x.block < W.heap.size := by obtain ⟨m, hm⟩ := t1; exact DataW.trod_lt m _ _ _ hm
  obtain ⟨a0, K0, ok0, wt0, bk0⟩ := fit_arg fit43 h0
  have wq0 := wt0 (fun n hn => of_decide_eq_true (List.all_eq_true.1 hsz n (DataW.weights_mem_each (j := 0) (t := rd43.t) (d := d0) rfl rfl n hn)))
  obtain ⟨cs0, rfl, sz0⟩ := okWide_struct Try.underlying43 (hval 0 43 v0 rfl rfl)
  obtain ⟨A0_2, c0_2, e0, l0_2, g0_2⟩ := k43_open (show k43.K W a0 _ from K0)
  obtain rfl : cs0 = #[.int .i64 a0.f0, .int .i64 a0.f1, .slice A0_2 a0.f2.length c0_2] := by have := congrArg List.toArray e0; simpa [Value.cells] using this
  obtain ⟨a1, K1, ok1, wt1, bk1⟩ := fit_arg (fit_int Try.underlying3) h1
  have wq1 := wt1 (fun n hn => of_decide_eq_true (List.all_eq_true.1 hsz n (DataW.weights_mem_each (j := 1) (t := (rdInt 3 .i64).t) (d := d1) rfl rfl n hn)))
  obtain ⟨a1', rfl, rfl, rfl, y1⟩ := open_int Try.underlying3 (hval 1 3 v1 rfl rfl) h1
  have e1 : a1' = a1 := by have := K1; simpa [rdInt, rdBool, rdString, Kd.int, Kd.bool, Kd.string, Kd.scalar, Value.cells] using this
  subst e1
  obtain ⟨kk, hkk⟩ := Pure.BatchBack a0 a1' ok0 ok1 wq0 wq1
  refine (selvedgelaw07_BatchBack.calls kk (a0.f0) (a0.f1) A0_2 c0_2 (a0.f2) a1' true W g0_2 l0_2 hkk).mono fun e W' ⟨he, bel0⟩ => ?_
  have bel := bel0
  subst he
  exact ⟨_, rfl, _, _, _, [], _, [], hW', trodAll_mk1 (shut_bool Try.underlying4 _), (trodAll_cons_mk (Below.trod laidOut (by kernel_rfl) (of_decide_eq_true (by kernel_rfl)) t0 bel lt0) (trodAll_cons_mk (Below.trod laidOut (by kernel_rfl) (of_decide_eq_true (by kernel_rfl)) t1 bel lt1) trodAll_mk0)), rfl, bel.frame _, fun h => by cases h⟩
set_option maxRecDepth 100000 in
theorem lifted (os : Os) (started : os.Started) (H : Type) (enc : TypeId × Value → H) :
    ReturnsInHanded {} Try.checked os 17 .any (Rows.batchBackSpec.pre6 enc Try.prog Try.f17 Rows.batchBackRow.domain false) (Rows.batchBackSpec.post enc Try.prog Try.f17 false true false false) := by
  refine returnsInHanded_of_change_sized (C := Try.checked) own started (by kernel_rfl) Try.func17
    (ChangeSpec.witness6 (enc := enc) (C := Try.checked) false ⟨#[], #[.agg #[.int .i64 0, .int .i64 0, .slice none 0 0], .int .i64 0], []⟩ 8 (by kernel_rfl) (by kernel_rfl) (by kernel_rfl) (by kernel_rfl)) ?_
  intro W base args ds gs before hval hW _ hsz _
  exact contract H enc W base args ds gs before hval hW hsz
theorem proved : Rows.BatchBackSaid :=
  OpenClaim.holds_of_wide 17 Try.f17 rfl rfl rfl rfl rfl rfl rfl ⟨rfl, rfl, rfl, rfl, rfl⟩ rfl rfl rfl rfl rfl (by kernel_rfl) Try.func17 (by kernel_rfl)
    (of_decide_eq_true (by kernel_rfl)) (by unfold Func.isWrapper; first | (rw [if_pos (by decide +kernel)]; kernel_rfl) | (rw [if_neg (by decide +kernel)]; exact ⟨rfl, rfl⟩))
    (fun os started H enc _ => lifted os started H enc)
#print axioms proved
end Go.Proofs.Ytijnodcbgadooaa.batchBack
namespace Go.Proofs.Ytijnodcbgadooaa
/-- The row, under a short name, for the claim. -/
theorem batchBack_holds : Rows.BatchBackSaid := batchBack.proved
end Go.Proofs.Ytijnodcbgadooaa
