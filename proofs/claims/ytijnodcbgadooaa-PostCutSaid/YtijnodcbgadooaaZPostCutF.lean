/- part 6 of the law PostCut: the texts of its proof, merged by this session's bundle.py. What is proved: the statement at the end of the last of these texts; its conditions are those of the given row. -/
import Derived.WalkKit
import Derived.ProofKit
import Derived.OpenShut
import Derived.ShutString
import Derived.ChangeOld
import Derived.Below
import Derived.SizedLaws
import Derived.JoinedCond
import Derived.Carry
import Derived.WideShapes
import Derived.Test.YtijnodcbgadooaaZPostCutA
import Derived.Test.YtijnodcbgadooaaZPostCutB
import Derived.Test.YtijnodcbgadooaaZPostCutC
import Derived.Test.YtijnodcbgadooaaZPostCutD
import Derived.Test.YtijnodcbgadooaaZPostCutE
-- printed by this session's pprint.py (the kit's print, with this session's plugs) out of the translation; Lean checks it
namespace Go.Proofs.Ytijnodcbgadooaa.Px
open Go.RowKit Go.Proofs.YtijnodcbgadooaaW.PrintWords Go.Proofs.YtijnodcbgadooaaW.PrintLast Go.Proofs.YtijnodcbgadooaaW.PrintMore
attribute [local go_sem] max2_int min2_int max_two min_two max_three min_three max_four min_four   -- for this text's walks alone
set_option linter.unusedVariables false
set_option linter.unusedSimpArgs false

/-! ### selvedgeref01_Same: function 34 -/
def selvedgeref01_Same.l0 : Nat → List ByteArray → List ByteArray → Int → Option (Bool)
  | 0, _, _, _ => none
  | k + 1, x0, x1, x5 => if x5 < (x0.length : Int) then (if 0 ≤ x5 then (if x5 < (x1.length : Int) then (if (rdOf ByteArray.empty x0 x5).toList = (rdOf ByteArray.empty x1 x5).toList then (selvedgeref01_Same.l0 k x0 x1 (wrap64 (x5 + 1))) else (some false)) else (none)) else (none)) else (some true)
def selvedgeref01_Same.f (k : Nat) (l0 : List ByteArray) (l1 : List ByteArray) : Option (Bool) := if (l0.length : Int) = (l1.length : Int) then (selvedgeref01_Same.l0 k l0 l1 0) else (some false)
theorem selvedgeref01_Same.mono_l : ∀ k, (∀ y0 y1 y2, LeO (selvedgeref01_Same.l0 k y0 y1 y2) (selvedgeref01_Same.l0 (k + 1) y0 y1 y2))
  | 0 => fun _ _ _ r h => by simp [selvedgeref01_Same.l0] at h
  | k + 1 => by
    have ih0 := selvedgeref01_Same.mono_l k
    · intro y0 y1 y2
      unfold selvedgeref01_Same.l0
      repeat' first
      | (with_reducible exact ih0 _ _ _)
      | (with_reducible exact LeO.refl _)
      | (with_reducible exact LeO.none _)
      | (with_reducible refine LeO.ite ?_ ?_)
      | (with_reducible refine LeO.bind ?_ (fun _ => ?_))
      | exact ih0 _ _ _
      | exact LeO.none _
      | refine LeO.ite ?_ ?_
      | refine LeO.bind ?_ (fun _ => ?_)
theorem selvedgeref01_Same.mono : ∀ a0 a1 k, LeO (selvedgeref01_Same.f k a0 a1) (selvedgeref01_Same.f (k + 1) a0 a1) := by
  intro a0 a1 k
  have ih0 := selvedgeref01_Same.mono_l k
  unfold selvedgeref01_Same.f
  repeat' first
      | (with_reducible exact ih0 _ _ _)
      | (with_reducible exact LeO.refl _)
      | (with_reducible exact LeO.none _)
      | (with_reducible refine LeO.ite ?_ ?_)
      | (with_reducible refine LeO.bind ?_ (fun _ => ?_))
      | exact ih0 _ _ _
      | exact LeO.none _
      | refine LeO.ite ?_ ?_
      | refine LeO.bind ?_ (fun _ => ?_)
set_option maxHeartbeats 8000000 in
set_option maxRecDepth 100000 in
theorem selvedgeref01_Same.calls (k : Nat) (A0 : Option Addr) (c0 : Nat) (l0 : List ByteArray) (A1 : Option Addr) (c1 : Nat) (l1 : List ByteArray) (r : Bool) (w : World) (hr0 : Kd.C Kd.string w A0 l0.length l0) (hc0 : l0.length ≤ c0) (hr1 : Kd.C Kd.string w A1 l1.length l1) (hc1 : l1.length ≤ c1) (h : selvedgeref01_Same.f k l0 l1 = some r) :
    Calls Try.prog 34 #[.slice A0 l0.length c0, .slice A1 l1.length c1] w fun e w' => e = .returned (.bool r) ∧ Drawn0 w w' := by
  have HR0 := Aside0.mk hr0
  have HC0 := Aside0.mk hc0
  clear hr0 hc0
  have HR1 := Aside0.mk hr1
  have HC1 := Aside0.mk hc1
  clear hr1 hc1
  have H : (if (l0.length : Int) = (l1.length : Int) then (selvedgeref01_Same.l0 k l0 l1 0) else (some false)) = some r := h
  clear h
  by_cases c3 : (l0.length : Int) = (l1.length : Int)
  · rw [if_pos c3] at H
    have c3b0 : ((l0.length : Int) == (l1.length : Int)) = true := beq_iff_eq.mpr c3
    have c3b1 : ((l0.length : Int) != (l1.length : Int)) = false := bne_eq_false_iff_eq.mpr c3
    have c3b2 : (l0.length == l1.length) = true := by first | simpa using c3 | (simp at c3 ⊢; omega)
    clear c3
    have H' := Aside0.mk H
    clear H
    go_enter Try.func34, Try.ntmps34
    go_wp2
    repeat (go_quiet (fail); try go_wp2)
    go_loopg [5] k (fun kq v5 w' => ∃ (x5_1 : Int), v5 = .int .i64 x5_1 ∧ Aside0 (selvedgeref01_Same.l0 kq l0 l1 x5_1 = some r) ∧ Aside0 (kq ≤ k) ∧ Drawn0 w w')
    case atStart => exact ⟨(0), (by first | rfl | (simp; done) | (simp [*]; done)), H', ⟨Nat.le_refl _⟩, by repeat (first | exact Drawn0.refl _ | apply Drawn0.step)⟩
    case round =>
      clear H'
      try clear c1
      try clear p2
      try clear c3
      try clear c3b0
      try clear c3b1
      try clear c3b2
      obtain ⟨x5_1, rfl, HA, HK1, ⟨m1, rfl⟩⟩ := hrel
      cases gk with
      | zero => exact absurd HA.out (by simp [selvedgeref01_Same.l0])
      | succ k1 =>
        have H := HA.out
        clear HA
        simp only [selvedgeref01_Same.l0] at H
        by_cases c4 : x5_1 < (l0.length : Int)
        · rw [if_pos c4] at H
          have c4b0 : decide (x5_1 < (l0.length : Int)) = true := decide_eq_true c4
          clear c4
          by_cases c5 : 0 ≤ x5_1
          · rw [if_pos c5] at H
            have c5b0 : decide (0 ≤ x5_1) = true := decide_eq_true c5
            clear c5
            by_cases c6 : x5_1 < (l1.length : Int)
            · rw [if_pos c6] at H
              have c6b0 : decide (x5_1 < (l1.length : Int)) = true := decide_eq_true c6
              clear c6
              by_cases c7 : (rdOf ByteArray.empty l0 x5_1).toList = (rdOf ByteArray.empty l1 x5_1).toList
              · rw [if_pos c7] at H
                have c7b0 : ((rdOf ByteArray.empty l0 x5_1).toList == (rdOf ByteArray.empty l1 x5_1).toList) = true := beq_iff_eq.mpr c7
                have c7b1 : ((rdOf ByteArray.empty l0 x5_1).toList != (rdOf ByteArray.empty l1 x5_1).toList) = false := bne_eq_false_iff_eq.mpr c7
                clear c7
                have H' := Aside0.mk H
                clear H
                have p159 : 0 ≤ (x5_1 : Int) := of_decide_eq_true (by first | (with_reducible assumption) | assumption)
                have q159 : x5_1 < (l0.length : Int) := of_decide_eq_true (by first | (with_reducible assumption) | assumption)
                obtain ⟨ad159, e159, hx159_0⟩ := Kd.at_string HR0.out x5_1 p159 q159
                cases e159
                replace p159 := eq_true p159
                replace q159 := eq_true q159
                have p160 : 0 ≤ (x5_1 : Int) := of_decide_eq_true (by first | (with_reducible assumption) | assumption)
                have q160 : x5_1 < (l1.length : Int) := of_decide_eq_true (by first | (with_reducible assumption) | assumption)
                obtain ⟨ad160, e160, hx160_0⟩ := Kd.at_string HR1.out x5_1 p160 q160
                cases e160
                replace p160 := eq_true p160
                replace q160 := eq_true q160
                go_wp2
                repeat (go_quiet (fail); try go_wp2)
                go_roundg k1
                case measure => have := HK1.out; omega
                case rel => exact ⟨(wrap64 (x5_1 + 1)), (by first | rfl | (simp; done) | (simp [*]; done)), H', ⟨by have := HK1.out; omega⟩, by repeat (first | exact Drawn0.refl _ | apply Drawn0.step)⟩
              · rw [if_neg c7] at H
                have c7b0 : ((rdOf ByteArray.empty l0 x5_1).toList == (rdOf ByteArray.empty l1 x5_1).toList) = false := beq_eq_false_iff_ne.mpr c7
                have c7b1 : ((rdOf ByteArray.empty l0 x5_1).toList != (rdOf ByteArray.empty l1 x5_1).toList) = true := bne_iff_ne.mpr c7
                obtain rfl := Option.some.inj H
                have p159 : 0 ≤ (x5_1 : Int) := of_decide_eq_true (by first | (with_reducible assumption) | assumption)
                have q159 : x5_1 < (l0.length : Int) := of_decide_eq_true (by first | (with_reducible assumption) | assumption)
                obtain ⟨ad159, e159, hx159_0⟩ := Kd.at_string HR0.out x5_1 p159 q159
                cases e159
                replace p159 := eq_true p159
                replace q159 := eq_true q159
                have p160 : 0 ≤ (x5_1 : Int) := of_decide_eq_true (by first | (with_reducible assumption) | assumption)
                have q160 : x5_1 < (l1.length : Int) := of_decide_eq_true (by first | (with_reducible assumption) | assumption)
                obtain ⟨ad160, e160, hx160_0⟩ := Kd.at_string HR1.out x5_1 p160 q160
                cases e160
                replace p160 := eq_true p160
                replace q160 := eq_true q160
                go_wp2
                repeat (go_quiet (fail); try go_wp2)
                go_ret
                exact ⟨by first | rfl | (simp; done) | (simp [*]; done), by repeat (first | exact Drawn0.refl _ | apply Drawn0.step)⟩
            · rw [if_neg c6] at H
              exact absurd H (by simp)
          · rw [if_neg c5] at H
            exact absurd H (by simp)
        · rw [if_neg c4] at H
          have c4b0 : decide (x5_1 < (l0.length : Int)) = false := decide_eq_false c4
          clear c4
          obtain rfl := Option.some.inj H
          go_wp2
          repeat (go_quiet (fail); try go_wp2)
          go_ret
          exact ⟨by first | rfl | (simp; done) | (simp [*]; done), by repeat (first | exact Drawn0.refl _ | apply Drawn0.step)⟩
  · rw [if_neg c3] at H
    have c3b0 : ((l0.length : Int) == (l1.length : Int)) = false := beq_eq_false_iff_ne.mpr c3
    have c3b1 : ((l0.length : Int) != (l1.length : Int)) = true := bne_iff_ne.mpr c3
    have c3b2 : (l0.length == l1.length) = false := by first | simpa using c3 | (simp at c3 ⊢; omega)
    obtain rfl := Option.some.inj H
    go_enter Try.func34, Try.ntmps34
    go_wp2
    repeat (go_quiet (fail); try go_wp2)
    go_ret
    exact ⟨by first | rfl | (simp; done) | (simp [*]; done), by repeat (first | exact Drawn0.refl _ | apply Drawn0.step)⟩

end Go.Proofs.Ytijnodcbgadooaa.Px

-- printed by this session's pprint.py (the kit's print, with this session's plugs) out of the translation; Lean checks it
namespace Go.Proofs.Ytijnodcbgadooaa.Px
open Go.RowKit Go.Proofs.YtijnodcbgadooaaW.PrintWords Go.Proofs.YtijnodcbgadooaaW.PrintLast Go.Proofs.YtijnodcbgadooaaW.PrintMore
attribute [local go_sem] max2_int min2_int max_two min_two max_three min_three max_four min_four   -- for this text's walks alone
set_option linter.unusedVariables false
set_option linter.unusedSimpArgs false

/-! ### selvedgeref07_Same: function 30 -/
def selvedgeref07_Same.f (k : Nat) (a0_0 : Int) (a0_1 : Int) (l0_2 : List ByteArray) (a1_0 : Int) (a1_1 : Int) (l1_2 : List ByteArray) : Option (Bool) := (selvedgeref01_Same.f k l0_2 l1_2).bind fun t163 => (if t163 = true then (if a0_0 = a1_0 then (some (a0_1 == a1_1)) else (some false)) else (some false))
theorem selvedgeref07_Same.mono : ∀ a0 a1 a2 a3 a4 a5 k, LeO (selvedgeref07_Same.f k a0 a1 a2 a3 a4 a5) (selvedgeref07_Same.f (k + 1) a0 a1 a2 a3 a4 a5) := by
  intro a0 a1 a2 a3 a4 a5 k
  unfold selvedgeref07_Same.f
  repeat' first
      | (with_reducible exact selvedgeref01_Same.mono _ _ _)
      | (with_reducible exact LeO.refl _)
      | (with_reducible exact LeO.none _)
      | (with_reducible refine LeO.ite ?_ ?_)
      | (with_reducible refine LeO.bind ?_ (fun _ => ?_))
      | exact selvedgeref01_Same.mono _ _ _
      | exact LeO.none _
      | refine LeO.ite ?_ ?_
      | refine LeO.bind ?_ (fun _ => ?_)
set_option maxHeartbeats 8000000 in
set_option maxRecDepth 100000 in
theorem selvedgeref07_Same.calls (k : Nat) (a0_0 : Int) (a0_1 : Int) (A0_2 : Option Addr) (c0_2 : Nat) (l0_2 : List ByteArray) (a1_0 : Int) (a1_1 : Int) (A1_2 : Option Addr) (c1_2 : Nat) (l1_2 : List ByteArray) (r : Bool) (w : World) (hr0_2 : Kd.C Kd.string w A0_2 l0_2.length l0_2) (hc0_2 : l0_2.length ≤ c0_2) (hr1_2 : Kd.C Kd.string w A1_2 l1_2.length l1_2) (hc1_2 : l1_2.length ≤ c1_2) (h : selvedgeref07_Same.f k a0_0 a0_1 l0_2 a1_0 a1_1 l1_2 = some r) :
    Calls Try.prog 30 #[.agg #[.int .i64 a0_0, .int .i64 a0_1, .slice A0_2 l0_2.length c0_2], .agg #[.int .i64 a1_0, .int .i64 a1_1, .slice A1_2 l1_2.length c1_2]] w fun e w' => e = .returned (.bool r) ∧ Below w.heap.size w w' := by
  have hu43 := Try.underlying43
  have HR0_2 := Aside0.mk hr0_2
  have HC0_2 := Aside0.mk hc0_2
  clear hr0_2 hc0_2
  have HR1_2 := Aside0.mk hr1_2
  have HC1_2 := Aside0.mk hc1_2
  clear hr1_2 hc1_2
  have HB := Aside0.mk (Below.refl w.heap.size w)
  have H : ((selvedgeref01_Same.f k l0_2 l1_2).bind fun t163 => (if t163 = true then (if a0_0 = a1_0 then (some (a0_1 == a1_1)) else (some false)) else (some false))) = some r := h
  clear h
  replace H := Option.bind_eq_some_iff.mp H
  obtain ⟨t163, A30, H⟩ := H
  replace H : (if t163 = true then (if a0_0 = a1_0 then (some (a0_1 == a1_1)) else (some false)) else (some false)) = some r := H
  have A3 := Aside0.mk A30
  clear A30
  by_cases c4 : t163 = true
  · subst c4
    have H1 : (if a0_0 = a1_0 then (some (a0_1 == a1_1)) else (some false)) = some r := by rw [if_pos rfl] at H; exact H
    clear H
    have H := H1
    clear H1
    by_cases c5 : a0_0 = a1_0
    · rw [if_pos c5] at H
      have c5b0 : (a0_0 == a1_0) = true := beq_iff_eq.mpr c5
      have c5b1 : (a0_0 != a1_0) = false := bne_eq_false_iff_eq.mpr c5
      clear c5
      obtain rfl := Option.some.inj H
      go_enter Try.func30, Try.ntmps30
      go_wp2_with (first | ((with_reducible refine gate_dst (N := 2) rfl ?_); refine box_event ?hg (N := 2) ?hd (cs := #[.int .i64 a0_0, .int .i64 a0_1, .slice A0_2 l0_2.length c0_2]) (t := 43) ?hr ?_; (case hd => rfl); (case hg => rfl); (case hr => first | (go_simp; done) | (go_simp; rfl)); intro gb161 hg w6 hbox hb; have n0_ := Aside0.mk (below_step (by repeat (first | (with_reducible first | exact HB.out | apply below_alloc | apply pw_below_drewN | apply below_drew1) | exact HB.out)) hb); have n1_ := Aside0.mk (hbox); have n2_ := Aside0.mk ((by rw [hg]; exact (below_size (by repeat (first | (with_reducible first | exact HB.out | apply below_alloc | apply pw_below_drewN | apply below_drew1) | exact HB.out))) : w.heap.size ≤ gb161)); have n3_ := Aside0.mk ((by rw [hg]; exact (below_size (by repeat (first | (with_reducible first | exact HB.out | apply below_alloc | apply pw_below_drewN | apply below_drew1) | exact HB.out))) : w.heap.size ≤ gb161)); clear HB; have HB := n0_; have BK161 := n1_; have GW161 := n2_; have GE161 := n3_; clear n0_ n1_ n2_ n3_; clear hb hbox hg) | ((with_reducible refine gate_dst (N := 3) rfl ?_); refine box_event ?hg (N := 3) ?hd (cs := #[.int .i64 a1_0, .int .i64 a1_1, .slice A1_2 l1_2.length c1_2]) (t := 43) ?hr ?_; (case hd => rfl); (case hg => rfl); (case hr => first | (go_simp; done) | (go_simp; rfl)); intro gb162 hg w7 hbox hb; have n0_ := Aside0.mk (blk_below (g := gb161) (o := .cells #[.int .i64 a0_0, .int .i64 a0_1, .slice A0_2 l0_2.length c0_2] 43 (0, 0)) (by (with_reducible repeat (first | refine blk_drewN ?_ _ | refine blk_drew ?_ | refine blk_alloc ?_ _)); exact BK161.out) hb); have n1_ := Aside0.mk (below_step (by repeat (first | (with_reducible first | exact HB.out | apply below_alloc | apply pw_below_drewN | apply below_drew1 | refine below_set ?_ GE161.out) | exact HB.out)) hb); have n2_ := Aside0.mk (hbox); have n3_ := Aside0.mk ((by rw [hg]; exact (below_size (by repeat (first | (with_reducible first | exact HB.out | apply below_alloc | apply pw_below_drewN | apply below_drew1 | refine below_set ?_ GE161.out) | exact HB.out))) : w.heap.size ≤ gb162)); have n4_ := Aside0.mk ((by rw [hg]; exact (below_size (by repeat (first | (with_reducible first | exact HB.out | apply below_alloc | apply pw_below_drewN | apply below_drew1 | refine below_set ?_ GE161.out) | exact HB.out))) : w.heap.size ≤ gb162)); have n5_ := Aside0.mk ((by rw [hg]; exact Nat.ne_of_lt (blk_lt (g := gb161) (o := .cells #[.int .i64 a0_0, .int .i64 a0_1, .slice A0_2 l0_2.length c0_2] 43 (0, 0)) (by (with_reducible repeat (first | refine blk_drewN ?_ _ | refine blk_drew ?_ | refine blk_alloc ?_ _)); exact BK161.out)) : gb161 ≠ gb162)); have n6_ := Aside0.mk ((by rw [hg]; exact Nat.ne_of_gt (blk_lt (g := gb161) (o := .cells #[.int .i64 a0_0, .int .i64 a0_1, .slice A0_2 l0_2.length c0_2] 43 (0, 0)) (by (with_reducible repeat (first | refine blk_drewN ?_ _ | refine blk_drew ?_ | refine blk_alloc ?_ _)); exact BK161.out)) : gb162 ≠ gb161)); clear BK161; clear HB; have BK161 := n0_; have HB := n1_; have BK162 := n2_; have GW162 := n3_; have GE162 := n4_; have NB161_162 := n5_; have NB162_161 := n6_; clear n0_ n1_ n2_ n3_ n4_ n5_ n6_; clear hb hbox hg; have hnb8 := NB161_162.out; have hnc8 := NB162_161.out; have hcz9_0 : w7.cell? ⟨gb161, 0, none⟩ = some (.int .i64 a0_0) := (blk_cell BK161.out 0).trans rfl; have hcz9_1 : w7.cell? ⟨gb161, 1, none⟩ = some (.int .i64 a0_1) := (blk_cell BK161.out 1).trans rfl; have hcz9_2 : w7.cell? ⟨gb161, 2, none⟩ = some (.slice A0_2 l0_2.length c0_2) := (blk_cell BK161.out 2).trans rfl; have hfz9_0 := blk_frozen BK161.out 0; have hfz9_1 := blk_frozen BK161.out 1; have hfz9_2 := blk_frozen BK161.out 2; have hcz10_0 : w7.cell? ⟨gb162, 0, none⟩ = some (.int .i64 a1_0) := (blk_cell BK162.out 0).trans rfl; have hcz10_1 : w7.cell? ⟨gb162, 1, none⟩ = some (.int .i64 a1_1) := (blk_cell BK162.out 1).trans rfl; have hcz10_2 : w7.cell? ⟨gb162, 2, none⟩ = some (.slice A1_2 l1_2.length c1_2) := (blk_cell BK162.out 2).trans rfl; have hfz10_0 := blk_frozen BK162.out 0; have hfz10_1 := blk_frozen BK162.out 1; have hfz10_2 := blk_frozen BK162.out 2) | ((with_reducible refine gate_callee (f := 34) rfl ?_); refine goesL_ (some 10) rfl rfl Try.func34 (by kernel_rfl) rfl #[.slice A0_2 l0_2.length c0_2, .slice A1_2 l1_2.length c1_2] rfl (by (try simp only [List.map_toArray, List.map_cons, List.map_nil]); first | done | rfl | (simp only [List.length_drop, List.length_take]; rfl)) ?_; (with_reducible refine (selvedgeref01_Same.calls k _ _ l0_2 _ _ l1_2 true _ ?side1 ?side2 ?side3 ?side4 A3.out).mono ?_); (case side1 => repeat (first | exact (Kd.C_below HR0_2.out HB.out) | (with_reducible refine Kd.C_alloc ?_ _) | (with_reducible refine Kd.C_drewN ?_ _) | (with_reducible refine Kd.C_drew ?_))); (case side2 => exact HC0_2.out); (case side3 => repeat (first | exact (Kd.C_below HR1_2.out HB.out) | (with_reducible refine Kd.C_alloc ?_ _) | (with_reducible refine Kd.C_drewN ?_ _) | (with_reducible refine Kd.C_drew ?_))); (case side4 => exact HC1_2.out); rintro e w' ⟨rfl, ⟨nd, rfl⟩⟩; refine ⟨_, rfl, ?_⟩))
      go_ret
      exact ⟨by first | rfl | (simp [errW_none, errW_some] <;> rfl) | (simp [*, errW_none, errW_some] <;> rfl), by repeat (first | (with_reducible first | exact HB.out | apply below_alloc | apply pw_below_drewN | apply below_drew1 | refine below_set ?_ GE161.out | refine below_set ?_ GE162.out) | exact HB.out)⟩
    · rw [if_neg c5] at H
      have c5b0 : (a0_0 == a1_0) = false := beq_eq_false_iff_ne.mpr c5
      have c5b1 : (a0_0 != a1_0) = true := bne_iff_ne.mpr c5
      obtain rfl := Option.some.inj H
      go_enter Try.func30, Try.ntmps30
      go_wp2_with (first | ((with_reducible refine gate_dst (N := 2) rfl ?_); refine box_event ?hg (N := 2) ?hd (cs := #[.int .i64 a0_0, .int .i64 a0_1, .slice A0_2 l0_2.length c0_2]) (t := 43) ?hr ?_; (case hd => rfl); (case hg => rfl); (case hr => first | (go_simp; done) | (go_simp; rfl)); intro gb161 hg w11 hbox hb; have n0_ := Aside0.mk (below_step (by repeat (first | (with_reducible first | exact HB.out | apply below_alloc | apply pw_below_drewN | apply below_drew1) | exact HB.out)) hb); have n1_ := Aside0.mk (hbox); have n2_ := Aside0.mk ((by rw [hg]; exact (below_size (by repeat (first | (with_reducible first | exact HB.out | apply below_alloc | apply pw_below_drewN | apply below_drew1) | exact HB.out))) : w.heap.size ≤ gb161)); have n3_ := Aside0.mk ((by rw [hg]; exact (below_size (by repeat (first | (with_reducible first | exact HB.out | apply below_alloc | apply pw_below_drewN | apply below_drew1) | exact HB.out))) : w.heap.size ≤ gb161)); clear HB; have HB := n0_; have BK161 := n1_; have GW161 := n2_; have GE161 := n3_; clear n0_ n1_ n2_ n3_; clear hb hbox hg) | ((with_reducible refine gate_dst (N := 3) rfl ?_); refine box_event ?hg (N := 3) ?hd (cs := #[.int .i64 a1_0, .int .i64 a1_1, .slice A1_2 l1_2.length c1_2]) (t := 43) ?hr ?_; (case hd => rfl); (case hg => rfl); (case hr => first | (go_simp; done) | (go_simp; rfl)); intro gb162 hg w12 hbox hb; have n0_ := Aside0.mk (blk_below (g := gb161) (o := .cells #[.int .i64 a0_0, .int .i64 a0_1, .slice A0_2 l0_2.length c0_2] 43 (0, 0)) (by (with_reducible repeat (first | refine blk_drewN ?_ _ | refine blk_drew ?_ | refine blk_alloc ?_ _)); exact BK161.out) hb); have n1_ := Aside0.mk (below_step (by repeat (first | (with_reducible first | exact HB.out | apply below_alloc | apply pw_below_drewN | apply below_drew1 | refine below_set ?_ GE161.out) | exact HB.out)) hb); have n2_ := Aside0.mk (hbox); have n3_ := Aside0.mk ((by rw [hg]; exact (below_size (by repeat (first | (with_reducible first | exact HB.out | apply below_alloc | apply pw_below_drewN | apply below_drew1 | refine below_set ?_ GE161.out) | exact HB.out))) : w.heap.size ≤ gb162)); have n4_ := Aside0.mk ((by rw [hg]; exact (below_size (by repeat (first | (with_reducible first | exact HB.out | apply below_alloc | apply pw_below_drewN | apply below_drew1 | refine below_set ?_ GE161.out) | exact HB.out))) : w.heap.size ≤ gb162)); have n5_ := Aside0.mk ((by rw [hg]; exact Nat.ne_of_lt (blk_lt (g := gb161) (o := .cells #[.int .i64 a0_0, .int .i64 a0_1, .slice A0_2 l0_2.length c0_2] 43 (0, 0)) (by (with_reducible repeat (first | refine blk_drewN ?_ _ | refine blk_drew ?_ | refine blk_alloc ?_ _)); exact BK161.out)) : gb161 ≠ gb162)); have n6_ := Aside0.mk ((by rw [hg]; exact Nat.ne_of_gt (blk_lt (g := gb161) (o := .cells #[.int .i64 a0_0, .int .i64 a0_1, .slice A0_2 l0_2.length c0_2] 43 (0, 0)) (by (with_reducible repeat (first | refine blk_drewN ?_ _ | refine blk_drew ?_ | refine blk_alloc ?_ _)); exact BK161.out)) : gb162 ≠ gb161)); clear BK161; clear HB; have BK161 := n0_; have HB := n1_; have BK162 := n2_; have GW162 := n3_; have GE162 := n4_; have NB161_162 := n5_; have NB162_161 := n6_; clear n0_ n1_ n2_ n3_ n4_ n5_ n6_; clear hb hbox hg; have hnb13 := NB161_162.out; have hnc13 := NB162_161.out; have hcz14_0 : w12.cell? ⟨gb161, 0, none⟩ = some (.int .i64 a0_0) := (blk_cell BK161.out 0).trans rfl; have hcz14_1 : w12.cell? ⟨gb161, 1, none⟩ = some (.int .i64 a0_1) := (blk_cell BK161.out 1).trans rfl; have hcz14_2 : w12.cell? ⟨gb161, 2, none⟩ = some (.slice A0_2 l0_2.length c0_2) := (blk_cell BK161.out 2).trans rfl; have hfz14_0 := blk_frozen BK161.out 0; have hfz14_1 := blk_frozen BK161.out 1; have hfz14_2 := blk_frozen BK161.out 2; have hcz15_0 : w12.cell? ⟨gb162, 0, none⟩ = some (.int .i64 a1_0) := (blk_cell BK162.out 0).trans rfl; have hcz15_1 : w12.cell? ⟨gb162, 1, none⟩ = some (.int .i64 a1_1) := (blk_cell BK162.out 1).trans rfl; have hcz15_2 : w12.cell? ⟨gb162, 2, none⟩ = some (.slice A1_2 l1_2.length c1_2) := (blk_cell BK162.out 2).trans rfl; have hfz15_0 := blk_frozen BK162.out 0; have hfz15_1 := blk_frozen BK162.out 1; have hfz15_2 := blk_frozen BK162.out 2) | ((with_reducible refine gate_callee (f := 34) rfl ?_); refine goesL_ (some 10) rfl rfl Try.func34 (by kernel_rfl) rfl #[.slice A0_2 l0_2.length c0_2, .slice A1_2 l1_2.length c1_2] rfl (by (try simp only [List.map_toArray, List.map_cons, List.map_nil]); first | done | rfl | (simp only [List.length_drop, List.length_take]; rfl)) ?_; (with_reducible refine (selvedgeref01_Same.calls k _ _ l0_2 _ _ l1_2 true _ ?side1 ?side2 ?side3 ?side4 A3.out).mono ?_); (case side1 => repeat (first | exact (Kd.C_below HR0_2.out HB.out) | (with_reducible refine Kd.C_alloc ?_ _) | (with_reducible refine Kd.C_drewN ?_ _) | (with_reducible refine Kd.C_drew ?_))); (case side2 => exact HC0_2.out); (case side3 => repeat (first | exact (Kd.C_below HR1_2.out HB.out) | (with_reducible refine Kd.C_alloc ?_ _) | (with_reducible refine Kd.C_drewN ?_ _) | (with_reducible refine Kd.C_drew ?_))); (case side4 => exact HC1_2.out); rintro e w' ⟨rfl, ⟨nd, rfl⟩⟩; refine ⟨_, rfl, ?_⟩))
      go_ret
      exact ⟨by first | rfl | (simp [errW_none, errW_some] <;> rfl) | (simp [*, errW_none, errW_some] <;> rfl), by repeat (first | (with_reducible first | exact HB.out | apply below_alloc | apply pw_below_drewN | apply below_drew1 | refine below_set ?_ GE161.out | refine below_set ?_ GE162.out) | exact HB.out)⟩
  · replace c4 := Bool.eq_false_iff.mpr c4
    subst c4
    have H1 : (some false) = some r := by rw [if_neg (show ¬ (false = true) by decide)] at H; exact H
    clear H
    have H := H1
    clear H1
    obtain rfl := Option.some.inj H
    go_enter Try.func30, Try.ntmps30
    go_wp2_with (first | ((with_reducible refine gate_dst (N := 2) rfl ?_); refine box_event ?hg (N := 2) ?hd (cs := #[.int .i64 a0_0, .int .i64 a0_1, .slice A0_2 l0_2.length c0_2]) (t := 43) ?hr ?_; (case hd => rfl); (case hg => rfl); (case hr => first | (go_simp; done) | (go_simp; rfl)); intro gb161 hg w16 hbox hb; have n0_ := Aside0.mk (below_step (by repeat (first | (with_reducible first | exact HB.out | apply below_alloc | apply pw_below_drewN | apply below_drew1) | exact HB.out)) hb); have n1_ := Aside0.mk (hbox); have n2_ := Aside0.mk ((by rw [hg]; exact (below_size (by repeat (first | (with_reducible first | exact HB.out | apply below_alloc | apply pw_below_drewN | apply below_drew1) | exact HB.out))) : w.heap.size ≤ gb161)); have n3_ := Aside0.mk ((by rw [hg]; exact (below_size (by repeat (first | (with_reducible first | exact HB.out | apply below_alloc | apply pw_below_drewN | apply below_drew1) | exact HB.out))) : w.heap.size ≤ gb161)); clear HB; have HB := n0_; have BK161 := n1_; have GW161 := n2_; have GE161 := n3_; clear n0_ n1_ n2_ n3_; clear hb hbox hg) | ((with_reducible refine gate_dst (N := 3) rfl ?_); refine box_event ?hg (N := 3) ?hd (cs := #[.int .i64 a1_0, .int .i64 a1_1, .slice A1_2 l1_2.length c1_2]) (t := 43) ?hr ?_; (case hd => rfl); (case hg => rfl); (case hr => first | (go_simp; done) | (go_simp; rfl)); intro gb162 hg w17 hbox hb; have n0_ := Aside0.mk (blk_below (g := gb161) (o := .cells #[.int .i64 a0_0, .int .i64 a0_1, .slice A0_2 l0_2.length c0_2] 43 (0, 0)) (by (with_reducible repeat (first | refine blk_drewN ?_ _ | refine blk_drew ?_ | refine blk_alloc ?_ _)); exact BK161.out) hb); have n1_ := Aside0.mk (below_step (by repeat (first | (with_reducible first | exact HB.out | apply below_alloc | apply pw_below_drewN | apply below_drew1 | refine below_set ?_ GE161.out) | exact HB.out)) hb); have n2_ := Aside0.mk (hbox); have n3_ := Aside0.mk ((by rw [hg]; exact (below_size (by repeat (first | (with_reducible first | exact HB.out | apply below_alloc | apply pw_below_drewN | apply below_drew1 | refine below_set ?_ GE161.out) | exact HB.out))) : w.heap.size ≤ gb162)); have n4_ := Aside0.mk ((by rw [hg]; exact (below_size (by repeat (first | (with_reducible first | exact HB.out | apply below_alloc | apply pw_below_drewN | apply below_drew1 | refine below_set ?_ GE161.out) | exact HB.out))) : w.heap.size ≤ gb162)); have n5_ := Aside0.mk ((by rw [hg]; exact Nat.ne_of_lt (blk_lt (g := gb161) (o := .cells #[.int .i64 a0_0, .int .i64 a0_1, .slice A0_2 l0_2.length c0_2] 43 (0, 0)) (by (with_reducible repeat (first | refine blk_drewN ?_ _ | refine blk_drew ?_ | refine blk_alloc ?_ _)); exact BK161.out)) : gb161 ≠ gb162)); have n6_ := Aside0.mk ((by rw [hg]; exact Nat.ne_of_gt (blk_lt (g := gb161) (o := .cells #[.int .i64 a0_0, .int .i64 a0_1, .slice A0_2 l0_2.length c0_2] 43 (0, 0)) (by (with_reducible repeat (first | refine blk_drewN ?_ _ | refine blk_drew ?_ | refine blk_alloc ?_ _)); exact BK161.out)) : gb162 ≠ gb161)); clear BK161; clear HB; have BK161 := n0_; have HB := n1_; have BK162 := n2_; have GW162 := n3_; have GE162 := n4_; have NB161_162 := n5_; have NB162_161 := n6_; clear n0_ n1_ n2_ n3_ n4_ n5_ n6_; clear hb hbox hg; have hnb18 := NB161_162.out; have hnc18 := NB162_161.out; have hcz19_0 : w17.cell? ⟨gb161, 0, none⟩ = some (.int .i64 a0_0) := (blk_cell BK161.out 0).trans rfl; have hcz19_1 : w17.cell? ⟨gb161, 1, none⟩ = some (.int .i64 a0_1) := (blk_cell BK161.out 1).trans rfl; have hcz19_2 : w17.cell? ⟨gb161, 2, none⟩ = some (.slice A0_2 l0_2.length c0_2) := (blk_cell BK161.out 2).trans rfl; have hfz19_0 := blk_frozen BK161.out 0; have hfz19_1 := blk_frozen BK161.out 1; have hfz19_2 := blk_frozen BK161.out 2; have hcz20_0 : w17.cell? ⟨gb162, 0, none⟩ = some (.int .i64 a1_0) := (blk_cell BK162.out 0).trans rfl; have hcz20_1 : w17.cell? ⟨gb162, 1, none⟩ = some (.int .i64 a1_1) := (blk_cell BK162.out 1).trans rfl; have hcz20_2 : w17.cell? ⟨gb162, 2, none⟩ = some (.slice A1_2 l1_2.length c1_2) := (blk_cell BK162.out 2).trans rfl; have hfz20_0 := blk_frozen BK162.out 0; have hfz20_1 := blk_frozen BK162.out 1; have hfz20_2 := blk_frozen BK162.out 2) | ((with_reducible refine gate_callee (f := 34) rfl ?_); refine goesL_ (some 10) rfl rfl Try.func34 (by kernel_rfl) rfl #[.slice A0_2 l0_2.length c0_2, .slice A1_2 l1_2.length c1_2] rfl (by (try simp only [List.map_toArray, List.map_cons, List.map_nil]); first | done | rfl | (simp only [List.length_drop, List.length_take]; rfl)) ?_; (with_reducible refine (selvedgeref01_Same.calls k _ _ l0_2 _ _ l1_2 false _ ?side1 ?side2 ?side3 ?side4 A3.out).mono ?_); (case side1 => repeat (first | exact (Kd.C_below HR0_2.out HB.out) | (with_reducible refine Kd.C_alloc ?_ _) | (with_reducible refine Kd.C_drewN ?_ _) | (with_reducible refine Kd.C_drew ?_))); (case side2 => exact HC0_2.out); (case side3 => repeat (first | exact (Kd.C_below HR1_2.out HB.out) | (with_reducible refine Kd.C_alloc ?_ _) | (with_reducible refine Kd.C_drewN ?_ _) | (with_reducible refine Kd.C_drew ?_))); (case side4 => exact HC1_2.out); rintro e w' ⟨rfl, ⟨nd, rfl⟩⟩; refine ⟨_, rfl, ?_⟩))
    go_ret
    exact ⟨by first | rfl | (simp [errW_none, errW_some] <;> rfl) | (simp [*, errW_none, errW_some] <;> rfl), by repeat (first | (with_reducible first | exact HB.out | apply below_alloc | apply pw_below_drewN | apply below_drew1 | refine below_set ?_ GE161.out | refine below_set ?_ GE162.out) | exact HB.out)⟩

end Go.Proofs.Ytijnodcbgadooaa.Px

-- printed by this session's pprint.py (the kit's print, with this session's plugs) out of the translation; Lean checks it
namespace Go.Proofs.Ytijnodcbgadooaa.Px
open Go.RowKit Go.Proofs.YtijnodcbgadooaaW.PrintWords Go.Proofs.YtijnodcbgadooaaW.PrintLast Go.Proofs.YtijnodcbgadooaaW.PrintMore
attribute [local go_sem] max2_int min2_int max_two min_two max_three min_three max_four min_four   -- for this text's walks alone
set_option linter.unusedVariables false
set_option linter.unusedSimpArgs false

/-! ### words: w13_batch.tpl -/

/-! two rows of texts; batches -/
theorem rdOf_at (l : List ByteArray) (j : Nat) (h : j < l.length) : rdOf ByteArray.empty l (j : Int) = l[j] := by
  rw [rdOf, Int.toNat_natCast, List.getD_eq_getElem?_getD, List.getElem?_eq_getElem h]; rfl
theorem toList_eq_iff (a b : ByteArray) : a.toList = b.toList ↔ a = b := by
  rw [toList_ofB, toList_ofB]
  exact ⟨fun h => ofB_inj h, fun h => by rw [h]⟩
theorem beq_toList (a b : ByteArray) : (a.toList == b.toList) = decide (a = b) := by
  rw [Bool.eq_iff_iff]; simp [toList_eq_iff]
theorem refSame_loop (a b : List ByteArray) (hl : a.length = b.length) (hb : a.length < 4611686018427387904) (d : Nat) : ∀ j, j + d = a.length →
    Ev (fun k => selvedgeref01_Same.l0 k a b (j : Int)) (decide (a.drop j = b.drop j)) := by
  induction d with
  | zero =>
    intro j hj
    refine Ev.step (fun k => by rw [selvedgeref01_Same.l0]) ?_
    refine ev_neg (by omega) (ev_eq (Ev.now _) ?_)
    rw [List.drop_eq_nil_of_le (by omega), List.drop_eq_nil_of_le (by omega)]; rfl
  | succ d ih =>
    intro j hj
    refine Ev.step (fun k => by rw [selvedgeref01_Same.l0]) ?_
    have h1 : j < a.length := by omega
    have h2 : j < b.length := by omega
    refine ev_pos (by omega) (ev_pos (by omega) (ev_pos (by omega) ?_))
    rw [rdOf_at a j h1, rdOf_at b j h2, List.drop_eq_getElem_cons h1, List.drop_eq_getElem_cons h2, wrap64_of (by omega) (by omega)]
    by_cases h : a[j] = b[j]
    · refine ev_pos (by rw [h]) (ev_eq (ih (j + 1) (by omega)) ?_)
      simp only [List.cons.injEq, h, true_and]
    · refine ev_neg (by simpa [toList_eq_iff] using h) (ev_eq (Ev.now _) ?_)
      simp only [List.cons.injEq, h, false_and, decide_false]
theorem refSame_ev (a b : List ByteArray) (hb : a.length < 4611686018427387904) : Ev (fun k => selvedgeref01_Same.f k a b) (decide (a = b)) := by
  by_cases hl : a.length = b.length
  · exact ev_pos (by omega) (refSame_loop a b hl hb a.length 0 (by omega))
  · refine ev_neg (by omega) (ev_eq (Ev.now _) ?_)
    rw [eq_comm, decide_eq_false_iff_not]
    exact fun h => hl (by rw [h])
/-- a batch's parts are another one's -/
def batchEq (o q : Int) (l : List ByteArray) (o' q' : Int) (l' : List ByteArray) : Bool := decide (o = o' ∧ q = q' ∧ l = l')
theorem refBatchSame_ev (o q : Int) (l : List ByteArray) (o' q' : Int) (l' : List ByteArray) (hb : l.length < 4611686018427387904) : Ev (fun k => selvedgeref07_Same.f k o q l o' q' l') (batchEq o q l o' q' l') := by
  unfold batchEq
  refine Ev.bind (refSame_ev l l' hb) ?_
  by_cases h3 : l = l'
  · refine ev_pos (by simp [h3]) ?_
    by_cases h1 : o = o'
    · exact ev_pos h1 (ev_eq (Ev.now _) (by simp [h1, h3, Bool.beq_eq_decide_eq]))
    · exact ev_neg h1 (ev_eq (Ev.now _) (by simp [h1]))
  · exact ev_neg (by simp [h3]) (ev_eq (Ev.now _) (by simp [h3]))
theorem rowOf_le (l : List ByteArray) (m : Nat) (hm : m < 18446744073709551616) (h : ∀ t ∈ l, t.size ≤ m) : (rowOf l).length ≤ l.length * (m + 9) := by
  induction l with
  | nil => simp [rowOf]
  | cons t l ih =>
    have e : rowOf (t :: l) = textL (ofB t) ++ rowOf l := rfl
    have h1 := h t List.mem_cons_self
    have h2 := ih (fun x hx => h x (List.mem_cons_of_mem _ hx))
    have h3 := numL_length (v := (ofB t).length) (by rw [ofB_length]; omega)
    rw [e, List.length_append, textL, List.length_append, ofB_length, List.length_cons, Nat.succ_mul]
    rw [ofB_length] at h3
    omega
theorem mayB_iff (o q : Int) (l : List ByteArray) : mayB o q l = true ↔ 1 ≤ o ∧ o ≤ 64 ∧ 1 ≤ q ∧ q ≤ 1073741824 ∧ 1 ≤ l.length ∧ l.length ≤ 4 ∧ ∀ t ∈ l, 1 ≤ t.size ∧ t.size ≤ 48 := by
  unfold mayB
  simp only [Bool.and_eq_true, decide_eq_true_eq, Bool.not_eq_true', List.any_eq_false]
  constructor
  · rintro ⟨⟨⟨⟨⟨⟨h1, h2⟩, h3⟩, h4⟩, h5⟩, h6⟩, h7⟩
    refine ⟨h1, h2, h3, h4, h5, h6, fun t ht => ?_⟩
    have h8 := h7 t ht
    simp only [oddTx, Bool.or_eq_true, decide_eq_true_eq, not_or] at h8
    omega
  · rintro ⟨h1, h2, h3, h4, h5, h6, h7⟩
    refine ⟨⟨⟨⟨⟨⟨h1, h2⟩, h3⟩, h4⟩, h5⟩, h6⟩, fun t ht => ?_⟩
    have h8 := h7 t ht
    simp only [oddTx, Bool.or_eq_true, decide_eq_true_eq, not_or]
    omega
/-- a batch's bytes -/
def batchL (o q : Int) (l : List ByteArray) : Bs := numL o.toNat ++ numL q.toNat ++ rowL l
theorem batch_Bytes_of (o q : Int) (l : List ByteArray) : batch_Bytes.f o q l = some (if mayB o q l = true then (toB (batchL o q l), 0) else ((⟨#[]⟩ : ByteArray), 1)) := by
  unfold batch_Bytes.f batch_May.f
  rw [Option.bind_some]
  by_cases h : mayB o q l = true
  · rw [if_pos h, if_pos h]
    obtain ⟨h1, h2, h3, h4, h5, h6, h7⟩ := (mayB_iff o q l).1 h
    obtain ⟨a, rfl⟩ := Int.eq_ofNat_of_zero_le (show 0 ≤ o by omega)
    obtain ⟨b, rfl⟩ := Int.eq_ofNat_of_zero_le (show 0 ≤ q by omega)
    have r1 := rowOf_le l 48 (by omega) (fun t ht => (h7 t ht).2)
    have r2 := numL_length (v := l.length) (by omega)
    have r3 : (rowL l).length ≤ 300 := by rw [rowL, List.length_append]; omega
    have n1 := numB_size (v := a) (by omega)
    have n2 := numB_size (v := b) (by omega)
    have r4 : digits_Row.f l = some (toB (rowL l)) := by unfold digits_Row.f; rw [if_pos (by omega)]
    rw [u64_wrap_of (by omega) (by omega), u64_wrap_of (by omega) (by omega), digits_Num_of a (by omega), digits_Num_of b (by omega)]
    simp only [Option.bind_some]
    rw [if_pos (by omega), r4]
    simp only [Option.bind_some]
    rw [if_pos (by rw [ByteArray.size_append, toB_size]; omega), batchL, toB_append, toB_append, Int.toNat_natCast, Int.toNat_natCast]
    rfl
  · rw [if_neg h, if_neg h]
/-! what was written is taken -/
theorem numL_cancel {v w : Nat} (hv : v < 18446744073709551616) (hw : w < 18446744073709551616) {r t : Bs} (h : numL v ++ r = numL w ++ t) : v = w ∧ r = t := by
  have h1 := takeNumL_num hv r
  rw [h, takeNumL_num hw t] at h1
  simp only [Prod.mk.injEq, and_true] at h1
  exact ⟨h1.1.symm, h1.2.symm⟩
theorem textL_cancel {a b : ByteArray} (ha : a.size < 18446744073709551616) (hb : b.size < 18446744073709551616) {r t : Bs} (h : textL (ofB a) ++ r = textL (ofB b) ++ t) : a = b ∧ r = t := by
  rw [textL, textL, List.append_assoc, List.append_assoc, ofB_length, ofB_length] at h
  obtain ⟨h1, h2⟩ := numL_cancel ha hb h
  have h3 := List.append_inj h2 (by rw [ofB_length, ofB_length, h1])
  exact ⟨ofB_inj h3.1, h3.2⟩
theorem rowOf_cancel : ∀ {a b : List ByteArray}, a.length = b.length → (∀ t ∈ a, t.size < 18446744073709551616) → (∀ t ∈ b, t.size < 18446744073709551616) → ∀ {r t : Bs}, rowOf a ++ r = rowOf b ++ t → a = b ∧ r = t
  | [], [], _, _, _, _, _, h => ⟨rfl, h⟩
  | x :: a, y :: b, hl, ha, hb, r, t, h => by
    have e1 : rowOf (x :: a) = textL (ofB x) ++ rowOf a := rfl
    have e2 : rowOf (y :: b) = textL (ofB y) ++ rowOf b := rfl
    rw [e1, e2, List.append_assoc, List.append_assoc] at h
    obtain ⟨h1, h2⟩ := textL_cancel (ha x List.mem_cons_self) (hb y List.mem_cons_self) h
    obtain ⟨h3, h4⟩ := rowOf_cancel (by simpa using hl) (fun z hz => ha z (List.mem_cons_of_mem _ hz)) (fun z hz => hb z (List.mem_cons_of_mem _ hz)) h2
    exact ⟨by rw [h1, h3], h4⟩
theorem rowL_cancel {a b : List ByteArray} (hla : a.length < 18446744073709551616) (hlb : b.length < 18446744073709551616) (ha : ∀ t ∈ a, t.size < 18446744073709551616) (hb : ∀ t ∈ b, t.size < 18446744073709551616) {r t : Bs} (h : rowL a ++ r = rowL b ++ t) : a = b ∧ r = t := by
  rw [rowL, rowL, List.append_assoc, List.append_assoc] at h
  obtain ⟨h1, h2⟩ := numL_cancel hla hlb h
  exact rowOf_cancel h1 ha hb h2
theorem batchL_cancel {o q : Int} {l : List ByteArray} {o' q' : Int} {l' : List ByteArray} (h : mayB o q l = true) (h' : mayB o' q' l' = true) {r t : Bs} (e : batchL o q l ++ r = batchL o' q' l' ++ t) : o = o' ∧ q = q' ∧ l = l' ∧ r = t := by
  obtain ⟨h1, h2, h3, h4, h5, h6, h7⟩ := (mayB_iff o q l).1 h
  obtain ⟨k1, k2, k3, k4, k5, k6, k7⟩ := (mayB_iff o' q' l').1 h'
  rw [batchL, batchL] at e
  simp only [List.append_assoc] at e
  obtain ⟨e1, e⟩ := numL_cancel (by omega) (by omega) e
  obtain ⟨e2, e⟩ := numL_cancel (by omega) (by omega) e
  obtain ⟨e3, e⟩ := rowL_cancel (by omega) (by omega) (fun t ht => by have := h7 t ht; omega) (fun t ht => by have := k7 t ht; omega) e
  exact ⟨by omega, by omega, e3, e⟩
theorem be_1 : be 1 = [1] := by
  rw [be_pos (by omega)]
  simp [be_zero]
theorem shown07_of : selvedgelaw07_shown.f = some true := by
  unfold selvedgelaw07_shown.f
  rw [batch_Bytes_of, if_pos (by rw [mayB_iff]; simp; decide)]
  simp only [Option.bind_some]
  rw [if_pos]
  · rfl
  · have e2 : textL (ofB (⟨#[97, 98]⟩ : ByteArray)) = [1, 2, 97, 98] := by
      show numL 2 ++ [97, 98] = _
      rw [numL, be_2]; rfl
    rw [toList_ofB, ofB_toB, batchL, rowL, rowOf, List.flatMap_cons, List.flatMap_nil, e2]
    show numL 1 ++ numL 2 ++ (numL 1 ++ _) = _
    rw [numL, numL, be_1, be_2]
    rfl


end Go.Proofs.Ytijnodcbgadooaa.Px

-- printed by this session's pprint.py (the kit's print, with this session's plugs) out of the translation; Lean checks it
namespace Go.Proofs.Ytijnodcbgadooaa.Px
open Go.RowKit Go.Proofs.YtijnodcbgadooaaW.PrintWords Go.Proofs.YtijnodcbgadooaaW.PrintLast Go.Proofs.YtijnodcbgadooaaW.PrintMore
attribute [local go_sem] max2_int min2_int max_two min_two max_three min_three max_four min_four   -- for this text's walks alone
set_option linter.unusedVariables false
set_option linter.unusedSimpArgs false

/-! ### words: w21_post2.tpl -/

/-! post: says, ballots as bytes -/
theorem digits_NumZ {x : Int} (h0 : 0 ≤ x) (h1 : x < 9223372036854775808) : digits_Num.f (IntKind.u64.wrap x) = some (numB x.toNat) := by
  rw [u64_wrap_of h0 (by omega), digits_Num.f, if_pos h0, if_pos (by omega)]
theorem namedB_iff (a r : Int) (d : ByteArray) : namedB a r d = true ↔ 1 ≤ a ∧ a ≤ 64 ∧ 1 ≤ r ∧ r ≤ 1048576 ∧ d.size = 32 := by
  unfold namedB; simp [and_assoc]
theorem seatB_iff (a : Int) : seatB a = true ↔ 1 ≤ a ∧ a ≤ 64 := by
  unfold seatB; simp
def sayW (a r v : Int) (d : ByteArray) : Bs := numL a.toNat ++ (numL r.toNat ++ (numL v.toNat ++ ofB d))
def ballotW (a r : Int) (d : ByteArray) : Bs := numL a.toNat ++ (numL r.toNat ++ ofB d)
def sayR (a r v : Int) (d : ByteArray) : ByteArray × Int := if namedB a r d = true ∧ seatB v = true then (toB (121 :: sayW a r v d), 0) else ((⟨#[]⟩ : ByteArray), 1)
def ballotR (a r : Int) (d : ByteArray) : ByteArray × Int := if namedB a r d = true then (toB (118 :: ballotW a r d), 0) else ((⟨#[]⟩ : ByteArray), 1)
theorem sayB_eq (a r v : Nat) (d : ByteArray) : ((((⟨#[121]⟩ : ByteArray) ++ numB a) ++ numB r) ++ numB v) ++ d = toB (121 :: (numL a ++ (numL r ++ (numL v ++ ofB d)))) := by
  apply ofB_inj
  simp only [ofB_append, ofB_toB, numB]
  show (([121] : Bs) ++ numL a ++ numL r ++ numL v ++ ofB d) = _
  simp
theorem ballotB_eq (a r : Nat) (d : ByteArray) : (((⟨#[118]⟩ : ByteArray) ++ numB a) ++ numB r) ++ d = toB (118 :: (numL a ++ (numL r ++ ofB d))) := by
  apply ofB_inj
  simp only [ofB_append, ofB_toB, numB]
  show (([118] : Bs) ++ numL a ++ numL r ++ ofB d) = _
  simp
theorem size_one (c : UInt8) : (⟨#[c]⟩ : ByteArray).size = 1 := rfl
theorem post_Say_ev (a r v : Int) (d : ByteArray) : Ev (fun k => post_Say.f k a r v d) (sayR a r v d) := by
  refine ev_bind_const (post_may_of _ _ _) ?_
  unfold sayR
  have bad : Ev (fun k => post_Say.j0 k true a r v d) ((⟨#[]⟩ : ByteArray), 1) := Ev.step (fun k => by rw [post_Say.j0]) (ev_pos rfl (Ev.now _))
  by_cases h : namedB a r d = true
  · refine ev_pos h (ev_bind_const (post_seat_of _) ?_)
    by_cases hv : seatB v = true
    · rw [if_pos ⟨h, hv⟩, hv]
      refine Ev.step (fun k => by rw [post_Say.j0]) ?_
      obtain ⟨h1, h2, h3, h4, h5⟩ := (namedB_iff _ _ _).1 h
      obtain ⟨h6, h7⟩ := (seatB_iff _).1 hv
      have s0 := numB_size (v := a.toNat) (by omega)
      have s1 := numB_size (v := r.toNat) (by omega)
      have s2 := numB_size (v := v.toNat) (by omega)
      refine ev_neg (by simp) (ev_bind_const (digits_NumZ (by omega) (by omega)) (ev_pos (by omega) (ev_bind_const (digits_NumZ (by omega) (by omega)) (ev_pos (by rw [ByteArray.size_append, size_one]; omega) (ev_bind_const (digits_NumZ (by omega) (by omega)) (ev_pos (by simp only [ByteArray.size_append, size_one]; omega) (ev_pos (by simp only [ByteArray.size_append, size_one]; omega) ?_)))))))
      rw [sayB_eq, ← sayW]
      exact Ev.now _
    · rw [if_neg (fun hh => hv hh.2)]
      rw [Bool.not_eq_true] at hv
      rw [hv]; exact bad
  · rw [if_neg (fun hh => h hh.1)]
    exact ev_neg h bad
theorem post_Ballot_of (a r : Int) (d : ByteArray) : post_Ballot.f a r d = some (ballotR a r d) := by
  unfold post_Ballot.f
  rw [post_may_of]
  simp only [Option.bind_some]
  unfold ballotR
  by_cases h : namedB a r d = true
  · rw [if_pos h, if_pos h]
    obtain ⟨h1, h2, h3, h4, h5⟩ := (namedB_iff _ _ _).1 h
    have s0 := numB_size (v := a.toNat) (by omega)
    have s1 := numB_size (v := r.toNat) (by omega)
    rw [digits_NumZ (by omega) (by omega), digits_NumZ (by omega) (by omega)]
    simp only [Option.bind_some]
    rw [if_pos (by omega), if_pos (by rw [ByteArray.size_append, size_one]; omega), if_pos (by simp only [ByteArray.size_append, size_one]; omega), ballotB_eq, ← ballotW]
  · rw [if_neg h, if_neg h]
theorem sayL_ok {s d : Bs} {a r v : Nat} (h : sayL s = some (a, r, v, d)) : s = sayW a r v (toB d) ∧ namedB a r (toB d) = true ∧ seatB v = true := by
  unfold sayL at h
  obtain ⟨⟨a', s1⟩, h1, h⟩ := Option.bind_eq_some_iff.1 h
  obtain ⟨⟨r', s2⟩, h2, h⟩ := Option.bind_eq_some_iff.1 h
  obtain ⟨⟨v', s3⟩, h3, h⟩ := Option.bind_eq_some_iff.1 h
  simp only at h2 h3 h
  split at h
  · rename_i h0
    simp only [Option.some.injEq, Prod.mk.injEq] at h
    obtain ⟨rfl, rfl, rfl, rfl⟩ := h
    refine ⟨?_, h0⟩
    rw [(smallL_ok h1).1, (smallL_ok h2).1, (smallL_ok h3).1, sayW, ofB_toB]
    simp
  · cases h
theorem sayL_say {a r v : Int} {d : ByteArray} (h : namedB a r d = true) (hv : seatB v = true) : sayL (sayW a r v d) = some (a.toNat, r.toNat, v.toNat, ofB d) := by
  obtain ⟨h1, h2, h3, h4, h5⟩ := (namedB_iff _ _ _).1 h
  obtain ⟨h6, h7⟩ := (seatB_iff _).1 hv
  rw [sayL, sayW, smallL_num (by omega), Option.bind_some]
  simp only
  rw [smallL_num (by omega), Option.bind_some]
  simp only
  rw [smallL_num (by omega), Option.bind_some]
  simp only
  rw [toB_ofB, Int.toNat_of_nonneg (by omega), Int.toNat_of_nonneg (by omega), Int.toNat_of_nonneg (by omega), if_pos ⟨h, hv⟩]
theorem ballotL_ok {s d : Bs} {a r : Nat} (h : ballotL s = some (a, r, d)) : s = ballotW a r (toB d) ∧ namedB a r (toB d) = true := by
  unfold ballotL at h
  obtain ⟨⟨a', s1⟩, h1, h⟩ := Option.bind_eq_some_iff.1 h
  obtain ⟨⟨r', s2⟩, h2, h⟩ := Option.bind_eq_some_iff.1 h
  simp only at h2 h
  split at h
  · rename_i h0
    simp only [Option.some.injEq, Prod.mk.injEq] at h
    obtain ⟨rfl, rfl, rfl⟩ := h
    refine ⟨?_, h0⟩
    rw [(smallL_ok h1).1, (smallL_ok h2).1, ballotW, ofB_toB]
    simp
  · cases h
theorem ballotL_ballot {a r : Int} {d : ByteArray} (h : namedB a r d = true) : ballotL (ballotW a r d) = some (a.toNat, r.toNat, ofB d) := by
  obtain ⟨h1, h2, h3, h4, h5⟩ := (namedB_iff _ _ _).1 h
  rw [ballotL, ballotW, smallL_num (by omega), Option.bind_some]
  simp only
  rw [smallL_num (by omega), Option.bind_some]
  simp only
  rw [toB_ofB, Int.toNat_of_nonneg (by omega), Int.toNat_of_nonneg (by omega), if_pos h]
theorem post_TakeSay_of (s : ByteArray) (hs : s.size < 4611686018427387904) : post_TakeSay.f s = some (takeSayB s) := by
  unfold post_TakeSay.f post_behind_Say.f
  rw [if_pos ⟨rfl, hs⟩]
  rfl
theorem post_TakeBallot_of (s : ByteArray) (hs : s.size < 4611686018427387904) : post_TakeBallot.f s = some (takeBallotB s) := by
  unfold post_TakeBallot.f post_behind_Ballot.f
  rw [if_pos ⟨rfl, hs⟩]
  rfl
/-- what is no say's bytes is taken by no TakeSay -/
theorem takeSayB_none (l : Bs) (h : ∀ (a r v : Nat) (d : Bs), namedB a r (toB d) = true → seatB v = true → l ≠ 121 :: sayW a r v (toB d)) : takeSayB (toB l) = (0, 0, 0, (⟨#[]⟩ : ByteArray), 3) := by
  unfold takeSayB
  rw [ofB_toB]
  rcases l with _ | ⟨c, t⟩
  · rfl
  · simp only
    split
    · rename_i hc
      subst hc
      rcases hq : sayL t with _ | ⟨a, r, v, d⟩
      · rfl
      · obtain ⟨h1, h2, h3⟩ := sayL_ok hq
        exact absurd (by rw [h1]) (h a r v d h2 h3)
    · rfl
theorem takeBallotB_none (l : Bs) (h : ∀ (a r : Nat) (d : Bs), namedB a r (toB d) = true → l ≠ 118 :: ballotW a r (toB d)) : takeBallotB (toB l) = (0, 0, (⟨#[]⟩ : ByteArray), 3) := by
  unfold takeBallotB
  rw [ofB_toB]
  rcases l with _ | ⟨c, t⟩
  · rfl
  · simp only
    split
    · rename_i hc
      subst hc
      rcases hq : ballotL t with _ | ⟨a, r, d⟩
      · rfl
      · obtain ⟨h1, h2⟩ := ballotL_ok hq
        exact absurd (by rw [h1]) (h a r d h2)
    · rfl
theorem takeSayB_say {a r v : Int} {d : ByteArray} (h : namedB a r d = true) (hv : seatB v = true) : takeSayB (toB (121 :: sayW a r v d)) = (a, r, v, d, 0) := by
  obtain ⟨h1, h2, h3, h4, h5⟩ := (namedB_iff _ _ _).1 h
  obtain ⟨h6, h7⟩ := (seatB_iff _).1 hv
  unfold takeSayB
  rw [ofB_toB]
  simp only [if_true]
  rw [sayL_say h hv, sayOf]
  simp only [toB_ofB]
  rw [Int.toNat_of_nonneg (by omega), Int.toNat_of_nonneg (by omega), Int.toNat_of_nonneg (by omega)]
theorem takeBallotB_ballot {a r : Int} {d : ByteArray} (h : namedB a r d = true) : takeBallotB (toB (118 :: ballotW a r d)) = (a, r, d, 0) := by
  obtain ⟨h1, h2, h3, h4, h5⟩ := (namedB_iff _ _ _).1 h
  unfold takeBallotB
  rw [ofB_toB]
  simp only [if_true]
  rw [ballotL_ballot h, ballotOf]
  simp only [toB_ofB]
  rw [Int.toNat_of_nonneg (by omega), Int.toNat_of_nonneg (by omega)]
theorem sayW_cancel {a r v : Int} {d : ByteArray} (h : namedB a r d = true) (hv : seatB v = true) {a' r' v' : Int} {d' : ByteArray} (h' : namedB a' r' d' = true) (hv' : seatB v' = true) {s t : Bs} (e : sayW a r v d ++ s = sayW a' r' v' d' ++ t) : a = a' ∧ r = r' ∧ v = v' ∧ d = d' ∧ s = t := by
  obtain ⟨h1, h2, h3, h4, h5⟩ := (namedB_iff _ _ _).1 h
  obtain ⟨h6, h7⟩ := (seatB_iff _).1 hv
  obtain ⟨k1, k2, k3, k4, k5⟩ := (namedB_iff _ _ _).1 h'
  obtain ⟨k6, k7⟩ := (seatB_iff _).1 hv'
  rw [sayW, sayW] at e
  simp only [List.append_assoc] at e
  obtain ⟨e1, e⟩ := numL_cancel (by omega) (by omega) e
  obtain ⟨e2, e⟩ := numL_cancel (by omega) (by omega) e
  obtain ⟨e3, e⟩ := numL_cancel (by omega) (by omega) e
  obtain ⟨e4, e5⟩ := List.append_inj e (by rw [ofB_length, ofB_length, h5, k5])
  exact ⟨by omega, by omega, by omega, ofB_inj e4, e5⟩
theorem ballotW_cancel {a r : Int} {d : ByteArray} (h : namedB a r d = true) {a' r' : Int} {d' : ByteArray} (h' : namedB a' r' d' = true) {s t : Bs} (e : ballotW a r d ++ s = ballotW a' r' d' ++ t) : a = a' ∧ r = r' ∧ d = d' ∧ s = t := by
  obtain ⟨h1, h2, h3, h4, h5⟩ := (namedB_iff _ _ _).1 h
  obtain ⟨k1, k2, k3, k4, k5⟩ := (namedB_iff _ _ _).1 h'
  rw [ballotW, ballotW] at e
  simp only [List.append_assoc] at e
  obtain ⟨e1, e⟩ := numL_cancel (by omega) (by omega) e
  obtain ⟨e2, e⟩ := numL_cancel (by omega) (by omega) e
  obtain ⟨e4, e5⟩ := List.append_inj e (by rw [ofB_length, ofB_length, h5, k5])
  exact ⟨by omega, by omega, ofB_inj e4, e5⟩
theorem sayW_length {a r v : Int} {d : ByteArray} (h : namedB a r d = true) (hv : seatB v = true) : (sayW a r v d).length ≤ 60 := by
  obtain ⟨h1, h2, h3, h4, h5⟩ := (namedB_iff _ _ _).1 h
  obtain ⟨h6, h7⟩ := (seatB_iff _).1 hv
  have s0 := numL_length (v := a.toNat) (by omega)
  have s1 := numL_length (v := r.toNat) (by omega)
  have s2 := numL_length (v := v.toNat) (by omega)
  rw [sayW]; simp only [List.length_append, ofB_length]; omega
theorem ballotW_length {a r : Int} {d : ByteArray} (h : namedB a r d = true) : (ballotW a r d).length ≤ 60 := by
  obtain ⟨h1, h2, h3, h4, h5⟩ := (namedB_iff _ _ _).1 h
  have s0 := numL_length (v := a.toNat) (by omega)
  have s1 := numL_length (v := r.toNat) (by omega)
  rw [ballotW]; simp only [List.length_append, ofB_length]; omega
theorem post_Kind_of (s : ByteArray) : post_Kind.f s = some ((((ofB s).head?.map (fun c => (c.toNat : Int))).getD 0)) := by
  unfold post_Kind.f
  rw [toList_ofB]
  rcases hq : ofB s with _ | ⟨c, t⟩
  · rfl
  · have hz : s.size = t.length + 1 := by rw [← ofB_length, hq]; rfl
    rw [if_neg (by simp), if_pos (by omega)]
    have := bt_ofB s 0
    rw [hq] at this
    rw [show ((0 : Nat) : Int) = 0 from rfl] at this
    rw [this]; rfl
def d32 : ByteArray := strOfNums (List.replicate 32 0)
theorem d32_size : d32.size = 32 := by
  rw [d32, strOfNums_toB, toB_size, List.length_map, List.length_replicate]
theorem shown18_ev : Ev (fun k => selvedgelaw18_shown.f k) true := by
  unfold selvedgelaw18_shown.f
  refine ev_pos (by omega) (ev_bind_const rfl ?_)
  have hn : namedB 1 2 d32 = true := by rw [namedB_iff]; exact ⟨by omega, by omega, by omega, by omega, d32_size⟩
  have hz : (strOfNums (List.replicate 32 0)).size = 32 := d32_size
  refine Ev.bind (post_Say_ev 1 2 3 d32) (ev_pos (by omega) ?_)
  have hs : sayR 1 2 3 d32 = (toB (121 :: sayW 1 2 3 d32), 0) := if_pos ⟨hn, by decide⟩
  have b3 : be 3 = [3] := by rw [be_pos (by omega)]; simp [be_zero]
  have e : (toB (121 :: sayW 1 2 3 d32)).toList = ((⟨#[121, 1, 1, 1, 2, 1, 3]⟩ : ByteArray) ++ strOfNums (List.replicate 32 0)).toList := by
    rw [toList_ofB, toList_ofB, ofB_toB, ofB_append]
    show 121 :: (numL 1 ++ (numL 2 ++ (numL 3 ++ ofB d32))) = _
    rw [numL, numL, numL, be_1, be_2, b3]
    rfl
  rw [hs]
  refine ev_pos e (ev_pos rfl (ev_bind_const (post_Kind_of _) (ev_pos rfl (ev_bind_const (post_Kind_of _) (ev_eq (Ev.now _) ?_)))))
  rw [ofB_toB]; rfl
theorem takeSayB_cut {a r v : Int} {d : ByteArray} (h : namedB a r d = true) (hv : seatB v = true) (c : Nat) (hc : c < (121 :: sayW a r v d).length) : takeSayB (toB ((121 :: sayW a r v d).take c)) = (0, 0, 0, (⟨#[]⟩ : ByteArray), 3) := by
  refine takeSayB_none _ (fun a' r' v' d' h' hv' he => ?_)
  have e := List.take_append_drop c (121 :: sayW a r v d)
  rw [he, List.cons_append] at e
  injection e with _ e
  obtain ⟨_, _, _, _, e5⟩ := sayW_cancel h' hv' h hv (s := (121 :: sayW a r v d).drop c) (t := []) (by rw [List.append_nil]; exact e)
  have := congrArg List.length e5
  rw [List.length_drop, List.length_nil] at this
  omega
theorem takeSayB_more {a r v : Int} {d : ByteArray} (h : namedB a r d = true) (hv : seatB v = true) (c : UInt8) : takeSayB (toB (121 :: sayW a r v d) ++ (⟨#[c]⟩ : ByteArray)) = (0, 0, 0, (⟨#[]⟩ : ByteArray), 3) := by
  rw [show (⟨#[c]⟩ : ByteArray) = toB [c] from rfl, ← toB_append]
  refine takeSayB_none _ (fun a' r' v' d' h' hv' he => ?_)
  rw [List.cons_append] at he
  injection he with _ he
  obtain ⟨_, _, _, _, e5⟩ := sayW_cancel h hv h' hv' (s := [c]) (t := []) (by rw [List.append_nil]; exact he)
  cases e5
theorem takeBallotB_cut {a r : Int} {d : ByteArray} (h : namedB a r d = true) (c : Nat) (hc : c < (118 :: ballotW a r d).length) : takeBallotB (toB ((118 :: ballotW a r d).take c)) = (0, 0, (⟨#[]⟩ : ByteArray), 3) := by
  refine takeBallotB_none _ (fun a' r' d' h' he => ?_)
  have e := List.take_append_drop c (118 :: ballotW a r d)
  rw [he, List.cons_append] at e
  injection e with _ e
  obtain ⟨_, _, _, e5⟩ := ballotW_cancel h' h (s := (118 :: ballotW a r d).drop c) (t := []) (by rw [List.append_nil]; exact e)
  have := congrArg List.length e5
  rw [List.length_drop, List.length_nil] at this
  omega
theorem takeBallotB_more {a r : Int} {d : ByteArray} (h : namedB a r d = true) (c : UInt8) : takeBallotB (toB (118 :: ballotW a r d) ++ (⟨#[c]⟩ : ByteArray)) = (0, 0, (⟨#[]⟩ : ByteArray), 3) := by
  rw [show (⟨#[c]⟩ : ByteArray) = toB [c] from rfl, ← toB_append]
  refine takeBallotB_none _ (fun a' r' d' h' he => ?_)
  rw [List.cons_append] at he
  injection he with _ he
  obtain ⟨_, _, _, e5⟩ := ballotW_cancel h h' (s := [c]) (t := []) (by rw [List.append_nil]; exact he)
  cases e5


end Go.Proofs.Ytijnodcbgadooaa.Px

/- PostCut as a statement without Go: a say, or a ballot, that is cut off, or has a byte more, is none; for every say and cut. -/
namespace Go.Proofs.Ytijnodcbgadooaa.Pure
open Go.RowKit Go.Proofs.Ytijnodcbgadooaa.Px Go.Proofs.YtijnodcbgadooaaW.PrintWords Go.Proofs.YtijnodcbgadooaaW.PrintLast Go.Proofs.YtijnodcbgadooaaW.PrintMore

theorem PostCut : selvedgelaw18_PostCut_PureS := by
  intro a0 cut _ _ _ _
  obtain ⟨a, r, v, d⟩ := a0
  simp only
  have hx : ∀ (l : Bs) (c : Nat), (toB l).extract 0 (c : Int).toNat = toB (l.take c) := fun l c => by rw [Int.toNat_natCast, extract_toB, List.drop_zero, Nat.sub_zero]
  have J2 : ∀ b : Bool, (b = true → (ballotR a r d).2 = 0 ∧ 0 ≤ cut ∧ cut < ((ballotR a r d).1.size : Int)) → Ev (fun k => selvedgelaw18_PostCut.j2 k cut true (ballotR a r d).1 b) true := by
    intro b hb
    refine Ev.step (fun k => by rw [selvedgelaw18_PostCut.j2]) ?_
    rcases b with _ | _
    · exact ev_neg (by simp) (Ev.now _)
    · obtain ⟨h, h0, h1⟩ := hb rfl
      by_cases hn : namedB a r d = true
      · have hl := ballotW_length hn
        rw [ballotR, if_pos hn] at h1 ⊢
        obtain ⟨c, rfl⟩ := Int.eq_ofNat_of_zero_le h0
        simp only [toB_size, List.length_cons] at h1 ⊢
        have t1 := post_TakeBallot_of ((toB (118 :: ballotW a r d)).extract 0 (c : Int).toNat) (by rw [hx, toB_size, List.length_take, List.length_cons]; omega)
        have t2 := post_TakeBallot_of (toB (118 :: ballotW a r d) ++ (⟨#[120]⟩ : ByteArray)) (by rw [ByteArray.size_append, toB_size, size_one, List.length_cons]; omega)
        rw [hx, takeBallotB_cut hn c (by rw [List.length_cons]; omega)] at t1
        rw [takeBallotB_more hn] at t2
        rw [hx]
        exact ev_pos (by first | trivial | rfl) (ev_pos (by omega) (ev_pos (by omega) (ev_bind_const t1 (ev_pos (by omega) (ev_bind_const t2 (ev_pos rfl (ev_pos rfl (Ev.now _))))))))
      · rw [ballotR, if_neg hn] at h
        simp at h
  have J1 : Ev (fun k => selvedgelaw18_PostCut.j1 k cut true (ballotR a r d).1 (ballotR a r d).2) true := by
    refine Ev.step (fun k => by rw [selvedgelaw18_PostCut.j1]) ?_
    by_cases h : (ballotR a r d).2 = 0
    · refine ev_pos h ?_
      by_cases h0 : cut ≥ 0
      · exact ev_pos h0 (J2 _ (fun hb => ⟨h, h0, of_decide_eq_true hb⟩))
      · exact ev_neg h0 (J2 false (by simp))
    · exact ev_neg h (J2 false (by simp))
  have J0 : ∀ b : Bool, (b = true → (sayR a r v d).2 = 0 ∧ 0 ≤ cut ∧ cut < ((sayR a r v d).1.size : Int)) → Ev (fun k => selvedgelaw18_PostCut.j0 k cut true (sayR a r v d).1 (ballotR a r d).1 (ballotR a r d).2 b) true := by
    intro b hb
    refine Ev.step (fun k => by rw [selvedgelaw18_PostCut.j0]) ?_
    rcases b with _ | _
    · exact ev_neg (by simp) J1
    · obtain ⟨h, h0, h1⟩ := hb rfl
      by_cases hn : namedB a r d = true ∧ seatB v = true
      · have hl := sayW_length hn.1 hn.2
        rw [sayR, if_pos hn] at h1 ⊢
        obtain ⟨c, rfl⟩ := Int.eq_ofNat_of_zero_le h0
        simp only [toB_size, List.length_cons] at h1 ⊢
        have t1 := post_TakeSay_of ((toB (121 :: sayW a r v d)).extract 0 (c : Int).toNat) (by rw [hx, toB_size, List.length_take, List.length_cons]; omega)
        have t2 := post_TakeSay_of (toB (121 :: sayW a r v d) ++ (⟨#[120]⟩ : ByteArray)) (by rw [ByteArray.size_append, toB_size, size_one, List.length_cons]; omega)
        rw [hx, takeSayB_cut hn.1 hn.2 c (by rw [List.length_cons]; omega)] at t1
        rw [takeSayB_more hn.1 hn.2] at t2
        rw [hx]
        exact ev_pos (by first | trivial | rfl) (ev_pos (by omega) (ev_pos (by omega) (ev_bind_const t1 (ev_pos (by omega) (ev_bind_const t2 (ev_pos rfl (ev_pos rfl J1)))))))
      · rw [sayR, if_neg hn] at h
        simp at h
  refine Ev.rounds (Ev.bind shown18_ev (Ev.bind (post_Say_ev _ _ _ _) (ev_bind_const (post_Ballot_of _ _ _) ?_)))
  by_cases h : (sayR a r v d).2 = 0
  · refine ev_pos h ?_
    by_cases h0 : cut ≥ 0
    · exact ev_pos h0 (J0 _ (fun hb => ⟨h, h0, of_decide_eq_true hb⟩))
    · exact ev_neg h0 (J0 false (by simp))
  · exact ev_neg h (J0 false (by simp))

end Go.Proofs.Ytijnodcbgadooaa.Pure

-- written by this session's rows.py: the row of the law PostCut
namespace Go.Proofs.Ytijnodcbgadooaa.postCut
open Go.ChangeShapes Go.WideShapes Go.ChangeAt Go.RowKit
open Go.ChangeMaps (open_string shut_string)
open Go.RowKit Go.Proofs.Ytijnodcbgadooaa.Px Go.Proofs.YtijnodcbgadooaaW.PrintWords Go.Proofs.YtijnodcbgadooaaW.PrintLast Go.Proofs.YtijnodcbgadooaaW.PrintMore
set_option linter.unusedVariables false
theorem own : ownKnob Try.prog.godebug = none := by kernel_rfl
theorem laidOut : laidOutB Try.prog = true := by kernel_rfl
set_option maxRecDepth 100000 in
/-- what the walk gives, for every argument of the row -/
theorem contract (H : Type) (enc : TypeId × Value → H) (W : World) (base : Nat) (args : Array Value) (ds gs : List (DataW H)) (before : List MemPlace)
    (hval0 : ∀ (j : Nat) t v, Try.f14.params[j]? = some t → args[j]? = some v → Value.okWide Try.prog W .any base t v)
    (hW : DataW.Whole enc Try.prog Try.f14.params.toList Rows.postCutSpec.vars false W args.toList ds gs before)
    (hsz0 : (DataW.weightsEach Try.prog (Try.f14.params.toList ++ Rows.postCutSpec.plain.varTypes Try.prog) (ds ++ gs)).all (· ≤ reachBytes) = true) :
    Calls Try.prog 14 args W fun e W' => ∃ v, e = .returned v ∧ Rows.postCutSpec.post enc Try.prog Try.f14 false true false false W args v W' := by
  have hval : ∀ (j : Nat) t v, Try.f14.params[j]? = some t → args[j]? = some v → Value.okWide Try.prog W .any base t v := hval0
  have hW' := hW
  obtain ⟨p, q, hA0, hV, rfl, hfz, hnd⟩ := hW
  have hA : DataW.TrodAll enc Try.prog W 0 (fun _ => true) true Try.f14.params.toList args.toList ds p := hA0
  have hsz := hsz0
  rw [Try.params14] at hA hval hsz
  obtain ⟨v0, vs0, d0, ds0, p0, q0, hargs, rfl, rfl, h0, r0⟩ := trodAll_cons hA
  obtain ⟨v1, vs1, d1, ds1, p1, q1, rfl, rfl, rfl, h1, r1⟩ := trodAll_cons r0
  obtain ⟨rfl, rfl, rfl⟩ := trodAll_nil r1
  obtain rfl : args = #[v0, v1] := by cases args; simp_all
  obtain ⟨rfl, rfl⟩ := trodVars_none hV
  have t0 := h0
  have lt0 : ∀ x ∈ p0, x.block < W.heap.size := by obtain ⟨m, hm⟩ := t0; exact DataW.trod_lt m _ _ _ hm
  have t1 := h1
  have lt1 : ∀ x ∈ p1, x.block < W.heap.size := by obtain ⟨m, hm⟩ := t1; exact DataW.trod_lt m _ _ _ hm
  obtain ⟨a0, K0, ok0, wt0, bk0⟩ := fit_arg fit61 h0
  have wq0 := wt0 (fun n hn => of_decide_eq_true (List.all_eq_true.1 hsz n (DataW.weights_mem_each (j := 0) (t := rd61.t) (d := d0) rfl rfl n hn)))
  obtain ⟨cs0, rfl, sz0⟩ := okWide_struct Try.underlying61 (hval 0 61 v0 rfl rfl)
  have e0 := k61_open (show k61.K W a0 _ from K0)
  obtain rfl : cs0 = #[.int .i64 a0.f0, .int .i64 a0.f1, .int .i64 a0.f2, .string a0.f3] := by have := congrArg List.toArray e0; simpa [Value.cells] using this
  obtain ⟨a1, K1, ok1, wt1, bk1⟩ := fit_arg (fit_int Try.underlying3) h1
  have wq1 := wt1 (fun n hn => of_decide_eq_true (List.all_eq_true.1 hsz n (DataW.weights_mem_each (j := 1) (t := (rdInt 3 .i64).t) (d := d1) rfl rfl n hn)))
  obtain ⟨a1', rfl, rfl, rfl, y1⟩ := open_int Try.underlying3 (hval 1 3 v1 rfl rfl) h1
  have e1 : a1' = a1 := by have := K1; simpa [rdInt, rdBool, rdString, Kd.int, Kd.bool, Kd.string, Kd.scalar, Value.cells] using this
  subst e1
  obtain ⟨kk, hkk⟩ := Pure.PostCut a0 a1' ok0 ok1 wq0 wq1
  refine (selvedgelaw18_PostCut.calls kk (a0.f0) (a0.f1) (a0.f2) (a0.f3) a1' true W  hkk).mono fun e W' ⟨he, bel0⟩ => ?_
  have bel := bel0
  subst he
  exact ⟨_, rfl, _, _, _, [], _, [], hW', trodAll_mk1 (shut_bool Try.underlying4 _), (trodAll_cons_mk (Below.trod laidOut (by kernel_rfl) (of_decide_eq_true (by kernel_rfl)) t0 bel lt0) (trodAll_cons_mk (Below.trod laidOut (by kernel_rfl) (of_decide_eq_true (by kernel_rfl)) t1 bel lt1) trodAll_mk0)), rfl, bel.frame _, fun h => by cases h⟩
set_option maxRecDepth 100000 in
theorem lifted (os : Os) (started : os.Started) (H : Type) (enc : TypeId × Value → H) :
    ReturnsInHanded {} Try.checked os 14 .any (Rows.postCutSpec.pre6 enc Try.prog Try.f14 Rows.postCutRow.domain false) (Rows.postCutSpec.post enc Try.prog Try.f14 false true false false) := by
  refine returnsInHanded_of_change_sized (C := Try.checked) own started (by kernel_rfl) Try.func14
    (ChangeSpec.witness6 (enc := enc) (C := Try.checked) false ⟨#[], #[.agg #[.int .i64 0, .int .i64 0, .int .i64 0, .string ByteArray.empty], .int .i64 0], []⟩ 8 (by kernel_rfl) (by kernel_rfl) (by kernel_rfl) (by kernel_rfl)) ?_
  intro W base args ds gs before hval hW _ hsz _
  exact contract H enc W base args ds gs before hval hW hsz
theorem proved : Rows.PostCutSaid :=
  OpenClaim.holds_of_wide 14 Try.f14 rfl rfl rfl rfl rfl rfl rfl ⟨rfl, rfl, rfl, rfl, rfl⟩ rfl rfl rfl rfl rfl (by kernel_rfl) Try.func14 (by kernel_rfl)
    (of_decide_eq_true (by kernel_rfl)) (by unfold Func.isWrapper; first | (rw [if_pos (by decide +kernel)]; kernel_rfl) | (rw [if_neg (by decide +kernel)]; exact ⟨rfl, rfl⟩))
    (fun os started H enc _ => lifted os started H enc)
#print axioms proved
end Go.Proofs.Ytijnodcbgadooaa.postCut
namespace Go.Proofs.Ytijnodcbgadooaa
/-- The row, under a short name, for the claim. -/
theorem postCut_holds : Rows.PostCutSaid := postCut.proved
end Go.Proofs.Ytijnodcbgadooaa
