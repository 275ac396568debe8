/- part 5 of the law BatchBack: the texts of its proof, merged by this session's bundle.py. What is proved: the statement at the end of the last of these texts; its conditions are those of the given row. -/
import Derived.Test.YtijnodcbgadooaaZBatchBackA
import Derived.Test.YtijnodcbgadooaaZBatchBackB
import Derived.Test.YtijnodcbgadooaaZBatchBackC
import Derived.Test.YtijnodcbgadooaaZBatchBackD
-- printed by this session's pprint.py (the kit's print, with this session's plugs) out of the translation; Lean checks it
namespace Go.Proofs.Ytijnodcbgadooaa.Px
open Go.RowKit Go.Proofs.YtijnodcbgadooaaW.PrintWords Go.Proofs.YtijnodcbgadooaaW.PrintLast Go.Proofs.YtijnodcbgadooaaW.PrintMore
attribute [local go_sem] max2_int min2_int max_two min_two max_three min_three max_four min_four   -- for this text's walks alone
set_option linter.unusedVariables false
set_option linter.unusedSimpArgs false

/-! ### batch_Same: function 31 -/
def batch_Same.f (k : Nat) (a0_0 : Int) (a0_1 : Int) (l0_2 : List ByteArray) (a1_0 : Int) (a1_1 : Int) (l1_2 : List ByteArray) : Option (Bool) := if a0_0 = a1_0 then (if a0_1 = a1_1 then ((slices_Equal_string_string.f k l0_2 l1_2).bind fun t176 => (some t176)) else (some false)) else (some false)
theorem batch_Same.mono : ∀ a0 a1 a2 a3 a4 a5 k, LeO (batch_Same.f k a0 a1 a2 a3 a4 a5) (batch_Same.f (k + 1) a0 a1 a2 a3 a4 a5) := by
  intro a0 a1 a2 a3 a4 a5 k
  unfold batch_Same.f
  repeat' first
      | (with_reducible exact slices_Equal_string_string.mono _ _ _)
      | (with_reducible exact LeO.refl _)
      | (with_reducible exact LeO.none _)
      | (with_reducible refine LeO.ite ?_ ?_)
      | (with_reducible refine LeO.bind ?_ (fun _ => ?_))
      | exact slices_Equal_string_string.mono _ _ _
      | exact LeO.none _
      | refine LeO.ite ?_ ?_
      | refine LeO.bind ?_ (fun _ => ?_)
set_option maxHeartbeats 8000000 in
set_option maxRecDepth 100000 in
theorem batch_Same.calls (k : Nat) (a0_0 : Int) (a0_1 : Int) (A0_2 : Option Addr) (c0_2 : Nat) (l0_2 : List ByteArray) (a1_0 : Int) (a1_1 : Int) (A1_2 : Option Addr) (c1_2 : Nat) (l1_2 : List ByteArray) (r : Bool) (w : World) (hr0_2 : Kd.C Kd.string w A0_2 l0_2.length l0_2) (hc0_2 : l0_2.length ≤ c0_2) (hr1_2 : Kd.C Kd.string w A1_2 l1_2.length l1_2) (hc1_2 : l1_2.length ≤ c1_2) (h : batch_Same.f k a0_0 a0_1 l0_2 a1_0 a1_1 l1_2 = some r) :
    Calls Try.prog 31 #[.agg #[.int .i64 a0_0, .int .i64 a0_1, .slice A0_2 l0_2.length c0_2], .agg #[.int .i64 a1_0, .int .i64 a1_1, .slice A1_2 l1_2.length c1_2]] w fun e w' => e = .returned (.bool r) ∧ Below w.heap.size w w' := by
  have hu43 := Try.underlying43
  have HR0_2 := Aside0.mk hr0_2
  have HC0_2 := Aside0.mk hc0_2
  clear hr0_2 hc0_2
  have HR1_2 := Aside0.mk hr1_2
  have HC1_2 := Aside0.mk hc1_2
  clear hr1_2 hc1_2
  have HB := Aside0.mk (Below.refl w.heap.size w)
  have H : (if a0_0 = a1_0 then (if a0_1 = a1_1 then ((slices_Equal_string_string.f k l0_2 l1_2).bind fun t176 => (some t176)) else (some false)) else (some false)) = some r := h
  clear h
  by_cases c3 : a0_0 = a1_0
  · rw [if_pos c3] at H
    have c3b0 : (a0_0 == a1_0) = true := beq_iff_eq.mpr c3
    have c3b1 : (a0_0 != a1_0) = false := bne_eq_false_iff_eq.mpr c3
    clear c3
    by_cases c4 : a0_1 = a1_1
    · rw [if_pos c4] at H
      have c4b0 : (a0_1 == a1_1) = true := beq_iff_eq.mpr c4
      have c4b1 : (a0_1 != a1_1) = false := bne_eq_false_iff_eq.mpr c4
      clear c4
      replace H := Option.bind_eq_some_iff.mp H
      obtain ⟨t176, A50, H⟩ := H
      replace H : (some t176) = some r := H
      have A5 := Aside0.mk A50
      clear A50
      obtain rfl := Option.some.inj H
      go_enter Try.func31, Try.ntmps31
      go_wp2_with (first | ((with_reducible refine gate_dst (N := 2) rfl ?_); refine box_event ?hg (N := 2) ?hd (cs := #[.int .i64 a0_0, .int .i64 a0_1, .slice A0_2 l0_2.length c0_2]) (t := 43) ?hr ?_; (case hd => rfl); (case hg => rfl); (case hr => first | (go_simp; done) | (go_simp; rfl)); intro gb174 hg w6 hbox hb; have n0_ := Aside0.mk (below_step (by repeat (first | (with_reducible first | exact HB.out | apply below_alloc | apply pw_below_drewN | apply below_drew1) | exact HB.out)) hb); have n1_ := Aside0.mk (hbox); have n2_ := Aside0.mk ((by rw [hg]; exact (below_size (by repeat (first | (with_reducible first | exact HB.out | apply below_alloc | apply pw_below_drewN | apply below_drew1) | exact HB.out))) : w.heap.size ≤ gb174)); have n3_ := Aside0.mk ((by rw [hg]; exact (below_size (by repeat (first | (with_reducible first | exact HB.out | apply below_alloc | apply pw_below_drewN | apply below_drew1) | exact HB.out))) : w.heap.size ≤ gb174)); clear HB; have HB := n0_; have BK174 := n1_; have GW174 := n2_; have GE174 := n3_; clear n0_ n1_ n2_ n3_; clear hb hbox hg) | ((with_reducible refine gate_dst (N := 3) rfl ?_); refine box_event ?hg (N := 3) ?hd (cs := #[.int .i64 a1_0, .int .i64 a1_1, .slice A1_2 l1_2.length c1_2]) (t := 43) ?hr ?_; (case hd => rfl); (case hg => rfl); (case hr => first | (go_simp; done) | (go_simp; rfl)); intro gb175 hg w7 hbox hb; have n0_ := Aside0.mk (blk_below (g := gb174) (o := .cells #[.int .i64 a0_0, .int .i64 a0_1, .slice A0_2 l0_2.length c0_2] 43 (0, 0)) (by (with_reducible repeat (first | refine blk_drewN ?_ _ | refine blk_drew ?_ | refine blk_alloc ?_ _)); exact BK174.out) hb); have n1_ := Aside0.mk (below_step (by repeat (first | (with_reducible first | exact HB.out | apply below_alloc | apply pw_below_drewN | apply below_drew1 | refine below_set ?_ GE174.out) | exact HB.out)) hb); have n2_ := Aside0.mk (hbox); have n3_ := Aside0.mk ((by rw [hg]; exact (below_size (by repeat (first | (with_reducible first | exact HB.out | apply below_alloc | apply pw_below_drewN | apply below_drew1 | refine below_set ?_ GE174.out) | exact HB.out))) : w.heap.size ≤ gb175)); have n4_ := Aside0.mk ((by rw [hg]; exact (below_size (by repeat (first | (with_reducible first | exact HB.out | apply below_alloc | apply pw_below_drewN | apply below_drew1 | refine below_set ?_ GE174.out) | exact HB.out))) : w.heap.size ≤ gb175)); have n5_ := Aside0.mk ((by rw [hg]; exact Nat.ne_of_lt (blk_lt (g := gb174) (o := .cells #[.int .i64 a0_0, .int .i64 a0_1, .slice A0_2 l0_2.length c0_2] 43 (0, 0)) (by (with_reducible repeat (first | refine blk_drewN ?_ _ | refine blk_drew ?_ | refine blk_alloc ?_ _)); exact BK174.out)) : gb174 ≠ gb175)); have n6_ := Aside0.mk ((by rw [hg]; exact Nat.ne_of_gt (blk_lt (g := gb174) (o := .cells #[.int .i64 a0_0, .int .i64 a0_1, .slice A0_2 l0_2.length c0_2] 43 (0, 0)) (by (with_reducible repeat (first | refine blk_drewN ?_ _ | refine blk_drew ?_ | refine blk_alloc ?_ _)); exact BK174.out)) : gb175 ≠ gb174)); clear BK174; clear HB; have BK174 := n0_; have HB := n1_; have BK175 := n2_; have GW175 := n3_; have GE175 := n4_; have NB174_175 := n5_; have NB175_174 := n6_; clear n0_ n1_ n2_ n3_ n4_ n5_ n6_; clear hb hbox hg; have hnb8 := NB174_175.out; have hnc8 := NB175_174.out; have hcz9_0 : w7.cell? ⟨gb174, 0, none⟩ = some (.int .i64 a0_0) := (blk_cell BK174.out 0).trans rfl; have hcz9_1 : w7.cell? ⟨gb174, 1, none⟩ = some (.int .i64 a0_1) := (blk_cell BK174.out 1).trans rfl; have hcz9_2 : w7.cell? ⟨gb174, 2, none⟩ = some (.slice A0_2 l0_2.length c0_2) := (blk_cell BK174.out 2).trans rfl; have hfz9_0 := blk_frozen BK174.out 0; have hfz9_1 := blk_frozen BK174.out 1; have hfz9_2 := blk_frozen BK174.out 2; have hcz10_0 : w7.cell? ⟨gb175, 0, none⟩ = some (.int .i64 a1_0) := (blk_cell BK175.out 0).trans rfl; have hcz10_1 : w7.cell? ⟨gb175, 1, none⟩ = some (.int .i64 a1_1) := (blk_cell BK175.out 1).trans rfl; have hcz10_2 : w7.cell? ⟨gb175, 2, none⟩ = some (.slice A1_2 l1_2.length c1_2) := (blk_cell BK175.out 2).trans rfl; have hfz10_0 := blk_frozen BK175.out 0; have hfz10_1 := blk_frozen BK175.out 1; have hfz10_2 := blk_frozen BK175.out 2) | (go_at_call 48; (with_reducible refine (slices_Equal_string_string.calls k _ _ l0_2 _ _ l1_2 t176 _ ?side1 ?side2 ?side3 ?side4 A5.out).mono ?_); (case side1 => repeat (first | exact (Kd.C_below HR0_2.out HB.out) | (with_reducible refine Kd.C_alloc ?_ _) | (with_reducible refine Kd.C_drewN ?_ _) | (with_reducible refine Kd.C_drew ?_))); (case side2 => exact HC0_2.out); (case side3 => repeat (first | exact (Kd.C_below HR1_2.out HB.out) | (with_reducible refine Kd.C_alloc ?_ _) | (with_reducible refine Kd.C_drewN ?_ _) | (with_reducible refine Kd.C_drew ?_))); (case side4 => exact HC1_2.out); rintro e w' ⟨rfl, ⟨nd, rfl⟩⟩))
      go_ret
      exact ⟨by first | rfl | (simp [errW_none, errW_some] <;> rfl) | (simp [*, errW_none, errW_some] <;> rfl), by repeat (first | (with_reducible first | exact HB.out | apply below_alloc | apply pw_below_drewN | apply below_drew1 | refine below_set ?_ GE174.out | refine below_set ?_ GE175.out) | exact HB.out)⟩
    · rw [if_neg c4] at H
      have c4b0 : (a0_1 == a1_1) = false := beq_eq_false_iff_ne.mpr c4
      have c4b1 : (a0_1 != a1_1) = true := bne_iff_ne.mpr c4
      obtain rfl := Option.some.inj H
      go_enter Try.func31, Try.ntmps31
      go_wp2_with (first | ((with_reducible refine gate_dst (N := 2) rfl ?_); refine box_event ?hg (N := 2) ?hd (cs := #[.int .i64 a0_0, .int .i64 a0_1, .slice A0_2 l0_2.length c0_2]) (t := 43) ?hr ?_; (case hd => rfl); (case hg => rfl); (case hr => first | (go_simp; done) | (go_simp; rfl)); intro gb174 hg w11 hbox hb; have n0_ := Aside0.mk (below_step (by repeat (first | (with_reducible first | exact HB.out | apply below_alloc | apply pw_below_drewN | apply below_drew1) | exact HB.out)) hb); have n1_ := Aside0.mk (hbox); have n2_ := Aside0.mk ((by rw [hg]; exact (below_size (by repeat (first | (with_reducible first | exact HB.out | apply below_alloc | apply pw_below_drewN | apply below_drew1) | exact HB.out))) : w.heap.size ≤ gb174)); have n3_ := Aside0.mk ((by rw [hg]; exact (below_size (by repeat (first | (with_reducible first | exact HB.out | apply below_alloc | apply pw_below_drewN | apply below_drew1) | exact HB.out))) : w.heap.size ≤ gb174)); clear HB; have HB := n0_; have BK174 := n1_; have GW174 := n2_; have GE174 := n3_; clear n0_ n1_ n2_ n3_; clear hb hbox hg) | ((with_reducible refine gate_dst (N := 3) rfl ?_); refine box_event ?hg (N := 3) ?hd (cs := #[.int .i64 a1_0, .int .i64 a1_1, .slice A1_2 l1_2.length c1_2]) (t := 43) ?hr ?_; (case hd => rfl); (case hg => rfl); (case hr => first | (go_simp; done) | (go_simp; rfl)); intro gb175 hg w12 hbox hb; have n0_ := Aside0.mk (blk_below (g := gb174) (o := .cells #[.int .i64 a0_0, .int .i64 a0_1, .slice A0_2 l0_2.length c0_2] 43 (0, 0)) (by (with_reducible repeat (first | refine blk_drewN ?_ _ | refine blk_drew ?_ | refine blk_alloc ?_ _)); exact BK174.out) hb); have n1_ := Aside0.mk (below_step (by repeat (first | (with_reducible first | exact HB.out | apply below_alloc | apply pw_below_drewN | apply below_drew1 | refine below_set ?_ GE174.out) | exact HB.out)) hb); have n2_ := Aside0.mk (hbox); have n3_ := Aside0.mk ((by rw [hg]; exact (below_size (by repeat (first | (with_reducible first | exact HB.out | apply below_alloc | apply pw_below_drewN | apply below_drew1 | refine below_set ?_ GE174.out) | exact HB.out))) : w.heap.size ≤ gb175)); have n4_ := Aside0.mk ((by rw [hg]; exact (below_size (by repeat (first | (with_reducible first | exact HB.out | apply below_alloc | apply pw_below_drewN | apply below_drew1 | refine below_set ?_ GE174.out) | exact HB.out))) : w.heap.size ≤ gb175)); have n5_ := Aside0.mk ((by rw [hg]; exact Nat.ne_of_lt (blk_lt (g := gb174) (o := .cells #[.int .i64 a0_0, .int .i64 a0_1, .slice A0_2 l0_2.length c0_2] 43 (0, 0)) (by (with_reducible repeat (first | refine blk_drewN ?_ _ | refine blk_drew ?_ | refine blk_alloc ?_ _)); exact BK174.out)) : gb174 ≠ gb175)); have n6_ := Aside0.mk ((by rw [hg]; exact Nat.ne_of_gt (blk_lt (g := gb174) (o := .cells #[.int .i64 a0_0, .int .i64 a0_1, .slice A0_2 l0_2.length c0_2] 43 (0, 0)) (by (with_reducible repeat (first | refine blk_drewN ?_ _ | refine blk_drew ?_ | refine blk_alloc ?_ _)); exact BK174.out)) : gb175 ≠ gb174)); clear BK174; clear HB; have BK174 := n0_; have HB := n1_; have BK175 := n2_; have GW175 := n3_; have GE175 := n4_; have NB174_175 := n5_; have NB175_174 := n6_; clear n0_ n1_ n2_ n3_ n4_ n5_ n6_; clear hb hbox hg; have hnb13 := NB174_175.out; have hnc13 := NB175_174.out; have hcz14_0 : w12.cell? ⟨gb174, 0, none⟩ = some (.int .i64 a0_0) := (blk_cell BK174.out 0).trans rfl; have hcz14_1 : w12.cell? ⟨gb174, 1, none⟩ = some (.int .i64 a0_1) := (blk_cell BK174.out 1).trans rfl; have hcz14_2 : w12.cell? ⟨gb174, 2, none⟩ = some (.slice A0_2 l0_2.length c0_2) := (blk_cell BK174.out 2).trans rfl; have hfz14_0 := blk_frozen BK174.out 0; have hfz14_1 := blk_frozen BK174.out 1; have hfz14_2 := blk_frozen BK174.out 2; have hcz15_0 : w12.cell? ⟨gb175, 0, none⟩ = some (.int .i64 a1_0) := (blk_cell BK175.out 0).trans rfl; have hcz15_1 : w12.cell? ⟨gb175, 1, none⟩ = some (.int .i64 a1_1) := (blk_cell BK175.out 1).trans rfl; have hcz15_2 : w12.cell? ⟨gb175, 2, none⟩ = some (.slice A1_2 l1_2.length c1_2) := (blk_cell BK175.out 2).trans rfl; have hfz15_0 := blk_frozen BK175.out 0; have hfz15_1 := blk_frozen BK175.out 1; have hfz15_2 := blk_frozen BK175.out 2))
      go_ret
      exact ⟨by first | rfl | (simp [errW_none, errW_some] <;> rfl) | (simp [*, errW_none, errW_some] <;> rfl), by repeat (first | (with_reducible first | exact HB.out | apply below_alloc | apply pw_below_drewN | apply below_drew1 | refine below_set ?_ GE174.out | refine below_set ?_ GE175.out) | exact HB.out)⟩
  · rw [if_neg c3] at H
    have c3b0 : (a0_0 == a1_0) = false := beq_eq_false_iff_ne.mpr c3
    have c3b1 : (a0_0 != a1_0) = true := bne_iff_ne.mpr c3
    obtain rfl := Option.some.inj H
    go_enter Try.func31, Try.ntmps31
    go_wp2_with (first | ((with_reducible refine gate_dst (N := 2) rfl ?_); refine box_event ?hg (N := 2) ?hd (cs := #[.int .i64 a0_0, .int .i64 a0_1, .slice A0_2 l0_2.length c0_2]) (t := 43) ?hr ?_; (case hd => rfl); (case hg => rfl); (case hr => first | (go_simp; done) | (go_simp; rfl)); intro gb174 hg w16 hbox hb; have n0_ := Aside0.mk (below_step (by repeat (first | (with_reducible first | exact HB.out | apply below_alloc | apply pw_below_drewN | apply below_drew1) | exact HB.out)) hb); have n1_ := Aside0.mk (hbox); have n2_ := Aside0.mk ((by rw [hg]; exact (below_size (by repeat (first | (with_reducible first | exact HB.out | apply below_alloc | apply pw_below_drewN | apply below_drew1) | exact HB.out))) : w.heap.size ≤ gb174)); have n3_ := Aside0.mk ((by rw [hg]; exact (below_size (by repeat (first | (with_reducible first | exact HB.out | apply below_alloc | apply pw_below_drewN | apply below_drew1) | exact HB.out))) : w.heap.size ≤ gb174)); clear HB; have HB := n0_; have BK174 := n1_; have GW174 := n2_; have GE174 := n3_; clear n0_ n1_ n2_ n3_; clear hb hbox hg) | ((with_reducible refine gate_dst (N := 3) rfl ?_); refine box_event ?hg (N := 3) ?hd (cs := #[.int .i64 a1_0, .int .i64 a1_1, .slice A1_2 l1_2.length c1_2]) (t := 43) ?hr ?_; (case hd => rfl); (case hg => rfl); (case hr => first | (go_simp; done) | (go_simp; rfl)); intro gb175 hg w17 hbox hb; have n0_ := Aside0.mk (blk_below (g := gb174) (o := .cells #[.int .i64 a0_0, .int .i64 a0_1, .slice A0_2 l0_2.length c0_2] 43 (0, 0)) (by (with_reducible repeat (first | refine blk_drewN ?_ _ | refine blk_drew ?_ | refine blk_alloc ?_ _)); exact BK174.out) hb); have n1_ := Aside0.mk (below_step (by repeat (first | (with_reducible first | exact HB.out | apply below_alloc | apply pw_below_drewN | apply below_drew1 | refine below_set ?_ GE174.out) | exact HB.out)) hb); have n2_ := Aside0.mk (hbox); have n3_ := Aside0.mk ((by rw [hg]; exact (below_size (by repeat (first | (with_reducible first | exact HB.out | apply below_alloc | apply pw_below_drewN | apply below_drew1 | refine below_set ?_ GE174.out) | exact HB.out))) : w.heap.size ≤ gb175)); have n4_ := Aside0.mk ((by rw [hg]; exact (below_size (by repeat (first | (with_reducible first | exact HB.out | apply below_alloc | apply pw_below_drewN | apply below_drew1 | refine below_set ?_ GE174.out) | exact HB.out))) : w.heap.size ≤ gb175)); have n5_ := Aside0.mk ((by rw [hg]; exact Nat.ne_of_lt (blk_lt (g := gb174) (o := .cells #[.int .i64 a0_0, .int .i64 a0_1, .slice A0_2 l0_2.length c0_2] 43 (0, 0)) (by (with_reducible repeat (first | refine blk_drewN ?_ _ | refine blk_drew ?_ | refine blk_alloc ?_ _)); exact BK174.out)) : gb174 ≠ gb175)); have n6_ := Aside0.mk ((by rw [hg]; exact Nat.ne_of_gt (blk_lt (g := gb174) (o := .cells #[.int .i64 a0_0, .int .i64 a0_1, .slice A0_2 l0_2.length c0_2] 43 (0, 0)) (by (with_reducible repeat (first | refine blk_drewN ?_ _ | refine blk_drew ?_ | refine blk_alloc ?_ _)); exact BK174.out)) : gb175 ≠ gb174)); clear BK174; clear HB; have BK174 := n0_; have HB := n1_; have BK175 := n2_; have GW175 := n3_; have GE175 := n4_; have NB174_175 := n5_; have NB175_174 := n6_; clear n0_ n1_ n2_ n3_ n4_ n5_ n6_; clear hb hbox hg; have hnb18 := NB174_175.out; have hnc18 := NB175_174.out; have hcz19_0 : w17.cell? ⟨gb174, 0, none⟩ = some (.int .i64 a0_0) := (blk_cell BK174.out 0).trans rfl; have hcz19_1 : w17.cell? ⟨gb174, 1, none⟩ = some (.int .i64 a0_1) := (blk_cell BK174.out 1).trans rfl; have hcz19_2 : w17.cell? ⟨gb174, 2, none⟩ = some (.slice A0_2 l0_2.length c0_2) := (blk_cell BK174.out 2).trans rfl; have hfz19_0 := blk_frozen BK174.out 0; have hfz19_1 := blk_frozen BK174.out 1; have hfz19_2 := blk_frozen BK174.out 2; have hcz20_0 : w17.cell? ⟨gb175, 0, none⟩ = some (.int .i64 a1_0) := (blk_cell BK175.out 0).trans rfl; have hcz20_1 : w17.cell? ⟨gb175, 1, none⟩ = some (.int .i64 a1_1) := (blk_cell BK175.out 1).trans rfl; have hcz20_2 : w17.cell? ⟨gb175, 2, none⟩ = some (.slice A1_2 l1_2.length c1_2) := (blk_cell BK175.out 2).trans rfl; have hfz20_0 := blk_frozen BK175.out 0; have hfz20_1 := blk_frozen BK175.out 1; have hfz20_2 := blk_frozen BK175.out 2))
    go_ret
    exact ⟨by first | rfl | (simp [errW_none, errW_some] <;> rfl) | (simp [*, errW_none, errW_some] <;> rfl), by repeat (first | (with_reducible first | exact HB.out | apply below_alloc | apply pw_below_drewN | apply below_drew1 | refine below_set ?_ GE174.out | refine below_set ?_ GE175.out) | exact HB.out)⟩

end Go.Proofs.Ytijnodcbgadooaa.Px

-- printed by this session's pprint.py (the kit's print, with this session's plugs) out of the translation; Lean checks it
namespace Go.Proofs.Ytijnodcbgadooaa.Px
open Go.RowKit Go.Proofs.YtijnodcbgadooaaW.PrintWords Go.Proofs.YtijnodcbgadooaaW.PrintLast Go.Proofs.YtijnodcbgadooaaW.PrintMore
attribute [local go_sem] max2_int min2_int max_two min_two max_three min_three max_four min_four   -- for this text's walks alone
set_option linter.unusedVariables false
set_option linter.unusedSimpArgs false

/-! ### words: w13_batch.tpl -/

/-! two rows of texts; batches -/
theorem rdOf_at (l : List ByteArray) (j : Nat) (h : j < l.length) : rdOf ByteArray.empty l (j : Int) = l[j] := by
  rw [rdOf, Int.toNat_natCast, List.getD_eq_getElem?_getD, List.getElem?_eq_getElem h]; rfl
theorem toList_eq_iff (a b : ByteArray) : a.toList = b.toList ↔ a = b := by
  rw [toList_ofB, toList_ofB]
  exact ⟨fun h => ofB_inj h, fun h => by rw [h]⟩
theorem beq_toList (a b : ByteArray) : (a.toList == b.toList) = decide (a = b) := by
  rw [Bool.eq_iff_iff]; simp [toList_eq_iff]
theorem equal_loop (a b : List ByteArray) (hl : a.length = b.length) (hb : a.length < 4611686018427387904) (d : Nat) : ∀ j, j + d = a.length →
    Ev (fun k => slices_Equal_string_string.l0 k a b (a.length : Int) (j : Int)) (decide (a.drop j = b.drop j)) := by
  induction d with
  | zero =>
    intro j hj
    refine Ev.step (fun k => by rw [slices_Equal_string_string.l0]) ?_
    refine ev_neg (by omega) (ev_eq (Ev.now _) ?_)
    rw [List.drop_eq_nil_of_le (by omega), List.drop_eq_nil_of_le (by omega)]; rfl
  | succ d ih =>
    intro j hj
    refine Ev.step (fun k => by rw [slices_Equal_string_string.l0]) ?_
    have h1 : j < a.length := by omega
    have h2 : j < b.length := by omega
    refine ev_pos (by omega) (ev_pos (by omega) (ev_pos (by omega) (ev_pos (by omega) ?_)))
    rw [rdOf_at a j h1, rdOf_at b j h2, List.drop_eq_getElem_cons h1, List.drop_eq_getElem_cons h2, wrap64_of (by omega) (by omega)]
    by_cases h : a[j] = b[j]
    · refine ev_pos (by rw [h]) (ev_eq (ih (j + 1) (by omega)) ?_)
      simp only [List.cons.injEq, h, true_and]
    · refine ev_neg (by simpa [toList_eq_iff] using h) (ev_eq (Ev.now _) ?_)
      simp only [List.cons.injEq, h, false_and, decide_false]
theorem equal_ev (a b : List ByteArray) (hb : a.length < 4611686018427387904) : Ev (fun k => slices_Equal_string_string.f k a b) (decide (a = b)) := by
  by_cases hl : a.length = b.length
  · exact ev_pos (by omega) (equal_loop a b hl hb a.length 0 (by omega))
  · refine ev_neg (by omega) (ev_eq (Ev.now _) ?_)
    rw [eq_comm, decide_eq_false_iff_not]
    exact fun h => hl (by rw [h])
theorem refSame_loop (a b : List ByteArray) (hl : a.length = b.length) (hb : a.length < 4611686018427387904) (d : Nat) : ∀ j, j + d = a.length →
    Ev (fun k => selvedgeref01_Same.l0 k a b (j : Int)) (decide (a.drop j = b.drop j)) := by
  induction d with
  | zero =>
    intro j hj
    refine Ev.step (fun k => by rw [selvedgeref01_Same.l0]) ?_
    refine ev_neg (by omega) (ev_eq (Ev.now _) ?_)
    rw [List.drop_eq_nil_of_le (by omega), List.drop_eq_nil_of_le (by omega)]; rfl
  | succ d ih =>
    intro j hj
    refine Ev.step (fun k => by rw [selvedgeref01_Same.l0]) ?_
    have h1 : j < a.length := by omega
    have h2 : j < b.length := by omega
    refine ev_pos (by omega) (ev_pos (by omega) (ev_pos (by omega) ?_))
    rw [rdOf_at a j h1, rdOf_at b j h2, List.drop_eq_getElem_cons h1, List.drop_eq_getElem_cons h2, wrap64_of (by omega) (by omega)]
    by_cases h : a[j] = b[j]
    · refine ev_pos (by rw [h]) (ev_eq (ih (j + 1) (by omega)) ?_)
      simp only [List.cons.injEq, h, true_and]
    · refine ev_neg (by simpa [toList_eq_iff] using h) (ev_eq (Ev.now _) ?_)
      simp only [List.cons.injEq, h, false_and, decide_false]
theorem refSame_ev (a b : List ByteArray) (hb : a.length < 4611686018427387904) : Ev (fun k => selvedgeref01_Same.f k a b) (decide (a = b)) := by
  by_cases hl : a.length = b.length
  · exact ev_pos (by omega) (refSame_loop a b hl hb a.length 0 (by omega))
  · refine ev_neg (by omega) (ev_eq (Ev.now _) ?_)
    rw [eq_comm, decide_eq_false_iff_not]
    exact fun h => hl (by rw [h])
/-- a batch's parts are another one's -/
def batchEq (o q : Int) (l : List ByteArray) (o' q' : Int) (l' : List ByteArray) : Bool := decide (o = o' ∧ q = q' ∧ l = l')
theorem batchSame_ev (o q : Int) (l : List ByteArray) (o' q' : Int) (l' : List ByteArray) (hb : l.length < 4611686018427387904) : Ev (fun k => batch_Same.f k o q l o' q' l') (batchEq o q l o' q' l') := by
  unfold batchEq
  by_cases h1 : o = o'
  · refine ev_pos h1 ?_
    by_cases h2 : q = q'
    · exact ev_pos h2 (Ev.bind (equal_ev l l' hb) (ev_eq (Ev.now _) (by simp [h1, h2])))
    · exact ev_neg h2 (ev_eq (Ev.now _) (by simp [h2]))
  · exact ev_neg h1 (ev_eq (Ev.now _) (by simp [h1]))
theorem refBatchSame_ev (o q : Int) (l : List ByteArray) (o' q' : Int) (l' : List ByteArray) (hb : l.length < 4611686018427387904) : Ev (fun k => selvedgeref07_Same.f k o q l o' q' l') (batchEq o q l o' q' l') := by
  unfold batchEq
  refine Ev.bind (refSame_ev l l' hb) ?_
  by_cases h3 : l = l'
  · refine ev_pos (by simp [h3]) ?_
    by_cases h1 : o = o'
    · exact ev_pos h1 (ev_eq (Ev.now _) (by simp [h1, h3, Bool.beq_eq_decide_eq]))
    · exact ev_neg h1 (ev_eq (Ev.now _) (by simp [h1]))
  · exact ev_neg (by simp [h3]) (ev_eq (Ev.now _) (by simp [h3]))
theorem rowOf_le (l : List ByteArray) (m : Nat) (hm : m < 18446744073709551616) (h : ∀ t ∈ l, t.size ≤ m) : (rowOf l).length ≤ l.length * (m + 9) := by
  induction l with
  | nil => simp [rowOf]
  | cons t l ih =>
    have e : rowOf (t :: l) = textL (ofB t) ++ rowOf l := rfl
    have h1 := h t List.mem_cons_self
    have h2 := ih (fun x hx => h x (List.mem_cons_of_mem _ hx))
    have h3 := numL_length (v := (ofB t).length) (by rw [ofB_length]; omega)
    rw [e, List.length_append, textL, List.length_append, ofB_length, List.length_cons, Nat.succ_mul]
    rw [ofB_length] at h3
    omega
theorem mayB_iff (o q : Int) (l : List ByteArray) : mayB o q l = true ↔ 1 ≤ o ∧ o ≤ 64 ∧ 1 ≤ q ∧ q ≤ 1073741824 ∧ 1 ≤ l.length ∧ l.length ≤ 4 ∧ ∀ t ∈ l, 1 ≤ t.size ∧ t.size ≤ 48 := by
  unfold mayB
  simp only [Bool.and_eq_true, decide_eq_true_eq, Bool.not_eq_true', List.any_eq_false]
  constructor
  · rintro ⟨⟨⟨⟨⟨⟨h1, h2⟩, h3⟩, h4⟩, h5⟩, h6⟩, h7⟩
    refine ⟨h1, h2, h3, h4, h5, h6, fun t ht => ?_⟩
    have h8 := h7 t ht
    simp only [oddTx, Bool.or_eq_true, decide_eq_true_eq, not_or] at h8
    omega
  · rintro ⟨h1, h2, h3, h4, h5, h6, h7⟩
    refine ⟨⟨⟨⟨⟨⟨h1, h2⟩, h3⟩, h4⟩, h5⟩, h6⟩, fun t ht => ?_⟩
    have h8 := h7 t ht
    simp only [oddTx, Bool.or_eq_true, decide_eq_true_eq, not_or]
    omega
/-- a batch's bytes -/
def batchL (o q : Int) (l : List ByteArray) : Bs := numL o.toNat ++ numL q.toNat ++ rowL l
theorem batch_Bytes_of (o q : Int) (l : List ByteArray) : batch_Bytes.f o q l = some (if mayB o q l = true then (toB (batchL o q l), 0) else ((⟨#[]⟩ : ByteArray), 1)) := by
  unfold batch_Bytes.f batch_May.f
  rw [Option.bind_some]
  by_cases h : mayB o q l = true
  · rw [if_pos h, if_pos h]
    obtain ⟨h1, h2, h3, h4, h5, h6, h7⟩ := (mayB_iff o q l).1 h
    obtain ⟨a, rfl⟩ := Int.eq_ofNat_of_zero_le (show 0 ≤ o by omega)
    obtain ⟨b, rfl⟩ := Int.eq_ofNat_of_zero_le (show 0 ≤ q by omega)
    have r1 := rowOf_le l 48 (by omega) (fun t ht => (h7 t ht).2)
    have r2 := numL_length (v := l.length) (by omega)
    have r3 : (rowL l).length ≤ 300 := by rw [rowL, List.length_append]; omega
    have n1 := numB_size (v := a) (by omega)
    have n2 := numB_size (v := b) (by omega)
    have r4 : digits_Row.f l = some (toB (rowL l)) := by unfold digits_Row.f; rw [if_pos (by omega)]
    rw [u64_wrap_of (by omega) (by omega), u64_wrap_of (by omega) (by omega), digits_Num_of a (by omega), digits_Num_of b (by omega)]
    simp only [Option.bind_some]
    rw [if_pos (by omega), r4]
    simp only [Option.bind_some]
    rw [if_pos (by rw [ByteArray.size_append, toB_size]; omega), batchL, toB_append, toB_append, Int.toNat_natCast, Int.toNat_natCast]
    rfl
  · rw [if_neg h, if_neg h]
/-! what was written is taken -/
theorem numL_cancel {v w : Nat} (hv : v < 18446744073709551616) (hw : w < 18446744073709551616) {r t : Bs} (h : numL v ++ r = numL w ++ t) : v = w ∧ r = t := by
  have h1 := takeNumL_num hv r
  rw [h, takeNumL_num hw t] at h1
  simp only [Prod.mk.injEq, and_true] at h1
  exact ⟨h1.1.symm, h1.2.symm⟩
theorem textL_cancel {a b : ByteArray} (ha : a.size < 18446744073709551616) (hb : b.size < 18446744073709551616) {r t : Bs} (h : textL (ofB a) ++ r = textL (ofB b) ++ t) : a = b ∧ r = t := by
  rw [textL, textL, List.append_assoc, List.append_assoc, ofB_length, ofB_length] at h
  obtain ⟨h1, h2⟩ := numL_cancel ha hb h
  have h3 := List.append_inj h2 (by rw [ofB_length, ofB_length, h1])
  exact ⟨ofB_inj h3.1, h3.2⟩
theorem rowOf_cancel : ∀ {a b : List ByteArray}, a.length = b.length → (∀ t ∈ a, t.size < 18446744073709551616) → (∀ t ∈ b, t.size < 18446744073709551616) → ∀ {r t : Bs}, rowOf a ++ r = rowOf b ++ t → a = b ∧ r = t
  | [], [], _, _, _, _, _, h => ⟨rfl, h⟩
  | x :: a, y :: b, hl, ha, hb, r, t, h => by
    have e1 : rowOf (x :: a) = textL (ofB x) ++ rowOf a := rfl
    have e2 : rowOf (y :: b) = textL (ofB y) ++ rowOf b := rfl
    rw [e1, e2, List.append_assoc, List.append_assoc] at h
    obtain ⟨h1, h2⟩ := textL_cancel (ha x List.mem_cons_self) (hb y List.mem_cons_self) h
    obtain ⟨h3, h4⟩ := rowOf_cancel (by simpa using hl) (fun z hz => ha z (List.mem_cons_of_mem _ hz)) (fun z hz => hb z (List.mem_cons_of_mem _ hz)) h2
    exact ⟨by rw [h1, h3], h4⟩
theorem rowL_cancel {a b : List ByteArray} (hla : a.length < 18446744073709551616) (hlb : b.length < 18446744073709551616) (ha : ∀ t ∈ a, t.size < 18446744073709551616) (hb : ∀ t ∈ b, t.size < 18446744073709551616) {r t : Bs} (h : rowL a ++ r = rowL b ++ t) : a = b ∧ r = t := by
  rw [rowL, rowL, List.append_assoc, List.append_assoc] at h
  obtain ⟨h1, h2⟩ := numL_cancel hla hlb h
  exact rowOf_cancel h1 ha hb h2
theorem batchL_cancel {o q : Int} {l : List ByteArray} {o' q' : Int} {l' : List ByteArray} (h : mayB o q l = true) (h' : mayB o' q' l' = true) {r t : Bs} (e : batchL o q l ++ r = batchL o' q' l' ++ t) : o = o' ∧ q = q' ∧ l = l' ∧ r = t := by
  obtain ⟨h1, h2, h3, h4, h5, h6, h7⟩ := (mayB_iff o q l).1 h
  obtain ⟨k1, k2, k3, k4, k5, k6, k7⟩ := (mayB_iff o' q' l').1 h'
  rw [batchL, batchL] at e
  simp only [List.append_assoc] at e
  obtain ⟨e1, e⟩ := numL_cancel (by omega) (by omega) e
  obtain ⟨e2, e⟩ := numL_cancel (by omega) (by omega) e
  obtain ⟨e3, e⟩ := rowL_cancel (by omega) (by omega) (fun t ht => by have := h7 t ht; omega) (fun t ht => by have := k7 t ht; omega) e
  exact ⟨by omega, by omega, e3, e⟩
theorem be_1 : be 1 = [1] := by
  rw [be_pos (by omega)]
  simp [be_zero]
theorem shown07_of : selvedgelaw07_shown.f = some true := by
  unfold selvedgelaw07_shown.f
  rw [batch_Bytes_of, if_pos (by rw [mayB_iff]; simp; decide)]
  simp only [Option.bind_some]
  rw [if_pos]
  · rfl
  · have e2 : textL (ofB (⟨#[97, 98]⟩ : ByteArray)) = [1, 2, 97, 98] := by
      show numL 2 ++ [97, 98] = _
      rw [numL, be_2]; rfl
    rw [toList_ofB, ofB_toB, batchL, rowL, rowOf, List.flatMap_cons, List.flatMap_nil, e2]
    show numL 1 ++ numL 2 ++ (numL 1 ++ _) = _
    rw [numL, numL, be_1, be_2]
    rfl


end Go.Proofs.Ytijnodcbgadooaa.Px

-- printed by this session's pprint.py (the kit's print, with this session's plugs) out of the translation; Lean checks it
namespace Go.Proofs.Ytijnodcbgadooaa.Px
open Go.RowKit Go.Proofs.YtijnodcbgadooaaW.PrintWords Go.Proofs.YtijnodcbgadooaaW.PrintLast Go.Proofs.YtijnodcbgadooaaW.PrintMore
attribute [local go_sem] max2_int min2_int max_two min_two max_three min_three max_four min_four   -- for this text's walks alone
set_option linter.unusedVariables false
set_option linter.unusedSimpArgs false

/-! ### selvedgeref07_May: function 70 -/
mutual
def selvedgeref07_May.j0 : Nat → Bool → Int → Int → List ByteArray → Option (Bool)
  | 0, _, _, _, _ => none
  | k + 1, x33, x313000, x313001, x313002 => if x33 = true then (some false) else (selvedgeref07_May.l0 k 0 x313000 x313001 x313002)
def selvedgeref07_May.l0 : Nat → Int → Int → Int → List ByteArray → Option (Bool)
  | 0, _, _, _, _ => none
  | k + 1, x3, x313000, x313001, x313002 => if x3 < (x313002.length : Int) then (if 0 ≤ x3 then (if ((rdOf ByteArray.empty x313002 x3).size : Int) < 1 then (some false) else (if ((rdOf ByteArray.empty x313002 x3).size : Int) > 48 then (some false) else (selvedgeref07_May.l0 k (wrap64 (x3 + 1)) x313000 x313001 x313002))) else (none)) else (some true)
end
def selvedgeref07_May.f (k : Nat) (a0_0 : Int) (a0_1 : Int) (l0_2 : List ByteArray) : Option (Bool) := if a0_0 < 1 then (selvedgeref07_May.j0 k true a0_0 a0_1 l0_2) else (if a0_0 > 64 then (selvedgeref07_May.j0 k true a0_0 a0_1 l0_2) else (if a0_1 < 1 then (selvedgeref07_May.j0 k true a0_0 a0_1 l0_2) else (if a0_1 > 1073741824 then (selvedgeref07_May.j0 k true a0_0 a0_1 l0_2) else (if (l0_2.length : Int) < 1 then (selvedgeref07_May.j0 k true a0_0 a0_1 l0_2) else (selvedgeref07_May.j0 k (decide ((l0_2.length : Int) > 4)) a0_0 a0_1 l0_2)))))
theorem selvedgeref07_May.mono_l : ∀ k, (∀ y0 y1 y2 y3, LeO (selvedgeref07_May.j0 k y0 y1 y2 y3) (selvedgeref07_May.j0 (k + 1) y0 y1 y2 y3)) ∧ (∀ y0 y1 y2 y3, LeO (selvedgeref07_May.l0 k y0 y1 y2 y3) (selvedgeref07_May.l0 (k + 1) y0 y1 y2 y3))
  | 0 => ⟨fun _ _ _ _ r h => by simp [selvedgeref07_May.j0] at h, fun _ _ _ _ r h => by simp [selvedgeref07_May.l0] at h⟩
  | k + 1 => by
    obtain ⟨ih0, ih1⟩ := selvedgeref07_May.mono_l k
    refine ⟨?_, ?_⟩
    · intro y0 y1 y2 y3
      unfold selvedgeref07_May.j0
      repeat' first
      | (with_reducible exact ih0 _ _ _ _)
      | (with_reducible exact ih1 _ _ _ _)
      | (with_reducible exact LeO.refl _)
      | (with_reducible exact LeO.none _)
      | (with_reducible refine LeO.ite ?_ ?_)
      | (with_reducible refine LeO.bind ?_ (fun _ => ?_))
      | exact ih0 _ _ _ _
      | exact ih1 _ _ _ _
      | exact LeO.none _
      | refine LeO.ite ?_ ?_
      | refine LeO.bind ?_ (fun _ => ?_)
    · intro y0 y1 y2 y3
      unfold selvedgeref07_May.l0
      repeat' first
      | (with_reducible exact ih0 _ _ _ _)
      | (with_reducible exact ih1 _ _ _ _)
      | (with_reducible exact LeO.refl _)
      | (with_reducible exact LeO.none _)
      | (with_reducible refine LeO.ite ?_ ?_)
      | (with_reducible refine LeO.bind ?_ (fun _ => ?_))
      | exact ih0 _ _ _ _
      | exact ih1 _ _ _ _
      | exact LeO.none _
      | refine LeO.ite ?_ ?_
      | refine LeO.bind ?_ (fun _ => ?_)
theorem selvedgeref07_May.mono : ∀ a0 a1 a2 k, LeO (selvedgeref07_May.f k a0 a1 a2) (selvedgeref07_May.f (k + 1) a0 a1 a2) := by
  intro a0 a1 a2 k
  obtain ⟨ih0, ih1⟩ := selvedgeref07_May.mono_l k
  unfold selvedgeref07_May.f
  repeat' first
      | (with_reducible exact ih0 _ _ _ _)
      | (with_reducible exact ih1 _ _ _ _)
      | (with_reducible exact LeO.refl _)
      | (with_reducible exact LeO.none _)
      | (with_reducible refine LeO.ite ?_ ?_)
      | (with_reducible refine LeO.bind ?_ (fun _ => ?_))
      | exact ih0 _ _ _ _
      | exact ih1 _ _ _ _
      | exact LeO.none _
      | refine LeO.ite ?_ ?_
      | refine LeO.bind ?_ (fun _ => ?_)
set_option maxHeartbeats 8000000 in
set_option maxRecDepth 100000 in
theorem selvedgeref07_May.calls (k : Nat) (a0_0 : Int) (a0_1 : Int) (A0_2 : Option Addr) (c0_2 : Nat) (l0_2 : List ByteArray) (r : Bool) (w : World) (hr0_2 : Kd.C Kd.string w A0_2 l0_2.length l0_2) (hc0_2 : l0_2.length ≤ c0_2) (h : selvedgeref07_May.f k a0_0 a0_1 l0_2 = some r) :
    Calls Try.prog 70 #[.agg #[.int .i64 a0_0, .int .i64 a0_1, .slice A0_2 l0_2.length c0_2]] w fun e w' => e = .returned (.bool r) ∧ Below w.heap.size w w' := by
  have hu43 := Try.underlying43
  have HR0_2 := Aside0.mk hr0_2
  have HC0_2 := Aside0.mk hc0_2
  clear hr0_2 hc0_2
  have HB := Aside0.mk (Below.refl w.heap.size w)
  have H : (if a0_0 < 1 then (selvedgeref07_May.j0 k true a0_0 a0_1 l0_2) else (if a0_0 > 64 then (selvedgeref07_May.j0 k true a0_0 a0_1 l0_2) else (if a0_1 < 1 then (selvedgeref07_May.j0 k true a0_0 a0_1 l0_2) else (if a0_1 > 1073741824 then (selvedgeref07_May.j0 k true a0_0 a0_1 l0_2) else (if (l0_2.length : Int) < 1 then (selvedgeref07_May.j0 k true a0_0 a0_1 l0_2) else (selvedgeref07_May.j0 k (decide ((l0_2.length : Int) > 4)) a0_0 a0_1 l0_2)))))) = some r := h
  clear h
  have HC2 := Aside0.mk H
  clear H
  go_enter Try.func70, Try.ntmps70
  go_upto_region 1 with (first | ((with_reducible refine gate_dst (N := 1) rfl ?_); (try (refine gate_guard (by rfl) ?_; dsimp only)); refine box_event ?hg (N := 1) ?hd (cs := #[.int .i64 a0_0, .int .i64 a0_1, .slice A0_2 l0_2.length c0_2]) (t := 43) ?hr ?_; (case hd => rfl); (case hg => rfl); (case hr => first | (go_simp; done) | (go_simp; rfl)); intro gb312 hg w3 hbox hb; have n0_ := Aside0.mk (below_step (by repeat (first | (with_reducible first | exact HB.out | apply below_alloc | apply pw_below_drewN | apply below_drew1) | exact HB.out)) hb); have n1_ := Aside0.mk (hbox); have n2_ := Aside0.mk ((by rw [hg]; exact (below_size (by repeat (first | (with_reducible first | exact HB.out | apply below_alloc | apply pw_below_drewN | apply below_drew1) | exact HB.out))) : w.heap.size ≤ gb312)); have n3_ := Aside0.mk ((by rw [hg]; exact (below_size (by repeat (first | (with_reducible first | exact HB.out | apply below_alloc | apply pw_below_drewN | apply below_drew1) | exact HB.out))) : w.heap.size ≤ gb312)); clear HB; have HB := n0_; have BK312 := n1_; have GW312 := n2_; have GE312 := n3_; clear n0_ n1_ n2_ n3_; clear hb hbox hg))
  (try simp only [Act.put, List.setIfInBounds_toArray, List.set_cons_zero, List.set_cons_succ])
  go_cut [33] (fun v33 wc => ∃ (kq : Nat) (x33_1 : Bool), v33 = .bool x33_1 ∧ Aside0 (selvedgeref07_May.j0 kq x33_1 a0_0 a0_1 l0_2 = some r) ∧ Aside0 (kq ≤ k) ∧ Aside0 (wc.heap[gb312]? = some (.cells #[.int .i64 a0_0, .int .i64 a0_1, (.slice A0_2 l0_2.length c0_2)] 43 (0, 0))) ∧ Aside0 (Below w.heap.size w wc))
  case first =>
    have H := HC2.out
    clear HC2
    by_cases c4 : a0_0 < 1
    · rw [if_pos c4] at H
      have c4b0 : decide (a0_0 < 1) = true := decide_eq_true c4
      clear c4
      (first | rw [c4b0] | (simp only [i64_w, i32_w]; rw [c4b0]) | skip)
      have H' := Aside0.mk H
      clear H
      have hcz5_0 : w3.cell? ⟨gb312, 0, none⟩ = some (.int .i64 a0_0) := (blk_cell BK312.out 0).trans rfl
      have hcz5_1 : w3.cell? ⟨gb312, 1, none⟩ = some (.int .i64 a0_1) := (blk_cell BK312.out 1).trans rfl
      have hcz5_2 : w3.cell? ⟨gb312, 2, none⟩ = some (.slice A0_2 l0_2.length c0_2) := (blk_cell BK312.out 2).trans rfl
      have hfz5_0 := blk_frozen BK312.out 0
      have hfz5_1 := blk_frozen BK312.out 1
      have hfz5_2 := blk_frozen BK312.out 2
      go_wp2
      go_meet
      case rel => exact ⟨_, (true), (by first | rfl | (simp; done) | (simp [*]; done)), H', ⟨by first | omega | exact Nat.le_refl _⟩, ⟨by (with_reducible repeat (first | refine blk_drewN ?_ _ | refine blk_drew ?_ | refine blk_alloc ?_ _)); exact BK312.out⟩, ⟨by repeat (first | (with_reducible first | exact HB.out | apply below_alloc | apply pw_below_drewN | apply below_drew1 | refine below_set ?_ GE312.out) | exact HB.out)⟩⟩
    · rw [if_neg c4] at H
      have c4b0 : decide (a0_0 < 1) = false := decide_eq_false c4
      clear c4
      (first | rw [c4b0] | (simp only [i64_w, i32_w]; rw [c4b0]) | skip)
      by_cases c6 : a0_0 > 64
      · rw [if_pos c6] at H
        have c6b0 : decide (64 < a0_0) = true := decide_eq_true c6
        clear c6
        have H' := Aside0.mk H
        clear H
        have hcz7_0 : w3.cell? ⟨gb312, 0, none⟩ = some (.int .i64 a0_0) := (blk_cell BK312.out 0).trans rfl
        have hcz7_1 : w3.cell? ⟨gb312, 1, none⟩ = some (.int .i64 a0_1) := (blk_cell BK312.out 1).trans rfl
        have hcz7_2 : w3.cell? ⟨gb312, 2, none⟩ = some (.slice A0_2 l0_2.length c0_2) := (blk_cell BK312.out 2).trans rfl
        have hfz7_0 := blk_frozen BK312.out 0
        have hfz7_1 := blk_frozen BK312.out 1
        have hfz7_2 := blk_frozen BK312.out 2
        go_wp2
        go_meet
        case rel => exact ⟨_, (true), (by first | rfl | (simp; done) | (simp [*]; done)), H', ⟨by first | omega | exact Nat.le_refl _⟩, ⟨by (with_reducible repeat (first | refine blk_drewN ?_ _ | refine blk_drew ?_ | refine blk_alloc ?_ _)); exact BK312.out⟩, ⟨by repeat (first | (with_reducible first | exact HB.out | apply below_alloc | apply pw_below_drewN | apply below_drew1 | refine below_set ?_ GE312.out) | exact HB.out)⟩⟩
      · rw [if_neg c6] at H
        have c6b0 : decide (64 < a0_0) = false := decide_eq_false c6
        clear c6
        by_cases c8 : a0_1 < 1
        · rw [if_pos c8] at H
          have c8b0 : decide (a0_1 < 1) = true := decide_eq_true c8
          clear c8
          have H' := Aside0.mk H
          clear H
          have hcz9_0 : w3.cell? ⟨gb312, 0, none⟩ = some (.int .i64 a0_0) := (blk_cell BK312.out 0).trans rfl
          have hcz9_1 : w3.cell? ⟨gb312, 1, none⟩ = some (.int .i64 a0_1) := (blk_cell BK312.out 1).trans rfl
          have hcz9_2 : w3.cell? ⟨gb312, 2, none⟩ = some (.slice A0_2 l0_2.length c0_2) := (blk_cell BK312.out 2).trans rfl
          have hfz9_0 := blk_frozen BK312.out 0
          have hfz9_1 := blk_frozen BK312.out 1
          have hfz9_2 := blk_frozen BK312.out 2
          go_wp2
          go_meet
          case rel => exact ⟨_, (true), (by first | rfl | (simp; done) | (simp [*]; done)), H', ⟨by first | omega | exact Nat.le_refl _⟩, ⟨by (with_reducible repeat (first | refine blk_drewN ?_ _ | refine blk_drew ?_ | refine blk_alloc ?_ _)); exact BK312.out⟩, ⟨by repeat (first | (with_reducible first | exact HB.out | apply below_alloc | apply pw_below_drewN | apply below_drew1 | refine below_set ?_ GE312.out) | exact HB.out)⟩⟩
        · rw [if_neg c8] at H
          have c8b0 : decide (a0_1 < 1) = false := decide_eq_false c8
          clear c8
          by_cases c10 : a0_1 > 1073741824
          · rw [if_pos c10] at H
            have c10b0 : decide (1073741824 < a0_1) = true := decide_eq_true c10
            clear c10
            have H' := Aside0.mk H
            clear H
            have hcz11_0 : w3.cell? ⟨gb312, 0, none⟩ = some (.int .i64 a0_0) := (blk_cell BK312.out 0).trans rfl
            have hcz11_1 : w3.cell? ⟨gb312, 1, none⟩ = some (.int .i64 a0_1) := (blk_cell BK312.out 1).trans rfl
            have hcz11_2 : w3.cell? ⟨gb312, 2, none⟩ = some (.slice A0_2 l0_2.length c0_2) := (blk_cell BK312.out 2).trans rfl
            have hfz11_0 := blk_frozen BK312.out 0
            have hfz11_1 := blk_frozen BK312.out 1
            have hfz11_2 := blk_frozen BK312.out 2
            go_wp2
            go_meet
            case rel => exact ⟨_, (true), (by first | rfl | (simp; done) | (simp [*]; done)), H', ⟨by first | omega | exact Nat.le_refl _⟩, ⟨by (with_reducible repeat (first | refine blk_drewN ?_ _ | refine blk_drew ?_ | refine blk_alloc ?_ _)); exact BK312.out⟩, ⟨by repeat (first | (with_reducible first | exact HB.out | apply below_alloc | apply pw_below_drewN | apply below_drew1 | refine below_set ?_ GE312.out) | exact HB.out)⟩⟩
          · rw [if_neg c10] at H
            have c10b0 : decide (1073741824 < a0_1) = false := decide_eq_false c10
            clear c10
            by_cases c12 : (l0_2.length : Int) < 1
            · rw [if_pos c12] at H
              have c12b0 : decide ((l0_2.length : Int) < 1) = true := decide_eq_true c12
              have c12b1 : decide (l0_2.length < 1) = true := decide_eq_true (by omega)
              clear c12
              have H' := Aside0.mk H
              clear H
              have hcz13_0 : w3.cell? ⟨gb312, 0, none⟩ = some (.int .i64 a0_0) := (blk_cell BK312.out 0).trans rfl
              have hcz13_1 : w3.cell? ⟨gb312, 1, none⟩ = some (.int .i64 a0_1) := (blk_cell BK312.out 1).trans rfl
              have hcz13_2 : w3.cell? ⟨gb312, 2, none⟩ = some (.slice A0_2 l0_2.length c0_2) := (blk_cell BK312.out 2).trans rfl
              have hfz13_0 := blk_frozen BK312.out 0
              have hfz13_1 := blk_frozen BK312.out 1
              have hfz13_2 := blk_frozen BK312.out 2
              go_wp2
              go_meet
              case rel => exact ⟨_, (true), (by first | rfl | (simp; done) | (simp [*]; done)), H', ⟨by first | omega | exact Nat.le_refl _⟩, ⟨by (with_reducible repeat (first | refine blk_drewN ?_ _ | refine blk_drew ?_ | refine blk_alloc ?_ _)); exact BK312.out⟩, ⟨by repeat (first | (with_reducible first | exact HB.out | apply below_alloc | apply pw_below_drewN | apply below_drew1 | refine below_set ?_ GE312.out) | exact HB.out)⟩⟩
            · rw [if_neg c12] at H
              have c12b0 : decide ((l0_2.length : Int) < 1) = false := decide_eq_false c12
              have c12b1 : decide (l0_2.length < 1) = false := decide_eq_false (by omega)
              clear c12
              have H' := Aside0.mk H
              clear H
              have hcz14_0 : w3.cell? ⟨gb312, 0, none⟩ = some (.int .i64 a0_0) := (blk_cell BK312.out 0).trans rfl
              have hcz14_1 : w3.cell? ⟨gb312, 1, none⟩ = some (.int .i64 a0_1) := (blk_cell BK312.out 1).trans rfl
              have hcz14_2 : w3.cell? ⟨gb312, 2, none⟩ = some (.slice A0_2 l0_2.length c0_2) := (blk_cell BK312.out 2).trans rfl
              have hfz14_0 := blk_frozen BK312.out 0
              have hfz14_1 := blk_frozen BK312.out 1
              have hfz14_2 := blk_frozen BK312.out 2
              go_wp2
              go_meet
              case rel => exact ⟨_, (decide ((l0_2.length : Int) > 4)), (by first | rfl | (simp; done) | (simp [*]; done)), H', ⟨by first | omega | exact Nat.le_refl _⟩, ⟨by (with_reducible repeat (first | refine blk_drewN ?_ _ | refine blk_drew ?_ | refine blk_alloc ?_ _)); exact BK312.out⟩, ⟨by repeat (first | (with_reducible first | exact HB.out | apply below_alloc | apply pw_below_drewN | apply below_drew1 | refine below_set ?_ GE312.out) | exact HB.out)⟩⟩
  case rest =>
    clear HC2
    try clear c1
    try clear p2
    try clear c4
    try clear c4b0
    try clear c6
    try clear c6b0
    try clear c7
    try clear c8
    try clear c8b0
    try clear c10
    try clear c10b0
    try clear c12
    try clear c12b0
    try clear c12b1
    try clear hcz11_0
    try clear hcz11_1
    try clear hcz11_2
    try clear hcz13_0
    try clear hcz13_1
    try clear hcz13_2
    try clear hcz14_0
    try clear hcz14_1
    try clear hcz14_2
    try clear hcz5_0
    try clear hcz5_1
    try clear hcz5_2
    try clear hcz7_0
    try clear hcz7_1
    try clear hcz7_2
    try clear hcz9_0
    try clear hcz9_1
    try clear hcz9_2
    try clear hfz11_0
    try clear hfz11_1
    try clear hfz11_2
    try clear hfz13_0
    try clear hfz13_1
    try clear hfz13_2
    try clear hfz14_0
    try clear hfz14_1
    try clear hfz14_2
    try clear hfz5_0
    try clear hfz5_1
    try clear hfz5_2
    try clear hfz7_0
    try clear hfz7_1
    try clear hfz7_2
    try clear hfz9_0
    try clear hfz9_1
    try clear hfz9_2
    obtain ⟨kq, x33_1, rfl, HA, HJ1, BK312, HB⟩ := hcut
    cases kq with
    | zero => exact absurd HA.out (by simp [selvedgeref07_May.j0])
    | succ kj1 =>
      have H := HA.out
      clear HA
      simp only [selvedgeref07_May.j0] at H
      by_cases c15 : x33_1 = true
      · subst c15
        have H1 : (some false) = some r := by rw [if_pos rfl] at H; exact H
        clear H
        have H := H1
        clear H1
        obtain rfl := Option.some.inj H
        go_wp2
        go_ret
        exact ⟨by first | rfl | (simp [errW_none, errW_some] <;> rfl) | (simp [*, errW_none, errW_some] <;> rfl), by repeat (first | (with_reducible first | exact HB.out | apply below_alloc | apply pw_below_drewN | apply below_drew1 | refine below_set ?_ GE312.out) | exact HB.out)⟩
      · replace c15 := Bool.eq_false_iff.mpr c15
        subst c15
        have H1 : (selvedgeref07_May.l0 kj1 0 a0_0 a0_1 l0_2) = some r := by rw [if_neg (show ¬ (false = true) by decide)] at H; exact H
        clear H
        have H := H1
        clear H1
        have H' := Aside0.mk H
        clear H
        go_wp2
        go_loopg [3] kj1 (fun kq v3 w' => ∃ (x3_2 : Int), v3 = .int .i64 x3_2 ∧ Aside0 (selvedgeref07_May.l0 kq x3_2 a0_0 a0_1 l0_2 = some r) ∧ Aside0 (kq ≤ kj1) ∧ Aside0 (w'.heap[gb312]? = some (.cells #[.int .i64 a0_0, .int .i64 a0_1, (.slice A0_2 l0_2.length c0_2)] 43 (0, 0))) ∧ Aside0 (Below w.heap.size w w'))
        case atStart => exact ⟨(0), (by first | rfl | (simp; done) | (simp [*]; done)), H', ⟨Nat.le_refl _⟩, ⟨by (with_reducible repeat (first | refine blk_drewN ?_ _ | refine blk_drew ?_ | refine blk_alloc ?_ _)); exact BK312.out⟩, ⟨by repeat (first | (with_reducible first | exact HB.out | apply below_alloc | apply pw_below_drewN | apply below_drew1 | refine below_set ?_ GE312.out) | exact HB.out)⟩⟩
        case round =>
          clear H'
          try clear c1
          try clear p2
          try clear c4
          try clear c4b0
          try clear c6
          try clear c6b0
          try clear c7
          try clear c8
          try clear c8b0
          try clear c10
          try clear c10b0
          try clear c12
          try clear c12b0
          try clear c12b1
          try clear c15
          try clear hcz11_0
          try clear hcz11_1
          try clear hcz11_2
          try clear hcz13_0
          try clear hcz13_1
          try clear hcz13_2
          try clear hcz14_0
          try clear hcz14_1
          try clear hcz14_2
          try clear hcz5_0
          try clear hcz5_1
          try clear hcz5_2
          try clear hcz7_0
          try clear hcz7_1
          try clear hcz7_2
          try clear hcz9_0
          try clear hcz9_1
          try clear hcz9_2
          try clear hfz11_0
          try clear hfz11_1
          try clear hfz11_2
          try clear hfz13_0
          try clear hfz13_1
          try clear hfz13_2
          try clear hfz14_0
          try clear hfz14_1
          try clear hfz14_2
          try clear hfz5_0
          try clear hfz5_1
          try clear hfz5_2
          try clear hfz7_0
          try clear hfz7_1
          try clear hfz7_2
          try clear hfz9_0
          try clear hfz9_1
          try clear hfz9_2
          try clear p2
          obtain ⟨x3_2, rfl, HA, HK2, BK312, HB⟩ := hrel
          cases gk with
          | zero => exact absurd HA.out (by simp [selvedgeref07_May.l0])
          | succ k2 =>
            have H := HA.out
            clear HA
            simp only [selvedgeref07_May.l0] at H
            by_cases c16 : x3_2 < (l0_2.length : Int)
            · rw [if_pos c16] at H
              have c16b0 : decide (x3_2 < (l0_2.length : Int)) = true := decide_eq_true c16
              clear c16
              by_cases c17 : 0 ≤ x3_2
              · rw [if_pos c17] at H
                have c17b0 : decide (0 ≤ x3_2) = true := decide_eq_true c17
                clear c17
                by_cases c18 : ((rdOf ByteArray.empty l0_2 x3_2).size : Int) < 1
                · rw [if_pos c18] at H
                  have c18b0 : decide (((rdOf ByteArray.empty l0_2 x3_2).size : Int) < 1) = true := decide_eq_true c18
                  have c18b1 : decide ((rdOf ByteArray.empty l0_2 x3_2).size < 1) = true := decide_eq_true (by omega)
                  clear c18
                  obtain rfl := Option.some.inj H
                  have hcz19_0 : wr.cell? ⟨gb312, 0, none⟩ = some (.int .i64 a0_0) := (blk_cell BK312.out 0).trans rfl
                  have hcz19_1 : wr.cell? ⟨gb312, 1, none⟩ = some (.int .i64 a0_1) := (blk_cell BK312.out 1).trans rfl
                  have hcz19_2 : wr.cell? ⟨gb312, 2, none⟩ = some (.slice A0_2 l0_2.length c0_2) := (blk_cell BK312.out 2).trans rfl
                  have hfz19_0 := blk_frozen BK312.out 0
                  have hfz19_1 := blk_frozen BK312.out 1
                  have hfz19_2 := blk_frozen BK312.out 2
                  have p313 : 0 ≤ (x3_2 : Int) := of_decide_eq_true (by first | (with_reducible assumption) | assumption)
                  have q313 : x3_2 < (l0_2.length : Int) := of_decide_eq_true (by first | (with_reducible assumption) | assumption)
                  obtain ⟨ad313, e313, hx313_0⟩ := Kd.at_string HR0_2.out x3_2 p313 q313
                  cases e313
                  replace hx313_0 := (HB.out.cell (World.block_lt_of_cell? w _ hx313_0)).trans hx313_0
                  replace p313 := eq_true p313
                  replace q313 := eq_true q313
                  go_wp2
                  go_ret
                  exact ⟨by first | rfl | (simp [errW_none, errW_some] <;> rfl) | (simp [*, errW_none, errW_some] <;> rfl), by repeat (first | (with_reducible first | exact HB.out | apply below_alloc | apply pw_below_drewN | apply below_drew1 | refine below_set ?_ GE312.out) | exact HB.out)⟩
                · rw [if_neg c18] at H
                  have c18b0 : decide (((rdOf ByteArray.empty l0_2 x3_2).size : Int) < 1) = false := decide_eq_false c18
                  have c18b1 : decide ((rdOf ByteArray.empty l0_2 x3_2).size < 1) = false := decide_eq_false (by omega)
                  clear c18
                  by_cases c20 : ((rdOf ByteArray.empty l0_2 x3_2).size : Int) > 48
                  · rw [if_pos c20] at H
                    have c20b0 : decide (48 < ((rdOf ByteArray.empty l0_2 x3_2).size : Int)) = true := decide_eq_true c20
                    have c20b1 : decide (48 < (rdOf ByteArray.empty l0_2 x3_2).size) = true := decide_eq_true (by omega)
                    clear c20
                    obtain rfl := Option.some.inj H
                    have hcz21_0 : wr.cell? ⟨gb312, 0, none⟩ = some (.int .i64 a0_0) := (blk_cell BK312.out 0).trans rfl
                    have hcz21_1 : wr.cell? ⟨gb312, 1, none⟩ = some (.int .i64 a0_1) := (blk_cell BK312.out 1).trans rfl
                    have hcz21_2 : wr.cell? ⟨gb312, 2, none⟩ = some (.slice A0_2 l0_2.length c0_2) := (blk_cell BK312.out 2).trans rfl
                    have hfz21_0 := blk_frozen BK312.out 0
                    have hfz21_1 := blk_frozen BK312.out 1
                    have hfz21_2 := blk_frozen BK312.out 2
                    have p313 : 0 ≤ (x3_2 : Int) := of_decide_eq_true (by first | (with_reducible assumption) | assumption)
                    have q313 : x3_2 < (l0_2.length : Int) := of_decide_eq_true (by first | (with_reducible assumption) | assumption)
                    obtain ⟨ad313, e313, hx313_0⟩ := Kd.at_string HR0_2.out x3_2 p313 q313
                    cases e313
                    replace hx313_0 := (HB.out.cell (World.block_lt_of_cell? w _ hx313_0)).trans hx313_0
                    replace p313 := eq_true p313
                    replace q313 := eq_true q313
                    have p314 : 0 ≤ (x3_2 : Int) := of_decide_eq_true (by first | (with_reducible assumption) | assumption)
                    have q314 : x3_2 < (l0_2.length : Int) := of_decide_eq_true (by first | (with_reducible assumption) | assumption)
                    obtain ⟨ad314, e314, hx314_0⟩ := Kd.at_string HR0_2.out x3_2 p314 q314
                    obtain rfl : ad313 = ad314 := (by injection e314)
                    replace hx314_0 := (HB.out.cell (World.block_lt_of_cell? w _ hx314_0)).trans hx314_0
                    replace p314 := eq_true p314
                    replace q314 := eq_true q314
                    go_wp2
                    go_ret
                    exact ⟨by first | rfl | (simp [errW_none, errW_some] <;> rfl) | (simp [*, errW_none, errW_some] <;> rfl), by repeat (first | (with_reducible first | exact HB.out | apply below_alloc | apply pw_below_drewN | apply below_drew1 | refine below_set ?_ GE312.out) | exact HB.out)⟩
                  · rw [if_neg c20] at H
                    have c20b0 : decide (48 < ((rdOf ByteArray.empty l0_2 x3_2).size : Int)) = false := decide_eq_false c20
                    have c20b1 : decide (48 < (rdOf ByteArray.empty l0_2 x3_2).size) = false := decide_eq_false (by omega)
                    clear c20
                    have H' := Aside0.mk H
                    clear H
                    have hcz22_0 : wr.cell? ⟨gb312, 0, none⟩ = some (.int .i64 a0_0) := (blk_cell BK312.out 0).trans rfl
                    have hcz22_1 : wr.cell? ⟨gb312, 1, none⟩ = some (.int .i64 a0_1) := (blk_cell BK312.out 1).trans rfl
                    have hcz22_2 : wr.cell? ⟨gb312, 2, none⟩ = some (.slice A0_2 l0_2.length c0_2) := (blk_cell BK312.out 2).trans rfl
                    have hfz22_0 := blk_frozen BK312.out 0
                    have hfz22_1 := blk_frozen BK312.out 1
                    have hfz22_2 := blk_frozen BK312.out 2
                    have p313 : 0 ≤ (x3_2 : Int) := of_decide_eq_true (by first | (with_reducible assumption) | assumption)
                    have q313 : x3_2 < (l0_2.length : Int) := of_decide_eq_true (by first | (with_reducible assumption) | assumption)
                    obtain ⟨ad313, e313, hx313_0⟩ := Kd.at_string HR0_2.out x3_2 p313 q313
                    cases e313
                    replace hx313_0 := (HB.out.cell (World.block_lt_of_cell? w _ hx313_0)).trans hx313_0
                    replace p313 := eq_true p313
                    replace q313 := eq_true q313
                    have p314 : 0 ≤ (x3_2 : Int) := of_decide_eq_true (by first | (with_reducible assumption) | assumption)
                    have q314 : x3_2 < (l0_2.length : Int) := of_decide_eq_true (by first | (with_reducible assumption) | assumption)
                    obtain ⟨ad314, e314, hx314_0⟩ := Kd.at_string HR0_2.out x3_2 p314 q314
                    obtain rfl : ad313 = ad314 := (by injection e314)
                    replace hx314_0 := (HB.out.cell (World.block_lt_of_cell? w _ hx314_0)).trans hx314_0
                    replace p314 := eq_true p314
                    replace q314 := eq_true q314
                    go_wp2
                    go_roundg k2
                    case measure => have := HJ1.out; have := HK2.out; omega
                    case rel => exact ⟨(wrap64 (x3_2 + 1)), (by first | rfl | (simp; done) | (simp [*]; done)), H', ⟨by have := HJ1.out; have := HK2.out; omega⟩, ⟨by (with_reducible repeat (first | refine blk_drewN ?_ _ | refine blk_drew ?_ | refine blk_alloc ?_ _)); exact BK312.out⟩, ⟨by repeat (first | (with_reducible first | exact HB.out | apply below_alloc | apply pw_below_drewN | apply below_drew1 | refine below_set ?_ GE312.out) | exact HB.out)⟩⟩
              · rw [if_neg c17] at H
                exact absurd H (by simp)
            · rw [if_neg c16] at H
              have c16b0 : decide (x3_2 < (l0_2.length : Int)) = false := decide_eq_false c16
              clear c16
              obtain rfl := Option.some.inj H
              have hcz23_0 : wr.cell? ⟨gb312, 0, none⟩ = some (.int .i64 a0_0) := (blk_cell BK312.out 0).trans rfl
              have hcz23_1 : wr.cell? ⟨gb312, 1, none⟩ = some (.int .i64 a0_1) := (blk_cell BK312.out 1).trans rfl
              have hcz23_2 : wr.cell? ⟨gb312, 2, none⟩ = some (.slice A0_2 l0_2.length c0_2) := (blk_cell BK312.out 2).trans rfl
              have hfz23_0 := blk_frozen BK312.out 0
              have hfz23_1 := blk_frozen BK312.out 1
              have hfz23_2 := blk_frozen BK312.out 2
              go_wp2
              go_ret
              exact ⟨by first | rfl | (simp [errW_none, errW_some] <;> rfl) | (simp [*, errW_none, errW_some] <;> rfl), by repeat (first | (with_reducible first | exact HB.out | apply below_alloc | apply pw_below_drewN | apply below_drew1 | refine below_set ?_ GE312.out) | exact HB.out)⟩

end Go.Proofs.Ytijnodcbgadooaa.Px

-- printed by this session's pprint.py (the kit's print, with this session's plugs) out of the translation; Lean checks it
namespace Go.Proofs.Ytijnodcbgadooaa.Px
open Go.RowKit Go.Proofs.YtijnodcbgadooaaW.PrintWords Go.Proofs.YtijnodcbgadooaaW.PrintLast Go.Proofs.YtijnodcbgadooaaW.PrintMore
attribute [local go_sem] max2_int min2_int max_two min_two max_three min_three max_four min_four   -- for this text's walks alone
set_option linter.unusedVariables false
set_option linter.unusedSimpArgs false

/-! ### selvedgeref01_TakeRow: function 33 -/
mutual
def selvedgeref01_TakeRow.j0 : Nat → Int → Int → ByteArray → Bool → Option (List ByteArray × ByteArray × Int)
  | 0, _, _, _, _ => none
  | k + 1, x2, x9, x10, x33 => if x33 = true then (some (([] : List ByteArray), (⟨#[]⟩ : ByteArray), 4)) else (selvedgeref01_TakeRow.l0 k x2 x9 x10 ([] : List ByteArray) 0)
def selvedgeref01_TakeRow.l0 : Nat → Int → Int → ByteArray → List ByteArray → Int → Option (List ByteArray × ByteArray × Int)
  | 0, _, _, _, _, _ => none
  | k + 1, x2, x9, x10, x12, x13 => if x13 < x9 then ((selvedgeref01_TakeText.f k x10 x2).bind fun bt186 => (if bt186.2.2 = 0 then (if x12.length < 8796093022208 then (selvedgeref01_TakeRow.l0 k x2 x9 bt186.2.1 (x12 ++ [bt186.1]) (IntKind.u64.wrap (x13 + 1))) else (none)) else (some (([] : List ByteArray), (⟨#[]⟩ : ByteArray), bt186.2.2)))) else (some (x12, x10, 0))
end
def selvedgeref01_TakeRow.f (k : Nat) (a0 : ByteArray) (a1 : Int) (a2 : Int) : Option (List ByteArray × ByteArray × Int) := (selvedgeref01_TakeNum.f k a0).bind fun bt183 => (if bt183.2.2 = 0 then (if a1 < 0 then (selvedgeref01_TakeRow.j0 k a2 bt183.1 bt183.2.1 true) else (selvedgeref01_TakeRow.j0 k a2 bt183.1 bt183.2.1 (decide (bt183.1 > (IntKind.u64.wrap (a1)))))) else (some (([] : List ByteArray), (⟨#[]⟩ : ByteArray), bt183.2.2)))
theorem selvedgeref01_TakeRow.mono_l : ∀ k, (∀ y0 y1 y2 y3, LeO (selvedgeref01_TakeRow.j0 k y0 y1 y2 y3) (selvedgeref01_TakeRow.j0 (k + 1) y0 y1 y2 y3)) ∧ (∀ y0 y1 y2 y3 y4, LeO (selvedgeref01_TakeRow.l0 k y0 y1 y2 y3 y4) (selvedgeref01_TakeRow.l0 (k + 1) y0 y1 y2 y3 y4))
  | 0 => ⟨fun _ _ _ _ r h => by simp [selvedgeref01_TakeRow.j0] at h, fun _ _ _ _ _ r h => by simp [selvedgeref01_TakeRow.l0] at h⟩
  | k + 1 => by
    obtain ⟨ih0, ih1⟩ := selvedgeref01_TakeRow.mono_l k
    refine ⟨?_, ?_⟩
    · intro y0 y1 y2 y3
      unfold selvedgeref01_TakeRow.j0
      repeat' first
      | (with_reducible exact ih0 _ _ _ _)
      | (with_reducible exact ih1 _ _ _ _ _)
      | (with_reducible exact selvedgeref01_TakeNum.mono _ _)
      | (with_reducible exact selvedgeref01_TakeText.mono _ _ _)
      | (with_reducible exact LeO.refl _)
      | (with_reducible exact LeO.none _)
      | (with_reducible refine LeO.ite ?_ ?_)
      | (with_reducible refine LeO.bind ?_ (fun _ => ?_))
      | exact ih0 _ _ _ _
      | exact ih1 _ _ _ _ _
      | exact selvedgeref01_TakeNum.mono _ _
      | exact selvedgeref01_TakeText.mono _ _ _
      | exact LeO.none _
      | refine LeO.ite ?_ ?_
      | refine LeO.bind ?_ (fun _ => ?_)
    · intro y0 y1 y2 y3 y4
      unfold selvedgeref01_TakeRow.l0
      repeat' first
      | (with_reducible exact ih0 _ _ _ _)
      | (with_reducible exact ih1 _ _ _ _ _)
      | (with_reducible exact selvedgeref01_TakeNum.mono _ _)
      | (with_reducible exact selvedgeref01_TakeText.mono _ _ _)
      | (with_reducible exact LeO.refl _)
      | (with_reducible exact LeO.none _)
      | (with_reducible refine LeO.ite ?_ ?_)
      | (with_reducible refine LeO.bind ?_ (fun _ => ?_))
      | exact ih0 _ _ _ _
      | exact ih1 _ _ _ _ _
      | exact selvedgeref01_TakeNum.mono _ _
      | exact selvedgeref01_TakeText.mono _ _ _
      | exact LeO.none _
      | refine LeO.ite ?_ ?_
      | refine LeO.bind ?_ (fun _ => ?_)
theorem selvedgeref01_TakeRow.mono : ∀ a0 a1 a2 k, LeO (selvedgeref01_TakeRow.f k a0 a1 a2) (selvedgeref01_TakeRow.f (k + 1) a0 a1 a2) := by
  intro a0 a1 a2 k
  obtain ⟨ih0, ih1⟩ := selvedgeref01_TakeRow.mono_l k
  unfold selvedgeref01_TakeRow.f
  repeat' first
      | (with_reducible exact ih0 _ _ _ _)
      | (with_reducible exact ih1 _ _ _ _ _)
      | (with_reducible exact selvedgeref01_TakeNum.mono _ _)
      | (with_reducible exact selvedgeref01_TakeText.mono _ _ _)
      | (with_reducible exact LeO.refl _)
      | (with_reducible exact LeO.none _)
      | (with_reducible refine LeO.ite ?_ ?_)
      | (with_reducible refine LeO.bind ?_ (fun _ => ?_))
      | exact ih0 _ _ _ _
      | exact ih1 _ _ _ _ _
      | exact selvedgeref01_TakeNum.mono _ _
      | exact selvedgeref01_TakeText.mono _ _ _
      | exact LeO.none _
      | refine LeO.ite ?_ ?_
      | refine LeO.bind ?_ (fun _ => ?_)
set_option maxHeartbeats 8000000 in
set_option maxRecDepth 100000 in
theorem selvedgeref01_TakeRow.calls (k : Nat) (a0 : ByteArray) (a1 : Int) (a2 : Int) (r1 : List ByteArray) (r2 : ByteArray) (r3 : Int) (w : World) (h : selvedgeref01_TakeRow.f k a0 a1 a2 = some (r1, r2, r3)) :
    Calls Try.prog 33 #[.string a0, .int .i64 a1, .int .i64 a2] w fun e w' => ∃ v0_ : Value, e = .returned (.tuple #[v0_, .string r2, .int .i64 r3]) ∧ Kd.R Kd.string 9 w' w.heap.size (fun _ => True) v0_ r1 ∧ Below w.heap.size w w' := by
  have HB := Aside0.mk (Below.refl w.heap.size w)
  have H : ((selvedgeref01_TakeNum.f k a0).bind fun bt183 => (if bt183.2.2 = 0 then (if a1 < 0 then (selvedgeref01_TakeRow.j0 k a2 bt183.1 bt183.2.1 true) else (selvedgeref01_TakeRow.j0 k a2 bt183.1 bt183.2.1 (decide (bt183.1 > (IntKind.u64.wrap (a1)))))) else (some (([] : List ByteArray), (⟨#[]⟩ : ByteArray), bt183.2.2)))) = some (r1, r2, r3) := h
  clear h
  replace H := Option.bind_eq_some_iff.mp H
  obtain ⟨⟨t183, t184, t185⟩, A40, H⟩ := H
  replace H : (if t185 = 0 then (if a1 < 0 then (selvedgeref01_TakeRow.j0 k a2 t183 t184 true) else (selvedgeref01_TakeRow.j0 k a2 t183 t184 (decide (t183 > (IntKind.u64.wrap (a1)))))) else (some (([] : List ByteArray), (⟨#[]⟩ : ByteArray), t185))) = some (r1, r2, r3) := H
  have A4 := Aside0.mk A40
  clear A40
  by_cases c5 : t185 = 0
  · rw [if_pos c5] at H
    have c5b0 : (t185 == 0) = true := beq_iff_eq.mpr c5
    have c5b1 : (t185 != 0) = false := bne_eq_false_iff_eq.mpr c5
    clear c5
    have HC6 := Aside0.mk H
    clear H
    go_enter Try.func33, Try.ntmps33
    go_upto_region 4 with (first | ((with_reducible refine gate_callee (f := 24) rfl ?_); refine goesL_ (some 19) rfl rfl Try.func24 (by kernel_rfl) rfl #[.string a0] rfl (by (try simp only [List.map_toArray, List.map_cons, List.map_nil]); first | done | rfl | (simp only [List.length_drop, List.length_take]; rfl)) ?_; (with_reducible refine (selvedgeref01_TakeNum.calls k a0 t183 t184 t185 _ A4.out).mono ?_); rintro e w' ⟨rfl, ⟨nd, rfl⟩⟩; refine ⟨_, rfl, ?_⟩))
    (try simp only [Act.put, List.setIfInBounds_toArray, List.set_cons_zero, List.set_cons_succ])
    go_cut [33] (fun v33 wc => ∃ (kq : Nat) (x33_5 : Bool), v33 = .bool x33_5 ∧ Aside0 (selvedgeref01_TakeRow.j0 kq a2 t183 t184 x33_5 = some (r1, r2, r3)) ∧ Aside0 (kq ≤ k) ∧ Aside0 (Below w.heap.size w wc))
    case first =>
      have H := HC6.out
      clear HC6
      by_cases c7 : a1 < 0
      · rw [if_pos c7] at H
        have c7b0 : decide (a1 < 0) = true := decide_eq_true c7
        clear c7
        (first | rw [c7b0] | (simp only [i64_w, i32_w]; rw [c7b0]) | skip)
        have H' := Aside0.mk H
        clear H
        go_wp2
        go_meet
        case rel => exact ⟨_, (true), (by first | rfl | (simp; done) | (simp [*]; done)), H', ⟨by first | omega | exact Nat.le_refl _⟩, ⟨by repeat (first | (with_reducible first | exact HB.out | apply below_alloc | apply pw_below_drewN | apply below_drew1) | exact HB.out)⟩⟩
      · rw [if_neg c7] at H
        have c7b0 : decide (a1 < 0) = false := decide_eq_false c7
        clear c7
        (first | rw [c7b0] | (simp only [i64_w, i32_w]; rw [c7b0]) | skip)
        have H' := Aside0.mk H
        clear H
        go_wp2
        go_meet
        case rel => exact ⟨_, (decide (t183 > (IntKind.u64.wrap (a1)))), (by first | rfl | (simp; done) | (simp [*]; done)), H', ⟨by first | omega | exact Nat.le_refl _⟩, ⟨by repeat (first | (with_reducible first | exact HB.out | apply below_alloc | apply pw_below_drewN | apply below_drew1) | exact HB.out)⟩⟩
    case rest =>
      clear HC6
      try clear c2
      try clear p2
      try clear c3
      try clear c5
      try clear c5b0
      try clear c5b1
      try clear c7
      try clear c7b0
      obtain ⟨kq, x33_5, rfl, HA, HJ5, HB⟩ := hcut
      cases kq with
      | zero => exact absurd HA.out (by simp [selvedgeref01_TakeRow.j0])
      | succ kj5 =>
        have H := HA.out
        clear HA
        simp only [selvedgeref01_TakeRow.j0] at H
        by_cases c8 : x33_5 = true
        · subst c8
          have H1 : (some (([] : List ByteArray), (⟨#[]⟩ : ByteArray), 4)) = some (r1, r2, r3) := by rw [if_pos rfl] at H; exact H
          clear H
          have H := H1
          clear H1
          simp only [Option.some.injEq, Prod.mk.injEq] at H
          obtain ⟨rfl, rfl, rfl⟩ := H
          go_wp2
          go_ret3
          exact ⟨_, by first | rfl | (simp [errW_none, errW_some] <;> rfl) | (simp [*, errW_none, errW_some] <;> rfl), by first | exact Kd.R_nil _ _ _ _ _ | exact Kd.N_nil _ _ _ _ _ | exact Kd.V_nil _ _ _ _ _ | exact Kd.Q_nil _ _ _ _ _ | exact Kd.S_nil _ _ _ _ _, by repeat (first | (with_reducible first | exact HB.out | apply below_alloc | apply pw_below_drewN | apply below_drew1) | exact HB.out)⟩
        · replace c8 := Bool.eq_false_iff.mpr c8
          subst c8
          have H1 : (selvedgeref01_TakeRow.l0 kj5 a2 t183 t184 ([] : List ByteArray) 0) = some (r1, r2, r3) := by rw [if_neg (show ¬ (false = true) by decide)] at H; exact H
          clear H
          have H := H1
          clear H1
          have H' := Aside0.mk H
          clear H
          go_wp2
          go_loopg [10, 12, 13] kj5 (fun kq v10 v12 v13 w' => ∃ (x10_2 : ByteArray) (x12_2 : List ByteArray) (x13_2 : Int), v10 = .string x10_2 ∧ v13 = .int .u64 x13_2 ∧ Aside0 (selvedgeref01_TakeRow.l0 kq a2 t183 x10_2 x12_2 x13_2 = some (r1, r2, r3)) ∧ Aside0 (kq ≤ kj5) ∧ Aside0 (Kd.R Kd.string 9 w' w.heap.size (fun _ => True) v12 x12_2) ∧ Aside0 (Below w.heap.size w w'))
          case atStart => exact ⟨(t184), (([] : List ByteArray)), (0), (by first | rfl | (simp; done) | (simp [*]; done)), (by first | rfl | (simp; done) | (simp [*]; done)), H', ⟨Nat.le_refl _⟩, ⟨by first | exact Kd.R_nil _ _ _ _ _ | exact Kd.N_nil _ _ _ _ _ | exact Kd.V_nil _ _ _ _ _ | exact Kd.Q_nil _ _ _ _ _ | exact Kd.S_nil _ _ _ _ _⟩, ⟨by repeat (first | (with_reducible first | exact HB.out | apply below_alloc | apply pw_below_drewN | apply below_drew1) | exact HB.out)⟩⟩
          case round =>
            clear H'
            try clear c2
            try clear p2
            try clear c3
            try clear c5
            try clear c5b0
            try clear c5b1
            try clear c7
            try clear c7b0
            try clear c8
            try clear p2
            obtain ⟨x10_2, x12_2, x13_2, rfl, rfl, HA, HK2, HO_12, HB⟩ := hrel
            cases gk with
            | zero => exact absurd HA.out (by simp [selvedgeref01_TakeRow.l0])
            | succ k2 =>
              have H := HA.out
              clear HA
              simp only [selvedgeref01_TakeRow.l0] at H
              by_cases c9 : x13_2 < t183
              · rw [if_pos c9] at H
                have c9b0 : decide (x13_2 < t183) = true := decide_eq_true c9
                clear c9
                replace H := Option.bind_eq_some_iff.mp H
                obtain ⟨⟨t186, t187, t188⟩, A100, H⟩ := H
                replace H : (if t188 = 0 then (if x12_2.length < 8796093022208 then (selvedgeref01_TakeRow.l0 k2 a2 t183 t187 (x12_2 ++ [t186]) (IntKind.u64.wrap (x13_2 + 1))) else (none)) else (some (([] : List ByteArray), (⟨#[]⟩ : ByteArray), t188))) = some (r1, r2, r3) := H
                have A10 := Aside0.mk A100
                clear A100
                by_cases c11 : t188 = 0
                · rw [if_pos c11] at H
                  have c11b0 : (t188 == 0) = true := beq_iff_eq.mpr c11
                  have c11b1 : (t188 != 0) = false := bne_eq_false_iff_eq.mpr c11
                  clear c11
                  by_cases c12 : x12_2.length < 8796093022208
                  · rw [if_pos c12] at H
                    have LMc12 := Aside0.mk c12
                    clear c12
                    obtain ⟨y189, hy189⟩ : ∃ y_ : List ByteArray, y_ = (x12_2 ++ [t186]) := ⟨_, rfl⟩
                    replace H : (selvedgeref01_TakeRow.l0 k2 a2 t183 t187 y189 (IntKind.u64.wrap (x13_2 + 1))) = some (r1, r2, r3) := by first | (rw [hy189]; with_reducible exact H) | (have H2_ := (Option.bind_some _ _).symm.trans H; rw [hy189]; with_reducible exact H2_) | (have H2_ := (Option.bind_some _ _).symm.trans H; with_reducible exact H2_) | with_reducible exact H | (rw [hy189]; exact H) | exact H
                    have Ny189 := Aside0.mk hy189
                    clear hy189
                    have H' := Aside0.mk H
                    clear H
                    go_wp2_with (first | ((with_reducible refine gate_callee (f := 27) rfl ?_); refine goesL_ (some 42) rfl rfl Try.func27 (by kernel_rfl) rfl #[.string x10_2, .int .i64 a2] rfl (by (try simp only [List.map_toArray, List.map_cons, List.map_nil]); first | done | rfl | (simp only [List.length_drop, List.length_take]; rfl)) ?_; (with_reducible refine (selvedgeref01_TakeText.calls k2 x10_2 a2 t186 t187 t188 _ A10.out).mono ?_); rintro e w' ⟨rfl, ⟨nd, rfl⟩⟩; refine ⟨_, rfl, ?_⟩) | ((with_reducible refine gate_builtin (b := .append) (xs := #[.tmp 49, .tmp 51]) rfl ?_); at_builtin; refine Kd.R_append Kd.string (w0 := w) w.heap.size rfl (.tmp 49) (.tmp 51) 41 9 (.string ⟨#[]⟩) 16 rfl Try.underlying41 info9 rfl (by decide) (by omega) u12 x12_2 t186 [.string t186] (fun _ => True) (fun _ => False) rfl rfl ?aP (fun _ hk => hk.elim) ?aF ?aO ?aB ?aS ?aL ?_; (case aP => exact rfl); (case aB => exact (by repeat (first | (with_reducible first | exact HB.out | apply below_alloc | apply pw_below_drewN | apply below_drew1) | exact HB.out))); (case aF => exact (fun _ _ => trivial)); (case aO => exact (by (with_reducible repeat (first | apply Kd.R_alloc | apply Kd.R_drewN | apply Kd.R_drew)); exact HO_12.out)); (case aS => exact (below_size (by repeat (first | (with_reducible first | exact HB.out | apply below_alloc | apply pw_below_drewN | apply below_drew1) | exact HB.out)))); (case aL => have := LMc12.out; omega); intro v190 w13 ho hb hg hat; rw [← Ny189.out] at ho; have n0_ := Aside0.mk (hb); have n1_ := Aside0.mk (ho); clear HB; clear HO_12; have HB := n0_; have HO191 := n1_; clear n0_ n1_; clear ho hb hg hat))
                    go_roundg k2
                    case measure => have := HJ5.out; have := HK2.out; omega
                    case rel => exact ⟨(t187), (y189), (IntKind.u64.wrap (x13_2 + 1)), (by first | rfl | (simp; done) | (simp [*]; done)), (by first | rfl | (simp; done) | (simp [*]; done)), H', ⟨by have := HJ5.out; have := HK2.out; omega⟩, ⟨by (with_reducible repeat (first | apply Kd.R_alloc | apply Kd.R_drewN | apply Kd.R_drew)); exact HO191.out⟩, ⟨by repeat (first | (with_reducible first | exact HB.out | apply below_alloc | apply pw_below_drewN | apply below_drew1) | exact HB.out)⟩⟩
                  · rw [if_neg c12] at H
                    exact absurd H (by simp)
                · rw [if_neg c11] at H
                  have c11b0 : (t188 == 0) = false := beq_eq_false_iff_ne.mpr c11
                  have c11b1 : (t188 != 0) = true := bne_iff_ne.mpr c11
                  simp only [Option.some.injEq, Prod.mk.injEq] at H
                  obtain ⟨rfl, rfl, rfl⟩ := H
                  go_wp2_with (first | ((with_reducible refine gate_callee (f := 27) rfl ?_); refine goesL_ (some 42) rfl rfl Try.func27 (by kernel_rfl) rfl #[.string x10_2, .int .i64 a2] rfl (by (try simp only [List.map_toArray, List.map_cons, List.map_nil]); first | done | rfl | (simp only [List.length_drop, List.length_take]; rfl)) ?_; (with_reducible refine (selvedgeref01_TakeText.calls k2 x10_2 a2 t186 t187 t188 _ A10.out).mono ?_); rintro e w' ⟨rfl, ⟨nd, rfl⟩⟩; refine ⟨_, rfl, ?_⟩))
                  go_ret3
                  exact ⟨_, by first | rfl | (simp [errW_none, errW_some] <;> rfl) | (simp [*, errW_none, errW_some] <;> rfl), by first | exact Kd.R_nil _ _ _ _ _ | exact Kd.N_nil _ _ _ _ _ | exact Kd.V_nil _ _ _ _ _ | exact Kd.Q_nil _ _ _ _ _ | exact Kd.S_nil _ _ _ _ _, by repeat (first | (with_reducible first | exact HB.out | apply below_alloc | apply pw_below_drewN | apply below_drew1) | exact HB.out)⟩
              · rw [if_neg c9] at H
                have c9b0 : decide (x13_2 < t183) = false := decide_eq_false c9
                clear c9
                simp only [Option.some.injEq, Prod.mk.injEq] at H
                obtain ⟨rfl, rfl, rfl⟩ := H
                go_wp2
                go_ret3
                exact ⟨_, by first | rfl | (simp [errW_none, errW_some] <;> rfl) | (simp [*, errW_none, errW_some] <;> rfl), by (with_reducible repeat (first | apply Kd.R_alloc | apply Kd.R_drewN | apply Kd.R_drew)); exact HO_12.out, by repeat (first | (with_reducible first | exact HB.out | apply below_alloc | apply pw_below_drewN | apply below_drew1) | exact HB.out)⟩
  · rw [if_neg c5] at H
    have c5b0 : (t185 == 0) = false := beq_eq_false_iff_ne.mpr c5
    have c5b1 : (t185 != 0) = true := bne_iff_ne.mpr c5
    simp only [Option.some.injEq, Prod.mk.injEq] at H
    obtain ⟨rfl, rfl, rfl⟩ := H
    go_enter Try.func33, Try.ntmps33
    go_wp2_with (first | ((with_reducible refine gate_callee (f := 24) rfl ?_); refine goesL_ (some 19) rfl rfl Try.func24 (by kernel_rfl) rfl #[.string a0] rfl (by (try simp only [List.map_toArray, List.map_cons, List.map_nil]); first | done | rfl | (simp only [List.length_drop, List.length_take]; rfl)) ?_; (with_reducible refine (selvedgeref01_TakeNum.calls k a0 t183 t184 t185 _ A4.out).mono ?_); rintro e w' ⟨rfl, ⟨nd, rfl⟩⟩; refine ⟨_, rfl, ?_⟩))
    go_ret3
    exact ⟨_, by first | rfl | (simp [errW_none, errW_some] <;> rfl) | (simp [*, errW_none, errW_some] <;> rfl), by first | exact Kd.R_nil _ _ _ _ _ | exact Kd.N_nil _ _ _ _ _ | exact Kd.V_nil _ _ _ _ _ | exact Kd.Q_nil _ _ _ _ _ | exact Kd.S_nil _ _ _ _ _, by repeat (first | (with_reducible first | exact HB.out | apply below_alloc | apply pw_below_drewN | apply below_drew1) | exact HB.out)⟩

end Go.Proofs.Ytijnodcbgadooaa.Px
