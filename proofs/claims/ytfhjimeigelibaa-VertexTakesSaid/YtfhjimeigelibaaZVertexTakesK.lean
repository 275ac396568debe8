/- part 11 of the proof of the law VertexTakes: texts merged by this session's bundle.py. What is proved: the statement at the end of the last of these texts; its conditions are those of the given row. -/
import Derived.Test.YtfhjimeigelibaaZVertexTakesC
import Derived.Test.YtfhjimeigelibaaZVertexTakesH
import Derived.Test.YtfhjimeigelibaaZVertexTakesI
import Derived.Test.YtfhjimeigelibaaZVertexTakesJ
namespace Go.Proofs.Ytfhjimeigelibaa.Px
open Go.RowKit Go.Proofs.YtfhjimeigelibaaW.PrintWords Go.Proofs.YtfhjimeigelibaaW.PrintLast Go.Proofs.YtfhjimeigelibaaW.PrintMore
attribute [local go_sem] max2_int min2_int max_two min_two max_three min_three max_four min_four
set_option linter.unusedVariables false
set_option linter.unusedSimpArgs false
mutual
def selvedgeref08_Take.j0 : Nat → Int → Int → Int → ByteArray → Bool → Option (Int × Int × (List (S24)) × List ByteArray × Int × Int × Int)
  | 0, _, _, _, _, _ => none
  | k + 1, x1, x6, x9, x10, x54 => if x54 = true then (some (0, 0, ([] : List (S24)), ([] : List ByteArray), 0, 0, 3)) else ((selvedgeref01_TakeRow.f k x10 4 400).bind fun bt250 => (if bt250.2.2 = 0 then ((selvedgeref01_TakeRow.f k bt250.2.1 64 32).bind fun bt255 => (if bt255.2.2 = 0 then ((selvedgeref01_TakeNum.f k bt255.2.1).bind fun bt260 => (if bt260.2.2 = 0 then (selvedgeref08_Take.j1 k x1 x6 x9 bt250.1 bt255.1 bt260.1 bt260.2.1 (decide (bt260.1 > 10006))) else (selvedgeref08_Take.j1 k x1 x6 x9 bt250.1 bt255.1 bt260.1 bt260.2.1 true))) else (some (0, 0, ([] : List (S24)), ([] : List ByteArray), 0, 0, 3)))) else (some (0, 0, ([] : List (S24)), ([] : List ByteArray), 0, 0, 3))))
def selvedgeref08_Take.j1 : Nat → Int → Int → Int → List ByteArray → List ByteArray → Int → ByteArray → Bool → Option (Int × Int × (List (S24)) × List ByteArray × Int × Int × Int)
  | 0, _, _, _, _, _, _, _, _ => none
  | k + 1, x1, x6, x9, x12, x15, x18, x19, x85 => if x85 = true then (some (0, 0, ([] : List (S24)), ([] : List ByteArray), 0, 0, 3)) else ((selvedgeref01_TakeNum.f k x19).bind fun bt263 => (if bt263.2.2 = 0 then (if bt263.1 > 10006 then (selvedgeref08_Take.j2 k x1 x6 x9 x12 x15 x18 bt263.1 true) else (selvedgeref08_Take.j2 k x1 x6 x9 x12 x15 x18 bt263.1 (decide ((bt263.2.1.size : Int) > 0)))) else (selvedgeref08_Take.j2 k x1 x6 x9 x12 x15 x18 bt263.1 true)))
def selvedgeref08_Take.j2 : Nat → Int → Int → Int → List ByteArray → List ByteArray → Int → Int → Bool → Option (Int × Int × (List (S24)) × List ByteArray × Int × Int × Int)
  | 0, _, _, _, _, _, _, _, _ => none
  | k + 1, x1, x6, x9, x12, x15, x18, x21, x103 => if x103 = true then (some (0, 0, ([] : List (S24)), ([] : List ByteArray), 0, 0, 3)) else (selvedgeref08_Take.l0 k x1 x12 0 (wrap64 (x6)) (wrap64 (x9)) ([] : List (S24)) x15 (wrap64 (x18)) (wrap64 (x21)))
def selvedgeref08_Take.l0 : Nat → Int → List ByteArray → Int → Int → Int → List (S24) → List ByteArray → Int → Int → Option (Int × Int × (List (S24)) × List ByteArray × Int × Int × Int)
  | 0, _, _, _, _, _, _, _, _, _ => none
  | k + 1, x1, x12, x25, x267000, x267001, x267002, x267003, x267004, x267005 => if x25 < (x12.length : Int) then (if 0 ≤ x25 then ((selvedgeref07_Take.f k (rdOf ByteArray.empty x12 x25)).bind fun bt268 => (if bt268.2.2.2 = 0 then (if x267002.length < 3518437208883 then (selvedgeref08_Take.l0 k x1 x12 (wrap64 (x25 + 1)) x267000 x267001 (x267002 ++ [(⟨bt268.1, bt268.2.1, bt268.2.2.1⟩ : S24)]) x267003 x267004 x267005) else (none)) else (some (0, 0, ([] : List (S24)), ([] : List ByteArray), 0, 0, 3)))) else (none)) else ((selvedgeref08_May.f k x267000 x267001 x267002 x267003 x267004 x267005 x1).bind fun t278 => (if t278 = true then (some (x267000, x267001, x267002, x267003, x267004, x267005, 0)) else (some (0, 0, ([] : List (S24)), ([] : List ByteArray), 0, 0, 3))))
end
def selvedgeref08_Take.f (k : Nat) (a0 : ByteArray) (a1 : Int) : Option (Int × Int × (List (S24)) × List ByteArray × Int × Int × Int) := (selvedgeref01_TakeNum.f k a0).bind fun bt244 => ((selvedgeref01_TakeNum.f k bt244.2.1).bind fun bt247 => (if bt244.2.2 = 0 then (if bt247.2.2 = 0 then (if bt244.1 > 64 then (selvedgeref08_Take.j0 k a1 bt244.1 bt247.1 bt247.2.1 true) else (selvedgeref08_Take.j0 k a1 bt244.1 bt247.1 bt247.2.1 (decide (bt247.1 > 1048576)))) else (selvedgeref08_Take.j0 k a1 bt244.1 bt247.1 bt247.2.1 true)) else (selvedgeref08_Take.j0 k a1 bt244.1 bt247.1 bt247.2.1 true)))
set_option maxHeartbeats 8000000 in
set_option maxRecDepth 100000 in
theorem selvedgeref08_Take.calls (k : Nat) (a0 : ByteArray) (a1 : Int) (r1 : Int) (r2 : Int) (r3 : List (S24)) (r4 : List ByteArray) (r5 : Int) (r6 : Int) (r7 : Int) (w : World) (h : selvedgeref08_Take.f k a0 a1 = some (r1, r2, r3, r4, r5, r6, r7)) :
    Calls Try.prog 13 #[.string a0, .int .i64 a1] w fun e w' => ∃ v2_ v3_ : Value, e = .returned (.tuple #[.agg #[.int .i64 r1, .int .i64 r2, v2_, v3_, .int .i64 r5, .int .i64 r6], .int .i64 r7]) ∧ Kd.S k24 24 w' w.heap.size (fun k_ => some k_ ≠ (v3_ : Value).ownBlock) v2_ r3 ∧ Kd.R Kd.string 9 w' w.heap.size (fun _ => True) v3_ r4 ∧ Below w.heap.size w w' := by
  have hu38 := Try.underlying38
  have hu36 := Try.underlying36
  have hu24 := Try.underlying24
  have HB := Aside0.mk (Below.refl w.heap.size w)
  have H : ((selvedgeref01_TakeNum.f k a0).bind fun bt244 => ((selvedgeref01_TakeNum.f k bt244.2.1).bind fun bt247 => (if bt244.2.2 = 0 then (if bt247.2.2 = 0 then (if bt244.1 > 64 then (selvedgeref08_Take.j0 k a1 bt244.1 bt247.1 bt247.2.1 true) else (selvedgeref08_Take.j0 k a1 bt244.1 bt247.1 bt247.2.1 (decide (bt247.1 > 1048576)))) else (selvedgeref08_Take.j0 k a1 bt244.1 bt247.1 bt247.2.1 true)) else (selvedgeref08_Take.j0 k a1 bt244.1 bt247.1 bt247.2.1 true)))) = some (r1, r2, r3, r4, r5, r6, r7) := h
  clear h
  replace H := Option.bind_eq_some_iff.mp H
  obtain ⟨⟨t244, t245, t246⟩, A30, H⟩ := H
  replace H : ((selvedgeref01_TakeNum.f k t245).bind fun bt247 => (if t246 = 0 then (if bt247.2.2 = 0 then (if t244 > 64 then (selvedgeref08_Take.j0 k a1 t244 bt247.1 bt247.2.1 true) else (selvedgeref08_Take.j0 k a1 t244 bt247.1 bt247.2.1 (decide (bt247.1 > 1048576)))) else (selvedgeref08_Take.j0 k a1 t244 bt247.1 bt247.2.1 true)) else (selvedgeref08_Take.j0 k a1 t244 bt247.1 bt247.2.1 true))) = some (r1, r2, r3, r4, r5, r6, r7) := H
  have A3 := Aside0.mk A30
  clear A30
  replace H := Option.bind_eq_some_iff.mp H
  obtain ⟨⟨t247, t248, t249⟩, A40, H⟩ := H
  replace H : (if t246 = 0 then (if t249 = 0 then (if t244 > 64 then (selvedgeref08_Take.j0 k a1 t244 t247 t248 true) else (selvedgeref08_Take.j0 k a1 t244 t247 t248 (decide (t247 > 1048576)))) else (selvedgeref08_Take.j0 k a1 t244 t247 t248 true)) else (selvedgeref08_Take.j0 k a1 t244 t247 t248 true)) = some (r1, r2, r3, r4, r5, r6, r7) := H
  have A4 := Aside0.mk A40
  clear A40
  have HC5 := Aside0.mk H
  clear H
  go_enter Try.func13, Try.ntmps13
  go_upto_region 3 with (first | ((with_reducible refine gate_dst (N := 4) rfl ?_); (try (refine gate_guard (by rfl) ?_; dsimp only)); refine box_event ?hg (N := 4) ?hd (cs := #[.int .i64 0, .int .i64 0, .slice none 0 0, .slice none 0 0, .int .i64 0, .int .i64 0]) (t := 38) ?hr ?_; (case hd => rfl); (case hg => rfl); (case hr => first | (go_simp; done) | (go_simp; rfl)); intro gb243 hg w6 hbox hb; have n0_ := Aside0.mk (below_step (by repeat (first | (with_reducible first | exact HB.out | apply below_alloc | apply pw_below_drewN | apply below_drew1) | exact HB.out)) hb); have n1_ := Aside0.mk (hbox); have n2_ := Aside0.mk ((by rw [hg]; exact (below_size (by repeat (first | (with_reducible first | exact HB.out | apply below_alloc | apply pw_below_drewN | apply below_drew1) | exact HB.out))) : w.heap.size ≤ gb243)); have n3_ := Aside0.mk ((by rw [hg]; exact (below_size (by repeat (first | (with_reducible first | exact HB.out | apply below_alloc | apply pw_below_drewN | apply below_drew1) | exact HB.out))) : w.heap.size ≤ gb243)); clear HB; have HB := n0_; have BK243 := n1_; have GW243 := n2_; have GE243 := n3_; clear n0_ n1_ n2_ n3_; clear hb hbox hg) | ((with_reducible refine gate_callee (f := 26) rfl ?_); refine goesL_ (some 31) rfl rfl Try.func26 (by kernel_rfl) rfl #[.string a0] rfl (by (try simp only [List.map_toArray, List.map_cons, List.map_nil]); first | done | rfl | (simp only [List.length_drop, List.length_take]; rfl)) ?_; (with_reducible refine (selvedgeref01_TakeNum.calls k a0 t244 t245 t246 _ A3.out).mono ?_); rintro e w' ⟨rfl, ⟨nd, rfl⟩⟩; refine ⟨_, rfl, ?_⟩) | ((with_reducible refine gate_callee (f := 26) rfl ?_); refine goesL_ (some 37) rfl rfl Try.func26 (by kernel_rfl) rfl #[.string t245] rfl (by (try simp only [List.map_toArray, List.map_cons, List.map_nil]); first | done | rfl | (simp only [List.length_drop, List.length_take]; rfl)) ?_; (with_reducible refine (selvedgeref01_TakeNum.calls k t245 t247 t248 t249 _ A4.out).mono ?_); rintro e w' ⟨rfl, ⟨nd, rfl⟩⟩; refine ⟨_, rfl, ?_⟩))
  (try simp only [Act.put, List.setIfInBounds_toArray, List.set_cons_zero, List.set_cons_succ])
  go_cut [54] (fun v54 wc => ∃ (kq : Nat) (x54_4 : Bool), v54 = .bool x54_4 ∧ Aside0 (selvedgeref08_Take.j0 kq a1 t244 t247 t248 x54_4 = some (r1, r2, r3, r4, r5, r6, r7)) ∧ Aside0 (kq ≤ k) ∧ Aside0 (wc.heap[gb243]? = some (.cells #[.int .i64 0, .int .i64 0, (.slice none 0 0), (.slice none 0 0), .int .i64 0, .int .i64 0] 38 (0, 0))) ∧ Aside0 (Below w.heap.size w wc))
  case first =>
    have H := HC5.out
    clear HC5
    by_cases c7 : t246 = 0
    · rw [if_pos c7] at H
      have c7b0 : (t246 == 0) = true := beq_iff_eq.mpr c7
      have c7b1 : (t246 != 0) = false := bne_eq_false_iff_eq.mpr c7
      clear c7
      (first | rw [c7b0] | (simp only [i64_w, i32_w]; rw [c7b0]) | skip)
      by_cases c8 : t249 = 0
      · rw [if_pos c8] at H
        have c8b0 : (t249 == 0) = true := beq_iff_eq.mpr c8
        have c8b1 : (t249 != 0) = false := bne_eq_false_iff_eq.mpr c8
        clear c8
        by_cases c9 : t244 > 64
        · rw [if_pos c9] at H
          have c9b0 : decide (64 < t244) = true := decide_eq_true c9
          clear c9
          have H' := Aside0.mk H
          clear H
          go_wp2
          go_meet
          case rel => exact ⟨_, (true), (by first | rfl | (simp; done) | (simp [*]; done)), H', ⟨by first | omega | exact Nat.le_refl _⟩, ⟨by (with_reducible repeat (first | refine blk_drewN ?_ _ | refine blk_drew ?_ | refine blk_alloc ?_ _)); exact BK243.out⟩, ⟨by repeat (first | (with_reducible first | exact HB.out | apply below_alloc | apply pw_below_drewN | apply below_drew1 | refine below_set ?_ GE243.out) | exact HB.out)⟩⟩
        · rw [if_neg c9] at H
          have c9b0 : decide (64 < t244) = false := decide_eq_false c9
          clear c9
          have H' := Aside0.mk H
          clear H
          go_wp2
          go_meet
          case rel => exact ⟨_, (decide (t247 > 1048576)), (by first | rfl | (simp; done) | (simp [*]; done)), H', ⟨by first | omega | exact Nat.le_refl _⟩, ⟨by (with_reducible repeat (first | refine blk_drewN ?_ _ | refine blk_drew ?_ | refine blk_alloc ?_ _)); exact BK243.out⟩, ⟨by repeat (first | (with_reducible first | exact HB.out | apply below_alloc | apply pw_below_drewN | apply below_drew1 | refine below_set ?_ GE243.out) | exact HB.out)⟩⟩
      · rw [if_neg c8] at H
        have c8b0 : (t249 == 0) = false := beq_eq_false_iff_ne.mpr c8
        have c8b1 : (t249 != 0) = true := bne_iff_ne.mpr c8
        have H' := Aside0.mk H
        clear H
        go_wp2
        go_meet
        case rel => exact ⟨_, (true), (by first | rfl | (simp; done) | (simp [*]; done)), H', ⟨by first | omega | exact Nat.le_refl _⟩, ⟨by (with_reducible repeat (first | refine blk_drewN ?_ _ | refine blk_drew ?_ | refine blk_alloc ?_ _)); exact BK243.out⟩, ⟨by repeat (first | (with_reducible first | exact HB.out | apply below_alloc | apply pw_below_drewN | apply below_drew1 | refine below_set ?_ GE243.out) | exact HB.out)⟩⟩
    · rw [if_neg c7] at H
      have c7b0 : (t246 == 0) = false := beq_eq_false_iff_ne.mpr c7
      have c7b1 : (t246 != 0) = true := bne_iff_ne.mpr c7
      (first | rw [c7b0] | (simp only [i64_w, i32_w]; rw [c7b0]) | skip)
      have H' := Aside0.mk H
      clear H
      go_wp2
      go_meet
      case rel => exact ⟨_, (true), (by first | rfl | (simp; done) | (simp [*]; done)), H', ⟨by first | omega | exact Nat.le_refl _⟩, ⟨by (with_reducible repeat (first | refine blk_drewN ?_ _ | refine blk_drew ?_ | refine blk_alloc ?_ _)); exact BK243.out⟩, ⟨by repeat (first | (with_reducible first | exact HB.out | apply below_alloc | apply pw_below_drewN | apply below_drew1 | refine below_set ?_ GE243.out) | exact HB.out)⟩⟩
  case rest =>
    clear HC5
    try clear c1
    try clear c2
    try clear p2
    try clear c7
    try clear c7b0
    try clear c7b1
    try clear c8
    try clear c8b0
    try clear c8b1
    try clear c9
    try clear c9b0
    obtain ⟨kq, x54_4, rfl, HA, HJ4, BK243, HB⟩ := hcut
    cases kq with
    | zero => exact absurd HA.out (by simp [selvedgeref08_Take.j0])
    | succ kj4 =>
      have H := HA.out
      clear HA
      simp only [selvedgeref08_Take.j0] at H
      by_cases c10 : x54_4 = true
      · subst c10
        have H1 : (some (0, 0, ([] : List (S24)), ([] : List ByteArray), 0, 0, 3)) = some (r1, r2, r3, r4, r5, r6, r7) := by rw [if_pos rfl] at H; exact H
        clear H
        have H := H1
        clear H1
        simp only [Option.some.injEq, Prod.mk.injEq] at H
        obtain ⟨rfl, rfl, rfl, rfl, rfl, rfl, rfl⟩ := H
        have hcz11_0 : wc.cell? ⟨gb243, 0, none⟩ = some (.int .i64 0) := (blk_cell BK243.out 0).trans rfl
        have hcz11_1 : wc.cell? ⟨gb243, 1, none⟩ = some (.int .i64 0) := (blk_cell BK243.out 1).trans rfl
        have hcz11_2 : wc.cell? ⟨gb243, 2, none⟩ = some (.slice none 0 0) := (blk_cell BK243.out 2).trans rfl
        have hcz11_3 : wc.cell? ⟨gb243, 3, none⟩ = some (.slice none 0 0) := (blk_cell BK243.out 3).trans rfl
        have hcz11_4 : wc.cell? ⟨gb243, 4, none⟩ = some (.int .i64 0) := (blk_cell BK243.out 4).trans rfl
        have hcz11_5 : wc.cell? ⟨gb243, 5, none⟩ = some (.int .i64 0) := (blk_cell BK243.out 5).trans rfl
        have hfz11_0 := blk_frozen BK243.out 0
        have hfz11_1 := blk_frozen BK243.out 1
        have hfz11_2 := blk_frozen BK243.out 2
        have hfz11_3 := blk_frozen BK243.out 3
        have hfz11_4 := blk_frozen BK243.out 4
        have hfz11_5 := blk_frozen BK243.out 5
        go_wp2
        refine bodyPost_ret (results_ct rfl _ _ gb243 38 #[.int .i64 0, .int .i64 0, .slice none 0 0, .slice none 0 0, .int .i64 0, .int .i64 0] (0, 0) _ rfl (by (with_reducible repeat (first | refine blk_drewN ?_ _ | refine blk_drew ?_ | refine blk_alloc ?_ _)); refine blk_put (cs := #[.int .i64 0, .int .i64 0, .slice none 0 0, .slice none 0 0, .int .i64 0, .int .i64 0]) ?_ 5 _ rfl; (with_reducible repeat (first | refine blk_drewN ?_ _ | refine blk_drew ?_ | refine blk_alloc ?_ _)); refine blk_put (cs := #[.int .i64 0, .int .i64 0, .slice none 0 0, .slice none 0 0, .int .i64 0, .int .i64 0]) ?_ 4 _ rfl; (with_reducible repeat (first | refine blk_drewN ?_ _ | refine blk_drew ?_ | refine blk_alloc ?_ _)); refine blk_put (cs := #[.int .i64 0, .int .i64 0, .slice none 0 0, .slice none 0 0, .int .i64 0, .int .i64 0]) ?_ 3 _ rfl; (with_reducible repeat (first | refine blk_drewN ?_ _ | refine blk_drew ?_ | refine blk_alloc ?_ _)); refine blk_put (cs := #[.int .i64 0, .int .i64 0, .slice none 0 0, .slice none 0 0, .int .i64 0, .int .i64 0]) ?_ 2 _ rfl; (with_reducible repeat (first | refine blk_drewN ?_ _ | refine blk_drew ?_ | refine blk_alloc ?_ _)); refine blk_put (cs := #[.int .i64 0, .int .i64 0, .slice none 0 0, .slice none 0 0, .int .i64 0, .int .i64 0]) ?_ 1 _ rfl; (with_reducible repeat (first | refine blk_drewN ?_ _ | refine blk_drew ?_ | refine blk_alloc ?_ _)); refine blk_put (cs := #[.int .i64 0, .int .i64 0, .slice none 0 0, .slice none 0 0, .int .i64 0, .int .i64 0]) ?_ 0 _ rfl; (with_reducible repeat (first | refine blk_drewN ?_ _ | refine blk_drew ?_ | refine blk_alloc ?_ _)); exact BK243.out) Try.underlying38 rfl (by kernel_rfl)) rfl ?_
        exact ⟨_, _, by first | rfl | (simp [errW_none, errW_some] <;> rfl) | (simp [*, errW_none, errW_some] <;> rfl), by first | exact Kd.S_nil _ _ _ _ _ | exact Kd.N_nil _ _ _ _ _ | exact Kd.V_nil _ _ _ _ _ | exact Kd.Q_nil _ _ _ _ _ | exact Kd.R_nil _ _ _ _ _, by first | exact Kd.R_nil _ _ _ _ _ | exact Kd.N_nil _ _ _ _ _ | exact Kd.V_nil _ _ _ _ _ | exact Kd.Q_nil _ _ _ _ _ | exact Kd.S_nil _ _ _ _ _, by repeat (first | (with_reducible first | exact HB.out | apply below_alloc | apply pw_below_drewN | apply below_drew1 | refine below_set ?_ GE243.out) | exact HB.out)⟩
      · replace c10 := Bool.eq_false_iff.mpr c10
        subst c10
        have H1 : ((selvedgeref01_TakeRow.f kj4 t248 4 400).bind fun bt250 => (if bt250.2.2 = 0 then ((selvedgeref01_TakeRow.f kj4 bt250.2.1 64 32).bind fun bt255 => (if bt255.2.2 = 0 then ((selvedgeref01_TakeNum.f kj4 bt255.2.1).bind fun bt260 => (if bt260.2.2 = 0 then (selvedgeref08_Take.j1 kj4 a1 t244 t247 bt250.1 bt255.1 bt260.1 bt260.2.1 (decide (bt260.1 > 10006))) else (selvedgeref08_Take.j1 kj4 a1 t244 t247 bt250.1 bt255.1 bt260.1 bt260.2.1 true))) else (some (0, 0, ([] : List (S24)), ([] : List ByteArray), 0, 0, 3)))) else (some (0, 0, ([] : List (S24)), ([] : List ByteArray), 0, 0, 3)))) = some (r1, r2, r3, r4, r5, r6, r7) := by rw [if_neg (show ¬ (false = true) by decide)] at H; exact H
        clear H
        have H := H1
        clear H1
        replace H := Option.bind_eq_some_iff.mp H
        obtain ⟨⟨t250, t251, t252⟩, A120, H⟩ := H
        replace H : (if t252 = 0 then ((selvedgeref01_TakeRow.f kj4 t251 64 32).bind fun bt255 => (if bt255.2.2 = 0 then ((selvedgeref01_TakeNum.f kj4 bt255.2.1).bind fun bt260 => (if bt260.2.2 = 0 then (selvedgeref08_Take.j1 kj4 a1 t244 t247 t250 bt255.1 bt260.1 bt260.2.1 (decide (bt260.1 > 10006))) else (selvedgeref08_Take.j1 kj4 a1 t244 t247 t250 bt255.1 bt260.1 bt260.2.1 true))) else (some (0, 0, ([] : List (S24)), ([] : List ByteArray), 0, 0, 3)))) else (some (0, 0, ([] : List (S24)), ([] : List ByteArray), 0, 0, 3))) = some (r1, r2, r3, r4, r5, r6, r7) := H
        have A12 := Aside0.mk A120
        clear A120
        by_cases c13 : t252 = 0
        · rw [if_pos c13] at H
          have c13b0 : (t252 == 0) = true := beq_iff_eq.mpr c13
          have c13b1 : (t252 != 0) = false := bne_eq_false_iff_eq.mpr c13
          clear c13
          replace H := Option.bind_eq_some_iff.mp H
          obtain ⟨⟨t255, t256, t257⟩, A140, H⟩ := H
          replace H : (if t257 = 0 then ((selvedgeref01_TakeNum.f kj4 t256).bind fun bt260 => (if bt260.2.2 = 0 then (selvedgeref08_Take.j1 kj4 a1 t244 t247 t250 t255 bt260.1 bt260.2.1 (decide (bt260.1 > 10006))) else (selvedgeref08_Take.j1 kj4 a1 t244 t247 t250 t255 bt260.1 bt260.2.1 true))) else (some (0, 0, ([] : List (S24)), ([] : List ByteArray), 0, 0, 3))) = some (r1, r2, r3, r4, r5, r6, r7) := H
          have A14 := Aside0.mk A140
          clear A140
          by_cases c15 : t257 = 0
          · rw [if_pos c15] at H
            have c15b0 : (t257 == 0) = true := beq_iff_eq.mpr c15
            have c15b1 : (t257 != 0) = false := bne_eq_false_iff_eq.mpr c15
            clear c15
            replace H := Option.bind_eq_some_iff.mp H
            obtain ⟨⟨t260, t261, t262⟩, A160, H⟩ := H
            replace H : (if t262 = 0 then (selvedgeref08_Take.j1 kj4 a1 t244 t247 t250 t255 t260 t261 (decide (t260 > 10006))) else (selvedgeref08_Take.j1 kj4 a1 t244 t247 t250 t255 t260 t261 true)) = some (r1, r2, r3, r4, r5, r6, r7) := H
            have A16 := Aside0.mk A160
            clear A160
            have HC17 := Aside0.mk H
            clear H
            go_upto_region 12 with (first | ((with_reducible refine gate_callee (f := 27) rfl ?_); refine goesL_ (some 58) rfl rfl Try.func27 (by kernel_rfl) rfl #[.string t248, .int .i64 4, .int .i64 400] rfl (by (try simp only [List.map_toArray, List.map_cons, List.map_nil]); first | done | rfl | (simp only [List.length_drop, List.length_take]; rfl)) ?_; (with_reducible refine (selvedgeref01_TakeRow.calls kj4 t248 4 400 t250 t251 t252 _ A12.out).mono ?_); rintro e w18 ⟨v253, rfl, ho0, hb⟩; refine ⟨_, rfl, ?_⟩; have n0_ := Aside0.mk (Kd.R_lower ho0 (below_size (by repeat (first | (with_reducible first | exact HB.out | apply below_alloc | apply pw_below_drewN | apply below_drew1 | refine below_set ?_ GE243.out) | exact HB.out)))); have n1_ := Aside0.mk (blk_below (g := gb243) (o := .cells #[.int .i64 0, .int .i64 0, .slice none 0 0, .slice none 0 0, .int .i64 0, .int .i64 0] 38 (0, 0)) (by (with_reducible repeat (first | refine blk_drewN ?_ _ | refine blk_drew ?_ | refine blk_alloc ?_ _)); exact BK243.out) hb); have n2_ := Aside0.mk (below_step (by repeat (first | (with_reducible first | exact HB.out | apply below_alloc | apply pw_below_drewN | apply below_drew1 | refine below_set ?_ GE243.out) | exact HB.out)) hb); clear BK243; clear HB; have HO254 := n0_; have BK243 := n1_; have HB := n2_; clear n0_ n1_ n2_; (try clear hb); (try clear hb2); (try clear hk); (try clear hi); (try clear ho0)) | ((with_reducible refine gate_callee (f := 27) rfl ?_); refine goesL_ (some 67) rfl rfl Try.func27 (by kernel_rfl) rfl #[.string t251, .int .i64 64, .int .i64 32] rfl (by (try simp only [List.map_toArray, List.map_cons, List.map_nil]); first | done | rfl | (simp only [List.length_drop, List.length_take]; rfl)) ?_; (with_reducible refine (selvedgeref01_TakeRow.calls kj4 t251 64 32 t255 t256 t257 _ A14.out).mono ?_); rintro e w19 ⟨v258, rfl, ho0, hb⟩; refine ⟨_, rfl, ?_⟩; have n0_ := Aside0.mk (Kd.R_elder' (by (with_reducible repeat (first | apply Kd.R_alloc | apply Kd.R_drewN | apply Kd.R_drew)); exact HO254.out) (Kd.R_base ho0) hb); have n1_ := Aside0.mk (Kd.R_lower (Kd.R_new' ho0 (Kd.R_lt (by (with_reducible repeat (first | apply Kd.R_alloc | apply Kd.R_drewN | apply Kd.R_drew)); exact HO254.out))) (below_size (by repeat (first | (with_reducible first | exact HB.out | apply below_alloc | apply pw_below_drewN | apply below_drew1 | refine below_set ?_ GE243.out) | exact HB.out)))); have n2_ := Aside0.mk (blk_below (g := gb243) (o := .cells #[.int .i64 0, .int .i64 0, .slice none 0 0, .slice none 0 0, .int .i64 0, .int .i64 0] 38 (0, 0)) (by (with_reducible repeat (first | refine blk_drewN ?_ _ | refine blk_drew ?_ | refine blk_alloc ?_ _)); exact BK243.out) hb); have n3_ := Aside0.mk (below_step (by repeat (first | (with_reducible first | exact HB.out | apply below_alloc | apply pw_below_drewN | apply below_drew1 | refine below_set ?_ GE243.out) | exact HB.out)) hb); clear HO254; clear BK243; clear HB; have HO254 := n0_; have HO259 := n1_; have BK243 := n2_; have HB := n3_; clear n0_ n1_ n2_ n3_; (try clear hb); (try clear hb2); (try clear hk); (try clear hi); (try clear ho0)) | ((with_reducible refine gate_callee (f := 26) rfl ?_); refine goesL_ (some 76) rfl rfl Try.func26 (by kernel_rfl) rfl #[.string t256] rfl (by (try simp only [List.map_toArray, List.map_cons, List.map_nil]); first | done | rfl | (simp only [List.length_drop, List.length_take]; rfl)) ?_; (with_reducible refine (selvedgeref01_TakeNum.calls kj4 t256 t260 t261 t262 _ A16.out).mono ?_); rintro e w' ⟨rfl, ⟨nd, rfl⟩⟩; refine ⟨_, rfl, ?_⟩))
            (try simp only [Act.put, List.setIfInBounds_toArray, List.set_cons_zero, List.set_cons_succ])
            go_cut [85] (fun v85 wc => ∃ (kq : Nat) (x85_16 : Bool), v85 = .bool x85_16 ∧ Aside0 (selvedgeref08_Take.j1 kq a1 t244 t247 t250 t255 t260 t261 x85_16 = some (r1, r2, r3, r4, r5, r6, r7)) ∧ Aside0 (kq ≤ kj4) ∧ Aside0 (Kd.R Kd.string 9 wc w.heap.size (fun k_ => some k_ ≠ (v258 : Value).ownBlock) v253 t250) ∧ Aside0 (Kd.R Kd.string 9 wc w.heap.size (fun k_ => some k_ ≠ (v253 : Value).ownBlock) v258 t255) ∧ Aside0 (wc.heap[gb243]? = some (.cells #[.int .i64 0, .int .i64 0, (.slice none 0 0), (.slice none 0 0), .int .i64 0, .int .i64 0] 38 (0, 0))) ∧ Aside0 (Below w.heap.size w wc))
            case first =>
              have H := HC17.out
              clear HC17
              by_cases c20 : t262 = 0
              · rw [if_pos c20] at H
                have c20b0 : (t262 == 0) = true := beq_iff_eq.mpr c20
                have c20b1 : (t262 != 0) = false := bne_eq_false_iff_eq.mpr c20
                clear c20
                (first | rw [c20b0] | (simp only [i64_w, i32_w]; rw [c20b0]) | skip)
                have H' := Aside0.mk H
                clear H
                go_wp2
                go_meet
                case rel => exact ⟨_, (decide (t260 > 10006)), (by first | rfl | (simp; done) | (simp [*]; done)), H', ⟨by have := HJ4.out; first | omega | exact Nat.le_refl _⟩, ⟨by (with_reducible repeat (first | apply Kd.R_alloc | apply Kd.R_drewN | apply Kd.R_drew)); exact Kd.R_mono HO254.out (fun _ hk => hk.2)⟩, ⟨by (with_reducible repeat (first | apply Kd.R_alloc | apply Kd.R_drewN | apply Kd.R_drew)); exact Kd.R_mono HO259.out (fun _ hk => hk.2)⟩, ⟨by (with_reducible repeat (first | refine blk_drewN ?_ _ | refine blk_drew ?_ | refine blk_alloc ?_ _)); exact BK243.out⟩, ⟨by repeat (first | (with_reducible first | exact HB.out | apply below_alloc | apply pw_below_drewN | apply below_drew1 | refine below_set ?_ GE243.out) | exact HB.out)⟩⟩
              · rw [if_neg c20] at H
                have c20b0 : (t262 == 0) = false := beq_eq_false_iff_ne.mpr c20
                have c20b1 : (t262 != 0) = true := bne_iff_ne.mpr c20
                (first | rw [c20b0] | (simp only [i64_w, i32_w]; rw [c20b0]) | skip)
                have H' := Aside0.mk H
                clear H
                go_wp2
                go_meet
                case rel => exact ⟨_, (true), (by first | rfl | (simp; done) | (simp [*]; done)), H', ⟨by have := HJ4.out; first | omega | exact Nat.le_refl _⟩, ⟨by (with_reducible repeat (first | apply Kd.R_alloc | apply Kd.R_drewN | apply Kd.R_drew)); exact Kd.R_mono HO254.out (fun _ hk => hk.2)⟩, ⟨by (with_reducible repeat (first | apply Kd.R_alloc | apply Kd.R_drewN | apply Kd.R_drew)); exact Kd.R_mono HO259.out (fun _ hk => hk.2)⟩, ⟨by (with_reducible repeat (first | refine blk_drewN ?_ _ | refine blk_drew ?_ | refine blk_alloc ?_ _)); exact BK243.out⟩, ⟨by repeat (first | (with_reducible first | exact HB.out | apply below_alloc | apply pw_below_drewN | apply below_drew1 | refine below_set ?_ GE243.out) | exact HB.out)⟩⟩
            case rest =>
              clear HC17
              try clear c1
              try clear c2
              try clear p2
              try clear c7
              try clear c7b0
              try clear c7b1
              try clear c8
              try clear c8b0
              try clear c8b1
              try clear c9
              try clear c9b0
              try clear c10
              try clear c13
              try clear c13b0
              try clear c13b1
              try clear c15
              try clear c15b0
              try clear c15b1
              try clear c20
              try clear c20b0
              try clear c20b1
              try clear hcz11_0
              try clear hcz11_1
              try clear hcz11_2
              try clear hcz11_3
              try clear hcz11_4
              try clear hcz11_5
              try clear hfz11_0
              try clear hfz11_1
              try clear hfz11_2
              try clear hfz11_3
              try clear hfz11_4
              try clear hfz11_5
              try clear p2
              obtain ⟨kq, x85_16, rfl, HA, HJ16, HO_12, HO_15, BK243, HB⟩ := hcut
              cases kq with
              | zero => exact absurd HA.out (by simp [selvedgeref08_Take.j1])
              | succ kj16 =>
                have H := HA.out
                clear HA
                simp only [selvedgeref08_Take.j1] at H
                by_cases c21 : x85_16 = true
                · subst c21
                  have H1 : (some (0, 0, ([] : List (S24)), ([] : List ByteArray), 0, 0, 3)) = some (r1, r2, r3, r4, r5, r6, r7) := by rw [if_pos rfl] at H; exact H
                  clear H
                  have H := H1
                  clear H1
                  simp only [Option.some.injEq, Prod.mk.injEq] at H
                  obtain ⟨rfl, rfl, rfl, rfl, rfl, rfl, rfl⟩ := H
                  have hcz22_0 : wc.cell? ⟨gb243, 0, none⟩ = some (.int .i64 0) := (blk_cell BK243.out 0).trans rfl
                  have hcz22_1 : wc.cell? ⟨gb243, 1, none⟩ = some (.int .i64 0) := (blk_cell BK243.out 1).trans rfl
                  have hcz22_2 : wc.cell? ⟨gb243, 2, none⟩ = some (.slice none 0 0) := (blk_cell BK243.out 2).trans rfl
                  have hcz22_3 : wc.cell? ⟨gb243, 3, none⟩ = some (.slice none 0 0) := (blk_cell BK243.out 3).trans rfl
                  have hcz22_4 : wc.cell? ⟨gb243, 4, none⟩ = some (.int .i64 0) := (blk_cell BK243.out 4).trans rfl
                  have hcz22_5 : wc.cell? ⟨gb243, 5, none⟩ = some (.int .i64 0) := (blk_cell BK243.out 5).trans rfl
                  have hfz22_0 := blk_frozen BK243.out 0
                  have hfz22_1 := blk_frozen BK243.out 1
                  have hfz22_2 := blk_frozen BK243.out 2
                  have hfz22_3 := blk_frozen BK243.out 3
                  have hfz22_4 := blk_frozen BK243.out 4
                  have hfz22_5 := blk_frozen BK243.out 5
                  go_wp2
                  refine bodyPost_ret (results_ct rfl _ _ gb243 38 #[.int .i64 0, .int .i64 0, .slice none 0 0, .slice none 0 0, .int .i64 0, .int .i64 0] (0, 0) _ rfl (by (with_reducible repeat (first | refine blk_drewN ?_ _ | refine blk_drew ?_ | refine blk_alloc ?_ _)); refine blk_put (cs := #[.int .i64 0, .int .i64 0, .slice none 0 0, .slice none 0 0, .int .i64 0, .int .i64 0]) ?_ 5 _ rfl; (with_reducible repeat (first | refine blk_drewN ?_ _ | refine blk_drew ?_ | refine blk_alloc ?_ _)); refine blk_put (cs := #[.int .i64 0, .int .i64 0, .slice none 0 0, .slice none 0 0, .int .i64 0, .int .i64 0]) ?_ 4 _ rfl; (with_reducible repeat (first | refine blk_drewN ?_ _ | refine blk_drew ?_ | refine blk_alloc ?_ _)); refine blk_put (cs := #[.int .i64 0, .int .i64 0, .slice none 0 0, .slice none 0 0, .int .i64 0, .int .i64 0]) ?_ 3 _ rfl; (with_reducible repeat (first | refine blk_drewN ?_ _ | refine blk_drew ?_ | refine blk_alloc ?_ _)); refine blk_put (cs := #[.int .i64 0, .int .i64 0, .slice none 0 0, .slice none 0 0, .int .i64 0, .int .i64 0]) ?_ 2 _ rfl; (with_reducible repeat (first | refine blk_drewN ?_ _ | refine blk_drew ?_ | refine blk_alloc ?_ _)); refine blk_put (cs := #[.int .i64 0, .int .i64 0, .slice none 0 0, .slice none 0 0, .int .i64 0, .int .i64 0]) ?_ 1 _ rfl; (with_reducible repeat (first | refine blk_drewN ?_ _ | refine blk_drew ?_ | refine blk_alloc ?_ _)); refine blk_put (cs := #[.int .i64 0, .int .i64 0, .slice none 0 0, .slice none 0 0, .int .i64 0, .int .i64 0]) ?_ 0 _ rfl; (with_reducible repeat (first | refine blk_drewN ?_ _ | refine blk_drew ?_ | refine blk_alloc ?_ _)); exact BK243.out) Try.underlying38 rfl (by kernel_rfl)) rfl ?_
                  exact ⟨_, _, by first | rfl | (simp [errW_none, errW_some] <;> rfl) | (simp [*, errW_none, errW_some] <;> rfl), by first | exact Kd.S_nil _ _ _ _ _ | exact Kd.N_nil _ _ _ _ _ | exact Kd.V_nil _ _ _ _ _ | exact Kd.Q_nil _ _ _ _ _ | exact Kd.R_nil _ _ _ _ _, by first | exact Kd.R_nil _ _ _ _ _ | exact Kd.N_nil _ _ _ _ _ | exact Kd.V_nil _ _ _ _ _ | exact Kd.Q_nil _ _ _ _ _ | exact Kd.S_nil _ _ _ _ _, by repeat (first | (with_reducible first | exact HB.out | apply below_alloc | apply pw_below_drewN | apply below_drew1 | refine below_set ?_ GE243.out) | exact HB.out)⟩
                · replace c21 := Bool.eq_false_iff.mpr c21
                  subst c21
                  have H1 : ((selvedgeref01_TakeNum.f kj16 t261).bind fun bt263 => (if bt263.2.2 = 0 then (if bt263.1 > 10006 then (selvedgeref08_Take.j2 kj16 a1 t244 t247 t250 t255 t260 bt263.1 true) else (selvedgeref08_Take.j2 kj16 a1 t244 t247 t250 t255 t260 bt263.1 (decide ((bt263.2.1.size : Int) > 0)))) else (selvedgeref08_Take.j2 kj16 a1 t244 t247 t250 t255 t260 bt263.1 true))) = some (r1, r2, r3, r4, r5, r6, r7) := by rw [if_neg (show ¬ (false = true) by decide)] at H; exact H
                  clear H
                  have H := H1
                  clear H1
                  replace H := Option.bind_eq_some_iff.mp H
                  obtain ⟨⟨t263, t264, t265⟩, A230, H⟩ := H
                  replace H : (if t265 = 0 then (if t263 > 10006 then (selvedgeref08_Take.j2 kj16 a1 t244 t247 t250 t255 t260 t263 true) else (selvedgeref08_Take.j2 kj16 a1 t244 t247 t250 t255 t260 t263 (decide ((t264.size : Int) > 0)))) else (selvedgeref08_Take.j2 kj16 a1 t244 t247 t250 t255 t260 t263 true)) = some (r1, r2, r3, r4, r5, r6, r7) := H
                  have A23 := Aside0.mk A230
                  clear A230
                  have HC24 := Aside0.mk H
                  clear H
                  go_upto_region 15 with (first | ((with_reducible refine gate_callee (f := 26) rfl ?_); refine goesL_ (some 89) rfl rfl Try.func26 (by kernel_rfl) rfl #[.string t261] rfl (by (try simp only [List.map_toArray, List.map_cons, List.map_nil]); first | done | rfl | (simp only [List.length_drop, List.length_take]; rfl)) ?_; (with_reducible refine (selvedgeref01_TakeNum.calls kj16 t261 t263 t264 t265 _ A23.out).mono ?_); rintro e w' ⟨rfl, ⟨nd, rfl⟩⟩; refine ⟨_, rfl, ?_⟩))
                  (try simp only [Act.put, List.setIfInBounds_toArray, List.set_cons_zero, List.set_cons_succ])
                  go_cut [103] (fun v103 wc => ∃ (kq : Nat) (x103_23 : Bool), v103 = .bool x103_23 ∧ Aside0 (selvedgeref08_Take.j2 kq a1 t244 t247 t250 t255 t260 t263 x103_23 = some (r1, r2, r3, r4, r5, r6, r7)) ∧ Aside0 (kq ≤ kj16) ∧ Aside0 (Kd.R Kd.string 9 wc w.heap.size (fun k_ => some k_ ≠ (v258 : Value).ownBlock) v253 t250) ∧ Aside0 (Kd.R Kd.string 9 wc w.heap.size (fun k_ => some k_ ≠ (v253 : Value).ownBlock) v258 t255) ∧ Aside0 (wc.heap[gb243]? = some (.cells #[.int .i64 0, .int .i64 0, (.slice none 0 0), (.slice none 0 0), .int .i64 0, .int .i64 0] 38 (0, 0))) ∧ Aside0 (Below w.heap.size w wc))
                  case first =>
                    have H := HC24.out
                    clear HC24
                    by_cases c25 : t265 = 0
                    · rw [if_pos c25] at H
                      have c25b0 : (t265 == 0) = true := beq_iff_eq.mpr c25
                      have c25b1 : (t265 != 0) = false := bne_eq_false_iff_eq.mpr c25
                      clear c25
                      (first | rw [c25b0] | (simp only [i64_w, i32_w]; rw [c25b0]) | skip)
                      by_cases c26 : t263 > 10006
                      · rw [if_pos c26] at H
                        have c26b0 : decide (10006 < t263) = true := decide_eq_true c26
                        clear c26
                        have H' := Aside0.mk H
                        clear H
                        go_wp2
                        go_meet
                        case rel => exact ⟨_, (true), (by first | rfl | (simp; done) | (simp [*]; done)), H', ⟨by have := HJ4.out; have := HJ16.out; first | omega | exact Nat.le_refl _⟩, ⟨by (with_reducible repeat (first | apply Kd.R_alloc | apply Kd.R_drewN | apply Kd.R_drew)); exact HO_12.out⟩, ⟨by (with_reducible repeat (first | apply Kd.R_alloc | apply Kd.R_drewN | apply Kd.R_drew)); exact HO_15.out⟩, ⟨by (with_reducible repeat (first | refine blk_drewN ?_ _ | refine blk_drew ?_ | refine blk_alloc ?_ _)); exact BK243.out⟩, ⟨by repeat (first | (with_reducible first | exact HB.out | apply below_alloc | apply pw_below_drewN | apply below_drew1 | refine below_set ?_ GE243.out) | exact HB.out)⟩⟩
                      · rw [if_neg c26] at H
                        have c26b0 : decide (10006 < t263) = false := decide_eq_false c26
                        clear c26
                        have H' := Aside0.mk H
                        clear H
                        go_wp2
                        go_meet
                        case rel => exact ⟨_, (decide ((t264.size : Int) > 0)), (by first | rfl | (simp; done) | (simp [*]; done)), H', ⟨by have := HJ4.out; have := HJ16.out; first | omega | exact Nat.le_refl _⟩, ⟨by (with_reducible repeat (first | apply Kd.R_alloc | apply Kd.R_drewN | apply Kd.R_drew)); exact HO_12.out⟩, ⟨by (with_reducible repeat (first | apply Kd.R_alloc | apply Kd.R_drewN | apply Kd.R_drew)); exact HO_15.out⟩, ⟨by (with_reducible repeat (first | refine blk_drewN ?_ _ | refine blk_drew ?_ | refine blk_alloc ?_ _)); exact BK243.out⟩, ⟨by repeat (first | (with_reducible first | exact HB.out | apply below_alloc | apply pw_below_drewN | apply below_drew1 | refine below_set ?_ GE243.out) | exact HB.out)⟩⟩
                    · rw [if_neg c25] at H
                      have c25b0 : (t265 == 0) = false := beq_eq_false_iff_ne.mpr c25
                      have c25b1 : (t265 != 0) = true := bne_iff_ne.mpr c25
                      (first | rw [c25b0] | (simp only [i64_w, i32_w]; rw [c25b0]) | skip)
                      have H' := Aside0.mk H
                      clear H
                      go_wp2
                      go_meet
                      case rel => exact ⟨_, (true), (by first | rfl | (simp; done) | (simp [*]; done)), H', ⟨by have := HJ4.out; have := HJ16.out; first | omega | exact Nat.le_refl _⟩, ⟨by (with_reducible repeat (first | apply Kd.R_alloc | apply Kd.R_drewN | apply Kd.R_drew)); exact HO_12.out⟩, ⟨by (with_reducible repeat (first | apply Kd.R_alloc | apply Kd.R_drewN | apply Kd.R_drew)); exact HO_15.out⟩, ⟨by (with_reducible repeat (first | refine blk_drewN ?_ _ | refine blk_drew ?_ | refine blk_alloc ?_ _)); exact BK243.out⟩, ⟨by repeat (first | (with_reducible first | exact HB.out | apply below_alloc | apply pw_below_drewN | apply below_drew1 | refine below_set ?_ GE243.out) | exact HB.out)⟩⟩
                  case rest =>
                    clear HC24
                    try clear c1
                    try clear c2
                    try clear p2
                    try clear c7
                    try clear c7b0
                    try clear c7b1
                    try clear c8
                    try clear c8b0
                    try clear c8b1
                    try clear c9
                    try clear c9b0
                    try clear c10
                    try clear c13
                    try clear c13b0
                    try clear c13b1
                    try clear c15
                    try clear c15b0
                    try clear c15b1
                    try clear c20
                    try clear c20b0
                    try clear c20b1
                    try clear c21
                    try clear c25
                    try clear c25b0
                    try clear c25b1
                    try clear c26
                    try clear c26b0
                    try clear hcz11_0
                    try clear hcz11_1
                    try clear hcz11_2
                    try clear hcz11_3
                    try clear hcz11_4
                    try clear hcz11_5
                    try clear hcz22_0
                    try clear hcz22_1
                    try clear hcz22_2
                    try clear hcz22_3
                    try clear hcz22_4
                    try clear hcz22_5
                    try clear hfz11_0
                    try clear hfz11_1
                    try clear hfz11_2
                    try clear hfz11_3
                    try clear hfz11_4
                    try clear hfz11_5
                    try clear hfz22_0
                    try clear hfz22_1
                    try clear hfz22_2
                    try clear hfz22_3
                    try clear hfz22_4
                    try clear hfz22_5
                    try clear p2
                    obtain ⟨kq, x103_23, rfl, HA, HJ23, HO_12, HO_15, BK243, HB⟩ := hcut
                    cases kq with
                    | zero => exact absurd HA.out (by simp [selvedgeref08_Take.j2])
                    | succ kj23 =>
                      have H := HA.out
                      clear HA
                      simp only [selvedgeref08_Take.j2] at H
                      by_cases c27 : x103_23 = true
                      · subst c27
                        have H1 : (some (0, 0, ([] : List (S24)), ([] : List ByteArray), 0, 0, 3)) = some (r1, r2, r3, r4, r5, r6, r7) := by rw [if_pos rfl] at H; exact H
                        clear H
                        have H := H1
                        clear H1
                        simp only [Option.some.injEq, Prod.mk.injEq] at H
                        obtain ⟨rfl, rfl, rfl, rfl, rfl, rfl, rfl⟩ := H
                        have hcz28_0 : wc.cell? ⟨gb243, 0, none⟩ = some (.int .i64 0) := (blk_cell BK243.out 0).trans rfl
                        have hcz28_1 : wc.cell? ⟨gb243, 1, none⟩ = some (.int .i64 0) := (blk_cell BK243.out 1).trans rfl
                        have hcz28_2 : wc.cell? ⟨gb243, 2, none⟩ = some (.slice none 0 0) := (blk_cell BK243.out 2).trans rfl
                        have hcz28_3 : wc.cell? ⟨gb243, 3, none⟩ = some (.slice none 0 0) := (blk_cell BK243.out 3).trans rfl
                        have hcz28_4 : wc.cell? ⟨gb243, 4, none⟩ = some (.int .i64 0) := (blk_cell BK243.out 4).trans rfl
                        have hcz28_5 : wc.cell? ⟨gb243, 5, none⟩ = some (.int .i64 0) := (blk_cell BK243.out 5).trans rfl
                        have hfz28_0 := blk_frozen BK243.out 0
                        have hfz28_1 := blk_frozen BK243.out 1
                        have hfz28_2 := blk_frozen BK243.out 2
                        have hfz28_3 := blk_frozen BK243.out 3
                        have hfz28_4 := blk_frozen BK243.out 4
                        have hfz28_5 := blk_frozen BK243.out 5
                        go_wp2
                        refine bodyPost_ret (results_ct rfl _ _ gb243 38 #[.int .i64 0, .int .i64 0, .slice none 0 0, .slice none 0 0, .int .i64 0, .int .i64 0] (0, 0) _ rfl (by (with_reducible repeat (first | refine blk_drewN ?_ _ | refine blk_drew ?_ | refine blk_alloc ?_ _)); refine blk_put (cs := #[.int .i64 0, .int .i64 0, .slice none 0 0, .slice none 0 0, .int .i64 0, .int .i64 0]) ?_ 5 _ rfl; (with_reducible repeat (first | refine blk_drewN ?_ _ | refine blk_drew ?_ | refine blk_alloc ?_ _)); refine blk_put (cs := #[.int .i64 0, .int .i64 0, .slice none 0 0, .slice none 0 0, .int .i64 0, .int .i64 0]) ?_ 4 _ rfl; (with_reducible repeat (first | refine blk_drewN ?_ _ | refine blk_drew ?_ | refine blk_alloc ?_ _)); refine blk_put (cs := #[.int .i64 0, .int .i64 0, .slice none 0 0, .slice none 0 0, .int .i64 0, .int .i64 0]) ?_ 3 _ rfl; (with_reducible repeat (first | refine blk_drewN ?_ _ | refine blk_drew ?_ | refine blk_alloc ?_ _)); refine blk_put (cs := #[.int .i64 0, .int .i64 0, .slice none 0 0, .slice none 0 0, .int .i64 0, .int .i64 0]) ?_ 2 _ rfl; (with_reducible repeat (first | refine blk_drewN ?_ _ | refine blk_drew ?_ | refine blk_alloc ?_ _)); refine blk_put (cs := #[.int .i64 0, .int .i64 0, .slice none 0 0, .slice none 0 0, .int .i64 0, .int .i64 0]) ?_ 1 _ rfl; (with_reducible repeat (first | refine blk_drewN ?_ _ | refine blk_drew ?_ | refine blk_alloc ?_ _)); refine blk_put (cs := #[.int .i64 0, .int .i64 0, .slice none 0 0, .slice none 0 0, .int .i64 0, .int .i64 0]) ?_ 0 _ rfl; (with_reducible repeat (first | refine blk_drewN ?_ _ | refine blk_drew ?_ | refine blk_alloc ?_ _)); exact BK243.out) Try.underlying38 rfl (by kernel_rfl)) rfl ?_
                        exact ⟨_, _, by first | rfl | (simp [errW_none, errW_some] <;> rfl) | (simp [*, errW_none, errW_some] <;> rfl), by first | exact Kd.S_nil _ _ _ _ _ | exact Kd.N_nil _ _ _ _ _ | exact Kd.V_nil _ _ _ _ _ | exact Kd.Q_nil _ _ _ _ _ | exact Kd.R_nil _ _ _ _ _, by first | exact Kd.R_nil _ _ _ _ _ | exact Kd.N_nil _ _ _ _ _ | exact Kd.V_nil _ _ _ _ _ | exact Kd.Q_nil _ _ _ _ _ | exact Kd.S_nil _ _ _ _ _, by repeat (first | (with_reducible first | exact HB.out | apply below_alloc | apply pw_below_drewN | apply below_drew1 | refine below_set ?_ GE243.out) | exact HB.out)⟩
                      · replace c27 := Bool.eq_false_iff.mpr c27
                        subst c27
                        have H1 : (selvedgeref08_Take.l0 kj23 a1 t250 0 (wrap64 (t244)) (wrap64 (t247)) ([] : List (S24)) t255 (wrap64 (t260)) (wrap64 (t263))) = some (r1, r2, r3, r4, r5, r6, r7) := by rw [if_neg (show ¬ (false = true) by decide)] at H; exact H
                        clear H
                        have H := H1
                        clear H1
                        have H' := Aside0.mk H
                        clear H
                        obtain ⟨Ao29, co29, eo29⟩ := Kd.R_slice HO_15.out
                        subst eo29
                        go_wp2_with (first | ((with_reducible refine gate_dst (N := 24) rfl ?_); (try (refine gate_guard (by rfl) ?_; dsimp only)); refine box_event ?hg (N := 24) ?hd (cs := #[.int .i64 0, .int .i64 0, .slice none 0 0, .slice none 0 0, .int .i64 0, .int .i64 0]) (t := 38) ?hr ?_; (case hd => rfl); (case hg => rfl); (case hr => first | (go_simp; done) | (go_simp; rfl)); intro gb266 hg w30 hbox hb; have n0_ := Aside0.mk (Kd.R_below (by (with_reducible repeat (first | apply Kd.R_alloc | apply Kd.R_drewN | apply Kd.R_drew)); exact HO_12.out) hb); have n1_ := Aside0.mk (Kd.R_below (by (with_reducible repeat (first | apply Kd.R_alloc | apply Kd.R_drewN | apply Kd.R_drew)); exact HO_15.out) hb); have n2_ := Aside0.mk (blk_below (g := gb243) (o := .cells #[.int .i64 0, .int .i64 0, .slice none 0 0, .slice none 0 0, .int .i64 0, .int .i64 0] 38 (0, 0)) (by (with_reducible repeat (first | refine blk_drewN ?_ _ | refine blk_drew ?_ | refine blk_alloc ?_ _)); exact BK243.out) hb); have n3_ := Aside0.mk (below_step (by repeat (first | (with_reducible first | exact HB.out | apply below_alloc | apply pw_below_drewN | apply below_drew1 | refine below_set ?_ GE243.out) | exact HB.out)) hb); have n4_ := Aside0.mk (hbox); have n5_ := Aside0.mk ((by rw [hg]; exact (below_size (by repeat (first | (with_reducible first | exact HB.out | apply below_alloc | apply pw_below_drewN | apply below_drew1 | refine below_set ?_ GE243.out) | exact HB.out))) : w.heap.size ≤ gb266)); have n6_ := Aside0.mk ((by rw [hg]; exact (below_size (by repeat (first | (with_reducible first | exact HB.out | apply below_alloc | apply pw_below_drewN | apply below_drew1 | refine below_set ?_ GE243.out) | exact HB.out))) : w.heap.size ≤ gb266)); have n7_ := Aside0.mk ((by rw [hg]; exact Nat.ne_of_lt (blk_lt (g := gb243) (o := .cells #[.int .i64 0, .int .i64 0, .slice none 0 0, .slice none 0 0, .int .i64 0, .int .i64 0] 38 (0, 0)) (by (with_reducible repeat (first | refine blk_drewN ?_ _ | refine blk_drew ?_ | refine blk_alloc ?_ _)); exact BK243.out)) : gb243 ≠ gb266)); have n8_ := Aside0.mk ((by rw [hg]; exact Nat.ne_of_gt (blk_lt (g := gb243) (o := .cells #[.int .i64 0, .int .i64 0, .slice none 0 0, .slice none 0 0, .int .i64 0, .int .i64 0] 38 (0, 0)) (by (with_reducible repeat (first | refine blk_drewN ?_ _ | refine blk_drew ?_ | refine blk_alloc ?_ _)); exact BK243.out)) : gb266 ≠ gb243)); clear HO_12; clear HO_15; clear BK243; clear HB; have HO_12 := n0_; have HO_15 := n1_; have BK243 := n2_; have HB := n3_; have BK266 := n4_; have GW266 := n5_; have GE266 := n6_; have NB243_266 := n7_; have NB266_243 := n8_; clear n0_ n1_ n2_ n3_ n4_ n5_ n6_ n7_ n8_; clear hb hbox hg; have hnb31 := NB266_243.out; have hnc31 := NB243_266.out; have hcz32_0 : w30.cell? ⟨gb266, 0, none⟩ = some (.int .i64 0) := (blk_cell BK266.out 0).trans rfl; have hcz32_1 : w30.cell? ⟨gb266, 1, none⟩ = some (.int .i64 0) := (blk_cell BK266.out 1).trans rfl; have hcz32_2 : w30.cell? ⟨gb266, 2, none⟩ = some (.slice none 0 0) := (blk_cell BK266.out 2).trans rfl; have hcz32_3 : w30.cell? ⟨gb266, 3, none⟩ = some (.slice none 0 0) := (blk_cell BK266.out 3).trans rfl; have hcz32_4 : w30.cell? ⟨gb266, 4, none⟩ = some (.int .i64 0) := (blk_cell BK266.out 4).trans rfl; have hcz32_5 : w30.cell? ⟨gb266, 5, none⟩ = some (.int .i64 0) := (blk_cell BK266.out 5).trans rfl; have hfz32_0 := blk_frozen BK266.out 0; have hfz32_1 := blk_frozen BK266.out 1; have hfz32_2 := blk_frozen BK266.out 2; have hfz32_3 := blk_frozen BK266.out 3; have hfz32_4 := blk_frozen BK266.out 4; have hfz32_5 := blk_frozen BK266.out 5))
                        go_loopg [25] kj23 (fun kq v25 w' => ∃ (x25_4 : Int) (x244000_4 : Int) (x244001_4 : Int) (x244004_4 : Int) (x244005_4 : Int) (x267002_4 : List (S24)) (u267002 : Value), v25 = .int .i64 x25_4 ∧ Aside0 (selvedgeref08_Take.l0 kq a1 t250 x25_4 (wrap64 (t244)) (wrap64 (t247)) x267002_4 t255 (wrap64 (t260)) (wrap64 (t263)) = some (r1, r2, r3, r4, r5, r6, r7)) ∧ Aside0 (kq ≤ kj23) ∧ Aside0 (Kd.R Kd.string 9 w' w.heap.size (fun k_ => some k_ ≠ ((.slice Ao29 t255.length co29) : Value).ownBlock) v253 t250) ∧ Aside0 (Kd.S k24 24 w' w.heap.size (fun k_ => some k_ ≠ (v253 : Value).ownBlock ∧ some k_ ≠ ((.slice Ao29 t255.length co29) : Value).ownBlock) u267002 x267002_4) ∧ Aside0 (Kd.R Kd.string 9 w' w.heap.size (fun k_ => some k_ ≠ (v253 : Value).ownBlock) (.slice Ao29 t255.length co29) t255) ∧ Aside0 (w'.heap[gb243]? = some (.cells #[.int .i64 x244000_4, .int .i64 x244001_4, (.slice none 0 0), (.slice none 0 0), .int .i64 x244004_4, .int .i64 x244005_4] 38 (0, 0))) ∧ Aside0 (w'.heap[gb266]? = some (.cells #[.int .i64 (wrap64 (t244)), .int .i64 (wrap64 (t247)), u267002, (.slice Ao29 t255.length co29), .int .i64 (wrap64 (t260)), .int .i64 (wrap64 (t263))] 38 (0, 0))) ∧ Aside0 (Below w.heap.size w w'))
                        case atStart => exact ⟨(0), (0), (0), (0), (0), (([] : List (S24))), (.slice none 0 0), (by first | rfl | (simp; done) | (simp [*]; done)), H', ⟨Nat.le_refl _⟩, ⟨by (with_reducible repeat (first | apply Kd.R_alloc | apply Kd.R_drewN | apply Kd.R_drew)); exact Kd.R_mono (Kd.R_far (p := ⟨gb266, 5, none⟩) (Kd.R_far (p := ⟨gb266, 4, none⟩) (Kd.R_far (p := ⟨gb266, 3, none⟩) (Kd.R_far (p := ⟨gb266, 2, none⟩) (Kd.R_far (p := ⟨gb266, 1, none⟩) (Kd.R_far (p := ⟨gb266, 0, none⟩) (Kd.R_types HO_12.out BK266.out (by decide)) (fun _ hk => hk.2) (.int .i64 (wrap64 (t244)))) (fun _ hk => hk.2) (.int .i64 (wrap64 (t247)))) (fun _ hk => hk.2) (.slice none 0 0)) (fun _ hk => hk.2) (.slice Ao29 t255.length co29)) (fun _ hk => hk.2) (.int .i64 (wrap64 (t260)))) (fun _ hk => hk.2) (.int .i64 (wrap64 (t263)))) (fun _ hk => hk.1)⟩, ⟨by first | exact Kd.S_nil _ _ _ _ _ | exact Kd.N_nil _ _ _ _ _ | exact Kd.V_nil _ _ _ _ _ | exact Kd.Q_nil _ _ _ _ _ | exact Kd.R_nil _ _ _ _ _⟩, ⟨by (with_reducible repeat (first | apply Kd.R_alloc | apply Kd.R_drewN | apply Kd.R_drew)); exact Kd.R_mono (Kd.R_far (p := ⟨gb266, 5, none⟩) (Kd.R_far (p := ⟨gb266, 4, none⟩) (Kd.R_far (p := ⟨gb266, 3, none⟩) (Kd.R_far (p := ⟨gb266, 2, none⟩) (Kd.R_far (p := ⟨gb266, 1, none⟩) (Kd.R_far (p := ⟨gb266, 0, none⟩) (Kd.R_types HO_15.out BK266.out (by decide)) (fun _ hk => hk.2) (.int .i64 (wrap64 (t244)))) (fun _ hk => hk.2) (.int .i64 (wrap64 (t247)))) (fun _ hk => hk.2) (.slice none 0 0)) (fun _ hk => hk.2) (.slice Ao29 t255.length co29)) (fun _ hk => hk.2) (.int .i64 (wrap64 (t260)))) (fun _ hk => hk.2) (.int .i64 (wrap64 (t263)))) (fun _ hk => hk.1)⟩, ⟨by (with_reducible repeat (first | refine blk_drewN ?_ _ | refine blk_drew ?_ | refine blk_alloc ?_ _)); refine blk_far ?_ NB243_266.out _; (with_reducible repeat (first | refine blk_drewN ?_ _ | refine blk_drew ?_ | refine blk_alloc ?_ _)); refine blk_far ?_ NB243_266.out _; (with_reducible repeat (first | refine blk_drewN ?_ _ | refine blk_drew ?_ | refine blk_alloc ?_ _)); refine blk_far ?_ NB243_266.out _; (with_reducible repeat (first | refine blk_drewN ?_ _ | refine blk_drew ?_ | refine blk_alloc ?_ _)); refine blk_far ?_ NB243_266.out _; (with_reducible repeat (first | refine blk_drewN ?_ _ | refine blk_drew ?_ | refine blk_alloc ?_ _)); refine blk_far ?_ NB243_266.out _; (with_reducible repeat (first | refine blk_drewN ?_ _ | refine blk_drew ?_ | refine blk_alloc ?_ _)); refine blk_far ?_ NB243_266.out _; (with_reducible repeat (first | refine blk_drewN ?_ _ | refine blk_drew ?_ | refine blk_alloc ?_ _)); exact BK243.out⟩, ⟨by (with_reducible repeat (first | refine blk_drewN ?_ _ | refine blk_drew ?_ | refine blk_alloc ?_ _)); refine blk_put (cs := #[.int .i64 (wrap64 (t244)), .int .i64 (wrap64 (t247)), .slice none 0 0, .slice Ao29 t255.length co29, .int .i64 (wrap64 (t260)), .int .i64 0]) ?_ 5 _ rfl; (with_reducible repeat (first | refine blk_drewN ?_ _ | refine blk_drew ?_ | refine blk_alloc ?_ _)); refine blk_put (cs := #[.int .i64 (wrap64 (t244)), .int .i64 (wrap64 (t247)), .slice none 0 0, .slice Ao29 t255.length co29, .int .i64 0, .int .i64 0]) ?_ 4 _ rfl; (with_reducible repeat (first | refine blk_drewN ?_ _ | refine blk_drew ?_ | refine blk_alloc ?_ _)); refine blk_put (cs := #[.int .i64 (wrap64 (t244)), .int .i64 (wrap64 (t247)), .slice none 0 0, .slice none 0 0, .int .i64 0, .int .i64 0]) ?_ 3 _ rfl; (with_reducible repeat (first | refine blk_drewN ?_ _ | refine blk_drew ?_ | refine blk_alloc ?_ _)); refine blk_put (cs := #[.int .i64 (wrap64 (t244)), .int .i64 (wrap64 (t247)), .slice none 0 0, .slice none 0 0, .int .i64 0, .int .i64 0]) ?_ 2 _ rfl; (with_reducible repeat (first | refine blk_drewN ?_ _ | refine blk_drew ?_ | refine blk_alloc ?_ _)); refine blk_put (cs := #[.int .i64 (wrap64 (t244)), .int .i64 0, .slice none 0 0, .slice none 0 0, .int .i64 0, .int .i64 0]) ?_ 1 _ rfl; (with_reducible repeat (first | refine blk_drewN ?_ _ | refine blk_drew ?_ | refine blk_alloc ?_ _)); refine blk_put (cs := #[.int .i64 0, .int .i64 0, .slice none 0 0, .slice none 0 0, .int .i64 0, .int .i64 0]) ?_ 0 _ rfl; (with_reducible repeat (first | refine blk_drewN ?_ _ | refine blk_drew ?_ | refine blk_alloc ?_ _)); exact BK266.out⟩, ⟨by repeat (first | (with_reducible first | exact HB.out | apply below_alloc | apply pw_below_drewN | apply below_drew1 | refine below_set ?_ GE243.out | refine below_set ?_ GE266.out) | exact HB.out)⟩⟩
                        case round =>
                          clear H'
                          try clear c1
                          try clear c2
                          try clear p2
                          try clear c3
                          try clear p6
                          try clear c7
                          try clear c7b0
                          try clear c7b1
                          try clear c8
                          try clear c8b0
                          try clear c8b1
                          try clear c9
                          try clear c9b0
                          try clear c10
                          try clear c13
                          try clear c13b0
                          try clear c13b1
                          try clear c15
                          try clear c15b0
                          try clear c15b1
                          try clear c20
                          try clear c20b0
                          try clear c20b1
                          try clear c21
                          try clear c25
                          try clear c25b0
                          try clear c25b1
                          try clear c26
                          try clear c26b0
                          try clear c27
                          try clear c31
                          try clear hcz11_0
                          try clear hcz11_1
                          try clear hcz11_2
                          try clear hcz11_3
                          try clear hcz11_4
                          try clear hcz11_5
                          try clear hcz22_0
                          try clear hcz22_1
                          try clear hcz22_2
                          try clear hcz22_3
                          try clear hcz22_4
                          try clear hcz22_5
                          try clear hcz28_0
                          try clear hcz28_1
                          try clear hcz28_2
                          try clear hcz28_3
                          try clear hcz28_4
                          try clear hcz28_5
                          try clear hcz32_0
                          try clear hcz32_1
                          try clear hcz32_2
                          try clear hcz32_3
                          try clear hcz32_4
                          try clear hcz32_5
                          try clear hfz11_0
                          try clear hfz11_1
                          try clear hfz11_2
                          try clear hfz11_3
                          try clear hfz11_4
                          try clear hfz11_5
                          try clear hfz22_0
                          try clear hfz22_1
                          try clear hfz22_2
                          try clear hfz22_3
                          try clear hfz22_4
                          try clear hfz22_5
                          try clear hfz28_0
                          try clear hfz28_1
                          try clear hfz28_2
                          try clear hfz28_3
                          try clear hfz28_4
                          try clear hfz28_5
                          try clear hfz32_0
                          try clear hfz32_1
                          try clear hfz32_2
                          try clear hfz32_3
                          try clear hfz32_4
                          try clear hfz32_5
                          try clear p2
                          obtain ⟨x25_4, x244000_4, x244001_4, x244004_4, x244005_4, x267002_4, u267002, rfl, HA, HK4, HO_12, HO_267002, HO_267003, BK243, BK266, HB⟩ := hrel
                          cases gk with
                          | zero => exact absurd HA.out (by simp [selvedgeref08_Take.l0])
                          | succ k4 =>
                            have H := HA.out
                            clear HA
                            simp only [selvedgeref08_Take.l0] at H
                            by_cases c33 : x25_4 < (t250.length : Int)
                            · rw [if_pos c33] at H
                              have c33b0 : decide (x25_4 < (t250.length : Int)) = true := decide_eq_true c33
                              clear c33
                              by_cases c34 : 0 ≤ x25_4
                              · rw [if_pos c34] at H
                                have c34b0 : decide (0 ≤ x25_4) = true := decide_eq_true c34
                                clear c34
                                replace H := Option.bind_eq_some_iff.mp H
                                obtain ⟨⟨t268, t269, t270, t273⟩, A350, H⟩ := H
                                replace H : (if t273 = 0 then (if x267002_4.length < 3518437208883 then (selvedgeref08_Take.l0 k4 a1 t250 (wrap64 (x25_4 + 1)) (wrap64 (t244)) (wrap64 (t247)) (x267002_4 ++ [(⟨t268, t269, t270⟩ : S24)]) t255 (wrap64 (t260)) (wrap64 (t263))) else (none)) else (some (0, 0, ([] : List (S24)), ([] : List ByteArray), 0, 0, 3))) = some (r1, r2, r3, r4, r5, r6, r7) := H
                                have A35 := Aside0.mk A350
                                clear A350
                                by_cases c36 : t273 = 0
                                · rw [if_pos c36] at H
                                  have c36b0 : (t273 == 0) = true := beq_iff_eq.mpr c36
                                  have c36b1 : (t273 != 0) = false := bne_eq_false_iff_eq.mpr c36
                                  clear c36
                                  by_cases c37 : x267002_4.length < 3518437208883
                                  · rw [if_pos c37] at H
                                    have LMc37 := Aside0.mk c37
                                    clear c37
                                    obtain ⟨y275, hy275⟩ : ∃ y_ : List (S24), y_ = (x267002_4 ++ [(⟨t268, t269, t270⟩ : S24)]) := ⟨_, rfl⟩
                                    replace H : (selvedgeref08_Take.l0 k4 a1 t250 (wrap64 (x25_4 + 1)) (wrap64 (t244)) (wrap64 (t247)) y275 t255 (wrap64 (t260)) (wrap64 (t263))) = some (r1, r2, r3, r4, r5, r6, r7) := by first | (rw [hy275]; with_reducible exact H) | (have H2_ := (Option.bind_some _ _).symm.trans H; rw [hy275]; with_reducible exact H2_) | (have H2_ := (Option.bind_some _ _).symm.trans H; with_reducible exact H2_) | with_reducible exact H | (rw [hy275]; exact H) | exact H
                                    have Ny275 := Aside0.mk hy275
                                    clear hy275
                                    have H' := Aside0.mk H
                                    clear H
                                    obtain ⟨Ao38, co38, eo38⟩ := Kd.R_slice HO_12.out
                                    subst eo38
                                    have p267 : 0 ≤ (x25_4 : Int) := of_decide_eq_true (by first | (with_reducible assumption) | assumption)
                                    have q267 : x25_4 < (t250.length : Int) := of_decide_eq_true (by first | (with_reducible assumption) | assumption)
                                    obtain ⟨ad267, e267, hx267_0⟩ := Kd.at_string (Kd.R_reads' HO_12.out).2.2 x25_4 p267 q267
                                    cases e267
                                    replace p267 := eq_true p267
                                    replace q267 := eq_true q267
                                    go_wp2_with (first | ((with_reducible refine gate_callee (f := 28) rfl ?_); refine goesL_ (some 127) rfl rfl Try.func28 (by kernel_rfl) rfl #[.string (rdOf ByteArray.empty t250 x25_4)] rfl (by (try simp only [List.map_toArray, List.map_cons, List.map_nil]); first | done | rfl | (simp only [List.length_drop, List.length_take]; rfl)) ?_; (with_reducible refine (selvedgeref07_Take.calls k4 (rdOf ByteArray.empty t250 x25_4) t268 t269 t270 t273 _ A35.out).mono ?_); rintro e w39 ⟨v271, rfl, ho0, hb⟩; refine ⟨_, rfl, ?_⟩; have n0_ := Aside0.mk (Kd.R_elder' (by (with_reducible repeat (first | apply Kd.R_alloc | apply Kd.R_drewN | apply Kd.R_drew)); exact HO_12.out) (Kd.R_base ho0) hb); have n1_ := Aside0.mk (Kd.S_elder' (by (with_reducible repeat (first | apply Kd.S_alloc | apply Kd.S_drewN | apply Kd.S_drew)); exact HO_267002.out) (Kd.R_base ho0) hb); have n2_ := Aside0.mk (Kd.R_elder' (by (with_reducible repeat (first | apply Kd.R_alloc | apply Kd.R_drewN | apply Kd.R_drew)); exact HO_267003.out) (Kd.R_base ho0) hb); have n3_ := Aside0.mk (Kd.R_lower (Kd.R_new' (Kd.R_new' ho0 (Kd.R_lt (by (with_reducible repeat (first | apply Kd.R_alloc | apply Kd.R_drewN | apply Kd.R_drew)); exact HO_12.out))) (Kd.R_lt (by (with_reducible repeat (first | apply Kd.R_alloc | apply Kd.R_drewN | apply Kd.R_drew)); exact HO_267003.out))) (below_size (by repeat (first | (with_reducible first | exact HB.out | apply below_alloc | apply pw_below_drewN | apply below_drew1 | refine below_set ?_ GE243.out | refine below_set ?_ GE266.out) | exact HB.out)))); have n4_ := Aside0.mk (blk_below (g := gb243) (o := .cells #[.int .i64 x244000_4, .int .i64 x244001_4, .slice none 0 0, .slice none 0 0, .int .i64 x244004_4, .int .i64 x244005_4] 38 (0, 0)) (by (with_reducible repeat (first | refine blk_drewN ?_ _ | refine blk_drew ?_ | refine blk_alloc ?_ _)); exact BK243.out) hb); have n5_ := Aside0.mk (blk_below (g := gb266) (o := .cells #[.int .i64 (wrap64 (t244)), .int .i64 (wrap64 (t247)), u267002, .slice Ao29 t255.length co29, .int .i64 (wrap64 (t260)), .int .i64 (wrap64 (t263))] 38 (0, 0)) (by (with_reducible repeat (first | refine blk_drewN ?_ _ | refine blk_drew ?_ | refine blk_alloc ?_ _)); exact BK266.out) hb); have n6_ := Aside0.mk (below_step (by repeat (first | (with_reducible first | exact HB.out | apply below_alloc | apply pw_below_drewN | apply below_drew1 | refine below_set ?_ GE243.out | refine below_set ?_ GE266.out) | exact HB.out)) hb); clear HO_12; clear HO_267002; clear HO_267003; clear BK243; clear BK266; clear HB; have HO_12 := n0_; have HO_267002 := n1_; have HO_267003 := n2_; have HO272 := n3_; have BK243 := n4_; have BK266 := n5_; have HB := n6_; clear n0_ n1_ n2_ n3_ n4_ n5_ n6_; (try clear hb); (try clear hb2); (try clear hk); (try clear hi); (try clear ho0)) | ((with_reducible refine gate_dst (N := 26) rfl ?_); (try (refine gate_guard (by rfl) ?_; dsimp only)); refine box_event ?hg (N := 26) ?hd (cs := #[.int .i64 0, .int .i64 0, .slice none 0 0]) (t := 24) ?hr ?_; (case hd => rfl); (case hg => rfl); (case hr => first | (go_simp; done) | (go_simp; rfl)); intro gb274 hg w40 hbox hb; have n0_ := Aside0.mk (Kd.R_below (by (with_reducible repeat (first | apply Kd.R_alloc | apply Kd.R_drewN | apply Kd.R_drew)); exact HO_12.out) hb); have n1_ := Aside0.mk (Kd.S_below (Kd.S_elderB (by (with_reducible repeat (first | apply Kd.S_alloc | apply Kd.S_drewN | apply Kd.S_drew)); exact HO_267002.out) gb274 (Nat.le_of_eq hg.symm)) hb); have n2_ := Aside0.mk (Kd.R_below (by (with_reducible repeat (first | apply Kd.R_alloc | apply Kd.R_drewN | apply Kd.R_drew)); exact HO_267003.out) hb); have n3_ := Aside0.mk (Kd.R_below (by (with_reducible repeat (first | apply Kd.R_alloc | apply Kd.R_drewN | apply Kd.R_drew)); exact HO272.out) hb); have n4_ := Aside0.mk (blk_below (g := gb243) (o := .cells #[.int .i64 x244000_4, .int .i64 x244001_4, .slice none 0 0, .slice none 0 0, .int .i64 x244004_4, .int .i64 x244005_4] 38 (0, 0)) (by (with_reducible repeat (first | refine blk_drewN ?_ _ | refine blk_drew ?_ | refine blk_alloc ?_ _)); exact BK243.out) hb); have n5_ := Aside0.mk (blk_below (g := gb266) (o := .cells #[.int .i64 (wrap64 (t244)), .int .i64 (wrap64 (t247)), u267002, .slice Ao29 t255.length co29, .int .i64 (wrap64 (t260)), .int .i64 (wrap64 (t263))] 38 (0, 0)) (by (with_reducible repeat (first | refine blk_drewN ?_ _ | refine blk_drew ?_ | refine blk_alloc ?_ _)); exact BK266.out) hb); have n6_ := Aside0.mk (below_step (by repeat (first | (with_reducible first | exact HB.out | apply below_alloc | apply pw_below_drewN | apply below_drew1 | refine below_set ?_ GE243.out | refine below_set ?_ GE266.out) | exact HB.out)) hb); have n7_ := Aside0.mk (hbox); have n8_ := Aside0.mk ((by rw [hg]; exact (below_size (by repeat (first | (with_reducible first | exact HB.out | apply below_alloc | apply pw_below_drewN | apply below_drew1 | refine below_set ?_ GE243.out | refine below_set ?_ GE266.out) | exact HB.out))) : w.heap.size ≤ gb274)); have n9_ := Aside0.mk ((by rw [hg]; exact (below_size (by repeat (first | (with_reducible first | exact HB.out | apply below_alloc | apply pw_below_drewN | apply below_drew1 | refine below_set ?_ GE243.out | refine below_set ?_ GE266.out) | exact HB.out))) : w.heap.size ≤ gb274)); have n10_ := Aside0.mk ((by rw [hg]; exact Nat.ne_of_lt (blk_lt (g := gb243) (o := .cells #[.int .i64 x244000_4, .int .i64 x244001_4, .slice none 0 0, .slice none 0 0, .int .i64 x244004_4, .int .i64 x244005_4] 38 (0, 0)) (by (with_reducible repeat (first | refine blk_drewN ?_ _ | refine blk_drew ?_ | refine blk_alloc ?_ _)); exact BK243.out)) : gb243 ≠ gb274)); have n11_ := Aside0.mk ((by rw [hg]; exact Nat.ne_of_gt (blk_lt (g := gb243) (o := .cells #[.int .i64 x244000_4, .int .i64 x244001_4, .slice none 0 0, .slice none 0 0, .int .i64 x244004_4, .int .i64 x244005_4] 38 (0, 0)) (by (with_reducible repeat (first | refine blk_drewN ?_ _ | refine blk_drew ?_ | refine blk_alloc ?_ _)); exact BK243.out)) : gb274 ≠ gb243)); have n12_ := Aside0.mk ((by rw [hg]; exact Nat.ne_of_lt (blk_lt (g := gb266) (o := .cells #[.int .i64 (wrap64 (t244)), .int .i64 (wrap64 (t247)), u267002, .slice Ao29 t255.length co29, .int .i64 (wrap64 (t260)), .int .i64 (wrap64 (t263))] 38 (0, 0)) (by (with_reducible repeat (first | refine blk_drewN ?_ _ | refine blk_drew ?_ | refine blk_alloc ?_ _)); exact BK266.out)) : gb266 ≠ gb274)); have n13_ := Aside0.mk ((by rw [hg]; exact Nat.ne_of_gt (blk_lt (g := gb266) (o := .cells #[.int .i64 (wrap64 (t244)), .int .i64 (wrap64 (t247)), u267002, .slice Ao29 t255.length co29, .int .i64 (wrap64 (t260)), .int .i64 (wrap64 (t263))] 38 (0, 0)) (by (with_reducible repeat (first | refine blk_drewN ?_ _ | refine blk_drew ?_ | refine blk_alloc ?_ _)); exact BK266.out)) : gb274 ≠ gb266)); clear HO_12; clear HO_267002; clear HO_267003; clear HO272; clear BK243; clear BK266; clear HB; have HO_12 := n0_; have HO_267002 := n1_; have HO_267003 := n2_; have HO272 := n3_; have BK243 := n4_; have BK266 := n5_; have HB := n6_; have BK274 := n7_; have GW274 := n8_; have GE274 := n9_; have NB243_274 := n10_; have NB274_243 := n11_; have NB266_274 := n12_; have NB274_266 := n13_; clear n0_ n1_ n2_ n3_ n4_ n5_ n6_ n7_ n8_ n9_ n10_ n11_ n12_ n13_; clear hb hbox hg; have hnb41 := NB274_243.out; have hnc41 := NB243_274.out; have hnb42 := NB274_266.out; have hnc42 := NB266_274.out; have hcz43_0 : w40.cell? ⟨gb274, 0, none⟩ = some (.int .i64 0) := (blk_cell BK274.out 0).trans rfl; have hcz43_1 : w40.cell? ⟨gb274, 1, none⟩ = some (.int .i64 0) := (blk_cell BK274.out 1).trans rfl; have hcz43_2 : w40.cell? ⟨gb274, 2, none⟩ = some (.slice none 0 0) := (blk_cell BK274.out 2).trans rfl; have hfz43_0 := blk_frozen BK274.out 0; have hfz43_1 := blk_frozen BK274.out 1; have hfz43_2 := blk_frozen BK274.out 2; obtain ⟨Ao44, co44, eo44⟩ := Kd.R_slice HO272.out; subst eo44) | ((with_reducible refine gate_store (t := 24) (p := 26) rfl ?_); refine store_event (t := 24) (p := 26) (v := ?vo_w45) (w1 := (((w40.setCell ⟨gb274, 0, none⟩ (.int .i64 t268)).setCell ⟨gb274, 1, none⟩ (.int .i64 t269)).setCell ⟨gb274, 2, none⟩ (.slice Ao44 t270.length co44))) ?hg ?ho ?hn ?hr ?_; (case ho => rfl); (case hg => rfl); (case hn => rfl); (case hr => first | (go_simp; done) | (go_simp; rfl)); intro w45 hw; have n0_ : Aside0 (Kd.R Kd.string 9 w45 w.heap.size (fun k_ => some k_ ≠ (.slice Ao29 t255.length co29 : Value).ownBlock ∧ some k_ ≠ (.slice Ao44 t270.length co44 : Value).ownBlock) (.slice (some ad267) t250.length co38) t250) := ⟨(by rw [hw]; exact (by (with_reducible repeat (first | apply Kd.R_alloc | apply Kd.R_drewN | apply Kd.R_drew)); exact Kd.R_mono (Kd.R_far (p := ⟨gb274, 2, none⟩) (Kd.R_far (p := ⟨gb274, 1, none⟩) (Kd.R_far (p := ⟨gb274, 0, none⟩) (Kd.R_types HO_12.out BK274.out (by decide)) (fun _ hk => hk.2) (.int .i64 t268)) (fun _ hk => hk.2) (.int .i64 t269)) (fun _ hk => hk.2) (.slice Ao44 t270.length co44)) (fun _ hk => ⟨hk.1.1, hk.1.2⟩)))⟩; have n1_ : Aside0 (Kd.S k24 24 w45 w.heap.size (fun k_ => some k_ ≠ (.slice (some ad267) t250.length co38 : Value).ownBlock ∧ some k_ ≠ (.slice Ao29 t255.length co29 : Value).ownBlock ∧ some k_ ≠ (.slice Ao44 t270.length co44 : Value).ownBlock ∧ k_ ≠ gb274) u267002 x267002_4) := ⟨(by rw [hw]; exact (by (with_reducible repeat (first | apply Kd.S_alloc | apply Kd.S_drewN | apply Kd.S_drew)); exact Kd.S_mono (Kd.S_far (p := ⟨gb274, 2, none⟩) (Kd.S_far (p := ⟨gb274, 1, none⟩) (Kd.S_far (p := ⟨gb274, 0, none⟩) (Kd.S_mono HO_267002.out (fun k_ hk => (⟨hk, hk.2⟩ : _ ∧ k_ ≠ gb274))) (fun _ hk => hk.2) (.int .i64 t268)) (fun _ hk => hk.2) (.int .i64 t269)) (fun _ hk => hk.2) (.slice Ao44 t270.length co44)) (fun _ hk => ⟨hk.1.1.1.1, ⟨hk.1.1.1.2, ⟨hk.1.1.2, hk.1.2⟩⟩⟩)))⟩; have n2_ : Aside0 (Kd.R Kd.string 9 w45 w.heap.size (fun k_ => some k_ ≠ (.slice (some ad267) t250.length co38 : Value).ownBlock ∧ some k_ ≠ (.slice Ao44 t270.length co44 : Value).ownBlock) (.slice Ao29 t255.length co29) t255) := ⟨(by rw [hw]; exact (by (with_reducible repeat (first | apply Kd.R_alloc | apply Kd.R_drewN | apply Kd.R_drew)); exact Kd.R_mono (Kd.R_far (p := ⟨gb274, 2, none⟩) (Kd.R_far (p := ⟨gb274, 1, none⟩) (Kd.R_far (p := ⟨gb274, 0, none⟩) (Kd.R_types HO_267003.out BK274.out (by decide)) (fun _ hk => hk.2) (.int .i64 t268)) (fun _ hk => hk.2) (.int .i64 t269)) (fun _ hk => hk.2) (.slice Ao44 t270.length co44)) (fun _ hk => ⟨hk.1.1, hk.1.2⟩)))⟩; have n3_ : Aside0 (Kd.R Kd.string 9 w45 w.heap.size (fun k_ => some k_ ≠ (.slice (some ad267) t250.length co38 : Value).ownBlock ∧ some k_ ≠ (.slice Ao29 t255.length co29 : Value).ownBlock) (.slice Ao44 t270.length co44) t270) := ⟨(by rw [hw]; exact (by (with_reducible repeat (first | apply Kd.R_alloc | apply Kd.R_drewN | apply Kd.R_drew)); exact Kd.R_mono (Kd.R_far (p := ⟨gb274, 2, none⟩) (Kd.R_far (p := ⟨gb274, 1, none⟩) (Kd.R_far (p := ⟨gb274, 0, none⟩) (Kd.R_types HO272.out BK274.out (by decide)) (fun _ hk => hk.2) (.int .i64 t268)) (fun _ hk => hk.2) (.int .i64 t269)) (fun _ hk => hk.2) (.slice Ao44 t270.length co44)) (fun _ hk => ⟨hk.1.1.2, hk.1.2⟩)))⟩; have n4_ : Aside0 (w45.heap[gb243]? = some (.cells #[.int .i64 x244000_4, .int .i64 x244001_4, .slice none 0 0, .slice none 0 0, .int .i64 x244004_4, .int .i64 x244005_4] 38 (0, 0))) := ⟨(by rw [hw]; exact (by (with_reducible repeat (first | refine blk_drewN ?_ _ | refine blk_drew ?_ | refine blk_alloc ?_ _)); refine blk_far ?_ NB243_274.out _; (with_reducible repeat (first | refine blk_drewN ?_ _ | refine blk_drew ?_ | refine blk_alloc ?_ _)); refine blk_far ?_ NB243_274.out _; (with_reducible repeat (first | refine blk_drewN ?_ _ | refine blk_drew ?_ | refine blk_alloc ?_ _)); refine blk_far ?_ NB243_274.out _; (with_reducible repeat (first | refine blk_drewN ?_ _ | refine blk_drew ?_ | refine blk_alloc ?_ _)); exact BK243.out))⟩; have n5_ : Aside0 (w45.heap[gb266]? = some (.cells #[.int .i64 (wrap64 (t244)), .int .i64 (wrap64 (t247)), u267002, .slice Ao29 t255.length co29, .int .i64 (wrap64 (t260)), .int .i64 (wrap64 (t263))] 38 (0, 0))) := ⟨(by rw [hw]; exact (by (with_reducible repeat (first | refine blk_drewN ?_ _ | refine blk_drew ?_ | refine blk_alloc ?_ _)); refine blk_far ?_ NB266_274.out _; (with_reducible repeat (first | refine blk_drewN ?_ _ | refine blk_drew ?_ | refine blk_alloc ?_ _)); refine blk_far ?_ NB266_274.out _; (with_reducible repeat (first | refine blk_drewN ?_ _ | refine blk_drew ?_ | refine blk_alloc ?_ _)); refine blk_far ?_ NB266_274.out _; (with_reducible repeat (first | refine blk_drewN ?_ _ | refine blk_drew ?_ | refine blk_alloc ?_ _)); exact BK266.out))⟩; have n6_ : Aside0 (w45.heap[gb274]? = some (.cells #[.int .i64 t268, .int .i64 t269, .slice Ao44 t270.length co44] 24 (0, 0))) := ⟨(by rw [hw]; exact (by (with_reducible repeat (first | refine blk_drewN ?_ _ | refine blk_drew ?_ | refine blk_alloc ?_ _)); refine blk_put (cs := #[.int .i64 t268, .int .i64 t269, .slice none 0 0]) ?_ 2 _ rfl; (with_reducible repeat (first | refine blk_drewN ?_ _ | refine blk_drew ?_ | refine blk_alloc ?_ _)); refine blk_put (cs := #[.int .i64 t268, .int .i64 0, .slice none 0 0]) ?_ 1 _ rfl; (with_reducible repeat (first | refine blk_drewN ?_ _ | refine blk_drew ?_ | refine blk_alloc ?_ _)); refine blk_put (cs := #[.int .i64 0, .int .i64 0, .slice none 0 0]) ?_ 0 _ rfl; (with_reducible repeat (first | refine blk_drewN ?_ _ | refine blk_drew ?_ | refine blk_alloc ?_ _)); exact BK274.out))⟩; have n7_ : Aside0 (Below w.heap.size w w45) := ⟨(by rw [hw]; exact (by repeat (first | (with_reducible first | exact HB.out | apply below_alloc | apply pw_below_drewN | apply below_drew1 | refine below_set ?_ GE243.out | refine below_set ?_ GE266.out | refine below_set ?_ GE274.out) | exact HB.out)))⟩; clear hw; clear HO_12; clear HO_267002; clear HO_267003; clear HO272; clear BK243; clear BK266; clear BK274; clear HB; have HO_12 := n0_; have HO_267002 := n1_; have HO_267003 := n2_; have HO272 := n3_; have BK243 := n4_; have BK266 := n5_; have BK274 := n6_; have HB := n7_; clear n0_ n1_ n2_ n3_ n4_ n5_ n6_ n7_; have hnb46 := NB266_243.out; have hnc46 := NB243_266.out; have hcz47_0 : w45.cell? ⟨gb266, 0, none⟩ = some (.int .i64 (wrap64 (t244))) := (blk_cell BK266.out 0).trans rfl; have hcz47_1 : w45.cell? ⟨gb266, 1, none⟩ = some (.int .i64 (wrap64 (t247))) := (blk_cell BK266.out 1).trans rfl; have hcz47_2 : w45.cell? ⟨gb266, 2, none⟩ = some (u267002) := (blk_cell BK266.out 2).trans rfl; have hcz47_3 : w45.cell? ⟨gb266, 3, none⟩ = some (.slice Ao29 t255.length co29) := (blk_cell BK266.out 3).trans rfl; have hcz47_4 : w45.cell? ⟨gb266, 4, none⟩ = some (.int .i64 (wrap64 (t260))) := (blk_cell BK266.out 4).trans rfl; have hcz47_5 : w45.cell? ⟨gb266, 5, none⟩ = some (.int .i64 (wrap64 (t263))) := (blk_cell BK266.out 5).trans rfl; have hfz47_0 := blk_frozen BK266.out 0; have hfz47_1 := blk_frozen BK266.out 1; have hfz47_2 := blk_frozen BK266.out 2; have hfz47_3 := blk_frozen BK266.out 3; have hfz47_4 := blk_frozen BK266.out 4; have hfz47_5 := blk_frozen BK266.out 5; have hcz48_0 : w45.cell? ⟨gb274, 0, none⟩ = some (.int .i64 t268) := (blk_cell BK274.out 0).trans rfl; have hcz48_1 : w45.cell? ⟨gb274, 1, none⟩ = some (.int .i64 t269) := (blk_cell BK274.out 1).trans rfl; have hcz48_2 : w45.cell? ⟨gb274, 2, none⟩ = some (.slice Ao44 t270.length co44) := (blk_cell BK274.out 2).trans rfl; have hfz48_0 := blk_frozen BK274.out 0; have hfz48_1 := blk_frozen BK274.out 1; have hfz48_2 := blk_frozen BK274.out 2) | ((with_reducible refine gate_builtin (b := .append) (xs := #[.tmp 134, .tmp 136]) rfl ?_); (try (refine gate_guard (by rfl) ?_; dsimp only)); at_builtin; refine Kd.S_append k24 (w0 := w) w.heap.size rfl (.tmp 134) (.tmp 136) 34 24 (.agg #[(.int .i64 0), (.int .i64 0), (.slice none 0 0)]) 40 rfl Try.underlying34 info24 rfl (by decide) (by omega) u267002 x267002_4 (⟨t268, t269, t270⟩ : S24) [.int .i64 t268, .int .i64 t269, .slice Ao44 t270.length co44] (fun k_ => some k_ ≠ (.slice (some ad267) t250.length co38 : Value).ownBlock ∧ some k_ ≠ (.slice Ao29 t255.length co29 : Value).ownBlock ∧ k_ ≠ gb274) (fun k_ => some k_ = (.slice Ao44 t270.length co44 : Value).ownBlock) rfl rfl ?aP (fun k_ hk_ => ((Kd.R_mono (ok' := fun k_ => ((fun k_ => some k_ ≠ (.slice (some ad267) t250.length co38 : Value).ownBlock ∧ some k_ ≠ (.slice Ao29 t255.length co29 : Value).ownBlock ∧ k_ ≠ gb274)) k_ ∧ some k_ ≠ (u267002 : Value).ownBlock) (Kd.R_types (Kd.R_apart' (HO272.out) (Kd.S_typed HO_267002.out) (by decide)) BK274.out (by decide)) (fun k_ hk => ⟨⟨hk.1.1.1, ⟨hk.1.1.2, hk.2⟩⟩, hk.1.2⟩))).1 k_ hk_.symm) ?aF ?aO ?aB ?aS ?aL ?_; (case aP => exact k24_mkM _ _ _ (⟨t268, t269, t270⟩ : S24) (Kd.R_mono (Kd.R_tight rfl (Kd.R_mono (ok' := fun k_ => ((fun k_ => some k_ ≠ (.slice (some ad267) t250.length co38 : Value).ownBlock ∧ some k_ ≠ (.slice Ao29 t255.length co29 : Value).ownBlock ∧ k_ ≠ gb274)) k_ ∧ some k_ ≠ (u267002 : Value).ownBlock) (Kd.R_types (Kd.R_apart' (HO272.out) (Kd.S_typed HO_267002.out) (by decide)) BK274.out (by decide)) (fun k_ hk => ⟨⟨hk.1.1.1, ⟨hk.1.1.2, hk.2⟩⟩, hk.1.2⟩))) (fun _ h_ => h_))); (case aB => exact (by repeat (first | (with_reducible first | exact HB.out | apply below_alloc | apply pw_below_drewN | apply below_drew1 | refine below_set ?_ GE243.out | refine below_set ?_ GE266.out | refine below_set ?_ GE274.out) | exact HB.out))); (case aF => exact (fun k_ hk => ⟨Kd.fresh' (Kd.R_lt (by (with_reducible repeat (first | apply Kd.R_alloc | apply Kd.R_drewN | apply Kd.R_drew)); exact HO_12.out)) k_ hk, Kd.fresh' (Kd.R_lt (by (with_reducible repeat (first | apply Kd.R_alloc | apply Kd.R_drewN | apply Kd.R_drew)); exact HO_267003.out)) k_ hk, Kd.freshB (g := gb274) (o := .cells #[.int .i64 t268, .int .i64 t269, .slice Ao44 t270.length co44] 24 (0, 0)) (by (with_reducible repeat (first | refine blk_drewN ?_ _ | refine blk_drew ?_ | refine blk_alloc ?_ _)); exact BK274.out) k_ hk⟩)); (case aO => exact (by (with_reducible repeat (first | apply Kd.S_alloc | apply Kd.S_drewN | apply Kd.S_drew)); exact Kd.S_mono HO_267002.out (fun k_ hk => ⟨⟨hk.1, ⟨hk.2.1, hk.2.2.2⟩⟩, fun e_ => hk.2.2.1 e_⟩))); (case aS => exact (below_size (by repeat (first | (with_reducible first | exact HB.out | apply below_alloc | apply pw_below_drewN | apply below_drew1 | refine below_set ?_ GE243.out | refine below_set ?_ GE266.out | refine below_set ?_ GE274.out) | exact HB.out)))); (case aL => have := LMc37.out; omega); intro v276 w49 ho hb hg hat; rw [← Ny275.out] at ho; have n0_ := Aside0.mk (Kd.R_over' (by (with_reducible repeat (first | apply Kd.R_alloc | apply Kd.R_drewN | apply Kd.R_drew)); exact HO_12.out) (Kd.S_typed (by (with_reducible repeat (first | apply Kd.S_alloc | apply Kd.S_drewN | apply Kd.S_drew)); exact HO_267002.out)) (by decide) hg); have n1_ := Aside0.mk (Kd.R_over' (by (with_reducible repeat (first | apply Kd.R_alloc | apply Kd.R_drewN | apply Kd.R_drew)); exact HO_267003.out) (Kd.S_typed (by (with_reducible repeat (first | apply Kd.S_alloc | apply Kd.S_drewN | apply Kd.S_drew)); exact HO_267002.out)) (by decide) hg); have n2_ := Aside0.mk (blk_grown (g := gb243) (o := .cells #[.int .i64 x244000_4, .int .i64 x244001_4, .slice none 0 0, .slice none 0 0, .int .i64 x244004_4, .int .i64 x244005_4] 38 (0, 0)) (by (with_reducible repeat (first | refine blk_drewN ?_ _ | refine blk_drew ?_ | refine blk_alloc ?_ _)); exact BK243.out) hg (Kd.S_ne HO_267002.out BK243.out (by decide))); have n3_ := Aside0.mk (blk_grown (g := gb266) (o := .cells #[.int .i64 (wrap64 (t244)), .int .i64 (wrap64 (t247)), u267002, .slice Ao29 t255.length co29, .int .i64 (wrap64 (t260)), .int .i64 (wrap64 (t263))] 38 (0, 0)) (by (with_reducible repeat (first | refine blk_drewN ?_ _ | refine blk_drew ?_ | refine blk_alloc ?_ _)); exact BK266.out) hg (Kd.S_ne HO_267002.out BK266.out (by decide))); have n4_ := Aside0.mk (blk_grown (g := gb274) (o := .cells #[.int .i64 t268, .int .i64 t269, .slice Ao44 t270.length co44] 24 (0, 0)) (by (with_reducible repeat (first | refine blk_drewN ?_ _ | refine blk_drew ?_ | refine blk_alloc ?_ _)); exact BK274.out) hg (Kd.S_away HO_267002.out (fun _ hk => hk.2.2.2))); have n5_ := Aside0.mk (hb); have n6_ := Aside0.mk (ho); clear HO_12; clear HO_267003; clear BK243; clear BK266; clear BK274; clear HB; clear HO_267002; clear HO272; have HO_12 := n0_; have HO_267003 := n1_; have BK243 := n2_; have BK266 := n3_; have BK274 := n4_; have HB := n5_; have HO277 := n6_; clear n0_ n1_ n2_ n3_ n4_ n5_ n6_; clear ho hb hg hat; obtain ⟨Ao50, co50, eo50⟩ := Kd.S_slice HO277.out; subst eo50; have hcz51_0 : w49.cell? ⟨gb266, 0, none⟩ = some (.int .i64 (wrap64 (t244))) := (blk_cell BK266.out 0).trans rfl; have hcz51_1 : w49.cell? ⟨gb266, 1, none⟩ = some (.int .i64 (wrap64 (t247))) := (blk_cell BK266.out 1).trans rfl; have hcz51_2 : w49.cell? ⟨gb266, 2, none⟩ = some (u267002) := (blk_cell BK266.out 2).trans rfl; have hcz51_3 : w49.cell? ⟨gb266, 3, none⟩ = some (.slice Ao29 t255.length co29) := (blk_cell BK266.out 3).trans rfl; have hcz51_4 : w49.cell? ⟨gb266, 4, none⟩ = some (.int .i64 (wrap64 (t260))) := (blk_cell BK266.out 4).trans rfl; have hcz51_5 : w49.cell? ⟨gb266, 5, none⟩ = some (.int .i64 (wrap64 (t263))) := (blk_cell BK266.out 5).trans rfl; have hfz51_0 := blk_frozen BK266.out 0; have hfz51_1 := blk_frozen BK266.out 1; have hfz51_2 := blk_frozen BK266.out 2; have hfz51_3 := blk_frozen BK266.out 3; have hfz51_4 := blk_frozen BK266.out 4; have hfz51_5 := blk_frozen BK266.out 5))
                                    go_roundg k4
                                    case measure => have := HJ4.out; have := HJ16.out; have := HJ23.out; have := HK4.out; omega
                                    case rel => exact ⟨(wrap64 (x25_4 + 1)), (x244000_4), (x244001_4), (x244004_4), (x244005_4), (y275), (.slice Ao50 y275.length co50), (by first | rfl | (simp; done) | (simp [*]; done)), H', ⟨by have := HJ4.out; have := HJ16.out; have := HJ23.out; have := HK4.out; omega⟩, ⟨by (with_reducible repeat (first | apply Kd.R_alloc | apply Kd.R_drewN | apply Kd.R_drew)); exact Kd.R_mono (Kd.R_far (p := ⟨gb266, 2, none⟩) (Kd.R_types HO_12.out BK266.out (by decide)) (fun _ hk => hk.2) (.slice Ao50 y275.length co50)) (fun _ hk => hk.1.1)⟩, ⟨by (with_reducible repeat (first | apply Kd.S_alloc | apply Kd.S_drewN | apply Kd.S_drew)); exact Kd.S_mono (Kd.S_far (p := ⟨gb266, 2, none⟩) (Kd.S_types HO277.out BK266.out (by decide)) (fun _ hk => hk.2) (.slice Ao50 y275.length co50)) (fun _ hk => ⟨hk.1.1, hk.1.2.1⟩)⟩, ⟨by (with_reducible repeat (first | apply Kd.R_alloc | apply Kd.R_drewN | apply Kd.R_drew)); exact Kd.R_mono (Kd.R_far (p := ⟨gb266, 2, none⟩) (Kd.R_types HO_267003.out BK266.out (by decide)) (fun _ hk => hk.2) (.slice Ao50 y275.length co50)) (fun _ hk => hk.1.1)⟩, ⟨by (with_reducible repeat (first | refine blk_drewN ?_ _ | refine blk_drew ?_ | refine blk_alloc ?_ _)); refine blk_far ?_ NB243_266.out _; (with_reducible repeat (first | refine blk_drewN ?_ _ | refine blk_drew ?_ | refine blk_alloc ?_ _)); exact BK243.out⟩, ⟨by (with_reducible repeat (first | refine blk_drewN ?_ _ | refine blk_drew ?_ | refine blk_alloc ?_ _)); refine blk_put (cs := #[.int .i64 (wrap64 (t244)), .int .i64 (wrap64 (t247)), u267002, .slice Ao29 t255.length co29, .int .i64 (wrap64 (t260)), .int .i64 (wrap64 (t263))]) ?_ 2 _ rfl; (with_reducible repeat (first | refine blk_drewN ?_ _ | refine blk_drew ?_ | refine blk_alloc ?_ _)); exact BK266.out⟩, ⟨by repeat (first | (with_reducible first | exact HB.out | apply below_alloc | apply pw_below_drewN | apply below_drew1 | refine below_set ?_ GE243.out | refine below_set ?_ GE266.out | refine below_set ?_ GE274.out) | exact HB.out)⟩⟩
                                  · rw [if_neg c37] at H
                                    exact absurd H (by simp)
                                · rw [if_neg c36] at H
                                  have c36b0 : (t273 == 0) = false := beq_eq_false_iff_ne.mpr c36
                                  have c36b1 : (t273 != 0) = true := bne_iff_ne.mpr c36
                                  simp only [Option.some.injEq, Prod.mk.injEq] at H
                                  obtain ⟨rfl, rfl, rfl, rfl, rfl, rfl, rfl⟩ := H
                                  obtain ⟨Ao52, co52, eo52⟩ := Kd.R_slice HO_12.out
                                  subst eo52
                                  have p267 : 0 ≤ (x25_4 : Int) := of_decide_eq_true (by first | (with_reducible assumption) | assumption)
                                  have q267 : x25_4 < (t250.length : Int) := of_decide_eq_true (by first | (with_reducible assumption) | assumption)
                                  obtain ⟨ad267, e267, hx267_0⟩ := Kd.at_string (Kd.R_reads' HO_12.out).2.2 x25_4 p267 q267
                                  cases e267
                                  replace p267 := eq_true p267
                                  replace q267 := eq_true q267
                                  go_wp2_with (first | ((with_reducible refine gate_callee (f := 28) rfl ?_); refine goesL_ (some 127) rfl rfl Try.func28 (by kernel_rfl) rfl #[.string (rdOf ByteArray.empty t250 x25_4)] rfl (by (try simp only [List.map_toArray, List.map_cons, List.map_nil]); first | done | rfl | (simp only [List.length_drop, List.length_take]; rfl)) ?_; (with_reducible refine (selvedgeref07_Take.calls k4 (rdOf ByteArray.empty t250 x25_4) t268 t269 t270 t273 _ A35.out).mono ?_); rintro e w53 ⟨v271, rfl, ho0, hb⟩; refine ⟨_, rfl, ?_⟩; have n0_ := Aside0.mk (Kd.R_elder' (by (with_reducible repeat (first | apply Kd.R_alloc | apply Kd.R_drewN | apply Kd.R_drew)); exact HO_12.out) (Kd.R_base ho0) hb); have n1_ := Aside0.mk (Kd.S_elder' (by (with_reducible repeat (first | apply Kd.S_alloc | apply Kd.S_drewN | apply Kd.S_drew)); exact HO_267002.out) (Kd.R_base ho0) hb); have n2_ := Aside0.mk (Kd.R_elder' (by (with_reducible repeat (first | apply Kd.R_alloc | apply Kd.R_drewN | apply Kd.R_drew)); exact HO_267003.out) (Kd.R_base ho0) hb); have n3_ := Aside0.mk (Kd.R_lower (Kd.R_new' (Kd.R_new' ho0 (Kd.R_lt (by (with_reducible repeat (first | apply Kd.R_alloc | apply Kd.R_drewN | apply Kd.R_drew)); exact HO_12.out))) (Kd.R_lt (by (with_reducible repeat (first | apply Kd.R_alloc | apply Kd.R_drewN | apply Kd.R_drew)); exact HO_267003.out))) (below_size (by repeat (first | (with_reducible first | exact HB.out | apply below_alloc | apply pw_below_drewN | apply below_drew1 | refine below_set ?_ GE243.out | refine below_set ?_ GE266.out) | exact HB.out)))); have n4_ := Aside0.mk (blk_below (g := gb243) (o := .cells #[.int .i64 x244000_4, .int .i64 x244001_4, .slice none 0 0, .slice none 0 0, .int .i64 x244004_4, .int .i64 x244005_4] 38 (0, 0)) (by (with_reducible repeat (first | refine blk_drewN ?_ _ | refine blk_drew ?_ | refine blk_alloc ?_ _)); exact BK243.out) hb); have n5_ := Aside0.mk (blk_below (g := gb266) (o := .cells #[.int .i64 (wrap64 (t244)), .int .i64 (wrap64 (t247)), u267002, .slice Ao29 t255.length co29, .int .i64 (wrap64 (t260)), .int .i64 (wrap64 (t263))] 38 (0, 0)) (by (with_reducible repeat (first | refine blk_drewN ?_ _ | refine blk_drew ?_ | refine blk_alloc ?_ _)); exact BK266.out) hb); have n6_ := Aside0.mk (below_step (by repeat (first | (with_reducible first | exact HB.out | apply below_alloc | apply pw_below_drewN | apply below_drew1 | refine below_set ?_ GE243.out | refine below_set ?_ GE266.out) | exact HB.out)) hb); clear HO_12; clear HO_267002; clear HO_267003; clear BK243; clear BK266; clear HB; have HO_12 := n0_; have HO_267002 := n1_; have HO_267003 := n2_; have HO272 := n3_; have BK243 := n4_; have BK266 := n5_; have HB := n6_; clear n0_ n1_ n2_ n3_ n4_ n5_ n6_; (try clear hb); (try clear hb2); (try clear hk); (try clear hi); (try clear ho0)) | ((with_reducible refine gate_dst (N := 26) rfl ?_); (try (refine gate_guard (by rfl) ?_; dsimp only)); refine box_event ?hg (N := 26) ?hd (cs := #[.int .i64 0, .int .i64 0, .slice none 0 0]) (t := 24) ?hr ?_; (case hd => rfl); (case hg => rfl); (case hr => first | (go_simp; done) | (go_simp; rfl)); intro gb274 hg w54 hbox hb; have n0_ := Aside0.mk (Kd.R_below (by (with_reducible repeat (first | apply Kd.R_alloc | apply Kd.R_drewN | apply Kd.R_drew)); exact HO_12.out) hb); have n1_ := Aside0.mk (Kd.S_below (Kd.S_elderB (by (with_reducible repeat (first | apply Kd.S_alloc | apply Kd.S_drewN | apply Kd.S_drew)); exact HO_267002.out) gb274 (Nat.le_of_eq hg.symm)) hb); have n2_ := Aside0.mk (Kd.R_below (by (with_reducible repeat (first | apply Kd.R_alloc | apply Kd.R_drewN | apply Kd.R_drew)); exact HO_267003.out) hb); have n3_ := Aside0.mk (Kd.R_below (by (with_reducible repeat (first | apply Kd.R_alloc | apply Kd.R_drewN | apply Kd.R_drew)); exact HO272.out) hb); have n4_ := Aside0.mk (blk_below (g := gb243) (o := .cells #[.int .i64 x244000_4, .int .i64 x244001_4, .slice none 0 0, .slice none 0 0, .int .i64 x244004_4, .int .i64 x244005_4] 38 (0, 0)) (by (with_reducible repeat (first | refine blk_drewN ?_ _ | refine blk_drew ?_ | refine blk_alloc ?_ _)); exact BK243.out) hb); have n5_ := Aside0.mk (blk_below (g := gb266) (o := .cells #[.int .i64 (wrap64 (t244)), .int .i64 (wrap64 (t247)), u267002, .slice Ao29 t255.length co29, .int .i64 (wrap64 (t260)), .int .i64 (wrap64 (t263))] 38 (0, 0)) (by (with_reducible repeat (first | refine blk_drewN ?_ _ | refine blk_drew ?_ | refine blk_alloc ?_ _)); exact BK266.out) hb); have n6_ := Aside0.mk (below_step (by repeat (first | (with_reducible first | exact HB.out | apply below_alloc | apply pw_below_drewN | apply below_drew1 | refine below_set ?_ GE243.out | refine below_set ?_ GE266.out) | exact HB.out)) hb); have n7_ := Aside0.mk (hbox); have n8_ := Aside0.mk ((by rw [hg]; exact (below_size (by repeat (first | (with_reducible first | exact HB.out | apply below_alloc | apply pw_below_drewN | apply below_drew1 | refine below_set ?_ GE243.out | refine below_set ?_ GE266.out) | exact HB.out))) : w.heap.size ≤ gb274)); have n9_ := Aside0.mk ((by rw [hg]; exact (below_size (by repeat (first | (with_reducible first | exact HB.out | apply below_alloc | apply pw_below_drewN | apply below_drew1 | refine below_set ?_ GE243.out | refine below_set ?_ GE266.out) | exact HB.out))) : w.heap.size ≤ gb274)); have n10_ := Aside0.mk ((by rw [hg]; exact Nat.ne_of_lt (blk_lt (g := gb243) (o := .cells #[.int .i64 x244000_4, .int .i64 x244001_4, .slice none 0 0, .slice none 0 0, .int .i64 x244004_4, .int .i64 x244005_4] 38 (0, 0)) (by (with_reducible repeat (first | refine blk_drewN ?_ _ | refine blk_drew ?_ | refine blk_alloc ?_ _)); exact BK243.out)) : gb243 ≠ gb274)); have n11_ := Aside0.mk ((by rw [hg]; exact Nat.ne_of_gt (blk_lt (g := gb243) (o := .cells #[.int .i64 x244000_4, .int .i64 x244001_4, .slice none 0 0, .slice none 0 0, .int .i64 x244004_4, .int .i64 x244005_4] 38 (0, 0)) (by (with_reducible repeat (first | refine blk_drewN ?_ _ | refine blk_drew ?_ | refine blk_alloc ?_ _)); exact BK243.out)) : gb274 ≠ gb243)); have n12_ := Aside0.mk ((by rw [hg]; exact Nat.ne_of_lt (blk_lt (g := gb266) (o := .cells #[.int .i64 (wrap64 (t244)), .int .i64 (wrap64 (t247)), u267002, .slice Ao29 t255.length co29, .int .i64 (wrap64 (t260)), .int .i64 (wrap64 (t263))] 38 (0, 0)) (by (with_reducible repeat (first | refine blk_drewN ?_ _ | refine blk_drew ?_ | refine blk_alloc ?_ _)); exact BK266.out)) : gb266 ≠ gb274)); have n13_ := Aside0.mk ((by rw [hg]; exact Nat.ne_of_gt (blk_lt (g := gb266) (o := .cells #[.int .i64 (wrap64 (t244)), .int .i64 (wrap64 (t247)), u267002, .slice Ao29 t255.length co29, .int .i64 (wrap64 (t260)), .int .i64 (wrap64 (t263))] 38 (0, 0)) (by (with_reducible repeat (first | refine blk_drewN ?_ _ | refine blk_drew ?_ | refine blk_alloc ?_ _)); exact BK266.out)) : gb274 ≠ gb266)); clear HO_12; clear HO_267002; clear HO_267003; clear HO272; clear BK243; clear BK266; clear HB; have HO_12 := n0_; have HO_267002 := n1_; have HO_267003 := n2_; have HO272 := n3_; have BK243 := n4_; have BK266 := n5_; have HB := n6_; have BK274 := n7_; have GW274 := n8_; have GE274 := n9_; have NB243_274 := n10_; have NB274_243 := n11_; have NB266_274 := n12_; have NB274_266 := n13_; clear n0_ n1_ n2_ n3_ n4_ n5_ n6_ n7_ n8_ n9_ n10_ n11_ n12_ n13_; clear hb hbox hg; have hnb55 := NB274_243.out; have hnc55 := NB243_274.out; have hnb56 := NB274_266.out; have hnc56 := NB266_274.out; have hcz57_0 : w54.cell? ⟨gb274, 0, none⟩ = some (.int .i64 0) := (blk_cell BK274.out 0).trans rfl; have hcz57_1 : w54.cell? ⟨gb274, 1, none⟩ = some (.int .i64 0) := (blk_cell BK274.out 1).trans rfl; have hcz57_2 : w54.cell? ⟨gb274, 2, none⟩ = some (.slice none 0 0) := (blk_cell BK274.out 2).trans rfl; have hfz57_0 := blk_frozen BK274.out 0; have hfz57_1 := blk_frozen BK274.out 1; have hfz57_2 := blk_frozen BK274.out 2; obtain ⟨Ao58, co58, eo58⟩ := Kd.R_slice HO272.out; subst eo58; have hnb59 := NB243_266.out; have hnc59 := NB266_243.out; have hcz60_0 : w54.cell? ⟨gb243, 0, none⟩ = some (.int .i64 x244000_4) := (blk_cell BK243.out 0).trans rfl; have hcz60_1 : w54.cell? ⟨gb243, 1, none⟩ = some (.int .i64 x244001_4) := (blk_cell BK243.out 1).trans rfl; have hcz60_2 : w54.cell? ⟨gb243, 2, none⟩ = some (.slice none 0 0) := (blk_cell BK243.out 2).trans rfl; have hcz60_3 : w54.cell? ⟨gb243, 3, none⟩ = some (.slice none 0 0) := (blk_cell BK243.out 3).trans rfl; have hcz60_4 : w54.cell? ⟨gb243, 4, none⟩ = some (.int .i64 x244004_4) := (blk_cell BK243.out 4).trans rfl; have hcz60_5 : w54.cell? ⟨gb243, 5, none⟩ = some (.int .i64 x244005_4) := (blk_cell BK243.out 5).trans rfl; have hfz60_0 := blk_frozen BK243.out 0; have hfz60_1 := blk_frozen BK243.out 1; have hfz60_2 := blk_frozen BK243.out 2; have hfz60_3 := blk_frozen BK243.out 3; have hfz60_4 := blk_frozen BK243.out 4; have hfz60_5 := blk_frozen BK243.out 5))
                                  refine bodyPost_ret (results_ct rfl _ _ gb243 38 #[.int .i64 0, .int .i64 0, .slice none 0 0, .slice none 0 0, .int .i64 0, .int .i64 0] (0, 0) _ rfl (by (with_reducible repeat (first | refine blk_drewN ?_ _ | refine blk_drew ?_ | refine blk_alloc ?_ _)); refine blk_put (cs := #[.int .i64 0, .int .i64 0, .slice none 0 0, .slice none 0 0, .int .i64 0, .int .i64 x244005_4]) ?_ 5 _ rfl; (with_reducible repeat (first | refine blk_drewN ?_ _ | refine blk_drew ?_ | refine blk_alloc ?_ _)); refine blk_put (cs := #[.int .i64 0, .int .i64 0, .slice none 0 0, .slice none 0 0, .int .i64 x244004_4, .int .i64 x244005_4]) ?_ 4 _ rfl; (with_reducible repeat (first | refine blk_drewN ?_ _ | refine blk_drew ?_ | refine blk_alloc ?_ _)); refine blk_put (cs := #[.int .i64 0, .int .i64 0, .slice none 0 0, .slice none 0 0, .int .i64 x244004_4, .int .i64 x244005_4]) ?_ 3 _ rfl; (with_reducible repeat (first | refine blk_drewN ?_ _ | refine blk_drew ?_ | refine blk_alloc ?_ _)); refine blk_put (cs := #[.int .i64 0, .int .i64 0, .slice none 0 0, .slice none 0 0, .int .i64 x244004_4, .int .i64 x244005_4]) ?_ 2 _ rfl; (with_reducible repeat (first | refine blk_drewN ?_ _ | refine blk_drew ?_ | refine blk_alloc ?_ _)); refine blk_put (cs := #[.int .i64 0, .int .i64 x244001_4, .slice none 0 0, .slice none 0 0, .int .i64 x244004_4, .int .i64 x244005_4]) ?_ 1 _ rfl; (with_reducible repeat (first | refine blk_drewN ?_ _ | refine blk_drew ?_ | refine blk_alloc ?_ _)); refine blk_put (cs := #[.int .i64 x244000_4, .int .i64 x244001_4, .slice none 0 0, .slice none 0 0, .int .i64 x244004_4, .int .i64 x244005_4]) ?_ 0 _ rfl; (with_reducible repeat (first | refine blk_drewN ?_ _ | refine blk_drew ?_ | refine blk_alloc ?_ _)); refine blk_far ?_ NB243_274.out _; (with_reducible repeat (first | refine blk_drewN ?_ _ | refine blk_drew ?_ | refine blk_alloc ?_ _)); refine blk_far ?_ NB243_274.out _; (with_reducible repeat (first | refine blk_drewN ?_ _ | refine blk_drew ?_ | refine blk_alloc ?_ _)); refine blk_far ?_ NB243_274.out _; (with_reducible repeat (first | refine blk_drewN ?_ _ | refine blk_drew ?_ | refine blk_alloc ?_ _)); exact BK243.out) Try.underlying38 rfl (by kernel_rfl)) rfl ?_
                                  exact ⟨_, _, by first | rfl | (simp [errW_none, errW_some] <;> rfl) | (simp [*, errW_none, errW_some] <;> rfl), by first | exact Kd.S_nil _ _ _ _ _ | exact Kd.N_nil _ _ _ _ _ | exact Kd.V_nil _ _ _ _ _ | exact Kd.Q_nil _ _ _ _ _ | exact Kd.R_nil _ _ _ _ _, by first | exact Kd.R_nil _ _ _ _ _ | exact Kd.N_nil _ _ _ _ _ | exact Kd.V_nil _ _ _ _ _ | exact Kd.Q_nil _ _ _ _ _ | exact Kd.S_nil _ _ _ _ _, by repeat (first | (with_reducible first | exact HB.out | apply below_alloc | apply pw_below_drewN | apply below_drew1 | refine below_set ?_ GE243.out | refine below_set ?_ GE266.out | refine below_set ?_ GE274.out) | exact HB.out)⟩
                              · rw [if_neg c34] at H
                                exact absurd H (by simp)
                            · rw [if_neg c33] at H
                              have c33b0 : decide (x25_4 < (t250.length : Int)) = false := decide_eq_false c33
                              clear c33
                              replace H := Option.bind_eq_some_iff.mp H
                              obtain ⟨t278, A610, H⟩ := H
                              replace H : (if t278 = true then (some ((wrap64 (t244)), (wrap64 (t247)), x267002_4, t255, (wrap64 (t260)), (wrap64 (t263)), 0)) else (some (0, 0, ([] : List (S24)), ([] : List ByteArray), 0, 0, 3))) = some (r1, r2, r3, r4, r5, r6, r7) := H
                              have A61 := Aside0.mk A610
                              clear A610
                              by_cases c62 : t278 = true
                              · subst c62
                                have H1 : (some ((wrap64 (t244)), (wrap64 (t247)), x267002_4, t255, (wrap64 (t260)), (wrap64 (t263)), 0)) = some (r1, r2, r3, r4, r5, r6, r7) := by rw [if_pos rfl] at H; exact H
                                clear H
                                have H := H1
                                clear H1
                                simp only [Option.some.injEq, Prod.mk.injEq] at H
                                obtain ⟨rfl, rfl, rfl, rfl, rfl, rfl, rfl⟩ := H
                                obtain ⟨Ao63, co63, eo63⟩ := Kd.R_slice HO_12.out
                                subst eo63
                                have hnb64 := NB266_243.out
                                have hnc64 := NB243_266.out
                                have hcz65_0 : wr.cell? ⟨gb266, 0, none⟩ = some (.int .i64 (wrap64 (t244))) := (blk_cell BK266.out 0).trans rfl
                                have hcz65_1 : wr.cell? ⟨gb266, 1, none⟩ = some (.int .i64 (wrap64 (t247))) := (blk_cell BK266.out 1).trans rfl
                                have hcz65_2 : wr.cell? ⟨gb266, 2, none⟩ = some (u267002) := (blk_cell BK266.out 2).trans rfl
                                have hcz65_3 : wr.cell? ⟨gb266, 3, none⟩ = some (.slice Ao29 t255.length co29) := (blk_cell BK266.out 3).trans rfl
                                have hcz65_4 : wr.cell? ⟨gb266, 4, none⟩ = some (.int .i64 (wrap64 (t260))) := (blk_cell BK266.out 4).trans rfl
                                have hcz65_5 : wr.cell? ⟨gb266, 5, none⟩ = some (.int .i64 (wrap64 (t263))) := (blk_cell BK266.out 5).trans rfl
                                have hfz65_0 := blk_frozen BK266.out 0
                                have hfz65_1 := blk_frozen BK266.out 1
                                have hfz65_2 := blk_frozen BK266.out 2
                                have hfz65_3 := blk_frozen BK266.out 3
                                have hfz65_4 := blk_frozen BK266.out 4
                                have hfz65_5 := blk_frozen BK266.out 5
                                obtain ⟨Ao66, co66, eo66⟩ := Kd.S_slice HO_267002.out
                                subst eo66
                                go_wp2_with (first | ((with_reducible refine gate_callee (f := 29) rfl ?_); refine goesL_ (some 141) rfl rfl Try.func29 (by kernel_rfl) rfl #[.agg #[.int .i64 (wrap64 (t244)), .int .i64 (wrap64 (t247)), .slice Ao66 x267002_4.length co66, .slice Ao29 t255.length co29, .int .i64 (wrap64 (t260)), .int .i64 (wrap64 (t263))], .int .i64 a1] rfl (by (try simp only [List.map_toArray, List.map_cons, List.map_nil]); first | done | rfl | (simp only [List.length_drop, List.length_take]; rfl)) ?_; (with_reducible refine (selvedgeref08_May.calls k4 (wrap64 (t244)) (wrap64 (t247)) _ _ x267002_4 _ _ t255 (wrap64 (t260)) (wrap64 (t263)) a1 true _ ?side1 ?side2 ?side3 ?side4 A61.out).mono ?_); (case side1 => repeat (first | exact (Kd.S_reads' HO_267002.out).2.2 | (with_reducible refine Kd.C_alloc ?_ _) | (with_reducible refine Kd.C_drewN ?_ _) | (with_reducible refine Kd.C_drew ?_))); (case side2 => exact (Kd.S_reads' HO_267002.out).2.1); (case side3 => repeat (first | exact (Kd.R_reads' HO_267003.out).2.2 | (with_reducible refine Kd.C_alloc ?_ _) | (with_reducible refine Kd.C_drewN ?_ _) | (with_reducible refine Kd.C_drew ?_))); (case side4 => exact (Kd.R_reads' HO_267003.out).2.1); rintro e w67 ⟨rfl, hb⟩; refine ⟨_, rfl, ?_⟩; have n0_ := Aside0.mk (Kd.R_below (by (with_reducible repeat (first | apply Kd.R_alloc | apply Kd.R_drewN | apply Kd.R_drew)); exact HO_12.out) hb); have n1_ := Aside0.mk (Kd.S_below (by (with_reducible repeat (first | apply Kd.S_alloc | apply Kd.S_drewN | apply Kd.S_drew)); exact HO_267002.out) hb); have n2_ := Aside0.mk (Kd.R_below (by (with_reducible repeat (first | apply Kd.R_alloc | apply Kd.R_drewN | apply Kd.R_drew)); exact HO_267003.out) hb); have n3_ := Aside0.mk (blk_below (g := gb243) (o := .cells #[.int .i64 x244000_4, .int .i64 x244001_4, .slice none 0 0, .slice none 0 0, .int .i64 x244004_4, .int .i64 x244005_4] 38 (0, 0)) (by (with_reducible repeat (first | refine blk_drewN ?_ _ | refine blk_drew ?_ | refine blk_alloc ?_ _)); exact BK243.out) hb); have n4_ := Aside0.mk (blk_below (g := gb266) (o := .cells #[.int .i64 (wrap64 (t244)), .int .i64 (wrap64 (t247)), .slice Ao66 x267002_4.length co66, .slice Ao29 t255.length co29, .int .i64 (wrap64 (t260)), .int .i64 (wrap64 (t263))] 38 (0, 0)) (by (with_reducible repeat (first | refine blk_drewN ?_ _ | refine blk_drew ?_ | refine blk_alloc ?_ _)); exact BK266.out) hb); have n5_ := Aside0.mk (below_step (by repeat (first | (with_reducible first | exact HB.out | apply below_alloc | apply pw_below_drewN | apply below_drew1 | refine below_set ?_ GE243.out | refine below_set ?_ GE266.out) | exact HB.out)) hb); clear HO_12; clear HO_267002; clear HO_267003; clear BK243; clear BK266; clear HB; have HO_12 := n0_; have HO_267002 := n1_; have HO_267003 := n2_; have BK243 := n3_; have BK266 := n4_; have HB := n5_; clear n0_ n1_ n2_ n3_ n4_ n5_; (try clear hb); (try clear hb2); (try clear hk); (try clear hi); have hcz68_0 : w67.cell? ⟨gb266, 0, none⟩ = some (.int .i64 (wrap64 (t244))) := (blk_cell BK266.out 0).trans rfl; have hcz68_1 : w67.cell? ⟨gb266, 1, none⟩ = some (.int .i64 (wrap64 (t247))) := (blk_cell BK266.out 1).trans rfl; have hcz68_2 : w67.cell? ⟨gb266, 2, none⟩ = some (.slice Ao66 x267002_4.length co66) := (blk_cell BK266.out 2).trans rfl; have hcz68_3 : w67.cell? ⟨gb266, 3, none⟩ = some (.slice Ao29 t255.length co29) := (blk_cell BK266.out 3).trans rfl; have hcz68_4 : w67.cell? ⟨gb266, 4, none⟩ = some (.int .i64 (wrap64 (t260))) := (blk_cell BK266.out 4).trans rfl; have hcz68_5 : w67.cell? ⟨gb266, 5, none⟩ = some (.int .i64 (wrap64 (t263))) := (blk_cell BK266.out 5).trans rfl; have hfz68_0 := blk_frozen BK266.out 0; have hfz68_1 := blk_frozen BK266.out 1; have hfz68_2 := blk_frozen BK266.out 2; have hfz68_3 := blk_frozen BK266.out 3; have hfz68_4 := blk_frozen BK266.out 4; have hfz68_5 := blk_frozen BK266.out 5; have hcz69_0 : w67.cell? ⟨gb243, 0, none⟩ = some (.int .i64 x244000_4) := (blk_cell BK243.out 0).trans rfl; have hcz69_1 : w67.cell? ⟨gb243, 1, none⟩ = some (.int .i64 x244001_4) := (blk_cell BK243.out 1).trans rfl; have hcz69_2 : w67.cell? ⟨gb243, 2, none⟩ = some (.slice none 0 0) := (blk_cell BK243.out 2).trans rfl; have hcz69_3 : w67.cell? ⟨gb243, 3, none⟩ = some (.slice none 0 0) := (blk_cell BK243.out 3).trans rfl; have hcz69_4 : w67.cell? ⟨gb243, 4, none⟩ = some (.int .i64 x244004_4) := (blk_cell BK243.out 4).trans rfl; have hcz69_5 : w67.cell? ⟨gb243, 5, none⟩ = some (.int .i64 x244005_4) := (blk_cell BK243.out 5).trans rfl; have hfz69_0 := blk_frozen BK243.out 0; have hfz69_1 := blk_frozen BK243.out 1; have hfz69_2 := blk_frozen BK243.out 2; have hfz69_3 := blk_frozen BK243.out 3; have hfz69_4 := blk_frozen BK243.out 4; have hfz69_5 := blk_frozen BK243.out 5))
                                refine bodyPost_ret (results_ct rfl _ _ gb243 38 #[.int .i64 (wrap64 (t244)), .int .i64 (wrap64 (t247)), .slice Ao66 x267002_4.length co66, .slice Ao29 t255.length co29, .int .i64 (wrap64 (t260)), .int .i64 (wrap64 (t263))] (0, 0) _ rfl (by (with_reducible repeat (first | refine blk_drewN ?_ _ | refine blk_drew ?_ | refine blk_alloc ?_ _)); refine blk_put (cs := #[.int .i64 (wrap64 (t244)), .int .i64 (wrap64 (t247)), .slice Ao66 x267002_4.length co66, .slice Ao29 t255.length co29, .int .i64 (wrap64 (t260)), .int .i64 x244005_4]) ?_ 5 _ rfl; (with_reducible repeat (first | refine blk_drewN ?_ _ | refine blk_drew ?_ | refine blk_alloc ?_ _)); refine blk_put (cs := #[.int .i64 (wrap64 (t244)), .int .i64 (wrap64 (t247)), .slice Ao66 x267002_4.length co66, .slice Ao29 t255.length co29, .int .i64 x244004_4, .int .i64 x244005_4]) ?_ 4 _ rfl; (with_reducible repeat (first | refine blk_drewN ?_ _ | refine blk_drew ?_ | refine blk_alloc ?_ _)); refine blk_put (cs := #[.int .i64 (wrap64 (t244)), .int .i64 (wrap64 (t247)), .slice Ao66 x267002_4.length co66, .slice none 0 0, .int .i64 x244004_4, .int .i64 x244005_4]) ?_ 3 _ rfl; (with_reducible repeat (first | refine blk_drewN ?_ _ | refine blk_drew ?_ | refine blk_alloc ?_ _)); refine blk_put (cs := #[.int .i64 (wrap64 (t244)), .int .i64 (wrap64 (t247)), .slice none 0 0, .slice none 0 0, .int .i64 x244004_4, .int .i64 x244005_4]) ?_ 2 _ rfl; (with_reducible repeat (first | refine blk_drewN ?_ _ | refine blk_drew ?_ | refine blk_alloc ?_ _)); refine blk_put (cs := #[.int .i64 (wrap64 (t244)), .int .i64 x244001_4, .slice none 0 0, .slice none 0 0, .int .i64 x244004_4, .int .i64 x244005_4]) ?_ 1 _ rfl; (with_reducible repeat (first | refine blk_drewN ?_ _ | refine blk_drew ?_ | refine blk_alloc ?_ _)); refine blk_put (cs := #[.int .i64 x244000_4, .int .i64 x244001_4, .slice none 0 0, .slice none 0 0, .int .i64 x244004_4, .int .i64 x244005_4]) ?_ 0 _ rfl; (with_reducible repeat (first | refine blk_drewN ?_ _ | refine blk_drew ?_ | refine blk_alloc ?_ _)); exact BK243.out) Try.underlying38 rfl (by kernel_rfl)) rfl ?_
                                exact ⟨_, _, by first | rfl | (simp [errW_none, errW_some] <;> rfl) | (simp [*, errW_none, errW_some] <;> rfl), by (with_reducible repeat (first | apply Kd.S_alloc | apply Kd.S_drewN | apply Kd.S_drew)); exact Kd.S_mono (Kd.S_far (p := ⟨gb243, 5, none⟩) (Kd.S_far (p := ⟨gb243, 4, none⟩) (Kd.S_far (p := ⟨gb243, 3, none⟩) (Kd.S_far (p := ⟨gb243, 2, none⟩) (Kd.S_far (p := ⟨gb243, 1, none⟩) (Kd.S_far (p := ⟨gb243, 0, none⟩) (Kd.S_types HO_267002.out BK243.out (by decide)) (fun _ hk => hk.2) (.int .i64 (wrap64 (t244)))) (fun _ hk => hk.2) (.int .i64 (wrap64 (t247)))) (fun _ hk => hk.2) (.slice Ao66 x267002_4.length co66)) (fun _ hk => hk.2) (.slice Ao29 t255.length co29)) (fun _ hk => hk.2) (.int .i64 (wrap64 (t260)))) (fun _ hk => hk.2) (.int .i64 (wrap64 (t263)))) (fun _ hk => hk.1.2), by (with_reducible repeat (first | apply Kd.R_alloc | apply Kd.R_drewN | apply Kd.R_drew)); exact Kd.R_mono (Kd.R_far (p := ⟨gb243, 5, none⟩) (Kd.R_far (p := ⟨gb243, 4, none⟩) (Kd.R_far (p := ⟨gb243, 3, none⟩) (Kd.R_far (p := ⟨gb243, 2, none⟩) (Kd.R_far (p := ⟨gb243, 1, none⟩) (Kd.R_far (p := ⟨gb243, 0, none⟩) (Kd.R_types HO_267003.out BK243.out (by decide)) (fun _ hk => hk.2) (.int .i64 (wrap64 (t244)))) (fun _ hk => hk.2) (.int .i64 (wrap64 (t247)))) (fun _ hk => hk.2) (.slice Ao66 x267002_4.length co66)) (fun _ hk => hk.2) (.slice Ao29 t255.length co29)) (fun _ hk => hk.2) (.int .i64 (wrap64 (t260)))) (fun _ hk => hk.2) (.int .i64 (wrap64 (t263)))) (fun _ hk => trivial), by repeat (first | (with_reducible first | exact HB.out | apply below_alloc | apply pw_below_drewN | apply below_drew1 | refine below_set ?_ GE243.out | refine below_set ?_ GE266.out) | exact HB.out)⟩
                              · replace c62 := Bool.eq_false_iff.mpr c62
                                subst c62
                                have H1 : (some (0, 0, ([] : List (S24)), ([] : List ByteArray), 0, 0, 3)) = some (r1, r2, r3, r4, r5, r6, r7) := by rw [if_neg (show ¬ (false = true) by decide)] at H; exact H
                                clear H
                                have H := H1
                                clear H1
                                simp only [Option.some.injEq, Prod.mk.injEq] at H
                                obtain ⟨rfl, rfl, rfl, rfl, rfl, rfl, rfl⟩ := H
                                obtain ⟨Ao70, co70, eo70⟩ := Kd.R_slice HO_12.out
                                subst eo70
                                have hnb71 := NB266_243.out
                                have hnc71 := NB243_266.out
                                have hcz72_0 : wr.cell? ⟨gb266, 0, none⟩ = some (.int .i64 (wrap64 (t244))) := (blk_cell BK266.out 0).trans rfl
                                have hcz72_1 : wr.cell? ⟨gb266, 1, none⟩ = some (.int .i64 (wrap64 (t247))) := (blk_cell BK266.out 1).trans rfl
                                have hcz72_2 : wr.cell? ⟨gb266, 2, none⟩ = some (u267002) := (blk_cell BK266.out 2).trans rfl
                                have hcz72_3 : wr.cell? ⟨gb266, 3, none⟩ = some (.slice Ao29 t255.length co29) := (blk_cell BK266.out 3).trans rfl
                                have hcz72_4 : wr.cell? ⟨gb266, 4, none⟩ = some (.int .i64 (wrap64 (t260))) := (blk_cell BK266.out 4).trans rfl
                                have hcz72_5 : wr.cell? ⟨gb266, 5, none⟩ = some (.int .i64 (wrap64 (t263))) := (blk_cell BK266.out 5).trans rfl
                                have hfz72_0 := blk_frozen BK266.out 0
                                have hfz72_1 := blk_frozen BK266.out 1
                                have hfz72_2 := blk_frozen BK266.out 2
                                have hfz72_3 := blk_frozen BK266.out 3
                                have hfz72_4 := blk_frozen BK266.out 4
                                have hfz72_5 := blk_frozen BK266.out 5
                                obtain ⟨Ao73, co73, eo73⟩ := Kd.S_slice HO_267002.out
                                subst eo73
                                go_wp2_with (first | ((with_reducible refine gate_callee (f := 29) rfl ?_); refine goesL_ (some 141) rfl rfl Try.func29 (by kernel_rfl) rfl #[.agg #[.int .i64 (wrap64 (t244)), .int .i64 (wrap64 (t247)), .slice Ao73 x267002_4.length co73, .slice Ao29 t255.length co29, .int .i64 (wrap64 (t260)), .int .i64 (wrap64 (t263))], .int .i64 a1] rfl (by (try simp only [List.map_toArray, List.map_cons, List.map_nil]); first | done | rfl | (simp only [List.length_drop, List.length_take]; rfl)) ?_; (with_reducible refine (selvedgeref08_May.calls k4 (wrap64 (t244)) (wrap64 (t247)) _ _ x267002_4 _ _ t255 (wrap64 (t260)) (wrap64 (t263)) a1 false _ ?side1 ?side2 ?side3 ?side4 A61.out).mono ?_); (case side1 => repeat (first | exact (Kd.S_reads' HO_267002.out).2.2 | (with_reducible refine Kd.C_alloc ?_ _) | (with_reducible refine Kd.C_drewN ?_ _) | (with_reducible refine Kd.C_drew ?_))); (case side2 => exact (Kd.S_reads' HO_267002.out).2.1); (case side3 => repeat (first | exact (Kd.R_reads' HO_267003.out).2.2 | (with_reducible refine Kd.C_alloc ?_ _) | (with_reducible refine Kd.C_drewN ?_ _) | (with_reducible refine Kd.C_drew ?_))); (case side4 => exact (Kd.R_reads' HO_267003.out).2.1); rintro e w74 ⟨rfl, hb⟩; refine ⟨_, rfl, ?_⟩; have n0_ := Aside0.mk (Kd.R_below (by (with_reducible repeat (first | apply Kd.R_alloc | apply Kd.R_drewN | apply Kd.R_drew)); exact HO_12.out) hb); have n1_ := Aside0.mk (Kd.S_below (by (with_reducible repeat (first | apply Kd.S_alloc | apply Kd.S_drewN | apply Kd.S_drew)); exact HO_267002.out) hb); have n2_ := Aside0.mk (Kd.R_below (by (with_reducible repeat (first | apply Kd.R_alloc | apply Kd.R_drewN | apply Kd.R_drew)); exact HO_267003.out) hb); have n3_ := Aside0.mk (blk_below (g := gb243) (o := .cells #[.int .i64 x244000_4, .int .i64 x244001_4, .slice none 0 0, .slice none 0 0, .int .i64 x244004_4, .int .i64 x244005_4] 38 (0, 0)) (by (with_reducible repeat (first | refine blk_drewN ?_ _ | refine blk_drew ?_ | refine blk_alloc ?_ _)); exact BK243.out) hb); have n4_ := Aside0.mk (blk_below (g := gb266) (o := .cells #[.int .i64 (wrap64 (t244)), .int .i64 (wrap64 (t247)), .slice Ao73 x267002_4.length co73, .slice Ao29 t255.length co29, .int .i64 (wrap64 (t260)), .int .i64 (wrap64 (t263))] 38 (0, 0)) (by (with_reducible repeat (first | refine blk_drewN ?_ _ | refine blk_drew ?_ | refine blk_alloc ?_ _)); exact BK266.out) hb); have n5_ := Aside0.mk (below_step (by repeat (first | (with_reducible first | exact HB.out | apply below_alloc | apply pw_below_drewN | apply below_drew1 | refine below_set ?_ GE243.out | refine below_set ?_ GE266.out) | exact HB.out)) hb); clear HO_12; clear HO_267002; clear HO_267003; clear BK243; clear BK266; clear HB; have HO_12 := n0_; have HO_267002 := n1_; have HO_267003 := n2_; have BK243 := n3_; have BK266 := n4_; have HB := n5_; clear n0_ n1_ n2_ n3_ n4_ n5_; (try clear hb); (try clear hb2); (try clear hk); (try clear hi); have hcz75_0 : w74.cell? ⟨gb243, 0, none⟩ = some (.int .i64 x244000_4) := (blk_cell BK243.out 0).trans rfl; have hcz75_1 : w74.cell? ⟨gb243, 1, none⟩ = some (.int .i64 x244001_4) := (blk_cell BK243.out 1).trans rfl; have hcz75_2 : w74.cell? ⟨gb243, 2, none⟩ = some (.slice none 0 0) := (blk_cell BK243.out 2).trans rfl; have hcz75_3 : w74.cell? ⟨gb243, 3, none⟩ = some (.slice none 0 0) := (blk_cell BK243.out 3).trans rfl; have hcz75_4 : w74.cell? ⟨gb243, 4, none⟩ = some (.int .i64 x244004_4) := (blk_cell BK243.out 4).trans rfl; have hcz75_5 : w74.cell? ⟨gb243, 5, none⟩ = some (.int .i64 x244005_4) := (blk_cell BK243.out 5).trans rfl; have hfz75_0 := blk_frozen BK243.out 0; have hfz75_1 := blk_frozen BK243.out 1; have hfz75_2 := blk_frozen BK243.out 2; have hfz75_3 := blk_frozen BK243.out 3; have hfz75_4 := blk_frozen BK243.out 4; have hfz75_5 := blk_frozen BK243.out 5))
                                refine bodyPost_ret (results_ct rfl _ _ gb243 38 #[.int .i64 0, .int .i64 0, .slice none 0 0, .slice none 0 0, .int .i64 0, .int .i64 0] (0, 0) _ rfl (by (with_reducible repeat (first | refine blk_drewN ?_ _ | refine blk_drew ?_ | refine blk_alloc ?_ _)); refine blk_put (cs := #[.int .i64 0, .int .i64 0, .slice none 0 0, .slice none 0 0, .int .i64 0, .int .i64 x244005_4]) ?_ 5 _ rfl; (with_reducible repeat (first | refine blk_drewN ?_ _ | refine blk_drew ?_ | refine blk_alloc ?_ _)); refine blk_put (cs := #[.int .i64 0, .int .i64 0, .slice none 0 0, .slice none 0 0, .int .i64 x244004_4, .int .i64 x244005_4]) ?_ 4 _ rfl; (with_reducible repeat (first | refine blk_drewN ?_ _ | refine blk_drew ?_ | refine blk_alloc ?_ _)); refine blk_put (cs := #[.int .i64 0, .int .i64 0, .slice none 0 0, .slice none 0 0, .int .i64 x244004_4, .int .i64 x244005_4]) ?_ 3 _ rfl; (with_reducible repeat (first | refine blk_drewN ?_ _ | refine blk_drew ?_ | refine blk_alloc ?_ _)); refine blk_put (cs := #[.int .i64 0, .int .i64 0, .slice none 0 0, .slice none 0 0, .int .i64 x244004_4, .int .i64 x244005_4]) ?_ 2 _ rfl; (with_reducible repeat (first | refine blk_drewN ?_ _ | refine blk_drew ?_ | refine blk_alloc ?_ _)); refine blk_put (cs := #[.int .i64 0, .int .i64 x244001_4, .slice none 0 0, .slice none 0 0, .int .i64 x244004_4, .int .i64 x244005_4]) ?_ 1 _ rfl; (with_reducible repeat (first | refine blk_drewN ?_ _ | refine blk_drew ?_ | refine blk_alloc ?_ _)); refine blk_put (cs := #[.int .i64 x244000_4, .int .i64 x244001_4, .slice none 0 0, .slice none 0 0, .int .i64 x244004_4, .int .i64 x244005_4]) ?_ 0 _ rfl; (with_reducible repeat (first | refine blk_drewN ?_ _ | refine blk_drew ?_ | refine blk_alloc ?_ _)); exact BK243.out) Try.underlying38 rfl (by kernel_rfl)) rfl ?_
                                exact ⟨_, _, by first | rfl | (simp [errW_none, errW_some] <;> rfl) | (simp [*, errW_none, errW_some] <;> rfl), by first | exact Kd.S_nil _ _ _ _ _ | exact Kd.N_nil _ _ _ _ _ | exact Kd.V_nil _ _ _ _ _ | exact Kd.Q_nil _ _ _ _ _ | exact Kd.R_nil _ _ _ _ _, by first | exact Kd.R_nil _ _ _ _ _ | exact Kd.N_nil _ _ _ _ _ | exact Kd.V_nil _ _ _ _ _ | exact Kd.Q_nil _ _ _ _ _ | exact Kd.S_nil _ _ _ _ _, by repeat (first | (with_reducible first | exact HB.out | apply below_alloc | apply pw_below_drewN | apply below_drew1 | refine below_set ?_ GE243.out | refine below_set ?_ GE266.out) | exact HB.out)⟩
          · rw [if_neg c15] at H
            have c15b0 : (t257 == 0) = false := beq_eq_false_iff_ne.mpr c15
            have c15b1 : (t257 != 0) = true := bne_iff_ne.mpr c15
            simp only [Option.some.injEq, Prod.mk.injEq] at H
            obtain ⟨rfl, rfl, rfl, rfl, rfl, rfl, rfl⟩ := H
            go_wp2_with (first | ((with_reducible refine gate_callee (f := 27) rfl ?_); refine goesL_ (some 58) rfl rfl Try.func27 (by kernel_rfl) rfl #[.string t248, .int .i64 4, .int .i64 400] rfl (by (try simp only [List.map_toArray, List.map_cons, List.map_nil]); first | done | rfl | (simp only [List.length_drop, List.length_take]; rfl)) ?_; (with_reducible refine (selvedgeref01_TakeRow.calls kj4 t248 4 400 t250 t251 t252 _ A12.out).mono ?_); rintro e w76 ⟨v253, rfl, ho0, hb⟩; refine ⟨_, rfl, ?_⟩; have n0_ := Aside0.mk (Kd.R_lower ho0 (below_size (by repeat (first | (with_reducible first | exact HB.out | apply below_alloc | apply pw_below_drewN | apply below_drew1 | refine below_set ?_ GE243.out) | exact HB.out)))); have n1_ := Aside0.mk (blk_below (g := gb243) (o := .cells #[.int .i64 0, .int .i64 0, .slice none 0 0, .slice none 0 0, .int .i64 0, .int .i64 0] 38 (0, 0)) (by (with_reducible repeat (first | refine blk_drewN ?_ _ | refine blk_drew ?_ | refine blk_alloc ?_ _)); exact BK243.out) hb); have n2_ := Aside0.mk (below_step (by repeat (first | (with_reducible first | exact HB.out | apply below_alloc | apply pw_below_drewN | apply below_drew1 | refine below_set ?_ GE243.out) | exact HB.out)) hb); clear BK243; clear HB; have HO254 := n0_; have BK243 := n1_; have HB := n2_; clear n0_ n1_ n2_; (try clear hb); (try clear hb2); (try clear hk); (try clear hi); (try clear ho0)) | ((with_reducible refine gate_callee (f := 27) rfl ?_); refine goesL_ (some 67) rfl rfl Try.func27 (by kernel_rfl) rfl #[.string t251, .int .i64 64, .int .i64 32] rfl (by (try simp only [List.map_toArray, List.map_cons, List.map_nil]); first | done | rfl | (simp only [List.length_drop, List.length_take]; rfl)) ?_; (with_reducible refine (selvedgeref01_TakeRow.calls kj4 t251 64 32 t255 t256 t257 _ A14.out).mono ?_); rintro e w77 ⟨v258, rfl, ho0, hb⟩; refine ⟨_, rfl, ?_⟩; have n0_ := Aside0.mk (Kd.R_elder' (by (with_reducible repeat (first | apply Kd.R_alloc | apply Kd.R_drewN | apply Kd.R_drew)); exact HO254.out) (Kd.R_base ho0) hb); have n1_ := Aside0.mk (Kd.R_lower (Kd.R_new' ho0 (Kd.R_lt (by (with_reducible repeat (first | apply Kd.R_alloc | apply Kd.R_drewN | apply Kd.R_drew)); exact HO254.out))) (below_size (by repeat (first | (with_reducible first | exact HB.out | apply below_alloc | apply pw_below_drewN | apply below_drew1 | refine below_set ?_ GE243.out) | exact HB.out)))); have n2_ := Aside0.mk (blk_below (g := gb243) (o := .cells #[.int .i64 0, .int .i64 0, .slice none 0 0, .slice none 0 0, .int .i64 0, .int .i64 0] 38 (0, 0)) (by (with_reducible repeat (first | refine blk_drewN ?_ _ | refine blk_drew ?_ | refine blk_alloc ?_ _)); exact BK243.out) hb); have n3_ := Aside0.mk (below_step (by repeat (first | (with_reducible first | exact HB.out | apply below_alloc | apply pw_below_drewN | apply below_drew1 | refine below_set ?_ GE243.out) | exact HB.out)) hb); clear HO254; clear BK243; clear HB; have HO254 := n0_; have HO259 := n1_; have BK243 := n2_; have HB := n3_; clear n0_ n1_ n2_ n3_; (try clear hb); (try clear hb2); (try clear hk); (try clear hi); (try clear ho0); have hcz78_0 : w77.cell? ⟨gb243, 0, none⟩ = some (.int .i64 0) := (blk_cell BK243.out 0).trans rfl; have hcz78_1 : w77.cell? ⟨gb243, 1, none⟩ = some (.int .i64 0) := (blk_cell BK243.out 1).trans rfl; have hcz78_2 : w77.cell? ⟨gb243, 2, none⟩ = some (.slice none 0 0) := (blk_cell BK243.out 2).trans rfl; have hcz78_3 : w77.cell? ⟨gb243, 3, none⟩ = some (.slice none 0 0) := (blk_cell BK243.out 3).trans rfl; have hcz78_4 : w77.cell? ⟨gb243, 4, none⟩ = some (.int .i64 0) := (blk_cell BK243.out 4).trans rfl; have hcz78_5 : w77.cell? ⟨gb243, 5, none⟩ = some (.int .i64 0) := (blk_cell BK243.out 5).trans rfl; have hfz78_0 := blk_frozen BK243.out 0; have hfz78_1 := blk_frozen BK243.out 1; have hfz78_2 := blk_frozen BK243.out 2; have hfz78_3 := blk_frozen BK243.out 3; have hfz78_4 := blk_frozen BK243.out 4; have hfz78_5 := blk_frozen BK243.out 5))
            refine bodyPost_ret (results_ct rfl _ _ gb243 38 #[.int .i64 0, .int .i64 0, .slice none 0 0, .slice none 0 0, .int .i64 0, .int .i64 0] (0, 0) _ rfl (by (with_reducible repeat (first | refine blk_drewN ?_ _ | refine blk_drew ?_ | refine blk_alloc ?_ _)); refine blk_put (cs := #[.int .i64 0, .int .i64 0, .slice none 0 0, .slice none 0 0, .int .i64 0, .int .i64 0]) ?_ 5 _ rfl; (with_reducible repeat (first | refine blk_drewN ?_ _ | refine blk_drew ?_ | refine blk_alloc ?_ _)); refine blk_put (cs := #[.int .i64 0, .int .i64 0, .slice none 0 0, .slice none 0 0, .int .i64 0, .int .i64 0]) ?_ 4 _ rfl; (with_reducible repeat (first | refine blk_drewN ?_ _ | refine blk_drew ?_ | refine blk_alloc ?_ _)); refine blk_put (cs := #[.int .i64 0, .int .i64 0, .slice none 0 0, .slice none 0 0, .int .i64 0, .int .i64 0]) ?_ 3 _ rfl; (with_reducible repeat (first | refine blk_drewN ?_ _ | refine blk_drew ?_ | refine blk_alloc ?_ _)); refine blk_put (cs := #[.int .i64 0, .int .i64 0, .slice none 0 0, .slice none 0 0, .int .i64 0, .int .i64 0]) ?_ 2 _ rfl; (with_reducible repeat (first | refine blk_drewN ?_ _ | refine blk_drew ?_ | refine blk_alloc ?_ _)); refine blk_put (cs := #[.int .i64 0, .int .i64 0, .slice none 0 0, .slice none 0 0, .int .i64 0, .int .i64 0]) ?_ 1 _ rfl; (with_reducible repeat (first | refine blk_drewN ?_ _ | refine blk_drew ?_ | refine blk_alloc ?_ _)); refine blk_put (cs := #[.int .i64 0, .int .i64 0, .slice none 0 0, .slice none 0 0, .int .i64 0, .int .i64 0]) ?_ 0 _ rfl; (with_reducible repeat (first | refine blk_drewN ?_ _ | refine blk_drew ?_ | refine blk_alloc ?_ _)); exact BK243.out) Try.underlying38 rfl (by kernel_rfl)) rfl ?_
            exact ⟨_, _, by first | rfl | (simp [errW_none, errW_some] <;> rfl) | (simp [*, errW_none, errW_some] <;> rfl), by first | exact Kd.S_nil _ _ _ _ _ | exact Kd.N_nil _ _ _ _ _ | exact Kd.V_nil _ _ _ _ _ | exact Kd.Q_nil _ _ _ _ _ | exact Kd.R_nil _ _ _ _ _, by first | exact Kd.R_nil _ _ _ _ _ | exact Kd.N_nil _ _ _ _ _ | exact Kd.V_nil _ _ _ _ _ | exact Kd.Q_nil _ _ _ _ _ | exact Kd.S_nil _ _ _ _ _, by repeat (first | (with_reducible first | exact HB.out | apply below_alloc | apply pw_below_drewN | apply below_drew1 | refine below_set ?_ GE243.out) | exact HB.out)⟩
        · rw [if_neg c13] at H
          have c13b0 : (t252 == 0) = false := beq_eq_false_iff_ne.mpr c13
          have c13b1 : (t252 != 0) = true := bne_iff_ne.mpr c13
          simp only [Option.some.injEq, Prod.mk.injEq] at H
          obtain ⟨rfl, rfl, rfl, rfl, rfl, rfl, rfl⟩ := H
          go_wp2_with (first | ((with_reducible refine gate_callee (f := 27) rfl ?_); refine goesL_ (some 58) rfl rfl Try.func27 (by kernel_rfl) rfl #[.string t248, .int .i64 4, .int .i64 400] rfl (by (try simp only [List.map_toArray, List.map_cons, List.map_nil]); first | done | rfl | (simp only [List.length_drop, List.length_take]; rfl)) ?_; (with_reducible refine (selvedgeref01_TakeRow.calls kj4 t248 4 400 t250 t251 t252 _ A12.out).mono ?_); rintro e w79 ⟨v253, rfl, ho0, hb⟩; refine ⟨_, rfl, ?_⟩; have n0_ := Aside0.mk (Kd.R_lower ho0 (below_size (by repeat (first | (with_reducible first | exact HB.out | apply below_alloc | apply pw_below_drewN | apply below_drew1 | refine below_set ?_ GE243.out) | exact HB.out)))); have n1_ := Aside0.mk (blk_below (g := gb243) (o := .cells #[.int .i64 0, .int .i64 0, .slice none 0 0, .slice none 0 0, .int .i64 0, .int .i64 0] 38 (0, 0)) (by (with_reducible repeat (first | refine blk_drewN ?_ _ | refine blk_drew ?_ | refine blk_alloc ?_ _)); exact BK243.out) hb); have n2_ := Aside0.mk (below_step (by repeat (first | (with_reducible first | exact HB.out | apply below_alloc | apply pw_below_drewN | apply below_drew1 | refine below_set ?_ GE243.out) | exact HB.out)) hb); clear BK243; clear HB; have HO254 := n0_; have BK243 := n1_; have HB := n2_; clear n0_ n1_ n2_; (try clear hb); (try clear hb2); (try clear hk); (try clear hi); (try clear ho0); have hcz80_0 : w79.cell? ⟨gb243, 0, none⟩ = some (.int .i64 0) := (blk_cell BK243.out 0).trans rfl; have hcz80_1 : w79.cell? ⟨gb243, 1, none⟩ = some (.int .i64 0) := (blk_cell BK243.out 1).trans rfl; have hcz80_2 : w79.cell? ⟨gb243, 2, none⟩ = some (.slice none 0 0) := (blk_cell BK243.out 2).trans rfl; have hcz80_3 : w79.cell? ⟨gb243, 3, none⟩ = some (.slice none 0 0) := (blk_cell BK243.out 3).trans rfl; have hcz80_4 : w79.cell? ⟨gb243, 4, none⟩ = some (.int .i64 0) := (blk_cell BK243.out 4).trans rfl; have hcz80_5 : w79.cell? ⟨gb243, 5, none⟩ = some (.int .i64 0) := (blk_cell BK243.out 5).trans rfl; have hfz80_0 := blk_frozen BK243.out 0; have hfz80_1 := blk_frozen BK243.out 1; have hfz80_2 := blk_frozen BK243.out 2; have hfz80_3 := blk_frozen BK243.out 3; have hfz80_4 := blk_frozen BK243.out 4; have hfz80_5 := blk_frozen BK243.out 5))
          refine bodyPost_ret (results_ct rfl _ _ gb243 38 #[.int .i64 0, .int .i64 0, .slice none 0 0, .slice none 0 0, .int .i64 0, .int .i64 0] (0, 0) _ rfl (by (with_reducible repeat (first | refine blk_drewN ?_ _ | refine blk_drew ?_ | refine blk_alloc ?_ _)); refine blk_put (cs := #[.int .i64 0, .int .i64 0, .slice none 0 0, .slice none 0 0, .int .i64 0, .int .i64 0]) ?_ 5 _ rfl; (with_reducible repeat (first | refine blk_drewN ?_ _ | refine blk_drew ?_ | refine blk_alloc ?_ _)); refine blk_put (cs := #[.int .i64 0, .int .i64 0, .slice none 0 0, .slice none 0 0, .int .i64 0, .int .i64 0]) ?_ 4 _ rfl; (with_reducible repeat (first | refine blk_drewN ?_ _ | refine blk_drew ?_ | refine blk_alloc ?_ _)); refine blk_put (cs := #[.int .i64 0, .int .i64 0, .slice none 0 0, .slice none 0 0, .int .i64 0, .int .i64 0]) ?_ 3 _ rfl; (with_reducible repeat (first | refine blk_drewN ?_ _ | refine blk_drew ?_ | refine blk_alloc ?_ _)); refine blk_put (cs := #[.int .i64 0, .int .i64 0, .slice none 0 0, .slice none 0 0, .int .i64 0, .int .i64 0]) ?_ 2 _ rfl; (with_reducible repeat (first | refine blk_drewN ?_ _ | refine blk_drew ?_ | refine blk_alloc ?_ _)); refine blk_put (cs := #[.int .i64 0, .int .i64 0, .slice none 0 0, .slice none 0 0, .int .i64 0, .int .i64 0]) ?_ 1 _ rfl; (with_reducible repeat (first | refine blk_drewN ?_ _ | refine blk_drew ?_ | refine blk_alloc ?_ _)); refine blk_put (cs := #[.int .i64 0, .int .i64 0, .slice none 0 0, .slice none 0 0, .int .i64 0, .int .i64 0]) ?_ 0 _ rfl; (with_reducible repeat (first | refine blk_drewN ?_ _ | refine blk_drew ?_ | refine blk_alloc ?_ _)); exact BK243.out) Try.underlying38 rfl (by kernel_rfl)) rfl ?_
          exact ⟨_, _, by first | rfl | (simp [errW_none, errW_some] <;> rfl) | (simp [*, errW_none, errW_some] <;> rfl), by first | exact Kd.S_nil _ _ _ _ _ | exact Kd.N_nil _ _ _ _ _ | exact Kd.V_nil _ _ _ _ _ | exact Kd.Q_nil _ _ _ _ _ | exact Kd.R_nil _ _ _ _ _, by first | exact Kd.R_nil _ _ _ _ _ | exact Kd.N_nil _ _ _ _ _ | exact Kd.V_nil _ _ _ _ _ | exact Kd.Q_nil _ _ _ _ _ | exact Kd.S_nil _ _ _ _ _, by repeat (first | (with_reducible first | exact HB.out | apply below_alloc | apply pw_below_drewN | apply below_drew1 | refine below_set ?_ GE243.out) | exact HB.out)⟩
end Go.Proofs.Ytfhjimeigelibaa.Px
