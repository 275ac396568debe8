/- part 24 of the proof of the law PostWrites: texts merged by this session's bundle.py. What is proved: the statement at the end of the last of these texts; its conditions are those of the given row. -/
import Derived.Test.YtnkeecogengfhaaZPostWritesD
import Derived.Test.YtnkeecogengfhaaZPostWritesE
import Derived.Test.YtnkeecogengfhaaZPostWritesG
import Derived.Test.YtnkeecogengfhaaZPostWritesL
import Derived.Test.YtnkeecogengfhaaZPostWritesO
import Derived.Test.YtnkeecogengfhaaZPostWritesP
namespace Go.Proofs.Ytnkeecogengfhaa.Px
open Go.RowKit Go.Proofs.YtnkeecogengfhaaW.PrintWords Go.Proofs.YtnkeecogengfhaaW.PrintLast Go.Proofs.YtnkeecogengfhaaW.PrintMore
attribute [local go_sem] max2_int min2_int max_two min_two max_three min_three max_four min_four
set_option linter.unusedVariables false
set_option linter.unusedSimpArgs false
def selvedgeref18_Say.j0 : Nat → Bool → Int → Int → Int → ByteArray → Option (ByteArray × Int)
  | 0, _, _, _, _, _ => none
  | k + 1, x23, x232000, x232001, x232002, x232003 => if x23 = true then (some ((⟨#[]⟩ : ByteArray), 1)) else ((selvedgeref01_Num.f k (IntKind.u64.wrap (x232000))).bind fun t233 => (if 1 + t233.size ≤ 9223372036854775807 then ((selvedgeref01_Num.f k (IntKind.u64.wrap (x232001))).bind fun t234 => (if ((⟨#[121]⟩ : ByteArray) ++ t233).size + t234.size ≤ 9223372036854775807 then ((selvedgeref01_Num.f k (IntKind.u64.wrap (x232002))).bind fun t235 => (if (((⟨#[121]⟩ : ByteArray) ++ t233) ++ t234).size + t235.size ≤ 9223372036854775807 then (if ((((⟨#[121]⟩ : ByteArray) ++ t233) ++ t234) ++ t235).size + x232003.size ≤ 9223372036854775807 then (some (((((⟨#[121]⟩ : ByteArray) ++ t233) ++ t234) ++ t235) ++ x232003, 0)) else (none)) else (none))) else (none))) else (none)))
def selvedgeref18_Say.f (k : Nat) (a0_0 : Int) (a0_1 : Int) (a0_2 : Int) (a0_3 : ByteArray) : Option (ByteArray × Int) := (selvedgeref18_named.f a0_0 a0_1 a0_3).bind fun t232 => (if t232 = true then (if a0_2 < 1 then (selvedgeref18_Say.j0 k true a0_0 a0_1 a0_2 a0_3) else (selvedgeref18_Say.j0 k (decide (a0_2 > 64)) a0_0 a0_1 a0_2 a0_3)) else (selvedgeref18_Say.j0 k true a0_0 a0_1 a0_2 a0_3))
def selvedgeref18_Say.T4 : Bool × List (List Nat × List Nat) := (true, [([], []), ([0], [0]), ([1], [1]), ([2], [2]), ([3], [3]), ([], []), ([5], [5]), ([6], [6]), ([7, 3], [7]), ([4, 8], [4, 8]), ([], []), ([10], [10]), ([11], [11]), ([12, 8], [12]), ([9, 13], [9, 13]), ([], []), ([15], [15]), ([14, 16], [14, 16]), ([17, 13, 0, 1, 2, 3, 4, 5, 6, 7, 8, 9, 10, 11, 12, 13, 14, 15, 16, 17], [17]), ([18, 0, 1, 2, 3, 4, 5, 6, 7, 8, 9, 10, 11, 12, 13, 14, 15, 16, 17, 18], [])])
def selvedgeref18_Say.B4 : List Nat := [0, 1, 3, 7, 15, 0, 32, 96, 239, 511, 0, 1024, 3072, 7663, 16383, 0, 32768, 131071, 262143, 524287]
theorem selvedgeref18_Say.tab4 : rtab .any (opsOf Try.f11 4) = selvedgeref18_Say.T4 := by kernel_rfl
theorem selvedgeref18_Say.bits4 : waitsOk selvedgeref18_Say.T4.2 selvedgeref18_Say.B4 = true := by kernel_rfl
set_option maxHeartbeats 8000000 in
set_option maxRecDepth 100000 in
theorem selvedgeref18_Say.calls (k : Nat) (a0_0 : Int) (a0_1 : Int) (a0_2 : Int) (a0_3 : ByteArray) (r1 : ByteArray) (r2 : Int) (w : World) (h : selvedgeref18_Say.f k a0_0 a0_1 a0_2 a0_3 = some (r1, r2)) :
    Calls Try.prog 11 #[.agg #[.int .i64 a0_0, .int .i64 a0_1, .int .i64 a0_2, .string a0_3]] w fun e w' => e = .returned (.tuple #[.string r1, .int .i64 r2]) ∧ Below w.heap.size w w' := by
  have hu30 := Try.underlying30
  have HB := Aside0.mk (Below.refl w.heap.size w)
  have H : ((selvedgeref18_named.f a0_0 a0_1 a0_3).bind fun t232 => (if t232 = true then (if a0_2 < 1 then (selvedgeref18_Say.j0 k true a0_0 a0_1 a0_2 a0_3) else (selvedgeref18_Say.j0 k (decide (a0_2 > 64)) a0_0 a0_1 a0_2 a0_3)) else (selvedgeref18_Say.j0 k true a0_0 a0_1 a0_2 a0_3))) = some (r1, r2) := h
  clear h
  replace H := Option.bind_eq_some_iff.mp H
  obtain ⟨t232, A20, H⟩ := H
  replace H : (if t232 = true then (if a0_2 < 1 then (selvedgeref18_Say.j0 k true a0_0 a0_1 a0_2 a0_3) else (selvedgeref18_Say.j0 k (decide (a0_2 > 64)) a0_0 a0_1 a0_2 a0_3)) else (selvedgeref18_Say.j0 k true a0_0 a0_1 a0_2 a0_3)) = some (r1, r2) := H
  have A2 := Aside0.mk A20
  clear A20
  have HC3 := Aside0.mk H
  clear H
  go_enter Try.func11, Try.ntmps11
  go_upto_region 2 with (first | ((with_reducible refine gate_dst (N := 1) rfl ?_); refine box_event ?hg (N := 1) ?hd (cs := #[.int .i64 a0_0, .int .i64 a0_1, .int .i64 a0_2, .string a0_3]) (t := 30) ?hr ?_; (case hd => rfl); (case hg => rfl); (case hr => first | (go_simp; done) | (go_simp; rfl)); intro gb231 hg w4 hbox hb; have n0_ := Aside0.mk (below_step (by repeat (first | (with_reducible first | exact HB.out | apply below_alloc | apply pw_below_drewN | apply below_drew1) | exact HB.out)) hb); have n1_ := Aside0.mk (hbox); have n2_ := Aside0.mk ((by rw [hg]; exact (below_size (by repeat (first | (with_reducible first | exact HB.out | apply below_alloc | apply pw_below_drewN | apply below_drew1) | exact HB.out))) : w.heap.size ≤ gb231)); have n3_ := Aside0.mk ((by rw [hg]; exact (below_size (by repeat (first | (with_reducible first | exact HB.out | apply below_alloc | apply pw_below_drewN | apply below_drew1) | exact HB.out))) : w.heap.size ≤ gb231)); clear HB; have HB := n0_; have BK231 := n1_; have GW231 := n2_; have GE231 := n3_; clear n0_ n1_ n2_ n3_; clear hb hbox hg; have hcz5_0 : w4.cell? ⟨gb231, 0, none⟩ = some (.int .i64 a0_0) := (blk_cell BK231.out 0).trans rfl; have hcz5_1 : w4.cell? ⟨gb231, 1, none⟩ = some (.int .i64 a0_1) := (blk_cell BK231.out 1).trans rfl; have hcz5_2 : w4.cell? ⟨gb231, 2, none⟩ = some (.int .i64 a0_2) := (blk_cell BK231.out 2).trans rfl; have hcz5_3 : w4.cell? ⟨gb231, 3, none⟩ = some (.string a0_3) := (blk_cell BK231.out 3).trans rfl; have hfz5_0 := blk_frozen BK231.out 0; have hfz5_1 := blk_frozen BK231.out 1; have hfz5_2 := blk_frozen BK231.out 2; have hfz5_3 := blk_frozen BK231.out 3) | ((with_reducible refine gate_callee (f := 24) rfl ?_); refine goesL_ (some 11) rfl rfl Try.func24 (by kernel_rfl) rfl #[.int .i64 a0_0, .int .i64 a0_1, .string a0_3] rfl (by (try simp only [List.map_toArray, List.map_cons, List.map_nil]); first | done | rfl | (simp only [List.length_drop, List.length_take]; rfl)) ?_; (with_reducible refine (selvedgeref18_named.calls a0_0 a0_1 a0_3 t232 _ A2.out).mono ?_); rintro e w' ⟨rfl, ⟨nd, rfl⟩⟩; refine ⟨_, rfl, ?_⟩))
  (try simp only [Act.put, List.setIfInBounds_toArray, List.set_cons_zero, List.set_cons_succ])
  go_cut [23] (fun v23 wc => ∃ (kq : Nat) (x23_2 : Bool), v23 = .bool x23_2 ∧ Aside0 (selvedgeref18_Say.j0 kq x23_2 a0_0 a0_1 a0_2 a0_3 = some (r1, r2)) ∧ Aside0 (kq ≤ k) ∧ Aside0 (wc.heap[gb231]? = some (.cells #[.int .i64 a0_0, .int .i64 a0_1, .int .i64 a0_2, .string a0_3] 30 (0, 0))) ∧ Aside0 (Below w.heap.size w wc))
  case first =>
    have H := HC3.out
    clear HC3
    by_cases c6 : t232 = true
    · subst c6
      have H1 : (if a0_2 < 1 then (selvedgeref18_Say.j0 k true a0_0 a0_1 a0_2 a0_3) else (selvedgeref18_Say.j0 k (decide (a0_2 > 64)) a0_0 a0_1 a0_2 a0_3)) = some (r1, r2) := by rw [if_pos rfl] at H; exact H
      clear H
      have H := H1
      clear H1
      by_cases c7 : a0_2 < 1
      · rw [if_pos c7] at H
        have c7b0 : decide (a0_2 < 1) = true := decide_eq_true c7
        clear c7
        (first | rw [c7b0] | (simp only [i64_w, i32_w]; rw [c7b0]) | skip)
        have H' := Aside0.mk H
        clear H
        have hcz8_0 : w4.cell? ⟨gb231, 0, none⟩ = some (.int .i64 a0_0) := (blk_cell BK231.out 0).trans rfl
        have hcz8_1 : w4.cell? ⟨gb231, 1, none⟩ = some (.int .i64 a0_1) := (blk_cell BK231.out 1).trans rfl
        have hcz8_2 : w4.cell? ⟨gb231, 2, none⟩ = some (.int .i64 a0_2) := (blk_cell BK231.out 2).trans rfl
        have hcz8_3 : w4.cell? ⟨gb231, 3, none⟩ = some (.string a0_3) := (blk_cell BK231.out 3).trans rfl
        have hfz8_0 := blk_frozen BK231.out 0
        have hfz8_1 := blk_frozen BK231.out 1
        have hfz8_2 := blk_frozen BK231.out 2
        have hfz8_3 := blk_frozen BK231.out 3
        go_wp2
        go_meet
        case rel => exact ⟨_, (true), (by first | rfl | (simp; done) | (simp [*]; done)), H', ⟨by first | omega | exact Nat.le_refl _⟩, ⟨by (with_reducible repeat (first | refine blk_drewN ?_ _ | refine blk_drew ?_ | refine blk_alloc ?_ _)); exact BK231.out⟩, ⟨by repeat (first | (with_reducible first | exact HB.out | apply below_alloc | apply pw_below_drewN | apply below_drew1 | refine below_set ?_ GE231.out) | exact HB.out)⟩⟩
      · rw [if_neg c7] at H
        have c7b0 : decide (a0_2 < 1) = false := decide_eq_false c7
        clear c7
        (first | rw [c7b0] | (simp only [i64_w, i32_w]; rw [c7b0]) | skip)
        have H' := Aside0.mk H
        clear H
        have hcz9_0 : w4.cell? ⟨gb231, 0, none⟩ = some (.int .i64 a0_0) := (blk_cell BK231.out 0).trans rfl
        have hcz9_1 : w4.cell? ⟨gb231, 1, none⟩ = some (.int .i64 a0_1) := (blk_cell BK231.out 1).trans rfl
        have hcz9_2 : w4.cell? ⟨gb231, 2, none⟩ = some (.int .i64 a0_2) := (blk_cell BK231.out 2).trans rfl
        have hcz9_3 : w4.cell? ⟨gb231, 3, none⟩ = some (.string a0_3) := (blk_cell BK231.out 3).trans rfl
        have hfz9_0 := blk_frozen BK231.out 0
        have hfz9_1 := blk_frozen BK231.out 1
        have hfz9_2 := blk_frozen BK231.out 2
        have hfz9_3 := blk_frozen BK231.out 3
        go_wp2
        go_meet
        case rel => exact ⟨_, (decide (a0_2 > 64)), (by first | rfl | (simp; done) | (simp [*]; done)), H', ⟨by first | omega | exact Nat.le_refl _⟩, ⟨by (with_reducible repeat (first | refine blk_drewN ?_ _ | refine blk_drew ?_ | refine blk_alloc ?_ _)); exact BK231.out⟩, ⟨by repeat (first | (with_reducible first | exact HB.out | apply below_alloc | apply pw_below_drewN | apply below_drew1 | refine below_set ?_ GE231.out) | exact HB.out)⟩⟩
    · replace c6 := Bool.eq_false_iff.mpr c6
      subst c6
      have H1 : (selvedgeref18_Say.j0 k true a0_0 a0_1 a0_2 a0_3) = some (r1, r2) := by rw [if_neg (show ¬ (false = true) by decide)] at H; exact H
      clear H
      have H := H1
      clear H1
      have H' := Aside0.mk H
      clear H
      go_wp2
      go_meet
      case rel => exact ⟨_, (true), (by first | rfl | (simp; done) | (simp [*]; done)), H', ⟨by first | omega | exact Nat.le_refl _⟩, ⟨by (with_reducible repeat (first | refine blk_drewN ?_ _ | refine blk_drew ?_ | refine blk_alloc ?_ _)); exact BK231.out⟩, ⟨by repeat (first | (with_reducible first | exact HB.out | apply below_alloc | apply pw_below_drewN | apply below_drew1 | refine below_set ?_ GE231.out) | exact HB.out)⟩⟩
  case rest =>
    clear HC3
    try clear c1
    try clear c2
    try clear p2
    try clear c6
    try clear c7
    try clear c7b0
    try clear hcz5_0
    try clear hcz5_1
    try clear hcz5_2
    try clear hcz5_3
    try clear hcz8_0
    try clear hcz8_1
    try clear hcz8_2
    try clear hcz8_3
    try clear hcz9_0
    try clear hcz9_1
    try clear hcz9_2
    try clear hcz9_3
    try clear hfz5_0
    try clear hfz5_1
    try clear hfz5_2
    try clear hfz5_3
    try clear hfz8_0
    try clear hfz8_1
    try clear hfz8_2
    try clear hfz8_3
    try clear hfz9_0
    try clear hfz9_1
    try clear hfz9_2
    try clear hfz9_3
    obtain ⟨kq, x23_2, rfl, HA, HJ2, BK231, HB⟩ := hcut
    cases kq with
    | zero => exact absurd HA.out (by simp [selvedgeref18_Say.j0])
    | succ kj2 =>
      have H := HA.out
      clear HA
      simp only [selvedgeref18_Say.j0] at H
      by_cases c10 : x23_2 = true
      · subst c10
        have H1 : (some ((⟨#[]⟩ : ByteArray), 1)) = some (r1, r2) := by rw [if_pos rfl] at H; exact H
        clear H
        have H := H1
        clear H1
        simp only [Option.some.injEq, Prod.mk.injEq] at H
        obtain ⟨rfl, rfl⟩ := H
        go_wp2
        go_ret2
        exact ⟨by first | rfl | (simp [errW_none, errW_some] <;> rfl) | (simp [*, errW_none, errW_some] <;> rfl), by repeat (first | (with_reducible first | exact HB.out | apply below_alloc | apply pw_below_drewN | apply below_drew1 | refine below_set ?_ GE231.out) | exact HB.out)⟩
      · replace c10 := Bool.eq_false_iff.mpr c10
        subst c10
        have H1 : ((selvedgeref01_Num.f kj2 (IntKind.u64.wrap (a0_0))).bind fun t233 => (if 1 + t233.size ≤ 9223372036854775807 then ((selvedgeref01_Num.f kj2 (IntKind.u64.wrap (a0_1))).bind fun t234 => (if ((⟨#[121]⟩ : ByteArray) ++ t233).size + t234.size ≤ 9223372036854775807 then ((selvedgeref01_Num.f kj2 (IntKind.u64.wrap (a0_2))).bind fun t235 => (if (((⟨#[121]⟩ : ByteArray) ++ t233) ++ t234).size + t235.size ≤ 9223372036854775807 then (if ((((⟨#[121]⟩ : ByteArray) ++ t233) ++ t234) ++ t235).size + a0_3.size ≤ 9223372036854775807 then (some (((((⟨#[121]⟩ : ByteArray) ++ t233) ++ t234) ++ t235) ++ a0_3, 0)) else (none)) else (none))) else (none))) else (none))) = some (r1, r2) := by rw [if_neg (show ¬ (false = true) by decide)] at H; exact H
        clear H
        have H := H1
        clear H1
        replace H := Option.bind_eq_some_iff.mp H
        obtain ⟨t233, A110, H⟩ := H
        replace H : (if 1 + t233.size ≤ 9223372036854775807 then ((selvedgeref01_Num.f kj2 (IntKind.u64.wrap (a0_1))).bind fun t234 => (if ((⟨#[121]⟩ : ByteArray) ++ t233).size + t234.size ≤ 9223372036854775807 then ((selvedgeref01_Num.f kj2 (IntKind.u64.wrap (a0_2))).bind fun t235 => (if (((⟨#[121]⟩ : ByteArray) ++ t233) ++ t234).size + t235.size ≤ 9223372036854775807 then (if ((((⟨#[121]⟩ : ByteArray) ++ t233) ++ t234) ++ t235).size + a0_3.size ≤ 9223372036854775807 then (some (((((⟨#[121]⟩ : ByteArray) ++ t233) ++ t234) ++ t235) ++ a0_3, 0)) else (none)) else (none))) else (none))) else (none)) = some (r1, r2) := H
        have A11 := Aside0.mk A110
        clear A110
        by_cases c12 : 1 + t233.size ≤ 9223372036854775807
        · rw [if_pos c12] at H
          have c12b0 := eq_true c12
          have c12b1 : decide (1 + t233.size ≤ 9223372036854775807) = true := decide_eq_true c12
          try have c12b2 : (9223372036854775807 < 1 + t233.size) = False := eq_false (Nat.not_lt.2 c12)
          replace H := Option.bind_eq_some_iff.mp H
          obtain ⟨t234, A130, H⟩ := H
          replace H : (if ((⟨#[121]⟩ : ByteArray) ++ t233).size + t234.size ≤ 9223372036854775807 then ((selvedgeref01_Num.f kj2 (IntKind.u64.wrap (a0_2))).bind fun t235 => (if (((⟨#[121]⟩ : ByteArray) ++ t233) ++ t234).size + t235.size ≤ 9223372036854775807 then (if ((((⟨#[121]⟩ : ByteArray) ++ t233) ++ t234) ++ t235).size + a0_3.size ≤ 9223372036854775807 then (some (((((⟨#[121]⟩ : ByteArray) ++ t233) ++ t234) ++ t235) ++ a0_3, 0)) else (none)) else (none))) else (none)) = some (r1, r2) := H
          have A13 := Aside0.mk A130
          clear A130
          by_cases c14 : ((⟨#[121]⟩ : ByteArray) ++ t233).size + t234.size ≤ 9223372036854775807
          · rw [if_pos c14] at H
            have c14b0 := eq_true c14
            have c14b1 : decide (((⟨#[121]⟩ : ByteArray) ++ t233).size + t234.size ≤ 9223372036854775807) = true := decide_eq_true c14
            try have c14b2 : (9223372036854775807 < ((⟨#[121]⟩ : ByteArray) ++ t233).size + t234.size) = False := eq_false (Nat.not_lt.2 c14)
            try (have c14b3 := c14; simp [ByteArray.size_append, (show (⟨#[121]⟩ : ByteArray).size = 1 from rfl)] at c14b3; have c14b4 := eq_false (Nat.not_lt.2 c14b3); clear c14b3)
            replace H := Option.bind_eq_some_iff.mp H
            obtain ⟨t235, A150, H⟩ := H
            replace H : (if (((⟨#[121]⟩ : ByteArray) ++ t233) ++ t234).size + t235.size ≤ 9223372036854775807 then (if ((((⟨#[121]⟩ : ByteArray) ++ t233) ++ t234) ++ t235).size + a0_3.size ≤ 9223372036854775807 then (some (((((⟨#[121]⟩ : ByteArray) ++ t233) ++ t234) ++ t235) ++ a0_3, 0)) else (none)) else (none)) = some (r1, r2) := H
            have A15 := Aside0.mk A150
            clear A150
            by_cases c16 : (((⟨#[121]⟩ : ByteArray) ++ t233) ++ t234).size + t235.size ≤ 9223372036854775807
            · rw [if_pos c16] at H
              have c16b0 := eq_true c16
              have c16b1 : decide ((((⟨#[121]⟩ : ByteArray) ++ t233) ++ t234).size + t235.size ≤ 9223372036854775807) = true := decide_eq_true c16
              try have c16b2 : (9223372036854775807 < (((⟨#[121]⟩ : ByteArray) ++ t233) ++ t234).size + t235.size) = False := eq_false (Nat.not_lt.2 c16)
              try (have c16b3 := c16; simp [ByteArray.size_append, (show (⟨#[121]⟩ : ByteArray).size = 1 from rfl)] at c16b3; have c16b4 := eq_false (Nat.not_lt.2 c16b3); clear c16b3)
              by_cases c17 : ((((⟨#[121]⟩ : ByteArray) ++ t233) ++ t234) ++ t235).size + a0_3.size ≤ 9223372036854775807
              · rw [if_pos c17] at H
                have c17b0 := eq_true c17
                have c17b1 : decide (((((⟨#[121]⟩ : ByteArray) ++ t233) ++ t234) ++ t235).size + a0_3.size ≤ 9223372036854775807) = true := decide_eq_true c17
                try have c17b2 : (9223372036854775807 < ((((⟨#[121]⟩ : ByteArray) ++ t233) ++ t234) ++ t235).size + a0_3.size) = False := eq_false (Nat.not_lt.2 c17)
                try (have c17b3 := c17; simp [ByteArray.size_append, (show (⟨#[121]⟩ : ByteArray).size = 1 from rfl)] at c17b3; have c17b4 := eq_false (Nat.not_lt.2 c17b3); clear c17b3)
                simp only [Option.some.injEq, Prod.mk.injEq] at H
                obtain ⟨rfl, rfl⟩ := H
                try go_wp2
                have n0_ := Aside0.mk (blk_drew BK231.out)
                have n1_ := Aside0.mk (below_drew1 HB.out)
                clear BK231
                clear HB
                have BK231 := n0_
                have HB := n1_
                clear n0_ n1_
                refine start_ (n := 20) (S := fun w' => w'.cell? ⟨gb231, 0, none⟩ = some (.int .i64 a0_0) ∧ w'.cell? ⟨gb231, 1, none⟩ = some (.int .i64 a0_1) ∧ w'.cell? ⟨gb231, 2, none⟩ = some (.int .i64 a0_2) ∧ w'.cell? ⟨gb231, 3, none⟩ = some (.string a0_3)) (ds := []) #[false, false, false, false, false, false, false, false, false, false, false, false, false, false, false, false, false, false, false, false] (by kernel_rfl) rfl rfl ⟨(blk_cell BK231.out 0).trans rfl, (blk_cell BK231.out 1).trans rfl, (blk_cell BK231.out 2).trans rfl, (blk_cell BK231.out 3).trans rfl⟩ (fun hHeld => ?_); refine with_tabW selvedgeref18_Say.tab4 selvedgeref18_Say.bits4 (fun HT_ HW_ => ?_)
                generalize wc.drew = w18 at BK231 HB hHeld ⊢
                refine pure_ (i := 0) (N := some 24) (v := ?_) (a' := ?_) #[true, false, false, false, false, false, false, false, false, false, false, false, false, false, false, false, false, false, false, false] rfl rfl (any_of HT_.out (by kernel_rfl)) (fun _ _ _ h => h) (Or.inl ⟨by rfl, ?_⟩) ?_ ?_
                rotate_left
                · intro w'
                  go_simp
                  with_reducible rfl
                rotate_left
                · simp only [Act.put, List.setIfInBounds_toArray, List.set_cons_zero, List.set_cons_succ, i64_w, i32_w]
                  rfl
                refine pure_ (i := 5) (N := some 29) (v := ?_) (a' := ?_) #[true, false, false, false, false, true, false, false, false, false, false, false, false, false, false, false, false, false, false, false] rfl rfl (any_of HT_.out (by kernel_rfl)) (fun _ _ _ h => h) (Or.inl ⟨by rfl, ?_⟩) ?_ ?_
                rotate_left
                · intro w'
                  go_simp
                  with_reducible rfl
                rotate_left
                · simp only [Act.put, List.setIfInBounds_toArray, List.set_cons_zero, List.set_cons_succ, i64_w, i32_w]
                  rfl
                refine pure_ (i := 10) (N := some 34) (v := ?_) (a' := ?_) #[true, false, false, false, false, true, false, false, false, false, true, false, false, false, false, false, false, false, false, false] rfl rfl (any_of HT_.out (by kernel_rfl)) (fun _ _ _ h => h) (Or.inl ⟨by rfl, ?_⟩) ?_ ?_
                rotate_left
                · intro w'
                  go_simp
                  with_reducible rfl
                rotate_left
                · simp only [Act.put, List.setIfInBounds_toArray, List.set_cons_zero, List.set_cons_succ, i64_w, i32_w]
                  rfl
                refine pure_ (i := 15) (N := some 39) (v := ?_) (a' := ?_) #[true, false, false, false, false, true, false, false, false, false, true, false, false, false, false, true, false, false, false, false] rfl rfl (any_of HT_.out (by kernel_rfl)) (fun _ _ _ h => h) (Or.inl ⟨by rfl, ?_⟩) ?_ ?_
                rotate_left
                · intro w'
                  go_simp
                  with_reducible rfl
                rotate_left
                · simp only [Act.put, List.setIfInBounds_toArray, List.set_cons_zero, List.set_cons_succ, i64_w, i32_w]
                  rfl
                refine take_ (i := 1) (N := some 25) (v := ?_) (a' := ?_) #[true, true, false, false, false, true, false, false, false, false, true, false, false, false, false, true, false, false, false, false] rfl rfl (take_ofW HT_.out HW_.out (by kernel_rfl)) (fun _ _ _ h => h) (Or.inl ⟨by rfl, ?_⟩) hHeld ?_ ?_
                rotate_left
                · rintro w' ⟨s0, s1, s2, s3⟩
                  go_simp
                  with_reducible rfl
                rotate_left
                · simp only [Act.put, List.setIfInBounds_toArray, List.set_cons_zero, List.set_cons_succ, i64_w, i32_w]
                  rfl
                refine pure_ (i := 2) (N := some 26) (v := ?_) (a' := ?_) #[true, true, true, false, false, true, false, false, false, false, true, false, false, false, false, true, false, false, false, false] rfl rfl (any_of HT_.out (by kernel_rfl)) (fun _ _ _ h => h) (Or.inl ⟨by rfl, ?_⟩) ?_ ?_
                rotate_left
                · intro w'
                  go_simp
                  with_reducible rfl
                rotate_left
                · simp only [Act.put, List.setIfInBounds_toArray, List.set_cons_zero, List.set_cons_succ, i64_w, i32_w]
                  rfl
                refine take_ (i := 6) (N := some 30) (v := ?_) (a' := ?_) #[true, true, true, false, false, true, true, false, false, false, true, false, false, false, false, true, false, false, false, false] rfl rfl (take_ofW HT_.out HW_.out (by kernel_rfl)) (fun _ _ _ h => h) (Or.inl ⟨by rfl, ?_⟩) hHeld ?_ ?_
                rotate_left
                · rintro w' ⟨s0, s1, s2, s3⟩
                  go_simp
                  with_reducible rfl
                rotate_left
                · simp only [Act.put, List.setIfInBounds_toArray, List.set_cons_zero, List.set_cons_succ, i64_w, i32_w]
                  rfl
                refine pure_ (i := 7) (N := some 31) (v := ?_) (a' := ?_) #[true, true, true, false, false, true, true, true, false, false, true, false, false, false, false, true, false, false, false, false] rfl rfl (any_of HT_.out (by kernel_rfl)) (fun _ _ _ h => h) (Or.inl ⟨by rfl, ?_⟩) ?_ ?_
                rotate_left
                · intro w'
                  go_simp
                  with_reducible rfl
                rotate_left
                · simp only [Act.put, List.setIfInBounds_toArray, List.set_cons_zero, List.set_cons_succ, i64_w, i32_w]
                  rfl
                refine take_ (i := 11) (N := some 35) (v := ?_) (a' := ?_) #[true, true, true, false, false, true, true, true, false, false, true, true, false, false, false, true, false, false, false, false] rfl rfl (take_ofW HT_.out HW_.out (by kernel_rfl)) (fun _ _ _ h => h) (Or.inl ⟨by rfl, ?_⟩) hHeld ?_ ?_
                rotate_left
                · rintro w' ⟨s0, s1, s2, s3⟩
                  go_simp
                  with_reducible rfl
                rotate_left
                · simp only [Act.put, List.setIfInBounds_toArray, List.set_cons_zero, List.set_cons_succ, i64_w, i32_w]
                  rfl
                refine pure_ (i := 12) (N := some 36) (v := ?_) (a' := ?_) #[true, true, true, false, false, true, true, true, false, false, true, true, true, false, false, true, false, false, false, false] rfl rfl (any_of HT_.out (by kernel_rfl)) (fun _ _ _ h => h) (Or.inl ⟨by rfl, ?_⟩) ?_ ?_
                rotate_left
                · intro w'
                  go_simp
                  with_reducible rfl
                rotate_left
                · simp only [Act.put, List.setIfInBounds_toArray, List.set_cons_zero, List.set_cons_succ, i64_w, i32_w]
                  rfl
                refine take_ (i := 16) (N := some 40) (v := ?_) (a' := ?_) #[true, true, true, false, false, true, true, true, false, false, true, true, true, false, false, true, true, false, false, false] rfl rfl (take_ofW HT_.out HW_.out (by kernel_rfl)) (fun _ _ _ h => h) (Or.inl ⟨by rfl, ?_⟩) hHeld ?_ ?_
                rotate_left
                · rintro w' ⟨s0, s1, s2, s3⟩
                  go_simp
                  with_reducible rfl
                rotate_left
                · simp only [Act.put, List.setIfInBounds_toArray, List.set_cons_zero, List.set_cons_succ, i64_w, i32_w]
                  rfl
                refine one_ (i := 3) (N := some 27) #[true, true, true, true, false, true, true, true, false, false, true, true, true, false, false, true, true, false, false, false] rfl rfl (one_of HT_.out (by kernel_rfl)) (by decide) (fun K hK => ?_)
                refine goes_ Try.func25 (by kernel_rfl) rfl #[.int .u64 (IntKind.u64.wrap (a0_0))] (by rfl) rfl rfl (by (try simp only [List.map_toArray, List.map_cons, List.map_nil]); first | done | rfl | (simp only [List.length_drop, List.length_take]; rfl)) ?_
                with_reducible refine (selvedgeref01_Num.calls kj2 (IntKind.u64.wrap (a0_0)) t233 _ A11.out).mono ?_
                rintro e w19 ⟨rfl, hb⟩
                refine ⟨_, rfl, ?_⟩
                have n0_ := Aside0.mk (blk_below (g := gb231) (o := .cells #[.int .i64 a0_0, .int .i64 a0_1, .int .i64 a0_2, .string a0_3] 30 (0, 0)) (by (with_reducible repeat (first | refine blk_drewN ?_ _ | refine blk_drew ?_ | refine blk_alloc ?_ _)); exact BK231.out) hb)
                have n1_ := Aside0.mk (below_step (by repeat (first | (with_reducible first | exact HB.out | apply below_alloc | apply pw_below_drewN | apply below_drew1 | refine below_set ?_ GE231.out) | exact HB.out)) hb)
                clear BK231
                clear HB
                have BK231 := n0_
                have HB := n1_
                clear n0_ n1_
                (try clear hb)
                (try clear hb2)
                (try clear hk)
                (try clear hi)
                refine hK.out _ _ ⟨(blk_cell BK231.out 0).trans rfl, (blk_cell BK231.out 1).trans rfl, (blk_cell BK231.out 2).trans rfl, (blk_cell BK231.out 3).trans rfl⟩ (fun hHeld => ?_)
                clear hK K
                refine norm_ (a' := ?_) ?_ ?_
                rotate_left
                · show Act.put _ (some 27) _ = _
                  simp only [Act.put, List.setIfInBounds_toArray, List.set_cons_zero, List.set_cons_succ, i64_w, i32_w]
                  rfl
                refine pure_ (i := 4) (N := some 28) (v := ?_) (a' := ?_) #[true, true, true, true, true, true, true, true, false, false, true, true, true, false, false, true, true, false, false, false] rfl rfl (any_of HT_.out (by kernel_rfl)) (fun _ _ _ h => h) (Or.inl ⟨by rfl, ?_⟩) ?_ ?_
                rotate_left
                · intro w'
                  go_simp
                  with_reducible rfl
                rotate_left
                · simp only [Act.put, List.setIfInBounds_toArray, List.set_cons_zero, List.set_cons_succ, i64_w, i32_w]
                  rfl
                refine one_ (i := 8) (N := some 32) #[true, true, true, true, true, true, true, true, true, false, true, true, true, false, false, true, true, false, false, false] rfl rfl (one_of HT_.out (by kernel_rfl)) (by decide) (fun K hK => ?_)
                refine goes_ Try.func25 (by kernel_rfl) rfl #[.int .u64 (IntKind.u64.wrap (a0_1))] (by rfl) rfl rfl (by (try simp only [List.map_toArray, List.map_cons, List.map_nil]); first | done | rfl | (simp only [List.length_drop, List.length_take]; rfl)) ?_
                with_reducible refine (selvedgeref01_Num.calls kj2 (IntKind.u64.wrap (a0_1)) t234 _ A13.out).mono ?_
                rintro e w20 ⟨rfl, hb⟩
                refine ⟨_, rfl, ?_⟩
                have n0_ := Aside0.mk (blk_below (g := gb231) (o := .cells #[.int .i64 a0_0, .int .i64 a0_1, .int .i64 a0_2, .string a0_3] 30 (0, 0)) (by (with_reducible repeat (first | refine blk_drewN ?_ _ | refine blk_drew ?_ | refine blk_alloc ?_ _)); exact BK231.out) hb)
                have n1_ := Aside0.mk (below_step (by repeat (first | (with_reducible first | exact HB.out | apply below_alloc | apply pw_below_drewN | apply below_drew1 | refine below_set ?_ GE231.out) | exact HB.out)) hb)
                clear BK231
                clear HB
                have BK231 := n0_
                have HB := n1_
                clear n0_ n1_
                (try clear hb)
                (try clear hb2)
                (try clear hk)
                (try clear hi)
                refine hK.out _ _ ⟨(blk_cell BK231.out 0).trans rfl, (blk_cell BK231.out 1).trans rfl, (blk_cell BK231.out 2).trans rfl, (blk_cell BK231.out 3).trans rfl⟩ (fun hHeld => ?_)
                clear hK K
                refine norm_ (a' := ?_) ?_ ?_
                rotate_left
                · show Act.put _ (some 32) _ = _
                  simp only [Act.put, List.setIfInBounds_toArray, List.set_cons_zero, List.set_cons_succ, i64_w, i32_w]
                  rfl
                refine pure_ (i := 9) (N := some 33) (v := ?_) (a' := ?_) #[true, true, true, true, true, true, true, true, true, true, true, true, true, false, false, true, true, false, false, false] rfl rfl (any_of HT_.out (by kernel_rfl)) (fun _ _ _ h => h) (Or.inl ⟨by rfl, ?_⟩) ?_ ?_
                rotate_left
                · intro w'
                  go_simp
                  with_reducible rfl
                rotate_left
                · simp only [Act.put, List.setIfInBounds_toArray, List.set_cons_zero, List.set_cons_succ, i64_w, i32_w]
                  rfl
                refine one_ (i := 13) (N := some 37) #[true, true, true, true, true, true, true, true, true, true, true, true, true, true, false, true, true, false, false, false] rfl rfl (one_of HT_.out (by kernel_rfl)) (by decide) (fun K hK => ?_)
                refine goes_ Try.func25 (by kernel_rfl) rfl #[.int .u64 (IntKind.u64.wrap (a0_2))] (by rfl) rfl rfl (by (try simp only [List.map_toArray, List.map_cons, List.map_nil]); first | done | rfl | (simp only [List.length_drop, List.length_take]; rfl)) ?_
                with_reducible refine (selvedgeref01_Num.calls kj2 (IntKind.u64.wrap (a0_2)) t235 _ A15.out).mono ?_
                rintro e w21 ⟨rfl, hb⟩
                refine ⟨_, rfl, ?_⟩
                have n0_ := Aside0.mk (blk_below (g := gb231) (o := .cells #[.int .i64 a0_0, .int .i64 a0_1, .int .i64 a0_2, .string a0_3] 30 (0, 0)) (by (with_reducible repeat (first | refine blk_drewN ?_ _ | refine blk_drew ?_ | refine blk_alloc ?_ _)); exact BK231.out) hb)
                have n1_ := Aside0.mk (below_step (by repeat (first | (with_reducible first | exact HB.out | apply below_alloc | apply pw_below_drewN | apply below_drew1 | refine below_set ?_ GE231.out) | exact HB.out)) hb)
                clear BK231
                clear HB
                have BK231 := n0_
                have HB := n1_
                clear n0_ n1_
                (try clear hb)
                (try clear hb2)
                (try clear hk)
                (try clear hi)
                refine hK.out _ _ ⟨(blk_cell BK231.out 0).trans rfl, (blk_cell BK231.out 1).trans rfl, (blk_cell BK231.out 2).trans rfl, (blk_cell BK231.out 3).trans rfl⟩ (fun hHeld => ?_)
                clear hK K
                refine norm_ (a' := ?_) ?_ ?_
                rotate_left
                · show Act.put _ (some 37) _ = _
                  simp only [Act.put, List.setIfInBounds_toArray, List.set_cons_zero, List.set_cons_succ, i64_w, i32_w]
                  rfl
                refine pure_ (i := 14) (N := some 38) (v := ?_) (a' := ?_) #[true, true, true, true, true, true, true, true, true, true, true, true, true, true, true, true, true, false, false, false] rfl rfl (any_of HT_.out (by kernel_rfl)) (fun _ _ _ h => h) (Or.inl ⟨by rfl, ?_⟩) ?_ ?_
                rotate_left
                · intro w'
                  go_simp
                  with_reducible rfl
                rotate_left
                · simp only [Act.put, List.setIfInBounds_toArray, List.set_cons_zero, List.set_cons_succ, i64_w, i32_w]
                  rfl
                refine pure_ (i := 17) (N := some 41) (v := ?_) (a' := ?_) #[true, true, true, true, true, true, true, true, true, true, true, true, true, true, true, true, true, true, false, false] rfl rfl (any_of HT_.out (by kernel_rfl)) (fun _ _ _ h => h) (Or.inl ⟨by rfl, ?_⟩) ?_ ?_
                rotate_left
                · intro w'
                  go_simp
                  with_reducible rfl
                rotate_left
                · simp only [Act.put, List.setIfInBounds_toArray, List.set_cons_zero, List.set_cons_succ, i64_w, i32_w]
                  rfl
                refine pure_ (i := 18) (N := some 2) (v := ?_) (a' := ?_) #[true, true, true, true, true, true, true, true, true, true, true, true, true, true, true, true, true, true, true, false] rfl rfl (any_of HT_.out (by kernel_rfl)) (fun _ _ _ h => h) (Or.inl ⟨by rfl, ?_⟩) ?_ ?_
                rotate_left
                · intro w'
                  go_simp
                  with_reducible rfl
                rotate_left
                · simp only [Act.put, List.setIfInBounds_toArray, List.set_cons_zero, List.set_cons_succ, i64_w, i32_w]
                  rfl
                refine pure_ (i := 19) (N := some 3) (v := ?_) (a' := ?_) #[true, true, true, true, true, true, true, true, true, true, true, true, true, true, true, true, true, true, true, true] rfl rfl (any_of HT_.out (by kernel_rfl)) (fun _ _ _ h => h) (Or.inl ⟨by rfl, ?_⟩) ?_ ?_
                rotate_left
                · intro w'
                  go_simp
                  with_reducible rfl
                rotate_left
                · simp only [Act.put, List.setIfInBounds_toArray, List.set_cons_zero, List.set_cons_succ, i64_w, i32_w]
                  rfl
                refine done_ (done_of HT_.out (by kernel_rfl)) ?_
                try go_wp2
                go_ret2
                exact ⟨by first | rfl | (simp [errW_none, errW_some] <;> rfl) | (simp [*, errW_none, errW_some] <;> rfl), by repeat (first | (with_reducible first | exact HB.out | apply below_alloc | apply pw_below_drewN | apply below_drew1 | refine below_set ?_ GE231.out) | exact HB.out)⟩
              · rw [if_neg c17] at H
                exact absurd H (by simp)
            · rw [if_neg c16] at H
              exact absurd H (by simp)
          · rw [if_neg c14] at H
            exact absurd H (by simp)
        · rw [if_neg c12] at H
          exact absurd H (by simp)
end Go.Proofs.Ytnkeecogengfhaa.Px

namespace Go.Proofs.Ytnkeecogengfhaa.Px
open Go.RowKit Go.Proofs.YtnkeecogengfhaaW.PrintWords Go.Proofs.YtnkeecogengfhaaW.PrintLast Go.Proofs.YtnkeecogengfhaaW.PrintMore
attribute [local go_sem] max2_int min2_int max_two min_two max_three min_three max_four min_four
set_option linter.unusedVariables false
set_option linter.unusedSimpArgs false
def namedB (a r : Int) (d : ByteArray) : Bool := decide (1 ≤ a) && decide (a ≤ 64) && decide (1 ≤ r) && decide (r ≤ 1048576) && decide (d.size = 32)
def seatB (a : Int) : Bool := decide (1 ≤ a) && decide (a ≤ 64)
theorem post_seat_of (a : Int) : post_seat.f a = some (seatB a) := by
  unfold post_seat.f seatB
  by_cases h : a ≥ 1
  · rw [if_pos h]; have : 1 ≤ a := h; simp [this]
  · rw [if_neg h]; have : ¬ 1 ≤ a := h; simp [this]
theorem post_may_of (a r : Int) (d : ByteArray) : post_may.f a r d = some (namedB a r d) := by
  unfold post_may.f namedB
  rw [post_seat_of]
  simp only [Option.bind_some, seatB]
  by_cases h1 : 1 ≤ a <;> by_cases h2 : a ≤ 64 <;> by_cases h3 : 1 ≤ r <;> by_cases h4 : r ≤ 1048576 <;> simp [h1, h2, h3, h4]
  by_cases h5 : d.size = 32
  · simp [h5]
  · have : ¬ (d.size : Int) = 32 := by omega
    rw [decide_eq_false h5]; exact beq_eq_false_iff_ne.2 this
end Go.Proofs.Ytnkeecogengfhaa.Px

namespace Go.Proofs.Ytnkeecogengfhaa.Px
open Go.RowKit Go.Proofs.YtnkeecogengfhaaW.PrintWords Go.Proofs.YtnkeecogengfhaaW.PrintLast Go.Proofs.YtnkeecogengfhaaW.PrintMore
attribute [local go_sem] max2_int min2_int max_two min_two max_three min_three max_four min_four
set_option linter.unusedVariables false
set_option linter.unusedSimpArgs false
theorem digits_NumZ {x : Int} (h0 : 0 ≤ x) (h1 : x < 9223372036854775808) : digits_Num.f (IntKind.u64.wrap x) = some (numB x.toNat) := by
  rw [u64_wrap_of h0 (by omega), digits_Num.f, if_pos h0, if_pos (by omega)]
theorem namedB_iff (a r : Int) (d : ByteArray) : namedB a r d = true ↔ 1 ≤ a ∧ a ≤ 64 ∧ 1 ≤ r ∧ r ≤ 1048576 ∧ d.size = 32 := by
  unfold namedB; simp [and_assoc]
theorem seatB_iff (a : Int) : seatB a = true ↔ 1 ≤ a ∧ a ≤ 64 := by
  unfold seatB; simp
def sayW (a r v : Int) (d : ByteArray) : Bs := numL a.toNat ++ (numL r.toNat ++ (numL v.toNat ++ ofB d))
def ballotW (a r : Int) (d : ByteArray) : Bs := numL a.toNat ++ (numL r.toNat ++ ofB d)
def sayR (a r v : Int) (d : ByteArray) : ByteArray × Int := if namedB a r d = true ∧ seatB v = true then (toB (121 :: sayW a r v d), 0) else ((⟨#[]⟩ : ByteArray), 1)
def ballotR (a r : Int) (d : ByteArray) : ByteArray × Int := if namedB a r d = true then (toB (118 :: ballotW a r d), 0) else ((⟨#[]⟩ : ByteArray), 1)
theorem sayB_eq (a r v : Nat) (d : ByteArray) : ((((⟨#[121]⟩ : ByteArray) ++ numB a) ++ numB r) ++ numB v) ++ d = toB (121 :: (numL a ++ (numL r ++ (numL v ++ ofB d)))) := by
  apply ofB_inj
  simp only [ofB_append, ofB_toB, numB]
  show (([121] : Bs) ++ numL a ++ numL r ++ numL v ++ ofB d) = _
  simp
theorem ballotB_eq (a r : Nat) (d : ByteArray) : (((⟨#[118]⟩ : ByteArray) ++ numB a) ++ numB r) ++ d = toB (118 :: (numL a ++ (numL r ++ ofB d))) := by
  apply ofB_inj
  simp only [ofB_append, ofB_toB, numB]
  show (([118] : Bs) ++ numL a ++ numL r ++ ofB d) = _
  simp
theorem size_one (c : UInt8) : (⟨#[c]⟩ : ByteArray).size = 1 := rfl
theorem post_Say_ev (a r v : Int) (d : ByteArray) : Ev (fun k => post_Say.f k a r v d) (sayR a r v d) := by
  refine ev_bind_const (post_may_of _ _ _) ?_
  unfold sayR
  have bad : Ev (fun k => post_Say.j0 k true a r v d) ((⟨#[]⟩ : ByteArray), 1) := Ev.step (fun k => by rw [post_Say.j0]) (ev_pos rfl (Ev.now _))
  by_cases h : namedB a r d = true
  · refine ev_pos h (ev_bind_const (post_seat_of _) ?_)
    by_cases hv : seatB v = true
    · rw [if_pos ⟨h, hv⟩, hv]
      refine Ev.step (fun k => by rw [post_Say.j0]) ?_
      obtain ⟨h1, h2, h3, h4, h5⟩ := (namedB_iff _ _ _).1 h
      obtain ⟨h6, h7⟩ := (seatB_iff _).1 hv
      have s0 := numB_size (v := a.toNat) (by omega)
      have s1 := numB_size (v := r.toNat) (by omega)
      have s2 := numB_size (v := v.toNat) (by omega)
      refine ev_neg (by simp) (ev_bind_const (digits_NumZ (by omega) (by omega)) (ev_pos (by omega) (ev_bind_const (digits_NumZ (by omega) (by omega)) (ev_pos (by rw [ByteArray.size_append, size_one]; omega) (ev_bind_const (digits_NumZ (by omega) (by omega)) (ev_pos (by simp only [ByteArray.size_append, size_one]; omega) (ev_pos (by simp only [ByteArray.size_append, size_one]; omega) ?_)))))))
      rw [sayB_eq, ← sayW]
      exact Ev.now _
    · rw [if_neg (fun hh => hv hh.2)]
      rw [Bool.not_eq_true] at hv
      rw [hv]; exact bad
  · rw [if_neg (fun hh => h hh.1)]
    exact ev_neg h bad
theorem post_Ballot_of (a r : Int) (d : ByteArray) : post_Ballot.f a r d = some (ballotR a r d) := by
  unfold post_Ballot.f
  rw [post_may_of]
  simp only [Option.bind_some]
  unfold ballotR
  by_cases h : namedB a r d = true
  · rw [if_pos h, if_pos h]
    obtain ⟨h1, h2, h3, h4, h5⟩ := (namedB_iff _ _ _).1 h
    have s0 := numB_size (v := a.toNat) (by omega)
    have s1 := numB_size (v := r.toNat) (by omega)
    rw [digits_NumZ (by omega) (by omega), digits_NumZ (by omega) (by omega)]
    simp only [Option.bind_some]
    rw [if_pos (by omega), if_pos (by rw [ByteArray.size_append, size_one]; omega), if_pos (by simp only [ByteArray.size_append, size_one]; omega), ballotB_eq, ← ballotW]
  · rw [if_neg h, if_neg h]
theorem post_Kind_of (s : ByteArray) : post_Kind.f s = some ((((ofB s).head?.map (fun c => (c.toNat : Int))).getD 0)) := by
  unfold post_Kind.f
  rw [toList_ofB]
  rcases hq : ofB s with _ | ⟨c, t⟩
  · rfl
  · have hz : s.size = t.length + 1 := by rw [← ofB_length, hq]; rfl
    rw [if_neg (by simp), if_pos (by omega)]
    have := bt_ofB s 0
    rw [hq] at this
    rw [show ((0 : Nat) : Int) = 0 from rfl] at this
    rw [this]; rfl
def d32 : ByteArray := strOfNums (List.replicate 32 0)
theorem d32_size : d32.size = 32 := by
  rw [d32, strOfNums_toB, toB_size, List.length_map, List.length_replicate]
theorem shown18_ev : Ev (fun k => selvedgelaw18_shown.f k) true := by
  unfold selvedgelaw18_shown.f
  refine ev_pos (by omega) (ev_bind_const rfl ?_)
  have hn : namedB 1 2 d32 = true := by rw [namedB_iff]; exact ⟨by omega, by omega, by omega, by omega, d32_size⟩
  have hz : (strOfNums (List.replicate 32 0)).size = 32 := d32_size
  refine Ev.bind (post_Say_ev 1 2 3 d32) (ev_pos (by omega) ?_)
  have hs : sayR 1 2 3 d32 = (toB (121 :: sayW 1 2 3 d32), 0) := if_pos ⟨hn, by decide⟩
  have b3 : be 3 = [3] := by rw [be_pos (by omega)]; simp [be_zero]
  have e : (toB (121 :: sayW 1 2 3 d32)).toList = ((⟨#[121, 1, 1, 1, 2, 1, 3]⟩ : ByteArray) ++ strOfNums (List.replicate 32 0)).toList := by
    rw [toList_ofB, toList_ofB, ofB_toB, ofB_append]
    show 121 :: (numL 1 ++ (numL 2 ++ (numL 3 ++ ofB d32))) = _
    rw [numL, numL, numL, be_1, be_2, b3]
    rfl
  rw [hs]
  refine ev_pos e (ev_pos rfl (ev_bind_const (post_Kind_of _) (ev_pos rfl (ev_bind_const (post_Kind_of _) (ev_eq (Ev.now _) ?_)))))
  rw [ofB_toB]; rfl
end Go.Proofs.Ytnkeecogengfhaa.Px
