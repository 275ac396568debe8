/- Part 16 of 33 of the proof of the law PostBack: what is proved is the statement at the end of the last part; its conditions are those of the given row. -/
import Derived.Test.YtenbifjbeeobjaaZPostBackD
namespace Go.Proofs.Ytenbifjbeeobjaa.Px
open Go.RowKit Go.Proofs.YtenbifjbeeobjaaW.PrintWords Go.Proofs.YtenbifjbeeobjaaW.PrintLast Go.Proofs.YtenbifjbeeobjaaW.PrintMore
attribute [local go_sem] zC zE zJ zK zv zw zB zD
set_option linter.unusedVariables false
set_option linter.unusedSimpArgs false
def zag.j0 : Nat → Bool → Int → Int → Int → ByteArray → Option (ByteArray × Int)
  | 0, _, _, _, _, _ => none
  | k + 1, x17, x103000, x103001, x103002, x103003 => if x17 = true then (some ((⟨#[]⟩ : ByteArray), 1)) else ((zO.f (IntKind.u64.wrap (x103000))).bind fun t105 => (if 1 + t105.size ≤ 9223372036854775807 then ((zO.f (IntKind.u64.wrap (x103001))).bind fun t106 => (if ((⟨#[121]⟩ : ByteArray) ++ t105).size + t106.size ≤ 9223372036854775807 then ((zO.f (IntKind.u64.wrap (x103002))).bind fun t107 => (if (((⟨#[121]⟩ : ByteArray) ++ t105) ++ t106).size + t107.size ≤ 9223372036854775807 then (if ((((⟨#[121]⟩ : ByteArray) ++ t105) ++ t106) ++ t107).size + x103003.size ≤ 9223372036854775807 then (some (((((⟨#[121]⟩ : ByteArray) ++ t105) ++ t106) ++ t107) ++ x103003, 0)) else (none)) else (none))) else (none))) else (none)))
def zag.f (k : Nat) (a0_0 : Int) (a0_1 : Int) (a0_2 : Int) (a0_3 : ByteArray) : Option (ByteArray × Int) := (za7.f a0_0 a0_1 a0_3).bind fun t103 => (if t103 = true then ((zaQ.f a0_2).bind fun t104 => (zag.j0 k (!t104) a0_0 a0_1 a0_2 a0_3)) else (zag.j0 k true a0_0 a0_1 a0_2 a0_3))
def zag.T3 : Bool × List (List Nat × List Nat) := (true, [([], []), ([0], [0]), ([1], [1]), ([2], [2]), ([3], [3]), ([], []), ([5], [5]), ([6], [6]), ([7, 3], [7]), ([4, 8], [4, 8]), ([], []), ([10], [10]), ([11], [11]), ([12, 8], [12]), ([9, 13], [9, 13]), ([], []), ([15], [15]), ([14, 16], [14, 16]), ([17, 13, 0, 1, 2, 3, 4, 5, 6, 7, 8, 9, 10, 11, 12, 13, 14, 15, 16, 17], [17]), ([18, 0, 1, 2, 3, 4, 5, 6, 7, 8, 9, 10, 11, 12, 13, 14, 15, 16, 17, 18], [])])
def zag.B3 : List Nat := [0, 1, 3, 7, 15, 0, 32, 96, 239, 511, 0, 1024, 3072, 7663, 16383, 0, 32768, 131071, 262143, 524287]
theorem zag.tab3 : zb3 .any (ze7 Try.f21 3) = zag.T3 := by kernel_rfl
theorem zag.bits3 : zbZ zag.T3.2 zag.B3 = true := by kernel_rfl
set_option maxHeartbeats 8000000 in
set_option maxRecDepth 100000 in
theorem zag.calls (k : Nat) (a0_0 : Int) (a0_1 : Int) (a0_2 : Int) (a0_3 : ByteArray) (r1 : ByteArray) (r2 : Int) (w : World) (h : zag.f k a0_0 a0_1 a0_2 a0_3 = some (r1, r2)) :
    Calls Try.prog 21 #[.agg #[.int .i64 a0_0, .int .i64 a0_1, .int .i64 a0_2, .string a0_3]] w fun e w' => e = .returned (.tuple #[.string r1, .int .i64 r2]) ∧ Below w.heap.size w w' := by
  have hu42 := Try.underlying42
  have HB := zb.mk (Below.refl w.heap.size w)
  have H : ((za7.f a0_0 a0_1 a0_3).bind fun t103 => (if t103 = true then ((zaQ.f a0_2).bind fun t104 => (zag.j0 k (!t104) a0_0 a0_1 a0_2 a0_3)) else (zag.j0 k true a0_0 a0_1 a0_2 a0_3))) = some (r1, r2) := h
  clear h
  have HC2 := zb.mk H
  clear H
  go_enter Try.func21, Try.ntmps21
  go_upto_region 1 with (first | ((with_reducible refine zq (N := 1) rfl ?_); refine zp ?hg (N := 1) ?hd (cs := #[.int .i64 a0_0, .int .i64 a0_1, .int .i64 a0_2, .string a0_3]) (t := 42) ?hr ?_; (case hd => rfl); (case hg => rfl); (case hr => first | (go_simp; done) | (go_simp; rfl)); intro gb102 hg w3 hbox hb; have n0_ := zb.mk (zl (by repeat (first | (with_reducible first | exact HB.out | apply zi | apply zd | apply zj) | exact HB.out)) hb); have n1_ := zb.mk (hbox); have n2_ := zb.mk ((by rw [hg]; exact (zo (by repeat (first | (with_reducible first | exact HB.out | apply zi | apply zd | apply zj) | exact HB.out))) : w.heap.size ≤ gb102)); have n3_ := zb.mk ((by rw [hg]; exact (zo (by repeat (first | (with_reducible first | exact HB.out | apply zi | apply zd | apply zj) | exact HB.out))) : w.heap.size ≤ gb102)); clear HB; have HB := n0_; have BK102 := n1_; have GW102 := n2_; have GE102 := n3_; clear n0_ n1_ n2_ n3_; clear hb hbox hg))
  (try simp only [Act.put, List.setIfInBounds_toArray, List.set_cons_zero, List.set_cons_succ])
  go_cut [17] (fun v17 wc => ∃ (kq : Nat) (x17_1 : Bool), v17 = .bool x17_1 ∧ zb (zag.j0 kq x17_1 a0_0 a0_1 a0_2 a0_3 = some (r1, r2)) ∧ zb (kq ≤ k) ∧ zb (wc.heap[gb102]? = some (.cells #[.int .i64 a0_0, .int .i64 a0_1, .int .i64 a0_2, .string a0_3] 42 (0, 0))) ∧ zb (Below w.heap.size w wc))
  case first =>
    have H := HC2.out
    clear HC2
    replace H := Option.bind_eq_some_iff.mp H
    obtain ⟨t103, A40, H⟩ := H
    replace H : (if t103 = true then ((zaQ.f a0_2).bind fun t104 => (zag.j0 k (!t104) a0_0 a0_1 a0_2 a0_3)) else (zag.j0 k true a0_0 a0_1 a0_2 a0_3)) = some (r1, r2) := H
    have A4 := zb.mk A40
    clear A40
    by_cases c5 : t103 = true
    · subst c5
      have H1 : ((zaQ.f a0_2).bind fun t104 => (zag.j0 k (!t104) a0_0 a0_1 a0_2 a0_3)) = some (r1, r2) := by rw [if_pos rfl] at H; exact H
      clear H
      have H := H1
      clear H1
      replace H := Option.bind_eq_some_iff.mp H
      obtain ⟨t104, A60, H⟩ := H
      replace H : (zag.j0 k (!t104) a0_0 a0_1 a0_2 a0_3) = some (r1, r2) := H
      have A6 := zb.mk A60
      clear A60
      have H' := zb.mk H
      clear H
      have hcz7_0 : w3.cell? ⟨gb102, 0, none⟩ = some (.int .i64 a0_0) := (zc BK102.out 0).trans rfl
      have hcz7_1 : w3.cell? ⟨gb102, 1, none⟩ = some (.int .i64 a0_1) := (zc BK102.out 1).trans rfl
      have hcz7_2 : w3.cell? ⟨gb102, 2, none⟩ = some (.int .i64 a0_2) := (zc BK102.out 2).trans rfl
      have hcz7_3 : w3.cell? ⟨gb102, 3, none⟩ = some (.string a0_3) := (zc BK102.out 3).trans rfl
      have hfz7_0 := za BK102.out 0
      have hfz7_1 := za BK102.out 1
      have hfz7_2 := za BK102.out 2
      have hfz7_3 := za BK102.out 3
      go_wp2_with (first | ((with_reducible refine zu (f := 38) rfl ?_); refine zQ (some 10) rfl rfl Try.func38 (by kernel_rfl) rfl #[.int .i64 a0_0, .int .i64 a0_1, .string a0_3] rfl (by (try simp only [List.map_toArray, List.map_cons, List.map_nil]); first | done | rfl | (simp only [List.length_drop, List.length_take]; rfl)) ?_; (with_reducible refine (za7.calls a0_0 a0_1 a0_3 true _ A4.out).mono ?_); rintro e w' ⟨rfl, ⟨nd, rfl⟩⟩; refine ⟨_, rfl, ?_⟩) | (go_at_call 39; (with_reducible refine (zaQ.calls a0_2 t104 _ A6.out).mono ?_); rintro e w' ⟨rfl, ⟨nd, rfl⟩⟩))
      go_meet
      case rel => exact ⟨_, (!t104), (by first | rfl | (simp; done) | (simp [*]; done)), H', ⟨by first | omega | exact Nat.le_refl _⟩, ⟨by (with_reducible repeat (first | refine ze ?_ _ | refine zh ?_ | refine zf ?_ _)); exact BK102.out⟩, ⟨by repeat (first | (with_reducible first | exact HB.out | apply zi | apply zd | apply zj | refine zg ?_ GE102.out) | exact HB.out)⟩⟩
    · replace c5 := Bool.eq_false_iff.mpr c5
      subst c5
      have H1 : (zag.j0 k true a0_0 a0_1 a0_2 a0_3) = some (r1, r2) := by rw [if_neg (show ¬ (false = true) by decide)] at H; exact H
      clear H
      have H := H1
      clear H1
      have H' := zb.mk H
      clear H
      have hcz8_0 : w3.cell? ⟨gb102, 0, none⟩ = some (.int .i64 a0_0) := (zc BK102.out 0).trans rfl
      have hcz8_1 : w3.cell? ⟨gb102, 1, none⟩ = some (.int .i64 a0_1) := (zc BK102.out 1).trans rfl
      have hcz8_2 : w3.cell? ⟨gb102, 2, none⟩ = some (.int .i64 a0_2) := (zc BK102.out 2).trans rfl
      have hcz8_3 : w3.cell? ⟨gb102, 3, none⟩ = some (.string a0_3) := (zc BK102.out 3).trans rfl
      have hfz8_0 := za BK102.out 0
      have hfz8_1 := za BK102.out 1
      have hfz8_2 := za BK102.out 2
      have hfz8_3 := za BK102.out 3
      go_wp2_with (first | ((with_reducible refine zu (f := 38) rfl ?_); refine zQ (some 10) rfl rfl Try.func38 (by kernel_rfl) rfl #[.int .i64 a0_0, .int .i64 a0_1, .string a0_3] rfl (by (try simp only [List.map_toArray, List.map_cons, List.map_nil]); first | done | rfl | (simp only [List.length_drop, List.length_take]; rfl)) ?_; (with_reducible refine (za7.calls a0_0 a0_1 a0_3 false _ A4.out).mono ?_); rintro e w' ⟨rfl, ⟨nd, rfl⟩⟩; refine ⟨_, rfl, ?_⟩))
      go_meet
      case rel => exact ⟨_, (true), (by first | rfl | (simp; done) | (simp [*]; done)), H', ⟨by first | omega | exact Nat.le_refl _⟩, ⟨by (with_reducible repeat (first | refine ze ?_ _ | refine zh ?_ | refine zf ?_ _)); exact BK102.out⟩, ⟨by repeat (first | (with_reducible first | exact HB.out | apply zi | apply zd | apply zj | refine zg ?_ GE102.out) | exact HB.out)⟩⟩
  case rest =>
    clear HC2
    try clear c2
    try clear p2
    try clear c3
    try clear c5
    try clear hcz7_0
    try clear hcz7_1
    try clear hcz7_2
    try clear hcz7_3
    try clear hcz8_0
    try clear hcz8_1
    try clear hcz8_2
    try clear hcz8_3
    try clear hfz7_0
    try clear hfz7_1
    try clear hfz7_2
    try clear hfz7_3
    try clear hfz8_0
    try clear hfz8_1
    try clear hfz8_2
    try clear hfz8_3
    obtain ⟨kq, x17_1, rfl, HA, HJ1, BK102, HB⟩ := hcut
    cases kq with
    | zero => exact absurd HA.out (by simp [zag.j0])
    | succ kj1 =>
      have H := HA.out
      clear HA
      simp only [zag.j0] at H
      by_cases c9 : x17_1 = true
      · subst c9
        have H1 : (some ((⟨#[]⟩ : ByteArray), 1)) = some (r1, r2) := by rw [if_pos rfl] at H; exact H
        clear H
        have H := H1
        clear H1
        simp only [Option.some.injEq, Prod.mk.injEq] at H
        obtain ⟨rfl, rfl⟩ := H
        go_wp2
        go_ret2
        exact ⟨by first | rfl | (simp [zt, zr] <;> rfl) | (simp [*, zt, zr] <;> rfl), by repeat (first | (with_reducible first | exact HB.out | apply zi | apply zd | apply zj | refine zg ?_ GE102.out) | exact HB.out)⟩
      · replace c9 := Bool.eq_false_iff.mpr c9
        subst c9
        have H1 : ((zO.f (IntKind.u64.wrap (a0_0))).bind fun t105 => (if 1 + t105.size ≤ 9223372036854775807 then ((zO.f (IntKind.u64.wrap (a0_1))).bind fun t106 => (if ((⟨#[121]⟩ : ByteArray) ++ t105).size + t106.size ≤ 9223372036854775807 then ((zO.f (IntKind.u64.wrap (a0_2))).bind fun t107 => (if (((⟨#[121]⟩ : ByteArray) ++ t105) ++ t106).size + t107.size ≤ 9223372036854775807 then (if ((((⟨#[121]⟩ : ByteArray) ++ t105) ++ t106) ++ t107).size + a0_3.size ≤ 9223372036854775807 then (some (((((⟨#[121]⟩ : ByteArray) ++ t105) ++ t106) ++ t107) ++ a0_3, 0)) else (none)) else (none))) else (none))) else (none))) = some (r1, r2) := by rw [if_neg (show ¬ (false = true) by decide)] at H; exact H
        clear H
        have H := H1
        clear H1
        replace H := Option.bind_eq_some_iff.mp H
        obtain ⟨t105, A100, H⟩ := H
        replace H : (if 1 + t105.size ≤ 9223372036854775807 then ((zO.f (IntKind.u64.wrap (a0_1))).bind fun t106 => (if ((⟨#[121]⟩ : ByteArray) ++ t105).size + t106.size ≤ 9223372036854775807 then ((zO.f (IntKind.u64.wrap (a0_2))).bind fun t107 => (if (((⟨#[121]⟩ : ByteArray) ++ t105) ++ t106).size + t107.size ≤ 9223372036854775807 then (if ((((⟨#[121]⟩ : ByteArray) ++ t105) ++ t106) ++ t107).size + a0_3.size ≤ 9223372036854775807 then (some (((((⟨#[121]⟩ : ByteArray) ++ t105) ++ t106) ++ t107) ++ a0_3, 0)) else (none)) else (none))) else (none))) else (none)) = some (r1, r2) := H
        have A10 := zb.mk A100
        clear A100
        by_cases c11 : 1 + t105.size ≤ 9223372036854775807
        · rw [if_pos c11] at H
          have c11b0 := eq_true c11
          have c11b1 : decide (1 + t105.size ≤ 9223372036854775807) = true := decide_eq_true c11
          try have c11b2 : (9223372036854775807 < 1 + t105.size) = False := eq_false (Nat.not_lt.2 c11)
          replace H := Option.bind_eq_some_iff.mp H
          obtain ⟨t106, A120, H⟩ := H
          replace H : (if ((⟨#[121]⟩ : ByteArray) ++ t105).size + t106.size ≤ 9223372036854775807 then ((zO.f (IntKind.u64.wrap (a0_2))).bind fun t107 => (if (((⟨#[121]⟩ : ByteArray) ++ t105) ++ t106).size + t107.size ≤ 9223372036854775807 then (if ((((⟨#[121]⟩ : ByteArray) ++ t105) ++ t106) ++ t107).size + a0_3.size ≤ 9223372036854775807 then (some (((((⟨#[121]⟩ : ByteArray) ++ t105) ++ t106) ++ t107) ++ a0_3, 0)) else (none)) else (none))) else (none)) = some (r1, r2) := H
          have A12 := zb.mk A120
          clear A120
          by_cases c13 : ((⟨#[121]⟩ : ByteArray) ++ t105).size + t106.size ≤ 9223372036854775807
          · rw [if_pos c13] at H
            have c13b0 := eq_true c13
            have c13b1 : decide (((⟨#[121]⟩ : ByteArray) ++ t105).size + t106.size ≤ 9223372036854775807) = true := decide_eq_true c13
            try have c13b2 : (9223372036854775807 < ((⟨#[121]⟩ : ByteArray) ++ t105).size + t106.size) = False := eq_false (Nat.not_lt.2 c13)
            try (have c13b3 := c13; simp [ByteArray.size_append, (show (⟨#[121]⟩ : ByteArray).size = 1 from rfl)] at c13b3; have c13b4 := eq_false (Nat.not_lt.2 c13b3); clear c13b3)
            replace H := Option.bind_eq_some_iff.mp H
            obtain ⟨t107, A140, H⟩ := H
            replace H : (if (((⟨#[121]⟩ : ByteArray) ++ t105) ++ t106).size + t107.size ≤ 9223372036854775807 then (if ((((⟨#[121]⟩ : ByteArray) ++ t105) ++ t106) ++ t107).size + a0_3.size ≤ 9223372036854775807 then (some (((((⟨#[121]⟩ : ByteArray) ++ t105) ++ t106) ++ t107) ++ a0_3, 0)) else (none)) else (none)) = some (r1, r2) := H
            have A14 := zb.mk A140
            clear A140
            by_cases c15 : (((⟨#[121]⟩ : ByteArray) ++ t105) ++ t106).size + t107.size ≤ 9223372036854775807
            · rw [if_pos c15] at H
              have c15b0 := eq_true c15
              have c15b1 : decide ((((⟨#[121]⟩ : ByteArray) ++ t105) ++ t106).size + t107.size ≤ 9223372036854775807) = true := decide_eq_true c15
              try have c15b2 : (9223372036854775807 < (((⟨#[121]⟩ : ByteArray) ++ t105) ++ t106).size + t107.size) = False := eq_false (Nat.not_lt.2 c15)
              try (have c15b3 := c15; simp [ByteArray.size_append, (show (⟨#[121]⟩ : ByteArray).size = 1 from rfl)] at c15b3; have c15b4 := eq_false (Nat.not_lt.2 c15b3); clear c15b3)
              by_cases c16 : ((((⟨#[121]⟩ : ByteArray) ++ t105) ++ t106) ++ t107).size + a0_3.size ≤ 9223372036854775807
              · rw [if_pos c16] at H
                have c16b0 := eq_true c16
                have c16b1 : decide (((((⟨#[121]⟩ : ByteArray) ++ t105) ++ t106) ++ t107).size + a0_3.size ≤ 9223372036854775807) = true := decide_eq_true c16
                try have c16b2 : (9223372036854775807 < ((((⟨#[121]⟩ : ByteArray) ++ t105) ++ t106) ++ t107).size + a0_3.size) = False := eq_false (Nat.not_lt.2 c16)
                try (have c16b3 := c16; simp [ByteArray.size_append, (show (⟨#[121]⟩ : ByteArray).size = 1 from rfl)] at c16b3; have c16b4 := eq_false (Nat.not_lt.2 c16b3); clear c16b3)
                simp only [Option.some.injEq, Prod.mk.injEq] at H
                obtain ⟨rfl, rfl⟩ := H
                try go_wp2
                have n0_ := zb.mk (zh BK102.out)
                have n1_ := zb.mk (zj HB.out)
                clear BK102
                clear HB
                have BK102 := n0_
                have HB := n1_
                clear n0_ n1_
                refine zdq (n := 20) (S := fun w' => w'.cell? ⟨gb102, 0, none⟩ = some (.int .i64 a0_0) ∧ w'.cell? ⟨gb102, 1, none⟩ = some (.int .i64 a0_1) ∧ w'.cell? ⟨gb102, 2, none⟩ = some (.int .i64 a0_2) ∧ w'.cell? ⟨gb102, 3, none⟩ = some (.string a0_3)) (ds := []) #[false, false, false, false, false, false, false, false, false, false, false, false, false, false, false, false, false, false, false, false] (by kernel_rfl) rfl rfl ⟨(zc BK102.out 0).trans rfl, (zc BK102.out 1).trans rfl, (zc BK102.out 2).trans rfl, (zc BK102.out 3).trans rfl⟩ (fun hHeld => ?_); refine zbW zag.tab3 zag.bits3 (fun HT_ HW_ => ?_)
                generalize wc.drew = w17 at BK102 HB hHeld ⊢
                refine zal (i := 0) (N := some 18) (v := ?_) (a' := ?_) #[true, false, false, false, false, false, false, false, false, false, false, false, false, false, false, false, false, false, false, false] rfl rfl (z8 HT_.out (by kernel_rfl)) (fun _ _ _ h => h) (Or.inl ⟨by rfl, ?_⟩) ?_ ?_
                rotate_left
                · intro w'
                  go_simp
                  with_reducible rfl
                rotate_left
                · simp only [Act.put, List.setIfInBounds_toArray, List.set_cons_zero, List.set_cons_succ, zU, zW]
                  rfl
                refine zal (i := 5) (N := some 23) (v := ?_) (a' := ?_) #[true, false, false, false, false, true, false, false, false, false, false, false, false, false, false, false, false, false, false, false] rfl rfl (z8 HT_.out (by kernel_rfl)) (fun _ _ _ h => h) (Or.inl ⟨by rfl, ?_⟩) ?_ ?_
                rotate_left
                · intro w'
                  go_simp
                  with_reducible rfl
                rotate_left
                · simp only [Act.put, List.setIfInBounds_toArray, List.set_cons_zero, List.set_cons_succ, zU, zW]
                  rfl
                refine zal (i := 10) (N := some 28) (v := ?_) (a' := ?_) #[true, false, false, false, false, true, false, false, false, false, true, false, false, false, false, false, false, false, false, false] rfl rfl (z8 HT_.out (by kernel_rfl)) (fun _ _ _ h => h) (Or.inl ⟨by rfl, ?_⟩) ?_ ?_
                rotate_left
                · intro w'
                  go_simp
                  with_reducible rfl
                rotate_left
                · simp only [Act.put, List.setIfInBounds_toArray, List.set_cons_zero, List.set_cons_succ, zU, zW]
                  rfl
                refine zal (i := 15) (N := some 33) (v := ?_) (a' := ?_) #[true, false, false, false, false, true, false, false, false, false, true, false, false, false, false, true, false, false, false, false] rfl rfl (z8 HT_.out (by kernel_rfl)) (fun _ _ _ h => h) (Or.inl ⟨by rfl, ?_⟩) ?_ ?_
                rotate_left
                · intro w'
                  go_simp
                  with_reducible rfl
                rotate_left
                · simp only [Act.put, List.setIfInBounds_toArray, List.set_cons_zero, List.set_cons_succ, zU, zW]
                  rfl
                refine take_ (i := 1) (N := some 19) (v := ?_) (a' := ?_) #[true, true, false, false, false, true, false, false, false, false, true, false, false, false, false, true, false, false, false, false] rfl rfl (zaP HT_.out HW_.out (by kernel_rfl)) (fun _ _ _ h => h) (Or.inl ⟨by rfl, ?_⟩) hHeld ?_ ?_
                rotate_left
                · rintro w' ⟨s0, s1, s2, s3⟩
                  go_simp
                  with_reducible rfl
                rotate_left
                · simp only [Act.put, List.setIfInBounds_toArray, List.set_cons_zero, List.set_cons_succ, zU, zW]
                  rfl
                refine zal (i := 2) (N := some 20) (v := ?_) (a' := ?_) #[true, true, true, false, false, true, false, false, false, false, true, false, false, false, false, true, false, false, false, false] rfl rfl (z8 HT_.out (by kernel_rfl)) (fun _ _ _ h => h) (Or.inl ⟨by rfl, ?_⟩) ?_ ?_
                rotate_left
                · intro w'
                  go_simp
                  with_reducible rfl
                rotate_left
                · simp only [Act.put, List.setIfInBounds_toArray, List.set_cons_zero, List.set_cons_succ, zU, zW]
                  rfl
                refine take_ (i := 6) (N := some 24) (v := ?_) (a' := ?_) #[true, true, true, false, false, true, true, false, false, false, true, false, false, false, false, true, false, false, false, false] rfl rfl (zaP HT_.out HW_.out (by kernel_rfl)) (fun _ _ _ h => h) (Or.inl ⟨by rfl, ?_⟩) hHeld ?_ ?_
                rotate_left
                · rintro w' ⟨s0, s1, s2, s3⟩
                  go_simp
                  with_reducible rfl
                rotate_left
                · simp only [Act.put, List.setIfInBounds_toArray, List.set_cons_zero, List.set_cons_succ, zU, zW]
                  rfl
                refine zal (i := 7) (N := some 25) (v := ?_) (a' := ?_) #[true, true, true, false, false, true, true, true, false, false, true, false, false, false, false, true, false, false, false, false] rfl rfl (z8 HT_.out (by kernel_rfl)) (fun _ _ _ h => h) (Or.inl ⟨by rfl, ?_⟩) ?_ ?_
                rotate_left
                · intro w'
                  go_simp
                  with_reducible rfl
                rotate_left
                · simp only [Act.put, List.setIfInBounds_toArray, List.set_cons_zero, List.set_cons_succ, zU, zW]
                  rfl
                refine take_ (i := 11) (N := some 29) (v := ?_) (a' := ?_) #[true, true, true, false, false, true, true, true, false, false, true, true, false, false, false, true, false, false, false, false] rfl rfl (zaP HT_.out HW_.out (by kernel_rfl)) (fun _ _ _ h => h) (Or.inl ⟨by rfl, ?_⟩) hHeld ?_ ?_
                rotate_left
                · rintro w' ⟨s0, s1, s2, s3⟩
                  go_simp
                  with_reducible rfl
                rotate_left
                · simp only [Act.put, List.setIfInBounds_toArray, List.set_cons_zero, List.set_cons_succ, zU, zW]
                  rfl
                refine zal (i := 12) (N := some 30) (v := ?_) (a' := ?_) #[true, true, true, false, false, true, true, true, false, false, true, true, true, false, false, true, false, false, false, false] rfl rfl (z8 HT_.out (by kernel_rfl)) (fun _ _ _ h => h) (Or.inl ⟨by rfl, ?_⟩) ?_ ?_
                rotate_left
                · intro w'
                  go_simp
                  with_reducible rfl
                rotate_left
                · simp only [Act.put, List.setIfInBounds_toArray, List.set_cons_zero, List.set_cons_succ, zU, zW]
                  rfl
                refine take_ (i := 16) (N := some 34) (v := ?_) (a' := ?_) #[true, true, true, false, false, true, true, true, false, false, true, true, true, false, false, true, true, false, false, false] rfl rfl (zaP HT_.out HW_.out (by kernel_rfl)) (fun _ _ _ h => h) (Or.inl ⟨by rfl, ?_⟩) hHeld ?_ ?_
                rotate_left
                · rintro w' ⟨s0, s1, s2, s3⟩
                  go_simp
                  with_reducible rfl
                rotate_left
                · simp only [Act.put, List.setIfInBounds_toArray, List.set_cons_zero, List.set_cons_succ, zU, zW]
                  rfl
                refine zdL (i := 3) (N := some 21) #[true, true, true, true, false, true, true, true, false, false, true, true, true, false, false, true, true, false, false, false] rfl rfl (zbO HT_.out (by kernel_rfl)) (by decide) (fun K hK => ?_)
                refine zcp Try.func50 (by kernel_rfl) rfl #[.int .u64 (IntKind.u64.wrap (a0_0))] (by rfl) rfl rfl (by (try simp only [List.map_toArray, List.map_cons, List.map_nil]); first | done | rfl | (simp only [List.length_drop, List.length_take]; rfl)) ?_
                with_reducible refine (zO.calls (IntKind.u64.wrap (a0_0)) t105 _ A10.out).mono ?_
                rintro e w18 ⟨rfl, hb⟩
                refine ⟨_, rfl, ?_⟩
                have n0_ := zb.mk (zk (g := gb102) (o := .cells #[.int .i64 a0_0, .int .i64 a0_1, .int .i64 a0_2, .string a0_3] 42 (0, 0)) (by (with_reducible repeat (first | refine ze ?_ _ | refine zh ?_ | refine zf ?_ _)); exact BK102.out) hb)
                have n1_ := zb.mk (zl (by repeat (first | (with_reducible first | exact HB.out | apply zi | apply zd | apply zj | refine zg ?_ GE102.out) | exact HB.out)) hb)
                clear BK102
                clear HB
                have BK102 := n0_
                have HB := n1_
                clear n0_ n1_
                (try clear hb)
                (try clear hb2)
                (try clear hk)
                (try clear hi)
                refine hK.out _ _ ⟨(zc BK102.out 0).trans rfl, (zc BK102.out 1).trans rfl, (zc BK102.out 2).trans rfl, (zc BK102.out 3).trans rfl⟩ (fun hHeld => ?_)
                clear hK K
                refine zcq (a' := ?_) ?_ ?_
                rotate_left
                · show Act.put _ (some 21) _ = _
                  simp only [Act.put, List.setIfInBounds_toArray, List.set_cons_zero, List.set_cons_succ, zU, zW]
                  rfl
                refine zal (i := 4) (N := some 22) (v := ?_) (a' := ?_) #[true, true, true, true, true, true, true, true, false, false, true, true, true, false, false, true, true, false, false, false] rfl rfl (z8 HT_.out (by kernel_rfl)) (fun _ _ _ h => h) (Or.inl ⟨by rfl, ?_⟩) ?_ ?_
                rotate_left
                · intro w'
                  go_simp
                  with_reducible rfl
                rotate_left
                · simp only [Act.put, List.setIfInBounds_toArray, List.set_cons_zero, List.set_cons_succ, zU, zW]
                  rfl
                refine zdL (i := 8) (N := some 26) #[true, true, true, true, true, true, true, true, true, false, true, true, true, false, false, true, true, false, false, false] rfl rfl (zbO HT_.out (by kernel_rfl)) (by decide) (fun K hK => ?_)
                refine zcp Try.func50 (by kernel_rfl) rfl #[.int .u64 (IntKind.u64.wrap (a0_1))] (by rfl) rfl rfl (by (try simp only [List.map_toArray, List.map_cons, List.map_nil]); first | done | rfl | (simp only [List.length_drop, List.length_take]; rfl)) ?_
                with_reducible refine (zO.calls (IntKind.u64.wrap (a0_1)) t106 _ A12.out).mono ?_
                rintro e w19 ⟨rfl, hb⟩
                refine ⟨_, rfl, ?_⟩
                have n0_ := zb.mk (zk (g := gb102) (o := .cells #[.int .i64 a0_0, .int .i64 a0_1, .int .i64 a0_2, .string a0_3] 42 (0, 0)) (by (with_reducible repeat (first | refine ze ?_ _ | refine zh ?_ | refine zf ?_ _)); exact BK102.out) hb)
                have n1_ := zb.mk (zl (by repeat (first | (with_reducible first | exact HB.out | apply zi | apply zd | apply zj | refine zg ?_ GE102.out) | exact HB.out)) hb)
                clear BK102
                clear HB
                have BK102 := n0_
                have HB := n1_
                clear n0_ n1_
                (try clear hb)
                (try clear hb2)
                (try clear hk)
                (try clear hi)
                refine hK.out _ _ ⟨(zc BK102.out 0).trans rfl, (zc BK102.out 1).trans rfl, (zc BK102.out 2).trans rfl, (zc BK102.out 3).trans rfl⟩ (fun hHeld => ?_)
                clear hK K
                refine zcq (a' := ?_) ?_ ?_
                rotate_left
                · show Act.put _ (some 26) _ = _
                  simp only [Act.put, List.setIfInBounds_toArray, List.set_cons_zero, List.set_cons_succ, zU, zW]
                  rfl
                refine zal (i := 9) (N := some 27) (v := ?_) (a' := ?_) #[true, true, true, true, true, true, true, true, true, true, true, true, true, false, false, true, true, false, false, false] rfl rfl (z8 HT_.out (by kernel_rfl)) (fun _ _ _ h => h) (Or.inl ⟨by rfl, ?_⟩) ?_ ?_
                rotate_left
                · intro w'
                  go_simp
                  with_reducible rfl
                rotate_left
                · simp only [Act.put, List.setIfInBounds_toArray, List.set_cons_zero, List.set_cons_succ, zU, zW]
                  rfl
                refine zdL (i := 13) (N := some 31) #[true, true, true, true, true, true, true, true, true, true, true, true, true, true, false, true, true, false, false, false] rfl rfl (zbO HT_.out (by kernel_rfl)) (by decide) (fun K hK => ?_)
                refine zcp Try.func50 (by kernel_rfl) rfl #[.int .u64 (IntKind.u64.wrap (a0_2))] (by rfl) rfl rfl (by (try simp only [List.map_toArray, List.map_cons, List.map_nil]); first | done | rfl | (simp only [List.length_drop, List.length_take]; rfl)) ?_
                with_reducible refine (zO.calls (IntKind.u64.wrap (a0_2)) t107 _ A14.out).mono ?_
                rintro e w20 ⟨rfl, hb⟩
                refine ⟨_, rfl, ?_⟩
                have n0_ := zb.mk (zk (g := gb102) (o := .cells #[.int .i64 a0_0, .int .i64 a0_1, .int .i64 a0_2, .string a0_3] 42 (0, 0)) (by (with_reducible repeat (first | refine ze ?_ _ | refine zh ?_ | refine zf ?_ _)); exact BK102.out) hb)
                have n1_ := zb.mk (zl (by repeat (first | (with_reducible first | exact HB.out | apply zi | apply zd | apply zj | refine zg ?_ GE102.out) | exact HB.out)) hb)
                clear BK102
                clear HB
                have BK102 := n0_
                have HB := n1_
                clear n0_ n1_
                (try clear hb)
                (try clear hb2)
                (try clear hk)
                (try clear hi)
                refine hK.out _ _ ⟨(zc BK102.out 0).trans rfl, (zc BK102.out 1).trans rfl, (zc BK102.out 2).trans rfl, (zc BK102.out 3).trans rfl⟩ (fun hHeld => ?_)
                clear hK K
                refine zcq (a' := ?_) ?_ ?_
                rotate_left
                · show Act.put _ (some 31) _ = _
                  simp only [Act.put, List.setIfInBounds_toArray, List.set_cons_zero, List.set_cons_succ, zU, zW]
                  rfl
                refine zal (i := 14) (N := some 32) (v := ?_) (a' := ?_) #[true, true, true, true, true, true, true, true, true, true, true, true, true, true, true, true, true, false, false, false] rfl rfl (z8 HT_.out (by kernel_rfl)) (fun _ _ _ h => h) (Or.inl ⟨by rfl, ?_⟩) ?_ ?_
                rotate_left
                · intro w'
                  go_simp
                  with_reducible rfl
                rotate_left
                · simp only [Act.put, List.setIfInBounds_toArray, List.set_cons_zero, List.set_cons_succ, zU, zW]
                  rfl
                refine zal (i := 17) (N := some 35) (v := ?_) (a' := ?_) #[true, true, true, true, true, true, true, true, true, true, true, true, true, true, true, true, true, true, false, false] rfl rfl (z8 HT_.out (by kernel_rfl)) (fun _ _ _ h => h) (Or.inl ⟨by rfl, ?_⟩) ?_ ?_
                rotate_left
                · intro w'
                  go_simp
                  with_reducible rfl
                rotate_left
                · simp only [Act.put, List.setIfInBounds_toArray, List.set_cons_zero, List.set_cons_succ, zU, zW]
                  rfl
                refine zal (i := 18) (N := some 2) (v := ?_) (a' := ?_) #[true, true, true, true, true, true, true, true, true, true, true, true, true, true, true, true, true, true, true, false] rfl rfl (z8 HT_.out (by kernel_rfl)) (fun _ _ _ h => h) (Or.inl ⟨by rfl, ?_⟩) ?_ ?_
                rotate_left
                · intro w'
                  go_simp
                  with_reducible rfl
                rotate_left
                · simp only [Act.put, List.setIfInBounds_toArray, List.set_cons_zero, List.set_cons_succ, zU, zW]
                  rfl
                refine zal (i := 19) (N := some 3) (v := ?_) (a' := ?_) #[true, true, true, true, true, true, true, true, true, true, true, true, true, true, true, true, true, true, true, true] rfl rfl (z8 HT_.out (by kernel_rfl)) (fun _ _ _ h => h) (Or.inl ⟨by rfl, ?_⟩) ?_ ?_
                rotate_left
                · intro w'
                  go_simp
                  with_reducible rfl
                rotate_left
                · simp only [Act.put, List.setIfInBounds_toArray, List.set_cons_zero, List.set_cons_succ, zU, zW]
                  rfl
                refine zeA (zcI HT_.out (by kernel_rfl)) ?_
                try go_wp2
                go_ret2
                exact ⟨by first | rfl | (simp [zt, zr] <;> rfl) | (simp [*, zt, zr] <;> rfl), by repeat (first | (with_reducible first | exact HB.out | apply zi | apply zd | apply zj | refine zg ?_ GE102.out) | exact HB.out)⟩
              · rw [if_neg c16] at H
                exact absurd H (by simp)
            · rw [if_neg c15] at H
              exact absurd H (by simp)
          · rw [if_neg c13] at H
            exact absurd H (by simp)
        · rw [if_neg c11] at H
          exact absurd H (by simp)
end Go.Proofs.Ytenbifjbeeobjaa.Px

namespace Go.Proofs.Ytenbifjbeeobjaa.Px
open Go.RowKit Go.Proofs.YtenbifjbeeobjaaW.PrintWords Go.Proofs.YtenbifjbeeobjaaW.PrintLast Go.Proofs.YtenbifjbeeobjaaW.PrintMore
attribute [local go_sem] zC zE zJ zK zv zw zB zD
set_option linter.unusedVariables false
set_option linter.unusedSimpArgs false
def zbj (a r : Int) (d : ByteArray) : Bool := decide (1 ≤ a) && decide (a ≤ 64) && decide (1 ≤ r) && decide (r ≤ 1048576) && decide (d.size = 32)
def zcy (a : Int) : Bool := decide (1 ≤ a) && decide (a ≤ 64)
theorem zcg (a : Int) : zaQ.f a = some (zcy a) := by
  unfold zaQ.f zcy
  by_cases h : a ≥ 1
  · rw [if_pos h]; have : 1 ≤ a := h; simp [this]
  · rw [if_neg h]; have : ¬ 1 ≤ a := h; simp [this]
theorem zbv (a r : Int) (d : ByteArray) : za7.f a r d = some (zbj a r d) := by
  unfold za7.f zbj
  rw [zcg]
  simp only [Option.bind_some, zcy]
  by_cases h1 : 1 ≤ a <;> by_cases h2 : a ≤ 64 <;> by_cases h3 : 1 ≤ r <;> by_cases h4 : r ≤ 1048576 <;> simp [h1, h2, h3, h4]
  by_cases h5 : d.size = 32
  · simp [h5]
  · have : ¬ (d.size : Int) = 32 := by omega
    rw [decide_eq_false h5]; exact beq_eq_false_iff_ne.2 this
end Go.Proofs.Ytenbifjbeeobjaa.Px
