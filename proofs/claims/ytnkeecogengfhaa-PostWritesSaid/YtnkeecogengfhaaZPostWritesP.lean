/- part 16 of the proof of the law PostWrites: texts merged by this session's bundle.py. What is proved: the statement at the end of the last of these texts; its conditions are those of the given row. -/
import Derived.Test.YtnkeecogengfhaaZPostWritesD
import Derived.Test.YtnkeecogengfhaaZPostWritesE
import Derived.Test.YtnkeecogengfhaaZPostWritesL
import Derived.Test.YtnkeecogengfhaaZPostWritesO
namespace Go.Proofs.Ytnkeecogengfhaa.Px
open Go.RowKit Go.Proofs.YtnkeecogengfhaaW.PrintWords Go.Proofs.YtnkeecogengfhaaW.PrintLast Go.Proofs.YtnkeecogengfhaaW.PrintMore
attribute [local go_sem] max2_int min2_int max_two min_two max_three min_three max_four min_four
set_option linter.unusedVariables false
set_option linter.unusedSimpArgs false
def selvedgelaw18_shown.f (k : Nat)  : Option (Bool) := if 32 ≤ 281474976710656 then ((some (List.replicate 32 0 : List Int)).bind fun y108 => ((post_Say.f k 1 2 3 (strOfNums y108)).bind fun bt111 => (if 7 + (strOfNums y108).size ≤ 9223372036854775807 then (if bt111.1.toList = ((⟨#[121, 1, 1, 1, 2, 1, 3]⟩ : ByteArray) ++ (strOfNums y108)).toList then (if bt111.2 = 0 then ((post_Kind.f (⟨#[]⟩ : ByteArray)).bind fun t113 => (if t113 = 0 then ((post_Kind.f bt111.1).bind fun t114 => (some (t114 == 121))) else (some false))) else (some false)) else (some false)) else (none)))) else (none)
set_option maxHeartbeats 8000000 in
set_option maxRecDepth 100000 in
theorem selvedgelaw18_shown.calls (k : Nat)  (r : Bool) (w : World) (h : selvedgelaw18_shown.f k  = some r) :
    Calls Try.prog 5 #[] w fun e w' => e = .returned (.bool r) ∧ Below w.heap.size w w' := by
  have hu30 := Try.underlying30
  have HB := Aside0.mk (Below.refl w.heap.size w)
  have H : (if 32 ≤ 281474976710656 then ((some (List.replicate 32 0 : List Int)).bind fun y108 => ((post_Say.f k 1 2 3 (strOfNums y108)).bind fun bt111 => (if 7 + (strOfNums y108).size ≤ 9223372036854775807 then (if bt111.1.toList = ((⟨#[121, 1, 1, 1, 2, 1, 3]⟩ : ByteArray) ++ (strOfNums y108)).toList then (if bt111.2 = 0 then ((post_Kind.f (⟨#[]⟩ : ByteArray)).bind fun t113 => (if t113 = 0 then ((post_Kind.f bt111.1).bind fun t114 => (some (t114 == 121))) else (some false))) else (some false)) else (some false)) else (none)))) else (none)) = some r := h
  clear h
  by_cases c1 : 32 ≤ 281474976710656
  · rw [if_pos c1] at H
    have c1b0 := eq_true c1
    have c1b1 : decide (32 ≤ 281474976710656) = true := decide_eq_true c1
    clear c1
    obtain ⟨y108, hy108⟩ : ∃ y_ : List Int, y_ = (List.replicate 32 0) := ⟨_, rfl⟩
    replace H : ((post_Say.f k 1 2 3 (strOfNums y108)).bind fun bt111 => (if 7 + (strOfNums y108).size ≤ 9223372036854775807 then (if bt111.1.toList = ((⟨#[121, 1, 1, 1, 2, 1, 3]⟩ : ByteArray) ++ (strOfNums y108)).toList then (if bt111.2 = 0 then ((post_Kind.f (⟨#[]⟩ : ByteArray)).bind fun t113 => (if t113 = 0 then ((post_Kind.f bt111.1).bind fun t114 => (some (t114 == 121))) else (some false))) else (some false)) else (some false)) else (none))) = some r := by first | (rw [hy108]; with_reducible exact H) | (have H2_ := (Option.bind_some _ _).symm.trans H; rw [hy108]; with_reducible exact H2_) | (have H2_ := (Option.bind_some _ _).symm.trans H; with_reducible exact H2_) | with_reducible exact H | (rw [hy108]; exact H) | exact H
    have Ny108 := Aside0.mk hy108
    clear hy108
    replace H := Option.bind_eq_some_iff.mp H
    obtain ⟨⟨t111, t112⟩, A20, H⟩ := H
    replace H : (if 7 + (strOfNums y108).size ≤ 9223372036854775807 then (if t111.toList = ((⟨#[121, 1, 1, 1, 2, 1, 3]⟩ : ByteArray) ++ (strOfNums y108)).toList then (if t112 = 0 then ((post_Kind.f (⟨#[]⟩ : ByteArray)).bind fun t113 => (if t113 = 0 then ((post_Kind.f t111).bind fun t114 => (some (t114 == 121))) else (some false))) else (some false)) else (some false)) else (none)) = some r := H
    have A2 := Aside0.mk A20
    clear A20
    by_cases c3 : 7 + (strOfNums y108).size ≤ 9223372036854775807
    · rw [if_pos c3] at H
      have c3b0 := eq_true c3
      have c3b1 : decide (7 + (strOfNums y108).size ≤ 9223372036854775807) = true := decide_eq_true c3
      try have c3b2 : (9223372036854775807 < 7 + (strOfNums y108).size) = False := eq_false (Nat.not_lt.2 c3)
      by_cases c4 : t111.toList = ((⟨#[121, 1, 1, 1, 2, 1, 3]⟩ : ByteArray) ++ (strOfNums y108)).toList
      · rw [if_pos c4] at H
        have c4b0 : (t111.toList == ((⟨#[121, 1, 1, 1, 2, 1, 3]⟩ : ByteArray) ++ (strOfNums y108)).toList) = true := beq_iff_eq.mpr c4
        have c4b1 : (t111.toList != ((⟨#[121, 1, 1, 1, 2, 1, 3]⟩ : ByteArray) ++ (strOfNums y108)).toList) = false := bne_eq_false_iff_eq.mpr c4
        clear c4
        by_cases c5 : t112 = 0
        · rw [if_pos c5] at H
          have c5b0 : (t112 == 0) = true := beq_iff_eq.mpr c5
          have c5b1 : (t112 != 0) = false := bne_eq_false_iff_eq.mpr c5
          clear c5
          replace H := Option.bind_eq_some_iff.mp H
          obtain ⟨t113, A60, H⟩ := H
          replace H : (if t113 = 0 then ((post_Kind.f t111).bind fun t114 => (some (t114 == 121))) else (some false)) = some r := H
          have A6 := Aside0.mk A60
          clear A60
          by_cases c7 : t113 = 0
          · rw [if_pos c7] at H
            have c7b0 : (t113 == 0) = true := beq_iff_eq.mpr c7
            have c7b1 : (t113 != 0) = false := bne_eq_false_iff_eq.mpr c7
            clear c7
            replace H := Option.bind_eq_some_iff.mp H
            obtain ⟨t114, A80, H⟩ := H
            replace H : (some (t114 == 121)) = some r := H
            have A8 := Aside0.mk A80
            clear A80
            obtain rfl := Option.some.inj H
            go_enter Try.func5, Try.ntmps5
            go_wp2_with (first | ((with_reducible refine gate_dst (N := 4) rfl ?_); refine Kd.R_make (Kd.int .u8) _ 5 rfl (N := 4) rfl 54 _ _ rfl 32 rfl rfl Try.underlying54 (.int .u8 0) 1 info5 rfl (by decide) (by omega) 0 (ok := fun _ => True) (okp := fun _ => True) rfl (fun _ hk => hk) trivial (by omega) (by omega) (Below.refl _ _) (Nat.le_refl _) ?_; intro v109 w9 ho10 hb hg_ hnew_; clear hg_ hnew_; (first | rw [← Ny108.out] at ho10 | (simp only [Int.reduceToNat] at ho10; rw [← Ny108.out] at ho10)); have n0_ := Aside0.mk (Kd.R_lower ho10 (below_size (by repeat (first | (with_reducible first | exact HB.out | apply below_alloc | apply pw_below_drewN | apply below_drew1) | exact HB.out)))); have n1_ := Aside0.mk (below_step (by repeat (first | (with_reducible first | exact HB.out | apply below_alloc | apply pw_below_drewN | apply below_drew1) | exact HB.out)) hb); clear HB; have HO110 := n0_; have HB := n1_; clear n0_ n1_; clear hb ho10; have hcv11 := own_string (P := Try.prog) Try.underlying54 Try.underlying5 Try.underlying9 (Kd.own_of_R HO110.out)) | ((with_reducible refine gate_callee (f := 10) rfl ?_); refine goesL_ (some 9) rfl rfl Try.func10 (by kernel_rfl) rfl #[.agg #[.int .i64 1, .int .i64 2, .int .i64 3, .string (strOfNums y108)]] rfl (by (try simp only [List.map_toArray, List.map_cons, List.map_nil]); first | done | rfl | (simp only [List.length_drop, List.length_take]; rfl)) ?_; (with_reducible refine (post_Say.calls k 1 2 3 (strOfNums y108) t111 t112 _ A2.out).mono ?_); rintro e w12 ⟨rfl, hb⟩; refine ⟨_, rfl, ?_⟩; have n0_ := Aside0.mk (Kd.R_below (by (with_reducible repeat (first | apply Kd.R_alloc | apply Kd.R_drewN | apply Kd.R_drew)); exact HO110.out) hb); have n1_ := Aside0.mk (below_step (by repeat (first | (with_reducible first | exact HB.out | apply below_alloc | apply pw_below_drewN | apply below_drew1) | exact HB.out)) hb); clear HO110; clear HB; have HO110 := n0_; have HB := n1_; clear n0_ n1_; (try clear hb); (try clear hb2); (try clear hk); (try clear hi)) | (go_at_call 15; (with_reducible refine (post_Kind.calls (⟨#[]⟩ : ByteArray) t113 _ A6.out).mono ?_); rintro e w' ⟨rfl, ⟨nd, rfl⟩⟩) | (go_at_call 15; (with_reducible refine (post_Kind.calls t111 t114 _ A8.out).mono ?_); rintro e w' ⟨rfl, ⟨nd, rfl⟩⟩))
            go_ret
            exact ⟨by first | rfl | (simp [errW_none, errW_some] <;> rfl) | (simp [*, errW_none, errW_some] <;> rfl), by repeat (first | (with_reducible first | exact HB.out | apply below_alloc | apply pw_below_drewN | apply below_drew1) | exact HB.out)⟩
          · rw [if_neg c7] at H
            have c7b0 : (t113 == 0) = false := beq_eq_false_iff_ne.mpr c7
            have c7b1 : (t113 != 0) = true := bne_iff_ne.mpr c7
            obtain rfl := Option.some.inj H
            go_enter Try.func5, Try.ntmps5
            go_wp2_with (first | ((with_reducible refine gate_dst (N := 4) rfl ?_); refine Kd.R_make (Kd.int .u8) _ 5 rfl (N := 4) rfl 54 _ _ rfl 32 rfl rfl Try.underlying54 (.int .u8 0) 1 info5 rfl (by decide) (by omega) 0 (ok := fun _ => True) (okp := fun _ => True) rfl (fun _ hk => hk) trivial (by omega) (by omega) (Below.refl _ _) (Nat.le_refl _) ?_; intro v109 w13 ho14 hb hg_ hnew_; clear hg_ hnew_; (first | rw [← Ny108.out] at ho14 | (simp only [Int.reduceToNat] at ho14; rw [← Ny108.out] at ho14)); have n0_ := Aside0.mk (Kd.R_lower ho14 (below_size (by repeat (first | (with_reducible first | exact HB.out | apply below_alloc | apply pw_below_drewN | apply below_drew1) | exact HB.out)))); have n1_ := Aside0.mk (below_step (by repeat (first | (with_reducible first | exact HB.out | apply below_alloc | apply pw_below_drewN | apply below_drew1) | exact HB.out)) hb); clear HB; have HO110 := n0_; have HB := n1_; clear n0_ n1_; clear hb ho14; have hcv15 := own_string (P := Try.prog) Try.underlying54 Try.underlying5 Try.underlying9 (Kd.own_of_R HO110.out)) | ((with_reducible refine gate_callee (f := 10) rfl ?_); refine goesL_ (some 9) rfl rfl Try.func10 (by kernel_rfl) rfl #[.agg #[.int .i64 1, .int .i64 2, .int .i64 3, .string (strOfNums y108)]] rfl (by (try simp only [List.map_toArray, List.map_cons, List.map_nil]); first | done | rfl | (simp only [List.length_drop, List.length_take]; rfl)) ?_; (with_reducible refine (post_Say.calls k 1 2 3 (strOfNums y108) t111 t112 _ A2.out).mono ?_); rintro e w16 ⟨rfl, hb⟩; refine ⟨_, rfl, ?_⟩; have n0_ := Aside0.mk (Kd.R_below (by (with_reducible repeat (first | apply Kd.R_alloc | apply Kd.R_drewN | apply Kd.R_drew)); exact HO110.out) hb); have n1_ := Aside0.mk (below_step (by repeat (first | (with_reducible first | exact HB.out | apply below_alloc | apply pw_below_drewN | apply below_drew1) | exact HB.out)) hb); clear HO110; clear HB; have HO110 := n0_; have HB := n1_; clear n0_ n1_; (try clear hb); (try clear hb2); (try clear hk); (try clear hi)) | (go_at_call 15; (with_reducible refine (post_Kind.calls (⟨#[]⟩ : ByteArray) t113 _ A6.out).mono ?_); rintro e w' ⟨rfl, ⟨nd, rfl⟩⟩))
            go_ret
            exact ⟨by first | rfl | (simp [errW_none, errW_some] <;> rfl) | (simp [*, errW_none, errW_some] <;> rfl), by repeat (first | (with_reducible first | exact HB.out | apply below_alloc | apply pw_below_drewN | apply below_drew1) | exact HB.out)⟩
        · rw [if_neg c5] at H
          have c5b0 : (t112 == 0) = false := beq_eq_false_iff_ne.mpr c5
          have c5b1 : (t112 != 0) = true := bne_iff_ne.mpr c5
          obtain rfl := Option.some.inj H
          go_enter Try.func5, Try.ntmps5
          go_wp2_with (first | ((with_reducible refine gate_dst (N := 4) rfl ?_); refine Kd.R_make (Kd.int .u8) _ 5 rfl (N := 4) rfl 54 _ _ rfl 32 rfl rfl Try.underlying54 (.int .u8 0) 1 info5 rfl (by decide) (by omega) 0 (ok := fun _ => True) (okp := fun _ => True) rfl (fun _ hk => hk) trivial (by omega) (by omega) (Below.refl _ _) (Nat.le_refl _) ?_; intro v109 w17 ho18 hb hg_ hnew_; clear hg_ hnew_; (first | rw [← Ny108.out] at ho18 | (simp only [Int.reduceToNat] at ho18; rw [← Ny108.out] at ho18)); have n0_ := Aside0.mk (Kd.R_lower ho18 (below_size (by repeat (first | (with_reducible first | exact HB.out | apply below_alloc | apply pw_below_drewN | apply below_drew1) | exact HB.out)))); have n1_ := Aside0.mk (below_step (by repeat (first | (with_reducible first | exact HB.out | apply below_alloc | apply pw_below_drewN | apply below_drew1) | exact HB.out)) hb); clear HB; have HO110 := n0_; have HB := n1_; clear n0_ n1_; clear hb ho18; have hcv19 := own_string (P := Try.prog) Try.underlying54 Try.underlying5 Try.underlying9 (Kd.own_of_R HO110.out)) | ((with_reducible refine gate_callee (f := 10) rfl ?_); refine goesL_ (some 9) rfl rfl Try.func10 (by kernel_rfl) rfl #[.agg #[.int .i64 1, .int .i64 2, .int .i64 3, .string (strOfNums y108)]] rfl (by (try simp only [List.map_toArray, List.map_cons, List.map_nil]); first | done | rfl | (simp only [List.length_drop, List.length_take]; rfl)) ?_; (with_reducible refine (post_Say.calls k 1 2 3 (strOfNums y108) t111 t112 _ A2.out).mono ?_); rintro e w20 ⟨rfl, hb⟩; refine ⟨_, rfl, ?_⟩; have n0_ := Aside0.mk (Kd.R_below (by (with_reducible repeat (first | apply Kd.R_alloc | apply Kd.R_drewN | apply Kd.R_drew)); exact HO110.out) hb); have n1_ := Aside0.mk (below_step (by repeat (first | (with_reducible first | exact HB.out | apply below_alloc | apply pw_below_drewN | apply below_drew1) | exact HB.out)) hb); clear HO110; clear HB; have HO110 := n0_; have HB := n1_; clear n0_ n1_; (try clear hb); (try clear hb2); (try clear hk); (try clear hi)))
          go_ret
          exact ⟨by first | rfl | (simp [errW_none, errW_some] <;> rfl) | (simp [*, errW_none, errW_some] <;> rfl), by repeat (first | (with_reducible first | exact HB.out | apply below_alloc | apply pw_below_drewN | apply below_drew1) | exact HB.out)⟩
      · rw [if_neg c4] at H
        have c4b0 : (t111.toList == ((⟨#[121, 1, 1, 1, 2, 1, 3]⟩ : ByteArray) ++ (strOfNums y108)).toList) = false := beq_eq_false_iff_ne.mpr c4
        have c4b1 : (t111.toList != ((⟨#[121, 1, 1, 1, 2, 1, 3]⟩ : ByteArray) ++ (strOfNums y108)).toList) = true := bne_iff_ne.mpr c4
        obtain rfl := Option.some.inj H
        go_enter Try.func5, Try.ntmps5
        go_wp2_with (first | ((with_reducible refine gate_dst (N := 4) rfl ?_); refine Kd.R_make (Kd.int .u8) _ 5 rfl (N := 4) rfl 54 _ _ rfl 32 rfl rfl Try.underlying54 (.int .u8 0) 1 info5 rfl (by decide) (by omega) 0 (ok := fun _ => True) (okp := fun _ => True) rfl (fun _ hk => hk) trivial (by omega) (by omega) (Below.refl _ _) (Nat.le_refl _) ?_; intro v109 w21 ho22 hb hg_ hnew_; clear hg_ hnew_; (first | rw [← Ny108.out] at ho22 | (simp only [Int.reduceToNat] at ho22; rw [← Ny108.out] at ho22)); have n0_ := Aside0.mk (Kd.R_lower ho22 (below_size (by repeat (first | (with_reducible first | exact HB.out | apply below_alloc | apply pw_below_drewN | apply below_drew1) | exact HB.out)))); have n1_ := Aside0.mk (below_step (by repeat (first | (with_reducible first | exact HB.out | apply below_alloc | apply pw_below_drewN | apply below_drew1) | exact HB.out)) hb); clear HB; have HO110 := n0_; have HB := n1_; clear n0_ n1_; clear hb ho22; have hcv23 := own_string (P := Try.prog) Try.underlying54 Try.underlying5 Try.underlying9 (Kd.own_of_R HO110.out)) | ((with_reducible refine gate_callee (f := 10) rfl ?_); refine goesL_ (some 9) rfl rfl Try.func10 (by kernel_rfl) rfl #[.agg #[.int .i64 1, .int .i64 2, .int .i64 3, .string (strOfNums y108)]] rfl (by (try simp only [List.map_toArray, List.map_cons, List.map_nil]); first | done | rfl | (simp only [List.length_drop, List.length_take]; rfl)) ?_; (with_reducible refine (post_Say.calls k 1 2 3 (strOfNums y108) t111 t112 _ A2.out).mono ?_); rintro e w24 ⟨rfl, hb⟩; refine ⟨_, rfl, ?_⟩; have n0_ := Aside0.mk (Kd.R_below (by (with_reducible repeat (first | apply Kd.R_alloc | apply Kd.R_drewN | apply Kd.R_drew)); exact HO110.out) hb); have n1_ := Aside0.mk (below_step (by repeat (first | (with_reducible first | exact HB.out | apply below_alloc | apply pw_below_drewN | apply below_drew1) | exact HB.out)) hb); clear HO110; clear HB; have HO110 := n0_; have HB := n1_; clear n0_ n1_; (try clear hb); (try clear hb2); (try clear hk); (try clear hi)))
        go_ret
        exact ⟨by first | rfl | (simp [errW_none, errW_some] <;> rfl) | (simp [*, errW_none, errW_some] <;> rfl), by repeat (first | (with_reducible first | exact HB.out | apply below_alloc | apply pw_below_drewN | apply below_drew1) | exact HB.out)⟩
    · rw [if_neg c3] at H
      exact absurd H (by simp)
  · rw [if_neg c1] at H
    exact absurd H (by simp)
end Go.Proofs.Ytnkeecogengfhaa.Px

namespace Go.Proofs.Ytnkeecogengfhaa.Px
open Go.RowKit Go.Proofs.YtnkeecogengfhaaW.PrintWords Go.Proofs.YtnkeecogengfhaaW.PrintLast Go.Proofs.YtnkeecogengfhaaW.PrintMore
attribute [local go_sem] max2_int min2_int max_two min_two max_three min_three max_four min_four
set_option linter.unusedVariables false
set_option linter.unusedSimpArgs false
def selvedgeref18_named.f (a0 : Int) (a1 : Int) (a2 : ByteArray) : Option (Bool) := if a0 ≥ 1 then (if a0 ≤ 64 then (if a1 ≥ 1 then (if a1 ≤ 1048576 then (some ((a2.size : Int) == 32)) else (some false)) else (some false)) else (some false)) else (some false)
set_option maxHeartbeats 8000000 in
set_option maxRecDepth 100000 in
theorem selvedgeref18_named.calls (a0 : Int) (a1 : Int) (a2 : ByteArray) (r : Bool) (w : World) (h : selvedgeref18_named.f a0 a1 a2 = some r) :
    Calls Try.prog 24 #[.int .i64 a0, .int .i64 a1, .string a2] w fun e w' => e = .returned (.bool r) ∧ Drawn0 w w' := by
  have H : (if a0 ≥ 1 then (if a0 ≤ 64 then (if a1 ≥ 1 then (if a1 ≤ 1048576 then (some ((a2.size : Int) == 32)) else (some false)) else (some false)) else (some false)) else (some false)) = some r := h
  clear h
  by_cases c4 : a0 ≥ 1
  · rw [if_pos c4] at H
    have c4b0 : decide (1 ≤ a0) = true := decide_eq_true c4
    clear c4
    by_cases c5 : a0 ≤ 64
    · rw [if_pos c5] at H
      have c5b0 : decide (a0 ≤ 64) = true := decide_eq_true c5
      clear c5
      by_cases c6 : a1 ≥ 1
      · rw [if_pos c6] at H
        have c6b0 : decide (1 ≤ a1) = true := decide_eq_true c6
        clear c6
        by_cases c7 : a1 ≤ 1048576
        · rw [if_pos c7] at H
          have c7b0 : decide (a1 ≤ 1048576) = true := decide_eq_true c7
          clear c7
          obtain rfl := Option.some.inj H
          go_enter Try.func24, Try.ntmps24
          go_wp2
          go_ret
          exact ⟨by first | rfl | (simp; done) | (simp [*]; done), by repeat (first | exact Drawn0.refl _ | apply Drawn0.step)⟩
        · rw [if_neg c7] at H
          have c7b0 : decide (a1 ≤ 1048576) = false := decide_eq_false c7
          clear c7
          obtain rfl := Option.some.inj H
          go_enter Try.func24, Try.ntmps24
          go_wp2
          go_ret
          exact ⟨by first | rfl | (simp; done) | (simp [*]; done), by repeat (first | exact Drawn0.refl _ | apply Drawn0.step)⟩
      · rw [if_neg c6] at H
        have c6b0 : decide (1 ≤ a1) = false := decide_eq_false c6
        clear c6
        obtain rfl := Option.some.inj H
        go_enter Try.func24, Try.ntmps24
        go_wp2
        go_ret
        exact ⟨by first | rfl | (simp; done) | (simp [*]; done), by repeat (first | exact Drawn0.refl _ | apply Drawn0.step)⟩
    · rw [if_neg c5] at H
      have c5b0 : decide (a0 ≤ 64) = false := decide_eq_false c5
      clear c5
      obtain rfl := Option.some.inj H
      go_enter Try.func24, Try.ntmps24
      go_wp2
      go_ret
      exact ⟨by first | rfl | (simp; done) | (simp [*]; done), by repeat (first | exact Drawn0.refl _ | apply Drawn0.step)⟩
  · rw [if_neg c4] at H
    have c4b0 : decide (1 ≤ a0) = false := decide_eq_false c4
    clear c4
    obtain rfl := Option.some.inj H
    go_enter Try.func24, Try.ntmps24
    go_wp2
    go_ret
    exact ⟨by first | rfl | (simp; done) | (simp [*]; done), by repeat (first | exact Drawn0.refl _ | apply Drawn0.step)⟩
end Go.Proofs.Ytnkeecogengfhaa.Px

namespace Go.Proofs.Ytnkeecogengfhaa.Px
open Go.RowKit Go.Proofs.YtnkeecogengfhaaW.PrintWords Go.Proofs.YtnkeecogengfhaaW.PrintLast Go.Proofs.YtnkeecogengfhaaW.PrintMore
attribute [local go_sem] max2_int min2_int max_two min_two max_three min_three max_four min_four
set_option linter.unusedVariables false
set_option linter.unusedSimpArgs false
def selvedgeref18_Ballot.f (k : Nat) (a0_0 : Int) (a0_1 : Int) (a0_2 : ByteArray) : Option (ByteArray × Int) := (selvedgeref18_named.f a0_0 a0_1 a0_2).bind fun t241 => (if t241 = true then ((selvedgeref01_Num.f k (IntKind.u64.wrap (a0_0))).bind fun t242 => (if 1 + t242.size ≤ 9223372036854775807 then ((selvedgeref01_Num.f k (IntKind.u64.wrap (a0_1))).bind fun t243 => (if ((⟨#[118]⟩ : ByteArray) ++ t242).size + t243.size ≤ 9223372036854775807 then (if (((⟨#[118]⟩ : ByteArray) ++ t242) ++ t243).size + a0_2.size ≤ 9223372036854775807 then (some ((((⟨#[118]⟩ : ByteArray) ++ t242) ++ t243) ++ a0_2, 0)) else (none)) else (none))) else (none))) else (some ((⟨#[]⟩ : ByteArray), 1)))
def selvedgeref18_Ballot.T4 : Bool × List (List Nat × List Nat) := (true, [([], []), ([0], [0]), ([1], [1]), ([2], [2]), ([3], [3]), ([], []), ([5], [5]), ([6], [6]), ([7, 3], [7]), ([4, 8], [4, 8]), ([], []), ([10], [10]), ([9, 11], [9, 11]), ([12, 8, 0, 1, 2, 3, 4, 5, 6, 7, 8, 9, 10, 11, 12], [12]), ([13, 0, 1, 2, 3, 4, 5, 6, 7, 8, 9, 10, 11, 12, 13], [])])
def selvedgeref18_Ballot.B4 : List Nat := [0, 1, 3, 7, 15, 0, 32, 96, 239, 511, 0, 1024, 4095, 8191, 16383]
theorem selvedgeref18_Ballot.tab4 : rtab .any (opsOf Try.f13 4) = selvedgeref18_Ballot.T4 := by kernel_rfl
theorem selvedgeref18_Ballot.bits4 : waitsOk selvedgeref18_Ballot.T4.2 selvedgeref18_Ballot.B4 = true := by kernel_rfl
set_option maxHeartbeats 8000000 in
set_option maxRecDepth 100000 in
theorem selvedgeref18_Ballot.calls (k : Nat) (a0_0 : Int) (a0_1 : Int) (a0_2 : ByteArray) (r1 : ByteArray) (r2 : Int) (w : World) (h : selvedgeref18_Ballot.f k a0_0 a0_1 a0_2 = some (r1, r2)) :
    Calls Try.prog 13 #[.agg #[.int .i64 a0_0, .int .i64 a0_1, .string a0_2]] w fun e w' => e = .returned (.tuple #[.string r1, .int .i64 r2]) ∧ Below w.heap.size w w' := by
  have hu47 := Try.underlying47
  have HB := Aside0.mk (Below.refl w.heap.size w)
  have H : ((selvedgeref18_named.f a0_0 a0_1 a0_2).bind fun t241 => (if t241 = true then ((selvedgeref01_Num.f k (IntKind.u64.wrap (a0_0))).bind fun t242 => (if 1 + t242.size ≤ 9223372036854775807 then ((selvedgeref01_Num.f k (IntKind.u64.wrap (a0_1))).bind fun t243 => (if ((⟨#[118]⟩ : ByteArray) ++ t242).size + t243.size ≤ 9223372036854775807 then (if (((⟨#[118]⟩ : ByteArray) ++ t242) ++ t243).size + a0_2.size ≤ 9223372036854775807 then (some ((((⟨#[118]⟩ : ByteArray) ++ t242) ++ t243) ++ a0_2, 0)) else (none)) else (none))) else (none))) else (some ((⟨#[]⟩ : ByteArray), 1)))) = some (r1, r2) := h
  clear h
  replace H := Option.bind_eq_some_iff.mp H
  obtain ⟨t241, A20, H⟩ := H
  replace H : (if t241 = true then ((selvedgeref01_Num.f k (IntKind.u64.wrap (a0_0))).bind fun t242 => (if 1 + t242.size ≤ 9223372036854775807 then ((selvedgeref01_Num.f k (IntKind.u64.wrap (a0_1))).bind fun t243 => (if ((⟨#[118]⟩ : ByteArray) ++ t242).size + t243.size ≤ 9223372036854775807 then (if (((⟨#[118]⟩ : ByteArray) ++ t242) ++ t243).size + a0_2.size ≤ 9223372036854775807 then (some ((((⟨#[118]⟩ : ByteArray) ++ t242) ++ t243) ++ a0_2, 0)) else (none)) else (none))) else (none))) else (some ((⟨#[]⟩ : ByteArray), 1))) = some (r1, r2) := H
  have A2 := Aside0.mk A20
  clear A20
  by_cases c3 : t241 = true
  · subst c3
    have H1 : ((selvedgeref01_Num.f k (IntKind.u64.wrap (a0_0))).bind fun t242 => (if 1 + t242.size ≤ 9223372036854775807 then ((selvedgeref01_Num.f k (IntKind.u64.wrap (a0_1))).bind fun t243 => (if ((⟨#[118]⟩ : ByteArray) ++ t242).size + t243.size ≤ 9223372036854775807 then (if (((⟨#[118]⟩ : ByteArray) ++ t242) ++ t243).size + a0_2.size ≤ 9223372036854775807 then (some ((((⟨#[118]⟩ : ByteArray) ++ t242) ++ t243) ++ a0_2, 0)) else (none)) else (none))) else (none))) = some (r1, r2) := by rw [if_pos rfl] at H; exact H
    clear H
    have H := H1
    clear H1
    replace H := Option.bind_eq_some_iff.mp H
    obtain ⟨t242, A40, H⟩ := H
    replace H : (if 1 + t242.size ≤ 9223372036854775807 then ((selvedgeref01_Num.f k (IntKind.u64.wrap (a0_1))).bind fun t243 => (if ((⟨#[118]⟩ : ByteArray) ++ t242).size + t243.size ≤ 9223372036854775807 then (if (((⟨#[118]⟩ : ByteArray) ++ t242) ++ t243).size + a0_2.size ≤ 9223372036854775807 then (some ((((⟨#[118]⟩ : ByteArray) ++ t242) ++ t243) ++ a0_2, 0)) else (none)) else (none))) else (none)) = some (r1, r2) := H
    have A4 := Aside0.mk A40
    clear A40
    by_cases c5 : 1 + t242.size ≤ 9223372036854775807
    · rw [if_pos c5] at H
      have c5b0 := eq_true c5
      have c5b1 : decide (1 + t242.size ≤ 9223372036854775807) = true := decide_eq_true c5
      try have c5b2 : (9223372036854775807 < 1 + t242.size) = False := eq_false (Nat.not_lt.2 c5)
      replace H := Option.bind_eq_some_iff.mp H
      obtain ⟨t243, A60, H⟩ := H
      replace H : (if ((⟨#[118]⟩ : ByteArray) ++ t242).size + t243.size ≤ 9223372036854775807 then (if (((⟨#[118]⟩ : ByteArray) ++ t242) ++ t243).size + a0_2.size ≤ 9223372036854775807 then (some ((((⟨#[118]⟩ : ByteArray) ++ t242) ++ t243) ++ a0_2, 0)) else (none)) else (none)) = some (r1, r2) := H
      have A6 := Aside0.mk A60
      clear A60
      by_cases c7 : ((⟨#[118]⟩ : ByteArray) ++ t242).size + t243.size ≤ 9223372036854775807
      · rw [if_pos c7] at H
        have c7b0 := eq_true c7
        have c7b1 : decide (((⟨#[118]⟩ : ByteArray) ++ t242).size + t243.size ≤ 9223372036854775807) = true := decide_eq_true c7
        try have c7b2 : (9223372036854775807 < ((⟨#[118]⟩ : ByteArray) ++ t242).size + t243.size) = False := eq_false (Nat.not_lt.2 c7)
        try (have c7b3 := c7; simp [ByteArray.size_append, (show (⟨#[118]⟩ : ByteArray).size = 1 from rfl)] at c7b3; have c7b4 := eq_false (Nat.not_lt.2 c7b3); clear c7b3)
        by_cases c8 : (((⟨#[118]⟩ : ByteArray) ++ t242) ++ t243).size + a0_2.size ≤ 9223372036854775807
        · rw [if_pos c8] at H
          have c8b0 := eq_true c8
          have c8b1 : decide ((((⟨#[118]⟩ : ByteArray) ++ t242) ++ t243).size + a0_2.size ≤ 9223372036854775807) = true := decide_eq_true c8
          try have c8b2 : (9223372036854775807 < (((⟨#[118]⟩ : ByteArray) ++ t242) ++ t243).size + a0_2.size) = False := eq_false (Nat.not_lt.2 c8)
          try (have c8b3 := c8; simp [ByteArray.size_append, (show (⟨#[118]⟩ : ByteArray).size = 1 from rfl)] at c8b3; have c8b4 := eq_false (Nat.not_lt.2 c8b3); clear c8b3)
          simp only [Option.some.injEq, Prod.mk.injEq] at H
          obtain ⟨rfl, rfl⟩ := H
          go_enter Try.func13, Try.ntmps13
          try go_wp2_with (first | ((with_reducible refine gate_dst (N := 1) rfl ?_); refine box_event ?hg (N := 1) ?hd (cs := #[.int .i64 a0_0, .int .i64 a0_1, .string a0_2]) (t := 47) ?hr ?_; (case hd => rfl); (case hg => rfl); (case hr => first | (go_simp; done) | (go_simp; rfl)); intro gb240 hg w9 hbox hb; have n0_ := Aside0.mk (below_step (by repeat (first | (with_reducible first | exact HB.out | apply below_alloc | apply pw_below_drewN | apply below_drew1) | exact HB.out)) hb); have n1_ := Aside0.mk (hbox); have n2_ := Aside0.mk ((by rw [hg]; exact (below_size (by repeat (first | (with_reducible first | exact HB.out | apply below_alloc | apply pw_below_drewN | apply below_drew1) | exact HB.out))) : w.heap.size ≤ gb240)); have n3_ := Aside0.mk ((by rw [hg]; exact (below_size (by repeat (first | (with_reducible first | exact HB.out | apply below_alloc | apply pw_below_drewN | apply below_drew1) | exact HB.out))) : w.heap.size ≤ gb240)); clear HB; have HB := n0_; have BK240 := n1_; have GW240 := n2_; have GE240 := n3_; clear n0_ n1_ n2_ n3_; clear hb hbox hg; have hcz10_0 : w9.cell? ⟨gb240, 0, none⟩ = some (.int .i64 a0_0) := (blk_cell BK240.out 0).trans rfl; have hcz10_1 : w9.cell? ⟨gb240, 1, none⟩ = some (.int .i64 a0_1) := (blk_cell BK240.out 1).trans rfl; have hcz10_2 : w9.cell? ⟨gb240, 2, none⟩ = some (.string a0_2) := (blk_cell BK240.out 2).trans rfl; have hfz10_0 := blk_frozen BK240.out 0; have hfz10_1 := blk_frozen BK240.out 1; have hfz10_2 := blk_frozen BK240.out 2) | ((with_reducible refine gate_callee (f := 24) rfl ?_); refine goesL_ (some 11) rfl rfl Try.func24 (by kernel_rfl) rfl #[.int .i64 a0_0, .int .i64 a0_1, .string a0_2] rfl (by (try simp only [List.map_toArray, List.map_cons, List.map_nil]); first | done | rfl | (simp only [List.length_drop, List.length_take]; rfl)) ?_; (with_reducible refine (selvedgeref18_named.calls a0_0 a0_1 a0_2 true _ A2.out).mono ?_); rintro e w' ⟨rfl, ⟨nd, rfl⟩⟩; refine ⟨_, rfl, ?_⟩))
          (try (rw [drewN_self w9]; generalize hq_ : World.drewN w9 _ = w9; have n0_ : Aside0 (w9.heap[gb240]? = some (.cells #[.int .i64 a0_0, .int .i64 a0_1, .string a0_2] 47 (0, 0))) := ⟨by rw [← hq_]; exact (by (with_reducible repeat (first | refine blk_drewN ?_ _ | refine blk_drew ?_ | refine blk_alloc ?_ _)); exact BK240.out)⟩; have n1_ : Aside0 (Below w.heap.size w w9) := ⟨by rw [← hq_]; exact (by repeat (first | (with_reducible first | exact HB.out | apply below_alloc | apply pw_below_drewN | apply below_drew1 | refine below_set ?_ GE240.out) | exact HB.out))⟩; clear BK240 HB hq_; have BK240 := n0_; have HB := n1_; clear n0_ n1_))
          have n0_ := Aside0.mk (blk_drew BK240.out)
          have n1_ := Aside0.mk (below_drew1 HB.out)
          clear BK240
          clear HB
          have BK240 := n0_
          have HB := n1_
          clear n0_ n1_
          refine start_ (n := 15) (S := fun w' => w'.cell? ⟨gb240, 0, none⟩ = some (.int .i64 a0_0) ∧ w'.cell? ⟨gb240, 1, none⟩ = some (.int .i64 a0_1) ∧ w'.cell? ⟨gb240, 2, none⟩ = some (.string a0_2)) (ds := []) #[false, false, false, false, false, false, false, false, false, false, false, false, false, false, false] (by kernel_rfl) rfl rfl ⟨(blk_cell BK240.out 0).trans rfl, (blk_cell BK240.out 1).trans rfl, (blk_cell BK240.out 2).trans rfl⟩ (fun hHeld => ?_); refine with_tabW selvedgeref18_Ballot.tab4 selvedgeref18_Ballot.bits4 (fun HT_ HW_ => ?_)
          generalize w9.drew = w11 at BK240 HB hHeld ⊢
          refine pure_ (i := 0) (N := some 14) (v := ?_) (a' := ?_) #[true, false, false, false, false, false, false, false, false, false, false, false, false, false, false] rfl rfl (any_of HT_.out (by kernel_rfl)) (fun _ _ _ h => h) (Or.inl ⟨by rfl, ?_⟩) ?_ ?_
          rotate_left
          · intro w'
            go_simp
            with_reducible rfl
          rotate_left
          · simp only [Act.put, List.setIfInBounds_toArray, List.set_cons_zero, List.set_cons_succ, i64_w, i32_w]
            rfl
          refine pure_ (i := 5) (N := some 19) (v := ?_) (a' := ?_) #[true, false, false, false, false, true, false, false, false, false, false, false, false, false, false] rfl rfl (any_of HT_.out (by kernel_rfl)) (fun _ _ _ h => h) (Or.inl ⟨by rfl, ?_⟩) ?_ ?_
          rotate_left
          · intro w'
            go_simp
            with_reducible rfl
          rotate_left
          · simp only [Act.put, List.setIfInBounds_toArray, List.set_cons_zero, List.set_cons_succ, i64_w, i32_w]
            rfl
          refine pure_ (i := 10) (N := some 24) (v := ?_) (a' := ?_) #[true, false, false, false, false, true, false, false, false, false, true, false, false, false, false] rfl rfl (any_of HT_.out (by kernel_rfl)) (fun _ _ _ h => h) (Or.inl ⟨by rfl, ?_⟩) ?_ ?_
          rotate_left
          · intro w'
            go_simp
            with_reducible rfl
          rotate_left
          · simp only [Act.put, List.setIfInBounds_toArray, List.set_cons_zero, List.set_cons_succ, i64_w, i32_w]
            rfl
          refine take_ (i := 1) (N := some 15) (v := ?_) (a' := ?_) #[true, true, false, false, false, true, false, false, false, false, true, false, false, false, false] rfl rfl (take_ofW HT_.out HW_.out (by kernel_rfl)) (fun _ _ _ h => h) (Or.inl ⟨by rfl, ?_⟩) hHeld ?_ ?_
          rotate_left
          · rintro w' ⟨s0, s1, s2⟩
            go_simp
            with_reducible rfl
          rotate_left
          · simp only [Act.put, List.setIfInBounds_toArray, List.set_cons_zero, List.set_cons_succ, i64_w, i32_w]
            rfl
          refine pure_ (i := 2) (N := some 16) (v := ?_) (a' := ?_) #[true, true, true, false, false, true, false, false, false, false, true, false, false, false, false] rfl rfl (any_of HT_.out (by kernel_rfl)) (fun _ _ _ h => h) (Or.inl ⟨by rfl, ?_⟩) ?_ ?_
          rotate_left
          · intro w'
            go_simp
            with_reducible rfl
          rotate_left
          · simp only [Act.put, List.setIfInBounds_toArray, List.set_cons_zero, List.set_cons_succ, i64_w, i32_w]
            rfl
          refine take_ (i := 6) (N := some 20) (v := ?_) (a' := ?_) #[true, true, true, false, false, true, true, false, false, false, true, false, false, false, false] rfl rfl (take_ofW HT_.out HW_.out (by kernel_rfl)) (fun _ _ _ h => h) (Or.inl ⟨by rfl, ?_⟩) hHeld ?_ ?_
          rotate_left
          · rintro w' ⟨s0, s1, s2⟩
            go_simp
            with_reducible rfl
          rotate_left
          · simp only [Act.put, List.setIfInBounds_toArray, List.set_cons_zero, List.set_cons_succ, i64_w, i32_w]
            rfl
          refine pure_ (i := 7) (N := some 21) (v := ?_) (a' := ?_) #[true, true, true, false, false, true, true, true, false, false, true, false, false, false, false] rfl rfl (any_of HT_.out (by kernel_rfl)) (fun _ _ _ h => h) (Or.inl ⟨by rfl, ?_⟩) ?_ ?_
          rotate_left
          · intro w'
            go_simp
            with_reducible rfl
          rotate_left
          · simp only [Act.put, List.setIfInBounds_toArray, List.set_cons_zero, List.set_cons_succ, i64_w, i32_w]
            rfl
          refine take_ (i := 11) (N := some 25) (v := ?_) (a' := ?_) #[true, true, true, false, false, true, true, true, false, false, true, true, false, false, false] rfl rfl (take_ofW HT_.out HW_.out (by kernel_rfl)) (fun _ _ _ h => h) (Or.inl ⟨by rfl, ?_⟩) hHeld ?_ ?_
          rotate_left
          · rintro w' ⟨s0, s1, s2⟩
            go_simp
            with_reducible rfl
          rotate_left
          · simp only [Act.put, List.setIfInBounds_toArray, List.set_cons_zero, List.set_cons_succ, i64_w, i32_w]
            rfl
          refine one_ (i := 3) (N := some 17) #[true, true, true, true, false, true, true, true, false, false, true, true, false, false, false] rfl rfl (one_of HT_.out (by kernel_rfl)) (by decide) (fun K hK => ?_)
          refine goes_ Try.func25 (by kernel_rfl) rfl #[.int .u64 (IntKind.u64.wrap (a0_0))] (by rfl) rfl rfl (by (try simp only [List.map_toArray, List.map_cons, List.map_nil]); first | done | rfl | (simp only [List.length_drop, List.length_take]; rfl)) ?_
          with_reducible refine (selvedgeref01_Num.calls k (IntKind.u64.wrap (a0_0)) t242 _ A4.out).mono ?_
          rintro e w12 ⟨rfl, hb⟩
          refine ⟨_, rfl, ?_⟩
          have n0_ := Aside0.mk (blk_below (g := gb240) (o := .cells #[.int .i64 a0_0, .int .i64 a0_1, .string a0_2] 47 (0, 0)) (by (with_reducible repeat (first | refine blk_drewN ?_ _ | refine blk_drew ?_ | refine blk_alloc ?_ _)); exact BK240.out) hb)
          have n1_ := Aside0.mk (below_step (by repeat (first | (with_reducible first | exact HB.out | apply below_alloc | apply pw_below_drewN | apply below_drew1 | refine below_set ?_ GE240.out) | exact HB.out)) hb)
          clear BK240
          clear HB
          have BK240 := n0_
          have HB := n1_
          clear n0_ n1_
          (try clear hb)
          (try clear hb2)
          (try clear hk)
          (try clear hi)
          refine hK.out _ _ ⟨(blk_cell BK240.out 0).trans rfl, (blk_cell BK240.out 1).trans rfl, (blk_cell BK240.out 2).trans rfl⟩ (fun hHeld => ?_)
          clear hK K
          refine norm_ (a' := ?_) ?_ ?_
          rotate_left
          · show Act.put _ (some 17) _ = _
            simp only [Act.put, List.setIfInBounds_toArray, List.set_cons_zero, List.set_cons_succ, i64_w, i32_w]
            rfl
          refine pure_ (i := 4) (N := some 18) (v := ?_) (a' := ?_) #[true, true, true, true, true, true, true, true, false, false, true, true, false, false, false] rfl rfl (any_of HT_.out (by kernel_rfl)) (fun _ _ _ h => h) (Or.inl ⟨by rfl, ?_⟩) ?_ ?_
          rotate_left
          · intro w'
            go_simp
            with_reducible rfl
          rotate_left
          · simp only [Act.put, List.setIfInBounds_toArray, List.set_cons_zero, List.set_cons_succ, i64_w, i32_w]
            rfl
          refine one_ (i := 8) (N := some 22) #[true, true, true, true, true, true, true, true, true, false, true, true, false, false, false] rfl rfl (one_of HT_.out (by kernel_rfl)) (by decide) (fun K hK => ?_)
          refine goes_ Try.func25 (by kernel_rfl) rfl #[.int .u64 (IntKind.u64.wrap (a0_1))] (by rfl) rfl rfl (by (try simp only [List.map_toArray, List.map_cons, List.map_nil]); first | done | rfl | (simp only [List.length_drop, List.length_take]; rfl)) ?_
          with_reducible refine (selvedgeref01_Num.calls k (IntKind.u64.wrap (a0_1)) t243 _ A6.out).mono ?_
          rintro e w13 ⟨rfl, hb⟩
          refine ⟨_, rfl, ?_⟩
          have n0_ := Aside0.mk (blk_below (g := gb240) (o := .cells #[.int .i64 a0_0, .int .i64 a0_1, .string a0_2] 47 (0, 0)) (by (with_reducible repeat (first | refine blk_drewN ?_ _ | refine blk_drew ?_ | refine blk_alloc ?_ _)); exact BK240.out) hb)
          have n1_ := Aside0.mk (below_step (by repeat (first | (with_reducible first | exact HB.out | apply below_alloc | apply pw_below_drewN | apply below_drew1 | refine below_set ?_ GE240.out) | exact HB.out)) hb)
          clear BK240
          clear HB
          have BK240 := n0_
          have HB := n1_
          clear n0_ n1_
          (try clear hb)
          (try clear hb2)
          (try clear hk)
          (try clear hi)
          refine hK.out _ _ ⟨(blk_cell BK240.out 0).trans rfl, (blk_cell BK240.out 1).trans rfl, (blk_cell BK240.out 2).trans rfl⟩ (fun hHeld => ?_)
          clear hK K
          refine norm_ (a' := ?_) ?_ ?_
          rotate_left
          · show Act.put _ (some 22) _ = _
            simp only [Act.put, List.setIfInBounds_toArray, List.set_cons_zero, List.set_cons_succ, i64_w, i32_w]
            rfl
          refine pure_ (i := 9) (N := some 23) (v := ?_) (a' := ?_) #[true, true, true, true, true, true, true, true, true, true, true, true, false, false, false] rfl rfl (any_of HT_.out (by kernel_rfl)) (fun _ _ _ h => h) (Or.inl ⟨by rfl, ?_⟩) ?_ ?_
          rotate_left
          · intro w'
            go_simp
            with_reducible rfl
          rotate_left
          · simp only [Act.put, List.setIfInBounds_toArray, List.set_cons_zero, List.set_cons_succ, i64_w, i32_w]
            rfl
          refine pure_ (i := 12) (N := some 26) (v := ?_) (a' := ?_) #[true, true, true, true, true, true, true, true, true, true, true, true, true, false, false] rfl rfl (any_of HT_.out (by kernel_rfl)) (fun _ _ _ h => h) (Or.inl ⟨by rfl, ?_⟩) ?_ ?_
          rotate_left
          · intro w'
            go_simp
            with_reducible rfl
          rotate_left
          · simp only [Act.put, List.setIfInBounds_toArray, List.set_cons_zero, List.set_cons_succ, i64_w, i32_w]
            rfl
          refine pure_ (i := 13) (N := some 2) (v := ?_) (a' := ?_) #[true, true, true, true, true, true, true, true, true, true, true, true, true, true, false] rfl rfl (any_of HT_.out (by kernel_rfl)) (fun _ _ _ h => h) (Or.inl ⟨by rfl, ?_⟩) ?_ ?_
          rotate_left
          · intro w'
            go_simp
            with_reducible rfl
          rotate_left
          · simp only [Act.put, List.setIfInBounds_toArray, List.set_cons_zero, List.set_cons_succ, i64_w, i32_w]
            rfl
          refine pure_ (i := 14) (N := some 3) (v := ?_) (a' := ?_) #[true, true, true, true, true, true, true, true, true, true, true, true, true, true, true] rfl rfl (any_of HT_.out (by kernel_rfl)) (fun _ _ _ h => h) (Or.inl ⟨by rfl, ?_⟩) ?_ ?_
          rotate_left
          · intro w'
            go_simp
            with_reducible rfl
          rotate_left
          · simp only [Act.put, List.setIfInBounds_toArray, List.set_cons_zero, List.set_cons_succ, i64_w, i32_w]
            rfl
          refine done_ (done_of HT_.out (by kernel_rfl)) ?_
          try go_wp2
          go_ret2
          exact ⟨by first | rfl | (simp [errW_none, errW_some] <;> rfl) | (simp [*, errW_none, errW_some] <;> rfl), by repeat (first | (with_reducible first | exact HB.out | apply below_alloc | apply pw_below_drewN | apply below_drew1 | refine below_set ?_ GE240.out) | exact HB.out)⟩
        · rw [if_neg c8] at H
          exact absurd H (by simp)
      · rw [if_neg c7] at H
        exact absurd H (by simp)
    · rw [if_neg c5] at H
      exact absurd H (by simp)
  · replace c3 := Bool.eq_false_iff.mpr c3
    subst c3
    have H1 : (some ((⟨#[]⟩ : ByteArray), 1)) = some (r1, r2) := by rw [if_neg (show ¬ (false = true) by decide)] at H; exact H
    clear H
    have H := H1
    clear H1
    simp only [Option.some.injEq, Prod.mk.injEq] at H
    obtain ⟨rfl, rfl⟩ := H
    go_enter Try.func13, Try.ntmps13
    go_wp2_with (first | ((with_reducible refine gate_dst (N := 1) rfl ?_); refine box_event ?hg (N := 1) ?hd (cs := #[.int .i64 a0_0, .int .i64 a0_1, .string a0_2]) (t := 47) ?hr ?_; (case hd => rfl); (case hg => rfl); (case hr => first | (go_simp; done) | (go_simp; rfl)); intro gb240 hg w14 hbox hb; have n0_ := Aside0.mk (below_step (by repeat (first | (with_reducible first | exact HB.out | apply below_alloc | apply pw_below_drewN | apply below_drew1) | exact HB.out)) hb); have n1_ := Aside0.mk (hbox); have n2_ := Aside0.mk ((by rw [hg]; exact (below_size (by repeat (first | (with_reducible first | exact HB.out | apply below_alloc | apply pw_below_drewN | apply below_drew1) | exact HB.out))) : w.heap.size ≤ gb240)); have n3_ := Aside0.mk ((by rw [hg]; exact (below_size (by repeat (first | (with_reducible first | exact HB.out | apply below_alloc | apply pw_below_drewN | apply below_drew1) | exact HB.out))) : w.heap.size ≤ gb240)); clear HB; have HB := n0_; have BK240 := n1_; have GW240 := n2_; have GE240 := n3_; clear n0_ n1_ n2_ n3_; clear hb hbox hg; have hcz15_0 : w14.cell? ⟨gb240, 0, none⟩ = some (.int .i64 a0_0) := (blk_cell BK240.out 0).trans rfl; have hcz15_1 : w14.cell? ⟨gb240, 1, none⟩ = some (.int .i64 a0_1) := (blk_cell BK240.out 1).trans rfl; have hcz15_2 : w14.cell? ⟨gb240, 2, none⟩ = some (.string a0_2) := (blk_cell BK240.out 2).trans rfl; have hfz15_0 := blk_frozen BK240.out 0; have hfz15_1 := blk_frozen BK240.out 1; have hfz15_2 := blk_frozen BK240.out 2) | ((with_reducible refine gate_callee (f := 24) rfl ?_); refine goesL_ (some 11) rfl rfl Try.func24 (by kernel_rfl) rfl #[.int .i64 a0_0, .int .i64 a0_1, .string a0_2] rfl (by (try simp only [List.map_toArray, List.map_cons, List.map_nil]); first | done | rfl | (simp only [List.length_drop, List.length_take]; rfl)) ?_; (with_reducible refine (selvedgeref18_named.calls a0_0 a0_1 a0_2 false _ A2.out).mono ?_); rintro e w' ⟨rfl, ⟨nd, rfl⟩⟩; refine ⟨_, rfl, ?_⟩))
    go_ret2
    exact ⟨by first | rfl | (simp [errW_none, errW_some] <;> rfl) | (simp [*, errW_none, errW_some] <;> rfl), by repeat (first | (with_reducible first | exact HB.out | apply below_alloc | apply pw_below_drewN | apply below_drew1 | refine below_set ?_ GE240.out) | exact HB.out)⟩
end Go.Proofs.Ytnkeecogengfhaa.Px
