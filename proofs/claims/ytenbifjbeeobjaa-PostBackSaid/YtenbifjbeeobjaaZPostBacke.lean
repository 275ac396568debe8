/- Part 31 of 33 of the proof of the law PostBack: what is proved is the statement at the end of the last part; its conditions are those of the given row. -/
import Derived.Test.YtenbifjbeeobjaaZPostBackY
import Derived.Test.YtenbifjbeeobjaaZPostBackc
import Derived.Test.YtenbifjbeeobjaaZPostBackd
namespace Go.Proofs.Ytenbifjbeeobjaa.Px
open Go.RowKit Go.Proofs.YtenbifjbeeobjaaW.PrintWords Go.Proofs.YtenbifjbeeobjaaW.PrintLast Go.Proofs.YtenbifjbeeobjaaW.PrintMore
attribute [local go_sem] zC zE zJ zK zv zw zB zD
set_option linter.unusedVariables false
set_option linter.unusedSimpArgs false
def zdb.f (a0 : ByteArray) : Option (ByteArray) := if 1 + a0.size ≤ 9223372036854775807 then (some ((⟨#[116]⟩ : ByteArray) ++ a0)) else (none)
set_option maxHeartbeats 8000000 in
set_option maxRecDepth 100000 in
theorem zdb.calls (a0 : ByteArray) (r : ByteArray) (w : World) (h : zdb.f a0 = some r) :
    Calls Try.prog 23 #[.string a0] w fun e w' => e = .returned (.string r) ∧ zI w w' := by
  have H : (if 1 + a0.size ≤ 9223372036854775807 then (some ((⟨#[116]⟩ : ByteArray) ++ a0)) else (none)) = some r := h
  clear h
  by_cases c2 : 1 + a0.size ≤ 9223372036854775807
  · rw [if_pos c2] at H
    have c2b0 := eq_true c2
    have c2b1 : decide (1 + a0.size ≤ 9223372036854775807) = true := decide_eq_true c2
    try have c2b2 : (9223372036854775807 < 1 + a0.size) = False := eq_false (Nat.not_lt.2 c2)
    obtain rfl := Option.some.inj H
    go_enter Try.func23, Try.ntmps23
    go_wp2
    go_ret
    exact ⟨by first | rfl | (simp; done) | (simp [*]; done), by repeat (first | exact zI.refl _ | apply zI.step)⟩
  · rw [if_neg c2] at H
    exact absurd H (by simp)
end Go.Proofs.Ytenbifjbeeobjaa.Px

namespace Go.Proofs.Ytenbifjbeeobjaa.Px
open Go.RowKit Go.Proofs.YtenbifjbeeobjaaW.PrintWords Go.Proofs.YtenbifjbeeobjaaW.PrintLast Go.Proofs.YtenbifjbeeobjaaW.PrintMore
attribute [local go_sem] zC zE zJ zK zv zw zB zD
set_option linter.unusedVariables false
set_option linter.unusedSimpArgs false
def zaT.f (a0 : ByteArray) : Option (Int) := if a0.toList = ([] : List UInt8) then (some 0) else (if 0 < (a0.size : Int) then (some (bt a0 0)) else (none))
set_option maxHeartbeats 8000000 in
set_option maxRecDepth 100000 in
theorem zaT.calls (a0 : ByteArray) (r : Int) (w : World) (h : zaT.f a0 = some r) :
    Calls Try.prog 24 #[.string a0] w fun e w' => e = .returned (.int .u8 r) ∧ zI w w' := by
  have H : (if a0.toList = ([] : List UInt8) then (some 0) else (if 0 < (a0.size : Int) then (some (bt a0 0)) else (none))) = some r := h
  clear h
  by_cases c2 : a0.toList = ([] : List UInt8)
  · rw [if_pos c2] at H
    have c2b0 : (a0.toList == ([] : List UInt8)) = true := beq_iff_eq.mpr c2
    have c2b1 : (a0.toList != ([] : List UInt8)) = false := bne_eq_false_iff_eq.mpr c2
    clear c2
    obtain rfl := Option.some.inj H
    go_enter Try.func24, Try.ntmps24
    go_wp2
    go_ret
    exact ⟨by first | rfl | (simp; done) | (simp [*]; done), by repeat (first | exact zI.refl _ | apply zI.step)⟩
  · rw [if_neg c2] at H
    have c2b0 : (a0.toList == ([] : List UInt8)) = false := beq_eq_false_iff_ne.mpr c2
    have c2b1 : (a0.toList != ([] : List UInt8)) = true := bne_iff_ne.mpr c2
    by_cases c3 : 0 < (a0.size : Int)
    · rw [if_pos c3] at H
      have c3b0 : decide (0 < (a0.size : Int)) = true := decide_eq_true c3
      have c3b1 : decide (0 < a0.size) = true := decide_eq_true (by omega)
      clear c3
      obtain rfl := Option.some.inj H
      have p4 : 0 ≤ (0 : Int) := (by omega)
      have q4 : 0 < a0.size := (by have : (0 : Int) < (a0.size : Int) := of_decide_eq_true (by first | (with_reducible assumption) | assumption); omega)
      have hx4 : ∀ h : 0 < a0.size, ((a0[0]'h).toNat : Int) = bt a0 0 := zfY a0 0
      clear p4
      have qi4 : (0 < (a0.size : Int)) = True := eq_true (of_decide_eq_true (by first | (with_reducible assumption) | assumption))
      replace q4 := eq_true q4
      go_enter Try.func24, Try.ntmps24
      go_wp2
      go_ret
      exact ⟨by first | rfl | (simp; done) | (simp [*]; done), by repeat (first | exact zI.refl _ | apply zI.step)⟩
    · rw [if_neg c3] at H
      exact absurd H (by simp)
end Go.Proofs.Ytenbifjbeeobjaa.Px

namespace Go.Proofs.Ytenbifjbeeobjaa.Px
open Go.RowKit Go.Proofs.YtenbifjbeeobjaaW.PrintWords Go.Proofs.YtenbifjbeeobjaaW.PrintLast Go.Proofs.YtenbifjbeeobjaaW.PrintMore
attribute [local go_sem] zC zE zJ zK zv zw zB zD
set_option linter.unusedVariables false
set_option linter.unusedSimpArgs false
def zaU.f (k : Nat)  : Option (Bool) := if 32 ≤ 281474976710656 then ((some (List.replicate 32 0 : List Int)).bind fun y108 => ((zag.f k 1 2 3 (strOfNums y108)).bind fun bt111 => (if 7 + (strOfNums y108).size ≤ 9223372036854775807 then (if bt111.1.toList = ((⟨#[121, 1, 1, 1, 2, 1, 3]⟩ : ByteArray) ++ (strOfNums y108)).toList then (if bt111.2 = 0 then ((zaT.f (⟨#[]⟩ : ByteArray)).bind fun t113 => (if t113 = 0 then ((zaT.f bt111.1).bind fun t114 => (some (t114 == 121))) else (some false))) else (some false)) else (some false)) else (none)))) else (none)
set_option maxHeartbeats 8000000 in
set_option maxRecDepth 100000 in
theorem zaU.calls (k : Nat)  (r : Bool) (w : World) (h : zaU.f k  = some r) :
    Calls Try.prog 6 #[] w fun e w' => e = .returned (.bool r) ∧ Below w.heap.size w w' := by
  have hu42 := Try.underlying42
  have HB := zb.mk (Below.refl w.heap.size w)
  have H : (if 32 ≤ 281474976710656 then ((some (List.replicate 32 0 : List Int)).bind fun y108 => ((zag.f k 1 2 3 (strOfNums y108)).bind fun bt111 => (if 7 + (strOfNums y108).size ≤ 9223372036854775807 then (if bt111.1.toList = ((⟨#[121, 1, 1, 1, 2, 1, 3]⟩ : ByteArray) ++ (strOfNums y108)).toList then (if bt111.2 = 0 then ((zaT.f (⟨#[]⟩ : ByteArray)).bind fun t113 => (if t113 = 0 then ((zaT.f bt111.1).bind fun t114 => (some (t114 == 121))) else (some false))) else (some false)) else (some false)) else (none)))) else (none)) = some r := h
  clear h
  by_cases c1 : 32 ≤ 281474976710656
  · rw [if_pos c1] at H
    have c1b0 := eq_true c1
    have c1b1 : decide (32 ≤ 281474976710656) = true := decide_eq_true c1
    clear c1
    obtain ⟨y108, hy108⟩ : ∃ y_ : List Int, y_ = (List.replicate 32 0) := ⟨_, rfl⟩
    replace H : ((zag.f k 1 2 3 (strOfNums y108)).bind fun bt111 => (if 7 + (strOfNums y108).size ≤ 9223372036854775807 then (if bt111.1.toList = ((⟨#[121, 1, 1, 1, 2, 1, 3]⟩ : ByteArray) ++ (strOfNums y108)).toList then (if bt111.2 = 0 then ((zaT.f (⟨#[]⟩ : ByteArray)).bind fun t113 => (if t113 = 0 then ((zaT.f bt111.1).bind fun t114 => (some (t114 == 121))) else (some false))) else (some false)) else (some false)) else (none))) = some r := by first | (rw [hy108]; with_reducible exact H) | (have H2_ := (Option.bind_some _ _).symm.trans H; rw [hy108]; with_reducible exact H2_) | (have H2_ := (Option.bind_some _ _).symm.trans H; with_reducible exact H2_) | with_reducible exact H | (rw [hy108]; exact H) | exact H
    have Ny108 := zb.mk hy108
    clear hy108
    replace H := Option.bind_eq_some_iff.mp H
    obtain ⟨⟨t111, t112⟩, A20, H⟩ := H
    replace H : (if 7 + (strOfNums y108).size ≤ 9223372036854775807 then (if t111.toList = ((⟨#[121, 1, 1, 1, 2, 1, 3]⟩ : ByteArray) ++ (strOfNums y108)).toList then (if t112 = 0 then ((zaT.f (⟨#[]⟩ : ByteArray)).bind fun t113 => (if t113 = 0 then ((zaT.f t111).bind fun t114 => (some (t114 == 121))) else (some false))) else (some false)) else (some false)) else (none)) = some r := H
    have A2 := zb.mk A20
    clear A20
    by_cases c3 : 7 + (strOfNums y108).size ≤ 9223372036854775807
    · rw [if_pos c3] at H
      have c3b0 := eq_true c3
      have c3b1 : decide (7 + (strOfNums y108).size ≤ 9223372036854775807) = true := decide_eq_true c3
      try have c3b2 : (9223372036854775807 < 7 + (strOfNums y108).size) = False := eq_false (Nat.not_lt.2 c3)
      by_cases c4 : t111.toList = ((⟨#[121, 1, 1, 1, 2, 1, 3]⟩ : ByteArray) ++ (strOfNums y108)).toList
      · rw [if_pos c4] at H
        have c4b0 : (t111.toList == ((⟨#[121, 1, 1, 1, 2, 1, 3]⟩ : ByteArray) ++ (strOfNums y108)).toList) = true := beq_iff_eq.mpr c4
        have c4b1 : (t111.toList != ((⟨#[121, 1, 1, 1, 2, 1, 3]⟩ : ByteArray) ++ (strOfNums y108)).toList) = false := bne_eq_false_iff_eq.mpr c4
        clear c4
        by_cases c5 : t112 = 0
        · rw [if_pos c5] at H
          have c5b0 : (t112 == 0) = true := beq_iff_eq.mpr c5
          have c5b1 : (t112 != 0) = false := bne_eq_false_iff_eq.mpr c5
          clear c5
          replace H := Option.bind_eq_some_iff.mp H
          obtain ⟨t113, A60, H⟩ := H
          replace H : (if t113 = 0 then ((zaT.f t111).bind fun t114 => (some (t114 == 121))) else (some false)) = some r := H
          have A6 := zb.mk A60
          clear A60
          by_cases c7 : t113 = 0
          · rw [if_pos c7] at H
            have c7b0 : (t113 == 0) = true := beq_iff_eq.mpr c7
            have c7b1 : (t113 != 0) = false := bne_eq_false_iff_eq.mpr c7
            clear c7
            replace H := Option.bind_eq_some_iff.mp H
            obtain ⟨t114, A80, H⟩ := H
            replace H : (some (t114 == 121)) = some r := H
            have A8 := zb.mk A80
            clear A80
            obtain rfl := Option.some.inj H
            go_enter Try.func6, Try.ntmps6
            go_wp2_with (first | ((with_reducible refine zq (N := 4) rfl ?_); refine Kd.R_make (Kd.int .u8) _ 5 rfl (N := 4) rfl 69 _ _ rfl 32 rfl rfl Try.underlying69 (.int .u8 0) 1 zgk rfl (by decide) (by omega) 0 (ok := fun _ => True) (okp := fun _ => True) rfl (fun _ hk => hk) trivial (by omega) (by omega) (Below.refl _ _) (Nat.le_refl _) ?_; intro v109 w9 ho10 hb hg_ hnew_; clear hg_ hnew_; (first | rw [← Ny108.out] at ho10 | (simp only [Int.reduceToNat] at ho10; rw [← Ny108.out] at ho10)); have n0_ := zb.mk (Kd.R_lower ho10 (zo (by repeat (first | (with_reducible first | exact HB.out | apply zi | apply zd | apply zj) | exact HB.out)))); have n1_ := zb.mk (zl (by repeat (first | (with_reducible first | exact HB.out | apply zi | apply zd | apply zj) | exact HB.out)) hb); clear HB; have HO110 := n0_; have HB := n1_; clear n0_ n1_; clear hb ho10; have hcv11 := zcH (P := Try.prog) Try.underlying69 Try.underlying5 Try.underlying9 (Kd.own_of_R HO110.out)) | ((with_reducible refine zu (f := 21) rfl ?_); refine zQ (some 9) rfl rfl Try.func21 (by kernel_rfl) rfl #[.agg #[.int .i64 1, .int .i64 2, .int .i64 3, .string (strOfNums y108)]] rfl (by (try simp only [List.map_toArray, List.map_cons, List.map_nil]); first | done | rfl | (simp only [List.length_drop, List.length_take]; rfl)) ?_; (with_reducible refine (zag.calls k 1 2 3 (strOfNums y108) t111 t112 _ A2.out).mono ?_); rintro e w12 ⟨rfl, hb⟩; refine ⟨_, rfl, ?_⟩; have n0_ := zb.mk (Kd.R_below (by (with_reducible repeat (first | apply Kd.R_alloc | apply Kd.R_drewN | apply Kd.R_drew)); exact HO110.out) hb); have n1_ := zb.mk (zl (by repeat (first | (with_reducible first | exact HB.out | apply zi | apply zd | apply zj) | exact HB.out)) hb); clear HO110; clear HB; have HO110 := n0_; have HB := n1_; clear n0_ n1_; (try clear hb); (try clear hb2); (try clear hk); (try clear hi)) | (go_at_call 24; (with_reducible refine (zaT.calls (⟨#[]⟩ : ByteArray) t113 _ A6.out).mono ?_); rintro e w' ⟨rfl, ⟨nd, rfl⟩⟩) | (go_at_call 24; (with_reducible refine (zaT.calls t111 t114 _ A8.out).mono ?_); rintro e w' ⟨rfl, ⟨nd, rfl⟩⟩))
            go_ret
            exact ⟨by first | rfl | (simp [zt, zr] <;> rfl) | (simp [*, zt, zr] <;> rfl), by repeat (first | (with_reducible first | exact HB.out | apply zi | apply zd | apply zj) | exact HB.out)⟩
          · rw [if_neg c7] at H
            have c7b0 : (t113 == 0) = false := beq_eq_false_iff_ne.mpr c7
            have c7b1 : (t113 != 0) = true := bne_iff_ne.mpr c7
            obtain rfl := Option.some.inj H
            go_enter Try.func6, Try.ntmps6
            go_wp2_with (first | ((with_reducible refine zq (N := 4) rfl ?_); refine Kd.R_make (Kd.int .u8) _ 5 rfl (N := 4) rfl 69 _ _ rfl 32 rfl rfl Try.underlying69 (.int .u8 0) 1 zgk rfl (by decide) (by omega) 0 (ok := fun _ => True) (okp := fun _ => True) rfl (fun _ hk => hk) trivial (by omega) (by omega) (Below.refl _ _) (Nat.le_refl _) ?_; intro v109 w13 ho14 hb hg_ hnew_; clear hg_ hnew_; (first | rw [← Ny108.out] at ho14 | (simp only [Int.reduceToNat] at ho14; rw [← Ny108.out] at ho14)); have n0_ := zb.mk (Kd.R_lower ho14 (zo (by repeat (first | (with_reducible first | exact HB.out | apply zi | apply zd | apply zj) | exact HB.out)))); have n1_ := zb.mk (zl (by repeat (first | (with_reducible first | exact HB.out | apply zi | apply zd | apply zj) | exact HB.out)) hb); clear HB; have HO110 := n0_; have HB := n1_; clear n0_ n1_; clear hb ho14; have hcv15 := zcH (P := Try.prog) Try.underlying69 Try.underlying5 Try.underlying9 (Kd.own_of_R HO110.out)) | ((with_reducible refine zu (f := 21) rfl ?_); refine zQ (some 9) rfl rfl Try.func21 (by kernel_rfl) rfl #[.agg #[.int .i64 1, .int .i64 2, .int .i64 3, .string (strOfNums y108)]] rfl (by (try simp only [List.map_toArray, List.map_cons, List.map_nil]); first | done | rfl | (simp only [List.length_drop, List.length_take]; rfl)) ?_; (with_reducible refine (zag.calls k 1 2 3 (strOfNums y108) t111 t112 _ A2.out).mono ?_); rintro e w16 ⟨rfl, hb⟩; refine ⟨_, rfl, ?_⟩; have n0_ := zb.mk (Kd.R_below (by (with_reducible repeat (first | apply Kd.R_alloc | apply Kd.R_drewN | apply Kd.R_drew)); exact HO110.out) hb); have n1_ := zb.mk (zl (by repeat (first | (with_reducible first | exact HB.out | apply zi | apply zd | apply zj) | exact HB.out)) hb); clear HO110; clear HB; have HO110 := n0_; have HB := n1_; clear n0_ n1_; (try clear hb); (try clear hb2); (try clear hk); (try clear hi)) | (go_at_call 24; (with_reducible refine (zaT.calls (⟨#[]⟩ : ByteArray) t113 _ A6.out).mono ?_); rintro e w' ⟨rfl, ⟨nd, rfl⟩⟩))
            go_ret
            exact ⟨by first | rfl | (simp [zt, zr] <;> rfl) | (simp [*, zt, zr] <;> rfl), by repeat (first | (with_reducible first | exact HB.out | apply zi | apply zd | apply zj) | exact HB.out)⟩
        · rw [if_neg c5] at H
          have c5b0 : (t112 == 0) = false := beq_eq_false_iff_ne.mpr c5
          have c5b1 : (t112 != 0) = true := bne_iff_ne.mpr c5
          obtain rfl := Option.some.inj H
          go_enter Try.func6, Try.ntmps6
          go_wp2_with (first | ((with_reducible refine zq (N := 4) rfl ?_); refine Kd.R_make (Kd.int .u8) _ 5 rfl (N := 4) rfl 69 _ _ rfl 32 rfl rfl Try.underlying69 (.int .u8 0) 1 zgk rfl (by decide) (by omega) 0 (ok := fun _ => True) (okp := fun _ => True) rfl (fun _ hk => hk) trivial (by omega) (by omega) (Below.refl _ _) (Nat.le_refl _) ?_; intro v109 w17 ho18 hb hg_ hnew_; clear hg_ hnew_; (first | rw [← Ny108.out] at ho18 | (simp only [Int.reduceToNat] at ho18; rw [← Ny108.out] at ho18)); have n0_ := zb.mk (Kd.R_lower ho18 (zo (by repeat (first | (with_reducible first | exact HB.out | apply zi | apply zd | apply zj) | exact HB.out)))); have n1_ := zb.mk (zl (by repeat (first | (with_reducible first | exact HB.out | apply zi | apply zd | apply zj) | exact HB.out)) hb); clear HB; have HO110 := n0_; have HB := n1_; clear n0_ n1_; clear hb ho18; have hcv19 := zcH (P := Try.prog) Try.underlying69 Try.underlying5 Try.underlying9 (Kd.own_of_R HO110.out)) | ((with_reducible refine zu (f := 21) rfl ?_); refine zQ (some 9) rfl rfl Try.func21 (by kernel_rfl) rfl #[.agg #[.int .i64 1, .int .i64 2, .int .i64 3, .string (strOfNums y108)]] rfl (by (try simp only [List.map_toArray, List.map_cons, List.map_nil]); first | done | rfl | (simp only [List.length_drop, List.length_take]; rfl)) ?_; (with_reducible refine (zag.calls k 1 2 3 (strOfNums y108) t111 t112 _ A2.out).mono ?_); rintro e w20 ⟨rfl, hb⟩; refine ⟨_, rfl, ?_⟩; have n0_ := zb.mk (Kd.R_below (by (with_reducible repeat (first | apply Kd.R_alloc | apply Kd.R_drewN | apply Kd.R_drew)); exact HO110.out) hb); have n1_ := zb.mk (zl (by repeat (first | (with_reducible first | exact HB.out | apply zi | apply zd | apply zj) | exact HB.out)) hb); clear HO110; clear HB; have HO110 := n0_; have HB := n1_; clear n0_ n1_; (try clear hb); (try clear hb2); (try clear hk); (try clear hi)))
          go_ret
          exact ⟨by first | rfl | (simp [zt, zr] <;> rfl) | (simp [*, zt, zr] <;> rfl), by repeat (first | (with_reducible first | exact HB.out | apply zi | apply zd | apply zj) | exact HB.out)⟩
      · rw [if_neg c4] at H
        have c4b0 : (t111.toList == ((⟨#[121, 1, 1, 1, 2, 1, 3]⟩ : ByteArray) ++ (strOfNums y108)).toList) = false := beq_eq_false_iff_ne.mpr c4
        have c4b1 : (t111.toList != ((⟨#[121, 1, 1, 1, 2, 1, 3]⟩ : ByteArray) ++ (strOfNums y108)).toList) = true := bne_iff_ne.mpr c4
        obtain rfl := Option.some.inj H
        go_enter Try.func6, Try.ntmps6
        go_wp2_with (first | ((with_reducible refine zq (N := 4) rfl ?_); refine Kd.R_make (Kd.int .u8) _ 5 rfl (N := 4) rfl 69 _ _ rfl 32 rfl rfl Try.underlying69 (.int .u8 0) 1 zgk rfl (by decide) (by omega) 0 (ok := fun _ => True) (okp := fun _ => True) rfl (fun _ hk => hk) trivial (by omega) (by omega) (Below.refl _ _) (Nat.le_refl _) ?_; intro v109 w21 ho22 hb hg_ hnew_; clear hg_ hnew_; (first | rw [← Ny108.out] at ho22 | (simp only [Int.reduceToNat] at ho22; rw [← Ny108.out] at ho22)); have n0_ := zb.mk (Kd.R_lower ho22 (zo (by repeat (first | (with_reducible first | exact HB.out | apply zi | apply zd | apply zj) | exact HB.out)))); have n1_ := zb.mk (zl (by repeat (first | (with_reducible first | exact HB.out | apply zi | apply zd | apply zj) | exact HB.out)) hb); clear HB; have HO110 := n0_; have HB := n1_; clear n0_ n1_; clear hb ho22; have hcv23 := zcH (P := Try.prog) Try.underlying69 Try.underlying5 Try.underlying9 (Kd.own_of_R HO110.out)) | ((with_reducible refine zu (f := 21) rfl ?_); refine zQ (some 9) rfl rfl Try.func21 (by kernel_rfl) rfl #[.agg #[.int .i64 1, .int .i64 2, .int .i64 3, .string (strOfNums y108)]] rfl (by (try simp only [List.map_toArray, List.map_cons, List.map_nil]); first | done | rfl | (simp only [List.length_drop, List.length_take]; rfl)) ?_; (with_reducible refine (zag.calls k 1 2 3 (strOfNums y108) t111 t112 _ A2.out).mono ?_); rintro e w24 ⟨rfl, hb⟩; refine ⟨_, rfl, ?_⟩; have n0_ := zb.mk (Kd.R_below (by (with_reducible repeat (first | apply Kd.R_alloc | apply Kd.R_drewN | apply Kd.R_drew)); exact HO110.out) hb); have n1_ := zb.mk (zl (by repeat (first | (with_reducible first | exact HB.out | apply zi | apply zd | apply zj) | exact HB.out)) hb); clear HO110; clear HB; have HO110 := n0_; have HB := n1_; clear n0_ n1_; (try clear hb); (try clear hb2); (try clear hk); (try clear hi)))
        go_ret
        exact ⟨by first | rfl | (simp [zt, zr] <;> rfl) | (simp [*, zt, zr] <;> rfl), by repeat (first | (with_reducible first | exact HB.out | apply zi | apply zd | apply zj) | exact HB.out)⟩
    · rw [if_neg c3] at H
      exact absurd H (by simp)
  · rw [if_neg c1] at H
    exact absurd H (by simp)
end Go.Proofs.Ytenbifjbeeobjaa.Px

namespace Go.Proofs.Ytenbifjbeeobjaa.Px
open Go.RowKit Go.Proofs.YtenbifjbeeobjaaW.PrintWords Go.Proofs.YtenbifjbeeobjaaW.PrintLast Go.Proofs.YtenbifjbeeobjaaW.PrintMore
attribute [local go_sem] zC zE zJ zK zv zw zB zD
set_option linter.unusedVariables false
set_option linter.unusedSimpArgs false
theorem zb4 {x : Int} (h0 : 0 ≤ x) (h1 : x < 9223372036854775808) : zO.f (IntKind.u64.wrap x) = some (zbg x.toNat) := by
  rw [zbe h0 (by omega), zO.f, if_pos h0, if_pos (by omega)]
theorem zbo (a r : Int) (d : ByteArray) : zbj a r d = true ↔ 1 ≤ a ∧ a ≤ 64 ∧ 1 ≤ r ∧ r ≤ 1048576 ∧ d.size = 32 := by
  unfold zbj; simp [and_assoc]
theorem zc9 (a : Int) : zcy a = true ↔ 1 ≤ a ∧ a ≤ 64 := by
  unfold zcy; simp
def zfj (a r v : Int) (d : ByteArray) : Bs := zaN a.toNat ++ (zaN r.toNat ++ (zaN v.toNat ++ ofB d))
def zcL (a r : Int) (d : ByteArray) : Bs := zaN a.toNat ++ (zaN r.toNat ++ ofB d)
def zgv (a r v : Int) (d : ByteArray) : ByteArray × Int := if zbj a r d = true ∧ zcy v = true then (toB (121 :: zfj a r v d), 0) else ((⟨#[]⟩ : ByteArray), 1)
def zdB (a r : Int) (d : ByteArray) : ByteArray × Int := if zbj a r d = true then (toB (118 :: zcL a r d), 0) else ((⟨#[]⟩ : ByteArray), 1)
theorem zhj (a r v : Nat) (d : ByteArray) : ((((⟨#[121]⟩ : ByteArray) ++ zbg a) ++ zbg r) ++ zbg v) ++ d = toB (121 :: (zaN a ++ (zaN r ++ (zaN v ++ ofB d)))) := by
  apply zcN
  simp only [zcP, zY, zbg]
  show (([121] : Bs) ++ zaN a ++ zaN r ++ zaN v ++ ofB d) = _
  simp
theorem zgd (a r : Nat) (d : ByteArray) : (((⟨#[118]⟩ : ByteArray) ++ zbg a) ++ zbg r) ++ d = toB (118 :: (zaN a ++ (zaN r ++ ofB d))) := by
  apply zcN
  simp only [zcP, zY, zbg]
  show (([118] : Bs) ++ zaN a ++ zaN r ++ ofB d) = _
  simp
theorem zc5 (c : UInt8) : (⟨#[c]⟩ : ByteArray).size = 1 := rfl
theorem zd4 (a r v : Int) (d : ByteArray) : Ev (fun k => zag.f k a r v d) (zgv a r v d) := by
  refine zam (zbv _ _ _) ?_
  unfold zgv
  have bad : Ev (fun k => zag.j0 k true a r v d) ((⟨#[]⟩ : ByteArray), 1) := Ev.step (fun k => by rw [zag.j0]) (zX rfl (Ev.now _))
  by_cases h : zbj a r d = true
  · refine zX h (zam (zcg _) ?_)
    by_cases hv : zcy v = true
    · rw [if_pos ⟨h, hv⟩, hv]
      refine Ev.step (fun k => by rw [zag.j0]) ?_
      obtain ⟨h1, h2, h3, h4, h5⟩ := (zbo _ _ _).1 h
      obtain ⟨h6, h7⟩ := (zc9 _).1 hv
      have s0 := zaY (v := a.toNat) (by omega)
      have s1 := zaY (v := r.toNat) (by omega)
      have s2 := zaY (v := v.toNat) (by omega)
      refine zak (by simp) (zam (zb4 (by omega) (by omega)) (zX (by omega) (zam (zb4 (by omega) (by omega)) (zX (by rw [ByteArray.size_append, zc5]; omega) (zam (zb4 (by omega) (by omega)) (zX (by simp only [ByteArray.size_append, zc5]; omega) (zX (by simp only [ByteArray.size_append, zc5]; omega) ?_)))))))
      rw [zhj, ← zfj]
      exact Ev.now _
    · rw [if_neg (fun hh => hv hh.2)]
      rw [Bool.not_eq_true] at hv
      rw [hv]; exact bad
  · rw [if_neg (fun hh => h hh.1)]
    exact zak h bad
theorem zeE (a r : Int) (d : ByteArray) : zaF.f a r d = some (zdB a r d) := by
  unfold zaF.f
  rw [zbv]
  simp only [Option.bind_some]
  unfold zdB
  by_cases h : zbj a r d = true
  · rw [if_pos h, if_pos h]
    obtain ⟨h1, h2, h3, h4, h5⟩ := (zbo _ _ _).1 h
    have s0 := zaY (v := a.toNat) (by omega)
    have s1 := zaY (v := r.toNat) (by omega)
    rw [zb4 (by omega) (by omega), zb4 (by omega) (by omega)]
    simp only [Option.bind_some]
    rw [if_pos (by omega), if_pos (by rw [ByteArray.size_append, zc5]; omega), if_pos (by simp only [ByteArray.size_append, zc5]; omega), zgd, ← zcL]
  · rw [if_neg h, if_neg h]
theorem zg4 {a r v : Int} {d : ByteArray} (h : zbj a r d = true) (hv : zcy v = true) : zeX (zfj a r v d) = some (a.toNat, r.toNat, v.toNat, ofB d) := by
  obtain ⟨h1, h2, h3, h4, h5⟩ := (zbo _ _ _).1 h
  obtain ⟨h6, h7⟩ := (zc9 _).1 hv
  rw [zeX, zfj, zbJ (by omega), Option.bind_some]
  simp only
  rw [zbJ (by omega), Option.bind_some]
  simp only
  rw [zbJ (by omega), Option.bind_some]
  simp only
  rw [zbt, Int.toNat_of_nonneg (by omega), Int.toNat_of_nonneg (by omega), Int.toNat_of_nonneg (by omega), if_pos ⟨h, hv⟩]
theorem zeu {a r : Int} {d : ByteArray} (h : zbj a r d = true) : zbX (zcL a r d) = some (a.toNat, r.toNat, ofB d) := by
  obtain ⟨h1, h2, h3, h4, h5⟩ := (zbo _ _ _).1 h
  rw [zbX, zcL, zbJ (by omega), Option.bind_some]
  simp only
  rw [zbJ (by omega), Option.bind_some]
  simp only
  rw [zbt, Int.toNat_of_nonneg (by omega), Int.toNat_of_nonneg (by omega), if_pos h]
theorem zeg (s : ByteArray) (hs : s.size < 4611686018427387904) : za4.f s = some (zcX s) := by
  unfold za4.f z6.f
  rw [if_pos ⟨rfl, hs⟩]
  rfl
theorem zdt (s : ByteArray) (hs : s.size < 4611686018427387904) : zaJ.f s = some (zb2 s) := by
  unfold zaJ.f zS.f
  rw [if_pos ⟨rfl, hs⟩]
  rfl
theorem zfr {a r v : Int} {d : ByteArray} (h : zbj a r d = true) (hv : zcy v = true) : zcX (toB (121 :: zfj a r v d)) = (a, r, v, d, 0) := by
  obtain ⟨h1, h2, h3, h4, h5⟩ := (zbo _ _ _).1 h
  obtain ⟨h6, h7⟩ := (zc9 _).1 hv
  unfold zcX
  rw [zY]
  simp only [if_true]
  rw [zg4 h hv, zgo]
  simp only [zbt]
  rw [Int.toNat_of_nonneg (by omega), Int.toNat_of_nonneg (by omega), Int.toNat_of_nonneg (by omega)]
theorem zdr {a r : Int} {d : ByteArray} (h : zbj a r d = true) : zb2 (toB (118 :: zcL a r d)) = (a, r, d, 0) := by
  obtain ⟨h1, h2, h3, h4, h5⟩ := (zbo _ _ _).1 h
  unfold zb2
  rw [zY]
  simp only [if_true]
  rw [zeu h, zdI]
  simp only [zbt]
  rw [Int.toNat_of_nonneg (by omega), Int.toNat_of_nonneg (by omega)]
theorem zfW {a r v : Int} {d : ByteArray} (h : zbj a r d = true) (hv : zcy v = true) : (zfj a r v d).length ≤ 60 := by
  obtain ⟨h1, h2, h3, h4, h5⟩ := (zbo _ _ _).1 h
  obtain ⟨h6, h7⟩ := (zc9 _).1 hv
  have s0 := zad (v := a.toNat) (by omega)
  have s1 := zad (v := r.toNat) (by omega)
  have s2 := zad (v := v.toNat) (by omega)
  rw [zfj]; simp only [List.length_append, z9]; omega
theorem zez {a r : Int} {d : ByteArray} (h : zbj a r d = true) : (zcL a r d).length ≤ 60 := by
  obtain ⟨h1, h2, h3, h4, h5⟩ := (zbo _ _ _).1 h
  have s0 := zad (v := a.toNat) (by omega)
  have s1 := zad (v := r.toNat) (by omega)
  rw [zcL]; simp only [List.length_append, z9]; omega
theorem zdA (s : ByteArray) : zaT.f s = some ((((ofB s).head?.map (fun c => (c.toNat : Int))).getD 0)) := by
  unfold zaT.f
  rw [zaI]
  rcases hq : ofB s with _ | ⟨c, t⟩
  · rfl
  · have hz : s.size = t.length + 1 := by rw [← z9, hq]; rfl
    rw [if_neg (by simp), if_pos (by omega)]
    have := zgb s 0
    rw [hq] at this
    rw [show ((0 : Nat) : Int) = 0 from rfl] at this
    rw [this]; rfl
def d32 : ByteArray := strOfNums (List.replicate 32 0)
theorem zfI : d32.size = 32 := by
  rw [d32, zdp, z5, List.length_map, List.length_replicate]
theorem zf7 : Ev (fun k => zaU.f k) true := by
  unfold zaU.f
  refine zX (by omega) (zam rfl ?_)
  have hn : zbj 1 2 d32 = true := by rw [zbo]; exact ⟨by omega, by omega, by omega, by omega, zfI⟩
  have hz : (strOfNums (List.replicate 32 0)).size = 32 := zfI
  refine Ev.bind (zd4 1 2 3 d32) (zX (by omega) ?_)
  have hs : zgv 1 2 3 d32 = (toB (121 :: zfj 1 2 3 d32), 0) := if_pos ⟨hn, by decide⟩
  have b3 : be 3 = [3] := by rw [zcJ (by omega)]; simp [zb0]
  have e : (toB (121 :: zfj 1 2 3 d32)).toList = ((⟨#[121, 1, 1, 1, 2, 1, 3]⟩ : ByteArray) ++ strOfNums (List.replicate 32 0)).toList := by
    rw [zaI, zaI, zY, zcP]
    show 121 :: (zaN 1 ++ (zaN 2 ++ (zaN 3 ++ ofB d32))) = _
    rw [zaN, zaN, zaN, zib, zia, b3]
    rfl
  rw [hs]
  refine zX e (zX rfl (zam (zdA _) (zX rfl (zam (zdA _) (zaX (Ev.now _) ?_)))))
  rw [zY]; rfl
end Go.Proofs.Ytenbifjbeeobjaa.Px

namespace Go.Proofs.Ytenbifjbeeobjaa.Px
open Go.RowKit Go.Proofs.YtenbifjbeeobjaaW.PrintWords Go.Proofs.YtenbifjbeeobjaaW.PrintLast Go.Proofs.YtenbifjbeeobjaaW.PrintMore
attribute [local go_sem] zC zE zJ zK zv zw zB zD
set_option linter.unusedVariables false
set_option linter.unusedSimpArgs false
end Go.Proofs.Ytenbifjbeeobjaa.Px

namespace Go.Proofs.Ytenbifjbeeobjaa.Px
open Go.RowKit Go.Proofs.YtenbifjbeeobjaaW.PrintWords Go.Proofs.YtenbifjbeeobjaaW.PrintLast Go.Proofs.YtenbifjbeeobjaaW.PrintMore
attribute [local go_sem] zC zE zJ zK zv zw zB zD
set_option linter.unusedVariables false
set_option linter.unusedSimpArgs false
end Go.Proofs.Ytenbifjbeeobjaa.Px

namespace Go.Proofs.Ytenbifjbeeobjaa.Px
open Go.RowKit Go.Proofs.YtenbifjbeeobjaaW.PrintWords Go.Proofs.YtenbifjbeeobjaaW.PrintLast Go.Proofs.YtenbifjbeeobjaaW.PrintMore
attribute [local go_sem] zC zE zJ zK zv zw zB zD
set_option linter.unusedVariables false
set_option linter.unusedSimpArgs false
def zfJ (a r : Int) (bs : List zR) (ps : List ByteArray) (x y n : Int) : ByteArray × Int := if za3 a r bs ps x y n = true then (toB (104 :: za6 a r bs ps x y), 0) else ((⟨#[]⟩ : ByteArray), 1)
def zfH (a r : Int) (bs : List zR) (ps : List ByteArray) (x y : Int) (s : Nat) (n : Int) : ByteArray × Int :=
  if zcu a r bs ps x y s n = 0 then (toB (99 :: zcb a r bs ps x y s), 0) else ((⟨#[]⟩ : ByteArray), zcu a r bs ps x y s n)
theorem zeH (c : UInt8) (l : Bs) : (⟨#[c]⟩ : ByteArray) ++ toB l = toB (c :: l) := by
  rw [show (⟨#[c]⟩ : ByteArray) = toB [c] from rfl, ← zbU]; rfl
theorem zer {a r : Int} {bs : List zR} {ps : List ByteArray} {x y n : Int} (h : za3 a r bs ps x y n = true) {s : Nat} (hs : s < 18446744073709551616) : (zcb a r bs ps x y s).length ≤ 1000020 := by
  have hl := zco h
  have n1 := zad (v := s) hs
  have n2 := zad (v := (za6 a r bs ps x y).length) (by omega)
  rw [zcb, zcc, List.length_append, List.length_append]; omega
theorem zem (a r : Int) (bs : List zR) (ps : List ByteArray) (x y n : Int) : zbL.f a r bs ps x y n = some (zfJ a r bs ps x y n) := by
  unfold zbL.f zfJ
  rw [zcV]
  simp only [Option.bind_some]
  by_cases h : za3 a r bs ps x y n = true
  · have hl := zco h
    rw [if_pos h, if_pos h, if_pos rfl, if_pos (by rw [z5]; omega), zeH]
  · rw [if_neg h, if_neg h]; rfl
theorem zeU (a r : Int) (bs : List zR) (ps : List ByteArray) (x y : Int) (s : Nat) (hs : s < 18446744073709551616) (n : Int) : zbV.f a r bs ps x y (s : Int) n = some (zfH a r bs ps x y s n) := by
  unfold zbV.f zfH
  rw [ze5 _ _ _ _ _ _ _ hs]
  simp only [Option.bind_some, zge]
  by_cases h : zcu a r bs ps x y s n = 0
  · have hl := zer (zcl.1 h).1 hs
    rw [if_pos h, if_pos h, if_pos rfl, if_pos (by rw [z5]; omega), zeH]
  · rw [if_neg h, if_neg h, if_neg h]
theorem zga (d : ByteArray) (h : d.size ≤ 140737488351232) : zdb.f d = some (toB (116 :: ofB d)) := by
  unfold zdb.f
  rw [if_pos (by omega), ← zeH, zbt]
end Go.Proofs.Ytenbifjbeeobjaa.Px

namespace Go.Proofs.Ytenbifjbeeobjaa.Px
open Go.RowKit Go.Proofs.YtenbifjbeeobjaaW.PrintWords Go.Proofs.YtenbifjbeeobjaaW.PrintLast Go.Proofs.YtenbifjbeeobjaaW.PrintMore
attribute [local go_sem] zC zE zJ zK zv zw zB zD
set_option linter.unusedVariables false
set_option linter.unusedSimpArgs false
end Go.Proofs.Ytenbifjbeeobjaa.Px

namespace Go.Proofs.Ytenbifjbeeobjaa.Px
open Go.RowKit Go.Proofs.YtenbifjbeeobjaaW.PrintWords Go.Proofs.YtenbifjbeeobjaaW.PrintLast Go.Proofs.YtenbifjbeeobjaaW.PrintMore
attribute [local go_sem] zC zE zJ zK zv zw zB zD
set_option linter.unusedVariables false
set_option linter.unusedSimpArgs false
end Go.Proofs.Ytenbifjbeeobjaa.Px

namespace Go.Proofs.Ytenbifjbeeobjaa.Px
open Go.RowKit Go.Proofs.YtenbifjbeeobjaaW.PrintWords Go.Proofs.YtenbifjbeeobjaaW.PrintLast Go.Proofs.YtenbifjbeeobjaaW.PrintMore
attribute [local go_sem] zC zE zJ zK zv zw zB zD
set_option linter.unusedVariables false
set_option linter.unusedSimpArgs false
end Go.Proofs.Ytenbifjbeeobjaa.Px

namespace Go.Proofs.Ytenbifjbeeobjaa.Px
open Go.RowKit Go.Proofs.YtenbifjbeeobjaaW.PrintWords Go.Proofs.YtenbifjbeeobjaaW.PrintLast Go.Proofs.YtenbifjbeeobjaaW.PrintMore
attribute [local go_sem] zC zE zJ zK zv zw zB zD
set_option linter.unusedVariables false
set_option linter.unusedSimpArgs false
end Go.Proofs.Ytenbifjbeeobjaa.Px

namespace Go.Proofs.Ytenbifjbeeobjaa.Px
open Go.RowKit Go.Proofs.YtenbifjbeeobjaaW.PrintWords Go.Proofs.YtenbifjbeeobjaaW.PrintLast Go.Proofs.YtenbifjbeeobjaaW.PrintMore
attribute [local go_sem] zC zE zJ zK zv zw zB zD
set_option linter.unusedVariables false
set_option linter.unusedSimpArgs false
end Go.Proofs.Ytenbifjbeeobjaa.Px

namespace Go.Proofs.Ytenbifjbeeobjaa.Px
open Go.RowKit Go.Proofs.YtenbifjbeeobjaaW.PrintWords Go.Proofs.YtenbifjbeeobjaaW.PrintLast Go.Proofs.YtenbifjbeeobjaaW.PrintMore
attribute [local go_sem] zC zE zJ zK zv zw zB zD
set_option linter.unusedVariables false
set_option linter.unusedSimpArgs false
end Go.Proofs.Ytenbifjbeeobjaa.Px

namespace Go.Proofs.Ytenbifjbeeobjaa.Px
open Go.RowKit Go.Proofs.YtenbifjbeeobjaaW.PrintWords Go.Proofs.YtenbifjbeeobjaaW.PrintLast Go.Proofs.YtenbifjbeeobjaaW.PrintMore
attribute [local go_sem] zC zE zJ zK zv zw zB zD
set_option linter.unusedVariables false
set_option linter.unusedSimpArgs false
theorem zeJ (s : ByteArray) : zbc.f s = some (zei s) := by
  unfold zbc.f z4.f
  rw [if_pos rfl]; rfl
theorem zdv (s : ByteArray) (n : Int) (hs : s.size < 4611686018427387904) : zz.f s n = some (zfP (ofB s) n) := if_pos hs
theorem zdG (s : ByteArray) (n : Int) (hs : s.size < 4611686018427387904) : zF.f s n = some (zfT (ofB s) n) := if_pos hs
end Go.Proofs.Ytenbifjbeeobjaa.Px
