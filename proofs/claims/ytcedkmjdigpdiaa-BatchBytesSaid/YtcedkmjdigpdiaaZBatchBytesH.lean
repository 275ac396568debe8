/- Part 8 of 15 of the proof of the law BatchBytes: what is proved is the statement at the end of the last part; its conditions are those of the given row. -/
import Derived.Test.YtcedkmjdigpdiaaZBatchBytesG
namespace Go.Proofs.Ytcedkmjdigpdiaa.Px
open Go.RowKit Go.Proofs.YtcedkmjdigpdiaaW.PrintWords Go.Proofs.YtcedkmjdigpdiaaW.PrintLast Go.Proofs.YtcedkmjdigpdiaaW.PrintMore
attribute [local go_sem] zz zB zG zH zr zs zA zC
set_option linter.unusedVariables false
set_option linter.unusedSimpArgs false
def zX.f (a0_0 : Int) (a0_1 : Int) (l0_2 : List ByteArray) : Option (ByteArray × Int) := (zI.f a0_0 a0_1 l0_2).bind fun bt127 => (if bt127.2 = 0 then (if 1 + bt127.1.size ≤ 9223372036854775807 then ((zaY.f ((⟨#[98]⟩ : ByteArray) ++ bt127.1)).bind fun t129 => (some (t129, 0))) else (none)) else (some ((⟨#[]⟩ : ByteArray), bt127.2)))
set_option maxHeartbeats 8000000 in
set_option maxRecDepth 100000 in
theorem zX.calls (a0_0 : Int) (a0_1 : Int) (A0_2 : Option Addr) (c0_2 : Nat) (l0_2 : List ByteArray) (r1 : ByteArray) (r2 : Int) (w : World) (hr0_2 : Kd.C Kd.string w A0_2 l0_2.length l0_2) (hc0_2 : l0_2.length ≤ c0_2) (h : zX.f a0_0 a0_1 l0_2 = some (r1, r2)) :
    Calls Try.prog 9 #[.agg #[.int .i64 a0_0, .int .i64 a0_1, .slice A0_2 l0_2.length c0_2]] w fun e w' => e = .returned (.tuple #[.string r1, .int .i64 r2]) ∧ Below w.heap.size w w' := by
  have hu24 := Try.underlying24
  have HR0_2 := za.mk hr0_2
  have HC0_2 := za.mk hc0_2
  clear hr0_2 hc0_2
  have HB := za.mk (Below.refl w.heap.size w)
  have H : ((zI.f a0_0 a0_1 l0_2).bind fun bt127 => (if bt127.2 = 0 then (if 1 + bt127.1.size ≤ 9223372036854775807 then ((zaY.f ((⟨#[98]⟩ : ByteArray) ++ bt127.1)).bind fun t129 => (some (t129, 0))) else (none)) else (some ((⟨#[]⟩ : ByteArray), bt127.2)))) = some (r1, r2) := h
  clear h
  replace H := Option.bind_eq_some_iff.mp H
  obtain ⟨⟨t127, t128⟩, A20, H⟩ := H
  replace H : (if t128 = 0 then (if 1 + t127.size ≤ 9223372036854775807 then ((zaY.f ((⟨#[98]⟩ : ByteArray) ++ t127)).bind fun t129 => (some (t129, 0))) else (none)) else (some ((⟨#[]⟩ : ByteArray), t128))) = some (r1, r2) := H
  have A2 := za.mk A20
  clear A20
  by_cases c3 : t128 = 0
  · rw [if_pos c3] at H
    have c3b0 : (t128 == 0) = true := beq_iff_eq.mpr c3
    have c3b1 : (t128 != 0) = false := bne_eq_false_iff_eq.mpr c3
    clear c3
    by_cases c4 : 1 + t127.size ≤ 9223372036854775807
    · rw [if_pos c4] at H
      have c4b0 := eq_true c4
      have c4b1 : decide (1 + t127.size ≤ 9223372036854775807) = true := decide_eq_true c4
      try have c4b2 : (9223372036854775807 < 1 + t127.size) = False := eq_false (Nat.not_lt.2 c4)
      replace H := Option.bind_eq_some_iff.mp H
      obtain ⟨t129, A50, H⟩ := H
      replace H : (some (t129, 0)) = some (r1, r2) := H
      have A5 := za.mk A50
      clear A50
      simp only [Option.some.injEq, Prod.mk.injEq] at H
      obtain ⟨rfl, rfl⟩ := H
      go_enter Try.func9, Try.ntmps9
      go_wp2_with (first | ((with_reducible refine zP (N := 1) rfl ?_); refine zO ?hg (N := 1) ?hd (cs := #[.int .i64 a0_0, .int .i64 a0_1, .slice A0_2 l0_2.length c0_2]) (t := 24) ?hr ?_; (case hd => rfl); (case hg => rfl); (case hr => first | (go_simp; done) | (go_simp; rfl)); intro gb126 hg w6 hbox hb; have n0_ := za.mk (zg (by repeat (first | (with_reducible first | exact HB.out | apply zf | apply zb | apply zc) | exact HB.out)) hb); have n1_ := za.mk (hbox); have n2_ := za.mk ((by rw [hg]; exact (zE (by repeat (first | (with_reducible first | exact HB.out | apply zf | apply zb | apply zc) | exact HB.out))) : w.heap.size ≤ gb126)); have n3_ := za.mk ((by rw [hg]; exact (zE (by repeat (first | (with_reducible first | exact HB.out | apply zf | apply zb | apply zc) | exact HB.out))) : w.heap.size ≤ gb126)); clear HB; have HB := n0_; have BK126 := n1_; have GW126 := n2_; have GE126 := n3_; clear n0_ n1_ n2_ n3_; clear hb hbox hg; have hcz7_0 : w6.cell? ⟨gb126, 0, none⟩ = some (.int .i64 a0_0) := (zd BK126.out 0).trans rfl; have hcz7_1 : w6.cell? ⟨gb126, 1, none⟩ = some (.int .i64 a0_1) := (zd BK126.out 1).trans rfl; have hcz7_2 : w6.cell? ⟨gb126, 2, none⟩ = some (.slice A0_2 l0_2.length c0_2) := (zd BK126.out 2).trans rfl; have hfz7_0 := ze BK126.out 0; have hfz7_1 := ze BK126.out 1; have hfz7_2 := ze BK126.out 2) | ((with_reducible refine zD (f := 7) rfl ?_); refine zW (some 8) rfl rfl Try.func7 (by kernel_rfl) rfl #[.agg #[.int .i64 a0_0, .int .i64 a0_1, .slice A0_2 l0_2.length c0_2]] rfl (by (try simp only [List.map_toArray, List.map_cons, List.map_nil]); first | done | rfl | (simp only [List.length_drop, List.length_take]; rfl)) ?_; (with_reducible refine (zI.calls a0_0 a0_1 _ _ l0_2 t127 t128 _ ?side1 ?side2 A2.out).mono ?_); (case side1 => repeat (first | exact (Kd.C_below HR0_2.out HB.out) | (with_reducible refine Kd.C_alloc ?_ _) | (with_reducible refine Kd.C_drewN ?_ _) | (with_reducible refine Kd.C_drew ?_))); (case side2 => exact HC0_2.out); rintro e w8 ⟨rfl, hb⟩; refine ⟨_, rfl, ?_⟩; have n0_ := za.mk (zn (g := gb126) (o := .cells #[.int .i64 a0_0, .int .i64 a0_1, .slice A0_2 l0_2.length c0_2] 24 (0, 0)) (by (with_reducible repeat (first | refine zx ?_ _ | refine zy ?_ | refine zw ?_ _)); exact BK126.out) hb); have n1_ := za.mk (zg (by repeat (first | (with_reducible first | exact HB.out | apply zf | apply zb | apply zc | refine zj ?_ GE126.out) | exact HB.out)) hb); clear BK126; clear HB; have BK126 := n0_; have HB := n1_; clear n0_ n1_; (try clear hb); (try clear hb2); (try clear hk); (try clear hi)) | ((with_reducible refine zD (f := 13) rfl ?_); refine zW (some 16) rfl rfl Try.func13 (by kernel_rfl) rfl #[.string ((⟨#[98]⟩ : ByteArray) ++ t127)] rfl (by (try simp only [List.map_toArray, List.map_cons, List.map_nil]); first | done | rfl | (simp only [List.length_drop, List.length_take]; rfl)) ?_; (with_reducible refine (zaY.calls ((⟨#[98]⟩ : ByteArray) ++ t127) t129 _ A5.out).mono ?_); rintro e w9 ⟨rfl, hb⟩; refine ⟨_, rfl, ?_⟩; have n0_ := za.mk (zn (g := gb126) (o := .cells #[.int .i64 a0_0, .int .i64 a0_1, .slice A0_2 l0_2.length c0_2] 24 (0, 0)) (by (with_reducible repeat (first | refine zx ?_ _ | refine zy ?_ | refine zw ?_ _)); exact BK126.out) hb); have n1_ := za.mk (zg (by repeat (first | (with_reducible first | exact HB.out | apply zf | apply zb | apply zc | refine zj ?_ GE126.out) | exact HB.out)) hb); clear BK126; clear HB; have BK126 := n0_; have HB := n1_; clear n0_ n1_; (try clear hb); (try clear hb2); (try clear hk); (try clear hi)))
      go_ret2
      exact ⟨by first | rfl | (simp [zK, zL] <;> rfl) | (simp [*, zK, zL] <;> rfl), by repeat (first | (with_reducible first | exact HB.out | apply zf | apply zb | apply zc | refine zj ?_ GE126.out) | exact HB.out)⟩
    · rw [if_neg c4] at H
      exact absurd H (by simp)
  · rw [if_neg c3] at H
    have c3b0 : (t128 == 0) = false := beq_eq_false_iff_ne.mpr c3
    have c3b1 : (t128 != 0) = true := bne_iff_ne.mpr c3
    simp only [Option.some.injEq, Prod.mk.injEq] at H
    obtain ⟨rfl, rfl⟩ := H
    go_enter Try.func9, Try.ntmps9
    go_wp2_with (first | ((with_reducible refine zP (N := 1) rfl ?_); refine zO ?hg (N := 1) ?hd (cs := #[.int .i64 a0_0, .int .i64 a0_1, .slice A0_2 l0_2.length c0_2]) (t := 24) ?hr ?_; (case hd => rfl); (case hg => rfl); (case hr => first | (go_simp; done) | (go_simp; rfl)); intro gb126 hg w10 hbox hb; have n0_ := za.mk (zg (by repeat (first | (with_reducible first | exact HB.out | apply zf | apply zb | apply zc) | exact HB.out)) hb); have n1_ := za.mk (hbox); have n2_ := za.mk ((by rw [hg]; exact (zE (by repeat (first | (with_reducible first | exact HB.out | apply zf | apply zb | apply zc) | exact HB.out))) : w.heap.size ≤ gb126)); have n3_ := za.mk ((by rw [hg]; exact (zE (by repeat (first | (with_reducible first | exact HB.out | apply zf | apply zb | apply zc) | exact HB.out))) : w.heap.size ≤ gb126)); clear HB; have HB := n0_; have BK126 := n1_; have GW126 := n2_; have GE126 := n3_; clear n0_ n1_ n2_ n3_; clear hb hbox hg; have hcz11_0 : w10.cell? ⟨gb126, 0, none⟩ = some (.int .i64 a0_0) := (zd BK126.out 0).trans rfl; have hcz11_1 : w10.cell? ⟨gb126, 1, none⟩ = some (.int .i64 a0_1) := (zd BK126.out 1).trans rfl; have hcz11_2 : w10.cell? ⟨gb126, 2, none⟩ = some (.slice A0_2 l0_2.length c0_2) := (zd BK126.out 2).trans rfl; have hfz11_0 := ze BK126.out 0; have hfz11_1 := ze BK126.out 1; have hfz11_2 := ze BK126.out 2) | ((with_reducible refine zD (f := 7) rfl ?_); refine zW (some 8) rfl rfl Try.func7 (by kernel_rfl) rfl #[.agg #[.int .i64 a0_0, .int .i64 a0_1, .slice A0_2 l0_2.length c0_2]] rfl (by (try simp only [List.map_toArray, List.map_cons, List.map_nil]); first | done | rfl | (simp only [List.length_drop, List.length_take]; rfl)) ?_; (with_reducible refine (zI.calls a0_0 a0_1 _ _ l0_2 t127 t128 _ ?side1 ?side2 A2.out).mono ?_); (case side1 => repeat (first | exact (Kd.C_below HR0_2.out HB.out) | (with_reducible refine Kd.C_alloc ?_ _) | (with_reducible refine Kd.C_drewN ?_ _) | (with_reducible refine Kd.C_drew ?_))); (case side2 => exact HC0_2.out); rintro e w12 ⟨rfl, hb⟩; refine ⟨_, rfl, ?_⟩; have n0_ := za.mk (zn (g := gb126) (o := .cells #[.int .i64 a0_0, .int .i64 a0_1, .slice A0_2 l0_2.length c0_2] 24 (0, 0)) (by (with_reducible repeat (first | refine zx ?_ _ | refine zy ?_ | refine zw ?_ _)); exact BK126.out) hb); have n1_ := za.mk (zg (by repeat (first | (with_reducible first | exact HB.out | apply zf | apply zb | apply zc | refine zj ?_ GE126.out) | exact HB.out)) hb); clear BK126; clear HB; have BK126 := n0_; have HB := n1_; clear n0_ n1_; (try clear hb); (try clear hb2); (try clear hk); (try clear hi)))
    go_ret2
    exact ⟨by first | rfl | (simp [zK, zL] <;> rfl) | (simp [*, zK, zL] <;> rfl), by repeat (first | (with_reducible first | exact HB.out | apply zf | apply zb | apply zc | refine zj ?_ GE126.out) | exact HB.out)⟩
end Go.Proofs.Ytcedkmjdigpdiaa.Px

namespace Go.Proofs.Ytcedkmjdigpdiaa.Px
open Go.RowKit Go.Proofs.YtcedkmjdigpdiaaW.PrintWords Go.Proofs.YtcedkmjdigpdiaaW.PrintLast Go.Proofs.YtcedkmjdigpdiaaW.PrintMore
attribute [local go_sem] zz zB zG zH zr zs zA zC
set_option linter.unusedVariables false
set_option linter.unusedSimpArgs false
def zQ.f  : Option (Bool) := (zI.f 1 2 (([(⟨#[97, 98]⟩ : ByteArray)] : List ByteArray))).bind fun bt109 => (if bt109.1.toList = ([1, 1, 1, 2, 1, 1, 1, 2, 97, 98] : List UInt8) then (some (bt109.2 == 0)) else (some false))
set_option maxHeartbeats 8000000 in
set_option maxRecDepth 100000 in
theorem zQ.calls  (r : Bool) (w : World) (h : zQ.f  = some r) :
    Calls Try.prog 6 #[] w fun e w' => e = .returned (.bool r) ∧ Below w.heap.size w w' := by
  have hu24 := Try.underlying24
  have HB := za.mk (Below.refl w.heap.size w)
  have H : ((zI.f 1 2 (([(⟨#[97, 98]⟩ : ByteArray)] : List ByteArray))).bind fun bt109 => (if bt109.1.toList = ([1, 1, 1, 2, 1, 1, 1, 2, 97, 98] : List UInt8) then (some (bt109.2 == 0)) else (some false))) = some r := h
  clear h
  obtain ⟨y106, hy106⟩ : ∃ y_ : List ByteArray, y_ = (([(⟨#[97, 98]⟩ : ByteArray)] : List ByteArray)) := ⟨_, rfl⟩
  replace H : ((zI.f 1 2 y106).bind fun bt109 => (if bt109.1.toList = ([1, 1, 1, 2, 1, 1, 1, 2, 97, 98] : List UInt8) then (some (bt109.2 == 0)) else (some false))) = some r := by first | (rw [hy106]; with_reducible exact H) | (have H2_ := (Option.bind_some _ _).symm.trans H; rw [hy106]; with_reducible exact H2_) | (have H2_ := (Option.bind_some _ _).symm.trans H; with_reducible exact H2_) | with_reducible exact H | (rw [hy106]; exact H) | exact H
  have Ny106 := za.mk hy106
  clear hy106
  replace H := Option.bind_eq_some_iff.mp H
  obtain ⟨⟨t109, t110⟩, A10, H⟩ := H
  replace H : (if t109.toList = ([1, 1, 1, 2, 1, 1, 1, 2, 97, 98] : List UInt8) then (some (t110 == 0)) else (some false)) = some r := H
  have A1 := za.mk A10
  clear A10
  by_cases c2 : t109.toList = ([1, 1, 1, 2, 1, 1, 1, 2, 97, 98] : List UInt8)
  · rw [if_pos c2] at H
    have c2b0 : (t109.toList == ([1, 1, 1, 2, 1, 1, 1, 2, 97, 98] : List UInt8)) = true := beq_iff_eq.mpr c2
    have c2b1 : (t109.toList != ([1, 1, 1, 2, 1, 1, 1, 2, 97, 98] : List UInt8)) = false := bne_eq_false_iff_eq.mpr c2
    clear c2
    obtain rfl := Option.some.inj H
    go_enter Try.func6, Try.ntmps6
    go_wp2_with (first | ((with_reducible refine zP (N := 4) rfl ?_); refine Kd.R_lit Kd.string _ 9 ?hg (N := 4) ?hd (xs := ([(⟨#[97, 98]⟩ : ByteArray)] : List ByteArray)) (inner := [.string (⟨#[97, 98]⟩ : ByteArray)]) (ok := fun _ => True) (okp := fun _ => True) ?hr ?hp (fun _ hk => hk) trivial (Below.refl _ _) (Nat.le_refl _) (by simp) ?_; (case hd => rfl); (case hg => rfl); (case hr => first | (go_simp; done) | (go_simp; rfl)); (case hp => exact (z9.one (show Kd.M Kd.string _ _ _ (⟨#[97, 98]⟩ : ByteArray) [.string (⟨#[97, 98]⟩ : ByteArray)] from rfl) (z9.none _ _))); intro v107 w3 ho4 hb hg_ hnew_; clear hg_ hnew_; (first | rw [← Ny106.out] at ho4 | (simp only [Int.reduceToNat] at ho4; rw [← Ny106.out] at ho4)); have n0_ := za.mk (Kd.R_lower ho4 (zE (by repeat (first | (with_reducible first | exact HB.out | apply zf | apply zb | apply zc) | exact HB.out)))); have n1_ := za.mk (zg (by repeat (first | (with_reducible first | exact HB.out | apply zf | apply zb | apply zc) | exact HB.out)) hb); clear HB; have HO108 := n0_; have HB := n1_; clear n0_ n1_; clear hb ho4; obtain ⟨Ao5, co5, eo5⟩ := Kd.R_slice HO108.out; subst eo5) | ((with_reducible refine zD (f := 7) rfl ?_); refine zW (some 6) rfl rfl Try.func7 (by kernel_rfl) rfl #[.agg #[.int .i64 1, .int .i64 2, .slice Ao5 y106.length co5]] rfl (by (try simp only [List.map_toArray, List.map_cons, List.map_nil]); first | done | rfl | (simp only [List.length_drop, List.length_take]; rfl)) ?_; (with_reducible refine (zI.calls 1 2 _ _ y106 t109 t110 _ ?side1 ?side2 A1.out).mono ?_); (case side1 => repeat (first | exact (Kd.R_reads' HO108.out).2.2 | (with_reducible refine Kd.C_alloc ?_ _) | (with_reducible refine Kd.C_drewN ?_ _) | (with_reducible refine Kd.C_drew ?_))); (case side2 => exact (Kd.R_reads' HO108.out).2.1); rintro e w6 ⟨rfl, hb⟩; refine ⟨_, rfl, ?_⟩; have n0_ := za.mk (Kd.R_below (by (with_reducible repeat (first | apply Kd.R_alloc | apply Kd.R_drewN | apply Kd.R_drew)); exact HO108.out) hb); have n1_ := za.mk (zg (by repeat (first | (with_reducible first | exact HB.out | apply zf | apply zb | apply zc) | exact HB.out)) hb); clear HO108; clear HB; have HO108 := n0_; have HB := n1_; clear n0_ n1_; (try clear hb); (try clear hb2); (try clear hk); (try clear hi)))
    go_ret
    exact ⟨by first | rfl | (simp [zK, zL] <;> rfl) | (simp [*, zK, zL] <;> rfl), by repeat (first | (with_reducible first | exact HB.out | apply zf | apply zb | apply zc) | exact HB.out)⟩
  · rw [if_neg c2] at H
    have c2b0 : (t109.toList == ([1, 1, 1, 2, 1, 1, 1, 2, 97, 98] : List UInt8)) = false := beq_eq_false_iff_ne.mpr c2
    have c2b1 : (t109.toList != ([1, 1, 1, 2, 1, 1, 1, 2, 97, 98] : List UInt8)) = true := bne_iff_ne.mpr c2
    obtain rfl := Option.some.inj H
    go_enter Try.func6, Try.ntmps6
    go_wp2_with (first | ((with_reducible refine zP (N := 4) rfl ?_); refine Kd.R_lit Kd.string _ 9 ?hg (N := 4) ?hd (xs := ([(⟨#[97, 98]⟩ : ByteArray)] : List ByteArray)) (inner := [.string (⟨#[97, 98]⟩ : ByteArray)]) (ok := fun _ => True) (okp := fun _ => True) ?hr ?hp (fun _ hk => hk) trivial (Below.refl _ _) (Nat.le_refl _) (by simp) ?_; (case hd => rfl); (case hg => rfl); (case hr => first | (go_simp; done) | (go_simp; rfl)); (case hp => exact (z9.one (show Kd.M Kd.string _ _ _ (⟨#[97, 98]⟩ : ByteArray) [.string (⟨#[97, 98]⟩ : ByteArray)] from rfl) (z9.none _ _))); intro v107 w7 ho8 hb hg_ hnew_; clear hg_ hnew_; (first | rw [← Ny106.out] at ho8 | (simp only [Int.reduceToNat] at ho8; rw [← Ny106.out] at ho8)); have n0_ := za.mk (Kd.R_lower ho8 (zE (by repeat (first | (with_reducible first | exact HB.out | apply zf | apply zb | apply zc) | exact HB.out)))); have n1_ := za.mk (zg (by repeat (first | (with_reducible first | exact HB.out | apply zf | apply zb | apply zc) | exact HB.out)) hb); clear HB; have HO108 := n0_; have HB := n1_; clear n0_ n1_; clear hb ho8; obtain ⟨Ao9, co9, eo9⟩ := Kd.R_slice HO108.out; subst eo9) | ((with_reducible refine zD (f := 7) rfl ?_); refine zW (some 6) rfl rfl Try.func7 (by kernel_rfl) rfl #[.agg #[.int .i64 1, .int .i64 2, .slice Ao9 y106.length co9]] rfl (by (try simp only [List.map_toArray, List.map_cons, List.map_nil]); first | done | rfl | (simp only [List.length_drop, List.length_take]; rfl)) ?_; (with_reducible refine (zI.calls 1 2 _ _ y106 t109 t110 _ ?side1 ?side2 A1.out).mono ?_); (case side1 => repeat (first | exact (Kd.R_reads' HO108.out).2.2 | (with_reducible refine Kd.C_alloc ?_ _) | (with_reducible refine Kd.C_drewN ?_ _) | (with_reducible refine Kd.C_drew ?_))); (case side2 => exact (Kd.R_reads' HO108.out).2.1); rintro e w10 ⟨rfl, hb⟩; refine ⟨_, rfl, ?_⟩; have n0_ := za.mk (Kd.R_below (by (with_reducible repeat (first | apply Kd.R_alloc | apply Kd.R_drewN | apply Kd.R_drew)); exact HO108.out) hb); have n1_ := za.mk (zg (by repeat (first | (with_reducible first | exact HB.out | apply zf | apply zb | apply zc) | exact HB.out)) hb); clear HO108; clear HB; have HO108 := n0_; have HB := n1_; clear n0_ n1_; (try clear hb); (try clear hb2); (try clear hk); (try clear hi)))
    go_ret
    exact ⟨by first | rfl | (simp [zK, zL] <;> rfl) | (simp [*, zK, zL] <;> rfl), by repeat (first | (with_reducible first | exact HB.out | apply zf | apply zb | apply zc) | exact HB.out)⟩
end Go.Proofs.Ytcedkmjdigpdiaa.Px

namespace Go.Proofs.Ytcedkmjdigpdiaa.Px
open Go.RowKit Go.Proofs.YtcedkmjdigpdiaaW.PrintWords Go.Proofs.YtcedkmjdigpdiaaW.PrintLast Go.Proofs.YtcedkmjdigpdiaaW.PrintMore
attribute [local go_sem] zz zB zG zH zr zs zA zC
set_option linter.unusedVariables false
set_option linter.unusedSimpArgs false
def z4 (w : World) (base : Nat) (e : TypeId) (v : Value) (l : Bs) : Prop :=
  ∃ g cap cur fz, v = .slice (some ⟨g, 0, none⟩) l.length cap ∧ base ≤ g ∧ w.heap[g]? = some (.cells cur e fz) ∧ (fz.2 ≤ l.length ∨ cap ≤ fz.1) ∧ l.length ≤ cap ∧ cap ≤ maxLen ∧ cur.size = cap ∧ cur.toList.take l.length = Lib.byteCells l
theorem z4.below {w w' : World} {base : Nat} {e : TypeId} {v : Value} {l : Bs} (h : z4 w base e v l) (hb : Below w.heap.size w w') : z4 w' base e v l := by
  obtain ⟨g, cap, cur, fz, rfl, hg, hh, r⟩ := h
  exact ⟨g, cap, cur, fz, rfl, hg, (hb.block g (Array.getElem?_eq_some_iff.1 hh).1).trans hh, r⟩
theorem z4.start (W : World) (base : Nat) (e : TypeId) (s : ByteArray) (hb : base ≤ W.heap.size) (hs : s.size ≤ maxLen) : z4 (Lib.bytesWorld W e s) base e (.slice (some ⟨W.heap.size, 0, none⟩) s.size (grownCap W s.size 0 e)) (ofB s) := by
  have hc := grownCap_ge W s.size 0 e
  have hd : s.data.size = s.size := rfl
  have hz : (Lib.bytesCells W e s).size = grownCap W s.size 0 e := by
    rw [Lib.bytesCells, Array.size_append, Array.size_map, Array.size_replicate, hd]; omega
  refine ⟨W.heap.size, grownCap W s.size 0 e, Lib.bytesCells W e s, _, by rw [zV], hb, Lib.bytesWorld_at_new W e s, .inr (by rw [hz]; exact Nat.le_refl _), by rw [zV]; exact hc, grownCap_le_maxLen W s.size 0 e hs, hz, ?_⟩
  rw [Lib.bytesCells, Array.toList_append, List.take_left' (by rw [Array.length_toList, Array.size_map, hd, zV])]
  simp [Lib.byteCells, ofB]
theorem zaE (P : Program) (g o : Nat) (t : TypeId) (fz : Nat × Nat) : ∀ (vs : List Value) (i : Nat) (cur : Array Value) (w : World), w.heap[g]? = some (.cells cur t fz) → (fz.2 ≤ o + i ∨ cur.size ≤ fz.1) → o + i + vs.length ≤ cur.size → (∀ v ∈ vs, v.oneCell' = true) →
    (storeCells ⟨g, o, none⟩ vs i).run P w = .ok () (w.setRow g (cur.toList.take (o + i) ++ vs ++ cur.toList.drop (o + i + vs.length)).toArray)
  | [], i, cur, w, hg, _, _, _ => by
    simp only [storeCells, List.append_nil, List.length_nil, Nat.add_zero, List.take_append_drop, Array.toArray_toList]
    rw [setRow_self w g cur t fz hg]
    rfl
  | v :: rest, i, cur, w, hg, hfz, hl, h1 => by
    have hi : o + i < cur.size := by simp at hl; omega
    have hadd : (⟨g, o, none⟩ : Addr).add i = ⟨g, o + i, none⟩ := by unfold Addr.add; split <;> simp_all
    have hcell : w.cell? ⟨g, o + i, none⟩ = some cur[o + i] := by simp [World.cell?, hg, hi]
    have hfro : w.frozen? ⟨g, o + i, none⟩ = false := by
      obtain ⟨lo, hi'⟩ := fz
      simp only [World.frozen?, hg, Bool.and_eq_false_iff, decide_eq_false_iff_not]
      simp only at hfz
      omega
    have hst : (store ((⟨g, o, none⟩ : Addr).add i) v).run P w = .ok () (w.setRow g (cur.setIfInBounds (o + i) v)) := by
      rw [hadd, run_store P w _ v _ (h1 v (by simp)), hcell]
      simp [hfro, setCell_eq_setRow w g (o + i) cur t fz v hg]
    have ih := zaE P g o t fz rest (i + 1) (cur.setIfInBounds (o + i) v) (w.setRow g (cur.setIfInBounds (o + i) v)) (setRow_heap w g cur _ t _ hg) (by rw [Array.size_setIfInBounds]; omega) (by simp at hl ⊢; omega) (fun x hx => h1 x (by simp [hx]))
    simp only [storeCells, Sem.run_bind, hst, Result.andThen_ok, ih, setRow_setRow]
    congr 3
    have e := list_seg_step cur.toList (o + i) v rest (by simp at hl ⊢; omega)
    simpa [Array.toList_setIfInBounds, Nat.add_assoc] using e
theorem zcd {P : Program} {w : World} (base : Nat) (t u ty e : TypeId) (i : TypeInfo) (ht : P.underlying t = some (.slice e)) (hu : P.underlying u = some .string) (hi : P.info? e = some i) (hz : i.zero = some (.int .u8 0))
    (hsize : i.size = 1) (hby : i.bytes = 1) (v : Value) (l : Bs) (hown : z4 w base e v l) (s : ByteArray) (hbytes : l.length + s.size ≤ 140737488355328) (hbase : base ≤ w.heap.size) :
    ∃ v' w', (Builtin.append_ #[t, u] ty #[v, .string s]).run P w = .ok v' w' ∧ z4 w' base e v' (l ++ ofB s) ∧ Below base w w' := by
  obtain ⟨g, cap, cur, fz, rfl, hbg, hg, hfz, hnc, hcm, hcs, htake⟩ := hown
  have hsmall : l.length + s.size ≤ maxLen := by unfold maxLen; omega
  have hlen : (l ++ ofB s).length = l.length + s.size := by rw [List.length_append, zV]
  have hcells : Lib.byteCells (l ++ ofB s) = Lib.byteCells l ++ Lib.strCells s := by rw [Lib.strCells_eq]; simp [Lib.byteCells, ofB]
  have hcl : (Lib.byteCells l ++ Lib.strCells s).length = l.length + s.size := by rw [List.length_append, Lib.byteCells_length, Lib.strCells_length]
  by_cases hroom : l.length + s.size ≤ cap
  · have hf := Lib.run_firstCells_string (P := P) w 1 s
    have hst := zaE P g l.length e fz (Lib.strCells s) 0 cur w hg (by omega) (by rw [Lib.strCells_length]; omega) (Lib.strCells_oneCell s)
    simp only [Nat.add_zero, Lib.strCells_length] at hst
    refine ⟨.slice (some ⟨g, 0, none⟩) (l.length + s.size) cap, w.setRow g (cur.toList.take l.length ++ Lib.strCells s ++ cur.toList.drop (l.length + s.size)).toArray, ?_, ?_, ?_⟩
    · simp [Builtin.append_, run_underlying ht, run_underlying hu, sizeOf, typeInfo, hi, hsize, Builtin.lenOf, hroom, hf, Addr.add_lit, hst]
    · refine ⟨g, cap, _, fz, by rw [hlen], hbg, setRow_heap w g cur _ e _ hg, by rw [hlen]; omega, by rw [hlen]; exact hroom, hcm, ?_, ?_⟩
      · simp only [List.size_toArray, List.length_append, List.length_take, List.length_drop, Array.length_toList, Lib.strCells_length]
        omega
      · rw [htake, hlen, hcells, ← hcl]
        exact List.take_left
    · exact ⟨rfl, rfl, rfl, by simp, fun k hk => setRow_other w g k _ (by omega)⟩
  · have holds : ∀ j u, (Lib.byteCells l)[j]? = some u → w.cell? ((⟨g, 0, none⟩ : Addr).add j) = some u := by
      intro j u hu
      rw [← htake, List.getElem?_take] at hu
      split at hu
      · rw [zbm]
        simp [World.cell?, hg]
        simpa using hu
      · cases hu
    have hr := Lib.run_append_grow_string (P := P) w t u ty e i (.int .u8 0) ht hu hi hz ⟨g, 0, none⟩ l.length cap (Lib.byteCells l) (by rw [hsize, Lib.byteCells_length]; omega) holds s (by omega) (by omega) (by rw [hby]; exact growslice_fits (by omega) (by omega))
    have hge := grownCap_ge w (l.length + s.size) cap e
    have hcm2 : grownCap w (l.length + s.size) cap e ≤ maxLen := grownCap_le_maxLen w (l.length + s.size) cap e hsmall
    refine ⟨_, _, hr, ⟨w.heap.size, _, _, (0, 0), by rw [hlen], hbase, heap_alloc_new w.drew _, .inl (Nat.zero_le _), by rw [hlen]; exact hge, hcm2, ?_, ?_⟩, ⟨rfl, rfl, rfl, by simp, fun k hk => Lib.alloc_old w.drew _ k (Nat.lt_of_lt_of_le hk hbase)⟩⟩
    · have hz1 : (Value.int IntKind.u8 0).cells.size = 1 := rfl
      simp only [Array.size_append, List.size_toArray, size_zeroCells, hz1, Lib.byteCells_length, Lib.strCells_length]
      omega
    · simp only [Array.toList_append, List.append_assoc]
      rw [← List.append_assoc, hlen, hcells, ← hcl]
      exact List.take_left
theorem zcg {P : Program} {w w0 : World} {ops : Array Oper} {rest : List Oper} {o : Oper} {a : Act} {Q : Exit → Act → World → Prop} (hgd : o.guard = none) (sl x : Operand) (t u : TypeId)
    (ho : o.op = .call { callee := .builtin .append, args := #[sl, x], argTypes := #[t, u] })
    (base : Nat) (e : TypeId) (ht : P.underlying t = some (.slice e)) (hu : P.underlying u = some .string) (hinfo : (P.info? e).map (fun i => (i.zero, i.size, i.bytes)) = some (some (.int .u8 0), 1, 1))
    (v : Value) (l : Bs) (hs : a.eval sl = v) (hown : z4 w base e v l) (s : ByteArray) (hx : a.eval x = .string s) (HB : Below base w0 w) (hbytes : l.length + s.size ≤ 140737488355328) (hbase : base ≤ w.heap.size)
    (h : ∀ v' w', z4 w' base e v' (l ++ ofB s) → Below base w0 w' → wpList P ops Q rest (a.put o.dst v') w') : wpList P ops Q (o :: rest) a w := by
  obtain ⟨i0, hi, hzz⟩ := Option.map_eq_some_iff.1 hinfo
  simp only [Prod.mk.injEq] at hzz
  obtain ⟨hz0, hz1, hz2⟩ := hzz
  refine wpList_plain hgd fun K hK => ?_
  obtain ⟨v', w', hr, h2, h3⟩ := zcd (P := P) base t u o.type e i0 ht hu hi hz0 hz1 hz2 v l hown s hbytes hbase
  unfold Oper.wp execOp
  simp only [ho, resolve, invoke, builtin, Sem.run_bind, Sem.run_pure, Result.andThen_ok, List.map_toArray, List.map_cons, List.map_nil, hs, hx, hr]
  exact hK _ _ (h v' w' h2 (HB.trans h3))
theorem z4.string {P : Program} {w : World} {base : Nat} {e src : TypeId} {v : Value} {l : Bs} (hown : z4 w base e v l) (hs : P.underlying src = some (.slice e)) (he : P.underlying e = some (.int .u8)) :
    ∀ dst, P.underlying dst = some .string → (convert src dst v).run P w = .ok (.string (toB l)) w := by
  obtain ⟨g, cap, cur, fz, rfl, hbg, hg, hfz, hnc, hcm, hcs, htake⟩ := hown
  intro dst hd
  have h := run_convert_bytes_arg (P := P) w src e hs he g 0 l.length cap (l.map fun b => (b.toNat : Int)) (by simp) (fun i hi => by
    have h1 : (Lib.byteCells l)[i]? = some (.int .u8 ((l.map fun b => (b.toNat : Int)).getD i 0)) := by
      simp [Lib.byteCells, List.getElem?_eq_getElem hi]
    rw [← htake, List.getElem?_take, if_pos hi] at h1
    rw [Nat.zero_add]
    simp [World.cell?, hg]
    simpa using h1) dst hd
  rw [h]
  congr 3
  rw [zau, List.map_map]
  congr 1
  rw [List.map_congr_left (g := id) (fun b _ => by simp), List.map_id]
end Go.Proofs.Ytcedkmjdigpdiaa.Px

namespace Go.Proofs.Ytcedkmjdigpdiaa.Px
open Go.RowKit Go.Proofs.YtcedkmjdigpdiaaW.PrintWords Go.Proofs.YtcedkmjdigpdiaaW.PrintLast Go.Proofs.YtcedkmjdigpdiaaW.PrintMore
attribute [local go_sem] zz zB zG zH zr zs zA zC
set_option linter.unusedVariables false
set_option linter.unusedSimpArgs false
theorem zfB : (Try.prog.info? 5).map (fun i => (i.zero, i.size, i.bytes)) = some (some (.int .u8 0), 1, 1) := by kernel_rfl
def zM.Rel (l : List ByteArray) (k : Nat) (w0 wr : World) (v : Value) : Prop := z4 wr w0.heap.size 5 v (za6 l.length ++ zaj (l.take k)) ∧ Below w0.heap.size w0 wr
set_option maxRecDepth 100000 in
theorem zM.walk (A : Option Addr) (c : Nat) (l : List ByteArray) (w : World) (hr : Kd.C Kd.string w A l.length l) (hc : l.length ≤ c) (hs : (zbc l).length ≤ 140737488355328) :
    Calls Try.prog 24 #[.slice A l.length c] w fun e w' => e = .returned (.string (toB (zbc l))) ∧ Below w.heap.size w w' := by
  have hm := hr.2.1
  have hll := zd3 l
  have hsum : (zbc l).length = (za6 l.length).length + (zaj l).length := by rw [zbc, List.length_append]
  have hlen : l.length ≤ 140737488355328 := by omega
  obtain ⟨k0, hk0⟩ := (zcl l.length (by omega)).rounds
  have HN := za.mk hk0
  have HR := za.mk hr
  have HS := za.mk hs
  have HU := za.mk hsum
  have kb := fun (W : World) (s : ByteArray) => Lib.run_convert_string_bytes (P := Try.prog) W 9 54 5 s Try.underlying9 Try.underlying54 Try.underlying5
  clear hr hs hll hsum hk0
  go_enter Try.func24, Try.ntmps24
  go_wp2_with (go_at_call 23; (with_reducible refine (zu.calls _ _ _ _ HN.out).mono ?_); rintro e w1 ⟨rfl, hb1⟩)
  have hw1 : Below w.heap.size w w1 := by assumption
  have HL : za (zM.Rel l 0 w (Lib.bytesWorld w1 5 (za0 l.length)) (.slice (some ⟨w1.heap.size, 0, none⟩) (za0 l.length).size (grownCap w1 (za0 l.length).size 0 5))) := ⟨by
    have h := z4.start w1 w.heap.size 5 (za0 l.length) hw1.size (by have := zaI (v := l.length) (by omega); unfold maxLen; omega)
    rw [List.take_zero, show zaj [] = [] from rfl, List.append_nil]
    rw [za0, zbf] at h
    exact h, zcr hw1 hw1.size 5 _⟩
  generalize Lib.bytesWorld w1 5 (za0 l.length) = wb at *
  generalize Value.slice (some ⟨w1.heap.size, 0, none⟩) (za0 l.length).size (grownCap w1 (za0 l.length).size 0 5) = vb at *
  clear hw1
  go_loopw [3, 4] (fun v3 v4 wr => ∃ k : Nat, v4 = .int .i64 k ∧ k ≤ l.length ∧ za (zM.Rel l k w wr v3)) (fun _ v4 _ => l.length - (match v4 with | .int _ q => q | _ => 0).toNat)
  case atStart => exact ⟨0, rfl, Nat.zero_le _, HL⟩
  case round =>
    obtain ⟨k, rfl, hk, HK⟩ := hrel
    by_cases hlt : k < l.length
    · obtain ⟨ad, rfl, hcell⟩ := Kd.at_string (Kd.C_below HR.out HK.out.2) (k : Int) (by omega) (by omega)
      rw [Int.toNat_natCast] at hcell
      have hb : decide (k < l.length) = true := decide_eq_true hlt
      have hx : l[k]? = some (za3 ByteArray.empty l (k : Int)) := by
        rw [za3, Int.toNat_natCast, List.getD_eq_getElem?_getD, List.getElem?_eq_getElem hlt]; rfl
      have HX := za.mk hx
      clear hx
      generalize za3 ByteArray.empty l (k : Int) = s at *
      have hs := zcc l k s HX.out
      have HT := za.mk (zbJ s (by have := HS.out; have := HU.out; omega))
      have h2 := zb9 l k s HX.out
      have h3 := zbk l (k + 1)
      rw [h2, List.length_append, zV] at h3
      have H2 := za.mk h2
      have H3 : za ((za6 l.length ++ zaj (l.take k)).length + (zb3 s).size ≤ 140737488355328) := ⟨by rw [List.length_append]; have := HS.out; have := HU.out; omega⟩
      clear h2 h3 hs
      go_wp2_with (first | (go_at_call 51; (with_reducible refine (zad.calls _ _ _ HT.out).mono ?_); rintro e w3 ⟨rfl, hb3⟩; have HO := za.mk (z4.below HK.out.1 hb3); have HB := za.mk (zg HK.out.2 hb3); clear hb3) | (at_builtin; refine zcg rfl _ _ 54 9 rfl w.heap.size 5 Try.underlying54 Try.underlying9 zfB _ _ rfl HO.out _ rfl HB.out H3.out HB.out.size ?_; intro v5 w5 ho5 hb5; have HL5 : za (zM.Rel l (k + 1) w w5 v5) := ⟨by rw [H2.out, ← List.append_assoc]; exact ho5, hb5⟩; clear ho5 hb5))
      go_roundw
      case rel => exact ⟨k + 1, by go_num, by omega, HL5⟩
      case measure => simp; omega
    · obtain rfl : k = l.length := by omega
      have hs2 := HK.out.1.string Try.underlying54 Try.underlying5 9 Try.underlying9
      rw [List.take_of_length_le (Nat.le_refl _)] at hs2
      go_wp2
      go_ret
      exact ⟨rfl, HK.out.2⟩
def zM.f (l0 : List ByteArray) : Option (ByteArray) := if (zbc l0).length ≤ 140737488355328 then (some (toB (zbc l0))) else (none)
theorem zM.calls (A0 : Option Addr) (c0 : Nat) (l0 : List ByteArray) (r : ByteArray) (w : World) (hr0 : Kd.C Kd.string w A0 l0.length l0) (hc0 : l0.length ≤ c0) (h : zM.f l0 = some r) :
    Calls Try.prog 24 #[.slice A0 l0.length c0] w fun e w' => e = .returned (.string r) ∧ Below w.heap.size w w' := by
  unfold zM.f at h
  split at h
  · rename_i hs
    obtain rfl := Option.some.inj h
    exact zM.walk A0 c0 l0 w hr0 hc0 hs
  · cases h
end Go.Proofs.Ytcedkmjdigpdiaa.Px
