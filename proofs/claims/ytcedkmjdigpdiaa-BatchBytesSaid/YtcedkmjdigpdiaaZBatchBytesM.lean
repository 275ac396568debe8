/- Part 13 of 15 of the proof of the law BatchBytes: what is proved is the statement at the end of the last part; its conditions are those of the given row. -/
import Derived.Test.YtcedkmjdigpdiaaZBatchBytesJ
import Derived.Test.YtcedkmjdigpdiaaZBatchBytesL
namespace Go.Proofs.Ytcedkmjdigpdiaa.Px
open Go.RowKit Go.Proofs.YtcedkmjdigpdiaaW.PrintWords Go.Proofs.YtcedkmjdigpdiaaW.PrintLast Go.Proofs.YtcedkmjdigpdiaaW.PrintMore
attribute [local go_sem] zz zB zG zH zr zs zA zC
set_option linter.unusedVariables false
set_option linter.unusedSimpArgs false
def zJ.f (k : Nat) (a0_0 : Int) (a0_1 : Int) (l0_2 : List ByteArray) : Option (ByteArray × Int) := (zp.f k a0_0 a0_1 l0_2).bind fun bt131 => (if bt131.2 = 0 then (if 1 + bt131.1.size ≤ 9223372036854775807 then ((zZ.f ((⟨#[98]⟩ : ByteArray) ++ bt131.1)).bind fun t133 => (some (t133, 0))) else (none)) else (some ((⟨#[]⟩ : ByteArray), bt131.2)))
set_option maxHeartbeats 8000000 in
set_option maxRecDepth 100000 in
theorem zJ.calls (k : Nat) (a0_0 : Int) (a0_1 : Int) (A0_2 : Option Addr) (c0_2 : Nat) (l0_2 : List ByteArray) (r1 : ByteArray) (r2 : Int) (w : World) (hr0_2 : Kd.C Kd.string w A0_2 l0_2.length l0_2) (hc0_2 : l0_2.length ≤ c0_2) (h : zJ.f k a0_0 a0_1 l0_2 = some (r1, r2)) :
    Calls Try.prog 10 #[.agg #[.int .i64 a0_0, .int .i64 a0_1, .slice A0_2 l0_2.length c0_2]] w fun e w' => e = .returned (.tuple #[.string r1, .int .i64 r2]) ∧ Below w.heap.size w w' := by
  have hu24 := Try.underlying24
  have HR0_2 := za.mk hr0_2
  have HC0_2 := za.mk hc0_2
  clear hr0_2 hc0_2
  have HB := za.mk (Below.refl w.heap.size w)
  have H : ((zp.f k a0_0 a0_1 l0_2).bind fun bt131 => (if bt131.2 = 0 then (if 1 + bt131.1.size ≤ 9223372036854775807 then ((zZ.f ((⟨#[98]⟩ : ByteArray) ++ bt131.1)).bind fun t133 => (some (t133, 0))) else (none)) else (some ((⟨#[]⟩ : ByteArray), bt131.2)))) = some (r1, r2) := h
  clear h
  replace H := Option.bind_eq_some_iff.mp H
  obtain ⟨⟨t131, t132⟩, A20, H⟩ := H
  replace H : (if t132 = 0 then (if 1 + t131.size ≤ 9223372036854775807 then ((zZ.f ((⟨#[98]⟩ : ByteArray) ++ t131)).bind fun t133 => (some (t133, 0))) else (none)) else (some ((⟨#[]⟩ : ByteArray), t132))) = some (r1, r2) := H
  have A2 := za.mk A20
  clear A20
  by_cases c3 : t132 = 0
  · rw [if_pos c3] at H
    have c3b0 : (t132 == 0) = true := beq_iff_eq.mpr c3
    have c3b1 : (t132 != 0) = false := bne_eq_false_iff_eq.mpr c3
    clear c3
    by_cases c4 : 1 + t131.size ≤ 9223372036854775807
    · rw [if_pos c4] at H
      have c4b0 := eq_true c4
      have c4b1 : decide (1 + t131.size ≤ 9223372036854775807) = true := decide_eq_true c4
      try have c4b2 : (9223372036854775807 < 1 + t131.size) = False := eq_false (Nat.not_lt.2 c4)
      replace H := Option.bind_eq_some_iff.mp H
      obtain ⟨t133, A50, H⟩ := H
      replace H : (some (t133, 0)) = some (r1, r2) := H
      have A5 := za.mk A50
      clear A50
      simp only [Option.some.injEq, Prod.mk.injEq] at H
      obtain ⟨rfl, rfl⟩ := H
      go_enter Try.func10, Try.ntmps10
      go_wp2_with (first | ((with_reducible refine zP (N := 1) rfl ?_); refine zO ?hg (N := 1) ?hd (cs := #[.int .i64 a0_0, .int .i64 a0_1, .slice A0_2 l0_2.length c0_2]) (t := 24) ?hr ?_; (case hd => rfl); (case hg => rfl); (case hr => first | (go_simp; done) | (go_simp; rfl)); intro gb130 hg w6 hbox hb; have n0_ := za.mk (zg (by repeat (first | (with_reducible first | exact HB.out | apply zf | apply zb | apply zc) | exact HB.out)) hb); have n1_ := za.mk (hbox); have n2_ := za.mk ((by rw [hg]; exact (zE (by repeat (first | (with_reducible first | exact HB.out | apply zf | apply zb | apply zc) | exact HB.out))) : w.heap.size ≤ gb130)); have n3_ := za.mk ((by rw [hg]; exact (zE (by repeat (first | (with_reducible first | exact HB.out | apply zf | apply zb | apply zc) | exact HB.out))) : w.heap.size ≤ gb130)); clear HB; have HB := n0_; have BK130 := n1_; have GW130 := n2_; have GE130 := n3_; clear n0_ n1_ n2_ n3_; clear hb hbox hg; have hcz7_0 : w6.cell? ⟨gb130, 0, none⟩ = some (.int .i64 a0_0) := (zd BK130.out 0).trans rfl; have hcz7_1 : w6.cell? ⟨gb130, 1, none⟩ = some (.int .i64 a0_1) := (zd BK130.out 1).trans rfl; have hcz7_2 : w6.cell? ⟨gb130, 2, none⟩ = some (.slice A0_2 l0_2.length c0_2) := (zd BK130.out 2).trans rfl; have hfz7_0 := ze BK130.out 0; have hfz7_1 := ze BK130.out 1; have hfz7_2 := ze BK130.out 2) | ((with_reducible refine zD (f := 8) rfl ?_); refine zW (some 8) rfl rfl Try.func8 (by kernel_rfl) rfl #[.agg #[.int .i64 a0_0, .int .i64 a0_1, .slice A0_2 l0_2.length c0_2]] rfl (by (try simp only [List.map_toArray, List.map_cons, List.map_nil]); first | done | rfl | (simp only [List.length_drop, List.length_take]; rfl)) ?_; (with_reducible refine (zp.calls k a0_0 a0_1 _ _ l0_2 t131 t132 _ ?side1 ?side2 A2.out).mono ?_); (case side1 => repeat (first | exact (Kd.C_below HR0_2.out HB.out) | (with_reducible refine Kd.C_alloc ?_ _) | (with_reducible refine Kd.C_drewN ?_ _) | (with_reducible refine Kd.C_drew ?_))); (case side2 => exact HC0_2.out); rintro e w8 ⟨rfl, hb⟩; refine ⟨_, rfl, ?_⟩; have n0_ := za.mk (zn (g := gb130) (o := .cells #[.int .i64 a0_0, .int .i64 a0_1, .slice A0_2 l0_2.length c0_2] 24 (0, 0)) (by (with_reducible repeat (first | refine zx ?_ _ | refine zy ?_ | refine zw ?_ _)); exact BK130.out) hb); have n1_ := za.mk (zg (by repeat (first | (with_reducible first | exact HB.out | apply zf | apply zb | apply zc | refine zj ?_ GE130.out) | exact HB.out)) hb); clear BK130; clear HB; have BK130 := n0_; have HB := n1_; clear n0_ n1_; (try clear hb); (try clear hb2); (try clear hk); (try clear hi)) | ((with_reducible refine zD (f := 25) rfl ?_); refine zW (some 16) rfl rfl Try.func25 (by kernel_rfl) rfl #[.string ((⟨#[98]⟩ : ByteArray) ++ t131)] rfl (by (try simp only [List.map_toArray, List.map_cons, List.map_nil]); first | done | rfl | (simp only [List.length_drop, List.length_take]; rfl)) ?_; (with_reducible refine (zZ.calls ((⟨#[98]⟩ : ByteArray) ++ t131) t133 _ A5.out).mono ?_); rintro e w9 ⟨rfl, hb⟩; refine ⟨_, rfl, ?_⟩; have n0_ := za.mk (zn (g := gb130) (o := .cells #[.int .i64 a0_0, .int .i64 a0_1, .slice A0_2 l0_2.length c0_2] 24 (0, 0)) (by (with_reducible repeat (first | refine zx ?_ _ | refine zy ?_ | refine zw ?_ _)); exact BK130.out) hb); have n1_ := za.mk (zg (by repeat (first | (with_reducible first | exact HB.out | apply zf | apply zb | apply zc | refine zj ?_ GE130.out) | exact HB.out)) hb); clear BK130; clear HB; have BK130 := n0_; have HB := n1_; clear n0_ n1_; (try clear hb); (try clear hb2); (try clear hk); (try clear hi)))
      go_ret2
      exact ⟨by first | rfl | (simp [zK, zL] <;> rfl) | (simp [*, zK, zL] <;> rfl), by repeat (first | (with_reducible first | exact HB.out | apply zf | apply zb | apply zc | refine zj ?_ GE130.out) | exact HB.out)⟩
    · rw [if_neg c4] at H
      exact absurd H (by simp)
  · rw [if_neg c3] at H
    have c3b0 : (t132 == 0) = false := beq_eq_false_iff_ne.mpr c3
    have c3b1 : (t132 != 0) = true := bne_iff_ne.mpr c3
    simp only [Option.some.injEq, Prod.mk.injEq] at H
    obtain ⟨rfl, rfl⟩ := H
    go_enter Try.func10, Try.ntmps10
    go_wp2_with (first | ((with_reducible refine zP (N := 1) rfl ?_); refine zO ?hg (N := 1) ?hd (cs := #[.int .i64 a0_0, .int .i64 a0_1, .slice A0_2 l0_2.length c0_2]) (t := 24) ?hr ?_; (case hd => rfl); (case hg => rfl); (case hr => first | (go_simp; done) | (go_simp; rfl)); intro gb130 hg w10 hbox hb; have n0_ := za.mk (zg (by repeat (first | (with_reducible first | exact HB.out | apply zf | apply zb | apply zc) | exact HB.out)) hb); have n1_ := za.mk (hbox); have n2_ := za.mk ((by rw [hg]; exact (zE (by repeat (first | (with_reducible first | exact HB.out | apply zf | apply zb | apply zc) | exact HB.out))) : w.heap.size ≤ gb130)); have n3_ := za.mk ((by rw [hg]; exact (zE (by repeat (first | (with_reducible first | exact HB.out | apply zf | apply zb | apply zc) | exact HB.out))) : w.heap.size ≤ gb130)); clear HB; have HB := n0_; have BK130 := n1_; have GW130 := n2_; have GE130 := n3_; clear n0_ n1_ n2_ n3_; clear hb hbox hg; have hcz11_0 : w10.cell? ⟨gb130, 0, none⟩ = some (.int .i64 a0_0) := (zd BK130.out 0).trans rfl; have hcz11_1 : w10.cell? ⟨gb130, 1, none⟩ = some (.int .i64 a0_1) := (zd BK130.out 1).trans rfl; have hcz11_2 : w10.cell? ⟨gb130, 2, none⟩ = some (.slice A0_2 l0_2.length c0_2) := (zd BK130.out 2).trans rfl; have hfz11_0 := ze BK130.out 0; have hfz11_1 := ze BK130.out 1; have hfz11_2 := ze BK130.out 2) | ((with_reducible refine zD (f := 8) rfl ?_); refine zW (some 8) rfl rfl Try.func8 (by kernel_rfl) rfl #[.agg #[.int .i64 a0_0, .int .i64 a0_1, .slice A0_2 l0_2.length c0_2]] rfl (by (try simp only [List.map_toArray, List.map_cons, List.map_nil]); first | done | rfl | (simp only [List.length_drop, List.length_take]; rfl)) ?_; (with_reducible refine (zp.calls k a0_0 a0_1 _ _ l0_2 t131 t132 _ ?side1 ?side2 A2.out).mono ?_); (case side1 => repeat (first | exact (Kd.C_below HR0_2.out HB.out) | (with_reducible refine Kd.C_alloc ?_ _) | (with_reducible refine Kd.C_drewN ?_ _) | (with_reducible refine Kd.C_drew ?_))); (case side2 => exact HC0_2.out); rintro e w12 ⟨rfl, hb⟩; refine ⟨_, rfl, ?_⟩; have n0_ := za.mk (zn (g := gb130) (o := .cells #[.int .i64 a0_0, .int .i64 a0_1, .slice A0_2 l0_2.length c0_2] 24 (0, 0)) (by (with_reducible repeat (first | refine zx ?_ _ | refine zy ?_ | refine zw ?_ _)); exact BK130.out) hb); have n1_ := za.mk (zg (by repeat (first | (with_reducible first | exact HB.out | apply zf | apply zb | apply zc | refine zj ?_ GE130.out) | exact HB.out)) hb); clear BK130; clear HB; have BK130 := n0_; have HB := n1_; clear n0_ n1_; (try clear hb); (try clear hb2); (try clear hk); (try clear hi)))
    go_ret2
    exact ⟨by first | rfl | (simp [zK, zL] <;> rfl) | (simp [*, zK, zL] <;> rfl), by repeat (first | (with_reducible first | exact HB.out | apply zf | apply zb | apply zc | refine zj ?_ GE130.out) | exact HB.out)⟩
end Go.Proofs.Ytcedkmjdigpdiaa.Px
