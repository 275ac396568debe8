/- Part 28 of 33 of the proof of the law PostBack: what is proved is the statement at the end of the last part; its conditions are those of the given row. -/
import Derived.Test.YtenbifjbeeobjaaZPostBackZ
import Derived.Test.YtenbifjbeeobjaaZPostBacka
namespace Go.Proofs.Ytenbifjbeeobjaa.Px
open Go.RowKit Go.Proofs.YtenbifjbeeobjaaW.PrintWords Go.Proofs.YtenbifjbeeobjaaW.PrintLast Go.Proofs.YtenbifjbeeobjaaW.PrintMore
attribute [local go_sem] zC zE zJ zK zv zw zB zD
set_option linter.unusedVariables false
set_option linter.unusedSimpArgs false
def zaO.f (k : Nat) (a0_0 : Int) (a0_1 : Int) (l0_2 : List (zR)) (l0_3 : List ByteArray) (a0_4 : Int) (a0_5 : Int) (a0_6 : Int) (a1_0 : Int) (a1_1 : Int) (l1_2 : List (zR)) (l1_3 : List ByteArray) (a1_4 : Int) (a1_5 : Int) (a1_6 : Int) : Option (Bool) := (zap.f k a0_0 a0_1 l0_2 l0_3 a0_4 a0_5 a1_0 a1_1 l1_2 l1_3 a1_4 a1_5).bind fun t397 => (if t397 = true then (some (a0_6 == a1_6)) else (some false))
set_option maxHeartbeats 8000000 in
set_option maxRecDepth 100000 in
theorem zaO.calls (k : Nat) (a0_0 : Int) (a0_1 : Int) (A0_2 : Option Addr) (c0_2 : Nat) (l0_2 : List (zR)) (A0_3 : Option Addr) (c0_3 : Nat) (l0_3 : List ByteArray) (a0_4 : Int) (a0_5 : Int) (a0_6 : Int) (a1_0 : Int) (a1_1 : Int) (A1_2 : Option Addr) (c1_2 : Nat) (l1_2 : List (zR)) (A1_3 : Option Addr) (c1_3 : Nat) (l1_3 : List ByteArray) (a1_4 : Int) (a1_5 : Int) (a1_6 : Int) (r : Bool) (w : World) (hr0_2 : Kd.C zbB w A0_2 l0_2.length l0_2) (hc0_2 : l0_2.length ≤ c0_2) (hr0_3 : Kd.C Kd.string w A0_3 l0_3.length l0_3) (hc0_3 : l0_3.length ≤ c0_3) (hr1_2 : Kd.C zbB w A1_2 l1_2.length l1_2) (hc1_2 : l1_2.length ≤ c1_2) (hr1_3 : Kd.C Kd.string w A1_3 l1_3.length l1_3) (hc1_3 : l1_3.length ≤ c1_3) (h : zaO.f k a0_0 a0_1 l0_2 l0_3 a0_4 a0_5 a0_6 a1_0 a1_1 l1_2 l1_3 a1_4 a1_5 a1_6 = some r) :
    Calls Try.prog 18 #[.agg #[.int .i64 a0_0, .int .i64 a0_1, .slice A0_2 l0_2.length c0_2, .slice A0_3 l0_3.length c0_3, .int .i64 a0_4, .int .i64 a0_5, .int .u64 a0_6], .agg #[.int .i64 a1_0, .int .i64 a1_1, .slice A1_2 l1_2.length c1_2, .slice A1_3 l1_3.length c1_3, .int .i64 a1_4, .int .i64 a1_5, .int .u64 a1_6]] w fun e w' => e = .returned (.bool r) ∧ Below w.heap.size w w' := by
  have hu36 := Try.underlying36
  have hu28 := Try.underlying28
  have HR0_2 := zb.mk hr0_2
  have HC0_2 := zb.mk hc0_2
  clear hr0_2 hc0_2
  have HR0_3 := zb.mk hr0_3
  have HC0_3 := zb.mk hc0_3
  clear hr0_3 hc0_3
  have HR1_2 := zb.mk hr1_2
  have HC1_2 := zb.mk hc1_2
  clear hr1_2 hc1_2
  have HR1_3 := zb.mk hr1_3
  have HC1_3 := zb.mk hc1_3
  clear hr1_3 hc1_3
  have HB := zb.mk (Below.refl w.heap.size w)
  have H : ((zap.f k a0_0 a0_1 l0_2 l0_3 a0_4 a0_5 a1_0 a1_1 l1_2 l1_3 a1_4 a1_5).bind fun t397 => (if t397 = true then (some (a0_6 == a1_6)) else (some false))) = some r := h
  clear h
  replace H := Option.bind_eq_some_iff.mp H
  obtain ⟨t397, A30, H⟩ := H
  replace H : (if t397 = true then (some (a0_6 == a1_6)) else (some false)) = some r := H
  have A3 := zb.mk A30
  clear A30
  by_cases c4 : t397 = true
  · subst c4
    have H1 : (some (a0_6 == a1_6)) = some r := by rw [if_pos rfl] at H; exact H
    clear H
    have H := H1
    clear H1
    obtain rfl := Option.some.inj H
    go_enter Try.func18, Try.ntmps18
    go_wp2_with (first | ((with_reducible refine zq (N := 2) rfl ?_); refine zp ?hg (N := 2) ?hd (cs := #[.int .i64 a0_0, .int .i64 a0_1, .slice A0_2 l0_2.length c0_2, .slice A0_3 l0_3.length c0_3, .int .i64 a0_4, .int .i64 a0_5, .int .u64 a0_6]) (t := 36) ?hr ?_; (case hd => rfl); (case hg => rfl); (case hr => first | (go_simp; done) | (go_simp; rfl)); intro gb395 hg w5 hbox hb; have n0_ := zb.mk (zl (by repeat (first | (with_reducible first | exact HB.out | apply zi | apply zd | apply zj) | exact HB.out)) hb); have n1_ := zb.mk (hbox); have n2_ := zb.mk ((by rw [hg]; exact (zo (by repeat (first | (with_reducible first | exact HB.out | apply zi | apply zd | apply zj) | exact HB.out))) : w.heap.size ≤ gb395)); have n3_ := zb.mk ((by rw [hg]; exact (zo (by repeat (first | (with_reducible first | exact HB.out | apply zi | apply zd | apply zj) | exact HB.out))) : w.heap.size ≤ gb395)); clear HB; have HB := n0_; have BK395 := n1_; have GW395 := n2_; have GE395 := n3_; clear n0_ n1_ n2_ n3_; clear hb hbox hg) | ((with_reducible refine zq (N := 3) rfl ?_); refine zp ?hg (N := 3) ?hd (cs := #[.int .i64 a1_0, .int .i64 a1_1, .slice A1_2 l1_2.length c1_2, .slice A1_3 l1_3.length c1_3, .int .i64 a1_4, .int .i64 a1_5, .int .u64 a1_6]) (t := 36) ?hr ?_; (case hd => rfl); (case hg => rfl); (case hr => first | (go_simp; done) | (go_simp; rfl)); intro gb396 hg w6 hbox hb; have n0_ := zb.mk (zk (g := gb395) (o := .cells #[.int .i64 a0_0, .int .i64 a0_1, .slice A0_2 l0_2.length c0_2, .slice A0_3 l0_3.length c0_3, .int .i64 a0_4, .int .i64 a0_5, .int .u64 a0_6] 36 (0, 0)) (by (with_reducible repeat (first | refine ze ?_ _ | refine zh ?_ | refine zf ?_ _)); exact BK395.out) hb); have n1_ := zb.mk (zl (by repeat (first | (with_reducible first | exact HB.out | apply zi | apply zd | apply zj | refine zg ?_ GE395.out) | exact HB.out)) hb); have n2_ := zb.mk (hbox); have n3_ := zb.mk ((by rw [hg]; exact (zo (by repeat (first | (with_reducible first | exact HB.out | apply zi | apply zd | apply zj | refine zg ?_ GE395.out) | exact HB.out))) : w.heap.size ≤ gb396)); have n4_ := zb.mk ((by rw [hg]; exact (zo (by repeat (first | (with_reducible first | exact HB.out | apply zi | apply zd | apply zj | refine zg ?_ GE395.out) | exact HB.out))) : w.heap.size ≤ gb396)); have n5_ := zb.mk ((by rw [hg]; exact Nat.ne_of_lt (zH (g := gb395) (o := .cells #[.int .i64 a0_0, .int .i64 a0_1, .slice A0_2 l0_2.length c0_2, .slice A0_3 l0_3.length c0_3, .int .i64 a0_4, .int .i64 a0_5, .int .u64 a0_6] 36 (0, 0)) (by (with_reducible repeat (first | refine ze ?_ _ | refine zh ?_ | refine zf ?_ _)); exact BK395.out)) : gb395 ≠ gb396)); have n6_ := zb.mk ((by rw [hg]; exact Nat.ne_of_gt (zH (g := gb395) (o := .cells #[.int .i64 a0_0, .int .i64 a0_1, .slice A0_2 l0_2.length c0_2, .slice A0_3 l0_3.length c0_3, .int .i64 a0_4, .int .i64 a0_5, .int .u64 a0_6] 36 (0, 0)) (by (with_reducible repeat (first | refine ze ?_ _ | refine zh ?_ | refine zf ?_ _)); exact BK395.out)) : gb396 ≠ gb395)); clear BK395; clear HB; have BK395 := n0_; have HB := n1_; have BK396 := n2_; have GW396 := n3_; have GE396 := n4_; have NB395_396 := n5_; have NB396_395 := n6_; clear n0_ n1_ n2_ n3_ n4_ n5_ n6_; clear hb hbox hg; have hnb7 := NB395_396.out; have hnc7 := NB396_395.out; have hcz8_0 : w6.cell? ⟨gb395, 0, none⟩ = some (.int .i64 a0_0) := (zc BK395.out 0).trans rfl; have hcz8_1 : w6.cell? ⟨gb395, 1, none⟩ = some (.int .i64 a0_1) := (zc BK395.out 1).trans rfl; have hcz8_2 : w6.cell? ⟨gb395, 2, none⟩ = some (.slice A0_2 l0_2.length c0_2) := (zc BK395.out 2).trans rfl; have hcz8_3 : w6.cell? ⟨gb395, 3, none⟩ = some (.slice A0_3 l0_3.length c0_3) := (zc BK395.out 3).trans rfl; have hcz8_4 : w6.cell? ⟨gb395, 4, none⟩ = some (.int .i64 a0_4) := (zc BK395.out 4).trans rfl; have hcz8_5 : w6.cell? ⟨gb395, 5, none⟩ = some (.int .i64 a0_5) := (zc BK395.out 5).trans rfl; have hcz8_6 : w6.cell? ⟨gb395, 6, none⟩ = some (.int .u64 a0_6) := (zc BK395.out 6).trans rfl; have hfz8_0 := za BK395.out 0; have hfz8_1 := za BK395.out 1; have hfz8_2 := za BK395.out 2; have hfz8_3 := za BK395.out 3; have hfz8_4 := za BK395.out 4; have hfz8_5 := za BK395.out 5; have hfz8_6 := za BK395.out 6; have hcz9_0 : w6.cell? ⟨gb396, 0, none⟩ = some (.int .i64 a1_0) := (zc BK396.out 0).trans rfl; have hcz9_1 : w6.cell? ⟨gb396, 1, none⟩ = some (.int .i64 a1_1) := (zc BK396.out 1).trans rfl; have hcz9_2 : w6.cell? ⟨gb396, 2, none⟩ = some (.slice A1_2 l1_2.length c1_2) := (zc BK396.out 2).trans rfl; have hcz9_3 : w6.cell? ⟨gb396, 3, none⟩ = some (.slice A1_3 l1_3.length c1_3) := (zc BK396.out 3).trans rfl; have hcz9_4 : w6.cell? ⟨gb396, 4, none⟩ = some (.int .i64 a1_4) := (zc BK396.out 4).trans rfl; have hcz9_5 : w6.cell? ⟨gb396, 5, none⟩ = some (.int .i64 a1_5) := (zc BK396.out 5).trans rfl; have hcz9_6 : w6.cell? ⟨gb396, 6, none⟩ = some (.int .u64 a1_6) := (zc BK396.out 6).trans rfl; have hfz9_0 := za BK396.out 0; have hfz9_1 := za BK396.out 1; have hfz9_2 := za BK396.out 2; have hfz9_3 := za BK396.out 3; have hfz9_4 := za BK396.out 4; have hfz9_5 := za BK396.out 5; have hfz9_6 := za BK396.out 6) | ((with_reducible refine zu (f := 17) rfl ?_); refine zQ (some 10) rfl rfl Try.func17 (by kernel_rfl) rfl #[.agg #[.int .i64 a0_0, .int .i64 a0_1, .slice A0_2 l0_2.length c0_2, .slice A0_3 l0_3.length c0_3, .int .i64 a0_4, .int .i64 a0_5], .agg #[.int .i64 a1_0, .int .i64 a1_1, .slice A1_2 l1_2.length c1_2, .slice A1_3 l1_3.length c1_3, .int .i64 a1_4, .int .i64 a1_5]] rfl (by (try simp only [List.map_toArray, List.map_cons, List.map_nil]); first | done | rfl | (simp only [List.length_drop, List.length_take]; rfl)) ?_; (with_reducible refine (zap.calls k a0_0 a0_1 _ _ l0_2 _ _ l0_3 a0_4 a0_5 a1_0 a1_1 _ _ l1_2 _ _ l1_3 a1_4 a1_5 true _ ?side1 ?side2 ?side3 ?side4 ?side5 ?side6 ?side7 ?side8 A3.out).mono ?_); (case side1 => repeat (first | exact (Kd.C_below HR0_2.out HB.out) | (with_reducible refine Kd.C_alloc ?_ _) | (with_reducible refine Kd.C_drewN ?_ _) | (with_reducible refine Kd.C_drew ?_))); (case side2 => exact HC0_2.out); (case side3 => repeat (first | exact (Kd.C_below HR0_3.out HB.out) | (with_reducible refine Kd.C_alloc ?_ _) | (with_reducible refine Kd.C_drewN ?_ _) | (with_reducible refine Kd.C_drew ?_))); (case side4 => exact HC0_3.out); (case side5 => repeat (first | exact (Kd.C_below HR1_2.out HB.out) | (with_reducible refine Kd.C_alloc ?_ _) | (with_reducible refine Kd.C_drewN ?_ _) | (with_reducible refine Kd.C_drew ?_))); (case side6 => exact HC1_2.out); (case side7 => repeat (first | exact (Kd.C_below HR1_3.out HB.out) | (with_reducible refine Kd.C_alloc ?_ _) | (with_reducible refine Kd.C_drewN ?_ _) | (with_reducible refine Kd.C_drew ?_))); (case side8 => exact HC1_3.out); rintro e w10 ⟨rfl, hb⟩; refine ⟨_, rfl, ?_⟩; have n0_ := zb.mk (zk (g := gb395) (o := .cells #[.int .i64 a0_0, .int .i64 a0_1, .slice A0_2 l0_2.length c0_2, .slice A0_3 l0_3.length c0_3, .int .i64 a0_4, .int .i64 a0_5, .int .u64 a0_6] 36 (0, 0)) (by (with_reducible repeat (first | refine ze ?_ _ | refine zh ?_ | refine zf ?_ _)); exact BK395.out) hb); have n1_ := zb.mk (zk (g := gb396) (o := .cells #[.int .i64 a1_0, .int .i64 a1_1, .slice A1_2 l1_2.length c1_2, .slice A1_3 l1_3.length c1_3, .int .i64 a1_4, .int .i64 a1_5, .int .u64 a1_6] 36 (0, 0)) (by (with_reducible repeat (first | refine ze ?_ _ | refine zh ?_ | refine zf ?_ _)); exact BK396.out) hb); have n2_ := zb.mk (zl (by repeat (first | (with_reducible first | exact HB.out | apply zi | apply zd | apply zj | refine zg ?_ GE395.out | refine zg ?_ GE396.out) | exact HB.out)) hb); clear BK395; clear BK396; clear HB; have BK395 := n0_; have BK396 := n1_; have HB := n2_; clear n0_ n1_ n2_; (try clear hb); (try clear hb2); (try clear hk); (try clear hi); have hcz11_0 : w10.cell? ⟨gb395, 0, none⟩ = some (.int .i64 a0_0) := (zc BK395.out 0).trans rfl; have hcz11_1 : w10.cell? ⟨gb395, 1, none⟩ = some (.int .i64 a0_1) := (zc BK395.out 1).trans rfl; have hcz11_2 : w10.cell? ⟨gb395, 2, none⟩ = some (.slice A0_2 l0_2.length c0_2) := (zc BK395.out 2).trans rfl; have hcz11_3 : w10.cell? ⟨gb395, 3, none⟩ = some (.slice A0_3 l0_3.length c0_3) := (zc BK395.out 3).trans rfl; have hcz11_4 : w10.cell? ⟨gb395, 4, none⟩ = some (.int .i64 a0_4) := (zc BK395.out 4).trans rfl; have hcz11_5 : w10.cell? ⟨gb395, 5, none⟩ = some (.int .i64 a0_5) := (zc BK395.out 5).trans rfl; have hcz11_6 : w10.cell? ⟨gb395, 6, none⟩ = some (.int .u64 a0_6) := (zc BK395.out 6).trans rfl; have hfz11_0 := za BK395.out 0; have hfz11_1 := za BK395.out 1; have hfz11_2 := za BK395.out 2; have hfz11_3 := za BK395.out 3; have hfz11_4 := za BK395.out 4; have hfz11_5 := za BK395.out 5; have hfz11_6 := za BK395.out 6; have hcz12_0 : w10.cell? ⟨gb396, 0, none⟩ = some (.int .i64 a1_0) := (zc BK396.out 0).trans rfl; have hcz12_1 : w10.cell? ⟨gb396, 1, none⟩ = some (.int .i64 a1_1) := (zc BK396.out 1).trans rfl; have hcz12_2 : w10.cell? ⟨gb396, 2, none⟩ = some (.slice A1_2 l1_2.length c1_2) := (zc BK396.out 2).trans rfl; have hcz12_3 : w10.cell? ⟨gb396, 3, none⟩ = some (.slice A1_3 l1_3.length c1_3) := (zc BK396.out 3).trans rfl; have hcz12_4 : w10.cell? ⟨gb396, 4, none⟩ = some (.int .i64 a1_4) := (zc BK396.out 4).trans rfl; have hcz12_5 : w10.cell? ⟨gb396, 5, none⟩ = some (.int .i64 a1_5) := (zc BK396.out 5).trans rfl; have hcz12_6 : w10.cell? ⟨gb396, 6, none⟩ = some (.int .u64 a1_6) := (zc BK396.out 6).trans rfl; have hfz12_0 := za BK396.out 0; have hfz12_1 := za BK396.out 1; have hfz12_2 := za BK396.out 2; have hfz12_3 := za BK396.out 3; have hfz12_4 := za BK396.out 4; have hfz12_5 := za BK396.out 5; have hfz12_6 := za BK396.out 6))
    go_ret
    exact ⟨by first | rfl | (simp [zt, zr] <;> rfl) | (simp [*, zt, zr] <;> rfl), by repeat (first | (with_reducible first | exact HB.out | apply zi | apply zd | apply zj | refine zg ?_ GE395.out | refine zg ?_ GE396.out) | exact HB.out)⟩
  · replace c4 := Bool.eq_false_iff.mpr c4
    subst c4
    have H1 : (some false) = some r := by rw [if_neg (show ¬ (false = true) by decide)] at H; exact H
    clear H
    have H := H1
    clear H1
    obtain rfl := Option.some.inj H
    go_enter Try.func18, Try.ntmps18
    go_wp2_with (first | ((with_reducible refine zq (N := 2) rfl ?_); refine zp ?hg (N := 2) ?hd (cs := #[.int .i64 a0_0, .int .i64 a0_1, .slice A0_2 l0_2.length c0_2, .slice A0_3 l0_3.length c0_3, .int .i64 a0_4, .int .i64 a0_5, .int .u64 a0_6]) (t := 36) ?hr ?_; (case hd => rfl); (case hg => rfl); (case hr => first | (go_simp; done) | (go_simp; rfl)); intro gb395 hg w13 hbox hb; have n0_ := zb.mk (zl (by repeat (first | (with_reducible first | exact HB.out | apply zi | apply zd | apply zj) | exact HB.out)) hb); have n1_ := zb.mk (hbox); have n2_ := zb.mk ((by rw [hg]; exact (zo (by repeat (first | (with_reducible first | exact HB.out | apply zi | apply zd | apply zj) | exact HB.out))) : w.heap.size ≤ gb395)); have n3_ := zb.mk ((by rw [hg]; exact (zo (by repeat (first | (with_reducible first | exact HB.out | apply zi | apply zd | apply zj) | exact HB.out))) : w.heap.size ≤ gb395)); clear HB; have HB := n0_; have BK395 := n1_; have GW395 := n2_; have GE395 := n3_; clear n0_ n1_ n2_ n3_; clear hb hbox hg) | ((with_reducible refine zq (N := 3) rfl ?_); refine zp ?hg (N := 3) ?hd (cs := #[.int .i64 a1_0, .int .i64 a1_1, .slice A1_2 l1_2.length c1_2, .slice A1_3 l1_3.length c1_3, .int .i64 a1_4, .int .i64 a1_5, .int .u64 a1_6]) (t := 36) ?hr ?_; (case hd => rfl); (case hg => rfl); (case hr => first | (go_simp; done) | (go_simp; rfl)); intro gb396 hg w14 hbox hb; have n0_ := zb.mk (zk (g := gb395) (o := .cells #[.int .i64 a0_0, .int .i64 a0_1, .slice A0_2 l0_2.length c0_2, .slice A0_3 l0_3.length c0_3, .int .i64 a0_4, .int .i64 a0_5, .int .u64 a0_6] 36 (0, 0)) (by (with_reducible repeat (first | refine ze ?_ _ | refine zh ?_ | refine zf ?_ _)); exact BK395.out) hb); have n1_ := zb.mk (zl (by repeat (first | (with_reducible first | exact HB.out | apply zi | apply zd | apply zj | refine zg ?_ GE395.out) | exact HB.out)) hb); have n2_ := zb.mk (hbox); have n3_ := zb.mk ((by rw [hg]; exact (zo (by repeat (first | (with_reducible first | exact HB.out | apply zi | apply zd | apply zj | refine zg ?_ GE395.out) | exact HB.out))) : w.heap.size ≤ gb396)); have n4_ := zb.mk ((by rw [hg]; exact (zo (by repeat (first | (with_reducible first | exact HB.out | apply zi | apply zd | apply zj | refine zg ?_ GE395.out) | exact HB.out))) : w.heap.size ≤ gb396)); have n5_ := zb.mk ((by rw [hg]; exact Nat.ne_of_lt (zH (g := gb395) (o := .cells #[.int .i64 a0_0, .int .i64 a0_1, .slice A0_2 l0_2.length c0_2, .slice A0_3 l0_3.length c0_3, .int .i64 a0_4, .int .i64 a0_5, .int .u64 a0_6] 36 (0, 0)) (by (with_reducible repeat (first | refine ze ?_ _ | refine zh ?_ | refine zf ?_ _)); exact BK395.out)) : gb395 ≠ gb396)); have n6_ := zb.mk ((by rw [hg]; exact Nat.ne_of_gt (zH (g := gb395) (o := .cells #[.int .i64 a0_0, .int .i64 a0_1, .slice A0_2 l0_2.length c0_2, .slice A0_3 l0_3.length c0_3, .int .i64 a0_4, .int .i64 a0_5, .int .u64 a0_6] 36 (0, 0)) (by (with_reducible repeat (first | refine ze ?_ _ | refine zh ?_ | refine zf ?_ _)); exact BK395.out)) : gb396 ≠ gb395)); clear BK395; clear HB; have BK395 := n0_; have HB := n1_; have BK396 := n2_; have GW396 := n3_; have GE396 := n4_; have NB395_396 := n5_; have NB396_395 := n6_; clear n0_ n1_ n2_ n3_ n4_ n5_ n6_; clear hb hbox hg; have hnb15 := NB395_396.out; have hnc15 := NB396_395.out; have hcz16_0 : w14.cell? ⟨gb395, 0, none⟩ = some (.int .i64 a0_0) := (zc BK395.out 0).trans rfl; have hcz16_1 : w14.cell? ⟨gb395, 1, none⟩ = some (.int .i64 a0_1) := (zc BK395.out 1).trans rfl; have hcz16_2 : w14.cell? ⟨gb395, 2, none⟩ = some (.slice A0_2 l0_2.length c0_2) := (zc BK395.out 2).trans rfl; have hcz16_3 : w14.cell? ⟨gb395, 3, none⟩ = some (.slice A0_3 l0_3.length c0_3) := (zc BK395.out 3).trans rfl; have hcz16_4 : w14.cell? ⟨gb395, 4, none⟩ = some (.int .i64 a0_4) := (zc BK395.out 4).trans rfl; have hcz16_5 : w14.cell? ⟨gb395, 5, none⟩ = some (.int .i64 a0_5) := (zc BK395.out 5).trans rfl; have hcz16_6 : w14.cell? ⟨gb395, 6, none⟩ = some (.int .u64 a0_6) := (zc BK395.out 6).trans rfl; have hfz16_0 := za BK395.out 0; have hfz16_1 := za BK395.out 1; have hfz16_2 := za BK395.out 2; have hfz16_3 := za BK395.out 3; have hfz16_4 := za BK395.out 4; have hfz16_5 := za BK395.out 5; have hfz16_6 := za BK395.out 6; have hcz17_0 : w14.cell? ⟨gb396, 0, none⟩ = some (.int .i64 a1_0) := (zc BK396.out 0).trans rfl; have hcz17_1 : w14.cell? ⟨gb396, 1, none⟩ = some (.int .i64 a1_1) := (zc BK396.out 1).trans rfl; have hcz17_2 : w14.cell? ⟨gb396, 2, none⟩ = some (.slice A1_2 l1_2.length c1_2) := (zc BK396.out 2).trans rfl; have hcz17_3 : w14.cell? ⟨gb396, 3, none⟩ = some (.slice A1_3 l1_3.length c1_3) := (zc BK396.out 3).trans rfl; have hcz17_4 : w14.cell? ⟨gb396, 4, none⟩ = some (.int .i64 a1_4) := (zc BK396.out 4).trans rfl; have hcz17_5 : w14.cell? ⟨gb396, 5, none⟩ = some (.int .i64 a1_5) := (zc BK396.out 5).trans rfl; have hcz17_6 : w14.cell? ⟨gb396, 6, none⟩ = some (.int .u64 a1_6) := (zc BK396.out 6).trans rfl; have hfz17_0 := za BK396.out 0; have hfz17_1 := za BK396.out 1; have hfz17_2 := za BK396.out 2; have hfz17_3 := za BK396.out 3; have hfz17_4 := za BK396.out 4; have hfz17_5 := za BK396.out 5; have hfz17_6 := za BK396.out 6) | ((with_reducible refine zu (f := 17) rfl ?_); refine zQ (some 10) rfl rfl Try.func17 (by kernel_rfl) rfl #[.agg #[.int .i64 a0_0, .int .i64 a0_1, .slice A0_2 l0_2.length c0_2, .slice A0_3 l0_3.length c0_3, .int .i64 a0_4, .int .i64 a0_5], .agg #[.int .i64 a1_0, .int .i64 a1_1, .slice A1_2 l1_2.length c1_2, .slice A1_3 l1_3.length c1_3, .int .i64 a1_4, .int .i64 a1_5]] rfl (by (try simp only [List.map_toArray, List.map_cons, List.map_nil]); first | done | rfl | (simp only [List.length_drop, List.length_take]; rfl)) ?_; (with_reducible refine (zap.calls k a0_0 a0_1 _ _ l0_2 _ _ l0_3 a0_4 a0_5 a1_0 a1_1 _ _ l1_2 _ _ l1_3 a1_4 a1_5 false _ ?side1 ?side2 ?side3 ?side4 ?side5 ?side6 ?side7 ?side8 A3.out).mono ?_); (case side1 => repeat (first | exact (Kd.C_below HR0_2.out HB.out) | (with_reducible refine Kd.C_alloc ?_ _) | (with_reducible refine Kd.C_drewN ?_ _) | (with_reducible refine Kd.C_drew ?_))); (case side2 => exact HC0_2.out); (case side3 => repeat (first | exact (Kd.C_below HR0_3.out HB.out) | (with_reducible refine Kd.C_alloc ?_ _) | (with_reducible refine Kd.C_drewN ?_ _) | (with_reducible refine Kd.C_drew ?_))); (case side4 => exact HC0_3.out); (case side5 => repeat (first | exact (Kd.C_below HR1_2.out HB.out) | (with_reducible refine Kd.C_alloc ?_ _) | (with_reducible refine Kd.C_drewN ?_ _) | (with_reducible refine Kd.C_drew ?_))); (case side6 => exact HC1_2.out); (case side7 => repeat (first | exact (Kd.C_below HR1_3.out HB.out) | (with_reducible refine Kd.C_alloc ?_ _) | (with_reducible refine Kd.C_drewN ?_ _) | (with_reducible refine Kd.C_drew ?_))); (case side8 => exact HC1_3.out); rintro e w18 ⟨rfl, hb⟩; refine ⟨_, rfl, ?_⟩; have n0_ := zb.mk (zk (g := gb395) (o := .cells #[.int .i64 a0_0, .int .i64 a0_1, .slice A0_2 l0_2.length c0_2, .slice A0_3 l0_3.length c0_3, .int .i64 a0_4, .int .i64 a0_5, .int .u64 a0_6] 36 (0, 0)) (by (with_reducible repeat (first | refine ze ?_ _ | refine zh ?_ | refine zf ?_ _)); exact BK395.out) hb); have n1_ := zb.mk (zk (g := gb396) (o := .cells #[.int .i64 a1_0, .int .i64 a1_1, .slice A1_2 l1_2.length c1_2, .slice A1_3 l1_3.length c1_3, .int .i64 a1_4, .int .i64 a1_5, .int .u64 a1_6] 36 (0, 0)) (by (with_reducible repeat (first | refine ze ?_ _ | refine zh ?_ | refine zf ?_ _)); exact BK396.out) hb); have n2_ := zb.mk (zl (by repeat (first | (with_reducible first | exact HB.out | apply zi | apply zd | apply zj | refine zg ?_ GE395.out | refine zg ?_ GE396.out) | exact HB.out)) hb); clear BK395; clear BK396; clear HB; have BK395 := n0_; have BK396 := n1_; have HB := n2_; clear n0_ n1_ n2_; (try clear hb); (try clear hb2); (try clear hk); (try clear hi)))
    go_ret
    exact ⟨by first | rfl | (simp [zt, zr] <;> rfl) | (simp [*, zt, zr] <;> rfl), by repeat (first | (with_reducible first | exact HB.out | apply zi | apply zd | apply zj | refine zg ?_ GE395.out | refine zg ?_ GE396.out) | exact HB.out)⟩
end Go.Proofs.Ytenbifjbeeobjaa.Px

namespace Go.Proofs.Ytenbifjbeeobjaa.Px
open Go.RowKit Go.Proofs.YtenbifjbeeobjaaW.PrintWords Go.Proofs.YtenbifjbeeobjaaW.PrintLast Go.Proofs.YtenbifjbeeobjaaW.PrintMore
attribute [local go_sem] zC zE zJ zK zv zw zB zD
set_option linter.unusedVariables false
set_option linter.unusedSimpArgs false
end Go.Proofs.Ytenbifjbeeobjaa.Px

namespace Go.Proofs.Ytenbifjbeeobjaa.Px
open Go.RowKit Go.Proofs.YtenbifjbeeobjaaW.PrintWords Go.Proofs.YtenbifjbeeobjaaW.PrintLast Go.Proofs.YtenbifjbeeobjaaW.PrintMore
attribute [local go_sem] zC zE zJ zK zv zw zB zD
set_option linter.unusedVariables false
set_option linter.unusedSimpArgs false
end Go.Proofs.Ytenbifjbeeobjaa.Px

namespace Go.Proofs.Ytenbifjbeeobjaa.Px
open Go.RowKit Go.Proofs.YtenbifjbeeobjaaW.PrintWords Go.Proofs.YtenbifjbeeobjaaW.PrintLast Go.Proofs.YtenbifjbeeobjaaW.PrintMore
attribute [local go_sem] zC zE zJ zK zv zw zB zD
set_option linter.unusedVariables false
set_option linter.unusedSimpArgs false
def zg5 (s : Bs) : Nat × Bs × Int := zM (zM s).2.1
def zhB (s : Bs) : List ByteArray × Bs × Int := zah (zg5 s).2.1 4 400
def zhA (s : Bs) : List ByteArray × Bs × Int := zah (zhB s).2.1 64 32
def zg7 (s : Bs) : Nat × Bs × Int := zM (zhA s).2.1
def zgI (s : Bs) : Nat × Bs × Int := zM (zg7 s).2.1
def okR (s : Bs) : Prop := (zM s).2.2 = 0 ∧ (zg5 s).2.2 = 0 ∧ (zM s).1 ≤ 64 ∧ (zg5 s).1 ≤ 1048576 ∧ (zhB s).2.2 = 0 ∧ (zhA s).2.2 = 0 ∧ (zg7 s).2.2 = 0 ∧ (zg7 s).1 ≤ 10006 ∧ (zgI s).2.2 = 0 ∧ (zgI s).1 ≤ 10006 ∧ (zgI s).2.1 = []
instance decOkR (s : Bs) : Decidable (okR s) := by unfold okR; infer_instance
end Go.Proofs.Ytenbifjbeeobjaa.Px

namespace Go.Proofs.Ytenbifjbeeobjaa.Px
open Go.RowKit Go.Proofs.YtenbifjbeeobjaaW.PrintWords Go.Proofs.YtenbifjbeeobjaaW.PrintLast Go.Proofs.YtenbifjbeeobjaaW.PrintMore
attribute [local go_sem] zC zE zJ zK zv zw zB zD
set_option linter.unusedVariables false
set_option linter.unusedSimpArgs false
theorem zeL (s : Bs) (most : Int) : (zav s most).1.length ≤ s.length ∧ (zav s most).2.1.length ≤ s.length := by
  have hl := zbz s
  unfold zav zbT
  split
  · unfold zbi
    split
    · exact ⟨Nat.zero_le _, Nat.zero_le _⟩
    · split
      · exact ⟨Nat.zero_le _, Nat.zero_le _⟩
      · simp only [List.length_take, List.length_drop]; omega
  · exact ⟨Nat.zero_le _, Nat.zero_le _⟩
theorem zfS (s : ByteArray) (n : Int) (hs : s.size < 4611686018427387904) : Ev (fun k => zbl.f k s n) (zd1 (ofB s) n) := by
  have l0 : (ofB s).length < 4611686018427387904 := by rw [z9]; exact hs
  obtain ⟨l1, l2⟩ := zeL (ofB s) 65536
  have t1 := zd6 s 65536 hs (by decide)
  have t2 := zbu (toB (pA (ofB s)).2.1) (by rw [z5]; exact Nat.lt_of_le_of_lt l2 l0)
  have t3 := zdn (toB (pA (ofB s)).1) n (by rw [z5]; exact Nat.lt_of_le_of_lt l1 l0)
  simp only [zbs, zY] at t2 t3
  refine Ev.bind t1 (Ev.bind t2 (Ev.bind t3 ?_))
  have bad : ¬ okP (ofB s) n → zd1 (ofB s) n = zdz := zfb
  show Ev (fun k => if (pA (ofB s)).2.2 = 0 then (if (pB (ofB s)).2.2 = 0 then (if (pV (ofB s) n).2.2.2.2.2.2 = 0 then (if (toB (pB (ofB s)).2.1).toList = ([] : List UInt8) then ((zaV.f (pV (ofB s) n).1 (pV (ofB s) n).2.1 (pV (ofB s) n).2.2.1 (pV (ofB s) n).2.2.2.1 (pV (ofB s) n).2.2.2.2.1 (pV (ofB s) n).2.2.2.2.2.1 ((pB (ofB s)).1 : Int) n).bind fun t => if t = 0 then some ((pV (ofB s) n).1, (pV (ofB s) n).2.1, (pV (ofB s) n).2.2.1, (pV (ofB s) n).2.2.2.1, (pV (ofB s) n).2.2.2.2.1, (pV (ofB s) n).2.2.2.2.2.1, ((pB (ofB s)).1 : Int), 0) else some zdz) else some zdz) else some zdz) else some zdz) else some zdz) _
  by_cases h1 : (pA (ofB s)).2.2 = 0
  · refine zX h1 ?_
    by_cases h2 : (pB (ofB s)).2.2 = 0
    · refine zX h2 ?_
      by_cases h3 : (pV (ofB s) n).2.2.2.2.2.2 = 0
      · refine zX h3 ?_
        by_cases h4 : (pB (ofB s)).2.1 = []
        · refine zX (by rw [zaI, zY]; exact h4) (zam (zdE _ _ _ _ _ _ _ (zby _) _) ?_)
          by_cases h5 : zhH (ofB s) n = 0
          · exact zX h5 (zaX (Ev.now _) (zdU ⟨h1, h2, h3, h4, h5⟩).symm)
          · exact zak h5 (zaX (Ev.now _) (bad (fun hh => h5 hh.2.2.2.2)).symm)
        · exact zak (by rw [zaI, zY]; exact h4) (zaX (Ev.now _) (bad (fun hh => h4 hh.2.2.2.1)).symm)
      · exact zak h3 (zaX (Ev.now _) (bad (fun hh => h3 hh.2.2.1)).symm)
    · exact zak h2 (zaX (Ev.now _) (bad (fun hh => h2 hh.2.1)).symm)
  · exact zak h1 (zaX (Ev.now _) (bad (fun hh => h1 hh.1)).symm)
def zfz (a r : Int) (bs : List zR) (ps : List ByteArray) (x y z a' r' : Int) (bs' : List zR) (ps' : List ByteArray) (x' y' z' : Int) : Bool := zcx a r bs ps x y a' r' bs' ps' x' y' && (z == z')
theorem zef (a r : Int) (bs : List zR) (ps : List ByteArray) (x y z a' r' : Int) (bs' : List zR) (ps' : List ByteArray) (x' y' z' : Int) (hb : bs.length < 4611686018427387904) (hs : ∀ b ∈ bs, b.f2.length < 4611686018427387904) (hp : ps.length < 4611686018427387904) :
    Ev (fun k => zaO.f k a r bs ps x y z a' r' bs' ps' x' y' z') (zfz a r bs ps x y z a' r' bs' ps' x' y' z') := by
  refine Ev.bind (zcC a r bs ps x y a' r' bs' ps' x' y' hb hs hp) ?_
  unfold zfz
  by_cases h : zcx a r bs ps x y a' r' bs' ps' x' y' = true
  · exact zX h (zaX (Ev.now _) (by rw [h]; simp))
  · rw [Bool.not_eq_true] at h
    exact zak (by rw [h]; simp) (zaX (Ev.now _) (by rw [h]; simp))
end Go.Proofs.Ytenbifjbeeobjaa.Px
