/- Part 8 of 28 of the proof of the law CertFewer: what is proved is the statement at the end of the last part; its conditions are those of the given row. -/
import Derived.Laws.BitsAllLaws
import Derived.Test.YtlabjgcoopdbiaaZCertFewerG
namespace Go.Proofs.Ytlabjgcoopdbiaa.Px
open Go.RowKit Go.Proofs.YtlabjgcoopdbiaaW.PrintWords Go.Proofs.YtlabjgcoopdbiaaW.PrintLast Go.Proofs.YtlabjgcoopdbiaaW.PrintMore
attribute [local go_sem] zB zD zL zM zx zy zC zE
set_option linter.unusedVariables false
set_option linter.unusedSimpArgs false
def zbk.f (a0_0 : Int) (a0_1 : Int) (l0_2 : List (S68)) (l0_3 : List ByteArray) (a0_4 : Int) (a0_5 : Int) (a0_6 : Int) (a1 : Int) : Option (Int) := (z9.f a0_0 a0_1 l0_2 l0_3 a0_4 a0_5 a1).bind fun t110 => (if t110 = true then ((zaK.f a0_6 a1).bind fun t111 => (if t111 = true then ((zaN.f a0_6).bind fun t112 => ((zav.f a1).bind fun t113 => (if t112 < t113 then (some 2) else (some 0)))) else (some 4))) else (some 1))
set_option maxHeartbeats 8000000 in
set_option maxRecDepth 100000 in
theorem zbk.calls (a0_0 : Int) (a0_1 : Int) (A0_2 : Option Addr) (c0_2 : Nat) (l0_2 : List (S68)) (A0_3 : Option Addr) (c0_3 : Nat) (l0_3 : List ByteArray) (a0_4 : Int) (a0_5 : Int) (a0_6 : Int) (a1 : Int) (r : Int) (w : World) (hr0_2 : Kd.C k68 w A0_2 l0_2.length l0_2) (hc0_2 : l0_2.length ≤ c0_2) (hr0_3 : Kd.C Kd.string w A0_3 l0_3.length l0_3) (hc0_3 : l0_3.length ≤ c0_3) (h : zbk.f a0_0 a0_1 l0_2 l0_3 a0_4 a0_5 a0_6 a1 = some r) :
    Calls Try.prog 25 #[.agg #[.int .i64 a0_0, .int .i64 a0_1, .slice A0_2 l0_2.length c0_2, .slice A0_3 l0_3.length c0_3, .int .i64 a0_4, .int .i64 a0_5, .int .u64 a0_6], .int .i64 a1] w fun e w' => e = .returned (.int .i64 r) ∧ Below w.heap.size w w' := by
  have hu34 := Try.underlying34
  have hu31 := Try.underlying31
  have HR0_2 := zc.mk hr0_2
  have HC0_2 := zc.mk hc0_2
  clear hr0_2 hc0_2
  have HR0_3 := zc.mk hr0_3
  have HC0_3 := zc.mk hc0_3
  clear hr0_3 hc0_3
  have HB := zc.mk (Below.refl w.heap.size w)
  have H : ((z9.f a0_0 a0_1 l0_2 l0_3 a0_4 a0_5 a1).bind fun t110 => (if t110 = true then ((zaK.f a0_6 a1).bind fun t111 => (if t111 = true then ((zaN.f a0_6).bind fun t112 => ((zav.f a1).bind fun t113 => (if t112 < t113 then (some 2) else (some 0)))) else (some 4))) else (some 1))) = some r := h
  clear h
  replace H := Option.bind_eq_some_iff.mp H
  obtain ⟨t110, A30, H⟩ := H
  replace H : (if t110 = true then ((zaK.f a0_6 a1).bind fun t111 => (if t111 = true then ((zaN.f a0_6).bind fun t112 => ((zav.f a1).bind fun t113 => (if t112 < t113 then (some 2) else (some 0)))) else (some 4))) else (some 1)) = some r := H
  have A3 := zc.mk A30
  clear A30
  by_cases c4 : t110 = true
  · subst c4
    have H1 : ((zaK.f a0_6 a1).bind fun t111 => (if t111 = true then ((zaN.f a0_6).bind fun t112 => ((zav.f a1).bind fun t113 => (if t112 < t113 then (some 2) else (some 0)))) else (some 4))) = some r := by rw [if_pos rfl] at H; exact H
    clear H
    have H := H1
    clear H1
    replace H := Option.bind_eq_some_iff.mp H
    obtain ⟨t111, A50, H⟩ := H
    replace H : (if t111 = true then ((zaN.f a0_6).bind fun t112 => ((zav.f a1).bind fun t113 => (if t112 < t113 then (some 2) else (some 0)))) else (some 4)) = some r := H
    have A5 := zc.mk A50
    clear A50
    by_cases c6 : t111 = true
    · subst c6
      have H1 : ((zaN.f a0_6).bind fun t112 => ((zav.f a1).bind fun t113 => (if t112 < t113 then (some 2) else (some 0)))) = some r := by rw [if_pos rfl] at H; exact H
      clear H
      have H := H1
      clear H1
      replace H := Option.bind_eq_some_iff.mp H
      obtain ⟨t112, A70, H⟩ := H
      replace H : ((zav.f a1).bind fun t113 => (if t112 < t113 then (some 2) else (some 0))) = some r := H
      have A7 := zc.mk A70
      clear A70
      replace H := Option.bind_eq_some_iff.mp H
      obtain ⟨t113, A80, H⟩ := H
      replace H : (if t112 < t113 then (some 2) else (some 0)) = some r := H
      have A8 := zc.mk A80
      clear A80
      by_cases c9 : t112 < t113
      · rw [if_pos c9] at H
        have c9b0 : decide (t112 < t113) = true := decide_eq_true c9
        clear c9
        obtain rfl := Option.some.inj H
        go_enter Try.func25, Try.ntmps25
        go_wp2_with (first | ((with_reducible refine zv (N := 2) rfl ?_); refine zu ?hg (N := 2) ?hd (cs := #[.int .i64 a0_0, .int .i64 a0_1, .slice A0_2 l0_2.length c0_2, .slice A0_3 l0_3.length c0_3, .int .i64 a0_4, .int .i64 a0_5, .int .u64 a0_6]) (t := 34) ?hr ?_; (case hd => rfl); (case hg => rfl); (case hr => first | (go_simp; done) | (go_simp; rfl)); intro gb109 hg w10 hbox hb; have n0_ := zc.mk (zk (by repeat (first | (with_reducible first | exact HB.out | apply zf | apply zd | apply ze) | exact HB.out)) hb); have n1_ := zc.mk (hbox); have n2_ := zc.mk ((by rw [hg]; exact (zn (by repeat (first | (with_reducible first | exact HB.out | apply zf | apply zd | apply ze) | exact HB.out))) : w.heap.size ≤ gb109)); have n3_ := zc.mk ((by rw [hg]; exact (zn (by repeat (first | (with_reducible first | exact HB.out | apply zf | apply zd | apply ze) | exact HB.out))) : w.heap.size ≤ gb109)); clear HB; have HB := n0_; have BK109 := n1_; have GW109 := n2_; have GE109 := n3_; clear n0_ n1_ n2_ n3_; clear hb hbox hg; have hcz11_0 : w10.cell? ⟨gb109, 0, none⟩ = some (.int .i64 a0_0) := (zb BK109.out 0).trans rfl; have hcz11_1 : w10.cell? ⟨gb109, 1, none⟩ = some (.int .i64 a0_1) := (zb BK109.out 1).trans rfl; have hcz11_2 : w10.cell? ⟨gb109, 2, none⟩ = some (.slice A0_2 l0_2.length c0_2) := (zb BK109.out 2).trans rfl; have hcz11_3 : w10.cell? ⟨gb109, 3, none⟩ = some (.slice A0_3 l0_3.length c0_3) := (zb BK109.out 3).trans rfl; have hcz11_4 : w10.cell? ⟨gb109, 4, none⟩ = some (.int .i64 a0_4) := (zb BK109.out 4).trans rfl; have hcz11_5 : w10.cell? ⟨gb109, 5, none⟩ = some (.int .i64 a0_5) := (zb BK109.out 5).trans rfl; have hcz11_6 : w10.cell? ⟨gb109, 6, none⟩ = some (.int .u64 a0_6) := (zb BK109.out 6).trans rfl; have hfz11_0 := za BK109.out 0; have hfz11_1 := za BK109.out 1; have hfz11_2 := za BK109.out 2; have hfz11_3 := za BK109.out 3; have hfz11_4 := za BK109.out 4; have hfz11_5 := za BK109.out 5; have hfz11_6 := za BK109.out 6) | ((with_reducible refine zq (f := 38) rfl ?_); refine zQ (some 9) rfl rfl Try.func38 (by kernel_rfl) rfl #[.agg #[.int .i64 a0_0, .int .i64 a0_1, .slice A0_2 l0_2.length c0_2, .slice A0_3 l0_3.length c0_3, .int .i64 a0_4, .int .i64 a0_5], .int .i64 a1] rfl (by (try simp only [List.map_toArray, List.map_cons, List.map_nil]); first | done | rfl | (simp only [List.length_drop, List.length_take]; rfl)) ?_; (with_reducible refine (z9.calls a0_0 a0_1 _ _ l0_2 _ _ l0_3 a0_4 a0_5 a1 true _ ?side1 ?side2 ?side3 ?side4 A3.out).mono ?_); (case side1 => repeat (first | exact (Kd.C_below HR0_2.out HB.out) | (with_reducible refine Kd.C_alloc ?_ _) | (with_reducible refine Kd.C_drewN ?_ _) | (with_reducible refine Kd.C_drew ?_))); (case side2 => exact HC0_2.out); (case side3 => repeat (first | exact (Kd.C_below HR0_3.out HB.out) | (with_reducible refine Kd.C_alloc ?_ _) | (with_reducible refine Kd.C_drewN ?_ _) | (with_reducible refine Kd.C_drew ?_))); (case side4 => exact HC0_3.out); rintro e w12 ⟨rfl, hb⟩; refine ⟨_, rfl, ?_⟩; have n0_ := zc.mk (zl (g := gb109) (o := .cells #[.int .i64 a0_0, .int .i64 a0_1, .slice A0_2 l0_2.length c0_2, .slice A0_3 l0_3.length c0_3, .int .i64 a0_4, .int .i64 a0_5, .int .u64 a0_6] 34 (0, 0)) (by (with_reducible repeat (first | refine zg ?_ _ | refine zi ?_ | refine zh ?_ _)); exact BK109.out) hb); have n1_ := zc.mk (zk (by repeat (first | (with_reducible first | exact HB.out | apply zf | apply zd | apply ze | refine zj ?_ GE109.out) | exact HB.out)) hb); clear BK109; clear HB; have BK109 := n0_; have HB := n1_; clear n0_ n1_; (try clear hb); (try clear hb2); (try clear hk); (try clear hi); have hcz13_0 : w12.cell? ⟨gb109, 0, none⟩ = some (.int .i64 a0_0) := (zb BK109.out 0).trans rfl; have hcz13_1 : w12.cell? ⟨gb109, 1, none⟩ = some (.int .i64 a0_1) := (zb BK109.out 1).trans rfl; have hcz13_2 : w12.cell? ⟨gb109, 2, none⟩ = some (.slice A0_2 l0_2.length c0_2) := (zb BK109.out 2).trans rfl; have hcz13_3 : w12.cell? ⟨gb109, 3, none⟩ = some (.slice A0_3 l0_3.length c0_3) := (zb BK109.out 3).trans rfl; have hcz13_4 : w12.cell? ⟨gb109, 4, none⟩ = some (.int .i64 a0_4) := (zb BK109.out 4).trans rfl; have hcz13_5 : w12.cell? ⟨gb109, 5, none⟩ = some (.int .i64 a0_5) := (zb BK109.out 5).trans rfl; have hcz13_6 : w12.cell? ⟨gb109, 6, none⟩ = some (.int .u64 a0_6) := (zb BK109.out 6).trans rfl; have hfz13_0 := za BK109.out 0; have hfz13_1 := za BK109.out 1; have hfz13_2 := za BK109.out 2; have hfz13_3 := za BK109.out 3; have hfz13_4 := za BK109.out 4; have hfz13_5 := za BK109.out 5; have hfz13_6 := za BK109.out 6) | ((with_reducible refine zq (f := 39) rfl ?_); refine zQ (some 15) rfl rfl Try.func39 (by kernel_rfl) rfl #[.int .u64 a0_6, .int .i64 a1] rfl (by (try simp only [List.map_toArray, List.map_cons, List.map_nil]); first | done | rfl | (simp only [List.length_drop, List.length_take]; rfl)) ?_; (with_reducible refine (zaK.calls a0_6 a1 true _ A5.out).mono ?_); rintro e w14 ⟨rfl, hb⟩; refine ⟨_, rfl, ?_⟩; have n0_ := zc.mk (zl (g := gb109) (o := .cells #[.int .i64 a0_0, .int .i64 a0_1, .slice A0_2 l0_2.length c0_2, .slice A0_3 l0_3.length c0_3, .int .i64 a0_4, .int .i64 a0_5, .int .u64 a0_6] 34 (0, 0)) (by (with_reducible repeat (first | refine zg ?_ _ | refine zi ?_ | refine zh ?_ _)); exact BK109.out) hb); have n1_ := zc.mk (zk (by repeat (first | (with_reducible first | exact HB.out | apply zf | apply zd | apply ze | refine zj ?_ GE109.out) | exact HB.out)) hb); clear BK109; clear HB; have BK109 := n0_; have HB := n1_; clear n0_ n1_; (try clear hb); (try clear hb2); (try clear hk); (try clear hi); have hcz15_0 : w14.cell? ⟨gb109, 0, none⟩ = some (.int .i64 a0_0) := (zb BK109.out 0).trans rfl; have hcz15_1 : w14.cell? ⟨gb109, 1, none⟩ = some (.int .i64 a0_1) := (zb BK109.out 1).trans rfl; have hcz15_2 : w14.cell? ⟨gb109, 2, none⟩ = some (.slice A0_2 l0_2.length c0_2) := (zb BK109.out 2).trans rfl; have hcz15_3 : w14.cell? ⟨gb109, 3, none⟩ = some (.slice A0_3 l0_3.length c0_3) := (zb BK109.out 3).trans rfl; have hcz15_4 : w14.cell? ⟨gb109, 4, none⟩ = some (.int .i64 a0_4) := (zb BK109.out 4).trans rfl; have hcz15_5 : w14.cell? ⟨gb109, 5, none⟩ = some (.int .i64 a0_5) := (zb BK109.out 5).trans rfl; have hcz15_6 : w14.cell? ⟨gb109, 6, none⟩ = some (.int .u64 a0_6) := (zb BK109.out 6).trans rfl; have hfz15_0 := za BK109.out 0; have hfz15_1 := za BK109.out 1; have hfz15_2 := za BK109.out 2; have hfz15_3 := za BK109.out 3; have hfz15_4 := za BK109.out 4; have hfz15_5 := za BK109.out 5; have hfz15_6 := za BK109.out 6) | ((with_reducible refine zq (f := 40) rfl ?_); refine zQ (some 20) rfl rfl Try.func40 (by kernel_rfl) rfl #[.int .u64 a0_6] rfl (by (try simp only [List.map_toArray, List.map_cons, List.map_nil]); first | done | rfl | (simp only [List.length_drop, List.length_take]; rfl)) ?_; (with_reducible refine (zaN.calls a0_6 t112 _ A7.out).mono ?_); rintro e w' ⟨rfl, ⟨nd, rfl⟩⟩; refine ⟨_, rfl, ?_⟩) | ((with_reducible refine zq (f := 41) rfl ?_); refine zQ (some 22) rfl rfl Try.func41 (by kernel_rfl) rfl #[.int .i64 a1] rfl (by (try simp only [List.map_toArray, List.map_cons, List.map_nil]); first | done | rfl | (simp only [List.length_drop, List.length_take]; rfl)) ?_; (with_reducible refine (zav.calls a1 t113 _ A8.out).mono ?_); rintro e w' ⟨rfl, ⟨nd, rfl⟩⟩; refine ⟨_, rfl, ?_⟩))
        go_ret
        exact ⟨by first | rfl | (simp [zo, zp] <;> rfl) | (simp [*, zo, zp] <;> rfl), by repeat (first | (with_reducible first | exact HB.out | apply zf | apply zd | apply ze | refine zj ?_ GE109.out) | exact HB.out)⟩
      · rw [if_neg c9] at H
        have c9b0 : decide (t112 < t113) = false := decide_eq_false c9
        clear c9
        obtain rfl := Option.some.inj H
        go_enter Try.func25, Try.ntmps25
        go_wp2_with (first | ((with_reducible refine zv (N := 2) rfl ?_); refine zu ?hg (N := 2) ?hd (cs := #[.int .i64 a0_0, .int .i64 a0_1, .slice A0_2 l0_2.length c0_2, .slice A0_3 l0_3.length c0_3, .int .i64 a0_4, .int .i64 a0_5, .int .u64 a0_6]) (t := 34) ?hr ?_; (case hd => rfl); (case hg => rfl); (case hr => first | (go_simp; done) | (go_simp; rfl)); intro gb109 hg w16 hbox hb; have n0_ := zc.mk (zk (by repeat (first | (with_reducible first | exact HB.out | apply zf | apply zd | apply ze) | exact HB.out)) hb); have n1_ := zc.mk (hbox); have n2_ := zc.mk ((by rw [hg]; exact (zn (by repeat (first | (with_reducible first | exact HB.out | apply zf | apply zd | apply ze) | exact HB.out))) : w.heap.size ≤ gb109)); have n3_ := zc.mk ((by rw [hg]; exact (zn (by repeat (first | (with_reducible first | exact HB.out | apply zf | apply zd | apply ze) | exact HB.out))) : w.heap.size ≤ gb109)); clear HB; have HB := n0_; have BK109 := n1_; have GW109 := n2_; have GE109 := n3_; clear n0_ n1_ n2_ n3_; clear hb hbox hg; have hcz17_0 : w16.cell? ⟨gb109, 0, none⟩ = some (.int .i64 a0_0) := (zb BK109.out 0).trans rfl; have hcz17_1 : w16.cell? ⟨gb109, 1, none⟩ = some (.int .i64 a0_1) := (zb BK109.out 1).trans rfl; have hcz17_2 : w16.cell? ⟨gb109, 2, none⟩ = some (.slice A0_2 l0_2.length c0_2) := (zb BK109.out 2).trans rfl; have hcz17_3 : w16.cell? ⟨gb109, 3, none⟩ = some (.slice A0_3 l0_3.length c0_3) := (zb BK109.out 3).trans rfl; have hcz17_4 : w16.cell? ⟨gb109, 4, none⟩ = some (.int .i64 a0_4) := (zb BK109.out 4).trans rfl; have hcz17_5 : w16.cell? ⟨gb109, 5, none⟩ = some (.int .i64 a0_5) := (zb BK109.out 5).trans rfl; have hcz17_6 : w16.cell? ⟨gb109, 6, none⟩ = some (.int .u64 a0_6) := (zb BK109.out 6).trans rfl; have hfz17_0 := za BK109.out 0; have hfz17_1 := za BK109.out 1; have hfz17_2 := za BK109.out 2; have hfz17_3 := za BK109.out 3; have hfz17_4 := za BK109.out 4; have hfz17_5 := za BK109.out 5; have hfz17_6 := za BK109.out 6) | ((with_reducible refine zq (f := 38) rfl ?_); refine zQ (some 9) rfl rfl Try.func38 (by kernel_rfl) rfl #[.agg #[.int .i64 a0_0, .int .i64 a0_1, .slice A0_2 l0_2.length c0_2, .slice A0_3 l0_3.length c0_3, .int .i64 a0_4, .int .i64 a0_5], .int .i64 a1] rfl (by (try simp only [List.map_toArray, List.map_cons, List.map_nil]); first | done | rfl | (simp only [List.length_drop, List.length_take]; rfl)) ?_; (with_reducible refine (z9.calls a0_0 a0_1 _ _ l0_2 _ _ l0_3 a0_4 a0_5 a1 true _ ?side1 ?side2 ?side3 ?side4 A3.out).mono ?_); (case side1 => repeat (first | exact (Kd.C_below HR0_2.out HB.out) | (with_reducible refine Kd.C_alloc ?_ _) | (with_reducible refine Kd.C_drewN ?_ _) | (with_reducible refine Kd.C_drew ?_))); (case side2 => exact HC0_2.out); (case side3 => repeat (first | exact (Kd.C_below HR0_3.out HB.out) | (with_reducible refine Kd.C_alloc ?_ _) | (with_reducible refine Kd.C_drewN ?_ _) | (with_reducible refine Kd.C_drew ?_))); (case side4 => exact HC0_3.out); rintro e w18 ⟨rfl, hb⟩; refine ⟨_, rfl, ?_⟩; have n0_ := zc.mk (zl (g := gb109) (o := .cells #[.int .i64 a0_0, .int .i64 a0_1, .slice A0_2 l0_2.length c0_2, .slice A0_3 l0_3.length c0_3, .int .i64 a0_4, .int .i64 a0_5, .int .u64 a0_6] 34 (0, 0)) (by (with_reducible repeat (first | refine zg ?_ _ | refine zi ?_ | refine zh ?_ _)); exact BK109.out) hb); have n1_ := zc.mk (zk (by repeat (first | (with_reducible first | exact HB.out | apply zf | apply zd | apply ze | refine zj ?_ GE109.out) | exact HB.out)) hb); clear BK109; clear HB; have BK109 := n0_; have HB := n1_; clear n0_ n1_; (try clear hb); (try clear hb2); (try clear hk); (try clear hi); have hcz19_0 : w18.cell? ⟨gb109, 0, none⟩ = some (.int .i64 a0_0) := (zb BK109.out 0).trans rfl; have hcz19_1 : w18.cell? ⟨gb109, 1, none⟩ = some (.int .i64 a0_1) := (zb BK109.out 1).trans rfl; have hcz19_2 : w18.cell? ⟨gb109, 2, none⟩ = some (.slice A0_2 l0_2.length c0_2) := (zb BK109.out 2).trans rfl; have hcz19_3 : w18.cell? ⟨gb109, 3, none⟩ = some (.slice A0_3 l0_3.length c0_3) := (zb BK109.out 3).trans rfl; have hcz19_4 : w18.cell? ⟨gb109, 4, none⟩ = some (.int .i64 a0_4) := (zb BK109.out 4).trans rfl; have hcz19_5 : w18.cell? ⟨gb109, 5, none⟩ = some (.int .i64 a0_5) := (zb BK109.out 5).trans rfl; have hcz19_6 : w18.cell? ⟨gb109, 6, none⟩ = some (.int .u64 a0_6) := (zb BK109.out 6).trans rfl; have hfz19_0 := za BK109.out 0; have hfz19_1 := za BK109.out 1; have hfz19_2 := za BK109.out 2; have hfz19_3 := za BK109.out 3; have hfz19_4 := za BK109.out 4; have hfz19_5 := za BK109.out 5; have hfz19_6 := za BK109.out 6) | ((with_reducible refine zq (f := 39) rfl ?_); refine zQ (some 15) rfl rfl Try.func39 (by kernel_rfl) rfl #[.int .u64 a0_6, .int .i64 a1] rfl (by (try simp only [List.map_toArray, List.map_cons, List.map_nil]); first | done | rfl | (simp only [List.length_drop, List.length_take]; rfl)) ?_; (with_reducible refine (zaK.calls a0_6 a1 true _ A5.out).mono ?_); rintro e w20 ⟨rfl, hb⟩; refine ⟨_, rfl, ?_⟩; have n0_ := zc.mk (zl (g := gb109) (o := .cells #[.int .i64 a0_0, .int .i64 a0_1, .slice A0_2 l0_2.length c0_2, .slice A0_3 l0_3.length c0_3, .int .i64 a0_4, .int .i64 a0_5, .int .u64 a0_6] 34 (0, 0)) (by (with_reducible repeat (first | refine zg ?_ _ | refine zi ?_ | refine zh ?_ _)); exact BK109.out) hb); have n1_ := zc.mk (zk (by repeat (first | (with_reducible first | exact HB.out | apply zf | apply zd | apply ze | refine zj ?_ GE109.out) | exact HB.out)) hb); clear BK109; clear HB; have BK109 := n0_; have HB := n1_; clear n0_ n1_; (try clear hb); (try clear hb2); (try clear hk); (try clear hi); have hcz21_0 : w20.cell? ⟨gb109, 0, none⟩ = some (.int .i64 a0_0) := (zb BK109.out 0).trans rfl; have hcz21_1 : w20.cell? ⟨gb109, 1, none⟩ = some (.int .i64 a0_1) := (zb BK109.out 1).trans rfl; have hcz21_2 : w20.cell? ⟨gb109, 2, none⟩ = some (.slice A0_2 l0_2.length c0_2) := (zb BK109.out 2).trans rfl; have hcz21_3 : w20.cell? ⟨gb109, 3, none⟩ = some (.slice A0_3 l0_3.length c0_3) := (zb BK109.out 3).trans rfl; have hcz21_4 : w20.cell? ⟨gb109, 4, none⟩ = some (.int .i64 a0_4) := (zb BK109.out 4).trans rfl; have hcz21_5 : w20.cell? ⟨gb109, 5, none⟩ = some (.int .i64 a0_5) := (zb BK109.out 5).trans rfl; have hcz21_6 : w20.cell? ⟨gb109, 6, none⟩ = some (.int .u64 a0_6) := (zb BK109.out 6).trans rfl; have hfz21_0 := za BK109.out 0; have hfz21_1 := za BK109.out 1; have hfz21_2 := za BK109.out 2; have hfz21_3 := za BK109.out 3; have hfz21_4 := za BK109.out 4; have hfz21_5 := za BK109.out 5; have hfz21_6 := za BK109.out 6) | ((with_reducible refine zq (f := 40) rfl ?_); refine zQ (some 20) rfl rfl Try.func40 (by kernel_rfl) rfl #[.int .u64 a0_6] rfl (by (try simp only [List.map_toArray, List.map_cons, List.map_nil]); first | done | rfl | (simp only [List.length_drop, List.length_take]; rfl)) ?_; (with_reducible refine (zaN.calls a0_6 t112 _ A7.out).mono ?_); rintro e w' ⟨rfl, ⟨nd, rfl⟩⟩; refine ⟨_, rfl, ?_⟩) | ((with_reducible refine zq (f := 41) rfl ?_); refine zQ (some 22) rfl rfl Try.func41 (by kernel_rfl) rfl #[.int .i64 a1] rfl (by (try simp only [List.map_toArray, List.map_cons, List.map_nil]); first | done | rfl | (simp only [List.length_drop, List.length_take]; rfl)) ?_; (with_reducible refine (zav.calls a1 t113 _ A8.out).mono ?_); rintro e w' ⟨rfl, ⟨nd, rfl⟩⟩; refine ⟨_, rfl, ?_⟩))
        go_ret
        exact ⟨by first | rfl | (simp [zo, zp] <;> rfl) | (simp [*, zo, zp] <;> rfl), by repeat (first | (with_reducible first | exact HB.out | apply zf | apply zd | apply ze | refine zj ?_ GE109.out) | exact HB.out)⟩
    · replace c6 := Bool.eq_false_iff.mpr c6
      subst c6
      have H1 : (some 4) = some r := by rw [if_neg (show ¬ (false = true) by decide)] at H; exact H
      clear H
      have H := H1
      clear H1
      obtain rfl := Option.some.inj H
      go_enter Try.func25, Try.ntmps25
      go_wp2_with (first | ((with_reducible refine zv (N := 2) rfl ?_); refine zu ?hg (N := 2) ?hd (cs := #[.int .i64 a0_0, .int .i64 a0_1, .slice A0_2 l0_2.length c0_2, .slice A0_3 l0_3.length c0_3, .int .i64 a0_4, .int .i64 a0_5, .int .u64 a0_6]) (t := 34) ?hr ?_; (case hd => rfl); (case hg => rfl); (case hr => first | (go_simp; done) | (go_simp; rfl)); intro gb109 hg w22 hbox hb; have n0_ := zc.mk (zk (by repeat (first | (with_reducible first | exact HB.out | apply zf | apply zd | apply ze) | exact HB.out)) hb); have n1_ := zc.mk (hbox); have n2_ := zc.mk ((by rw [hg]; exact (zn (by repeat (first | (with_reducible first | exact HB.out | apply zf | apply zd | apply ze) | exact HB.out))) : w.heap.size ≤ gb109)); have n3_ := zc.mk ((by rw [hg]; exact (zn (by repeat (first | (with_reducible first | exact HB.out | apply zf | apply zd | apply ze) | exact HB.out))) : w.heap.size ≤ gb109)); clear HB; have HB := n0_; have BK109 := n1_; have GW109 := n2_; have GE109 := n3_; clear n0_ n1_ n2_ n3_; clear hb hbox hg; have hcz23_0 : w22.cell? ⟨gb109, 0, none⟩ = some (.int .i64 a0_0) := (zb BK109.out 0).trans rfl; have hcz23_1 : w22.cell? ⟨gb109, 1, none⟩ = some (.int .i64 a0_1) := (zb BK109.out 1).trans rfl; have hcz23_2 : w22.cell? ⟨gb109, 2, none⟩ = some (.slice A0_2 l0_2.length c0_2) := (zb BK109.out 2).trans rfl; have hcz23_3 : w22.cell? ⟨gb109, 3, none⟩ = some (.slice A0_3 l0_3.length c0_3) := (zb BK109.out 3).trans rfl; have hcz23_4 : w22.cell? ⟨gb109, 4, none⟩ = some (.int .i64 a0_4) := (zb BK109.out 4).trans rfl; have hcz23_5 : w22.cell? ⟨gb109, 5, none⟩ = some (.int .i64 a0_5) := (zb BK109.out 5).trans rfl; have hcz23_6 : w22.cell? ⟨gb109, 6, none⟩ = some (.int .u64 a0_6) := (zb BK109.out 6).trans rfl; have hfz23_0 := za BK109.out 0; have hfz23_1 := za BK109.out 1; have hfz23_2 := za BK109.out 2; have hfz23_3 := za BK109.out 3; have hfz23_4 := za BK109.out 4; have hfz23_5 := za BK109.out 5; have hfz23_6 := za BK109.out 6) | ((with_reducible refine zq (f := 38) rfl ?_); refine zQ (some 9) rfl rfl Try.func38 (by kernel_rfl) rfl #[.agg #[.int .i64 a0_0, .int .i64 a0_1, .slice A0_2 l0_2.length c0_2, .slice A0_3 l0_3.length c0_3, .int .i64 a0_4, .int .i64 a0_5], .int .i64 a1] rfl (by (try simp only [List.map_toArray, List.map_cons, List.map_nil]); first | done | rfl | (simp only [List.length_drop, List.length_take]; rfl)) ?_; (with_reducible refine (z9.calls a0_0 a0_1 _ _ l0_2 _ _ l0_3 a0_4 a0_5 a1 true _ ?side1 ?side2 ?side3 ?side4 A3.out).mono ?_); (case side1 => repeat (first | exact (Kd.C_below HR0_2.out HB.out) | (with_reducible refine Kd.C_alloc ?_ _) | (with_reducible refine Kd.C_drewN ?_ _) | (with_reducible refine Kd.C_drew ?_))); (case side2 => exact HC0_2.out); (case side3 => repeat (first | exact (Kd.C_below HR0_3.out HB.out) | (with_reducible refine Kd.C_alloc ?_ _) | (with_reducible refine Kd.C_drewN ?_ _) | (with_reducible refine Kd.C_drew ?_))); (case side4 => exact HC0_3.out); rintro e w24 ⟨rfl, hb⟩; refine ⟨_, rfl, ?_⟩; have n0_ := zc.mk (zl (g := gb109) (o := .cells #[.int .i64 a0_0, .int .i64 a0_1, .slice A0_2 l0_2.length c0_2, .slice A0_3 l0_3.length c0_3, .int .i64 a0_4, .int .i64 a0_5, .int .u64 a0_6] 34 (0, 0)) (by (with_reducible repeat (first | refine zg ?_ _ | refine zi ?_ | refine zh ?_ _)); exact BK109.out) hb); have n1_ := zc.mk (zk (by repeat (first | (with_reducible first | exact HB.out | apply zf | apply zd | apply ze | refine zj ?_ GE109.out) | exact HB.out)) hb); clear BK109; clear HB; have BK109 := n0_; have HB := n1_; clear n0_ n1_; (try clear hb); (try clear hb2); (try clear hk); (try clear hi); have hcz25_0 : w24.cell? ⟨gb109, 0, none⟩ = some (.int .i64 a0_0) := (zb BK109.out 0).trans rfl; have hcz25_1 : w24.cell? ⟨gb109, 1, none⟩ = some (.int .i64 a0_1) := (zb BK109.out 1).trans rfl; have hcz25_2 : w24.cell? ⟨gb109, 2, none⟩ = some (.slice A0_2 l0_2.length c0_2) := (zb BK109.out 2).trans rfl; have hcz25_3 : w24.cell? ⟨gb109, 3, none⟩ = some (.slice A0_3 l0_3.length c0_3) := (zb BK109.out 3).trans rfl; have hcz25_4 : w24.cell? ⟨gb109, 4, none⟩ = some (.int .i64 a0_4) := (zb BK109.out 4).trans rfl; have hcz25_5 : w24.cell? ⟨gb109, 5, none⟩ = some (.int .i64 a0_5) := (zb BK109.out 5).trans rfl; have hcz25_6 : w24.cell? ⟨gb109, 6, none⟩ = some (.int .u64 a0_6) := (zb BK109.out 6).trans rfl; have hfz25_0 := za BK109.out 0; have hfz25_1 := za BK109.out 1; have hfz25_2 := za BK109.out 2; have hfz25_3 := za BK109.out 3; have hfz25_4 := za BK109.out 4; have hfz25_5 := za BK109.out 5; have hfz25_6 := za BK109.out 6) | ((with_reducible refine zq (f := 39) rfl ?_); refine zQ (some 15) rfl rfl Try.func39 (by kernel_rfl) rfl #[.int .u64 a0_6, .int .i64 a1] rfl (by (try simp only [List.map_toArray, List.map_cons, List.map_nil]); first | done | rfl | (simp only [List.length_drop, List.length_take]; rfl)) ?_; (with_reducible refine (zaK.calls a0_6 a1 false _ A5.out).mono ?_); rintro e w26 ⟨rfl, hb⟩; refine ⟨_, rfl, ?_⟩; have n0_ := zc.mk (zl (g := gb109) (o := .cells #[.int .i64 a0_0, .int .i64 a0_1, .slice A0_2 l0_2.length c0_2, .slice A0_3 l0_3.length c0_3, .int .i64 a0_4, .int .i64 a0_5, .int .u64 a0_6] 34 (0, 0)) (by (with_reducible repeat (first | refine zg ?_ _ | refine zi ?_ | refine zh ?_ _)); exact BK109.out) hb); have n1_ := zc.mk (zk (by repeat (first | (with_reducible first | exact HB.out | apply zf | apply zd | apply ze | refine zj ?_ GE109.out) | exact HB.out)) hb); clear BK109; clear HB; have BK109 := n0_; have HB := n1_; clear n0_ n1_; (try clear hb); (try clear hb2); (try clear hk); (try clear hi)))
      go_ret
      exact ⟨by first | rfl | (simp [zo, zp] <;> rfl) | (simp [*, zo, zp] <;> rfl), by repeat (first | (with_reducible first | exact HB.out | apply zf | apply zd | apply ze | refine zj ?_ GE109.out) | exact HB.out)⟩
  · replace c4 := Bool.eq_false_iff.mpr c4
    subst c4
    have H1 : (some 1) = some r := by rw [if_neg (show ¬ (false = true) by decide)] at H; exact H
    clear H
    have H := H1
    clear H1
    obtain rfl := Option.some.inj H
    go_enter Try.func25, Try.ntmps25
    go_wp2_with (first | ((with_reducible refine zv (N := 2) rfl ?_); refine zu ?hg (N := 2) ?hd (cs := #[.int .i64 a0_0, .int .i64 a0_1, .slice A0_2 l0_2.length c0_2, .slice A0_3 l0_3.length c0_3, .int .i64 a0_4, .int .i64 a0_5, .int .u64 a0_6]) (t := 34) ?hr ?_; (case hd => rfl); (case hg => rfl); (case hr => first | (go_simp; done) | (go_simp; rfl)); intro gb109 hg w27 hbox hb; have n0_ := zc.mk (zk (by repeat (first | (with_reducible first | exact HB.out | apply zf | apply zd | apply ze) | exact HB.out)) hb); have n1_ := zc.mk (hbox); have n2_ := zc.mk ((by rw [hg]; exact (zn (by repeat (first | (with_reducible first | exact HB.out | apply zf | apply zd | apply ze) | exact HB.out))) : w.heap.size ≤ gb109)); have n3_ := zc.mk ((by rw [hg]; exact (zn (by repeat (first | (with_reducible first | exact HB.out | apply zf | apply zd | apply ze) | exact HB.out))) : w.heap.size ≤ gb109)); clear HB; have HB := n0_; have BK109 := n1_; have GW109 := n2_; have GE109 := n3_; clear n0_ n1_ n2_ n3_; clear hb hbox hg; have hcz28_0 : w27.cell? ⟨gb109, 0, none⟩ = some (.int .i64 a0_0) := (zb BK109.out 0).trans rfl; have hcz28_1 : w27.cell? ⟨gb109, 1, none⟩ = some (.int .i64 a0_1) := (zb BK109.out 1).trans rfl; have hcz28_2 : w27.cell? ⟨gb109, 2, none⟩ = some (.slice A0_2 l0_2.length c0_2) := (zb BK109.out 2).trans rfl; have hcz28_3 : w27.cell? ⟨gb109, 3, none⟩ = some (.slice A0_3 l0_3.length c0_3) := (zb BK109.out 3).trans rfl; have hcz28_4 : w27.cell? ⟨gb109, 4, none⟩ = some (.int .i64 a0_4) := (zb BK109.out 4).trans rfl; have hcz28_5 : w27.cell? ⟨gb109, 5, none⟩ = some (.int .i64 a0_5) := (zb BK109.out 5).trans rfl; have hcz28_6 : w27.cell? ⟨gb109, 6, none⟩ = some (.int .u64 a0_6) := (zb BK109.out 6).trans rfl; have hfz28_0 := za BK109.out 0; have hfz28_1 := za BK109.out 1; have hfz28_2 := za BK109.out 2; have hfz28_3 := za BK109.out 3; have hfz28_4 := za BK109.out 4; have hfz28_5 := za BK109.out 5; have hfz28_6 := za BK109.out 6) | ((with_reducible refine zq (f := 38) rfl ?_); refine zQ (some 9) rfl rfl Try.func38 (by kernel_rfl) rfl #[.agg #[.int .i64 a0_0, .int .i64 a0_1, .slice A0_2 l0_2.length c0_2, .slice A0_3 l0_3.length c0_3, .int .i64 a0_4, .int .i64 a0_5], .int .i64 a1] rfl (by (try simp only [List.map_toArray, List.map_cons, List.map_nil]); first | done | rfl | (simp only [List.length_drop, List.length_take]; rfl)) ?_; (with_reducible refine (z9.calls a0_0 a0_1 _ _ l0_2 _ _ l0_3 a0_4 a0_5 a1 false _ ?side1 ?side2 ?side3 ?side4 A3.out).mono ?_); (case side1 => repeat (first | exact (Kd.C_below HR0_2.out HB.out) | (with_reducible refine Kd.C_alloc ?_ _) | (with_reducible refine Kd.C_drewN ?_ _) | (with_reducible refine Kd.C_drew ?_))); (case side2 => exact HC0_2.out); (case side3 => repeat (first | exact (Kd.C_below HR0_3.out HB.out) | (with_reducible refine Kd.C_alloc ?_ _) | (with_reducible refine Kd.C_drewN ?_ _) | (with_reducible refine Kd.C_drew ?_))); (case side4 => exact HC0_3.out); rintro e w29 ⟨rfl, hb⟩; refine ⟨_, rfl, ?_⟩; have n0_ := zc.mk (zl (g := gb109) (o := .cells #[.int .i64 a0_0, .int .i64 a0_1, .slice A0_2 l0_2.length c0_2, .slice A0_3 l0_3.length c0_3, .int .i64 a0_4, .int .i64 a0_5, .int .u64 a0_6] 34 (0, 0)) (by (with_reducible repeat (first | refine zg ?_ _ | refine zi ?_ | refine zh ?_ _)); exact BK109.out) hb); have n1_ := zc.mk (zk (by repeat (first | (with_reducible first | exact HB.out | apply zf | apply zd | apply ze | refine zj ?_ GE109.out) | exact HB.out)) hb); clear BK109; clear HB; have BK109 := n0_; have HB := n1_; clear n0_ n1_; (try clear hb); (try clear hb2); (try clear hk); (try clear hi)))
    go_ret
    exact ⟨by first | rfl | (simp [zo, zp] <;> rfl) | (simp [*, zo, zp] <;> rfl), by repeat (first | (with_reducible first | exact HB.out | apply zf | apply zd | apply ze | refine zj ?_ GE109.out) | exact HB.out)⟩
end Go.Proofs.Ytlabjgcoopdbiaa.Px

namespace Go.Proofs.Ytlabjgcoopdbiaa.Px
open Go.RowKit Go.Proofs.YtlabjgcoopdbiaaW.PrintWords Go.Proofs.YtlabjgcoopdbiaaW.PrintLast Go.Proofs.YtlabjgcoopdbiaaW.PrintMore
attribute [local go_sem] zB zD zL zM zx zy zC zE
set_option linter.unusedVariables false
set_option linter.unusedSimpArgs false
def zaC.f (a0 : ByteArray) : Option (ByteArray) := if 1 + a0.size ≤ 9223372036854775807 then (some ((⟨#[121]⟩ : ByteArray) ++ a0)) else (none)
set_option maxHeartbeats 8000000 in
set_option maxRecDepth 100000 in
theorem zaC.calls (a0 : ByteArray) (r : ByteArray) (w : World) (h : zaC.f a0 = some r) :
    Calls Try.prog 10 #[.string a0] w fun e w' => e = .returned (.string r) ∧ zF w w' := by
  have H : (if 1 + a0.size ≤ 9223372036854775807 then (some ((⟨#[121]⟩ : ByteArray) ++ a0)) else (none)) = some r := h
  clear h
  by_cases c2 : 1 + a0.size ≤ 9223372036854775807
  · rw [if_pos c2] at H
    have c2b0 := eq_true c2
    have c2b1 : decide (1 + a0.size ≤ 9223372036854775807) = true := decide_eq_true c2
    try have c2b2 : (9223372036854775807 < 1 + a0.size) = False := eq_false (Nat.not_lt.2 c2)
    obtain rfl := Option.some.inj H
    go_enter Try.func10, Try.ntmps10
    go_wp2
    go_ret
    exact ⟨by first | rfl | (simp; done) | (simp [*]; done), by repeat (first | exact zF.refl _ | apply zF.step)⟩
  · rw [if_neg c2] at H
    exact absurd H (by simp)
end Go.Proofs.Ytlabjgcoopdbiaa.Px

namespace Go.Proofs.Ytlabjgcoopdbiaa.Px
open Go.RowKit Go.Proofs.YtlabjgcoopdbiaaW.PrintWords Go.Proofs.YtlabjgcoopdbiaaW.PrintLast Go.Proofs.YtlabjgcoopdbiaaW.PrintMore
attribute [local go_sem] zB zD zL zM zx zy zC zE
set_option linter.unusedVariables false
set_option linter.unusedSimpArgs false
def zbE.f (a0 : Int) (a1 : Int) : Option (Int) := if 0 ≤ (Go.bits .and .u64 (IntKind.u64.wrap (a1)) 31) then (if 0 ≤ (IntKind.u64.wrap (32 - (Go.bits .and .u64 (IntKind.u64.wrap (a1)) 31))) then (some (Go.bits .or .u32 (shl .u32 a0 (Go.bits .and .u64 (IntKind.u64.wrap (a1)) 31)) (shr .u32 a0 (IntKind.u64.wrap (32 - (Go.bits .and .u64 (IntKind.u64.wrap (a1)) 31)))))) else (none)) else (none)
end Go.Proofs.Ytlabjgcoopdbiaa.Px

namespace Go.Proofs.Ytlabjgcoopdbiaa.Px
open Go.RowKit Go.Proofs.YtlabjgcoopdbiaaW.PrintWords Go.Proofs.YtlabjgcoopdbiaaW.PrintLast Go.Proofs.YtlabjgcoopdbiaaW.PrintMore
attribute [local go_sem] zB zD zL zM zx zy zC zE
set_option linter.unusedVariables false
set_option linter.unusedSimpArgs false
def zeR.f (a0 : Int) (a1 : Int) : Option (Int) := (zbE.f a0 (wrap64 (-a1))).bind fun t136 => (some t136)
end Go.Proofs.Ytlabjgcoopdbiaa.Px

namespace Go.Proofs.Ytlabjgcoopdbiaa.Px
open Go.RowKit Go.Proofs.YtlabjgcoopdbiaaW.PrintWords Go.Proofs.YtlabjgcoopdbiaaW.PrintLast Go.Proofs.YtlabjgcoopdbiaaW.PrintMore
attribute [local go_sem] zB zD zL zM zx zy zC zE
set_option linter.unusedVariables false
set_option linter.unusedSimpArgs false
def za5 (x : Int) : Prop := 0 ≤ x ∧ x < 4294967296
def zbL (x : Int) : Int := IntKind.u32.wrap x
theorem zbi (x : Int) : zbL x = x % 4294967296 := IntKind.wrap_u32 x
theorem zep (x : Int) : za5 (zbL x) := by rw [zbi]; unfold za5; omega
def zah (n : Nat) (x : Int) : Int := x / 2 ^ n + x % 2 ^ n * 2 ^ (32 - n)
def zbD (a b : Int) : Int := Go.bits .xor .u32 a b
def zcI (a b : Int) : Int := Go.bits .and .u32 a b
def zdT (L : List Int) (k w : Int) : List Int :=
  let t := zbL (zbL (zbL (zbL (L.getD 7 0 + zbD (zbD (zah 6 (L.getD 4 0)) (zah 11 (L.getD 4 0))) (zah 25 (L.getD 4 0))) + zbD (zcI (L.getD 4 0) (L.getD 5 0)) (zcI (4294967295 - L.getD 4 0) (L.getD 6 0))) + k) + w)
  let u := zbL (zbD (zbD (zah 2 (L.getD 0 0)) (zah 13 (L.getD 0 0))) (zah 22 (L.getD 0 0)) + zbD (zbD (zcI (L.getD 0 0) (L.getD 1 0)) (zcI (L.getD 0 0) (L.getD 2 0))) (zcI (L.getD 1 0) (L.getD 2 0)))
  [zbL (t + u), L.getD 0 0, L.getD 1 0, L.getD 2 0, zbL (L.getD 3 0 + t), L.getD 4 0, L.getD 5 0, L.getD 6 0]
def okL (L : List Int) : Prop := ∀ i, za5 (L.getD i 0)
theorem zfy : okL [] := fun i => by simp [za5]
theorem zaX {x : Int} {L : List Int} (hx : za5 x) (hL : okL L) : okL (x :: L) := fun i => by
  rcases i with _ | i
  · exact hx
  · exact hL i
theorem zfZ {x : Int} {L : List Int} (hL : okL L) (hx : za5 x) : okL (L ++ [x]) := fun i => by
  rw [List.getD_eq_getElem?_getD]
  rcases Nat.lt_trichotomy i L.length with h | h | h
  · rw [List.getElem?_append_left h, ← List.getD_eq_getElem?_getD]; exact hL i
  · subst h; simp; exact hx
  · rw [List.getElem?_eq_none (by rw [List.length_append]; simp; omega)]; simp [za5]
theorem zg5 {L : List Int} (h : okL L) (k w : Int) : okL (zdT L k w) :=
  zaX (zep _) (zaX (h 0) (zaX (h 1) (zaX (h 2) (zaX (zep _) (zaX (h 4) (zaX (h 5) (zaX (h 6) zfy)))))))
def zeT (b : ByteArray) (i : Nat) : Int := bt b ((4 * i : Nat) : Int) * 16777216 + bt b ((4 * i + 1 : Nat) : Int) * 65536 + bt b ((4 * i + 2 : Nat) : Int) * 256 + bt b ((4 * i + 3 : Nat) : Int)
theorem zhS (b : ByteArray) (i : Nat) : za5 (zeT b i) := by
  have h0 := zbe b ((4 * i : Nat) : Int)
  have h1 := zbe b ((4 * i + 1 : Nat) : Int)
  have h2 := zbe b ((4 * i + 2 : Nat) : Int)
  have h3 := zbe b ((4 * i + 3 : Nat) : Int)
  unfold za5 zeT; omega
def zbY (b : ByteArray) : Nat → List Int
  | 0 => []
  | n + 1 => zbY b n ++ [zeT b n]
theorem zbB (b : ByteArray) : ∀ n, (zbY b n).length = n
  | 0 => rfl
  | n + 1 => by rw [zbY, List.length_append, zbB b n]; rfl
theorem zfU (b : ByteArray) : ∀ n, okL (zbY b n)
  | 0 => zfy
  | n + 1 => zfZ (zfU b n) (zhS b n)
def zcH (W : List Int) (i : Nat) : Int :=
  zbL (zbL (zbL (W.getD (i - 16) 0 + zbD (zbD (zah 7 (W.getD (i - 15) 0)) (zah 18 (W.getD (i - 15) 0))) (W.getD (i - 15) 0 / 8)) + W.getD (i - 7) 0) + zbD (zbD (zah 17 (W.getD (i - 2) 0)) (zah 19 (W.getD (i - 2) 0))) (W.getD (i - 2) 0 / 1024))
def zI (b : ByteArray) : Nat → List Int
  | 0 => zbY b 16
  | n + 1 => zI b n ++ [zcH (zI b n) (16 + n)]
theorem zaJ (b : ByteArray) : ∀ n, (zI b n).length = 16 + n
  | 0 => zbB b 16
  | n + 1 => by rw [zI, List.length_append, zaJ b n]; rfl
theorem zdU (b : ByteArray) : ∀ n, okL (zI b n)
  | 0 => zfU b 16
  | n + 1 => zfZ (zdU b n) (zep _)
def zaI (S K W : List Int) : Nat → List Int
  | 0 => S
  | n + 1 => zdT (zaI S K W n) (K.getD n 0) (W.getD n 0)
theorem zcG {S : List Int} (h : okL S) (K W : List Int) : ∀ n, okL (zaI S K W n)
  | 0 => h
  | n + 1 => zg5 (zcG h K W n) _ _
theorem zc0 {S : List Int} (h : S.length = 8) (K W : List Int) : ∀ n, (zaI S K W n).length = 8
  | 0 => h
  | _ + 1 => rfl
def zb4 (S H : List Int) (k : Nat) : List Int := (List.range 8).map fun j => if j < k then zbL (S.getD j 0 + H.getD j 0) else S.getD j 0
theorem zbS (S H : List Int) (k : Nat) : (zb4 S H k).length = 8 := by simp [zb4]
theorem zb9 (S H : List Int) (k j : Nat) (hj : j < 8) : (zb4 S H k).getD j 0 = if j < k then zbL (S.getD j 0 + H.getD j 0) else S.getD j 0 := by
  rw [zb4, List.getD_eq_getElem?_getD, List.getElem?_map, List.getElem?_range hj]; rfl
theorem zeB {A B : List Int} (ha : A.length = 8) (hb : B.length = 8) (h : ∀ j, j < 8 → A.getD j 0 = B.getD j 0) : A = B := by
  apply List.ext_getElem (by rw [ha, hb])
  intro i h1 h2
  have := h i (by omega)
  rwa [List.getD_eq_getElem?_getD, List.getD_eq_getElem?_getD, List.getElem?_eq_getElem h1, List.getElem?_eq_getElem h2] at this
theorem zgH {S : List Int} (h : S.length = 8) (H : List Int) : zb4 S H 0 = S :=
  zeB (zbS _ _ _) h (fun j hj => by rw [zb9 _ _ _ _ hj, if_neg (by omega)])
theorem zhn (L : List Int) (k j : Nat) (v : Int) (hk : k < L.length) : (L.set k v).getD j 0 = if j = k then v else L.getD j 0 := by
  rw [List.getD_eq_getElem?_getD, List.getElem?_set]
  by_cases h : k = j
  · subst h; rw [if_pos rfl, if_pos hk, if_pos rfl]; rfl
  · rw [if_neg h, if_neg (Ne.symm h), ← List.getD_eq_getElem?_getD]
theorem zgG (S H : List Int) (k : Nat) (hk : k < 8) : (zb4 S H k).set k (zbL (S.getD k 0 + H.getD k 0)) = zb4 S H (k + 1) := by
  refine zeB (by rw [List.length_set, zbS]) (zbS _ _ _) (fun j hj => ?_)
  rw [zhn _ _ _ _ (by rw [zbS]; exact hk), zb9 _ _ _ _ hj, zb9 _ _ _ _ hj]
  by_cases h : j = k
  · subst h; rw [if_pos rfl, if_pos (by omega)]
  · rw [if_neg h]
    by_cases h2 : j < k
    · rw [if_pos h2, if_pos (by omega)]
    · rw [if_neg h2, if_neg (by omega)]
def zdr (S K : List Int) (b : ByteArray) : List Int := zb4 (zaI S K (zI b 48) 64) S 8
theorem zcv (S K : List Int) (b : ByteArray) : (zdr S K b).length = 8 := zbS _ _ _
theorem zh7 (S K : List Int) (b : ByteArray) : okL (zdr S K b) := fun i => by
  rcases Nat.lt_or_ge i 8 with h | h
  · rw [zdr, zb9 _ _ _ _ h, if_pos h]; exact zep _
  · rw [List.getD_eq_getElem?_getD, List.getElem?_eq_none (by rw [zcv]; exact h)]; simp [za5]
def kL : List Int := [1116352408, 1899447441, 3049323471, 3921009573, 961987163, 1508970993, 2453635748, 2870763221, 3624381080, 310598401, 607225278, 1426881987, 1925078388, 2162078206, 2614888103, 3248222580, 3835390401, 4022224774, 264347078, 604807628, 770255983, 1249150122, 1555081692, 1996064986, 2554220882, 2821834349, 2952996808, 3210313671, 3336571891, 3584528711, 113926993, 338241895, 666307205, 773529912, 1294757372, 1396182291, 1695183700, 1986661051, 2177026350, 2456956037, 2730485921, 2820302411, 3259730800, 3345764771, 3516065817, 3600352804, 4094571909, 275423344, 430227734, 506948616, 659060556, 883997877, 958139571, 1322822218, 1537002063, 1747873779, 1955562222, 2024104815, 2227730452, 2361852424, 2428436474, 2756734187, 3204031479, 3329325298]
def hL : List Int := [1779033703, 3144134277, 1013904242, 2773480762, 1359893119, 2600822924, 528734635, 1541459225]
theorem hL_ok : okL hL := by
  refine zaX ?_ (zaX ?_ (zaX ?_ (zaX ?_ (zaX ?_ (zaX ?_ (zaX ?_ (zaX ?_ zfy))))))) <;> (constructor <;> decide)
def zdn (n : Nat) : Bs := [UInt8.ofNat (n / 72057594037927936 % 256), UInt8.ofNat (n / 281474976710656 % 256), UInt8.ofNat (n / 1099511627776 % 256), UInt8.ofNat (n / 4294967296 % 256), UInt8.ofNat (n / 16777216 % 256), UInt8.ofNat (n / 65536 % 256), UInt8.ofNat (n / 256 % 256), UInt8.ofNat (n % 256)]
def zbK (n : Nat) : Nat := (119 - n % 64) % 64
def zcY (s : Bs) : Bs := s ++ 128 :: (List.replicate (zbK s.length) 0 ++ zdn (s.length * 8))
theorem zf2 (s : Bs) : ∃ m, (zcY s).length = 64 * m := by
  refine ⟨(s.length + 9 + zbK s.length) / 64, ?_⟩
  have : (zcY s).length = s.length + 9 + zbK s.length := by simp [zcY, zdn]; omega
  rw [this]; unfold zbK; omega
def zaF (p : ByteArray) : Nat → List Int
  | 0 => hL
  | i + 1 => zdr (zaF p i) kL (p.extract (64 * i) (64 * i + 64))
theorem za3 (p : ByteArray) : ∀ i, (zaF p i).length = 8
  | 0 => rfl
  | _ + 1 => zcv _ _ _
theorem zcB (p : ByteArray) : ∀ i, okL (zaF p i)
  | 0 => hL_ok
  | _ + 1 => zh7 _ _ _
def zb1 (x : Int) : Bs := [UInt8.ofNat (x.toNat / 16777216 % 256), UInt8.ofNat (x.toNat / 65536 % 256), UInt8.ofNat (x.toNat / 256 % 256), UInt8.ofNat (x.toNat % 256)]
def zeQ (s : ByteArray) : ByteArray := toB ((zaF (toB (zcY (ofB s))) ((zcY (ofB s)).length / 64)).flatMap zb1)
theorem zdA (l : List Int) : (l.flatMap zb1).length = 4 * l.length := by
  induction l with
  | nil => rfl
  | cons x l ih => rw [List.flatMap_cons, List.length_append, ih, List.length_cons]; show 4 + _ = _; omega
theorem zg7 (s : ByteArray) : (zeQ s).size = 32 := by
  rw [zeQ, zar, zdA, za3]
def zJ (L : List Int) : Array Value := (L.map (Value.int .u32)).toArray
theorem zaG (L : List Int) : (zJ L).size = L.length := by simp [zJ]
theorem zS (L : List Int) (i : Nat) (h : i < L.length) : (zJ L)[i]? = some (.int .u32 (L.getD i 0)) := by
  rw [zJ, List.getElem?_toArray, List.getElem?_map, List.getElem?_eq_getElem h, List.getD_eq_getElem?_getD, List.getElem?_eq_getElem h]; rfl
theorem zd0 (L : List Int) (i : Nat) (v : Int) : (zJ L).setIfInBounds i (.int .u32 v) = zJ (L.set i v) := by
  simp [zJ, List.map_set]
theorem zdZ (L : List Int) (h : L.length = 8) : zJ L = #[.int .u32 (L.getD 0 0), .int .u32 (L.getD 1 0), .int .u32 (L.getD 2 0), .int .u32 (L.getD 3 0), .int .u32 (L.getD 4 0), .int .u32 (L.getD 5 0), .int .u32 (L.getD 6 0), .int .u32 (L.getD 7 0)] := by
  obtain ⟨a, b, c, d, e, f, g, k, rfl⟩ : ∃ a b c d e f g k, L = [a, b, c, d, e, f, g, k] := by
    match L, h with
    | [a, b, c, d, e, f, g, k], _ => exact ⟨a, b, c, d, e, f, g, k, rfl⟩
  rfl
def zbg (W : List Int) : List Int := W ++ List.replicate (64 - W.length) 0
theorem zcD {W : List Int} (h : W.length ≤ 64) : (zbg W).length = 64 := by simp [zbg]; omega
theorem zez {W : List Int} (i : Nat) (h : i < W.length) : (zbg W).getD i 0 = W.getD i 0 := by
  rw [zbg, List.getD_eq_getElem?_getD, List.getElem?_append_left h, ← List.getD_eq_getElem?_getD]
theorem zgj {W : List Int} (h : W.length < 64) (v : Int) : (zbg W).set W.length v = zbg (W ++ [v]) := by
  rw [zbg, zbg, List.set_append_right _ _ (Nat.le_refl _), Nat.sub_self, List.length_append]
  obtain ⟨m, hm⟩ : ∃ m, 64 - W.length = m + 1 := ⟨63 - W.length, by omega⟩
  rw [hm, List.replicate_succ, List.set_cons_zero, show 64 - (W.length + [v].length) = m by simp; omega]
  simp
end Go.Proofs.Ytlabjgcoopdbiaa.Px
