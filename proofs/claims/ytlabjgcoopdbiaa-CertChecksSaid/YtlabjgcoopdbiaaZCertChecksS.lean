/- Part 19 of 32 of the proof of the law CertChecks: what is proved is the statement at the end of the last part; its conditions are those of the given row. -/
import Derived.Test.YtlabjgcoopdbiaaZCertChecksM
import Derived.Test.YtlabjgcoopdbiaaZCertChecksR
namespace Go.Proofs.Ytlabjgcoopdbiaa.Px
open Go.RowKit Go.Proofs.YtlabjgcoopdbiaaW.PrintWords Go.Proofs.YtlabjgcoopdbiaaW.PrintLast Go.Proofs.YtlabjgcoopdbiaaW.PrintMore
attribute [local go_sem] zC zE zK zL zw zx zD zF
set_option linter.unusedVariables false
set_option linter.unusedSimpArgs false
def zaP.f (k : Nat) (a0_0 : Int) (a0_1 : Int) (l0_2 : List (S68)) (l0_3 : List ByteArray) (a0_4 : Int) (a0_5 : Int) (a0_6 : Int) (a1 : Int) : Option (Int) := (zm.f k a0_0 a0_1 l0_2 l0_3 a0_4 a0_5 a1).bind fun t286 => (if t286 = true then ((zat.f k a0_6 a1).bind fun t287 => (if t287 = true then ((zar.f k a0_6).bind fun t288 => ((zV.f a1).bind fun t289 => (if t288 < t289 then (some 2) else (some 0)))) else (some 4))) else (some 1))
set_option maxHeartbeats 8000000 in
set_option maxRecDepth 100000 in
theorem zaP.calls (k : Nat) (a0_0 : Int) (a0_1 : Int) (A0_2 : Option Addr) (c0_2 : Nat) (l0_2 : List (S68)) (A0_3 : Option Addr) (c0_3 : Nat) (l0_3 : List ByteArray) (a0_4 : Int) (a0_5 : Int) (a0_6 : Int) (a1 : Int) (r : Int) (w : World) (hr0_2 : Kd.C k68 w A0_2 l0_2.length l0_2) (hc0_2 : l0_2.length ≤ c0_2) (hr0_3 : Kd.C Kd.string w A0_3 l0_3.length l0_3) (hc0_3 : l0_3.length ≤ c0_3) (h : zaP.f k a0_0 a0_1 l0_2 l0_3 a0_4 a0_5 a0_6 a1 = some r) :
    Calls Try.prog 36 #[.agg #[.int .i64 a0_0, .int .i64 a0_1, .slice A0_2 l0_2.length c0_2, .slice A0_3 l0_3.length c0_3, .int .i64 a0_4, .int .i64 a0_5, .int .u64 a0_6], .int .i64 a1] w fun e w' => e = .returned (.int .i64 r) ∧ Below w.heap.size w w' := by
  have hu34 := Try.underlying34
  have hu31 := Try.underlying31
  have HR0_2 := zc.mk hr0_2
  have HC0_2 := zc.mk hc0_2
  clear hr0_2 hc0_2
  have HR0_3 := zc.mk hr0_3
  have HC0_3 := zc.mk hc0_3
  clear hr0_3 hc0_3
  have HB := zc.mk (Below.refl w.heap.size w)
  have H : ((zm.f k a0_0 a0_1 l0_2 l0_3 a0_4 a0_5 a1).bind fun t286 => (if t286 = true then ((zat.f k a0_6 a1).bind fun t287 => (if t287 = true then ((zar.f k a0_6).bind fun t288 => ((zV.f a1).bind fun t289 => (if t288 < t289 then (some 2) else (some 0)))) else (some 4))) else (some 1))) = some r := h
  clear h
  replace H := Option.bind_eq_some_iff.mp H
  obtain ⟨t286, A30, H⟩ := H
  replace H : (if t286 = true then ((zat.f k a0_6 a1).bind fun t287 => (if t287 = true then ((zar.f k a0_6).bind fun t288 => ((zV.f a1).bind fun t289 => (if t288 < t289 then (some 2) else (some 0)))) else (some 4))) else (some 1)) = some r := H
  have A3 := zc.mk A30
  clear A30
  by_cases c4 : t286 = true
  · subst c4
    have H1 : ((zat.f k a0_6 a1).bind fun t287 => (if t287 = true then ((zar.f k a0_6).bind fun t288 => ((zV.f a1).bind fun t289 => (if t288 < t289 then (some 2) else (some 0)))) else (some 4))) = some r := by rw [if_pos rfl] at H; exact H
    clear H
    have H := H1
    clear H1
    replace H := Option.bind_eq_some_iff.mp H
    obtain ⟨t287, A50, H⟩ := H
    replace H : (if t287 = true then ((zar.f k a0_6).bind fun t288 => ((zV.f a1).bind fun t289 => (if t288 < t289 then (some 2) else (some 0)))) else (some 4)) = some r := H
    have A5 := zc.mk A50
    clear A50
    by_cases c6 : t287 = true
    · subst c6
      have H1 : ((zar.f k a0_6).bind fun t288 => ((zV.f a1).bind fun t289 => (if t288 < t289 then (some 2) else (some 0)))) = some r := by rw [if_pos rfl] at H; exact H
      clear H
      have H := H1
      clear H1
      replace H := Option.bind_eq_some_iff.mp H
      obtain ⟨t288, A70, H⟩ := H
      replace H : ((zV.f a1).bind fun t289 => (if t288 < t289 then (some 2) else (some 0))) = some r := H
      have A7 := zc.mk A70
      clear A70
      replace H := Option.bind_eq_some_iff.mp H
      obtain ⟨t289, A80, H⟩ := H
      replace H : (if t288 < t289 then (some 2) else (some 0)) = some r := H
      have A8 := zc.mk A80
      clear A80
      by_cases c9 : t288 < t289
      · rw [if_pos c9] at H
        have c9b0 : decide (t288 < t289) = true := decide_eq_true c9
        clear c9
        obtain rfl := Option.some.inj H
        go_enter Try.func36, Try.ntmps36
        go_wp2_with (first | ((with_reducible refine zA (N := 2) rfl ?_); refine zt ?hg (N := 2) ?hd (cs := #[.int .i64 a0_0, .int .i64 a0_1, .slice A0_2 l0_2.length c0_2, .slice A0_3 l0_3.length c0_3, .int .i64 a0_4, .int .i64 a0_5, .int .u64 a0_6]) (t := 34) ?hr ?_; (case hd => rfl); (case hg => rfl); (case hr => first | (go_simp; done) | (go_simp; rfl)); intro gb285 hg w10 hbox hb; have n0_ := zc.mk (zh (by repeat (first | (with_reducible first | exact HB.out | apply zf | apply zd | apply ze) | exact HB.out)) hb); have n1_ := zc.mk (hbox); have n2_ := zc.mk ((by rw [hg]; exact (zp (by repeat (first | (with_reducible first | exact HB.out | apply zf | apply zd | apply ze) | exact HB.out))) : w.heap.size ≤ gb285)); have n3_ := zc.mk ((by rw [hg]; exact (zp (by repeat (first | (with_reducible first | exact HB.out | apply zf | apply zd | apply ze) | exact HB.out))) : w.heap.size ≤ gb285)); clear HB; have HB := n0_; have BK285 := n1_; have GW285 := n2_; have GE285 := n3_; clear n0_ n1_ n2_ n3_; clear hb hbox hg; have hcz11_0 : w10.cell? ⟨gb285, 0, none⟩ = some (.int .i64 a0_0) := (zb BK285.out 0).trans rfl; have hcz11_1 : w10.cell? ⟨gb285, 1, none⟩ = some (.int .i64 a0_1) := (zb BK285.out 1).trans rfl; have hcz11_2 : w10.cell? ⟨gb285, 2, none⟩ = some (.slice A0_2 l0_2.length c0_2) := (zb BK285.out 2).trans rfl; have hcz11_3 : w10.cell? ⟨gb285, 3, none⟩ = some (.slice A0_3 l0_3.length c0_3) := (zb BK285.out 3).trans rfl; have hcz11_4 : w10.cell? ⟨gb285, 4, none⟩ = some (.int .i64 a0_4) := (zb BK285.out 4).trans rfl; have hcz11_5 : w10.cell? ⟨gb285, 5, none⟩ = some (.int .i64 a0_5) := (zb BK285.out 5).trans rfl; have hcz11_6 : w10.cell? ⟨gb285, 6, none⟩ = some (.int .u64 a0_6) := (zb BK285.out 6).trans rfl; have hfz11_0 := za BK285.out 0; have hfz11_1 := za BK285.out 1; have hfz11_2 := za BK285.out 2; have hfz11_3 := za BK285.out 3; have hfz11_4 := za BK285.out 4; have hfz11_5 := za BK285.out 5; have hfz11_6 := za BK285.out 6) | ((with_reducible refine zr (f := 45) rfl ?_); refine zR (some 10) rfl rfl Try.func45 (by kernel_rfl) rfl #[.agg #[.int .i64 a0_0, .int .i64 a0_1, .slice A0_2 l0_2.length c0_2, .slice A0_3 l0_3.length c0_3, .int .i64 a0_4, .int .i64 a0_5], .int .i64 a1] rfl (by (try simp only [List.map_toArray, List.map_cons, List.map_nil]); first | done | rfl | (simp only [List.length_drop, List.length_take]; rfl)) ?_; (with_reducible refine (zm.calls k a0_0 a0_1 _ _ l0_2 _ _ l0_3 a0_4 a0_5 a1 true _ ?side1 ?side2 ?side3 ?side4 A3.out).mono ?_); (case side1 => repeat (first | exact (Kd.C_below HR0_2.out HB.out) | (with_reducible refine Kd.C_alloc ?_ _) | (with_reducible refine Kd.C_drewN ?_ _) | (with_reducible refine Kd.C_drew ?_))); (case side2 => exact HC0_2.out); (case side3 => repeat (first | exact (Kd.C_below HR0_3.out HB.out) | (with_reducible refine Kd.C_alloc ?_ _) | (with_reducible refine Kd.C_drewN ?_ _) | (with_reducible refine Kd.C_drew ?_))); (case side4 => exact HC0_3.out); rintro e w12 ⟨rfl, hb⟩; refine ⟨_, rfl, ?_⟩; have n0_ := zc.mk (zl (g := gb285) (o := .cells #[.int .i64 a0_0, .int .i64 a0_1, .slice A0_2 l0_2.length c0_2, .slice A0_3 l0_3.length c0_3, .int .i64 a0_4, .int .i64 a0_5, .int .u64 a0_6] 34 (0, 0)) (by (with_reducible repeat (first | refine zi ?_ _ | refine zk ?_ | refine zj ?_ _)); exact BK285.out) hb); have n1_ := zc.mk (zh (by repeat (first | (with_reducible first | exact HB.out | apply zf | apply zd | apply ze | refine zg ?_ GE285.out) | exact HB.out)) hb); clear BK285; clear HB; have BK285 := n0_; have HB := n1_; clear n0_ n1_; (try clear hb); (try clear hb2); (try clear hk); (try clear hi); have hcz13_0 : w12.cell? ⟨gb285, 0, none⟩ = some (.int .i64 a0_0) := (zb BK285.out 0).trans rfl; have hcz13_1 : w12.cell? ⟨gb285, 1, none⟩ = some (.int .i64 a0_1) := (zb BK285.out 1).trans rfl; have hcz13_2 : w12.cell? ⟨gb285, 2, none⟩ = some (.slice A0_2 l0_2.length c0_2) := (zb BK285.out 2).trans rfl; have hcz13_3 : w12.cell? ⟨gb285, 3, none⟩ = some (.slice A0_3 l0_3.length c0_3) := (zb BK285.out 3).trans rfl; have hcz13_4 : w12.cell? ⟨gb285, 4, none⟩ = some (.int .i64 a0_4) := (zb BK285.out 4).trans rfl; have hcz13_5 : w12.cell? ⟨gb285, 5, none⟩ = some (.int .i64 a0_5) := (zb BK285.out 5).trans rfl; have hcz13_6 : w12.cell? ⟨gb285, 6, none⟩ = some (.int .u64 a0_6) := (zb BK285.out 6).trans rfl; have hfz13_0 := za BK285.out 0; have hfz13_1 := za BK285.out 1; have hfz13_2 := za BK285.out 2; have hfz13_3 := za BK285.out 3; have hfz13_4 := za BK285.out 4; have hfz13_5 := za BK285.out 5; have hfz13_6 := za BK285.out 6) | ((with_reducible refine zr (f := 56) rfl ?_); refine zR (some 16) rfl rfl Try.func56 (by kernel_rfl) rfl #[.int .u64 a0_6, .int .i64 a1] rfl (by (try simp only [List.map_toArray, List.map_cons, List.map_nil]); first | done | rfl | (simp only [List.length_drop, List.length_take]; rfl)) ?_; (with_reducible refine (zat.calls k a0_6 a1 true _ A5.out).mono ?_); rintro e w14 ⟨rfl, hb⟩; refine ⟨_, rfl, ?_⟩; have n0_ := zc.mk (zl (g := gb285) (o := .cells #[.int .i64 a0_0, .int .i64 a0_1, .slice A0_2 l0_2.length c0_2, .slice A0_3 l0_3.length c0_3, .int .i64 a0_4, .int .i64 a0_5, .int .u64 a0_6] 34 (0, 0)) (by (with_reducible repeat (first | refine zi ?_ _ | refine zk ?_ | refine zj ?_ _)); exact BK285.out) hb); have n1_ := zc.mk (zh (by repeat (first | (with_reducible first | exact HB.out | apply zf | apply zd | apply ze | refine zg ?_ GE285.out) | exact HB.out)) hb); clear BK285; clear HB; have BK285 := n0_; have HB := n1_; clear n0_ n1_; (try clear hb); (try clear hb2); (try clear hk); (try clear hi); have hcz15_0 : w14.cell? ⟨gb285, 0, none⟩ = some (.int .i64 a0_0) := (zb BK285.out 0).trans rfl; have hcz15_1 : w14.cell? ⟨gb285, 1, none⟩ = some (.int .i64 a0_1) := (zb BK285.out 1).trans rfl; have hcz15_2 : w14.cell? ⟨gb285, 2, none⟩ = some (.slice A0_2 l0_2.length c0_2) := (zb BK285.out 2).trans rfl; have hcz15_3 : w14.cell? ⟨gb285, 3, none⟩ = some (.slice A0_3 l0_3.length c0_3) := (zb BK285.out 3).trans rfl; have hcz15_4 : w14.cell? ⟨gb285, 4, none⟩ = some (.int .i64 a0_4) := (zb BK285.out 4).trans rfl; have hcz15_5 : w14.cell? ⟨gb285, 5, none⟩ = some (.int .i64 a0_5) := (zb BK285.out 5).trans rfl; have hcz15_6 : w14.cell? ⟨gb285, 6, none⟩ = some (.int .u64 a0_6) := (zb BK285.out 6).trans rfl; have hfz15_0 := za BK285.out 0; have hfz15_1 := za BK285.out 1; have hfz15_2 := za BK285.out 2; have hfz15_3 := za BK285.out 3; have hfz15_4 := za BK285.out 4; have hfz15_5 := za BK285.out 5; have hfz15_6 := za BK285.out 6) | ((with_reducible refine zr (f := 14) rfl ?_); refine zR (some 21) rfl rfl Try.func14 (by kernel_rfl) rfl #[.int .u64 a0_6] rfl (by (try simp only [List.map_toArray, List.map_cons, List.map_nil]); first | done | rfl | (simp only [List.length_drop, List.length_take]; rfl)) ?_; (with_reducible refine (zar.calls k a0_6 t288 _ A7.out).mono ?_); rintro e w16 ⟨rfl, hb⟩; refine ⟨_, rfl, ?_⟩; have n0_ := zc.mk (zl (g := gb285) (o := .cells #[.int .i64 a0_0, .int .i64 a0_1, .slice A0_2 l0_2.length c0_2, .slice A0_3 l0_3.length c0_3, .int .i64 a0_4, .int .i64 a0_5, .int .u64 a0_6] 34 (0, 0)) (by (with_reducible repeat (first | refine zi ?_ _ | refine zk ?_ | refine zj ?_ _)); exact BK285.out) hb); have n1_ := zc.mk (zh (by repeat (first | (with_reducible first | exact HB.out | apply zf | apply zd | apply ze | refine zg ?_ GE285.out) | exact HB.out)) hb); clear BK285; clear HB; have BK285 := n0_; have HB := n1_; clear n0_ n1_; (try clear hb); (try clear hb2); (try clear hk); (try clear hi)) | ((with_reducible refine zr (f := 13) rfl ?_); refine zR (some 23) rfl rfl Try.func13 (by kernel_rfl) rfl #[.int .i64 a1] rfl (by (try simp only [List.map_toArray, List.map_cons, List.map_nil]); first | done | rfl | (simp only [List.length_drop, List.length_take]; rfl)) ?_; (with_reducible refine (zV.calls a1 t289 _ A8.out).mono ?_); rintro e w' ⟨rfl, ⟨nd, rfl⟩⟩; refine ⟨_, rfl, ?_⟩))
        go_ret
        exact ⟨by first | rfl | (simp [zn, zo] <;> rfl) | (simp [*, zn, zo] <;> rfl), by repeat (first | (with_reducible first | exact HB.out | apply zf | apply zd | apply ze | refine zg ?_ GE285.out) | exact HB.out)⟩
      · rw [if_neg c9] at H
        have c9b0 : decide (t288 < t289) = false := decide_eq_false c9
        clear c9
        obtain rfl := Option.some.inj H
        go_enter Try.func36, Try.ntmps36
        go_wp2_with (first | ((with_reducible refine zA (N := 2) rfl ?_); refine zt ?hg (N := 2) ?hd (cs := #[.int .i64 a0_0, .int .i64 a0_1, .slice A0_2 l0_2.length c0_2, .slice A0_3 l0_3.length c0_3, .int .i64 a0_4, .int .i64 a0_5, .int .u64 a0_6]) (t := 34) ?hr ?_; (case hd => rfl); (case hg => rfl); (case hr => first | (go_simp; done) | (go_simp; rfl)); intro gb285 hg w17 hbox hb; have n0_ := zc.mk (zh (by repeat (first | (with_reducible first | exact HB.out | apply zf | apply zd | apply ze) | exact HB.out)) hb); have n1_ := zc.mk (hbox); have n2_ := zc.mk ((by rw [hg]; exact (zp (by repeat (first | (with_reducible first | exact HB.out | apply zf | apply zd | apply ze) | exact HB.out))) : w.heap.size ≤ gb285)); have n3_ := zc.mk ((by rw [hg]; exact (zp (by repeat (first | (with_reducible first | exact HB.out | apply zf | apply zd | apply ze) | exact HB.out))) : w.heap.size ≤ gb285)); clear HB; have HB := n0_; have BK285 := n1_; have GW285 := n2_; have GE285 := n3_; clear n0_ n1_ n2_ n3_; clear hb hbox hg; have hcz18_0 : w17.cell? ⟨gb285, 0, none⟩ = some (.int .i64 a0_0) := (zb BK285.out 0).trans rfl; have hcz18_1 : w17.cell? ⟨gb285, 1, none⟩ = some (.int .i64 a0_1) := (zb BK285.out 1).trans rfl; have hcz18_2 : w17.cell? ⟨gb285, 2, none⟩ = some (.slice A0_2 l0_2.length c0_2) := (zb BK285.out 2).trans rfl; have hcz18_3 : w17.cell? ⟨gb285, 3, none⟩ = some (.slice A0_3 l0_3.length c0_3) := (zb BK285.out 3).trans rfl; have hcz18_4 : w17.cell? ⟨gb285, 4, none⟩ = some (.int .i64 a0_4) := (zb BK285.out 4).trans rfl; have hcz18_5 : w17.cell? ⟨gb285, 5, none⟩ = some (.int .i64 a0_5) := (zb BK285.out 5).trans rfl; have hcz18_6 : w17.cell? ⟨gb285, 6, none⟩ = some (.int .u64 a0_6) := (zb BK285.out 6).trans rfl; have hfz18_0 := za BK285.out 0; have hfz18_1 := za BK285.out 1; have hfz18_2 := za BK285.out 2; have hfz18_3 := za BK285.out 3; have hfz18_4 := za BK285.out 4; have hfz18_5 := za BK285.out 5; have hfz18_6 := za BK285.out 6) | ((with_reducible refine zr (f := 45) rfl ?_); refine zR (some 10) rfl rfl Try.func45 (by kernel_rfl) rfl #[.agg #[.int .i64 a0_0, .int .i64 a0_1, .slice A0_2 l0_2.length c0_2, .slice A0_3 l0_3.length c0_3, .int .i64 a0_4, .int .i64 a0_5], .int .i64 a1] rfl (by (try simp only [List.map_toArray, List.map_cons, List.map_nil]); first | done | rfl | (simp only [List.length_drop, List.length_take]; rfl)) ?_; (with_reducible refine (zm.calls k a0_0 a0_1 _ _ l0_2 _ _ l0_3 a0_4 a0_5 a1 true _ ?side1 ?side2 ?side3 ?side4 A3.out).mono ?_); (case side1 => repeat (first | exact (Kd.C_below HR0_2.out HB.out) | (with_reducible refine Kd.C_alloc ?_ _) | (with_reducible refine Kd.C_drewN ?_ _) | (with_reducible refine Kd.C_drew ?_))); (case side2 => exact HC0_2.out); (case side3 => repeat (first | exact (Kd.C_below HR0_3.out HB.out) | (with_reducible refine Kd.C_alloc ?_ _) | (with_reducible refine Kd.C_drewN ?_ _) | (with_reducible refine Kd.C_drew ?_))); (case side4 => exact HC0_3.out); rintro e w19 ⟨rfl, hb⟩; refine ⟨_, rfl, ?_⟩; have n0_ := zc.mk (zl (g := gb285) (o := .cells #[.int .i64 a0_0, .int .i64 a0_1, .slice A0_2 l0_2.length c0_2, .slice A0_3 l0_3.length c0_3, .int .i64 a0_4, .int .i64 a0_5, .int .u64 a0_6] 34 (0, 0)) (by (with_reducible repeat (first | refine zi ?_ _ | refine zk ?_ | refine zj ?_ _)); exact BK285.out) hb); have n1_ := zc.mk (zh (by repeat (first | (with_reducible first | exact HB.out | apply zf | apply zd | apply ze | refine zg ?_ GE285.out) | exact HB.out)) hb); clear BK285; clear HB; have BK285 := n0_; have HB := n1_; clear n0_ n1_; (try clear hb); (try clear hb2); (try clear hk); (try clear hi); have hcz20_0 : w19.cell? ⟨gb285, 0, none⟩ = some (.int .i64 a0_0) := (zb BK285.out 0).trans rfl; have hcz20_1 : w19.cell? ⟨gb285, 1, none⟩ = some (.int .i64 a0_1) := (zb BK285.out 1).trans rfl; have hcz20_2 : w19.cell? ⟨gb285, 2, none⟩ = some (.slice A0_2 l0_2.length c0_2) := (zb BK285.out 2).trans rfl; have hcz20_3 : w19.cell? ⟨gb285, 3, none⟩ = some (.slice A0_3 l0_3.length c0_3) := (zb BK285.out 3).trans rfl; have hcz20_4 : w19.cell? ⟨gb285, 4, none⟩ = some (.int .i64 a0_4) := (zb BK285.out 4).trans rfl; have hcz20_5 : w19.cell? ⟨gb285, 5, none⟩ = some (.int .i64 a0_5) := (zb BK285.out 5).trans rfl; have hcz20_6 : w19.cell? ⟨gb285, 6, none⟩ = some (.int .u64 a0_6) := (zb BK285.out 6).trans rfl; have hfz20_0 := za BK285.out 0; have hfz20_1 := za BK285.out 1; have hfz20_2 := za BK285.out 2; have hfz20_3 := za BK285.out 3; have hfz20_4 := za BK285.out 4; have hfz20_5 := za BK285.out 5; have hfz20_6 := za BK285.out 6) | ((with_reducible refine zr (f := 56) rfl ?_); refine zR (some 16) rfl rfl Try.func56 (by kernel_rfl) rfl #[.int .u64 a0_6, .int .i64 a1] rfl (by (try simp only [List.map_toArray, List.map_cons, List.map_nil]); first | done | rfl | (simp only [List.length_drop, List.length_take]; rfl)) ?_; (with_reducible refine (zat.calls k a0_6 a1 true _ A5.out).mono ?_); rintro e w21 ⟨rfl, hb⟩; refine ⟨_, rfl, ?_⟩; have n0_ := zc.mk (zl (g := gb285) (o := .cells #[.int .i64 a0_0, .int .i64 a0_1, .slice A0_2 l0_2.length c0_2, .slice A0_3 l0_3.length c0_3, .int .i64 a0_4, .int .i64 a0_5, .int .u64 a0_6] 34 (0, 0)) (by (with_reducible repeat (first | refine zi ?_ _ | refine zk ?_ | refine zj ?_ _)); exact BK285.out) hb); have n1_ := zc.mk (zh (by repeat (first | (with_reducible first | exact HB.out | apply zf | apply zd | apply ze | refine zg ?_ GE285.out) | exact HB.out)) hb); clear BK285; clear HB; have BK285 := n0_; have HB := n1_; clear n0_ n1_; (try clear hb); (try clear hb2); (try clear hk); (try clear hi); have hcz22_0 : w21.cell? ⟨gb285, 0, none⟩ = some (.int .i64 a0_0) := (zb BK285.out 0).trans rfl; have hcz22_1 : w21.cell? ⟨gb285, 1, none⟩ = some (.int .i64 a0_1) := (zb BK285.out 1).trans rfl; have hcz22_2 : w21.cell? ⟨gb285, 2, none⟩ = some (.slice A0_2 l0_2.length c0_2) := (zb BK285.out 2).trans rfl; have hcz22_3 : w21.cell? ⟨gb285, 3, none⟩ = some (.slice A0_3 l0_3.length c0_3) := (zb BK285.out 3).trans rfl; have hcz22_4 : w21.cell? ⟨gb285, 4, none⟩ = some (.int .i64 a0_4) := (zb BK285.out 4).trans rfl; have hcz22_5 : w21.cell? ⟨gb285, 5, none⟩ = some (.int .i64 a0_5) := (zb BK285.out 5).trans rfl; have hcz22_6 : w21.cell? ⟨gb285, 6, none⟩ = some (.int .u64 a0_6) := (zb BK285.out 6).trans rfl; have hfz22_0 := za BK285.out 0; have hfz22_1 := za BK285.out 1; have hfz22_2 := za BK285.out 2; have hfz22_3 := za BK285.out 3; have hfz22_4 := za BK285.out 4; have hfz22_5 := za BK285.out 5; have hfz22_6 := za BK285.out 6) | ((with_reducible refine zr (f := 14) rfl ?_); refine zR (some 21) rfl rfl Try.func14 (by kernel_rfl) rfl #[.int .u64 a0_6] rfl (by (try simp only [List.map_toArray, List.map_cons, List.map_nil]); first | done | rfl | (simp only [List.length_drop, List.length_take]; rfl)) ?_; (with_reducible refine (zar.calls k a0_6 t288 _ A7.out).mono ?_); rintro e w23 ⟨rfl, hb⟩; refine ⟨_, rfl, ?_⟩; have n0_ := zc.mk (zl (g := gb285) (o := .cells #[.int .i64 a0_0, .int .i64 a0_1, .slice A0_2 l0_2.length c0_2, .slice A0_3 l0_3.length c0_3, .int .i64 a0_4, .int .i64 a0_5, .int .u64 a0_6] 34 (0, 0)) (by (with_reducible repeat (first | refine zi ?_ _ | refine zk ?_ | refine zj ?_ _)); exact BK285.out) hb); have n1_ := zc.mk (zh (by repeat (first | (with_reducible first | exact HB.out | apply zf | apply zd | apply ze | refine zg ?_ GE285.out) | exact HB.out)) hb); clear BK285; clear HB; have BK285 := n0_; have HB := n1_; clear n0_ n1_; (try clear hb); (try clear hb2); (try clear hk); (try clear hi)) | ((with_reducible refine zr (f := 13) rfl ?_); refine zR (some 23) rfl rfl Try.func13 (by kernel_rfl) rfl #[.int .i64 a1] rfl (by (try simp only [List.map_toArray, List.map_cons, List.map_nil]); first | done | rfl | (simp only [List.length_drop, List.length_take]; rfl)) ?_; (with_reducible refine (zV.calls a1 t289 _ A8.out).mono ?_); rintro e w' ⟨rfl, ⟨nd, rfl⟩⟩; refine ⟨_, rfl, ?_⟩))
        go_ret
        exact ⟨by first | rfl | (simp [zn, zo] <;> rfl) | (simp [*, zn, zo] <;> rfl), by repeat (first | (with_reducible first | exact HB.out | apply zf | apply zd | apply ze | refine zg ?_ GE285.out) | exact HB.out)⟩
    · replace c6 := Bool.eq_false_iff.mpr c6
      subst c6
      have H1 : (some 4) = some r := by rw [if_neg (show ¬ (false = true) by decide)] at H; exact H
      clear H
      have H := H1
      clear H1
      obtain rfl := Option.some.inj H
      go_enter Try.func36, Try.ntmps36
      go_wp2_with (first | ((with_reducible refine zA (N := 2) rfl ?_); refine zt ?hg (N := 2) ?hd (cs := #[.int .i64 a0_0, .int .i64 a0_1, .slice A0_2 l0_2.length c0_2, .slice A0_3 l0_3.length c0_3, .int .i64 a0_4, .int .i64 a0_5, .int .u64 a0_6]) (t := 34) ?hr ?_; (case hd => rfl); (case hg => rfl); (case hr => first | (go_simp; done) | (go_simp; rfl)); intro gb285 hg w24 hbox hb; have n0_ := zc.mk (zh (by repeat (first | (with_reducible first | exact HB.out | apply zf | apply zd | apply ze) | exact HB.out)) hb); have n1_ := zc.mk (hbox); have n2_ := zc.mk ((by rw [hg]; exact (zp (by repeat (first | (with_reducible first | exact HB.out | apply zf | apply zd | apply ze) | exact HB.out))) : w.heap.size ≤ gb285)); have n3_ := zc.mk ((by rw [hg]; exact (zp (by repeat (first | (with_reducible first | exact HB.out | apply zf | apply zd | apply ze) | exact HB.out))) : w.heap.size ≤ gb285)); clear HB; have HB := n0_; have BK285 := n1_; have GW285 := n2_; have GE285 := n3_; clear n0_ n1_ n2_ n3_; clear hb hbox hg; have hcz25_0 : w24.cell? ⟨gb285, 0, none⟩ = some (.int .i64 a0_0) := (zb BK285.out 0).trans rfl; have hcz25_1 : w24.cell? ⟨gb285, 1, none⟩ = some (.int .i64 a0_1) := (zb BK285.out 1).trans rfl; have hcz25_2 : w24.cell? ⟨gb285, 2, none⟩ = some (.slice A0_2 l0_2.length c0_2) := (zb BK285.out 2).trans rfl; have hcz25_3 : w24.cell? ⟨gb285, 3, none⟩ = some (.slice A0_3 l0_3.length c0_3) := (zb BK285.out 3).trans rfl; have hcz25_4 : w24.cell? ⟨gb285, 4, none⟩ = some (.int .i64 a0_4) := (zb BK285.out 4).trans rfl; have hcz25_5 : w24.cell? ⟨gb285, 5, none⟩ = some (.int .i64 a0_5) := (zb BK285.out 5).trans rfl; have hcz25_6 : w24.cell? ⟨gb285, 6, none⟩ = some (.int .u64 a0_6) := (zb BK285.out 6).trans rfl; have hfz25_0 := za BK285.out 0; have hfz25_1 := za BK285.out 1; have hfz25_2 := za BK285.out 2; have hfz25_3 := za BK285.out 3; have hfz25_4 := za BK285.out 4; have hfz25_5 := za BK285.out 5; have hfz25_6 := za BK285.out 6) | ((with_reducible refine zr (f := 45) rfl ?_); refine zR (some 10) rfl rfl Try.func45 (by kernel_rfl) rfl #[.agg #[.int .i64 a0_0, .int .i64 a0_1, .slice A0_2 l0_2.length c0_2, .slice A0_3 l0_3.length c0_3, .int .i64 a0_4, .int .i64 a0_5], .int .i64 a1] rfl (by (try simp only [List.map_toArray, List.map_cons, List.map_nil]); first | done | rfl | (simp only [List.length_drop, List.length_take]; rfl)) ?_; (with_reducible refine (zm.calls k a0_0 a0_1 _ _ l0_2 _ _ l0_3 a0_4 a0_5 a1 true _ ?side1 ?side2 ?side3 ?side4 A3.out).mono ?_); (case side1 => repeat (first | exact (Kd.C_below HR0_2.out HB.out) | (with_reducible refine Kd.C_alloc ?_ _) | (with_reducible refine Kd.C_drewN ?_ _) | (with_reducible refine Kd.C_drew ?_))); (case side2 => exact HC0_2.out); (case side3 => repeat (first | exact (Kd.C_below HR0_3.out HB.out) | (with_reducible refine Kd.C_alloc ?_ _) | (with_reducible refine Kd.C_drewN ?_ _) | (with_reducible refine Kd.C_drew ?_))); (case side4 => exact HC0_3.out); rintro e w26 ⟨rfl, hb⟩; refine ⟨_, rfl, ?_⟩; have n0_ := zc.mk (zl (g := gb285) (o := .cells #[.int .i64 a0_0, .int .i64 a0_1, .slice A0_2 l0_2.length c0_2, .slice A0_3 l0_3.length c0_3, .int .i64 a0_4, .int .i64 a0_5, .int .u64 a0_6] 34 (0, 0)) (by (with_reducible repeat (first | refine zi ?_ _ | refine zk ?_ | refine zj ?_ _)); exact BK285.out) hb); have n1_ := zc.mk (zh (by repeat (first | (with_reducible first | exact HB.out | apply zf | apply zd | apply ze | refine zg ?_ GE285.out) | exact HB.out)) hb); clear BK285; clear HB; have BK285 := n0_; have HB := n1_; clear n0_ n1_; (try clear hb); (try clear hb2); (try clear hk); (try clear hi); have hcz27_0 : w26.cell? ⟨gb285, 0, none⟩ = some (.int .i64 a0_0) := (zb BK285.out 0).trans rfl; have hcz27_1 : w26.cell? ⟨gb285, 1, none⟩ = some (.int .i64 a0_1) := (zb BK285.out 1).trans rfl; have hcz27_2 : w26.cell? ⟨gb285, 2, none⟩ = some (.slice A0_2 l0_2.length c0_2) := (zb BK285.out 2).trans rfl; have hcz27_3 : w26.cell? ⟨gb285, 3, none⟩ = some (.slice A0_3 l0_3.length c0_3) := (zb BK285.out 3).trans rfl; have hcz27_4 : w26.cell? ⟨gb285, 4, none⟩ = some (.int .i64 a0_4) := (zb BK285.out 4).trans rfl; have hcz27_5 : w26.cell? ⟨gb285, 5, none⟩ = some (.int .i64 a0_5) := (zb BK285.out 5).trans rfl; have hcz27_6 : w26.cell? ⟨gb285, 6, none⟩ = some (.int .u64 a0_6) := (zb BK285.out 6).trans rfl; have hfz27_0 := za BK285.out 0; have hfz27_1 := za BK285.out 1; have hfz27_2 := za BK285.out 2; have hfz27_3 := za BK285.out 3; have hfz27_4 := za BK285.out 4; have hfz27_5 := za BK285.out 5; have hfz27_6 := za BK285.out 6) | ((with_reducible refine zr (f := 56) rfl ?_); refine zR (some 16) rfl rfl Try.func56 (by kernel_rfl) rfl #[.int .u64 a0_6, .int .i64 a1] rfl (by (try simp only [List.map_toArray, List.map_cons, List.map_nil]); first | done | rfl | (simp only [List.length_drop, List.length_take]; rfl)) ?_; (with_reducible refine (zat.calls k a0_6 a1 false _ A5.out).mono ?_); rintro e w28 ⟨rfl, hb⟩; refine ⟨_, rfl, ?_⟩; have n0_ := zc.mk (zl (g := gb285) (o := .cells #[.int .i64 a0_0, .int .i64 a0_1, .slice A0_2 l0_2.length c0_2, .slice A0_3 l0_3.length c0_3, .int .i64 a0_4, .int .i64 a0_5, .int .u64 a0_6] 34 (0, 0)) (by (with_reducible repeat (first | refine zi ?_ _ | refine zk ?_ | refine zj ?_ _)); exact BK285.out) hb); have n1_ := zc.mk (zh (by repeat (first | (with_reducible first | exact HB.out | apply zf | apply zd | apply ze | refine zg ?_ GE285.out) | exact HB.out)) hb); clear BK285; clear HB; have BK285 := n0_; have HB := n1_; clear n0_ n1_; (try clear hb); (try clear hb2); (try clear hk); (try clear hi)))
      go_ret
      exact ⟨by first | rfl | (simp [zn, zo] <;> rfl) | (simp [*, zn, zo] <;> rfl), by repeat (first | (with_reducible first | exact HB.out | apply zf | apply zd | apply ze | refine zg ?_ GE285.out) | exact HB.out)⟩
  · replace c4 := Bool.eq_false_iff.mpr c4
    subst c4
    have H1 : (some 1) = some r := by rw [if_neg (show ¬ (false = true) by decide)] at H; exact H
    clear H
    have H := H1
    clear H1
    obtain rfl := Option.some.inj H
    go_enter Try.func36, Try.ntmps36
    go_wp2_with (first | ((with_reducible refine zA (N := 2) rfl ?_); refine zt ?hg (N := 2) ?hd (cs := #[.int .i64 a0_0, .int .i64 a0_1, .slice A0_2 l0_2.length c0_2, .slice A0_3 l0_3.length c0_3, .int .i64 a0_4, .int .i64 a0_5, .int .u64 a0_6]) (t := 34) ?hr ?_; (case hd => rfl); (case hg => rfl); (case hr => first | (go_simp; done) | (go_simp; rfl)); intro gb285 hg w29 hbox hb; have n0_ := zc.mk (zh (by repeat (first | (with_reducible first | exact HB.out | apply zf | apply zd | apply ze) | exact HB.out)) hb); have n1_ := zc.mk (hbox); have n2_ := zc.mk ((by rw [hg]; exact (zp (by repeat (first | (with_reducible first | exact HB.out | apply zf | apply zd | apply ze) | exact HB.out))) : w.heap.size ≤ gb285)); have n3_ := zc.mk ((by rw [hg]; exact (zp (by repeat (first | (with_reducible first | exact HB.out | apply zf | apply zd | apply ze) | exact HB.out))) : w.heap.size ≤ gb285)); clear HB; have HB := n0_; have BK285 := n1_; have GW285 := n2_; have GE285 := n3_; clear n0_ n1_ n2_ n3_; clear hb hbox hg; have hcz30_0 : w29.cell? ⟨gb285, 0, none⟩ = some (.int .i64 a0_0) := (zb BK285.out 0).trans rfl; have hcz30_1 : w29.cell? ⟨gb285, 1, none⟩ = some (.int .i64 a0_1) := (zb BK285.out 1).trans rfl; have hcz30_2 : w29.cell? ⟨gb285, 2, none⟩ = some (.slice A0_2 l0_2.length c0_2) := (zb BK285.out 2).trans rfl; have hcz30_3 : w29.cell? ⟨gb285, 3, none⟩ = some (.slice A0_3 l0_3.length c0_3) := (zb BK285.out 3).trans rfl; have hcz30_4 : w29.cell? ⟨gb285, 4, none⟩ = some (.int .i64 a0_4) := (zb BK285.out 4).trans rfl; have hcz30_5 : w29.cell? ⟨gb285, 5, none⟩ = some (.int .i64 a0_5) := (zb BK285.out 5).trans rfl; have hcz30_6 : w29.cell? ⟨gb285, 6, none⟩ = some (.int .u64 a0_6) := (zb BK285.out 6).trans rfl; have hfz30_0 := za BK285.out 0; have hfz30_1 := za BK285.out 1; have hfz30_2 := za BK285.out 2; have hfz30_3 := za BK285.out 3; have hfz30_4 := za BK285.out 4; have hfz30_5 := za BK285.out 5; have hfz30_6 := za BK285.out 6) | ((with_reducible refine zr (f := 45) rfl ?_); refine zR (some 10) rfl rfl Try.func45 (by kernel_rfl) rfl #[.agg #[.int .i64 a0_0, .int .i64 a0_1, .slice A0_2 l0_2.length c0_2, .slice A0_3 l0_3.length c0_3, .int .i64 a0_4, .int .i64 a0_5], .int .i64 a1] rfl (by (try simp only [List.map_toArray, List.map_cons, List.map_nil]); first | done | rfl | (simp only [List.length_drop, List.length_take]; rfl)) ?_; (with_reducible refine (zm.calls k a0_0 a0_1 _ _ l0_2 _ _ l0_3 a0_4 a0_5 a1 false _ ?side1 ?side2 ?side3 ?side4 A3.out).mono ?_); (case side1 => repeat (first | exact (Kd.C_below HR0_2.out HB.out) | (with_reducible refine Kd.C_alloc ?_ _) | (with_reducible refine Kd.C_drewN ?_ _) | (with_reducible refine Kd.C_drew ?_))); (case side2 => exact HC0_2.out); (case side3 => repeat (first | exact (Kd.C_below HR0_3.out HB.out) | (with_reducible refine Kd.C_alloc ?_ _) | (with_reducible refine Kd.C_drewN ?_ _) | (with_reducible refine Kd.C_drew ?_))); (case side4 => exact HC0_3.out); rintro e w31 ⟨rfl, hb⟩; refine ⟨_, rfl, ?_⟩; have n0_ := zc.mk (zl (g := gb285) (o := .cells #[.int .i64 a0_0, .int .i64 a0_1, .slice A0_2 l0_2.length c0_2, .slice A0_3 l0_3.length c0_3, .int .i64 a0_4, .int .i64 a0_5, .int .u64 a0_6] 34 (0, 0)) (by (with_reducible repeat (first | refine zi ?_ _ | refine zk ?_ | refine zj ?_ _)); exact BK285.out) hb); have n1_ := zc.mk (zh (by repeat (first | (with_reducible first | exact HB.out | apply zf | apply zd | apply ze | refine zg ?_ GE285.out) | exact HB.out)) hb); clear BK285; clear HB; have BK285 := n0_; have HB := n1_; clear n0_ n1_; (try clear hb); (try clear hb2); (try clear hk); (try clear hi)))
    go_ret
    exact ⟨by first | rfl | (simp [zn, zo] <;> rfl) | (simp [*, zn, zo] <;> rfl), by repeat (first | (with_reducible first | exact HB.out | apply zf | apply zd | apply ze | refine zg ?_ GE285.out) | exact HB.out)⟩
end Go.Proofs.Ytlabjgcoopdbiaa.Px

namespace Go.Proofs.Ytlabjgcoopdbiaa.Px
open Go.RowKit Go.Proofs.YtlabjgcoopdbiaaW.PrintWords Go.Proofs.YtlabjgcoopdbiaaW.PrintLast Go.Proofs.YtlabjgcoopdbiaaW.PrintMore
attribute [local go_sem] zC zE zK zL zw zx zD zF
set_option linter.unusedVariables false
set_option linter.unusedSimpArgs false
def zbS (a r : Int) (bs : List S68) (ps : List ByteArray) (x y : Int) : Bs :=
  zcN a.toNat ++ zcN r.toNat ++ zbQ (bs.map bB) ++ zbQ ps ++ zcN x.toNat ++ zcN y.toNat
theorem zcs (a r : Int) (bs : List S68) (ps : List ByteArray) (x y n : Int) : zbb a r bs ps x y n = true ↔ zdq n = true ∧ 1 ≤ a ∧ a ≤ n ∧ 1 ≤ r ∧ r ≤ 1048576 ∧ bs.length ≤ 4 ∧ bs.any (zcD n) = false ∧ zeJ x y = true ∧ (zcQ r = true ∨ x = 0 ∧ y = 0) ∧ zbP ps r n = true := by
  unfold zbb
  simp [and_assoc]
theorem zgQ (l : List ByteArray) (d : Nat) : ∀ j, zba l d j = true → ∀ i, j ≤ i → i < j + d → (l.getD i ByteArray.empty).size = 32 := by
  induction d with
  | zero => intro j _ i h1 h2; omega
  | succ d ih =>
    intro j h i h1 h2
    rw [zba, Bool.and_eq_true] at h
    rcases Nat.lt_or_ge j i with h3 | h3
    · exact ih (j + 1) h.2 i (by omega) (by omega)
    · obtain rfl : i = j := by omega
      have := h.1
      rw [zfH, Bool.and_eq_true] at this
      exact of_decide_eq_true this.1
theorem zb6 {l : List ByteArray} {r n : Int} (hn : zdq n = true) (h : zbP l r n = true) : l.length ≤ 64 ∧ ∀ t ∈ l, t.size = 32 := by
  unfold zbP at h
  split at h
  · have h0 := of_decide_eq_true h
    obtain rfl := List.eq_nil_of_length_eq_zero h0
    simp
  · obtain ⟨_, h2, _⟩ := (zcz n).1 hn
    rw [Bool.and_eq_true, Bool.and_eq_true] at h
    have h3 := of_decide_eq_true h.2
    refine ⟨by omega, fun t ht => ?_⟩
    obtain ⟨i, hi, rfl⟩ := List.mem_iff_getElem.1 ht
    have := zgQ l l.length 0 h.1.1 i (by omega) (by omega)
    rwa [List.getD_eq_getElem?_getD, List.getElem?_eq_getElem hi] at this
theorem ziC (b : S68) : (bB b).size ≤ 400 := by
  unfold bB
  split
  · rename_i h
    obtain ⟨h1, h2, h3, h4, h5, h6, h7⟩ := (zcW _ _ _).1 h
    have r1 := zc3 b.f2 48 (by omega) (fun t ht => (h7 t ht).2)
    have r2 := zaK (v := b.f2.length) (by omega)
    have r4 := zaK (v := b.f0.toNat) (by omega)
    have r5 := zaK (v := b.f1.toNat) (by omega)
    rw [zaA, zcf, List.length_append, List.length_append, zbQ, List.length_append]; omega
  · show 0 ≤ 400; omega
theorem zgm {bs : List S68} (h : bs.length ≤ 4) : (zbQ (bs.map bB)).length ≤ 1700 := by
  have r1 := zc3 (bs.map bB) 400 (by omega) (fun t ht => by obtain ⟨b, _, rfl⟩ := List.mem_map.1 ht; exact ziC b)
  rw [List.length_map] at r1
  have r2 := zaK (v := (bs.map bB).length) (by rw [List.length_map]; omega)
  rw [zbQ, List.length_append]; omega
theorem zgn {ps : List ByteArray} (h : ps.length ≤ 64 ∧ ∀ t ∈ ps, t.size = 32) : (zbQ ps).length ≤ 2700 := by
  have r1 := zc3 ps 32 (by omega) (fun t ht => by have := h.2 t ht; omega)
  have r2 := zaK (v := ps.length) (by have := h.1; omega)
  rw [zbQ, List.length_append]; have := h.1; omega
theorem ziB {n : Int} {bs : List S68} (h : bs.any (zcD n) = false) : ∀ b ∈ bs, zcM b.f0 b.f1 b.f2 = true ∧ b.f0 ≤ n := by
  intro b hb
  rw [List.any_eq_false] at h
  have := h b hb
  rw [zcD] at this
  simp at this
  exact ⟨this.1, by omega⟩
theorem ziR (a b c d : ByteArray) : zJ ByteArray.empty [a, b, c, d] 0 = a ∧ zJ ByteArray.empty [a, b, c, d] 1 = b ∧ zJ ByteArray.empty [a, b, c, d] 2 = c ∧ zJ ByteArray.empty [a, b, c, d] 3 = d := ⟨rfl, rfl, rfl, rfl⟩
theorem zeP (a r : Int) (bs : List S68) (ps : List ByteArray) (x y n : Int) :
    zaC.f a r bs ps x y n = some (if zbb a r bs ps x y n = true then (toB (zbS a r bs ps x y), 0) else ((⟨#[]⟩ : ByteArray), 1)) := by
  unfold zaC.f
  rw [show zag.f a r bs ps x y n = some (zbb a r bs ps x y n) from rfl]
  simp only [Option.bind_some]
  by_cases h : zbb a r bs ps x y n = true
  · rw [if_pos h, if_pos h]
    obtain ⟨h0, h1, h2, h3, h4, h5, h6, h7, h8, h9⟩ := (zcs ..).1 h
    obtain ⟨k1, k2, k3⟩ := (zcz n).1 h0
    obtain ⟨x1, x2, y1, y2⟩ := (zd6 x y).1 h7
    have e1 : zaI.f bs = some (bs.map bB) := if_pos h5
    have e2 : zaz.f [a, r, x, y] = some [zbg a.toNat, zbg r.toNat, zbg x.toNat, zbg y.toNat] := by
      rw [zaz.f, if_pos]
      · rfl
      · refine ⟨Nat.le_refl 4, fun k hk => ?_⟩
        simp only [List.mem_cons, List.not_mem_nil, or_false] at hk
        rcases hk with rfl | rfl | rfl | rfl <;> omega
    have s0 := za1 (v := a.toNat) (by omega)
    have s1 := za1 (v := r.toNat) (by omega)
    have s2 := za1 (v := x.toNat) (by omega)
    have s3 := za1 (v := y.toNat) (by omega)
    have r1 := zgm h5
    have r2 := zgn (zb6 h0 h9)
    have d1 : zaa.f (bs.map bB) = some (toB (zbQ (bs.map bB))) := if_pos (by omega)
    have d2 : zaa.f ps = some (toB (zbQ ps)) := if_pos (by omega)
    rw [e1, e2]
    simp only [Option.bind_some, d1, d2]
    obtain ⟨q0, q1, q2, q3⟩ := ziR (zbg a.toNat) (zbg r.toNat) (zbg x.toNat) (zbg y.toNat)
    rw [q0, q1, q2, q3]
    simp only [ByteArray.size_append, zaA]
    rw [if_pos (by simp), if_pos (by simp), if_pos (by omega), if_pos (by omega), if_pos (by omega), if_pos (by simp), if_pos (by omega), if_pos (by simp), if_pos (by omega)]
    simp only [zbS, zbg, za6]
  · rw [if_neg h, if_neg h]
instance decBatch : DecidableEq S68 := fun a b => decidable_of_iff (a.f0 = b.f0 ∧ a.f1 = b.f1 ∧ a.f2 = b.f2) ⟨fun ⟨h0, h1, h2⟩ => by obtain ⟨a0, a1, a2⟩ := a; obtain ⟨b0, b1, b2⟩ := b; simp only at h0 h1 h2; rw [h0, h1, h2], fun h => by rw [h]; exact ⟨rfl, rfl, rfl⟩⟩
theorem zcH (l : List S68) (j : Nat) (h : j < l.length) : zQ l (j : Int) = l[j] := by
  rw [zQ, Int.toNat_natCast, List.getD_eq_getElem?_getD, List.getElem?_eq_getElem h]; rfl
theorem zg0 {a r : Int} {bs : List S68} {ps : List ByteArray} {x y n : Int} (h : zbb a r bs ps x y n = true) : bs.length < 4611686018427387904 ∧ (∀ b ∈ bs, b.f2.length < 4611686018427387904) ∧ ps.length < 4611686018427387904 := by
  obtain ⟨h0, _, _, _, _, h5, h6, _, _, h9⟩ := (zcs ..).1 h
  refine ⟨by omega, fun b hb => ?_, by have := (zb6 h0 h9).1; omega⟩
  obtain ⟨_, _, _, _, _, k, _⟩ := (zcW _ _ _).1 (ziB h6 b hb).1
  omega
end Go.Proofs.Ytlabjgcoopdbiaa.Px

namespace Go.Proofs.Ytlabjgcoopdbiaa.Px
open Go.RowKit Go.Proofs.YtlabjgcoopdbiaaW.PrintWords Go.Proofs.YtlabjgcoopdbiaaW.PrintLast Go.Proofs.YtlabjgcoopdbiaaW.PrintMore
attribute [local go_sem] zC zE zK zL zw zx zD zF
set_option linter.unusedVariables false
set_option linter.unusedSimpArgs false
end Go.Proofs.Ytlabjgcoopdbiaa.Px

namespace Go.Proofs.Ytlabjgcoopdbiaa.Px
open Go.RowKit Go.Proofs.YtlabjgcoopdbiaaW.PrintWords Go.Proofs.YtlabjgcoopdbiaaW.PrintLast Go.Proofs.YtlabjgcoopdbiaaW.PrintMore
attribute [local go_sem] zC zE zK zL zw zx zD zF
set_option linter.unusedVariables false
set_option linter.unusedSimpArgs false
end Go.Proofs.Ytlabjgcoopdbiaa.Px

namespace Go.Proofs.Ytlabjgcoopdbiaa.Px
open Go.RowKit Go.Proofs.YtlabjgcoopdbiaaW.PrintWords Go.Proofs.YtlabjgcoopdbiaaW.PrintLast Go.Proofs.YtlabjgcoopdbiaaW.PrintMore
attribute [local go_sem] zC zE zK zL zw zx zD zF
set_option linter.unusedVariables false
set_option linter.unusedSimpArgs false
end Go.Proofs.Ytlabjgcoopdbiaa.Px

namespace Go.Proofs.Ytlabjgcoopdbiaa.Px
open Go.RowKit Go.Proofs.YtlabjgcoopdbiaaW.PrintWords Go.Proofs.YtlabjgcoopdbiaaW.PrintLast Go.Proofs.YtlabjgcoopdbiaaW.PrintMore
attribute [local go_sem] zC zE zK zL zw zx zD zF
set_option linter.unusedVariables false
set_option linter.unusedSimpArgs false
theorem zgJ (o q : Int) (l : List ByteArray) (hl : l.length < 4611686018427387904) (d : Nat) : ∀ j, j + d = l.length →
    Ev (fun k => zy.l0 k (j : Int) o q l) (!(l.drop j).any zce) := by
  induction d with
  | zero =>
    intro j hj
    refine Ev.step (fun k => by rw [zy.l0]) ?_
    refine zab (by omega) (zaF (Ev.now _) ?_)
    rw [List.drop_eq_nil_of_le (by omega)]; rfl
  | succ d ih =>
    intro j hj
    have hjl : j < l.length := by omega
    refine Ev.step (fun k => by rw [zy.l0]) ?_
    refine zN (by omega) (zN (by omega) ?_)
    rw [ziQ l j hjl, List.drop_eq_getElem_cons hjl, zah (by omega) (by omega), List.any_cons]
    by_cases h1 : (l[j].size : Int) < 1
    · refine zN h1 (zaF (Ev.now _) ?_)
      have : l[j].size = 0 := by omega
      simp [zce, this]
    · refine zab h1 ?_
      by_cases h2 : (l[j].size : Int) > 48
      · refine zN h2 (zaF (Ev.now _) ?_)
        have : 48 < l[j].size := by omega
        simp [zce, this]
      · refine zab h2 (zaF (ih (j + 1) (by omega)) ?_)
        have e1 : zce l[j] = false := by
          have : ¬ l[j].size = 0 := by omega
          have h3 : ¬ 48 < l[j].size := by omega
          simp [zce, this, h3]
        rw [e1, Bool.false_or]
theorem zfS (o q : Int) (l : List ByteArray) (hl : l.length < 4611686018427387904) : Ev (fun k => zy.f k o q l) (zcM o q l) := by
  have key : ∀ b : Bool, (b = true ↔ ¬ (1 ≤ o ∧ o ≤ 64 ∧ 1 ≤ q ∧ q ≤ 1073741824 ∧ 1 ≤ l.length ∧ l.length ≤ 4)) → Ev (fun k => zy.j0 k b o q l) (zcM o q l) := by
    intro b hb
    refine Ev.step (fun k => by rw [zy.j0]) ?_
    by_cases h : 1 ≤ o ∧ o ≤ 64 ∧ 1 ≤ q ∧ q ≤ 1073741824 ∧ 1 ≤ l.length ∧ l.length ≤ 4
    · refine zab (fun hh => hb.1 hh h) (zaF (zgJ o q l hl l.length 0 (by omega)) ?_)
      obtain ⟨h1, h2, h3, h4, h5, h6⟩ := h
      simp [zcM, h1, h2, h3, h4, h5, h6]
    · refine zN (hb.2 h) (zaF (Ev.now _) ?_)
      symm
      rw [← Bool.not_eq_true, zcW]
      exact fun ⟨h1, h2, h3, h4, h5, h6, _⟩ => h ⟨h1, h2, h3, h4, h5, h6⟩
  by_cases h1 : o < 1
  · exact zN h1 (key true (by simp; omega))
  refine zab h1 ?_
  by_cases h2 : o > 64
  · exact zN h2 (key true (by simp; omega))
  refine zab h2 ?_
  by_cases h3 : q < 1
  · exact zN h3 (key true (by simp; omega))
  refine zab h3 ?_
  by_cases h4 : q > 1073741824
  · exact zN h4 (key true (by simp; omega))
  refine zab h4 ?_
  by_cases h5 : (l.length : Int) < 1
  · exact zN h5 (key true (by simp; omega))
  exact zab h5 (key _ (by simp; omega))
end Go.Proofs.Ytlabjgcoopdbiaa.Px
