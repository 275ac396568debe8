/- Part 30 of 32 of the proof of the law CertChecks: what is proved is the statement at the end of the last part; its conditions are those of the given row. -/
import Derived.Test.YtlabjgcoopdbiaaZCertChecksc
namespace Go.Proofs.Ytlabjgcoopdbiaa.Px
open Go.RowKit Go.Proofs.YtlabjgcoopdbiaaW.PrintWords Go.Proofs.YtlabjgcoopdbiaaW.PrintLast Go.Proofs.YtlabjgcoopdbiaaW.PrintMore
attribute [local go_sem] zC zE zK zL zw zx zD zF
set_option linter.unusedVariables false
set_option linter.unusedSimpArgs false
def zH.l0 : Nat → List (S58) → Bool → Int → Int → Int → List (S68) → List ByteArray → Int → Int → Option (Int)
  | 0, _, _, _, _, _, _, _, _, _ => none
  | k + 1, x1, x9, x10, x273000, x273001, x273002, x273003, x273004, x273005 => if x10 < (x273002.length : Int) then (if 0 ≤ x10 then ((zaO.f k ((zQ x273002 x10).f0) ((zQ x273002 x10).f1) ((zQ x273002 x10).f2)).bind fun bt277 => (if 1 + bt277.1.size ≤ 9223372036854775807 then ((zW.f k x1 ((zQ x273002 x10).f0) ((⟨#[111]⟩ : ByteArray) ++ bt277.1)).bind fun t280 => (if x9 = true then (zH.l0 k x1 t280 (wrap64 (x10 + 1)) x273000 x273001 x273002 x273003 x273004 x273005) else (zH.l0 k x1 false (wrap64 (x10 + 1)) x273000 x273001 x273002 x273003 x273004 x273005))) else (none))) else (none)) else (if x9 = true then (some 0) else (some 10))
def zH.f (k : Nat) (a0 : Int) (l1 : List (S58)) (a2_0 : Int) (a2_1 : Int) (l2_2 : List (S68)) (l2_3 : List ByteArray) (a2_4 : Int) (a2_5 : Int) : Option (Int) := (zY.f k a2_0 a2_1 l2_2 l2_3 a2_4 a2_5 a0).bind fun bt273 => (if bt273.2 = 0 then (if 1 + bt273.1.size ≤ 9223372036854775807 then ((zW.f k l1 a2_0 ((⟨#[104]⟩ : ByteArray) ++ bt273.1)).bind fun t275 => (zH.l0 k l1 t275 0 a2_0 a2_1 l2_2 l2_3 a2_4 a2_5)) else (none)) else (some 1))
set_option maxHeartbeats 8000000 in
set_option maxRecDepth 100000 in
theorem zH.calls (k : Nat) (a0 : Int) (A1 : Option Addr) (c1 : Nat) (l1 : List (S58)) (a2_0 : Int) (a2_1 : Int) (A2_2 : Option Addr) (c2_2 : Nat) (l2_2 : List (S68)) (A2_3 : Option Addr) (c2_3 : Nat) (l2_3 : List ByteArray) (a2_4 : Int) (a2_5 : Int) (r : Int) (w : World) (hr1 : Kd.C k58 w A1 l1.length l1) (hc1 : l1.length ≤ c1) (hr2_2 : Kd.C k68 w A2_2 l2_2.length l2_2) (hc2_2 : l2_2.length ≤ c2_2) (hr2_3 : Kd.C Kd.string w A2_3 l2_3.length l2_3) (hc2_3 : l2_3.length ≤ c2_3) (h : zH.f k a0 l1 a2_0 a2_1 l2_2 l2_3 a2_4 a2_5 = some r) :
    Calls Try.prog 22 #[.int .i64 a0, .slice A1 l1.length c1, .agg #[.int .i64 a2_0, .int .i64 a2_1, .slice A2_2 l2_2.length c2_2, .slice A2_3 l2_3.length c2_3, .int .i64 a2_4, .int .i64 a2_5]] w fun e w' => e = .returned (.int .i64 r) ∧ Below w.heap.size w w' := by
  have hu31 := Try.underlying31
  have hu58 := Try.underlying58
  have hu68 := Try.underlying68
  have HR1 := zc.mk hr1
  have HC1 := zc.mk hc1
  clear hr1 hc1
  have HR2_2 := zc.mk hr2_2
  have HC2_2 := zc.mk hc2_2
  clear hr2_2 hc2_2
  have HR2_3 := zc.mk hr2_3
  have HC2_3 := zc.mk hc2_3
  clear hr2_3 hc2_3
  have HB := zc.mk (Below.refl w.heap.size w)
  have H : ((zY.f k a2_0 a2_1 l2_2 l2_3 a2_4 a2_5 a0).bind fun bt273 => (if bt273.2 = 0 then (if 1 + bt273.1.size ≤ 9223372036854775807 then ((zW.f k l1 a2_0 ((⟨#[104]⟩ : ByteArray) ++ bt273.1)).bind fun t275 => (zH.l0 k l1 t275 0 a2_0 a2_1 l2_2 l2_3 a2_4 a2_5)) else (none)) else (some 1))) = some r := h
  clear h
  replace H := Option.bind_eq_some_iff.mp H
  obtain ⟨⟨t273, t274⟩, A40, H⟩ := H
  replace H : (if t274 = 0 then (if 1 + t273.size ≤ 9223372036854775807 then ((zW.f k l1 a2_0 ((⟨#[104]⟩ : ByteArray) ++ t273)).bind fun t275 => (zH.l0 k l1 t275 0 a2_0 a2_1 l2_2 l2_3 a2_4 a2_5)) else (none)) else (some 1)) = some r := H
  have A4 := zc.mk A40
  clear A40
  by_cases c5 : t274 = 0
  · rw [if_pos c5] at H
    have c5b0 : (t274 == 0) = true := beq_iff_eq.mpr c5
    have c5b1 : (t274 != 0) = false := bne_eq_false_iff_eq.mpr c5
    clear c5
    by_cases c6 : 1 + t273.size ≤ 9223372036854775807
    · rw [if_pos c6] at H
      have c6b0 := eq_true c6
      have c6b1 : decide (1 + t273.size ≤ 9223372036854775807) = true := decide_eq_true c6
      try have c6b2 : (9223372036854775807 < 1 + t273.size) = False := eq_false (Nat.not_lt.2 c6)
      replace H := Option.bind_eq_some_iff.mp H
      obtain ⟨t275, A70, H⟩ := H
      replace H : (zH.l0 k l1 t275 0 a2_0 a2_1 l2_2 l2_3 a2_4 a2_5) = some r := H
      have A7 := zc.mk A70
      clear A70
      have H' := zc.mk H
      clear H
      go_enter Try.func22, Try.ntmps22
      go_wp2_with (first | ((with_reducible refine zA (N := 5) rfl ?_); refine zt ?hg (N := 5) ?hd (cs := #[.int .i64 a2_0, .int .i64 a2_1, .slice A2_2 l2_2.length c2_2, .slice A2_3 l2_3.length c2_3, .int .i64 a2_4, .int .i64 a2_5]) (t := 31) ?hr ?_; (case hd => rfl); (case hg => rfl); (case hr => first | (go_simp; done) | (go_simp; rfl)); intro gb272 hg w8 hbox hb; have n0_ := zc.mk (zh (by repeat (first | (with_reducible first | exact HB.out | apply zf | apply zd | apply ze) | exact HB.out)) hb); have n1_ := zc.mk (hbox); have n2_ := zc.mk ((by rw [hg]; exact (zp (by repeat (first | (with_reducible first | exact HB.out | apply zf | apply zd | apply ze) | exact HB.out))) : w.heap.size ≤ gb272)); have n3_ := zc.mk ((by rw [hg]; exact (zp (by repeat (first | (with_reducible first | exact HB.out | apply zf | apply zd | apply ze) | exact HB.out))) : w.heap.size ≤ gb272)); clear HB; have HB := n0_; have BK272 := n1_; have GW272 := n2_; have GE272 := n3_; clear n0_ n1_ n2_ n3_; clear hb hbox hg; have hcz9_0 : w8.cell? ⟨gb272, 0, none⟩ = some (.int .i64 a2_0) := (zb BK272.out 0).trans rfl; have hcz9_1 : w8.cell? ⟨gb272, 1, none⟩ = some (.int .i64 a2_1) := (zb BK272.out 1).trans rfl; have hcz9_2 : w8.cell? ⟨gb272, 2, none⟩ = some (.slice A2_2 l2_2.length c2_2) := (zb BK272.out 2).trans rfl; have hcz9_3 : w8.cell? ⟨gb272, 3, none⟩ = some (.slice A2_3 l2_3.length c2_3) := (zb BK272.out 3).trans rfl; have hcz9_4 : w8.cell? ⟨gb272, 4, none⟩ = some (.int .i64 a2_4) := (zb BK272.out 4).trans rfl; have hcz9_5 : w8.cell? ⟨gb272, 5, none⟩ = some (.int .i64 a2_5) := (zb BK272.out 5).trans rfl; have hfz9_0 := za BK272.out 0; have hfz9_1 := za BK272.out 1; have hfz9_2 := za BK272.out 2; have hfz9_3 := za BK272.out 3; have hfz9_4 := za BK272.out 4; have hfz9_5 := za BK272.out 5) | ((with_reducible refine zr (f := 15) rfl ?_); refine zR (some 17) rfl rfl Try.func15 (by kernel_rfl) rfl #[.agg #[.int .i64 a2_0, .int .i64 a2_1, .slice A2_2 l2_2.length c2_2, .slice A2_3 l2_3.length c2_3, .int .i64 a2_4, .int .i64 a2_5], .int .i64 a0] rfl (by (try simp only [List.map_toArray, List.map_cons, List.map_nil]); first | done | rfl | (simp only [List.length_drop, List.length_take]; rfl)) ?_; (with_reducible refine (zY.calls k a2_0 a2_1 _ _ l2_2 _ _ l2_3 a2_4 a2_5 a0 t273 t274 _ ?side1 ?side2 ?side3 ?side4 A4.out).mono ?_); (case side1 => repeat (first | exact (Kd.C_below HR2_2.out HB.out) | (with_reducible refine Kd.C_alloc ?_ _) | (with_reducible refine Kd.C_drewN ?_ _) | (with_reducible refine Kd.C_drew ?_))); (case side2 => exact HC2_2.out); (case side3 => repeat (first | exact (Kd.C_below HR2_3.out HB.out) | (with_reducible refine Kd.C_alloc ?_ _) | (with_reducible refine Kd.C_drewN ?_ _) | (with_reducible refine Kd.C_drew ?_))); (case side4 => exact HC2_3.out); rintro e w10 ⟨rfl, hb⟩; refine ⟨_, rfl, ?_⟩; have n0_ := zc.mk (zl (g := gb272) (o := .cells #[.int .i64 a2_0, .int .i64 a2_1, .slice A2_2 l2_2.length c2_2, .slice A2_3 l2_3.length c2_3, .int .i64 a2_4, .int .i64 a2_5] 31 (0, 0)) (by (with_reducible repeat (first | refine zi ?_ _ | refine zk ?_ | refine zj ?_ _)); exact BK272.out) hb); have n1_ := zc.mk (zh (by repeat (first | (with_reducible first | exact HB.out | apply zf | apply zd | apply ze | refine zg ?_ GE272.out) | exact HB.out)) hb); clear BK272; clear HB; have BK272 := n0_; have HB := n1_; clear n0_ n1_; (try clear hb); (try clear hb2); (try clear hk); (try clear hi); have hcz11_0 : w10.cell? ⟨gb272, 0, none⟩ = some (.int .i64 a2_0) := (zb BK272.out 0).trans rfl; have hcz11_1 : w10.cell? ⟨gb272, 1, none⟩ = some (.int .i64 a2_1) := (zb BK272.out 1).trans rfl; have hcz11_2 : w10.cell? ⟨gb272, 2, none⟩ = some (.slice A2_2 l2_2.length c2_2) := (zb BK272.out 2).trans rfl; have hcz11_3 : w10.cell? ⟨gb272, 3, none⟩ = some (.slice A2_3 l2_3.length c2_3) := (zb BK272.out 3).trans rfl; have hcz11_4 : w10.cell? ⟨gb272, 4, none⟩ = some (.int .i64 a2_4) := (zb BK272.out 4).trans rfl; have hcz11_5 : w10.cell? ⟨gb272, 5, none⟩ = some (.int .i64 a2_5) := (zb BK272.out 5).trans rfl; have hfz11_0 := za BK272.out 0; have hfz11_1 := za BK272.out 1; have hfz11_2 := za BK272.out 2; have hfz11_3 := za BK272.out 3; have hfz11_4 := za BK272.out 4; have hfz11_5 := za BK272.out 5) | ((with_reducible refine zr (f := 32) rfl ?_); refine zR (some 28) rfl rfl Try.func32 (by kernel_rfl) rfl #[.slice A1 l1.length c1, .agg #[.int .i64 a2_0, .string ((⟨#[104]⟩ : ByteArray) ++ t273)]] rfl (by (try simp only [List.map_toArray, List.map_cons, List.map_nil]); first | done | rfl | (simp only [List.length_drop, List.length_take]; rfl)) ?_; (with_reducible refine (zW.calls k _ _ l1 a2_0 ((⟨#[104]⟩ : ByteArray) ++ t273) t275 _ ?side1 ?side2 A7.out).mono ?_); (case side1 => repeat (first | exact (Kd.C_below HR1.out HB.out) | (with_reducible refine Kd.C_alloc ?_ _) | (with_reducible refine Kd.C_drewN ?_ _) | (with_reducible refine Kd.C_drew ?_))); (case side2 => exact HC1.out); rintro e w12 ⟨rfl, hb⟩; refine ⟨_, rfl, ?_⟩; have n0_ := zc.mk (zl (g := gb272) (o := .cells #[.int .i64 a2_0, .int .i64 a2_1, .slice A2_2 l2_2.length c2_2, .slice A2_3 l2_3.length c2_3, .int .i64 a2_4, .int .i64 a2_5] 31 (0, 0)) (by (with_reducible repeat (first | refine zi ?_ _ | refine zk ?_ | refine zj ?_ _)); exact BK272.out) hb); have n1_ := zc.mk (zh (by repeat (first | (with_reducible first | exact HB.out | apply zf | apply zd | apply ze | refine zg ?_ GE272.out) | exact HB.out)) hb); clear BK272; clear HB; have BK272 := n0_; have HB := n1_; clear n0_ n1_; (try clear hb); (try clear hb2); (try clear hk); (try clear hi)))
      go_loopg [9, 10] k (fun kq v9 v10 w' => ∃ (x9_1 : Bool) (x10_1 : Int), v9 = .bool x9_1 ∧ v10 = .int .i64 x10_1 ∧ zc (zH.l0 kq l1 x9_1 x10_1 a2_0 a2_1 l2_2 l2_3 a2_4 a2_5 = some r) ∧ zc (kq ≤ k) ∧ zc (w'.heap[gb272]? = some (.cells #[.int .i64 a2_0, .int .i64 a2_1, (.slice A2_2 l2_2.length c2_2), (.slice A2_3 l2_3.length c2_3), .int .i64 a2_4, .int .i64 a2_5] 31 (0, 0))) ∧ zc (Below w.heap.size w w'))
      case atStart => exact ⟨(t275), (0), (by first | rfl | (simp; done) | (simp [*]; done)), (by first | rfl | (simp; done) | (simp [*]; done)), H', ⟨Nat.le_refl _⟩, ⟨by (with_reducible repeat (first | refine zi ?_ _ | refine zk ?_ | refine zj ?_ _)); exact BK272.out⟩, ⟨by repeat (first | (with_reducible first | exact HB.out | apply zf | apply zd | apply ze | refine zg ?_ GE272.out) | exact HB.out)⟩⟩
      case round =>
        clear H'
        try clear c1
        try clear c2
        try clear p2
        try clear c3
        try clear c5
        try clear c5b0
        try clear c5b1
        try clear c6
        try clear c6b0
        try clear c6b1
        try clear c6b2
        try clear hcz11_0
        try clear hcz11_1
        try clear hcz11_2
        try clear hcz11_3
        try clear hcz11_4
        try clear hcz11_5
        try clear hcz9_0
        try clear hcz9_1
        try clear hcz9_2
        try clear hcz9_3
        try clear hcz9_4
        try clear hcz9_5
        try clear hfz11_0
        try clear hfz11_1
        try clear hfz11_2
        try clear hfz11_3
        try clear hfz11_4
        try clear hfz11_5
        try clear hfz9_0
        try clear hfz9_1
        try clear hfz9_2
        try clear hfz9_3
        try clear hfz9_4
        try clear hfz9_5
        obtain ⟨x9_1, x10_1, rfl, rfl, HA, HK1, BK272, HB⟩ := hrel
        cases gk with
        | zero => exact absurd HA.out (by simp [zH.l0])
        | succ k1 =>
          have H := HA.out
          clear HA
          simp only [zH.l0] at H
          by_cases c13 : x10_1 < (l2_2.length : Int)
          · rw [if_pos c13] at H
            have c13b0 : decide (x10_1 < (l2_2.length : Int)) = true := decide_eq_true c13
            clear c13
            by_cases c14 : 0 ≤ x10_1
            · rw [if_pos c14] at H
              have c14b0 : decide (0 ≤ x10_1) = true := decide_eq_true c14
              clear c14
              replace H := Option.bind_eq_some_iff.mp H
              obtain ⟨⟨t277, t278⟩, A150, H⟩ := H
              replace H : (if 1 + t277.size ≤ 9223372036854775807 then ((zW.f k1 l1 ((zQ l2_2 x10_1).f0) ((⟨#[111]⟩ : ByteArray) ++ t277)).bind fun t280 => (if x9_1 = true then (zH.l0 k1 l1 t280 (wrap64 (x10_1 + 1)) a2_0 a2_1 l2_2 l2_3 a2_4 a2_5) else (zH.l0 k1 l1 false (wrap64 (x10_1 + 1)) a2_0 a2_1 l2_2 l2_3 a2_4 a2_5))) else (none)) = some r := H
              have A15 := zc.mk A150
              clear A150
              by_cases c16 : 1 + t277.size ≤ 9223372036854775807
              · rw [if_pos c16] at H
                have c16b0 := eq_true c16
                have c16b1 : decide (1 + t277.size ≤ 9223372036854775807) = true := decide_eq_true c16
                try have c16b2 : (9223372036854775807 < 1 + t277.size) = False := eq_false (Nat.not_lt.2 c16)
                replace H := Option.bind_eq_some_iff.mp H
                obtain ⟨t280, A170, H⟩ := H
                replace H : (if x9_1 = true then (zH.l0 k1 l1 t280 (wrap64 (x10_1 + 1)) a2_0 a2_1 l2_2 l2_3 a2_4 a2_5) else (zH.l0 k1 l1 false (wrap64 (x10_1 + 1)) a2_0 a2_1 l2_2 l2_3 a2_4 a2_5)) = some r := H
                have A17 := zc.mk A170
                clear A170
                by_cases c18 : x9_1 = true
                · subst c18
                  have H1 : (zH.l0 k1 l1 t280 (wrap64 (x10_1 + 1)) a2_0 a2_1 l2_2 l2_3 a2_4 a2_5) = some r := by rw [if_pos rfl] at H; exact H
                  clear H
                  have H := H1
                  clear H1
                  have H' := zc.mk H
                  clear H
                  have hcz19_0 : wr.cell? ⟨gb272, 0, none⟩ = some (.int .i64 a2_0) := (zb BK272.out 0).trans rfl
                  have hcz19_1 : wr.cell? ⟨gb272, 1, none⟩ = some (.int .i64 a2_1) := (zb BK272.out 1).trans rfl
                  have hcz19_2 : wr.cell? ⟨gb272, 2, none⟩ = some (.slice A2_2 l2_2.length c2_2) := (zb BK272.out 2).trans rfl
                  have hcz19_3 : wr.cell? ⟨gb272, 3, none⟩ = some (.slice A2_3 l2_3.length c2_3) := (zb BK272.out 3).trans rfl
                  have hcz19_4 : wr.cell? ⟨gb272, 4, none⟩ = some (.int .i64 a2_4) := (zb BK272.out 4).trans rfl
                  have hcz19_5 : wr.cell? ⟨gb272, 5, none⟩ = some (.int .i64 a2_5) := (zb BK272.out 5).trans rfl
                  have hfz19_0 := za BK272.out 0
                  have hfz19_1 := za BK272.out 1
                  have hfz19_2 := za BK272.out 2
                  have hfz19_3 := za BK272.out 3
                  have hfz19_4 := za BK272.out 4
                  have hfz19_5 := za BK272.out 5
                  have p276 : 0 ≤ (x10_1 : Int) := of_decide_eq_true (by first | (with_reducible assumption) | assumption)
                  have q276 : x10_1 < (l2_2.length : Int) := of_decide_eq_true (by first | (with_reducible assumption) | assumption)
                  obtain ⟨ad276, A276_2, c276_2, e276, hx276_0, hx276_1, hx276_2, hl276_2, hi276_2⟩ := zbI HR2_2.out x10_1 p276 q276
                  cases e276
                  replace hx276_0 := (HB.out.cell (World.block_lt_of_cell? w _ hx276_0)).trans hx276_0
                  replace hx276_1 := (HB.out.cell (World.block_lt_of_cell? w _ hx276_1)).trans hx276_1
                  replace hx276_2 := (HB.out.cell (World.block_lt_of_cell? w _ hx276_2)).trans hx276_2
                  have HR276_2 := zc.mk hi276_2
                  have HC276_2 := zc.mk hl276_2
                  clear hi276_2 hl276_2
                  replace p276 := eq_true p276
                  replace q276 := eq_true q276
                  go_wp2_with (first | ((with_reducible refine zr (f := 35) rfl ?_); refine zR (some 42) rfl rfl Try.func35 (by kernel_rfl) rfl #[.agg #[.int .i64 ((zQ l2_2 x10_1).f0), .int .i64 ((zQ l2_2 x10_1).f1), .slice A276_2 ((zQ l2_2 x10_1).f2).length c276_2]] rfl (by (try simp only [List.map_toArray, List.map_cons, List.map_nil]); first | done | rfl | (simp only [List.length_drop, List.length_take]; rfl)) ?_; (with_reducible refine (zaO.calls k1 ((zQ l2_2 x10_1).f0) ((zQ l2_2 x10_1).f1) _ _ ((zQ l2_2 x10_1).f2) t277 t278 _ ?side1 ?side2 A15.out).mono ?_); (case side1 => repeat (first | exact (Kd.C_below HR276_2.out HB.out) | (with_reducible refine Kd.C_alloc ?_ _) | (with_reducible refine Kd.C_drewN ?_ _) | (with_reducible refine Kd.C_drew ?_))); (case side2 => exact HC276_2.out); rintro e w20 ⟨rfl, hb⟩; refine ⟨_, rfl, ?_⟩; have n0_ := zc.mk (zl (g := gb272) (o := .cells #[.int .i64 a2_0, .int .i64 a2_1, .slice (some ad276) l2_2.length c2_2, .slice A2_3 l2_3.length c2_3, .int .i64 a2_4, .int .i64 a2_5] 31 (0, 0)) (by (with_reducible repeat (first | refine zi ?_ _ | refine zk ?_ | refine zj ?_ _)); exact BK272.out) hb); have n1_ := zc.mk (zh (by repeat (first | (with_reducible first | exact HB.out | apply zf | apply zd | apply ze | refine zg ?_ GE272.out) | exact HB.out)) hb); clear BK272; clear HB; have BK272 := n0_; have HB := n1_; clear n0_ n1_; (try clear hb); (try clear hb2); (try clear hk); (try clear hi); have hcz21_0 : w20.cell? ⟨gb272, 0, none⟩ = some (.int .i64 a2_0) := (zb BK272.out 0).trans rfl; have hcz21_1 : w20.cell? ⟨gb272, 1, none⟩ = some (.int .i64 a2_1) := (zb BK272.out 1).trans rfl; have hcz21_2 : w20.cell? ⟨gb272, 2, none⟩ = some (.slice (some ad276) l2_2.length c2_2) := (zb BK272.out 2).trans rfl; have hcz21_3 : w20.cell? ⟨gb272, 3, none⟩ = some (.slice A2_3 l2_3.length c2_3) := (zb BK272.out 3).trans rfl; have hcz21_4 : w20.cell? ⟨gb272, 4, none⟩ = some (.int .i64 a2_4) := (zb BK272.out 4).trans rfl; have hcz21_5 : w20.cell? ⟨gb272, 5, none⟩ = some (.int .i64 a2_5) := (zb BK272.out 5).trans rfl; have hfz21_0 := za BK272.out 0; have hfz21_1 := za BK272.out 1; have hfz21_2 := za BK272.out 2; have hfz21_3 := za BK272.out 3; have hfz21_4 := za BK272.out 4; have hfz21_5 := za BK272.out 5; have p279 : 0 ≤ (x10_1 : Int) := of_decide_eq_true (by first | (with_reducible assumption) | assumption); have q279 : x10_1 < (l2_2.length : Int) := of_decide_eq_true (by first | (with_reducible assumption) | assumption); obtain ⟨ad279, A279_2, c279_2, e279, hx279_0, hx279_1, hx279_2, hl279_2, hi279_2⟩ := zbI HR2_2.out x10_1 p279 q279; obtain rfl : ad276 = ad279 := (by injection e279); replace hx279_0 := (HB.out.cell (World.block_lt_of_cell? w _ hx279_0)).trans hx279_0; replace hx279_1 := (HB.out.cell (World.block_lt_of_cell? w _ hx279_1)).trans hx279_1; replace hx279_2 := (HB.out.cell (World.block_lt_of_cell? w _ hx279_2)).trans hx279_2; have HR279_2 := zc.mk hi279_2; have HC279_2 := zc.mk hl279_2; clear hi279_2 hl279_2; replace p279 := eq_true p279; replace q279 := eq_true q279) | ((with_reducible refine zr (f := 32) rfl ?_); refine zR (some 55) rfl rfl Try.func32 (by kernel_rfl) rfl #[.slice A1 l1.length c1, .agg #[.int .i64 ((zQ l2_2 x10_1).f0), .string ((⟨#[111]⟩ : ByteArray) ++ t277)]] rfl (by (try simp only [List.map_toArray, List.map_cons, List.map_nil]); first | done | rfl | (simp only [List.length_drop, List.length_take]; rfl)) ?_; (with_reducible refine (zW.calls k1 _ _ l1 ((zQ l2_2 x10_1).f0) ((⟨#[111]⟩ : ByteArray) ++ t277) t280 _ ?side1 ?side2 A17.out).mono ?_); (case side1 => repeat (first | exact (Kd.C_below HR1.out HB.out) | (with_reducible refine Kd.C_alloc ?_ _) | (with_reducible refine Kd.C_drewN ?_ _) | (with_reducible refine Kd.C_drew ?_))); (case side2 => exact HC1.out); rintro e w22 ⟨rfl, hb⟩; refine ⟨_, rfl, ?_⟩; have n0_ := zc.mk (zl (g := gb272) (o := .cells #[.int .i64 a2_0, .int .i64 a2_1, .slice (some ad276) l2_2.length c2_2, .slice A2_3 l2_3.length c2_3, .int .i64 a2_4, .int .i64 a2_5] 31 (0, 0)) (by (with_reducible repeat (first | refine zi ?_ _ | refine zk ?_ | refine zj ?_ _)); exact BK272.out) hb); have n1_ := zc.mk (zh (by repeat (first | (with_reducible first | exact HB.out | apply zf | apply zd | apply ze | refine zg ?_ GE272.out) | exact HB.out)) hb); clear BK272; clear HB; have BK272 := n0_; have HB := n1_; clear n0_ n1_; (try clear hb); (try clear hb2); (try clear hk); (try clear hi)))
                  go_roundg k1
                  case measure => have := HK1.out; omega
                  case rel => exact ⟨(t280), (wrap64 (x10_1 + 1)), (by first | rfl | (simp; done) | (simp [*]; done)), (by first | rfl | (simp; done) | (simp [*]; done)), H', ⟨by have := HK1.out; omega⟩, ⟨by (with_reducible repeat (first | refine zi ?_ _ | refine zk ?_ | refine zj ?_ _)); exact BK272.out⟩, ⟨by repeat (first | (with_reducible first | exact HB.out | apply zf | apply zd | apply ze | refine zg ?_ GE272.out) | exact HB.out)⟩⟩
                · replace c18 := Bool.eq_false_iff.mpr c18
                  subst c18
                  have H1 : (zH.l0 k1 l1 false (wrap64 (x10_1 + 1)) a2_0 a2_1 l2_2 l2_3 a2_4 a2_5) = some r := by rw [if_neg (show ¬ (false = true) by decide)] at H; exact H
                  clear H
                  have H := H1
                  clear H1
                  have H' := zc.mk H
                  clear H
                  have hcz23_0 : wr.cell? ⟨gb272, 0, none⟩ = some (.int .i64 a2_0) := (zb BK272.out 0).trans rfl
                  have hcz23_1 : wr.cell? ⟨gb272, 1, none⟩ = some (.int .i64 a2_1) := (zb BK272.out 1).trans rfl
                  have hcz23_2 : wr.cell? ⟨gb272, 2, none⟩ = some (.slice A2_2 l2_2.length c2_2) := (zb BK272.out 2).trans rfl
                  have hcz23_3 : wr.cell? ⟨gb272, 3, none⟩ = some (.slice A2_3 l2_3.length c2_3) := (zb BK272.out 3).trans rfl
                  have hcz23_4 : wr.cell? ⟨gb272, 4, none⟩ = some (.int .i64 a2_4) := (zb BK272.out 4).trans rfl
                  have hcz23_5 : wr.cell? ⟨gb272, 5, none⟩ = some (.int .i64 a2_5) := (zb BK272.out 5).trans rfl
                  have hfz23_0 := za BK272.out 0
                  have hfz23_1 := za BK272.out 1
                  have hfz23_2 := za BK272.out 2
                  have hfz23_3 := za BK272.out 3
                  have hfz23_4 := za BK272.out 4
                  have hfz23_5 := za BK272.out 5
                  have p276 : 0 ≤ (x10_1 : Int) := of_decide_eq_true (by first | (with_reducible assumption) | assumption)
                  have q276 : x10_1 < (l2_2.length : Int) := of_decide_eq_true (by first | (with_reducible assumption) | assumption)
                  obtain ⟨ad276, A276_2, c276_2, e276, hx276_0, hx276_1, hx276_2, hl276_2, hi276_2⟩ := zbI HR2_2.out x10_1 p276 q276
                  cases e276
                  replace hx276_0 := (HB.out.cell (World.block_lt_of_cell? w _ hx276_0)).trans hx276_0
                  replace hx276_1 := (HB.out.cell (World.block_lt_of_cell? w _ hx276_1)).trans hx276_1
                  replace hx276_2 := (HB.out.cell (World.block_lt_of_cell? w _ hx276_2)).trans hx276_2
                  have HR276_2 := zc.mk hi276_2
                  have HC276_2 := zc.mk hl276_2
                  clear hi276_2 hl276_2
                  replace p276 := eq_true p276
                  replace q276 := eq_true q276
                  go_wp2_with (first | ((with_reducible refine zr (f := 35) rfl ?_); refine zR (some 42) rfl rfl Try.func35 (by kernel_rfl) rfl #[.agg #[.int .i64 ((zQ l2_2 x10_1).f0), .int .i64 ((zQ l2_2 x10_1).f1), .slice A276_2 ((zQ l2_2 x10_1).f2).length c276_2]] rfl (by (try simp only [List.map_toArray, List.map_cons, List.map_nil]); first | done | rfl | (simp only [List.length_drop, List.length_take]; rfl)) ?_; (with_reducible refine (zaO.calls k1 ((zQ l2_2 x10_1).f0) ((zQ l2_2 x10_1).f1) _ _ ((zQ l2_2 x10_1).f2) t277 t278 _ ?side1 ?side2 A15.out).mono ?_); (case side1 => repeat (first | exact (Kd.C_below HR276_2.out HB.out) | (with_reducible refine Kd.C_alloc ?_ _) | (with_reducible refine Kd.C_drewN ?_ _) | (with_reducible refine Kd.C_drew ?_))); (case side2 => exact HC276_2.out); rintro e w24 ⟨rfl, hb⟩; refine ⟨_, rfl, ?_⟩; have n0_ := zc.mk (zl (g := gb272) (o := .cells #[.int .i64 a2_0, .int .i64 a2_1, .slice (some ad276) l2_2.length c2_2, .slice A2_3 l2_3.length c2_3, .int .i64 a2_4, .int .i64 a2_5] 31 (0, 0)) (by (with_reducible repeat (first | refine zi ?_ _ | refine zk ?_ | refine zj ?_ _)); exact BK272.out) hb); have n1_ := zc.mk (zh (by repeat (first | (with_reducible first | exact HB.out | apply zf | apply zd | apply ze | refine zg ?_ GE272.out) | exact HB.out)) hb); clear BK272; clear HB; have BK272 := n0_; have HB := n1_; clear n0_ n1_; (try clear hb); (try clear hb2); (try clear hk); (try clear hi); have hcz25_0 : w24.cell? ⟨gb272, 0, none⟩ = some (.int .i64 a2_0) := (zb BK272.out 0).trans rfl; have hcz25_1 : w24.cell? ⟨gb272, 1, none⟩ = some (.int .i64 a2_1) := (zb BK272.out 1).trans rfl; have hcz25_2 : w24.cell? ⟨gb272, 2, none⟩ = some (.slice (some ad276) l2_2.length c2_2) := (zb BK272.out 2).trans rfl; have hcz25_3 : w24.cell? ⟨gb272, 3, none⟩ = some (.slice A2_3 l2_3.length c2_3) := (zb BK272.out 3).trans rfl; have hcz25_4 : w24.cell? ⟨gb272, 4, none⟩ = some (.int .i64 a2_4) := (zb BK272.out 4).trans rfl; have hcz25_5 : w24.cell? ⟨gb272, 5, none⟩ = some (.int .i64 a2_5) := (zb BK272.out 5).trans rfl; have hfz25_0 := za BK272.out 0; have hfz25_1 := za BK272.out 1; have hfz25_2 := za BK272.out 2; have hfz25_3 := za BK272.out 3; have hfz25_4 := za BK272.out 4; have hfz25_5 := za BK272.out 5; have p279 : 0 ≤ (x10_1 : Int) := of_decide_eq_true (by first | (with_reducible assumption) | assumption); have q279 : x10_1 < (l2_2.length : Int) := of_decide_eq_true (by first | (with_reducible assumption) | assumption); obtain ⟨ad279, A279_2, c279_2, e279, hx279_0, hx279_1, hx279_2, hl279_2, hi279_2⟩ := zbI HR2_2.out x10_1 p279 q279; obtain rfl : ad276 = ad279 := (by injection e279); replace hx279_0 := (HB.out.cell (World.block_lt_of_cell? w _ hx279_0)).trans hx279_0; replace hx279_1 := (HB.out.cell (World.block_lt_of_cell? w _ hx279_1)).trans hx279_1; replace hx279_2 := (HB.out.cell (World.block_lt_of_cell? w _ hx279_2)).trans hx279_2; have HR279_2 := zc.mk hi279_2; have HC279_2 := zc.mk hl279_2; clear hi279_2 hl279_2; replace p279 := eq_true p279; replace q279 := eq_true q279) | ((with_reducible refine zr (f := 32) rfl ?_); refine zR (some 55) rfl rfl Try.func32 (by kernel_rfl) rfl #[.slice A1 l1.length c1, .agg #[.int .i64 ((zQ l2_2 x10_1).f0), .string ((⟨#[111]⟩ : ByteArray) ++ t277)]] rfl (by (try simp only [List.map_toArray, List.map_cons, List.map_nil]); first | done | rfl | (simp only [List.length_drop, List.length_take]; rfl)) ?_; (with_reducible refine (zW.calls k1 _ _ l1 ((zQ l2_2 x10_1).f0) ((⟨#[111]⟩ : ByteArray) ++ t277) t280 _ ?side1 ?side2 A17.out).mono ?_); (case side1 => repeat (first | exact (Kd.C_below HR1.out HB.out) | (with_reducible refine Kd.C_alloc ?_ _) | (with_reducible refine Kd.C_drewN ?_ _) | (with_reducible refine Kd.C_drew ?_))); (case side2 => exact HC1.out); rintro e w26 ⟨rfl, hb⟩; refine ⟨_, rfl, ?_⟩; have n0_ := zc.mk (zl (g := gb272) (o := .cells #[.int .i64 a2_0, .int .i64 a2_1, .slice (some ad276) l2_2.length c2_2, .slice A2_3 l2_3.length c2_3, .int .i64 a2_4, .int .i64 a2_5] 31 (0, 0)) (by (with_reducible repeat (first | refine zi ?_ _ | refine zk ?_ | refine zj ?_ _)); exact BK272.out) hb); have n1_ := zc.mk (zh (by repeat (first | (with_reducible first | exact HB.out | apply zf | apply zd | apply ze | refine zg ?_ GE272.out) | exact HB.out)) hb); clear BK272; clear HB; have BK272 := n0_; have HB := n1_; clear n0_ n1_; (try clear hb); (try clear hb2); (try clear hk); (try clear hi)))
                  go_roundg k1
                  case measure => have := HK1.out; omega
                  case rel => exact ⟨(false), (wrap64 (x10_1 + 1)), (by first | rfl | (simp; done) | (simp [*]; done)), (by first | rfl | (simp; done) | (simp [*]; done)), H', ⟨by have := HK1.out; omega⟩, ⟨by (with_reducible repeat (first | refine zi ?_ _ | refine zk ?_ | refine zj ?_ _)); exact BK272.out⟩, ⟨by repeat (first | (with_reducible first | exact HB.out | apply zf | apply zd | apply ze | refine zg ?_ GE272.out) | exact HB.out)⟩⟩
              · rw [if_neg c16] at H
                exact absurd H (by simp)
            · rw [if_neg c14] at H
              exact absurd H (by simp)
          · rw [if_neg c13] at H
            have c13b0 : decide (x10_1 < (l2_2.length : Int)) = false := decide_eq_false c13
            clear c13
            by_cases c27 : x9_1 = true
            · subst c27
              have H1 : (some 0) = some r := by rw [if_pos rfl] at H; exact H
              clear H
              have H := H1
              clear H1
              obtain rfl := Option.some.inj H
              have hcz28_0 : wr.cell? ⟨gb272, 0, none⟩ = some (.int .i64 a2_0) := (zb BK272.out 0).trans rfl
              have hcz28_1 : wr.cell? ⟨gb272, 1, none⟩ = some (.int .i64 a2_1) := (zb BK272.out 1).trans rfl
              have hcz28_2 : wr.cell? ⟨gb272, 2, none⟩ = some (.slice A2_2 l2_2.length c2_2) := (zb BK272.out 2).trans rfl
              have hcz28_3 : wr.cell? ⟨gb272, 3, none⟩ = some (.slice A2_3 l2_3.length c2_3) := (zb BK272.out 3).trans rfl
              have hcz28_4 : wr.cell? ⟨gb272, 4, none⟩ = some (.int .i64 a2_4) := (zb BK272.out 4).trans rfl
              have hcz28_5 : wr.cell? ⟨gb272, 5, none⟩ = some (.int .i64 a2_5) := (zb BK272.out 5).trans rfl
              have hfz28_0 := za BK272.out 0
              have hfz28_1 := za BK272.out 1
              have hfz28_2 := za BK272.out 2
              have hfz28_3 := za BK272.out 3
              have hfz28_4 := za BK272.out 4
              have hfz28_5 := za BK272.out 5
              go_wp2
              go_ret
              exact ⟨by first | rfl | (simp [zn, zo] <;> rfl) | (simp [*, zn, zo] <;> rfl), by repeat (first | (with_reducible first | exact HB.out | apply zf | apply zd | apply ze | refine zg ?_ GE272.out) | exact HB.out)⟩
            · replace c27 := Bool.eq_false_iff.mpr c27
              subst c27
              have H1 : (some 10) = some r := by rw [if_neg (show ¬ (false = true) by decide)] at H; exact H
              clear H
              have H := H1
              clear H1
              obtain rfl := Option.some.inj H
              have hcz29_0 : wr.cell? ⟨gb272, 0, none⟩ = some (.int .i64 a2_0) := (zb BK272.out 0).trans rfl
              have hcz29_1 : wr.cell? ⟨gb272, 1, none⟩ = some (.int .i64 a2_1) := (zb BK272.out 1).trans rfl
              have hcz29_2 : wr.cell? ⟨gb272, 2, none⟩ = some (.slice A2_2 l2_2.length c2_2) := (zb BK272.out 2).trans rfl
              have hcz29_3 : wr.cell? ⟨gb272, 3, none⟩ = some (.slice A2_3 l2_3.length c2_3) := (zb BK272.out 3).trans rfl
              have hcz29_4 : wr.cell? ⟨gb272, 4, none⟩ = some (.int .i64 a2_4) := (zb BK272.out 4).trans rfl
              have hcz29_5 : wr.cell? ⟨gb272, 5, none⟩ = some (.int .i64 a2_5) := (zb BK272.out 5).trans rfl
              have hfz29_0 := za BK272.out 0
              have hfz29_1 := za BK272.out 1
              have hfz29_2 := za BK272.out 2
              have hfz29_3 := za BK272.out 3
              have hfz29_4 := za BK272.out 4
              have hfz29_5 := za BK272.out 5
              go_wp2
              go_ret
              exact ⟨by first | rfl | (simp [zn, zo] <;> rfl) | (simp [*, zn, zo] <;> rfl), by repeat (first | (with_reducible first | exact HB.out | apply zf | apply zd | apply ze | refine zg ?_ GE272.out) | exact HB.out)⟩
    · rw [if_neg c6] at H
      exact absurd H (by simp)
  · rw [if_neg c5] at H
    have c5b0 : (t274 == 0) = false := beq_eq_false_iff_ne.mpr c5
    have c5b1 : (t274 != 0) = true := bne_iff_ne.mpr c5
    obtain rfl := Option.some.inj H
    go_enter Try.func22, Try.ntmps22
    go_wp2_with (first | ((with_reducible refine zA (N := 5) rfl ?_); refine zt ?hg (N := 5) ?hd (cs := #[.int .i64 a2_0, .int .i64 a2_1, .slice A2_2 l2_2.length c2_2, .slice A2_3 l2_3.length c2_3, .int .i64 a2_4, .int .i64 a2_5]) (t := 31) ?hr ?_; (case hd => rfl); (case hg => rfl); (case hr => first | (go_simp; done) | (go_simp; rfl)); intro gb272 hg w30 hbox hb; have n0_ := zc.mk (zh (by repeat (first | (with_reducible first | exact HB.out | apply zf | apply zd | apply ze) | exact HB.out)) hb); have n1_ := zc.mk (hbox); have n2_ := zc.mk ((by rw [hg]; exact (zp (by repeat (first | (with_reducible first | exact HB.out | apply zf | apply zd | apply ze) | exact HB.out))) : w.heap.size ≤ gb272)); have n3_ := zc.mk ((by rw [hg]; exact (zp (by repeat (first | (with_reducible first | exact HB.out | apply zf | apply zd | apply ze) | exact HB.out))) : w.heap.size ≤ gb272)); clear HB; have HB := n0_; have BK272 := n1_; have GW272 := n2_; have GE272 := n3_; clear n0_ n1_ n2_ n3_; clear hb hbox hg; have hcz31_0 : w30.cell? ⟨gb272, 0, none⟩ = some (.int .i64 a2_0) := (zb BK272.out 0).trans rfl; have hcz31_1 : w30.cell? ⟨gb272, 1, none⟩ = some (.int .i64 a2_1) := (zb BK272.out 1).trans rfl; have hcz31_2 : w30.cell? ⟨gb272, 2, none⟩ = some (.slice A2_2 l2_2.length c2_2) := (zb BK272.out 2).trans rfl; have hcz31_3 : w30.cell? ⟨gb272, 3, none⟩ = some (.slice A2_3 l2_3.length c2_3) := (zb BK272.out 3).trans rfl; have hcz31_4 : w30.cell? ⟨gb272, 4, none⟩ = some (.int .i64 a2_4) := (zb BK272.out 4).trans rfl; have hcz31_5 : w30.cell? ⟨gb272, 5, none⟩ = some (.int .i64 a2_5) := (zb BK272.out 5).trans rfl; have hfz31_0 := za BK272.out 0; have hfz31_1 := za BK272.out 1; have hfz31_2 := za BK272.out 2; have hfz31_3 := za BK272.out 3; have hfz31_4 := za BK272.out 4; have hfz31_5 := za BK272.out 5) | ((with_reducible refine zr (f := 15) rfl ?_); refine zR (some 17) rfl rfl Try.func15 (by kernel_rfl) rfl #[.agg #[.int .i64 a2_0, .int .i64 a2_1, .slice A2_2 l2_2.length c2_2, .slice A2_3 l2_3.length c2_3, .int .i64 a2_4, .int .i64 a2_5], .int .i64 a0] rfl (by (try simp only [List.map_toArray, List.map_cons, List.map_nil]); first | done | rfl | (simp only [List.length_drop, List.length_take]; rfl)) ?_; (with_reducible refine (zY.calls k a2_0 a2_1 _ _ l2_2 _ _ l2_3 a2_4 a2_5 a0 t273 t274 _ ?side1 ?side2 ?side3 ?side4 A4.out).mono ?_); (case side1 => repeat (first | exact (Kd.C_below HR2_2.out HB.out) | (with_reducible refine Kd.C_alloc ?_ _) | (with_reducible refine Kd.C_drewN ?_ _) | (with_reducible refine Kd.C_drew ?_))); (case side2 => exact HC2_2.out); (case side3 => repeat (first | exact (Kd.C_below HR2_3.out HB.out) | (with_reducible refine Kd.C_alloc ?_ _) | (with_reducible refine Kd.C_drewN ?_ _) | (with_reducible refine Kd.C_drew ?_))); (case side4 => exact HC2_3.out); rintro e w32 ⟨rfl, hb⟩; refine ⟨_, rfl, ?_⟩; have n0_ := zc.mk (zl (g := gb272) (o := .cells #[.int .i64 a2_0, .int .i64 a2_1, .slice A2_2 l2_2.length c2_2, .slice A2_3 l2_3.length c2_3, .int .i64 a2_4, .int .i64 a2_5] 31 (0, 0)) (by (with_reducible repeat (first | refine zi ?_ _ | refine zk ?_ | refine zj ?_ _)); exact BK272.out) hb); have n1_ := zc.mk (zh (by repeat (first | (with_reducible first | exact HB.out | apply zf | apply zd | apply ze | refine zg ?_ GE272.out) | exact HB.out)) hb); clear BK272; clear HB; have BK272 := n0_; have HB := n1_; clear n0_ n1_; (try clear hb); (try clear hb2); (try clear hk); (try clear hi)))
    go_ret
    exact ⟨by first | rfl | (simp [zn, zo] <;> rfl) | (simp [*, zn, zo] <;> rfl), by repeat (first | (with_reducible first | exact HB.out | apply zf | apply zd | apply ze | refine zg ?_ GE272.out) | exact HB.out)⟩
end Go.Proofs.Ytlabjgcoopdbiaa.Px

namespace Go.Proofs.Ytlabjgcoopdbiaa.Px
open Go.RowKit Go.Proofs.YtlabjgcoopdbiaaW.PrintWords Go.Proofs.YtlabjgcoopdbiaaW.PrintLast Go.Proofs.YtlabjgcoopdbiaaW.PrintMore
attribute [local go_sem] zC zE zK zL zw zx zD zF
set_option linter.unusedVariables false
set_option linter.unusedSimpArgs false
def zay.f (a0 : ByteArray) : Option (ByteArray) := if 1 + a0.size ≤ 9223372036854775807 then (some ((⟨#[121]⟩ : ByteArray) ++ a0)) else (none)
set_option maxHeartbeats 8000000 in
set_option maxRecDepth 100000 in
theorem zay.calls (a0 : ByteArray) (r : ByteArray) (w : World) (h : zay.f a0 = some r) :
    Calls Try.prog 19 #[.string a0] w fun e w' => e = .returned (.string r) ∧ zG w w' := by
  have H : (if 1 + a0.size ≤ 9223372036854775807 then (some ((⟨#[121]⟩ : ByteArray) ++ a0)) else (none)) = some r := h
  clear h
  by_cases c2 : 1 + a0.size ≤ 9223372036854775807
  · rw [if_pos c2] at H
    have c2b0 := eq_true c2
    have c2b1 : decide (1 + a0.size ≤ 9223372036854775807) = true := decide_eq_true c2
    try have c2b2 : (9223372036854775807 < 1 + a0.size) = False := eq_false (Nat.not_lt.2 c2)
    obtain rfl := Option.some.inj H
    go_enter Try.func19, Try.ntmps19
    go_wp2
    go_ret
    exact ⟨by first | rfl | (simp; done) | (simp [*]; done), by repeat (first | exact zG.refl _ | apply zG.step)⟩
  · rw [if_neg c2] at H
    exact absurd H (by simp)
end Go.Proofs.Ytlabjgcoopdbiaa.Px
