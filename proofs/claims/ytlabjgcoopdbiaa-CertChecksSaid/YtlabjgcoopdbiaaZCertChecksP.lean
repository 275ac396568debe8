/- Part 16 of 32 of the proof of the law CertChecks: what is proved is the statement at the end of the last part; its conditions are those of the given row. -/
import Derived.Test.YtlabjgcoopdbiaaZCertChecksJ
import Derived.Test.YtlabjgcoopdbiaaZCertChecksL
namespace Go.Proofs.Ytlabjgcoopdbiaa.Px
open Go.RowKit Go.Proofs.YtlabjgcoopdbiaaW.PrintWords Go.Proofs.YtlabjgcoopdbiaaW.PrintLast Go.Proofs.YtlabjgcoopdbiaaW.PrintMore
attribute [local go_sem] zC zE zK zL zw zx zD zF
set_option linter.unusedVariables false
set_option linter.unusedSimpArgs false
def zbJ.f (a0_0 : Int) (a0_1 : Int) (l0_2 : List ByteArray) : Option (ByteArray × Int) := (zaB.f a0_0 a0_1 l0_2).bind fun bt246 => (if bt246.2 = 0 then (if 1 + bt246.1.size ≤ 9223372036854775807 then ((zbA.f ((⟨#[98]⟩ : ByteArray) ++ bt246.1)).bind fun t248 => (some (t248, 0))) else (none)) else (some ((⟨#[]⟩ : ByteArray), bt246.2)))
set_option maxHeartbeats 8000000 in
set_option maxRecDepth 100000 in
theorem zbJ.calls (a0_0 : Int) (a0_1 : Int) (A0_2 : Option Addr) (c0_2 : Nat) (l0_2 : List ByteArray) (r1 : ByteArray) (r2 : Int) (w : World) (hr0_2 : Kd.C Kd.string w A0_2 l0_2.length l0_2) (hc0_2 : l0_2.length ≤ c0_2) (h : zbJ.f a0_0 a0_1 l0_2 = some (r1, r2)) :
    Calls Try.prog 33 #[.agg #[.int .i64 a0_0, .int .i64 a0_1, .slice A0_2 l0_2.length c0_2]] w fun e w' => e = .returned (.tuple #[.string r1, .int .i64 r2]) ∧ Below w.heap.size w w' := by
  have hu68 := Try.underlying68
  have HR0_2 := zc.mk hr0_2
  have HC0_2 := zc.mk hc0_2
  clear hr0_2 hc0_2
  have HB := zc.mk (Below.refl w.heap.size w)
  have H : ((zaB.f a0_0 a0_1 l0_2).bind fun bt246 => (if bt246.2 = 0 then (if 1 + bt246.1.size ≤ 9223372036854775807 then ((zbA.f ((⟨#[98]⟩ : ByteArray) ++ bt246.1)).bind fun t248 => (some (t248, 0))) else (none)) else (some ((⟨#[]⟩ : ByteArray), bt246.2)))) = some (r1, r2) := h
  clear h
  replace H := Option.bind_eq_some_iff.mp H
  obtain ⟨⟨t246, t247⟩, A20, H⟩ := H
  replace H : (if t247 = 0 then (if 1 + t246.size ≤ 9223372036854775807 then ((zbA.f ((⟨#[98]⟩ : ByteArray) ++ t246)).bind fun t248 => (some (t248, 0))) else (none)) else (some ((⟨#[]⟩ : ByteArray), t247))) = some (r1, r2) := H
  have A2 := zc.mk A20
  clear A20
  by_cases c3 : t247 = 0
  · rw [if_pos c3] at H
    have c3b0 : (t247 == 0) = true := beq_iff_eq.mpr c3
    have c3b1 : (t247 != 0) = false := bne_eq_false_iff_eq.mpr c3
    clear c3
    by_cases c4 : 1 + t246.size ≤ 9223372036854775807
    · rw [if_pos c4] at H
      have c4b0 := eq_true c4
      have c4b1 : decide (1 + t246.size ≤ 9223372036854775807) = true := decide_eq_true c4
      try have c4b2 : (9223372036854775807 < 1 + t246.size) = False := eq_false (Nat.not_lt.2 c4)
      replace H := Option.bind_eq_some_iff.mp H
      obtain ⟨t248, A50, H⟩ := H
      replace H : (some (t248, 0)) = some (r1, r2) := H
      have A5 := zc.mk A50
      clear A50
      simp only [Option.some.injEq, Prod.mk.injEq] at H
      obtain ⟨rfl, rfl⟩ := H
      go_enter Try.func33, Try.ntmps33
      go_wp2_with (first | ((with_reducible refine zA (N := 1) rfl ?_); refine zt ?hg (N := 1) ?hd (cs := #[.int .i64 a0_0, .int .i64 a0_1, .slice A0_2 l0_2.length c0_2]) (t := 68) ?hr ?_; (case hd => rfl); (case hg => rfl); (case hr => first | (go_simp; done) | (go_simp; rfl)); intro gb245 hg w6 hbox hb; have n0_ := zc.mk (zh (by repeat (first | (with_reducible first | exact HB.out | apply zf | apply zd | apply ze) | exact HB.out)) hb); have n1_ := zc.mk (hbox); have n2_ := zc.mk ((by rw [hg]; exact (zp (by repeat (first | (with_reducible first | exact HB.out | apply zf | apply zd | apply ze) | exact HB.out))) : w.heap.size ≤ gb245)); have n3_ := zc.mk ((by rw [hg]; exact (zp (by repeat (first | (with_reducible first | exact HB.out | apply zf | apply zd | apply ze) | exact HB.out))) : w.heap.size ≤ gb245)); clear HB; have HB := n0_; have BK245 := n1_; have GW245 := n2_; have GE245 := n3_; clear n0_ n1_ n2_ n3_; clear hb hbox hg; have hcz7_0 : w6.cell? ⟨gb245, 0, none⟩ = some (.int .i64 a0_0) := (zb BK245.out 0).trans rfl; have hcz7_1 : w6.cell? ⟨gb245, 1, none⟩ = some (.int .i64 a0_1) := (zb BK245.out 1).trans rfl; have hcz7_2 : w6.cell? ⟨gb245, 2, none⟩ = some (.slice A0_2 l0_2.length c0_2) := (zb BK245.out 2).trans rfl; have hfz7_0 := za BK245.out 0; have hfz7_1 := za BK245.out 1; have hfz7_2 := za BK245.out 2) | ((with_reducible refine zr (f := 52) rfl ?_); refine zR (some 8) rfl rfl Try.func52 (by kernel_rfl) rfl #[.agg #[.int .i64 a0_0, .int .i64 a0_1, .slice A0_2 l0_2.length c0_2]] rfl (by (try simp only [List.map_toArray, List.map_cons, List.map_nil]); first | done | rfl | (simp only [List.length_drop, List.length_take]; rfl)) ?_; (with_reducible refine (zaB.calls a0_0 a0_1 _ _ l0_2 t246 t247 _ ?side1 ?side2 A2.out).mono ?_); (case side1 => repeat (first | exact (Kd.C_below HR0_2.out HB.out) | (with_reducible refine Kd.C_alloc ?_ _) | (with_reducible refine Kd.C_drewN ?_ _) | (with_reducible refine Kd.C_drew ?_))); (case side2 => exact HC0_2.out); rintro e w8 ⟨rfl, hb⟩; refine ⟨_, rfl, ?_⟩; have n0_ := zc.mk (zl (g := gb245) (o := .cells #[.int .i64 a0_0, .int .i64 a0_1, .slice A0_2 l0_2.length c0_2] 68 (0, 0)) (by (with_reducible repeat (first | refine zi ?_ _ | refine zk ?_ | refine zj ?_ _)); exact BK245.out) hb); have n1_ := zc.mk (zh (by repeat (first | (with_reducible first | exact HB.out | apply zf | apply zd | apply ze | refine zg ?_ GE245.out) | exact HB.out)) hb); clear BK245; clear HB; have BK245 := n0_; have HB := n1_; clear n0_ n1_; (try clear hb); (try clear hb2); (try clear hk); (try clear hi)) | ((with_reducible refine zr (f := 43) rfl ?_); refine zR (some 16) rfl rfl Try.func43 (by kernel_rfl) rfl #[.string ((⟨#[98]⟩ : ByteArray) ++ t246)] rfl (by (try simp only [List.map_toArray, List.map_cons, List.map_nil]); first | done | rfl | (simp only [List.length_drop, List.length_take]; rfl)) ?_; (with_reducible refine (zbA.calls ((⟨#[98]⟩ : ByteArray) ++ t246) t248 _ A5.out).mono ?_); rintro e w9 ⟨rfl, hb⟩; refine ⟨_, rfl, ?_⟩; have n0_ := zc.mk (zl (g := gb245) (o := .cells #[.int .i64 a0_0, .int .i64 a0_1, .slice A0_2 l0_2.length c0_2] 68 (0, 0)) (by (with_reducible repeat (first | refine zi ?_ _ | refine zk ?_ | refine zj ?_ _)); exact BK245.out) hb); have n1_ := zc.mk (zh (by repeat (first | (with_reducible first | exact HB.out | apply zf | apply zd | apply ze | refine zg ?_ GE245.out) | exact HB.out)) hb); clear BK245; clear HB; have BK245 := n0_; have HB := n1_; clear n0_ n1_; (try clear hb); (try clear hb2); (try clear hk); (try clear hi)))
      go_ret2
      exact ⟨by first | rfl | (simp [zn, zo] <;> rfl) | (simp [*, zn, zo] <;> rfl), by repeat (first | (with_reducible first | exact HB.out | apply zf | apply zd | apply ze | refine zg ?_ GE245.out) | exact HB.out)⟩
    · rw [if_neg c4] at H
      exact absurd H (by simp)
  · rw [if_neg c3] at H
    have c3b0 : (t247 == 0) = false := beq_eq_false_iff_ne.mpr c3
    have c3b1 : (t247 != 0) = true := bne_iff_ne.mpr c3
    simp only [Option.some.injEq, Prod.mk.injEq] at H
    obtain ⟨rfl, rfl⟩ := H
    go_enter Try.func33, Try.ntmps33
    go_wp2_with (first | ((with_reducible refine zA (N := 1) rfl ?_); refine zt ?hg (N := 1) ?hd (cs := #[.int .i64 a0_0, .int .i64 a0_1, .slice A0_2 l0_2.length c0_2]) (t := 68) ?hr ?_; (case hd => rfl); (case hg => rfl); (case hr => first | (go_simp; done) | (go_simp; rfl)); intro gb245 hg w10 hbox hb; have n0_ := zc.mk (zh (by repeat (first | (with_reducible first | exact HB.out | apply zf | apply zd | apply ze) | exact HB.out)) hb); have n1_ := zc.mk (hbox); have n2_ := zc.mk ((by rw [hg]; exact (zp (by repeat (first | (with_reducible first | exact HB.out | apply zf | apply zd | apply ze) | exact HB.out))) : w.heap.size ≤ gb245)); have n3_ := zc.mk ((by rw [hg]; exact (zp (by repeat (first | (with_reducible first | exact HB.out | apply zf | apply zd | apply ze) | exact HB.out))) : w.heap.size ≤ gb245)); clear HB; have HB := n0_; have BK245 := n1_; have GW245 := n2_; have GE245 := n3_; clear n0_ n1_ n2_ n3_; clear hb hbox hg; have hcz11_0 : w10.cell? ⟨gb245, 0, none⟩ = some (.int .i64 a0_0) := (zb BK245.out 0).trans rfl; have hcz11_1 : w10.cell? ⟨gb245, 1, none⟩ = some (.int .i64 a0_1) := (zb BK245.out 1).trans rfl; have hcz11_2 : w10.cell? ⟨gb245, 2, none⟩ = some (.slice A0_2 l0_2.length c0_2) := (zb BK245.out 2).trans rfl; have hfz11_0 := za BK245.out 0; have hfz11_1 := za BK245.out 1; have hfz11_2 := za BK245.out 2) | ((with_reducible refine zr (f := 52) rfl ?_); refine zR (some 8) rfl rfl Try.func52 (by kernel_rfl) rfl #[.agg #[.int .i64 a0_0, .int .i64 a0_1, .slice A0_2 l0_2.length c0_2]] rfl (by (try simp only [List.map_toArray, List.map_cons, List.map_nil]); first | done | rfl | (simp only [List.length_drop, List.length_take]; rfl)) ?_; (with_reducible refine (zaB.calls a0_0 a0_1 _ _ l0_2 t246 t247 _ ?side1 ?side2 A2.out).mono ?_); (case side1 => repeat (first | exact (Kd.C_below HR0_2.out HB.out) | (with_reducible refine Kd.C_alloc ?_ _) | (with_reducible refine Kd.C_drewN ?_ _) | (with_reducible refine Kd.C_drew ?_))); (case side2 => exact HC0_2.out); rintro e w12 ⟨rfl, hb⟩; refine ⟨_, rfl, ?_⟩; have n0_ := zc.mk (zl (g := gb245) (o := .cells #[.int .i64 a0_0, .int .i64 a0_1, .slice A0_2 l0_2.length c0_2] 68 (0, 0)) (by (with_reducible repeat (first | refine zi ?_ _ | refine zk ?_ | refine zj ?_ _)); exact BK245.out) hb); have n1_ := zc.mk (zh (by repeat (first | (with_reducible first | exact HB.out | apply zf | apply zd | apply ze | refine zg ?_ GE245.out) | exact HB.out)) hb); clear BK245; clear HB; have BK245 := n0_; have HB := n1_; clear n0_ n1_; (try clear hb); (try clear hb2); (try clear hk); (try clear hi)))
    go_ret2
    exact ⟨by first | rfl | (simp [zn, zo] <;> rfl) | (simp [*, zn, zo] <;> rfl), by repeat (first | (with_reducible first | exact HB.out | apply zf | apply zd | apply ze | refine zg ?_ GE245.out) | exact HB.out)⟩
end Go.Proofs.Ytlabjgcoopdbiaa.Px

namespace Go.Proofs.Ytlabjgcoopdbiaa.Px
open Go.RowKit Go.Proofs.YtlabjgcoopdbiaaW.PrintWords Go.Proofs.YtlabjgcoopdbiaaW.PrintLast Go.Proofs.YtlabjgcoopdbiaaW.PrintMore
attribute [local go_sem] zC zE zK zL zw zx zD zF
set_option linter.unusedVariables false
set_option linter.unusedSimpArgs false
theorem eqA58 (d : Nat) (w : World) (x0 y0 : Int) (x1 y1 : ByteArray) :
    (Op.equalIn (d + 2) 58 (.agg #[.int .i64 x0, .string x1]) (.agg #[.int .i64 y0, .string y1])).run Try.prog w = .ok (x0 == y0 && (x1.toList == y1.toList)) w := by
  refine eqA_of Try.underlying58 (by kernel_rfl) ?_
  refine zh1 (by rfl) (by go_simp; rfl) (by go_simp; rfl) (by go_simp) ?_
  exact zh2 (by rfl) (by go_simp; rfl) (by go_simp; rfl) (by go_simp)
end Go.Proofs.Ytlabjgcoopdbiaa.Px

namespace Go.Proofs.Ytlabjgcoopdbiaa.Px
open Go.RowKit Go.Proofs.YtlabjgcoopdbiaaW.PrintWords Go.Proofs.YtlabjgcoopdbiaaW.PrintLast Go.Proofs.YtlabjgcoopdbiaaW.PrintMore
attribute [local go_sem] zC zE zK zL zw zx zD zF
set_option linter.unusedVariables false
set_option linter.unusedSimpArgs false
attribute [local go_sem high] eqA58
def zbo.l0 : Nat → List (S58) → Int → Int → Int → ByteArray → Option (Bool)
  | 0, _, _, _, _, _ => none
  | k + 1, x7, x8, x9, x250000, x250001 => if x9 < x8 then (if 0 ≤ x9 then (if x9 < (x7.length : Int) then (if (((zak x7 x9).f0) == x250000 && ((((zak x7 x9).f1).toList) == x250001.toList)) = true then (some true) else (zbo.l0 k x7 x8 (wrap64 (x9 + 1)) x250000 x250001)) else (none)) else (none)) else (some false)
def zbo.f (k : Nat) (l0 : List (S58)) (a1_0 : Int) (a1_1 : ByteArray) : Option (Bool) := zbo.l0 k l0 (l0.length : Int) 0 a1_0 a1_1
set_option maxHeartbeats 8000000 in
set_option maxRecDepth 100000 in
theorem zbo.calls (k : Nat) (A0 : Option Addr) (c0 : Nat) (l0 : List (S58)) (a1_0 : Int) (a1_1 : ByteArray) (r : Bool) (w : World) (hr0 : Kd.C k58 w A0 l0.length l0) (hc0 : l0.length ≤ c0) (h : zbo.f k l0 a1_0 a1_1 = some r) :
    Calls Try.prog 55 #[.slice A0 l0.length c0, .agg #[.int .i64 a1_0, .string a1_1]] w fun e w' => e = .returned (.bool r) ∧ Below w.heap.size w w' := by
  have hu58 := Try.underlying58
  have HR0 := zc.mk hr0
  have HC0 := zc.mk hc0
  clear hr0 hc0
  have HB := zc.mk (Below.refl w.heap.size w)
  have H : (zbo.l0 k l0 (l0.length : Int) 0 a1_0 a1_1) = some r := h
  clear h
  have H' := zc.mk H
  clear H
  go_enter Try.func55, Try.ntmps55
  go_wp2_with (first | ((with_reducible refine zA (N := 3) rfl ?_); refine zt ?hg (N := 3) ?hd (cs := #[.int .i64 a1_0, .string a1_1]) (t := 58) ?hr ?_; (case hd => rfl); (case hg => rfl); (case hr => first | (go_simp; done) | (go_simp; rfl)); intro gb249 hg w3 hbox hb; have n0_ := zc.mk (zh (by repeat (first | (with_reducible first | exact HB.out | apply zf | apply zd | apply ze) | exact HB.out)) hb); have n1_ := zc.mk (hbox); have n2_ := zc.mk ((by rw [hg]; exact (zp (by repeat (first | (with_reducible first | exact HB.out | apply zf | apply zd | apply ze) | exact HB.out))) : w.heap.size ≤ gb249)); have n3_ := zc.mk ((by rw [hg]; exact (zp (by repeat (first | (with_reducible first | exact HB.out | apply zf | apply zd | apply ze) | exact HB.out))) : w.heap.size ≤ gb249)); clear HB; have HB := n0_; have BK249 := n1_; have GW249 := n2_; have GE249 := n3_; clear n0_ n1_ n2_ n3_; clear hb hbox hg))
  go_loopg [9] k (fun kq v9 w' => ∃ (x9_1 : Int), v9 = .int .i64 x9_1 ∧ zc (zbo.l0 kq l0 (l0.length : Int) x9_1 a1_0 a1_1 = some r) ∧ zc (kq ≤ k) ∧ zc (w'.heap[gb249]? = some (.cells #[.int .i64 a1_0, .string a1_1] 58 (0, 0))) ∧ zc (Below w.heap.size w w'))
  case atStart => exact ⟨(0), (by first | rfl | (simp; done) | (simp [*]; done)), H', ⟨Nat.le_refl _⟩, ⟨by (with_reducible repeat (first | refine zi ?_ _ | refine zk ?_ | refine zj ?_ _)); exact BK249.out⟩, ⟨by repeat (first | (with_reducible first | exact HB.out | apply zf | apply zd | apply ze | refine zg ?_ GE249.out) | exact HB.out)⟩⟩
  case round =>
    clear H'
    try clear p2
    obtain ⟨x9_1, rfl, HA, HK1, BK249, HB⟩ := hrel
    cases gk with
    | zero => exact absurd HA.out (by simp [zbo.l0])
    | succ k1 =>
      have H := HA.out
      clear HA
      simp only [zbo.l0] at H
      by_cases c4 : x9_1 < (l0.length : Int)
      · rw [if_pos c4] at H
        have c4b0 : decide (x9_1 < (l0.length : Int)) = true := decide_eq_true c4
        clear c4
        by_cases c5 : 0 ≤ x9_1
        · rw [if_pos c5] at H
          have c5b0 : decide (0 ≤ x9_1) = true := decide_eq_true c5
          clear c5
          by_cases c6 : x9_1 < (l0.length : Int)
          · rw [if_pos c6] at H
            have c6b0 : decide (x9_1 < (l0.length : Int)) = true := decide_eq_true c6
            clear c6
            by_cases c7 : (((zak l0 x9_1).f0) == a1_0 && ((((zak l0 x9_1).f1).toList) == a1_1.toList)) = true
            · rw [if_pos c7] at H
              have c7b0 : (((zak l0 x9_1).f0) == a1_0 && ((((zak l0 x9_1).f1).toList) == a1_1.toList)) = true := c7
              (try (have c7b1 : decide (((zak l0 x9_1).f0) = a1_0 && ((((zak l0 x9_1).f1).toList) == a1_1.toList)) = true := by simpa using c7))
              (try (have c7b2 : (((zak l0 x9_1).f0) == a1_0 && ((((zak l0 x9_1).f1).toList) == a1_1.toList)) = true := by simpa using c7))
              clear c7
              obtain rfl := Option.some.inj H
              have p250 : 0 ≤ (x9_1 : Int) := of_decide_eq_true (by first | (with_reducible assumption) | assumption)
              have q250 : x9_1 < (l0.length : Int) := of_decide_eq_true (by first | (with_reducible assumption) | assumption)
              obtain ⟨ad250, e250, hx250_0, hx250_1⟩ := zdn HR0.out x9_1 p250 q250
              cases e250
              replace hx250_0 := (HB.out.cell (World.block_lt_of_cell? w _ hx250_0)).trans hx250_0
              replace hx250_1 := (HB.out.cell (World.block_lt_of_cell? w _ hx250_1)).trans hx250_1
              replace p250 := eq_true p250
              replace q250 := eq_true q250
              go_wp2_with (first | ((with_reducible refine zA (N := 6) rfl ?_); refine zt ?hg (N := 6) ?hd (cs := #[.int .i64 0, .string (⟨#[]⟩ : ByteArray)]) (t := 58) ?hr ?_; (case hd => rfl); (case hg => rfl); (case hr => first | (go_simp; done) | (go_simp; rfl)); intro gb251 hg w8 hbox hb; have n0_ := zc.mk (zl (g := gb249) (o := .cells #[.int .i64 a1_0, .string a1_1] 58 (0, 0)) (by (with_reducible repeat (first | refine zi ?_ _ | refine zk ?_ | refine zj ?_ _)); exact BK249.out) hb); have n1_ := zc.mk (zh (by repeat (first | (with_reducible first | exact HB.out | apply zf | apply zd | apply ze | refine zg ?_ GE249.out) | exact HB.out)) hb); have n2_ := zc.mk (hbox); have n3_ := zc.mk ((by rw [hg]; exact (zp (by repeat (first | (with_reducible first | exact HB.out | apply zf | apply zd | apply ze | refine zg ?_ GE249.out) | exact HB.out))) : w.heap.size ≤ gb251)); have n4_ := zc.mk ((by rw [hg]; exact (zp (by repeat (first | (with_reducible first | exact HB.out | apply zf | apply zd | apply ze | refine zg ?_ GE249.out) | exact HB.out))) : w.heap.size ≤ gb251)); have n5_ := zc.mk ((by rw [hg]; exact Nat.ne_of_lt (za8 (g := gb249) (o := .cells #[.int .i64 a1_0, .string a1_1] 58 (0, 0)) (by (with_reducible repeat (first | refine zi ?_ _ | refine zk ?_ | refine zj ?_ _)); exact BK249.out)) : gb249 ≠ gb251)); have n6_ := zc.mk ((by rw [hg]; exact Nat.ne_of_gt (za8 (g := gb249) (o := .cells #[.int .i64 a1_0, .string a1_1] 58 (0, 0)) (by (with_reducible repeat (first | refine zi ?_ _ | refine zk ?_ | refine zj ?_ _)); exact BK249.out)) : gb251 ≠ gb249)); clear BK249; clear HB; have BK249 := n0_; have HB := n1_; have BK251 := n2_; have GW251 := n3_; have GE251 := n4_; have NB249_251 := n5_; have NB251_249 := n6_; clear n0_ n1_ n2_ n3_ n4_ n5_ n6_; clear hb hbox hg; have hnb9 := NB251_249.out; have hnc9 := NB249_251.out; have hcz10_0 : w8.cell? ⟨gb251, 0, none⟩ = some (.int .i64 0) := (zb BK251.out 0).trans rfl; have hcz10_1 : w8.cell? ⟨gb251, 1, none⟩ = some (.string (⟨#[]⟩ : ByteArray)) := (zb BK251.out 1).trans rfl; have hfz10_0 := za BK251.out 0; have hfz10_1 := za BK251.out 1; have hcz11_0 : w8.cell? ⟨gb249, 0, none⟩ = some (.int .i64 a1_0) := (zb BK249.out 0).trans rfl; have hcz11_1 : w8.cell? ⟨gb249, 1, none⟩ = some (.string a1_1) := (zb BK249.out 1).trans rfl; have hfz11_0 := za BK249.out 0; have hfz11_1 := za BK249.out 1))
              go_ret
              exact ⟨by first | rfl | (simp [zn, zo] <;> rfl) | (simp [*, zn, zo] <;> rfl), by repeat (first | (with_reducible first | exact HB.out | apply zf | apply zd | apply ze | refine zg ?_ GE249.out | refine zg ?_ GE251.out) | exact HB.out)⟩
            · rw [if_neg c7] at H
              have c7b0 : (((zak l0 x9_1).f0) == a1_0 && ((((zak l0 x9_1).f1).toList) == a1_1.toList)) = false := by simpa using c7
              (try (have c7b1 : decide (((zak l0 x9_1).f0) = a1_0 && ((((zak l0 x9_1).f1).toList) == a1_1.toList)) = false := by simpa using c7))
              (try (have c7b2 : (((zak l0 x9_1).f0) == a1_0 && ((((zak l0 x9_1).f1).toList) == a1_1.toList)) = false := by simpa using c7))
              (try (have c7b3 : ¬ (((zak l0 x9_1).f0) = a1_0 && ((((zak l0 x9_1).f1).toList) == a1_1.toList)) := by simpa using c7))
              clear c7
              have H' := zc.mk H
              clear H
              have p250 : 0 ≤ (x9_1 : Int) := of_decide_eq_true (by first | (with_reducible assumption) | assumption)
              have q250 : x9_1 < (l0.length : Int) := of_decide_eq_true (by first | (with_reducible assumption) | assumption)
              obtain ⟨ad250, e250, hx250_0, hx250_1⟩ := zdn HR0.out x9_1 p250 q250
              cases e250
              replace hx250_0 := (HB.out.cell (World.block_lt_of_cell? w _ hx250_0)).trans hx250_0
              replace hx250_1 := (HB.out.cell (World.block_lt_of_cell? w _ hx250_1)).trans hx250_1
              replace p250 := eq_true p250
              replace q250 := eq_true q250
              go_wp2_with (first | ((with_reducible refine zA (N := 6) rfl ?_); refine zt ?hg (N := 6) ?hd (cs := #[.int .i64 0, .string (⟨#[]⟩ : ByteArray)]) (t := 58) ?hr ?_; (case hd => rfl); (case hg => rfl); (case hr => first | (go_simp; done) | (go_simp; rfl)); intro gb251 hg w12 hbox hb; have n0_ := zc.mk (zl (g := gb249) (o := .cells #[.int .i64 a1_0, .string a1_1] 58 (0, 0)) (by (with_reducible repeat (first | refine zi ?_ _ | refine zk ?_ | refine zj ?_ _)); exact BK249.out) hb); have n1_ := zc.mk (zh (by repeat (first | (with_reducible first | exact HB.out | apply zf | apply zd | apply ze | refine zg ?_ GE249.out) | exact HB.out)) hb); have n2_ := zc.mk (hbox); have n3_ := zc.mk ((by rw [hg]; exact (zp (by repeat (first | (with_reducible first | exact HB.out | apply zf | apply zd | apply ze | refine zg ?_ GE249.out) | exact HB.out))) : w.heap.size ≤ gb251)); have n4_ := zc.mk ((by rw [hg]; exact (zp (by repeat (first | (with_reducible first | exact HB.out | apply zf | apply zd | apply ze | refine zg ?_ GE249.out) | exact HB.out))) : w.heap.size ≤ gb251)); have n5_ := zc.mk ((by rw [hg]; exact Nat.ne_of_lt (za8 (g := gb249) (o := .cells #[.int .i64 a1_0, .string a1_1] 58 (0, 0)) (by (with_reducible repeat (first | refine zi ?_ _ | refine zk ?_ | refine zj ?_ _)); exact BK249.out)) : gb249 ≠ gb251)); have n6_ := zc.mk ((by rw [hg]; exact Nat.ne_of_gt (za8 (g := gb249) (o := .cells #[.int .i64 a1_0, .string a1_1] 58 (0, 0)) (by (with_reducible repeat (first | refine zi ?_ _ | refine zk ?_ | refine zj ?_ _)); exact BK249.out)) : gb251 ≠ gb249)); clear BK249; clear HB; have BK249 := n0_; have HB := n1_; have BK251 := n2_; have GW251 := n3_; have GE251 := n4_; have NB249_251 := n5_; have NB251_249 := n6_; clear n0_ n1_ n2_ n3_ n4_ n5_ n6_; clear hb hbox hg; have hnb13 := NB251_249.out; have hnc13 := NB249_251.out; have hcz14_0 : w12.cell? ⟨gb251, 0, none⟩ = some (.int .i64 0) := (zb BK251.out 0).trans rfl; have hcz14_1 : w12.cell? ⟨gb251, 1, none⟩ = some (.string (⟨#[]⟩ : ByteArray)) := (zb BK251.out 1).trans rfl; have hfz14_0 := za BK251.out 0; have hfz14_1 := za BK251.out 1; have hcz15_0 : w12.cell? ⟨gb249, 0, none⟩ = some (.int .i64 a1_0) := (zb BK249.out 0).trans rfl; have hcz15_1 : w12.cell? ⟨gb249, 1, none⟩ = some (.string a1_1) := (zb BK249.out 1).trans rfl; have hfz15_0 := za BK249.out 0; have hfz15_1 := za BK249.out 1))
              go_roundg k1
              case measure => have := HK1.out; omega
              case rel => exact ⟨(wrap64 (x9_1 + 1)), (by first | rfl | (simp; done) | (simp [*]; done)), H', ⟨by have := HK1.out; omega⟩, ⟨by (with_reducible repeat (first | refine zi ?_ _ | refine zk ?_ | refine zj ?_ _)); refine zbe ?_ NB249_251.out _; (with_reducible repeat (first | refine zi ?_ _ | refine zk ?_ | refine zj ?_ _)); refine zbe ?_ NB249_251.out _; (with_reducible repeat (first | refine zi ?_ _ | refine zk ?_ | refine zj ?_ _)); exact BK249.out⟩, ⟨by repeat (first | (with_reducible first | exact HB.out | apply zf | apply zd | apply ze | refine zg ?_ GE249.out | refine zg ?_ GE251.out) | exact HB.out)⟩⟩
          · rw [if_neg c6] at H
            exact absurd H (by simp)
        · rw [if_neg c5] at H
          exact absurd H (by simp)
      · rw [if_neg c4] at H
        have c4b0 : decide (x9_1 < (l0.length : Int)) = false := decide_eq_false c4
        clear c4
        obtain rfl := Option.some.inj H
        go_wp2
        go_ret
        exact ⟨by first | rfl | (simp [zn, zo] <;> rfl) | (simp [*, zn, zo] <;> rfl), by repeat (first | (with_reducible first | exact HB.out | apply zf | apply zd | apply ze | refine zg ?_ GE249.out) | exact HB.out)⟩
end Go.Proofs.Ytlabjgcoopdbiaa.Px

namespace Go.Proofs.Ytlabjgcoopdbiaa.Px
open Go.RowKit Go.Proofs.YtlabjgcoopdbiaaW.PrintWords Go.Proofs.YtlabjgcoopdbiaaW.PrintLast Go.Proofs.YtlabjgcoopdbiaaW.PrintMore
attribute [local go_sem] zC zE zK zL zw zx zD zF
set_option linter.unusedVariables false
set_option linter.unusedSimpArgs false
def zT.l0 : Nat → Int → List Int → Int → Option (List Int)
  | 0, _, _, _ => none
  | k + 1, x0, x3, x4 => if x4 ≤ 64 then (if (Int.tmod x0 2) = 1 then (if x3.length < 17592186044416 then (zT.l0 k (IntKind.u64.wrap (Int.tdiv x0 2)) (x3 ++ [x4]) (wrap64 (x4 + 1))) else (none)) else (zT.l0 k (IntKind.u64.wrap (Int.tdiv x0 2)) x3 (wrap64 (x4 + 1)))) else (some x3)
def zT.f (k : Nat) (a0 : Int) : Option (List Int) := zT.l0 k a0 ([] : List Int) 1
set_option maxHeartbeats 8000000 in
set_option maxRecDepth 100000 in
theorem zT.calls (k : Nat) (a0 : Int) (r : List Int) (w : World) (h : zT.f k a0 = some r) :
    Calls Try.prog 29 #[.int .u64 a0] w fun e w' => ∃ v0_ : Value, e = .returned (v0_) ∧ Kd.R (Kd.int .i64) 3 w' w.heap.size (fun _ => True) v0_ r ∧ Below w.heap.size w w' := by
  have HB := zc.mk (Below.refl w.heap.size w)
  have H : (zT.l0 k a0 ([] : List Int) 1) = some r := h
  clear h
  have H' := zc.mk H
  clear H
  go_enter Try.func29, Try.ntmps29
  go_wp2
  go_loopg [0, 3, 4] k (fun kq v0 v3 v4 w' => ∃ (x0_1 : Int) (x3_1 : List Int) (x4_1 : Int), v0 = .int .u64 x0_1 ∧ v4 = .int .i64 x4_1 ∧ zc (zT.l0 kq x0_1 x3_1 x4_1 = some r) ∧ zc (kq ≤ k) ∧ zc (Kd.R (Kd.int .i64) 3 w' w.heap.size (fun _ => True) v3 x3_1) ∧ zc (Below w.heap.size w w'))
  case atStart => exact ⟨(a0), (([] : List Int)), (1), (by first | rfl | (simp; done) | (simp [*]; done)), (by first | rfl | (simp; done) | (simp [*]; done)), H', ⟨Nat.le_refl _⟩, ⟨by first | exact Kd.R_nil _ _ _ _ _ | exact Kd.N_nil _ _ _ _ _ | exact Kd.V_nil _ _ _ _ _ | exact Kd.Q_nil _ _ _ _ _ | exact Kd.S_nil _ _ _ _ _⟩, ⟨by repeat (first | (with_reducible first | exact HB.out | apply zf | apply zd | apply ze) | exact HB.out)⟩⟩
  case round =>
    clear H'
    obtain ⟨x0_1, x3_1, x4_1, rfl, rfl, HA, HK1, HO_3, HB⟩ := hrel
    cases gk with
    | zero => exact absurd HA.out (by simp [zT.l0])
    | succ k1 =>
      have H := HA.out
      clear HA
      simp only [zT.l0] at H
      by_cases c2 : x4_1 ≤ 64
      · rw [if_pos c2] at H
        have c2b0 : decide (x4_1 ≤ 64) = true := decide_eq_true c2
        clear c2
        by_cases c3 : (Int.tmod x0_1 2) = 1
        · rw [if_pos c3] at H
          have c3b0 : ((Int.tmod x0_1 2) == 1) = true := beq_iff_eq.mpr c3
          have c3b1 : ((Int.tmod x0_1 2) != 1) = false := bne_eq_false_iff_eq.mpr c3
          clear c3
          by_cases c4 : x3_1.length < 17592186044416
          · rw [if_pos c4] at H
            have LMc4 := zc.mk c4
            clear c4
            obtain ⟨y208, hy208⟩ : ∃ y_ : List Int, y_ = (x3_1 ++ [x4_1]) := ⟨_, rfl⟩
            replace H : (zT.l0 k1 (IntKind.u64.wrap (Int.tdiv x0_1 2)) y208 (wrap64 (x4_1 + 1))) = some r := by first | (rw [hy208]; with_reducible exact H) | (have H2_ := (Option.bind_some _ _).symm.trans H; rw [hy208]; with_reducible exact H2_) | (have H2_ := (Option.bind_some _ _).symm.trans H; with_reducible exact H2_) | with_reducible exact H | (rw [hy208]; exact H) | exact H
            have Ny208 := zc.mk hy208
            clear hy208
            have H' := zc.mk H
            clear H
            go_wp2_with (first | ((with_reducible refine zd4 (b := .append) (xs := #[.tmp 12, .tmp 14]) rfl ?_); at_builtin; refine Kd.R_append (Kd.int .i64) (w0 := w) w.heap.size rfl (.tmp 12) (.tmp 14) 64 3 (.int .i64 0) 8 rfl Try.underlying64 info3 rfl (by decide) (by omega) u3 x3_1 x4_1 [.int .i64 x4_1] (fun _ => True) (fun _ => False) rfl rfl ?aP (fun _ hk => hk.elim) ?aF ?aO ?aB ?aS ?aL ?_; (case aP => exact rfl); (case aB => exact (by repeat (first | (with_reducible first | exact HB.out | apply zf | apply zd | apply ze) | exact HB.out))); (case aF => exact (fun _ _ => trivial)); (case aO => exact (by (with_reducible repeat (first | apply Kd.R_alloc | apply Kd.R_drewN | apply Kd.R_drew)); exact HO_3.out)); (case aS => exact (zp (by repeat (first | (with_reducible first | exact HB.out | apply zf | apply zd | apply ze) | exact HB.out)))); (case aL => have := LMc4.out; omega); intro v209 w5 ho hb hg hat; rw [← Ny208.out] at ho; have n0_ := zc.mk (hb); have n1_ := zc.mk (ho); clear HB; clear HO_3; have HB := n0_; have HO210 := n1_; clear n0_ n1_; clear ho hb hg hat))
            go_roundg k1
            case measure => have := HK1.out; omega
            case rel => exact ⟨(IntKind.u64.wrap (Int.tdiv x0_1 2)), (y208), (wrap64 (x4_1 + 1)), (by first | rfl | (simp; done) | (simp [*]; done)), (by first | rfl | (simp; done) | (simp [*]; done)), H', ⟨by have := HK1.out; omega⟩, ⟨by (with_reducible repeat (first | apply Kd.R_alloc | apply Kd.R_drewN | apply Kd.R_drew)); exact HO210.out⟩, ⟨by repeat (first | (with_reducible first | exact HB.out | apply zf | apply zd | apply ze) | exact HB.out)⟩⟩
          · rw [if_neg c4] at H
            exact absurd H (by simp)
        · rw [if_neg c3] at H
          have c3b0 : ((Int.tmod x0_1 2) == 1) = false := beq_eq_false_iff_ne.mpr c3
          have c3b1 : ((Int.tmod x0_1 2) != 1) = true := bne_iff_ne.mpr c3
          have H' := zc.mk H
          clear H
          go_wp2
          go_roundg k1
          case measure => have := HK1.out; omega
          case rel => exact ⟨(IntKind.u64.wrap (Int.tdiv x0_1 2)), (x3_1), (wrap64 (x4_1 + 1)), (by first | rfl | (simp; done) | (simp [*]; done)), (by first | rfl | (simp; done) | (simp [*]; done)), H', ⟨by have := HK1.out; omega⟩, ⟨by (with_reducible repeat (first | apply Kd.R_alloc | apply Kd.R_drewN | apply Kd.R_drew)); exact HO_3.out⟩, ⟨by repeat (first | (with_reducible first | exact HB.out | apply zf | apply zd | apply ze) | exact HB.out)⟩⟩
      · rw [if_neg c2] at H
        have c2b0 : decide (x4_1 ≤ 64) = false := decide_eq_false c2
        clear c2
        obtain rfl := Option.some.inj H
        go_wp2
        go_ret
        exact ⟨_, by first | rfl | (simp [zn, zo] <;> rfl) | (simp [*, zn, zo] <;> rfl), by (with_reducible repeat (first | apply Kd.R_alloc | apply Kd.R_drewN | apply Kd.R_drew)); exact HO_3.out, by repeat (first | (with_reducible first | exact HB.out | apply zf | apply zd | apply ze) | exact HB.out)⟩
end Go.Proofs.Ytlabjgcoopdbiaa.Px

namespace Go.Proofs.Ytlabjgcoopdbiaa.Px
open Go.RowKit Go.Proofs.YtlabjgcoopdbiaaW.PrintWords Go.Proofs.YtlabjgcoopdbiaaW.PrintLast Go.Proofs.YtlabjgcoopdbiaaW.PrintMore
attribute [local go_sem] zC zE zK zL zw zx zD zF
set_option linter.unusedVariables false
set_option linter.unusedSimpArgs false
def zar.f (k : Nat) (a0 : Int) : Option (Int) := (zT.f k a0).bind fun t211 => (some (t211.length : Int))
set_option maxHeartbeats 8000000 in
set_option maxRecDepth 100000 in
theorem zar.calls (k : Nat) (a0 : Int) (r : Int) (w : World) (h : zar.f k a0 = some r) :
    Calls Try.prog 14 #[.int .u64 a0] w fun e w' => e = .returned (.int .i64 r) ∧ Below w.heap.size w w' := by
  have HB := zc.mk (Below.refl w.heap.size w)
  have H : ((zT.f k a0).bind fun t211 => (some (t211.length : Int))) = some r := h
  clear h
  replace H := Option.bind_eq_some_iff.mp H
  obtain ⟨t211, A20, H⟩ := H
  replace H : (some (t211.length : Int)) = some r := H
  have A2 := zc.mk A20
  clear A20
  obtain rfl := Option.some.inj H
  go_enter Try.func14, Try.ntmps14
  go_wp2_with (first | ((with_reducible refine zr (f := 29) rfl ?_); refine zR (some 5) rfl rfl Try.func29 (by kernel_rfl) rfl #[.int .u64 a0] rfl (by (try simp only [List.map_toArray, List.map_cons, List.map_nil]); first | done | rfl | (simp only [List.length_drop, List.length_take]; rfl)) ?_; (with_reducible refine (zT.calls k a0 t211 _ A2.out).mono ?_); rintro e w3 ⟨v212, rfl, ho0, hb⟩; refine ⟨_, rfl, ?_⟩; have n0_ := zc.mk (Kd.R_lower ho0 (zp (by repeat (first | (with_reducible first | exact HB.out | apply zf | apply zd | apply ze) | exact HB.out)))); have n1_ := zc.mk (zh (by repeat (first | (with_reducible first | exact HB.out | apply zf | apply zd | apply ze) | exact HB.out)) hb); clear HB; have HO213 := n0_; have HB := n1_; clear n0_ n1_; (try clear hb); (try clear hb2); (try clear hk); (try clear hi); (try clear ho0); obtain ⟨Ao4, co4, eo4⟩ := Kd.R_slice HO213.out; subst eo4))
  go_ret
  exact ⟨by first | rfl | (simp [zn, zo] <;> rfl) | (simp [*, zn, zo] <;> rfl), by repeat (first | (with_reducible first | exact HB.out | apply zf | apply zd | apply ze) | exact HB.out)⟩
end Go.Proofs.Ytlabjgcoopdbiaa.Px

namespace Go.Proofs.Ytlabjgcoopdbiaa.Px
open Go.RowKit Go.Proofs.YtlabjgcoopdbiaaW.PrintWords Go.Proofs.YtlabjgcoopdbiaaW.PrintLast Go.Proofs.YtlabjgcoopdbiaaW.PrintMore
attribute [local go_sem] zC zE zK zL zw zx zD zF
set_option linter.unusedVariables false
set_option linter.unusedSimpArgs false
def zat.f (k : Nat) (a0 : Int) (a1 : Int) : Option (Bool) := if a1 < 0 then (some false) else (if a1 > 64 then (some false) else ((zT.f k a0).bind fun t281 => (if (t281.length : Int) = 0 then (some true) else (if 0 ≤ (wrap64 ((t281.length : Int) - 1)) then (if (wrap64 ((t281.length : Int) - 1)) < (t281.length : Int) then (some (decide ((rd t281 (wrap64 ((t281.length : Int) - 1))) ≤ a1))) else (none)) else (none)))))
set_option maxHeartbeats 8000000 in
set_option maxRecDepth 100000 in
theorem zat.calls (k : Nat) (a0 : Int) (a1 : Int) (r : Bool) (w : World) (h : zat.f k a0 a1 = some r) :
    Calls Try.prog 56 #[.int .u64 a0, .int .i64 a1] w fun e w' => e = .returned (.bool r) ∧ Below w.heap.size w w' := by
  have HB := zc.mk (Below.refl w.heap.size w)
  have H : (if a1 < 0 then (some false) else (if a1 > 64 then (some false) else ((zT.f k a0).bind fun t281 => (if (t281.length : Int) = 0 then (some true) else (if 0 ≤ (wrap64 ((t281.length : Int) - 1)) then (if (wrap64 ((t281.length : Int) - 1)) < (t281.length : Int) then (some (decide ((rd t281 (wrap64 ((t281.length : Int) - 1))) ≤ a1))) else (none)) else (none)))))) = some r := h
  clear h
  by_cases c3 : a1 < 0
  · rw [if_pos c3] at H
    have c3b0 : decide (a1 < 0) = true := decide_eq_true c3
    clear c3
    obtain rfl := Option.some.inj H
    go_enter Try.func56, Try.ntmps56
    go_wp2
    go_ret
    exact ⟨by first | rfl | (simp [zn, zo] <;> rfl) | (simp [*, zn, zo] <;> rfl), by repeat (first | (with_reducible first | exact HB.out | apply zf | apply zd | apply ze) | exact HB.out)⟩
  · rw [if_neg c3] at H
    have c3b0 : decide (a1 < 0) = false := decide_eq_false c3
    clear c3
    by_cases c4 : a1 > 64
    · rw [if_pos c4] at H
      have c4b0 : decide (64 < a1) = true := decide_eq_true c4
      clear c4
      obtain rfl := Option.some.inj H
      go_enter Try.func56, Try.ntmps56
      go_wp2
      go_ret
      exact ⟨by first | rfl | (simp [zn, zo] <;> rfl) | (simp [*, zn, zo] <;> rfl), by repeat (first | (with_reducible first | exact HB.out | apply zf | apply zd | apply ze) | exact HB.out)⟩
    · rw [if_neg c4] at H
      have c4b0 : decide (64 < a1) = false := decide_eq_false c4
      clear c4
      replace H := Option.bind_eq_some_iff.mp H
      obtain ⟨t281, A50, H⟩ := H
      replace H : (if (t281.length : Int) = 0 then (some true) else (if 0 ≤ (wrap64 ((t281.length : Int) - 1)) then (if (wrap64 ((t281.length : Int) - 1)) < (t281.length : Int) then (some (decide ((rd t281 (wrap64 ((t281.length : Int) - 1))) ≤ a1))) else (none)) else (none))) = some r := H
      have A5 := zc.mk A50
      clear A50
      by_cases c6 : (t281.length : Int) = 0
      · rw [if_pos c6] at H
        have c6b0 : ((t281.length : Int) == 0) = true := beq_iff_eq.mpr c6
        have c6b1 : ((t281.length : Int) != 0) = false := bne_eq_false_iff_eq.mpr c6
        clear c6
        obtain rfl := Option.some.inj H
        go_enter Try.func56, Try.ntmps56
        go_wp2_with (first | ((with_reducible refine zr (f := 29) rfl ?_); refine zR (some 13) rfl rfl Try.func29 (by kernel_rfl) rfl #[.int .u64 a0] rfl (by (try simp only [List.map_toArray, List.map_cons, List.map_nil]); first | done | rfl | (simp only [List.length_drop, List.length_take]; rfl)) ?_; (with_reducible refine (zT.calls k a0 t281 _ A5.out).mono ?_); rintro e w7 ⟨v282, rfl, ho0, hb⟩; refine ⟨_, rfl, ?_⟩; have n0_ := zc.mk (Kd.R_lower ho0 (zp (by repeat (first | (with_reducible first | exact HB.out | apply zf | apply zd | apply ze) | exact HB.out)))); have n1_ := zc.mk (zh (by repeat (first | (with_reducible first | exact HB.out | apply zf | apply zd | apply ze) | exact HB.out)) hb); clear HB; have HO283 := n0_; have HB := n1_; clear n0_ n1_; (try clear hb); (try clear hb2); (try clear hk); (try clear hi); (try clear ho0); obtain ⟨Ao8, co8, eo8⟩ := Kd.R_slice HO283.out; subst eo8))
        go_ret
        exact ⟨by first | rfl | (simp [zn, zo] <;> rfl) | (simp [*, zn, zo] <;> rfl), by repeat (first | (with_reducible first | exact HB.out | apply zf | apply zd | apply ze) | exact HB.out)⟩
      · rw [if_neg c6] at H
        have c6b0 : ((t281.length : Int) == 0) = false := beq_eq_false_iff_ne.mpr c6
        have c6b1 : ((t281.length : Int) != 0) = true := bne_iff_ne.mpr c6
        have c6b2 : ¬ (t281 = []) := fun h_ => c6 (by rw [h_]; rfl)
        obtain ⟨ji9, hji9⟩ : ∃ j_ : Int, (wrap64 ((t281.length : Int) - 1)) = j_ := ⟨_, rfl⟩
        replace H : (if 0 ≤ (ji9) then (if (ji9) < (t281.length : Int) then (some (decide ((rd t281 (ji9)) ≤ a1))) else (none)) else (none)) = some r := by first | (rw [hji9] at H; exact H) | (simp only [hji9] at H ⊢; exact H)
        (try rw [hji9] at A5)
        have hji9w : (IntKind.i64.wrap ((t281.length : Int) - 1)) = ji9 := (zs _).trans hji9
        by_cases c10 : 0 ≤ (ji9)
        · rw [if_pos c10] at H
          have c10b0 : decide (0 ≤ (ji9)) = true := decide_eq_true c10
          clear c10
          by_cases c11 : (ji9) < (t281.length : Int)
          · rw [if_pos c11] at H
            have c11b0 : decide ((ji9) < (t281.length : Int)) = true := decide_eq_true c11
            clear c11
            obtain rfl := Option.some.inj H
            go_enter Try.func56, Try.ntmps56
            go_wp2_with (first | ((with_reducible refine zr (f := 29) rfl ?_); refine zR (some 13) rfl rfl Try.func29 (by kernel_rfl) rfl #[.int .u64 a0] rfl (by (try simp only [List.map_toArray, List.map_cons, List.map_nil]); first | done | rfl | (simp only [List.length_drop, List.length_take]; rfl)) ?_; (with_reducible refine (zT.calls k a0 t281 _ A5.out).mono ?_); rintro e w12 ⟨v282, rfl, ho0, hb⟩; refine ⟨_, rfl, ?_⟩; have n0_ := zc.mk (Kd.R_lower ho0 (zp (by repeat (first | (with_reducible first | exact HB.out | apply zf | apply zd | apply ze) | exact HB.out)))); have n1_ := zc.mk (zh (by repeat (first | (with_reducible first | exact HB.out | apply zf | apply zd | apply ze) | exact HB.out)) hb); clear HB; have HO283 := n0_; have HB := n1_; clear n0_ n1_; (try clear hb); (try clear hb2); (try clear hk); (try clear hi); (try clear ho0); obtain ⟨Ao13, co13, eo13⟩ := Kd.R_slice HO283.out; subst eo13; have p284 : 0 ≤ ((ji9) : Int) := of_decide_eq_true (by first | (with_reducible assumption) | assumption); have q284 : (ji9) < (t281.length : Int) := of_decide_eq_true (by first | (with_reducible assumption) | assumption); obtain ⟨ad284, e284, hx284_0⟩ := Kd.at_int (Kd.R_reads' HO283.out).2.2 (ji9) p284 q284; cases e284; replace p284 := eq_true p284; replace q284 := eq_true q284))
            go_ret
            exact ⟨by first | rfl | (simp [zn, zo] <;> rfl) | (simp only [← hji9]; first | rfl | (simp [zn, zo] <;> rfl)) | (simp [*, zn, zo] <;> rfl), by repeat (first | (with_reducible first | exact HB.out | apply zf | apply zd | apply ze) | exact HB.out)⟩
          · rw [if_neg c11] at H
            exact absurd H (by simp)
        · rw [if_neg c10] at H
          exact absurd H (by simp)
end Go.Proofs.Ytlabjgcoopdbiaa.Px

namespace Go.Proofs.Ytlabjgcoopdbiaa.Px
open Go.RowKit Go.Proofs.YtlabjgcoopdbiaaW.PrintWords Go.Proofs.YtlabjgcoopdbiaaW.PrintLast Go.Proofs.YtlabjgcoopdbiaaW.PrintMore
attribute [local go_sem] zC zE zK zL zw zx zD zF
set_option linter.unusedVariables false
set_option linter.unusedSimpArgs false
def zan.f (a0 : Int) : Option (Bool) := if a0 = 4 then (some true) else (if a0 > 4 then (if a0 ≤ 64 then (some ((Int.tmod (wrap64 (a0 - 1)) 3) == 0)) else (some false)) else (some false))
set_option maxHeartbeats 8000000 in
set_option maxRecDepth 100000 in
theorem zan.calls (a0 : Int) (r : Bool) (w : World) (h : zan.f a0 = some r) :
    Calls Try.prog 28 #[.int .i64 a0] w fun e w' => e = .returned (.bool r) ∧ zG w w' := by
  have H : (if a0 = 4 then (some true) else (if a0 > 4 then (if a0 ≤ 64 then (some ((Int.tmod (wrap64 (a0 - 1)) 3) == 0)) else (some false)) else (some false))) = some r := h
  clear h
  by_cases c2 : a0 = 4
  · rw [if_pos c2] at H
    have c2b0 : (a0 == 4) = true := beq_iff_eq.mpr c2
    have c2b1 : (a0 != 4) = false := bne_eq_false_iff_eq.mpr c2
    clear c2
    obtain rfl := Option.some.inj H
    go_enter Try.func28, Try.ntmps28
    go_wp2
    go_ret
    exact ⟨by first | rfl | (simp; done) | (simp [*]; done), by repeat (first | exact zG.refl _ | apply zG.step)⟩
  · rw [if_neg c2] at H
    have c2b0 : (a0 == 4) = false := beq_eq_false_iff_ne.mpr c2
    have c2b1 : (a0 != 4) = true := bne_iff_ne.mpr c2
    by_cases c3 : a0 > 4
    · rw [if_pos c3] at H
      have c3b0 : decide (4 < a0) = true := decide_eq_true c3
      clear c3
      by_cases c4 : a0 ≤ 64
      · rw [if_pos c4] at H
        have c4b0 : decide (a0 ≤ 64) = true := decide_eq_true c4
        clear c4
        obtain rfl := Option.some.inj H
        go_enter Try.func28, Try.ntmps28
        go_wp2
        go_ret
        exact ⟨by first | rfl | (simp; done) | (simp [*]; done), by repeat (first | exact zG.refl _ | apply zG.step)⟩
      · rw [if_neg c4] at H
        have c4b0 : decide (a0 ≤ 64) = false := decide_eq_false c4
        clear c4
        obtain rfl := Option.some.inj H
        go_enter Try.func28, Try.ntmps28
        go_wp2
        go_ret
        exact ⟨by first | rfl | (simp; done) | (simp [*]; done), by repeat (first | exact zG.refl _ | apply zG.step)⟩
    · rw [if_neg c3] at H
      have c3b0 : decide (4 < a0) = false := decide_eq_false c3
      clear c3
      obtain rfl := Option.some.inj H
      go_enter Try.func28, Try.ntmps28
      go_wp2
      go_ret
      exact ⟨by first | rfl | (simp; done) | (simp [*]; done), by repeat (first | exact zG.refl _ | apply zG.step)⟩
end Go.Proofs.Ytlabjgcoopdbiaa.Px

namespace Go.Proofs.Ytlabjgcoopdbiaa.Px
open Go.RowKit Go.Proofs.YtlabjgcoopdbiaaW.PrintWords Go.Proofs.YtlabjgcoopdbiaaW.PrintLast Go.Proofs.YtlabjgcoopdbiaaW.PrintMore
attribute [local go_sem] zC zE zK zL zw zx zD zF
set_option linter.unusedVariables false
set_option linter.unusedSimpArgs false
def zV.f (a0 : Int) : Option (Int) := (zan.f a0).bind fun t153 => (if t153 = true then (some (wrap64 (a0 - (wrap64 (Int.tdiv (wrap64 (a0 - 1)) 3))))) else (some 0))
set_option maxHeartbeats 8000000 in
set_option maxRecDepth 100000 in
theorem zV.calls (a0 : Int) (r : Int) (w : World) (h : zV.f a0 = some r) :
    Calls Try.prog 13 #[.int .i64 a0] w fun e w' => e = .returned (.int .i64 r) ∧ zG w w' := by
  have H : ((zan.f a0).bind fun t153 => (if t153 = true then (some (wrap64 (a0 - (wrap64 (Int.tdiv (wrap64 (a0 - 1)) 3))))) else (some 0))) = some r := h
  clear h
  replace H := Option.bind_eq_some_iff.mp H
  obtain ⟨t153, A20, H⟩ := H
  replace H : (if t153 = true then (some (wrap64 (a0 - (wrap64 (Int.tdiv (wrap64 (a0 - 1)) 3))))) else (some 0)) = some r := H
  have A2 := zc.mk A20
  clear A20
  by_cases c3 : t153 = true
  · subst c3
    have H1 : (some (wrap64 (a0 - (wrap64 (Int.tdiv (wrap64 (a0 - 1)) 3))))) = some r := by rw [if_pos rfl] at H; exact H
    clear H
    have H := H1
    clear H1
    obtain rfl := Option.some.inj H
    go_enter Try.func13, Try.ntmps13
    go_wp2_with (first | ((with_reducible refine zr (f := 28) rfl ?_); refine zR (some 5) rfl rfl Try.func28 (by kernel_rfl) rfl #[.int .i64 a0] rfl (by (try simp only [List.map_toArray, List.map_cons, List.map_nil]); first | done | rfl | (simp only [List.length_drop, List.length_take]; rfl)) ?_; (with_reducible refine (zan.calls a0 true _ A2.out).mono ?_); rintro e w' ⟨rfl, ⟨nd, rfl⟩⟩; refine ⟨_, rfl, ?_⟩))
    go_ret
    exact ⟨by first | rfl | (simp; done) | (simp [*]; done), by repeat (first | exact zG.refl _ | apply zG.step)⟩
  · replace c3 := Bool.eq_false_iff.mpr c3
    subst c3
    have H1 : (some 0) = some r := by rw [if_neg (show ¬ (false = true) by decide)] at H; exact H
    clear H
    have H := H1
    clear H1
    obtain rfl := Option.some.inj H
    go_enter Try.func13, Try.ntmps13
    go_wp2_with (first | ((with_reducible refine zr (f := 28) rfl ?_); refine zR (some 5) rfl rfl Try.func28 (by kernel_rfl) rfl #[.int .i64 a0] rfl (by (try simp only [List.map_toArray, List.map_cons, List.map_nil]); first | done | rfl | (simp only [List.length_drop, List.length_take]; rfl)) ?_; (with_reducible refine (zan.calls a0 false _ A2.out).mono ?_); rintro e w' ⟨rfl, ⟨nd, rfl⟩⟩; refine ⟨_, rfl, ?_⟩))
    go_ret
    exact ⟨by first | rfl | (simp; done) | (simp [*]; done), by repeat (first | exact zG.refl _ | apply zG.step)⟩
end Go.Proofs.Ytlabjgcoopdbiaa.Px
