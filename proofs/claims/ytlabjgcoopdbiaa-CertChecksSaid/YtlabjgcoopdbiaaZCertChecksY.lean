/- Part 25 of 32 of the proof of the law CertChecks: what is proved is the statement at the end of the last part; its conditions are those of the given row. -/
import Derived.Test.YtlabjgcoopdbiaaZCertChecksO
import Derived.Test.YtlabjgcoopdbiaaZCertChecksT
import Derived.Test.YtlabjgcoopdbiaaZCertChecksV
import Derived.Test.YtlabjgcoopdbiaaZCertChecksX
namespace Go.Proofs.Ytlabjgcoopdbiaa.Px
open Go.RowKit Go.Proofs.YtlabjgcoopdbiaaW.PrintWords Go.Proofs.YtlabjgcoopdbiaaW.PrintLast Go.Proofs.YtlabjgcoopdbiaaW.PrintMore
attribute [local go_sem] zC zE zK zL zw zx zD zF
set_option linter.unusedVariables false
set_option linter.unusedSimpArgs false
def zY.f (k : Nat) (a0_0 : Int) (a0_1 : Int) (l0_2 : List (S68)) (l0_3 : List ByteArray) (a0_4 : Int) (a0_5 : Int) (a1 : Int) : Option (ByteArray × Int) := (zz.f k a0_0 a0_1 l0_2 l0_3 a0_4 a0_5 a1).bind fun bt196 => (if bt196.2 = 0 then (if 1 + bt196.1.size ≤ 9223372036854775807 then ((zam.f ((⟨#[118]⟩ : ByteArray) ++ bt196.1)).bind fun t198 => (some (t198, 0))) else (none)) else (some ((⟨#[]⟩ : ByteArray), bt196.2)))
set_option maxHeartbeats 8000000 in
set_option maxRecDepth 100000 in
theorem zY.calls (k : Nat) (a0_0 : Int) (a0_1 : Int) (A0_2 : Option Addr) (c0_2 : Nat) (l0_2 : List (S68)) (A0_3 : Option Addr) (c0_3 : Nat) (l0_3 : List ByteArray) (a0_4 : Int) (a0_5 : Int) (a1 : Int) (r1 : ByteArray) (r2 : Int) (w : World) (hr0_2 : Kd.C k68 w A0_2 l0_2.length l0_2) (hc0_2 : l0_2.length ≤ c0_2) (hr0_3 : Kd.C Kd.string w A0_3 l0_3.length l0_3) (hc0_3 : l0_3.length ≤ c0_3) (h : zY.f k a0_0 a0_1 l0_2 l0_3 a0_4 a0_5 a1 = some (r1, r2)) :
    Calls Try.prog 15 #[.agg #[.int .i64 a0_0, .int .i64 a0_1, .slice A0_2 l0_2.length c0_2, .slice A0_3 l0_3.length c0_3, .int .i64 a0_4, .int .i64 a0_5], .int .i64 a1] w fun e w' => e = .returned (.tuple #[.string r1, .int .i64 r2]) ∧ Below w.heap.size w w' := by
  have hu31 := Try.underlying31
  have HR0_2 := zc.mk hr0_2
  have HC0_2 := zc.mk hc0_2
  clear hr0_2 hc0_2
  have HR0_3 := zc.mk hr0_3
  have HC0_3 := zc.mk hc0_3
  clear hr0_3 hc0_3
  have HB := zc.mk (Below.refl w.heap.size w)
  have H : ((zz.f k a0_0 a0_1 l0_2 l0_3 a0_4 a0_5 a1).bind fun bt196 => (if bt196.2 = 0 then (if 1 + bt196.1.size ≤ 9223372036854775807 then ((zam.f ((⟨#[118]⟩ : ByteArray) ++ bt196.1)).bind fun t198 => (some (t198, 0))) else (none)) else (some ((⟨#[]⟩ : ByteArray), bt196.2)))) = some (r1, r2) := h
  clear h
  replace H := Option.bind_eq_some_iff.mp H
  obtain ⟨⟨t196, t197⟩, A30, H⟩ := H
  replace H : (if t197 = 0 then (if 1 + t196.size ≤ 9223372036854775807 then ((zam.f ((⟨#[118]⟩ : ByteArray) ++ t196)).bind fun t198 => (some (t198, 0))) else (none)) else (some ((⟨#[]⟩ : ByteArray), t197))) = some (r1, r2) := H
  have A3 := zc.mk A30
  clear A30
  by_cases c4 : t197 = 0
  · rw [if_pos c4] at H
    have c4b0 : (t197 == 0) = true := beq_iff_eq.mpr c4
    have c4b1 : (t197 != 0) = false := bne_eq_false_iff_eq.mpr c4
    clear c4
    by_cases c5 : 1 + t196.size ≤ 9223372036854775807
    · rw [if_pos c5] at H
      have c5b0 := eq_true c5
      have c5b1 : decide (1 + t196.size ≤ 9223372036854775807) = true := decide_eq_true c5
      try have c5b2 : (9223372036854775807 < 1 + t196.size) = False := eq_false (Nat.not_lt.2 c5)
      replace H := Option.bind_eq_some_iff.mp H
      obtain ⟨t198, A60, H⟩ := H
      replace H : (some (t198, 0)) = some (r1, r2) := H
      have A6 := zc.mk A60
      clear A60
      simp only [Option.some.injEq, Prod.mk.injEq] at H
      obtain ⟨rfl, rfl⟩ := H
      go_enter Try.func15, Try.ntmps15
      go_wp2_with (first | ((with_reducible refine zA (N := 2) rfl ?_); refine zt ?hg (N := 2) ?hd (cs := #[.int .i64 a0_0, .int .i64 a0_1, .slice A0_2 l0_2.length c0_2, .slice A0_3 l0_3.length c0_3, .int .i64 a0_4, .int .i64 a0_5]) (t := 31) ?hr ?_; (case hd => rfl); (case hg => rfl); (case hr => first | (go_simp; done) | (go_simp; rfl)); intro gb195 hg w7 hbox hb; have n0_ := zc.mk (zh (by repeat (first | (with_reducible first | exact HB.out | apply zf | apply zd | apply ze) | exact HB.out)) hb); have n1_ := zc.mk (hbox); have n2_ := zc.mk ((by rw [hg]; exact (zp (by repeat (first | (with_reducible first | exact HB.out | apply zf | apply zd | apply ze) | exact HB.out))) : w.heap.size ≤ gb195)); have n3_ := zc.mk ((by rw [hg]; exact (zp (by repeat (first | (with_reducible first | exact HB.out | apply zf | apply zd | apply ze) | exact HB.out))) : w.heap.size ≤ gb195)); clear HB; have HB := n0_; have BK195 := n1_; have GW195 := n2_; have GE195 := n3_; clear n0_ n1_ n2_ n3_; clear hb hbox hg; have hcz8_0 : w7.cell? ⟨gb195, 0, none⟩ = some (.int .i64 a0_0) := (zb BK195.out 0).trans rfl; have hcz8_1 : w7.cell? ⟨gb195, 1, none⟩ = some (.int .i64 a0_1) := (zb BK195.out 1).trans rfl; have hcz8_2 : w7.cell? ⟨gb195, 2, none⟩ = some (.slice A0_2 l0_2.length c0_2) := (zb BK195.out 2).trans rfl; have hcz8_3 : w7.cell? ⟨gb195, 3, none⟩ = some (.slice A0_3 l0_3.length c0_3) := (zb BK195.out 3).trans rfl; have hcz8_4 : w7.cell? ⟨gb195, 4, none⟩ = some (.int .i64 a0_4) := (zb BK195.out 4).trans rfl; have hcz8_5 : w7.cell? ⟨gb195, 5, none⟩ = some (.int .i64 a0_5) := (zb BK195.out 5).trans rfl; have hfz8_0 := za BK195.out 0; have hfz8_1 := za BK195.out 1; have hfz8_2 := za BK195.out 2; have hfz8_3 := za BK195.out 3; have hfz8_4 := za BK195.out 4; have hfz8_5 := za BK195.out 5) | ((with_reducible refine zr (f := 30) rfl ?_); refine zR (some 11) rfl rfl Try.func30 (by kernel_rfl) rfl #[.agg #[.int .i64 a0_0, .int .i64 a0_1, .slice A0_2 l0_2.length c0_2, .slice A0_3 l0_3.length c0_3, .int .i64 a0_4, .int .i64 a0_5], .int .i64 a1] rfl (by (try simp only [List.map_toArray, List.map_cons, List.map_nil]); first | done | rfl | (simp only [List.length_drop, List.length_take]; rfl)) ?_; (with_reducible refine (zz.calls k a0_0 a0_1 _ _ l0_2 _ _ l0_3 a0_4 a0_5 a1 t196 t197 _ ?side1 ?side2 ?side3 ?side4 A3.out).mono ?_); (case side1 => repeat (first | exact (Kd.C_below HR0_2.out HB.out) | (with_reducible refine Kd.C_alloc ?_ _) | (with_reducible refine Kd.C_drewN ?_ _) | (with_reducible refine Kd.C_drew ?_))); (case side2 => exact HC0_2.out); (case side3 => repeat (first | exact (Kd.C_below HR0_3.out HB.out) | (with_reducible refine Kd.C_alloc ?_ _) | (with_reducible refine Kd.C_drewN ?_ _) | (with_reducible refine Kd.C_drew ?_))); (case side4 => exact HC0_3.out); rintro e w9 ⟨rfl, hb⟩; refine ⟨_, rfl, ?_⟩; have n0_ := zc.mk (zl (g := gb195) (o := .cells #[.int .i64 a0_0, .int .i64 a0_1, .slice A0_2 l0_2.length c0_2, .slice A0_3 l0_3.length c0_3, .int .i64 a0_4, .int .i64 a0_5] 31 (0, 0)) (by (with_reducible repeat (first | refine zi ?_ _ | refine zk ?_ | refine zj ?_ _)); exact BK195.out) hb); have n1_ := zc.mk (zh (by repeat (first | (with_reducible first | exact HB.out | apply zf | apply zd | apply ze | refine zg ?_ GE195.out) | exact HB.out)) hb); clear BK195; clear HB; have BK195 := n0_; have HB := n1_; clear n0_ n1_; (try clear hb); (try clear hb2); (try clear hk); (try clear hi)) | ((with_reducible refine zr (f := 31) rfl ?_); refine zR (some 19) rfl rfl Try.func31 (by kernel_rfl) rfl #[.string ((⟨#[118]⟩ : ByteArray) ++ t196)] rfl (by (try simp only [List.map_toArray, List.map_cons, List.map_nil]); first | done | rfl | (simp only [List.length_drop, List.length_take]; rfl)) ?_; (with_reducible refine (zam.calls ((⟨#[118]⟩ : ByteArray) ++ t196) t198 _ A6.out).mono ?_); rintro e w10 ⟨rfl, hb⟩; refine ⟨_, rfl, ?_⟩; have n0_ := zc.mk (zl (g := gb195) (o := .cells #[.int .i64 a0_0, .int .i64 a0_1, .slice A0_2 l0_2.length c0_2, .slice A0_3 l0_3.length c0_3, .int .i64 a0_4, .int .i64 a0_5] 31 (0, 0)) (by (with_reducible repeat (first | refine zi ?_ _ | refine zk ?_ | refine zj ?_ _)); exact BK195.out) hb); have n1_ := zc.mk (zh (by repeat (first | (with_reducible first | exact HB.out | apply zf | apply zd | apply ze | refine zg ?_ GE195.out) | exact HB.out)) hb); clear BK195; clear HB; have BK195 := n0_; have HB := n1_; clear n0_ n1_; (try clear hb); (try clear hb2); (try clear hk); (try clear hi)))
      go_ret2
      exact ⟨by first | rfl | (simp [zn, zo] <;> rfl) | (simp [*, zn, zo] <;> rfl), by repeat (first | (with_reducible first | exact HB.out | apply zf | apply zd | apply ze | refine zg ?_ GE195.out) | exact HB.out)⟩
    · rw [if_neg c5] at H
      exact absurd H (by simp)
  · rw [if_neg c4] at H
    have c4b0 : (t197 == 0) = false := beq_eq_false_iff_ne.mpr c4
    have c4b1 : (t197 != 0) = true := bne_iff_ne.mpr c4
    simp only [Option.some.injEq, Prod.mk.injEq] at H
    obtain ⟨rfl, rfl⟩ := H
    go_enter Try.func15, Try.ntmps15
    go_wp2_with (first | ((with_reducible refine zA (N := 2) rfl ?_); refine zt ?hg (N := 2) ?hd (cs := #[.int .i64 a0_0, .int .i64 a0_1, .slice A0_2 l0_2.length c0_2, .slice A0_3 l0_3.length c0_3, .int .i64 a0_4, .int .i64 a0_5]) (t := 31) ?hr ?_; (case hd => rfl); (case hg => rfl); (case hr => first | (go_simp; done) | (go_simp; rfl)); intro gb195 hg w11 hbox hb; have n0_ := zc.mk (zh (by repeat (first | (with_reducible first | exact HB.out | apply zf | apply zd | apply ze) | exact HB.out)) hb); have n1_ := zc.mk (hbox); have n2_ := zc.mk ((by rw [hg]; exact (zp (by repeat (first | (with_reducible first | exact HB.out | apply zf | apply zd | apply ze) | exact HB.out))) : w.heap.size ≤ gb195)); have n3_ := zc.mk ((by rw [hg]; exact (zp (by repeat (first | (with_reducible first | exact HB.out | apply zf | apply zd | apply ze) | exact HB.out))) : w.heap.size ≤ gb195)); clear HB; have HB := n0_; have BK195 := n1_; have GW195 := n2_; have GE195 := n3_; clear n0_ n1_ n2_ n3_; clear hb hbox hg; have hcz12_0 : w11.cell? ⟨gb195, 0, none⟩ = some (.int .i64 a0_0) := (zb BK195.out 0).trans rfl; have hcz12_1 : w11.cell? ⟨gb195, 1, none⟩ = some (.int .i64 a0_1) := (zb BK195.out 1).trans rfl; have hcz12_2 : w11.cell? ⟨gb195, 2, none⟩ = some (.slice A0_2 l0_2.length c0_2) := (zb BK195.out 2).trans rfl; have hcz12_3 : w11.cell? ⟨gb195, 3, none⟩ = some (.slice A0_3 l0_3.length c0_3) := (zb BK195.out 3).trans rfl; have hcz12_4 : w11.cell? ⟨gb195, 4, none⟩ = some (.int .i64 a0_4) := (zb BK195.out 4).trans rfl; have hcz12_5 : w11.cell? ⟨gb195, 5, none⟩ = some (.int .i64 a0_5) := (zb BK195.out 5).trans rfl; have hfz12_0 := za BK195.out 0; have hfz12_1 := za BK195.out 1; have hfz12_2 := za BK195.out 2; have hfz12_3 := za BK195.out 3; have hfz12_4 := za BK195.out 4; have hfz12_5 := za BK195.out 5) | ((with_reducible refine zr (f := 30) rfl ?_); refine zR (some 11) rfl rfl Try.func30 (by kernel_rfl) rfl #[.agg #[.int .i64 a0_0, .int .i64 a0_1, .slice A0_2 l0_2.length c0_2, .slice A0_3 l0_3.length c0_3, .int .i64 a0_4, .int .i64 a0_5], .int .i64 a1] rfl (by (try simp only [List.map_toArray, List.map_cons, List.map_nil]); first | done | rfl | (simp only [List.length_drop, List.length_take]; rfl)) ?_; (with_reducible refine (zz.calls k a0_0 a0_1 _ _ l0_2 _ _ l0_3 a0_4 a0_5 a1 t196 t197 _ ?side1 ?side2 ?side3 ?side4 A3.out).mono ?_); (case side1 => repeat (first | exact (Kd.C_below HR0_2.out HB.out) | (with_reducible refine Kd.C_alloc ?_ _) | (with_reducible refine Kd.C_drewN ?_ _) | (with_reducible refine Kd.C_drew ?_))); (case side2 => exact HC0_2.out); (case side3 => repeat (first | exact (Kd.C_below HR0_3.out HB.out) | (with_reducible refine Kd.C_alloc ?_ _) | (with_reducible refine Kd.C_drewN ?_ _) | (with_reducible refine Kd.C_drew ?_))); (case side4 => exact HC0_3.out); rintro e w13 ⟨rfl, hb⟩; refine ⟨_, rfl, ?_⟩; have n0_ := zc.mk (zl (g := gb195) (o := .cells #[.int .i64 a0_0, .int .i64 a0_1, .slice A0_2 l0_2.length c0_2, .slice A0_3 l0_3.length c0_3, .int .i64 a0_4, .int .i64 a0_5] 31 (0, 0)) (by (with_reducible repeat (first | refine zi ?_ _ | refine zk ?_ | refine zj ?_ _)); exact BK195.out) hb); have n1_ := zc.mk (zh (by repeat (first | (with_reducible first | exact HB.out | apply zf | apply zd | apply ze | refine zg ?_ GE195.out) | exact HB.out)) hb); clear BK195; clear HB; have BK195 := n0_; have HB := n1_; clear n0_ n1_; (try clear hb); (try clear hb2); (try clear hk); (try clear hi)))
    go_ret2
    exact ⟨by first | rfl | (simp [zn, zo] <;> rfl) | (simp [*, zn, zo] <;> rfl), by repeat (first | (with_reducible first | exact HB.out | apply zf | apply zd | apply ze | refine zg ?_ GE195.out) | exact HB.out)⟩
end Go.Proofs.Ytlabjgcoopdbiaa.Px

namespace Go.Proofs.Ytlabjgcoopdbiaa.Px
open Go.RowKit Go.Proofs.YtlabjgcoopdbiaaW.PrintWords Go.Proofs.YtlabjgcoopdbiaaW.PrintLast Go.Proofs.YtlabjgcoopdbiaaW.PrintMore
attribute [local go_sem] zC zE zK zL zw zx zD zF
set_option linter.unusedVariables false
set_option linter.unusedSimpArgs false
theorem zci {x : Int} (h0 : 0 ≤ x) (h1 : x < 9223372036854775808) : Ev (fun k => zv.f k (IntKind.u64.wrap x)) (zbg x.toNat) := by
  obtain ⟨n, rfl⟩ := Int.eq_ofNat_of_zero_le h0
  rw [zbi (by omega) (by omega), Int.toNat_natCast]
  exact zeo n (by omega)
def zeZ (o q : Int) (l : List ByteArray) : ByteArray × Int := if zcM o q l = true then (toB (zcf o q l), 0) else ((⟨#[]⟩ : ByteArray), 1)
theorem zc2 (o q : Int) (l : List ByteArray) (hl : l.length < 4611686018427387904) : Ev (fun k => z4.f k o q l) (zeZ o q l) := by
  refine Ev.bind (zfS _ _ _ hl) ?_
  unfold zeZ
  by_cases h : zcM o q l = true
  · rw [if_pos h]
    obtain ⟨h1, h2, h3, h4, h5, h6, h7⟩ := (zcW o q l).1 h
    have r1 := zc3 l 48 (by omega) (fun t ht => (h7 t ht).2)
    have r2 := zaK (v := l.length) (by omega)
    have r3 : (zbQ l).length ≤ 300 := by rw [zbQ, List.length_append]; omega
    have n1 := za1 (v := o.toNat) (by omega)
    have n2 := za1 (v := q.toNat) (by omega)
    have r4 : zS.f l = some (toB (zbQ l)) := if_pos (by omega)
    refine zN h (Ev.bind (zci (by omega) (by omega)) (Ev.bind (zci (by omega) (by omega)) (zN (by omega) (z8 r4 (zN (by rw [ByteArray.size_append, zaA]; omega) (zaF (Ev.now _) ?_))))))
    rw [zcf, za6, za6]; rfl
  · rw [if_neg h]; exact zab h (Ev.now _)
theorem zgT (b : S68) : (zeZ b.f0 b.f1 b.f2).1 = bB b := by
  unfold zeZ bB; split <;> rfl
def zgs (a r : Int) (bs : List S68) (ps : List ByteArray) (x y n : Int) : ByteArray × Int := if zbb a r bs ps x y n = true then (toB (zbS a r bs ps x y), 0) else ((⟨#[]⟩ : ByteArray), 1)
theorem zgj {a r : Int} {bs : List S68} {ps : List ByteArray} {x y n : Int} (h : zbb a r bs ps x y n = true) (d : Nat) : ∀ j, j + d = bs.length →
    Ev (fun k => zz.l0 k ((bs.take j).map bB) (j : Int) a r bs ps x y) (toB (zbS a r bs ps x y), 0) := by
  obtain ⟨h0, h1, h2, h3, h4, h5, h6, h7, h8, h9⟩ := (zcs ..).1 h
  obtain ⟨k1, k2, k3⟩ := (zcz n).1 h0
  obtain ⟨x1, x2, y1, y2⟩ := (zd6 x y).1 h7
  induction d with
  | zero =>
    intro j hj
    refine Ev.step (fun k => by rw [zz.l0]) ?_
    rw [List.take_of_length_le (by omega)]
    have s0 := za1 (v := a.toNat) (by omega)
    have s1 := za1 (v := r.toNat) (by omega)
    have s2 := za1 (v := x.toNat) (by omega)
    have s3 := za1 (v := y.toNat) (by omega)
    have r1 := zgm h5
    have r2 := zgn (zb6 h0 h9)
    have d1 : zS.f (bs.map bB) = some (toB (zbQ (bs.map bB))) := if_pos (by omega)
    have d2 : zS.f ps = some (toB (zbQ ps)) := if_pos (by omega)
    refine zab (by omega) (Ev.bind (zci (by omega) (by omega)) (Ev.bind (zci (by omega) (by omega)) (zN (by omega) (z8 d1 (zN (by simp only [ByteArray.size_append, zaA]; omega) (z8 d2 (zN (by simp only [ByteArray.size_append, zaA]; omega)
      (Ev.bind (zci (by omega) (by omega)) (zN (by simp only [ByteArray.size_append, zaA]; omega) (Ev.bind (zci (by omega) (by omega)) (zN (by simp only [ByteArray.size_append, zaA]; omega) (zaF (Ev.now _) ?_))))))))))))
    simp only [zbS, zbg, za6]
  | succ d ih =>
    intro j hj
    have hj' : j < bs.length := by omega
    refine Ev.step (fun k => by rw [zz.l0]) ?_
    refine zN (by omega) (zN (by omega) ?_)
    rw [zcH bs j hj', zah (by omega) (by omega)]
    have hl := (zg0 h).2.1 _ (List.getElem_mem hj')
    refine Ev.bind (zc2 _ _ _ hl) (zN (by rw [List.length_map, List.length_take]; omega) ?_)
    rw [zgT]
    have e : (bs.take j).map bB ++ [bB bs[j]] = (bs.take (j + 1)).map bB := by
      rw [List.take_succ_eq_append_getElem hj', List.map_append]; rfl
    rw [e]
    exact ih (j + 1) (by omega)
theorem zec (a r : Int) (bs : List S68) (ps : List ByteArray) (x y n : Int) (hb : bs.length < 4611686018427387904) (hbs : ∀ b ∈ bs, b.f2.length < 4611686018427387904) (hl : ps.length < 4611686018427387904) (hp : ∀ t ∈ ps, t.size < 4611686018427387904) :
    Ev (fun k => zz.f k a r bs ps x y n) (zgs a r bs ps x y n) := by
  refine Ev.bind (zfo a r bs ps x y n hb hbs hl hp) ?_
  unfold zgs
  by_cases h : zbb a r bs ps x y n = true
  · rw [if_pos h]
    exact zN h (zaF (zgj h bs.length 0 (by omega)) rfl)
  · rw [if_neg h]; exact zab h (Ev.now _)
end Go.Proofs.Ytlabjgcoopdbiaa.Px

namespace Go.Proofs.Ytlabjgcoopdbiaa.Px
open Go.RowKit Go.Proofs.YtlabjgcoopdbiaaW.PrintWords Go.Proofs.YtlabjgcoopdbiaaW.PrintLast Go.Proofs.YtlabjgcoopdbiaaW.PrintMore
attribute [local go_sem] zC zE zK zL zw zx zD zF
set_option linter.unusedVariables false
set_option linter.unusedSimpArgs false
theorem zeu {o q : Int} {l : List ByteArray} (h : zcM o q l = true) : (toB (zcf o q l)).size ≤ 400 := by
  obtain ⟨h1, h2, h3, h4, h5, h6, h7⟩ := (zcW _ _ _).1 h
  have r1 := zc3 l 48 (by omega) (fun t ht => (h7 t ht).2)
  have r2 := zaK (v := l.length) (by omega)
  have r4 := zaK (v := o.toNat) (by omega)
  have r5 := zaK (v := q.toNat) (by omega)
  rw [zaA, zcf, List.length_append, List.length_append, zbQ, List.length_append]; omega
theorem zfs {s : ByteArray} (h : s.size ≤ 10000) : zbA.f s = some (zeO s) := by rw [zbA.f, if_pos (by omega)]
theorem zfT {s : ByteArray} (h : s.size ≤ 10000) : zam.f s = some (zeO s) := by rw [zam.f, if_pos (by omega)]
def zc5 (o q : Int) (l : List ByteArray) : ByteArray × Int := if zcM o q l = true then (zeO ((⟨#[98]⟩ : ByteArray) ++ toB (zcf o q l)), 0) else ((⟨#[]⟩ : ByteArray), 1)
theorem zd8 (b : UInt8) (s : ByteArray) : ((⟨#[b]⟩ : ByteArray) ++ s).size = 1 + s.size := by rw [ByteArray.size_append]; rfl
theorem zeH (o q : Int) (l : List ByteArray) : zbJ.f o q l = some (zc5 o q l) := by
  unfold zbJ.f zc5
  rw [zdo]
  simp only [Option.bind_some]
  by_cases h : zcM o q l = true
  · have hs := zeu h
    rw [if_pos h, if_pos h, if_pos rfl, if_pos (by show 1 + (toB (zcf o q l)).size ≤ _; omega)]
    show (zbA.f ((⟨#[98]⟩ : ByteArray) ++ toB (zcf o q l))).bind _ = _
    rw [zfs (by rw [zd8]; omega)]
    rfl
  · rw [if_neg h, if_neg h, if_neg (by simp)]
end Go.Proofs.Ytlabjgcoopdbiaa.Px

namespace Go.Proofs.Ytlabjgcoopdbiaa.Px
open Go.RowKit Go.Proofs.YtlabjgcoopdbiaaW.PrintWords Go.Proofs.YtlabjgcoopdbiaaW.PrintLast Go.Proofs.YtlabjgcoopdbiaaW.PrintMore
attribute [local go_sem] zC zE zK zL zw zx zD zF
set_option linter.unusedVariables false
set_option linter.unusedSimpArgs false
theorem zee {a r : Int} {bs : List S68} {ps : List ByteArray} {x y n : Int} (h : zbb a r bs ps x y n = true) : (toB (zbS a r bs ps x y)).size ≤ 5000 := by
  obtain ⟨h0, h1, h2, h3, h4, h5, h6, h7, h8, h9⟩ := (zcs ..).1 h
  obtain ⟨k1, k2, k3⟩ := (zcz n).1 h0
  obtain ⟨x1, x2, y1, y2⟩ := (zd6 x y).1 h7
  have r1 := zgm (bs := bs) (by omega)
  have r2 := zgn (zb6 h0 h9)
  have r3 := zaK (v := a.toNat) (by omega)
  have r4 := zaK (v := r.toNat) (by omega)
  have r5 := zaK (v := x.toNat) (by omega)
  have r6 := zaK (v := y.toNat) (by omega)
  rw [zaA, zbS]
  simp only [List.length_append]
  omega
def zaY (a r : Int) (bs : List S68) (ps : List ByteArray) (x y n : Int) : ByteArray × Int := if zbb a r bs ps x y n = true then (zeO ((⟨#[118]⟩ : ByteArray) ++ toB (zbS a r bs ps x y)), 0) else ((⟨#[]⟩ : ByteArray), 1)
theorem zc4 (a r : Int) (bs : List S68) (ps : List ByteArray) (x y n : Int) : zaJ.f a r bs ps x y n = some (zaY a r bs ps x y n) := by
  unfold zaJ.f zaY
  rw [zeP]
  simp only [Option.bind_some]
  by_cases h : zbb a r bs ps x y n = true
  · have hs := zee h
    rw [if_pos h, if_pos h, if_pos rfl, if_pos (by show 1 + (toB (zbS a r bs ps x y)).size ≤ _; omega)]
    show (zbA.f ((⟨#[118]⟩ : ByteArray) ++ toB (zbS a r bs ps x y))).bind _ = _
    rw [zfs (by rw [zd8]; omega)]
    rfl
  · rw [if_neg h, if_neg h, if_neg (by simp)]
theorem zbU (a r : Int) (bs : List S68) (ps : List ByteArray) (x y n : Int) (hb : bs.length < 4611686018427387904) (hbs : ∀ b ∈ bs, b.f2.length < 4611686018427387904) (hl : ps.length < 4611686018427387904) (hp : ∀ t ∈ ps, t.size < 4611686018427387904) :
    Ev (fun k => zY.f k a r bs ps x y n) (zaY a r bs ps x y n) := by
  unfold zY.f
  refine Ev.bind (zec a r bs ps x y n hb hbs hl hp) ?_
  unfold zgs zaY
  by_cases h : zbb a r bs ps x y n = true
  · have hs := zee h
    rw [if_pos h, if_pos h]
    refine zN rfl (zN (by show 1 + (toB (zbS a r bs ps x y)).size ≤ _; omega) ?_)
    refine z8 (zfT (s := (⟨#[118]⟩ : ByteArray) ++ toB (zbS a r bs ps x y)) (by rw [zd8]; omega)) ?_
    exact Ev.now _
  · rw [if_neg h, if_neg h]
    exact zab (by simp) (Ev.now _)
end Go.Proofs.Ytlabjgcoopdbiaa.Px

namespace Go.Proofs.Ytlabjgcoopdbiaa.Px
open Go.RowKit Go.Proofs.YtlabjgcoopdbiaaW.PrintWords Go.Proofs.YtlabjgcoopdbiaaW.PrintLast Go.Proofs.YtlabjgcoopdbiaaW.PrintMore
attribute [local go_sem] zC zE zK zL zw zx zD zF
set_option linter.unusedVariables false
set_option linter.unusedSimpArgs false
theorem zdW (l : List S58) (j : Nat) (h : j < l.length) : zak l (j : Int) = l[j] := by
  rw [zak, Int.toNat_natCast, List.getD_eq_getElem?_getD, List.getElem?_eq_getElem h]; rfl
theorem zgo (s : Nat) (hs : s < 18446744073709551616) (i : Int) : zb0.f (s : Int) i = some (if 1 ≤ i ∧ i ≤ 64 then (((zfg s i : Nat) : Int), 0) else (0, 1)) := by
  by_cases hh : 1 ≤ i ∧ i ≤ 64
  · have es : zbu.f i = some true := by unfold zbu.f; rw [if_pos hh.1, decide_eq_true hh.2]
    have e1 : wrap64 (i - 1) = ((i.toNat - 1 : Nat) : Int) := by rw [zah (by omega) (by omega)]; omega
    have h3' : 2 ^ (i.toNat - 1) < 2 ^ 64 := Nat.pow_lt_pow_right (by decide) (by omega)
    have h3 : 2 ^ (i.toNat - 1) < 18446744073709551616 := h3'
    have e2 : shl .u64 1 ((i.toNat - 1 : Nat) : Int) = ((2 ^ (i.toNat - 1) : Nat) : Int) := by
      unfold shl
      rw [Int.toNat_natCast, Nat.min_eq_left (by show i.toNat - 1 ≤ 64; omega), Int.one_mul]
      have h4 : ((2 : Int) ^ (i.toNat - 1)) = ((2 ^ (i.toNat - 1) : Nat) : Int) := by rw [Int.natCast_pow]; rfl
      rw [h4]
      generalize 2 ^ (i.toNat - 1) = p at h3 ⊢
      exact zbi (Int.natCast_nonneg _) (by omega)
    unfold zb0.f
    rw [es, show (if 1 ≤ i ∧ i ≤ 64 then (((zfg s i : Nat) : Int), (0 : Int)) else (0, 1)) = (((zfg s i : Nat) : Int), 0) from if_pos hh, Option.bind_some, if_pos rfl, e1, if_pos (Int.natCast_nonneg _), e2, u64_or_nat _ _ hs h3, zfg, if_pos hh]
  · have es : zbu.f i = some false := by
      unfold zbu.f
      by_cases h1 : i ≥ 1
      · rw [if_pos h1, decide_eq_false (fun h => hh ⟨h1, h⟩)]
      · rw [if_neg h1]
    unfold zb0.f
    rw [es, show (if 1 ≤ i ∧ i ≤ 64 then (((zfg s i : Nat) : Int), (0 : Int)) else (0, 1)) = (0, 1) from if_neg hh]
    rfl
theorem by_l0 (t : ByteArray) (b : List S58) (hb : b.length < 4611686018427387904) (d : Nat) : ∀ (j s : Nat), j + d = b.length → s < 18446744073709551616 → Ev (fun k => zbf.l0 k t (s : Int) b (b.length : Int) (j : Int)) ((byN t (b.drop j) s : Nat) : Int) := by
  induction d with
  | zero =>
    intro j s hj hs
    refine Ev.step (fun k => by rw [zbf.l0]) ?_
    rw [List.drop_of_length_le (by omega)]
    exact zab (by omega) (Ev.now _)
  | succ d ih =>
    intro j s hj hs
    refine Ev.step (fun k => by rw [zbf.l0]) ?_
    have hlt : j < b.length := by omega
    rw [zdW b j hlt, List.drop_eq_getElem_cons hlt, byN, zah (by omega) (by omega)]
    refine zN (by omega) (zN (by omega) (zN (by omega) ?_))
    by_cases h : b[j].f1 = t
    · rw [if_pos h]
      refine zN (by rw [h]) (z8 (zgo s hs b[j].f0) ?_)
      by_cases h1 : 1 ≤ b[j].f0 ∧ b[j].f0 ≤ 64
      · rw [if_pos h1]
        exact zN rfl (ih (j + 1) _ (by omega) (zhv hs _))
      · rw [if_neg h1]
        refine zab (by simp) ?_
        rw [zfg, if_neg h1]
        exact ih (j + 1) s (by omega) hs
    · rw [if_neg h]
      refine zab (fun hh => h ((zdP _ _).1 hh)) (ih (j + 1) s (by omega) hs)
theorem zgu (b : List S58) (hb : b.length < 4611686018427387904) (s : Nat) (hs : s < 18446744073709551616) (t : ByteArray) : Ev (fun k => zbN.f k b (s : Int) t) (zfz b s t) := by
  refine Ev.bind (by_l0 t b hb b.length 0 0 (by omega) (by decide)) (zaF (Ev.now _) ?_)
  rw [List.drop_zero, ← all_by b s hs t]
  rfl
def zgR (d : ByteArray) : ByteArray := (⟨#[121]⟩ : ByteArray) ++ d
def zdS (n : Int) (b : List S58) (a r : Int) (bs : List S68) (ps : List ByteArray) (x y : Int) (s : Nat) : Int :=
  if zcU a r bs ps x y s n = 0 then (if zfz b s (zgR (zaY a r bs ps x y n).1) = true then 0 else 10) else zcU a r bs ps x y s n
theorem zca (a r : Int) (bs : List S68) (ps : List ByteArray) (x y n : Int) : (zaY a r bs ps x y n).1.size ≤ 32 := by
  unfold zaY
  split
  · exact Nat.le_of_eq (zfV _)
  · exact Nat.zero_le _
theorem zcK (n : Int) (b : List S58) (hb : b.length < 4611686018427387904) (a r : Int) (bs : List S68) (ps : List ByteArray) (x y : Int) (s : Nat) (hs : s < 18446744073709551616) :
    Ev (fun k => zao.f k n b a r bs ps x y (s : Int)) (zdS n b a r bs ps x y s) := by
  unfold zao.f zdS
  refine z8 (zf4 a r bs ps x y s hs n) ?_
  refine zc8 (fun _ => ?_) (fun _ => Ev.now _)
  refine z8 (zc4 ..) ?_
  have hz := zca a r bs ps x y n
  refine z8 (show zav.f (zaY a r bs ps x y n).1 = some (zgR (zaY a r bs ps x y n).1) from if_pos (by omega)) ?_
  refine Ev.bind (zgu b hb s hs _) ?_
  exact zc8 (fun _ => Ev.now _) (fun _ => Ev.now _)
theorem zgy {n : Int} {b : List S58} {a r : Int} {bs : List S68} {ps : List ByteArray} {x y : Int} {s : Nat} : zdS n b a r bs ps x y s = 0 ↔ zcU a r bs ps x y s n = 0 ∧ zfz b s (zgR (zaY a r bs ps x y n).1) = true := by
  unfold zdS
  by_cases h : zcU a r bs ps x y s n = 0
  · rw [if_pos h]
    by_cases h2 : zfz b s (zgR (zaY a r bs ps x y n).1) = true
    · rw [if_pos h2]; simp [h, h2]
    · rw [if_neg h2]; simp [h2]
  · rw [if_neg h]; simp [h]
end Go.Proofs.Ytlabjgcoopdbiaa.Px

namespace Go.Proofs.Ytlabjgcoopdbiaa.Px
open Go.RowKit Go.Proofs.YtlabjgcoopdbiaaW.PrintWords Go.Proofs.YtlabjgcoopdbiaaW.PrintLast Go.Proofs.YtlabjgcoopdbiaaW.PrintMore
attribute [local go_sem] zC zE zK zL zw zx zD zF
set_option linter.unusedVariables false
set_option linter.unusedSimpArgs false
theorem zgW (b : List S58) (hb : b.length < 4611686018427387904) (i : Int) (t : ByteArray) (d : Nat) : ∀ j : Nat, j + d = b.length → Ev (fun k => zbo.l0 k b (b.length : Int) (j : Int) i t) (zbZ i t (b.drop j)) := by
  induction d with
  | zero =>
    intro j hj
    refine Ev.step (fun k => by rw [zbo.l0]) ?_
    rw [List.drop_of_length_le (by omega)]
    exact zab (by omega) (Ev.now _)
  | succ d ih =>
    intro j hj
    refine Ev.step (fun k => by rw [zbo.l0]) ?_
    have hlt : j < b.length := by omega
    rw [zdW b j hlt, List.drop_eq_getElem_cons hlt, zah (by omega) (by omega)]
    refine zN (by omega) (zN (by omega) (zN (by omega) ?_))
    rw [show zbZ i t (b[j] :: b.drop (j + 1)) = (decide (b[j].f0 = i ∧ b[j].f1 = t) || zbZ i t (b.drop (j + 1))) from rfl]
    by_cases h : b[j].f0 = i ∧ b[j].f1 = t
    · rw [decide_eq_true h]
      exact zN (by rw [h.1, h.2]; simp) (Ev.now _)
    · rw [decide_eq_false h, Bool.false_or]
      refine zab (fun hh => h ?_) (ih (j + 1) (by omega))
      rw [Bool.and_eq_true, beq_iff_eq, ze1, decide_eq_true_eq] at hh
      exact hh
theorem zgV (b : List S58) (hb : b.length < 4611686018427387904) (i : Int) (t : ByteArray) : Ev (fun k => zbo.f k b i t) (zbZ i t b) := by
  have := zgW b hb i t b.length 0 (by omega)
  rwa [List.drop_zero] at this
def zfb (b : List S58) (x : S58) : Bool := !zbZ x.f0 x.f1 b
theorem zbk.odd (b : List S58) (hl : b.length < 4611686018427387904) (g : Nat) (B : Option Addr) (cb : Nat) (i : Int) (t : ByteArray) (w : World) (hr : Kd.C k58 w B b.length b) (hc : b.length ≤ cb)
    (hn : w.heap[g]? = some (.cells #[.slice B b.length cb] 25 (0, 0))) :
    Calls Try.prog 54 #[.agg #[.int .i64 i, .string t], .pointer (some ⟨g, 0, none⟩)] w fun e w' => e = .returned (.bool (zfb b ⟨i, t⟩)) ∧ Below w.heap.size w w' := by
  obtain ⟨k, hk⟩ := (zgV b hl i t).rounds
  have HK := zc.mk hk
  have HR := zc.mk hr
  have HC := zc.mk hc
  have HN := zc.mk hn
  clear hr hc hn hk
  go_enter Try.func54, Try.ntmps54
  go_wp2_with (first
    | ((with_reducible refine zA (N := 2) rfl ?_); refine zt ?hg (N := 2) ?hd (cs := #[.int .i64 i, .string t]) (t := 58) ?hr ?_; (case hd => rfl); (case hg => rfl); (case hr => first | (go_simp; done) | (go_simp; rfl)); intro gb hg w2 hbox hb; have BK := zc.mk hbox; have HB := zc.mk hb; have BN := zc.mk (zl HN.out hb); clear hb hbox hg; have hz0 := (zb BK.out 0).trans rfl; have hz1 := (zb BK.out 1).trans rfl; have hf0 := za BK.out 0; have hf1 := za BK.out 1; have hn0 := (zb BN.out 0).trans rfl; have hnf := za BN.out 0)
    | (go_at_call 55; (with_reducible refine (zbo.calls k _ _ b i t _ _ (Kd.C_below HR.out HB.out) HC.out HK.out).mono ?_); rintro e w3 ⟨rfl, hb⟩; have HB3 := zc.mk (zh HB.out hb); clear hb))
  go_ret
  exact ⟨rfl, HB3.out⟩
theorem zbk.idx (b : List S58) (hl : b.length < 4611686018427387904) (g : Nat) (B : Option Addr) (cb : Nat) (A : Option Addr) (c : Nat) (l : List S58) (w : World) (hr : Kd.C k58 w A l.length l) (hc : l.length ≤ c)
    (hrb : Kd.C k58 w B b.length b) (hcb : b.length ≤ cb) (hn : w.heap[g]? = some (.cells #[.slice B b.length cb] 25 (0, 0))) :
    Calls Try.prog 85 #[.slice A l.length c, .func (.func 54) #[] #[.pointer (some ⟨g, 0, none⟩)]] w fun e w' => e = .returned (.int .i64 (zf7 (zfb b) l)) ∧ Below w.heap.size w w' := by
  have hm := hr.2.1
  have HR := zc.mk hr
  have HRB := zc.mk hrb
  have HCB := zc.mk hcb
  have HN := zc.mk hn
  have HLB := zc.mk hl
  clear hr hn hrb hcb hl
  go_enter Try.func85, Try.ntmps85
  go_wp2_with fail
  have HB0 := zc.mk (Below.refl w.heap.size w)
  go_loopw [5, 8] (fun v5 v8 wr => ∃ k : Nat, v8 = .int .i64 k ∧ k ≤ l.length ∧ zc (∀ (j : Nat) (y : S58), j < k → l[j]? = some y → zfb b y = false) ∧ zc (Below w.heap.size w wr)) (fun _ v8 _ => l.length - (match v8 with | .int _ q => q | _ => 0).toNat)
  case atStart => exact ⟨0, rfl, Nat.zero_le _, ⟨fun j y hj => absurd hj (Nat.not_lt_zero _)⟩, ⟨by repeat (first | (with_reducible first | exact HB0.out | apply zf | apply zd | apply ze) | exact HB0.out)⟩⟩
  case round =>
    obtain ⟨k, rfl, hk, HF, HB⟩ := hrel
    by_cases hlt : k < l.length
    · obtain ⟨ad, rfl, hx0, hx1⟩ := zdn HR.out (k : Int) (by omega) (by omega)
      replace hx0 := (HB.out.cell (World.block_lt_of_cell? w _ hx0)).trans hx0
      replace hx1 := (HB.out.cell (World.block_lt_of_cell? w _ hx1)).trans hx1
      rw [Int.toNat_natCast] at hx0 hx1
      have hb : decide (k < l.length) = true := decide_eq_true hlt
      have hx : l[k]? = some (zak l (k : Int)) := by
        rw [zak, Int.toNat_natCast, List.getD_eq_getElem?_getD, List.getElem?_eq_getElem hlt]; rfl
      have HX := zc.mk hx
      have HNW := zc.mk (zl HN.out HB.out)
      have HRW := zc.mk (Kd.C_below HRB.out HB.out)
      clear hx
      generalize zak l (k : Int) = s at *
      obtain ⟨s0, s1⟩ := s
      rcases ho : zfb b ⟨s0, s1⟩ with _ | _
      · have HO := zc.mk ho
        clear ho
        go_wp2_with (go_at_call 54; (with_reducible refine (zbk.odd b HLB.out g _ _ s0 s1 _ HRW.out HCB.out HNW.out).mono ?_); rintro e w1 ⟨rfl, hb1⟩; rw [HO.out]; have HB1 := zc.mk (zh HB.out hb1); clear hb1)
        go_roundw
        case rel =>
          refine ⟨k + 1, by go_num, by omega, ⟨fun j y hj hy => ?_⟩, HB1⟩
          rcases Nat.lt_succ_iff_lt_or_eq.1 hj with h | h
          · exact HF.out j y h hy
          · subst h
            rw [HX.out] at hy
            injection hy with hy
            subst hy
            exact HO.out
        case measure => simp; omega
      · have HO := zc.mk ho
        clear ho
        go_wp2_with (go_at_call 54; (with_reducible refine (zbk.odd b HLB.out g _ _ s0 s1 _ HRW.out HCB.out HNW.out).mono ?_); rintro e w1 ⟨rfl, hb1⟩; rw [HO.out]; have HB1 := zc.mk (zh HB.out hb1); clear hb1)
        go_ret
        exact ⟨by rw [zfa HX.out HO.out HF.out]; rfl, HB1.out⟩
    · obtain rfl : k = l.length := by omega
      go_wp2_with fail
      go_ret
      exact ⟨by rw [zej (fun j y hy => HF.out j y (List.getElem?_eq_some_iff.1 hy).1 hy)]; rfl, HB.out⟩
theorem zbk.contains (b : List S58) (hl : b.length < 4611686018427387904) (g : Nat) (B : Option Addr) (cb : Nat) (A : Option Addr) (c : Nat) (l : List S58) (w : World) (hr : Kd.C k58 w A l.length l) (hc : l.length ≤ c)
    (hrb : Kd.C k58 w B b.length b) (hcb : b.length ≤ cb) (hn : w.heap[g]? = some (.cells #[.slice B b.length cb] 25 (0, 0))) :
    Calls Try.prog 53 #[.slice A l.length c, .func (.func 54) #[] #[.pointer (some ⟨g, 0, none⟩)]] w fun e w' => e = .returned (.bool (l.any (zfb b))) ∧ Below w.heap.size w w' := by
  have HR := zc.mk hr
  have HC := zc.mk hc
  have HRB := zc.mk hrb
  have HCB := zc.mk hcb
  have HN := zc.mk hn
  clear hr hc hn hrb hcb
  have HA := zc.mk (ze9 (zfb b) l)
  go_enter Try.func53, Try.ntmps53
  go_wp2_with (go_at_call 85; (with_reducible refine (zbk.idx b hl g _ _ _ _ l _ HR.out HC.out HRB.out HCB.out HN.out).mono ?_); rintro e w1 ⟨rfl, hb1⟩; have HB1 := zc.mk hb1; clear hb1)
  go_ret
  exact ⟨by rw [← HA.out]; rfl, HB1.out⟩
def zbk.f (l0 : List S58) (l1 : List S58) : Option (Bool) := if l0.length < 4611686018427387904 then some (!l1.any (zfb l0)) else none
theorem zbk.calls (A0 : Option Addr) (c0 : Nat) (l0 : List S58) (A1 : Option Addr) (c1 : Nat) (l1 : List S58) (r : Bool) (w : World) (hr0 : Kd.C k58 w A0 l0.length l0) (hc0 : l0.length ≤ c0) (hr1 : Kd.C k58 w A1 l1.length l1) (hc1 : l1.length ≤ c1) (h : zbk.f l0 l1 = some r) :
    Calls Try.prog 34 #[.slice A0 l0.length c0, .slice A1 l1.length c1] w fun e w' => e = .returned (.bool r) ∧ Below w.heap.size w w' := by
  unfold zbk.f at h
  split at h
  · next hl =>
    obtain rfl := Option.some.inj h
    have HR0 := zc.mk hr0
    have HC0 := zc.mk hc0
    have HR1 := zc.mk hr1
    have HC1 := zc.mk hc1
    have HL := zc.mk hl
    clear hr0 hc0 hr1 hc1 hl h
    go_enter Try.func34, Try.ntmps34
    go_wp2_with (first
      | ((with_reducible refine zA (N := 2) rfl ?_); refine zt ?hg (N := 2) ?hd (cs := #[.slice A0 l0.length c0]) (t := 25) ?hr ?_; (case hd => rfl); (case hg => rfl); (case hr => first | (go_simp; done) | (go_simp; rfl)); intro gb hg w2 hbox hb; have BK := zc.mk hbox; have HB := zc.mk hb; clear hb hbox hg)
      | (go_at_call 53; (with_reducible refine (zbk.contains l0 HL.out gb _ _ _ _ l1 _ (Kd.C_below HR1.out HB.out) HC1.out (Kd.C_below HR0.out HB.out) HC0.out BK.out).mono ?_); rintro e w3 ⟨rfl, hb⟩; have HB3 := zc.mk (zh HB.out hb); clear hb))
    go_ret
    exact ⟨rfl, HB3.out⟩
  · exact absurd h (by simp)
end Go.Proofs.Ytlabjgcoopdbiaa.Px
