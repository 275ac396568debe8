/- Part 31 of 32 of the proof of the law CertChecks: what is proved is the statement at the end of the last part; its conditions are those of the given row. -/
import Derived.Test.YtlabjgcoopdbiaaZCertChecksZ
import Derived.Test.YtlabjgcoopdbiaaZCertChecksa
import Derived.Test.YtlabjgcoopdbiaaZCertChecksd
namespace Go.Proofs.Ytlabjgcoopdbiaa.Px
open Go.RowKit Go.Proofs.YtlabjgcoopdbiaaW.PrintWords Go.Proofs.YtlabjgcoopdbiaaW.PrintLast Go.Proofs.YtlabjgcoopdbiaaW.PrintMore
attribute [local go_sem] zC zE zK zL zw zx zD zF
set_option linter.unusedVariables false
set_option linter.unusedSimpArgs false
def zq.j0 : Nat → Int → List (S58) → Bool → Bool → Int → Int → List (S68) → List ByteArray → Int → Int → Int → Option (Bool)
  | 0, _, _, _, _, _, _, _, _, _, _, _ => none
  | k + 1, x3, x4, x7, x8, x297000, x297001, x297002, x297003, x297004, x297005, x297006 => if x7 = true then (if x8 = true then ((z9.f k x3 x4 x297000 x297001 x297002 x297003 x297004 x297005).bind fun t304 => ((zH.f k x3 x4 x297000 x297001 x297002 x297003 x297004 x297005).bind fun t305 => (if t304 = t305 then ((zao.f k x3 x4 x297000 x297001 x297002 x297003 x297004 x297005 x297006).bind fun t306 => ((zas.f k x3 x4 x297000 x297001 x297002 x297003 x297004 x297005 x297006).bind fun t307 => (some (t306 == t307)))) else (some false)))) else (some false)) else (some false)
def zq.f (k : Nat) (a0_0 : Int) (l0_1 : List (S58)) (a0_2 : Int) (a0_3 : Int) (l0_4 : List (S68)) (l0_5 : List ByteArray) (a0_6 : Int) (a0_7 : Int) (a0_8 : Int) (a0_9 : ByteArray) : Option (Bool) := (zaS.f k).bind fun t297 => ((zaT.f a0_9).bind fun t298 => ((zau.f a0_9).bind fun t299 => (if t298.toList = t299.toList then ((zav.f a0_9).bind fun t300 => ((zay.f a0_9).bind fun t301 => (if t300.toList = t301.toList then ((zaN.f a0_9).bind fun t302 => ((zaf.f a0_9).bind fun t303 => (zq.j0 k a0_0 l0_1 t297 (t302.toList == t303.toList) a0_2 a0_3 l0_4 l0_5 a0_6 a0_7 a0_8))) else (zq.j0 k a0_0 l0_1 t297 false a0_2 a0_3 l0_4 l0_5 a0_6 a0_7 a0_8)))) else (zq.j0 k a0_0 l0_1 t297 false a0_2 a0_3 l0_4 l0_5 a0_6 a0_7 a0_8))))
def zq.T7 : Bool × List (List Nat × List Nat) := (true, [([], []), ([0], [0]), ([1], [1]), ([1, 2], [1, 2]), ([3, 1], [3]), ([4], [4]), ([4], [4]), ([4], [4]), ([7, 4], [4, 7]), ([5, 6, 8, 4, 4], [4, 5, 6, 8]), ([4], [4]), ([4], [4]), ([4], [4]), ([12, 4], [4, 12]), ([10, 11, 13, 9, 4], [4, 10, 11, 13]), ([9, 14, 4], [4, 9, 14]), ([4, 15], [4, 15]), ([16, 14], [16]), ([17], [17]), ([17], [17]), ([17], [17]), ([18, 19, 20, 17, 17], [17, 18, 19, 20]), ([17], [17]), ([17], [17]), ([17], [17]), ([22, 23, 24, 21, 17], [17, 22, 23, 24]), ([21, 25, 17], [17, 21, 25]), ([17, 26], [17, 26]), ([27, 25, 0, 1, 2, 3, 4, 5, 6, 7, 8, 9, 10, 11, 12, 13, 14, 15, 16, 17, 18, 19, 20, 21, 22, 23, 24, 25, 26, 27], [27])])
def zq.B7 : List Nat := [0, 1, 3, 7, 15, 31, 31, 31, 159, 511, 31, 31, 31, 4127, 16383, 32767, 65535, 131071, 262143, 262143, 262143, 2097151, 262143, 262143, 262143, 33554431, 67108863, 134217727, 268435455]
theorem zq.tab7 : zcj .any (zfe Try.f6 7) = zq.T7 := by kernel_rfl
theorem zq.bits7 : zcb zq.T7.2 zq.B7 = true := by kernel_rfl
set_option maxHeartbeats 8000000 in
set_option maxRecDepth 100000 in
theorem zq.calls (k : Nat) (a0_0 : Int) (A0_1 : Option Addr) (c0_1 : Nat) (l0_1 : List (S58)) (a0_2 : Int) (a0_3 : Int) (A0_4 : Option Addr) (c0_4 : Nat) (l0_4 : List (S68)) (A0_5 : Option Addr) (c0_5 : Nat) (l0_5 : List ByteArray) (a0_6 : Int) (a0_7 : Int) (a0_8 : Int) (a0_9 : ByteArray) (r : Bool) (w : World) (hr0_1 : Kd.C k58 w A0_1 l0_1.length l0_1) (hc0_1 : l0_1.length ≤ c0_1) (hr0_4 : Kd.C k68 w A0_4 l0_4.length l0_4) (hc0_4 : l0_4.length ≤ c0_4) (hr0_5 : Kd.C Kd.string w A0_5 l0_5.length l0_5) (hc0_5 : l0_5.length ≤ c0_5) (h : zq.f k a0_0 l0_1 a0_2 a0_3 l0_4 l0_5 a0_6 a0_7 a0_8 a0_9 = some r) :
    Calls Try.prog 6 #[.agg #[.int .i64 a0_0, .slice A0_1 l0_1.length c0_1, .int .i64 a0_2, .int .i64 a0_3, .slice A0_4 l0_4.length c0_4, .slice A0_5 l0_5.length c0_5, .int .i64 a0_6, .int .i64 a0_7, .int .u64 a0_8, .string a0_9]] w fun e w' => e = .returned (.bool r) ∧ Below w.heap.size w w' := by
  have hu49 := Try.underlying49
  have hu34 := Try.underlying34
  have hu31 := Try.underlying31
  have HR0_1 := zc.mk hr0_1
  have HC0_1 := zc.mk hc0_1
  clear hr0_1 hc0_1
  have HR0_4 := zc.mk hr0_4
  have HC0_4 := zc.mk hc0_4
  clear hr0_4 hc0_4
  have HR0_5 := zc.mk hr0_5
  have HC0_5 := zc.mk hc0_5
  clear hr0_5 hc0_5
  have HB := zc.mk (Below.refl w.heap.size w)
  have H : ((zaS.f k).bind fun t297 => ((zaT.f a0_9).bind fun t298 => ((zau.f a0_9).bind fun t299 => (if t298.toList = t299.toList then ((zav.f a0_9).bind fun t300 => ((zay.f a0_9).bind fun t301 => (if t300.toList = t301.toList then ((zaN.f a0_9).bind fun t302 => ((zaf.f a0_9).bind fun t303 => (zq.j0 k a0_0 l0_1 t297 (t302.toList == t303.toList) a0_2 a0_3 l0_4 l0_5 a0_6 a0_7 a0_8))) else (zq.j0 k a0_0 l0_1 t297 false a0_2 a0_3 l0_4 l0_5 a0_6 a0_7 a0_8)))) else (zq.j0 k a0_0 l0_1 t297 false a0_2 a0_3 l0_4 l0_5 a0_6 a0_7 a0_8))))) = some r := h
  clear h
  replace H := Option.bind_eq_some_iff.mp H
  obtain ⟨t297, A20, H⟩ := H
  replace H : ((zaT.f a0_9).bind fun t298 => ((zau.f a0_9).bind fun t299 => (if t298.toList = t299.toList then ((zav.f a0_9).bind fun t300 => ((zay.f a0_9).bind fun t301 => (if t300.toList = t301.toList then ((zaN.f a0_9).bind fun t302 => ((zaf.f a0_9).bind fun t303 => (zq.j0 k a0_0 l0_1 t297 (t302.toList == t303.toList) a0_2 a0_3 l0_4 l0_5 a0_6 a0_7 a0_8))) else (zq.j0 k a0_0 l0_1 t297 false a0_2 a0_3 l0_4 l0_5 a0_6 a0_7 a0_8)))) else (zq.j0 k a0_0 l0_1 t297 false a0_2 a0_3 l0_4 l0_5 a0_6 a0_7 a0_8)))) = some r := H
  have A2 := zc.mk A20
  clear A20
  have HC3 := zc.mk H
  clear H
  go_enter Try.func6, Try.ntmps6
  go_upto_region 6 with (first | ((with_reducible refine zA (N := 1) rfl ?_); refine zt ?hg (N := 1) ?hd (cs := #[.int .i64 a0_0, .slice A0_1 l0_1.length c0_1, .int .i64 a0_2, .int .i64 a0_3, .slice A0_4 l0_4.length c0_4, .slice A0_5 l0_5.length c0_5, .int .i64 a0_6, .int .i64 a0_7, .int .u64 a0_8, .string a0_9]) (t := 49) ?hr ?_; (case hd => rfl); (case hg => rfl); (case hr => first | (go_simp; done) | (go_simp; rfl)); intro gb295 hg w4 hbox hb; have n0_ := zc.mk (zh (by repeat (first | (with_reducible first | exact HB.out | apply zf | apply zd | apply ze) | exact HB.out)) hb); have n1_ := zc.mk (hbox); have n2_ := zc.mk ((by rw [hg]; exact (zp (by repeat (first | (with_reducible first | exact HB.out | apply zf | apply zd | apply ze) | exact HB.out))) : w.heap.size ≤ gb295)); have n3_ := zc.mk ((by rw [hg]; exact (zp (by repeat (first | (with_reducible first | exact HB.out | apply zf | apply zd | apply ze) | exact HB.out))) : w.heap.size ≤ gb295)); clear HB; have HB := n0_; have BK295 := n1_; have GW295 := n2_; have GE295 := n3_; clear n0_ n1_ n2_ n3_; clear hb hbox hg; have hcz5_0 : w4.cell? ⟨gb295, 0, none⟩ = some (.int .i64 a0_0) := (zb BK295.out 0).trans rfl; have hcz5_1 : w4.cell? ⟨gb295, 1, none⟩ = some (.slice A0_1 l0_1.length c0_1) := (zb BK295.out 1).trans rfl; have hcz5_2 : w4.cell? ⟨gb295, 2, none⟩ = some (.int .i64 a0_2) := (zb BK295.out 2).trans rfl; have hcz5_3 : w4.cell? ⟨gb295, 3, none⟩ = some (.int .i64 a0_3) := (zb BK295.out 3).trans rfl; have hcz5_4 : w4.cell? ⟨gb295, 4, none⟩ = some (.slice A0_4 l0_4.length c0_4) := (zb BK295.out 4).trans rfl; have hcz5_5 : w4.cell? ⟨gb295, 5, none⟩ = some (.slice A0_5 l0_5.length c0_5) := (zb BK295.out 5).trans rfl; have hcz5_6 : w4.cell? ⟨gb295, 6, none⟩ = some (.int .i64 a0_6) := (zb BK295.out 6).trans rfl; have hcz5_7 : w4.cell? ⟨gb295, 7, none⟩ = some (.int .i64 a0_7) := (zb BK295.out 7).trans rfl; have hcz5_8 : w4.cell? ⟨gb295, 8, none⟩ = some (.int .u64 a0_8) := (zb BK295.out 8).trans rfl; have hcz5_9 : w4.cell? ⟨gb295, 9, none⟩ = some (.string a0_9) := (zb BK295.out 9).trans rfl; have hfz5_0 := za BK295.out 0; have hfz5_1 := za BK295.out 1; have hfz5_2 := za BK295.out 2; have hfz5_3 := za BK295.out 3; have hfz5_4 := za BK295.out 4; have hfz5_5 := za BK295.out 5; have hfz5_6 := za BK295.out 6; have hfz5_7 := za BK295.out 7; have hfz5_8 := za BK295.out 8; have hfz5_9 := za BK295.out 9) | ((with_reducible refine zA (N := 5) rfl ?_); refine zt ?hg (N := 5) ?hd (cs := #[.int .i64 0, .int .i64 0, .slice none 0 0, .slice none 0 0, .int .i64 0, .int .i64 0, .int .u64 0]) (t := 34) ?hr ?_; (case hd => rfl); (case hg => rfl); (case hr => first | (go_simp; done) | (go_simp; rfl)); intro gb296 hg w6 hbox hb; have n0_ := zc.mk (zl (g := gb295) (o := .cells #[.int .i64 a0_0, .slice A0_1 l0_1.length c0_1, .int .i64 a0_2, .int .i64 a0_3, .slice A0_4 l0_4.length c0_4, .slice A0_5 l0_5.length c0_5, .int .i64 a0_6, .int .i64 a0_7, .int .u64 a0_8, .string a0_9] 49 (0, 0)) (by (with_reducible repeat (first | refine zi ?_ _ | refine zk ?_ | refine zj ?_ _)); exact BK295.out) hb); have n1_ := zc.mk (zh (by repeat (first | (with_reducible first | exact HB.out | apply zf | apply zd | apply ze | refine zg ?_ GE295.out) | exact HB.out)) hb); have n2_ := zc.mk (hbox); have n3_ := zc.mk ((by rw [hg]; exact (zp (by repeat (first | (with_reducible first | exact HB.out | apply zf | apply zd | apply ze | refine zg ?_ GE295.out) | exact HB.out))) : w.heap.size ≤ gb296)); have n4_ := zc.mk ((by rw [hg]; exact (zp (by repeat (first | (with_reducible first | exact HB.out | apply zf | apply zd | apply ze | refine zg ?_ GE295.out) | exact HB.out))) : w.heap.size ≤ gb296)); have n5_ := zc.mk ((by rw [hg]; exact Nat.ne_of_lt (za8 (g := gb295) (o := .cells #[.int .i64 a0_0, .slice A0_1 l0_1.length c0_1, .int .i64 a0_2, .int .i64 a0_3, .slice A0_4 l0_4.length c0_4, .slice A0_5 l0_5.length c0_5, .int .i64 a0_6, .int .i64 a0_7, .int .u64 a0_8, .string a0_9] 49 (0, 0)) (by (with_reducible repeat (first | refine zi ?_ _ | refine zk ?_ | refine zj ?_ _)); exact BK295.out)) : gb295 ≠ gb296)); have n6_ := zc.mk ((by rw [hg]; exact Nat.ne_of_gt (za8 (g := gb295) (o := .cells #[.int .i64 a0_0, .slice A0_1 l0_1.length c0_1, .int .i64 a0_2, .int .i64 a0_3, .slice A0_4 l0_4.length c0_4, .slice A0_5 l0_5.length c0_5, .int .i64 a0_6, .int .i64 a0_7, .int .u64 a0_8, .string a0_9] 49 (0, 0)) (by (with_reducible repeat (first | refine zi ?_ _ | refine zk ?_ | refine zj ?_ _)); exact BK295.out)) : gb296 ≠ gb295)); clear BK295; clear HB; have BK295 := n0_; have HB := n1_; have BK296 := n2_; have GW296 := n3_; have GE296 := n4_; have NB295_296 := n5_; have NB296_295 := n6_; clear n0_ n1_ n2_ n3_ n4_ n5_ n6_; clear hb hbox hg; have hnb7 := NB296_295.out; have hnc7 := NB295_296.out; have hcz8_0 : w6.cell? ⟨gb296, 0, none⟩ = some (.int .i64 0) := (zb BK296.out 0).trans rfl; have hcz8_1 : w6.cell? ⟨gb296, 1, none⟩ = some (.int .i64 0) := (zb BK296.out 1).trans rfl; have hcz8_2 : w6.cell? ⟨gb296, 2, none⟩ = some (.slice none 0 0) := (zb BK296.out 2).trans rfl; have hcz8_3 : w6.cell? ⟨gb296, 3, none⟩ = some (.slice none 0 0) := (zb BK296.out 3).trans rfl; have hcz8_4 : w6.cell? ⟨gb296, 4, none⟩ = some (.int .i64 0) := (zb BK296.out 4).trans rfl; have hcz8_5 : w6.cell? ⟨gb296, 5, none⟩ = some (.int .i64 0) := (zb BK296.out 5).trans rfl; have hcz8_6 : w6.cell? ⟨gb296, 6, none⟩ = some (.int .u64 0) := (zb BK296.out 6).trans rfl; have hfz8_0 := za BK296.out 0; have hfz8_1 := za BK296.out 1; have hfz8_2 := za BK296.out 2; have hfz8_3 := za BK296.out 3; have hfz8_4 := za BK296.out 4; have hfz8_5 := za BK296.out 5; have hfz8_6 := za BK296.out 6; have hcz9_0 : w6.cell? ⟨gb295, 0, none⟩ = some (.int .i64 a0_0) := (zb BK295.out 0).trans rfl; have hcz9_1 : w6.cell? ⟨gb295, 1, none⟩ = some (.slice A0_1 l0_1.length c0_1) := (zb BK295.out 1).trans rfl; have hcz9_2 : w6.cell? ⟨gb295, 2, none⟩ = some (.int .i64 a0_2) := (zb BK295.out 2).trans rfl; have hcz9_3 : w6.cell? ⟨gb295, 3, none⟩ = some (.int .i64 a0_3) := (zb BK295.out 3).trans rfl; have hcz9_4 : w6.cell? ⟨gb295, 4, none⟩ = some (.slice A0_4 l0_4.length c0_4) := (zb BK295.out 4).trans rfl; have hcz9_5 : w6.cell? ⟨gb295, 5, none⟩ = some (.slice A0_5 l0_5.length c0_5) := (zb BK295.out 5).trans rfl; have hcz9_6 : w6.cell? ⟨gb295, 6, none⟩ = some (.int .i64 a0_6) := (zb BK295.out 6).trans rfl; have hcz9_7 : w6.cell? ⟨gb295, 7, none⟩ = some (.int .i64 a0_7) := (zb BK295.out 7).trans rfl; have hcz9_8 : w6.cell? ⟨gb295, 8, none⟩ = some (.int .u64 a0_8) := (zb BK295.out 8).trans rfl; have hcz9_9 : w6.cell? ⟨gb295, 9, none⟩ = some (.string a0_9) := (zb BK295.out 9).trans rfl; have hfz9_0 := za BK295.out 0; have hfz9_1 := za BK295.out 1; have hfz9_2 := za BK295.out 2; have hfz9_3 := za BK295.out 3; have hfz9_4 := za BK295.out 4; have hfz9_5 := za BK295.out 5; have hfz9_6 := za BK295.out 6; have hfz9_7 := za BK295.out 7; have hfz9_8 := za BK295.out 8; have hfz9_9 := za BK295.out 9) | ((with_reducible refine zr (f := 8) rfl ?_); refine zR (some 17) rfl rfl Try.func8 (by kernel_rfl) rfl #[] rfl (by (try simp only [List.map_toArray, List.map_cons, List.map_nil]); first | done | rfl | (simp only [List.length_drop, List.length_take]; rfl)) ?_; (with_reducible refine (zaS.calls k  t297 _ A2.out).mono ?_); rintro e w10 ⟨rfl, hb⟩; refine ⟨_, rfl, ?_⟩; have n0_ := zc.mk (zl (g := gb295) (o := .cells #[.int .i64 a0_0, .slice A0_1 l0_1.length c0_1, .int .i64 a0_2, .int .i64 a0_3, .slice A0_4 l0_4.length c0_4, .slice A0_5 l0_5.length c0_5, .int .i64 a0_6, .int .i64 a0_7, .int .u64 a0_8, .string a0_9] 49 (0, 0)) (by (with_reducible repeat (first | refine zi ?_ _ | refine zk ?_ | refine zj ?_ _)); refine zbe ?_ NB295_296.out _; (with_reducible repeat (first | refine zi ?_ _ | refine zk ?_ | refine zj ?_ _)); refine zbe ?_ NB295_296.out _; (with_reducible repeat (first | refine zi ?_ _ | refine zk ?_ | refine zj ?_ _)); refine zbe ?_ NB295_296.out _; (with_reducible repeat (first | refine zi ?_ _ | refine zk ?_ | refine zj ?_ _)); refine zbe ?_ NB295_296.out _; (with_reducible repeat (first | refine zi ?_ _ | refine zk ?_ | refine zj ?_ _)); refine zbe ?_ NB295_296.out _; (with_reducible repeat (first | refine zi ?_ _ | refine zk ?_ | refine zj ?_ _)); refine zbe ?_ NB295_296.out _; (with_reducible repeat (first | refine zi ?_ _ | refine zk ?_ | refine zj ?_ _)); refine zbe ?_ NB295_296.out _; (with_reducible repeat (first | refine zi ?_ _ | refine zk ?_ | refine zj ?_ _)); exact BK295.out) hb); have n1_ := zc.mk (zl (g := gb296) (o := .cells #[.int .i64 a0_2, .int .i64 a0_3, .slice A0_4 l0_4.length c0_4, .slice A0_5 l0_5.length c0_5, .int .i64 a0_6, .int .i64 a0_7, .int .u64 a0_8] 34 (0, 0)) (by (with_reducible repeat (first | refine zi ?_ _ | refine zk ?_ | refine zj ?_ _)); refine zai (cs := #[.int .i64 a0_2, .int .i64 a0_3, .slice A0_4 l0_4.length c0_4, .slice A0_5 l0_5.length c0_5, .int .i64 a0_6, .int .i64 a0_7, .int .u64 0]) ?_ 6 _ rfl; (with_reducible repeat (first | refine zi ?_ _ | refine zk ?_ | refine zj ?_ _)); refine zai (cs := #[.int .i64 a0_2, .int .i64 a0_3, .slice A0_4 l0_4.length c0_4, .slice A0_5 l0_5.length c0_5, .int .i64 a0_6, .int .i64 0, .int .u64 0]) ?_ 5 _ rfl; (with_reducible repeat (first | refine zi ?_ _ | refine zk ?_ | refine zj ?_ _)); refine zai (cs := #[.int .i64 a0_2, .int .i64 a0_3, .slice A0_4 l0_4.length c0_4, .slice A0_5 l0_5.length c0_5, .int .i64 0, .int .i64 0, .int .u64 0]) ?_ 4 _ rfl; (with_reducible repeat (first | refine zi ?_ _ | refine zk ?_ | refine zj ?_ _)); refine zai (cs := #[.int .i64 a0_2, .int .i64 a0_3, .slice A0_4 l0_4.length c0_4, .slice none 0 0, .int .i64 0, .int .i64 0, .int .u64 0]) ?_ 3 _ rfl; (with_reducible repeat (first | refine zi ?_ _ | refine zk ?_ | refine zj ?_ _)); refine zai (cs := #[.int .i64 a0_2, .int .i64 a0_3, .slice none 0 0, .slice none 0 0, .int .i64 0, .int .i64 0, .int .u64 0]) ?_ 2 _ rfl; (with_reducible repeat (first | refine zi ?_ _ | refine zk ?_ | refine zj ?_ _)); refine zai (cs := #[.int .i64 a0_2, .int .i64 0, .slice none 0 0, .slice none 0 0, .int .i64 0, .int .i64 0, .int .u64 0]) ?_ 1 _ rfl; (with_reducible repeat (first | refine zi ?_ _ | refine zk ?_ | refine zj ?_ _)); refine zai (cs := #[.int .i64 0, .int .i64 0, .slice none 0 0, .slice none 0 0, .int .i64 0, .int .i64 0, .int .u64 0]) ?_ 0 _ rfl; (with_reducible repeat (first | refine zi ?_ _ | refine zk ?_ | refine zj ?_ _)); exact BK296.out) hb); have n2_ := zc.mk (zh (by repeat (first | (with_reducible first | exact HB.out | apply zf | apply zd | apply ze | refine zg ?_ GE295.out | refine zg ?_ GE296.out) | exact HB.out)) hb); clear BK295; clear BK296; clear HB; have BK295 := n0_; have BK296 := n1_; have HB := n2_; clear n0_ n1_ n2_; (try clear hb); (try clear hb2); (try clear hk); (try clear hi)))
  (try simp only [Act.put, List.setIfInBounds_toArray, List.set_cons_zero, List.set_cons_succ])
  go_cut [8] (fun v8 wc => ∃ (kq : Nat) (x8_2 : Bool), v8 = .bool x8_2 ∧ zc (zq.j0 kq a0_0 l0_1 t297 x8_2 a0_2 a0_3 l0_4 l0_5 a0_6 a0_7 a0_8 = some r) ∧ zc (kq ≤ k) ∧ zc (wc.heap[gb295]? = some (.cells #[.int .i64 a0_0, (.slice A0_1 l0_1.length c0_1), .int .i64 a0_2, .int .i64 a0_3, (.slice A0_4 l0_4.length c0_4), (.slice A0_5 l0_5.length c0_5), .int .i64 a0_6, .int .i64 a0_7, .int .u64 a0_8, .string a0_9] 49 (0, 0))) ∧ zc (wc.heap[gb296]? = some (.cells #[.int .i64 a0_2, .int .i64 a0_3, (.slice A0_4 l0_4.length c0_4), (.slice A0_5 l0_5.length c0_5), .int .i64 a0_6, .int .i64 a0_7, .int .u64 a0_8] 34 (0, 0))) ∧ zc (Below w.heap.size w wc))
  case first =>
    have H := HC3.out
    clear HC3
    replace H := Option.bind_eq_some_iff.mp H
    obtain ⟨t298, A110, H⟩ := H
    replace H : ((zau.f a0_9).bind fun t299 => (if t298.toList = t299.toList then ((zav.f a0_9).bind fun t300 => ((zay.f a0_9).bind fun t301 => (if t300.toList = t301.toList then ((zaN.f a0_9).bind fun t302 => ((zaf.f a0_9).bind fun t303 => (zq.j0 k a0_0 l0_1 t297 (t302.toList == t303.toList) a0_2 a0_3 l0_4 l0_5 a0_6 a0_7 a0_8))) else (zq.j0 k a0_0 l0_1 t297 false a0_2 a0_3 l0_4 l0_5 a0_6 a0_7 a0_8)))) else (zq.j0 k a0_0 l0_1 t297 false a0_2 a0_3 l0_4 l0_5 a0_6 a0_7 a0_8))) = some r := H
    have A11 := zc.mk A110
    clear A110
    replace H := Option.bind_eq_some_iff.mp H
    obtain ⟨t299, A120, H⟩ := H
    replace H : (if t298.toList = t299.toList then ((zav.f a0_9).bind fun t300 => ((zay.f a0_9).bind fun t301 => (if t300.toList = t301.toList then ((zaN.f a0_9).bind fun t302 => ((zaf.f a0_9).bind fun t303 => (zq.j0 k a0_0 l0_1 t297 (t302.toList == t303.toList) a0_2 a0_3 l0_4 l0_5 a0_6 a0_7 a0_8))) else (zq.j0 k a0_0 l0_1 t297 false a0_2 a0_3 l0_4 l0_5 a0_6 a0_7 a0_8)))) else (zq.j0 k a0_0 l0_1 t297 false a0_2 a0_3 l0_4 l0_5 a0_6 a0_7 a0_8)) = some r := H
    have A12 := zc.mk A120
    clear A120
    by_cases c13 : t298.toList = t299.toList
    · rw [if_pos c13] at H
      have c13b0 : (t298.toList == t299.toList) = true := beq_iff_eq.mpr c13
      have c13b1 : (t298.toList != t299.toList) = false := bne_eq_false_iff_eq.mpr c13
      clear c13
      (first | rw [c13b0] | (simp only [zs, zu]; rw [c13b0]) | skip)
      replace H := Option.bind_eq_some_iff.mp H
      obtain ⟨t300, A140, H⟩ := H
      replace H : ((zay.f a0_9).bind fun t301 => (if t300.toList = t301.toList then ((zaN.f a0_9).bind fun t302 => ((zaf.f a0_9).bind fun t303 => (zq.j0 k a0_0 l0_1 t297 (t302.toList == t303.toList) a0_2 a0_3 l0_4 l0_5 a0_6 a0_7 a0_8))) else (zq.j0 k a0_0 l0_1 t297 false a0_2 a0_3 l0_4 l0_5 a0_6 a0_7 a0_8))) = some r := H
      have A14 := zc.mk A140
      clear A140
      replace H := Option.bind_eq_some_iff.mp H
      obtain ⟨t301, A150, H⟩ := H
      replace H : (if t300.toList = t301.toList then ((zaN.f a0_9).bind fun t302 => ((zaf.f a0_9).bind fun t303 => (zq.j0 k a0_0 l0_1 t297 (t302.toList == t303.toList) a0_2 a0_3 l0_4 l0_5 a0_6 a0_7 a0_8))) else (zq.j0 k a0_0 l0_1 t297 false a0_2 a0_3 l0_4 l0_5 a0_6 a0_7 a0_8)) = some r := H
      have A15 := zc.mk A150
      clear A150
      by_cases c16 : t300.toList = t301.toList
      · rw [if_pos c16] at H
        have c16b0 : (t300.toList == t301.toList) = true := beq_iff_eq.mpr c16
        have c16b1 : (t300.toList != t301.toList) = false := bne_eq_false_iff_eq.mpr c16
        clear c16
        replace H := Option.bind_eq_some_iff.mp H
        obtain ⟨t302, A170, H⟩ := H
        replace H : ((zaf.f a0_9).bind fun t303 => (zq.j0 k a0_0 l0_1 t297 (t302.toList == t303.toList) a0_2 a0_3 l0_4 l0_5 a0_6 a0_7 a0_8)) = some r := H
        have A17 := zc.mk A170
        clear A170
        replace H := Option.bind_eq_some_iff.mp H
        obtain ⟨t303, A180, H⟩ := H
        replace H : (zq.j0 k a0_0 l0_1 t297 (t302.toList == t303.toList) a0_2 a0_3 l0_4 l0_5 a0_6 a0_7 a0_8) = some r := H
        have A18 := zc.mk A180
        clear A180
        have H' := zc.mk H
        clear H
        go_wp2_with (first | ((with_reducible refine zr (f := 9) rfl ?_); refine zR (some 19) rfl rfl Try.func9 (by kernel_rfl) rfl #[.string a0_9] rfl (by (try simp only [List.map_toArray, List.map_cons, List.map_nil]); first | done | rfl | (simp only [List.length_drop, List.length_take]; rfl)) ?_; (with_reducible refine (zaT.calls a0_9 t298 _ A11.out).mono ?_); rintro e w' ⟨rfl, ⟨nd, rfl⟩⟩; refine ⟨_, rfl, ?_⟩) | ((with_reducible refine zr (f := 18) rfl ?_); refine zR (some 21) rfl rfl Try.func18 (by kernel_rfl) rfl #[.string a0_9] rfl (by (try simp only [List.map_toArray, List.map_cons, List.map_nil]); first | done | rfl | (simp only [List.length_drop, List.length_take]; rfl)) ?_; (with_reducible refine (zau.calls a0_9 t299 _ A12.out).mono ?_); rintro e w' ⟨rfl, ⟨nd, rfl⟩⟩; refine ⟨_, rfl, ?_⟩) | (go_at_call 10; (with_reducible refine (zav.calls a0_9 t300 _ A14.out).mono ?_); rintro e w' ⟨rfl, ⟨nd, rfl⟩⟩) | (go_at_call 19; (with_reducible refine (zay.calls a0_9 t301 _ A15.out).mono ?_); rintro e w' ⟨rfl, ⟨nd, rfl⟩⟩) | (go_at_call 11; (with_reducible refine (zaN.calls a0_9 t302 _ A17.out).mono ?_); rintro e w' ⟨rfl, ⟨nd, rfl⟩⟩) | (go_at_call 20; (with_reducible refine (zaf.calls a0_9 t303 _ A18.out).mono ?_); rintro e w' ⟨rfl, ⟨nd, rfl⟩⟩))
        go_meet
        case rel => exact ⟨_, ((t302.toList == t303.toList)), (by first | rfl | (simp; done) | (simp [*]; done)), H', ⟨by first | omega | exact Nat.le_refl _⟩, ⟨by (with_reducible repeat (first | refine zi ?_ _ | refine zk ?_ | refine zj ?_ _)); exact BK295.out⟩, ⟨by (with_reducible repeat (first | refine zi ?_ _ | refine zk ?_ | refine zj ?_ _)); exact BK296.out⟩, ⟨by repeat (first | (with_reducible first | exact HB.out | apply zf | apply zd | apply ze | refine zg ?_ GE295.out | refine zg ?_ GE296.out) | exact HB.out)⟩⟩
      · rw [if_neg c16] at H
        have c16b0 : (t300.toList == t301.toList) = false := beq_eq_false_iff_ne.mpr c16
        have c16b1 : (t300.toList != t301.toList) = true := bne_iff_ne.mpr c16
        have H' := zc.mk H
        clear H
        go_wp2_with (first | ((with_reducible refine zr (f := 9) rfl ?_); refine zR (some 19) rfl rfl Try.func9 (by kernel_rfl) rfl #[.string a0_9] rfl (by (try simp only [List.map_toArray, List.map_cons, List.map_nil]); first | done | rfl | (simp only [List.length_drop, List.length_take]; rfl)) ?_; (with_reducible refine (zaT.calls a0_9 t298 _ A11.out).mono ?_); rintro e w' ⟨rfl, ⟨nd, rfl⟩⟩; refine ⟨_, rfl, ?_⟩) | ((with_reducible refine zr (f := 18) rfl ?_); refine zR (some 21) rfl rfl Try.func18 (by kernel_rfl) rfl #[.string a0_9] rfl (by (try simp only [List.map_toArray, List.map_cons, List.map_nil]); first | done | rfl | (simp only [List.length_drop, List.length_take]; rfl)) ?_; (with_reducible refine (zau.calls a0_9 t299 _ A12.out).mono ?_); rintro e w' ⟨rfl, ⟨nd, rfl⟩⟩; refine ⟨_, rfl, ?_⟩) | (go_at_call 10; (with_reducible refine (zav.calls a0_9 t300 _ A14.out).mono ?_); rintro e w' ⟨rfl, ⟨nd, rfl⟩⟩) | (go_at_call 19; (with_reducible refine (zay.calls a0_9 t301 _ A15.out).mono ?_); rintro e w' ⟨rfl, ⟨nd, rfl⟩⟩))
        go_meet
        case rel => exact ⟨_, (false), (by first | rfl | (simp; done) | (simp [*]; done)), H', ⟨by first | omega | exact Nat.le_refl _⟩, ⟨by (with_reducible repeat (first | refine zi ?_ _ | refine zk ?_ | refine zj ?_ _)); exact BK295.out⟩, ⟨by (with_reducible repeat (first | refine zi ?_ _ | refine zk ?_ | refine zj ?_ _)); exact BK296.out⟩, ⟨by repeat (first | (with_reducible first | exact HB.out | apply zf | apply zd | apply ze | refine zg ?_ GE295.out | refine zg ?_ GE296.out) | exact HB.out)⟩⟩
    · rw [if_neg c13] at H
      have c13b0 : (t298.toList == t299.toList) = false := beq_eq_false_iff_ne.mpr c13
      have c13b1 : (t298.toList != t299.toList) = true := bne_iff_ne.mpr c13
      (first | rw [c13b0] | (simp only [zs, zu]; rw [c13b0]) | skip)
      have H' := zc.mk H
      clear H
      go_wp2_with (first | ((with_reducible refine zr (f := 9) rfl ?_); refine zR (some 19) rfl rfl Try.func9 (by kernel_rfl) rfl #[.string a0_9] rfl (by (try simp only [List.map_toArray, List.map_cons, List.map_nil]); first | done | rfl | (simp only [List.length_drop, List.length_take]; rfl)) ?_; (with_reducible refine (zaT.calls a0_9 t298 _ A11.out).mono ?_); rintro e w' ⟨rfl, ⟨nd, rfl⟩⟩; refine ⟨_, rfl, ?_⟩) | ((with_reducible refine zr (f := 18) rfl ?_); refine zR (some 21) rfl rfl Try.func18 (by kernel_rfl) rfl #[.string a0_9] rfl (by (try simp only [List.map_toArray, List.map_cons, List.map_nil]); first | done | rfl | (simp only [List.length_drop, List.length_take]; rfl)) ?_; (with_reducible refine (zau.calls a0_9 t299 _ A12.out).mono ?_); rintro e w' ⟨rfl, ⟨nd, rfl⟩⟩; refine ⟨_, rfl, ?_⟩))
      go_meet
      case rel => exact ⟨_, (false), (by first | rfl | (simp; done) | (simp [*]; done)), H', ⟨by first | omega | exact Nat.le_refl _⟩, ⟨by (with_reducible repeat (first | refine zi ?_ _ | refine zk ?_ | refine zj ?_ _)); exact BK295.out⟩, ⟨by (with_reducible repeat (first | refine zi ?_ _ | refine zk ?_ | refine zj ?_ _)); exact BK296.out⟩, ⟨by repeat (first | (with_reducible first | exact HB.out | apply zf | apply zd | apply ze | refine zg ?_ GE295.out | refine zg ?_ GE296.out) | exact HB.out)⟩⟩
  case rest =>
    clear HC3
    try clear c1
    try clear p2
    try clear c6
    try clear c7
    try clear c8
    try clear c9
    try clear c13
    try clear c13b0
    try clear c13b1
    try clear c16
    try clear c16b0
    try clear c16b1
    try clear c18
    try clear hcz5_0
    try clear hcz5_1
    try clear hcz5_2
    try clear hcz5_3
    try clear hcz5_4
    try clear hcz5_5
    try clear hcz5_6
    try clear hcz5_7
    try clear hcz5_8
    try clear hcz5_9
    try clear hcz8_0
    try clear hcz8_1
    try clear hcz8_2
    try clear hcz8_3
    try clear hcz8_4
    try clear hcz8_5
    try clear hcz8_6
    try clear hcz9_0
    try clear hcz9_1
    try clear hcz9_2
    try clear hcz9_3
    try clear hcz9_4
    try clear hcz9_5
    try clear hcz9_6
    try clear hcz9_7
    try clear hcz9_8
    try clear hcz9_9
    try clear hfz5_0
    try clear hfz5_1
    try clear hfz5_2
    try clear hfz5_3
    try clear hfz5_4
    try clear hfz5_5
    try clear hfz5_6
    try clear hfz5_7
    try clear hfz5_8
    try clear hfz5_9
    try clear hfz8_0
    try clear hfz8_1
    try clear hfz8_2
    try clear hfz8_3
    try clear hfz8_4
    try clear hfz8_5
    try clear hfz8_6
    try clear hfz9_0
    try clear hfz9_1
    try clear hfz9_2
    try clear hfz9_3
    try clear hfz9_4
    try clear hfz9_5
    try clear hfz9_6
    try clear hfz9_7
    try clear hfz9_8
    try clear hfz9_9
    obtain ⟨kq, x8_2, rfl, HA, HJ2, BK295, BK296, HB⟩ := hcut
    cases kq with
    | zero => exact absurd HA.out (by simp [zq.j0])
    | succ kj2 =>
      have H := HA.out
      clear HA
      simp only [zq.j0] at H
      by_cases c19 : t297 = true
      · subst c19
        have H1 : (if x8_2 = true then ((z9.f kj2 a0_0 l0_1 a0_2 a0_3 l0_4 l0_5 a0_6 a0_7).bind fun t304 => ((zH.f kj2 a0_0 l0_1 a0_2 a0_3 l0_4 l0_5 a0_6 a0_7).bind fun t305 => (if t304 = t305 then ((zao.f kj2 a0_0 l0_1 a0_2 a0_3 l0_4 l0_5 a0_6 a0_7 a0_8).bind fun t306 => ((zas.f kj2 a0_0 l0_1 a0_2 a0_3 l0_4 l0_5 a0_6 a0_7 a0_8).bind fun t307 => (some (t306 == t307)))) else (some false)))) else (some false)) = some r := by rw [if_pos rfl] at H; exact H
        clear H
        have H := H1
        clear H1
        by_cases c20 : x8_2 = true
        · subst c20
          have H1 : ((z9.f kj2 a0_0 l0_1 a0_2 a0_3 l0_4 l0_5 a0_6 a0_7).bind fun t304 => ((zH.f kj2 a0_0 l0_1 a0_2 a0_3 l0_4 l0_5 a0_6 a0_7).bind fun t305 => (if t304 = t305 then ((zao.f kj2 a0_0 l0_1 a0_2 a0_3 l0_4 l0_5 a0_6 a0_7 a0_8).bind fun t306 => ((zas.f kj2 a0_0 l0_1 a0_2 a0_3 l0_4 l0_5 a0_6 a0_7 a0_8).bind fun t307 => (some (t306 == t307)))) else (some false)))) = some r := by rw [if_pos rfl] at H; exact H
          clear H
          have H := H1
          clear H1
          replace H := Option.bind_eq_some_iff.mp H
          obtain ⟨t304, A210, H⟩ := H
          replace H : ((zH.f kj2 a0_0 l0_1 a0_2 a0_3 l0_4 l0_5 a0_6 a0_7).bind fun t305 => (if t304 = t305 then ((zao.f kj2 a0_0 l0_1 a0_2 a0_3 l0_4 l0_5 a0_6 a0_7 a0_8).bind fun t306 => ((zas.f kj2 a0_0 l0_1 a0_2 a0_3 l0_4 l0_5 a0_6 a0_7 a0_8).bind fun t307 => (some (t306 == t307)))) else (some false))) = some r := H
          have A21 := zc.mk A210
          clear A210
          replace H := Option.bind_eq_some_iff.mp H
          obtain ⟨t305, A220, H⟩ := H
          replace H : (if t304 = t305 then ((zao.f kj2 a0_0 l0_1 a0_2 a0_3 l0_4 l0_5 a0_6 a0_7 a0_8).bind fun t306 => ((zas.f kj2 a0_0 l0_1 a0_2 a0_3 l0_4 l0_5 a0_6 a0_7 a0_8).bind fun t307 => (some (t306 == t307)))) else (some false)) = some r := H
          have A22 := zc.mk A220
          clear A220
          by_cases c23 : t304 = t305
          · rw [if_pos c23] at H
            have c23b0 : (t304 == t305) = true := beq_iff_eq.mpr c23
            have c23b1 : (t304 != t305) = false := bne_eq_false_iff_eq.mpr c23
            clear c23
            replace H := Option.bind_eq_some_iff.mp H
            obtain ⟨t306, A240, H⟩ := H
            replace H : ((zas.f kj2 a0_0 l0_1 a0_2 a0_3 l0_4 l0_5 a0_6 a0_7 a0_8).bind fun t307 => (some (t306 == t307))) = some r := H
            have A24 := zc.mk A240
            clear A240
            replace H := Option.bind_eq_some_iff.mp H
            obtain ⟨t307, A250, H⟩ := H
            replace H : (some (t306 == t307)) = some r := H
            have A25 := zc.mk A250
            clear A250
            obtain rfl := Option.some.inj H
            try go_wp2
            have n0_ := zc.mk (zk BK295.out)
            have n1_ := zc.mk (zk BK296.out)
            have n2_ := zc.mk (ze HB.out)
            clear BK295
            clear BK296
            clear HB
            have BK295 := n0_
            have BK296 := n1_
            have HB := n2_
            clear n0_ n1_ n2_
            refine zcl (n := 29) (S := fun w' => w'.cell? ⟨gb296, 0, none⟩ = some (.int .i64 a0_2) ∧ w'.cell? ⟨gb296, 1, none⟩ = some (.int .i64 a0_3) ∧ w'.cell? ⟨gb296, 2, none⟩ = some (.slice A0_4 l0_4.length c0_4) ∧ w'.cell? ⟨gb296, 3, none⟩ = some (.slice A0_5 l0_5.length c0_5) ∧ w'.cell? ⟨gb296, 4, none⟩ = some (.int .i64 a0_6) ∧ w'.cell? ⟨gb296, 5, none⟩ = some (.int .i64 a0_7) ∧ w'.cell? ⟨gb296, 6, none⟩ = some (.int .u64 a0_8)) (ds := []) #[false, false, false, false, false, false, false, false, false, false, false, false, false, false, false, false, false, false, false, false, false, false, false, false, false, false, false, false, false] (by kernel_rfl) rfl rfl ⟨(zb BK296.out 0).trans rfl, (zb BK296.out 1).trans rfl, (zb BK296.out 2).trans rfl, (zb BK296.out 3).trans rfl, (zb BK296.out 4).trans rfl, (zb BK296.out 5).trans rfl, (zb BK296.out 6).trans rfl⟩ (fun hHeld => ?_); refine zbE zq.tab7 zq.bits7 (fun HT_ HW_ => ?_)
            generalize wc.drew = w26 at BK295 BK296 HB hHeld ⊢
            refine zI (i := 0) (N := some 37) (v := ?_) (a' := ?_) #[true, false, false, false, false, false, false, false, false, false, false, false, false, false, false, false, false, false, false, false, false, false, false, false, false, false, false, false, false] rfl rfl (zB HT_.out (by kernel_rfl)) (fun _ _ _ h => h) (Or.inl ⟨by rfl, ?_⟩) ?_ ?_
            rotate_left
            · intro w'
              go_simp
              with_reducible rfl
            rotate_left
            · simp only [Act.put, List.setIfInBounds_toArray, List.set_cons_zero, List.set_cons_succ, zs, zu]
              rfl
            refine zI (i := 1) (N := some 38) (v := ?_) (a' := ?_) #[true, true, false, false, false, false, false, false, false, false, false, false, false, false, false, false, false, false, false, false, false, false, false, false, false, false, false, false, false] rfl rfl (zB HT_.out (by kernel_rfl)) (fun _ _ _ h => h) (Or.inl ⟨by rfl, ?_⟩) ?_ ?_
            rotate_left
            · intro w'
              go_simp
              with_reducible rfl
            rotate_left
            · simp only [Act.put, List.setIfInBounds_toArray, List.set_cons_zero, List.set_cons_succ, zs, zu]
              rfl
            refine zI (i := 2) (N := some 39) (v := ?_) (a' := ?_) #[true, true, true, false, false, false, false, false, false, false, false, false, false, false, false, false, false, false, false, false, false, false, false, false, false, false, false, false, false] rfl rfl (zB HT_.out (by kernel_rfl)) (fun _ _ _ h => h) (Or.inl ⟨by rfl, ?_⟩) ?_ ?_
            rotate_left
            · intro w'
              go_simp
              with_reducible rfl
            rotate_left
            · simp only [Act.put, List.setIfInBounds_toArray, List.set_cons_zero, List.set_cons_succ, zs, zu]
              rfl
            refine zI (i := 3) (N := some 40) (v := ?_) (a' := ?_) #[true, true, true, true, false, false, false, false, false, false, false, false, false, false, false, false, false, false, false, false, false, false, false, false, false, false, false, false, false] rfl rfl (zB HT_.out (by kernel_rfl)) (fun _ _ _ h => h) (Or.inl ⟨by rfl, ?_⟩) ?_ ?_
            rotate_left
            · intro w'
              go_simp
              with_reducible rfl
            rotate_left
            · simp only [Act.put, List.setIfInBounds_toArray, List.set_cons_zero, List.set_cons_succ, zs, zu]
              rfl
            refine zI (i := 4) (N := some 41) (v := ?_) (a' := ?_) #[true, true, true, true, true, false, false, false, false, false, false, false, false, false, false, false, false, false, false, false, false, false, false, false, false, false, false, false, false] rfl rfl (zB HT_.out (by kernel_rfl)) (fun _ _ _ h => h) (Or.inl ⟨by rfl, ?_⟩) ?_ ?_
            rotate_left
            · intro w'
              go_simp
              with_reducible rfl
            rotate_left
            · simp only [Act.put, List.setIfInBounds_toArray, List.set_cons_zero, List.set_cons_succ, zs, zu]
              rfl
            refine zI (i := 5) (N := some 42) (v := ?_) (a' := ?_) #[true, true, true, true, true, true, false, false, false, false, false, false, false, false, false, false, false, false, false, false, false, false, false, false, false, false, false, false, false] rfl rfl (zB HT_.out (by kernel_rfl)) (fun _ _ _ h => h) (Or.inl ⟨by rfl, ?_⟩) ?_ ?_
            rotate_left
            · intro w'
              go_simp
              with_reducible rfl
            rotate_left
            · simp only [Act.put, List.setIfInBounds_toArray, List.set_cons_zero, List.set_cons_succ, zs, zu]
              rfl
            refine zI (i := 6) (N := some 43) (v := ?_) (a' := ?_) #[true, true, true, true, true, true, true, false, false, false, false, false, false, false, false, false, false, false, false, false, false, false, false, false, false, false, false, false, false] rfl rfl (zB HT_.out (by kernel_rfl)) (fun _ _ _ h => h) (Or.inl ⟨by rfl, ?_⟩) ?_ ?_
            rotate_left
            · intro w'
              go_simp
              with_reducible rfl
            rotate_left
            · simp only [Act.put, List.setIfInBounds_toArray, List.set_cons_zero, List.set_cons_succ, zs, zu]
              rfl
            refine zI (i := 7) (N := some 44) (v := ?_) (a' := ?_) #[true, true, true, true, true, true, true, true, false, false, false, false, false, false, false, false, false, false, false, false, false, false, false, false, false, false, false, false, false] rfl rfl (zB HT_.out (by kernel_rfl)) (fun _ _ _ h => h) (Or.inl ⟨by rfl, ?_⟩) ?_ ?_
            rotate_left
            · intro w'
              go_simp
              with_reducible rfl
            rotate_left
            · simp only [Act.put, List.setIfInBounds_toArray, List.set_cons_zero, List.set_cons_succ, zs, zu]
              rfl
            refine zI (i := 10) (N := some 47) (v := ?_) (a' := ?_) #[true, true, true, true, true, true, true, true, false, false, true, false, false, false, false, false, false, false, false, false, false, false, false, false, false, false, false, false, false] rfl rfl (zB HT_.out (by kernel_rfl)) (fun _ _ _ h => h) (Or.inl ⟨by rfl, ?_⟩) ?_ ?_
            rotate_left
            · intro w'
              go_simp
              with_reducible rfl
            rotate_left
            · simp only [Act.put, List.setIfInBounds_toArray, List.set_cons_zero, List.set_cons_succ, zs, zu]
              rfl
            refine zI (i := 11) (N := some 48) (v := ?_) (a' := ?_) #[true, true, true, true, true, true, true, true, false, false, true, true, false, false, false, false, false, false, false, false, false, false, false, false, false, false, false, false, false] rfl rfl (zB HT_.out (by kernel_rfl)) (fun _ _ _ h => h) (Or.inl ⟨by rfl, ?_⟩) ?_ ?_
            rotate_left
            · intro w'
              go_simp
              with_reducible rfl
            rotate_left
            · simp only [Act.put, List.setIfInBounds_toArray, List.set_cons_zero, List.set_cons_succ, zs, zu]
              rfl
            refine zI (i := 12) (N := some 49) (v := ?_) (a' := ?_) #[true, true, true, true, true, true, true, true, false, false, true, true, true, false, false, false, false, false, false, false, false, false, false, false, false, false, false, false, false] rfl rfl (zB HT_.out (by kernel_rfl)) (fun _ _ _ h => h) (Or.inl ⟨by rfl, ?_⟩) ?_ ?_
            rotate_left
            · intro w'
              go_simp
              with_reducible rfl
            rotate_left
            · simp only [Act.put, List.setIfInBounds_toArray, List.set_cons_zero, List.set_cons_succ, zs, zu]
              rfl
            refine take_ (i := 8) (N := some 45) (v := ?_) (a' := ?_) #[true, true, true, true, true, true, true, true, true, false, true, true, true, false, false, false, false, false, false, false, false, false, false, false, false, false, false, false, false] rfl rfl (zaQ HT_.out HW_.out (by kernel_rfl)) (fun _ _ _ h => h) (Or.inl ⟨by rfl, ?_⟩) hHeld ?_ ?_
            rotate_left
            · rintro w' ⟨s0, s1, s2, s3, s4, s5, s6⟩
              go_simp
              with_reducible rfl
            rotate_left
            · simp only [Act.put, List.setIfInBounds_toArray, List.set_cons_zero, List.set_cons_succ, zs, zu]
              rfl
            refine take_ (i := 13) (N := some 50) (v := ?_) (a' := ?_) #[true, true, true, true, true, true, true, true, true, false, true, true, true, true, false, false, false, false, false, false, false, false, false, false, false, false, false, false, false] rfl rfl (zaQ HT_.out HW_.out (by kernel_rfl)) (fun _ _ _ h => h) (Or.inl ⟨by rfl, ?_⟩) hHeld ?_ ?_
            rotate_left
            · rintro w' ⟨s0, s1, s2, s3, s4, s5, s6⟩
              go_simp
              with_reducible rfl
            rotate_left
            · simp only [Act.put, List.setIfInBounds_toArray, List.set_cons_zero, List.set_cons_succ, zs, zu]
              rfl
            refine zb5 (i := 9) (N := some 46) #[true, true, true, true, true, true, true, true, true, true, true, true, true, true, false, false, false, false, false, false, false, false, false, false, false, false, false, false, false] rfl rfl (zbl HT_.out (by kernel_rfl)) (by decide) (fun K hK => ?_)
            refine zbx Try.func21 (by kernel_rfl) rfl #[.int .i64 a0_0, .slice A0_1 l0_1.length c0_1, .agg #[.int .i64 a0_2, .int .i64 a0_3, .slice A0_4 l0_4.length c0_4, .slice A0_5 l0_5.length c0_5, .int .i64 a0_6, .int .i64 a0_7]] (by rfl) rfl rfl (by (try simp only [List.map_toArray, List.map_cons, List.map_nil]); first | done | rfl | (simp only [List.length_drop, List.length_take]; rfl)) ?_
            with_reducible refine (z9.calls kj2 a0_0 _ _ l0_1 a0_2 a0_3 _ _ l0_4 _ _ l0_5 a0_6 a0_7 t304 _ ?side1 ?side2 ?side3 ?side4 ?side5 ?side6 A21.out).mono ?_
            (case side1 => repeat (first | exact (Kd.C_below HR0_1.out HB.out) | (with_reducible refine Kd.C_alloc ?_ _) | (with_reducible refine Kd.C_drewN ?_ _) | (with_reducible refine Kd.C_drew ?_)))
            (case side2 => exact HC0_1.out)
            (case side3 => repeat (first | exact (Kd.C_below HR0_4.out HB.out) | (with_reducible refine Kd.C_alloc ?_ _) | (with_reducible refine Kd.C_drewN ?_ _) | (with_reducible refine Kd.C_drew ?_)))
            (case side4 => exact HC0_4.out)
            (case side5 => repeat (first | exact (Kd.C_below HR0_5.out HB.out) | (with_reducible refine Kd.C_alloc ?_ _) | (with_reducible refine Kd.C_drewN ?_ _) | (with_reducible refine Kd.C_drew ?_)))
            (case side6 => exact HC0_5.out)
            rintro e w27 ⟨rfl, hb⟩
            refine ⟨_, rfl, ?_⟩
            have n0_ := zc.mk (zl (g := gb295) (o := .cells #[.int .i64 a0_0, .slice A0_1 l0_1.length c0_1, .int .i64 a0_2, .int .i64 a0_3, .slice A0_4 l0_4.length c0_4, .slice A0_5 l0_5.length c0_5, .int .i64 a0_6, .int .i64 a0_7, .int .u64 a0_8, .string a0_9] 49 (0, 0)) (by (with_reducible repeat (first | refine zi ?_ _ | refine zk ?_ | refine zj ?_ _)); exact BK295.out) hb)
            have n1_ := zc.mk (zl (g := gb296) (o := .cells #[.int .i64 a0_2, .int .i64 a0_3, .slice A0_4 l0_4.length c0_4, .slice A0_5 l0_5.length c0_5, .int .i64 a0_6, .int .i64 a0_7, .int .u64 a0_8] 34 (0, 0)) (by (with_reducible repeat (first | refine zi ?_ _ | refine zk ?_ | refine zj ?_ _)); exact BK296.out) hb)
            have n2_ := zc.mk (zh (by repeat (first | (with_reducible first | exact HB.out | apply zf | apply zd | apply ze | refine zg ?_ GE295.out | refine zg ?_ GE296.out) | exact HB.out)) hb)
            clear BK295
            clear BK296
            clear HB
            have BK295 := n0_
            have BK296 := n1_
            have HB := n2_
            clear n0_ n1_ n2_
            (try clear hb)
            (try clear hb2)
            (try clear hk)
            (try clear hi)
            refine hK.out _ _ ⟨(zb BK296.out 0).trans rfl, (zb BK296.out 1).trans rfl, (zb BK296.out 2).trans rfl, (zb BK296.out 3).trans rfl, (zb BK296.out 4).trans rfl, (zb BK296.out 5).trans rfl, (zb BK296.out 6).trans rfl⟩ (fun hHeld => ?_)
            clear hK K
            refine zbp (a' := ?_) ?_ ?_
            rotate_left
            · show Act.put _ (some 46) _ = _
              simp only [Act.put, List.setIfInBounds_toArray, List.set_cons_zero, List.set_cons_succ, zs, zu]
              rfl
            refine zb5 (i := 14) (N := some 51) #[true, true, true, true, true, true, true, true, true, true, true, true, true, true, true, false, false, false, false, false, false, false, false, false, false, false, false, false, false] rfl rfl (zbl HT_.out (by kernel_rfl)) (by decide) (fun K hK => ?_)
            refine zbx Try.func22 (by kernel_rfl) rfl #[.int .i64 a0_0, .slice A0_1 l0_1.length c0_1, .agg #[.int .i64 a0_2, .int .i64 a0_3, .slice A0_4 l0_4.length c0_4, .slice A0_5 l0_5.length c0_5, .int .i64 a0_6, .int .i64 a0_7]] (by rfl) rfl rfl (by (try simp only [List.map_toArray, List.map_cons, List.map_nil]); first | done | rfl | (simp only [List.length_drop, List.length_take]; rfl)) ?_
            with_reducible refine (zH.calls kj2 a0_0 _ _ l0_1 a0_2 a0_3 _ _ l0_4 _ _ l0_5 a0_6 a0_7 t305 _ ?side1 ?side2 ?side3 ?side4 ?side5 ?side6 A22.out).mono ?_
            (case side1 => repeat (first | exact (Kd.C_below HR0_1.out HB.out) | (with_reducible refine Kd.C_alloc ?_ _) | (with_reducible refine Kd.C_drewN ?_ _) | (with_reducible refine Kd.C_drew ?_)))
            (case side2 => exact HC0_1.out)
            (case side3 => repeat (first | exact (Kd.C_below HR0_4.out HB.out) | (with_reducible refine Kd.C_alloc ?_ _) | (with_reducible refine Kd.C_drewN ?_ _) | (with_reducible refine Kd.C_drew ?_)))
            (case side4 => exact HC0_4.out)
            (case side5 => repeat (first | exact (Kd.C_below HR0_5.out HB.out) | (with_reducible refine Kd.C_alloc ?_ _) | (with_reducible refine Kd.C_drewN ?_ _) | (with_reducible refine Kd.C_drew ?_)))
            (case side6 => exact HC0_5.out)
            rintro e w28 ⟨rfl, hb⟩
            refine ⟨_, rfl, ?_⟩
            have n0_ := zc.mk (zl (g := gb295) (o := .cells #[.int .i64 a0_0, .slice A0_1 l0_1.length c0_1, .int .i64 a0_2, .int .i64 a0_3, .slice A0_4 l0_4.length c0_4, .slice A0_5 l0_5.length c0_5, .int .i64 a0_6, .int .i64 a0_7, .int .u64 a0_8, .string a0_9] 49 (0, 0)) (by (with_reducible repeat (first | refine zi ?_ _ | refine zk ?_ | refine zj ?_ _)); exact BK295.out) hb)
            have n1_ := zc.mk (zl (g := gb296) (o := .cells #[.int .i64 a0_2, .int .i64 a0_3, .slice A0_4 l0_4.length c0_4, .slice A0_5 l0_5.length c0_5, .int .i64 a0_6, .int .i64 a0_7, .int .u64 a0_8] 34 (0, 0)) (by (with_reducible repeat (first | refine zi ?_ _ | refine zk ?_ | refine zj ?_ _)); exact BK296.out) hb)
            have n2_ := zc.mk (zh (by repeat (first | (with_reducible first | exact HB.out | apply zf | apply zd | apply ze | refine zg ?_ GE295.out | refine zg ?_ GE296.out) | exact HB.out)) hb)
            clear BK295
            clear BK296
            clear HB
            have BK295 := n0_
            have BK296 := n1_
            have HB := n2_
            clear n0_ n1_ n2_
            (try clear hb)
            (try clear hb2)
            (try clear hk)
            (try clear hi)
            refine hK.out _ _ ⟨(zb BK296.out 0).trans rfl, (zb BK296.out 1).trans rfl, (zb BK296.out 2).trans rfl, (zb BK296.out 3).trans rfl, (zb BK296.out 4).trans rfl, (zb BK296.out 5).trans rfl, (zb BK296.out 6).trans rfl⟩ (fun hHeld => ?_)
            clear hK K
            refine zbp (a' := ?_) ?_ ?_
            rotate_left
            · show Act.put _ (some 51) _ = _
              simp only [Act.put, List.setIfInBounds_toArray, List.set_cons_zero, List.set_cons_succ, zs, zu]
              rfl
            refine zI (i := 15) (N := some 52) (v := ?_) (a' := ?_) #[true, true, true, true, true, true, true, true, true, true, true, true, true, true, true, true, false, false, false, false, false, false, false, false, false, false, false, false, false] rfl rfl (zB HT_.out (by kernel_rfl)) (fun _ _ _ h => h) (Or.inl ⟨by rfl, ?_⟩) ?_ ?_
            rotate_left
            · intro w'
              go_simp
              with_reducible rfl
            rotate_left
            · simp only [Act.put, List.setIfInBounds_toArray, List.set_cons_zero, List.set_cons_succ, zs, zu]
              rfl
            refine zI (i := 16) (N := some 53) (v := ?_) (a' := ?_) #[true, true, true, true, true, true, true, true, true, true, true, true, true, true, true, true, true, false, false, false, false, false, false, false, false, false, false, false, false] rfl rfl (zB HT_.out (by kernel_rfl)) (fun _ _ _ h => h) (Or.inl ⟨by rfl, ?_⟩) ?_ ?_
            rotate_left
            · intro w'
              go_simp
              with_reducible rfl
            rotate_left
            · simp only [Act.put, List.setIfInBounds_toArray, List.set_cons_zero, List.set_cons_succ, zs, zu]
              rfl
            refine zI (i := 17) (N := some 54) (v := ?_) (a' := ?_) #[true, true, true, true, true, true, true, true, true, true, true, true, true, true, true, true, true, true, false, false, false, false, false, false, false, false, false, false, false] rfl rfl (zB HT_.out (by kernel_rfl)) (fun _ _ _ h => h) (Or.inl ⟨by rfl, ?_⟩) ?_ ?_
            rotate_left
            · intro w'
              go_simp
              with_reducible rfl
            rotate_left
            · simp only [Act.put, List.setIfInBounds_toArray, List.set_cons_zero, List.set_cons_succ, zs, zu]
              rfl
            refine zI (i := 18) (N := some 55) (v := ?_) (a' := ?_) #[true, true, true, true, true, true, true, true, true, true, true, true, true, true, true, true, true, true, true, false, false, false, false, false, false, false, false, false, false] rfl rfl (zB HT_.out (by kernel_rfl)) (fun _ _ _ h => h) (Or.inl ⟨by rfl, ?_⟩) ?_ ?_
            rotate_left
            · intro w'
              go_simp
              with_reducible rfl
            rotate_left
            · simp only [Act.put, List.setIfInBounds_toArray, List.set_cons_zero, List.set_cons_succ, zs, zu]
              rfl
            refine zI (i := 19) (N := some 56) (v := ?_) (a' := ?_) #[true, true, true, true, true, true, true, true, true, true, true, true, true, true, true, true, true, true, true, true, false, false, false, false, false, false, false, false, false] rfl rfl (zB HT_.out (by kernel_rfl)) (fun _ _ _ h => h) (Or.inl ⟨by rfl, ?_⟩) ?_ ?_
            rotate_left
            · intro w'
              go_simp
              with_reducible rfl
            rotate_left
            · simp only [Act.put, List.setIfInBounds_toArray, List.set_cons_zero, List.set_cons_succ, zs, zu]
              rfl
            refine zI (i := 22) (N := some 59) (v := ?_) (a' := ?_) #[true, true, true, true, true, true, true, true, true, true, true, true, true, true, true, true, true, true, true, true, false, false, true, false, false, false, false, false, false] rfl rfl (zB HT_.out (by kernel_rfl)) (fun _ _ _ h => h) (Or.inl ⟨by rfl, ?_⟩) ?_ ?_
            rotate_left
            · intro w'
              go_simp
              with_reducible rfl
            rotate_left
            · simp only [Act.put, List.setIfInBounds_toArray, List.set_cons_zero, List.set_cons_succ, zs, zu]
              rfl
            refine zI (i := 23) (N := some 60) (v := ?_) (a' := ?_) #[true, true, true, true, true, true, true, true, true, true, true, true, true, true, true, true, true, true, true, true, false, false, true, true, false, false, false, false, false] rfl rfl (zB HT_.out (by kernel_rfl)) (fun _ _ _ h => h) (Or.inl ⟨by rfl, ?_⟩) ?_ ?_
            rotate_left
            · intro w'
              go_simp
              with_reducible rfl
            rotate_left
            · simp only [Act.put, List.setIfInBounds_toArray, List.set_cons_zero, List.set_cons_succ, zs, zu]
              rfl
            refine take_ (i := 20) (N := some 57) (v := ?_) (a' := ?_) #[true, true, true, true, true, true, true, true, true, true, true, true, true, true, true, true, true, true, true, true, true, false, true, true, false, false, false, false, false] rfl rfl (zaQ HT_.out HW_.out (by kernel_rfl)) (fun _ _ _ h => h) (Or.inl ⟨by rfl, ?_⟩) hHeld ?_ ?_
            rotate_left
            · rintro w' ⟨s0, s1, s2, s3, s4, s5, s6⟩
              go_simp
              with_reducible rfl
            rotate_left
            · simp only [Act.put, List.setIfInBounds_toArray, List.set_cons_zero, List.set_cons_succ, zs, zu]
              rfl
            refine take_ (i := 24) (N := some 61) (v := ?_) (a' := ?_) #[true, true, true, true, true, true, true, true, true, true, true, true, true, true, true, true, true, true, true, true, true, false, true, true, true, false, false, false, false] rfl rfl (zaQ HT_.out HW_.out (by kernel_rfl)) (fun _ _ _ h => h) (Or.inl ⟨by rfl, ?_⟩) hHeld ?_ ?_
            rotate_left
            · rintro w' ⟨s0, s1, s2, s3, s4, s5, s6⟩
              go_simp
              with_reducible rfl
            rotate_left
            · simp only [Act.put, List.setIfInBounds_toArray, List.set_cons_zero, List.set_cons_succ, zs, zu]
              rfl
            refine zb5 (i := 21) (N := some 58) #[true, true, true, true, true, true, true, true, true, true, true, true, true, true, true, true, true, true, true, true, true, true, true, true, true, false, false, false, false] rfl rfl (zbl HT_.out (by kernel_rfl)) (by decide) (fun K hK => ?_)
            refine zbx Try.func12 (by kernel_rfl) rfl #[.int .i64 a0_0, .slice A0_1 l0_1.length c0_1, .agg #[.int .i64 a0_2, .int .i64 a0_3, .slice A0_4 l0_4.length c0_4, .slice A0_5 l0_5.length c0_5, .int .i64 a0_6, .int .i64 a0_7, .int .u64 a0_8]] (by rfl) rfl rfl (by (try simp only [List.map_toArray, List.map_cons, List.map_nil]); first | done | rfl | (simp only [List.length_drop, List.length_take]; rfl)) ?_
            with_reducible refine (zao.calls kj2 a0_0 _ _ l0_1 a0_2 a0_3 _ _ l0_4 _ _ l0_5 a0_6 a0_7 a0_8 t306 _ ?side1 ?side2 ?side3 ?side4 ?side5 ?side6 A24.out).mono ?_
            (case side1 => repeat (first | exact (Kd.C_below HR0_1.out HB.out) | (with_reducible refine Kd.C_alloc ?_ _) | (with_reducible refine Kd.C_drewN ?_ _) | (with_reducible refine Kd.C_drew ?_)))
            (case side2 => exact HC0_1.out)
            (case side3 => repeat (first | exact (Kd.C_below HR0_4.out HB.out) | (with_reducible refine Kd.C_alloc ?_ _) | (with_reducible refine Kd.C_drewN ?_ _) | (with_reducible refine Kd.C_drew ?_)))
            (case side4 => exact HC0_4.out)
            (case side5 => repeat (first | exact (Kd.C_below HR0_5.out HB.out) | (with_reducible refine Kd.C_alloc ?_ _) | (with_reducible refine Kd.C_drewN ?_ _) | (with_reducible refine Kd.C_drew ?_)))
            (case side6 => exact HC0_5.out)
            rintro e w29 ⟨rfl, hb⟩
            refine ⟨_, rfl, ?_⟩
            have n0_ := zc.mk (zl (g := gb295) (o := .cells #[.int .i64 a0_0, .slice A0_1 l0_1.length c0_1, .int .i64 a0_2, .int .i64 a0_3, .slice A0_4 l0_4.length c0_4, .slice A0_5 l0_5.length c0_5, .int .i64 a0_6, .int .i64 a0_7, .int .u64 a0_8, .string a0_9] 49 (0, 0)) (by (with_reducible repeat (first | refine zi ?_ _ | refine zk ?_ | refine zj ?_ _)); exact BK295.out) hb)
            have n1_ := zc.mk (zl (g := gb296) (o := .cells #[.int .i64 a0_2, .int .i64 a0_3, .slice A0_4 l0_4.length c0_4, .slice A0_5 l0_5.length c0_5, .int .i64 a0_6, .int .i64 a0_7, .int .u64 a0_8] 34 (0, 0)) (by (with_reducible repeat (first | refine zi ?_ _ | refine zk ?_ | refine zj ?_ _)); exact BK296.out) hb)
            have n2_ := zc.mk (zh (by repeat (first | (with_reducible first | exact HB.out | apply zf | apply zd | apply ze | refine zg ?_ GE295.out | refine zg ?_ GE296.out) | exact HB.out)) hb)
            clear BK295
            clear BK296
            clear HB
            have BK295 := n0_
            have BK296 := n1_
            have HB := n2_
            clear n0_ n1_ n2_
            (try clear hb)
            (try clear hb2)
            (try clear hk)
            (try clear hi)
            refine hK.out _ _ ⟨(zb BK296.out 0).trans rfl, (zb BK296.out 1).trans rfl, (zb BK296.out 2).trans rfl, (zb BK296.out 3).trans rfl, (zb BK296.out 4).trans rfl, (zb BK296.out 5).trans rfl, (zb BK296.out 6).trans rfl⟩ (fun hHeld => ?_)
            clear hK K
            refine zbp (a' := ?_) ?_ ?_
            rotate_left
            · show Act.put _ (some 58) _ = _
              simp only [Act.put, List.setIfInBounds_toArray, List.set_cons_zero, List.set_cons_succ, zs, zu]
              rfl
            refine zb5 (i := 25) (N := some 62) #[true, true, true, true, true, true, true, true, true, true, true, true, true, true, true, true, true, true, true, true, true, true, true, true, true, true, false, false, false] rfl rfl (zbl HT_.out (by kernel_rfl)) (by decide) (fun K hK => ?_)
            refine zbx Try.func23 (by kernel_rfl) rfl #[.int .i64 a0_0, .slice A0_1 l0_1.length c0_1, .agg #[.int .i64 a0_2, .int .i64 a0_3, .slice A0_4 l0_4.length c0_4, .slice A0_5 l0_5.length c0_5, .int .i64 a0_6, .int .i64 a0_7, .int .u64 a0_8]] (by rfl) rfl rfl (by (try simp only [List.map_toArray, List.map_cons, List.map_nil]); first | done | rfl | (simp only [List.length_drop, List.length_take]; rfl)) ?_
            with_reducible refine (zas.calls kj2 a0_0 _ _ l0_1 a0_2 a0_3 _ _ l0_4 _ _ l0_5 a0_6 a0_7 a0_8 t307 _ ?side1 ?side2 ?side3 ?side4 ?side5 ?side6 A25.out).mono ?_
            (case side1 => repeat (first | exact (Kd.C_below HR0_1.out HB.out) | (with_reducible refine Kd.C_alloc ?_ _) | (with_reducible refine Kd.C_drewN ?_ _) | (with_reducible refine Kd.C_drew ?_)))
            (case side2 => exact HC0_1.out)
            (case side3 => repeat (first | exact (Kd.C_below HR0_4.out HB.out) | (with_reducible refine Kd.C_alloc ?_ _) | (with_reducible refine Kd.C_drewN ?_ _) | (with_reducible refine Kd.C_drew ?_)))
            (case side4 => exact HC0_4.out)
            (case side5 => repeat (first | exact (Kd.C_below HR0_5.out HB.out) | (with_reducible refine Kd.C_alloc ?_ _) | (with_reducible refine Kd.C_drewN ?_ _) | (with_reducible refine Kd.C_drew ?_)))
            (case side6 => exact HC0_5.out)
            rintro e w30 ⟨rfl, hb⟩
            refine ⟨_, rfl, ?_⟩
            have n0_ := zc.mk (zl (g := gb295) (o := .cells #[.int .i64 a0_0, .slice A0_1 l0_1.length c0_1, .int .i64 a0_2, .int .i64 a0_3, .slice A0_4 l0_4.length c0_4, .slice A0_5 l0_5.length c0_5, .int .i64 a0_6, .int .i64 a0_7, .int .u64 a0_8, .string a0_9] 49 (0, 0)) (by (with_reducible repeat (first | refine zi ?_ _ | refine zk ?_ | refine zj ?_ _)); exact BK295.out) hb)
            have n1_ := zc.mk (zl (g := gb296) (o := .cells #[.int .i64 a0_2, .int .i64 a0_3, .slice A0_4 l0_4.length c0_4, .slice A0_5 l0_5.length c0_5, .int .i64 a0_6, .int .i64 a0_7, .int .u64 a0_8] 34 (0, 0)) (by (with_reducible repeat (first | refine zi ?_ _ | refine zk ?_ | refine zj ?_ _)); exact BK296.out) hb)
            have n2_ := zc.mk (zh (by repeat (first | (with_reducible first | exact HB.out | apply zf | apply zd | apply ze | refine zg ?_ GE295.out | refine zg ?_ GE296.out) | exact HB.out)) hb)
            clear BK295
            clear BK296
            clear HB
            have BK295 := n0_
            have BK296 := n1_
            have HB := n2_
            clear n0_ n1_ n2_
            (try clear hb)
            (try clear hb2)
            (try clear hk)
            (try clear hi)
            refine hK.out _ _ ⟨(zb BK296.out 0).trans rfl, (zb BK296.out 1).trans rfl, (zb BK296.out 2).trans rfl, (zb BK296.out 3).trans rfl, (zb BK296.out 4).trans rfl, (zb BK296.out 5).trans rfl, (zb BK296.out 6).trans rfl⟩ (fun hHeld => ?_)
            clear hK K
            refine zbp (a' := ?_) ?_ ?_
            rotate_left
            · show Act.put _ (some 62) _ = _
              simp only [Act.put, List.setIfInBounds_toArray, List.set_cons_zero, List.set_cons_succ, zs, zu]
              rfl
            refine zI (i := 26) (N := some 63) (v := ?_) (a' := ?_) #[true, true, true, true, true, true, true, true, true, true, true, true, true, true, true, true, true, true, true, true, true, true, true, true, true, true, true, false, false] rfl rfl (zB HT_.out (by kernel_rfl)) (fun _ _ _ h => h) (Or.inl ⟨by rfl, ?_⟩) ?_ ?_
            rotate_left
            · intro w'
              go_simp
              with_reducible rfl
            rotate_left
            · simp only [Act.put, List.setIfInBounds_toArray, List.set_cons_zero, List.set_cons_succ, zs, zu]
              rfl
            refine zI (i := 27) (N := some 64) (v := ?_) (a' := ?_) #[true, true, true, true, true, true, true, true, true, true, true, true, true, true, true, true, true, true, true, true, true, true, true, true, true, true, true, true, false] rfl rfl (zB HT_.out (by kernel_rfl)) (fun _ _ _ h => h) (Or.inl ⟨by rfl, ?_⟩) ?_ ?_
            rotate_left
            · intro w'
              go_simp
              with_reducible rfl
            rotate_left
            · simp only [Act.put, List.setIfInBounds_toArray, List.set_cons_zero, List.set_cons_succ, zs, zu]
              rfl
            refine zI (i := 28) (N := some 2) (v := ?_) (a' := ?_) #[true, true, true, true, true, true, true, true, true, true, true, true, true, true, true, true, true, true, true, true, true, true, true, true, true, true, true, true, true] rfl rfl (zB HT_.out (by kernel_rfl)) (fun _ _ _ h => h) (Or.inl ⟨by rfl, ?_⟩) ?_ ?_
            rotate_left
            · intro w'
              go_simp
              with_reducible rfl
            rotate_left
            · simp only [Act.put, List.setIfInBounds_toArray, List.set_cons_zero, List.set_cons_succ, zs, zu]
              rfl
            refine zcT (zcp HT_.out (by kernel_rfl)) ?_
            try go_wp2
            go_ret
            exact ⟨by first | rfl | (simp [zn, zo] <;> rfl) | (simp [*, zn, zo] <;> rfl), by repeat (first | (with_reducible first | exact HB.out | apply zf | apply zd | apply ze | refine zg ?_ GE295.out | refine zg ?_ GE296.out) | exact HB.out)⟩
          · rw [if_neg c23] at H
            have c23b0 : (t304 == t305) = false := beq_eq_false_iff_ne.mpr c23
            have c23b1 : (t304 != t305) = true := bne_iff_ne.mpr c23
            obtain rfl := Option.some.inj H
            try go_wp2
            have n0_ := zc.mk (zk BK295.out)
            have n1_ := zc.mk (zk BK296.out)
            have n2_ := zc.mk (ze HB.out)
            clear BK295
            clear BK296
            clear HB
            have BK295 := n0_
            have BK296 := n1_
            have HB := n2_
            clear n0_ n1_ n2_
            refine zcl (n := 29) (S := fun w' => w'.cell? ⟨gb296, 0, none⟩ = some (.int .i64 a0_2) ∧ w'.cell? ⟨gb296, 1, none⟩ = some (.int .i64 a0_3) ∧ w'.cell? ⟨gb296, 2, none⟩ = some (.slice A0_4 l0_4.length c0_4) ∧ w'.cell? ⟨gb296, 3, none⟩ = some (.slice A0_5 l0_5.length c0_5) ∧ w'.cell? ⟨gb296, 4, none⟩ = some (.int .i64 a0_6) ∧ w'.cell? ⟨gb296, 5, none⟩ = some (.int .i64 a0_7) ∧ w'.cell? ⟨gb296, 6, none⟩ = some (.int .u64 a0_8)) (ds := []) #[false, false, false, false, false, false, false, false, false, false, false, false, false, false, false, false, false, false, false, false, false, false, false, false, false, false, false, false, false] (by kernel_rfl) rfl rfl ⟨(zb BK296.out 0).trans rfl, (zb BK296.out 1).trans rfl, (zb BK296.out 2).trans rfl, (zb BK296.out 3).trans rfl, (zb BK296.out 4).trans rfl, (zb BK296.out 5).trans rfl, (zb BK296.out 6).trans rfl⟩ (fun hHeld => ?_); refine zbE zq.tab7 zq.bits7 (fun HT_ HW_ => ?_)
            generalize wc.drew = w31 at BK295 BK296 HB hHeld ⊢
            refine zI (i := 0) (N := some 37) (v := ?_) (a' := ?_) #[true, false, false, false, false, false, false, false, false, false, false, false, false, false, false, false, false, false, false, false, false, false, false, false, false, false, false, false, false] rfl rfl (zB HT_.out (by kernel_rfl)) (fun _ _ _ h => h) (Or.inl ⟨by rfl, ?_⟩) ?_ ?_
            rotate_left
            · intro w'
              go_simp
              with_reducible rfl
            rotate_left
            · simp only [Act.put, List.setIfInBounds_toArray, List.set_cons_zero, List.set_cons_succ, zs, zu]
              rfl
            refine zI (i := 1) (N := some 38) (v := ?_) (a' := ?_) #[true, true, false, false, false, false, false, false, false, false, false, false, false, false, false, false, false, false, false, false, false, false, false, false, false, false, false, false, false] rfl rfl (zB HT_.out (by kernel_rfl)) (fun _ _ _ h => h) (Or.inl ⟨by rfl, ?_⟩) ?_ ?_
            rotate_left
            · intro w'
              go_simp
              with_reducible rfl
            rotate_left
            · simp only [Act.put, List.setIfInBounds_toArray, List.set_cons_zero, List.set_cons_succ, zs, zu]
              rfl
            refine zI (i := 2) (N := some 39) (v := ?_) (a' := ?_) #[true, true, true, false, false, false, false, false, false, false, false, false, false, false, false, false, false, false, false, false, false, false, false, false, false, false, false, false, false] rfl rfl (zB HT_.out (by kernel_rfl)) (fun _ _ _ h => h) (Or.inl ⟨by rfl, ?_⟩) ?_ ?_
            rotate_left
            · intro w'
              go_simp
              with_reducible rfl
            rotate_left
            · simp only [Act.put, List.setIfInBounds_toArray, List.set_cons_zero, List.set_cons_succ, zs, zu]
              rfl
            refine zI (i := 3) (N := some 40) (v := ?_) (a' := ?_) #[true, true, true, true, false, false, false, false, false, false, false, false, false, false, false, false, false, false, false, false, false, false, false, false, false, false, false, false, false] rfl rfl (zB HT_.out (by kernel_rfl)) (fun _ _ _ h => h) (Or.inl ⟨by rfl, ?_⟩) ?_ ?_
            rotate_left
            · intro w'
              go_simp
              with_reducible rfl
            rotate_left
            · simp only [Act.put, List.setIfInBounds_toArray, List.set_cons_zero, List.set_cons_succ, zs, zu]
              rfl
            refine zI (i := 4) (N := some 41) (v := ?_) (a' := ?_) #[true, true, true, true, true, false, false, false, false, false, false, false, false, false, false, false, false, false, false, false, false, false, false, false, false, false, false, false, false] rfl rfl (zB HT_.out (by kernel_rfl)) (fun _ _ _ h => h) (Or.inl ⟨by rfl, ?_⟩) ?_ ?_
            rotate_left
            · intro w'
              go_simp
              with_reducible rfl
            rotate_left
            · simp only [Act.put, List.setIfInBounds_toArray, List.set_cons_zero, List.set_cons_succ, zs, zu]
              rfl
            refine zI (i := 5) (N := some 42) (v := ?_) (a' := ?_) #[true, true, true, true, true, true, false, false, false, false, false, false, false, false, false, false, false, false, false, false, false, false, false, false, false, false, false, false, false] rfl rfl (zB HT_.out (by kernel_rfl)) (fun _ _ _ h => h) (Or.inl ⟨by rfl, ?_⟩) ?_ ?_
            rotate_left
            · intro w'
              go_simp
              with_reducible rfl
            rotate_left
            · simp only [Act.put, List.setIfInBounds_toArray, List.set_cons_zero, List.set_cons_succ, zs, zu]
              rfl
            refine zI (i := 6) (N := some 43) (v := ?_) (a' := ?_) #[true, true, true, true, true, true, true, false, false, false, false, false, false, false, false, false, false, false, false, false, false, false, false, false, false, false, false, false, false] rfl rfl (zB HT_.out (by kernel_rfl)) (fun _ _ _ h => h) (Or.inl ⟨by rfl, ?_⟩) ?_ ?_
            rotate_left
            · intro w'
              go_simp
              with_reducible rfl
            rotate_left
            · simp only [Act.put, List.setIfInBounds_toArray, List.set_cons_zero, List.set_cons_succ, zs, zu]
              rfl
            refine zI (i := 7) (N := some 44) (v := ?_) (a' := ?_) #[true, true, true, true, true, true, true, true, false, false, false, false, false, false, false, false, false, false, false, false, false, false, false, false, false, false, false, false, false] rfl rfl (zB HT_.out (by kernel_rfl)) (fun _ _ _ h => h) (Or.inl ⟨by rfl, ?_⟩) ?_ ?_
            rotate_left
            · intro w'
              go_simp
              with_reducible rfl
            rotate_left
            · simp only [Act.put, List.setIfInBounds_toArray, List.set_cons_zero, List.set_cons_succ, zs, zu]
              rfl
            refine zI (i := 10) (N := some 47) (v := ?_) (a' := ?_) #[true, true, true, true, true, true, true, true, false, false, true, false, false, false, false, false, false, false, false, false, false, false, false, false, false, false, false, false, false] rfl rfl (zB HT_.out (by kernel_rfl)) (fun _ _ _ h => h) (Or.inl ⟨by rfl, ?_⟩) ?_ ?_
            rotate_left
            · intro w'
              go_simp
              with_reducible rfl
            rotate_left
            · simp only [Act.put, List.setIfInBounds_toArray, List.set_cons_zero, List.set_cons_succ, zs, zu]
              rfl
            refine zI (i := 11) (N := some 48) (v := ?_) (a' := ?_) #[true, true, true, true, true, true, true, true, false, false, true, true, false, false, false, false, false, false, false, false, false, false, false, false, false, false, false, false, false] rfl rfl (zB HT_.out (by kernel_rfl)) (fun _ _ _ h => h) (Or.inl ⟨by rfl, ?_⟩) ?_ ?_
            rotate_left
            · intro w'
              go_simp
              with_reducible rfl
            rotate_left
            · simp only [Act.put, List.setIfInBounds_toArray, List.set_cons_zero, List.set_cons_succ, zs, zu]
              rfl
            refine zI (i := 12) (N := some 49) (v := ?_) (a' := ?_) #[true, true, true, true, true, true, true, true, false, false, true, true, true, false, false, false, false, false, false, false, false, false, false, false, false, false, false, false, false] rfl rfl (zB HT_.out (by kernel_rfl)) (fun _ _ _ h => h) (Or.inl ⟨by rfl, ?_⟩) ?_ ?_
            rotate_left
            · intro w'
              go_simp
              with_reducible rfl
            rotate_left
            · simp only [Act.put, List.setIfInBounds_toArray, List.set_cons_zero, List.set_cons_succ, zs, zu]
              rfl
            refine take_ (i := 8) (N := some 45) (v := ?_) (a' := ?_) #[true, true, true, true, true, true, true, true, true, false, true, true, true, false, false, false, false, false, false, false, false, false, false, false, false, false, false, false, false] rfl rfl (zaQ HT_.out HW_.out (by kernel_rfl)) (fun _ _ _ h => h) (Or.inl ⟨by rfl, ?_⟩) hHeld ?_ ?_
            rotate_left
            · rintro w' ⟨s0, s1, s2, s3, s4, s5, s6⟩
              go_simp
              with_reducible rfl
            rotate_left
            · simp only [Act.put, List.setIfInBounds_toArray, List.set_cons_zero, List.set_cons_succ, zs, zu]
              rfl
            refine take_ (i := 13) (N := some 50) (v := ?_) (a' := ?_) #[true, true, true, true, true, true, true, true, true, false, true, true, true, true, false, false, false, false, false, false, false, false, false, false, false, false, false, false, false] rfl rfl (zaQ HT_.out HW_.out (by kernel_rfl)) (fun _ _ _ h => h) (Or.inl ⟨by rfl, ?_⟩) hHeld ?_ ?_
            rotate_left
            · rintro w' ⟨s0, s1, s2, s3, s4, s5, s6⟩
              go_simp
              with_reducible rfl
            rotate_left
            · simp only [Act.put, List.setIfInBounds_toArray, List.set_cons_zero, List.set_cons_succ, zs, zu]
              rfl
            refine zb5 (i := 9) (N := some 46) #[true, true, true, true, true, true, true, true, true, true, true, true, true, true, false, false, false, false, false, false, false, false, false, false, false, false, false, false, false] rfl rfl (zbl HT_.out (by kernel_rfl)) (by decide) (fun K hK => ?_)
            refine zbx Try.func21 (by kernel_rfl) rfl #[.int .i64 a0_0, .slice A0_1 l0_1.length c0_1, .agg #[.int .i64 a0_2, .int .i64 a0_3, .slice A0_4 l0_4.length c0_4, .slice A0_5 l0_5.length c0_5, .int .i64 a0_6, .int .i64 a0_7]] (by rfl) rfl rfl (by (try simp only [List.map_toArray, List.map_cons, List.map_nil]); first | done | rfl | (simp only [List.length_drop, List.length_take]; rfl)) ?_
            with_reducible refine (z9.calls kj2 a0_0 _ _ l0_1 a0_2 a0_3 _ _ l0_4 _ _ l0_5 a0_6 a0_7 t304 _ ?side1 ?side2 ?side3 ?side4 ?side5 ?side6 A21.out).mono ?_
            (case side1 => repeat (first | exact (Kd.C_below HR0_1.out HB.out) | (with_reducible refine Kd.C_alloc ?_ _) | (with_reducible refine Kd.C_drewN ?_ _) | (with_reducible refine Kd.C_drew ?_)))
            (case side2 => exact HC0_1.out)
            (case side3 => repeat (first | exact (Kd.C_below HR0_4.out HB.out) | (with_reducible refine Kd.C_alloc ?_ _) | (with_reducible refine Kd.C_drewN ?_ _) | (with_reducible refine Kd.C_drew ?_)))
            (case side4 => exact HC0_4.out)
            (case side5 => repeat (first | exact (Kd.C_below HR0_5.out HB.out) | (with_reducible refine Kd.C_alloc ?_ _) | (with_reducible refine Kd.C_drewN ?_ _) | (with_reducible refine Kd.C_drew ?_)))
            (case side6 => exact HC0_5.out)
            rintro e w32 ⟨rfl, hb⟩
            refine ⟨_, rfl, ?_⟩
            have n0_ := zc.mk (zl (g := gb295) (o := .cells #[.int .i64 a0_0, .slice A0_1 l0_1.length c0_1, .int .i64 a0_2, .int .i64 a0_3, .slice A0_4 l0_4.length c0_4, .slice A0_5 l0_5.length c0_5, .int .i64 a0_6, .int .i64 a0_7, .int .u64 a0_8, .string a0_9] 49 (0, 0)) (by (with_reducible repeat (first | refine zi ?_ _ | refine zk ?_ | refine zj ?_ _)); exact BK295.out) hb)
            have n1_ := zc.mk (zl (g := gb296) (o := .cells #[.int .i64 a0_2, .int .i64 a0_3, .slice A0_4 l0_4.length c0_4, .slice A0_5 l0_5.length c0_5, .int .i64 a0_6, .int .i64 a0_7, .int .u64 a0_8] 34 (0, 0)) (by (with_reducible repeat (first | refine zi ?_ _ | refine zk ?_ | refine zj ?_ _)); exact BK296.out) hb)
            have n2_ := zc.mk (zh (by repeat (first | (with_reducible first | exact HB.out | apply zf | apply zd | apply ze | refine zg ?_ GE295.out | refine zg ?_ GE296.out) | exact HB.out)) hb)
            clear BK295
            clear BK296
            clear HB
            have BK295 := n0_
            have BK296 := n1_
            have HB := n2_
            clear n0_ n1_ n2_
            (try clear hb)
            (try clear hb2)
            (try clear hk)
            (try clear hi)
            refine hK.out _ _ ⟨(zb BK296.out 0).trans rfl, (zb BK296.out 1).trans rfl, (zb BK296.out 2).trans rfl, (zb BK296.out 3).trans rfl, (zb BK296.out 4).trans rfl, (zb BK296.out 5).trans rfl, (zb BK296.out 6).trans rfl⟩ (fun hHeld => ?_)
            clear hK K
            refine zbp (a' := ?_) ?_ ?_
            rotate_left
            · show Act.put _ (some 46) _ = _
              simp only [Act.put, List.setIfInBounds_toArray, List.set_cons_zero, List.set_cons_succ, zs, zu]
              rfl
            refine zb5 (i := 14) (N := some 51) #[true, true, true, true, true, true, true, true, true, true, true, true, true, true, true, false, false, false, false, false, false, false, false, false, false, false, false, false, false] rfl rfl (zbl HT_.out (by kernel_rfl)) (by decide) (fun K hK => ?_)
            refine zbx Try.func22 (by kernel_rfl) rfl #[.int .i64 a0_0, .slice A0_1 l0_1.length c0_1, .agg #[.int .i64 a0_2, .int .i64 a0_3, .slice A0_4 l0_4.length c0_4, .slice A0_5 l0_5.length c0_5, .int .i64 a0_6, .int .i64 a0_7]] (by rfl) rfl rfl (by (try simp only [List.map_toArray, List.map_cons, List.map_nil]); first | done | rfl | (simp only [List.length_drop, List.length_take]; rfl)) ?_
            with_reducible refine (zH.calls kj2 a0_0 _ _ l0_1 a0_2 a0_3 _ _ l0_4 _ _ l0_5 a0_6 a0_7 t305 _ ?side1 ?side2 ?side3 ?side4 ?side5 ?side6 A22.out).mono ?_
            (case side1 => repeat (first | exact (Kd.C_below HR0_1.out HB.out) | (with_reducible refine Kd.C_alloc ?_ _) | (with_reducible refine Kd.C_drewN ?_ _) | (with_reducible refine Kd.C_drew ?_)))
            (case side2 => exact HC0_1.out)
            (case side3 => repeat (first | exact (Kd.C_below HR0_4.out HB.out) | (with_reducible refine Kd.C_alloc ?_ _) | (with_reducible refine Kd.C_drewN ?_ _) | (with_reducible refine Kd.C_drew ?_)))
            (case side4 => exact HC0_4.out)
            (case side5 => repeat (first | exact (Kd.C_below HR0_5.out HB.out) | (with_reducible refine Kd.C_alloc ?_ _) | (with_reducible refine Kd.C_drewN ?_ _) | (with_reducible refine Kd.C_drew ?_)))
            (case side6 => exact HC0_5.out)
            rintro e w33 ⟨rfl, hb⟩
            refine ⟨_, rfl, ?_⟩
            have n0_ := zc.mk (zl (g := gb295) (o := .cells #[.int .i64 a0_0, .slice A0_1 l0_1.length c0_1, .int .i64 a0_2, .int .i64 a0_3, .slice A0_4 l0_4.length c0_4, .slice A0_5 l0_5.length c0_5, .int .i64 a0_6, .int .i64 a0_7, .int .u64 a0_8, .string a0_9] 49 (0, 0)) (by (with_reducible repeat (first | refine zi ?_ _ | refine zk ?_ | refine zj ?_ _)); exact BK295.out) hb)
            have n1_ := zc.mk (zl (g := gb296) (o := .cells #[.int .i64 a0_2, .int .i64 a0_3, .slice A0_4 l0_4.length c0_4, .slice A0_5 l0_5.length c0_5, .int .i64 a0_6, .int .i64 a0_7, .int .u64 a0_8] 34 (0, 0)) (by (with_reducible repeat (first | refine zi ?_ _ | refine zk ?_ | refine zj ?_ _)); exact BK296.out) hb)
            have n2_ := zc.mk (zh (by repeat (first | (with_reducible first | exact HB.out | apply zf | apply zd | apply ze | refine zg ?_ GE295.out | refine zg ?_ GE296.out) | exact HB.out)) hb)
            clear BK295
            clear BK296
            clear HB
            have BK295 := n0_
            have BK296 := n1_
            have HB := n2_
            clear n0_ n1_ n2_
            (try clear hb)
            (try clear hb2)
            (try clear hk)
            (try clear hi)
            refine hK.out _ _ ⟨(zb BK296.out 0).trans rfl, (zb BK296.out 1).trans rfl, (zb BK296.out 2).trans rfl, (zb BK296.out 3).trans rfl, (zb BK296.out 4).trans rfl, (zb BK296.out 5).trans rfl, (zb BK296.out 6).trans rfl⟩ (fun hHeld => ?_)
            clear hK K
            refine zbp (a' := ?_) ?_ ?_
            rotate_left
            · show Act.put _ (some 51) _ = _
              simp only [Act.put, List.setIfInBounds_toArray, List.set_cons_zero, List.set_cons_succ, zs, zu]
              rfl
            refine zI (i := 15) (N := some 52) (v := ?_) (a' := ?_) #[true, true, true, true, true, true, true, true, true, true, true, true, true, true, true, true, false, false, false, false, false, false, false, false, false, false, false, false, false] rfl rfl (zB HT_.out (by kernel_rfl)) (fun _ _ _ h => h) (Or.inl ⟨by rfl, ?_⟩) ?_ ?_
            rotate_left
            · intro w'
              go_simp
              with_reducible rfl
            rotate_left
            · simp only [Act.put, List.setIfInBounds_toArray, List.set_cons_zero, List.set_cons_succ, zs, zu]
              rfl
            refine zI (i := 16) (N := some 53) (v := ?_) (a' := ?_) #[true, true, true, true, true, true, true, true, true, true, true, true, true, true, true, true, true, false, false, false, false, false, false, false, false, false, false, false, false] rfl rfl (zB HT_.out (by kernel_rfl)) (fun _ _ _ h => h) (Or.inl ⟨by rfl, ?_⟩) ?_ ?_
            rotate_left
            · intro w'
              go_simp
              with_reducible rfl
            rotate_left
            · simp only [Act.put, List.setIfInBounds_toArray, List.set_cons_zero, List.set_cons_succ, zs, zu]
              rfl
            refine zI (i := 17) (N := some 54) (v := ?_) (a' := ?_) #[true, true, true, true, true, true, true, true, true, true, true, true, true, true, true, true, true, true, false, false, false, false, false, false, false, false, false, false, false] rfl rfl (zB HT_.out (by kernel_rfl)) (fun _ _ _ h => h) (Or.inl ⟨by rfl, ?_⟩) ?_ ?_
            rotate_left
            · intro w'
              go_simp
              with_reducible rfl
            rotate_left
            · simp only [Act.put, List.setIfInBounds_toArray, List.set_cons_zero, List.set_cons_succ, zs, zu]
              rfl
            refine zI (i := 18) (N := some 55) (v := undef) (a' := ?_) #[true, true, true, true, true, true, true, true, true, true, true, true, true, true, true, true, true, true, true, false, false, false, false, false, false, false, false, false, false] rfl rfl (zB HT_.out (by kernel_rfl)) (fun _ _ _ h => h) (Or.inr ⟨by rfl, rfl⟩) ?_ ?_
            rotate_left
            · simp only [Act.put, List.setIfInBounds_toArray, List.set_cons_zero, List.set_cons_succ, zs, zu]
              rfl
            refine zI (i := 19) (N := some 56) (v := undef) (a' := ?_) #[true, true, true, true, true, true, true, true, true, true, true, true, true, true, true, true, true, true, true, true, false, false, false, false, false, false, false, false, false] rfl rfl (zB HT_.out (by kernel_rfl)) (fun _ _ _ h => h) (Or.inr ⟨by rfl, rfl⟩) ?_ ?_
            rotate_left
            · simp only [Act.put, List.setIfInBounds_toArray, List.set_cons_zero, List.set_cons_succ, zs, zu]
              rfl
            refine zI (i := 20) (N := some 57) (v := undef) (a' := ?_) #[true, true, true, true, true, true, true, true, true, true, true, true, true, true, true, true, true, true, true, true, true, false, false, false, false, false, false, false, false] rfl rfl (zB HT_.out (by kernel_rfl)) (fun _ _ _ h => h) (Or.inr ⟨by rfl, rfl⟩) ?_ ?_
            rotate_left
            · simp only [Act.put, List.setIfInBounds_toArray, List.set_cons_zero, List.set_cons_succ, zs, zu]
              rfl
            refine zI (i := 21) (N := some 58) (v := undef) (a' := ?_) #[true, true, true, true, true, true, true, true, true, true, true, true, true, true, true, true, true, true, true, true, true, true, false, false, false, false, false, false, false] rfl rfl (zB HT_.out (by kernel_rfl)) (fun _ _ _ h => h) (Or.inr ⟨by rfl, rfl⟩) ?_ ?_
            rotate_left
            · simp only [Act.put, List.setIfInBounds_toArray, List.set_cons_zero, List.set_cons_succ, zs, zu]
              rfl
            refine zI (i := 22) (N := some 59) (v := undef) (a' := ?_) #[true, true, true, true, true, true, true, true, true, true, true, true, true, true, true, true, true, true, true, true, true, true, true, false, false, false, false, false, false] rfl rfl (zB HT_.out (by kernel_rfl)) (fun _ _ _ h => h) (Or.inr ⟨by rfl, rfl⟩) ?_ ?_
            rotate_left
            · simp only [Act.put, List.setIfInBounds_toArray, List.set_cons_zero, List.set_cons_succ, zs, zu]
              rfl
            refine zI (i := 23) (N := some 60) (v := undef) (a' := ?_) #[true, true, true, true, true, true, true, true, true, true, true, true, true, true, true, true, true, true, true, true, true, true, true, true, false, false, false, false, false] rfl rfl (zB HT_.out (by kernel_rfl)) (fun _ _ _ h => h) (Or.inr ⟨by rfl, rfl⟩) ?_ ?_
            rotate_left
            · simp only [Act.put, List.setIfInBounds_toArray, List.set_cons_zero, List.set_cons_succ, zs, zu]
              rfl
            refine zI (i := 24) (N := some 61) (v := undef) (a' := ?_) #[true, true, true, true, true, true, true, true, true, true, true, true, true, true, true, true, true, true, true, true, true, true, true, true, true, false, false, false, false] rfl rfl (zB HT_.out (by kernel_rfl)) (fun _ _ _ h => h) (Or.inr ⟨by rfl, rfl⟩) ?_ ?_
            rotate_left
            · simp only [Act.put, List.setIfInBounds_toArray, List.set_cons_zero, List.set_cons_succ, zs, zu]
              rfl
            refine zI (i := 25) (N := some 62) (v := undef) (a' := ?_) #[true, true, true, true, true, true, true, true, true, true, true, true, true, true, true, true, true, true, true, true, true, true, true, true, true, true, false, false, false] rfl rfl (zB HT_.out (by kernel_rfl)) (fun _ _ _ h => h) (Or.inr ⟨by rfl, rfl⟩) ?_ ?_
            rotate_left
            · simp only [Act.put, List.setIfInBounds_toArray, List.set_cons_zero, List.set_cons_succ, zs, zu]
              rfl
            refine zI (i := 26) (N := some 63) (v := undef) (a' := ?_) #[true, true, true, true, true, true, true, true, true, true, true, true, true, true, true, true, true, true, true, true, true, true, true, true, true, true, true, false, false] rfl rfl (zB HT_.out (by kernel_rfl)) (fun _ _ _ h => h) (Or.inr ⟨by rfl, rfl⟩) ?_ ?_
            rotate_left
            · simp only [Act.put, List.setIfInBounds_toArray, List.set_cons_zero, List.set_cons_succ, zs, zu]
              rfl
            refine zI (i := 27) (N := some 64) (v := ?_) (a' := ?_) #[true, true, true, true, true, true, true, true, true, true, true, true, true, true, true, true, true, true, true, true, true, true, true, true, true, true, true, true, false] rfl rfl (zB HT_.out (by kernel_rfl)) (fun _ _ _ h => h) (Or.inl ⟨by rfl, ?_⟩) ?_ ?_
            rotate_left
            · intro w'
              go_simp
              with_reducible rfl
            rotate_left
            · simp only [Act.put, List.setIfInBounds_toArray, List.set_cons_zero, List.set_cons_succ, zs, zu]
              rfl
            refine zI (i := 28) (N := some 2) (v := ?_) (a' := ?_) #[true, true, true, true, true, true, true, true, true, true, true, true, true, true, true, true, true, true, true, true, true, true, true, true, true, true, true, true, true] rfl rfl (zB HT_.out (by kernel_rfl)) (fun _ _ _ h => h) (Or.inl ⟨by rfl, ?_⟩) ?_ ?_
            rotate_left
            · intro w'
              go_simp
              with_reducible rfl
            rotate_left
            · simp only [Act.put, List.setIfInBounds_toArray, List.set_cons_zero, List.set_cons_succ, zs, zu]
              rfl
            refine zcT (zcp HT_.out (by kernel_rfl)) ?_
            try go_wp2
            go_ret
            exact ⟨by first | rfl | (simp [zn, zo] <;> rfl) | (simp [*, zn, zo] <;> rfl), by repeat (first | (with_reducible first | exact HB.out | apply zf | apply zd | apply ze | refine zg ?_ GE295.out | refine zg ?_ GE296.out) | exact HB.out)⟩
        · replace c20 := Bool.eq_false_iff.mpr c20
          subst c20
          have H1 : (some false) = some r := by rw [if_neg (show ¬ (false = true) by decide)] at H; exact H
          clear H
          have H := H1
          clear H1
          obtain rfl := Option.some.inj H
          try go_wp2
          have n0_ := zc.mk (zk BK295.out)
          have n1_ := zc.mk (zk BK296.out)
          have n2_ := zc.mk (ze HB.out)
          clear BK295
          clear BK296
          clear HB
          have BK295 := n0_
          have BK296 := n1_
          have HB := n2_
          clear n0_ n1_ n2_
          refine zcl (n := 29) (S := fun w' => True) (ds := []) #[false, false, false, false, false, false, false, false, false, false, false, false, false, false, false, false, false, false, false, false, false, false, false, false, false, false, false, false, false] (by kernel_rfl) rfl rfl trivial (fun hHeld => ?_); refine zbE zq.tab7 zq.bits7 (fun HT_ HW_ => ?_)
          generalize wc.drew = w34 at BK295 BK296 HB hHeld ⊢
          refine zI (i := 0) (N := some 37) (v := ?_) (a' := ?_) #[true, false, false, false, false, false, false, false, false, false, false, false, false, false, false, false, false, false, false, false, false, false, false, false, false, false, false, false, false] rfl rfl (zB HT_.out (by kernel_rfl)) (fun _ _ _ h => h) (Or.inl ⟨by rfl, ?_⟩) ?_ ?_
          rotate_left
          · intro w'
            go_simp
            with_reducible rfl
          rotate_left
          · simp only [Act.put, List.setIfInBounds_toArray, List.set_cons_zero, List.set_cons_succ, zs, zu]
            rfl
          refine zI (i := 1) (N := some 38) (v := ?_) (a' := ?_) #[true, true, false, false, false, false, false, false, false, false, false, false, false, false, false, false, false, false, false, false, false, false, false, false, false, false, false, false, false] rfl rfl (zB HT_.out (by kernel_rfl)) (fun _ _ _ h => h) (Or.inl ⟨by rfl, ?_⟩) ?_ ?_
          rotate_left
          · intro w'
            go_simp
            with_reducible rfl
          rotate_left
          · simp only [Act.put, List.setIfInBounds_toArray, List.set_cons_zero, List.set_cons_succ, zs, zu]
            rfl
          refine zI (i := 2) (N := some 39) (v := ?_) (a' := ?_) #[true, true, true, false, false, false, false, false, false, false, false, false, false, false, false, false, false, false, false, false, false, false, false, false, false, false, false, false, false] rfl rfl (zB HT_.out (by kernel_rfl)) (fun _ _ _ h => h) (Or.inl ⟨by rfl, ?_⟩) ?_ ?_
          rotate_left
          · intro w'
            go_simp
            with_reducible rfl
          rotate_left
          · simp only [Act.put, List.setIfInBounds_toArray, List.set_cons_zero, List.set_cons_succ, zs, zu]
            rfl
          refine zI (i := 3) (N := some 40) (v := ?_) (a' := ?_) #[true, true, true, true, false, false, false, false, false, false, false, false, false, false, false, false, false, false, false, false, false, false, false, false, false, false, false, false, false] rfl rfl (zB HT_.out (by kernel_rfl)) (fun _ _ _ h => h) (Or.inl ⟨by rfl, ?_⟩) ?_ ?_
          rotate_left
          · intro w'
            go_simp
            with_reducible rfl
          rotate_left
          · simp only [Act.put, List.setIfInBounds_toArray, List.set_cons_zero, List.set_cons_succ, zs, zu]
            rfl
          refine zI (i := 4) (N := some 41) (v := ?_) (a' := ?_) #[true, true, true, true, true, false, false, false, false, false, false, false, false, false, false, false, false, false, false, false, false, false, false, false, false, false, false, false, false] rfl rfl (zB HT_.out (by kernel_rfl)) (fun _ _ _ h => h) (Or.inl ⟨by rfl, ?_⟩) ?_ ?_
          rotate_left
          · intro w'
            go_simp
            with_reducible rfl
          rotate_left
          · simp only [Act.put, List.setIfInBounds_toArray, List.set_cons_zero, List.set_cons_succ, zs, zu]
            rfl
          refine zI (i := 5) (N := some 42) (v := undef) (a' := ?_) #[true, true, true, true, true, true, false, false, false, false, false, false, false, false, false, false, false, false, false, false, false, false, false, false, false, false, false, false, false] rfl rfl (zB HT_.out (by kernel_rfl)) (fun _ _ _ h => h) (Or.inr ⟨by rfl, rfl⟩) ?_ ?_
          rotate_left
          · simp only [Act.put, List.setIfInBounds_toArray, List.set_cons_zero, List.set_cons_succ, zs, zu]
            rfl
          refine zI (i := 6) (N := some 43) (v := undef) (a' := ?_) #[true, true, true, true, true, true, true, false, false, false, false, false, false, false, false, false, false, false, false, false, false, false, false, false, false, false, false, false, false] rfl rfl (zB HT_.out (by kernel_rfl)) (fun _ _ _ h => h) (Or.inr ⟨by rfl, rfl⟩) ?_ ?_
          rotate_left
          · simp only [Act.put, List.setIfInBounds_toArray, List.set_cons_zero, List.set_cons_succ, zs, zu]
            rfl
          refine zI (i := 7) (N := some 44) (v := undef) (a' := ?_) #[true, true, true, true, true, true, true, true, false, false, false, false, false, false, false, false, false, false, false, false, false, false, false, false, false, false, false, false, false] rfl rfl (zB HT_.out (by kernel_rfl)) (fun _ _ _ h => h) (Or.inr ⟨by rfl, rfl⟩) ?_ ?_
          rotate_left
          · simp only [Act.put, List.setIfInBounds_toArray, List.set_cons_zero, List.set_cons_succ, zs, zu]
            rfl
          refine zI (i := 8) (N := some 45) (v := undef) (a' := ?_) #[true, true, true, true, true, true, true, true, true, false, false, false, false, false, false, false, false, false, false, false, false, false, false, false, false, false, false, false, false] rfl rfl (zB HT_.out (by kernel_rfl)) (fun _ _ _ h => h) (Or.inr ⟨by rfl, rfl⟩) ?_ ?_
          rotate_left
          · simp only [Act.put, List.setIfInBounds_toArray, List.set_cons_zero, List.set_cons_succ, zs, zu]
            rfl
          refine zI (i := 9) (N := some 46) (v := undef) (a' := ?_) #[true, true, true, true, true, true, true, true, true, true, false, false, false, false, false, false, false, false, false, false, false, false, false, false, false, false, false, false, false] rfl rfl (zB HT_.out (by kernel_rfl)) (fun _ _ _ h => h) (Or.inr ⟨by rfl, rfl⟩) ?_ ?_
          rotate_left
          · simp only [Act.put, List.setIfInBounds_toArray, List.set_cons_zero, List.set_cons_succ, zs, zu]
            rfl
          refine zI (i := 10) (N := some 47) (v := undef) (a' := ?_) #[true, true, true, true, true, true, true, true, true, true, true, false, false, false, false, false, false, false, false, false, false, false, false, false, false, false, false, false, false] rfl rfl (zB HT_.out (by kernel_rfl)) (fun _ _ _ h => h) (Or.inr ⟨by rfl, rfl⟩) ?_ ?_
          rotate_left
          · simp only [Act.put, List.setIfInBounds_toArray, List.set_cons_zero, List.set_cons_succ, zs, zu]
            rfl
          refine zI (i := 11) (N := some 48) (v := undef) (a' := ?_) #[true, true, true, true, true, true, true, true, true, true, true, true, false, false, false, false, false, false, false, false, false, false, false, false, false, false, false, false, false] rfl rfl (zB HT_.out (by kernel_rfl)) (fun _ _ _ h => h) (Or.inr ⟨by rfl, rfl⟩) ?_ ?_
          rotate_left
          · simp only [Act.put, List.setIfInBounds_toArray, List.set_cons_zero, List.set_cons_succ, zs, zu]
            rfl
          refine zI (i := 12) (N := some 49) (v := undef) (a' := ?_) #[true, true, true, true, true, true, true, true, true, true, true, true, true, false, false, false, false, false, false, false, false, false, false, false, false, false, false, false, false] rfl rfl (zB HT_.out (by kernel_rfl)) (fun _ _ _ h => h) (Or.inr ⟨by rfl, rfl⟩) ?_ ?_
          rotate_left
          · simp only [Act.put, List.setIfInBounds_toArray, List.set_cons_zero, List.set_cons_succ, zs, zu]
            rfl
          refine zI (i := 13) (N := some 50) (v := undef) (a' := ?_) #[true, true, true, true, true, true, true, true, true, true, true, true, true, true, false, false, false, false, false, false, false, false, false, false, false, false, false, false, false] rfl rfl (zB HT_.out (by kernel_rfl)) (fun _ _ _ h => h) (Or.inr ⟨by rfl, rfl⟩) ?_ ?_
          rotate_left
          · simp only [Act.put, List.setIfInBounds_toArray, List.set_cons_zero, List.set_cons_succ, zs, zu]
            rfl
          refine zI (i := 14) (N := some 51) (v := undef) (a' := ?_) #[true, true, true, true, true, true, true, true, true, true, true, true, true, true, true, false, false, false, false, false, false, false, false, false, false, false, false, false, false] rfl rfl (zB HT_.out (by kernel_rfl)) (fun _ _ _ h => h) (Or.inr ⟨by rfl, rfl⟩) ?_ ?_
          rotate_left
          · simp only [Act.put, List.setIfInBounds_toArray, List.set_cons_zero, List.set_cons_succ, zs, zu]
            rfl
          refine zI (i := 15) (N := some 52) (v := undef) (a' := ?_) #[true, true, true, true, true, true, true, true, true, true, true, true, true, true, true, true, false, false, false, false, false, false, false, false, false, false, false, false, false] rfl rfl (zB HT_.out (by kernel_rfl)) (fun _ _ _ h => h) (Or.inr ⟨by rfl, rfl⟩) ?_ ?_
          rotate_left
          · simp only [Act.put, List.setIfInBounds_toArray, List.set_cons_zero, List.set_cons_succ, zs, zu]
            rfl
          refine zI (i := 16) (N := some 53) (v := ?_) (a' := ?_) #[true, true, true, true, true, true, true, true, true, true, true, true, true, true, true, true, true, false, false, false, false, false, false, false, false, false, false, false, false] rfl rfl (zB HT_.out (by kernel_rfl)) (fun _ _ _ h => h) (Or.inl ⟨by rfl, ?_⟩) ?_ ?_
          rotate_left
          · intro w'
            go_simp
            with_reducible rfl
          rotate_left
          · simp only [Act.put, List.setIfInBounds_toArray, List.set_cons_zero, List.set_cons_succ, zs, zu]
            rfl
          refine zI (i := 17) (N := some 54) (v := ?_) (a' := ?_) #[true, true, true, true, true, true, true, true, true, true, true, true, true, true, true, true, true, true, false, false, false, false, false, false, false, false, false, false, false] rfl rfl (zB HT_.out (by kernel_rfl)) (fun _ _ _ h => h) (Or.inl ⟨by rfl, ?_⟩) ?_ ?_
          rotate_left
          · intro w'
            go_simp
            with_reducible rfl
          rotate_left
          · simp only [Act.put, List.setIfInBounds_toArray, List.set_cons_zero, List.set_cons_succ, zs, zu]
            rfl
          refine zI (i := 18) (N := some 55) (v := undef) (a' := ?_) #[true, true, true, true, true, true, true, true, true, true, true, true, true, true, true, true, true, true, true, false, false, false, false, false, false, false, false, false, false] rfl rfl (zB HT_.out (by kernel_rfl)) (fun _ _ _ h => h) (Or.inr ⟨by rfl, rfl⟩) ?_ ?_
          rotate_left
          · simp only [Act.put, List.setIfInBounds_toArray, List.set_cons_zero, List.set_cons_succ, zs, zu]
            rfl
          refine zI (i := 19) (N := some 56) (v := undef) (a' := ?_) #[true, true, true, true, true, true, true, true, true, true, true, true, true, true, true, true, true, true, true, true, false, false, false, false, false, false, false, false, false] rfl rfl (zB HT_.out (by kernel_rfl)) (fun _ _ _ h => h) (Or.inr ⟨by rfl, rfl⟩) ?_ ?_
          rotate_left
          · simp only [Act.put, List.setIfInBounds_toArray, List.set_cons_zero, List.set_cons_succ, zs, zu]
            rfl
          refine zI (i := 20) (N := some 57) (v := undef) (a' := ?_) #[true, true, true, true, true, true, true, true, true, true, true, true, true, true, true, true, true, true, true, true, true, false, false, false, false, false, false, false, false] rfl rfl (zB HT_.out (by kernel_rfl)) (fun _ _ _ h => h) (Or.inr ⟨by rfl, rfl⟩) ?_ ?_
          rotate_left
          · simp only [Act.put, List.setIfInBounds_toArray, List.set_cons_zero, List.set_cons_succ, zs, zu]
            rfl
          refine zI (i := 21) (N := some 58) (v := undef) (a' := ?_) #[true, true, true, true, true, true, true, true, true, true, true, true, true, true, true, true, true, true, true, true, true, true, false, false, false, false, false, false, false] rfl rfl (zB HT_.out (by kernel_rfl)) (fun _ _ _ h => h) (Or.inr ⟨by rfl, rfl⟩) ?_ ?_
          rotate_left
          · simp only [Act.put, List.setIfInBounds_toArray, List.set_cons_zero, List.set_cons_succ, zs, zu]
            rfl
          refine zI (i := 22) (N := some 59) (v := undef) (a' := ?_) #[true, true, true, true, true, true, true, true, true, true, true, true, true, true, true, true, true, true, true, true, true, true, true, false, false, false, false, false, false] rfl rfl (zB HT_.out (by kernel_rfl)) (fun _ _ _ h => h) (Or.inr ⟨by rfl, rfl⟩) ?_ ?_
          rotate_left
          · simp only [Act.put, List.setIfInBounds_toArray, List.set_cons_zero, List.set_cons_succ, zs, zu]
            rfl
          refine zI (i := 23) (N := some 60) (v := undef) (a' := ?_) #[true, true, true, true, true, true, true, true, true, true, true, true, true, true, true, true, true, true, true, true, true, true, true, true, false, false, false, false, false] rfl rfl (zB HT_.out (by kernel_rfl)) (fun _ _ _ h => h) (Or.inr ⟨by rfl, rfl⟩) ?_ ?_
          rotate_left
          · simp only [Act.put, List.setIfInBounds_toArray, List.set_cons_zero, List.set_cons_succ, zs, zu]
            rfl
          refine zI (i := 24) (N := some 61) (v := undef) (a' := ?_) #[true, true, true, true, true, true, true, true, true, true, true, true, true, true, true, true, true, true, true, true, true, true, true, true, true, false, false, false, false] rfl rfl (zB HT_.out (by kernel_rfl)) (fun _ _ _ h => h) (Or.inr ⟨by rfl, rfl⟩) ?_ ?_
          rotate_left
          · simp only [Act.put, List.setIfInBounds_toArray, List.set_cons_zero, List.set_cons_succ, zs, zu]
            rfl
          refine zI (i := 25) (N := some 62) (v := undef) (a' := ?_) #[true, true, true, true, true, true, true, true, true, true, true, true, true, true, true, true, true, true, true, true, true, true, true, true, true, true, false, false, false] rfl rfl (zB HT_.out (by kernel_rfl)) (fun _ _ _ h => h) (Or.inr ⟨by rfl, rfl⟩) ?_ ?_
          rotate_left
          · simp only [Act.put, List.setIfInBounds_toArray, List.set_cons_zero, List.set_cons_succ, zs, zu]
            rfl
          refine zI (i := 26) (N := some 63) (v := undef) (a' := ?_) #[true, true, true, true, true, true, true, true, true, true, true, true, true, true, true, true, true, true, true, true, true, true, true, true, true, true, true, false, false] rfl rfl (zB HT_.out (by kernel_rfl)) (fun _ _ _ h => h) (Or.inr ⟨by rfl, rfl⟩) ?_ ?_
          rotate_left
          · simp only [Act.put, List.setIfInBounds_toArray, List.set_cons_zero, List.set_cons_succ, zs, zu]
            rfl
          refine zI (i := 27) (N := some 64) (v := ?_) (a' := ?_) #[true, true, true, true, true, true, true, true, true, true, true, true, true, true, true, true, true, true, true, true, true, true, true, true, true, true, true, true, false] rfl rfl (zB HT_.out (by kernel_rfl)) (fun _ _ _ h => h) (Or.inl ⟨by rfl, ?_⟩) ?_ ?_
          rotate_left
          · intro w'
            go_simp
            with_reducible rfl
          rotate_left
          · simp only [Act.put, List.setIfInBounds_toArray, List.set_cons_zero, List.set_cons_succ, zs, zu]
            rfl
          refine zI (i := 28) (N := some 2) (v := ?_) (a' := ?_) #[true, true, true, true, true, true, true, true, true, true, true, true, true, true, true, true, true, true, true, true, true, true, true, true, true, true, true, true, true] rfl rfl (zB HT_.out (by kernel_rfl)) (fun _ _ _ h => h) (Or.inl ⟨by rfl, ?_⟩) ?_ ?_
          rotate_left
          · intro w'
            go_simp
            with_reducible rfl
          rotate_left
          · simp only [Act.put, List.setIfInBounds_toArray, List.set_cons_zero, List.set_cons_succ, zs, zu]
            rfl
          refine zcT (zcp HT_.out (by kernel_rfl)) ?_
          try go_wp2
          go_ret
          exact ⟨by first | rfl | (simp [zn, zo] <;> rfl) | (simp [*, zn, zo] <;> rfl), by repeat (first | (with_reducible first | exact HB.out | apply zf | apply zd | apply ze | refine zg ?_ GE295.out | refine zg ?_ GE296.out) | exact HB.out)⟩
      · replace c19 := Bool.eq_false_iff.mpr c19
        subst c19
        have H1 : (some false) = some r := by rw [if_neg (show ¬ (false = true) by decide)] at H; exact H
        clear H
        have H := H1
        clear H1
        obtain rfl := Option.some.inj H
        try go_wp2
        have n0_ := zc.mk (zk BK295.out)
        have n1_ := zc.mk (zk BK296.out)
        have n2_ := zc.mk (ze HB.out)
        clear BK295
        clear BK296
        clear HB
        have BK295 := n0_
        have BK296 := n1_
        have HB := n2_
        clear n0_ n1_ n2_
        refine zcl (n := 29) (S := fun w' => True) (ds := []) #[false, false, false, false, false, false, false, false, false, false, false, false, false, false, false, false, false, false, false, false, false, false, false, false, false, false, false, false, false] (by kernel_rfl) rfl rfl trivial (fun hHeld => ?_); refine zbE zq.tab7 zq.bits7 (fun HT_ HW_ => ?_)
        generalize wc.drew = w35 at BK295 BK296 HB hHeld ⊢
        refine zI (i := 0) (N := some 37) (v := ?_) (a' := ?_) #[true, false, false, false, false, false, false, false, false, false, false, false, false, false, false, false, false, false, false, false, false, false, false, false, false, false, false, false, false] rfl rfl (zB HT_.out (by kernel_rfl)) (fun _ _ _ h => h) (Or.inl ⟨by rfl, ?_⟩) ?_ ?_
        rotate_left
        · intro w'
          go_simp
          with_reducible rfl
        rotate_left
        · simp only [Act.put, List.setIfInBounds_toArray, List.set_cons_zero, List.set_cons_succ, zs, zu]
          rfl
        refine zI (i := 1) (N := some 38) (v := ?_) (a' := ?_) #[true, true, false, false, false, false, false, false, false, false, false, false, false, false, false, false, false, false, false, false, false, false, false, false, false, false, false, false, false] rfl rfl (zB HT_.out (by kernel_rfl)) (fun _ _ _ h => h) (Or.inl ⟨by rfl, ?_⟩) ?_ ?_
        rotate_left
        · intro w'
          go_simp
          with_reducible rfl
        rotate_left
        · simp only [Act.put, List.setIfInBounds_toArray, List.set_cons_zero, List.set_cons_succ, zs, zu]
          rfl
        refine zI (i := 2) (N := some 39) (v := undef) (a' := ?_) #[true, true, true, false, false, false, false, false, false, false, false, false, false, false, false, false, false, false, false, false, false, false, false, false, false, false, false, false, false] rfl rfl (zB HT_.out (by kernel_rfl)) (fun _ _ _ h => h) (Or.inr ⟨by rfl, rfl⟩) ?_ ?_
        rotate_left
        · simp only [Act.put, List.setIfInBounds_toArray, List.set_cons_zero, List.set_cons_succ, zs, zu]
          rfl
        refine zI (i := 3) (N := some 40) (v := ?_) (a' := ?_) #[true, true, true, true, false, false, false, false, false, false, false, false, false, false, false, false, false, false, false, false, false, false, false, false, false, false, false, false, false] rfl rfl (zB HT_.out (by kernel_rfl)) (fun _ _ _ h => h) (Or.inl ⟨by rfl, ?_⟩) ?_ ?_
        rotate_left
        · intro w'
          go_simp
          with_reducible rfl
        rotate_left
        · simp only [Act.put, List.setIfInBounds_toArray, List.set_cons_zero, List.set_cons_succ, zs, zu]
          rfl
        refine zI (i := 4) (N := some 41) (v := ?_) (a' := ?_) #[true, true, true, true, true, false, false, false, false, false, false, false, false, false, false, false, false, false, false, false, false, false, false, false, false, false, false, false, false] rfl rfl (zB HT_.out (by kernel_rfl)) (fun _ _ _ h => h) (Or.inl ⟨by rfl, ?_⟩) ?_ ?_
        rotate_left
        · intro w'
          go_simp
          with_reducible rfl
        rotate_left
        · simp only [Act.put, List.setIfInBounds_toArray, List.set_cons_zero, List.set_cons_succ, zs, zu]
          rfl
        refine zI (i := 5) (N := some 42) (v := undef) (a' := ?_) #[true, true, true, true, true, true, false, false, false, false, false, false, false, false, false, false, false, false, false, false, false, false, false, false, false, false, false, false, false] rfl rfl (zB HT_.out (by kernel_rfl)) (fun _ _ _ h => h) (Or.inr ⟨by rfl, rfl⟩) ?_ ?_
        rotate_left
        · simp only [Act.put, List.setIfInBounds_toArray, List.set_cons_zero, List.set_cons_succ, zs, zu]
          rfl
        refine zI (i := 6) (N := some 43) (v := undef) (a' := ?_) #[true, true, true, true, true, true, true, false, false, false, false, false, false, false, false, false, false, false, false, false, false, false, false, false, false, false, false, false, false] rfl rfl (zB HT_.out (by kernel_rfl)) (fun _ _ _ h => h) (Or.inr ⟨by rfl, rfl⟩) ?_ ?_
        rotate_left
        · simp only [Act.put, List.setIfInBounds_toArray, List.set_cons_zero, List.set_cons_succ, zs, zu]
          rfl
        refine zI (i := 7) (N := some 44) (v := undef) (a' := ?_) #[true, true, true, true, true, true, true, true, false, false, false, false, false, false, false, false, false, false, false, false, false, false, false, false, false, false, false, false, false] rfl rfl (zB HT_.out (by kernel_rfl)) (fun _ _ _ h => h) (Or.inr ⟨by rfl, rfl⟩) ?_ ?_
        rotate_left
        · simp only [Act.put, List.setIfInBounds_toArray, List.set_cons_zero, List.set_cons_succ, zs, zu]
          rfl
        refine zI (i := 8) (N := some 45) (v := undef) (a' := ?_) #[true, true, true, true, true, true, true, true, true, false, false, false, false, false, false, false, false, false, false, false, false, false, false, false, false, false, false, false, false] rfl rfl (zB HT_.out (by kernel_rfl)) (fun _ _ _ h => h) (Or.inr ⟨by rfl, rfl⟩) ?_ ?_
        rotate_left
        · simp only [Act.put, List.setIfInBounds_toArray, List.set_cons_zero, List.set_cons_succ, zs, zu]
          rfl
        refine zI (i := 9) (N := some 46) (v := undef) (a' := ?_) #[true, true, true, true, true, true, true, true, true, true, false, false, false, false, false, false, false, false, false, false, false, false, false, false, false, false, false, false, false] rfl rfl (zB HT_.out (by kernel_rfl)) (fun _ _ _ h => h) (Or.inr ⟨by rfl, rfl⟩) ?_ ?_
        rotate_left
        · simp only [Act.put, List.setIfInBounds_toArray, List.set_cons_zero, List.set_cons_succ, zs, zu]
          rfl
        refine zI (i := 10) (N := some 47) (v := undef) (a' := ?_) #[true, true, true, true, true, true, true, true, true, true, true, false, false, false, false, false, false, false, false, false, false, false, false, false, false, false, false, false, false] rfl rfl (zB HT_.out (by kernel_rfl)) (fun _ _ _ h => h) (Or.inr ⟨by rfl, rfl⟩) ?_ ?_
        rotate_left
        · simp only [Act.put, List.setIfInBounds_toArray, List.set_cons_zero, List.set_cons_succ, zs, zu]
          rfl
        refine zI (i := 11) (N := some 48) (v := undef) (a' := ?_) #[true, true, true, true, true, true, true, true, true, true, true, true, false, false, false, false, false, false, false, false, false, false, false, false, false, false, false, false, false] rfl rfl (zB HT_.out (by kernel_rfl)) (fun _ _ _ h => h) (Or.inr ⟨by rfl, rfl⟩) ?_ ?_
        rotate_left
        · simp only [Act.put, List.setIfInBounds_toArray, List.set_cons_zero, List.set_cons_succ, zs, zu]
          rfl
        refine zI (i := 12) (N := some 49) (v := undef) (a' := ?_) #[true, true, true, true, true, true, true, true, true, true, true, true, true, false, false, false, false, false, false, false, false, false, false, false, false, false, false, false, false] rfl rfl (zB HT_.out (by kernel_rfl)) (fun _ _ _ h => h) (Or.inr ⟨by rfl, rfl⟩) ?_ ?_
        rotate_left
        · simp only [Act.put, List.setIfInBounds_toArray, List.set_cons_zero, List.set_cons_succ, zs, zu]
          rfl
        refine zI (i := 13) (N := some 50) (v := undef) (a' := ?_) #[true, true, true, true, true, true, true, true, true, true, true, true, true, true, false, false, false, false, false, false, false, false, false, false, false, false, false, false, false] rfl rfl (zB HT_.out (by kernel_rfl)) (fun _ _ _ h => h) (Or.inr ⟨by rfl, rfl⟩) ?_ ?_
        rotate_left
        · simp only [Act.put, List.setIfInBounds_toArray, List.set_cons_zero, List.set_cons_succ, zs, zu]
          rfl
        refine zI (i := 14) (N := some 51) (v := undef) (a' := ?_) #[true, true, true, true, true, true, true, true, true, true, true, true, true, true, true, false, false, false, false, false, false, false, false, false, false, false, false, false, false] rfl rfl (zB HT_.out (by kernel_rfl)) (fun _ _ _ h => h) (Or.inr ⟨by rfl, rfl⟩) ?_ ?_
        rotate_left
        · simp only [Act.put, List.setIfInBounds_toArray, List.set_cons_zero, List.set_cons_succ, zs, zu]
          rfl
        refine zI (i := 15) (N := some 52) (v := undef) (a' := ?_) #[true, true, true, true, true, true, true, true, true, true, true, true, true, true, true, true, false, false, false, false, false, false, false, false, false, false, false, false, false] rfl rfl (zB HT_.out (by kernel_rfl)) (fun _ _ _ h => h) (Or.inr ⟨by rfl, rfl⟩) ?_ ?_
        rotate_left
        · simp only [Act.put, List.setIfInBounds_toArray, List.set_cons_zero, List.set_cons_succ, zs, zu]
          rfl
        refine zI (i := 16) (N := some 53) (v := ?_) (a' := ?_) #[true, true, true, true, true, true, true, true, true, true, true, true, true, true, true, true, true, false, false, false, false, false, false, false, false, false, false, false, false] rfl rfl (zB HT_.out (by kernel_rfl)) (fun _ _ _ h => h) (Or.inl ⟨by rfl, ?_⟩) ?_ ?_
        rotate_left
        · intro w'
          go_simp
          with_reducible rfl
        rotate_left
        · simp only [Act.put, List.setIfInBounds_toArray, List.set_cons_zero, List.set_cons_succ, zs, zu]
          rfl
        refine zI (i := 17) (N := some 54) (v := ?_) (a' := ?_) #[true, true, true, true, true, true, true, true, true, true, true, true, true, true, true, true, true, true, false, false, false, false, false, false, false, false, false, false, false] rfl rfl (zB HT_.out (by kernel_rfl)) (fun _ _ _ h => h) (Or.inl ⟨by rfl, ?_⟩) ?_ ?_
        rotate_left
        · intro w'
          go_simp
          with_reducible rfl
        rotate_left
        · simp only [Act.put, List.setIfInBounds_toArray, List.set_cons_zero, List.set_cons_succ, zs, zu]
          rfl
        refine zI (i := 18) (N := some 55) (v := undef) (a' := ?_) #[true, true, true, true, true, true, true, true, true, true, true, true, true, true, true, true, true, true, true, false, false, false, false, false, false, false, false, false, false] rfl rfl (zB HT_.out (by kernel_rfl)) (fun _ _ _ h => h) (Or.inr ⟨by rfl, rfl⟩) ?_ ?_
        rotate_left
        · simp only [Act.put, List.setIfInBounds_toArray, List.set_cons_zero, List.set_cons_succ, zs, zu]
          rfl
        refine zI (i := 19) (N := some 56) (v := undef) (a' := ?_) #[true, true, true, true, true, true, true, true, true, true, true, true, true, true, true, true, true, true, true, true, false, false, false, false, false, false, false, false, false] rfl rfl (zB HT_.out (by kernel_rfl)) (fun _ _ _ h => h) (Or.inr ⟨by rfl, rfl⟩) ?_ ?_
        rotate_left
        · simp only [Act.put, List.setIfInBounds_toArray, List.set_cons_zero, List.set_cons_succ, zs, zu]
          rfl
        refine zI (i := 20) (N := some 57) (v := undef) (a' := ?_) #[true, true, true, true, true, true, true, true, true, true, true, true, true, true, true, true, true, true, true, true, true, false, false, false, false, false, false, false, false] rfl rfl (zB HT_.out (by kernel_rfl)) (fun _ _ _ h => h) (Or.inr ⟨by rfl, rfl⟩) ?_ ?_
        rotate_left
        · simp only [Act.put, List.setIfInBounds_toArray, List.set_cons_zero, List.set_cons_succ, zs, zu]
          rfl
        refine zI (i := 21) (N := some 58) (v := undef) (a' := ?_) #[true, true, true, true, true, true, true, true, true, true, true, true, true, true, true, true, true, true, true, true, true, true, false, false, false, false, false, false, false] rfl rfl (zB HT_.out (by kernel_rfl)) (fun _ _ _ h => h) (Or.inr ⟨by rfl, rfl⟩) ?_ ?_
        rotate_left
        · simp only [Act.put, List.setIfInBounds_toArray, List.set_cons_zero, List.set_cons_succ, zs, zu]
          rfl
        refine zI (i := 22) (N := some 59) (v := undef) (a' := ?_) #[true, true, true, true, true, true, true, true, true, true, true, true, true, true, true, true, true, true, true, true, true, true, true, false, false, false, false, false, false] rfl rfl (zB HT_.out (by kernel_rfl)) (fun _ _ _ h => h) (Or.inr ⟨by rfl, rfl⟩) ?_ ?_
        rotate_left
        · simp only [Act.put, List.setIfInBounds_toArray, List.set_cons_zero, List.set_cons_succ, zs, zu]
          rfl
        refine zI (i := 23) (N := some 60) (v := undef) (a' := ?_) #[true, true, true, true, true, true, true, true, true, true, true, true, true, true, true, true, true, true, true, true, true, true, true, true, false, false, false, false, false] rfl rfl (zB HT_.out (by kernel_rfl)) (fun _ _ _ h => h) (Or.inr ⟨by rfl, rfl⟩) ?_ ?_
        rotate_left
        · simp only [Act.put, List.setIfInBounds_toArray, List.set_cons_zero, List.set_cons_succ, zs, zu]
          rfl
        refine zI (i := 24) (N := some 61) (v := undef) (a' := ?_) #[true, true, true, true, true, true, true, true, true, true, true, true, true, true, true, true, true, true, true, true, true, true, true, true, true, false, false, false, false] rfl rfl (zB HT_.out (by kernel_rfl)) (fun _ _ _ h => h) (Or.inr ⟨by rfl, rfl⟩) ?_ ?_
        rotate_left
        · simp only [Act.put, List.setIfInBounds_toArray, List.set_cons_zero, List.set_cons_succ, zs, zu]
          rfl
        refine zI (i := 25) (N := some 62) (v := undef) (a' := ?_) #[true, true, true, true, true, true, true, true, true, true, true, true, true, true, true, true, true, true, true, true, true, true, true, true, true, true, false, false, false] rfl rfl (zB HT_.out (by kernel_rfl)) (fun _ _ _ h => h) (Or.inr ⟨by rfl, rfl⟩) ?_ ?_
        rotate_left
        · simp only [Act.put, List.setIfInBounds_toArray, List.set_cons_zero, List.set_cons_succ, zs, zu]
          rfl
        refine zI (i := 26) (N := some 63) (v := undef) (a' := ?_) #[true, true, true, true, true, true, true, true, true, true, true, true, true, true, true, true, true, true, true, true, true, true, true, true, true, true, true, false, false] rfl rfl (zB HT_.out (by kernel_rfl)) (fun _ _ _ h => h) (Or.inr ⟨by rfl, rfl⟩) ?_ ?_
        rotate_left
        · simp only [Act.put, List.setIfInBounds_toArray, List.set_cons_zero, List.set_cons_succ, zs, zu]
          rfl
        refine zI (i := 27) (N := some 64) (v := ?_) (a' := ?_) #[true, true, true, true, true, true, true, true, true, true, true, true, true, true, true, true, true, true, true, true, true, true, true, true, true, true, true, true, false] rfl rfl (zB HT_.out (by kernel_rfl)) (fun _ _ _ h => h) (Or.inl ⟨by rfl, ?_⟩) ?_ ?_
        rotate_left
        · intro w'
          go_simp
          with_reducible rfl
        rotate_left
        · simp only [Act.put, List.setIfInBounds_toArray, List.set_cons_zero, List.set_cons_succ, zs, zu]
          rfl
        refine zI (i := 28) (N := some 2) (v := ?_) (a' := ?_) #[true, true, true, true, true, true, true, true, true, true, true, true, true, true, true, true, true, true, true, true, true, true, true, true, true, true, true, true, true] rfl rfl (zB HT_.out (by kernel_rfl)) (fun _ _ _ h => h) (Or.inl ⟨by rfl, ?_⟩) ?_ ?_
        rotate_left
        · intro w'
          go_simp
          with_reducible rfl
        rotate_left
        · simp only [Act.put, List.setIfInBounds_toArray, List.set_cons_zero, List.set_cons_succ, zs, zu]
          rfl
        refine zcT (zcp HT_.out (by kernel_rfl)) ?_
        try go_wp2
        go_ret
        exact ⟨by first | rfl | (simp [zn, zo] <;> rfl) | (simp [*, zn, zo] <;> rfl), by repeat (first | (with_reducible first | exact HB.out | apply zf | apply zd | apply ze | refine zg ?_ GE295.out | refine zg ?_ GE296.out) | exact HB.out)⟩
end Go.Proofs.Ytlabjgcoopdbiaa.Px
