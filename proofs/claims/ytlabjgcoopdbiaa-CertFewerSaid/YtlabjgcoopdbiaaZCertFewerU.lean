/- Part 21 of 28 of the proof of the law CertFewer: what is proved is the statement at the end of the last part; its conditions are those of the given row. -/
import Derived.Test.YtlabjgcoopdbiaaZCertFewerT
namespace Go.Proofs.Ytlabjgcoopdbiaa.Px
open Go.RowKit Go.Proofs.YtlabjgcoopdbiaaW.PrintWords Go.Proofs.YtlabjgcoopdbiaaW.PrintLast Go.Proofs.YtlabjgcoopdbiaaW.PrintMore
attribute [local go_sem] zB zD zL zM zx zy zC zE
set_option linter.unusedVariables false
set_option linter.unusedSimpArgs false
def zt.l0 : Nat → List ByteArray → Int → Int → Int → List (S68) → List ByteArray → Int → Int → Option (ByteArray × Int)
  | 0, _, _, _, _, _, _, _, _ => none
  | k + 1, x7, x8, x182000, x182001, x182002, x182003, x182004, x182005 => if x8 < (x182002.length : Int) then (if 0 ≤ x8 then ((zZ.f k ((z4 x182002 x8).f0) ((z4 x182002 x8).f1) ((z4 x182002 x8).f2)).bind fun bt184 => (if x7.length < 8796093022208 then (zt.l0 k (x7 ++ [bt184.1]) (wrap64 (x8 + 1)) x182000 x182001 x182002 x182003 x182004 x182005) else (none))) else (none)) else ((zr.f k (IntKind.u64.wrap (x182000))).bind fun t189 => ((zr.f k (IntKind.u64.wrap (x182001))).bind fun t190 => (if t189.size + t190.size ≤ 9223372036854775807 then ((zK.f x7).bind fun t191 => (if (t189 ++ t190).size + t191.size ≤ 9223372036854775807 then ((zK.f x182003).bind fun t192 => (if ((t189 ++ t190) ++ t191).size + t192.size ≤ 9223372036854775807 then ((zr.f k (IntKind.u64.wrap (x182004))).bind fun t193 => (if (((t189 ++ t190) ++ t191) ++ t192).size + t193.size ≤ 9223372036854775807 then ((zr.f k (IntKind.u64.wrap (x182005))).bind fun t194 => (if ((((t189 ++ t190) ++ t191) ++ t192) ++ t193).size + t194.size ≤ 9223372036854775807 then (some (((((t189 ++ t190) ++ t191) ++ t192) ++ t193) ++ t194, 0)) else (none))) else (none))) else (none))) else (none))) else (none))))
def zt.f (k : Nat) (a0_0 : Int) (a0_1 : Int) (l0_2 : List (S68)) (l0_3 : List ByteArray) (a0_4 : Int) (a0_5 : Int) (a1 : Int) : Option (ByteArray × Int) := (zm.f k a0_0 a0_1 l0_2 l0_3 a0_4 a0_5 a1).bind fun t182 => (if t182 = true then (zt.l0 k ([] : List ByteArray) 0 a0_0 a0_1 l0_2 l0_3 a0_4 a0_5) else (some ((⟨#[]⟩ : ByteArray), 1)))
def zt.T10 : Bool × List (List Nat × List Nat) := (true, [([], []), ([0], [0]), ([1], [1]), ([2], [2]), ([], []), ([4], [4]), ([5], [5]), ([6, 3], [6]), ([3, 7], [3, 7]), ([], []), ([9, 7], [9]), ([8, 10], [8, 10]), ([], []), ([12], [12]), ([13, 10], [13]), ([11, 14], [11, 14]), ([15, 14, 0, 1, 2, 3, 4, 5, 6, 7, 8, 9, 10, 11, 12, 13, 14, 15], [15])])
def zt.B10 : List Nat := [0, 1, 3, 7, 0, 16, 48, 127, 255, 0, 767, 2047, 0, 4096, 14079, 32767, 65535]
theorem zt.tab10 : zb3 .any (zf1 Try.f30 10) = zt.T10 := by kernel_rfl
theorem zt.bits10 : zb8 zt.T10.2 zt.B10 = true := by kernel_rfl
def zt.T11 : Bool × List (List Nat × List Nat) := (true, [([], []), ([], []), ([1], [1]), ([2], [2]), ([3], [3]), ([4], [4]), ([0, 5], [0, 5]), ([], []), ([7], [7]), ([8], [8]), ([9], [9]), ([10, 5], [10]), ([6, 11], [6, 11]), ([12, 11, 0, 1, 2, 3, 4, 5, 6, 7, 8, 9, 10, 11, 12], [12]), ([13, 0, 1, 2, 3, 4, 5, 6, 7, 8, 9, 10, 11, 12, 13], [])])
def zt.B11 : List Nat := [0, 0, 2, 6, 14, 30, 63, 0, 128, 384, 896, 1982, 4095, 8191, 16383]
theorem zt.tab11 : zb3 .any (zf1 Try.f30 11) = zt.T11 := by kernel_rfl
theorem zt.bits11 : zb8 zt.T11.2 zt.B11 = true := by kernel_rfl
set_option maxHeartbeats 8000000 in
set_option maxRecDepth 100000 in
theorem zt.calls (k : Nat) (a0_0 : Int) (a0_1 : Int) (A0_2 : Option Addr) (c0_2 : Nat) (l0_2 : List (S68)) (A0_3 : Option Addr) (c0_3 : Nat) (l0_3 : List ByteArray) (a0_4 : Int) (a0_5 : Int) (a1 : Int) (r1 : ByteArray) (r2 : Int) (w : World) (hr0_2 : Kd.C k68 w A0_2 l0_2.length l0_2) (hc0_2 : l0_2.length ≤ c0_2) (hr0_3 : Kd.C Kd.string w A0_3 l0_3.length l0_3) (hc0_3 : l0_3.length ≤ c0_3) (h : zt.f k a0_0 a0_1 l0_2 l0_3 a0_4 a0_5 a1 = some (r1, r2)) :
    Calls Try.prog 30 #[.agg #[.int .i64 a0_0, .int .i64 a0_1, .slice A0_2 l0_2.length c0_2, .slice A0_3 l0_3.length c0_3, .int .i64 a0_4, .int .i64 a0_5], .int .i64 a1] w fun e w' => e = .returned (.tuple #[.string r1, .int .i64 r2]) ∧ Below w.heap.size w w' := by
  have hu31 := Try.underlying31
  have hu68 := Try.underlying68
  have HR0_2 := zc.mk hr0_2
  have HC0_2 := zc.mk hc0_2
  clear hr0_2 hc0_2
  have HR0_3 := zc.mk hr0_3
  have HC0_3 := zc.mk hc0_3
  clear hr0_3 hc0_3
  have HB := zc.mk (Below.refl w.heap.size w)
  have H : ((zm.f k a0_0 a0_1 l0_2 l0_3 a0_4 a0_5 a1).bind fun t182 => (if t182 = true then (zt.l0 k ([] : List ByteArray) 0 a0_0 a0_1 l0_2 l0_3 a0_4 a0_5) else (some ((⟨#[]⟩ : ByteArray), 1)))) = some (r1, r2) := h
  clear h
  replace H := Option.bind_eq_some_iff.mp H
  obtain ⟨t182, A30, H⟩ := H
  replace H : (if t182 = true then (zt.l0 k ([] : List ByteArray) 0 a0_0 a0_1 l0_2 l0_3 a0_4 a0_5) else (some ((⟨#[]⟩ : ByteArray), 1))) = some (r1, r2) := H
  have A3 := zc.mk A30
  clear A30
  by_cases c4 : t182 = true
  · subst c4
    have H1 : (zt.l0 k ([] : List ByteArray) 0 a0_0 a0_1 l0_2 l0_3 a0_4 a0_5) = some (r1, r2) := by rw [if_pos rfl] at H; exact H
    clear H
    have H := H1
    clear H1
    have H' := zc.mk H
    clear H
    go_enter Try.func30, Try.ntmps30
    go_wp2_with (first | ((with_reducible refine zv (N := 2) rfl ?_); refine zu ?hg (N := 2) ?hd (cs := #[.int .i64 a0_0, .int .i64 a0_1, .slice A0_2 l0_2.length c0_2, .slice A0_3 l0_3.length c0_3, .int .i64 a0_4, .int .i64 a0_5]) (t := 31) ?hr ?_; (case hd => rfl); (case hg => rfl); (case hr => first | (go_simp; done) | (go_simp; rfl)); intro gb181 hg w5 hbox hb; have n0_ := zc.mk (zk (by repeat (first | (with_reducible first | exact HB.out | apply zf | apply zd | apply ze) | exact HB.out)) hb); have n1_ := zc.mk (hbox); have n2_ := zc.mk ((by rw [hg]; exact (zn (by repeat (first | (with_reducible first | exact HB.out | apply zf | apply zd | apply ze) | exact HB.out))) : w.heap.size ≤ gb181)); have n3_ := zc.mk ((by rw [hg]; exact (zn (by repeat (first | (with_reducible first | exact HB.out | apply zf | apply zd | apply ze) | exact HB.out))) : w.heap.size ≤ gb181)); clear HB; have HB := n0_; have BK181 := n1_; have GW181 := n2_; have GE181 := n3_; clear n0_ n1_ n2_ n3_; clear hb hbox hg; have hcz6_0 : w5.cell? ⟨gb181, 0, none⟩ = some (.int .i64 a0_0) := (zb BK181.out 0).trans rfl; have hcz6_1 : w5.cell? ⟨gb181, 1, none⟩ = some (.int .i64 a0_1) := (zb BK181.out 1).trans rfl; have hcz6_2 : w5.cell? ⟨gb181, 2, none⟩ = some (.slice A0_2 l0_2.length c0_2) := (zb BK181.out 2).trans rfl; have hcz6_3 : w5.cell? ⟨gb181, 3, none⟩ = some (.slice A0_3 l0_3.length c0_3) := (zb BK181.out 3).trans rfl; have hcz6_4 : w5.cell? ⟨gb181, 4, none⟩ = some (.int .i64 a0_4) := (zb BK181.out 4).trans rfl; have hcz6_5 : w5.cell? ⟨gb181, 5, none⟩ = some (.int .i64 a0_5) := (zb BK181.out 5).trans rfl; have hfz6_0 := za BK181.out 0; have hfz6_1 := za BK181.out 1; have hfz6_2 := za BK181.out 2; have hfz6_3 := za BK181.out 3; have hfz6_4 := za BK181.out 4; have hfz6_5 := za BK181.out 5) | ((with_reducible refine zq (f := 45) rfl ?_); refine zQ (some 14) rfl rfl Try.func45 (by kernel_rfl) rfl #[.agg #[.int .i64 a0_0, .int .i64 a0_1, .slice A0_2 l0_2.length c0_2, .slice A0_3 l0_3.length c0_3, .int .i64 a0_4, .int .i64 a0_5], .int .i64 a1] rfl (by (try simp only [List.map_toArray, List.map_cons, List.map_nil]); first | done | rfl | (simp only [List.length_drop, List.length_take]; rfl)) ?_; (with_reducible refine (zm.calls k a0_0 a0_1 _ _ l0_2 _ _ l0_3 a0_4 a0_5 a1 true _ ?side1 ?side2 ?side3 ?side4 A3.out).mono ?_); (case side1 => repeat (first | exact (Kd.C_below HR0_2.out HB.out) | (with_reducible refine Kd.C_alloc ?_ _) | (with_reducible refine Kd.C_drewN ?_ _) | (with_reducible refine Kd.C_drew ?_))); (case side2 => exact HC0_2.out); (case side3 => repeat (first | exact (Kd.C_below HR0_3.out HB.out) | (with_reducible refine Kd.C_alloc ?_ _) | (with_reducible refine Kd.C_drewN ?_ _) | (with_reducible refine Kd.C_drew ?_))); (case side4 => exact HC0_3.out); rintro e w7 ⟨rfl, hb⟩; refine ⟨_, rfl, ?_⟩; have n0_ := zc.mk (zl (g := gb181) (o := .cells #[.int .i64 a0_0, .int .i64 a0_1, .slice A0_2 l0_2.length c0_2, .slice A0_3 l0_3.length c0_3, .int .i64 a0_4, .int .i64 a0_5] 31 (0, 0)) (by (with_reducible repeat (first | refine zg ?_ _ | refine zi ?_ | refine zh ?_ _)); exact BK181.out) hb); have n1_ := zc.mk (zk (by repeat (first | (with_reducible first | exact HB.out | apply zf | apply zd | apply ze | refine zj ?_ GE181.out) | exact HB.out)) hb); clear BK181; clear HB; have BK181 := n0_; have HB := n1_; clear n0_ n1_; (try clear hb); (try clear hb2); (try clear hk); (try clear hi)))
    go_loopg [7, 8] k (fun kq v7 v8 w' => ∃ (x7_1 : List ByteArray) (x8_1 : Int), v8 = .int .i64 x8_1 ∧ zc (zt.l0 kq x7_1 x8_1 a0_0 a0_1 l0_2 l0_3 a0_4 a0_5 = some (r1, r2)) ∧ zc (kq ≤ k) ∧ zc (Kd.R Kd.string 9 w' w.heap.size (fun _ => True) v7 x7_1) ∧ zc (w'.heap[gb181]? = some (.cells #[.int .i64 a0_0, .int .i64 a0_1, (.slice A0_2 l0_2.length c0_2), (.slice A0_3 l0_3.length c0_3), .int .i64 a0_4, .int .i64 a0_5] 31 (0, 0))) ∧ zc (Below w.heap.size w w'))
    case atStart => exact ⟨(([] : List ByteArray)), (0), (by first | rfl | (simp; done) | (simp [*]; done)), H', ⟨Nat.le_refl _⟩, ⟨by first | exact Kd.R_nil _ _ _ _ _ | exact Kd.N_nil _ _ _ _ _ | exact Kd.V_nil _ _ _ _ _ | exact Kd.Q_nil _ _ _ _ _ | exact Kd.S_nil _ _ _ _ _⟩, ⟨by (with_reducible repeat (first | refine zg ?_ _ | refine zi ?_ | refine zh ?_ _)); exact BK181.out⟩, ⟨by repeat (first | (with_reducible first | exact HB.out | apply zf | apply zd | apply ze | refine zj ?_ GE181.out) | exact HB.out)⟩⟩
    case round =>
      clear H'
      try clear p2
      try clear c3
      try clear c4
      try clear hcz6_0
      try clear hcz6_1
      try clear hcz6_2
      try clear hcz6_3
      try clear hcz6_4
      try clear hcz6_5
      try clear hfz6_0
      try clear hfz6_1
      try clear hfz6_2
      try clear hfz6_3
      try clear hfz6_4
      try clear hfz6_5
      obtain ⟨x7_1, x8_1, rfl, HA, HK1, HO_7, BK181, HB⟩ := hrel
      cases gk with
      | zero => exact absurd HA.out (by simp [zt.l0])
      | succ k1 =>
        have H := HA.out
        clear HA
        simp only [zt.l0] at H
        by_cases c8 : x8_1 < (l0_2.length : Int)
        · rw [if_pos c8] at H
          have c8b0 : decide (x8_1 < (l0_2.length : Int)) = true := decide_eq_true c8
          clear c8
          by_cases c9 : 0 ≤ x8_1
          · rw [if_pos c9] at H
            have c9b0 : decide (0 ≤ x8_1) = true := decide_eq_true c9
            clear c9
            replace H := Option.bind_eq_some_iff.mp H
            obtain ⟨⟨t184, t185⟩, A100, H⟩ := H
            replace H : (if x7_1.length < 8796093022208 then (zt.l0 k1 (x7_1 ++ [t184]) (wrap64 (x8_1 + 1)) a0_0 a0_1 l0_2 l0_3 a0_4 a0_5) else (none)) = some (r1, r2) := H
            have A10 := zc.mk A100
            clear A100
            by_cases c11 : x7_1.length < 8796093022208
            · rw [if_pos c11] at H
              have LMc11 := zc.mk c11
              clear c11
              obtain ⟨y186, hy186⟩ : ∃ y_ : List ByteArray, y_ = (x7_1 ++ [t184]) := ⟨_, rfl⟩
              replace H : (zt.l0 k1 y186 (wrap64 (x8_1 + 1)) a0_0 a0_1 l0_2 l0_3 a0_4 a0_5) = some (r1, r2) := by first | (rw [hy186]; with_reducible exact H) | (have H2_ := (Option.bind_some _ _).symm.trans H; rw [hy186]; with_reducible exact H2_) | (have H2_ := (Option.bind_some _ _).symm.trans H; with_reducible exact H2_) | with_reducible exact H | (rw [hy186]; exact H) | exact H
              have Ny186 := zc.mk hy186
              clear hy186
              have H' := zc.mk H
              clear H
              have hcz12_0 : wr.cell? ⟨gb181, 0, none⟩ = some (.int .i64 a0_0) := (zb BK181.out 0).trans rfl
              have hcz12_1 : wr.cell? ⟨gb181, 1, none⟩ = some (.int .i64 a0_1) := (zb BK181.out 1).trans rfl
              have hcz12_2 : wr.cell? ⟨gb181, 2, none⟩ = some (.slice A0_2 l0_2.length c0_2) := (zb BK181.out 2).trans rfl
              have hcz12_3 : wr.cell? ⟨gb181, 3, none⟩ = some (.slice A0_3 l0_3.length c0_3) := (zb BK181.out 3).trans rfl
              have hcz12_4 : wr.cell? ⟨gb181, 4, none⟩ = some (.int .i64 a0_4) := (zb BK181.out 4).trans rfl
              have hcz12_5 : wr.cell? ⟨gb181, 5, none⟩ = some (.int .i64 a0_5) := (zb BK181.out 5).trans rfl
              have hfz12_0 := za BK181.out 0
              have hfz12_1 := za BK181.out 1
              have hfz12_2 := za BK181.out 2
              have hfz12_3 := za BK181.out 3
              have hfz12_4 := za BK181.out 4
              have hfz12_5 := za BK181.out 5
              have p183 : 0 ≤ (x8_1 : Int) := of_decide_eq_true (by first | (with_reducible assumption) | assumption)
              have q183 : x8_1 < (l0_2.length : Int) := of_decide_eq_true (by first | (with_reducible assumption) | assumption)
              obtain ⟨ad183, A183_2, c183_2, e183, hx183_0, hx183_1, hx183_2, hl183_2, hi183_2⟩ := zb2 HR0_2.out x8_1 p183 q183
              cases e183
              replace hx183_0 := (HB.out.cell (World.block_lt_of_cell? w _ hx183_0)).trans hx183_0
              replace hx183_1 := (HB.out.cell (World.block_lt_of_cell? w _ hx183_1)).trans hx183_1
              replace hx183_2 := (HB.out.cell (World.block_lt_of_cell? w _ hx183_2)).trans hx183_2
              have HR183_2 := zc.mk hi183_2
              have HC183_2 := zc.mk hl183_2
              clear hi183_2 hl183_2
              replace p183 := eq_true p183
              replace q183 := eq_true q183
              go_wp2_with (first | ((with_reducible refine zq (f := 46) rfl ?_); refine zQ (some 30) rfl rfl Try.func46 (by kernel_rfl) rfl #[.agg #[.int .i64 ((z4 l0_2 x8_1).f0), .int .i64 ((z4 l0_2 x8_1).f1), .slice A183_2 ((z4 l0_2 x8_1).f2).length c183_2]] rfl (by (try simp only [List.map_toArray, List.map_cons, List.map_nil]); first | done | rfl | (simp only [List.length_drop, List.length_take]; rfl)) ?_; (with_reducible refine (zZ.calls k1 ((z4 l0_2 x8_1).f0) ((z4 l0_2 x8_1).f1) _ _ ((z4 l0_2 x8_1).f2) t184 t185 _ ?side1 ?side2 A10.out).mono ?_); (case side1 => repeat (first | exact (Kd.C_below HR183_2.out HB.out) | (with_reducible refine Kd.C_alloc ?_ _) | (with_reducible refine Kd.C_drewN ?_ _) | (with_reducible refine Kd.C_drew ?_))); (case side2 => exact HC183_2.out); rintro e w13 ⟨rfl, hb⟩; refine ⟨_, rfl, ?_⟩; have n0_ := zc.mk (Kd.R_below (by (with_reducible repeat (first | apply Kd.R_alloc | apply Kd.R_drewN | apply Kd.R_drew)); exact HO_7.out) hb); have n1_ := zc.mk (zl (g := gb181) (o := .cells #[.int .i64 a0_0, .int .i64 a0_1, .slice (some ad183) l0_2.length c0_2, .slice A0_3 l0_3.length c0_3, .int .i64 a0_4, .int .i64 a0_5] 31 (0, 0)) (by (with_reducible repeat (first | refine zg ?_ _ | refine zi ?_ | refine zh ?_ _)); exact BK181.out) hb); have n2_ := zc.mk (zk (by repeat (first | (with_reducible first | exact HB.out | apply zf | apply zd | apply ze | refine zj ?_ GE181.out) | exact HB.out)) hb); clear HO_7; clear BK181; clear HB; have HO_7 := n0_; have BK181 := n1_; have HB := n2_; clear n0_ n1_ n2_; (try clear hb); (try clear hb2); (try clear hk); (try clear hi)) | ((with_reducible refine zdB (b := .append) (xs := #[.tmp 33, .tmp 35]) rfl ?_); at_builtin; refine Kd.R_append Kd.string (w0 := w) w.heap.size rfl (.tmp 33) (.tmp 35) 27 9 (.string ⟨#[]⟩) 16 rfl Try.underlying27 info9 rfl (by decide) (by omega) u7 x7_1 t184 [.string t184] (fun _ => True) (fun _ => False) rfl rfl ?aP (fun _ hk => hk.elim) ?aF ?aO ?aB ?aS ?aL ?_; (case aP => exact rfl); (case aB => exact (by repeat (first | (with_reducible first | exact HB.out | apply zf | apply zd | apply ze | refine zj ?_ GE181.out) | exact HB.out))); (case aF => exact (fun _ _ => trivial)); (case aO => exact (by (with_reducible repeat (first | apply Kd.R_alloc | apply Kd.R_drewN | apply Kd.R_drew)); exact HO_7.out)); (case aS => exact (zn (by repeat (first | (with_reducible first | exact HB.out | apply zf | apply zd | apply ze | refine zj ?_ GE181.out) | exact HB.out)))); (case aL => have := LMc11.out; omega); intro v187 w14 ho hb hg hat; rw [← Ny186.out] at ho; have n0_ := zc.mk (zgV (g := gb181) (o := .cells #[.int .i64 a0_0, .int .i64 a0_1, .slice (some ad183) l0_2.length c0_2, .slice A0_3 l0_3.length c0_3, .int .i64 a0_4, .int .i64 a0_5] 31 (0, 0)) (by (with_reducible repeat (first | refine zg ?_ _ | refine zi ?_ | refine zh ?_ _)); exact BK181.out) hg (Kd.R_ne HO_7.out BK181.out (by decide))); have n1_ := zc.mk (hb); have n2_ := zc.mk (ho); clear BK181; clear HB; clear HO_7; have BK181 := n0_; have HB := n1_; have HO188 := n2_; clear n0_ n1_ n2_; clear ho hb hg hat))
              go_roundg k1
              case measure => have := HK1.out; omega
              case rel => exact ⟨(y186), (wrap64 (x8_1 + 1)), (by first | rfl | (simp; done) | (simp [*]; done)), H', ⟨by have := HK1.out; omega⟩, ⟨by (with_reducible repeat (first | apply Kd.R_alloc | apply Kd.R_drewN | apply Kd.R_drew)); exact HO188.out⟩, ⟨by (with_reducible repeat (first | refine zg ?_ _ | refine zi ?_ | refine zh ?_ _)); exact BK181.out⟩, ⟨by repeat (first | (with_reducible first | exact HB.out | apply zf | apply zd | apply ze | refine zj ?_ GE181.out) | exact HB.out)⟩⟩
            · rw [if_neg c11] at H
              exact absurd H (by simp)
          · rw [if_neg c9] at H
            exact absurd H (by simp)
        · rw [if_neg c8] at H
          have c8b0 : decide (x8_1 < (l0_2.length : Int)) = false := decide_eq_false c8
          clear c8
          replace H := Option.bind_eq_some_iff.mp H
          obtain ⟨t189, A150, H⟩ := H
          replace H : ((zr.f k1 (IntKind.u64.wrap (a0_1))).bind fun t190 => (if t189.size + t190.size ≤ 9223372036854775807 then ((zK.f x7_1).bind fun t191 => (if (t189 ++ t190).size + t191.size ≤ 9223372036854775807 then ((zK.f l0_3).bind fun t192 => (if ((t189 ++ t190) ++ t191).size + t192.size ≤ 9223372036854775807 then ((zr.f k1 (IntKind.u64.wrap (a0_4))).bind fun t193 => (if (((t189 ++ t190) ++ t191) ++ t192).size + t193.size ≤ 9223372036854775807 then ((zr.f k1 (IntKind.u64.wrap (a0_5))).bind fun t194 => (if ((((t189 ++ t190) ++ t191) ++ t192) ++ t193).size + t194.size ≤ 9223372036854775807 then (some (((((t189 ++ t190) ++ t191) ++ t192) ++ t193) ++ t194, 0)) else (none))) else (none))) else (none))) else (none))) else (none))) = some (r1, r2) := H
          have A15 := zc.mk A150
          clear A150
          replace H := Option.bind_eq_some_iff.mp H
          obtain ⟨t190, A160, H⟩ := H
          replace H : (if t189.size + t190.size ≤ 9223372036854775807 then ((zK.f x7_1).bind fun t191 => (if (t189 ++ t190).size + t191.size ≤ 9223372036854775807 then ((zK.f l0_3).bind fun t192 => (if ((t189 ++ t190) ++ t191).size + t192.size ≤ 9223372036854775807 then ((zr.f k1 (IntKind.u64.wrap (a0_4))).bind fun t193 => (if (((t189 ++ t190) ++ t191) ++ t192).size + t193.size ≤ 9223372036854775807 then ((zr.f k1 (IntKind.u64.wrap (a0_5))).bind fun t194 => (if ((((t189 ++ t190) ++ t191) ++ t192) ++ t193).size + t194.size ≤ 9223372036854775807 then (some (((((t189 ++ t190) ++ t191) ++ t192) ++ t193) ++ t194, 0)) else (none))) else (none))) else (none))) else (none))) else (none)) = some (r1, r2) := H
          have A16 := zc.mk A160
          clear A160
          by_cases c17 : t189.size + t190.size ≤ 9223372036854775807
          · rw [if_pos c17] at H
            have c17b0 := eq_true c17
            have c17b1 : decide (t189.size + t190.size ≤ 9223372036854775807) = true := decide_eq_true c17
            try have c17b2 : (9223372036854775807 < t189.size + t190.size) = False := eq_false (Nat.not_lt.2 c17)
            replace H := Option.bind_eq_some_iff.mp H
            obtain ⟨t191, A180, H⟩ := H
            replace H : (if (t189 ++ t190).size + t191.size ≤ 9223372036854775807 then ((zK.f l0_3).bind fun t192 => (if ((t189 ++ t190) ++ t191).size + t192.size ≤ 9223372036854775807 then ((zr.f k1 (IntKind.u64.wrap (a0_4))).bind fun t193 => (if (((t189 ++ t190) ++ t191) ++ t192).size + t193.size ≤ 9223372036854775807 then ((zr.f k1 (IntKind.u64.wrap (a0_5))).bind fun t194 => (if ((((t189 ++ t190) ++ t191) ++ t192) ++ t193).size + t194.size ≤ 9223372036854775807 then (some (((((t189 ++ t190) ++ t191) ++ t192) ++ t193) ++ t194, 0)) else (none))) else (none))) else (none))) else (none)) = some (r1, r2) := H
            have A18 := zc.mk A180
            clear A180
            by_cases c19 : (t189 ++ t190).size + t191.size ≤ 9223372036854775807
            · rw [if_pos c19] at H
              have c19b0 := eq_true c19
              have c19b1 : decide ((t189 ++ t190).size + t191.size ≤ 9223372036854775807) = true := decide_eq_true c19
              try have c19b2 : (9223372036854775807 < (t189 ++ t190).size + t191.size) = False := eq_false (Nat.not_lt.2 c19)
              try (have c19b3 := c19; simp [ByteArray.size_append] at c19b3; have c19b4 := eq_false (Nat.not_lt.2 c19b3); clear c19b3)
              replace H := Option.bind_eq_some_iff.mp H
              obtain ⟨t192, A200, H⟩ := H
              replace H : (if ((t189 ++ t190) ++ t191).size + t192.size ≤ 9223372036854775807 then ((zr.f k1 (IntKind.u64.wrap (a0_4))).bind fun t193 => (if (((t189 ++ t190) ++ t191) ++ t192).size + t193.size ≤ 9223372036854775807 then ((zr.f k1 (IntKind.u64.wrap (a0_5))).bind fun t194 => (if ((((t189 ++ t190) ++ t191) ++ t192) ++ t193).size + t194.size ≤ 9223372036854775807 then (some (((((t189 ++ t190) ++ t191) ++ t192) ++ t193) ++ t194, 0)) else (none))) else (none))) else (none)) = some (r1, r2) := H
              have A20 := zc.mk A200
              clear A200
              by_cases c21 : ((t189 ++ t190) ++ t191).size + t192.size ≤ 9223372036854775807
              · rw [if_pos c21] at H
                have c21b0 := eq_true c21
                have c21b1 : decide (((t189 ++ t190) ++ t191).size + t192.size ≤ 9223372036854775807) = true := decide_eq_true c21
                try have c21b2 : (9223372036854775807 < ((t189 ++ t190) ++ t191).size + t192.size) = False := eq_false (Nat.not_lt.2 c21)
                try (have c21b3 := c21; simp [ByteArray.size_append] at c21b3; have c21b4 := eq_false (Nat.not_lt.2 c21b3); clear c21b3)
                replace H := Option.bind_eq_some_iff.mp H
                obtain ⟨t193, A220, H⟩ := H
                replace H : (if (((t189 ++ t190) ++ t191) ++ t192).size + t193.size ≤ 9223372036854775807 then ((zr.f k1 (IntKind.u64.wrap (a0_5))).bind fun t194 => (if ((((t189 ++ t190) ++ t191) ++ t192) ++ t193).size + t194.size ≤ 9223372036854775807 then (some (((((t189 ++ t190) ++ t191) ++ t192) ++ t193) ++ t194, 0)) else (none))) else (none)) = some (r1, r2) := H
                have A22 := zc.mk A220
                clear A220
                by_cases c23 : (((t189 ++ t190) ++ t191) ++ t192).size + t193.size ≤ 9223372036854775807
                · rw [if_pos c23] at H
                  have c23b0 := eq_true c23
                  have c23b1 : decide ((((t189 ++ t190) ++ t191) ++ t192).size + t193.size ≤ 9223372036854775807) = true := decide_eq_true c23
                  try have c23b2 : (9223372036854775807 < (((t189 ++ t190) ++ t191) ++ t192).size + t193.size) = False := eq_false (Nat.not_lt.2 c23)
                  try (have c23b3 := c23; simp [ByteArray.size_append] at c23b3; have c23b4 := eq_false (Nat.not_lt.2 c23b3); clear c23b3)
                  replace H := Option.bind_eq_some_iff.mp H
                  obtain ⟨t194, A240, H⟩ := H
                  replace H : (if ((((t189 ++ t190) ++ t191) ++ t192) ++ t193).size + t194.size ≤ 9223372036854775807 then (some (((((t189 ++ t190) ++ t191) ++ t192) ++ t193) ++ t194, 0)) else (none)) = some (r1, r2) := H
                  have A24 := zc.mk A240
                  clear A240
                  by_cases c25 : ((((t189 ++ t190) ++ t191) ++ t192) ++ t193).size + t194.size ≤ 9223372036854775807
                  · rw [if_pos c25] at H
                    have c25b0 := eq_true c25
                    have c25b1 : decide (((((t189 ++ t190) ++ t191) ++ t192) ++ t193).size + t194.size ≤ 9223372036854775807) = true := decide_eq_true c25
                    try have c25b2 : (9223372036854775807 < ((((t189 ++ t190) ++ t191) ++ t192) ++ t193).size + t194.size) = False := eq_false (Nat.not_lt.2 c25)
                    try (have c25b3 := c25; simp [ByteArray.size_append] at c25b3; have c25b4 := eq_false (Nat.not_lt.2 c25b3); clear c25b3)
                    simp only [Option.some.injEq, Prod.mk.injEq] at H
                    obtain ⟨rfl, rfl⟩ := H
                    have hcz26_0 : wr.cell? ⟨gb181, 0, none⟩ = some (.int .i64 a0_0) := (zb BK181.out 0).trans rfl
                    have hcz26_1 : wr.cell? ⟨gb181, 1, none⟩ = some (.int .i64 a0_1) := (zb BK181.out 1).trans rfl
                    have hcz26_2 : wr.cell? ⟨gb181, 2, none⟩ = some (.slice A0_2 l0_2.length c0_2) := (zb BK181.out 2).trans rfl
                    have hcz26_3 : wr.cell? ⟨gb181, 3, none⟩ = some (.slice A0_3 l0_3.length c0_3) := (zb BK181.out 3).trans rfl
                    have hcz26_4 : wr.cell? ⟨gb181, 4, none⟩ = some (.int .i64 a0_4) := (zb BK181.out 4).trans rfl
                    have hcz26_5 : wr.cell? ⟨gb181, 5, none⟩ = some (.int .i64 a0_5) := (zb BK181.out 5).trans rfl
                    have hfz26_0 := za BK181.out 0
                    have hfz26_1 := za BK181.out 1
                    have hfz26_2 := za BK181.out 2
                    have hfz26_3 := za BK181.out 3
                    have hfz26_4 := za BK181.out 4
                    have hfz26_5 := za BK181.out 5
                    try go_wp2
                    have n0_ := zc.mk (Kd.R_drew HO_7.out)
                    have n1_ := zc.mk (zi BK181.out)
                    have n2_ := zc.mk (ze HB.out)
                    clear HO_7
                    clear BK181
                    clear HB
                    have HO_7 := n0_
                    have BK181 := n1_
                    have HB := n2_
                    clear n0_ n1_ n2_
                    refine zdw (n := 17) (S := fun w' => w'.cell? ⟨gb181, 0, none⟩ = some (.int .i64 a0_0) ∧ w'.cell? ⟨gb181, 1, none⟩ = some (.int .i64 a0_1) ∧ w'.cell? ⟨gb181, 2, none⟩ = some (.slice A0_2 l0_2.length c0_2) ∧ w'.cell? ⟨gb181, 3, none⟩ = some (.slice A0_3 l0_3.length c0_3) ∧ w'.cell? ⟨gb181, 4, none⟩ = some (.int .i64 a0_4) ∧ w'.cell? ⟨gb181, 5, none⟩ = some (.int .i64 a0_5)) (ds := []) #[false, false, false, false, false, false, false, false, false, false, false, false, false, false, false, false, false] (by kernel_rfl) rfl rfl ⟨(zb BK181.out 0).trans rfl, (zb BK181.out 1).trans rfl, (zb BK181.out 2).trans rfl, (zb BK181.out 3).trans rfl, (zb BK181.out 4).trans rfl, (zb BK181.out 5).trans rfl⟩ (fun hHeld => ?_); refine zcz zt.tab10 zt.bits10 (fun HT_ HW_ => ?_)
                    generalize wr.drew = w27 at HO_7 BK181 HB hHeld ⊢
                    refine zak (i := 0) (N := some 37) (v := ?_) (a' := ?_) #[true, false, false, false, false, false, false, false, false, false, false, false, false, false, false, false, false] rfl rfl (zaa HT_.out (by kernel_rfl)) (fun _ _ _ h => h) (Or.inl ⟨by rfl, ?_⟩) ?_ ?_
                    rotate_left
                    · intro w'
                      go_simp
                      with_reducible rfl
                    rotate_left
                    · simp only [Act.put, List.setIfInBounds_toArray, List.set_cons_zero, List.set_cons_succ, zR, zT]
                      rfl
                    refine zak (i := 4) (N := some 41) (v := ?_) (a' := ?_) #[true, false, false, false, true, false, false, false, false, false, false, false, false, false, false, false, false] rfl rfl (zaa HT_.out (by kernel_rfl)) (fun _ _ _ h => h) (Or.inl ⟨by rfl, ?_⟩) ?_ ?_
                    rotate_left
                    · intro w'
                      go_simp
                      with_reducible rfl
                    rotate_left
                    · simp only [Act.put, List.setIfInBounds_toArray, List.set_cons_zero, List.set_cons_succ, zR, zT]
                      rfl
                    refine zak (i := 9) (N := some 46) (v := ?_) (a' := ?_) #[true, false, false, false, true, false, false, false, false, true, false, false, false, false, false, false, false] rfl rfl (zaa HT_.out (by kernel_rfl)) (fun _ _ _ h => h) (Or.inl ⟨by rfl, ?_⟩) ?_ ?_
                    rotate_left
                    · intro w'
                      go_simp
                      with_reducible rfl
                    rotate_left
                    · simp only [Act.put, List.setIfInBounds_toArray, List.set_cons_zero, List.set_cons_succ, zR, zT]
                      rfl
                    refine zak (i := 12) (N := some 49) (v := ?_) (a' := ?_) #[true, false, false, false, true, false, false, false, false, true, false, false, true, false, false, false, false] rfl rfl (zaa HT_.out (by kernel_rfl)) (fun _ _ _ h => h) (Or.inl ⟨by rfl, ?_⟩) ?_ ?_
                    rotate_left
                    · intro w'
                      go_simp
                      with_reducible rfl
                    rotate_left
                    · simp only [Act.put, List.setIfInBounds_toArray, List.set_cons_zero, List.set_cons_succ, zR, zT]
                      rfl
                    refine take_ (i := 1) (N := some 38) (v := ?_) (a' := ?_) #[true, true, false, false, true, false, false, false, false, true, false, false, true, false, false, false, false] rfl rfl (zaY HT_.out HW_.out (by kernel_rfl)) (fun _ _ _ h => h) (Or.inl ⟨by rfl, ?_⟩) hHeld ?_ ?_
                    rotate_left
                    · rintro w' ⟨s0, s1, s2, s3, s4, s5⟩
                      go_simp
                      with_reducible rfl
                    rotate_left
                    · simp only [Act.put, List.setIfInBounds_toArray, List.set_cons_zero, List.set_cons_succ, zR, zT]
                      rfl
                    refine zak (i := 2) (N := some 39) (v := ?_) (a' := ?_) #[true, true, true, false, true, false, false, false, false, true, false, false, true, false, false, false, false] rfl rfl (zaa HT_.out (by kernel_rfl)) (fun _ _ _ h => h) (Or.inl ⟨by rfl, ?_⟩) ?_ ?_
                    rotate_left
                    · intro w'
                      go_simp
                      with_reducible rfl
                    rotate_left
                    · simp only [Act.put, List.setIfInBounds_toArray, List.set_cons_zero, List.set_cons_succ, zR, zT]
                      rfl
                    refine take_ (i := 5) (N := some 42) (v := ?_) (a' := ?_) #[true, true, true, false, true, true, false, false, false, true, false, false, true, false, false, false, false] rfl rfl (zaY HT_.out HW_.out (by kernel_rfl)) (fun _ _ _ h => h) (Or.inl ⟨by rfl, ?_⟩) hHeld ?_ ?_
                    rotate_left
                    · rintro w' ⟨s0, s1, s2, s3, s4, s5⟩
                      go_simp
                      with_reducible rfl
                    rotate_left
                    · simp only [Act.put, List.setIfInBounds_toArray, List.set_cons_zero, List.set_cons_succ, zR, zT]
                      rfl
                    refine zak (i := 6) (N := some 43) (v := ?_) (a' := ?_) #[true, true, true, false, true, true, true, false, false, true, false, false, true, false, false, false, false] rfl rfl (zaa HT_.out (by kernel_rfl)) (fun _ _ _ h => h) (Or.inl ⟨by rfl, ?_⟩) ?_ ?_
                    rotate_left
                    · intro w'
                      go_simp
                      with_reducible rfl
                    rotate_left
                    · simp only [Act.put, List.setIfInBounds_toArray, List.set_cons_zero, List.set_cons_succ, zR, zT]
                      rfl
                    refine take_ (i := 13) (N := some 50) (v := ?_) (a' := ?_) #[true, true, true, false, true, true, true, false, false, true, false, false, true, true, false, false, false] rfl rfl (zaY HT_.out HW_.out (by kernel_rfl)) (fun _ _ _ h => h) (Or.inl ⟨by rfl, ?_⟩) hHeld ?_ ?_
                    rotate_left
                    · rintro w' ⟨s0, s1, s2, s3, s4, s5⟩
                      go_simp
                      with_reducible rfl
                    rotate_left
                    · simp only [Act.put, List.setIfInBounds_toArray, List.set_cons_zero, List.set_cons_succ, zR, zT]
                      rfl
                    refine zcO (i := 3) (N := some 40) #[true, true, true, true, true, true, true, false, false, true, false, false, true, true, false, false, false] rfl rfl (zbG HT_.out (by kernel_rfl)) (by decide) (fun K hK => ?_)
                    refine zbM Try.func47 (by kernel_rfl) rfl #[.int .u64 (IntKind.u64.wrap (a0_0))] (by rfl) rfl rfl (by (try simp only [List.map_toArray, List.map_cons, List.map_nil]); first | done | rfl | (simp only [List.length_drop, List.length_take]; rfl)) ?_
                    with_reducible refine (zr.calls k1 (IntKind.u64.wrap (a0_0)) t189 _ A15.out).mono ?_
                    rintro e w28 ⟨rfl, hb⟩
                    refine ⟨_, rfl, ?_⟩
                    have n0_ := zc.mk (Kd.R_below (by (with_reducible repeat (first | apply Kd.R_alloc | apply Kd.R_drewN | apply Kd.R_drew)); exact HO_7.out) hb)
                    have n1_ := zc.mk (zl (g := gb181) (o := .cells #[.int .i64 a0_0, .int .i64 a0_1, .slice A0_2 l0_2.length c0_2, .slice A0_3 l0_3.length c0_3, .int .i64 a0_4, .int .i64 a0_5] 31 (0, 0)) (by (with_reducible repeat (first | refine zg ?_ _ | refine zi ?_ | refine zh ?_ _)); exact BK181.out) hb)
                    have n2_ := zc.mk (zk (by repeat (first | (with_reducible first | exact HB.out | apply zf | apply zd | apply ze | refine zj ?_ GE181.out) | exact HB.out)) hb)
                    clear HO_7
                    clear BK181
                    clear HB
                    have HO_7 := n0_
                    have BK181 := n1_
                    have HB := n2_
                    clear n0_ n1_ n2_
                    (try clear hb)
                    (try clear hb2)
                    (try clear hk)
                    (try clear hi)
                    refine hK.out _ _ ⟨(zb BK181.out 0).trans rfl, (zb BK181.out 1).trans rfl, (zb BK181.out 2).trans rfl, (zb BK181.out 3).trans rfl, (zb BK181.out 4).trans rfl, (zb BK181.out 5).trans rfl⟩ (fun hHeld => ?_)
                    clear hK K
                    refine zbN (a' := ?_) ?_ ?_
                    rotate_left
                    · show Act.put _ (some 40) _ = _
                      simp only [Act.put, List.setIfInBounds_toArray, List.set_cons_zero, List.set_cons_succ, zR, zT]
                      rfl
                    refine zcO (i := 7) (N := some 44) #[true, true, true, true, true, true, true, true, false, true, false, false, true, true, false, false, false] rfl rfl (zbG HT_.out (by kernel_rfl)) (by decide) (fun K hK => ?_)
                    refine zbM Try.func47 (by kernel_rfl) rfl #[.int .u64 (IntKind.u64.wrap (a0_1))] (by rfl) rfl rfl (by (try simp only [List.map_toArray, List.map_cons, List.map_nil]); first | done | rfl | (simp only [List.length_drop, List.length_take]; rfl)) ?_
                    with_reducible refine (zr.calls k1 (IntKind.u64.wrap (a0_1)) t190 _ A16.out).mono ?_
                    rintro e w29 ⟨rfl, hb⟩
                    refine ⟨_, rfl, ?_⟩
                    have n0_ := zc.mk (Kd.R_below (by (with_reducible repeat (first | apply Kd.R_alloc | apply Kd.R_drewN | apply Kd.R_drew)); exact HO_7.out) hb)
                    have n1_ := zc.mk (zl (g := gb181) (o := .cells #[.int .i64 a0_0, .int .i64 a0_1, .slice A0_2 l0_2.length c0_2, .slice A0_3 l0_3.length c0_3, .int .i64 a0_4, .int .i64 a0_5] 31 (0, 0)) (by (with_reducible repeat (first | refine zg ?_ _ | refine zi ?_ | refine zh ?_ _)); exact BK181.out) hb)
                    have n2_ := zc.mk (zk (by repeat (first | (with_reducible first | exact HB.out | apply zf | apply zd | apply ze | refine zj ?_ GE181.out) | exact HB.out)) hb)
                    clear HO_7
                    clear BK181
                    clear HB
                    have HO_7 := n0_
                    have BK181 := n1_
                    have HB := n2_
                    clear n0_ n1_ n2_
                    (try clear hb)
                    (try clear hb2)
                    (try clear hk)
                    (try clear hi)
                    obtain ⟨Ao30, co30, eo30⟩ := Kd.R_slice HO_7.out
                    (first | subst eo30 | (injection eo30 with f1_ f2_ f3_; have f4_ := f1_.symm; have f5_ := f3_.symm; clear f1_ f2_ f3_; subst f4_; subst f5_))
                    refine hK.out _ _ ⟨(zb BK181.out 0).trans rfl, (zb BK181.out 1).trans rfl, (zb BK181.out 2).trans rfl, (zb BK181.out 3).trans rfl, (zb BK181.out 4).trans rfl, (zb BK181.out 5).trans rfl⟩ (fun hHeld => ?_)
                    clear hK K
                    refine zbN (a' := ?_) ?_ ?_
                    rotate_left
                    · show Act.put _ (some 44) _ = _
                      simp only [Act.put, List.setIfInBounds_toArray, List.set_cons_zero, List.set_cons_succ, zR, zT]
                      rfl
                    refine zak (i := 8) (N := some 45) (v := ?_) (a' := ?_) #[true, true, true, true, true, true, true, true, true, true, false, false, true, true, false, false, false] rfl rfl (zaa HT_.out (by kernel_rfl)) (fun _ _ _ h => h) (Or.inl ⟨by rfl, ?_⟩) ?_ ?_
                    rotate_left
                    · intro w'
                      go_simp
                      with_reducible rfl
                    rotate_left
                    · simp only [Act.put, List.setIfInBounds_toArray, List.set_cons_zero, List.set_cons_succ, zR, zT]
                      rfl
                    refine zcO (i := 10) (N := some 47) #[true, true, true, true, true, true, true, true, true, true, true, false, true, true, false, false, false] rfl rfl (zbG HT_.out (by kernel_rfl)) (by decide) (fun K hK => ?_)
                    refine zbM Try.func48 (by kernel_rfl) rfl #[.slice Ao30 x7_1.length co30] (by rfl) rfl rfl (by (try simp only [List.map_toArray, List.map_cons, List.map_nil]); first | done | rfl | (simp only [List.length_drop, List.length_take]; rfl)) ?_
                    with_reducible refine (zK.calls _ _ x7_1 t191 _ ?side1 ?side2 A18.out).mono ?_
                    (case side1 => repeat (first | exact (Kd.R_reads' HO_7.out).2.2 | (with_reducible refine Kd.C_alloc ?_ _) | (with_reducible refine Kd.C_drewN ?_ _) | (with_reducible refine Kd.C_drew ?_)))
                    (case side2 => exact (Kd.R_reads' HO_7.out).2.1)
                    rintro e w31 ⟨rfl, hb⟩
                    refine ⟨_, rfl, ?_⟩
                    have n0_ := zc.mk (Kd.R_below (by (with_reducible repeat (first | apply Kd.R_alloc | apply Kd.R_drewN | apply Kd.R_drew)); exact HO_7.out) hb)
                    have n1_ := zc.mk (zl (g := gb181) (o := .cells #[.int .i64 a0_0, .int .i64 a0_1, .slice A0_2 l0_2.length c0_2, .slice A0_3 l0_3.length c0_3, .int .i64 a0_4, .int .i64 a0_5] 31 (0, 0)) (by (with_reducible repeat (first | refine zg ?_ _ | refine zi ?_ | refine zh ?_ _)); exact BK181.out) hb)
                    have n2_ := zc.mk (zk (by repeat (first | (with_reducible first | exact HB.out | apply zf | apply zd | apply ze | refine zj ?_ GE181.out) | exact HB.out)) hb)
                    clear HO_7
                    clear BK181
                    clear HB
                    have HO_7 := n0_
                    have BK181 := n1_
                    have HB := n2_
                    clear n0_ n1_ n2_
                    (try clear hb)
                    (try clear hb2)
                    (try clear hk)
                    (try clear hi)
                    refine hK.out _ _ ⟨(zb BK181.out 0).trans rfl, (zb BK181.out 1).trans rfl, (zb BK181.out 2).trans rfl, (zb BK181.out 3).trans rfl, (zb BK181.out 4).trans rfl, (zb BK181.out 5).trans rfl⟩ (fun hHeld => ?_)
                    clear hK K
                    refine zbN (a' := ?_) ?_ ?_
                    rotate_left
                    · show Act.put _ (some 47) _ = _
                      simp only [Act.put, List.setIfInBounds_toArray, List.set_cons_zero, List.set_cons_succ, zR, zT]
                      rfl
                    refine zak (i := 11) (N := some 48) (v := ?_) (a' := ?_) #[true, true, true, true, true, true, true, true, true, true, true, true, true, true, false, false, false] rfl rfl (zaa HT_.out (by kernel_rfl)) (fun _ _ _ h => h) (Or.inl ⟨by rfl, ?_⟩) ?_ ?_
                    rotate_left
                    · intro w'
                      go_simp
                      with_reducible rfl
                    rotate_left
                    · simp only [Act.put, List.setIfInBounds_toArray, List.set_cons_zero, List.set_cons_succ, zR, zT]
                      rfl
                    refine zcO (i := 14) (N := some 51) #[true, true, true, true, true, true, true, true, true, true, true, true, true, true, true, false, false] rfl rfl (zbG HT_.out (by kernel_rfl)) (by decide) (fun K hK => ?_)
                    refine zbM Try.func48 (by kernel_rfl) rfl #[.slice A0_3 l0_3.length c0_3] (by rfl) rfl rfl (by (try simp only [List.map_toArray, List.map_cons, List.map_nil]); first | done | rfl | (simp only [List.length_drop, List.length_take]; rfl)) ?_
                    with_reducible refine (zK.calls _ _ l0_3 t192 _ ?side1 ?side2 A20.out).mono ?_
                    (case side1 => repeat (first | exact (Kd.C_below HR0_3.out HB.out) | (with_reducible refine Kd.C_alloc ?_ _) | (with_reducible refine Kd.C_drewN ?_ _) | (with_reducible refine Kd.C_drew ?_)))
                    (case side2 => exact HC0_3.out)
                    rintro e w32 ⟨rfl, hb⟩
                    refine ⟨_, rfl, ?_⟩
                    have n0_ := zc.mk (Kd.R_below (by (with_reducible repeat (first | apply Kd.R_alloc | apply Kd.R_drewN | apply Kd.R_drew)); exact HO_7.out) hb)
                    have n1_ := zc.mk (zl (g := gb181) (o := .cells #[.int .i64 a0_0, .int .i64 a0_1, .slice A0_2 l0_2.length c0_2, .slice A0_3 l0_3.length c0_3, .int .i64 a0_4, .int .i64 a0_5] 31 (0, 0)) (by (with_reducible repeat (first | refine zg ?_ _ | refine zi ?_ | refine zh ?_ _)); exact BK181.out) hb)
                    have n2_ := zc.mk (zk (by repeat (first | (with_reducible first | exact HB.out | apply zf | apply zd | apply ze | refine zj ?_ GE181.out) | exact HB.out)) hb)
                    clear HO_7
                    clear BK181
                    clear HB
                    have HO_7 := n0_
                    have BK181 := n1_
                    have HB := n2_
                    clear n0_ n1_ n2_
                    (try clear hb)
                    (try clear hb2)
                    (try clear hk)
                    (try clear hi)
                    refine hK.out _ _ ⟨(zb BK181.out 0).trans rfl, (zb BK181.out 1).trans rfl, (zb BK181.out 2).trans rfl, (zb BK181.out 3).trans rfl, (zb BK181.out 4).trans rfl, (zb BK181.out 5).trans rfl⟩ (fun hHeld => ?_)
                    clear hK K
                    refine zbN (a' := ?_) ?_ ?_
                    rotate_left
                    · show Act.put _ (some 51) _ = _
                      simp only [Act.put, List.setIfInBounds_toArray, List.set_cons_zero, List.set_cons_succ, zR, zT]
                      rfl
                    refine zak (i := 15) (N := some 52) (v := ?_) (a' := ?_) #[true, true, true, true, true, true, true, true, true, true, true, true, true, true, true, true, false] rfl rfl (zaa HT_.out (by kernel_rfl)) (fun _ _ _ h => h) (Or.inl ⟨by rfl, ?_⟩) ?_ ?_
                    rotate_left
                    · intro w'
                      go_simp
                      with_reducible rfl
                    rotate_left
                    · simp only [Act.put, List.setIfInBounds_toArray, List.set_cons_zero, List.set_cons_succ, zR, zT]
                      rfl
                    refine zak (i := 16) (N := some 11) (v := ?_) (a' := ?_) #[true, true, true, true, true, true, true, true, true, true, true, true, true, true, true, true, true] rfl rfl (zaa HT_.out (by kernel_rfl)) (fun _ _ _ h => h) (Or.inl ⟨by rfl, ?_⟩) ?_ ?_
                    rotate_left
                    · intro w'
                      go_simp
                      with_reducible rfl
                    rotate_left
                    · simp only [Act.put, List.setIfInBounds_toArray, List.set_cons_zero, List.set_cons_succ, zR, zT]
                      rfl
                    refine zey (zdz HT_.out (by kernel_rfl)) ?_
                    try go_wp2
                    have n0_ := zc.mk (Kd.R_drew HO_7.out)
                    have n1_ := zc.mk (zi BK181.out)
                    have n2_ := zc.mk (ze HB.out)
                    clear HO_7
                    clear BK181
                    clear HB
                    have HO_7 := n0_
                    have BK181 := n1_
                    have HB := n2_
                    clear n0_ n1_ n2_
                    refine zdw (n := 15) (S := fun w' => w'.cell? ⟨gb181, 0, none⟩ = some (.int .i64 a0_0) ∧ w'.cell? ⟨gb181, 1, none⟩ = some (.int .i64 a0_1) ∧ w'.cell? ⟨gb181, 2, none⟩ = some (.slice A0_2 l0_2.length c0_2) ∧ w'.cell? ⟨gb181, 3, none⟩ = some (.slice A0_3 l0_3.length c0_3) ∧ w'.cell? ⟨gb181, 4, none⟩ = some (.int .i64 a0_4) ∧ w'.cell? ⟨gb181, 5, none⟩ = some (.int .i64 a0_5)) (ds := []) #[false, false, false, false, false, false, false, false, false, false, false, false, false, false, false] (by kernel_rfl) rfl rfl ⟨(zb BK181.out 0).trans rfl, (zb BK181.out 1).trans rfl, (zb BK181.out 2).trans rfl, (zb BK181.out 3).trans rfl, (zb BK181.out 4).trans rfl, (zb BK181.out 5).trans rfl⟩ (fun hHeld => ?_); refine zcz zt.tab11 zt.bits11 (fun HT_ HW_ => ?_)
                    generalize w32.drew = w33 at HO_7 BK181 HB hHeld ⊢
                    refine zak (i := 0) (N := some 53) (v := ?_) (a' := ?_) #[true, false, false, false, false, false, false, false, false, false, false, false, false, false, false] rfl rfl (zaa HT_.out (by kernel_rfl)) (fun _ _ _ h => h) (Or.inl ⟨by rfl, ?_⟩) ?_ ?_
                    rotate_left
                    · intro w'
                      go_simp
                      with_reducible rfl
                    rotate_left
                    · simp only [Act.put, List.setIfInBounds_toArray, List.set_cons_zero, List.set_cons_succ, zR, zT]
                      rfl
                    refine zak (i := 1) (N := some 54) (v := ?_) (a' := ?_) #[true, true, false, false, false, false, false, false, false, false, false, false, false, false, false] rfl rfl (zaa HT_.out (by kernel_rfl)) (fun _ _ _ h => h) (Or.inl ⟨by rfl, ?_⟩) ?_ ?_
                    rotate_left
                    · intro w'
                      go_simp
                      with_reducible rfl
                    rotate_left
                    · simp only [Act.put, List.setIfInBounds_toArray, List.set_cons_zero, List.set_cons_succ, zR, zT]
                      rfl
                    refine zak (i := 2) (N := some 55) (v := ?_) (a' := ?_) #[true, true, true, false, false, false, false, false, false, false, false, false, false, false, false] rfl rfl (zaa HT_.out (by kernel_rfl)) (fun _ _ _ h => h) (Or.inl ⟨by rfl, ?_⟩) ?_ ?_
                    rotate_left
                    · intro w'
                      go_simp
                      with_reducible rfl
                    rotate_left
                    · simp only [Act.put, List.setIfInBounds_toArray, List.set_cons_zero, List.set_cons_succ, zR, zT]
                      rfl
                    refine zak (i := 7) (N := some 60) (v := ?_) (a' := ?_) #[true, true, true, false, false, false, false, true, false, false, false, false, false, false, false] rfl rfl (zaa HT_.out (by kernel_rfl)) (fun _ _ _ h => h) (Or.inl ⟨by rfl, ?_⟩) ?_ ?_
                    rotate_left
                    · intro w'
                      go_simp
                      with_reducible rfl
                    rotate_left
                    · simp only [Act.put, List.setIfInBounds_toArray, List.set_cons_zero, List.set_cons_succ, zR, zT]
                      rfl
                    refine zak (i := 8) (N := some 61) (v := ?_) (a' := ?_) #[true, true, true, false, false, false, false, true, true, false, false, false, false, false, false] rfl rfl (zaa HT_.out (by kernel_rfl)) (fun _ _ _ h => h) (Or.inl ⟨by rfl, ?_⟩) ?_ ?_
                    rotate_left
                    · intro w'
                      go_simp
                      with_reducible rfl
                    rotate_left
                    · simp only [Act.put, List.setIfInBounds_toArray, List.set_cons_zero, List.set_cons_succ, zR, zT]
                      rfl
                    refine take_ (i := 3) (N := some 56) (v := ?_) (a' := ?_) #[true, true, true, true, false, false, false, true, true, false, false, false, false, false, false] rfl rfl (zaY HT_.out HW_.out (by kernel_rfl)) (fun _ _ _ h => h) (Or.inl ⟨by rfl, ?_⟩) hHeld ?_ ?_
                    rotate_left
                    · rintro w' ⟨s0, s1, s2, s3, s4, s5⟩
                      go_simp
                      with_reducible rfl
                    rotate_left
                    · simp only [Act.put, List.setIfInBounds_toArray, List.set_cons_zero, List.set_cons_succ, zR, zT]
                      rfl
                    refine zak (i := 4) (N := some 57) (v := ?_) (a' := ?_) #[true, true, true, true, true, false, false, true, true, false, false, false, false, false, false] rfl rfl (zaa HT_.out (by kernel_rfl)) (fun _ _ _ h => h) (Or.inl ⟨by rfl, ?_⟩) ?_ ?_
                    rotate_left
                    · intro w'
                      go_simp
                      with_reducible rfl
                    rotate_left
                    · simp only [Act.put, List.setIfInBounds_toArray, List.set_cons_zero, List.set_cons_succ, zR, zT]
                      rfl
                    refine take_ (i := 9) (N := some 62) (v := ?_) (a' := ?_) #[true, true, true, true, true, false, false, true, true, true, false, false, false, false, false] rfl rfl (zaY HT_.out HW_.out (by kernel_rfl)) (fun _ _ _ h => h) (Or.inl ⟨by rfl, ?_⟩) hHeld ?_ ?_
                    rotate_left
                    · rintro w' ⟨s0, s1, s2, s3, s4, s5⟩
                      go_simp
                      with_reducible rfl
                    rotate_left
                    · simp only [Act.put, List.setIfInBounds_toArray, List.set_cons_zero, List.set_cons_succ, zR, zT]
                      rfl
                    refine zak (i := 10) (N := some 63) (v := ?_) (a' := ?_) #[true, true, true, true, true, false, false, true, true, true, true, false, false, false, false] rfl rfl (zaa HT_.out (by kernel_rfl)) (fun _ _ _ h => h) (Or.inl ⟨by rfl, ?_⟩) ?_ ?_
                    rotate_left
                    · intro w'
                      go_simp
                      with_reducible rfl
                    rotate_left
                    · simp only [Act.put, List.setIfInBounds_toArray, List.set_cons_zero, List.set_cons_succ, zR, zT]
                      rfl
                    refine zcO (i := 5) (N := some 58) #[true, true, true, true, true, true, false, true, true, true, true, false, false, false, false] rfl rfl (zbG HT_.out (by kernel_rfl)) (by decide) (fun K hK => ?_)
                    refine zbM Try.func47 (by kernel_rfl) rfl #[.int .u64 (IntKind.u64.wrap (a0_4))] (by rfl) rfl rfl (by (try simp only [List.map_toArray, List.map_cons, List.map_nil]); first | done | rfl | (simp only [List.length_drop, List.length_take]; rfl)) ?_
                    with_reducible refine (zr.calls k1 (IntKind.u64.wrap (a0_4)) t193 _ A22.out).mono ?_
                    rintro e w34 ⟨rfl, hb⟩
                    refine ⟨_, rfl, ?_⟩
                    have n0_ := zc.mk (Kd.R_below (by (with_reducible repeat (first | apply Kd.R_alloc | apply Kd.R_drewN | apply Kd.R_drew)); exact HO_7.out) hb)
                    have n1_ := zc.mk (zl (g := gb181) (o := .cells #[.int .i64 a0_0, .int .i64 a0_1, .slice A0_2 l0_2.length c0_2, .slice A0_3 l0_3.length c0_3, .int .i64 a0_4, .int .i64 a0_5] 31 (0, 0)) (by (with_reducible repeat (first | refine zg ?_ _ | refine zi ?_ | refine zh ?_ _)); exact BK181.out) hb)
                    have n2_ := zc.mk (zk (by repeat (first | (with_reducible first | exact HB.out | apply zf | apply zd | apply ze | refine zj ?_ GE181.out) | exact HB.out)) hb)
                    clear HO_7
                    clear BK181
                    clear HB
                    have HO_7 := n0_
                    have BK181 := n1_
                    have HB := n2_
                    clear n0_ n1_ n2_
                    (try clear hb)
                    (try clear hb2)
                    (try clear hk)
                    (try clear hi)
                    refine hK.out _ _ ⟨(zb BK181.out 0).trans rfl, (zb BK181.out 1).trans rfl, (zb BK181.out 2).trans rfl, (zb BK181.out 3).trans rfl, (zb BK181.out 4).trans rfl, (zb BK181.out 5).trans rfl⟩ (fun hHeld => ?_)
                    clear hK K
                    refine zbN (a' := ?_) ?_ ?_
                    rotate_left
                    · show Act.put _ (some 58) _ = _
                      simp only [Act.put, List.setIfInBounds_toArray, List.set_cons_zero, List.set_cons_succ, zR, zT]
                      rfl
                    refine zak (i := 6) (N := some 59) (v := ?_) (a' := ?_) #[true, true, true, true, true, true, true, true, true, true, true, false, false, false, false] rfl rfl (zaa HT_.out (by kernel_rfl)) (fun _ _ _ h => h) (Or.inl ⟨by rfl, ?_⟩) ?_ ?_
                    rotate_left
                    · intro w'
                      go_simp
                      with_reducible rfl
                    rotate_left
                    · simp only [Act.put, List.setIfInBounds_toArray, List.set_cons_zero, List.set_cons_succ, zR, zT]
                      rfl
                    refine zcO (i := 11) (N := some 64) #[true, true, true, true, true, true, true, true, true, true, true, true, false, false, false] rfl rfl (zbG HT_.out (by kernel_rfl)) (by decide) (fun K hK => ?_)
                    refine zbM Try.func47 (by kernel_rfl) rfl #[.int .u64 (IntKind.u64.wrap (a0_5))] (by rfl) rfl rfl (by (try simp only [List.map_toArray, List.map_cons, List.map_nil]); first | done | rfl | (simp only [List.length_drop, List.length_take]; rfl)) ?_
                    with_reducible refine (zr.calls k1 (IntKind.u64.wrap (a0_5)) t194 _ A24.out).mono ?_
                    rintro e w35 ⟨rfl, hb⟩
                    refine ⟨_, rfl, ?_⟩
                    have n0_ := zc.mk (Kd.R_below (by (with_reducible repeat (first | apply Kd.R_alloc | apply Kd.R_drewN | apply Kd.R_drew)); exact HO_7.out) hb)
                    have n1_ := zc.mk (zl (g := gb181) (o := .cells #[.int .i64 a0_0, .int .i64 a0_1, .slice A0_2 l0_2.length c0_2, .slice A0_3 l0_3.length c0_3, .int .i64 a0_4, .int .i64 a0_5] 31 (0, 0)) (by (with_reducible repeat (first | refine zg ?_ _ | refine zi ?_ | refine zh ?_ _)); exact BK181.out) hb)
                    have n2_ := zc.mk (zk (by repeat (first | (with_reducible first | exact HB.out | apply zf | apply zd | apply ze | refine zj ?_ GE181.out) | exact HB.out)) hb)
                    clear HO_7
                    clear BK181
                    clear HB
                    have HO_7 := n0_
                    have BK181 := n1_
                    have HB := n2_
                    clear n0_ n1_ n2_
                    (try clear hb)
                    (try clear hb2)
                    (try clear hk)
                    (try clear hi)
                    refine hK.out _ _ ⟨(zb BK181.out 0).trans rfl, (zb BK181.out 1).trans rfl, (zb BK181.out 2).trans rfl, (zb BK181.out 3).trans rfl, (zb BK181.out 4).trans rfl, (zb BK181.out 5).trans rfl⟩ (fun hHeld => ?_)
                    clear hK K
                    refine zbN (a' := ?_) ?_ ?_
                    rotate_left
                    · show Act.put _ (some 64) _ = _
                      simp only [Act.put, List.setIfInBounds_toArray, List.set_cons_zero, List.set_cons_succ, zR, zT]
                      rfl
                    refine zak (i := 12) (N := some 65) (v := ?_) (a' := ?_) #[true, true, true, true, true, true, true, true, true, true, true, true, true, false, false] rfl rfl (zaa HT_.out (by kernel_rfl)) (fun _ _ _ h => h) (Or.inl ⟨by rfl, ?_⟩) ?_ ?_
                    rotate_left
                    · intro w'
                      go_simp
                      with_reducible rfl
                    rotate_left
                    · simp only [Act.put, List.setIfInBounds_toArray, List.set_cons_zero, List.set_cons_succ, zR, zT]
                      rfl
                    refine zak (i := 13) (N := some 4) (v := ?_) (a' := ?_) #[true, true, true, true, true, true, true, true, true, true, true, true, true, true, false] rfl rfl (zaa HT_.out (by kernel_rfl)) (fun _ _ _ h => h) (Or.inl ⟨by rfl, ?_⟩) ?_ ?_
                    rotate_left
                    · intro w'
                      go_simp
                      with_reducible rfl
                    rotate_left
                    · simp only [Act.put, List.setIfInBounds_toArray, List.set_cons_zero, List.set_cons_succ, zR, zT]
                      rfl
                    refine zak (i := 14) (N := some 5) (v := ?_) (a' := ?_) #[true, true, true, true, true, true, true, true, true, true, true, true, true, true, true] rfl rfl (zaa HT_.out (by kernel_rfl)) (fun _ _ _ h => h) (Or.inl ⟨by rfl, ?_⟩) ?_ ?_
                    rotate_left
                    · intro w'
                      go_simp
                      with_reducible rfl
                    rotate_left
                    · simp only [Act.put, List.setIfInBounds_toArray, List.set_cons_zero, List.set_cons_succ, zR, zT]
                      rfl
                    refine zey (zdz HT_.out (by kernel_rfl)) ?_
                    try go_wp2
                    go_ret2
                    exact ⟨by first | rfl | (simp [zo, zp] <;> rfl) | (simp [*, zo, zp] <;> rfl), by repeat (first | (with_reducible first | exact HB.out | apply zf | apply zd | apply ze | refine zj ?_ GE181.out) | exact HB.out)⟩
                  · rw [if_neg c25] at H
                    exact absurd H (by simp)
                · rw [if_neg c23] at H
                  exact absurd H (by simp)
              · rw [if_neg c21] at H
                exact absurd H (by simp)
            · rw [if_neg c19] at H
              exact absurd H (by simp)
          · rw [if_neg c17] at H
            exact absurd H (by simp)
  · replace c4 := Bool.eq_false_iff.mpr c4
    subst c4
    have H1 : (some ((⟨#[]⟩ : ByteArray), 1)) = some (r1, r2) := by rw [if_neg (show ¬ (false = true) by decide)] at H; exact H
    clear H
    have H := H1
    clear H1
    simp only [Option.some.injEq, Prod.mk.injEq] at H
    obtain ⟨rfl, rfl⟩ := H
    go_enter Try.func30, Try.ntmps30
    go_wp2_with (first | ((with_reducible refine zv (N := 2) rfl ?_); refine zu ?hg (N := 2) ?hd (cs := #[.int .i64 a0_0, .int .i64 a0_1, .slice A0_2 l0_2.length c0_2, .slice A0_3 l0_3.length c0_3, .int .i64 a0_4, .int .i64 a0_5]) (t := 31) ?hr ?_; (case hd => rfl); (case hg => rfl); (case hr => first | (go_simp; done) | (go_simp; rfl)); intro gb181 hg w36 hbox hb; have n0_ := zc.mk (zk (by repeat (first | (with_reducible first | exact HB.out | apply zf | apply zd | apply ze) | exact HB.out)) hb); have n1_ := zc.mk (hbox); have n2_ := zc.mk ((by rw [hg]; exact (zn (by repeat (first | (with_reducible first | exact HB.out | apply zf | apply zd | apply ze) | exact HB.out))) : w.heap.size ≤ gb181)); have n3_ := zc.mk ((by rw [hg]; exact (zn (by repeat (first | (with_reducible first | exact HB.out | apply zf | apply zd | apply ze) | exact HB.out))) : w.heap.size ≤ gb181)); clear HB; have HB := n0_; have BK181 := n1_; have GW181 := n2_; have GE181 := n3_; clear n0_ n1_ n2_ n3_; clear hb hbox hg; have hcz37_0 : w36.cell? ⟨gb181, 0, none⟩ = some (.int .i64 a0_0) := (zb BK181.out 0).trans rfl; have hcz37_1 : w36.cell? ⟨gb181, 1, none⟩ = some (.int .i64 a0_1) := (zb BK181.out 1).trans rfl; have hcz37_2 : w36.cell? ⟨gb181, 2, none⟩ = some (.slice A0_2 l0_2.length c0_2) := (zb BK181.out 2).trans rfl; have hcz37_3 : w36.cell? ⟨gb181, 3, none⟩ = some (.slice A0_3 l0_3.length c0_3) := (zb BK181.out 3).trans rfl; have hcz37_4 : w36.cell? ⟨gb181, 4, none⟩ = some (.int .i64 a0_4) := (zb BK181.out 4).trans rfl; have hcz37_5 : w36.cell? ⟨gb181, 5, none⟩ = some (.int .i64 a0_5) := (zb BK181.out 5).trans rfl; have hfz37_0 := za BK181.out 0; have hfz37_1 := za BK181.out 1; have hfz37_2 := za BK181.out 2; have hfz37_3 := za BK181.out 3; have hfz37_4 := za BK181.out 4; have hfz37_5 := za BK181.out 5) | ((with_reducible refine zq (f := 45) rfl ?_); refine zQ (some 14) rfl rfl Try.func45 (by kernel_rfl) rfl #[.agg #[.int .i64 a0_0, .int .i64 a0_1, .slice A0_2 l0_2.length c0_2, .slice A0_3 l0_3.length c0_3, .int .i64 a0_4, .int .i64 a0_5], .int .i64 a1] rfl (by (try simp only [List.map_toArray, List.map_cons, List.map_nil]); first | done | rfl | (simp only [List.length_drop, List.length_take]; rfl)) ?_; (with_reducible refine (zm.calls k a0_0 a0_1 _ _ l0_2 _ _ l0_3 a0_4 a0_5 a1 false _ ?side1 ?side2 ?side3 ?side4 A3.out).mono ?_); (case side1 => repeat (first | exact (Kd.C_below HR0_2.out HB.out) | (with_reducible refine Kd.C_alloc ?_ _) | (with_reducible refine Kd.C_drewN ?_ _) | (with_reducible refine Kd.C_drew ?_))); (case side2 => exact HC0_2.out); (case side3 => repeat (first | exact (Kd.C_below HR0_3.out HB.out) | (with_reducible refine Kd.C_alloc ?_ _) | (with_reducible refine Kd.C_drewN ?_ _) | (with_reducible refine Kd.C_drew ?_))); (case side4 => exact HC0_3.out); rintro e w38 ⟨rfl, hb⟩; refine ⟨_, rfl, ?_⟩; have n0_ := zc.mk (zl (g := gb181) (o := .cells #[.int .i64 a0_0, .int .i64 a0_1, .slice A0_2 l0_2.length c0_2, .slice A0_3 l0_3.length c0_3, .int .i64 a0_4, .int .i64 a0_5] 31 (0, 0)) (by (with_reducible repeat (first | refine zg ?_ _ | refine zi ?_ | refine zh ?_ _)); exact BK181.out) hb); have n1_ := zc.mk (zk (by repeat (first | (with_reducible first | exact HB.out | apply zf | apply zd | apply ze | refine zj ?_ GE181.out) | exact HB.out)) hb); clear BK181; clear HB; have BK181 := n0_; have HB := n1_; clear n0_ n1_; (try clear hb); (try clear hb2); (try clear hk); (try clear hi)))
    go_ret2
    exact ⟨by first | rfl | (simp [zo, zp] <;> rfl) | (simp [*, zo, zp] <;> rfl), by repeat (first | (with_reducible first | exact HB.out | apply zf | apply zd | apply ze | refine zj ?_ GE181.out) | exact HB.out)⟩
end Go.Proofs.Ytlabjgcoopdbiaa.Px
