/- Part 15 of 32 of the proof of the law CertChecks: what is proved is the statement at the end of the last part; its conditions are those of the given row. -/
import Derived.Test.YtlabjgcoopdbiaaZCertChecksN
namespace Go.Proofs.Ytlabjgcoopdbiaa.Px
open Go.RowKit Go.Proofs.YtlabjgcoopdbiaaW.PrintWords Go.Proofs.YtlabjgcoopdbiaaW.PrintLast Go.Proofs.YtlabjgcoopdbiaaW.PrintMore
attribute [local go_sem] zC zE zK zL zw zx zD zF
set_option linter.unusedVariables false
set_option linter.unusedSimpArgs false
def zao.f (k : Nat) (a0 : Int) (l1 : List (S58)) (a2_0 : Int) (a2_1 : Int) (l2_2 : List (S68)) (l2_3 : List ByteArray) (a2_4 : Int) (a2_5 : Int) (a2_6 : Int) : Option (Int) := (zbK.f a2_0 a2_1 l2_2 l2_3 a2_4 a2_5 a2_6 a0).bind fun t148 => (if t148 = 0 then ((zaJ.f a2_0 a2_1 l2_2 l2_3 a2_4 a2_5 a0).bind fun bt149 => ((zav.f bt149.1).bind fun t151 => ((zbN.f k l1 a2_6 t151).bind fun t152 => (if t152 = true then (some 0) else (some 10))))) else (some t148))
set_option maxHeartbeats 8000000 in
set_option maxRecDepth 100000 in
theorem zao.calls (k : Nat) (a0 : Int) (A1 : Option Addr) (c1 : Nat) (l1 : List (S58)) (a2_0 : Int) (a2_1 : Int) (A2_2 : Option Addr) (c2_2 : Nat) (l2_2 : List (S68)) (A2_3 : Option Addr) (c2_3 : Nat) (l2_3 : List ByteArray) (a2_4 : Int) (a2_5 : Int) (a2_6 : Int) (r : Int) (w : World) (hr1 : Kd.C k58 w A1 l1.length l1) (hc1 : l1.length ≤ c1) (hr2_2 : Kd.C k68 w A2_2 l2_2.length l2_2) (hc2_2 : l2_2.length ≤ c2_2) (hr2_3 : Kd.C Kd.string w A2_3 l2_3.length l2_3) (hc2_3 : l2_3.length ≤ c2_3) (h : zao.f k a0 l1 a2_0 a2_1 l2_2 l2_3 a2_4 a2_5 a2_6 = some r) :
    Calls Try.prog 12 #[.int .i64 a0, .slice A1 l1.length c1, .agg #[.int .i64 a2_0, .int .i64 a2_1, .slice A2_2 l2_2.length c2_2, .slice A2_3 l2_3.length c2_3, .int .i64 a2_4, .int .i64 a2_5, .int .u64 a2_6]] w fun e w' => e = .returned (.int .i64 r) ∧ Below w.heap.size w w' := by
  have hu34 := Try.underlying34
  have hu31 := Try.underlying31
  have HR1 := zc.mk hr1
  have HC1 := zc.mk hc1
  clear hr1 hc1
  have HR2_2 := zc.mk hr2_2
  have HC2_2 := zc.mk hc2_2
  clear hr2_2 hc2_2
  have HR2_3 := zc.mk hr2_3
  have HC2_3 := zc.mk hc2_3
  clear hr2_3 hc2_3
  have HB := zc.mk (Below.refl w.heap.size w)
  have H : ((zbK.f a2_0 a2_1 l2_2 l2_3 a2_4 a2_5 a2_6 a0).bind fun t148 => (if t148 = 0 then ((zaJ.f a2_0 a2_1 l2_2 l2_3 a2_4 a2_5 a0).bind fun bt149 => ((zav.f bt149.1).bind fun t151 => ((zbN.f k l1 a2_6 t151).bind fun t152 => (if t152 = true then (some 0) else (some 10))))) else (some t148))) = some r := h
  clear h
  replace H := Option.bind_eq_some_iff.mp H
  obtain ⟨t148, A40, H⟩ := H
  replace H : (if t148 = 0 then ((zaJ.f a2_0 a2_1 l2_2 l2_3 a2_4 a2_5 a0).bind fun bt149 => ((zav.f bt149.1).bind fun t151 => ((zbN.f k l1 a2_6 t151).bind fun t152 => (if t152 = true then (some 0) else (some 10))))) else (some t148)) = some r := H
  have A4 := zc.mk A40
  clear A40
  by_cases c5 : t148 = 0
  · rw [if_pos c5] at H
    have c5b0 : (t148 == 0) = true := beq_iff_eq.mpr c5
    have c5b1 : (t148 != 0) = false := bne_eq_false_iff_eq.mpr c5
    clear c5
    replace H := Option.bind_eq_some_iff.mp H
    obtain ⟨⟨t149, t150⟩, A60, H⟩ := H
    replace H : ((zav.f t149).bind fun t151 => ((zbN.f k l1 a2_6 t151).bind fun t152 => (if t152 = true then (some 0) else (some 10)))) = some r := H
    have A6 := zc.mk A60
    clear A60
    replace H := Option.bind_eq_some_iff.mp H
    obtain ⟨t151, A70, H⟩ := H
    replace H : ((zbN.f k l1 a2_6 t151).bind fun t152 => (if t152 = true then (some 0) else (some 10))) = some r := H
    have A7 := zc.mk A70
    clear A70
    replace H := Option.bind_eq_some_iff.mp H
    obtain ⟨t152, A80, H⟩ := H
    replace H : (if t152 = true then (some 0) else (some 10)) = some r := H
    have A8 := zc.mk A80
    clear A80
    by_cases c9 : t152 = true
    · subst c9
      have H1 : (some 0) = some r := by rw [if_pos rfl] at H; exact H
      clear H
      have H := H1
      clear H1
      obtain rfl := Option.some.inj H
      go_enter Try.func12, Try.ntmps12
      try go_wp2_with (first | ((with_reducible refine zA (N := 5) rfl ?_); refine zt ?hg (N := 5) ?hd (cs := #[.int .i64 a2_0, .int .i64 a2_1, .slice A2_2 l2_2.length c2_2, .slice A2_3 l2_3.length c2_3, .int .i64 a2_4, .int .i64 a2_5, .int .u64 a2_6]) (t := 34) ?hr ?_; (case hd => rfl); (case hg => rfl); (case hr => first | (go_simp; done) | (go_simp; rfl)); intro gb147 hg w10 hbox hb; have n0_ := zc.mk (zh (by repeat (first | (with_reducible first | exact HB.out | apply zf | apply zd | apply ze) | exact HB.out)) hb); have n1_ := zc.mk (hbox); have n2_ := zc.mk ((by rw [hg]; exact (zp (by repeat (first | (with_reducible first | exact HB.out | apply zf | apply zd | apply ze) | exact HB.out))) : w.heap.size ≤ gb147)); have n3_ := zc.mk ((by rw [hg]; exact (zp (by repeat (first | (with_reducible first | exact HB.out | apply zf | apply zd | apply ze) | exact HB.out))) : w.heap.size ≤ gb147)); clear HB; have HB := n0_; have BK147 := n1_; have GW147 := n2_; have GE147 := n3_; clear n0_ n1_ n2_ n3_; clear hb hbox hg; have hcz11_0 : w10.cell? ⟨gb147, 0, none⟩ = some (.int .i64 a2_0) := (zb BK147.out 0).trans rfl; have hcz11_1 : w10.cell? ⟨gb147, 1, none⟩ = some (.int .i64 a2_1) := (zb BK147.out 1).trans rfl; have hcz11_2 : w10.cell? ⟨gb147, 2, none⟩ = some (.slice A2_2 l2_2.length c2_2) := (zb BK147.out 2).trans rfl; have hcz11_3 : w10.cell? ⟨gb147, 3, none⟩ = some (.slice A2_3 l2_3.length c2_3) := (zb BK147.out 3).trans rfl; have hcz11_4 : w10.cell? ⟨gb147, 4, none⟩ = some (.int .i64 a2_4) := (zb BK147.out 4).trans rfl; have hcz11_5 : w10.cell? ⟨gb147, 5, none⟩ = some (.int .i64 a2_5) := (zb BK147.out 5).trans rfl; have hcz11_6 : w10.cell? ⟨gb147, 6, none⟩ = some (.int .u64 a2_6) := (zb BK147.out 6).trans rfl; have hfz11_0 := za BK147.out 0; have hfz11_1 := za BK147.out 1; have hfz11_2 := za BK147.out 2; have hfz11_3 := za BK147.out 3; have hfz11_4 := za BK147.out 4; have hfz11_5 := za BK147.out 5; have hfz11_6 := za BK147.out 6) | ((with_reducible refine zr (f := 25) rfl ?_); refine zR (some 12) rfl rfl Try.func25 (by kernel_rfl) rfl #[.agg #[.int .i64 a2_0, .int .i64 a2_1, .slice A2_2 l2_2.length c2_2, .slice A2_3 l2_3.length c2_3, .int .i64 a2_4, .int .i64 a2_5, .int .u64 a2_6], .int .i64 a0] rfl (by (try simp only [List.map_toArray, List.map_cons, List.map_nil]); first | done | rfl | (simp only [List.length_drop, List.length_take]; rfl)) ?_; (with_reducible refine (zbK.calls a2_0 a2_1 _ _ l2_2 _ _ l2_3 a2_4 a2_5 a2_6 a0 t148 _ ?side1 ?side2 ?side3 ?side4 A4.out).mono ?_); (case side1 => repeat (first | exact (Kd.C_below HR2_2.out HB.out) | (with_reducible refine Kd.C_alloc ?_ _) | (with_reducible refine Kd.C_drewN ?_ _) | (with_reducible refine Kd.C_drew ?_))); (case side2 => exact HC2_2.out); (case side3 => repeat (first | exact (Kd.C_below HR2_3.out HB.out) | (with_reducible refine Kd.C_alloc ?_ _) | (with_reducible refine Kd.C_drewN ?_ _) | (with_reducible refine Kd.C_drew ?_))); (case side4 => exact HC2_3.out); rintro e w12 ⟨rfl, hb⟩; refine ⟨_, rfl, ?_⟩; have n0_ := zc.mk (zl (g := gb147) (o := .cells #[.int .i64 a2_0, .int .i64 a2_1, .slice A2_2 l2_2.length c2_2, .slice A2_3 l2_3.length c2_3, .int .i64 a2_4, .int .i64 a2_5, .int .u64 a2_6] 34 (0, 0)) (by (with_reducible repeat (first | refine zi ?_ _ | refine zk ?_ | refine zj ?_ _)); exact BK147.out) hb); have n1_ := zc.mk (zh (by repeat (first | (with_reducible first | exact HB.out | apply zf | apply zd | apply ze | refine zg ?_ GE147.out) | exact HB.out)) hb); clear BK147; clear HB; have BK147 := n0_; have HB := n1_; clear n0_ n1_; (try clear hb); (try clear hb2); (try clear hk); (try clear hi); have hcz13_0 : w12.cell? ⟨gb147, 0, none⟩ = some (.int .i64 a2_0) := (zb BK147.out 0).trans rfl; have hcz13_1 : w12.cell? ⟨gb147, 1, none⟩ = some (.int .i64 a2_1) := (zb BK147.out 1).trans rfl; have hcz13_2 : w12.cell? ⟨gb147, 2, none⟩ = some (.slice A2_2 l2_2.length c2_2) := (zb BK147.out 2).trans rfl; have hcz13_3 : w12.cell? ⟨gb147, 3, none⟩ = some (.slice A2_3 l2_3.length c2_3) := (zb BK147.out 3).trans rfl; have hcz13_4 : w12.cell? ⟨gb147, 4, none⟩ = some (.int .i64 a2_4) := (zb BK147.out 4).trans rfl; have hcz13_5 : w12.cell? ⟨gb147, 5, none⟩ = some (.int .i64 a2_5) := (zb BK147.out 5).trans rfl; have hcz13_6 : w12.cell? ⟨gb147, 6, none⟩ = some (.int .u64 a2_6) := (zb BK147.out 6).trans rfl; have hfz13_0 := za BK147.out 0; have hfz13_1 := za BK147.out 1; have hfz13_2 := za BK147.out 2; have hfz13_3 := za BK147.out 3; have hfz13_4 := za BK147.out 4; have hfz13_5 := za BK147.out 5; have hfz13_6 := za BK147.out 6) | ((with_reducible refine zr (f := 26) rfl ?_); refine zR (some 20) rfl rfl Try.func26 (by kernel_rfl) rfl #[.agg #[.int .i64 a2_0, .int .i64 a2_1, .slice A2_2 l2_2.length c2_2, .slice A2_3 l2_3.length c2_3, .int .i64 a2_4, .int .i64 a2_5], .int .i64 a0] rfl (by (try simp only [List.map_toArray, List.map_cons, List.map_nil]); first | done | rfl | (simp only [List.length_drop, List.length_take]; rfl)) ?_; (with_reducible refine (zaJ.calls a2_0 a2_1 _ _ l2_2 _ _ l2_3 a2_4 a2_5 a0 t149 t150 _ ?side1 ?side2 ?side3 ?side4 A6.out).mono ?_); (case side1 => repeat (first | exact (Kd.C_below HR2_2.out HB.out) | (with_reducible refine Kd.C_alloc ?_ _) | (with_reducible refine Kd.C_drewN ?_ _) | (with_reducible refine Kd.C_drew ?_))); (case side2 => exact HC2_2.out); (case side3 => repeat (first | exact (Kd.C_below HR2_3.out HB.out) | (with_reducible refine Kd.C_alloc ?_ _) | (with_reducible refine Kd.C_drewN ?_ _) | (with_reducible refine Kd.C_drew ?_))); (case side4 => exact HC2_3.out); rintro e w14 ⟨rfl, hb⟩; refine ⟨_, rfl, ?_⟩; have n0_ := zc.mk (zl (g := gb147) (o := .cells #[.int .i64 a2_0, .int .i64 a2_1, .slice A2_2 l2_2.length c2_2, .slice A2_3 l2_3.length c2_3, .int .i64 a2_4, .int .i64 a2_5, .int .u64 a2_6] 34 (0, 0)) (by (with_reducible repeat (first | refine zi ?_ _ | refine zk ?_ | refine zj ?_ _)); exact BK147.out) hb); have n1_ := zc.mk (zh (by repeat (first | (with_reducible first | exact HB.out | apply zf | apply zd | apply ze | refine zg ?_ GE147.out) | exact HB.out)) hb); clear BK147; clear HB; have BK147 := n0_; have HB := n1_; clear n0_ n1_; (try clear hb); (try clear hb2); (try clear hk); (try clear hi)))
      have n0_ := zc.mk (zk BK147.out)
      have n1_ := zc.mk (ze HB.out)
      clear BK147
      clear HB
      have BK147 := n0_
      have HB := n1_
      clear n0_ n1_
      refine zcl (n := 7) (S := fun w' => w'.cell? ⟨gb147, 0, none⟩ = some (.int .i64 a2_0) ∧ w'.cell? ⟨gb147, 1, none⟩ = some (.int .i64 a2_1) ∧ w'.cell? ⟨gb147, 2, none⟩ = some (.slice A2_2 l2_2.length c2_2) ∧ w'.cell? ⟨gb147, 3, none⟩ = some (.slice A2_3 l2_3.length c2_3) ∧ w'.cell? ⟨gb147, 4, none⟩ = some (.int .i64 a2_4) ∧ w'.cell? ⟨gb147, 5, none⟩ = some (.int .i64 a2_5) ∧ w'.cell? ⟨gb147, 6, none⟩ = some (.int .u64 a2_6)) (ds := []) #[false, false, false, false, false, false, false] (by kernel_rfl) rfl rfl ⟨(zb BK147.out 0).trans rfl, (zb BK147.out 1).trans rfl, (zb BK147.out 2).trans rfl, (zb BK147.out 3).trans rfl, (zb BK147.out 4).trans rfl, (zb BK147.out 5).trans rfl, (zb BK147.out 6).trans rfl⟩ (fun hHeld => ?_)
      generalize w14.drew = w15 at BK147 HB hHeld ⊢
      refine zI (i := 0) (N := some 23) (v := ?_) (a' := ?_) #[true, false, false, false, false, false, false] rfl rfl (by kernel_rfl) (fun _ _ _ h => h) (Or.inl ⟨by rfl, ?_⟩) ?_ ?_
      rotate_left
      · intro w'
        go_simp
        with_reducible rfl
      rotate_left
      · simp only [Act.put, List.setIfInBounds_toArray, List.set_cons_zero, List.set_cons_succ, zs, zu]
        rfl
      refine zI (i := 1) (N := some 24) (v := ?_) (a' := ?_) #[true, true, false, false, false, false, false] rfl rfl (by kernel_rfl) (fun _ _ _ h => h) (Or.inl ⟨by rfl, ?_⟩) ?_ ?_
      rotate_left
      · intro w'
        go_simp
        with_reducible rfl
      rotate_left
      · simp only [Act.put, List.setIfInBounds_toArray, List.set_cons_zero, List.set_cons_succ, zs, zu]
        rfl
      refine zI (i := 3) (N := some 26) (v := ?_) (a' := ?_) #[true, true, false, true, false, false, false] rfl rfl (by kernel_rfl) (fun _ _ _ h => h) (Or.inl ⟨by rfl, ?_⟩) ?_ ?_
      rotate_left
      · intro w'
        go_simp
        with_reducible rfl
      rotate_left
      · simp only [Act.put, List.setIfInBounds_toArray, List.set_cons_zero, List.set_cons_succ, zs, zu]
        rfl
      refine take_ (i := 2) (N := some 25) (v := ?_) (a' := ?_) #[true, true, true, true, false, false, false] rfl rfl (by kernel_rfl) (fun _ _ _ h => h) (Or.inl ⟨by rfl, ?_⟩) hHeld ?_ ?_
      rotate_left
      · rintro w' ⟨s0, s1, s2, s3, s4, s5, s6⟩
        go_simp
        with_reducible rfl
      rotate_left
      · simp only [Act.put, List.setIfInBounds_toArray, List.set_cons_zero, List.set_cons_succ, zs, zu]
        rfl
      refine zb5 (i := 4) (N := some 27) #[true, true, true, true, true, false, false] rfl rfl (by kernel_rfl) (by decide) (fun K hK => ?_)
      refine zbx Try.func10 (by kernel_rfl) rfl #[.string t149] (by rfl) rfl rfl (by (try simp only [List.map_toArray, List.map_cons, List.map_nil]); first | done | rfl | (simp only [List.length_drop, List.length_take]; rfl)) ?_
      with_reducible refine (zav.calls t149 t151 _ A7.out).mono ?_
      rintro e w' ⟨rfl, ⟨nd, rfl⟩⟩
      refine ⟨_, rfl, ?_⟩
      refine hK.out _ _ ⟨(zb BK147.out 0).trans rfl, (zb BK147.out 1).trans rfl, (zb BK147.out 2).trans rfl, (zb BK147.out 3).trans rfl, (zb BK147.out 4).trans rfl, (zb BK147.out 5).trans rfl, (zb BK147.out 6).trans rfl⟩ (fun hHeld => ?_)
      clear hK K
      refine zbp (a' := ?_) ?_ ?_
      rotate_left
      · show Act.put _ (some 27) _ = _
        simp only [Act.put, List.setIfInBounds_toArray, List.set_cons_zero, List.set_cons_succ, zs, zu]
        rfl
      refine zb5 (i := 5) (N := some 28) #[true, true, true, true, true, true, false] rfl rfl (by kernel_rfl) (by decide) (fun K hK => ?_)
      refine zbx Try.func27 (by kernel_rfl) rfl #[.slice A1 l1.length c1, .int .u64 a2_6, .string t151] (by rfl) rfl rfl (by (try simp only [List.map_toArray, List.map_cons, List.map_nil]); first | done | rfl | (simp only [List.length_drop, List.length_take]; rfl)) ?_
      with_reducible refine (zbN.calls k _ _ l1 a2_6 t151 true _ ?side1 ?side2 A8.out).mono ?_
      (case side1 => repeat (first | exact (Kd.C_below HR1.out (by repeat (first | (with_reducible first | exact HB.out | apply zf | apply zd | apply ze | refine zg ?_ GE147.out) | exact HB.out))) | (with_reducible refine Kd.C_alloc ?_ _) | (with_reducible refine Kd.C_drewN ?_ _) | (with_reducible refine Kd.C_drew ?_)))
      (case side2 => exact HC1.out)
      rintro e w16 ⟨rfl, hb⟩
      refine ⟨_, rfl, ?_⟩
      have n0_ := zc.mk (zl (g := gb147) (o := .cells #[.int .i64 a2_0, .int .i64 a2_1, .slice A2_2 l2_2.length c2_2, .slice A2_3 l2_3.length c2_3, .int .i64 a2_4, .int .i64 a2_5, .int .u64 a2_6] 34 (0, 0)) (by (with_reducible repeat (first | refine zi ?_ _ | refine zk ?_ | refine zj ?_ _)); exact BK147.out) hb)
      have n1_ := zc.mk (zh (by repeat (first | (with_reducible first | exact HB.out | apply zf | apply zd | apply ze | refine zg ?_ GE147.out) | exact HB.out)) hb)
      clear BK147
      clear HB
      have BK147 := n0_
      have HB := n1_
      clear n0_ n1_
      (try clear hb)
      (try clear hb2)
      (try clear hk)
      (try clear hi)
      refine hK.out _ _ ⟨(zb BK147.out 0).trans rfl, (zb BK147.out 1).trans rfl, (zb BK147.out 2).trans rfl, (zb BK147.out 3).trans rfl, (zb BK147.out 4).trans rfl, (zb BK147.out 5).trans rfl, (zb BK147.out 6).trans rfl⟩ (fun hHeld => ?_)
      clear hK K
      refine zbp (a' := ?_) ?_ ?_
      rotate_left
      · show Act.put _ (some 28) _ = _
        simp only [Act.put, List.setIfInBounds_toArray, List.set_cons_zero, List.set_cons_succ, zs, zu]
        rfl
      refine zI (i := 6) (N := some 29) (v := ?_) (a' := ?_) #[true, true, true, true, true, true, true] rfl rfl (by kernel_rfl) (fun _ _ _ h => h) (Or.inl ⟨by rfl, ?_⟩) ?_ ?_
      rotate_left
      · intro w'
        go_simp
        with_reducible rfl
      rotate_left
      · simp only [Act.put, List.setIfInBounds_toArray, List.set_cons_zero, List.set_cons_succ, zs, zu]
        rfl
      refine zcT (by kernel_rfl) ?_
      try go_wp2
      go_ret
      exact ⟨by first | rfl | (simp [zn, zo] <;> rfl) | (simp [*, zn, zo] <;> rfl), by repeat (first | (with_reducible first | exact HB.out | apply zf | apply zd | apply ze | refine zg ?_ GE147.out) | exact HB.out)⟩
    · replace c9 := Bool.eq_false_iff.mpr c9
      subst c9
      have H1 : (some 10) = some r := by rw [if_neg (show ¬ (false = true) by decide)] at H; exact H
      clear H
      have H := H1
      clear H1
      obtain rfl := Option.some.inj H
      go_enter Try.func12, Try.ntmps12
      try go_wp2_with (first | ((with_reducible refine zA (N := 5) rfl ?_); refine zt ?hg (N := 5) ?hd (cs := #[.int .i64 a2_0, .int .i64 a2_1, .slice A2_2 l2_2.length c2_2, .slice A2_3 l2_3.length c2_3, .int .i64 a2_4, .int .i64 a2_5, .int .u64 a2_6]) (t := 34) ?hr ?_; (case hd => rfl); (case hg => rfl); (case hr => first | (go_simp; done) | (go_simp; rfl)); intro gb147 hg w17 hbox hb; have n0_ := zc.mk (zh (by repeat (first | (with_reducible first | exact HB.out | apply zf | apply zd | apply ze) | exact HB.out)) hb); have n1_ := zc.mk (hbox); have n2_ := zc.mk ((by rw [hg]; exact (zp (by repeat (first | (with_reducible first | exact HB.out | apply zf | apply zd | apply ze) | exact HB.out))) : w.heap.size ≤ gb147)); have n3_ := zc.mk ((by rw [hg]; exact (zp (by repeat (first | (with_reducible first | exact HB.out | apply zf | apply zd | apply ze) | exact HB.out))) : w.heap.size ≤ gb147)); clear HB; have HB := n0_; have BK147 := n1_; have GW147 := n2_; have GE147 := n3_; clear n0_ n1_ n2_ n3_; clear hb hbox hg; have hcz18_0 : w17.cell? ⟨gb147, 0, none⟩ = some (.int .i64 a2_0) := (zb BK147.out 0).trans rfl; have hcz18_1 : w17.cell? ⟨gb147, 1, none⟩ = some (.int .i64 a2_1) := (zb BK147.out 1).trans rfl; have hcz18_2 : w17.cell? ⟨gb147, 2, none⟩ = some (.slice A2_2 l2_2.length c2_2) := (zb BK147.out 2).trans rfl; have hcz18_3 : w17.cell? ⟨gb147, 3, none⟩ = some (.slice A2_3 l2_3.length c2_3) := (zb BK147.out 3).trans rfl; have hcz18_4 : w17.cell? ⟨gb147, 4, none⟩ = some (.int .i64 a2_4) := (zb BK147.out 4).trans rfl; have hcz18_5 : w17.cell? ⟨gb147, 5, none⟩ = some (.int .i64 a2_5) := (zb BK147.out 5).trans rfl; have hcz18_6 : w17.cell? ⟨gb147, 6, none⟩ = some (.int .u64 a2_6) := (zb BK147.out 6).trans rfl; have hfz18_0 := za BK147.out 0; have hfz18_1 := za BK147.out 1; have hfz18_2 := za BK147.out 2; have hfz18_3 := za BK147.out 3; have hfz18_4 := za BK147.out 4; have hfz18_5 := za BK147.out 5; have hfz18_6 := za BK147.out 6) | ((with_reducible refine zr (f := 25) rfl ?_); refine zR (some 12) rfl rfl Try.func25 (by kernel_rfl) rfl #[.agg #[.int .i64 a2_0, .int .i64 a2_1, .slice A2_2 l2_2.length c2_2, .slice A2_3 l2_3.length c2_3, .int .i64 a2_4, .int .i64 a2_5, .int .u64 a2_6], .int .i64 a0] rfl (by (try simp only [List.map_toArray, List.map_cons, List.map_nil]); first | done | rfl | (simp only [List.length_drop, List.length_take]; rfl)) ?_; (with_reducible refine (zbK.calls a2_0 a2_1 _ _ l2_2 _ _ l2_3 a2_4 a2_5 a2_6 a0 t148 _ ?side1 ?side2 ?side3 ?side4 A4.out).mono ?_); (case side1 => repeat (first | exact (Kd.C_below HR2_2.out HB.out) | (with_reducible refine Kd.C_alloc ?_ _) | (with_reducible refine Kd.C_drewN ?_ _) | (with_reducible refine Kd.C_drew ?_))); (case side2 => exact HC2_2.out); (case side3 => repeat (first | exact (Kd.C_below HR2_3.out HB.out) | (with_reducible refine Kd.C_alloc ?_ _) | (with_reducible refine Kd.C_drewN ?_ _) | (with_reducible refine Kd.C_drew ?_))); (case side4 => exact HC2_3.out); rintro e w19 ⟨rfl, hb⟩; refine ⟨_, rfl, ?_⟩; have n0_ := zc.mk (zl (g := gb147) (o := .cells #[.int .i64 a2_0, .int .i64 a2_1, .slice A2_2 l2_2.length c2_2, .slice A2_3 l2_3.length c2_3, .int .i64 a2_4, .int .i64 a2_5, .int .u64 a2_6] 34 (0, 0)) (by (with_reducible repeat (first | refine zi ?_ _ | refine zk ?_ | refine zj ?_ _)); exact BK147.out) hb); have n1_ := zc.mk (zh (by repeat (first | (with_reducible first | exact HB.out | apply zf | apply zd | apply ze | refine zg ?_ GE147.out) | exact HB.out)) hb); clear BK147; clear HB; have BK147 := n0_; have HB := n1_; clear n0_ n1_; (try clear hb); (try clear hb2); (try clear hk); (try clear hi); have hcz20_0 : w19.cell? ⟨gb147, 0, none⟩ = some (.int .i64 a2_0) := (zb BK147.out 0).trans rfl; have hcz20_1 : w19.cell? ⟨gb147, 1, none⟩ = some (.int .i64 a2_1) := (zb BK147.out 1).trans rfl; have hcz20_2 : w19.cell? ⟨gb147, 2, none⟩ = some (.slice A2_2 l2_2.length c2_2) := (zb BK147.out 2).trans rfl; have hcz20_3 : w19.cell? ⟨gb147, 3, none⟩ = some (.slice A2_3 l2_3.length c2_3) := (zb BK147.out 3).trans rfl; have hcz20_4 : w19.cell? ⟨gb147, 4, none⟩ = some (.int .i64 a2_4) := (zb BK147.out 4).trans rfl; have hcz20_5 : w19.cell? ⟨gb147, 5, none⟩ = some (.int .i64 a2_5) := (zb BK147.out 5).trans rfl; have hcz20_6 : w19.cell? ⟨gb147, 6, none⟩ = some (.int .u64 a2_6) := (zb BK147.out 6).trans rfl; have hfz20_0 := za BK147.out 0; have hfz20_1 := za BK147.out 1; have hfz20_2 := za BK147.out 2; have hfz20_3 := za BK147.out 3; have hfz20_4 := za BK147.out 4; have hfz20_5 := za BK147.out 5; have hfz20_6 := za BK147.out 6) | ((with_reducible refine zr (f := 26) rfl ?_); refine zR (some 20) rfl rfl Try.func26 (by kernel_rfl) rfl #[.agg #[.int .i64 a2_0, .int .i64 a2_1, .slice A2_2 l2_2.length c2_2, .slice A2_3 l2_3.length c2_3, .int .i64 a2_4, .int .i64 a2_5], .int .i64 a0] rfl (by (try simp only [List.map_toArray, List.map_cons, List.map_nil]); first | done | rfl | (simp only [List.length_drop, List.length_take]; rfl)) ?_; (with_reducible refine (zaJ.calls a2_0 a2_1 _ _ l2_2 _ _ l2_3 a2_4 a2_5 a0 t149 t150 _ ?side1 ?side2 ?side3 ?side4 A6.out).mono ?_); (case side1 => repeat (first | exact (Kd.C_below HR2_2.out HB.out) | (with_reducible refine Kd.C_alloc ?_ _) | (with_reducible refine Kd.C_drewN ?_ _) | (with_reducible refine Kd.C_drew ?_))); (case side2 => exact HC2_2.out); (case side3 => repeat (first | exact (Kd.C_below HR2_3.out HB.out) | (with_reducible refine Kd.C_alloc ?_ _) | (with_reducible refine Kd.C_drewN ?_ _) | (with_reducible refine Kd.C_drew ?_))); (case side4 => exact HC2_3.out); rintro e w21 ⟨rfl, hb⟩; refine ⟨_, rfl, ?_⟩; have n0_ := zc.mk (zl (g := gb147) (o := .cells #[.int .i64 a2_0, .int .i64 a2_1, .slice A2_2 l2_2.length c2_2, .slice A2_3 l2_3.length c2_3, .int .i64 a2_4, .int .i64 a2_5, .int .u64 a2_6] 34 (0, 0)) (by (with_reducible repeat (first | refine zi ?_ _ | refine zk ?_ | refine zj ?_ _)); exact BK147.out) hb); have n1_ := zc.mk (zh (by repeat (first | (with_reducible first | exact HB.out | apply zf | apply zd | apply ze | refine zg ?_ GE147.out) | exact HB.out)) hb); clear BK147; clear HB; have BK147 := n0_; have HB := n1_; clear n0_ n1_; (try clear hb); (try clear hb2); (try clear hk); (try clear hi)))
      have n0_ := zc.mk (zk BK147.out)
      have n1_ := zc.mk (ze HB.out)
      clear BK147
      clear HB
      have BK147 := n0_
      have HB := n1_
      clear n0_ n1_
      refine zcl (n := 7) (S := fun w' => w'.cell? ⟨gb147, 0, none⟩ = some (.int .i64 a2_0) ∧ w'.cell? ⟨gb147, 1, none⟩ = some (.int .i64 a2_1) ∧ w'.cell? ⟨gb147, 2, none⟩ = some (.slice A2_2 l2_2.length c2_2) ∧ w'.cell? ⟨gb147, 3, none⟩ = some (.slice A2_3 l2_3.length c2_3) ∧ w'.cell? ⟨gb147, 4, none⟩ = some (.int .i64 a2_4) ∧ w'.cell? ⟨gb147, 5, none⟩ = some (.int .i64 a2_5) ∧ w'.cell? ⟨gb147, 6, none⟩ = some (.int .u64 a2_6)) (ds := []) #[false, false, false, false, false, false, false] (by kernel_rfl) rfl rfl ⟨(zb BK147.out 0).trans rfl, (zb BK147.out 1).trans rfl, (zb BK147.out 2).trans rfl, (zb BK147.out 3).trans rfl, (zb BK147.out 4).trans rfl, (zb BK147.out 5).trans rfl, (zb BK147.out 6).trans rfl⟩ (fun hHeld => ?_)
      generalize w21.drew = w22 at BK147 HB hHeld ⊢
      refine zI (i := 0) (N := some 23) (v := ?_) (a' := ?_) #[true, false, false, false, false, false, false] rfl rfl (by kernel_rfl) (fun _ _ _ h => h) (Or.inl ⟨by rfl, ?_⟩) ?_ ?_
      rotate_left
      · intro w'
        go_simp
        with_reducible rfl
      rotate_left
      · simp only [Act.put, List.setIfInBounds_toArray, List.set_cons_zero, List.set_cons_succ, zs, zu]
        rfl
      refine zI (i := 1) (N := some 24) (v := ?_) (a' := ?_) #[true, true, false, false, false, false, false] rfl rfl (by kernel_rfl) (fun _ _ _ h => h) (Or.inl ⟨by rfl, ?_⟩) ?_ ?_
      rotate_left
      · intro w'
        go_simp
        with_reducible rfl
      rotate_left
      · simp only [Act.put, List.setIfInBounds_toArray, List.set_cons_zero, List.set_cons_succ, zs, zu]
        rfl
      refine zI (i := 3) (N := some 26) (v := ?_) (a' := ?_) #[true, true, false, true, false, false, false] rfl rfl (by kernel_rfl) (fun _ _ _ h => h) (Or.inl ⟨by rfl, ?_⟩) ?_ ?_
      rotate_left
      · intro w'
        go_simp
        with_reducible rfl
      rotate_left
      · simp only [Act.put, List.setIfInBounds_toArray, List.set_cons_zero, List.set_cons_succ, zs, zu]
        rfl
      refine take_ (i := 2) (N := some 25) (v := ?_) (a' := ?_) #[true, true, true, true, false, false, false] rfl rfl (by kernel_rfl) (fun _ _ _ h => h) (Or.inl ⟨by rfl, ?_⟩) hHeld ?_ ?_
      rotate_left
      · rintro w' ⟨s0, s1, s2, s3, s4, s5, s6⟩
        go_simp
        with_reducible rfl
      rotate_left
      · simp only [Act.put, List.setIfInBounds_toArray, List.set_cons_zero, List.set_cons_succ, zs, zu]
        rfl
      refine zb5 (i := 4) (N := some 27) #[true, true, true, true, true, false, false] rfl rfl (by kernel_rfl) (by decide) (fun K hK => ?_)
      refine zbx Try.func10 (by kernel_rfl) rfl #[.string t149] (by rfl) rfl rfl (by (try simp only [List.map_toArray, List.map_cons, List.map_nil]); first | done | rfl | (simp only [List.length_drop, List.length_take]; rfl)) ?_
      with_reducible refine (zav.calls t149 t151 _ A7.out).mono ?_
      rintro e w' ⟨rfl, ⟨nd, rfl⟩⟩
      refine ⟨_, rfl, ?_⟩
      refine hK.out _ _ ⟨(zb BK147.out 0).trans rfl, (zb BK147.out 1).trans rfl, (zb BK147.out 2).trans rfl, (zb BK147.out 3).trans rfl, (zb BK147.out 4).trans rfl, (zb BK147.out 5).trans rfl, (zb BK147.out 6).trans rfl⟩ (fun hHeld => ?_)
      clear hK K
      refine zbp (a' := ?_) ?_ ?_
      rotate_left
      · show Act.put _ (some 27) _ = _
        simp only [Act.put, List.setIfInBounds_toArray, List.set_cons_zero, List.set_cons_succ, zs, zu]
        rfl
      refine zb5 (i := 5) (N := some 28) #[true, true, true, true, true, true, false] rfl rfl (by kernel_rfl) (by decide) (fun K hK => ?_)
      refine zbx Try.func27 (by kernel_rfl) rfl #[.slice A1 l1.length c1, .int .u64 a2_6, .string t151] (by rfl) rfl rfl (by (try simp only [List.map_toArray, List.map_cons, List.map_nil]); first | done | rfl | (simp only [List.length_drop, List.length_take]; rfl)) ?_
      with_reducible refine (zbN.calls k _ _ l1 a2_6 t151 false _ ?side1 ?side2 A8.out).mono ?_
      (case side1 => repeat (first | exact (Kd.C_below HR1.out (by repeat (first | (with_reducible first | exact HB.out | apply zf | apply zd | apply ze | refine zg ?_ GE147.out) | exact HB.out))) | (with_reducible refine Kd.C_alloc ?_ _) | (with_reducible refine Kd.C_drewN ?_ _) | (with_reducible refine Kd.C_drew ?_)))
      (case side2 => exact HC1.out)
      rintro e w23 ⟨rfl, hb⟩
      refine ⟨_, rfl, ?_⟩
      have n0_ := zc.mk (zl (g := gb147) (o := .cells #[.int .i64 a2_0, .int .i64 a2_1, .slice A2_2 l2_2.length c2_2, .slice A2_3 l2_3.length c2_3, .int .i64 a2_4, .int .i64 a2_5, .int .u64 a2_6] 34 (0, 0)) (by (with_reducible repeat (first | refine zi ?_ _ | refine zk ?_ | refine zj ?_ _)); exact BK147.out) hb)
      have n1_ := zc.mk (zh (by repeat (first | (with_reducible first | exact HB.out | apply zf | apply zd | apply ze | refine zg ?_ GE147.out) | exact HB.out)) hb)
      clear BK147
      clear HB
      have BK147 := n0_
      have HB := n1_
      clear n0_ n1_
      (try clear hb)
      (try clear hb2)
      (try clear hk)
      (try clear hi)
      refine hK.out _ _ ⟨(zb BK147.out 0).trans rfl, (zb BK147.out 1).trans rfl, (zb BK147.out 2).trans rfl, (zb BK147.out 3).trans rfl, (zb BK147.out 4).trans rfl, (zb BK147.out 5).trans rfl, (zb BK147.out 6).trans rfl⟩ (fun hHeld => ?_)
      clear hK K
      refine zbp (a' := ?_) ?_ ?_
      rotate_left
      · show Act.put _ (some 28) _ = _
        simp only [Act.put, List.setIfInBounds_toArray, List.set_cons_zero, List.set_cons_succ, zs, zu]
        rfl
      refine zI (i := 6) (N := some 29) (v := ?_) (a' := ?_) #[true, true, true, true, true, true, true] rfl rfl (by kernel_rfl) (fun _ _ _ h => h) (Or.inl ⟨by rfl, ?_⟩) ?_ ?_
      rotate_left
      · intro w'
        go_simp
        with_reducible rfl
      rotate_left
      · simp only [Act.put, List.setIfInBounds_toArray, List.set_cons_zero, List.set_cons_succ, zs, zu]
        rfl
      refine zcT (by kernel_rfl) ?_
      try go_wp2
      go_ret
      exact ⟨by first | rfl | (simp [zn, zo] <;> rfl) | (simp [*, zn, zo] <;> rfl), by repeat (first | (with_reducible first | exact HB.out | apply zf | apply zd | apply ze | refine zg ?_ GE147.out) | exact HB.out)⟩
  · rw [if_neg c5] at H
    have c5b0 : (t148 == 0) = false := beq_eq_false_iff_ne.mpr c5
    have c5b1 : (t148 != 0) = true := bne_iff_ne.mpr c5
    obtain rfl := Option.some.inj H
    go_enter Try.func12, Try.ntmps12
    go_wp2_with (first | ((with_reducible refine zA (N := 5) rfl ?_); refine zt ?hg (N := 5) ?hd (cs := #[.int .i64 a2_0, .int .i64 a2_1, .slice A2_2 l2_2.length c2_2, .slice A2_3 l2_3.length c2_3, .int .i64 a2_4, .int .i64 a2_5, .int .u64 a2_6]) (t := 34) ?hr ?_; (case hd => rfl); (case hg => rfl); (case hr => first | (go_simp; done) | (go_simp; rfl)); intro gb147 hg w24 hbox hb; have n0_ := zc.mk (zh (by repeat (first | (with_reducible first | exact HB.out | apply zf | apply zd | apply ze) | exact HB.out)) hb); have n1_ := zc.mk (hbox); have n2_ := zc.mk ((by rw [hg]; exact (zp (by repeat (first | (with_reducible first | exact HB.out | apply zf | apply zd | apply ze) | exact HB.out))) : w.heap.size ≤ gb147)); have n3_ := zc.mk ((by rw [hg]; exact (zp (by repeat (first | (with_reducible first | exact HB.out | apply zf | apply zd | apply ze) | exact HB.out))) : w.heap.size ≤ gb147)); clear HB; have HB := n0_; have BK147 := n1_; have GW147 := n2_; have GE147 := n3_; clear n0_ n1_ n2_ n3_; clear hb hbox hg; have hcz25_0 : w24.cell? ⟨gb147, 0, none⟩ = some (.int .i64 a2_0) := (zb BK147.out 0).trans rfl; have hcz25_1 : w24.cell? ⟨gb147, 1, none⟩ = some (.int .i64 a2_1) := (zb BK147.out 1).trans rfl; have hcz25_2 : w24.cell? ⟨gb147, 2, none⟩ = some (.slice A2_2 l2_2.length c2_2) := (zb BK147.out 2).trans rfl; have hcz25_3 : w24.cell? ⟨gb147, 3, none⟩ = some (.slice A2_3 l2_3.length c2_3) := (zb BK147.out 3).trans rfl; have hcz25_4 : w24.cell? ⟨gb147, 4, none⟩ = some (.int .i64 a2_4) := (zb BK147.out 4).trans rfl; have hcz25_5 : w24.cell? ⟨gb147, 5, none⟩ = some (.int .i64 a2_5) := (zb BK147.out 5).trans rfl; have hcz25_6 : w24.cell? ⟨gb147, 6, none⟩ = some (.int .u64 a2_6) := (zb BK147.out 6).trans rfl; have hfz25_0 := za BK147.out 0; have hfz25_1 := za BK147.out 1; have hfz25_2 := za BK147.out 2; have hfz25_3 := za BK147.out 3; have hfz25_4 := za BK147.out 4; have hfz25_5 := za BK147.out 5; have hfz25_6 := za BK147.out 6) | ((with_reducible refine zr (f := 25) rfl ?_); refine zR (some 12) rfl rfl Try.func25 (by kernel_rfl) rfl #[.agg #[.int .i64 a2_0, .int .i64 a2_1, .slice A2_2 l2_2.length c2_2, .slice A2_3 l2_3.length c2_3, .int .i64 a2_4, .int .i64 a2_5, .int .u64 a2_6], .int .i64 a0] rfl (by (try simp only [List.map_toArray, List.map_cons, List.map_nil]); first | done | rfl | (simp only [List.length_drop, List.length_take]; rfl)) ?_; (with_reducible refine (zbK.calls a2_0 a2_1 _ _ l2_2 _ _ l2_3 a2_4 a2_5 a2_6 a0 t148 _ ?side1 ?side2 ?side3 ?side4 A4.out).mono ?_); (case side1 => repeat (first | exact (Kd.C_below HR2_2.out HB.out) | (with_reducible refine Kd.C_alloc ?_ _) | (with_reducible refine Kd.C_drewN ?_ _) | (with_reducible refine Kd.C_drew ?_))); (case side2 => exact HC2_2.out); (case side3 => repeat (first | exact (Kd.C_below HR2_3.out HB.out) | (with_reducible refine Kd.C_alloc ?_ _) | (with_reducible refine Kd.C_drewN ?_ _) | (with_reducible refine Kd.C_drew ?_))); (case side4 => exact HC2_3.out); rintro e w26 ⟨rfl, hb⟩; refine ⟨_, rfl, ?_⟩; have n0_ := zc.mk (zl (g := gb147) (o := .cells #[.int .i64 a2_0, .int .i64 a2_1, .slice A2_2 l2_2.length c2_2, .slice A2_3 l2_3.length c2_3, .int .i64 a2_4, .int .i64 a2_5, .int .u64 a2_6] 34 (0, 0)) (by (with_reducible repeat (first | refine zi ?_ _ | refine zk ?_ | refine zj ?_ _)); exact BK147.out) hb); have n1_ := zc.mk (zh (by repeat (first | (with_reducible first | exact HB.out | apply zf | apply zd | apply ze | refine zg ?_ GE147.out) | exact HB.out)) hb); clear BK147; clear HB; have BK147 := n0_; have HB := n1_; clear n0_ n1_; (try clear hb); (try clear hb2); (try clear hk); (try clear hi)))
    go_ret
    exact ⟨by first | rfl | (simp [zn, zo] <;> rfl) | (simp [*, zn, zo] <;> rfl), by repeat (first | (with_reducible first | exact HB.out | apply zf | apply zd | apply ze | refine zg ?_ GE147.out) | exact HB.out)⟩
end Go.Proofs.Ytlabjgcoopdbiaa.Px

namespace Go.Proofs.Ytlabjgcoopdbiaa.Px
open Go.RowKit Go.Proofs.YtlabjgcoopdbiaaW.PrintWords Go.Proofs.YtlabjgcoopdbiaaW.PrintLast Go.Proofs.YtlabjgcoopdbiaaW.PrintMore
attribute [local go_sem] zC zE zK zL zw zx zD zF
set_option linter.unusedVariables false
set_option linter.unusedSimpArgs false
def zaT.f (a0 : ByteArray) : Option (ByteArray) := if 1 + a0.size ≤ 9223372036854775807 then (some ((⟨#[104]⟩ : ByteArray) ++ a0)) else (none)
set_option maxHeartbeats 8000000 in
set_option maxRecDepth 100000 in
theorem zaT.calls (a0 : ByteArray) (r : ByteArray) (w : World) (h : zaT.f a0 = some r) :
    Calls Try.prog 9 #[.string a0] w fun e w' => e = .returned (.string r) ∧ zG w w' := by
  have H : (if 1 + a0.size ≤ 9223372036854775807 then (some ((⟨#[104]⟩ : ByteArray) ++ a0)) else (none)) = some r := h
  clear h
  by_cases c2 : 1 + a0.size ≤ 9223372036854775807
  · rw [if_pos c2] at H
    have c2b0 := eq_true c2
    have c2b1 : decide (1 + a0.size ≤ 9223372036854775807) = true := decide_eq_true c2
    try have c2b2 : (9223372036854775807 < 1 + a0.size) = False := eq_false (Nat.not_lt.2 c2)
    obtain rfl := Option.some.inj H
    go_enter Try.func9, Try.ntmps9
    go_wp2
    go_ret
    exact ⟨by first | rfl | (simp; done) | (simp [*]; done), by repeat (first | exact zG.refl _ | apply zG.step)⟩
  · rw [if_neg c2] at H
    exact absurd H (by simp)
end Go.Proofs.Ytlabjgcoopdbiaa.Px

namespace Go.Proofs.Ytlabjgcoopdbiaa.Px
open Go.RowKit Go.Proofs.YtlabjgcoopdbiaaW.PrintWords Go.Proofs.YtlabjgcoopdbiaaW.PrintLast Go.Proofs.YtlabjgcoopdbiaaW.PrintMore
attribute [local go_sem] zC zE zK zL zw zx zD zF
set_option linter.unusedVariables false
set_option linter.unusedSimpArgs false
def zaN.f (a0 : ByteArray) : Option (ByteArray) := if 1 + a0.size ≤ 9223372036854775807 then (some ((⟨#[111]⟩ : ByteArray) ++ a0)) else (none)
set_option maxHeartbeats 8000000 in
set_option maxRecDepth 100000 in
theorem zaN.calls (a0 : ByteArray) (r : ByteArray) (w : World) (h : zaN.f a0 = some r) :
    Calls Try.prog 11 #[.string a0] w fun e w' => e = .returned (.string r) ∧ zG w w' := by
  have H : (if 1 + a0.size ≤ 9223372036854775807 then (some ((⟨#[111]⟩ : ByteArray) ++ a0)) else (none)) = some r := h
  clear h
  by_cases c2 : 1 + a0.size ≤ 9223372036854775807
  · rw [if_pos c2] at H
    have c2b0 := eq_true c2
    have c2b1 : decide (1 + a0.size ≤ 9223372036854775807) = true := decide_eq_true c2
    try have c2b2 : (9223372036854775807 < 1 + a0.size) = False := eq_false (Nat.not_lt.2 c2)
    obtain rfl := Option.some.inj H
    go_enter Try.func11, Try.ntmps11
    go_wp2
    go_ret
    exact ⟨by first | rfl | (simp; done) | (simp [*]; done), by repeat (first | exact zG.refl _ | apply zG.step)⟩
  · rw [if_neg c2] at H
    exact absurd H (by simp)
end Go.Proofs.Ytlabjgcoopdbiaa.Px
