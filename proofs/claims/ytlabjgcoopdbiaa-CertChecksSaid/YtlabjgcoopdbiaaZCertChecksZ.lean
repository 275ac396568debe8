/- Part 26 of 32 of the proof of the law CertChecks: what is proved is the statement at the end of the last part; its conditions are those of the given row. -/
import Derived.Test.YtlabjgcoopdbiaaZCertChecksY
namespace Go.Proofs.Ytlabjgcoopdbiaa.Px
open Go.RowKit Go.Proofs.YtlabjgcoopdbiaaW.PrintWords Go.Proofs.YtlabjgcoopdbiaaW.PrintLast Go.Proofs.YtlabjgcoopdbiaaW.PrintMore
attribute [local go_sem] zC zE zK zL zw zx zD zF
set_option linter.unusedVariables false
set_option linter.unusedSimpArgs false
def z9.l0 : Nat → List (S58) → List (S58) → List (S68) → Int → Int → Option (Int)
  | 0, _, _, _, _, _ => none
  | k + 1, x1, x9, x30, x31, x32 => if x32 < x31 then (if 0 ≤ x32 then (if x32 < (x30.length : Int) then ((zbJ.f ((zQ x30 x32).f0) ((zQ x30 x32).f1) ((zQ x30 x32).f2)).bind fun bt261 => ((zaN.f bt261.1).bind fun t263 => (if x9.length < 5864062014805 then (z9.l0 k x1 (x9 ++ [(⟨(zQ x30 x32).f0, t263⟩ : S58)]) x30 x31 (wrap64 (x32 + 1))) else (none)))) else (none)) else (none)) else ((zbk.f x1 x9).bind fun t267 => (if t267 = true then (some 0) else (some 10)))
def z9.f (k : Nat) (a0 : Int) (l1 : List (S58)) (a2_0 : Int) (a2_1 : Int) (l2_2 : List (S68)) (l2_3 : List ByteArray) (a2_4 : Int) (a2_5 : Int) : Option (Int) := (zaJ.f a2_0 a2_1 l2_2 l2_3 a2_4 a2_5 a0).bind fun bt253 => (if bt253.2 = 0 then ((zaT.f bt253.1).bind fun t255 => (z9.l0 k l1 (([(⟨a2_0, t255⟩ : S58)] : List (S58))) l2_2 (l2_2.length : Int) 0)) else (some bt253.2))
def z9.T9 : Bool × List (List Nat × List Nat) := (true, [([], []), ([], []), ([1], [1]), ([], []), ([3], [3]), ([2, 4], [2, 4]), ([5], [5]), ([0, 6, 4], [0, 6]), ([7, 7, 0, 1, 2, 3, 4, 5, 6, 7], [0, 7])])
def z9.B9 : List Nat := [0, 0, 2, 0, 8, 30, 62, 127, 255]
theorem z9.tab9 : zcj .any (zfe Try.f21 9) = z9.T9 := by kernel_rfl
theorem z9.bits9 : zcb z9.T9.2 z9.B9 = true := by kernel_rfl
set_option maxHeartbeats 8000000 in
set_option maxRecDepth 100000 in
theorem z9.calls (k : Nat) (a0 : Int) (A1 : Option Addr) (c1 : Nat) (l1 : List (S58)) (a2_0 : Int) (a2_1 : Int) (A2_2 : Option Addr) (c2_2 : Nat) (l2_2 : List (S68)) (A2_3 : Option Addr) (c2_3 : Nat) (l2_3 : List ByteArray) (a2_4 : Int) (a2_5 : Int) (r : Int) (w : World) (hr1 : Kd.C k58 w A1 l1.length l1) (hc1 : l1.length ≤ c1) (hr2_2 : Kd.C k68 w A2_2 l2_2.length l2_2) (hc2_2 : l2_2.length ≤ c2_2) (hr2_3 : Kd.C Kd.string w A2_3 l2_3.length l2_3) (hc2_3 : l2_3.length ≤ c2_3) (h : z9.f k a0 l1 a2_0 a2_1 l2_2 l2_3 a2_4 a2_5 = some r) :
    Calls Try.prog 21 #[.int .i64 a0, .slice A1 l1.length c1, .agg #[.int .i64 a2_0, .int .i64 a2_1, .slice A2_2 l2_2.length c2_2, .slice A2_3 l2_3.length c2_3, .int .i64 a2_4, .int .i64 a2_5]] w fun e w' => e = .returned (.int .i64 r) ∧ Below w.heap.size w w' := by
  have hu31 := Try.underlying31
  have hu58 := Try.underlying58
  have hu68 := Try.underlying68
  have HR1 := zc.mk hr1
  have HC1 := zc.mk hc1
  clear hr1 hc1
  have HR2_2 := zc.mk hr2_2
  have HC2_2 := zc.mk hc2_2
  clear hr2_2 hc2_2
  have HR2_3 := zc.mk hr2_3
  have HC2_3 := zc.mk hc2_3
  clear hr2_3 hc2_3
  have HB := zc.mk (Below.refl w.heap.size w)
  have H : ((zaJ.f a2_0 a2_1 l2_2 l2_3 a2_4 a2_5 a0).bind fun bt253 => (if bt253.2 = 0 then ((zaT.f bt253.1).bind fun t255 => (z9.l0 k l1 (([(⟨a2_0, t255⟩ : S58)] : List (S58))) l2_2 (l2_2.length : Int) 0)) else (some bt253.2))) = some r := h
  clear h
  replace H := Option.bind_eq_some_iff.mp H
  obtain ⟨⟨t253, t254⟩, A40, H⟩ := H
  replace H : (if t254 = 0 then ((zaT.f t253).bind fun t255 => (z9.l0 k l1 (([(⟨a2_0, t255⟩ : S58)] : List (S58))) l2_2 (l2_2.length : Int) 0)) else (some t254)) = some r := H
  have A4 := zc.mk A40
  clear A40
  by_cases c5 : t254 = 0
  · rw [if_pos c5] at H
    have c5b0 : (t254 == 0) = true := beq_iff_eq.mpr c5
    have c5b1 : (t254 != 0) = false := bne_eq_false_iff_eq.mpr c5
    clear c5
    replace H := Option.bind_eq_some_iff.mp H
    obtain ⟨t255, A60, H⟩ := H
    replace H : (z9.l0 k l1 (([(⟨a2_0, t255⟩ : S58)] : List (S58))) l2_2 (l2_2.length : Int) 0) = some r := H
    have A6 := zc.mk A60
    clear A60
    obtain ⟨y256, hy256⟩ : ∃ y_ : List (S58), y_ = (([(⟨a2_0, t255⟩ : S58)] : List (S58))) := ⟨_, rfl⟩
    replace H : (z9.l0 k l1 y256 l2_2 (l2_2.length : Int) 0) = some r := by first | (rw [hy256]; with_reducible exact H) | (have H2_ := (Option.bind_some _ _).symm.trans H; rw [hy256]; with_reducible exact H2_) | (have H2_ := (Option.bind_some _ _).symm.trans H; with_reducible exact H2_) | with_reducible exact H | (rw [hy256]; exact H) | exact H
    have Ny256 := zc.mk hy256
    clear hy256
    have H' := zc.mk H
    clear H
    go_enter Try.func21, Try.ntmps21
    try go_wp2_with (first | ((with_reducible refine zA (N := 5) rfl ?_); refine zt ?hg (N := 5) ?hd (cs := #[.int .i64 a2_0, .int .i64 a2_1, .slice A2_2 l2_2.length c2_2, .slice A2_3 l2_3.length c2_3, .int .i64 a2_4, .int .i64 a2_5]) (t := 31) ?hr ?_; (case hd => rfl); (case hg => rfl); (case hr => first | (go_simp; done) | (go_simp; rfl)); intro gb252 hg w7 hbox hb; have n0_ := zc.mk (zh (by repeat (first | (with_reducible first | exact HB.out | apply zf | apply zd | apply ze) | exact HB.out)) hb); have n1_ := zc.mk (hbox); have n2_ := zc.mk ((by rw [hg]; exact (zp (by repeat (first | (with_reducible first | exact HB.out | apply zf | apply zd | apply ze) | exact HB.out))) : w.heap.size ≤ gb252)); have n3_ := zc.mk ((by rw [hg]; exact (zp (by repeat (first | (with_reducible first | exact HB.out | apply zf | apply zd | apply ze) | exact HB.out))) : w.heap.size ≤ gb252)); clear HB; have HB := n0_; have BK252 := n1_; have GW252 := n2_; have GE252 := n3_; clear n0_ n1_ n2_ n3_; clear hb hbox hg; have hcz8_0 : w7.cell? ⟨gb252, 0, none⟩ = some (.int .i64 a2_0) := (zb BK252.out 0).trans rfl; have hcz8_1 : w7.cell? ⟨gb252, 1, none⟩ = some (.int .i64 a2_1) := (zb BK252.out 1).trans rfl; have hcz8_2 : w7.cell? ⟨gb252, 2, none⟩ = some (.slice A2_2 l2_2.length c2_2) := (zb BK252.out 2).trans rfl; have hcz8_3 : w7.cell? ⟨gb252, 3, none⟩ = some (.slice A2_3 l2_3.length c2_3) := (zb BK252.out 3).trans rfl; have hcz8_4 : w7.cell? ⟨gb252, 4, none⟩ = some (.int .i64 a2_4) := (zb BK252.out 4).trans rfl; have hcz8_5 : w7.cell? ⟨gb252, 5, none⟩ = some (.int .i64 a2_5) := (zb BK252.out 5).trans rfl; have hfz8_0 := za BK252.out 0; have hfz8_1 := za BK252.out 1; have hfz8_2 := za BK252.out 2; have hfz8_3 := za BK252.out 3; have hfz8_4 := za BK252.out 4; have hfz8_5 := za BK252.out 5) | ((with_reducible refine zr (f := 26) rfl ?_); refine zR (some 17) rfl rfl Try.func26 (by kernel_rfl) rfl #[.agg #[.int .i64 a2_0, .int .i64 a2_1, .slice A2_2 l2_2.length c2_2, .slice A2_3 l2_3.length c2_3, .int .i64 a2_4, .int .i64 a2_5], .int .i64 a0] rfl (by (try simp only [List.map_toArray, List.map_cons, List.map_nil]); first | done | rfl | (simp only [List.length_drop, List.length_take]; rfl)) ?_; (with_reducible refine (zaJ.calls a2_0 a2_1 _ _ l2_2 _ _ l2_3 a2_4 a2_5 a0 t253 t254 _ ?side1 ?side2 ?side3 ?side4 A4.out).mono ?_); (case side1 => repeat (first | exact (Kd.C_below HR2_2.out HB.out) | (with_reducible refine Kd.C_alloc ?_ _) | (with_reducible refine Kd.C_drewN ?_ _) | (with_reducible refine Kd.C_drew ?_))); (case side2 => exact HC2_2.out); (case side3 => repeat (first | exact (Kd.C_below HR2_3.out HB.out) | (with_reducible refine Kd.C_alloc ?_ _) | (with_reducible refine Kd.C_drewN ?_ _) | (with_reducible refine Kd.C_drew ?_))); (case side4 => exact HC2_3.out); rintro e w9 ⟨rfl, hb⟩; refine ⟨_, rfl, ?_⟩; have n0_ := zc.mk (zl (g := gb252) (o := .cells #[.int .i64 a2_0, .int .i64 a2_1, .slice A2_2 l2_2.length c2_2, .slice A2_3 l2_3.length c2_3, .int .i64 a2_4, .int .i64 a2_5] 31 (0, 0)) (by (with_reducible repeat (first | refine zi ?_ _ | refine zk ?_ | refine zj ?_ _)); exact BK252.out) hb); have n1_ := zc.mk (zh (by repeat (first | (with_reducible first | exact HB.out | apply zf | apply zd | apply ze | refine zg ?_ GE252.out) | exact HB.out)) hb); clear BK252; clear HB; have BK252 := n0_; have HB := n1_; clear n0_ n1_; (try clear hb); (try clear hb2); (try clear hk); (try clear hi)))
    have n0_ := zc.mk (zk BK252.out)
    have n1_ := zc.mk (ze HB.out)
    clear BK252
    clear HB
    have BK252 := n0_
    have HB := n1_
    clear n0_ n1_
    refine zcl (n := 7) (S := fun w' => w'.cell? ⟨gb252, 0, none⟩ = some (.int .i64 a2_0) ∧ w'.cell? ⟨gb252, 1, none⟩ = some (.int .i64 a2_1) ∧ w'.cell? ⟨gb252, 2, none⟩ = some (.slice A2_2 l2_2.length c2_2) ∧ w'.cell? ⟨gb252, 3, none⟩ = some (.slice A2_3 l2_3.length c2_3) ∧ w'.cell? ⟨gb252, 4, none⟩ = some (.int .i64 a2_4) ∧ w'.cell? ⟨gb252, 5, none⟩ = some (.int .i64 a2_5)) (ds := []) #[false, false, false, false, false, false, false] (by kernel_rfl) rfl rfl ⟨(zb BK252.out 0).trans rfl, (zb BK252.out 1).trans rfl, (zb BK252.out 2).trans rfl, (zb BK252.out 3).trans rfl, (zb BK252.out 4).trans rfl, (zb BK252.out 5).trans rfl⟩ (fun hHeld => ?_)
    generalize w9.drew = w10 at BK252 HB hHeld ⊢
    refine zI (i := 0) (N := some 23) (v := ?_) (a' := ?_) #[true, false, false, false, false, false, false] rfl rfl (by kernel_rfl) (fun _ _ _ h => h) (Or.inl ⟨by rfl, ?_⟩) ?_ ?_
    rotate_left
    · intro w'
      go_simp
      with_reducible rfl
    rotate_left
    · simp only [Act.put, List.setIfInBounds_toArray, List.set_cons_zero, List.set_cons_succ, zs, zu]
      rfl
    refine zI (i := 2) (N := some 25) (v := ?_) (a' := ?_) #[true, false, true, false, false, false, false] rfl rfl (by kernel_rfl) (fun _ _ _ h => h) (Or.inl ⟨by rfl, ?_⟩) ?_ ?_
    rotate_left
    · intro w'
      go_simp
      with_reducible rfl
    rotate_left
    · simp only [Act.put, List.setIfInBounds_toArray, List.set_cons_zero, List.set_cons_succ, zs, zu]
      rfl
    refine take_ (i := 1) (N := some 24) (v := ?_) (a' := ?_) #[true, true, true, false, false, false, false] rfl rfl (by kernel_rfl) (fun _ _ _ h => h) (Or.inl ⟨by rfl, ?_⟩) hHeld ?_ ?_
    rotate_left
    · rintro w' ⟨s0, s1, s2, s3, s4, s5⟩
      go_simp
      with_reducible rfl
    rotate_left
    · simp only [Act.put, List.setIfInBounds_toArray, List.set_cons_zero, List.set_cons_succ, zs, zu]
      rfl
    refine zb5 (i := 3) (N := some 26) #[true, true, true, true, false, false, false] rfl rfl (by kernel_rfl) (by decide) (fun K hK => ?_)
    refine zbx Try.func9 (by kernel_rfl) rfl #[.string t253] (by rfl) rfl rfl (by (try simp only [List.map_toArray, List.map_cons, List.map_nil]); first | done | rfl | (simp only [List.length_drop, List.length_take]; rfl)) ?_
    with_reducible refine (zaT.calls t253 t255 _ A6.out).mono ?_
    rintro e w' ⟨rfl, ⟨nd, rfl⟩⟩
    refine ⟨_, rfl, ?_⟩
    refine hK.out _ _ ⟨(zb BK252.out 0).trans rfl, (zb BK252.out 1).trans rfl, (zb BK252.out 2).trans rfl, (zb BK252.out 3).trans rfl, (zb BK252.out 4).trans rfl, (zb BK252.out 5).trans rfl⟩ (fun hHeld => ?_)
    clear hK K
    refine zbp (a' := ?_) ?_ ?_
    rotate_left
    · show Act.put _ (some 26) _ = _
      simp only [Act.put, List.setIfInBounds_toArray, List.set_cons_zero, List.set_cons_succ, zs, zu]
      rfl
    refine zI (i := 4) (N := some 27) (v := ?_) (a' := ?_) #[true, true, true, true, true, false, false] rfl rfl (by kernel_rfl) (fun _ _ _ h => h) (Or.inl ⟨by rfl, ?_⟩) ?_ ?_
    rotate_left
    · intro w'
      go_simp
      with_reducible rfl
    rotate_left
    · simp only [Act.put, List.setIfInBounds_toArray, List.set_cons_zero, List.set_cons_succ, zs, zu]
      rfl
    refine zb5 (i := 5) (N := some 28) #[true, true, true, true, true, true, false] rfl rfl (by kernel_rfl) (by decide) (fun K hK => ?_)
    refine Kd.R_lit_step k58 _ 58 ?hg (N := 28) ?hd (xs := ([(⟨a2_0, t255⟩ : S58)] : List (S58))) (inner := [.int .i64 a2_0, .string t255]) (ok := fun _ => True) (okp := fun _ => True) ?hr ?hp (fun _ hk => hk) trivial (Below.refl _ _) (Nat.le_refl _) (by simp) ?_; (case hd => rfl); (case hg => rfl); (case hr => first | (go_simp; done) | (go_simp; rfl)); (case hp => exact (zaH.c2 (show Kd.M k58 _ _ _ (⟨a2_0, t255⟩ : S58) [.int .i64 a2_0, .string t255] from (zb4 _ _ _ (⟨a2_0, t255⟩ : S58) )) (zaH.none _ _)))
    intro v257 w11 ho12 hb hg_ hnew_
    clear hg_ hnew_
    (first | rw [← Ny256.out] at ho12 | (simp only [Int.reduceToNat] at ho12; rw [← Ny256.out] at ho12))
    have n0_ := zc.mk (Kd.R_lower ho12 (zp (by repeat (first | (with_reducible first | exact HB.out | apply zf | apply zd | apply ze | refine zg ?_ GE252.out) | exact HB.out))))
    have n1_ := zc.mk (zl (g := gb252) (o := .cells #[.int .i64 a2_0, .int .i64 a2_1, .slice A2_2 l2_2.length c2_2, .slice A2_3 l2_3.length c2_3, .int .i64 a2_4, .int .i64 a2_5] 31 (0, 0)) (by (with_reducible repeat (first | refine zi ?_ _ | refine zk ?_ | refine zj ?_ _)); exact BK252.out) hb)
    have n2_ := zc.mk (zh (by repeat (first | (with_reducible first | exact HB.out | apply zf | apply zd | apply ze | refine zg ?_ GE252.out) | exact HB.out)) hb)
    clear BK252
    clear HB
    have HO258 := n0_
    have BK252 := n1_
    have HB := n2_
    clear n0_ n1_ n2_
    clear hb ho12
    refine hK.out _ _ ⟨(zb BK252.out 0).trans rfl, (zb BK252.out 1).trans rfl, (zb BK252.out 2).trans rfl, (zb BK252.out 3).trans rfl, (zb BK252.out 4).trans rfl, (zb BK252.out 5).trans rfl⟩ (fun hHeld => ?_)
    clear hK K
    refine zbp (a' := ?_) ?_ ?_
    rotate_left
    · show Act.put _ (some 28) _ = _
      simp only [Act.put, List.setIfInBounds_toArray, List.set_cons_zero, List.set_cons_succ, zs, zu]
      rfl
    refine zI (i := 6) (N := some 9) (v := ?_) (a' := ?_) #[true, true, true, true, true, true, true] rfl rfl (by kernel_rfl) (fun _ _ _ h => h) (Or.inl ⟨by rfl, ?_⟩) ?_ ?_
    rotate_left
    · intro w'
      go_simp
      with_reducible rfl
    rotate_left
    · simp only [Act.put, List.setIfInBounds_toArray, List.set_cons_zero, List.set_cons_succ, zs, zu]
      rfl
    refine zcT (by kernel_rfl) ?_
    have hcz13_0 : w11.cell? ⟨gb252, 0, none⟩ = some (.int .i64 a2_0) := (zb BK252.out 0).trans rfl
    have hcz13_1 : w11.cell? ⟨gb252, 1, none⟩ = some (.int .i64 a2_1) := (zb BK252.out 1).trans rfl
    have hcz13_2 : w11.cell? ⟨gb252, 2, none⟩ = some (.slice A2_2 l2_2.length c2_2) := (zb BK252.out 2).trans rfl
    have hcz13_3 : w11.cell? ⟨gb252, 3, none⟩ = some (.slice A2_3 l2_3.length c2_3) := (zb BK252.out 3).trans rfl
    have hcz13_4 : w11.cell? ⟨gb252, 4, none⟩ = some (.int .i64 a2_4) := (zb BK252.out 4).trans rfl
    have hcz13_5 : w11.cell? ⟨gb252, 5, none⟩ = some (.int .i64 a2_5) := (zb BK252.out 5).trans rfl
    have hfz13_0 := za BK252.out 0
    have hfz13_1 := za BK252.out 1
    have hfz13_2 := za BK252.out 2
    have hfz13_3 := za BK252.out 3
    have hfz13_4 := za BK252.out 4
    have hfz13_5 := za BK252.out 5
    try go_wp2
    go_loopg [9, 32] k (fun kq v9 v32 w' => ∃ (x9_1 : List (S58)) (x32_1 : Int), v32 = .int .i64 x32_1 ∧ zc (z9.l0 kq l1 x9_1 l2_2 (l2_2.length : Int) x32_1 = some r) ∧ zc (kq ≤ k) ∧ zc (Kd.R k58 58 w' w.heap.size (fun _ => True) v9 x9_1) ∧ zc (w'.heap[gb252]? = some (.cells #[.int .i64 a2_0, .int .i64 a2_1, (.slice A2_2 l2_2.length c2_2), (.slice A2_3 l2_3.length c2_3), .int .i64 a2_4, .int .i64 a2_5] 31 (0, 0))) ∧ zc (Below w.heap.size w w'))
    case atStart => exact ⟨(y256), (0), (by first | rfl | (simp; done) | (simp [*]; done)), H', ⟨Nat.le_refl _⟩, ⟨by (with_reducible repeat (first | apply Kd.R_alloc | apply Kd.R_drewN | apply Kd.R_drew)); exact HO258.out⟩, ⟨by (with_reducible repeat (first | refine zi ?_ _ | refine zk ?_ | refine zj ?_ _)); exact BK252.out⟩, ⟨by repeat (first | (with_reducible first | exact HB.out | apply zf | apply zd | apply ze | refine zg ?_ GE252.out) | exact HB.out)⟩⟩
    case round =>
      clear H'
      try clear c1
      try clear c2
      try clear p2
      try clear c5
      try clear c5b0
      try clear c5b1
      try clear c9
      try clear hcz13_0
      try clear hcz13_1
      try clear hcz13_2
      try clear hcz13_3
      try clear hcz13_4
      try clear hcz13_5
      try clear hcz8_0
      try clear hcz8_1
      try clear hcz8_2
      try clear hcz8_3
      try clear hcz8_4
      try clear hcz8_5
      try clear hfz13_0
      try clear hfz13_1
      try clear hfz13_2
      try clear hfz13_3
      try clear hfz13_4
      try clear hfz13_5
      try clear hfz8_0
      try clear hfz8_1
      try clear hfz8_2
      try clear hfz8_3
      try clear hfz8_4
      try clear hfz8_5
      obtain ⟨x9_1, x32_1, rfl, HA, HK1, HO_9, BK252, HB⟩ := hrel
      cases gk with
      | zero => exact absurd HA.out (by simp [z9.l0])
      | succ k1 =>
        have H := HA.out
        clear HA
        simp only [z9.l0] at H
        by_cases c14 : x32_1 < (l2_2.length : Int)
        · rw [if_pos c14] at H
          have c14b0 : decide (x32_1 < (l2_2.length : Int)) = true := decide_eq_true c14
          clear c14
          by_cases c15 : 0 ≤ x32_1
          · rw [if_pos c15] at H
            have c15b0 : decide (0 ≤ x32_1) = true := decide_eq_true c15
            clear c15
            by_cases c16 : x32_1 < (l2_2.length : Int)
            · rw [if_pos c16] at H
              have c16b0 : decide (x32_1 < (l2_2.length : Int)) = true := decide_eq_true c16
              clear c16
              replace H := Option.bind_eq_some_iff.mp H
              obtain ⟨⟨t261, t262⟩, A170, H⟩ := H
              replace H : ((zaN.f t261).bind fun t263 => (if x9_1.length < 5864062014805 then (z9.l0 k1 l1 (x9_1 ++ [(⟨(zQ l2_2 x32_1).f0, t263⟩ : S58)]) l2_2 (l2_2.length : Int) (wrap64 (x32_1 + 1))) else (none))) = some r := H
              have A17 := zc.mk A170
              clear A170
              replace H := Option.bind_eq_some_iff.mp H
              obtain ⟨t263, A180, H⟩ := H
              replace H : (if x9_1.length < 5864062014805 then (z9.l0 k1 l1 (x9_1 ++ [(⟨(zQ l2_2 x32_1).f0, t263⟩ : S58)]) l2_2 (l2_2.length : Int) (wrap64 (x32_1 + 1))) else (none)) = some r := H
              have A18 := zc.mk A180
              clear A180
              by_cases c19 : x9_1.length < 5864062014805
              · rw [if_pos c19] at H
                have LMc19 := zc.mk c19
                clear c19
                obtain ⟨y264, hy264⟩ : ∃ y_ : List (S58), y_ = (x9_1 ++ [(⟨(zQ l2_2 x32_1).f0, t263⟩ : S58)]) := ⟨_, rfl⟩
                replace H : (z9.l0 k1 l1 y264 l2_2 (l2_2.length : Int) (wrap64 (x32_1 + 1))) = some r := by first | (rw [hy264]; with_reducible exact H) | (have H2_ := (Option.bind_some _ _).symm.trans H; rw [hy264]; with_reducible exact H2_) | (have H2_ := (Option.bind_some _ _).symm.trans H; with_reducible exact H2_) | with_reducible exact H | (rw [hy264]; exact H) | exact H
                have Ny264 := zc.mk hy264
                clear hy264
                have H' := zc.mk H
                clear H
                have p259 : 0 ≤ (x32_1 : Int) := of_decide_eq_true (by first | (with_reducible assumption) | assumption)
                have q259 : x32_1 < (l2_2.length : Int) := of_decide_eq_true (by first | (with_reducible assumption) | assumption)
                obtain ⟨ad259, A259_2, c259_2, e259, hx259_0, hx259_1, hx259_2, hl259_2, hi259_2⟩ := zbI HR2_2.out x32_1 p259 q259
                cases e259
                replace hx259_0 := (HB.out.cell (World.block_lt_of_cell? w _ hx259_0)).trans hx259_0
                replace hx259_1 := (HB.out.cell (World.block_lt_of_cell? w _ hx259_1)).trans hx259_1
                replace hx259_2 := (HB.out.cell (World.block_lt_of_cell? w _ hx259_2)).trans hx259_2
                have HR259_2 := zc.mk hi259_2
                have HC259_2 := zc.mk hl259_2
                clear hi259_2 hl259_2
                replace p259 := eq_true p259
                replace q259 := eq_true q259
                try go_wp2_with (first | ((with_reducible refine zA (N := 11) rfl ?_); refine zt ?hg (N := 11) ?hd (cs := #[.int .i64 0, .int .i64 0, .slice none 0 0]) (t := 68) ?hr ?_; (case hd => rfl); (case hg => rfl); (case hr => first | (go_simp; done) | (go_simp; rfl)); intro gb260 hg w20 hbox hb; have n0_ := zc.mk (Kd.R_below (by (with_reducible repeat (first | apply Kd.R_alloc | apply Kd.R_drewN | apply Kd.R_drew)); exact HO_9.out) hb); have n1_ := zc.mk (zl (g := gb252) (o := .cells #[.int .i64 a2_0, .int .i64 a2_1, .slice (some ad259) l2_2.length c2_2, .slice A2_3 l2_3.length c2_3, .int .i64 a2_4, .int .i64 a2_5] 31 (0, 0)) (by (with_reducible repeat (first | refine zi ?_ _ | refine zk ?_ | refine zj ?_ _)); exact BK252.out) hb); have n2_ := zc.mk (zh (by repeat (first | (with_reducible first | exact HB.out | apply zf | apply zd | apply ze | refine zg ?_ GE252.out) | exact HB.out)) hb); have n3_ := zc.mk (hbox); have n4_ := zc.mk ((by rw [hg]; exact (zp (by repeat (first | (with_reducible first | exact HB.out | apply zf | apply zd | apply ze | refine zg ?_ GE252.out) | exact HB.out))) : w.heap.size ≤ gb260)); have n5_ := zc.mk ((by rw [hg]; exact (zp (by repeat (first | (with_reducible first | exact HB.out | apply zf | apply zd | apply ze | refine zg ?_ GE252.out) | exact HB.out))) : w.heap.size ≤ gb260)); have n6_ := zc.mk ((by rw [hg]; exact Nat.ne_of_lt (za8 (g := gb252) (o := .cells #[.int .i64 a2_0, .int .i64 a2_1, .slice (some ad259) l2_2.length c2_2, .slice A2_3 l2_3.length c2_3, .int .i64 a2_4, .int .i64 a2_5] 31 (0, 0)) (by (with_reducible repeat (first | refine zi ?_ _ | refine zk ?_ | refine zj ?_ _)); exact BK252.out)) : gb252 ≠ gb260)); have n7_ := zc.mk ((by rw [hg]; exact Nat.ne_of_gt (za8 (g := gb252) (o := .cells #[.int .i64 a2_0, .int .i64 a2_1, .slice (some ad259) l2_2.length c2_2, .slice A2_3 l2_3.length c2_3, .int .i64 a2_4, .int .i64 a2_5] 31 (0, 0)) (by (with_reducible repeat (first | refine zi ?_ _ | refine zk ?_ | refine zj ?_ _)); exact BK252.out)) : gb260 ≠ gb252)); clear HO_9; clear BK252; clear HB; have HO_9 := n0_; have BK252 := n1_; have HB := n2_; have BK260 := n3_; have GW260 := n4_; have GE260 := n5_; have NB252_260 := n6_; have NB260_252 := n7_; clear n0_ n1_ n2_ n3_ n4_ n5_ n6_ n7_; clear hb hbox hg; have hnb21 := NB260_252.out; have hnc21 := NB252_260.out; have hcz22_0 : w20.cell? ⟨gb260, 0, none⟩ = some (.int .i64 0) := (zb BK260.out 0).trans rfl; have hcz22_1 : w20.cell? ⟨gb260, 1, none⟩ = some (.int .i64 0) := (zb BK260.out 1).trans rfl; have hcz22_2 : w20.cell? ⟨gb260, 2, none⟩ = some (.slice none 0 0) := (zb BK260.out 2).trans rfl; have hfz22_0 := za BK260.out 0; have hfz22_1 := za BK260.out 1; have hfz22_2 := za BK260.out 2) | ((with_reducible refine zr (f := 33) rfl ?_); refine zR (some 38) rfl rfl Try.func33 (by kernel_rfl) rfl #[.agg #[.int .i64 ((zQ l2_2 x32_1).f0), .int .i64 ((zQ l2_2 x32_1).f1), .slice A259_2 ((zQ l2_2 x32_1).f2).length c259_2]] rfl (by (try simp only [List.map_toArray, List.map_cons, List.map_nil]); first | done | rfl | (simp only [List.length_drop, List.length_take]; rfl)) ?_; (with_reducible refine (zbJ.calls ((zQ l2_2 x32_1).f0) ((zQ l2_2 x32_1).f1) _ _ ((zQ l2_2 x32_1).f2) t261 t262 _ ?side1 ?side2 A17.out).mono ?_); (case side1 => exact Kd.C_below HR259_2.out (by repeat (first | (with_reducible first | exact HB.out | apply zf | apply zd | apply ze | refine zg ?_ GE252.out | refine zg ?_ GE260.out) | exact HB.out))); (case side2 => exact HC259_2.out); rintro e w23 ⟨rfl, hb⟩; refine ⟨_, rfl, ?_⟩; have n0_ := zc.mk (Kd.R_below (by (with_reducible repeat (first | apply Kd.R_alloc | apply Kd.R_drewN | apply Kd.R_drew)); exact (Kd.R_mono (Kd.R_far (p := ⟨gb260, 2, none⟩) (Kd.R_far (p := ⟨gb260, 1, none⟩) (Kd.R_far (p := ⟨gb260, 0, none⟩) (Kd.R_types HO_9.out BK260.out (by decide)) (fun _ hk => hk.2) (.int .i64 ((zQ l2_2 x32_1).f0))) (fun _ hk => hk.2) (.int .i64 ((zQ l2_2 x32_1).f1))) (fun _ hk => hk.2) (.slice A259_2 ((zQ l2_2 x32_1).f2).length c259_2)) (fun _ h_ => h_.1))) hb); have n1_ := zc.mk (zl (g := gb252) (o := .cells #[.int .i64 a2_0, .int .i64 a2_1, .slice (some ad259) l2_2.length c2_2, .slice A2_3 l2_3.length c2_3, .int .i64 a2_4, .int .i64 a2_5] 31 (0, 0)) (by (with_reducible repeat (first | refine zi ?_ _ | refine zk ?_ | refine zj ?_ _)); refine zbe ?_ NB252_260.out _; (with_reducible repeat (first | refine zi ?_ _ | refine zk ?_ | refine zj ?_ _)); refine zbe ?_ NB252_260.out _; (with_reducible repeat (first | refine zi ?_ _ | refine zk ?_ | refine zj ?_ _)); refine zbe ?_ NB252_260.out _; (with_reducible repeat (first | refine zi ?_ _ | refine zk ?_ | refine zj ?_ _)); exact BK252.out) hb); have n2_ := zc.mk (zl (g := gb260) (o := .cells #[.int .i64 ((zQ l2_2 x32_1).f0), .int .i64 ((zQ l2_2 x32_1).f1), .slice A259_2 ((zQ l2_2 x32_1).f2).length c259_2] 68 (0, 0)) (by (with_reducible repeat (first | refine zi ?_ _ | refine zk ?_ | refine zj ?_ _)); refine zai (cs := #[.int .i64 ((zQ l2_2 x32_1).f0), .int .i64 ((zQ l2_2 x32_1).f1), .slice none 0 0]) ?_ 2 _ rfl; (with_reducible repeat (first | refine zi ?_ _ | refine zk ?_ | refine zj ?_ _)); refine zai (cs := #[.int .i64 ((zQ l2_2 x32_1).f0), .int .i64 0, .slice none 0 0]) ?_ 1 _ rfl; (with_reducible repeat (first | refine zi ?_ _ | refine zk ?_ | refine zj ?_ _)); refine zai (cs := #[.int .i64 0, .int .i64 0, .slice none 0 0]) ?_ 0 _ rfl; (with_reducible repeat (first | refine zi ?_ _ | refine zk ?_ | refine zj ?_ _)); exact BK260.out) hb); have n3_ := zc.mk (zh (by repeat (first | (with_reducible first | exact HB.out | apply zf | apply zd | apply ze | refine zg ?_ GE252.out | refine zg ?_ GE260.out) | exact HB.out)) hb); clear HO_9; clear BK252; clear BK260; clear HB; have HO_9 := n0_; have BK252 := n1_; have BK260 := n2_; have HB := n3_; clear n0_ n1_ n2_ n3_; (try clear hb); (try clear hb2); (try clear hk); (try clear hi)))
                have n0_ := zc.mk (Kd.R_drew HO_9.out)
                have n1_ := zc.mk (zk BK252.out)
                have n2_ := zc.mk (zk BK260.out)
                have n3_ := zc.mk (ze HB.out)
                clear HO_9
                clear BK252
                clear BK260
                clear HB
                have HO_9 := n0_
                have BK252 := n1_
                have BK260 := n2_
                have HB := n3_
                clear n0_ n1_ n2_ n3_
                refine zcl (n := 9) (S := fun w' => w'.cell? ⟨gb260, 0, none⟩ = some (.int .i64 ((zQ l2_2 x32_1).f0)) ∧ w'.cell? ⟨gb260, 1, none⟩ = some (.int .i64 ((zQ l2_2 x32_1).f1)) ∧ w'.cell? ⟨gb260, 2, none⟩ = some (.slice A259_2 ((zQ l2_2 x32_1).f2).length c259_2)) (ds := []) #[false, false, false, false, false, false, false, false, false] (by kernel_rfl) rfl rfl ⟨(zb BK260.out 0).trans rfl, (zb BK260.out 1).trans rfl, (zb BK260.out 2).trans rfl⟩ (fun hHeld => ?_); refine zbE z9.tab9 z9.bits9 (fun HT_ HW_ => ?_)
                generalize w23.drew = w24 at HO_9 BK252 BK260 HB hHeld ⊢
                refine zI (i := 0) (N := some 41) (v := ?_) (a' := ?_) #[true, false, false, false, false, false, false, false, false] rfl rfl (zB HT_.out (by kernel_rfl)) (fun _ _ _ h => h) (Or.inl ⟨by rfl, ?_⟩) ?_ ?_
                rotate_left
                · intro w'
                  go_simp
                  with_reducible rfl
                rotate_left
                · simp only [Act.put, List.setIfInBounds_toArray, List.set_cons_zero, List.set_cons_succ, zs, zu]
                  rfl
                refine zI (i := 1) (N := some 42) (v := ?_) (a' := ?_) #[true, true, false, false, false, false, false, false, false] rfl rfl (zB HT_.out (by kernel_rfl)) (fun _ _ _ h => h) (Or.inl ⟨by rfl, ?_⟩) ?_ ?_
                rotate_left
                · intro w'
                  go_simp
                  with_reducible rfl
                rotate_left
                · simp only [Act.put, List.setIfInBounds_toArray, List.set_cons_zero, List.set_cons_succ, zs, zu]
                  rfl
                refine zI (i := 3) (N := some 44) (v := ?_) (a' := ?_) #[true, true, false, true, false, false, false, false, false] rfl rfl (zB HT_.out (by kernel_rfl)) (fun _ _ _ h => h) (Or.inl ⟨by rfl, ?_⟩) ?_ ?_
                rotate_left
                · intro w'
                  go_simp
                  with_reducible rfl
                rotate_left
                · simp only [Act.put, List.setIfInBounds_toArray, List.set_cons_zero, List.set_cons_succ, zs, zu]
                  rfl
                refine take_ (i := 2) (N := some 43) (v := ?_) (a' := ?_) #[true, true, true, true, false, false, false, false, false] rfl rfl (zaQ HT_.out HW_.out (by kernel_rfl)) (fun _ _ _ h => h) (Or.inl ⟨by rfl, ?_⟩) hHeld ?_ ?_
                rotate_left
                · rintro w' ⟨s0, s1, s2⟩
                  go_simp
                  with_reducible rfl
                rotate_left
                · simp only [Act.put, List.setIfInBounds_toArray, List.set_cons_zero, List.set_cons_succ, zs, zu]
                  rfl
                refine zb5 (i := 4) (N := some 45) #[true, true, true, true, true, false, false, false, false] rfl rfl (zbl HT_.out (by kernel_rfl)) (by decide) (fun K hK => ?_)
                refine zbx Try.func11 (by kernel_rfl) rfl #[.string t261] (by rfl) rfl rfl (by (try simp only [List.map_toArray, List.map_cons, List.map_nil]); first | done | rfl | (simp only [List.length_drop, List.length_take]; rfl)) ?_
                with_reducible refine (zaN.calls t261 t263 _ A18.out).mono ?_
                rintro e w' ⟨rfl, ⟨nd, rfl⟩⟩
                refine ⟨_, rfl, ?_⟩
                refine hK.out _ _ ⟨(zb BK260.out 0).trans rfl, (zb BK260.out 1).trans rfl, (zb BK260.out 2).trans rfl⟩ (fun hHeld => ?_)
                clear hK K
                refine zbp (a' := ?_) ?_ ?_
                rotate_left
                · show Act.put _ (some 45) _ = _
                  simp only [Act.put, List.setIfInBounds_toArray, List.set_cons_zero, List.set_cons_succ, zs, zu]
                  rfl
                refine zI (i := 5) (N := some 46) (v := ?_) (a' := ?_) #[true, true, true, true, true, true, false, false, false] rfl rfl (zB HT_.out (by kernel_rfl)) (fun _ _ _ h => h) (Or.inl ⟨by rfl, ?_⟩) ?_ ?_
                rotate_left
                · intro w'
                  go_simp
                  with_reducible rfl
                rotate_left
                · simp only [Act.put, List.setIfInBounds_toArray, List.set_cons_zero, List.set_cons_succ, zs, zu]
                  rfl
                refine zb5 (i := 6) (N := some 47) #[true, true, true, true, true, true, true, false, false] rfl rfl (zbl HT_.out (by kernel_rfl)) (by decide) (fun K hK => ?_)
                refine value_ (w1 := ?_) (v := ?_) (by rfl) rfl ?_ ?_
                rotate_left 2
                · go_simp
                  constructor
                  · rfl
                  · rfl
                refine hK.out _ _ ⟨(zb (zj BK260.out _) 0).trans rfl, (zb (zj BK260.out _) 1).trans rfl, (zb (zj BK260.out _) 2).trans rfl⟩ (fun hHeld => ?_)
                clear hK K
                refine zbp (a' := ?_) ?_ ?_
                rotate_left
                · show Act.put _ (some 47) _ = _
                  simp only [Act.put, List.setIfInBounds_toArray, List.set_cons_zero, List.set_cons_succ, zs, zu]
                  rfl
                refine zb5 (i := 7) (N := some 48) #[true, true, true, true, true, true, true, true, false] rfl rfl (zbl HT_.out (by kernel_rfl)) (by decide) (fun K hK => ?_)
                refine Kd.R_append_step k58 (w0 := w) w.heap.size (by rfl) (.tmp 41) (.tmp 47) 25 58 (.agg #[(.int .i64 0), (.string ⟨#[]⟩)]) 24 rfl Try.underlying25 info58 rfl (by decide) (by omega) u9 x9_1 (⟨(zQ l2_2 x32_1).f0, t263⟩ : S58) [.int .i64 ((zQ l2_2 x32_1).f0), .string t263] (fun _ => True) (fun _ => False) rfl rfl ?aP (fun _ hk => hk.elim) ?aF ?aO ?aB ?aS ?aL ?_
                (case aP => exact zb4 _ _ _ (⟨(zQ l2_2 x32_1).f0, t263⟩ : S58))
                (case aB => exact (by repeat (first | (with_reducible first | exact HB.out | apply zf | apply zd | apply ze | refine zg ?_ GE252.out | refine zg ?_ GE260.out) | exact HB.out)))
                (case aF => exact (fun _ _ => trivial))
                (case aO => exact (by (with_reducible repeat (first | apply Kd.R_alloc | apply Kd.R_drewN | apply Kd.R_drew)); exact HO_9.out))
                (case aS => exact (zp (by repeat (first | (with_reducible first | exact HB.out | apply zf | apply zd | apply ze | refine zg ?_ GE252.out | refine zg ?_ GE260.out) | exact HB.out))))
                (case aL => have := LMc19.out; omega)
                intro v265 w25 ho hb hg hat
                rw [← Ny264.out] at ho
                have n0_ := zc.mk (zeh (g := gb252) (o := .cells #[.int .i64 a2_0, .int .i64 a2_1, .slice (some ad259) l2_2.length c2_2, .slice A2_3 l2_3.length c2_3, .int .i64 a2_4, .int .i64 a2_5] 31 (0, 0)) (by (with_reducible repeat (first | refine zi ?_ _ | refine zk ?_ | refine zj ?_ _)); exact BK252.out) hg (Kd.R_ne HO_9.out BK252.out (by decide)))
                have n1_ := zc.mk (zeh (g := gb260) (o := .cells #[.int .i64 ((zQ l2_2 x32_1).f0), .int .i64 ((zQ l2_2 x32_1).f1), .slice A259_2 ((zQ l2_2 x32_1).f2).length c259_2] 68 (0, 0)) (by (with_reducible repeat (first | refine zi ?_ _ | refine zk ?_ | refine zj ?_ _)); exact BK260.out) hg (Kd.R_ne HO_9.out BK260.out (by decide)))
                have n2_ := zc.mk (hb)
                have n3_ := zc.mk (ho)
                clear BK252
                clear BK260
                clear HB
                clear HO_9
                have BK252 := n0_
                have BK260 := n1_
                have HB := n2_
                have HO266 := n3_
                clear n0_ n1_ n2_ n3_
                clear ho hb hg hat
                refine hK.out _ _ ⟨(zb BK260.out 0).trans rfl, (zb BK260.out 1).trans rfl, (zb BK260.out 2).trans rfl⟩ (fun hHeld => ?_)
                clear hK K
                refine zbp (a' := ?_) ?_ ?_
                rotate_left
                · show Act.put _ (some 48) _ = _
                  simp only [Act.put, List.setIfInBounds_toArray, List.set_cons_zero, List.set_cons_succ, zs, zu]
                  rfl
                refine zI (i := 8) (N := some 9) (v := ?_) (a' := ?_) #[true, true, true, true, true, true, true, true, true] rfl rfl (zB HT_.out (by kernel_rfl)) (fun _ _ _ h => h) (Or.inl ⟨by rfl, ?_⟩) ?_ ?_
                rotate_left
                · intro w'
                  go_simp
                  with_reducible rfl
                rotate_left
                · simp only [Act.put, List.setIfInBounds_toArray, List.set_cons_zero, List.set_cons_succ, zs, zu]
                  rfl
                refine zcT (zcp HT_.out (by kernel_rfl)) ?_
                try go_wp2
                go_roundg k1
                case measure => have := HK1.out; omega
                case rel => exact ⟨(y264), (wrap64 (x32_1 + 1)), (by first | rfl | (simp; done) | (simp [*]; done)), H', ⟨by have := HK1.out; omega⟩, ⟨by (with_reducible repeat (first | apply Kd.R_alloc | apply Kd.R_drewN | apply Kd.R_drew)); exact HO266.out⟩, ⟨by (with_reducible repeat (first | refine zi ?_ _ | refine zk ?_ | refine zj ?_ _)); exact BK252.out⟩, ⟨by repeat (first | (with_reducible first | exact HB.out | apply zf | apply zd | apply ze | refine zg ?_ GE252.out | refine zg ?_ GE260.out) | exact HB.out)⟩⟩
              · rw [if_neg c19] at H
                exact absurd H (by simp)
            · rw [if_neg c16] at H
              exact absurd H (by simp)
          · rw [if_neg c15] at H
            exact absurd H (by simp)
        · rw [if_neg c14] at H
          have c14b0 : decide (x32_1 < (l2_2.length : Int)) = false := decide_eq_false c14
          clear c14
          replace H := Option.bind_eq_some_iff.mp H
          obtain ⟨t267, A260, H⟩ := H
          replace H : (if t267 = true then (some 0) else (some 10)) = some r := H
          have A26 := zc.mk A260
          clear A260
          by_cases c27 : t267 = true
          · subst c27
            have H1 : (some 0) = some r := by rw [if_pos rfl] at H; exact H
            clear H
            have H := H1
            clear H1
            obtain rfl := Option.some.inj H
            obtain ⟨Ao28, co28, eo28⟩ := Kd.R_slice HO_9.out
            subst eo28
            go_wp2_with (first | ((with_reducible refine zr (f := 34) rfl ?_); refine zR (some 52) rfl rfl Try.func34 (by kernel_rfl) rfl #[.slice A1 l1.length c1, .slice Ao28 x9_1.length co28] rfl (by (try simp only [List.map_toArray, List.map_cons, List.map_nil]); first | done | rfl | (simp only [List.length_drop, List.length_take]; rfl)) ?_; (with_reducible refine (zbk.calls _ _ l1 _ _ x9_1 true _ ?side1 ?side2 ?side3 ?side4 A26.out).mono ?_); (case side1 => repeat (first | exact (Kd.C_below HR1.out HB.out) | (with_reducible refine Kd.C_alloc ?_ _) | (with_reducible refine Kd.C_drewN ?_ _) | (with_reducible refine Kd.C_drew ?_))); (case side2 => exact HC1.out); (case side3 => repeat (first | exact (Kd.R_reads' HO_9.out).2.2 | (with_reducible refine Kd.C_alloc ?_ _) | (with_reducible refine Kd.C_drewN ?_ _) | (with_reducible refine Kd.C_drew ?_))); (case side4 => exact (Kd.R_reads' HO_9.out).2.1); rintro e w29 ⟨rfl, hb⟩; refine ⟨_, rfl, ?_⟩; have n0_ := zc.mk (Kd.R_below (by (with_reducible repeat (first | apply Kd.R_alloc | apply Kd.R_drewN | apply Kd.R_drew)); exact HO_9.out) hb); have n1_ := zc.mk (zl (g := gb252) (o := .cells #[.int .i64 a2_0, .int .i64 a2_1, .slice A2_2 l2_2.length c2_2, .slice A2_3 l2_3.length c2_3, .int .i64 a2_4, .int .i64 a2_5] 31 (0, 0)) (by (with_reducible repeat (first | refine zi ?_ _ | refine zk ?_ | refine zj ?_ _)); exact BK252.out) hb); have n2_ := zc.mk (zh (by repeat (first | (with_reducible first | exact HB.out | apply zf | apply zd | apply ze | refine zg ?_ GE252.out) | exact HB.out)) hb); clear HO_9; clear BK252; clear HB; have HO_9 := n0_; have BK252 := n1_; have HB := n2_; clear n0_ n1_ n2_; (try clear hb); (try clear hb2); (try clear hk); (try clear hi)))
            go_ret
            exact ⟨by first | rfl | (simp [zn, zo] <;> rfl) | (simp [*, zn, zo] <;> rfl), by repeat (first | (with_reducible first | exact HB.out | apply zf | apply zd | apply ze | refine zg ?_ GE252.out) | exact HB.out)⟩
          · replace c27 := Bool.eq_false_iff.mpr c27
            subst c27
            have H1 : (some 10) = some r := by rw [if_neg (show ¬ (false = true) by decide)] at H; exact H
            clear H
            have H := H1
            clear H1
            obtain rfl := Option.some.inj H
            obtain ⟨Ao30, co30, eo30⟩ := Kd.R_slice HO_9.out
            subst eo30
            go_wp2_with (first | ((with_reducible refine zr (f := 34) rfl ?_); refine zR (some 52) rfl rfl Try.func34 (by kernel_rfl) rfl #[.slice A1 l1.length c1, .slice Ao30 x9_1.length co30] rfl (by (try simp only [List.map_toArray, List.map_cons, List.map_nil]); first | done | rfl | (simp only [List.length_drop, List.length_take]; rfl)) ?_; (with_reducible refine (zbk.calls _ _ l1 _ _ x9_1 false _ ?side1 ?side2 ?side3 ?side4 A26.out).mono ?_); (case side1 => repeat (first | exact (Kd.C_below HR1.out HB.out) | (with_reducible refine Kd.C_alloc ?_ _) | (with_reducible refine Kd.C_drewN ?_ _) | (with_reducible refine Kd.C_drew ?_))); (case side2 => exact HC1.out); (case side3 => repeat (first | exact (Kd.R_reads' HO_9.out).2.2 | (with_reducible refine Kd.C_alloc ?_ _) | (with_reducible refine Kd.C_drewN ?_ _) | (with_reducible refine Kd.C_drew ?_))); (case side4 => exact (Kd.R_reads' HO_9.out).2.1); rintro e w31 ⟨rfl, hb⟩; refine ⟨_, rfl, ?_⟩; have n0_ := zc.mk (Kd.R_below (by (with_reducible repeat (first | apply Kd.R_alloc | apply Kd.R_drewN | apply Kd.R_drew)); exact HO_9.out) hb); have n1_ := zc.mk (zl (g := gb252) (o := .cells #[.int .i64 a2_0, .int .i64 a2_1, .slice A2_2 l2_2.length c2_2, .slice A2_3 l2_3.length c2_3, .int .i64 a2_4, .int .i64 a2_5] 31 (0, 0)) (by (with_reducible repeat (first | refine zi ?_ _ | refine zk ?_ | refine zj ?_ _)); exact BK252.out) hb); have n2_ := zc.mk (zh (by repeat (first | (with_reducible first | exact HB.out | apply zf | apply zd | apply ze | refine zg ?_ GE252.out) | exact HB.out)) hb); clear HO_9; clear BK252; clear HB; have HO_9 := n0_; have BK252 := n1_; have HB := n2_; clear n0_ n1_ n2_; (try clear hb); (try clear hb2); (try clear hk); (try clear hi)))
            go_ret
            exact ⟨by first | rfl | (simp [zn, zo] <;> rfl) | (simp [*, zn, zo] <;> rfl), by repeat (first | (with_reducible first | exact HB.out | apply zf | apply zd | apply ze | refine zg ?_ GE252.out) | exact HB.out)⟩
  · rw [if_neg c5] at H
    have c5b0 : (t254 == 0) = false := beq_eq_false_iff_ne.mpr c5
    have c5b1 : (t254 != 0) = true := bne_iff_ne.mpr c5
    obtain rfl := Option.some.inj H
    go_enter Try.func21, Try.ntmps21
    go_wp2_with (first | ((with_reducible refine zA (N := 5) rfl ?_); refine zt ?hg (N := 5) ?hd (cs := #[.int .i64 a2_0, .int .i64 a2_1, .slice A2_2 l2_2.length c2_2, .slice A2_3 l2_3.length c2_3, .int .i64 a2_4, .int .i64 a2_5]) (t := 31) ?hr ?_; (case hd => rfl); (case hg => rfl); (case hr => first | (go_simp; done) | (go_simp; rfl)); intro gb252 hg w32 hbox hb; have n0_ := zc.mk (zh (by repeat (first | (with_reducible first | exact HB.out | apply zf | apply zd | apply ze) | exact HB.out)) hb); have n1_ := zc.mk (hbox); have n2_ := zc.mk ((by rw [hg]; exact (zp (by repeat (first | (with_reducible first | exact HB.out | apply zf | apply zd | apply ze) | exact HB.out))) : w.heap.size ≤ gb252)); have n3_ := zc.mk ((by rw [hg]; exact (zp (by repeat (first | (with_reducible first | exact HB.out | apply zf | apply zd | apply ze) | exact HB.out))) : w.heap.size ≤ gb252)); clear HB; have HB := n0_; have BK252 := n1_; have GW252 := n2_; have GE252 := n3_; clear n0_ n1_ n2_ n3_; clear hb hbox hg; have hcz33_0 : w32.cell? ⟨gb252, 0, none⟩ = some (.int .i64 a2_0) := (zb BK252.out 0).trans rfl; have hcz33_1 : w32.cell? ⟨gb252, 1, none⟩ = some (.int .i64 a2_1) := (zb BK252.out 1).trans rfl; have hcz33_2 : w32.cell? ⟨gb252, 2, none⟩ = some (.slice A2_2 l2_2.length c2_2) := (zb BK252.out 2).trans rfl; have hcz33_3 : w32.cell? ⟨gb252, 3, none⟩ = some (.slice A2_3 l2_3.length c2_3) := (zb BK252.out 3).trans rfl; have hcz33_4 : w32.cell? ⟨gb252, 4, none⟩ = some (.int .i64 a2_4) := (zb BK252.out 4).trans rfl; have hcz33_5 : w32.cell? ⟨gb252, 5, none⟩ = some (.int .i64 a2_5) := (zb BK252.out 5).trans rfl; have hfz33_0 := za BK252.out 0; have hfz33_1 := za BK252.out 1; have hfz33_2 := za BK252.out 2; have hfz33_3 := za BK252.out 3; have hfz33_4 := za BK252.out 4; have hfz33_5 := za BK252.out 5) | ((with_reducible refine zr (f := 26) rfl ?_); refine zR (some 17) rfl rfl Try.func26 (by kernel_rfl) rfl #[.agg #[.int .i64 a2_0, .int .i64 a2_1, .slice A2_2 l2_2.length c2_2, .slice A2_3 l2_3.length c2_3, .int .i64 a2_4, .int .i64 a2_5], .int .i64 a0] rfl (by (try simp only [List.map_toArray, List.map_cons, List.map_nil]); first | done | rfl | (simp only [List.length_drop, List.length_take]; rfl)) ?_; (with_reducible refine (zaJ.calls a2_0 a2_1 _ _ l2_2 _ _ l2_3 a2_4 a2_5 a0 t253 t254 _ ?side1 ?side2 ?side3 ?side4 A4.out).mono ?_); (case side1 => repeat (first | exact (Kd.C_below HR2_2.out HB.out) | (with_reducible refine Kd.C_alloc ?_ _) | (with_reducible refine Kd.C_drewN ?_ _) | (with_reducible refine Kd.C_drew ?_))); (case side2 => exact HC2_2.out); (case side3 => repeat (first | exact (Kd.C_below HR2_3.out HB.out) | (with_reducible refine Kd.C_alloc ?_ _) | (with_reducible refine Kd.C_drewN ?_ _) | (with_reducible refine Kd.C_drew ?_))); (case side4 => exact HC2_3.out); rintro e w34 ⟨rfl, hb⟩; refine ⟨_, rfl, ?_⟩; have n0_ := zc.mk (zl (g := gb252) (o := .cells #[.int .i64 a2_0, .int .i64 a2_1, .slice A2_2 l2_2.length c2_2, .slice A2_3 l2_3.length c2_3, .int .i64 a2_4, .int .i64 a2_5] 31 (0, 0)) (by (with_reducible repeat (first | refine zi ?_ _ | refine zk ?_ | refine zj ?_ _)); exact BK252.out) hb); have n1_ := zc.mk (zh (by repeat (first | (with_reducible first | exact HB.out | apply zf | apply zd | apply ze | refine zg ?_ GE252.out) | exact HB.out)) hb); clear BK252; clear HB; have BK252 := n0_; have HB := n1_; clear n0_ n1_; (try clear hb); (try clear hb2); (try clear hk); (try clear hi)))
    go_ret
    exact ⟨by first | rfl | (simp [zn, zo] <;> rfl) | (simp [*, zn, zo] <;> rfl), by repeat (first | (with_reducible first | exact HB.out | apply zf | apply zd | apply ze | refine zg ?_ GE252.out) | exact HB.out)⟩
end Go.Proofs.Ytlabjgcoopdbiaa.Px
