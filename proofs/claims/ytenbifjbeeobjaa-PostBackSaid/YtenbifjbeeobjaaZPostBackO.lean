/- Part 15 of 33 of the proof of the law PostBack: what is proved is the statement at the end of the last part; its conditions are those of the given row. -/
import Derived.Test.YtenbifjbeeobjaaZPostBackN
namespace Go.Proofs.Ytenbifjbeeobjaa.Px
open Go.RowKit Go.Proofs.YtenbifjbeeobjaaW.PrintWords Go.Proofs.YtenbifjbeeobjaaW.PrintLast Go.Proofs.YtenbifjbeeobjaaW.PrintMore
attribute [local go_sem] zC zE zJ zK zv zw zB zD
set_option linter.unusedVariables false
set_option linter.unusedSimpArgs false
def zaG.f (a0_0 : Int) (a0_1 : Int) (l0_2 : List (zR)) (l0_3 : List ByteArray) (a0_4 : Int) (a0_5 : Int) (a0_6 : Int) (a1 : Int) : Option (ByteArray × Int) := (zaV.f a0_0 a0_1 l0_2 l0_3 a0_4 a0_5 a0_6 a1).bind fun t468 => (if t468 = 0 then ((zai.f a0_0 a0_1 l0_2 l0_3 a0_4 a0_5 a1).bind fun bt469 => ((za8.f bt469.1).bind fun t471 => ((zO.f a0_6).bind fun t472 => (if t471.size + t472.size ≤ 9223372036854775807 then (some (t471 ++ t472, 0)) else (none))))) else (some ((⟨#[]⟩ : ByteArray), t468)))
def zaG.T5 : Bool × List (List Nat × List Nat) := (true, [([], []), ([0], [0]), ([], []), ([2], [2]), ([3, 1], [3]), ([1, 4], [1, 4]), ([5, 4, 0, 1, 2, 3, 4, 5], [5]), ([6, 0, 1, 2, 3, 4, 5, 6], [])])
def zaG.B5 : List Nat := [0, 1, 0, 4, 15, 31, 63, 127]
theorem zaG.tab5 : zb3 .any (ze7 Try.f49 5) = zaG.T5 := by kernel_rfl
theorem zaG.bits5 : zbZ zaG.T5.2 zaG.B5 = true := by kernel_rfl
set_option maxHeartbeats 8000000 in
set_option maxRecDepth 100000 in
theorem zaG.calls (a0_0 : Int) (a0_1 : Int) (A0_2 : Option Addr) (c0_2 : Nat) (l0_2 : List (zR)) (A0_3 : Option Addr) (c0_3 : Nat) (l0_3 : List ByteArray) (a0_4 : Int) (a0_5 : Int) (a0_6 : Int) (a1 : Int) (r1 : ByteArray) (r2 : Int) (w : World) (hr0_2 : Kd.C zbB w A0_2 l0_2.length l0_2) (hc0_2 : l0_2.length ≤ c0_2) (hr0_3 : Kd.C Kd.string w A0_3 l0_3.length l0_3) (hc0_3 : l0_3.length ≤ c0_3) (h : zaG.f a0_0 a0_1 l0_2 l0_3 a0_4 a0_5 a0_6 a1 = some (r1, r2)) :
    Calls Try.prog 49 #[.agg #[.int .i64 a0_0, .int .i64 a0_1, .slice A0_2 l0_2.length c0_2, .slice A0_3 l0_3.length c0_3, .int .i64 a0_4, .int .i64 a0_5, .int .u64 a0_6], .int .i64 a1] w fun e w' => e = .returned (.tuple #[.string r1, .int .i64 r2]) ∧ Below w.heap.size w w' := by
  have hu36 := Try.underlying36
  have hu28 := Try.underlying28
  have HR0_2 := zb.mk hr0_2
  have HC0_2 := zb.mk hc0_2
  clear hr0_2 hc0_2
  have HR0_3 := zb.mk hr0_3
  have HC0_3 := zb.mk hc0_3
  clear hr0_3 hc0_3
  have HB := zb.mk (Below.refl w.heap.size w)
  have H : ((zaV.f a0_0 a0_1 l0_2 l0_3 a0_4 a0_5 a0_6 a1).bind fun t468 => (if t468 = 0 then ((zai.f a0_0 a0_1 l0_2 l0_3 a0_4 a0_5 a1).bind fun bt469 => ((za8.f bt469.1).bind fun t471 => ((zO.f a0_6).bind fun t472 => (if t471.size + t472.size ≤ 9223372036854775807 then (some (t471 ++ t472, 0)) else (none))))) else (some ((⟨#[]⟩ : ByteArray), t468)))) = some (r1, r2) := h
  clear h
  replace H := Option.bind_eq_some_iff.mp H
  obtain ⟨t468, A30, H⟩ := H
  replace H : (if t468 = 0 then ((zai.f a0_0 a0_1 l0_2 l0_3 a0_4 a0_5 a1).bind fun bt469 => ((za8.f bt469.1).bind fun t471 => ((zO.f a0_6).bind fun t472 => (if t471.size + t472.size ≤ 9223372036854775807 then (some (t471 ++ t472, 0)) else (none))))) else (some ((⟨#[]⟩ : ByteArray), t468))) = some (r1, r2) := H
  have A3 := zb.mk A30
  clear A30
  by_cases c4 : t468 = 0
  · rw [if_pos c4] at H
    have c4b0 : (t468 == 0) = true := beq_iff_eq.mpr c4
    have c4b1 : (t468 != 0) = false := bne_eq_false_iff_eq.mpr c4
    clear c4
    replace H := Option.bind_eq_some_iff.mp H
    obtain ⟨⟨t469, t470⟩, A50, H⟩ := H
    replace H : ((za8.f t469).bind fun t471 => ((zO.f a0_6).bind fun t472 => (if t471.size + t472.size ≤ 9223372036854775807 then (some (t471 ++ t472, 0)) else (none)))) = some (r1, r2) := H
    have A5 := zb.mk A50
    clear A50
    replace H := Option.bind_eq_some_iff.mp H
    obtain ⟨t471, A60, H⟩ := H
    replace H : ((zO.f a0_6).bind fun t472 => (if t471.size + t472.size ≤ 9223372036854775807 then (some (t471 ++ t472, 0)) else (none))) = some (r1, r2) := H
    have A6 := zb.mk A60
    clear A60
    replace H := Option.bind_eq_some_iff.mp H
    obtain ⟨t472, A70, H⟩ := H
    replace H : (if t471.size + t472.size ≤ 9223372036854775807 then (some (t471 ++ t472, 0)) else (none)) = some (r1, r2) := H
    have A7 := zb.mk A70
    clear A70
    by_cases c8 : t471.size + t472.size ≤ 9223372036854775807
    · rw [if_pos c8] at H
      have c8b0 := eq_true c8
      have c8b1 : decide (t471.size + t472.size ≤ 9223372036854775807) = true := decide_eq_true c8
      try have c8b2 : (9223372036854775807 < t471.size + t472.size) = False := eq_false (Nat.not_lt.2 c8)
      simp only [Option.some.injEq, Prod.mk.injEq] at H
      obtain ⟨rfl, rfl⟩ := H
      go_enter Try.func49, Try.ntmps49
      try go_wp2_with (first | ((with_reducible refine zq (N := 2) rfl ?_); refine zp ?hg (N := 2) ?hd (cs := #[.int .i64 a0_0, .int .i64 a0_1, .slice A0_2 l0_2.length c0_2, .slice A0_3 l0_3.length c0_3, .int .i64 a0_4, .int .i64 a0_5, .int .u64 a0_6]) (t := 36) ?hr ?_; (case hd => rfl); (case hg => rfl); (case hr => first | (go_simp; done) | (go_simp; rfl)); intro gb467 hg w9 hbox hb; have n0_ := zb.mk (zl (by repeat (first | (with_reducible first | exact HB.out | apply zi | apply zd | apply zj) | exact HB.out)) hb); have n1_ := zb.mk (hbox); have n2_ := zb.mk ((by rw [hg]; exact (zo (by repeat (first | (with_reducible first | exact HB.out | apply zi | apply zd | apply zj) | exact HB.out))) : w.heap.size ≤ gb467)); have n3_ := zb.mk ((by rw [hg]; exact (zo (by repeat (first | (with_reducible first | exact HB.out | apply zi | apply zd | apply zj) | exact HB.out))) : w.heap.size ≤ gb467)); clear HB; have HB := n0_; have BK467 := n1_; have GW467 := n2_; have GE467 := n3_; clear n0_ n1_ n2_ n3_; clear hb hbox hg; have hcz10_0 : w9.cell? ⟨gb467, 0, none⟩ = some (.int .i64 a0_0) := (zc BK467.out 0).trans rfl; have hcz10_1 : w9.cell? ⟨gb467, 1, none⟩ = some (.int .i64 a0_1) := (zc BK467.out 1).trans rfl; have hcz10_2 : w9.cell? ⟨gb467, 2, none⟩ = some (.slice A0_2 l0_2.length c0_2) := (zc BK467.out 2).trans rfl; have hcz10_3 : w9.cell? ⟨gb467, 3, none⟩ = some (.slice A0_3 l0_3.length c0_3) := (zc BK467.out 3).trans rfl; have hcz10_4 : w9.cell? ⟨gb467, 4, none⟩ = some (.int .i64 a0_4) := (zc BK467.out 4).trans rfl; have hcz10_5 : w9.cell? ⟨gb467, 5, none⟩ = some (.int .i64 a0_5) := (zc BK467.out 5).trans rfl; have hcz10_6 : w9.cell? ⟨gb467, 6, none⟩ = some (.int .u64 a0_6) := (zc BK467.out 6).trans rfl; have hfz10_0 := za BK467.out 0; have hfz10_1 := za BK467.out 1; have hfz10_2 := za BK467.out 2; have hfz10_3 := za BK467.out 3; have hfz10_4 := za BK467.out 4; have hfz10_5 := za BK467.out 5; have hfz10_6 := za BK467.out 6) | ((with_reducible refine zu (f := 64) rfl ?_); refine zQ (some 11) rfl rfl Try.func64 (by kernel_rfl) rfl #[.agg #[.int .i64 a0_0, .int .i64 a0_1, .slice A0_2 l0_2.length c0_2, .slice A0_3 l0_3.length c0_3, .int .i64 a0_4, .int .i64 a0_5, .int .u64 a0_6], .int .i64 a1] rfl (by (try simp only [List.map_toArray, List.map_cons, List.map_nil]); first | done | rfl | (simp only [List.length_drop, List.length_take]; rfl)) ?_; (with_reducible refine (zaV.calls a0_0 a0_1 _ _ l0_2 _ _ l0_3 a0_4 a0_5 a0_6 a1 t468 _ ?side1 ?side2 ?side3 ?side4 A3.out).mono ?_); (case side1 => repeat (first | exact (Kd.C_below HR0_2.out HB.out) | (with_reducible refine Kd.C_alloc ?_ _) | (with_reducible refine Kd.C_drewN ?_ _) | (with_reducible refine Kd.C_drew ?_))); (case side2 => exact HC0_2.out); (case side3 => repeat (first | exact (Kd.C_below HR0_3.out HB.out) | (with_reducible refine Kd.C_alloc ?_ _) | (with_reducible refine Kd.C_drewN ?_ _) | (with_reducible refine Kd.C_drew ?_))); (case side4 => exact HC0_3.out); rintro e w11 ⟨rfl, hb⟩; refine ⟨_, rfl, ?_⟩; have n0_ := zb.mk (zk (g := gb467) (o := .cells #[.int .i64 a0_0, .int .i64 a0_1, .slice A0_2 l0_2.length c0_2, .slice A0_3 l0_3.length c0_3, .int .i64 a0_4, .int .i64 a0_5, .int .u64 a0_6] 36 (0, 0)) (by (with_reducible repeat (first | refine ze ?_ _ | refine zh ?_ | refine zf ?_ _)); exact BK467.out) hb); have n1_ := zb.mk (zl (by repeat (first | (with_reducible first | exact HB.out | apply zi | apply zd | apply zj | refine zg ?_ GE467.out) | exact HB.out)) hb); clear BK467; clear HB; have BK467 := n0_; have HB := n1_; clear n0_ n1_; (try clear hb); (try clear hb2); (try clear hk); (try clear hi); have hcz12_0 : w11.cell? ⟨gb467, 0, none⟩ = some (.int .i64 a0_0) := (zc BK467.out 0).trans rfl; have hcz12_1 : w11.cell? ⟨gb467, 1, none⟩ = some (.int .i64 a0_1) := (zc BK467.out 1).trans rfl; have hcz12_2 : w11.cell? ⟨gb467, 2, none⟩ = some (.slice A0_2 l0_2.length c0_2) := (zc BK467.out 2).trans rfl; have hcz12_3 : w11.cell? ⟨gb467, 3, none⟩ = some (.slice A0_3 l0_3.length c0_3) := (zc BK467.out 3).trans rfl; have hcz12_4 : w11.cell? ⟨gb467, 4, none⟩ = some (.int .i64 a0_4) := (zc BK467.out 4).trans rfl; have hcz12_5 : w11.cell? ⟨gb467, 5, none⟩ = some (.int .i64 a0_5) := (zc BK467.out 5).trans rfl; have hcz12_6 : w11.cell? ⟨gb467, 6, none⟩ = some (.int .u64 a0_6) := (zc BK467.out 6).trans rfl; have hfz12_0 := za BK467.out 0; have hfz12_1 := za BK467.out 1; have hfz12_2 := za BK467.out 2; have hfz12_3 := za BK467.out 3; have hfz12_4 := za BK467.out 4; have hfz12_5 := za BK467.out 5; have hfz12_6 := za BK467.out 6) | ((with_reducible refine zu (f := 48) rfl ?_); refine zQ (some 19) rfl rfl Try.func48 (by kernel_rfl) rfl #[.agg #[.int .i64 a0_0, .int .i64 a0_1, .slice A0_2 l0_2.length c0_2, .slice A0_3 l0_3.length c0_3, .int .i64 a0_4, .int .i64 a0_5], .int .i64 a1] rfl (by (try simp only [List.map_toArray, List.map_cons, List.map_nil]); first | done | rfl | (simp only [List.length_drop, List.length_take]; rfl)) ?_; (with_reducible refine (zai.calls a0_0 a0_1 _ _ l0_2 _ _ l0_3 a0_4 a0_5 a1 t469 t470 _ ?side1 ?side2 ?side3 ?side4 A5.out).mono ?_); (case side1 => repeat (first | exact (Kd.C_below HR0_2.out HB.out) | (with_reducible refine Kd.C_alloc ?_ _) | (with_reducible refine Kd.C_drewN ?_ _) | (with_reducible refine Kd.C_drew ?_))); (case side2 => exact HC0_2.out); (case side3 => repeat (first | exact (Kd.C_below HR0_3.out HB.out) | (with_reducible refine Kd.C_alloc ?_ _) | (with_reducible refine Kd.C_drewN ?_ _) | (with_reducible refine Kd.C_drew ?_))); (case side4 => exact HC0_3.out); rintro e w13 ⟨rfl, hb⟩; refine ⟨_, rfl, ?_⟩; have n0_ := zb.mk (zk (g := gb467) (o := .cells #[.int .i64 a0_0, .int .i64 a0_1, .slice A0_2 l0_2.length c0_2, .slice A0_3 l0_3.length c0_3, .int .i64 a0_4, .int .i64 a0_5, .int .u64 a0_6] 36 (0, 0)) (by (with_reducible repeat (first | refine ze ?_ _ | refine zh ?_ | refine zf ?_ _)); exact BK467.out) hb); have n1_ := zb.mk (zl (by repeat (first | (with_reducible first | exact HB.out | apply zi | apply zd | apply zj | refine zg ?_ GE467.out) | exact HB.out)) hb); clear BK467; clear HB; have BK467 := n0_; have HB := n1_; clear n0_ n1_; (try clear hb); (try clear hb2); (try clear hk); (try clear hi)))
      have n0_ := zb.mk (zh BK467.out)
      have n1_ := zb.mk (zj HB.out)
      clear BK467
      clear HB
      have BK467 := n0_
      have HB := n1_
      clear n0_ n1_
      refine zdq (n := 8) (S := fun w' => w'.cell? ⟨gb467, 0, none⟩ = some (.int .i64 a0_0) ∧ w'.cell? ⟨gb467, 1, none⟩ = some (.int .i64 a0_1) ∧ w'.cell? ⟨gb467, 2, none⟩ = some (.slice A0_2 l0_2.length c0_2) ∧ w'.cell? ⟨gb467, 3, none⟩ = some (.slice A0_3 l0_3.length c0_3) ∧ w'.cell? ⟨gb467, 4, none⟩ = some (.int .i64 a0_4) ∧ w'.cell? ⟨gb467, 5, none⟩ = some (.int .i64 a0_5) ∧ w'.cell? ⟨gb467, 6, none⟩ = some (.int .u64 a0_6)) (ds := []) #[false, false, false, false, false, false, false, false] (by kernel_rfl) rfl rfl ⟨(zc BK467.out 0).trans rfl, (zc BK467.out 1).trans rfl, (zc BK467.out 2).trans rfl, (zc BK467.out 3).trans rfl, (zc BK467.out 4).trans rfl, (zc BK467.out 5).trans rfl, (zc BK467.out 6).trans rfl⟩ (fun hHeld => ?_); refine zbW zaG.tab5 zaG.bits5 (fun HT_ HW_ => ?_)
      generalize w13.drew = w14 at BK467 HB hHeld ⊢
      refine zal (i := 0) (N := some 22) (v := ?_) (a' := ?_) #[true, false, false, false, false, false, false, false] rfl rfl (z8 HT_.out (by kernel_rfl)) (fun _ _ _ h => h) (Or.inl ⟨by rfl, ?_⟩) ?_ ?_
      rotate_left
      · intro w'
        go_simp
        with_reducible rfl
      rotate_left
      · simp only [Act.put, List.setIfInBounds_toArray, List.set_cons_zero, List.set_cons_succ, zU, zW]
        rfl
      refine zal (i := 2) (N := some 24) (v := ?_) (a' := ?_) #[true, false, true, false, false, false, false, false] rfl rfl (z8 HT_.out (by kernel_rfl)) (fun _ _ _ h => h) (Or.inl ⟨by rfl, ?_⟩) ?_ ?_
      rotate_left
      · intro w'
        go_simp
        with_reducible rfl
      rotate_left
      · simp only [Act.put, List.setIfInBounds_toArray, List.set_cons_zero, List.set_cons_succ, zU, zW]
        rfl
      refine take_ (i := 3) (N := some 25) (v := ?_) (a' := ?_) #[true, false, true, true, false, false, false, false] rfl rfl (zaP HT_.out HW_.out (by kernel_rfl)) (fun _ _ _ h => h) (Or.inl ⟨by rfl, ?_⟩) hHeld ?_ ?_
      rotate_left
      · rintro w' ⟨s0, s1, s2, s3, s4, s5, s6⟩
        go_simp
        with_reducible rfl
      rotate_left
      · simp only [Act.put, List.setIfInBounds_toArray, List.set_cons_zero, List.set_cons_succ, zU, zW]
        rfl
      refine zdL (i := 1) (N := some 23) #[true, true, true, true, false, false, false, false] rfl rfl (zbO HT_.out (by kernel_rfl)) (by decide) (fun K hK => ?_)
      refine zcp Try.func77 (by kernel_rfl) rfl #[.string t469] (by rfl) rfl rfl (by (try simp only [List.map_toArray, List.map_cons, List.map_nil]); first | done | rfl | (simp only [List.length_drop, List.length_take]; rfl)) ?_
      with_reducible refine (za8.calls t469 t471 _ A6.out).mono ?_
      rintro e w15 ⟨rfl, hb⟩
      refine ⟨_, rfl, ?_⟩
      have n0_ := zb.mk (zk (g := gb467) (o := .cells #[.int .i64 a0_0, .int .i64 a0_1, .slice A0_2 l0_2.length c0_2, .slice A0_3 l0_3.length c0_3, .int .i64 a0_4, .int .i64 a0_5, .int .u64 a0_6] 36 (0, 0)) (by (with_reducible repeat (first | refine ze ?_ _ | refine zh ?_ | refine zf ?_ _)); exact BK467.out) hb)
      have n1_ := zb.mk (zl (by repeat (first | (with_reducible first | exact HB.out | apply zi | apply zd | apply zj | refine zg ?_ GE467.out) | exact HB.out)) hb)
      clear BK467
      clear HB
      have BK467 := n0_
      have HB := n1_
      clear n0_ n1_
      (try clear hb)
      (try clear hb2)
      (try clear hk)
      (try clear hi)
      refine hK.out _ _ ⟨(zc BK467.out 0).trans rfl, (zc BK467.out 1).trans rfl, (zc BK467.out 2).trans rfl, (zc BK467.out 3).trans rfl, (zc BK467.out 4).trans rfl, (zc BK467.out 5).trans rfl, (zc BK467.out 6).trans rfl⟩ (fun hHeld => ?_)
      clear hK K
      refine zcq (a' := ?_) ?_ ?_
      rotate_left
      · show Act.put _ (some 23) _ = _
        simp only [Act.put, List.setIfInBounds_toArray, List.set_cons_zero, List.set_cons_succ, zU, zW]
        rfl
      refine zdL (i := 4) (N := some 26) #[true, true, true, true, true, false, false, false] rfl rfl (zbO HT_.out (by kernel_rfl)) (by decide) (fun K hK => ?_)
      refine zcp Try.func50 (by kernel_rfl) rfl #[.int .u64 a0_6] (by rfl) rfl rfl (by (try simp only [List.map_toArray, List.map_cons, List.map_nil]); first | done | rfl | (simp only [List.length_drop, List.length_take]; rfl)) ?_
      with_reducible refine (zO.calls a0_6 t472 _ A7.out).mono ?_
      rintro e w16 ⟨rfl, hb⟩
      refine ⟨_, rfl, ?_⟩
      have n0_ := zb.mk (zk (g := gb467) (o := .cells #[.int .i64 a0_0, .int .i64 a0_1, .slice A0_2 l0_2.length c0_2, .slice A0_3 l0_3.length c0_3, .int .i64 a0_4, .int .i64 a0_5, .int .u64 a0_6] 36 (0, 0)) (by (with_reducible repeat (first | refine ze ?_ _ | refine zh ?_ | refine zf ?_ _)); exact BK467.out) hb)
      have n1_ := zb.mk (zl (by repeat (first | (with_reducible first | exact HB.out | apply zi | apply zd | apply zj | refine zg ?_ GE467.out) | exact HB.out)) hb)
      clear BK467
      clear HB
      have BK467 := n0_
      have HB := n1_
      clear n0_ n1_
      (try clear hb)
      (try clear hb2)
      (try clear hk)
      (try clear hi)
      refine hK.out _ _ ⟨(zc BK467.out 0).trans rfl, (zc BK467.out 1).trans rfl, (zc BK467.out 2).trans rfl, (zc BK467.out 3).trans rfl, (zc BK467.out 4).trans rfl, (zc BK467.out 5).trans rfl, (zc BK467.out 6).trans rfl⟩ (fun hHeld => ?_)
      clear hK K
      refine zcq (a' := ?_) ?_ ?_
      rotate_left
      · show Act.put _ (some 26) _ = _
        simp only [Act.put, List.setIfInBounds_toArray, List.set_cons_zero, List.set_cons_succ, zU, zW]
        rfl
      refine zal (i := 5) (N := some 27) (v := ?_) (a' := ?_) #[true, true, true, true, true, true, false, false] rfl rfl (z8 HT_.out (by kernel_rfl)) (fun _ _ _ h => h) (Or.inl ⟨by rfl, ?_⟩) ?_ ?_
      rotate_left
      · intro w'
        go_simp
        with_reducible rfl
      rotate_left
      · simp only [Act.put, List.setIfInBounds_toArray, List.set_cons_zero, List.set_cons_succ, zU, zW]
        rfl
      refine zal (i := 6) (N := some 4) (v := ?_) (a' := ?_) #[true, true, true, true, true, true, true, false] rfl rfl (z8 HT_.out (by kernel_rfl)) (fun _ _ _ h => h) (Or.inl ⟨by rfl, ?_⟩) ?_ ?_
      rotate_left
      · intro w'
        go_simp
        with_reducible rfl
      rotate_left
      · simp only [Act.put, List.setIfInBounds_toArray, List.set_cons_zero, List.set_cons_succ, zU, zW]
        rfl
      refine zal (i := 7) (N := some 5) (v := ?_) (a' := ?_) #[true, true, true, true, true, true, true, true] rfl rfl (z8 HT_.out (by kernel_rfl)) (fun _ _ _ h => h) (Or.inl ⟨by rfl, ?_⟩) ?_ ?_
      rotate_left
      · intro w'
        go_simp
        with_reducible rfl
      rotate_left
      · simp only [Act.put, List.setIfInBounds_toArray, List.set_cons_zero, List.set_cons_succ, zU, zW]
        rfl
      refine zeA (zcI HT_.out (by kernel_rfl)) ?_
      try go_wp2
      go_ret2
      exact ⟨by first | rfl | (simp [zt, zr] <;> rfl) | (simp [*, zt, zr] <;> rfl), by repeat (first | (with_reducible first | exact HB.out | apply zi | apply zd | apply zj | refine zg ?_ GE467.out) | exact HB.out)⟩
    · rw [if_neg c8] at H
      exact absurd H (by simp)
  · rw [if_neg c4] at H
    have c4b0 : (t468 == 0) = false := beq_eq_false_iff_ne.mpr c4
    have c4b1 : (t468 != 0) = true := bne_iff_ne.mpr c4
    simp only [Option.some.injEq, Prod.mk.injEq] at H
    obtain ⟨rfl, rfl⟩ := H
    go_enter Try.func49, Try.ntmps49
    go_wp2_with (first | ((with_reducible refine zq (N := 2) rfl ?_); refine zp ?hg (N := 2) ?hd (cs := #[.int .i64 a0_0, .int .i64 a0_1, .slice A0_2 l0_2.length c0_2, .slice A0_3 l0_3.length c0_3, .int .i64 a0_4, .int .i64 a0_5, .int .u64 a0_6]) (t := 36) ?hr ?_; (case hd => rfl); (case hg => rfl); (case hr => first | (go_simp; done) | (go_simp; rfl)); intro gb467 hg w17 hbox hb; have n0_ := zb.mk (zl (by repeat (first | (with_reducible first | exact HB.out | apply zi | apply zd | apply zj) | exact HB.out)) hb); have n1_ := zb.mk (hbox); have n2_ := zb.mk ((by rw [hg]; exact (zo (by repeat (first | (with_reducible first | exact HB.out | apply zi | apply zd | apply zj) | exact HB.out))) : w.heap.size ≤ gb467)); have n3_ := zb.mk ((by rw [hg]; exact (zo (by repeat (first | (with_reducible first | exact HB.out | apply zi | apply zd | apply zj) | exact HB.out))) : w.heap.size ≤ gb467)); clear HB; have HB := n0_; have BK467 := n1_; have GW467 := n2_; have GE467 := n3_; clear n0_ n1_ n2_ n3_; clear hb hbox hg; have hcz18_0 : w17.cell? ⟨gb467, 0, none⟩ = some (.int .i64 a0_0) := (zc BK467.out 0).trans rfl; have hcz18_1 : w17.cell? ⟨gb467, 1, none⟩ = some (.int .i64 a0_1) := (zc BK467.out 1).trans rfl; have hcz18_2 : w17.cell? ⟨gb467, 2, none⟩ = some (.slice A0_2 l0_2.length c0_2) := (zc BK467.out 2).trans rfl; have hcz18_3 : w17.cell? ⟨gb467, 3, none⟩ = some (.slice A0_3 l0_3.length c0_3) := (zc BK467.out 3).trans rfl; have hcz18_4 : w17.cell? ⟨gb467, 4, none⟩ = some (.int .i64 a0_4) := (zc BK467.out 4).trans rfl; have hcz18_5 : w17.cell? ⟨gb467, 5, none⟩ = some (.int .i64 a0_5) := (zc BK467.out 5).trans rfl; have hcz18_6 : w17.cell? ⟨gb467, 6, none⟩ = some (.int .u64 a0_6) := (zc BK467.out 6).trans rfl; have hfz18_0 := za BK467.out 0; have hfz18_1 := za BK467.out 1; have hfz18_2 := za BK467.out 2; have hfz18_3 := za BK467.out 3; have hfz18_4 := za BK467.out 4; have hfz18_5 := za BK467.out 5; have hfz18_6 := za BK467.out 6) | ((with_reducible refine zu (f := 64) rfl ?_); refine zQ (some 11) rfl rfl Try.func64 (by kernel_rfl) rfl #[.agg #[.int .i64 a0_0, .int .i64 a0_1, .slice A0_2 l0_2.length c0_2, .slice A0_3 l0_3.length c0_3, .int .i64 a0_4, .int .i64 a0_5, .int .u64 a0_6], .int .i64 a1] rfl (by (try simp only [List.map_toArray, List.map_cons, List.map_nil]); first | done | rfl | (simp only [List.length_drop, List.length_take]; rfl)) ?_; (with_reducible refine (zaV.calls a0_0 a0_1 _ _ l0_2 _ _ l0_3 a0_4 a0_5 a0_6 a1 t468 _ ?side1 ?side2 ?side3 ?side4 A3.out).mono ?_); (case side1 => repeat (first | exact (Kd.C_below HR0_2.out HB.out) | (with_reducible refine Kd.C_alloc ?_ _) | (with_reducible refine Kd.C_drewN ?_ _) | (with_reducible refine Kd.C_drew ?_))); (case side2 => exact HC0_2.out); (case side3 => repeat (first | exact (Kd.C_below HR0_3.out HB.out) | (with_reducible refine Kd.C_alloc ?_ _) | (with_reducible refine Kd.C_drewN ?_ _) | (with_reducible refine Kd.C_drew ?_))); (case side4 => exact HC0_3.out); rintro e w19 ⟨rfl, hb⟩; refine ⟨_, rfl, ?_⟩; have n0_ := zb.mk (zk (g := gb467) (o := .cells #[.int .i64 a0_0, .int .i64 a0_1, .slice A0_2 l0_2.length c0_2, .slice A0_3 l0_3.length c0_3, .int .i64 a0_4, .int .i64 a0_5, .int .u64 a0_6] 36 (0, 0)) (by (with_reducible repeat (first | refine ze ?_ _ | refine zh ?_ | refine zf ?_ _)); exact BK467.out) hb); have n1_ := zb.mk (zl (by repeat (first | (with_reducible first | exact HB.out | apply zi | apply zd | apply zj | refine zg ?_ GE467.out) | exact HB.out)) hb); clear BK467; clear HB; have BK467 := n0_; have HB := n1_; clear n0_ n1_; (try clear hb); (try clear hb2); (try clear hk); (try clear hi)))
    go_ret2
    exact ⟨by first | rfl | (simp [zt, zr] <;> rfl) | (simp [*, zt, zr] <;> rfl), by repeat (first | (with_reducible first | exact HB.out | apply zi | apply zd | apply zj | refine zg ?_ GE467.out) | exact HB.out)⟩
end Go.Proofs.Ytenbifjbeeobjaa.Px

namespace Go.Proofs.Ytenbifjbeeobjaa.Px
open Go.RowKit Go.Proofs.YtenbifjbeeobjaaW.PrintWords Go.Proofs.YtenbifjbeeobjaaW.PrintLast Go.Proofs.YtenbifjbeeobjaaW.PrintMore
attribute [local go_sem] zC zE zJ zK zv zw zB zD
set_option linter.unusedVariables false
set_option linter.unusedSimpArgs false
def zbV.f (a0_0 : Int) (a0_1 : Int) (l0_2 : List (zR)) (l0_3 : List ByteArray) (a0_4 : Int) (a0_5 : Int) (a0_6 : Int) (a1 : Int) : Option (ByteArray × Int) := (zaG.f a0_0 a0_1 l0_2 l0_3 a0_4 a0_5 a0_6 a1).bind fun bt474 => (if bt474.2 = 0 then (if 1 + bt474.1.size ≤ 9223372036854775807 then (some ((⟨#[99]⟩ : ByteArray) ++ bt474.1, 0)) else (none)) else (some ((⟨#[]⟩ : ByteArray), bt474.2)))
set_option maxHeartbeats 8000000 in
set_option maxRecDepth 100000 in
theorem zbV.calls (a0_0 : Int) (a0_1 : Int) (A0_2 : Option Addr) (c0_2 : Nat) (l0_2 : List (zR)) (A0_3 : Option Addr) (c0_3 : Nat) (l0_3 : List ByteArray) (a0_4 : Int) (a0_5 : Int) (a0_6 : Int) (a1 : Int) (r1 : ByteArray) (r2 : Int) (w : World) (hr0_2 : Kd.C zbB w A0_2 l0_2.length l0_2) (hc0_2 : l0_2.length ≤ c0_2) (hr0_3 : Kd.C Kd.string w A0_3 l0_3.length l0_3) (hc0_3 : l0_3.length ≤ c0_3) (h : zbV.f a0_0 a0_1 l0_2 l0_3 a0_4 a0_5 a0_6 a1 = some (r1, r2)) :
    Calls Try.prog 20 #[.agg #[.int .i64 a0_0, .int .i64 a0_1, .slice A0_2 l0_2.length c0_2, .slice A0_3 l0_3.length c0_3, .int .i64 a0_4, .int .i64 a0_5, .int .u64 a0_6], .int .i64 a1] w fun e w' => e = .returned (.tuple #[.string r1, .int .i64 r2]) ∧ Below w.heap.size w w' := by
  have hu36 := Try.underlying36
  have HR0_2 := zb.mk hr0_2
  have HC0_2 := zb.mk hc0_2
  clear hr0_2 hc0_2
  have HR0_3 := zb.mk hr0_3
  have HC0_3 := zb.mk hc0_3
  clear hr0_3 hc0_3
  have HB := zb.mk (Below.refl w.heap.size w)
  have H : ((zaG.f a0_0 a0_1 l0_2 l0_3 a0_4 a0_5 a0_6 a1).bind fun bt474 => (if bt474.2 = 0 then (if 1 + bt474.1.size ≤ 9223372036854775807 then (some ((⟨#[99]⟩ : ByteArray) ++ bt474.1, 0)) else (none)) else (some ((⟨#[]⟩ : ByteArray), bt474.2)))) = some (r1, r2) := h
  clear h
  replace H := Option.bind_eq_some_iff.mp H
  obtain ⟨⟨t474, t475⟩, A30, H⟩ := H
  replace H : (if t475 = 0 then (if 1 + t474.size ≤ 9223372036854775807 then (some ((⟨#[99]⟩ : ByteArray) ++ t474, 0)) else (none)) else (some ((⟨#[]⟩ : ByteArray), t475))) = some (r1, r2) := H
  have A3 := zb.mk A30
  clear A30
  by_cases c4 : t475 = 0
  · rw [if_pos c4] at H
    have c4b0 : (t475 == 0) = true := beq_iff_eq.mpr c4
    have c4b1 : (t475 != 0) = false := bne_eq_false_iff_eq.mpr c4
    clear c4
    by_cases c5 : 1 + t474.size ≤ 9223372036854775807
    · rw [if_pos c5] at H
      have c5b0 := eq_true c5
      have c5b1 : decide (1 + t474.size ≤ 9223372036854775807) = true := decide_eq_true c5
      try have c5b2 : (9223372036854775807 < 1 + t474.size) = False := eq_false (Nat.not_lt.2 c5)
      simp only [Option.some.injEq, Prod.mk.injEq] at H
      obtain ⟨rfl, rfl⟩ := H
      go_enter Try.func20, Try.ntmps20
      go_wp2_with (first | ((with_reducible refine zq (N := 2) rfl ?_); refine zp ?hg (N := 2) ?hd (cs := #[.int .i64 a0_0, .int .i64 a0_1, .slice A0_2 l0_2.length c0_2, .slice A0_3 l0_3.length c0_3, .int .i64 a0_4, .int .i64 a0_5, .int .u64 a0_6]) (t := 36) ?hr ?_; (case hd => rfl); (case hg => rfl); (case hr => first | (go_simp; done) | (go_simp; rfl)); intro gb473 hg w6 hbox hb; have n0_ := zb.mk (zl (by repeat (first | (with_reducible first | exact HB.out | apply zi | apply zd | apply zj) | exact HB.out)) hb); have n1_ := zb.mk (hbox); have n2_ := zb.mk ((by rw [hg]; exact (zo (by repeat (first | (with_reducible first | exact HB.out | apply zi | apply zd | apply zj) | exact HB.out))) : w.heap.size ≤ gb473)); have n3_ := zb.mk ((by rw [hg]; exact (zo (by repeat (first | (with_reducible first | exact HB.out | apply zi | apply zd | apply zj) | exact HB.out))) : w.heap.size ≤ gb473)); clear HB; have HB := n0_; have BK473 := n1_; have GW473 := n2_; have GE473 := n3_; clear n0_ n1_ n2_ n3_; clear hb hbox hg; have hcz7_0 : w6.cell? ⟨gb473, 0, none⟩ = some (.int .i64 a0_0) := (zc BK473.out 0).trans rfl; have hcz7_1 : w6.cell? ⟨gb473, 1, none⟩ = some (.int .i64 a0_1) := (zc BK473.out 1).trans rfl; have hcz7_2 : w6.cell? ⟨gb473, 2, none⟩ = some (.slice A0_2 l0_2.length c0_2) := (zc BK473.out 2).trans rfl; have hcz7_3 : w6.cell? ⟨gb473, 3, none⟩ = some (.slice A0_3 l0_3.length c0_3) := (zc BK473.out 3).trans rfl; have hcz7_4 : w6.cell? ⟨gb473, 4, none⟩ = some (.int .i64 a0_4) := (zc BK473.out 4).trans rfl; have hcz7_5 : w6.cell? ⟨gb473, 5, none⟩ = some (.int .i64 a0_5) := (zc BK473.out 5).trans rfl; have hcz7_6 : w6.cell? ⟨gb473, 6, none⟩ = some (.int .u64 a0_6) := (zc BK473.out 6).trans rfl; have hfz7_0 := za BK473.out 0; have hfz7_1 := za BK473.out 1; have hfz7_2 := za BK473.out 2; have hfz7_3 := za BK473.out 3; have hfz7_4 := za BK473.out 4; have hfz7_5 := za BK473.out 5; have hfz7_6 := za BK473.out 6) | ((with_reducible refine zu (f := 49) rfl ?_); refine zQ (some 11) rfl rfl Try.func49 (by kernel_rfl) rfl #[.agg #[.int .i64 a0_0, .int .i64 a0_1, .slice A0_2 l0_2.length c0_2, .slice A0_3 l0_3.length c0_3, .int .i64 a0_4, .int .i64 a0_5, .int .u64 a0_6], .int .i64 a1] rfl (by (try simp only [List.map_toArray, List.map_cons, List.map_nil]); first | done | rfl | (simp only [List.length_drop, List.length_take]; rfl)) ?_; (with_reducible refine (zaG.calls a0_0 a0_1 _ _ l0_2 _ _ l0_3 a0_4 a0_5 a0_6 a1 t474 t475 _ ?side1 ?side2 ?side3 ?side4 A3.out).mono ?_); (case side1 => repeat (first | exact (Kd.C_below HR0_2.out HB.out) | (with_reducible refine Kd.C_alloc ?_ _) | (with_reducible refine Kd.C_drewN ?_ _) | (with_reducible refine Kd.C_drew ?_))); (case side2 => exact HC0_2.out); (case side3 => repeat (first | exact (Kd.C_below HR0_3.out HB.out) | (with_reducible refine Kd.C_alloc ?_ _) | (with_reducible refine Kd.C_drewN ?_ _) | (with_reducible refine Kd.C_drew ?_))); (case side4 => exact HC0_3.out); rintro e w8 ⟨rfl, hb⟩; refine ⟨_, rfl, ?_⟩; have n0_ := zb.mk (zk (g := gb473) (o := .cells #[.int .i64 a0_0, .int .i64 a0_1, .slice A0_2 l0_2.length c0_2, .slice A0_3 l0_3.length c0_3, .int .i64 a0_4, .int .i64 a0_5, .int .u64 a0_6] 36 (0, 0)) (by (with_reducible repeat (first | refine ze ?_ _ | refine zh ?_ | refine zf ?_ _)); exact BK473.out) hb); have n1_ := zb.mk (zl (by repeat (first | (with_reducible first | exact HB.out | apply zi | apply zd | apply zj | refine zg ?_ GE473.out) | exact HB.out)) hb); clear BK473; clear HB; have BK473 := n0_; have HB := n1_; clear n0_ n1_; (try clear hb); (try clear hb2); (try clear hk); (try clear hi)))
      go_ret2
      exact ⟨by first | rfl | (simp [zt, zr] <;> rfl) | (simp [*, zt, zr] <;> rfl), by repeat (first | (with_reducible first | exact HB.out | apply zi | apply zd | apply zj | refine zg ?_ GE473.out) | exact HB.out)⟩
    · rw [if_neg c5] at H
      exact absurd H (by simp)
  · rw [if_neg c4] at H
    have c4b0 : (t475 == 0) = false := beq_eq_false_iff_ne.mpr c4
    have c4b1 : (t475 != 0) = true := bne_iff_ne.mpr c4
    simp only [Option.some.injEq, Prod.mk.injEq] at H
    obtain ⟨rfl, rfl⟩ := H
    go_enter Try.func20, Try.ntmps20
    go_wp2_with (first | ((with_reducible refine zq (N := 2) rfl ?_); refine zp ?hg (N := 2) ?hd (cs := #[.int .i64 a0_0, .int .i64 a0_1, .slice A0_2 l0_2.length c0_2, .slice A0_3 l0_3.length c0_3, .int .i64 a0_4, .int .i64 a0_5, .int .u64 a0_6]) (t := 36) ?hr ?_; (case hd => rfl); (case hg => rfl); (case hr => first | (go_simp; done) | (go_simp; rfl)); intro gb473 hg w9 hbox hb; have n0_ := zb.mk (zl (by repeat (first | (with_reducible first | exact HB.out | apply zi | apply zd | apply zj) | exact HB.out)) hb); have n1_ := zb.mk (hbox); have n2_ := zb.mk ((by rw [hg]; exact (zo (by repeat (first | (with_reducible first | exact HB.out | apply zi | apply zd | apply zj) | exact HB.out))) : w.heap.size ≤ gb473)); have n3_ := zb.mk ((by rw [hg]; exact (zo (by repeat (first | (with_reducible first | exact HB.out | apply zi | apply zd | apply zj) | exact HB.out))) : w.heap.size ≤ gb473)); clear HB; have HB := n0_; have BK473 := n1_; have GW473 := n2_; have GE473 := n3_; clear n0_ n1_ n2_ n3_; clear hb hbox hg; have hcz10_0 : w9.cell? ⟨gb473, 0, none⟩ = some (.int .i64 a0_0) := (zc BK473.out 0).trans rfl; have hcz10_1 : w9.cell? ⟨gb473, 1, none⟩ = some (.int .i64 a0_1) := (zc BK473.out 1).trans rfl; have hcz10_2 : w9.cell? ⟨gb473, 2, none⟩ = some (.slice A0_2 l0_2.length c0_2) := (zc BK473.out 2).trans rfl; have hcz10_3 : w9.cell? ⟨gb473, 3, none⟩ = some (.slice A0_3 l0_3.length c0_3) := (zc BK473.out 3).trans rfl; have hcz10_4 : w9.cell? ⟨gb473, 4, none⟩ = some (.int .i64 a0_4) := (zc BK473.out 4).trans rfl; have hcz10_5 : w9.cell? ⟨gb473, 5, none⟩ = some (.int .i64 a0_5) := (zc BK473.out 5).trans rfl; have hcz10_6 : w9.cell? ⟨gb473, 6, none⟩ = some (.int .u64 a0_6) := (zc BK473.out 6).trans rfl; have hfz10_0 := za BK473.out 0; have hfz10_1 := za BK473.out 1; have hfz10_2 := za BK473.out 2; have hfz10_3 := za BK473.out 3; have hfz10_4 := za BK473.out 4; have hfz10_5 := za BK473.out 5; have hfz10_6 := za BK473.out 6) | ((with_reducible refine zu (f := 49) rfl ?_); refine zQ (some 11) rfl rfl Try.func49 (by kernel_rfl) rfl #[.agg #[.int .i64 a0_0, .int .i64 a0_1, .slice A0_2 l0_2.length c0_2, .slice A0_3 l0_3.length c0_3, .int .i64 a0_4, .int .i64 a0_5, .int .u64 a0_6], .int .i64 a1] rfl (by (try simp only [List.map_toArray, List.map_cons, List.map_nil]); first | done | rfl | (simp only [List.length_drop, List.length_take]; rfl)) ?_; (with_reducible refine (zaG.calls a0_0 a0_1 _ _ l0_2 _ _ l0_3 a0_4 a0_5 a0_6 a1 t474 t475 _ ?side1 ?side2 ?side3 ?side4 A3.out).mono ?_); (case side1 => repeat (first | exact (Kd.C_below HR0_2.out HB.out) | (with_reducible refine Kd.C_alloc ?_ _) | (with_reducible refine Kd.C_drewN ?_ _) | (with_reducible refine Kd.C_drew ?_))); (case side2 => exact HC0_2.out); (case side3 => repeat (first | exact (Kd.C_below HR0_3.out HB.out) | (with_reducible refine Kd.C_alloc ?_ _) | (with_reducible refine Kd.C_drewN ?_ _) | (with_reducible refine Kd.C_drew ?_))); (case side4 => exact HC0_3.out); rintro e w11 ⟨rfl, hb⟩; refine ⟨_, rfl, ?_⟩; have n0_ := zb.mk (zk (g := gb473) (o := .cells #[.int .i64 a0_0, .int .i64 a0_1, .slice A0_2 l0_2.length c0_2, .slice A0_3 l0_3.length c0_3, .int .i64 a0_4, .int .i64 a0_5, .int .u64 a0_6] 36 (0, 0)) (by (with_reducible repeat (first | refine ze ?_ _ | refine zh ?_ | refine zf ?_ _)); exact BK473.out) hb); have n1_ := zb.mk (zl (by repeat (first | (with_reducible first | exact HB.out | apply zi | apply zd | apply zj | refine zg ?_ GE473.out) | exact HB.out)) hb); clear BK473; clear HB; have BK473 := n0_; have HB := n1_; clear n0_ n1_; (try clear hb); (try clear hb2); (try clear hk); (try clear hi)))
    go_ret2
    exact ⟨by first | rfl | (simp [zt, zr] <;> rfl) | (simp [*, zt, zr] <;> rfl), by repeat (first | (with_reducible first | exact HB.out | apply zi | apply zd | apply zj | refine zg ?_ GE473.out) | exact HB.out)⟩
end Go.Proofs.Ytenbifjbeeobjaa.Px
