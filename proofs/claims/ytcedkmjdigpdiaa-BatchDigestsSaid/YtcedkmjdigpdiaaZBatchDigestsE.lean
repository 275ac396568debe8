/- Part 5 of 9 of the proof of the law BatchDigests: what is proved is the statement at the end of the last part; its conditions are those of the given row. -/
import Derived.Laws.BitsAllLaws
import Derived.Test.YtcedkmjdigpdiaaZBatchDigestsD
namespace Go.Proofs.Ytcedkmjdigpdiaa.Px
open Go.RowKit Go.Proofs.YtcedkmjdigpdiaaW.PrintWords Go.Proofs.YtcedkmjdigpdiaaW.PrintLast Go.Proofs.YtcedkmjdigpdiaaW.PrintMore
attribute [local go_sem] zs zu zD zE zm zn zt zv
set_option linter.unusedVariables false
set_option linter.unusedSimpArgs false
def zk.f (a0_0 : Int) (a0_1 : Int) (l0_2 : List ByteArray) : Option (ByteArray × Int) := (zM.f a0_0 a0_1 l0_2).bind fun t102 => (if t102 = true then ((zw.f (IntKind.u64.wrap (a0_0))).bind fun t103 => ((zw.f (IntKind.u64.wrap (a0_1))).bind fun t104 => (if t103.size + t104.size ≤ 9223372036854775807 then ((zF.f l0_2).bind fun t105 => (if (t103 ++ t104).size + t105.size ≤ 9223372036854775807 then (some ((t103 ++ t104) ++ t105, 0)) else (none))) else (none)))) else (some ((⟨#[]⟩ : ByteArray), 1)))
def zk.T3 : Bool × List (List Nat × List Nat) := (true, [([], []), ([0], [0]), ([1], [1]), ([2], [2]), ([], []), ([4], [4]), ([5], [5]), ([6, 3], [6]), ([3, 7], [3, 7]), ([], []), ([9], [9]), ([10, 7], [10]), ([8, 11], [8, 11]), ([12, 11, 0, 1, 2, 3, 4, 5, 6, 7, 8, 9, 10, 11, 12], [12]), ([13, 0, 1, 2, 3, 4, 5, 6, 7, 8, 9, 10, 11, 12, 13], [])])
def zk.B3 : List Nat := [0, 1, 3, 7, 0, 16, 48, 127, 255, 0, 512, 1791, 4095, 8191, 16383]
theorem zk.tab3 : zaH .any (zez Try.f7 3) = zk.T3 := by kernel_rfl
theorem zk.bits3 : zbh zk.T3.2 zk.B3 = true := by kernel_rfl
set_option maxHeartbeats 8000000 in
set_option maxRecDepth 100000 in
theorem zk.calls (a0_0 : Int) (a0_1 : Int) (A0_2 : Option Addr) (c0_2 : Nat) (l0_2 : List ByteArray) (r1 : ByteArray) (r2 : Int) (w : World) (hr0_2 : Kd.C Kd.string w A0_2 l0_2.length l0_2) (hc0_2 : l0_2.length ≤ c0_2) (h : zk.f a0_0 a0_1 l0_2 = some (r1, r2)) :
    Calls Try.prog 7 #[.agg #[.int .i64 a0_0, .int .i64 a0_1, .slice A0_2 l0_2.length c0_2]] w fun e w' => e = .returned (.tuple #[.string r1, .int .i64 r2]) ∧ Below w.heap.size w w' := by
  have hu24 := Try.underlying24
  have HR0_2 := za.mk hr0_2
  have HC0_2 := za.mk hc0_2
  clear hr0_2 hc0_2
  have HB := za.mk (Below.refl w.heap.size w)
  have H : ((zM.f a0_0 a0_1 l0_2).bind fun t102 => (if t102 = true then ((zw.f (IntKind.u64.wrap (a0_0))).bind fun t103 => ((zw.f (IntKind.u64.wrap (a0_1))).bind fun t104 => (if t103.size + t104.size ≤ 9223372036854775807 then ((zF.f l0_2).bind fun t105 => (if (t103 ++ t104).size + t105.size ≤ 9223372036854775807 then (some ((t103 ++ t104) ++ t105, 0)) else (none))) else (none)))) else (some ((⟨#[]⟩ : ByteArray), 1)))) = some (r1, r2) := h
  clear h
  replace H := Option.bind_eq_some_iff.mp H
  obtain ⟨t102, A20, H⟩ := H
  replace H : (if t102 = true then ((zw.f (IntKind.u64.wrap (a0_0))).bind fun t103 => ((zw.f (IntKind.u64.wrap (a0_1))).bind fun t104 => (if t103.size + t104.size ≤ 9223372036854775807 then ((zF.f l0_2).bind fun t105 => (if (t103 ++ t104).size + t105.size ≤ 9223372036854775807 then (some ((t103 ++ t104) ++ t105, 0)) else (none))) else (none)))) else (some ((⟨#[]⟩ : ByteArray), 1))) = some (r1, r2) := H
  have A2 := za.mk A20
  clear A20
  by_cases c3 : t102 = true
  · subst c3
    have H1 : ((zw.f (IntKind.u64.wrap (a0_0))).bind fun t103 => ((zw.f (IntKind.u64.wrap (a0_1))).bind fun t104 => (if t103.size + t104.size ≤ 9223372036854775807 then ((zF.f l0_2).bind fun t105 => (if (t103 ++ t104).size + t105.size ≤ 9223372036854775807 then (some ((t103 ++ t104) ++ t105, 0)) else (none))) else (none)))) = some (r1, r2) := by rw [if_pos rfl] at H; exact H
    clear H
    have H := H1
    clear H1
    replace H := Option.bind_eq_some_iff.mp H
    obtain ⟨t103, A40, H⟩ := H
    replace H : ((zw.f (IntKind.u64.wrap (a0_1))).bind fun t104 => (if t103.size + t104.size ≤ 9223372036854775807 then ((zF.f l0_2).bind fun t105 => (if (t103 ++ t104).size + t105.size ≤ 9223372036854775807 then (some ((t103 ++ t104) ++ t105, 0)) else (none))) else (none))) = some (r1, r2) := H
    have A4 := za.mk A40
    clear A40
    replace H := Option.bind_eq_some_iff.mp H
    obtain ⟨t104, A50, H⟩ := H
    replace H : (if t103.size + t104.size ≤ 9223372036854775807 then ((zF.f l0_2).bind fun t105 => (if (t103 ++ t104).size + t105.size ≤ 9223372036854775807 then (some ((t103 ++ t104) ++ t105, 0)) else (none))) else (none)) = some (r1, r2) := H
    have A5 := za.mk A50
    clear A50
    by_cases c6 : t103.size + t104.size ≤ 9223372036854775807
    · rw [if_pos c6] at H
      have c6b0 := eq_true c6
      have c6b1 : decide (t103.size + t104.size ≤ 9223372036854775807) = true := decide_eq_true c6
      try have c6b2 : (9223372036854775807 < t103.size + t104.size) = False := eq_false (Nat.not_lt.2 c6)
      replace H := Option.bind_eq_some_iff.mp H
      obtain ⟨t105, A70, H⟩ := H
      replace H : (if (t103 ++ t104).size + t105.size ≤ 9223372036854775807 then (some ((t103 ++ t104) ++ t105, 0)) else (none)) = some (r1, r2) := H
      have A7 := za.mk A70
      clear A70
      by_cases c8 : (t103 ++ t104).size + t105.size ≤ 9223372036854775807
      · rw [if_pos c8] at H
        have c8b0 := eq_true c8
        have c8b1 : decide ((t103 ++ t104).size + t105.size ≤ 9223372036854775807) = true := decide_eq_true c8
        try have c8b2 : (9223372036854775807 < (t103 ++ t104).size + t105.size) = False := eq_false (Nat.not_lt.2 c8)
        try (have c8b3 := c8; simp [ByteArray.size_append] at c8b3; have c8b4 := eq_false (Nat.not_lt.2 c8b3); clear c8b3)
        simp only [Option.some.injEq, Prod.mk.injEq] at H
        obtain ⟨rfl, rfl⟩ := H
        go_enter Try.func7, Try.ntmps7
        try go_wp2_with (first | ((with_reducible refine zK (N := 1) rfl ?_); refine zJ ?hg (N := 1) ?hd (cs := #[.int .i64 a0_0, .int .i64 a0_1, .slice A0_2 l0_2.length c0_2]) (t := 24) ?hr ?_; (case hd => rfl); (case hg => rfl); (case hr => first | (go_simp; done) | (go_simp; rfl)); intro gb101 hg w9 hbox hb; have n0_ := za.mk (zg (by repeat (first | (with_reducible first | exact HB.out | apply zc | apply zb | apply zd) | exact HB.out)) hb); have n1_ := za.mk (hbox); have n2_ := za.mk ((by rw [hg]; exact (zl (by repeat (first | (with_reducible first | exact HB.out | apply zc | apply zb | apply zd) | exact HB.out))) : w.heap.size ≤ gb101)); have n3_ := za.mk ((by rw [hg]; exact (zl (by repeat (first | (with_reducible first | exact HB.out | apply zc | apply zb | apply zd) | exact HB.out))) : w.heap.size ≤ gb101)); clear HB; have HB := n0_; have BK101 := n1_; have GW101 := n2_; have GE101 := n3_; clear n0_ n1_ n2_ n3_; clear hb hbox hg; have hcz10_0 : w9.cell? ⟨gb101, 0, none⟩ = some (.int .i64 a0_0) := (zf BK101.out 0).trans rfl; have hcz10_1 : w9.cell? ⟨gb101, 1, none⟩ = some (.int .i64 a0_1) := (zf BK101.out 1).trans rfl; have hcz10_2 : w9.cell? ⟨gb101, 2, none⟩ = some (.slice A0_2 l0_2.length c0_2) := (zf BK101.out 2).trans rfl; have hfz10_0 := ze BK101.out 0; have hfz10_1 := ze BK101.out 1; have hfz10_2 := ze BK101.out 2) | ((with_reducible refine zp (f := 11) rfl ?_); refine zQ (some 5) rfl rfl Try.func11 (by kernel_rfl) rfl #[.agg #[.int .i64 a0_0, .int .i64 a0_1, .slice A0_2 l0_2.length c0_2]] rfl (by (try simp only [List.map_toArray, List.map_cons, List.map_nil]); first | done | rfl | (simp only [List.length_drop, List.length_take]; rfl)) ?_; (with_reducible refine (zM.calls a0_0 a0_1 _ _ l0_2 true _ ?side1 ?side2 A2.out).mono ?_); (case side1 => repeat (first | exact (Kd.C_below HR0_2.out HB.out) | (with_reducible refine Kd.C_alloc ?_ _) | (with_reducible refine Kd.C_drewN ?_ _) | (with_reducible refine Kd.C_drew ?_))); (case side2 => exact HC0_2.out); rintro e w11 ⟨rfl, hb⟩; refine ⟨_, rfl, ?_⟩; have n0_ := za.mk (zi (g := gb101) (o := .cells #[.int .i64 a0_0, .int .i64 a0_1, .slice A0_2 l0_2.length c0_2] 24 (0, 0)) (by (with_reducible repeat (first | refine zy ?_ _ | refine zA ?_ | refine zx ?_ _)); exact BK101.out) hb); have n1_ := za.mk (zg (by repeat (first | (with_reducible first | exact HB.out | apply zc | apply zb | apply zd | refine zh ?_ GE101.out) | exact HB.out)) hb); clear BK101; clear HB; have BK101 := n0_; have HB := n1_; clear n0_ n1_; (try clear hb); (try clear hb2); (try clear hk); (try clear hi)))
        have n0_ := za.mk (zA BK101.out)
        have n1_ := za.mk (zd HB.out)
        clear BK101
        clear HB
        have BK101 := n0_
        have HB := n1_
        clear n0_ n1_
        refine zei (n := 15) (S := fun w' => w'.cell? ⟨gb101, 0, none⟩ = some (.int .i64 a0_0) ∧ w'.cell? ⟨gb101, 1, none⟩ = some (.int .i64 a0_1) ∧ w'.cell? ⟨gb101, 2, none⟩ = some (.slice A0_2 l0_2.length c0_2)) (ds := []) #[false, false, false, false, false, false, false, false, false, false, false, false, false, false, false] (by kernel_rfl) rfl rfl ⟨(zf BK101.out 0).trans rfl, (zf BK101.out 1).trans rfl, (zf BK101.out 2).trans rfl⟩ (fun hHeld => ?_); refine zdo zk.tab3 zk.bits3 (fun HT_ HW_ => ?_)
        generalize w11.drew = w12 at BK101 HB hHeld ⊢
        refine zbg (i := 0) (N := some 7) (v := ?_) (a' := ?_) #[true, false, false, false, false, false, false, false, false, false, false, false, false, false, false] rfl rfl (zaQ HT_.out (by kernel_rfl)) (fun _ _ _ h => h) (Or.inl ⟨by rfl, ?_⟩) ?_ ?_
        rotate_left
        · intro w'
          go_simp
          with_reducible rfl
        rotate_left
        · simp only [Act.put, List.setIfInBounds_toArray, List.set_cons_zero, List.set_cons_succ, zav, zau]
          rfl
        refine zbg (i := 4) (N := some 11) (v := ?_) (a' := ?_) #[true, false, false, false, true, false, false, false, false, false, false, false, false, false, false] rfl rfl (zaQ HT_.out (by kernel_rfl)) (fun _ _ _ h => h) (Or.inl ⟨by rfl, ?_⟩) ?_ ?_
        rotate_left
        · intro w'
          go_simp
          with_reducible rfl
        rotate_left
        · simp only [Act.put, List.setIfInBounds_toArray, List.set_cons_zero, List.set_cons_succ, zav, zau]
          rfl
        refine zbg (i := 9) (N := some 16) (v := ?_) (a' := ?_) #[true, false, false, false, true, false, false, false, false, true, false, false, false, false, false] rfl rfl (zaQ HT_.out (by kernel_rfl)) (fun _ _ _ h => h) (Or.inl ⟨by rfl, ?_⟩) ?_ ?_
        rotate_left
        · intro w'
          go_simp
          with_reducible rfl
        rotate_left
        · simp only [Act.put, List.setIfInBounds_toArray, List.set_cons_zero, List.set_cons_succ, zav, zau]
          rfl
        refine take_ (i := 1) (N := some 8) (v := ?_) (a' := ?_) #[true, true, false, false, true, false, false, false, false, true, false, false, false, false, false] rfl rfl (zbX HT_.out HW_.out (by kernel_rfl)) (fun _ _ _ h => h) (Or.inl ⟨by rfl, ?_⟩) hHeld ?_ ?_
        rotate_left
        · rintro w' ⟨s0, s1, s2⟩
          go_simp
          with_reducible rfl
        rotate_left
        · simp only [Act.put, List.setIfInBounds_toArray, List.set_cons_zero, List.set_cons_succ, zav, zau]
          rfl
        refine zbg (i := 2) (N := some 9) (v := ?_) (a' := ?_) #[true, true, true, false, true, false, false, false, false, true, false, false, false, false, false] rfl rfl (zaQ HT_.out (by kernel_rfl)) (fun _ _ _ h => h) (Or.inl ⟨by rfl, ?_⟩) ?_ ?_
        rotate_left
        · intro w'
          go_simp
          with_reducible rfl
        rotate_left
        · simp only [Act.put, List.setIfInBounds_toArray, List.set_cons_zero, List.set_cons_succ, zav, zau]
          rfl
        refine take_ (i := 5) (N := some 12) (v := ?_) (a' := ?_) #[true, true, true, false, true, true, false, false, false, true, false, false, false, false, false] rfl rfl (zbX HT_.out HW_.out (by kernel_rfl)) (fun _ _ _ h => h) (Or.inl ⟨by rfl, ?_⟩) hHeld ?_ ?_
        rotate_left
        · rintro w' ⟨s0, s1, s2⟩
          go_simp
          with_reducible rfl
        rotate_left
        · simp only [Act.put, List.setIfInBounds_toArray, List.set_cons_zero, List.set_cons_succ, zav, zau]
          rfl
        refine zbg (i := 6) (N := some 13) (v := ?_) (a' := ?_) #[true, true, true, false, true, true, true, false, false, true, false, false, false, false, false] rfl rfl (zaQ HT_.out (by kernel_rfl)) (fun _ _ _ h => h) (Or.inl ⟨by rfl, ?_⟩) ?_ ?_
        rotate_left
        · intro w'
          go_simp
          with_reducible rfl
        rotate_left
        · simp only [Act.put, List.setIfInBounds_toArray, List.set_cons_zero, List.set_cons_succ, zav, zau]
          rfl
        refine take_ (i := 10) (N := some 17) (v := ?_) (a' := ?_) #[true, true, true, false, true, true, true, false, false, true, true, false, false, false, false] rfl rfl (zbX HT_.out HW_.out (by kernel_rfl)) (fun _ _ _ h => h) (Or.inl ⟨by rfl, ?_⟩) hHeld ?_ ?_
        rotate_left
        · rintro w' ⟨s0, s1, s2⟩
          go_simp
          with_reducible rfl
        rotate_left
        · simp only [Act.put, List.setIfInBounds_toArray, List.set_cons_zero, List.set_cons_succ, zav, zau]
          rfl
        refine zed (i := 3) (N := some 10) #[true, true, true, true, true, true, true, false, false, true, true, false, false, false, false] rfl rfl (zcP HT_.out (by kernel_rfl)) (by decide) (fun K hK => ?_)
        refine zdw Try.func21 (by kernel_rfl) rfl #[.int .u64 (IntKind.u64.wrap (a0_0))] (by rfl) rfl rfl (by (try simp only [List.map_toArray, List.map_cons, List.map_nil]); first | done | rfl | (simp only [List.length_drop, List.length_take]; rfl)) ?_
        with_reducible refine (zw.calls (IntKind.u64.wrap (a0_0)) t103 _ A4.out).mono ?_
        rintro e w13 ⟨rfl, hb⟩
        refine ⟨_, rfl, ?_⟩
        have n0_ := za.mk (zi (g := gb101) (o := .cells #[.int .i64 a0_0, .int .i64 a0_1, .slice A0_2 l0_2.length c0_2] 24 (0, 0)) (by (with_reducible repeat (first | refine zy ?_ _ | refine zA ?_ | refine zx ?_ _)); exact BK101.out) hb)
        have n1_ := za.mk (zg (by repeat (first | (with_reducible first | exact HB.out | apply zc | apply zb | apply zd | refine zh ?_ GE101.out) | exact HB.out)) hb)
        clear BK101
        clear HB
        have BK101 := n0_
        have HB := n1_
        clear n0_ n1_
        (try clear hb)
        (try clear hb2)
        (try clear hk)
        (try clear hi)
        refine hK.out _ _ ⟨(zf BK101.out 0).trans rfl, (zf BK101.out 1).trans rfl, (zf BK101.out 2).trans rfl⟩ (fun hHeld => ?_)
        clear hK K
        refine zdB (a' := ?_) ?_ ?_
        rotate_left
        · show Act.put _ (some 10) _ = _
          simp only [Act.put, List.setIfInBounds_toArray, List.set_cons_zero, List.set_cons_succ, zav, zau]
          rfl
        refine zed (i := 7) (N := some 14) #[true, true, true, true, true, true, true, true, false, true, true, false, false, false, false] rfl rfl (zcP HT_.out (by kernel_rfl)) (by decide) (fun K hK => ?_)
        refine zdw Try.func21 (by kernel_rfl) rfl #[.int .u64 (IntKind.u64.wrap (a0_1))] (by rfl) rfl rfl (by (try simp only [List.map_toArray, List.map_cons, List.map_nil]); first | done | rfl | (simp only [List.length_drop, List.length_take]; rfl)) ?_
        with_reducible refine (zw.calls (IntKind.u64.wrap (a0_1)) t104 _ A5.out).mono ?_
        rintro e w14 ⟨rfl, hb⟩
        refine ⟨_, rfl, ?_⟩
        have n0_ := za.mk (zi (g := gb101) (o := .cells #[.int .i64 a0_0, .int .i64 a0_1, .slice A0_2 l0_2.length c0_2] 24 (0, 0)) (by (with_reducible repeat (first | refine zy ?_ _ | refine zA ?_ | refine zx ?_ _)); exact BK101.out) hb)
        have n1_ := za.mk (zg (by repeat (first | (with_reducible first | exact HB.out | apply zc | apply zb | apply zd | refine zh ?_ GE101.out) | exact HB.out)) hb)
        clear BK101
        clear HB
        have BK101 := n0_
        have HB := n1_
        clear n0_ n1_
        (try clear hb)
        (try clear hb2)
        (try clear hk)
        (try clear hi)
        refine hK.out _ _ ⟨(zf BK101.out 0).trans rfl, (zf BK101.out 1).trans rfl, (zf BK101.out 2).trans rfl⟩ (fun hHeld => ?_)
        clear hK K
        refine zdB (a' := ?_) ?_ ?_
        rotate_left
        · show Act.put _ (some 14) _ = _
          simp only [Act.put, List.setIfInBounds_toArray, List.set_cons_zero, List.set_cons_succ, zav, zau]
          rfl
        refine zbg (i := 8) (N := some 15) (v := ?_) (a' := ?_) #[true, true, true, true, true, true, true, true, true, true, true, false, false, false, false] rfl rfl (zaQ HT_.out (by kernel_rfl)) (fun _ _ _ h => h) (Or.inl ⟨by rfl, ?_⟩) ?_ ?_
        rotate_left
        · intro w'
          go_simp
          with_reducible rfl
        rotate_left
        · simp only [Act.put, List.setIfInBounds_toArray, List.set_cons_zero, List.set_cons_succ, zav, zau]
          rfl
        refine zed (i := 11) (N := some 18) #[true, true, true, true, true, true, true, true, true, true, true, true, false, false, false] rfl rfl (zcP HT_.out (by kernel_rfl)) (by decide) (fun K hK => ?_)
        refine zdw Try.func22 (by kernel_rfl) rfl #[.slice A0_2 l0_2.length c0_2] (by rfl) rfl rfl (by (try simp only [List.map_toArray, List.map_cons, List.map_nil]); first | done | rfl | (simp only [List.length_drop, List.length_take]; rfl)) ?_
        with_reducible refine (zF.calls _ _ l0_2 t105 _ ?side1 ?side2 A7.out).mono ?_
        (case side1 => repeat (first | exact (Kd.C_below HR0_2.out HB.out) | (with_reducible refine Kd.C_alloc ?_ _) | (with_reducible refine Kd.C_drewN ?_ _) | (with_reducible refine Kd.C_drew ?_)))
        (case side2 => exact HC0_2.out)
        rintro e w15 ⟨rfl, hb⟩
        refine ⟨_, rfl, ?_⟩
        have n0_ := za.mk (zi (g := gb101) (o := .cells #[.int .i64 a0_0, .int .i64 a0_1, .slice A0_2 l0_2.length c0_2] 24 (0, 0)) (by (with_reducible repeat (first | refine zy ?_ _ | refine zA ?_ | refine zx ?_ _)); exact BK101.out) hb)
        have n1_ := za.mk (zg (by repeat (first | (with_reducible first | exact HB.out | apply zc | apply zb | apply zd | refine zh ?_ GE101.out) | exact HB.out)) hb)
        clear BK101
        clear HB
        have BK101 := n0_
        have HB := n1_
        clear n0_ n1_
        (try clear hb)
        (try clear hb2)
        (try clear hk)
        (try clear hi)
        refine hK.out _ _ ⟨(zf BK101.out 0).trans rfl, (zf BK101.out 1).trans rfl, (zf BK101.out 2).trans rfl⟩ (fun hHeld => ?_)
        clear hK K
        refine zdB (a' := ?_) ?_ ?_
        rotate_left
        · show Act.put _ (some 18) _ = _
          simp only [Act.put, List.setIfInBounds_toArray, List.set_cons_zero, List.set_cons_succ, zav, zau]
          rfl
        refine zbg (i := 12) (N := some 19) (v := ?_) (a' := ?_) #[true, true, true, true, true, true, true, true, true, true, true, true, true, false, false] rfl rfl (zaQ HT_.out (by kernel_rfl)) (fun _ _ _ h => h) (Or.inl ⟨by rfl, ?_⟩) ?_ ?_
        rotate_left
        · intro w'
          go_simp
          with_reducible rfl
        rotate_left
        · simp only [Act.put, List.setIfInBounds_toArray, List.set_cons_zero, List.set_cons_succ, zav, zau]
          rfl
        refine zbg (i := 13) (N := some 2) (v := ?_) (a' := ?_) #[true, true, true, true, true, true, true, true, true, true, true, true, true, true, false] rfl rfl (zaQ HT_.out (by kernel_rfl)) (fun _ _ _ h => h) (Or.inl ⟨by rfl, ?_⟩) ?_ ?_
        rotate_left
        · intro w'
          go_simp
          with_reducible rfl
        rotate_left
        · simp only [Act.put, List.setIfInBounds_toArray, List.set_cons_zero, List.set_cons_succ, zav, zau]
          rfl
        refine zbg (i := 14) (N := some 3) (v := ?_) (a' := ?_) #[true, true, true, true, true, true, true, true, true, true, true, true, true, true, true] rfl rfl (zaQ HT_.out (by kernel_rfl)) (fun _ _ _ h => h) (Or.inl ⟨by rfl, ?_⟩) ?_ ?_
        rotate_left
        · intro w'
          go_simp
          with_reducible rfl
        rotate_left
        · simp only [Act.put, List.setIfInBounds_toArray, List.set_cons_zero, List.set_cons_succ, zav, zau]
          rfl
        refine zeu (zdW HT_.out (by kernel_rfl)) ?_
        try go_wp2
        go_ret2
        exact ⟨by first | rfl | (simp [zB, zC] <;> rfl) | (simp [*, zB, zC] <;> rfl), by repeat (first | (with_reducible first | exact HB.out | apply zc | apply zb | apply zd | refine zh ?_ GE101.out) | exact HB.out)⟩
      · rw [if_neg c8] at H
        exact absurd H (by simp)
    · rw [if_neg c6] at H
      exact absurd H (by simp)
  · replace c3 := Bool.eq_false_iff.mpr c3
    subst c3
    have H1 : (some ((⟨#[]⟩ : ByteArray), 1)) = some (r1, r2) := by rw [if_neg (show ¬ (false = true) by decide)] at H; exact H
    clear H
    have H := H1
    clear H1
    simp only [Option.some.injEq, Prod.mk.injEq] at H
    obtain ⟨rfl, rfl⟩ := H
    go_enter Try.func7, Try.ntmps7
    go_wp2_with (first | ((with_reducible refine zK (N := 1) rfl ?_); refine zJ ?hg (N := 1) ?hd (cs := #[.int .i64 a0_0, .int .i64 a0_1, .slice A0_2 l0_2.length c0_2]) (t := 24) ?hr ?_; (case hd => rfl); (case hg => rfl); (case hr => first | (go_simp; done) | (go_simp; rfl)); intro gb101 hg w16 hbox hb; have n0_ := za.mk (zg (by repeat (first | (with_reducible first | exact HB.out | apply zc | apply zb | apply zd) | exact HB.out)) hb); have n1_ := za.mk (hbox); have n2_ := za.mk ((by rw [hg]; exact (zl (by repeat (first | (with_reducible first | exact HB.out | apply zc | apply zb | apply zd) | exact HB.out))) : w.heap.size ≤ gb101)); have n3_ := za.mk ((by rw [hg]; exact (zl (by repeat (first | (with_reducible first | exact HB.out | apply zc | apply zb | apply zd) | exact HB.out))) : w.heap.size ≤ gb101)); clear HB; have HB := n0_; have BK101 := n1_; have GW101 := n2_; have GE101 := n3_; clear n0_ n1_ n2_ n3_; clear hb hbox hg; have hcz17_0 : w16.cell? ⟨gb101, 0, none⟩ = some (.int .i64 a0_0) := (zf BK101.out 0).trans rfl; have hcz17_1 : w16.cell? ⟨gb101, 1, none⟩ = some (.int .i64 a0_1) := (zf BK101.out 1).trans rfl; have hcz17_2 : w16.cell? ⟨gb101, 2, none⟩ = some (.slice A0_2 l0_2.length c0_2) := (zf BK101.out 2).trans rfl; have hfz17_0 := ze BK101.out 0; have hfz17_1 := ze BK101.out 1; have hfz17_2 := ze BK101.out 2) | ((with_reducible refine zp (f := 11) rfl ?_); refine zQ (some 5) rfl rfl Try.func11 (by kernel_rfl) rfl #[.agg #[.int .i64 a0_0, .int .i64 a0_1, .slice A0_2 l0_2.length c0_2]] rfl (by (try simp only [List.map_toArray, List.map_cons, List.map_nil]); first | done | rfl | (simp only [List.length_drop, List.length_take]; rfl)) ?_; (with_reducible refine (zM.calls a0_0 a0_1 _ _ l0_2 false _ ?side1 ?side2 A2.out).mono ?_); (case side1 => repeat (first | exact (Kd.C_below HR0_2.out HB.out) | (with_reducible refine Kd.C_alloc ?_ _) | (with_reducible refine Kd.C_drewN ?_ _) | (with_reducible refine Kd.C_drew ?_))); (case side2 => exact HC0_2.out); rintro e w18 ⟨rfl, hb⟩; refine ⟨_, rfl, ?_⟩; have n0_ := za.mk (zi (g := gb101) (o := .cells #[.int .i64 a0_0, .int .i64 a0_1, .slice A0_2 l0_2.length c0_2] 24 (0, 0)) (by (with_reducible repeat (first | refine zy ?_ _ | refine zA ?_ | refine zx ?_ _)); exact BK101.out) hb); have n1_ := za.mk (zg (by repeat (first | (with_reducible first | exact HB.out | apply zc | apply zb | apply zd | refine zh ?_ GE101.out) | exact HB.out)) hb); clear BK101; clear HB; have BK101 := n0_; have HB := n1_; clear n0_ n1_; (try clear hb); (try clear hb2); (try clear hk); (try clear hi)))
    go_ret2
    exact ⟨by first | rfl | (simp [zB, zC] <;> rfl) | (simp [*, zB, zC] <;> rfl), by repeat (first | (with_reducible first | exact HB.out | apply zc | apply zb | apply zd | refine zh ?_ GE101.out) | exact HB.out)⟩
end Go.Proofs.Ytcedkmjdigpdiaa.Px

namespace Go.Proofs.Ytcedkmjdigpdiaa.Px
open Go.RowKit Go.Proofs.YtcedkmjdigpdiaaW.PrintWords Go.Proofs.YtcedkmjdigpdiaaW.PrintLast Go.Proofs.YtcedkmjdigpdiaaW.PrintMore
attribute [local go_sem] zs zu zD zE zm zn zt zv
set_option linter.unusedVariables false
set_option linter.unusedSimpArgs false
def zae.f (a0 : Int) (a1 : Int) : Option (Int) := if 0 ≤ (Go.bits .and .u64 (IntKind.u64.wrap (a1)) 31) then (if 0 ≤ (IntKind.u64.wrap (32 - (Go.bits .and .u64 (IntKind.u64.wrap (a1)) 31))) then (some (Go.bits .or .u32 (shl .u32 a0 (Go.bits .and .u64 (IntKind.u64.wrap (a1)) 31)) (shr .u32 a0 (IntKind.u64.wrap (32 - (Go.bits .and .u64 (IntKind.u64.wrap (a1)) 31)))))) else (none)) else (none)
end Go.Proofs.Ytcedkmjdigpdiaa.Px

namespace Go.Proofs.Ytcedkmjdigpdiaa.Px
open Go.RowKit Go.Proofs.YtcedkmjdigpdiaaW.PrintWords Go.Proofs.YtcedkmjdigpdiaaW.PrintLast Go.Proofs.YtcedkmjdigpdiaaW.PrintMore
attribute [local go_sem] zs zu zD zE zm zn zt zv
set_option linter.unusedVariables false
set_option linter.unusedSimpArgs false
def zbW.f (a0 : Int) (a1 : Int) : Option (Int) := (zae.f a0 (wrap64 (-a1))).bind fun t125 => (some t125)
end Go.Proofs.Ytcedkmjdigpdiaa.Px

namespace Go.Proofs.Ytcedkmjdigpdiaa.Px
open Go.RowKit Go.Proofs.YtcedkmjdigpdiaaW.PrintWords Go.Proofs.YtcedkmjdigpdiaaW.PrintLast Go.Proofs.YtcedkmjdigpdiaaW.PrintMore
attribute [local go_sem] zs zu zD zE zm zn zt zv
set_option linter.unusedVariables false
set_option linter.unusedSimpArgs false
def zam (x : Int) : Prop := 0 ≤ x ∧ x < 4294967296
def zan (x : Int) : Int := IntKind.u32.wrap x
theorem zbB (x : Int) : zan x = x % 4294967296 := IntKind.wrap_u32 x
theorem zbC (x : Int) : zam (zan x) := by rw [zbB]; unfold zam; omega
def zG (n : Nat) (x : Int) : Int := x / 2 ^ n + x % 2 ^ n * 2 ^ (32 - n)
def zai (a b : Int) : Int := Go.bits .xor .u32 a b
def zaW (a b : Int) : Int := Go.bits .and .u32 a b
def zcq (L : List Int) (k w : Int) : List Int :=
  let t := zan (zan (zan (zan (L.getD 7 0 + zai (zai (zG 6 (L.getD 4 0)) (zG 11 (L.getD 4 0))) (zG 25 (L.getD 4 0))) + zai (zaW (L.getD 4 0) (L.getD 5 0)) (zaW (4294967295 - L.getD 4 0) (L.getD 6 0))) + k) + w)
  let u := zan (zai (zai (zG 2 (L.getD 0 0)) (zG 13 (L.getD 0 0))) (zG 22 (L.getD 0 0)) + zai (zai (zaW (L.getD 0 0) (L.getD 1 0)) (zaW (L.getD 0 0) (L.getD 2 0))) (zaW (L.getD 1 0) (L.getD 2 0)))
  [zan (t + u), L.getD 0 0, L.getD 1 0, L.getD 2 0, zan (L.getD 3 0 + t), L.getD 4 0, L.getD 5 0, L.getD 6 0]
def okL (L : List Int) : Prop := ∀ i, zam (L.getD i 0)
theorem zcl : okL [] := fun i => by simp [zam]
theorem zO {x : Int} {L : List Int} (hx : zam x) (hL : okL L) : okL (x :: L) := fun i => by
  rcases i with _ | i
  · exact hx
  · exact hL i
theorem zcw {x : Int} {L : List Int} (hL : okL L) (hx : zam x) : okL (L ++ [x]) := fun i => by
  rw [List.getD_eq_getElem?_getD]
  rcases Nat.lt_trichotomy i L.length with h | h | h
  · rw [List.getElem?_append_left h, ← List.getD_eq_getElem?_getD]; exact hL i
  · subst h; simp; exact hx
  · rw [List.getElem?_eq_none (by rw [List.length_append]; simp; omega)]; simp [zam]
theorem zdg {L : List Int} (h : okL L) (k w : Int) : okL (zcq L k w) :=
  zO (zbC _) (zO (h 0) (zO (h 1) (zO (h 2) (zO (zbC _) (zO (h 4) (zO (h 5) (zO (h 6) zcl)))))))
def zcG (b : ByteArray) (i : Nat) : Int := bt b ((4 * i : Nat) : Int) * 16777216 + bt b ((4 * i + 1 : Nat) : Int) * 65536 + bt b ((4 * i + 2 : Nat) : Int) * 256 + bt b ((4 * i + 3 : Nat) : Int)
theorem zdP (b : ByteArray) (i : Nat) : zam (zcG b i) := by
  have h0 := zal b ((4 * i : Nat) : Int)
  have h1 := zal b ((4 * i + 1 : Nat) : Int)
  have h2 := zal b ((4 * i + 2 : Nat) : Int)
  have h3 := zal b ((4 * i + 3 : Nat) : Int)
  unfold zam zcG; omega
def zbp (b : ByteArray) : Nat → List Int
  | 0 => []
  | n + 1 => zbp b n ++ [zcG b n]
theorem zaI (b : ByteArray) : ∀ n, (zbp b n).length = n
  | 0 => rfl
  | n + 1 => by rw [zbp, List.length_append, zaI b n]; rfl
theorem zct (b : ByteArray) : ∀ n, okL (zbp b n)
  | 0 => zcl
  | n + 1 => zcw (zct b n) (zdP b n)
def zbU (W : List Int) (i : Nat) : Int :=
  zan (zan (zan (W.getD (i - 16) 0 + zai (zai (zG 7 (W.getD (i - 15) 0)) (zG 18 (W.getD (i - 15) 0))) (W.getD (i - 15) 0 / 8)) + W.getD (i - 7) 0) + zai (zai (zG 17 (W.getD (i - 2) 0)) (zG 19 (W.getD (i - 2) 0))) (W.getD (i - 2) 0 / 1024))
def zo (b : ByteArray) : Nat → List Int
  | 0 => zbp b 16
  | n + 1 => zo b n ++ [zbU (zo b n) (16 + n)]
theorem z8 (b : ByteArray) : ∀ n, (zo b n).length = 16 + n
  | 0 => zaI b 16
  | n + 1 => by rw [zo, List.length_append, z8 b n]; rfl
theorem zcc (b : ByteArray) : ∀ n, okL (zo b n)
  | 0 => zct b 16
  | n + 1 => zcw (zcc b n) (zbC _)
def zag (S K W : List Int) : Nat → List Int
  | 0 => S
  | n + 1 => zcq (zag S K W n) (K.getD n 0) (W.getD n 0)
theorem zbR {S : List Int} (h : okL S) (K W : List Int) : ∀ n, okL (zag S K W n)
  | 0 => h
  | n + 1 => zdg (zbR h K W n) _ _
theorem zbr {S : List Int} (h : S.length = 8) (K W : List Int) : ∀ n, (zag S K W n).length = 8
  | 0 => h
  | _ + 1 => rfl
def zaw (S H : List Int) (k : Nat) : List Int := (List.range 8).map fun j => if j < k then zan (S.getD j 0 + H.getD j 0) else S.getD j 0
theorem zaq (S H : List Int) (k : Nat) : (zaw S H k).length = 8 := by simp [zaw]
theorem zaM (S H : List Int) (k j : Nat) (hj : j < 8) : (zaw S H k).getD j 0 = if j < k then zan (S.getD j 0 + H.getD j 0) else S.getD j 0 := by
  rw [zaw, List.getD_eq_getElem?_getD, List.getElem?_map, List.getElem?_range hj]; rfl
theorem zcu {A B : List Int} (ha : A.length = 8) (hb : B.length = 8) (h : ∀ j, j < 8 → A.getD j 0 = B.getD j 0) : A = B := by
  apply List.ext_getElem (by rw [ha, hb])
  intro i h1 h2
  have := h i (by omega)
  rwa [List.getD_eq_getElem?_getD, List.getD_eq_getElem?_getD, List.getElem?_eq_getElem h1, List.getElem?_eq_getElem h2] at this
theorem zcY {S : List Int} (h : S.length = 8) (H : List Int) : zaw S H 0 = S :=
  zcu (zaq _ _ _) h (fun j hj => by rw [zaM _ _ _ _ hj, if_neg (by omega)])
theorem zdv (L : List Int) (k j : Nat) (v : Int) (hk : k < L.length) : (L.set k v).getD j 0 = if j = k then v else L.getD j 0 := by
  rw [List.getD_eq_getElem?_getD, List.getElem?_set]
  by_cases h : k = j
  · subst h; rw [if_pos rfl, if_pos hk, if_pos rfl]; rfl
  · rw [if_neg h, if_neg (Ne.symm h), ← List.getD_eq_getElem?_getD]
theorem zcX (S H : List Int) (k : Nat) (hk : k < 8) : (zaw S H k).set k (zan (S.getD k 0 + H.getD k 0)) = zaw S H (k + 1) := by
  refine zcu (by rw [List.length_set, zaq]) (zaq _ _ _) (fun j hj => ?_)
  rw [zdv _ _ _ _ (by rw [zaq]; exact hk), zaM _ _ _ _ hj, zaM _ _ _ _ hj]
  by_cases h : j = k
  · subst h; rw [if_pos rfl, if_pos (by omega)]
  · rw [if_neg h]
    by_cases h2 : j < k
    · rw [if_pos h2, if_pos (by omega)]
    · rw [if_neg h2, if_neg (by omega)]
def zck (S K : List Int) (b : ByteArray) : List Int := zaw (zag S K (zo b 48) 64) S 8
theorem zbe (S K : List Int) (b : ByteArray) : (zck S K b).length = 8 := zaq _ _ _
theorem zd1 (S K : List Int) (b : ByteArray) : okL (zck S K b) := fun i => by
  rcases Nat.lt_or_ge i 8 with h | h
  · rw [zck, zaM _ _ _ _ h, if_pos h]; exact zbC _
  · rw [List.getD_eq_getElem?_getD, List.getElem?_eq_none (by rw [zbe]; exact h)]; simp [zam]
def kL : List Int := [1116352408, 1899447441, 3049323471, 3921009573, 961987163, 1508970993, 2453635748, 2870763221, 3624381080, 310598401, 607225278, 1426881987, 1925078388, 2162078206, 2614888103, 3248222580, 3835390401, 4022224774, 264347078, 604807628, 770255983, 1249150122, 1555081692, 1996064986, 2554220882, 2821834349, 2952996808, 3210313671, 3336571891, 3584528711, 113926993, 338241895, 666307205, 773529912, 1294757372, 1396182291, 1695183700, 1986661051, 2177026350, 2456956037, 2730485921, 2820302411, 3259730800, 3345764771, 3516065817, 3600352804, 4094571909, 275423344, 430227734, 506948616, 659060556, 883997877, 958139571, 1322822218, 1537002063, 1747873779, 1955562222, 2024104815, 2227730452, 2361852424, 2428436474, 2756734187, 3204031479, 3329325298]
def hL : List Int := [1779033703, 3144134277, 1013904242, 2773480762, 1359893119, 2600822924, 528734635, 1541459225]
theorem zex : okL hL := by
  refine zO ?_ (zO ?_ (zO ?_ (zO ?_ (zO ?_ (zO ?_ (zO ?_ (zO ?_ zcl))))))) <;> (constructor <;> decide)
def zbD (n : Nat) : Bs := [UInt8.ofNat (n / 72057594037927936 % 256), UInt8.ofNat (n / 281474976710656 % 256), UInt8.ofNat (n / 1099511627776 % 256), UInt8.ofNat (n / 4294967296 % 256), UInt8.ofNat (n / 16777216 % 256), UInt8.ofNat (n / 65536 % 256), UInt8.ofNat (n / 256 % 256), UInt8.ofNat (n % 256)]
def zba (n : Nat) : Nat := (119 - n % 64) % 64
def zbv (s : Bs) : Bs := s ++ 128 :: (List.replicate (zba s.length) 0 ++ zbD (s.length * 8))
theorem zdG (s : Bs) : ∃ m, (zbv s).length = 64 * m := by
  refine ⟨(s.length + 9 + zba s.length) / 64, ?_⟩
  have : (zbv s).length = s.length + 9 + zba s.length := by simp [zbv, zbD]; omega
  rw [this]; unfold zba; omega
def zW (p : ByteArray) : Nat → List Int
  | 0 => hL
  | i + 1 => zck (zW p i) kL (p.extract (64 * i) (64 * i + 64))
theorem zaa (p : ByteArray) : ∀ i, (zW p i).length = 8
  | 0 => rfl
  | _ + 1 => zbe _ _ _
theorem zbG (p : ByteArray) : ∀ i, okL (zW p i)
  | 0 => zex
  | _ + 1 => zd1 _ _ _
def zaN (x : Int) : Bs := [UInt8.ofNat (x.toNat / 16777216 % 256), UInt8.ofNat (x.toNat / 65536 % 256), UInt8.ofNat (x.toNat / 256 % 256), UInt8.ofNat (x.toNat % 256)]
def zcV (s : ByteArray) : ByteArray := toB ((zW (toB (zbv (ofB s))) ((zbv (ofB s)).length / 64)).flatMap zaN)
theorem zbd (l : List Int) : (l.flatMap zaN).length = 4 * l.length := by
  induction l with
  | nil => rfl
  | cons x l ih => rw [List.flatMap_cons, List.length_append, ih, List.length_cons]; show 4 + _ = _; omega
theorem zdi (s : ByteArray) : (zcV s).size = 32 := by
  rw [zcV, zay, zbd, zaa]
def zj (L : List Int) : Array Value := (L.map (Value.int .u32)).toArray
theorem zX (L : List Int) : (zj L).size = L.length := by simp [zj]
theorem zz (L : List Int) (i : Nat) (h : i < L.length) : (zj L)[i]? = some (.int .u32 (L.getD i 0)) := by
  rw [zj, List.getElem?_toArray, List.getElem?_map, List.getElem?_eq_getElem h, List.getD_eq_getElem?_getD, List.getElem?_eq_getElem h]; rfl
theorem zbn (L : List Int) (i : Nat) (v : Int) : (zj L).setIfInBounds i (.int .u32 v) = zj (L.set i v) := by
  simp [zj, List.map_set]
theorem zbm (L : List Int) (h : L.length = 8) : zj L = #[.int .u32 (L.getD 0 0), .int .u32 (L.getD 1 0), .int .u32 (L.getD 2 0), .int .u32 (L.getD 3 0), .int .u32 (L.getD 4 0), .int .u32 (L.getD 5 0), .int .u32 (L.getD 6 0), .int .u32 (L.getD 7 0)] := by
  obtain ⟨a, b, c, d, e, f, g, k, rfl⟩ : ∃ a b c d e f g k, L = [a, b, c, d, e, f, g, k] := by
    match L, h with
    | [a, b, c, d, e, f, g, k], _ => exact ⟨a, b, c, d, e, f, g, k, rfl⟩
  rfl
def z6 (W : List Int) : List Int := W ++ List.replicate (64 - W.length) 0
theorem zaT {W : List Int} (h : W.length ≤ 64) : (z6 W).length = 64 := by simp [z6]; omega
theorem zbJ {W : List Int} (i : Nat) (h : i < W.length) : (z6 W).getD i 0 = W.getD i 0 := by
  rw [z6, List.getD_eq_getElem?_getD, List.getElem?_append_left h, ← List.getD_eq_getElem?_getD]
theorem zcK {W : List Int} (h : W.length < 64) (v : Int) : (z6 W).set W.length v = z6 (W ++ [v]) := by
  rw [z6, z6, List.set_append_right _ _ (Nat.le_refl _), Nat.sub_self, List.length_append]
  obtain ⟨m, hm⟩ : ∃ m, 64 - W.length = m + 1 := ⟨63 - W.length, by omega⟩
  rw [hm, List.replicate_succ, List.set_cons_zero, show 64 - (W.length + [v].length) = m by simp; omega]
  simp
end Go.Proofs.Ytcedkmjdigpdiaa.Px

namespace Go.Proofs.Ytcedkmjdigpdiaa.Px
open Go.RowKit Go.Proofs.YtcedkmjdigpdiaaW.PrintWords Go.Proofs.YtcedkmjdigpdiaaW.PrintLast Go.Proofs.YtcedkmjdigpdiaaW.PrintMore
attribute [local go_sem] zs zu zD zE zm zn zt zv
set_option linter.unusedVariables false
set_option linter.unusedSimpArgs false
end Go.Proofs.Ytcedkmjdigpdiaa.Px

namespace Go.Proofs.Ytcedkmjdigpdiaa.Px
open Go.RowKit Go.Proofs.YtcedkmjdigpdiaaW.PrintWords Go.Proofs.YtcedkmjdigpdiaaW.PrintLast Go.Proofs.YtcedkmjdigpdiaaW.PrintMore
attribute [local go_sem] zs zu zD zE zm zn zt zv
set_option linter.unusedVariables false
set_option linter.unusedSimpArgs false
end Go.Proofs.Ytcedkmjdigpdiaa.Px

namespace Go.Proofs.Ytcedkmjdigpdiaa.Px
open Go.RowKit Go.Proofs.YtcedkmjdigpdiaaW.PrintWords Go.Proofs.YtcedkmjdigpdiaaW.PrintLast Go.Proofs.YtcedkmjdigpdiaaW.PrintMore
attribute [local go_sem] zs zu zD zE zm zn zt zv
set_option linter.unusedVariables false
set_option linter.unusedSimpArgs false
theorem zeh (n : Nat) (h1 : n ≤ 32) : (2 : Int) ^ n * 2 ^ (32 - n) = 4294967296 := by
  rw [← Int.pow_add, show n + (32 - n) = 32 by omega]; rfl
theorem zcy (n : Nat) : (0 : Int) < 2 ^ n := Int.pow_pos (by decide)
theorem zdJ (n : Nat) (h1 : n ≤ 32) {x : Int} (hx : zam x) : Go.bits .or .u32 (IntKind.u32.wrap (x * 2 ^ (32 - n))) (x / 2 ^ n) = zG n x := by
  have hpq := zeh n h1
  have hp := zcy n
  have hq := zcy (32 - n)
  have h2 := Int.emod_nonneg x (Int.ne_of_gt hp)
  have h3 := Int.emod_lt_of_pos x hp
  have h4 : 0 ≤ x / 2 ^ n := Int.ediv_nonneg hx.1 (Int.le_of_lt hp)
  have h5 : x / 2 ^ n < 2 ^ (32 - n) := Int.ediv_lt_of_lt_mul hp (by rw [Int.mul_comm, hpq]; exact hx.2)
  have h8 : x / 2 ^ n < 4294967296 := by
    have : x / 2 ^ n ≤ x := Int.ediv_le_self _ hx.1
    have := hx.2; omega
  have e : IntKind.u32.wrap (x * 2 ^ (32 - n)) = x % 2 ^ n * 2 ^ (32 - n) := by
    rw [IntKind.wrap_u32, ← hpq, Int.mul_comm x, Int.mul_comm (2 ^ n), Int.mul_emod_mul_of_pos _ _ hq, Int.mul_comm]
  have h6 : x % 2 ^ n * 2 ^ (32 - n) ≤ (2 ^ n - 1) * 2 ^ (32 - n) := Int.mul_le_mul_of_nonneg_right (by omega) (by omega)
  rw [Int.sub_mul, hpq, Int.one_mul] at h6
  have h7 : 0 ≤ x % 2 ^ n * 2 ^ (32 - n) := Int.mul_nonneg h2 (by omega)
  rw [e, bits_join .u32 32 (by decide) (fun n h0 h1 => by rw [IntKind.wrap_u32]; omega) (32 - n) _ _ h7 (Int.mul_emod_left _ _) (by omega) h4 h5 (by omega), zG, Int.add_comm]
theorem zcE (n : Nat) (h0 : 1 ≤ n) (h1 : n ≤ 31) {x : Int} (hx : zam x) : zbW.f x (n : Int) = some (zG n x) := by
  unfold zbW.f zae.f
  have e1 : wrap64 (-(n : Int)) = -(n : Int) := zdp (by omega) (by omega)
  have e2 : IntKind.u64.wrap (-(n : Int)) = 18446744073709551616 - (n : Int) := by
    show (-(n : Int)) % 18446744073709551616 = _
    omega
  have e3 : Go.bits .and .u64 (18446744073709551616 - (n : Int)) 31 = ((32 - n : Nat) : Int) := by
    have := bits_mask .u64 64 (by decide) (fun n h0 h1 => zaB h0 (by omega)) 5 (by decide) (18446744073709551616 - (n : Int)) (by omega) (by omega)
    rw [show ((2 : Int) ^ 5 - 1) = 31 from rfl, show (2 : Int) ^ 5 = 32 from rfl] at this
    rw [this]; omega
  have e4 : IntKind.u64.wrap (32 - ((32 - n : Nat) : Int)) = (n : Int) := by rw [zaB (by omega) (by omega)]; omega
  rw [e1, e2, e3, e4, if_pos (by omega), if_pos (by omega)]
  simp only [Option.bind_some]
  congr 1
  unfold shl shr
  rw [Int.toNat_natCast, Int.toNat_natCast, Nat.min_eq_left (by show 32 - n ≤ 32; omega), Nat.min_eq_left (by show n ≤ 32; omega)]
  exact zdJ n (by omega) hx
end Go.Proofs.Ytcedkmjdigpdiaa.Px
