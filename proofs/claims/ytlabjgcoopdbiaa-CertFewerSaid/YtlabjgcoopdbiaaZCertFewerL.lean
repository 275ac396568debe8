/- Part 12 of 28 of the proof of the law CertFewer: what is proved is the statement at the end of the last part; its conditions are those of the given row. -/
import Derived.Test.YtlabjgcoopdbiaaZCertFewerK
namespace Go.Proofs.Ytlabjgcoopdbiaa.Px
open Go.RowKit Go.Proofs.YtlabjgcoopdbiaaW.PrintWords Go.Proofs.YtlabjgcoopdbiaaW.PrintLast Go.Proofs.YtlabjgcoopdbiaaW.PrintMore
attribute [local go_sem] zB zD zL zM zx zy zC zE
set_option linter.unusedVariables false
set_option linter.unusedSimpArgs false
def zaB.f (a0_0 : Int) (a0_1 : Int) (l0_2 : List ByteArray) : Option (ByteArray × Int) := (zaE.f a0_0 a0_1 l0_2).bind fun t115 => (if t115 = true then ((zaf.f (IntKind.u64.wrap (a0_0))).bind fun t116 => ((zaf.f (IntKind.u64.wrap (a0_1))).bind fun t117 => (if t116.size + t117.size ≤ 9223372036854775807 then ((zW.f l0_2).bind fun t118 => (if (t116 ++ t117).size + t118.size ≤ 9223372036854775807 then (some ((t116 ++ t117) ++ t118, 0)) else (none))) else (none)))) else (some ((⟨#[]⟩ : ByteArray), 1)))
def zaB.T3 : Bool × List (List Nat × List Nat) := (true, [([], []), ([0], [0]), ([1], [1]), ([2], [2]), ([], []), ([4], [4]), ([5], [5]), ([6, 3], [6]), ([3, 7], [3, 7]), ([], []), ([9], [9]), ([10, 7], [10]), ([8, 11], [8, 11]), ([12, 11, 0, 1, 2, 3, 4, 5, 6, 7, 8, 9, 10, 11, 12], [12]), ([13, 0, 1, 2, 3, 4, 5, 6, 7, 8, 9, 10, 11, 12, 13], [])])
def zaB.B3 : List Nat := [0, 1, 3, 7, 0, 16, 48, 127, 255, 0, 512, 1791, 4095, 8191, 16383]
theorem zaB.tab3 : zb3 .any (zf1 Try.f52 3) = zaB.T3 := by kernel_rfl
theorem zaB.bits3 : zb8 zaB.T3.2 zaB.B3 = true := by kernel_rfl
set_option maxHeartbeats 8000000 in
set_option maxRecDepth 100000 in
theorem zaB.calls (a0_0 : Int) (a0_1 : Int) (A0_2 : Option Addr) (c0_2 : Nat) (l0_2 : List ByteArray) (r1 : ByteArray) (r2 : Int) (w : World) (hr0_2 : Kd.C Kd.string w A0_2 l0_2.length l0_2) (hc0_2 : l0_2.length ≤ c0_2) (h : zaB.f a0_0 a0_1 l0_2 = some (r1, r2)) :
    Calls Try.prog 52 #[.agg #[.int .i64 a0_0, .int .i64 a0_1, .slice A0_2 l0_2.length c0_2]] w fun e w' => e = .returned (.tuple #[.string r1, .int .i64 r2]) ∧ Below w.heap.size w w' := by
  have hu68 := Try.underlying68
  have HR0_2 := zc.mk hr0_2
  have HC0_2 := zc.mk hc0_2
  clear hr0_2 hc0_2
  have HB := zc.mk (Below.refl w.heap.size w)
  have H : ((zaE.f a0_0 a0_1 l0_2).bind fun t115 => (if t115 = true then ((zaf.f (IntKind.u64.wrap (a0_0))).bind fun t116 => ((zaf.f (IntKind.u64.wrap (a0_1))).bind fun t117 => (if t116.size + t117.size ≤ 9223372036854775807 then ((zW.f l0_2).bind fun t118 => (if (t116 ++ t117).size + t118.size ≤ 9223372036854775807 then (some ((t116 ++ t117) ++ t118, 0)) else (none))) else (none)))) else (some ((⟨#[]⟩ : ByteArray), 1)))) = some (r1, r2) := h
  clear h
  replace H := Option.bind_eq_some_iff.mp H
  obtain ⟨t115, A20, H⟩ := H
  replace H : (if t115 = true then ((zaf.f (IntKind.u64.wrap (a0_0))).bind fun t116 => ((zaf.f (IntKind.u64.wrap (a0_1))).bind fun t117 => (if t116.size + t117.size ≤ 9223372036854775807 then ((zW.f l0_2).bind fun t118 => (if (t116 ++ t117).size + t118.size ≤ 9223372036854775807 then (some ((t116 ++ t117) ++ t118, 0)) else (none))) else (none)))) else (some ((⟨#[]⟩ : ByteArray), 1))) = some (r1, r2) := H
  have A2 := zc.mk A20
  clear A20
  by_cases c3 : t115 = true
  · subst c3
    have H1 : ((zaf.f (IntKind.u64.wrap (a0_0))).bind fun t116 => ((zaf.f (IntKind.u64.wrap (a0_1))).bind fun t117 => (if t116.size + t117.size ≤ 9223372036854775807 then ((zW.f l0_2).bind fun t118 => (if (t116 ++ t117).size + t118.size ≤ 9223372036854775807 then (some ((t116 ++ t117) ++ t118, 0)) else (none))) else (none)))) = some (r1, r2) := by rw [if_pos rfl] at H; exact H
    clear H
    have H := H1
    clear H1
    replace H := Option.bind_eq_some_iff.mp H
    obtain ⟨t116, A40, H⟩ := H
    replace H : ((zaf.f (IntKind.u64.wrap (a0_1))).bind fun t117 => (if t116.size + t117.size ≤ 9223372036854775807 then ((zW.f l0_2).bind fun t118 => (if (t116 ++ t117).size + t118.size ≤ 9223372036854775807 then (some ((t116 ++ t117) ++ t118, 0)) else (none))) else (none))) = some (r1, r2) := H
    have A4 := zc.mk A40
    clear A40
    replace H := Option.bind_eq_some_iff.mp H
    obtain ⟨t117, A50, H⟩ := H
    replace H : (if t116.size + t117.size ≤ 9223372036854775807 then ((zW.f l0_2).bind fun t118 => (if (t116 ++ t117).size + t118.size ≤ 9223372036854775807 then (some ((t116 ++ t117) ++ t118, 0)) else (none))) else (none)) = some (r1, r2) := H
    have A5 := zc.mk A50
    clear A50
    by_cases c6 : t116.size + t117.size ≤ 9223372036854775807
    · rw [if_pos c6] at H
      have c6b0 := eq_true c6
      have c6b1 : decide (t116.size + t117.size ≤ 9223372036854775807) = true := decide_eq_true c6
      try have c6b2 : (9223372036854775807 < t116.size + t117.size) = False := eq_false (Nat.not_lt.2 c6)
      replace H := Option.bind_eq_some_iff.mp H
      obtain ⟨t118, A70, H⟩ := H
      replace H : (if (t116 ++ t117).size + t118.size ≤ 9223372036854775807 then (some ((t116 ++ t117) ++ t118, 0)) else (none)) = some (r1, r2) := H
      have A7 := zc.mk A70
      clear A70
      by_cases c8 : (t116 ++ t117).size + t118.size ≤ 9223372036854775807
      · rw [if_pos c8] at H
        have c8b0 := eq_true c8
        have c8b1 : decide ((t116 ++ t117).size + t118.size ≤ 9223372036854775807) = true := decide_eq_true c8
        try have c8b2 : (9223372036854775807 < (t116 ++ t117).size + t118.size) = False := eq_false (Nat.not_lt.2 c8)
        try (have c8b3 := c8; simp [ByteArray.size_append] at c8b3; have c8b4 := eq_false (Nat.not_lt.2 c8b3); clear c8b3)
        simp only [Option.some.injEq, Prod.mk.injEq] at H
        obtain ⟨rfl, rfl⟩ := H
        go_enter Try.func52, Try.ntmps52
        try go_wp2_with (first | ((with_reducible refine zv (N := 1) rfl ?_); refine zu ?hg (N := 1) ?hd (cs := #[.int .i64 a0_0, .int .i64 a0_1, .slice A0_2 l0_2.length c0_2]) (t := 68) ?hr ?_; (case hd => rfl); (case hg => rfl); (case hr => first | (go_simp; done) | (go_simp; rfl)); intro gb114 hg w9 hbox hb; have n0_ := zc.mk (zk (by repeat (first | (with_reducible first | exact HB.out | apply zf | apply zd | apply ze) | exact HB.out)) hb); have n1_ := zc.mk (hbox); have n2_ := zc.mk ((by rw [hg]; exact (zn (by repeat (first | (with_reducible first | exact HB.out | apply zf | apply zd | apply ze) | exact HB.out))) : w.heap.size ≤ gb114)); have n3_ := zc.mk ((by rw [hg]; exact (zn (by repeat (first | (with_reducible first | exact HB.out | apply zf | apply zd | apply ze) | exact HB.out))) : w.heap.size ≤ gb114)); clear HB; have HB := n0_; have BK114 := n1_; have GW114 := n2_; have GE114 := n3_; clear n0_ n1_ n2_ n3_; clear hb hbox hg; have hcz10_0 : w9.cell? ⟨gb114, 0, none⟩ = some (.int .i64 a0_0) := (zb BK114.out 0).trans rfl; have hcz10_1 : w9.cell? ⟨gb114, 1, none⟩ = some (.int .i64 a0_1) := (zb BK114.out 1).trans rfl; have hcz10_2 : w9.cell? ⟨gb114, 2, none⟩ = some (.slice A0_2 l0_2.length c0_2) := (zb BK114.out 2).trans rfl; have hfz10_0 := za BK114.out 0; have hfz10_1 := za BK114.out 1; have hfz10_2 := za BK114.out 2) | ((with_reducible refine zq (f := 59) rfl ?_); refine zQ (some 5) rfl rfl Try.func59 (by kernel_rfl) rfl #[.agg #[.int .i64 a0_0, .int .i64 a0_1, .slice A0_2 l0_2.length c0_2]] rfl (by (try simp only [List.map_toArray, List.map_cons, List.map_nil]); first | done | rfl | (simp only [List.length_drop, List.length_take]; rfl)) ?_; (with_reducible refine (zaE.calls a0_0 a0_1 _ _ l0_2 true _ ?side1 ?side2 A2.out).mono ?_); (case side1 => repeat (first | exact (Kd.C_below HR0_2.out HB.out) | (with_reducible refine Kd.C_alloc ?_ _) | (with_reducible refine Kd.C_drewN ?_ _) | (with_reducible refine Kd.C_drew ?_))); (case side2 => exact HC0_2.out); rintro e w11 ⟨rfl, hb⟩; refine ⟨_, rfl, ?_⟩; have n0_ := zc.mk (zl (g := gb114) (o := .cells #[.int .i64 a0_0, .int .i64 a0_1, .slice A0_2 l0_2.length c0_2] 68 (0, 0)) (by (with_reducible repeat (first | refine zg ?_ _ | refine zi ?_ | refine zh ?_ _)); exact BK114.out) hb); have n1_ := zc.mk (zk (by repeat (first | (with_reducible first | exact HB.out | apply zf | apply zd | apply ze | refine zj ?_ GE114.out) | exact HB.out)) hb); clear BK114; clear HB; have BK114 := n0_; have HB := n1_; clear n0_ n1_; (try clear hb); (try clear hb2); (try clear hk); (try clear hi)))
        have n0_ := zc.mk (zi BK114.out)
        have n1_ := zc.mk (ze HB.out)
        clear BK114
        clear HB
        have BK114 := n0_
        have HB := n1_
        clear n0_ n1_
        refine zdw (n := 15) (S := fun w' => w'.cell? ⟨gb114, 0, none⟩ = some (.int .i64 a0_0) ∧ w'.cell? ⟨gb114, 1, none⟩ = some (.int .i64 a0_1) ∧ w'.cell? ⟨gb114, 2, none⟩ = some (.slice A0_2 l0_2.length c0_2)) (ds := []) #[false, false, false, false, false, false, false, false, false, false, false, false, false, false, false] (by kernel_rfl) rfl rfl ⟨(zb BK114.out 0).trans rfl, (zb BK114.out 1).trans rfl, (zb BK114.out 2).trans rfl⟩ (fun hHeld => ?_); refine zcz zaB.tab3 zaB.bits3 (fun HT_ HW_ => ?_)
        generalize w11.drew = w12 at BK114 HB hHeld ⊢
        refine zak (i := 0) (N := some 7) (v := ?_) (a' := ?_) #[true, false, false, false, false, false, false, false, false, false, false, false, false, false, false] rfl rfl (zaa HT_.out (by kernel_rfl)) (fun _ _ _ h => h) (Or.inl ⟨by rfl, ?_⟩) ?_ ?_
        rotate_left
        · intro w'
          go_simp
          with_reducible rfl
        rotate_left
        · simp only [Act.put, List.setIfInBounds_toArray, List.set_cons_zero, List.set_cons_succ, zR, zT]
          rfl
        refine zak (i := 4) (N := some 11) (v := ?_) (a' := ?_) #[true, false, false, false, true, false, false, false, false, false, false, false, false, false, false] rfl rfl (zaa HT_.out (by kernel_rfl)) (fun _ _ _ h => h) (Or.inl ⟨by rfl, ?_⟩) ?_ ?_
        rotate_left
        · intro w'
          go_simp
          with_reducible rfl
        rotate_left
        · simp only [Act.put, List.setIfInBounds_toArray, List.set_cons_zero, List.set_cons_succ, zR, zT]
          rfl
        refine zak (i := 9) (N := some 16) (v := ?_) (a' := ?_) #[true, false, false, false, true, false, false, false, false, true, false, false, false, false, false] rfl rfl (zaa HT_.out (by kernel_rfl)) (fun _ _ _ h => h) (Or.inl ⟨by rfl, ?_⟩) ?_ ?_
        rotate_left
        · intro w'
          go_simp
          with_reducible rfl
        rotate_left
        · simp only [Act.put, List.setIfInBounds_toArray, List.set_cons_zero, List.set_cons_succ, zR, zT]
          rfl
        refine take_ (i := 1) (N := some 8) (v := ?_) (a' := ?_) #[true, true, false, false, true, false, false, false, false, true, false, false, false, false, false] rfl rfl (zaY HT_.out HW_.out (by kernel_rfl)) (fun _ _ _ h => h) (Or.inl ⟨by rfl, ?_⟩) hHeld ?_ ?_
        rotate_left
        · rintro w' ⟨s0, s1, s2⟩
          go_simp
          with_reducible rfl
        rotate_left
        · simp only [Act.put, List.setIfInBounds_toArray, List.set_cons_zero, List.set_cons_succ, zR, zT]
          rfl
        refine zak (i := 2) (N := some 9) (v := ?_) (a' := ?_) #[true, true, true, false, true, false, false, false, false, true, false, false, false, false, false] rfl rfl (zaa HT_.out (by kernel_rfl)) (fun _ _ _ h => h) (Or.inl ⟨by rfl, ?_⟩) ?_ ?_
        rotate_left
        · intro w'
          go_simp
          with_reducible rfl
        rotate_left
        · simp only [Act.put, List.setIfInBounds_toArray, List.set_cons_zero, List.set_cons_succ, zR, zT]
          rfl
        refine take_ (i := 5) (N := some 12) (v := ?_) (a' := ?_) #[true, true, true, false, true, true, false, false, false, true, false, false, false, false, false] rfl rfl (zaY HT_.out HW_.out (by kernel_rfl)) (fun _ _ _ h => h) (Or.inl ⟨by rfl, ?_⟩) hHeld ?_ ?_
        rotate_left
        · rintro w' ⟨s0, s1, s2⟩
          go_simp
          with_reducible rfl
        rotate_left
        · simp only [Act.put, List.setIfInBounds_toArray, List.set_cons_zero, List.set_cons_succ, zR, zT]
          rfl
        refine zak (i := 6) (N := some 13) (v := ?_) (a' := ?_) #[true, true, true, false, true, true, true, false, false, true, false, false, false, false, false] rfl rfl (zaa HT_.out (by kernel_rfl)) (fun _ _ _ h => h) (Or.inl ⟨by rfl, ?_⟩) ?_ ?_
        rotate_left
        · intro w'
          go_simp
          with_reducible rfl
        rotate_left
        · simp only [Act.put, List.setIfInBounds_toArray, List.set_cons_zero, List.set_cons_succ, zR, zT]
          rfl
        refine take_ (i := 10) (N := some 17) (v := ?_) (a' := ?_) #[true, true, true, false, true, true, true, false, false, true, true, false, false, false, false] rfl rfl (zaY HT_.out HW_.out (by kernel_rfl)) (fun _ _ _ h => h) (Or.inl ⟨by rfl, ?_⟩) hHeld ?_ ?_
        rotate_left
        · rintro w' ⟨s0, s1, s2⟩
          go_simp
          with_reducible rfl
        rotate_left
        · simp only [Act.put, List.setIfInBounds_toArray, List.set_cons_zero, List.set_cons_succ, zR, zT]
          rfl
        refine zcO (i := 3) (N := some 10) #[true, true, true, true, true, true, true, false, false, true, true, false, false, false, false] rfl rfl (zbG HT_.out (by kernel_rfl)) (by decide) (fun K hK => ?_)
        refine zbM Try.func71 (by kernel_rfl) rfl #[.int .u64 (IntKind.u64.wrap (a0_0))] (by rfl) rfl rfl (by (try simp only [List.map_toArray, List.map_cons, List.map_nil]); first | done | rfl | (simp only [List.length_drop, List.length_take]; rfl)) ?_
        with_reducible refine (zaf.calls (IntKind.u64.wrap (a0_0)) t116 _ A4.out).mono ?_
        rintro e w13 ⟨rfl, hb⟩
        refine ⟨_, rfl, ?_⟩
        have n0_ := zc.mk (zl (g := gb114) (o := .cells #[.int .i64 a0_0, .int .i64 a0_1, .slice A0_2 l0_2.length c0_2] 68 (0, 0)) (by (with_reducible repeat (first | refine zg ?_ _ | refine zi ?_ | refine zh ?_ _)); exact BK114.out) hb)
        have n1_ := zc.mk (zk (by repeat (first | (with_reducible first | exact HB.out | apply zf | apply zd | apply ze | refine zj ?_ GE114.out) | exact HB.out)) hb)
        clear BK114
        clear HB
        have BK114 := n0_
        have HB := n1_
        clear n0_ n1_
        (try clear hb)
        (try clear hb2)
        (try clear hk)
        (try clear hi)
        refine hK.out _ _ ⟨(zb BK114.out 0).trans rfl, (zb BK114.out 1).trans rfl, (zb BK114.out 2).trans rfl⟩ (fun hHeld => ?_)
        clear hK K
        refine zbN (a' := ?_) ?_ ?_
        rotate_left
        · show Act.put _ (some 10) _ = _
          simp only [Act.put, List.setIfInBounds_toArray, List.set_cons_zero, List.set_cons_succ, zR, zT]
          rfl
        refine zcO (i := 7) (N := some 14) #[true, true, true, true, true, true, true, true, false, true, true, false, false, false, false] rfl rfl (zbG HT_.out (by kernel_rfl)) (by decide) (fun K hK => ?_)
        refine zbM Try.func71 (by kernel_rfl) rfl #[.int .u64 (IntKind.u64.wrap (a0_1))] (by rfl) rfl rfl (by (try simp only [List.map_toArray, List.map_cons, List.map_nil]); first | done | rfl | (simp only [List.length_drop, List.length_take]; rfl)) ?_
        with_reducible refine (zaf.calls (IntKind.u64.wrap (a0_1)) t117 _ A5.out).mono ?_
        rintro e w14 ⟨rfl, hb⟩
        refine ⟨_, rfl, ?_⟩
        have n0_ := zc.mk (zl (g := gb114) (o := .cells #[.int .i64 a0_0, .int .i64 a0_1, .slice A0_2 l0_2.length c0_2] 68 (0, 0)) (by (with_reducible repeat (first | refine zg ?_ _ | refine zi ?_ | refine zh ?_ _)); exact BK114.out) hb)
        have n1_ := zc.mk (zk (by repeat (first | (with_reducible first | exact HB.out | apply zf | apply zd | apply ze | refine zj ?_ GE114.out) | exact HB.out)) hb)
        clear BK114
        clear HB
        have BK114 := n0_
        have HB := n1_
        clear n0_ n1_
        (try clear hb)
        (try clear hb2)
        (try clear hk)
        (try clear hi)
        refine hK.out _ _ ⟨(zb BK114.out 0).trans rfl, (zb BK114.out 1).trans rfl, (zb BK114.out 2).trans rfl⟩ (fun hHeld => ?_)
        clear hK K
        refine zbN (a' := ?_) ?_ ?_
        rotate_left
        · show Act.put _ (some 14) _ = _
          simp only [Act.put, List.setIfInBounds_toArray, List.set_cons_zero, List.set_cons_succ, zR, zT]
          rfl
        refine zak (i := 8) (N := some 15) (v := ?_) (a' := ?_) #[true, true, true, true, true, true, true, true, true, true, true, false, false, false, false] rfl rfl (zaa HT_.out (by kernel_rfl)) (fun _ _ _ h => h) (Or.inl ⟨by rfl, ?_⟩) ?_ ?_
        rotate_left
        · intro w'
          go_simp
          with_reducible rfl
        rotate_left
        · simp only [Act.put, List.setIfInBounds_toArray, List.set_cons_zero, List.set_cons_succ, zR, zT]
          rfl
        refine zcO (i := 11) (N := some 18) #[true, true, true, true, true, true, true, true, true, true, true, true, false, false, false] rfl rfl (zbG HT_.out (by kernel_rfl)) (by decide) (fun K hK => ?_)
        refine zbM Try.func72 (by kernel_rfl) rfl #[.slice A0_2 l0_2.length c0_2] (by rfl) rfl rfl (by (try simp only [List.map_toArray, List.map_cons, List.map_nil]); first | done | rfl | (simp only [List.length_drop, List.length_take]; rfl)) ?_
        with_reducible refine (zW.calls _ _ l0_2 t118 _ ?side1 ?side2 A7.out).mono ?_
        (case side1 => repeat (first | exact (Kd.C_below HR0_2.out HB.out) | (with_reducible refine Kd.C_alloc ?_ _) | (with_reducible refine Kd.C_drewN ?_ _) | (with_reducible refine Kd.C_drew ?_)))
        (case side2 => exact HC0_2.out)
        rintro e w15 ⟨rfl, hb⟩
        refine ⟨_, rfl, ?_⟩
        have n0_ := zc.mk (zl (g := gb114) (o := .cells #[.int .i64 a0_0, .int .i64 a0_1, .slice A0_2 l0_2.length c0_2] 68 (0, 0)) (by (with_reducible repeat (first | refine zg ?_ _ | refine zi ?_ | refine zh ?_ _)); exact BK114.out) hb)
        have n1_ := zc.mk (zk (by repeat (first | (with_reducible first | exact HB.out | apply zf | apply zd | apply ze | refine zj ?_ GE114.out) | exact HB.out)) hb)
        clear BK114
        clear HB
        have BK114 := n0_
        have HB := n1_
        clear n0_ n1_
        (try clear hb)
        (try clear hb2)
        (try clear hk)
        (try clear hi)
        refine hK.out _ _ ⟨(zb BK114.out 0).trans rfl, (zb BK114.out 1).trans rfl, (zb BK114.out 2).trans rfl⟩ (fun hHeld => ?_)
        clear hK K
        refine zbN (a' := ?_) ?_ ?_
        rotate_left
        · show Act.put _ (some 18) _ = _
          simp only [Act.put, List.setIfInBounds_toArray, List.set_cons_zero, List.set_cons_succ, zR, zT]
          rfl
        refine zak (i := 12) (N := some 19) (v := ?_) (a' := ?_) #[true, true, true, true, true, true, true, true, true, true, true, true, true, false, false] rfl rfl (zaa HT_.out (by kernel_rfl)) (fun _ _ _ h => h) (Or.inl ⟨by rfl, ?_⟩) ?_ ?_
        rotate_left
        · intro w'
          go_simp
          with_reducible rfl
        rotate_left
        · simp only [Act.put, List.setIfInBounds_toArray, List.set_cons_zero, List.set_cons_succ, zR, zT]
          rfl
        refine zak (i := 13) (N := some 2) (v := ?_) (a' := ?_) #[true, true, true, true, true, true, true, true, true, true, true, true, true, true, false] rfl rfl (zaa HT_.out (by kernel_rfl)) (fun _ _ _ h => h) (Or.inl ⟨by rfl, ?_⟩) ?_ ?_
        rotate_left
        · intro w'
          go_simp
          with_reducible rfl
        rotate_left
        · simp only [Act.put, List.setIfInBounds_toArray, List.set_cons_zero, List.set_cons_succ, zR, zT]
          rfl
        refine zak (i := 14) (N := some 3) (v := ?_) (a' := ?_) #[true, true, true, true, true, true, true, true, true, true, true, true, true, true, true] rfl rfl (zaa HT_.out (by kernel_rfl)) (fun _ _ _ h => h) (Or.inl ⟨by rfl, ?_⟩) ?_ ?_
        rotate_left
        · intro w'
          go_simp
          with_reducible rfl
        rotate_left
        · simp only [Act.put, List.setIfInBounds_toArray, List.set_cons_zero, List.set_cons_succ, zR, zT]
          rfl
        refine zey (zdz HT_.out (by kernel_rfl)) ?_
        try go_wp2
        go_ret2
        exact ⟨by first | rfl | (simp [zo, zp] <;> rfl) | (simp [*, zo, zp] <;> rfl), by repeat (first | (with_reducible first | exact HB.out | apply zf | apply zd | apply ze | refine zj ?_ GE114.out) | exact HB.out)⟩
      · rw [if_neg c8] at H
        exact absurd H (by simp)
    · rw [if_neg c6] at H
      exact absurd H (by simp)
  · replace c3 := Bool.eq_false_iff.mpr c3
    subst c3
    have H1 : (some ((⟨#[]⟩ : ByteArray), 1)) = some (r1, r2) := by rw [if_neg (show ¬ (false = true) by decide)] at H; exact H
    clear H
    have H := H1
    clear H1
    simp only [Option.some.injEq, Prod.mk.injEq] at H
    obtain ⟨rfl, rfl⟩ := H
    go_enter Try.func52, Try.ntmps52
    go_wp2_with (first | ((with_reducible refine zv (N := 1) rfl ?_); refine zu ?hg (N := 1) ?hd (cs := #[.int .i64 a0_0, .int .i64 a0_1, .slice A0_2 l0_2.length c0_2]) (t := 68) ?hr ?_; (case hd => rfl); (case hg => rfl); (case hr => first | (go_simp; done) | (go_simp; rfl)); intro gb114 hg w16 hbox hb; have n0_ := zc.mk (zk (by repeat (first | (with_reducible first | exact HB.out | apply zf | apply zd | apply ze) | exact HB.out)) hb); have n1_ := zc.mk (hbox); have n2_ := zc.mk ((by rw [hg]; exact (zn (by repeat (first | (with_reducible first | exact HB.out | apply zf | apply zd | apply ze) | exact HB.out))) : w.heap.size ≤ gb114)); have n3_ := zc.mk ((by rw [hg]; exact (zn (by repeat (first | (with_reducible first | exact HB.out | apply zf | apply zd | apply ze) | exact HB.out))) : w.heap.size ≤ gb114)); clear HB; have HB := n0_; have BK114 := n1_; have GW114 := n2_; have GE114 := n3_; clear n0_ n1_ n2_ n3_; clear hb hbox hg; have hcz17_0 : w16.cell? ⟨gb114, 0, none⟩ = some (.int .i64 a0_0) := (zb BK114.out 0).trans rfl; have hcz17_1 : w16.cell? ⟨gb114, 1, none⟩ = some (.int .i64 a0_1) := (zb BK114.out 1).trans rfl; have hcz17_2 : w16.cell? ⟨gb114, 2, none⟩ = some (.slice A0_2 l0_2.length c0_2) := (zb BK114.out 2).trans rfl; have hfz17_0 := za BK114.out 0; have hfz17_1 := za BK114.out 1; have hfz17_2 := za BK114.out 2) | ((with_reducible refine zq (f := 59) rfl ?_); refine zQ (some 5) rfl rfl Try.func59 (by kernel_rfl) rfl #[.agg #[.int .i64 a0_0, .int .i64 a0_1, .slice A0_2 l0_2.length c0_2]] rfl (by (try simp only [List.map_toArray, List.map_cons, List.map_nil]); first | done | rfl | (simp only [List.length_drop, List.length_take]; rfl)) ?_; (with_reducible refine (zaE.calls a0_0 a0_1 _ _ l0_2 false _ ?side1 ?side2 A2.out).mono ?_); (case side1 => repeat (first | exact (Kd.C_below HR0_2.out HB.out) | (with_reducible refine Kd.C_alloc ?_ _) | (with_reducible refine Kd.C_drewN ?_ _) | (with_reducible refine Kd.C_drew ?_))); (case side2 => exact HC0_2.out); rintro e w18 ⟨rfl, hb⟩; refine ⟨_, rfl, ?_⟩; have n0_ := zc.mk (zl (g := gb114) (o := .cells #[.int .i64 a0_0, .int .i64 a0_1, .slice A0_2 l0_2.length c0_2] 68 (0, 0)) (by (with_reducible repeat (first | refine zg ?_ _ | refine zi ?_ | refine zh ?_ _)); exact BK114.out) hb); have n1_ := zc.mk (zk (by repeat (first | (with_reducible first | exact HB.out | apply zf | apply zd | apply ze | refine zj ?_ GE114.out) | exact HB.out)) hb); clear BK114; clear HB; have BK114 := n0_; have HB := n1_; clear n0_ n1_; (try clear hb); (try clear hb2); (try clear hk); (try clear hi)))
    go_ret2
    exact ⟨by first | rfl | (simp [zo, zp] <;> rfl) | (simp [*, zo, zp] <;> rfl), by repeat (first | (with_reducible first | exact HB.out | apply zf | apply zd | apply ze | refine zj ?_ GE114.out) | exact HB.out)⟩
end Go.Proofs.Ytlabjgcoopdbiaa.Px

namespace Go.Proofs.Ytlabjgcoopdbiaa.Px
open Go.RowKit Go.Proofs.YtlabjgcoopdbiaaW.PrintWords Go.Proofs.YtlabjgcoopdbiaaW.PrintLast Go.Proofs.YtlabjgcoopdbiaaW.PrintMore
attribute [local go_sem] zB zD zL zM zx zy zC zE
set_option linter.unusedVariables false
set_option linter.unusedSimpArgs false
theorem zib (l : List ByteArray) (j : Nat) (h : j < l.length) : zA ByteArray.empty l (j : Int) = l[j] := by
  rw [zA, Int.toNat_natCast, List.getD_eq_getElem?_getD, List.getElem?_eq_getElem h]; rfl
theorem ze4 (a b : ByteArray) : a.toList = b.toList ↔ a = b := by
  rw [zbT, zbT]
  exact ⟨fun h => zgO h, fun h => by rw [h]⟩
theorem zc1 (l : List ByteArray) (m : Nat) (hm : m < 18446744073709551616) (h : ∀ t ∈ l, t.size ≤ m) : (za6 l).length ≤ l.length * (m + 9) := by
  induction l with
  | nil => simp [za6]
  | cons t l ih =>
    have e : za6 (t :: l) = zeS (ofB t) ++ za6 l := rfl
    have h1 := h t List.mem_cons_self
    have h2 := ih (fun x hx => h x (List.mem_cons_of_mem _ hx))
    have h3 := zaH (v := (ofB t).length) (by rw [zal]; omega)
    rw [e, List.length_append, zeS, List.length_append, zal, List.length_cons, Nat.succ_mul]
    rw [zal] at h3
    omega
theorem zcU (o q : Int) (l : List ByteArray) : zcT o q l = true ↔ 1 ≤ o ∧ o ≤ 64 ∧ 1 ≤ q ∧ q ≤ 1073741824 ∧ 1 ≤ l.length ∧ l.length ≤ 4 ∧ ∀ t ∈ l, 1 ≤ t.size ∧ t.size ≤ 48 := by
  unfold zcT
  simp only [Bool.and_eq_true, decide_eq_true_eq, Bool.not_eq_true', List.any_eq_false]
  constructor
  · rintro ⟨⟨⟨⟨⟨⟨h1, h2⟩, h3⟩, h4⟩, h5⟩, h6⟩, h7⟩
    refine ⟨h1, h2, h3, h4, h5, h6, fun t ht => ?_⟩
    have h8 := h7 t ht
    simp only [zbO, Bool.or_eq_true, decide_eq_true_eq, not_or] at h8
    omega
  · rintro ⟨h1, h2, h3, h4, h5, h6, h7⟩
    refine ⟨⟨⟨⟨⟨⟨h1, h2⟩, h3⟩, h4⟩, h5⟩, h6⟩, fun t ht => ?_⟩
    have h8 := h7 t ht
    simp only [zbO, Bool.or_eq_true, decide_eq_true_eq, not_or]
    omega
def zdM (o q : Int) (l : List ByteArray) : Bs := zcm o.toNat ++ zcm q.toNat ++ zbx l
theorem zet (o q : Int) (l : List ByteArray) : zaB.f o q l = some (if zcT o q l = true then (toB (zdM o q l), 0) else ((⟨#[]⟩ : ByteArray), 1)) := by
  unfold zaB.f zaE.f
  rw [Option.bind_some]
  by_cases h : zcT o q l = true
  · rw [if_pos h, if_pos h]
    obtain ⟨h1, h2, h3, h4, h5, h6, h7⟩ := (zcU o q l).1 h
    obtain ⟨a, rfl⟩ := Int.eq_ofNat_of_zero_le (show 0 ≤ o by omega)
    obtain ⟨b, rfl⟩ := Int.eq_ofNat_of_zero_le (show 0 ≤ q by omega)
    have r1 := zc1 l 48 (by omega) (fun t ht => (h7 t ht).2)
    have r2 := zaH (v := l.length) (by omega)
    have r3 : (zbx l).length ≤ 300 := by rw [zbx, List.length_append]; omega
    have n1 := zaL (v := a) (by omega)
    have n2 := zaL (v := b) (by omega)
    have r4 : zW.f l = some (toB (zbx l)) := by unfold zW.f; rw [if_pos (by omega)]
    rw [zaT (by omega) (by omega), zaT (by omega) (by omega), zcl a (by omega), zcl b (by omega)]
    simp only [Option.bind_some]
    rw [if_pos (by omega), r4]
    simp only [Option.bind_some]
    rw [if_pos (by rw [ByteArray.size_append, zar]; omega), zdM, zaQ, zaQ, Int.toNat_natCast, Int.toNat_natCast]
    rfl
  · rw [if_neg h, if_neg h]
end Go.Proofs.Ytlabjgcoopdbiaa.Px

namespace Go.Proofs.Ytlabjgcoopdbiaa.Px
open Go.RowKit Go.Proofs.YtlabjgcoopdbiaaW.PrintWords Go.Proofs.YtlabjgcoopdbiaaW.PrintLast Go.Proofs.YtlabjgcoopdbiaaW.PrintMore
attribute [local go_sem] zB zD zL zM zx zy zC zE
set_option linter.unusedVariables false
set_option linter.unusedSimpArgs false
def bB (b : S68) : ByteArray := if zcT b.f0 b.f1 b.f2 = true then toB (zdM b.f0 b.f1 b.f2) else (⟨#[]⟩ : ByteArray)
theorem zax.one (b : S68) (A : Option Addr) (c : Nat) (w : World) (hr : Kd.C Kd.string w A b.f2.length b.f2) (hc : b.f2.length ≤ c) :
    Calls Try.prog 68 #[.agg #[.int .i64 b.f0, .int .i64 b.f1, .slice A b.f2.length c]] w fun e w' => e = .returned (.string (bB b)) ∧ Below w.heap.size w w' := by
  obtain ⟨e, he⟩ : ∃ e, zaB.f b.f0 b.f1 b.f2 = some (bB b, e) := by
    rw [zet, bB]
    split
    · exact ⟨_, rfl⟩
    · exact ⟨_, rfl⟩
  have HE := zc.mk he
  have HR := zc.mk hr
  have HC := zc.mk hc
  clear he hr hc
  generalize bB b = s at *
  obtain ⟨b0, b1, b2⟩ := b
  go_enter Try.func68, Try.ntmps68
  go_wp2_with (first
    | ((with_reducible refine zv (N := 1) rfl ?_); refine zu ?hg (N := 1) ?hd (cs := #[.int .i64 b0, .int .i64 b1, .slice A b2.length c]) (t := 68) ?hr ?_; (case hd => rfl); (case hg => rfl); (case hr => first | (go_simp; done) | (go_simp; rfl)); intro gb hg w2 hbox hb; have BK := zc.mk hbox; have HB := zc.mk hb; clear hb hbox hg; have hz0 := (zb BK.out 0).trans rfl; have hz1 := (zb BK.out 1).trans rfl; have hz2 := (zb BK.out 2).trans rfl; have hf0 := za BK.out 0; have hf1 := za BK.out 1; have hf2 := za BK.out 2)
    | (go_at_call 52; (with_reducible refine (zaB.calls b0 b1 _ _ b2 _ _ _ (Kd.C_below HR.out HB.out) HC.out HE.out).mono ?_); rintro e w3 ⟨rfl, hb⟩; have HB3 := zc.mk (zk HB.out hb); clear hb))
  go_ret
  exact ⟨rfl, HB3.out⟩
theorem zax.infoS : (Try.prog.info? 9).map (fun i => (i.zero, i.size, i.bytes)) = some (some (.string ⟨#[]⟩), 1, 16) := by kernel_rfl
set_option maxHeartbeats 4000000 in
set_option maxRecDepth 100000 in
theorem zax.walk (A : Option Addr) (c : Nat) (l : List S68) (w : World) (hr : Kd.C k68 w A l.length l) (hc : l.length ≤ c) (h4 : l.length ≤ 4) :
    Calls Try.prog 67 #[.slice A l.length c, .func (.func 68) #[] #[]] w fun e w' => ∃ v, e = .returned v ∧ Kd.R Kd.string 9 w' w.heap.size (fun _ => True) v (l.map bB) ∧ Below w.heap.size w w' := by
  have HR := zc.mk hr
  clear hr
  go_enter Try.func67, Try.ntmps67
  go_wp2_with fail
  have HB0 := zc.mk (Below.refl w.heap.size w)
  go_loopw [5, 10] (fun v5 v10 wr => ∃ k : Nat, v10 = .int .i64 k ∧ k ≤ l.length ∧ zc (Kd.R Kd.string 9 wr w.heap.size (fun _ => True) v5 ((l.take k).map bB)) ∧ zc (Below w.heap.size w wr)) (fun _ v10 _ => l.length - (match v10 with | .int _ q => q | _ => 0).toNat)
  case atStart => exact ⟨0, rfl, Nat.zero_le _, ⟨Kd.R_nil _ _ _ _ _⟩, HB0⟩
  case round =>
    obtain ⟨k, rfl, hk, HO, HB⟩ := hrel
    by_cases hlt : k < l.length
    · obtain ⟨ad, A2, c2, rfl, hx0, hx1, hx2, hl2, hi2⟩ := zb2 HR.out (k : Int) (by omega) (by omega)
      replace hx0 := (HB.out.cell (World.block_lt_of_cell? w _ hx0)).trans hx0
      replace hx1 := (HB.out.cell (World.block_lt_of_cell? w _ hx1)).trans hx1
      replace hx2 := (HB.out.cell (World.block_lt_of_cell? w _ hx2)).trans hx2
      rw [Int.toNat_natCast] at hx0 hx1 hx2
      have hb : decide (k < l.length) = true := decide_eq_true hlt
      have ht : l.take (k + 1) = l.take k ++ [z4 l (k : Int)] := by
        rw [z4, Int.toNat_natCast, List.getD_eq_getElem?_getD, List.getElem?_eq_getElem hlt, List.take_add_one, List.getElem?_eq_getElem hlt]; rfl
      have HT := zc.mk ht
      have HL2 := zc.mk hl2
      have HI2 := zc.mk (Kd.C_below hi2 HB.out)
      clear ht hl2 hi2
      generalize z4 l (k : Int) = s at *
      obtain ⟨s0, s1, s2⟩ := s
      have HLN : zc ((((l.take k).map bB).length + 1) * 16 ≤ 140737488355328) := ⟨by rw [List.length_map, List.length_take]; omega⟩
      have HM : zc ((l.take (k + 1)).map bB = (l.take k).map bB ++ [bB ⟨s0, s1, s2⟩]) := ⟨by rw [HT.out, List.map_append]; rfl⟩
      go_wp2_with (first
        | (go_at_call 68; (with_reducible refine (zax.one ⟨s0, s1, s2⟩ _ _ _ (Kd.C_below HI2.out (zf (Below.refl _ _) _)) HL2.out).mono ?_); rintro e w1 ⟨rfl, hb1⟩; have HB1 := zc.mk (zk (zf HB.out _) hb1); have HO1 := zc.mk (Kd.R_below HO.out (zk (zf (Below.refl _ _) _) hb1)); clear hb1)
        | (at_builtin; refine Kd.R_append Kd.string (w0 := w) w.heap.size rfl (.tmp 14) (.tmp 18) 27 9 (.string ⟨#[]⟩) 16 rfl Try.underlying27 zax.infoS rfl (by decide) (by omega) _ ((l.take k).map bB) (bB ⟨s0, s1, s2⟩) [.string (bB ⟨s0, s1, s2⟩)] (fun _ => True) (fun _ => False) rfl rfl ?aP (fun _ hk => hk.elim) ?aF ?aO ?aB ?aS ?aL ?_; (case aP => exact rfl); (case aF => exact (fun _ _ => trivial)); (case aO => exact HO1.out); (case aB => exact HB1.out); (case aS => exact (zn HB1.out)); (case aL => exact HLN.out); intro v3 w3 ho hb hg hat; have HX := zc.mk ho; have HB3 := zc.mk hb; clear ho hb hg hat))
      go_roundw
      case rel => exact ⟨k + 1, by go_num, by omega, ⟨by rw [HM.out]; exact HX.out⟩, HB3⟩
      case measure => simp; omega
    · obtain rfl : k = l.length := by omega
      go_wp2_with fail
      go_ret
      exact ⟨_, rfl, by have := HO.out; rwa [List.take_length] at this, HB.out⟩
def zax.f (l0 : List S68) : Option (List ByteArray) := if l0.length ≤ 4 then some (l0.map bB) else none
theorem zax.calls (A0 : Option Addr) (c0 : Nat) (l0 : List S68) (r : List ByteArray) (w : World) (hr0 : Kd.C k68 w A0 l0.length l0) (hc0 : l0.length ≤ c0) (h : zax.f l0 = some r) :
    Calls Try.prog 67 #[.slice A0 l0.length c0, .func (.func 68) #[] #[]] w fun e w' => ∃ v0_ : Value, e = .returned v0_ ∧ Kd.R Kd.string 9 w' w.heap.size (fun _ => True) v0_ r ∧ Below w.heap.size w w' := by
  unfold zax.f at h
  split at h
  · rename_i h4
    obtain rfl := Option.some.inj h
    exact zax.walk A0 c0 l0 w hr0 hc0 h4
  · cases h
end Go.Proofs.Ytlabjgcoopdbiaa.Px

namespace Go.Proofs.Ytlabjgcoopdbiaa.Px
open Go.RowKit Go.Proofs.YtlabjgcoopdbiaaW.PrintWords Go.Proofs.YtlabjgcoopdbiaaW.PrintLast Go.Proofs.YtlabjgcoopdbiaaW.PrintMore
attribute [local go_sem] zB zD zL zM zx zy zC zE
set_option linter.unusedVariables false
set_option linter.unusedSimpArgs false
theorem zan.infoS : (Try.prog.info? 9).map (fun i => (i.zero, i.size, i.bytes)) = some (some (.string ⟨#[]⟩), 1, 16) := by kernel_rfl
theorem zan.num (k : Int) (w : World) (h0 : 0 ≤ k) (h1 : k < 9223372036854775808) :
    Calls Try.prog 70 #[.int .i64 k] w fun e w' => e = .returned (.string (za1 k.toNat)) ∧ Below w.heap.size w w' := by
  have hn : zaf.f (IntKind.u64.wrap k) = some (za1 k.toNat) := by rw [zaT h0 (by omega), zaf.f, if_pos h0, if_pos (by omega)]
  have HN := zc.mk hn
  clear hn h0 h1
  generalize za1 k.toNat = s at *
  go_enter Try.func70, Try.ntmps70
  go_wp2_with (go_at_call 71; (with_reducible refine (zaf.calls _ _ _ HN.out).mono ?_); rintro e w3 ⟨rfl, hb⟩; have HB3 := zc.mk hb; clear hb)
  go_ret
  exact ⟨rfl, HB3.out⟩
set_option maxHeartbeats 4000000 in
set_option maxRecDepth 100000 in
theorem zan.walk (A : Option Addr) (c : Nat) (l : List Int) (w : World) (hr : Kd.C (Kd.int .i64) w A l.length l) (hc : l.length ≤ c) (h4 : l.length ≤ 4) (hp : ∀ k ∈ l, 0 ≤ k ∧ k < 9223372036854775808) :
    Calls Try.prog 69 #[.slice A l.length c, .func (.func 70) #[] #[]] w fun e w' => ∃ v, e = .returned v ∧ Kd.R Kd.string 9 w' w.heap.size (fun _ => True) v (l.map (fun k => za1 k.toNat)) ∧ Below w.heap.size w w' := by
  have HR := zc.mk hr
  have HP := zc.mk hp
  clear hr hp
  go_enter Try.func69, Try.ntmps69
  go_wp2_with fail
  have HB0 := zc.mk (Below.refl w.heap.size w)
  go_loopw [5, 10] (fun v5 v10 wr => ∃ k : Nat, v10 = .int .i64 k ∧ k ≤ l.length ∧ zc (Kd.R Kd.string 9 wr w.heap.size (fun _ => True) v5 ((l.take k).map (fun k => za1 k.toNat))) ∧ zc (Below w.heap.size w wr)) (fun _ v10 _ => l.length - (match v10 with | .int _ q => q | _ => 0).toNat)
  case atStart => exact ⟨0, rfl, Nat.zero_le _, ⟨Kd.R_nil _ _ _ _ _⟩, HB0⟩
  case round =>
    obtain ⟨k, rfl, hk, HO, HB⟩ := hrel
    by_cases hlt : k < l.length
    · obtain ⟨ad, rfl, hx0⟩ := Kd.at_int HR.out (k : Int) (by omega) (by omega)
      replace hx0 := (HB.out.cell (World.block_lt_of_cell? w _ hx0)).trans hx0
      rw [Int.toNat_natCast] at hx0
      have hb : decide (k < l.length) = true := decide_eq_true hlt
      have hd : rd l (k : Int) = l[k] := by
        rw [rd, Int.toNat_natCast, List.getD_eq_getElem?_getD, List.getElem?_eq_getElem hlt]; rfl
      have hpk := HP.out _ (List.getElem_mem hlt)
      have ht : l.take (k + 1) = l.take k ++ [l[k]] := by
        rw [List.take_add_one, List.getElem?_eq_getElem hlt]; rfl
      rw [hd] at hx0
      generalize l[k] = s at *
      have HM : zc ((l.take (k + 1)).map (fun k => za1 k.toNat) = (l.take k).map (fun k => za1 k.toNat) ++ [za1 s.toNat]) := ⟨by rw [ht, List.map_append]; rfl⟩
      have HLN : zc ((((l.take k).map (fun k => za1 k.toNat)).length + 1) * 16 ≤ 140737488355328) := ⟨by rw [List.length_map, List.length_take]; omega⟩
      have HPK := zc.mk hpk
      clear hpk ht hd
      go_wp2_with (first
        | (go_at_call 70; (with_reducible refine (zan.num s _ HPK.out.1 HPK.out.2).mono ?_); rintro e w1 ⟨rfl, hb1⟩; have HB1 := zc.mk (zk HB.out hb1); have HO1 := zc.mk (Kd.R_below HO.out hb1); clear hb1)
        | (at_builtin; refine Kd.R_append Kd.string (w0 := w) w.heap.size rfl (.tmp 14) (.tmp 18) 27 9 (.string ⟨#[]⟩) 16 rfl Try.underlying27 zan.infoS rfl (by decide) (by omega) _ ((l.take k).map (fun k => za1 k.toNat)) (za1 s.toNat) [.string (za1 s.toNat)] (fun _ => True) (fun _ => False) rfl rfl ?aP (fun _ hk => hk.elim) ?aF ?aO ?aB ?aS ?aL ?_; (case aP => exact rfl); (case aF => exact (fun _ _ => trivial)); (case aO => exact HO1.out); (case aB => exact HB1.out); (case aS => exact (zn HB1.out)); (case aL => exact HLN.out); intro v3 w3 ho hb hg hat; have HX := zc.mk ho; have HB3 := zc.mk hb; clear ho hb hg hat))
      go_roundw
      case rel => exact ⟨k + 1, by go_num, by omega, ⟨by rw [HM.out]; exact HX.out⟩, HB3⟩
      case measure => simp; omega
    · obtain rfl : k = l.length := by omega
      go_wp2_with fail
      go_ret
      exact ⟨_, rfl, by have := HO.out; rwa [List.take_length] at this, HB.out⟩
def zan.f (l0 : List Int) : Option (List ByteArray) := if l0.length ≤ 4 ∧ ∀ k ∈ l0, 0 ≤ k ∧ k < 9223372036854775808 then some (l0.map (fun k => za1 k.toNat)) else none
theorem zan.calls (A0 : Option Addr) (c0 : Nat) (l0 : List Int) (r : List ByteArray) (w : World) (hr0 : Kd.C (Kd.int .i64) w A0 l0.length l0) (hc0 : l0.length ≤ c0) (h : zan.f l0 = some r) :
    Calls Try.prog 69 #[.slice A0 l0.length c0, .func (.func 70) #[] #[]] w fun e w' => ∃ v0_ : Value, e = .returned v0_ ∧ Kd.R Kd.string 9 w' w.heap.size (fun _ => True) v0_ r ∧ Below w.heap.size w w' := by
  unfold zan.f at h
  split at h
  · rename_i h4
    obtain rfl := Option.some.inj h
    exact zan.walk A0 c0 l0 w hr0 hc0 h4.1 h4.2
  · cases h
end Go.Proofs.Ytlabjgcoopdbiaa.Px
