/- Part 5 of 33 of the proof of the law PostBack: what is proved is the statement at the end of the last part; its conditions are those of the given row. -/
import Derived.Test.YtenbifjbeeobjaaZPostBackD
namespace Go.Proofs.Ytenbifjbeeobjaa.Px
open Go.RowKit Go.Proofs.YtenbifjbeeobjaaW.PrintWords Go.Proofs.YtenbifjbeeobjaaW.PrintLast Go.Proofs.YtenbifjbeeobjaaW.PrintMore
attribute [local go_sem] zC zE zJ zK zv zw zB zD
set_option linter.unusedVariables false
set_option linter.unusedSimpArgs false
def zaF.f (a0_0 : Int) (a0_1 : Int) (a0_2 : ByteArray) : Option (ByteArray × Int) := (za7.f a0_0 a0_1 a0_2).bind fun t477 => (if t477 = true then ((zO.f (IntKind.u64.wrap (a0_0))).bind fun t478 => (if 1 + t478.size ≤ 9223372036854775807 then ((zO.f (IntKind.u64.wrap (a0_1))).bind fun t479 => (if ((⟨#[118]⟩ : ByteArray) ++ t478).size + t479.size ≤ 9223372036854775807 then (if (((⟨#[118]⟩ : ByteArray) ++ t478) ++ t479).size + a0_2.size ≤ 9223372036854775807 then (some ((((⟨#[118]⟩ : ByteArray) ++ t478) ++ t479) ++ a0_2, 0)) else (none)) else (none))) else (none))) else (some ((⟨#[]⟩ : ByteArray), 1)))
def zaF.T3 : Bool × List (List Nat × List Nat) := (true, [([], []), ([0], [0]), ([1], [1]), ([2], [2]), ([3], [3]), ([], []), ([5], [5]), ([6], [6]), ([7, 3], [7]), ([4, 8], [4, 8]), ([], []), ([10], [10]), ([9, 11], [9, 11]), ([12, 8, 0, 1, 2, 3, 4, 5, 6, 7, 8, 9, 10, 11, 12], [12]), ([13, 0, 1, 2, 3, 4, 5, 6, 7, 8, 9, 10, 11, 12, 13], [])])
def zaF.B3 : List Nat := [0, 1, 3, 7, 15, 0, 32, 96, 239, 511, 0, 1024, 4095, 8191, 16383]
theorem zaF.tab3 : zb3 .any (ze7 Try.f22 3) = zaF.T3 := by kernel_rfl
theorem zaF.bits3 : zbZ zaF.T3.2 zaF.B3 = true := by kernel_rfl
set_option maxHeartbeats 8000000 in
set_option maxRecDepth 100000 in
theorem zaF.calls (a0_0 : Int) (a0_1 : Int) (a0_2 : ByteArray) (r1 : ByteArray) (r2 : Int) (w : World) (h : zaF.f a0_0 a0_1 a0_2 = some (r1, r2)) :
    Calls Try.prog 22 #[.agg #[.int .i64 a0_0, .int .i64 a0_1, .string a0_2]] w fun e w' => e = .returned (.tuple #[.string r1, .int .i64 r2]) ∧ Below w.heap.size w w' := by
  have hu48 := Try.underlying48
  have HB := zb.mk (Below.refl w.heap.size w)
  have H : ((za7.f a0_0 a0_1 a0_2).bind fun t477 => (if t477 = true then ((zO.f (IntKind.u64.wrap (a0_0))).bind fun t478 => (if 1 + t478.size ≤ 9223372036854775807 then ((zO.f (IntKind.u64.wrap (a0_1))).bind fun t479 => (if ((⟨#[118]⟩ : ByteArray) ++ t478).size + t479.size ≤ 9223372036854775807 then (if (((⟨#[118]⟩ : ByteArray) ++ t478) ++ t479).size + a0_2.size ≤ 9223372036854775807 then (some ((((⟨#[118]⟩ : ByteArray) ++ t478) ++ t479) ++ a0_2, 0)) else (none)) else (none))) else (none))) else (some ((⟨#[]⟩ : ByteArray), 1)))) = some (r1, r2) := h
  clear h
  replace H := Option.bind_eq_some_iff.mp H
  obtain ⟨t477, A20, H⟩ := H
  replace H : (if t477 = true then ((zO.f (IntKind.u64.wrap (a0_0))).bind fun t478 => (if 1 + t478.size ≤ 9223372036854775807 then ((zO.f (IntKind.u64.wrap (a0_1))).bind fun t479 => (if ((⟨#[118]⟩ : ByteArray) ++ t478).size + t479.size ≤ 9223372036854775807 then (if (((⟨#[118]⟩ : ByteArray) ++ t478) ++ t479).size + a0_2.size ≤ 9223372036854775807 then (some ((((⟨#[118]⟩ : ByteArray) ++ t478) ++ t479) ++ a0_2, 0)) else (none)) else (none))) else (none))) else (some ((⟨#[]⟩ : ByteArray), 1))) = some (r1, r2) := H
  have A2 := zb.mk A20
  clear A20
  by_cases c3 : t477 = true
  · subst c3
    have H1 : ((zO.f (IntKind.u64.wrap (a0_0))).bind fun t478 => (if 1 + t478.size ≤ 9223372036854775807 then ((zO.f (IntKind.u64.wrap (a0_1))).bind fun t479 => (if ((⟨#[118]⟩ : ByteArray) ++ t478).size + t479.size ≤ 9223372036854775807 then (if (((⟨#[118]⟩ : ByteArray) ++ t478) ++ t479).size + a0_2.size ≤ 9223372036854775807 then (some ((((⟨#[118]⟩ : ByteArray) ++ t478) ++ t479) ++ a0_2, 0)) else (none)) else (none))) else (none))) = some (r1, r2) := by rw [if_pos rfl] at H; exact H
    clear H
    have H := H1
    clear H1
    replace H := Option.bind_eq_some_iff.mp H
    obtain ⟨t478, A40, H⟩ := H
    replace H : (if 1 + t478.size ≤ 9223372036854775807 then ((zO.f (IntKind.u64.wrap (a0_1))).bind fun t479 => (if ((⟨#[118]⟩ : ByteArray) ++ t478).size + t479.size ≤ 9223372036854775807 then (if (((⟨#[118]⟩ : ByteArray) ++ t478) ++ t479).size + a0_2.size ≤ 9223372036854775807 then (some ((((⟨#[118]⟩ : ByteArray) ++ t478) ++ t479) ++ a0_2, 0)) else (none)) else (none))) else (none)) = some (r1, r2) := H
    have A4 := zb.mk A40
    clear A40
    by_cases c5 : 1 + t478.size ≤ 9223372036854775807
    · rw [if_pos c5] at H
      have c5b0 := eq_true c5
      have c5b1 : decide (1 + t478.size ≤ 9223372036854775807) = true := decide_eq_true c5
      try have c5b2 : (9223372036854775807 < 1 + t478.size) = False := eq_false (Nat.not_lt.2 c5)
      replace H := Option.bind_eq_some_iff.mp H
      obtain ⟨t479, A60, H⟩ := H
      replace H : (if ((⟨#[118]⟩ : ByteArray) ++ t478).size + t479.size ≤ 9223372036854775807 then (if (((⟨#[118]⟩ : ByteArray) ++ t478) ++ t479).size + a0_2.size ≤ 9223372036854775807 then (some ((((⟨#[118]⟩ : ByteArray) ++ t478) ++ t479) ++ a0_2, 0)) else (none)) else (none)) = some (r1, r2) := H
      have A6 := zb.mk A60
      clear A60
      by_cases c7 : ((⟨#[118]⟩ : ByteArray) ++ t478).size + t479.size ≤ 9223372036854775807
      · rw [if_pos c7] at H
        have c7b0 := eq_true c7
        have c7b1 : decide (((⟨#[118]⟩ : ByteArray) ++ t478).size + t479.size ≤ 9223372036854775807) = true := decide_eq_true c7
        try have c7b2 : (9223372036854775807 < ((⟨#[118]⟩ : ByteArray) ++ t478).size + t479.size) = False := eq_false (Nat.not_lt.2 c7)
        try (have c7b3 := c7; simp [ByteArray.size_append, (show (⟨#[118]⟩ : ByteArray).size = 1 from rfl)] at c7b3; have c7b4 := eq_false (Nat.not_lt.2 c7b3); clear c7b3)
        by_cases c8 : (((⟨#[118]⟩ : ByteArray) ++ t478) ++ t479).size + a0_2.size ≤ 9223372036854775807
        · rw [if_pos c8] at H
          have c8b0 := eq_true c8
          have c8b1 : decide ((((⟨#[118]⟩ : ByteArray) ++ t478) ++ t479).size + a0_2.size ≤ 9223372036854775807) = true := decide_eq_true c8
          try have c8b2 : (9223372036854775807 < (((⟨#[118]⟩ : ByteArray) ++ t478) ++ t479).size + a0_2.size) = False := eq_false (Nat.not_lt.2 c8)
          try (have c8b3 := c8; simp [ByteArray.size_append, (show (⟨#[118]⟩ : ByteArray).size = 1 from rfl)] at c8b3; have c8b4 := eq_false (Nat.not_lt.2 c8b3); clear c8b3)
          simp only [Option.some.injEq, Prod.mk.injEq] at H
          obtain ⟨rfl, rfl⟩ := H
          go_enter Try.func22, Try.ntmps22
          try go_wp2_with (first | ((with_reducible refine zq (N := 1) rfl ?_); refine zp ?hg (N := 1) ?hd (cs := #[.int .i64 a0_0, .int .i64 a0_1, .string a0_2]) (t := 48) ?hr ?_; (case hd => rfl); (case hg => rfl); (case hr => first | (go_simp; done) | (go_simp; rfl)); intro gb476 hg w9 hbox hb; have n0_ := zb.mk (zl (by repeat (first | (with_reducible first | exact HB.out | apply zi | apply zd | apply zj) | exact HB.out)) hb); have n1_ := zb.mk (hbox); have n2_ := zb.mk ((by rw [hg]; exact (zo (by repeat (first | (with_reducible first | exact HB.out | apply zi | apply zd | apply zj) | exact HB.out))) : w.heap.size ≤ gb476)); have n3_ := zb.mk ((by rw [hg]; exact (zo (by repeat (first | (with_reducible first | exact HB.out | apply zi | apply zd | apply zj) | exact HB.out))) : w.heap.size ≤ gb476)); clear HB; have HB := n0_; have BK476 := n1_; have GW476 := n2_; have GE476 := n3_; clear n0_ n1_ n2_ n3_; clear hb hbox hg; have hcz10_0 : w9.cell? ⟨gb476, 0, none⟩ = some (.int .i64 a0_0) := (zc BK476.out 0).trans rfl; have hcz10_1 : w9.cell? ⟨gb476, 1, none⟩ = some (.int .i64 a0_1) := (zc BK476.out 1).trans rfl; have hcz10_2 : w9.cell? ⟨gb476, 2, none⟩ = some (.string a0_2) := (zc BK476.out 2).trans rfl; have hfz10_0 := za BK476.out 0; have hfz10_1 := za BK476.out 1; have hfz10_2 := za BK476.out 2) | ((with_reducible refine zu (f := 38) rfl ?_); refine zQ (some 10) rfl rfl Try.func38 (by kernel_rfl) rfl #[.int .i64 a0_0, .int .i64 a0_1, .string a0_2] rfl (by (try simp only [List.map_toArray, List.map_cons, List.map_nil]); first | done | rfl | (simp only [List.length_drop, List.length_take]; rfl)) ?_; (with_reducible refine (za7.calls a0_0 a0_1 a0_2 true _ A2.out).mono ?_); rintro e w' ⟨rfl, ⟨nd, rfl⟩⟩; refine ⟨_, rfl, ?_⟩))
          (try (rw [za1 w9]; generalize hq_ : World.drewN w9 _ = w9; have n0_ : zb (w9.heap[gb476]? = some (.cells #[.int .i64 a0_0, .int .i64 a0_1, .string a0_2] 48 (0, 0))) := ⟨by rw [← hq_]; exact (by (with_reducible repeat (first | refine ze ?_ _ | refine zh ?_ | refine zf ?_ _)); exact BK476.out)⟩; have n1_ : zb (Below w.heap.size w w9) := ⟨by rw [← hq_]; exact (by repeat (first | (with_reducible first | exact HB.out | apply zi | apply zd | apply zj | refine zg ?_ GE476.out) | exact HB.out))⟩; clear BK476 HB hq_; have BK476 := n0_; have HB := n1_; clear n0_ n1_))
          have n0_ := zb.mk (zh BK476.out)
          have n1_ := zb.mk (zj HB.out)
          clear BK476
          clear HB
          have BK476 := n0_
          have HB := n1_
          clear n0_ n1_
          refine zdq (n := 15) (S := fun w' => w'.cell? ⟨gb476, 0, none⟩ = some (.int .i64 a0_0) ∧ w'.cell? ⟨gb476, 1, none⟩ = some (.int .i64 a0_1) ∧ w'.cell? ⟨gb476, 2, none⟩ = some (.string a0_2)) (ds := []) #[false, false, false, false, false, false, false, false, false, false, false, false, false, false, false] (by kernel_rfl) rfl rfl ⟨(zc BK476.out 0).trans rfl, (zc BK476.out 1).trans rfl, (zc BK476.out 2).trans rfl⟩ (fun hHeld => ?_); refine zbW zaF.tab3 zaF.bits3 (fun HT_ HW_ => ?_)
          generalize w9.drew = w11 at BK476 HB hHeld ⊢
          refine zal (i := 0) (N := some 12) (v := ?_) (a' := ?_) #[true, false, false, false, false, false, false, false, false, false, false, false, false, false, false] rfl rfl (z8 HT_.out (by kernel_rfl)) (fun _ _ _ h => h) (Or.inl ⟨by rfl, ?_⟩) ?_ ?_
          rotate_left
          · intro w'
            go_simp
            with_reducible rfl
          rotate_left
          · simp only [Act.put, List.setIfInBounds_toArray, List.set_cons_zero, List.set_cons_succ, zU, zW]
            rfl
          refine zal (i := 5) (N := some 17) (v := ?_) (a' := ?_) #[true, false, false, false, false, true, false, false, false, false, false, false, false, false, false] rfl rfl (z8 HT_.out (by kernel_rfl)) (fun _ _ _ h => h) (Or.inl ⟨by rfl, ?_⟩) ?_ ?_
          rotate_left
          · intro w'
            go_simp
            with_reducible rfl
          rotate_left
          · simp only [Act.put, List.setIfInBounds_toArray, List.set_cons_zero, List.set_cons_succ, zU, zW]
            rfl
          refine zal (i := 10) (N := some 22) (v := ?_) (a' := ?_) #[true, false, false, false, false, true, false, false, false, false, true, false, false, false, false] rfl rfl (z8 HT_.out (by kernel_rfl)) (fun _ _ _ h => h) (Or.inl ⟨by rfl, ?_⟩) ?_ ?_
          rotate_left
          · intro w'
            go_simp
            with_reducible rfl
          rotate_left
          · simp only [Act.put, List.setIfInBounds_toArray, List.set_cons_zero, List.set_cons_succ, zU, zW]
            rfl
          refine take_ (i := 1) (N := some 13) (v := ?_) (a' := ?_) #[true, true, false, false, false, true, false, false, false, false, true, false, false, false, false] rfl rfl (zaP HT_.out HW_.out (by kernel_rfl)) (fun _ _ _ h => h) (Or.inl ⟨by rfl, ?_⟩) hHeld ?_ ?_
          rotate_left
          · rintro w' ⟨s0, s1, s2⟩
            go_simp
            with_reducible rfl
          rotate_left
          · simp only [Act.put, List.setIfInBounds_toArray, List.set_cons_zero, List.set_cons_succ, zU, zW]
            rfl
          refine zal (i := 2) (N := some 14) (v := ?_) (a' := ?_) #[true, true, true, false, false, true, false, false, false, false, true, false, false, false, false] rfl rfl (z8 HT_.out (by kernel_rfl)) (fun _ _ _ h => h) (Or.inl ⟨by rfl, ?_⟩) ?_ ?_
          rotate_left
          · intro w'
            go_simp
            with_reducible rfl
          rotate_left
          · simp only [Act.put, List.setIfInBounds_toArray, List.set_cons_zero, List.set_cons_succ, zU, zW]
            rfl
          refine take_ (i := 6) (N := some 18) (v := ?_) (a' := ?_) #[true, true, true, false, false, true, true, false, false, false, true, false, false, false, false] rfl rfl (zaP HT_.out HW_.out (by kernel_rfl)) (fun _ _ _ h => h) (Or.inl ⟨by rfl, ?_⟩) hHeld ?_ ?_
          rotate_left
          · rintro w' ⟨s0, s1, s2⟩
            go_simp
            with_reducible rfl
          rotate_left
          · simp only [Act.put, List.setIfInBounds_toArray, List.set_cons_zero, List.set_cons_succ, zU, zW]
            rfl
          refine zal (i := 7) (N := some 19) (v := ?_) (a' := ?_) #[true, true, true, false, false, true, true, true, false, false, true, false, false, false, false] rfl rfl (z8 HT_.out (by kernel_rfl)) (fun _ _ _ h => h) (Or.inl ⟨by rfl, ?_⟩) ?_ ?_
          rotate_left
          · intro w'
            go_simp
            with_reducible rfl
          rotate_left
          · simp only [Act.put, List.setIfInBounds_toArray, List.set_cons_zero, List.set_cons_succ, zU, zW]
            rfl
          refine take_ (i := 11) (N := some 23) (v := ?_) (a' := ?_) #[true, true, true, false, false, true, true, true, false, false, true, true, false, false, false] rfl rfl (zaP HT_.out HW_.out (by kernel_rfl)) (fun _ _ _ h => h) (Or.inl ⟨by rfl, ?_⟩) hHeld ?_ ?_
          rotate_left
          · rintro w' ⟨s0, s1, s2⟩
            go_simp
            with_reducible rfl
          rotate_left
          · simp only [Act.put, List.setIfInBounds_toArray, List.set_cons_zero, List.set_cons_succ, zU, zW]
            rfl
          refine zdL (i := 3) (N := some 15) #[true, true, true, true, false, true, true, true, false, false, true, true, false, false, false] rfl rfl (zbO HT_.out (by kernel_rfl)) (by decide) (fun K hK => ?_)
          refine zcp Try.func50 (by kernel_rfl) rfl #[.int .u64 (IntKind.u64.wrap (a0_0))] (by rfl) rfl rfl (by (try simp only [List.map_toArray, List.map_cons, List.map_nil]); first | done | rfl | (simp only [List.length_drop, List.length_take]; rfl)) ?_
          with_reducible refine (zO.calls (IntKind.u64.wrap (a0_0)) t478 _ A4.out).mono ?_
          rintro e w12 ⟨rfl, hb⟩
          refine ⟨_, rfl, ?_⟩
          have n0_ := zb.mk (zk (g := gb476) (o := .cells #[.int .i64 a0_0, .int .i64 a0_1, .string a0_2] 48 (0, 0)) (by (with_reducible repeat (first | refine ze ?_ _ | refine zh ?_ | refine zf ?_ _)); exact BK476.out) hb)
          have n1_ := zb.mk (zl (by repeat (first | (with_reducible first | exact HB.out | apply zi | apply zd | apply zj | refine zg ?_ GE476.out) | exact HB.out)) hb)
          clear BK476
          clear HB
          have BK476 := n0_
          have HB := n1_
          clear n0_ n1_
          (try clear hb)
          (try clear hb2)
          (try clear hk)
          (try clear hi)
          refine hK.out _ _ ⟨(zc BK476.out 0).trans rfl, (zc BK476.out 1).trans rfl, (zc BK476.out 2).trans rfl⟩ (fun hHeld => ?_)
          clear hK K
          refine zcq (a' := ?_) ?_ ?_
          rotate_left
          · show Act.put _ (some 15) _ = _
            simp only [Act.put, List.setIfInBounds_toArray, List.set_cons_zero, List.set_cons_succ, zU, zW]
            rfl
          refine zal (i := 4) (N := some 16) (v := ?_) (a' := ?_) #[true, true, true, true, true, true, true, true, false, false, true, true, false, false, false] rfl rfl (z8 HT_.out (by kernel_rfl)) (fun _ _ _ h => h) (Or.inl ⟨by rfl, ?_⟩) ?_ ?_
          rotate_left
          · intro w'
            go_simp
            with_reducible rfl
          rotate_left
          · simp only [Act.put, List.setIfInBounds_toArray, List.set_cons_zero, List.set_cons_succ, zU, zW]
            rfl
          refine zdL (i := 8) (N := some 20) #[true, true, true, true, true, true, true, true, true, false, true, true, false, false, false] rfl rfl (zbO HT_.out (by kernel_rfl)) (by decide) (fun K hK => ?_)
          refine zcp Try.func50 (by kernel_rfl) rfl #[.int .u64 (IntKind.u64.wrap (a0_1))] (by rfl) rfl rfl (by (try simp only [List.map_toArray, List.map_cons, List.map_nil]); first | done | rfl | (simp only [List.length_drop, List.length_take]; rfl)) ?_
          with_reducible refine (zO.calls (IntKind.u64.wrap (a0_1)) t479 _ A6.out).mono ?_
          rintro e w13 ⟨rfl, hb⟩
          refine ⟨_, rfl, ?_⟩
          have n0_ := zb.mk (zk (g := gb476) (o := .cells #[.int .i64 a0_0, .int .i64 a0_1, .string a0_2] 48 (0, 0)) (by (with_reducible repeat (first | refine ze ?_ _ | refine zh ?_ | refine zf ?_ _)); exact BK476.out) hb)
          have n1_ := zb.mk (zl (by repeat (first | (with_reducible first | exact HB.out | apply zi | apply zd | apply zj | refine zg ?_ GE476.out) | exact HB.out)) hb)
          clear BK476
          clear HB
          have BK476 := n0_
          have HB := n1_
          clear n0_ n1_
          (try clear hb)
          (try clear hb2)
          (try clear hk)
          (try clear hi)
          refine hK.out _ _ ⟨(zc BK476.out 0).trans rfl, (zc BK476.out 1).trans rfl, (zc BK476.out 2).trans rfl⟩ (fun hHeld => ?_)
          clear hK K
          refine zcq (a' := ?_) ?_ ?_
          rotate_left
          · show Act.put _ (some 20) _ = _
            simp only [Act.put, List.setIfInBounds_toArray, List.set_cons_zero, List.set_cons_succ, zU, zW]
            rfl
          refine zal (i := 9) (N := some 21) (v := ?_) (a' := ?_) #[true, true, true, true, true, true, true, true, true, true, true, true, false, false, false] rfl rfl (z8 HT_.out (by kernel_rfl)) (fun _ _ _ h => h) (Or.inl ⟨by rfl, ?_⟩) ?_ ?_
          rotate_left
          · intro w'
            go_simp
            with_reducible rfl
          rotate_left
          · simp only [Act.put, List.setIfInBounds_toArray, List.set_cons_zero, List.set_cons_succ, zU, zW]
            rfl
          refine zal (i := 12) (N := some 24) (v := ?_) (a' := ?_) #[true, true, true, true, true, true, true, true, true, true, true, true, true, false, false] rfl rfl (z8 HT_.out (by kernel_rfl)) (fun _ _ _ h => h) (Or.inl ⟨by rfl, ?_⟩) ?_ ?_
          rotate_left
          · intro w'
            go_simp
            with_reducible rfl
          rotate_left
          · simp only [Act.put, List.setIfInBounds_toArray, List.set_cons_zero, List.set_cons_succ, zU, zW]
            rfl
          refine zal (i := 13) (N := some 2) (v := ?_) (a' := ?_) #[true, true, true, true, true, true, true, true, true, true, true, true, true, true, false] rfl rfl (z8 HT_.out (by kernel_rfl)) (fun _ _ _ h => h) (Or.inl ⟨by rfl, ?_⟩) ?_ ?_
          rotate_left
          · intro w'
            go_simp
            with_reducible rfl
          rotate_left
          · simp only [Act.put, List.setIfInBounds_toArray, List.set_cons_zero, List.set_cons_succ, zU, zW]
            rfl
          refine zal (i := 14) (N := some 3) (v := ?_) (a' := ?_) #[true, true, true, true, true, true, true, true, true, true, true, true, true, true, true] rfl rfl (z8 HT_.out (by kernel_rfl)) (fun _ _ _ h => h) (Or.inl ⟨by rfl, ?_⟩) ?_ ?_
          rotate_left
          · intro w'
            go_simp
            with_reducible rfl
          rotate_left
          · simp only [Act.put, List.setIfInBounds_toArray, List.set_cons_zero, List.set_cons_succ, zU, zW]
            rfl
          refine zeA (zcI HT_.out (by kernel_rfl)) ?_
          try go_wp2
          go_ret2
          exact ⟨by first | rfl | (simp [zt, zr] <;> rfl) | (simp [*, zt, zr] <;> rfl), by repeat (first | (with_reducible first | exact HB.out | apply zi | apply zd | apply zj | refine zg ?_ GE476.out) | exact HB.out)⟩
        · rw [if_neg c8] at H
          exact absurd H (by simp)
      · rw [if_neg c7] at H
        exact absurd H (by simp)
    · rw [if_neg c5] at H
      exact absurd H (by simp)
  · replace c3 := Bool.eq_false_iff.mpr c3
    subst c3
    have H1 : (some ((⟨#[]⟩ : ByteArray), 1)) = some (r1, r2) := by rw [if_neg (show ¬ (false = true) by decide)] at H; exact H
    clear H
    have H := H1
    clear H1
    simp only [Option.some.injEq, Prod.mk.injEq] at H
    obtain ⟨rfl, rfl⟩ := H
    go_enter Try.func22, Try.ntmps22
    go_wp2_with (first | ((with_reducible refine zq (N := 1) rfl ?_); refine zp ?hg (N := 1) ?hd (cs := #[.int .i64 a0_0, .int .i64 a0_1, .string a0_2]) (t := 48) ?hr ?_; (case hd => rfl); (case hg => rfl); (case hr => first | (go_simp; done) | (go_simp; rfl)); intro gb476 hg w14 hbox hb; have n0_ := zb.mk (zl (by repeat (first | (with_reducible first | exact HB.out | apply zi | apply zd | apply zj) | exact HB.out)) hb); have n1_ := zb.mk (hbox); have n2_ := zb.mk ((by rw [hg]; exact (zo (by repeat (first | (with_reducible first | exact HB.out | apply zi | apply zd | apply zj) | exact HB.out))) : w.heap.size ≤ gb476)); have n3_ := zb.mk ((by rw [hg]; exact (zo (by repeat (first | (with_reducible first | exact HB.out | apply zi | apply zd | apply zj) | exact HB.out))) : w.heap.size ≤ gb476)); clear HB; have HB := n0_; have BK476 := n1_; have GW476 := n2_; have GE476 := n3_; clear n0_ n1_ n2_ n3_; clear hb hbox hg; have hcz15_0 : w14.cell? ⟨gb476, 0, none⟩ = some (.int .i64 a0_0) := (zc BK476.out 0).trans rfl; have hcz15_1 : w14.cell? ⟨gb476, 1, none⟩ = some (.int .i64 a0_1) := (zc BK476.out 1).trans rfl; have hcz15_2 : w14.cell? ⟨gb476, 2, none⟩ = some (.string a0_2) := (zc BK476.out 2).trans rfl; have hfz15_0 := za BK476.out 0; have hfz15_1 := za BK476.out 1; have hfz15_2 := za BK476.out 2) | ((with_reducible refine zu (f := 38) rfl ?_); refine zQ (some 10) rfl rfl Try.func38 (by kernel_rfl) rfl #[.int .i64 a0_0, .int .i64 a0_1, .string a0_2] rfl (by (try simp only [List.map_toArray, List.map_cons, List.map_nil]); first | done | rfl | (simp only [List.length_drop, List.length_take]; rfl)) ?_; (with_reducible refine (za7.calls a0_0 a0_1 a0_2 false _ A2.out).mono ?_); rintro e w' ⟨rfl, ⟨nd, rfl⟩⟩; refine ⟨_, rfl, ?_⟩))
    go_ret2
    exact ⟨by first | rfl | (simp [zt, zr] <;> rfl) | (simp [*, zt, zr] <;> rfl), by repeat (first | (with_reducible first | exact HB.out | apply zi | apply zd | apply zj | refine zg ?_ GE476.out) | exact HB.out)⟩
end Go.Proofs.Ytenbifjbeeobjaa.Px

namespace Go.Proofs.Ytenbifjbeeobjaa.Px
open Go.RowKit Go.Proofs.YtenbifjbeeobjaaW.PrintWords Go.Proofs.YtenbifjbeeobjaaW.PrintLast Go.Proofs.YtenbifjbeeobjaaW.PrintMore
attribute [local go_sem] zC zE zJ zK zv zw zB zD
set_option linter.unusedVariables false
set_option linter.unusedSimpArgs false
def zax.f (a0 : ByteArray) (a1 : ByteArray) : Option (Bool) := if (a0.size : Int) ≥ (a1.size : Int) then (if 0 ≤ (a1.size : Int) then (if (a1.size : Int) ≤ (a0.size : Int) then (some ((a0.extract 0 ((a1.size : Int) : Int).toNat).toList == a1.toList)) else (none)) else (none)) else (some false)
set_option maxHeartbeats 8000000 in
set_option maxRecDepth 100000 in
theorem zax.calls (a0 : ByteArray) (a1 : ByteArray) (r : Bool) (w : World) (h : zax.f a0 a1 = some r) :
    Calls Try.prog 101 #[.string a0, .string a1] w fun e w' => e = .returned (.bool r) ∧ zI w w' := by
  have H : (if (a0.size : Int) ≥ (a1.size : Int) then (if 0 ≤ (a1.size : Int) then (if (a1.size : Int) ≤ (a0.size : Int) then (some ((a0.extract 0 ((a1.size : Int) : Int).toNat).toList == a1.toList)) else (none)) else (none)) else (some false)) = some r := h
  clear h
  by_cases c3 : (a0.size : Int) ≥ (a1.size : Int)
  · rw [if_pos c3] at H
    have c3b0 : decide ((a1.size : Int) ≤ (a0.size : Int)) = true := decide_eq_true c3
    have c3b1 : decide (a1.size ≤ a0.size) = true := decide_eq_true (Int.ofNat_le.mp c3)
    clear c3
    by_cases c4 : 0 ≤ (a1.size : Int)
    · rw [if_pos c4] at H
      have c4b0 := eq_true c4
      have c4b1 : decide (0 ≤ (a1.size : Int)) = true := decide_eq_true c4
      clear c4
      by_cases c5 : (a1.size : Int) ≤ (a0.size : Int)
      · rw [if_pos c5] at H
        have c5b0 := eq_true c5
        have c5b1 : decide ((a1.size : Int) ≤ (a0.size : Int)) = true := decide_eq_true c5
        clear c5
        obtain rfl := Option.some.inj H
        go_enter Try.func101, Try.ntmps101
        go_wp2
        go_ret
        exact ⟨by first | rfl | (simp; done) | (simp [*]; done), by repeat (first | exact zI.refl _ | apply zI.step)⟩
      · rw [if_neg c5] at H
        exact absurd H (by simp)
    · rw [if_neg c4] at H
      exact absurd H (by simp)
  · rw [if_neg c3] at H
    have c3b0 : decide ((a1.size : Int) ≤ (a0.size : Int)) = false := decide_eq_false c3
    have c3b1 : decide (a1.size ≤ a0.size) = false := decide_eq_false (fun h => c3 (Int.ofNat_le.mpr h))
    clear c3
    obtain rfl := Option.some.inj H
    go_enter Try.func101, Try.ntmps101
    go_wp2
    go_ret
    exact ⟨by first | rfl | (simp; done) | (simp [*]; done), by repeat (first | exact zI.refl _ | apply zI.step)⟩
end Go.Proofs.Ytenbifjbeeobjaa.Px

namespace Go.Proofs.Ytenbifjbeeobjaa.Px
open Go.RowKit Go.Proofs.YtenbifjbeeobjaaW.PrintWords Go.Proofs.YtenbifjbeeobjaaW.PrintLast Go.Proofs.YtenbifjbeeobjaaW.PrintMore
attribute [local go_sem] zC zE zJ zK zv zw zB zD
set_option linter.unusedVariables false
set_option linter.unusedSimpArgs false
def zaE.f (a0 : ByteArray) (a1 : ByteArray) : Option (ByteArray × Bool) := (zax.f a0 a1).bind fun t115 => (if t115 = true then (if 0 ≤ (a1.size : Int) then (if (a1.size : Int) ≤ (a0.size : Int) then (some (a0.extract ((a1.size : Int) : Int).toNat a0.size, true)) else (none)) else (none)) else (some (a0, false)))
set_option maxHeartbeats 8000000 in
set_option maxRecDepth 100000 in
theorem zaE.calls (a0 : ByteArray) (a1 : ByteArray) (r1 : ByteArray) (r2 : Bool) (w : World) (h : zaE.f a0 a1 = some (r1, r2)) :
    Calls Try.prog 78 #[.string a0, .string a1] w fun e w' => e = .returned (.tuple #[.string r1, .bool r2]) ∧ zI w w' := by
  have H : ((zax.f a0 a1).bind fun t115 => (if t115 = true then (if 0 ≤ (a1.size : Int) then (if (a1.size : Int) ≤ (a0.size : Int) then (some (a0.extract ((a1.size : Int) : Int).toNat a0.size, true)) else (none)) else (none)) else (some (a0, false)))) = some (r1, r2) := h
  clear h
  replace H := Option.bind_eq_some_iff.mp H
  obtain ⟨t115, A30, H⟩ := H
  replace H : (if t115 = true then (if 0 ≤ (a1.size : Int) then (if (a1.size : Int) ≤ (a0.size : Int) then (some (a0.extract ((a1.size : Int) : Int).toNat a0.size, true)) else (none)) else (none)) else (some (a0, false))) = some (r1, r2) := H
  have A3 := zb.mk A30
  clear A30
  by_cases c4 : t115 = true
  · subst c4
    have H1 : (if 0 ≤ (a1.size : Int) then (if (a1.size : Int) ≤ (a0.size : Int) then (some (a0.extract ((a1.size : Int) : Int).toNat a0.size, true)) else (none)) else (none)) = some (r1, r2) := by rw [if_pos rfl] at H; exact H
    clear H
    have H := H1
    clear H1
    by_cases c5 : 0 ≤ (a1.size : Int)
    · rw [if_pos c5] at H
      have c5b0 := eq_true c5
      have c5b1 : decide (0 ≤ (a1.size : Int)) = true := decide_eq_true c5
      clear c5
      by_cases c6 : (a1.size : Int) ≤ (a0.size : Int)
      · rw [if_pos c6] at H
        have c6b0 := eq_true c6
        have c6b1 : decide ((a1.size : Int) ≤ (a0.size : Int)) = true := decide_eq_true c6
        clear c6
        simp only [Option.some.injEq, Prod.mk.injEq] at H
        obtain ⟨rfl, rfl⟩ := H
        go_enter Try.func78, Try.ntmps78
        go_wp2_with (first | ((with_reducible refine zu (f := 101) rfl ?_); refine zQ (some 8) rfl rfl Try.func101 (by kernel_rfl) rfl #[.string a0, .string a1] rfl (by (try simp only [List.map_toArray, List.map_cons, List.map_nil]); first | done | rfl | (simp only [List.length_drop, List.length_take]; rfl)) ?_; (with_reducible refine (zax.calls a0 a1 true _ A3.out).mono ?_); rintro e w' ⟨rfl, ⟨nd, rfl⟩⟩; refine ⟨_, rfl, ?_⟩))
        go_ret2
        exact ⟨by first | rfl | (simp; done) | (simp [*]; done), by repeat (first | exact zI.refl _ | apply zI.step)⟩
      · rw [if_neg c6] at H
        exact absurd H (by simp)
    · rw [if_neg c5] at H
      exact absurd H (by simp)
  · replace c4 := Bool.eq_false_iff.mpr c4
    subst c4
    have H1 : (some (a0, false)) = some (r1, r2) := by rw [if_neg (show ¬ (false = true) by decide)] at H; exact H
    clear H
    have H := H1
    clear H1
    simp only [Option.some.injEq, Prod.mk.injEq] at H
    obtain ⟨rfl, rfl⟩ := H
    go_enter Try.func78, Try.ntmps78
    go_wp2_with (first | ((with_reducible refine zu (f := 101) rfl ?_); refine zQ (some 8) rfl rfl Try.func101 (by kernel_rfl) rfl #[.string a0, .string a1] rfl (by (try simp only [List.map_toArray, List.map_cons, List.map_nil]); first | done | rfl | (simp only [List.length_drop, List.length_take]; rfl)) ?_; (with_reducible refine (zax.calls a0 a1 false _ A3.out).mono ?_); rintro e w' ⟨rfl, ⟨nd, rfl⟩⟩; refine ⟨_, rfl, ?_⟩))
    go_ret2
    exact ⟨by first | rfl | (simp; done) | (simp [*]; done), by repeat (first | exact zI.refl _ | apply zI.step)⟩
end Go.Proofs.Ytenbifjbeeobjaa.Px

namespace Go.Proofs.Ytenbifjbeeobjaa.Px
open Go.RowKit Go.Proofs.YtenbifjbeeobjaaW.PrintWords Go.Proofs.YtenbifjbeeobjaaW.PrintLast Go.Proofs.YtenbifjbeeobjaaW.PrintMore
attribute [local go_sem] zC zE zJ zK zv zw zB zD
set_option linter.unusedVariables false
set_option linter.unusedSimpArgs false
def zG.f (a0 : ByteArray) (a1 : ByteArray) : Option (ByteArray × Bool) := (zaE.f a0 a1).bind fun bt116 => (some (bt116.1, bt116.2))
set_option maxHeartbeats 8000000 in
set_option maxRecDepth 100000 in
theorem zG.calls (a0 : ByteArray) (a1 : ByteArray) (r1 : ByteArray) (r2 : Bool) (w : World) (h : zG.f a0 a1 = some (r1, r2)) :
    Calls Try.prog 52 #[.string a0, .string a1] w fun e w' => e = .returned (.tuple #[.string r1, .bool r2]) ∧ zI w w' := by
  have H : ((zaE.f a0 a1).bind fun bt116 => (some (bt116.1, bt116.2))) = some (r1, r2) := h
  clear h
  replace H := Option.bind_eq_some_iff.mp H
  obtain ⟨⟨t116, t117⟩, A30, H⟩ := H
  replace H : (some (t116, t117)) = some (r1, r2) := H
  have A3 := zb.mk A30
  clear A30
  simp only [Option.some.injEq, Prod.mk.injEq] at H
  obtain ⟨rfl, rfl⟩ := H
  go_enter Try.func52, Try.ntmps52
  go_wp2_with (first | ((with_reducible refine zu (f := 78) rfl ?_); refine zQ (some 8) rfl rfl Try.func78 (by kernel_rfl) rfl #[.string a0, .string a1] rfl (by (try simp only [List.map_toArray, List.map_cons, List.map_nil]); first | done | rfl | (simp only [List.length_drop, List.length_take]; rfl)) ?_; (with_reducible refine (zaE.calls a0 a1 t116 t117 _ A3.out).mono ?_); rintro e w' ⟨rfl, ⟨nd, rfl⟩⟩; refine ⟨_, rfl, ?_⟩))
  go_ret2
  exact ⟨by first | rfl | (simp; done) | (simp [*]; done), by repeat (first | exact zI.refl _ | apply zI.step)⟩
end Go.Proofs.Ytenbifjbeeobjaa.Px
