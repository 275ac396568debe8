/- Part 5 of 15 of the proof of the law BatchBytes: what is proved is the statement at the end of the last part; its conditions are those of the given row. -/
import Derived.Laws.BitsAllLaws
import Derived.Test.YtcedkmjdigpdiaaZBatchBytesD
namespace Go.Proofs.Ytcedkmjdigpdiaa.Px
open Go.RowKit Go.Proofs.YtcedkmjdigpdiaaW.PrintWords Go.Proofs.YtcedkmjdigpdiaaW.PrintLast Go.Proofs.YtcedkmjdigpdiaaW.PrintMore
attribute [local go_sem] zz zB zG zH zr zs zA zC
set_option linter.unusedVariables false
set_option linter.unusedSimpArgs false
def zY.Bld (B : Nat) (l : List ByteArray) (k : Nat) (w0 wr : World) : Prop := zbZ B w0.heap.size (za6 l.length ++ zaj (l.take k)) wr ∧ Below w0.heap.size w0 wr
theorem zY.walk (A : Option Addr) (c : Nat) (l : List ByteArray) (w : World) (hr : Kd.C Kd.string w A l.length l) (hc : l.length ≤ c) (hs : (zbc l).length ≤ 140737488355328) :
    Calls Try.prog 22 #[.slice A l.length c] w fun e w' => e = .returned (.string (toB (zbc l))) ∧ Below w.heap.size w w' := by
  have hm := hr.2.1
  have hll := zd3 l
  have hsum : (zbc l).length = (za6 l.length).length + (zaj l).length := by rw [zbc, List.length_append]
  have hlen : l.length ≤ 140737488355328 := by omega
  have HN := za.mk (zbi l.length (by omega))
  have HR := za.mk hr
  have HF : za (zbZ w.heap.size w.heap.size [] (w.alloc (.cells #[.pointer none, .slice none 0 0] 69))) := ⟨Lib.fresh_isBuilder 69 5 w⟩
  have HS := za.mk hs
  have HU := za.mk hsum
  clear hr hs hll hsum
  go_enter Try.func22, Try.ntmps22
  go_wp2_with (go_at_call 21; (with_reducible refine (zU.calls _ _ _ HN.out).mono ?_); rintro e w1 ⟨rfl, hb1⟩)
  have hB1 := zbZ.below HF.out hb1
  have hw1 : Below w.heap.size w w1 := zg ((Below.refl _ _).alloc (Nat.le_refl _) _) hb1
  have hsz1 := hw1.size
  clear hb1
  refine (zbI w.heap.size w.heap.size [] (za0 l.length) w1 hB1 (by have := zaI (v := l.length) (by omega); simp; omega) hsz1).mono ?_
  rintro e w2 ⟨rfl, hB2, hw2⟩
  have HL : za (zY.Bld w.heap.size l 0 w w2) := ⟨by rw [za0, zbf, List.nil_append] at hB2; rw [List.take_zero, show zaj [] = [] from rfl, List.append_nil]; exact hB2, hw1.trans hw2⟩
  clear hB1 hB2 hw1 hw2 hsz1
  go_wp2_with fail
  go_loopw [5, 13] (fun _ v13 wr => ∃ k : Nat, v13 = .int .i64 k ∧ k ≤ l.length ∧ za (zY.Bld w.heap.size l k w wr)) (fun _ v13 _ => l.length - (match v13 with | .int _ q => q | _ => 0).toNat)
  case atStart => exact ⟨0, rfl, Nat.zero_le _, HL⟩
  case round =>
    obtain ⟨k, rfl, hk, HK⟩ := hrel
    by_cases hlt : k < l.length
    · obtain ⟨ad, rfl, hcell⟩ := Kd.at_string (Kd.C_below HR.out HK.out.2) (k : Int) (by omega) (by omega)
      rw [Int.toNat_natCast] at hcell
      have hb : decide (k < l.length) = true := decide_eq_true hlt
      have hx : l[k]? = some (za3 ByteArray.empty l (k : Int)) := by
        rw [za3, Int.toNat_natCast, List.getD_eq_getElem?_getD, List.getElem?_eq_getElem hlt]; rfl
      have HX := za.mk hx
      clear hx
      generalize za3 ByteArray.empty l (k : Int) = s at *
      have hs := zcc l k s HX.out
      have HT := za.mk (zcR s (by have := HS.out; have := HU.out; omega))
      have h2 := zb9 l k s HX.out
      have h3 := zbk l (k + 1)
      rw [h2, List.length_append, zV] at h3
      have H2 := za.mk h2
      have H3 : za ((za6 l.length ++ zaj (l.take k)).length + (zb3 s).size ≤ 140737488355328) := ⟨by rw [List.length_append]; have := HS.out; have := HU.out; omega⟩
      clear h2 h3 hs
      go_wp2_with (go_at_call 49; (with_reducible refine (zaG.calls _ _ _ HT.out).mono ?_); rintro e w3 ⟨rfl, hb3⟩)
      refine (zbI w.heap.size w.heap.size _ (zb3 s) w3 (zbZ.below HK.out.1 hb3) H3.out (Nat.le_trans HK.out.2.size hb3.size)).mono ?_
      rintro e w4 ⟨rfl, hB4, hw4⟩
      have HL4 : za (zY.Bld w.heap.size l (k + 1) w w4) := ⟨by rw [H2.out, ← List.append_assoc]; exact hB4, (zg HK.out.2 hb3).trans hw4⟩
      clear hB4 hw4 hb3
      go_wp2
      go_roundw
      case rel => exact ⟨k + 1, by go_num, by omega, HL4⟩
      case measure => simp; omega
    · obtain rfl : k = l.length := by omega
      have HE : za (za6 l.length ++ zaj (l.take l.length) = zbc l) := ⟨by rw [List.take_of_length_le (Nat.le_refl _)]; rfl⟩
      go_wp2_with (go_at_call 50; refine (zc8 w.heap.size w.heap.size _ _ HK.out.1 (by simp [za6])).mono ?_; rintro e w3 ⟨rfl, hb3⟩)
      go_ret
      exact ⟨rfl, HK.out.2.trans hb3⟩
def zY.f (l0 : List ByteArray) : Option (ByteArray) := if (zbc l0).length ≤ 140737488355328 then (some (toB (zbc l0))) else (none)
theorem zY.calls (A0 : Option Addr) (c0 : Nat) (l0 : List ByteArray) (r : ByteArray) (w : World) (hr0 : Kd.C Kd.string w A0 l0.length l0) (hc0 : l0.length ≤ c0) (h : zY.f l0 = some r) :
    Calls Try.prog 22 #[.slice A0 l0.length c0] w fun e w' => e = .returned (.string r) ∧ Below w.heap.size w w' := by
  unfold zY.f at h
  split at h
  · rename_i hs
    obtain rfl := Option.some.inj h
    exact zY.walk A0 c0 l0 w hr0 hc0 hs
  · cases h
end Go.Proofs.Ytcedkmjdigpdiaa.Px

namespace Go.Proofs.Ytcedkmjdigpdiaa.Px
open Go.RowKit Go.Proofs.YtcedkmjdigpdiaaW.PrintWords Go.Proofs.YtcedkmjdigpdiaaW.PrintLast Go.Proofs.YtcedkmjdigpdiaaW.PrintMore
attribute [local go_sem] zz zB zG zH zr zs zA zC
set_option linter.unusedVariables false
set_option linter.unusedSimpArgs false
def zI.f (a0_0 : Int) (a0_1 : Int) (l0_2 : List ByteArray) : Option (ByteArray × Int) := (zS.f a0_0 a0_1 l0_2).bind fun t102 => (if t102 = true then ((zU.f (IntKind.u64.wrap (a0_0))).bind fun t103 => ((zU.f (IntKind.u64.wrap (a0_1))).bind fun t104 => (if t103.size + t104.size ≤ 9223372036854775807 then ((zY.f l0_2).bind fun t105 => (if (t103 ++ t104).size + t105.size ≤ 9223372036854775807 then (some ((t103 ++ t104) ++ t105, 0)) else (none))) else (none)))) else (some ((⟨#[]⟩ : ByteArray), 1)))
def zI.T3 : Bool × List (List Nat × List Nat) := (true, [([], []), ([0], [0]), ([1], [1]), ([2], [2]), ([], []), ([4], [4]), ([5], [5]), ([6, 3], [6]), ([3, 7], [3, 7]), ([], []), ([9], [9]), ([10, 7], [10]), ([8, 11], [8, 11]), ([12, 11, 0, 1, 2, 3, 4, 5, 6, 7, 8, 9, 10, 11, 12], [12]), ([13, 0, 1, 2, 3, 4, 5, 6, 7, 8, 9, 10, 11, 12, 13], [])])
def zI.B3 : List Nat := [0, 1, 3, 7, 0, 16, 48, 127, 255, 0, 512, 1791, 4095, 8191, 16383]
theorem zI.tab3 : za9 .any (ze6 Try.f7 3) = zI.T3 := by kernel_rfl
theorem zI.bits3 : zbE zI.T3.2 zI.B3 = true := by kernel_rfl
set_option maxHeartbeats 8000000 in
set_option maxRecDepth 100000 in
theorem zI.calls (a0_0 : Int) (a0_1 : Int) (A0_2 : Option Addr) (c0_2 : Nat) (l0_2 : List ByteArray) (r1 : ByteArray) (r2 : Int) (w : World) (hr0_2 : Kd.C Kd.string w A0_2 l0_2.length l0_2) (hc0_2 : l0_2.length ≤ c0_2) (h : zI.f a0_0 a0_1 l0_2 = some (r1, r2)) :
    Calls Try.prog 7 #[.agg #[.int .i64 a0_0, .int .i64 a0_1, .slice A0_2 l0_2.length c0_2]] w fun e w' => e = .returned (.tuple #[.string r1, .int .i64 r2]) ∧ Below w.heap.size w w' := by
  have hu24 := Try.underlying24
  have HR0_2 := za.mk hr0_2
  have HC0_2 := za.mk hc0_2
  clear hr0_2 hc0_2
  have HB := za.mk (Below.refl w.heap.size w)
  have H : ((zS.f a0_0 a0_1 l0_2).bind fun t102 => (if t102 = true then ((zU.f (IntKind.u64.wrap (a0_0))).bind fun t103 => ((zU.f (IntKind.u64.wrap (a0_1))).bind fun t104 => (if t103.size + t104.size ≤ 9223372036854775807 then ((zY.f l0_2).bind fun t105 => (if (t103 ++ t104).size + t105.size ≤ 9223372036854775807 then (some ((t103 ++ t104) ++ t105, 0)) else (none))) else (none)))) else (some ((⟨#[]⟩ : ByteArray), 1)))) = some (r1, r2) := h
  clear h
  replace H := Option.bind_eq_some_iff.mp H
  obtain ⟨t102, A20, H⟩ := H
  replace H : (if t102 = true then ((zU.f (IntKind.u64.wrap (a0_0))).bind fun t103 => ((zU.f (IntKind.u64.wrap (a0_1))).bind fun t104 => (if t103.size + t104.size ≤ 9223372036854775807 then ((zY.f l0_2).bind fun t105 => (if (t103 ++ t104).size + t105.size ≤ 9223372036854775807 then (some ((t103 ++ t104) ++ t105, 0)) else (none))) else (none)))) else (some ((⟨#[]⟩ : ByteArray), 1))) = some (r1, r2) := H
  have A2 := za.mk A20
  clear A20
  by_cases c3 : t102 = true
  · subst c3
    have H1 : ((zU.f (IntKind.u64.wrap (a0_0))).bind fun t103 => ((zU.f (IntKind.u64.wrap (a0_1))).bind fun t104 => (if t103.size + t104.size ≤ 9223372036854775807 then ((zY.f l0_2).bind fun t105 => (if (t103 ++ t104).size + t105.size ≤ 9223372036854775807 then (some ((t103 ++ t104) ++ t105, 0)) else (none))) else (none)))) = some (r1, r2) := by rw [if_pos rfl] at H; exact H
    clear H
    have H := H1
    clear H1
    replace H := Option.bind_eq_some_iff.mp H
    obtain ⟨t103, A40, H⟩ := H
    replace H : ((zU.f (IntKind.u64.wrap (a0_1))).bind fun t104 => (if t103.size + t104.size ≤ 9223372036854775807 then ((zY.f l0_2).bind fun t105 => (if (t103 ++ t104).size + t105.size ≤ 9223372036854775807 then (some ((t103 ++ t104) ++ t105, 0)) else (none))) else (none))) = some (r1, r2) := H
    have A4 := za.mk A40
    clear A40
    replace H := Option.bind_eq_some_iff.mp H
    obtain ⟨t104, A50, H⟩ := H
    replace H : (if t103.size + t104.size ≤ 9223372036854775807 then ((zY.f l0_2).bind fun t105 => (if (t103 ++ t104).size + t105.size ≤ 9223372036854775807 then (some ((t103 ++ t104) ++ t105, 0)) else (none))) else (none)) = some (r1, r2) := H
    have A5 := za.mk A50
    clear A50
    by_cases c6 : t103.size + t104.size ≤ 9223372036854775807
    · rw [if_pos c6] at H
      have c6b0 := eq_true c6
      have c6b1 : decide (t103.size + t104.size ≤ 9223372036854775807) = true := decide_eq_true c6
      try have c6b2 : (9223372036854775807 < t103.size + t104.size) = False := eq_false (Nat.not_lt.2 c6)
      replace H := Option.bind_eq_some_iff.mp H
      obtain ⟨t105, A70, H⟩ := H
      replace H : (if (t103 ++ t104).size + t105.size ≤ 9223372036854775807 then (some ((t103 ++ t104) ++ t105, 0)) else (none)) = some (r1, r2) := H
      have A7 := za.mk A70
      clear A70
      by_cases c8 : (t103 ++ t104).size + t105.size ≤ 9223372036854775807
      · rw [if_pos c8] at H
        have c8b0 := eq_true c8
        have c8b1 : decide ((t103 ++ t104).size + t105.size ≤ 9223372036854775807) = true := decide_eq_true c8
        try have c8b2 : (9223372036854775807 < (t103 ++ t104).size + t105.size) = False := eq_false (Nat.not_lt.2 c8)
        try (have c8b3 := c8; simp [ByteArray.size_append] at c8b3; have c8b4 := eq_false (Nat.not_lt.2 c8b3); clear c8b3)
        simp only [Option.some.injEq, Prod.mk.injEq] at H
        obtain ⟨rfl, rfl⟩ := H
        go_enter Try.func7, Try.ntmps7
        try go_wp2_with (first | ((with_reducible refine zP (N := 1) rfl ?_); refine zO ?hg (N := 1) ?hd (cs := #[.int .i64 a0_0, .int .i64 a0_1, .slice A0_2 l0_2.length c0_2]) (t := 24) ?hr ?_; (case hd => rfl); (case hg => rfl); (case hr => first | (go_simp; done) | (go_simp; rfl)); intro gb101 hg w9 hbox hb; have n0_ := za.mk (zg (by repeat (first | (with_reducible first | exact HB.out | apply zf | apply zb | apply zc) | exact HB.out)) hb); have n1_ := za.mk (hbox); have n2_ := za.mk ((by rw [hg]; exact (zE (by repeat (first | (with_reducible first | exact HB.out | apply zf | apply zb | apply zc) | exact HB.out))) : w.heap.size ≤ gb101)); have n3_ := za.mk ((by rw [hg]; exact (zE (by repeat (first | (with_reducible first | exact HB.out | apply zf | apply zb | apply zc) | exact HB.out))) : w.heap.size ≤ gb101)); clear HB; have HB := n0_; have BK101 := n1_; have GW101 := n2_; have GE101 := n3_; clear n0_ n1_ n2_ n3_; clear hb hbox hg; have hcz10_0 : w9.cell? ⟨gb101, 0, none⟩ = some (.int .i64 a0_0) := (zd BK101.out 0).trans rfl; have hcz10_1 : w9.cell? ⟨gb101, 1, none⟩ = some (.int .i64 a0_1) := (zd BK101.out 1).trans rfl; have hcz10_2 : w9.cell? ⟨gb101, 2, none⟩ = some (.slice A0_2 l0_2.length c0_2) := (zd BK101.out 2).trans rfl; have hfz10_0 := ze BK101.out 0; have hfz10_1 := ze BK101.out 1; have hfz10_2 := ze BK101.out 2) | ((with_reducible refine zD (f := 11) rfl ?_); refine zW (some 5) rfl rfl Try.func11 (by kernel_rfl) rfl #[.agg #[.int .i64 a0_0, .int .i64 a0_1, .slice A0_2 l0_2.length c0_2]] rfl (by (try simp only [List.map_toArray, List.map_cons, List.map_nil]); first | done | rfl | (simp only [List.length_drop, List.length_take]; rfl)) ?_; (with_reducible refine (zS.calls a0_0 a0_1 _ _ l0_2 true _ ?side1 ?side2 A2.out).mono ?_); (case side1 => repeat (first | exact (Kd.C_below HR0_2.out HB.out) | (with_reducible refine Kd.C_alloc ?_ _) | (with_reducible refine Kd.C_drewN ?_ _) | (with_reducible refine Kd.C_drew ?_))); (case side2 => exact HC0_2.out); rintro e w11 ⟨rfl, hb⟩; refine ⟨_, rfl, ?_⟩; have n0_ := za.mk (zn (g := gb101) (o := .cells #[.int .i64 a0_0, .int .i64 a0_1, .slice A0_2 l0_2.length c0_2] 24 (0, 0)) (by (with_reducible repeat (first | refine zx ?_ _ | refine zy ?_ | refine zw ?_ _)); exact BK101.out) hb); have n1_ := za.mk (zg (by repeat (first | (with_reducible first | exact HB.out | apply zf | apply zb | apply zc | refine zj ?_ GE101.out) | exact HB.out)) hb); clear BK101; clear HB; have BK101 := n0_; have HB := n1_; clear n0_ n1_; (try clear hb); (try clear hb2); (try clear hk); (try clear hi)))
        have n0_ := za.mk (zy BK101.out)
        have n1_ := za.mk (zc HB.out)
        clear BK101
        clear HB
        have BK101 := n0_
        have HB := n1_
        clear n0_ n1_
        refine zbQ (n := 15) (S := fun w' => w'.cell? ⟨gb101, 0, none⟩ = some (.int .i64 a0_0) ∧ w'.cell? ⟨gb101, 1, none⟩ = some (.int .i64 a0_1) ∧ w'.cell? ⟨gb101, 2, none⟩ = some (.slice A0_2 l0_2.length c0_2)) (ds := []) #[false, false, false, false, false, false, false, false, false, false, false, false, false, false, false] (by kernel_rfl) rfl rfl ⟨(zd BK101.out 0).trans rfl, (zd BK101.out 1).trans rfl, (zd BK101.out 2).trans rfl⟩ (fun hHeld => ?_); refine zaK zI.tab3 zI.bits3 (fun HT_ HW_ => ?_)
        generalize w11.drew = w12 at BK101 HB hHeld ⊢
        refine zm (i := 0) (N := some 7) (v := ?_) (a' := ?_) #[true, false, false, false, false, false, false, false, false, false, false, false, false, false, false] rfl rfl (zh HT_.out (by kernel_rfl)) (fun _ _ _ h => h) (Or.inl ⟨by rfl, ?_⟩) ?_ ?_
        rotate_left
        · intro w'
          go_simp
          with_reducible rfl
        rotate_left
        · simp only [Act.put, List.setIfInBounds_toArray, List.set_cons_zero, List.set_cons_succ, zl, zk]
          rfl
        refine zm (i := 4) (N := some 11) (v := ?_) (a' := ?_) #[true, false, false, false, true, false, false, false, false, false, false, false, false, false, false] rfl rfl (zh HT_.out (by kernel_rfl)) (fun _ _ _ h => h) (Or.inl ⟨by rfl, ?_⟩) ?_ ?_
        rotate_left
        · intro w'
          go_simp
          with_reducible rfl
        rotate_left
        · simp only [Act.put, List.setIfInBounds_toArray, List.set_cons_zero, List.set_cons_succ, zl, zk]
          rfl
        refine zm (i := 9) (N := some 16) (v := ?_) (a' := ?_) #[true, false, false, false, true, false, false, false, false, true, false, false, false, false, false] rfl rfl (zh HT_.out (by kernel_rfl)) (fun _ _ _ h => h) (Or.inl ⟨by rfl, ?_⟩) ?_ ?_
        rotate_left
        · intro w'
          go_simp
          with_reducible rfl
        rotate_left
        · simp only [Act.put, List.setIfInBounds_toArray, List.set_cons_zero, List.set_cons_succ, zl, zk]
          rfl
        refine take_ (i := 1) (N := some 8) (v := ?_) (a' := ?_) #[true, true, false, false, true, false, false, false, false, true, false, false, false, false, false] rfl rfl (za1 HT_.out HW_.out (by kernel_rfl)) (fun _ _ _ h => h) (Or.inl ⟨by rfl, ?_⟩) hHeld ?_ ?_
        rotate_left
        · rintro w' ⟨s0, s1, s2⟩
          go_simp
          with_reducible rfl
        rotate_left
        · simp only [Act.put, List.setIfInBounds_toArray, List.set_cons_zero, List.set_cons_succ, zl, zk]
          rfl
        refine zm (i := 2) (N := some 9) (v := ?_) (a' := ?_) #[true, true, true, false, true, false, false, false, false, true, false, false, false, false, false] rfl rfl (zh HT_.out (by kernel_rfl)) (fun _ _ _ h => h) (Or.inl ⟨by rfl, ?_⟩) ?_ ?_
        rotate_left
        · intro w'
          go_simp
          with_reducible rfl
        rotate_left
        · simp only [Act.put, List.setIfInBounds_toArray, List.set_cons_zero, List.set_cons_succ, zl, zk]
          rfl
        refine take_ (i := 5) (N := some 12) (v := ?_) (a' := ?_) #[true, true, true, false, true, true, false, false, false, true, false, false, false, false, false] rfl rfl (za1 HT_.out HW_.out (by kernel_rfl)) (fun _ _ _ h => h) (Or.inl ⟨by rfl, ?_⟩) hHeld ?_ ?_
        rotate_left
        · rintro w' ⟨s0, s1, s2⟩
          go_simp
          with_reducible rfl
        rotate_left
        · simp only [Act.put, List.setIfInBounds_toArray, List.set_cons_zero, List.set_cons_succ, zl, zk]
          rfl
        refine zm (i := 6) (N := some 13) (v := ?_) (a' := ?_) #[true, true, true, false, true, true, true, false, false, true, false, false, false, false, false] rfl rfl (zh HT_.out (by kernel_rfl)) (fun _ _ _ h => h) (Or.inl ⟨by rfl, ?_⟩) ?_ ?_
        rotate_left
        · intro w'
          go_simp
          with_reducible rfl
        rotate_left
        · simp only [Act.put, List.setIfInBounds_toArray, List.set_cons_zero, List.set_cons_succ, zl, zk]
          rfl
        refine take_ (i := 10) (N := some 17) (v := ?_) (a' := ?_) #[true, true, true, false, true, true, true, false, false, true, true, false, false, false, false] rfl rfl (za1 HT_.out HW_.out (by kernel_rfl)) (fun _ _ _ h => h) (Or.inl ⟨by rfl, ?_⟩) hHeld ?_ ?_
        rotate_left
        · rintro w' ⟨s0, s1, s2⟩
          go_simp
          with_reducible rfl
        rotate_left
        · simp only [Act.put, List.setIfInBounds_toArray, List.set_cons_zero, List.set_cons_succ, zl, zk]
          rfl
        refine zdW (i := 3) (N := some 10) #[true, true, true, true, true, true, true, false, false, true, true, false, false, false, false] rfl rfl (zbL HT_.out (by kernel_rfl)) (by decide) (fun K hK => ?_)
        refine zcw Try.func21 (by kernel_rfl) rfl #[.int .u64 (IntKind.u64.wrap (a0_0))] (by rfl) rfl rfl (by (try simp only [List.map_toArray, List.map_cons, List.map_nil]); first | done | rfl | (simp only [List.length_drop, List.length_take]; rfl)) ?_
        with_reducible refine (zU.calls (IntKind.u64.wrap (a0_0)) t103 _ A4.out).mono ?_
        rintro e w13 ⟨rfl, hb⟩
        refine ⟨_, rfl, ?_⟩
        have n0_ := za.mk (zn (g := gb101) (o := .cells #[.int .i64 a0_0, .int .i64 a0_1, .slice A0_2 l0_2.length c0_2] 24 (0, 0)) (by (with_reducible repeat (first | refine zx ?_ _ | refine zy ?_ | refine zw ?_ _)); exact BK101.out) hb)
        have n1_ := za.mk (zg (by repeat (first | (with_reducible first | exact HB.out | apply zf | apply zb | apply zc | refine zj ?_ GE101.out) | exact HB.out)) hb)
        clear BK101
        clear HB
        have BK101 := n0_
        have HB := n1_
        clear n0_ n1_
        (try clear hb)
        (try clear hb2)
        (try clear hk)
        (try clear hi)
        refine hK.out _ _ ⟨(zd BK101.out 0).trans rfl, (zd BK101.out 1).trans rfl, (zd BK101.out 2).trans rfl⟩ (fun hHeld => ?_)
        clear hK K
        refine zcx (a' := ?_) ?_ ?_
        rotate_left
        · show Act.put _ (some 10) _ = _
          simp only [Act.put, List.setIfInBounds_toArray, List.set_cons_zero, List.set_cons_succ, zl, zk]
          rfl
        refine zdW (i := 7) (N := some 14) #[true, true, true, true, true, true, true, true, false, true, true, false, false, false, false] rfl rfl (zbL HT_.out (by kernel_rfl)) (by decide) (fun K hK => ?_)
        refine zcw Try.func21 (by kernel_rfl) rfl #[.int .u64 (IntKind.u64.wrap (a0_1))] (by rfl) rfl rfl (by (try simp only [List.map_toArray, List.map_cons, List.map_nil]); first | done | rfl | (simp only [List.length_drop, List.length_take]; rfl)) ?_
        with_reducible refine (zU.calls (IntKind.u64.wrap (a0_1)) t104 _ A5.out).mono ?_
        rintro e w14 ⟨rfl, hb⟩
        refine ⟨_, rfl, ?_⟩
        have n0_ := za.mk (zn (g := gb101) (o := .cells #[.int .i64 a0_0, .int .i64 a0_1, .slice A0_2 l0_2.length c0_2] 24 (0, 0)) (by (with_reducible repeat (first | refine zx ?_ _ | refine zy ?_ | refine zw ?_ _)); exact BK101.out) hb)
        have n1_ := za.mk (zg (by repeat (first | (with_reducible first | exact HB.out | apply zf | apply zb | apply zc | refine zj ?_ GE101.out) | exact HB.out)) hb)
        clear BK101
        clear HB
        have BK101 := n0_
        have HB := n1_
        clear n0_ n1_
        (try clear hb)
        (try clear hb2)
        (try clear hk)
        (try clear hi)
        refine hK.out _ _ ⟨(zd BK101.out 0).trans rfl, (zd BK101.out 1).trans rfl, (zd BK101.out 2).trans rfl⟩ (fun hHeld => ?_)
        clear hK K
        refine zcx (a' := ?_) ?_ ?_
        rotate_left
        · show Act.put _ (some 14) _ = _
          simp only [Act.put, List.setIfInBounds_toArray, List.set_cons_zero, List.set_cons_succ, zl, zk]
          rfl
        refine zm (i := 8) (N := some 15) (v := ?_) (a' := ?_) #[true, true, true, true, true, true, true, true, true, true, true, false, false, false, false] rfl rfl (zh HT_.out (by kernel_rfl)) (fun _ _ _ h => h) (Or.inl ⟨by rfl, ?_⟩) ?_ ?_
        rotate_left
        · intro w'
          go_simp
          with_reducible rfl
        rotate_left
        · simp only [Act.put, List.setIfInBounds_toArray, List.set_cons_zero, List.set_cons_succ, zl, zk]
          rfl
        refine zdW (i := 11) (N := some 18) #[true, true, true, true, true, true, true, true, true, true, true, true, false, false, false] rfl rfl (zbL HT_.out (by kernel_rfl)) (by decide) (fun K hK => ?_)
        refine zcw Try.func22 (by kernel_rfl) rfl #[.slice A0_2 l0_2.length c0_2] (by rfl) rfl rfl (by (try simp only [List.map_toArray, List.map_cons, List.map_nil]); first | done | rfl | (simp only [List.length_drop, List.length_take]; rfl)) ?_
        with_reducible refine (zY.calls _ _ l0_2 t105 _ ?side1 ?side2 A7.out).mono ?_
        (case side1 => repeat (first | exact (Kd.C_below HR0_2.out HB.out) | (with_reducible refine Kd.C_alloc ?_ _) | (with_reducible refine Kd.C_drewN ?_ _) | (with_reducible refine Kd.C_drew ?_)))
        (case side2 => exact HC0_2.out)
        rintro e w15 ⟨rfl, hb⟩
        refine ⟨_, rfl, ?_⟩
        have n0_ := za.mk (zn (g := gb101) (o := .cells #[.int .i64 a0_0, .int .i64 a0_1, .slice A0_2 l0_2.length c0_2] 24 (0, 0)) (by (with_reducible repeat (first | refine zx ?_ _ | refine zy ?_ | refine zw ?_ _)); exact BK101.out) hb)
        have n1_ := za.mk (zg (by repeat (first | (with_reducible first | exact HB.out | apply zf | apply zb | apply zc | refine zj ?_ GE101.out) | exact HB.out)) hb)
        clear BK101
        clear HB
        have BK101 := n0_
        have HB := n1_
        clear n0_ n1_
        (try clear hb)
        (try clear hb2)
        (try clear hk)
        (try clear hi)
        refine hK.out _ _ ⟨(zd BK101.out 0).trans rfl, (zd BK101.out 1).trans rfl, (zd BK101.out 2).trans rfl⟩ (fun hHeld => ?_)
        clear hK K
        refine zcx (a' := ?_) ?_ ?_
        rotate_left
        · show Act.put _ (some 18) _ = _
          simp only [Act.put, List.setIfInBounds_toArray, List.set_cons_zero, List.set_cons_succ, zl, zk]
          rfl
        refine zm (i := 12) (N := some 19) (v := ?_) (a' := ?_) #[true, true, true, true, true, true, true, true, true, true, true, true, true, false, false] rfl rfl (zh HT_.out (by kernel_rfl)) (fun _ _ _ h => h) (Or.inl ⟨by rfl, ?_⟩) ?_ ?_
        rotate_left
        · intro w'
          go_simp
          with_reducible rfl
        rotate_left
        · simp only [Act.put, List.setIfInBounds_toArray, List.set_cons_zero, List.set_cons_succ, zl, zk]
          rfl
        refine zm (i := 13) (N := some 2) (v := ?_) (a' := ?_) #[true, true, true, true, true, true, true, true, true, true, true, true, true, true, false] rfl rfl (zh HT_.out (by kernel_rfl)) (fun _ _ _ h => h) (Or.inl ⟨by rfl, ?_⟩) ?_ ?_
        rotate_left
        · intro w'
          go_simp
          with_reducible rfl
        rotate_left
        · simp only [Act.put, List.setIfInBounds_toArray, List.set_cons_zero, List.set_cons_succ, zl, zk]
          rfl
        refine zm (i := 14) (N := some 3) (v := ?_) (a' := ?_) #[true, true, true, true, true, true, true, true, true, true, true, true, true, true, true] rfl rfl (zh HT_.out (by kernel_rfl)) (fun _ _ _ h => h) (Or.inl ⟨by rfl, ?_⟩) ?_ ?_
        rotate_left
        · intro w'
          go_simp
          with_reducible rfl
        rotate_left
        · simp only [Act.put, List.setIfInBounds_toArray, List.set_cons_zero, List.set_cons_succ, zl, zk]
          rfl
        refine zcu (zbd HT_.out (by kernel_rfl)) ?_
        try go_wp2
        go_ret2
        exact ⟨by first | rfl | (simp [zK, zL] <;> rfl) | (simp [*, zK, zL] <;> rfl), by repeat (first | (with_reducible first | exact HB.out | apply zf | apply zb | apply zc | refine zj ?_ GE101.out) | exact HB.out)⟩
      · rw [if_neg c8] at H
        exact absurd H (by simp)
    · rw [if_neg c6] at H
      exact absurd H (by simp)
  · replace c3 := Bool.eq_false_iff.mpr c3
    subst c3
    have H1 : (some ((⟨#[]⟩ : ByteArray), 1)) = some (r1, r2) := by rw [if_neg (show ¬ (false = true) by decide)] at H; exact H
    clear H
    have H := H1
    clear H1
    simp only [Option.some.injEq, Prod.mk.injEq] at H
    obtain ⟨rfl, rfl⟩ := H
    go_enter Try.func7, Try.ntmps7
    go_wp2_with (first | ((with_reducible refine zP (N := 1) rfl ?_); refine zO ?hg (N := 1) ?hd (cs := #[.int .i64 a0_0, .int .i64 a0_1, .slice A0_2 l0_2.length c0_2]) (t := 24) ?hr ?_; (case hd => rfl); (case hg => rfl); (case hr => first | (go_simp; done) | (go_simp; rfl)); intro gb101 hg w16 hbox hb; have n0_ := za.mk (zg (by repeat (first | (with_reducible first | exact HB.out | apply zf | apply zb | apply zc) | exact HB.out)) hb); have n1_ := za.mk (hbox); have n2_ := za.mk ((by rw [hg]; exact (zE (by repeat (first | (with_reducible first | exact HB.out | apply zf | apply zb | apply zc) | exact HB.out))) : w.heap.size ≤ gb101)); have n3_ := za.mk ((by rw [hg]; exact (zE (by repeat (first | (with_reducible first | exact HB.out | apply zf | apply zb | apply zc) | exact HB.out))) : w.heap.size ≤ gb101)); clear HB; have HB := n0_; have BK101 := n1_; have GW101 := n2_; have GE101 := n3_; clear n0_ n1_ n2_ n3_; clear hb hbox hg; have hcz17_0 : w16.cell? ⟨gb101, 0, none⟩ = some (.int .i64 a0_0) := (zd BK101.out 0).trans rfl; have hcz17_1 : w16.cell? ⟨gb101, 1, none⟩ = some (.int .i64 a0_1) := (zd BK101.out 1).trans rfl; have hcz17_2 : w16.cell? ⟨gb101, 2, none⟩ = some (.slice A0_2 l0_2.length c0_2) := (zd BK101.out 2).trans rfl; have hfz17_0 := ze BK101.out 0; have hfz17_1 := ze BK101.out 1; have hfz17_2 := ze BK101.out 2) | ((with_reducible refine zD (f := 11) rfl ?_); refine zW (some 5) rfl rfl Try.func11 (by kernel_rfl) rfl #[.agg #[.int .i64 a0_0, .int .i64 a0_1, .slice A0_2 l0_2.length c0_2]] rfl (by (try simp only [List.map_toArray, List.map_cons, List.map_nil]); first | done | rfl | (simp only [List.length_drop, List.length_take]; rfl)) ?_; (with_reducible refine (zS.calls a0_0 a0_1 _ _ l0_2 false _ ?side1 ?side2 A2.out).mono ?_); (case side1 => repeat (first | exact (Kd.C_below HR0_2.out HB.out) | (with_reducible refine Kd.C_alloc ?_ _) | (with_reducible refine Kd.C_drewN ?_ _) | (with_reducible refine Kd.C_drew ?_))); (case side2 => exact HC0_2.out); rintro e w18 ⟨rfl, hb⟩; refine ⟨_, rfl, ?_⟩; have n0_ := za.mk (zn (g := gb101) (o := .cells #[.int .i64 a0_0, .int .i64 a0_1, .slice A0_2 l0_2.length c0_2] 24 (0, 0)) (by (with_reducible repeat (first | refine zx ?_ _ | refine zy ?_ | refine zw ?_ _)); exact BK101.out) hb); have n1_ := za.mk (zg (by repeat (first | (with_reducible first | exact HB.out | apply zf | apply zb | apply zc | refine zj ?_ GE101.out) | exact HB.out)) hb); clear BK101; clear HB; have BK101 := n0_; have HB := n1_; clear n0_ n1_; (try clear hb); (try clear hb2); (try clear hk); (try clear hi)))
    go_ret2
    exact ⟨by first | rfl | (simp [zK, zL] <;> rfl) | (simp [*, zK, zL] <;> rfl), by repeat (first | (with_reducible first | exact HB.out | apply zf | apply zb | apply zc | refine zj ?_ GE101.out) | exact HB.out)⟩
end Go.Proofs.Ytcedkmjdigpdiaa.Px

namespace Go.Proofs.Ytcedkmjdigpdiaa.Px
open Go.RowKit Go.Proofs.YtcedkmjdigpdiaaW.PrintWords Go.Proofs.YtcedkmjdigpdiaaW.PrintLast Go.Proofs.YtcedkmjdigpdiaaW.PrintMore
attribute [local go_sem] zz zB zG zH zr zs zA zC
set_option linter.unusedVariables false
set_option linter.unusedSimpArgs false
def zaN.f (a0 : Int) (a1 : Int) : Option (Int) := if 0 ≤ (Go.bits .and .u64 (IntKind.u64.wrap (a1)) 31) then (if 0 ≤ (IntKind.u64.wrap (32 - (Go.bits .and .u64 (IntKind.u64.wrap (a1)) 31))) then (some (Go.bits .or .u32 (shl .u32 a0 (Go.bits .and .u64 (IntKind.u64.wrap (a1)) 31)) (shr .u32 a0 (IntKind.u64.wrap (32 - (Go.bits .and .u64 (IntKind.u64.wrap (a1)) 31)))))) else (none)) else (none)
end Go.Proofs.Ytcedkmjdigpdiaa.Px

namespace Go.Proofs.Ytcedkmjdigpdiaa.Px
open Go.RowKit Go.Proofs.YtcedkmjdigpdiaaW.PrintWords Go.Proofs.YtcedkmjdigpdiaaW.PrintLast Go.Proofs.YtcedkmjdigpdiaaW.PrintMore
attribute [local go_sem] zz zB zG zH zr zs zA zC
set_option linter.unusedVariables false
set_option linter.unusedSimpArgs false
def zc3.f (a0 : Int) (a1 : Int) : Option (Int) := (zaN.f a0 (wrap64 (-a1))).bind fun t125 => (some t125)
end Go.Proofs.Ytcedkmjdigpdiaa.Px

namespace Go.Proofs.Ytcedkmjdigpdiaa.Px
open Go.RowKit Go.Proofs.YtcedkmjdigpdiaaW.PrintWords Go.Proofs.YtcedkmjdigpdiaaW.PrintLast Go.Proofs.YtcedkmjdigpdiaaW.PrintMore
attribute [local go_sem] zz zB zG zH zr zs zA zC
set_option linter.unusedVariables false
set_option linter.unusedSimpArgs false
def zai (x : Int) : Prop := 0 ≤ x ∧ x < 4294967296
def zaR (x : Int) : Int := IntKind.u32.wrap x
theorem zax (x : Int) : zaR x = x % 4294967296 := IntKind.wrap_u32 x
theorem zcO (x : Int) : zai (zaR x) := by rw [zax]; unfold zai; omega
def zR (n : Nat) (x : Int) : Int := x / 2 ^ n + x % 2 ^ n * 2 ^ (32 - n)
def zaL (a b : Int) : Int := Go.bits .xor .u32 a b
def zbF (a b : Int) : Int := Go.bits .and .u32 a b
def zcm (L : List Int) (k w : Int) : List Int :=
  let t := zaR (zaR (zaR (zaR (L.getD 7 0 + zaL (zaL (zR 6 (L.getD 4 0)) (zR 11 (L.getD 4 0))) (zR 25 (L.getD 4 0))) + zaL (zbF (L.getD 4 0) (L.getD 5 0)) (zbF (4294967295 - L.getD 4 0) (L.getD 6 0))) + k) + w)
  let u := zaR (zaL (zaL (zR 2 (L.getD 0 0)) (zR 13 (L.getD 0 0))) (zR 22 (L.getD 0 0)) + zaL (zaL (zbF (L.getD 0 0) (L.getD 1 0)) (zbF (L.getD 0 0) (L.getD 2 0))) (zbF (L.getD 1 0) (L.getD 2 0)))
  [zaR (t + u), L.getD 0 0, L.getD 1 0, L.getD 2 0, zaR (L.getD 3 0 + t), L.getD 4 0, L.getD 5 0, L.getD 6 0]
def okL (L : List Int) : Prop := ∀ i, zai (L.getD i 0)
theorem zdA : okL [] := fun i => by simp [zai]
theorem zag {x : Int} {L : List Int} (hx : zai x) (hL : okL L) : okL (x :: L) := fun i => by
  rcases i with _ | i
  · exact hx
  · exact hL i
theorem zdV {x : Int} {L : List Int} (hL : okL L) (hx : zai x) : okL (L ++ [x]) := fun i => by
  rw [List.getD_eq_getElem?_getD]
  rcases Nat.lt_trichotomy i L.length with h | h | h
  · rw [List.getElem?_append_left h, ← List.getD_eq_getElem?_getD]; exact hL i
  · subst h; simp; exact hx
  · rw [List.getElem?_eq_none (by rw [List.length_append]; simp; omega)]; simp [zai]
theorem zeO {L : List Int} (h : okL L) (k w : Int) : okL (zcm L k w) :=
  zag (zcO _) (zag (h 0) (zag (h 1) (zag (h 2) (zag (zcO _) (zag (h 4) (zag (h 5) (zag (h 6) zdA)))))))
def zc4 (b : ByteArray) (i : Nat) : Int := bt b ((4 * i : Nat) : Int) * 16777216 + bt b ((4 * i + 1 : Nat) : Int) * 65536 + bt b ((4 * i + 2 : Nat) : Int) * 256 + bt b ((4 * i + 3 : Nat) : Int)
theorem zfl (b : ByteArray) (i : Nat) : zai (zc4 b i) := by
  have h0 := zaq b ((4 * i : Nat) : Int)
  have h1 := zaq b ((4 * i + 1 : Nat) : Int)
  have h2 := zaq b ((4 * i + 2 : Nat) : Int)
  have h3 := zaq b ((4 * i + 3 : Nat) : Int)
  unfold zai zc4; omega
def zaZ (b : ByteArray) : Nat → List Int
  | 0 => []
  | n + 1 => zaZ b n ++ [zc4 b n]
theorem zaH (b : ByteArray) : ∀ n, (zaZ b n).length = n
  | 0 => rfl
  | n + 1 => by rw [zaZ, List.length_append, zaH b n]; rfl
theorem zdP (b : ByteArray) : ∀ n, okL (zaZ b n)
  | 0 => zdA
  | n + 1 => zdV (zdP b n) (zfl b n)
def zbD (W : List Int) (i : Nat) : Int :=
  zaR (zaR (zaR (W.getD (i - 16) 0 + zaL (zaL (zR 7 (W.getD (i - 15) 0)) (zR 18 (W.getD (i - 15) 0))) (W.getD (i - 15) 0 / 8)) + W.getD (i - 7) 0) + zaL (zaL (zR 17 (W.getD (i - 2) 0)) (zR 19 (W.getD (i - 2) 0))) (W.getD (i - 2) 0 / 1024))
def zq (b : ByteArray) : Nat → List Int
  | 0 => zaZ b 16
  | n + 1 => zq b n ++ [zbD (zq b n) (16 + n)]
theorem zac (b : ByteArray) : ∀ n, (zq b n).length = 16 + n
  | 0 => zaH b 16
  | n + 1 => by rw [zq, List.length_append, zac b n]; rfl
theorem zcn (b : ByteArray) : ∀ n, okL (zq b n)
  | 0 => zdP b 16
  | n + 1 => zdV (zcn b n) (zcO _)
def zaa (S K W : List Int) : Nat → List Int
  | 0 => S
  | n + 1 => zcm (zaa S K W n) (K.getD n 0) (W.getD n 0)
theorem zbC {S : List Int} (h : okL S) (K W : List Int) : ∀ n, okL (zaa S K W n)
  | 0 => h
  | n + 1 => zeO (zbC h K W n) _ _
theorem zbO {S : List Int} (h : S.length = 8) (K W : List Int) : ∀ n, (zaa S K W n).length = 8
  | 0 => h
  | _ + 1 => rfl
def za4 (S H : List Int) (k : Nat) : List Int := (List.range 8).map fun j => if j < k then zaR (S.getD j 0 + H.getD j 0) else S.getD j 0
theorem zaW (S H : List Int) (k : Nat) : (za4 S H k).length = 8 := by simp [za4]
theorem za7 (S H : List Int) (k j : Nat) (hj : j < 8) : (za4 S H k).getD j 0 = if j < k then zaR (S.getD j 0 + H.getD j 0) else S.getD j 0 := by
  rw [za4, List.getD_eq_getElem?_getD, List.getElem?_map, List.getElem?_range hj]; rfl
theorem zcU {A B : List Int} (ha : A.length = 8) (hb : B.length = 8) (h : ∀ j, j < 8 → A.getD j 0 = B.getD j 0) : A = B := by
  apply List.ext_getElem (by rw [ha, hb])
  intro i h1 h2
  have := h i (by omega)
  rwa [List.getD_eq_getElem?_getD, List.getD_eq_getElem?_getD, List.getElem?_eq_getElem h1, List.getElem?_eq_getElem h2] at this
theorem zet {S : List Int} (h : S.length = 8) (H : List Int) : za4 S H 0 = S :=
  zcU (zaW _ _ _) h (fun j hj => by rw [za7 _ _ _ _ hj, if_neg (by omega)])
theorem ze4 (L : List Int) (k j : Nat) (v : Int) (hk : k < L.length) : (L.set k v).getD j 0 = if j = k then v else L.getD j 0 := by
  rw [List.getD_eq_getElem?_getD, List.getElem?_set]
  by_cases h : k = j
  · subst h; rw [if_pos rfl, if_pos hk, if_pos rfl]; rfl
  · rw [if_neg h, if_neg (Ne.symm h), ← List.getD_eq_getElem?_getD]
theorem zes (S H : List Int) (k : Nat) (hk : k < 8) : (za4 S H k).set k (zaR (S.getD k 0 + H.getD k 0)) = za4 S H (k + 1) := by
  refine zcU (by rw [List.length_set, zaW]) (zaW _ _ _) (fun j hj => ?_)
  rw [ze4 _ _ _ _ (by rw [zaW]; exact hk), za7 _ _ _ _ hj, za7 _ _ _ _ hj]
  by_cases h : j = k
  · subst h; rw [if_pos rfl, if_pos (by omega)]
  · rw [if_neg h]
    by_cases h2 : j < k
    · rw [if_pos h2, if_pos (by omega)]
    · rw [if_neg h2, if_neg (by omega)]
def zb6 (S K : List Int) (b : ByteArray) : List Int := za4 (zaa S K (zq b 48) 64) S 8
theorem zbp (S K : List Int) (b : ByteArray) : (zb6 S K b).length = 8 := zaW _ _ _
theorem zfw (S K : List Int) (b : ByteArray) : okL (zb6 S K b) := fun i => by
  rcases Nat.lt_or_ge i 8 with h | h
  · rw [zb6, za7 _ _ _ _ h, if_pos h]; exact zcO _
  · rw [List.getD_eq_getElem?_getD, List.getElem?_eq_none (by rw [zbp]; exact h)]; simp [zai]
def kL : List Int := [1116352408, 1899447441, 3049323471, 3921009573, 961987163, 1508970993, 2453635748, 2870763221, 3624381080, 310598401, 607225278, 1426881987, 1925078388, 2162078206, 2614888103, 3248222580, 3835390401, 4022224774, 264347078, 604807628, 770255983, 1249150122, 1555081692, 1996064986, 2554220882, 2821834349, 2952996808, 3210313671, 3336571891, 3584528711, 113926993, 338241895, 666307205, 773529912, 1294757372, 1396182291, 1695183700, 1986661051, 2177026350, 2456956037, 2730485921, 2820302411, 3259730800, 3345764771, 3516065817, 3600352804, 4094571909, 275423344, 430227734, 506948616, 659060556, 883997877, 958139571, 1322822218, 1537002063, 1747873779, 1955562222, 2024104815, 2227730452, 2361852424, 2428436474, 2756734187, 3204031479, 3329325298]
def hL : List Int := [1779033703, 3144134277, 1013904242, 2773480762, 1359893119, 2600822924, 528734635, 1541459225]
theorem zgc : okL hL := by
  refine zag ?_ (zag ?_ (zag ?_ (zag ?_ (zag ?_ (zag ?_ (zag ?_ (zag ?_ zdA))))))) <;> (constructor <;> decide)
def zb5 (n : Nat) : Bs := [UInt8.ofNat (n / 72057594037927936 % 256), UInt8.ofNat (n / 281474976710656 % 256), UInt8.ofNat (n / 1099511627776 % 256), UInt8.ofNat (n / 4294967296 % 256), UInt8.ofNat (n / 16777216 % 256), UInt8.ofNat (n / 65536 % 256), UInt8.ofNat (n / 256 % 256), UInt8.ofNat (n % 256)]
def zaQ (n : Nat) : Nat := (119 - n % 64) % 64
def zbN (s : Bs) : Bs := s ++ 128 :: (List.replicate (zaQ s.length) 0 ++ zb5 (s.length * 8))
theorem zdY (s : Bs) : ∃ m, (zbN s).length = 64 * m := by
  refine ⟨(s.length + 9 + zaQ s.length) / 64, ?_⟩
  have : (zbN s).length = s.length + 9 + zaQ s.length := by simp [zbN, zb5]; omega
  rw [this]; unfold zaQ; omega
def z6 (p : ByteArray) : Nat → List Int
  | 0 => hL
  | i + 1 => zb6 (z6 p i) kL (p.extract (64 * i) (64 * i + 64))
theorem zal (p : ByteArray) : ∀ i, (z6 p i).length = 8
  | 0 => rfl
  | _ + 1 => zbp _ _ _
theorem zby (p : ByteArray) : ∀ i, okL (z6 p i)
  | 0 => zgc
  | _ + 1 => zfw _ _ _
def za2 (x : Int) : Bs := [UInt8.ofNat (x.toNat / 16777216 % 256), UInt8.ofNat (x.toNat / 65536 % 256), UInt8.ofNat (x.toNat / 256 % 256), UInt8.ofNat (x.toNat % 256)]
def zdH (s : ByteArray) : ByteArray := toB ((z6 (toB (zbN (ofB s))) ((zbN (ofB s)).length / 64)).flatMap za2)
theorem zdy (l : List Int) : (l.flatMap za2).length = 4 * l.length := by
  induction l with
  | nil => rfl
  | cons x l ih => rw [List.flatMap_cons, List.length_append, ih, List.length_cons]; show 4 + _ = _; omega
def zt (L : List Int) : Array Value := (L.map (Value.int .u32)).toArray
theorem z8 (L : List Int) : (zt L).size = L.length := by simp [zt]
theorem zF (L : List Int) (i : Nat) (h : i < L.length) : (zt L)[i]? = some (.int .u32 (L.getD i 0)) := by
  rw [zt, List.getElem?_toArray, List.getElem?_map, List.getElem?_eq_getElem h, List.getD_eq_getElem?_getD, List.getElem?_eq_getElem h]; rfl
theorem zct (L : List Int) (i : Nat) (v : Int) : (zt L).setIfInBounds i (.int .u32 v) = zt (L.set i v) := by
  simp [zt, List.map_set]
theorem zcs (L : List Int) (h : L.length = 8) : zt L = #[.int .u32 (L.getD 0 0), .int .u32 (L.getD 1 0), .int .u32 (L.getD 2 0), .int .u32 (L.getD 3 0), .int .u32 (L.getD 4 0), .int .u32 (L.getD 5 0), .int .u32 (L.getD 6 0), .int .u32 (L.getD 7 0)] := by
  obtain ⟨a, b, c, d, e, f, g, k, rfl⟩ : ∃ a b c d e f g k, L = [a, b, c, d, e, f, g, k] := by
    match L, h with
    | [a, b, c, d, e, f, g, k], _ => exact ⟨a, b, c, d, e, f, g, k, rfl⟩
  rfl
def zav (W : List Int) : List Int := W ++ List.replicate (64 - W.length) 0
theorem zbz {W : List Int} (h : W.length ≤ 64) : (zav W).length = 64 := by simp [zav]; omega
theorem zcS {W : List Int} (i : Nat) (h : i < W.length) : (zav W).getD i 0 = W.getD i 0 := by
  rw [zav, List.getD_eq_getElem?_getD, List.getElem?_append_left h, ← List.getD_eq_getElem?_getD]
theorem zea {W : List Int} (h : W.length < 64) (v : Int) : (zav W).set W.length v = zav (W ++ [v]) := by
  rw [zav, zav, List.set_append_right _ _ (Nat.le_refl _), Nat.sub_self, List.length_append]
  obtain ⟨m, hm⟩ : ∃ m, 64 - W.length = m + 1 := ⟨63 - W.length, by omega⟩
  rw [hm, List.replicate_succ, List.set_cons_zero, show 64 - (W.length + [v].length) = m by simp; omega]
  simp
end Go.Proofs.Ytcedkmjdigpdiaa.Px

namespace Go.Proofs.Ytcedkmjdigpdiaa.Px
open Go.RowKit Go.Proofs.YtcedkmjdigpdiaaW.PrintWords Go.Proofs.YtcedkmjdigpdiaaW.PrintLast Go.Proofs.YtcedkmjdigpdiaaW.PrintMore
attribute [local go_sem] zz zB zG zH zr zs zA zC
set_option linter.unusedVariables false
set_option linter.unusedSimpArgs false
def zN.l0 : Nat → Int → Int → Int → Option (Int)
  | 0, _, _, _ => none
  | k + 1, x0, x1, x5 => if x5 < x1 then (zN.l0 k ((Int.tdiv x0 2) % 4294967296) x1 (wrap64 (x5 + 1))) else (some x0)
def zN.f (k : Nat) (a0 : Int) (a1 : Int) : Option (Int) := zN.l0 k a0 a1 0
set_option maxHeartbeats 8000000 in
set_option maxRecDepth 100000 in
theorem zN.calls (k : Nat) (a0 : Int) (a1 : Int) (r : Int) (w : World) (h : zN.f k a0 a1 = some r) :
    Calls Try.prog 62 #[.int .u32 a0, .int .i64 a1] w fun e w' => e = .returned (.int .u32 r) ∧ zab w w' := by
  have H : (zN.l0 k a0 a1 0) = some r := h
  clear h
  have H' := za.mk H
  clear H
  go_enter Try.func62, Try.ntmps62
  go_wp2
  go_loopg [0, 5] k (fun kq v0 v5 w' => ∃ (x0_1 : Int) (x5_1 : Int), v0 = .int .u32 x0_1 ∧ v5 = .int .i64 x5_1 ∧ za (zN.l0 kq x0_1 a1 x5_1 = some r) ∧ za (kq ≤ k) ∧ zab w w')
  case atStart => exact ⟨(a0), (0), (by first | rfl | (simp; done) | (simp [*]; done)), (by first | rfl | (simp; done) | (simp [*]; done)), H', ⟨Nat.le_refl _⟩, by repeat (first | exact zab.refl _ | apply zab.step)⟩
  case round =>
    clear H'
    try clear p2
    obtain ⟨x0_1, x5_1, rfl, rfl, HA, HK1, ⟨m1, rfl⟩⟩ := hrel
    cases gk with
    | zero => exact absurd HA.out (by simp [zN.l0])
    | succ k1 =>
      have H := HA.out
      clear HA
      simp only [zN.l0] at H
      by_cases c3 : x5_1 < a1
      · rw [if_pos c3] at H
        have c3b0 : decide (x5_1 < a1) = true := decide_eq_true c3
        clear c3
        have H' := za.mk H
        clear H
        go_wp2
        go_roundg k1
        case measure => have := HK1.out; omega
        case rel => exact ⟨((Int.tdiv x0_1 2) % 4294967296), (wrap64 (x5_1 + 1)), (by first | rfl | (simp; done) | (simp [*]; done)), (by first | rfl | (simp; done) | (simp [*]; done)), H', ⟨by have := HK1.out; omega⟩, by repeat (first | exact zab.refl _ | apply zab.step)⟩
      · rw [if_neg c3] at H
        have c3b0 : decide (x5_1 < a1) = false := decide_eq_false c3
        clear c3
        obtain rfl := Option.some.inj H
        go_wp2
        go_ret
        exact ⟨by first | rfl | (simp; done) | (simp [*]; done), by repeat (first | exact zab.refl _ | apply zab.step)⟩
end Go.Proofs.Ytcedkmjdigpdiaa.Px
