/- Part 23 of 32 of the proof of the law CertChecks: what is proved is the statement at the end of the last part; its conditions are those of the given row. -/
import Derived.Test.YtlabjgcoopdbiaaZCertChecksK
import Derived.Test.YtlabjgcoopdbiaaZCertChecksQ
import Derived.Test.YtlabjgcoopdbiaaZCertChecksU
namespace Go.Proofs.Ytlabjgcoopdbiaa.Px
open Go.RowKit Go.Proofs.YtlabjgcoopdbiaaW.PrintWords Go.Proofs.YtlabjgcoopdbiaaW.PrintLast Go.Proofs.YtlabjgcoopdbiaaW.PrintMore
attribute [local go_sem] zC zE zK zL zw zx zD zF
set_option linter.unusedVariables false
set_option linter.unusedSimpArgs false
theorem ziT : (Try.prog.info? 5).map (fun i => (i.zero, i.size, i.bytes)) = some (some (.int .u8 0), 1, 1) := by kernel_rfl
def zS.Rel (l : List ByteArray) (k : Nat) (w0 wr : World) (v : Value) : Prop := zaM wr w0.heap.size 5 v (zcN l.length ++ zbn (l.take k)) ∧ Below w0.heap.size w0 wr
set_option maxRecDepth 100000 in
theorem zS.walk (A : Option Addr) (c : Nat) (l : List ByteArray) (w : World) (hr : Kd.C Kd.string w A l.length l) (hc : l.length ≤ c) (hs : (zbQ l).length ≤ 140737488355328) :
    Calls Try.prog 48 #[.slice A l.length c] w fun e w' => e = .returned (.string (toB (zbQ l))) ∧ Below w.heap.size w w' := by
  have hm := hr.2.1
  have hll := zgL l
  have hsum : (zbQ l).length = (zcN l.length).length + (zbn l).length := by rw [zbQ, List.length_append]
  have hlen : l.length ≤ 140737488355328 := by omega
  obtain ⟨k0, hk0⟩ := (zeo l.length (by omega)).rounds
  have HN := zc.mk hk0
  have HR := zc.mk hr
  have HS := zc.mk hs
  have HU := zc.mk hsum
  have kb := fun (W : World) (s : ByteArray) => Lib.run_convert_string_bytes (P := Try.prog) W 9 84 5 s Try.underlying9 Try.underlying84 Try.underlying5
  clear hr hs hll hsum hk0
  go_enter Try.func48, Try.ntmps48
  go_wp2_with (go_at_call 47; (with_reducible refine (zv.calls _ _ _ _ HN.out).mono ?_); rintro e w1 ⟨rfl, hb1⟩)
  have hw1 : Below w.heap.size w w1 := by assumption
  have HL : zc (zS.Rel l 0 w (Lib.bytesWorld w1 5 (zbg l.length)) (.slice (some ⟨w1.heap.size, 0, none⟩) (zbg l.length).size (grownCap w1 (zbg l.length).size 0 5))) := ⟨by
    have h := zaM.start w1 w.heap.size 5 (zbg l.length) hw1.size (by have := za1 (v := l.length) (by omega); unfold maxLen; omega)
    rw [List.take_zero, show zbn [] = [] from rfl, List.append_nil]
    rw [zbg, zcG] at h
    exact h, zev hw1 hw1.size 5 _⟩
  generalize Lib.bytesWorld w1 5 (zbg l.length) = wb at *
  generalize Value.slice (some ⟨w1.heap.size, 0, none⟩) (zbg l.length).size (grownCap w1 (zbg l.length).size 0 5) = vb at *
  clear hw1
  go_loopw [3, 4] (fun v3 v4 wr => ∃ k : Nat, v4 = .int .i64 k ∧ k ≤ l.length ∧ zc (zS.Rel l k w wr v3)) (fun _ v4 _ => l.length - (match v4 with | .int _ q => q | _ => 0).toNat)
  case atStart => exact ⟨0, rfl, Nat.zero_le _, HL⟩
  case round =>
    obtain ⟨k, rfl, hk, HK⟩ := hrel
    by_cases hlt : k < l.length
    · obtain ⟨ad, rfl, hcell⟩ := Kd.at_string (Kd.C_below HR.out HK.out.2) (k : Int) (by omega) (by omega)
      rw [Int.toNat_natCast] at hcell
      have hb : decide (k < l.length) = true := decide_eq_true hlt
      have hx : l[k]? = some (zJ ByteArray.empty l (k : Int)) := by
        rw [zJ, Int.toNat_natCast, List.getD_eq_getElem?_getD, List.getElem?_eq_getElem hlt]; rfl
      have HX := zc.mk hx
      clear hx
      generalize zJ ByteArray.empty l (k : Int) = s at *
      have hs := zd7 l k s HX.out
      have HT := zc.mk (zdl s (by have := HS.out; have := HU.out; omega))
      have h2 := zdY l k s HX.out
      have h3 := zcP l (k + 1)
      rw [h2, List.length_append, zax] at h3
      have H2 := zc.mk h2
      have H3 : zc ((zcN l.length ++ zbn (l.take k)).length + (zdO s).size ≤ 140737488355328) := ⟨by rw [List.length_append]; have := HS.out; have := HU.out; omega⟩
      clear h2 h3 hs
      go_wp2_with (first | (go_at_call 81; (with_reducible refine (za5.calls _ _ _ HT.out).mono ?_); rintro e w3 ⟨rfl, hb3⟩; have HO := zc.mk (zaM.below HK.out.1 hb3); have HB := zc.mk (zh HK.out.2 hb3); clear hb3) | (at_builtin; refine zef rfl _ _ 84 9 rfl w.heap.size 5 Try.underlying84 Try.underlying9 ziT _ _ rfl HO.out _ rfl HB.out H3.out HB.out.size ?_; intro v5 w5 ho5 hb5; have HL5 : zc (zS.Rel l (k + 1) w w5 v5) := ⟨by rw [H2.out, ← List.append_assoc]; exact ho5, hb5⟩; clear ho5 hb5))
      go_roundw
      case rel => exact ⟨k + 1, by go_num, by omega, HL5⟩
      case measure => simp; omega
    · obtain rfl : k = l.length := by omega
      have hs2 := HK.out.1.string Try.underlying84 Try.underlying5 9 Try.underlying9
      rw [List.take_of_length_le (Nat.le_refl _)] at hs2
      go_wp2
      go_ret
      exact ⟨rfl, HK.out.2⟩
def zS.f (l0 : List ByteArray) : Option (ByteArray) := if (zbQ l0).length ≤ 140737488355328 then (some (toB (zbQ l0))) else (none)
theorem zS.calls (A0 : Option Addr) (c0 : Nat) (l0 : List ByteArray) (r : ByteArray) (w : World) (hr0 : Kd.C Kd.string w A0 l0.length l0) (hc0 : l0.length ≤ c0) (h : zS.f l0 = some r) :
    Calls Try.prog 48 #[.slice A0 l0.length c0] w fun e w' => e = .returned (.string r) ∧ Below w.heap.size w w' := by
  unfold zS.f at h
  split at h
  · rename_i hs
    obtain rfl := Option.some.inj h
    exact zS.walk A0 c0 l0 w hr0 hc0 hs
  · cases h
end Go.Proofs.Ytlabjgcoopdbiaa.Px

namespace Go.Proofs.Ytlabjgcoopdbiaa.Px
open Go.RowKit Go.Proofs.YtlabjgcoopdbiaaW.PrintWords Go.Proofs.YtlabjgcoopdbiaaW.PrintLast Go.Proofs.YtlabjgcoopdbiaaW.PrintMore
attribute [local go_sem] zC zE zK zL zw zx zD zF
set_option linter.unusedVariables false
set_option linter.unusedSimpArgs false
def z4.f (k : Nat) (a0_0 : Int) (a0_1 : Int) (l0_2 : List ByteArray) : Option (ByteArray × Int) := (zy.f k a0_0 a0_1 l0_2).bind fun t177 => (if t177 = true then ((zv.f k (IntKind.u64.wrap (a0_0))).bind fun t178 => ((zv.f k (IntKind.u64.wrap (a0_1))).bind fun t179 => (if t178.size + t179.size ≤ 9223372036854775807 then ((zS.f l0_2).bind fun t180 => (if (t178 ++ t179).size + t180.size ≤ 9223372036854775807 then (some ((t178 ++ t179) ++ t180, 0)) else (none))) else (none)))) else (some ((⟨#[]⟩ : ByteArray), 1)))
def z4.T4 : Bool × List (List Nat × List Nat) := (true, [([], []), ([0], [0]), ([1], [1]), ([2], [2]), ([], []), ([4], [4]), ([5], [5]), ([6, 3], [6]), ([3, 7], [3, 7]), ([], []), ([9], [9]), ([10, 7], [10]), ([8, 11], [8, 11]), ([12, 11, 0, 1, 2, 3, 4, 5, 6, 7, 8, 9, 10, 11, 12], [12]), ([13, 0, 1, 2, 3, 4, 5, 6, 7, 8, 9, 10, 11, 12, 13], [])])
def z4.B4 : List Nat := [0, 1, 3, 7, 0, 16, 48, 127, 255, 0, 512, 1791, 4095, 8191, 16383]
theorem z4.tab4 : zcj .any (zfe Try.f46 4) = z4.T4 := by kernel_rfl
theorem z4.bits4 : zcb z4.T4.2 z4.B4 = true := by kernel_rfl
set_option maxHeartbeats 8000000 in
set_option maxRecDepth 100000 in
theorem z4.calls (k : Nat) (a0_0 : Int) (a0_1 : Int) (A0_2 : Option Addr) (c0_2 : Nat) (l0_2 : List ByteArray) (r1 : ByteArray) (r2 : Int) (w : World) (hr0_2 : Kd.C Kd.string w A0_2 l0_2.length l0_2) (hc0_2 : l0_2.length ≤ c0_2) (h : z4.f k a0_0 a0_1 l0_2 = some (r1, r2)) :
    Calls Try.prog 46 #[.agg #[.int .i64 a0_0, .int .i64 a0_1, .slice A0_2 l0_2.length c0_2]] w fun e w' => e = .returned (.tuple #[.string r1, .int .i64 r2]) ∧ Below w.heap.size w w' := by
  have hu68 := Try.underlying68
  have HR0_2 := zc.mk hr0_2
  have HC0_2 := zc.mk hc0_2
  clear hr0_2 hc0_2
  have HB := zc.mk (Below.refl w.heap.size w)
  have H : ((zy.f k a0_0 a0_1 l0_2).bind fun t177 => (if t177 = true then ((zv.f k (IntKind.u64.wrap (a0_0))).bind fun t178 => ((zv.f k (IntKind.u64.wrap (a0_1))).bind fun t179 => (if t178.size + t179.size ≤ 9223372036854775807 then ((zS.f l0_2).bind fun t180 => (if (t178 ++ t179).size + t180.size ≤ 9223372036854775807 then (some ((t178 ++ t179) ++ t180, 0)) else (none))) else (none)))) else (some ((⟨#[]⟩ : ByteArray), 1)))) = some (r1, r2) := h
  clear h
  replace H := Option.bind_eq_some_iff.mp H
  obtain ⟨t177, A20, H⟩ := H
  replace H : (if t177 = true then ((zv.f k (IntKind.u64.wrap (a0_0))).bind fun t178 => ((zv.f k (IntKind.u64.wrap (a0_1))).bind fun t179 => (if t178.size + t179.size ≤ 9223372036854775807 then ((zS.f l0_2).bind fun t180 => (if (t178 ++ t179).size + t180.size ≤ 9223372036854775807 then (some ((t178 ++ t179) ++ t180, 0)) else (none))) else (none)))) else (some ((⟨#[]⟩ : ByteArray), 1))) = some (r1, r2) := H
  have A2 := zc.mk A20
  clear A20
  by_cases c3 : t177 = true
  · subst c3
    have H1 : ((zv.f k (IntKind.u64.wrap (a0_0))).bind fun t178 => ((zv.f k (IntKind.u64.wrap (a0_1))).bind fun t179 => (if t178.size + t179.size ≤ 9223372036854775807 then ((zS.f l0_2).bind fun t180 => (if (t178 ++ t179).size + t180.size ≤ 9223372036854775807 then (some ((t178 ++ t179) ++ t180, 0)) else (none))) else (none)))) = some (r1, r2) := by rw [if_pos rfl] at H; exact H
    clear H
    have H := H1
    clear H1
    replace H := Option.bind_eq_some_iff.mp H
    obtain ⟨t178, A40, H⟩ := H
    replace H : ((zv.f k (IntKind.u64.wrap (a0_1))).bind fun t179 => (if t178.size + t179.size ≤ 9223372036854775807 then ((zS.f l0_2).bind fun t180 => (if (t178 ++ t179).size + t180.size ≤ 9223372036854775807 then (some ((t178 ++ t179) ++ t180, 0)) else (none))) else (none))) = some (r1, r2) := H
    have A4 := zc.mk A40
    clear A40
    replace H := Option.bind_eq_some_iff.mp H
    obtain ⟨t179, A50, H⟩ := H
    replace H : (if t178.size + t179.size ≤ 9223372036854775807 then ((zS.f l0_2).bind fun t180 => (if (t178 ++ t179).size + t180.size ≤ 9223372036854775807 then (some ((t178 ++ t179) ++ t180, 0)) else (none))) else (none)) = some (r1, r2) := H
    have A5 := zc.mk A50
    clear A50
    by_cases c6 : t178.size + t179.size ≤ 9223372036854775807
    · rw [if_pos c6] at H
      have c6b0 := eq_true c6
      have c6b1 : decide (t178.size + t179.size ≤ 9223372036854775807) = true := decide_eq_true c6
      try have c6b2 : (9223372036854775807 < t178.size + t179.size) = False := eq_false (Nat.not_lt.2 c6)
      replace H := Option.bind_eq_some_iff.mp H
      obtain ⟨t180, A70, H⟩ := H
      replace H : (if (t178 ++ t179).size + t180.size ≤ 9223372036854775807 then (some ((t178 ++ t179) ++ t180, 0)) else (none)) = some (r1, r2) := H
      have A7 := zc.mk A70
      clear A70
      by_cases c8 : (t178 ++ t179).size + t180.size ≤ 9223372036854775807
      · rw [if_pos c8] at H
        have c8b0 := eq_true c8
        have c8b1 : decide ((t178 ++ t179).size + t180.size ≤ 9223372036854775807) = true := decide_eq_true c8
        try have c8b2 : (9223372036854775807 < (t178 ++ t179).size + t180.size) = False := eq_false (Nat.not_lt.2 c8)
        try (have c8b3 := c8; simp [ByteArray.size_append] at c8b3; have c8b4 := eq_false (Nat.not_lt.2 c8b3); clear c8b3)
        simp only [Option.some.injEq, Prod.mk.injEq] at H
        obtain ⟨rfl, rfl⟩ := H
        go_enter Try.func46, Try.ntmps46
        try go_wp2_with (first | ((with_reducible refine zA (N := 1) rfl ?_); refine zt ?hg (N := 1) ?hd (cs := #[.int .i64 a0_0, .int .i64 a0_1, .slice A0_2 l0_2.length c0_2]) (t := 68) ?hr ?_; (case hd => rfl); (case hg => rfl); (case hr => first | (go_simp; done) | (go_simp; rfl)); intro gb176 hg w9 hbox hb; have n0_ := zc.mk (zh (by repeat (first | (with_reducible first | exact HB.out | apply zf | apply zd | apply ze) | exact HB.out)) hb); have n1_ := zc.mk (hbox); have n2_ := zc.mk ((by rw [hg]; exact (zp (by repeat (first | (with_reducible first | exact HB.out | apply zf | apply zd | apply ze) | exact HB.out))) : w.heap.size ≤ gb176)); have n3_ := zc.mk ((by rw [hg]; exact (zp (by repeat (first | (with_reducible first | exact HB.out | apply zf | apply zd | apply ze) | exact HB.out))) : w.heap.size ≤ gb176)); clear HB; have HB := n0_; have BK176 := n1_; have GW176 := n2_; have GE176 := n3_; clear n0_ n1_ n2_ n3_; clear hb hbox hg; have hcz10_0 : w9.cell? ⟨gb176, 0, none⟩ = some (.int .i64 a0_0) := (zb BK176.out 0).trans rfl; have hcz10_1 : w9.cell? ⟨gb176, 1, none⟩ = some (.int .i64 a0_1) := (zb BK176.out 1).trans rfl; have hcz10_2 : w9.cell? ⟨gb176, 2, none⟩ = some (.slice A0_2 l0_2.length c0_2) := (zb BK176.out 2).trans rfl; have hfz10_0 := za BK176.out 0; have hfz10_1 := za BK176.out 1; have hfz10_2 := za BK176.out 2) | ((with_reducible refine zr (f := 78) rfl ?_); refine zR (some 6) rfl rfl Try.func78 (by kernel_rfl) rfl #[.agg #[.int .i64 a0_0, .int .i64 a0_1, .slice A0_2 l0_2.length c0_2]] rfl (by (try simp only [List.map_toArray, List.map_cons, List.map_nil]); first | done | rfl | (simp only [List.length_drop, List.length_take]; rfl)) ?_; (with_reducible refine (zy.calls k a0_0 a0_1 _ _ l0_2 true _ ?side1 ?side2 A2.out).mono ?_); (case side1 => repeat (first | exact (Kd.C_below HR0_2.out HB.out) | (with_reducible refine Kd.C_alloc ?_ _) | (with_reducible refine Kd.C_drewN ?_ _) | (with_reducible refine Kd.C_drew ?_))); (case side2 => exact HC0_2.out); rintro e w11 ⟨rfl, hb⟩; refine ⟨_, rfl, ?_⟩; have n0_ := zc.mk (zl (g := gb176) (o := .cells #[.int .i64 a0_0, .int .i64 a0_1, .slice A0_2 l0_2.length c0_2] 68 (0, 0)) (by (with_reducible repeat (first | refine zi ?_ _ | refine zk ?_ | refine zj ?_ _)); exact BK176.out) hb); have n1_ := zc.mk (zh (by repeat (first | (with_reducible first | exact HB.out | apply zf | apply zd | apply ze | refine zg ?_ GE176.out) | exact HB.out)) hb); clear BK176; clear HB; have BK176 := n0_; have HB := n1_; clear n0_ n1_; (try clear hb); (try clear hb2); (try clear hk); (try clear hi)))
        have n0_ := zc.mk (zk BK176.out)
        have n1_ := zc.mk (ze HB.out)
        clear BK176
        clear HB
        have BK176 := n0_
        have HB := n1_
        clear n0_ n1_
        refine zcl (n := 15) (S := fun w' => w'.cell? ⟨gb176, 0, none⟩ = some (.int .i64 a0_0) ∧ w'.cell? ⟨gb176, 1, none⟩ = some (.int .i64 a0_1) ∧ w'.cell? ⟨gb176, 2, none⟩ = some (.slice A0_2 l0_2.length c0_2)) (ds := []) #[false, false, false, false, false, false, false, false, false, false, false, false, false, false, false] (by kernel_rfl) rfl rfl ⟨(zb BK176.out 0).trans rfl, (zb BK176.out 1).trans rfl, (zb BK176.out 2).trans rfl⟩ (fun hHeld => ?_); refine zbE z4.tab4 z4.bits4 (fun HT_ HW_ => ?_)
        generalize w11.drew = w12 at BK176 HB hHeld ⊢
        refine zI (i := 0) (N := some 9) (v := ?_) (a' := ?_) #[true, false, false, false, false, false, false, false, false, false, false, false, false, false, false] rfl rfl (zB HT_.out (by kernel_rfl)) (fun _ _ _ h => h) (Or.inl ⟨by rfl, ?_⟩) ?_ ?_
        rotate_left
        · intro w'
          go_simp
          with_reducible rfl
        rotate_left
        · simp only [Act.put, List.setIfInBounds_toArray, List.set_cons_zero, List.set_cons_succ, zs, zu]
          rfl
        refine zI (i := 4) (N := some 13) (v := ?_) (a' := ?_) #[true, false, false, false, true, false, false, false, false, false, false, false, false, false, false] rfl rfl (zB HT_.out (by kernel_rfl)) (fun _ _ _ h => h) (Or.inl ⟨by rfl, ?_⟩) ?_ ?_
        rotate_left
        · intro w'
          go_simp
          with_reducible rfl
        rotate_left
        · simp only [Act.put, List.setIfInBounds_toArray, List.set_cons_zero, List.set_cons_succ, zs, zu]
          rfl
        refine zI (i := 9) (N := some 18) (v := ?_) (a' := ?_) #[true, false, false, false, true, false, false, false, false, true, false, false, false, false, false] rfl rfl (zB HT_.out (by kernel_rfl)) (fun _ _ _ h => h) (Or.inl ⟨by rfl, ?_⟩) ?_ ?_
        rotate_left
        · intro w'
          go_simp
          with_reducible rfl
        rotate_left
        · simp only [Act.put, List.setIfInBounds_toArray, List.set_cons_zero, List.set_cons_succ, zs, zu]
          rfl
        refine take_ (i := 1) (N := some 10) (v := ?_) (a' := ?_) #[true, true, false, false, true, false, false, false, false, true, false, false, false, false, false] rfl rfl (zaQ HT_.out HW_.out (by kernel_rfl)) (fun _ _ _ h => h) (Or.inl ⟨by rfl, ?_⟩) hHeld ?_ ?_
        rotate_left
        · rintro w' ⟨s0, s1, s2⟩
          go_simp
          with_reducible rfl
        rotate_left
        · simp only [Act.put, List.setIfInBounds_toArray, List.set_cons_zero, List.set_cons_succ, zs, zu]
          rfl
        refine zI (i := 2) (N := some 11) (v := ?_) (a' := ?_) #[true, true, true, false, true, false, false, false, false, true, false, false, false, false, false] rfl rfl (zB HT_.out (by kernel_rfl)) (fun _ _ _ h => h) (Or.inl ⟨by rfl, ?_⟩) ?_ ?_
        rotate_left
        · intro w'
          go_simp
          with_reducible rfl
        rotate_left
        · simp only [Act.put, List.setIfInBounds_toArray, List.set_cons_zero, List.set_cons_succ, zs, zu]
          rfl
        refine take_ (i := 5) (N := some 14) (v := ?_) (a' := ?_) #[true, true, true, false, true, true, false, false, false, true, false, false, false, false, false] rfl rfl (zaQ HT_.out HW_.out (by kernel_rfl)) (fun _ _ _ h => h) (Or.inl ⟨by rfl, ?_⟩) hHeld ?_ ?_
        rotate_left
        · rintro w' ⟨s0, s1, s2⟩
          go_simp
          with_reducible rfl
        rotate_left
        · simp only [Act.put, List.setIfInBounds_toArray, List.set_cons_zero, List.set_cons_succ, zs, zu]
          rfl
        refine zI (i := 6) (N := some 15) (v := ?_) (a' := ?_) #[true, true, true, false, true, true, true, false, false, true, false, false, false, false, false] rfl rfl (zB HT_.out (by kernel_rfl)) (fun _ _ _ h => h) (Or.inl ⟨by rfl, ?_⟩) ?_ ?_
        rotate_left
        · intro w'
          go_simp
          with_reducible rfl
        rotate_left
        · simp only [Act.put, List.setIfInBounds_toArray, List.set_cons_zero, List.set_cons_succ, zs, zu]
          rfl
        refine take_ (i := 10) (N := some 19) (v := ?_) (a' := ?_) #[true, true, true, false, true, true, true, false, false, true, true, false, false, false, false] rfl rfl (zaQ HT_.out HW_.out (by kernel_rfl)) (fun _ _ _ h => h) (Or.inl ⟨by rfl, ?_⟩) hHeld ?_ ?_
        rotate_left
        · rintro w' ⟨s0, s1, s2⟩
          go_simp
          with_reducible rfl
        rotate_left
        · simp only [Act.put, List.setIfInBounds_toArray, List.set_cons_zero, List.set_cons_succ, zs, zu]
          rfl
        refine zb5 (i := 3) (N := some 12) #[true, true, true, true, true, true, true, false, false, true, true, false, false, false, false] rfl rfl (zbl HT_.out (by kernel_rfl)) (by decide) (fun K hK => ?_)
        refine zbx Try.func47 (by kernel_rfl) rfl #[.int .u64 (IntKind.u64.wrap (a0_0))] (by rfl) rfl rfl (by (try simp only [List.map_toArray, List.map_cons, List.map_nil]); first | done | rfl | (simp only [List.length_drop, List.length_take]; rfl)) ?_
        with_reducible refine (zv.calls k (IntKind.u64.wrap (a0_0)) t178 _ A4.out).mono ?_
        rintro e w13 ⟨rfl, hb⟩
        refine ⟨_, rfl, ?_⟩
        have n0_ := zc.mk (zl (g := gb176) (o := .cells #[.int .i64 a0_0, .int .i64 a0_1, .slice A0_2 l0_2.length c0_2] 68 (0, 0)) (by (with_reducible repeat (first | refine zi ?_ _ | refine zk ?_ | refine zj ?_ _)); exact BK176.out) hb)
        have n1_ := zc.mk (zh (by repeat (first | (with_reducible first | exact HB.out | apply zf | apply zd | apply ze | refine zg ?_ GE176.out) | exact HB.out)) hb)
        clear BK176
        clear HB
        have BK176 := n0_
        have HB := n1_
        clear n0_ n1_
        (try clear hb)
        (try clear hb2)
        (try clear hk)
        (try clear hi)
        refine hK.out _ _ ⟨(zb BK176.out 0).trans rfl, (zb BK176.out 1).trans rfl, (zb BK176.out 2).trans rfl⟩ (fun hHeld => ?_)
        clear hK K
        refine zbp (a' := ?_) ?_ ?_
        rotate_left
        · show Act.put _ (some 12) _ = _
          simp only [Act.put, List.setIfInBounds_toArray, List.set_cons_zero, List.set_cons_succ, zs, zu]
          rfl
        refine zb5 (i := 7) (N := some 16) #[true, true, true, true, true, true, true, true, false, true, true, false, false, false, false] rfl rfl (zbl HT_.out (by kernel_rfl)) (by decide) (fun K hK => ?_)
        refine zbx Try.func47 (by kernel_rfl) rfl #[.int .u64 (IntKind.u64.wrap (a0_1))] (by rfl) rfl rfl (by (try simp only [List.map_toArray, List.map_cons, List.map_nil]); first | done | rfl | (simp only [List.length_drop, List.length_take]; rfl)) ?_
        with_reducible refine (zv.calls k (IntKind.u64.wrap (a0_1)) t179 _ A5.out).mono ?_
        rintro e w14 ⟨rfl, hb⟩
        refine ⟨_, rfl, ?_⟩
        have n0_ := zc.mk (zl (g := gb176) (o := .cells #[.int .i64 a0_0, .int .i64 a0_1, .slice A0_2 l0_2.length c0_2] 68 (0, 0)) (by (with_reducible repeat (first | refine zi ?_ _ | refine zk ?_ | refine zj ?_ _)); exact BK176.out) hb)
        have n1_ := zc.mk (zh (by repeat (first | (with_reducible first | exact HB.out | apply zf | apply zd | apply ze | refine zg ?_ GE176.out) | exact HB.out)) hb)
        clear BK176
        clear HB
        have BK176 := n0_
        have HB := n1_
        clear n0_ n1_
        (try clear hb)
        (try clear hb2)
        (try clear hk)
        (try clear hi)
        refine hK.out _ _ ⟨(zb BK176.out 0).trans rfl, (zb BK176.out 1).trans rfl, (zb BK176.out 2).trans rfl⟩ (fun hHeld => ?_)
        clear hK K
        refine zbp (a' := ?_) ?_ ?_
        rotate_left
        · show Act.put _ (some 16) _ = _
          simp only [Act.put, List.setIfInBounds_toArray, List.set_cons_zero, List.set_cons_succ, zs, zu]
          rfl
        refine zI (i := 8) (N := some 17) (v := ?_) (a' := ?_) #[true, true, true, true, true, true, true, true, true, true, true, false, false, false, false] rfl rfl (zB HT_.out (by kernel_rfl)) (fun _ _ _ h => h) (Or.inl ⟨by rfl, ?_⟩) ?_ ?_
        rotate_left
        · intro w'
          go_simp
          with_reducible rfl
        rotate_left
        · simp only [Act.put, List.setIfInBounds_toArray, List.set_cons_zero, List.set_cons_succ, zs, zu]
          rfl
        refine zb5 (i := 11) (N := some 20) #[true, true, true, true, true, true, true, true, true, true, true, true, false, false, false] rfl rfl (zbl HT_.out (by kernel_rfl)) (by decide) (fun K hK => ?_)
        refine zbx Try.func48 (by kernel_rfl) rfl #[.slice A0_2 l0_2.length c0_2] (by rfl) rfl rfl (by (try simp only [List.map_toArray, List.map_cons, List.map_nil]); first | done | rfl | (simp only [List.length_drop, List.length_take]; rfl)) ?_
        with_reducible refine (zS.calls _ _ l0_2 t180 _ ?side1 ?side2 A7.out).mono ?_
        (case side1 => repeat (first | exact (Kd.C_below HR0_2.out HB.out) | (with_reducible refine Kd.C_alloc ?_ _) | (with_reducible refine Kd.C_drewN ?_ _) | (with_reducible refine Kd.C_drew ?_)))
        (case side2 => exact HC0_2.out)
        rintro e w15 ⟨rfl, hb⟩
        refine ⟨_, rfl, ?_⟩
        have n0_ := zc.mk (zl (g := gb176) (o := .cells #[.int .i64 a0_0, .int .i64 a0_1, .slice A0_2 l0_2.length c0_2] 68 (0, 0)) (by (with_reducible repeat (first | refine zi ?_ _ | refine zk ?_ | refine zj ?_ _)); exact BK176.out) hb)
        have n1_ := zc.mk (zh (by repeat (first | (with_reducible first | exact HB.out | apply zf | apply zd | apply ze | refine zg ?_ GE176.out) | exact HB.out)) hb)
        clear BK176
        clear HB
        have BK176 := n0_
        have HB := n1_
        clear n0_ n1_
        (try clear hb)
        (try clear hb2)
        (try clear hk)
        (try clear hi)
        refine hK.out _ _ ⟨(zb BK176.out 0).trans rfl, (zb BK176.out 1).trans rfl, (zb BK176.out 2).trans rfl⟩ (fun hHeld => ?_)
        clear hK K
        refine zbp (a' := ?_) ?_ ?_
        rotate_left
        · show Act.put _ (some 20) _ = _
          simp only [Act.put, List.setIfInBounds_toArray, List.set_cons_zero, List.set_cons_succ, zs, zu]
          rfl
        refine zI (i := 12) (N := some 21) (v := ?_) (a' := ?_) #[true, true, true, true, true, true, true, true, true, true, true, true, true, false, false] rfl rfl (zB HT_.out (by kernel_rfl)) (fun _ _ _ h => h) (Or.inl ⟨by rfl, ?_⟩) ?_ ?_
        rotate_left
        · intro w'
          go_simp
          with_reducible rfl
        rotate_left
        · simp only [Act.put, List.setIfInBounds_toArray, List.set_cons_zero, List.set_cons_succ, zs, zu]
          rfl
        refine zI (i := 13) (N := some 2) (v := ?_) (a' := ?_) #[true, true, true, true, true, true, true, true, true, true, true, true, true, true, false] rfl rfl (zB HT_.out (by kernel_rfl)) (fun _ _ _ h => h) (Or.inl ⟨by rfl, ?_⟩) ?_ ?_
        rotate_left
        · intro w'
          go_simp
          with_reducible rfl
        rotate_left
        · simp only [Act.put, List.setIfInBounds_toArray, List.set_cons_zero, List.set_cons_succ, zs, zu]
          rfl
        refine zI (i := 14) (N := some 3) (v := ?_) (a' := ?_) #[true, true, true, true, true, true, true, true, true, true, true, true, true, true, true] rfl rfl (zB HT_.out (by kernel_rfl)) (fun _ _ _ h => h) (Or.inl ⟨by rfl, ?_⟩) ?_ ?_
        rotate_left
        · intro w'
          go_simp
          with_reducible rfl
        rotate_left
        · simp only [Act.put, List.setIfInBounds_toArray, List.set_cons_zero, List.set_cons_succ, zs, zu]
          rfl
        refine zcT (zcp HT_.out (by kernel_rfl)) ?_
        try go_wp2
        go_ret2
        exact ⟨by first | rfl | (simp [zn, zo] <;> rfl) | (simp [*, zn, zo] <;> rfl), by repeat (first | (with_reducible first | exact HB.out | apply zf | apply zd | apply ze | refine zg ?_ GE176.out) | exact HB.out)⟩
      · rw [if_neg c8] at H
        exact absurd H (by simp)
    · rw [if_neg c6] at H
      exact absurd H (by simp)
  · replace c3 := Bool.eq_false_iff.mpr c3
    subst c3
    have H1 : (some ((⟨#[]⟩ : ByteArray), 1)) = some (r1, r2) := by rw [if_neg (show ¬ (false = true) by decide)] at H; exact H
    clear H
    have H := H1
    clear H1
    simp only [Option.some.injEq, Prod.mk.injEq] at H
    obtain ⟨rfl, rfl⟩ := H
    go_enter Try.func46, Try.ntmps46
    go_wp2_with (first | ((with_reducible refine zA (N := 1) rfl ?_); refine zt ?hg (N := 1) ?hd (cs := #[.int .i64 a0_0, .int .i64 a0_1, .slice A0_2 l0_2.length c0_2]) (t := 68) ?hr ?_; (case hd => rfl); (case hg => rfl); (case hr => first | (go_simp; done) | (go_simp; rfl)); intro gb176 hg w16 hbox hb; have n0_ := zc.mk (zh (by repeat (first | (with_reducible first | exact HB.out | apply zf | apply zd | apply ze) | exact HB.out)) hb); have n1_ := zc.mk (hbox); have n2_ := zc.mk ((by rw [hg]; exact (zp (by repeat (first | (with_reducible first | exact HB.out | apply zf | apply zd | apply ze) | exact HB.out))) : w.heap.size ≤ gb176)); have n3_ := zc.mk ((by rw [hg]; exact (zp (by repeat (first | (with_reducible first | exact HB.out | apply zf | apply zd | apply ze) | exact HB.out))) : w.heap.size ≤ gb176)); clear HB; have HB := n0_; have BK176 := n1_; have GW176 := n2_; have GE176 := n3_; clear n0_ n1_ n2_ n3_; clear hb hbox hg; have hcz17_0 : w16.cell? ⟨gb176, 0, none⟩ = some (.int .i64 a0_0) := (zb BK176.out 0).trans rfl; have hcz17_1 : w16.cell? ⟨gb176, 1, none⟩ = some (.int .i64 a0_1) := (zb BK176.out 1).trans rfl; have hcz17_2 : w16.cell? ⟨gb176, 2, none⟩ = some (.slice A0_2 l0_2.length c0_2) := (zb BK176.out 2).trans rfl; have hfz17_0 := za BK176.out 0; have hfz17_1 := za BK176.out 1; have hfz17_2 := za BK176.out 2) | ((with_reducible refine zr (f := 78) rfl ?_); refine zR (some 6) rfl rfl Try.func78 (by kernel_rfl) rfl #[.agg #[.int .i64 a0_0, .int .i64 a0_1, .slice A0_2 l0_2.length c0_2]] rfl (by (try simp only [List.map_toArray, List.map_cons, List.map_nil]); first | done | rfl | (simp only [List.length_drop, List.length_take]; rfl)) ?_; (with_reducible refine (zy.calls k a0_0 a0_1 _ _ l0_2 false _ ?side1 ?side2 A2.out).mono ?_); (case side1 => repeat (first | exact (Kd.C_below HR0_2.out HB.out) | (with_reducible refine Kd.C_alloc ?_ _) | (with_reducible refine Kd.C_drewN ?_ _) | (with_reducible refine Kd.C_drew ?_))); (case side2 => exact HC0_2.out); rintro e w18 ⟨rfl, hb⟩; refine ⟨_, rfl, ?_⟩; have n0_ := zc.mk (zl (g := gb176) (o := .cells #[.int .i64 a0_0, .int .i64 a0_1, .slice A0_2 l0_2.length c0_2] 68 (0, 0)) (by (with_reducible repeat (first | refine zi ?_ _ | refine zk ?_ | refine zj ?_ _)); exact BK176.out) hb); have n1_ := zc.mk (zh (by repeat (first | (with_reducible first | exact HB.out | apply zf | apply zd | apply ze | refine zg ?_ GE176.out) | exact HB.out)) hb); clear BK176; clear HB; have BK176 := n0_; have HB := n1_; clear n0_ n1_; (try clear hb); (try clear hb2); (try clear hk); (try clear hi)))
    go_ret2
    exact ⟨by first | rfl | (simp [zn, zo] <;> rfl) | (simp [*, zn, zo] <;> rfl), by repeat (first | (with_reducible first | exact HB.out | apply zf | apply zd | apply ze | refine zg ?_ GE176.out) | exact HB.out)⟩
end Go.Proofs.Ytlabjgcoopdbiaa.Px
