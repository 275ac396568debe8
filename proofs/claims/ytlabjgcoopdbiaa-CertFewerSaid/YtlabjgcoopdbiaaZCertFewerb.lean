/- Part 28 of 28 of the proof of the law CertFewer: what is proved is the statement at the end of the last part; its conditions are those of the given row. -/
import Derived.ProofKit
import Derived.OpenShut
import Derived.ShutString
import Derived.ChangeOld
import Derived.JoinedCond
import Derived.Carry
import Derived.WideShapes
import Derived.Test.YtlabjgcoopdbiaaZCertFewera
namespace Go.Proofs.Ytlabjgcoopdbiaa.Pure
open Go.RowKit Go.Proofs.Ytlabjgcoopdbiaa.Px Go.Proofs.YtlabjgcoopdbiaaW.PrintWords Go.Proofs.YtlabjgcoopdbiaaW.PrintLast Go.Proofs.YtlabjgcoopdbiaaW.PrintMore
theorem zim (s m : Nat) (hs : s < 18446744073709551616) (hm : m < 18446744073709551616) : ∃ r : Nat, IntKind.u64.wrap ((s : Int) - Go.bits .and .u64 (s : Int) (m : Int)) = (r : Int) ∧ r < 18446744073709551616 ∧ r ≤ s ∧ ∀ j, r.testBit j = true → s.testBit j = true := by
  refine ⟨s - (s &&& m), ?_, by omega, Nat.sub_le _ _, fun j h => ?_⟩
  · rw [u64_and_nat s m hs hm]
    have : s &&& m ≤ s := Nat.and_le_left
    rw [zaT (by omega) (by omega)]; omega
  · have e : s - (s &&& m) = s ^^^ (s &&& m) := by
      have h1 : (s ^^^ (s &&& m)) + (s &&& m) = s := by
        have h2 : (s ^^^ (s &&& m)) &&& (s &&& m) = 0 := by
          apply Nat.eq_of_testBit_eq
          intro j
          rw [Nat.testBit_and, Nat.testBit_xor, Nat.testBit_and, Nat.zero_testBit]
          cases s.testBit j <;> cases m.testBit j <;> rfl
        have h3 : (s ^^^ (s &&& m)) ||| (s &&& m) = s := by
          apply Nat.eq_of_testBit_eq
          intro j
          rw [Nat.testBit_or, Nat.testBit_xor, Nat.testBit_and]
          cases s.testBit j <;> cases m.testBit j <;> rfl
        have hsm : s &&& m < 2 ^ 64 := Nat.lt_of_le_of_lt Nat.and_le_left hs
        have h4 := zes 64 (s ^^^ (s &&& m)) (s &&& m) (Nat.xor_lt_two_pow hs hsm) hsm
        rw [h2, h3] at h4
        omega
      omega
    rw [e, Nat.testBit_xor, Nat.testBit_and] at h
    cases h1 : s.testBit j
    · rw [h1] at h; simp at h
    · rfl
theorem CertFewer : zb0 := by
  rintro ⟨n, b, ⟨⟨a, r, bs, ps, ⟨x, y⟩⟩, s⟩, m⟩ hok hwt
  obtain ⟨_, _, ⟨_, hs⟩, hm⟩ := hok
  obtain ⟨_, ⟨b1, _⟩, _, _⟩ := hwt
  obtain ⟨s0, s1⟩ := zhQ hs
  obtain ⟨m0, m1⟩ := zhQ hm
  obtain ⟨s, rfl⟩ := Int.eq_ofNat_of_zero_le s0
  obtain ⟨m, rfl⟩ := Int.eq_ofNat_of_zero_le m0
  have hs' : s < 18446744073709551616 := by have h : (s : Int) < 18446744073709551616 := s1; omega
  have hm' : m < 18446744073709551616 := by have h : (m : Int) < 18446744073709551616 := m1; omega
  have hb : b.length < 4611686018427387904 := by
    have : b.length * 24 ≤ 140737488351232 := b1
    omega
  obtain ⟨q, eq, hq, hqs, hbit⟩ := zim s m hs' hm'
  refine Ev.rounds (Ev.bind zgF (Ev.bind (zbV n b hb a r bs ps x y s hs') ?_))
  by_cases hc : zcC n b a r bs ps x y s = 0
  · refine zP hc (zao (zcK n) ?_)
    simp only [eq]
    obtain ⟨c1, c2⟩ := zcR.1 hc
    obtain ⟨f1, f2, f3⟩ := zdq.1 c1
    obtain ⟨w1, w2, w3⟩ := (zbj s n).1 f2
    have wq : zbv q n = true := (zbj q n).2 ⟨w1, w2, by omega⟩
    refine Ev.bind (zbV n b hb a r bs ps x y q hq) (Ev.bind (zd5 q hq) (zP trivial (Ev.bind (zd5 s hs') (zP f3 ?_))))
    by_cases hl : ((za2 64 q : Nat) : Int) < zaV n
    · have e2 : zcC n b a r bs ps x y q = 2 := by
        have : zcs a r bs ps x y q n = 2 := by unfold zcs; rw [if_pos f1, if_pos wq, if_pos hl]
        unfold zcC; rw [this]; rfl
      rw [e2]
      have d : decide (((za2 64 q : Nat) : Int) ≥ zaV n) = false := decide_eq_false (by omega)
      refine zP (by rw [d]; rfl) (z8 (by omega) (Ev.now _))
    · have e0 : zcC n b a r bs ps x y q = 0 := zcR.2 ⟨zdq.2 ⟨f1, wq, by omega⟩, zhg c2 (fun j _ h => hbit j h)⟩
      rw [e0]
      have d : decide (((za2 64 q : Nat) : Int) ≥ zaV n) = true := decide_eq_true (by omega)
      refine zP (by rw [d]; rfl) (zP (by omega) (Ev.now _))
  · exact z8 hc (Ev.now _)
end Go.Proofs.Ytlabjgcoopdbiaa.Pure

namespace Go.Proofs.Ytlabjgcoopdbiaa.certFewer
open Go.ChangeShapes Go.WideShapes Go.ChangeAt Go.RowKit
open Go.ChangeMaps (open_string shut_string)
open Go.RowKit Go.Proofs.Ytlabjgcoopdbiaa.Px Go.Proofs.YtlabjgcoopdbiaaW.PrintWords Go.Proofs.YtlabjgcoopdbiaaW.PrintLast Go.Proofs.YtlabjgcoopdbiaaW.PrintMore
set_option linter.unusedVariables false
theorem own : ownKnob Try.prog.godebug = none := by kernel_rfl
theorem laidOut : laidOutB Try.prog = true := by kernel_rfl
set_option maxRecDepth 100000 in
theorem contract (H : Type) (enc : TypeId × Value → H) (W : World) (base : Nat) (args : Array Value) (ds gs : List (DataW H)) (before : List MemPlace)
    (hval0 : ∀ (j : Nat) t v, Try.f4.params[j]? = some t → args[j]? = some v → Value.okWide Try.prog W .any base t v)
    (hW : DataW.Whole enc Try.prog Try.f4.params.toList Rows.certFewerSpec.vars false W args.toList ds gs before)
    (hsz0 : (DataW.weightsEach Try.prog (Try.f4.params.toList ++ Rows.certFewerSpec.plain.varTypes Try.prog) (ds ++ gs)).all (· ≤ reachBytes) = true) :
    Calls Try.prog 4 args W fun e W' => ∃ v, e = .returned v ∧ Rows.certFewerSpec.post enc Try.prog Try.f4 false true false false W args v W' := by
  have hval : ∀ (j : Nat) t v, Try.f4.params[j]? = some t → args[j]? = some v → Value.okWide Try.prog W .any base t v := hval0
  have hW' := hW
  obtain ⟨p, q, hA0, hV, rfl, hfz, hnd⟩ := hW
  have hA : DataW.TrodAll enc Try.prog W 0 (fun _ => true) true Try.f4.params.toList args.toList ds p := hA0
  have hsz := hsz0
  rw [Try.params4] at hA hval hsz
  obtain ⟨v0, vs0, d0, ds0, p0, q0, hargs, rfl, rfl, h0, r0⟩ := trodAll_cons hA
  obtain ⟨rfl, rfl, rfl⟩ := trodAll_nil r0
  obtain rfl : args = #[v0] := by cases args; simp_all
  obtain ⟨rfl, rfl⟩ := trodVars_none hV
  have t0 := h0
  have lt0 : ∀ x ∈ p0, x.block < W.heap.size := by obtain ⟨m, hm⟩ := t0; exact DataW.trod_lt m _ _ _ hm
  obtain ⟨a0, K0, ok0, wt0, bk0⟩ := zh2 fit36 h0
  have wq0 := wt0 (fun n hn => of_decide_eq_true (List.all_eq_true.1 hsz n (DataW.weights_mem_each (j := 0) (t := zia.t) (d := d0) rfl rfl n hn)))
  obtain ⟨cs0, rfl, sz0⟩ := okWide_struct Try.underlying36 (hval 0 36 v0 rfl rfl)
  obtain ⟨A0_1, c0_1, A0_2_0_2, c0_2_0_2, A0_2_0_3, c0_2_0_3, e0, l0_1, g0_1, l0_2_0_2, g0_2_0_2, l0_2_0_3, g0_2_0_3⟩ := zhw (show k36.K W a0 _ from K0)
  obtain rfl : cs0 = #[.int .i64 a0.f0, .slice A0_1 a0.f1.length c0_1, .int .i64 a0.f2.f0.f0, .int .i64 a0.f2.f0.f1, .slice A0_2_0_2 a0.f2.f0.f2.length c0_2_0_2, .slice A0_2_0_3 a0.f2.f0.f3.length c0_2_0_3, .int .i64 a0.f2.f0.f4.f0, .int .i64 a0.f2.f0.f4.f1, .int .u64 a0.f2.f1, .int .u64 a0.f3] := by have := congrArg List.toArray e0; simpa [Value.cells] using this
  obtain ⟨kk, hkk⟩ := Pure.CertFewer a0 ok0 wq0
  refine (zaW.calls kk (a0.f0) A0_1 c0_1 (a0.f1) (a0.f2.f0.f0) (a0.f2.f0.f1) A0_2_0_2 c0_2_0_2 (a0.f2.f0.f2) A0_2_0_3 c0_2_0_3 (a0.f2.f0.f3) (a0.f2.f0.f4.f0) (a0.f2.f0.f4.f1) (a0.f2.f1) (a0.f3) true W g0_1 l0_1 g0_2_0_2 l0_2_0_2 g0_2_0_3 l0_2_0_3 hkk).mono fun e W' ⟨he, bel0⟩ => ?_
  have bel := bel0
  subst he
  exact ⟨_, rfl, _, _, _, [], _, [], hW', trodAll_mk1 (shut_bool Try.underlying4 _), (trodAll_cons_mk (Below.trod laidOut (by kernel_rfl) (of_decide_eq_true (by kernel_rfl)) t0 bel lt0) trodAll_mk0), rfl, bel.frame _, fun h => by cases h⟩
set_option maxRecDepth 100000 in
theorem lifted (os : Os) (started : os.Started) (H : Type) (enc : TypeId × Value → H) :
    ReturnsInHanded {} Try.checked os 4 .any (Rows.certFewerSpec.pre6 enc Try.prog Try.f4 Rows.certFewerRow.domain false) (Rows.certFewerSpec.post enc Try.prog Try.f4 false true false false) := by
  refine returnsInHanded_of_change_sized (C := Try.checked) own started (by kernel_rfl) Try.func4
    (ChangeSpec.witness6 (enc := enc) (C := Try.checked) false ⟨#[], #[.agg #[.int .i64 0, .slice none 0 0, .int .i64 0, .int .i64 0, .slice none 0 0, .slice none 0 0, .int .i64 0, .int .i64 0, .int .u64 0, .int .u64 0]], []⟩ 8 (by kernel_rfl) (by kernel_rfl) (by kernel_rfl) (by kernel_rfl)) ?_
  intro W base args ds gs before hval hW _ hsz _
  exact contract H enc W base args ds gs before hval hW hsz
theorem proved : Rows.CertFewerSaid :=
  OpenClaim.holds_of_wide 4 Try.f4 rfl rfl rfl rfl rfl rfl rfl ⟨rfl, rfl, rfl, rfl, rfl⟩ rfl rfl rfl rfl rfl (by kernel_rfl) Try.func4 (by kernel_rfl)
    (of_decide_eq_true (by kernel_rfl)) (by unfold Func.isWrapper; first | (rw [if_pos (by decide +kernel)]; kernel_rfl) | (rw [if_neg (by decide +kernel)]; exact ⟨rfl, rfl⟩))
    (fun os started H enc _ => lifted os started H enc)
#print axioms proved
end Go.Proofs.Ytlabjgcoopdbiaa.certFewer
namespace Go.Proofs.Ytlabjgcoopdbiaa
theorem certFewer_holds : Rows.CertFewerSaid := certFewer.proved
end Go.Proofs.Ytlabjgcoopdbiaa
