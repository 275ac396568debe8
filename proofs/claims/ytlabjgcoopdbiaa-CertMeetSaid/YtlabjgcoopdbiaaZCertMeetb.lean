/- Part 28 of 28 of the proof of the law CertMeet: what is proved is the statement at the end of the last part; its conditions are those of the given row. -/
import Derived.ProofKit
import Derived.OpenShut
import Derived.ShutString
import Derived.ChangeOld
import Derived.JoinedCond
import Derived.Carry
import Derived.WideShapes
import Derived.Test.YtlabjgcoopdbiaaZCertMeeta
namespace Go.Proofs.Ytlabjgcoopdbiaa.Pure
open Go.RowKit Go.Proofs.Ytlabjgcoopdbiaa.Px Go.Proofs.YtlabjgcoopdbiaaW.PrintWords Go.Proofs.YtlabjgcoopdbiaaW.PrintLast Go.Proofs.YtlabjgcoopdbiaaW.PrintMore
theorem CertMeet : zb8 := by
  rintro ⟨n, b, ⟨⟨a, r, bs, ps, ⟨x, y⟩⟩, s⟩, ⟨⟨a', r', bs', ps', ⟨x', y'⟩⟩, s'⟩⟩ hok hwt
  obtain ⟨_, _, ⟨_, hs⟩, ⟨_, hs'⟩⟩ := hok
  obtain ⟨_, ⟨b1, _⟩, ⟨⟨_, _, ⟨v1, v2⟩, ⟨p1, p2⟩, _⟩, _⟩, ⟨⟨_, _, ⟨v1', v2'⟩, ⟨p1', p2'⟩, _⟩, _⟩⟩ := hwt
  obtain ⟨s0, s1⟩ := zh1 hs
  obtain ⟨t0, t1⟩ := zh1 hs'
  obtain ⟨s, rfl⟩ := Int.eq_ofNat_of_zero_le s0
  obtain ⟨s', rfl⟩ := Int.eq_ofNat_of_zero_le t0
  have hz : s < 18446744073709551616 := by have h : (s : Int) < 18446744073709551616 := s1; omega
  have hz' : s' < 18446744073709551616 := by have h : (s' : Int) < 18446744073709551616 := t1; omega
  have hb : b.length < 4611686018427387904 := by
    have : b.length * 24 ≤ 140737488351232 := b1
    omega
  have k1 : bs.length < 4611686018427387904 := by have : bs.length * 40 ≤ 140737488351232 := v1; omega
  have k2 : ∀ b ∈ bs, b.f2.length < 4611686018427387904 := fun b hb => by
    obtain ⟨_, _, l1, _⟩ := v2 b hb
    have l1' : b.f2.length * 16 ≤ 140737488351232 := l1
    omega
  have k3 : ps.length < 4611686018427387904 := by have : ps.length * 16 ≤ 140737488351232 := p1; omega
  have k4 : ∀ t ∈ ps, t.size < 4611686018427387904 := fun t ht => by have t1 : t.size ≤ 140737488351232 := p2 t ht; omega
  have k1' : bs'.length < 4611686018427387904 := by have : bs'.length * 40 ≤ 140737488351232 := v1'; omega
  have k2' : ∀ b ∈ bs', b.f2.length < 4611686018427387904 := fun b hb => by
    obtain ⟨_, _, l1, _⟩ := v2' b hb
    have l1' : b.f2.length * 16 ≤ 140737488351232 := l1
    omega
  have k3' : ps'.length < 4611686018427387904 := by have : ps'.length * 16 ≤ 140737488351232 := p1'; omega
  have k4' : ∀ t ∈ ps', t.size < 4611686018427387904 := fun t ht => by have t1 : t.size ≤ 140737488351232 := p2' t ht; omega
  refine Ev.rounds (Ev.bind zgN (Ev.bind (zb0 n b hb a r bs ps x y s hz) (Ev.bind (zb0 n b hb a' r' bs' ps' x' y' s' hz') (zN rfl ?_))))
  by_cases hc : zdu n b a r bs ps x y s = 0
  · refine zN hc (Ev.step (fun k => by rw [zx.j0]) ?_)
    by_cases hc' : zdu n b a' r' bs' ps' x' y' s' = 0
    · refine z6 (by rw [hc']; decide) ?_
      have he : Go.bits .and .u64 (s : Int) (s' : Int) = ((s &&& s' : Nat) : Int) := u64_and_nat s s' hz hz'
      have hle : s &&& s' ≤ s := Nat.and_le_left
      simp only [he]
      obtain ⟨c1, c2⟩ := zcX.1 hc
      obtain ⟨d1, d2⟩ := zcX.1 hc'
      obtain ⟨f1, f2, f3⟩ := zdx.1 c1
      obtain ⟨g1, g2, g3⟩ := zdx.1 d1
      obtain ⟨w1, w2, w3⟩ := (zbo s n).1 f2
      obtain ⟨_, _, w3'⟩ := (zbo s' n).1 g2
      have hn : zcs n = true := ((zch ..).1 f1).1
      have hmeet : (if zcs n = true then (n - 1) / 3 + 1 else 0) ≤ ((zaQ 64 (s &&& s') : Nat) : Int) := by
        rw [if_pos hn]
        obtain ⟨n1, n2, n3⟩ := (zbJ n).1 hn
        have h1 := zd7 64 s s'
        have h2 := zfI 64 n.toNat (s ||| s') (Nat.or_lt_two_pow w3 w3')
        rw [za9, if_pos hn] at f3 g3
        omega
      have z1 := zce a r bs ps x y n
      have z2 := zce a' r' bs' ps' x' y' n
      refine Ev.bind (zbz a r bs ps x y n k1 k2 k3 k4) (Ev.bind (zbz a' r' bs' ps' x' y' n k1' k2' k3' k4') (Ev.bind (zge (s &&& s') (by omega)) (zaq (ze6 n) (zN hmeet (zN (by omega) (Ev.bind (zfm b hb (s &&& s') (by omega) _) ?_))))))
      refine zN (zfV c2 (fun j _ h => ?_)) (zN (by omega) (Ev.bind (zfm b hb (s &&& s') (by omega) _) (zax (Ev.now _) (zfV d2 (fun j _ h => ?_)))))
      · rw [Nat.testBit_and, Bool.and_eq_true] at h; exact h.1
      · rw [Nat.testBit_and, Bool.and_eq_true] at h; exact h.2
    · refine zN (by simp [hc']) (Ev.now _)
  · refine z6 hc (Ev.step (fun k => by rw [zx.j0]) (zN rfl (Ev.now _)))
end Go.Proofs.Ytlabjgcoopdbiaa.Pure

namespace Go.Proofs.Ytlabjgcoopdbiaa.certMeet
open Go.ChangeShapes Go.WideShapes Go.ChangeAt Go.RowKit
open Go.ChangeMaps (open_string shut_string)
open Go.RowKit Go.Proofs.Ytlabjgcoopdbiaa.Px Go.Proofs.YtlabjgcoopdbiaaW.PrintWords Go.Proofs.YtlabjgcoopdbiaaW.PrintLast Go.Proofs.YtlabjgcoopdbiaaW.PrintMore
set_option linter.unusedVariables false
theorem own : ownKnob Try.prog.godebug = none := by kernel_rfl
theorem laidOut : laidOutB Try.prog = true := by kernel_rfl
set_option maxRecDepth 100000 in
theorem contract (H : Type) (enc : TypeId × Value → H) (W : World) (base : Nat) (args : Array Value) (ds gs : List (DataW H)) (before : List MemPlace)
    (hval0 : ∀ (j : Nat) t v, Try.f5.params[j]? = some t → args[j]? = some v → Value.okWide Try.prog W .any base t v)
    (hW : DataW.Whole enc Try.prog Try.f5.params.toList Rows.certMeetSpec.vars false W args.toList ds gs before)
    (hsz0 : (DataW.weightsEach Try.prog (Try.f5.params.toList ++ Rows.certMeetSpec.plain.varTypes Try.prog) (ds ++ gs)).all (· ≤ reachBytes) = true) :
    Calls Try.prog 5 args W fun e W' => ∃ v, e = .returned v ∧ Rows.certMeetSpec.post enc Try.prog Try.f5 false true false false W args v W' := by
  have hval : ∀ (j : Nat) t v, Try.f5.params[j]? = some t → args[j]? = some v → Value.okWide Try.prog W .any base t v := hval0
  have hW' := hW
  obtain ⟨p, q, hA0, hV, rfl, hfz, hnd⟩ := hW
  have hA : DataW.TrodAll enc Try.prog W 0 (fun _ => true) true Try.f5.params.toList args.toList ds p := hA0
  have hsz := hsz0
  rw [Try.params5] at hA hval hsz
  obtain ⟨v0, vs0, d0, ds0, p0, q0, hargs, rfl, rfl, h0, r0⟩ := trodAll_cons hA
  obtain ⟨rfl, rfl, rfl⟩ := trodAll_nil r0
  obtain rfl : args = #[v0] := by cases args; simp_all
  obtain ⟨rfl, rfl⟩ := trodVars_none hV
  have t0 := h0
  have lt0 : ∀ x ∈ p0, x.block < W.heap.size := by obtain ⟨m, hm⟩ := t0; exact DataW.trod_lt m _ _ _ hm
  obtain ⟨a0, K0, ok0, wt0, bk0⟩ := zid fit43 h0
  have wq0 := wt0 (fun n hn => of_decide_eq_true (List.all_eq_true.1 hsz n (DataW.weights_mem_each (j := 0) (t := zil.t) (d := d0) rfl rfl n hn)))
  obtain ⟨cs0, rfl, sz0⟩ := okWide_struct Try.underlying43 (hval 0 43 v0 rfl rfl)
  obtain ⟨A0_1, c0_1, A0_2_0_2, c0_2_0_2, A0_2_0_3, c0_2_0_3, A0_3_0_2, c0_3_0_2, A0_3_0_3, c0_3_0_3, e0, l0_1, g0_1, l0_2_0_2, g0_2_0_2, l0_2_0_3, g0_2_0_3, l0_3_0_2, g0_3_0_2, l0_3_0_3, g0_3_0_3⟩ := zhH (show k43.K W a0 _ from K0)
  obtain rfl : cs0 = #[.int .i64 a0.f0, .slice A0_1 a0.f1.length c0_1, .int .i64 a0.f2.f0.f0, .int .i64 a0.f2.f0.f1, .slice A0_2_0_2 a0.f2.f0.f2.length c0_2_0_2, .slice A0_2_0_3 a0.f2.f0.f3.length c0_2_0_3, .int .i64 a0.f2.f0.f4.f0, .int .i64 a0.f2.f0.f4.f1, .int .u64 a0.f2.f1, .int .i64 a0.f3.f0.f0, .int .i64 a0.f3.f0.f1, .slice A0_3_0_2 a0.f3.f0.f2.length c0_3_0_2, .slice A0_3_0_3 a0.f3.f0.f3.length c0_3_0_3, .int .i64 a0.f3.f0.f4.f0, .int .i64 a0.f3.f0.f4.f1, .int .u64 a0.f3.f1] := by have := congrArg List.toArray e0; simpa [Value.cells] using this
  obtain ⟨kk, hkk⟩ := Pure.CertMeet a0 ok0 wq0
  refine (zx.calls kk (a0.f0) A0_1 c0_1 (a0.f1) (a0.f2.f0.f0) (a0.f2.f0.f1) A0_2_0_2 c0_2_0_2 (a0.f2.f0.f2) A0_2_0_3 c0_2_0_3 (a0.f2.f0.f3) (a0.f2.f0.f4.f0) (a0.f2.f0.f4.f1) (a0.f2.f1) (a0.f3.f0.f0) (a0.f3.f0.f1) A0_3_0_2 c0_3_0_2 (a0.f3.f0.f2) A0_3_0_3 c0_3_0_3 (a0.f3.f0.f3) (a0.f3.f0.f4.f0) (a0.f3.f0.f4.f1) (a0.f3.f1) true W g0_1 l0_1 g0_2_0_2 l0_2_0_2 g0_2_0_3 l0_2_0_3 g0_3_0_2 l0_3_0_2 g0_3_0_3 l0_3_0_3 hkk).mono fun e W' ⟨he, bel0⟩ => ?_
  have bel := bel0
  subst he
  exact ⟨_, rfl, _, _, _, [], _, [], hW', trodAll_mk1 (shut_bool Try.underlying4 _), (trodAll_cons_mk (Below.trod laidOut (by kernel_rfl) (of_decide_eq_true (by kernel_rfl)) t0 bel lt0) trodAll_mk0), rfl, bel.frame _, fun h => by cases h⟩
set_option maxRecDepth 100000 in
theorem lifted (os : Os) (started : os.Started) (H : Type) (enc : TypeId × Value → H) :
    ReturnsInHanded {} Try.checked os 5 .any (Rows.certMeetSpec.pre6 enc Try.prog Try.f5 Rows.certMeetRow.domain false) (Rows.certMeetSpec.post enc Try.prog Try.f5 false true false false) := by
  refine returnsInHanded_of_change_sized (C := Try.checked) own started (by kernel_rfl) Try.func5
    (ChangeSpec.witness6 (enc := enc) (C := Try.checked) false ⟨#[], #[.agg #[.int .i64 0, .slice none 0 0, .int .i64 0, .int .i64 0, .slice none 0 0, .slice none 0 0, .int .i64 0, .int .i64 0, .int .u64 0, .int .i64 0, .int .i64 0, .slice none 0 0, .slice none 0 0, .int .i64 0, .int .i64 0, .int .u64 0]], []⟩ 8 (by kernel_rfl) (by kernel_rfl) (by kernel_rfl) (by kernel_rfl)) ?_
  intro W base args ds gs before hval hW _ hsz _
  exact contract H enc W base args ds gs before hval hW hsz
theorem proved : Rows.CertMeetSaid :=
  OpenClaim.holds_of_wide 5 Try.f5 rfl rfl rfl rfl rfl rfl rfl ⟨rfl, rfl, rfl, rfl, rfl⟩ rfl rfl rfl rfl rfl (by kernel_rfl) Try.func5 (by kernel_rfl)
    (of_decide_eq_true (by kernel_rfl)) (by unfold Func.isWrapper; first | (rw [if_pos (by decide +kernel)]; kernel_rfl) | (rw [if_neg (by decide +kernel)]; exact ⟨rfl, rfl⟩))
    (fun os started H enc _ => lifted os started H enc)
#print axioms proved
end Go.Proofs.Ytlabjgcoopdbiaa.certMeet
namespace Go.Proofs.Ytlabjgcoopdbiaa
theorem certMeet_holds : Rows.CertMeetSaid := certMeet.proved
end Go.Proofs.Ytlabjgcoopdbiaa
