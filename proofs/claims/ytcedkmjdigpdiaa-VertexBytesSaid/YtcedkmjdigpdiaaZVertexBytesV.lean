/- Part 22 of 22 of the proof of the law VertexBytes: what is proved is the statement at the end of the last part; its conditions are those of the given row. -/
import Derived.ProofKit
import Derived.OpenShut
import Derived.ShutString
import Derived.ChangeOld
import Derived.JoinedCond
import Derived.Carry
import Derived.WideShapes
import Derived.Test.YtcedkmjdigpdiaaZVertexBytesU
namespace Go.Proofs.Ytcedkmjdigpdiaa.Pure
open Go.RowKit Go.Proofs.Ytcedkmjdigpdiaa.Px Go.Proofs.YtcedkmjdigpdiaaW.PrintWords Go.Proofs.YtcedkmjdigpdiaaW.PrintLast Go.Proofs.YtcedkmjdigpdiaaW.PrintMore
theorem VertexBytes : zbv := by
  rintro ⟨a, r, bs, ps, x⟩ n _ _ ⟨_, _, ⟨b1, b2⟩, ⟨p1, p2⟩, _⟩ _
  have b1' : bs.length * 40 ≤ 140737488351232 := b1
  have p1' : ps.length * 16 ≤ 140737488351232 := p1
  have hb : bs.length < 4611686018427387904 := by omega
  have hl : ps.length < 4611686018427387904 := by omega
  have hbs : ∀ b ∈ bs, b.f2.length < 4611686018427387904 := fun b hb => by
    obtain ⟨_, _, l1, _⟩ := b2 b hb
    have l1' : b.f2.length * 16 ≤ 140737488351232 := l1
    omega
  have hp : ∀ t ∈ ps, t.size < 4611686018427387904 := fun t ht => by
    have t1 : t.size ≤ 140737488351232 := p2 t ht
    omega
  refine Ev.rounds (zap zfB (zap (zbH ..) (Ev.bind (zbX _ _ _ _ _ _ _ hb hbs hl hp) (zap (zdi ..) (Ev.bind (zcX _ _ _ _ _ _ _ hb hbs hl hp) ?_)))))
  refine zT rfl (zT rfl (zT rfl (zT rfl (zT rfl (zap (show zX.f a r bs ps x.f0 x.f1 n = some (zaR a r bs ps x.f0 x.f1 n) from rfl) (Ev.bind (zd2 _ _ _ _ _ _ _ hb hbs hl hp) (zaw (Ev.now _) ?_)))))))
  simp
end Go.Proofs.Ytcedkmjdigpdiaa.Pure

namespace Go.Proofs.Ytcedkmjdigpdiaa.vertexBytes
open Go.ChangeShapes Go.WideShapes Go.ChangeAt Go.RowKit
open Go.ChangeMaps (open_string shut_string)
open Go.RowKit Go.Proofs.Ytcedkmjdigpdiaa.Px Go.Proofs.YtcedkmjdigpdiaaW.PrintWords Go.Proofs.YtcedkmjdigpdiaaW.PrintLast Go.Proofs.YtcedkmjdigpdiaaW.PrintMore
set_option linter.unusedVariables false
theorem own : ownKnob Try.prog.godebug = none := by kernel_rfl
theorem laidOut : laidOutB Try.prog = true := by kernel_rfl
set_option maxRecDepth 100000 in
theorem contract (H : Type) (enc : TypeId × Value → H) (W : World) (base : Nat) (args : Array Value) (ds gs : List (DataW H)) (before : List MemPlace)
    (hval0 : ∀ (j : Nat) t v, Try.f5.params[j]? = some t → args[j]? = some v → Value.okWide Try.prog W .any base t v)
    (hW : DataW.Whole enc Try.prog Try.f5.params.toList Rows.vertexBytesSpec.vars false W args.toList ds gs before)
    (hsz0 : (DataW.weightsEach Try.prog (Try.f5.params.toList ++ Rows.vertexBytesSpec.plain.varTypes Try.prog) (ds ++ gs)).all (· ≤ reachBytes) = true) :
    Calls Try.prog 5 args W fun e W' => ∃ v, e = .returned v ∧ Rows.vertexBytesSpec.post enc Try.prog Try.f5 false true false false W args v W' := by
  have hval : ∀ (j : Nat) t v, Try.f5.params[j]? = some t → args[j]? = some v → Value.okWide Try.prog W .any base t v := hval0
  have hW' := hW
  obtain ⟨p, q, hA0, hV, rfl, hfz, hnd⟩ := hW
  have hA : DataW.TrodAll enc Try.prog W 0 (fun _ => true) true Try.f5.params.toList args.toList ds p := hA0
  have hsz := hsz0
  rw [Try.params5] at hA hval hsz
  obtain ⟨v0, vs0, d0, ds0, p0, q0, hargs, rfl, rfl, h0, r0⟩ := trodAll_cons hA
  obtain ⟨v1, vs1, d1, ds1, p1, q1, rfl, rfl, rfl, h1, r1⟩ := trodAll_cons r0
  obtain ⟨rfl, rfl, rfl⟩ := trodAll_nil r1
  obtain rfl : args = #[v0, v1] := by cases args; simp_all
  obtain ⟨rfl, rfl⟩ := trodVars_none hV
  have t0 := h0
  have lt0 : ∀ x ∈ p0, x.block < W.heap.size := by obtain ⟨m, hm⟩ := t0; exact DataW.trod_lt m _ _ _ hm
  have t1 := h1
  have lt1 : ∀ x ∈ p1, x.block < W.heap.size := by obtain ⟨m, hm⟩ := t1; exact DataW.trod_lt m _ _ _ hm
  obtain ⟨a0, K0, ok0, wt0, bk0⟩ := zfG zhA h0
  have wq0 := wt0 (fun n hn => of_decide_eq_true (List.all_eq_true.1 hsz n (DataW.weights_mem_each (j := 0) (t := zgQ.t) (d := d0) rfl rfl n hn)))
  obtain ⟨cs0, rfl, sz0⟩ := okWide_struct Try.underlying37 (hval 0 37 v0 rfl rfl)
  obtain ⟨A0_2, c0_2, A0_3, c0_3, e0, l0_2, g0_2, l0_3, g0_3⟩ := zgj (show k37.K W a0 _ from K0)
  obtain rfl : cs0 = #[.int .i64 a0.f0, .int .i64 a0.f1, .slice A0_2 a0.f2.length c0_2, .slice A0_3 a0.f3.length c0_3, .int .i64 a0.f4.f0, .int .i64 a0.f4.f1] := by have := congrArg List.toArray e0; simpa [Value.cells] using this
  obtain ⟨a1, K1, ok1, wt1, bk1⟩ := zfG (zcf Try.underlying3) h1
  have wq1 := wt1 (fun n hn => of_decide_eq_true (List.all_eq_true.1 hsz n (DataW.weights_mem_each (j := 1) (t := (zaD 3 .i64).t) (d := d1) rfl rfl n hn)))
  obtain ⟨a1', rfl, rfl, rfl, y1⟩ := open_int Try.underlying3 (hval 1 3 v1 rfl rfl) h1
  have e1 : a1' = a1 := by have := K1; simpa [zaD, zhf, zan, Kd.int, Kd.bool, Kd.string, Kd.scalar, Value.cells] using this
  subst e1
  obtain ⟨kk, hkk⟩ := Pure.VertexBytes a0 a1' ok0 ok1 wq0 wq1
  refine (zy.calls kk (a0.f0) (a0.f1) A0_2 c0_2 (a0.f2) A0_3 c0_3 (a0.f3) (a0.f4.f0) (a0.f4.f1) a1' true W g0_2 l0_2 g0_3 l0_3 hkk).mono fun e W' ⟨he, bel0⟩ => ?_
  have bel := bel0
  subst he
  exact ⟨_, rfl, _, _, _, [], _, [], hW', trodAll_mk1 (shut_bool Try.underlying4 _), (trodAll_cons_mk (Below.trod laidOut (by kernel_rfl) (of_decide_eq_true (by kernel_rfl)) t0 bel lt0) (trodAll_cons_mk (Below.trod laidOut (by kernel_rfl) (of_decide_eq_true (by kernel_rfl)) t1 bel lt1) trodAll_mk0)), rfl, bel.frame _, fun h => by cases h⟩
set_option maxRecDepth 100000 in
theorem lifted (os : Os) (started : os.Started) (H : Type) (enc : TypeId × Value → H) :
    ReturnsInHanded {} Try.checked os 5 .any (Rows.vertexBytesSpec.pre6 enc Try.prog Try.f5 Rows.vertexBytesRow.domain false) (Rows.vertexBytesSpec.post enc Try.prog Try.f5 false true false false) := by
  refine returnsInHanded_of_change_sized (C := Try.checked) own started (by kernel_rfl) Try.func5
    (ChangeSpec.witness6 (enc := enc) (C := Try.checked) false ⟨#[], #[.agg #[.int .i64 0, .int .i64 0, .slice none 0 0, .slice none 0 0, .int .i64 0, .int .i64 0], .int .i64 0], []⟩ 8 (by kernel_rfl) (by kernel_rfl) (by kernel_rfl) (by kernel_rfl)) ?_
  intro W base args ds gs before hval hW _ hsz _
  exact contract H enc W base args ds gs before hval hW hsz
theorem proved : Rows.VertexBytesSaid :=
  OpenClaim.holds_of_wide 5 Try.f5 rfl rfl rfl rfl rfl rfl rfl ⟨rfl, rfl, rfl, rfl, rfl⟩ rfl rfl rfl rfl rfl (by kernel_rfl) Try.func5 (by kernel_rfl)
    (of_decide_eq_true (by kernel_rfl)) (by unfold Func.isWrapper; first | (rw [if_pos (by decide +kernel)]; kernel_rfl) | (rw [if_neg (by decide +kernel)]; exact ⟨rfl, rfl⟩))
    (fun os started H enc _ => lifted os started H enc)
#print axioms proved
end Go.Proofs.Ytcedkmjdigpdiaa.vertexBytes
namespace Go.Proofs.Ytcedkmjdigpdiaa
theorem vertexBytes_holds : Rows.VertexBytesSaid := vertexBytes.proved
end Go.Proofs.Ytcedkmjdigpdiaa
