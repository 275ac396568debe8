/- part 28 of the proof of the law PostWrites: texts merged by this session's bundle.py. What is proved: the statement at the end of the last of these texts; its conditions are those of the given row. -/
import Derived.WalkKit
import Derived.ProofKit
import Derived.OpenShut
import Derived.ShutString
import Derived.ChangeOld
import Derived.Below
import Derived.SizedLaws
import Derived.JoinedCond
import Derived.Carry
import Derived.WideShapes
import Derived.Test.YtnkeecogengfhaaZPostWritesD
import Derived.Test.YtnkeecogengfhaaZPostWritesE
import Derived.Test.YtnkeecogengfhaaZPostWritesa
namespace Go.Proofs.Ytnkeecogengfhaa.Pure
open Go.RowKit Go.Proofs.Ytnkeecogengfhaa.Px Go.Proofs.YtnkeecogengfhaaW.PrintWords Go.Proofs.YtnkeecogengfhaaW.PrintLast Go.Proofs.YtnkeecogengfhaaW.PrintMore
theorem PostWrites : selvedgelaw18_PostWrites_PureS := by
  rintro ⟨⟨a, r, bs, ps, x, y⟩, s, ⟨sa, sr, sv, d⟩, n⟩ ⟨_, hs, _, _⟩ ⟨⟨_, _, ⟨b1, b2⟩, ⟨p1, p2⟩, _⟩, _, ⟨_, _, _, hd⟩, _⟩
  obtain ⟨s0, s1⟩ := u64_wf hs
  have b1' : bs.length * 40 ≤ 140737488351232 := b1
  have p1' : ps.length * 16 ≤ 140737488351232 := p1
  refine if_pos ⟨s0, s1, show bs.length < 4611686018427387904 by omega, fun b hb => ?_, show ps.length < 4611686018427387904 by omega, fun t ht => ?_, hd⟩
  · obtain ⟨_, _, l1, _⟩ := b2 b hb
    have l1' : b.f2.length * 16 ≤ 140737488351232 := l1
    omega
  · have t1 : t.size ≤ 140737488351232 := p2 t ht
    omega
end Go.Proofs.Ytnkeecogengfhaa.Pure

namespace Go.Proofs.Ytnkeecogengfhaa.postWrites
open Go.ChangeShapes Go.WideShapes Go.ChangeAt Go.RowKit
open Go.ChangeMaps (open_string shut_string)
open Go.RowKit Go.Proofs.Ytnkeecogengfhaa.Px Go.Proofs.YtnkeecogengfhaaW.PrintWords Go.Proofs.YtnkeecogengfhaaW.PrintLast Go.Proofs.YtnkeecogengfhaaW.PrintMore
set_option linter.unusedVariables false
theorem own : ownKnob Try.prog.godebug = none := by kernel_rfl
theorem laidOut : laidOutB Try.prog = true := by kernel_rfl
set_option maxRecDepth 100000 in
theorem contract (H : Type) (enc : TypeId × Value → H) (W : World) (base : Nat) (args : Array Value) (ds gs : List (DataW H)) (before : List MemPlace)
    (hval0 : ∀ (j : Nat) t v, Try.f3.params[j]? = some t → args[j]? = some v → Value.okWide Try.prog W .any base t v)
    (hW : DataW.Whole enc Try.prog Try.f3.params.toList Rows.postWritesSpec.vars false W args.toList ds gs before)
    (hsz0 : (DataW.weightsEach Try.prog (Try.f3.params.toList ++ Rows.postWritesSpec.plain.varTypes Try.prog) (ds ++ gs)).all (· ≤ reachBytes) = true) :
    Calls Try.prog 3 args W fun e W' => ∃ v, e = .returned v ∧ Rows.postWritesSpec.post enc Try.prog Try.f3 false true false false W args v W' := by
  have hval : ∀ (j : Nat) t v, Try.f3.params[j]? = some t → args[j]? = some v → Value.okWide Try.prog W .any base t v := hval0
  have hW' := hW
  obtain ⟨p, q, hA0, hV, rfl, hfz, hnd⟩ := hW
  have hA : DataW.TrodAll enc Try.prog W 0 (fun _ => true) true Try.f3.params.toList args.toList ds p := hA0
  have hsz := hsz0
  rw [Try.params3] at hA hval hsz
  obtain ⟨v0, vs0, d0, ds0, p0, q0, hargs, rfl, rfl, h0, r0⟩ := trodAll_cons hA
  obtain ⟨rfl, rfl, rfl⟩ := trodAll_nil r0
  obtain rfl : args = #[v0] := by cases args; simp_all
  obtain ⟨rfl, rfl⟩ := trodVars_none hV
  have t0 := h0
  have lt0 : ∀ x ∈ p0, x.block < W.heap.size := by obtain ⟨m, hm⟩ := t0; exact DataW.trod_lt m _ _ _ hm
  obtain ⟨a0, K0, ok0, wt0, bk0⟩ := fit_arg fit32 h0
  have wq0 := wt0 (fun n hn => of_decide_eq_true (List.all_eq_true.1 hsz n (DataW.weights_mem_each (j := 0) (t := rd32.t) (d := d0) rfl rfl n hn)))
  obtain ⟨cs0, rfl, sz0⟩ := okWide_struct Try.underlying32 (hval 0 32 v0 rfl rfl)
  obtain ⟨A0_0_2, c0_0_2, A0_0_3, c0_0_3, e0, l0_0_2, g0_0_2, l0_0_3, g0_0_3⟩ := k32_open (show k32.K W a0 _ from K0)
  obtain rfl : cs0 = #[.int .i64 a0.f0.f0, .int .i64 a0.f0.f1, .slice A0_0_2 a0.f0.f2.length c0_0_2, .slice A0_0_3 a0.f0.f3.length c0_0_3, .int .i64 a0.f0.f4.f0, .int .i64 a0.f0.f4.f1, .int .u64 a0.f1, .int .i64 a0.f2.f0, .int .i64 a0.f2.f1, .int .i64 a0.f2.f2, .string a0.f2.f3, .int .i64 a0.f3] := by have := congrArg List.toArray e0; simpa [Value.cells] using this
  have hkk := Pure.PostWrites a0 ok0 wq0
  refine (selvedgelaw18_PostWrites.calls (a0.f0.f0) (a0.f0.f1) A0_0_2 c0_0_2 (a0.f0.f2) A0_0_3 c0_0_3 (a0.f0.f3) (a0.f0.f4.f0) (a0.f0.f4.f1) (a0.f1) (a0.f2.f0) (a0.f2.f1) (a0.f2.f2) (a0.f2.f3) (a0.f3) true W g0_0_2 l0_0_2 g0_0_3 l0_0_3 hkk).mono fun e W' ⟨he, bel0⟩ => ?_
  have bel := bel0
  subst he
  exact ⟨_, rfl, _, _, _, [], _, [], hW', trodAll_mk1 (shut_bool Try.underlying4 _), (trodAll_cons_mk (Below.trod laidOut (by kernel_rfl) (of_decide_eq_true (by kernel_rfl)) t0 bel lt0) trodAll_mk0), rfl, bel.frame _, fun h => by cases h⟩
set_option maxRecDepth 100000 in
theorem lifted (os : Os) (started : os.Started) (H : Type) (enc : TypeId × Value → H) :
    ReturnsInHanded {} Try.checked os 3 .any (Rows.postWritesSpec.pre6 enc Try.prog Try.f3 Rows.postWritesRow.domain false) (Rows.postWritesSpec.post enc Try.prog Try.f3 false true false false) := by
  refine returnsInHanded_of_change_sized (C := Try.checked) own started (by kernel_rfl) Try.func3
    (ChangeSpec.witness6 (enc := enc) (C := Try.checked) false ⟨#[], #[.agg #[.int .i64 0, .int .i64 0, .slice none 0 0, .slice none 0 0, .int .i64 0, .int .i64 0, .int .u64 0, .int .i64 0, .int .i64 0, .int .i64 0, .string ByteArray.empty, .int .i64 0]], []⟩ 8 (by kernel_rfl) (by kernel_rfl) (by kernel_rfl) (by kernel_rfl)) ?_
  intro W base args ds gs before hval hW _ hsz _
  exact contract H enc W base args ds gs before hval hW hsz
theorem proved : Rows.PostWritesSaid :=
  OpenClaim.holds_of_wide 3 Try.f3 rfl rfl rfl rfl rfl rfl rfl ⟨rfl, rfl, rfl, rfl, rfl⟩ rfl rfl rfl rfl rfl (by kernel_rfl) Try.func3 (by kernel_rfl)
    (of_decide_eq_true (by kernel_rfl)) (by unfold Func.isWrapper; first | (rw [if_pos (by decide +kernel)]; kernel_rfl) | (rw [if_neg (by decide +kernel)]; exact ⟨rfl, rfl⟩))
    (fun os started H enc _ => lifted os started H enc)
#print axioms proved
end Go.Proofs.Ytnkeecogengfhaa.postWrites
namespace Go.Proofs.Ytnkeecogengfhaa
theorem postWrites_holds : Rows.PostWritesSaid := postWrites.proved
end Go.Proofs.Ytnkeecogengfhaa
