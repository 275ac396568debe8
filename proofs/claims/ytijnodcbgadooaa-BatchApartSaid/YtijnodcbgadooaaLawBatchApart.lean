-- written by this session's rows.py: the row of the law BatchApart
import Derived.Test.YtijnodcbgadooaaRdBatchApart
import Derived.Test.YtijnodcbgadooaaPureBatchApart
import Derived.Test.YtijnodcbgadooaaPxSelvedgelaw07BatchApart
import Derived.WalkKit
import Derived.ProofKit
import Derived.OpenShut
import Derived.ShutString
import Derived.ChangeOld
import Derived.Below
import Derived.SizedLaws
import Derived.JoinedCond
import Derived.Carry
import Derived.WideShapes
namespace Go.Proofs.Ytijnodcbgadooaa.batchApart
open Go.ChangeShapes Go.WideShapes Go.ChangeAt Go.RowKit
open Go.ChangeMaps (open_string shut_string)
open Go.RowKit Go.Proofs.Ytijnodcbgadooaa.Px Go.Proofs.YtijnodcbgadooaaW.PrintWords Go.Proofs.YtijnodcbgadooaaW.PrintLast Go.Proofs.YtijnodcbgadooaaW.PrintMore
set_option linter.unusedVariables false
theorem own : ownKnob Try.prog.godebug = none := by kernel_rfl
theorem laidOut : laidOutB Try.prog = true := by kernel_rfl
set_option maxRecDepth 100000 in
/-- what the walk gives, for every argument of the row -/
theorem contract (H : Type) (enc : TypeId × Value → H) (W : World) (base : Nat) (args : Array Value) (ds gs : List (DataW H)) (before : List MemPlace)
    (hval0 : ∀ (j : Nat) t v, Try.f8.params[j]? = some t → args[j]? = some v → Value.okWide Try.prog W .any base t v)
    (hW : DataW.Whole enc Try.prog Try.f8.params.toList Rows.batchApartSpec.vars false W args.toList ds gs before)
    (hsz0 : (DataW.weightsEach Try.prog (Try.f8.params.toList ++ Rows.batchApartSpec.plain.varTypes Try.prog) (ds ++ gs)).all (· ≤ reachBytes) = true) :
    Calls Try.prog 8 args W fun e W' => ∃ v, e = .returned v ∧ Rows.batchApartSpec.post enc Try.prog Try.f8 false true false false W args v W' := by
  have hval : ∀ (j : Nat) t v, Try.f8.params[j]? = some t → args[j]? = some v → Value.okWide Try.prog W .any base t v := hval0
  have hW' := hW
  obtain ⟨p, q, hA0, hV, rfl, hfz, hnd⟩ := hW
  have hA : DataW.TrodAll enc Try.prog W 0 (fun _ => true) true Try.f8.params.toList args.toList ds p := hA0
  have hsz := hsz0
  rw [Try.params8] at hA hval hsz
  obtain ⟨v0, vs0, d0, ds0, p0, q0, hargs, rfl, rfl, h0, r0⟩ := trodAll_cons hA
  obtain ⟨v1, vs1, d1, ds1, p1, q1, rfl, rfl, rfl, h1, r1⟩ := trodAll_cons r0
  obtain ⟨rfl, rfl, rfl⟩ := trodAll_nil r1
  obtain rfl : args = #[v0, v1] := by cases args; simp_all
  obtain ⟨rfl, rfl⟩ := trodVars_none hV
  have t0 := h0
  have lt0 : ∀ x ∈ p0, x.block < W.heap.size := by obtain ⟨m, hm⟩ := t0; exact DataW.trod_lt m _ _ _ hm
  have t1 := h1
  have lt1 : ∀ x ∈ p1, x.block < W.heap.size := by obtain ⟨m, hm⟩ := t1; exact DataW.trod_lt m _ _ _ hm
  obtain ⟨a0, K0, ok0, wt0, bk0⟩ := fit_arg fit43 h0
  have wq0 := wt0 (fun n hn => of_decide_eq_true (List.all_eq_true.1 hsz n (DataW.weights_mem_each (j := 0) (t := rd43.t) (d := d0) rfl rfl n hn)))
  obtain ⟨cs0, rfl, sz0⟩ := okWide_struct Try.underlying43 (hval 0 43 v0 rfl rfl)
  obtain ⟨A0_2, c0_2, e0, l0_2, g0_2⟩ := k43_open (show k43.K W a0 _ from K0)
  obtain rfl : cs0 = #[.int .i64 a0.f0, .int .i64 a0.f1, .slice A0_2 a0.f2.length c0_2] := by have := congrArg List.toArray e0; simpa [Value.cells] using this
  obtain ⟨a1, K1, ok1, wt1, bk1⟩ := fit_arg fit43 h1
  have wq1 := wt1 (fun n hn => of_decide_eq_true (List.all_eq_true.1 hsz n (DataW.weights_mem_each (j := 1) (t := rd43.t) (d := d1) rfl rfl n hn)))
  obtain ⟨cs1, rfl, sz1⟩ := okWide_struct Try.underlying43 (hval 1 43 v1 rfl rfl)
  obtain ⟨A1_2, c1_2, e1, l1_2, g1_2⟩ := k43_open (show k43.K W a1 _ from K1)
  obtain rfl : cs1 = #[.int .i64 a1.f0, .int .i64 a1.f1, .slice A1_2 a1.f2.length c1_2] := by have := congrArg List.toArray e1; simpa [Value.cells] using this
  obtain ⟨kk, hkk⟩ := Pure.BatchApart a0 a1 ok0 ok1 wq0 wq1
  refine (selvedgelaw07_BatchApart.calls kk (a0.f0) (a0.f1) A0_2 c0_2 (a0.f2) (a1.f0) (a1.f1) A1_2 c1_2 (a1.f2) true W g0_2 l0_2 g1_2 l1_2 hkk).mono fun e W' ⟨he, bel0⟩ => ?_
  have bel := bel0
  subst he
  exact ⟨_, rfl, _, _, _, [], _, [], hW', trodAll_mk1 (shut_bool Try.underlying4 _), (trodAll_cons_mk (Below.trod laidOut (by kernel_rfl) (of_decide_eq_true (by kernel_rfl)) t0 bel lt0) (trodAll_cons_mk (Below.trod laidOut (by kernel_rfl) (of_decide_eq_true (by kernel_rfl)) t1 bel lt1) trodAll_mk0)), rfl, bel.frame _, fun h => by cases h⟩
set_option maxRecDepth 100000 in
theorem lifted (os : Os) (started : os.Started) (H : Type) (enc : TypeId × Value → H) :
    ReturnsInHanded {} Try.checked os 8 .any (Rows.batchApartSpec.pre6 enc Try.prog Try.f8 Rows.batchApartRow.domain false) (Rows.batchApartSpec.post enc Try.prog Try.f8 false true false false) := by
  refine returnsInHanded_of_change_sized (C := Try.checked) own started (by kernel_rfl) Try.func8
    (ChangeSpec.witness6 (enc := enc) (C := Try.checked) false ⟨#[], #[.agg #[.int .i64 0, .int .i64 0, .slice none 0 0], .agg #[.int .i64 0, .int .i64 0, .slice none 0 0]], []⟩ 8 (by kernel_rfl) (by kernel_rfl) (by kernel_rfl) (by kernel_rfl)) ?_
  intro W base args ds gs before hval hW _ hsz _
  exact contract H enc W base args ds gs before hval hW hsz
theorem proved : Rows.BatchApartSaid :=
  OpenClaim.holds_of_wide 8 Try.f8 rfl rfl rfl rfl rfl rfl rfl ⟨rfl, rfl, rfl, rfl, rfl⟩ rfl rfl rfl rfl rfl (by kernel_rfl) Try.func8 (by kernel_rfl)
    (of_decide_eq_true (by kernel_rfl)) (by unfold Func.isWrapper; first | (rw [if_pos (by decide +kernel)]; kernel_rfl) | (rw [if_neg (by decide +kernel)]; exact ⟨rfl, rfl⟩))
    (fun os started H enc _ => lifted os started H enc)
#print axioms proved
end Go.Proofs.Ytijnodcbgadooaa.batchApart
namespace Go.Proofs.Ytijnodcbgadooaa
/-- The row, under a short name, for the claim. -/
theorem batchApart_holds : Rows.BatchApartSaid := batchApart.proved
end Go.Proofs.Ytijnodcbgadooaa
