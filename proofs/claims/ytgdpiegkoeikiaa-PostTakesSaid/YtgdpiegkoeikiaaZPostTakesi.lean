/- Part 35 of 35 of the proof of the law PostTakes: what is proved is the statement at the end of the last part; its conditions are those of the given row. -/
import Derived.Test.YtgdpiegkoeikiaaRows
import Derived.Deep.Slices
import Derived.ChangeArms
import Derived.SizedLaws
import Derived.WideOpen
import Derived.ProofKit
import Derived.OpenShut
import Derived.ShutString
import Derived.ChangeOld
import Derived.JoinedCond
import Derived.Carry
import Derived.WideShapes
import Derived.Test.YtgdpiegkoeikiaaZPostTakesh
namespace Go.Proofs.Ytgdpiegkoeikiaa.Px
open Go.RowKit Go.Proofs.YtgdpiegkoeikiaaW.PrintWords Go.Proofs.YtgdpiegkoeikiaaW.PrintLast Go.Proofs.YtgdpiegkoeikiaaW.PrintMore
attribute [local go_sem] zF zH zQ zR zy zz zG zI
set_option linter.unusedVariables false
set_option linter.unusedSimpArgs false
structure Rd (α : Type) where
 t : TypeId
 d : Kd α
 ok : α → Prop
 wt : α → Prop
 bk : α → Nat
structure zhS {α : Type} (P : Program) (r : Rd α) : Prop where
 out : ∀ {H : Type} {enc : TypeId × Value → H} {w : World} {fuel : Nat} {cs : List Value} {x : DataW H × List MemPlace},DataW.trod enc P w 0 (fun _ => true) true fuel r.t cs = some x →
  ∃ a,r.d.K w a cs ∧ r.ok a ∧ ((∀ n ∈ x.1.weights P r.t,n ≤ reachBytes) → r.wt a) ∧ r.bk a ≤ Rows.uptoBulk x.1
def zeW (t : TypeId) (k : IntKind) : Rd Int := ⟨t,Kd.int k,fun a => (Lit.int k a).wf = true,fun _ => True,fun _ => 1⟩
def zho (t : TypeId) : Rd Bool := ⟨t,Kd.bool,fun _ => True,fun _ => True,fun _ => 1⟩
def zcG (t : TypeId) : Rd ByteArray := ⟨t,Kd.string,fun a => a.size ≤ maxLen,fun a => a.size ≤ reachBytes,fun a => a.size + 1⟩
section
variable {P : Program}
theorem zhD {t : TypeId} {k : IntKind} (h : P.underlying t = some (.int k)) : zhS P (zeW t k) := by
 constructor
 intro H enc w fuel cs x hx
 obtain ⟨n,rfl,rfl,hw⟩ := DataW.trod_int h hx
 exact ⟨n,rfl,hw,fun _ => trivial,by simp [zeW,Rows.uptoBulk]⟩
theorem zgs {t : TypeId} (h : P.underlying t = some .string) : zhS P (zcG t) := by
 constructor
 intro H enc w fuel cs x hx
 obtain ⟨s,rfl,rfl,hs⟩ := DataW.trod_string h hx
 have e : s.data.toList.length = s.size := by rw [Array.length_toList];rfl
 refine ⟨s,rfl,hs,fun hn => ?_,by simp only [zcG,Rows.uptoBulk,e];exact Nat.le_refl _⟩
 have := hn s.data.toList.length (by simp [DataW.weights])
 rwa [e] at this
structure FieldsFit {β : Type} (P : Program) (fs : List Field) (o : Nat) (d : Kd β) (ok wt : β → Prop) (bk : β → Nat) : Prop where
 out : ∀ {H : Type} {enc : TypeId × Value → H} {w : World} {n : Nat} {cs : List Value} {xs : List (DataW H × List MemPlace)},xs.length = fs.length → cs.length = o + d.sz →
  (∀ (i : Nat) (f : Field),fs[i]? = some f → DataW.trod enc P w 0 (fun _ => true) true n f.type ((cs.drop f.offset).take (P.cellsOf f.type)) = xs[i]?) →
  ∃ b,d.K w b (cs.drop o) ∧ ok b ∧ ((∀ q ∈ DataW.weightsEach P (fs.map (·.type)) (xs.map (·.1)),q ≤ reachBytes) → wt b) ∧ bk b ≤ Rows.uptoBulkAll (xs.map (·.1))
end
theorem zgI {α H : Type} {P : Program} {r : Rd α} (hr : zhS P r) {enc : TypeId × Value → H} {w : World} {v : Value} {d : DataW H} {ps : List MemPlace} (h : DataW.Trod enc P w 0 (fun _ => true) true r.t v d ps) :
  ∃ a,r.d.K w a v.cells.toList ∧ r.ok a ∧ ((∀ n ∈ d.weights P r.t,n ≤ reachBytes) → r.wt a) ∧ r.bk a ≤ Rows.uptoBulk d := by
 obtain ⟨fuel,hf⟩ := h
 exact hr.out hf
end Go.Proofs.Ytgdpiegkoeikiaa.Px
namespace Go.Proofs.Ytgdpiegkoeikiaa.Px
open Go.RowKit Go.Proofs.Ytgdpiegkoeikiaa.Px Go.Proofs.YtgdpiegkoeikiaaW.PrintWords Go.Proofs.YtgdpiegkoeikiaaW.PrintLast Go.Proofs.YtgdpiegkoeikiaaW.PrintMore
set_option linter.unusedVariables false
def zct : Prop := ∀ (a0 : ByteArray) (a1 : Int),(zcG 9).ok a0 → (zeW 3 .i64).ok a1 → (zcG 9).wt a0 → (zeW 3 .i64).wt a1 → zaK.f a0 a1 = some true
end Go.Proofs.Ytgdpiegkoeikiaa.Px
namespace Go.Proofs.Ytgdpiegkoeikiaa.Pure
open Go.RowKit Go.Proofs.Ytgdpiegkoeikiaa.Px Go.Proofs.YtgdpiegkoeikiaaW.PrintWords Go.Proofs.YtgdpiegkoeikiaaW.PrintLast Go.Proofs.YtgdpiegkoeikiaaW.PrintMore
theorem PostTakes : zct := by
 rintro s n _ _ hs _
 have hs' : s.size ≤ 140737488351232 := hs
 exact if_pos (show s.size < 4611686018427387904 by omega)
end Go.Proofs.Ytgdpiegkoeikiaa.Pure
namespace Go.Proofs.Ytgdpiegkoeikiaa.postTakes
open Go.ChangeShapes Go.WideShapes Go.ChangeAt Go.RowKit
open Go.ChangeMaps (open_string shut_string)
open Go.RowKit Go.Proofs.Ytgdpiegkoeikiaa.Px Go.Proofs.YtgdpiegkoeikiaaW.PrintWords Go.Proofs.YtgdpiegkoeikiaaW.PrintLast Go.Proofs.YtgdpiegkoeikiaaW.PrintMore
set_option linter.unusedVariables false
theorem own : ownKnob Try.prog.godebug = none := by kernel_rfl
theorem laidOut : laidOutB Try.prog = true := by kernel_rfl
set_option maxRecDepth 100000 in
theorem contract (H : Type) (enc : TypeId × Value → H) (W : World) (base : Nat) (args : Array Value) (ds gs : List (DataW H)) (before : List MemPlace)
  (hval0 : ∀ (j : Nat) t v,Try.f3.params[j]? = some t → args[j]? = some v → Value.okWide Try.prog W .any base t v)
  (hW : DataW.Whole enc Try.prog Try.f3.params.toList Rows.postTakesSpec.vars false W args.toList ds gs before)
  (hsz0 : (DataW.weightsEach Try.prog (Try.f3.params.toList ++ Rows.postTakesSpec.plain.varTypes Try.prog) (ds ++ gs)).all (· ≤ reachBytes) = true) :
  Calls Try.prog 3 args W fun e W' => ∃ v,e = .returned v ∧ Rows.postTakesSpec.post enc Try.prog Try.f3 false true false false W args v W' := by
 have hval : ∀ (j : Nat) t v,Try.f3.params[j]? = some t → args[j]? = some v → Value.okWide Try.prog W .any base t v := hval0
 have hW' := hW
 obtain ⟨p,q,hA0,hV,rfl,hfz,hnd⟩ := hW
 have hA : DataW.TrodAll enc Try.prog W 0 (fun _ => true) true Try.f3.params.toList args.toList ds p := hA0
 have hsz := hsz0
 rw [Try.params3] at hA hval hsz
 obtain ⟨v0,vs0,d0,ds0,p0,q0,hargs,rfl,rfl,h0,r0⟩ := trodAll_cons hA
 obtain ⟨v1,vs1,d1,ds1,p1,q1,rfl,rfl,rfl,h1,r1⟩ := trodAll_cons r0
 obtain ⟨rfl,rfl,rfl⟩ := trodAll_nil r1
 obtain rfl : args = #[v0,v1] := by cases args;simp_all
 obtain ⟨rfl,rfl⟩ := trodVars_none hV
 have t0 := h0
 have lt0 : ∀ x ∈ p0,x.block < W.heap.size := by obtain ⟨m,hm⟩ := t0;exact DataW.trod_lt m _ _ _ hm
 have t1 := h1
 have lt1 : ∀ x ∈ p1,x.block < W.heap.size := by obtain ⟨m,hm⟩ := t1;exact DataW.trod_lt m _ _ _ hm
 obtain ⟨a0,K0,ok0,wt0,bk0⟩ := zgI (zgs Try.underlying9) h0
 have wq0 := wt0 (fun n hn => of_decide_eq_true (List.all_eq_true.1 hsz n (DataW.weights_mem_each (j := 0) (t := (zcG 9).t) (d := d0) rfl rfl n hn)))
 obtain ⟨a0',rfl,rfl,rfl,y0⟩ := open_string Try.underlying9 (hval 0 9 v0 rfl rfl) h0
 have e0 : a0' = a0 := by have := K0;simpa [zeW,zho,zcG,Kd.int,Kd.bool,Kd.string,Kd.scalar,Value.cells] using this
 subst e0
 obtain ⟨a1,K1,ok1,wt1,bk1⟩ := zgI (zhD Try.underlying3) h1
 have wq1 := wt1 (fun n hn => of_decide_eq_true (List.all_eq_true.1 hsz n (DataW.weights_mem_each (j := 1) (t := (zeW 3 .i64).t) (d := d1) rfl rfl n hn)))
 obtain ⟨a1',rfl,rfl,rfl,y1⟩ := open_int Try.underlying3 (hval 1 3 v1 rfl rfl) h1
 have e1 : a1' = a1 := by have := K1;simpa [zeW,zho,zcG,Kd.int,Kd.bool,Kd.string,Kd.scalar,Value.cells] using this
 subst e1
 have hkk := Pure.PostTakes a0' a1' ok0 ok1 wq0 wq1
 refine (zaK.calls a0' a1' true W  hkk).mono fun e W' ⟨he,bel0⟩ => ?_
 have bel := bel0
 subst he
 exact ⟨_,rfl,_,_,_,[],_,[],hW',trodAll_mk1 (shut_bool Try.underlying4 _),(trodAll_cons_mk (Below.trod laidOut (by kernel_rfl) (of_decide_eq_true (by kernel_rfl)) t0 bel lt0) (trodAll_cons_mk (Below.trod laidOut (by kernel_rfl) (of_decide_eq_true (by kernel_rfl)) t1 bel lt1) trodAll_mk0)),rfl,bel.frame _,fun h => by cases h⟩
set_option maxRecDepth 100000 in
theorem lifted (os : Os) (started : os.Started) (H : Type) (enc : TypeId × Value → H) :
  ReturnsInHanded {} Try.checked os 3 .any (Rows.postTakesSpec.pre6 enc Try.prog Try.f3 Rows.postTakesRow.domain false) (Rows.postTakesSpec.post enc Try.prog Try.f3 false true false false) := by
 refine returnsInHanded_of_change_sized (C := Try.checked) own started (by kernel_rfl) Try.func3
  (ChangeSpec.witness6 (enc := enc) (C := Try.checked) false ⟨#[],#[.string ByteArray.empty,.int .i64 0],[]⟩ 8 (by kernel_rfl) (by kernel_rfl) (by kernel_rfl) (by kernel_rfl)) ?_
 intro W base args ds gs before hval hW _ hsz _
 exact contract H enc W base args ds gs before hval hW hsz
theorem proved : Rows.PostTakesSaid :=
 OpenClaim.holds_of_wide 3 Try.f3 rfl rfl rfl rfl rfl rfl rfl ⟨rfl,rfl,rfl,rfl,rfl⟩ rfl rfl rfl rfl rfl (by kernel_rfl) Try.func3 (by kernel_rfl)
  (of_decide_eq_true (by kernel_rfl)) (by unfold Func.isWrapper;first | (rw [if_pos (by decide +kernel)];kernel_rfl) | (rw [if_neg (by decide +kernel)];exact ⟨rfl,rfl⟩))
  (fun os started H enc _ => lifted os started H enc)
#print axioms proved
end Go.Proofs.Ytgdpiegkoeikiaa.postTakes
namespace Go.Proofs.Ytgdpiegkoeikiaa
theorem postTakes_holds : Rows.PostTakesSaid := postTakes.proved
end Go.Proofs.Ytgdpiegkoeikiaa