-- written by this session's rows.py: the readers of the parameters, and the pure statement, of the law BatchApart
import Derived.Test.YtijnodcbgadooaaPx0
import Derived.Test.YtijnodcbgadooaaRows
import Derived.Test.YtijnodcbgadooaaPxSelvedgelaw07BatchApart
import Derived.Test.YtijnodcbgadooaaPxWW10Fit
namespace Go.Proofs.Ytijnodcbgadooaa.Px
open Go.RowKit Go.Proofs.Ytijnodcbgadooaa.Px Go.Proofs.YtijnodcbgadooaaW.PrintWords Go.Proofs.YtijnodcbgadooaaW.PrintLast Go.Proofs.YtijnodcbgadooaaW.PrintMore
set_option linter.unusedVariables false
instance : Inhabited S43 := ⟨z43⟩
def rd43 : Rd S43 := rdStruct 43 (Kd.pair (rdInt 3 .i64).d (Kd.pair (rdInt 3 .i64).d (rdSlice 41 16 (rdString 9)).d)) (fun x : S43 => (x.f0, x.f1, x.f2)) (fun y => (rdInt 3 .i64).ok y.1 ∧ ((rdInt 3 .i64).ok y.2.1 ∧ ((rdSlice 41 16 (rdString 9)).ok y.2.2))) (fun y => (rdInt 3 .i64).wt y.1 ∧ ((rdInt 3 .i64).wt y.2.1 ∧ ((rdSlice 41 16 (rdString 9)).wt y.2.2))) (fun y => (rdInt 3 .i64).bk y.1 + ((rdInt 3 .i64).bk y.2.1 + ((rdSlice 41 16 (rdString 9)).bk y.2.2)))
theorem fit43 : Fits Try.prog rd43 :=
  fit_struct (fields_cons (o := 0) (o' := 1) (ok := fun (y : Int × (List ByteArray)) => (rdInt 3 .i64).ok y.1 ∧ ((rdSlice 41 16 (rdString 9)).ok y.2)) (wt := fun (y : Int × (List ByteArray)) => (rdInt 3 .i64).wt y.1 ∧ ((rdSlice 41 16 (rdString 9)).wt y.2)) (bk := fun (y : Int × (List ByteArray)) => (rdInt 3 .i64).bk y.1 + ((rdSlice 41 16 (rdString 9)).bk y.2)) (fit_int Try.underlying3) rfl rfl (by kernel_rfl) rfl (fields_cons (o := 1) (o' := 2) (ok := fun (y : (List ByteArray)) => (rdSlice 41 16 (rdString 9)).ok y) (wt := fun (y : (List ByteArray)) => (rdSlice 41 16 (rdString 9)).wt y) (bk := fun (y : (List ByteArray)) => (rdSlice 41 16 (rdString 9)).bk y) (fit_int Try.underlying3) rfl rfl (by kernel_rfl) rfl (fields_one (fit_slice (fit_string Try.underlying9) Try.underlying41 (by kernel_rfl) (by kernel_rfl)) rfl rfl (by kernel_rfl)))) Try.underlying43 (by kernel_rfl) (fun x : S43 => (x.f0, x.f1, x.f2)) (fun y => ⟨y.1, y.2.1, y.2.2⟩) (fun _ => rfl)
/-- the statement of BatchApart without Go: proved in YtijnodcbgadooaaPureBatchApart -/
def selvedgelaw07_BatchApart_PureS : Prop := ∀ (a0 : S43) (a1 : S43), rd43.ok a0 → rd43.ok a1 → rd43.wt a0 → rd43.wt a1 → ∃ k, selvedgelaw07_BatchApart.f k (a0.f0) (a0.f1) (a0.f2) (a1.f0) (a1.f1) (a1.f2) = some true
end Go.Proofs.Ytijnodcbgadooaa.Px
