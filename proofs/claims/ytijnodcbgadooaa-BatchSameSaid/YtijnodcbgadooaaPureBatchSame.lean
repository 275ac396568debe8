/- BatchSame as a statement without Go: the program and the reference tell of two batches the same, and a batch is the same as itself; for every two batches. -/
import Derived.Test.YtijnodcbgadooaaRdBatchSame
import Derived.Test.YtijnodcbgadooaaPx0
import Derived.Test.YtijnodcbgadooaaPxWW00Ev
import Derived.Test.YtijnodcbgadooaaPxWW13Batch
namespace Go.Proofs.Ytijnodcbgadooaa.Pure
open Go.RowKit Go.Proofs.Ytijnodcbgadooaa.Px Go.Proofs.YtijnodcbgadooaaW.PrintWords Go.Proofs.YtijnodcbgadooaaW.PrintLast Go.Proofs.YtijnodcbgadooaaW.PrintMore

theorem BatchSame : selvedgelaw07_BatchSame_PureS := by
  rintro a0 a1 _ _ ⟨_, _, k1, _⟩ _
  have hl : a0.f2.length < 4611686018427387904 := by
    have : a0.f2.length * 16 ≤ 140737488351232 := k1
    omega
  refine Ev.rounds (ev_bind_const shown07_of (ev_pos rfl ?_))
  refine Ev.bind (batchSame_ev _ _ _ _ _ _ hl) (Ev.bind (refBatchSame_ev _ _ _ _ _ _ hl) (ev_pos (by simp) ?_))
  exact Ev.bind (batchSame_ev _ _ _ _ _ _ hl) (ev_eq (Ev.now _) (by simp [batchEq]))

end Go.Proofs.Ytijnodcbgadooaa.Pure
