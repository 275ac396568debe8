/- BatchApart as a statement without Go: two batches that may be have the same bytes just if they are the same; for every two batches. -/
import Derived.Test.YtijnodcbgadooaaRdBatchApart
import Derived.Test.YtijnodcbgadooaaPx0
import Derived.Test.YtijnodcbgadooaaPxBatchMay
import Derived.Test.YtijnodcbgadooaaPxWW00Ev
import Derived.Test.YtijnodcbgadooaaPxWW01Be
import Derived.Test.YtijnodcbgadooaaPxWW13Batch
namespace Go.Proofs.Ytijnodcbgadooaa.Pure
open Go.RowKit Go.Proofs.Ytijnodcbgadooaa.Px Go.Proofs.YtijnodcbgadooaaW.PrintWords Go.Proofs.YtijnodcbgadooaaW.PrintLast Go.Proofs.YtijnodcbgadooaaW.PrintMore

theorem BatchApart : selvedgelaw07_BatchApart_PureS := by
  rintro a0 a1 _ _ ⟨_, _, k1, _⟩ _
  have hl : a0.f2.length < 4611686018427387904 := by
    have : a0.f2.length * 16 ≤ 140737488351232 := k1
    omega
  refine Ev.rounds (ev_bind_const shown07_of (ev_bind_const (batch_Bytes_of _ _ _) (ev_bind_const (batch_Bytes_of _ _ _) ?_)))
  by_cases h : mayB a0.f0 a0.f1 a0.f2 = true
  · rw [if_pos h]
    refine ev_pos rfl ?_
    by_cases h' : mayB a1.f0 a1.f1 a1.f2 = true
    · rw [if_pos h']
      refine ev_pos rfl (Ev.bind (refBatchSame_ev _ _ _ _ _ _ hl) (ev_pos rfl (ev_eq (Ev.now _) ?_)))
      rw [beq_toList, batchEq]
      by_cases e : toB (batchL a0.f0 a0.f1 a0.f2) = toB (batchL a1.f0 a1.f1 a1.f2)
      · have e' := toB_inj e
        obtain ⟨e1, e2, e3, _⟩ := batchL_cancel h h' (r := []) (t := []) (by rw [e'])
        simp [e1, e2, e3]
      · have : ¬ (a0.f0 = a1.f0 ∧ a0.f1 = a1.f1 ∧ a0.f2 = a1.f2) := fun ⟨e1, e2, e3⟩ => e (by rw [e1, e2, e3])
        rw [decide_eq_false e, decide_eq_false this]; rfl
    · rw [if_neg h']
      exact ev_neg (by simp) (Ev.now _)
  · rw [if_neg h]
    exact ev_neg (by simp) (Ev.now _)

end Go.Proofs.Ytijnodcbgadooaa.Pure
