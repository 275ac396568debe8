/- DigitsTakes as a statement on bytes: the program and the reference take the same number, rest and error from every bytes. -/
import Derived.Test.YtijnodcbgadooaaPx0
import Derived.Test.YtijnodcbgadooaaPxSelvedgelaw01DigitsTakes
import Derived.Test.YtijnodcbgadooaaPxWW00Ev
import Derived.Test.YtijnodcbgadooaaPxWW03Takenum
import Derived.Test.YtijnodcbgadooaaPxWW04Shown01
namespace Go.Proofs.Ytijnodcbgadooaa.Pure
open Go.RowKit Go.Proofs.Ytijnodcbgadooaa.Px Go.Proofs.YtijnodcbgadooaaW.PrintWords Go.Proofs.YtijnodcbgadooaaW.PrintLast Go.Proofs.YtijnodcbgadooaaW.PrintMore

theorem DigitsTakes : selvedgelaw01_DigitsTakes.Pure := by
  intro a0 hs
  refine Ev.rounds (Ev.bind shown01_ev (Ev.bind (takeNum_ev a0 (by omega)) (Ev.bind (refTakeNum_ev a0 (by omega)) ?_)))
  refine ev_pos rfl (ev_pos rfl (ev_pos rfl ?_))
  exact ev_eq (Ev.now _) (by simp)

end Go.Proofs.Ytijnodcbgadooaa.Pure
