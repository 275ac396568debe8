/- DigitsTexts as a statement on bytes: the program and the reference take the same text, rest and error from every bytes, at every bound. -/
import Derived.Test.YtijnodcbgadooaaPx0
import Derived.Test.YtijnodcbgadooaaPxSelvedgelaw01DigitsTexts
import Derived.Test.YtijnodcbgadooaaPxWW00Ev
import Derived.Test.YtijnodcbgadooaaPxWW04Shown01
import Derived.Test.YtijnodcbgadooaaPxWW05Taketext
namespace Go.Proofs.Ytijnodcbgadooaa.Pure
open Go.RowKit Go.Proofs.Ytijnodcbgadooaa.Px Go.Proofs.YtijnodcbgadooaaW.PrintWords Go.Proofs.YtijnodcbgadooaaW.PrintLast Go.Proofs.YtijnodcbgadooaaW.PrintMore

theorem DigitsTexts : selvedgelaw01_DigitsTexts.Pure := by
  intro a0 a1 hs hw
  refine Ev.rounds (Ev.bind shown01_ev (Ev.bind (takeText_ev a0 a1 (by omega) hw) (Ev.bind (refTakeText_ev a0 a1 (by omega) hw) ?_)))
  refine ev_pos rfl (ev_pos rfl (ev_pos rfl ?_))
  exact ev_eq (Ev.now _) (by simp)

end Go.Proofs.Ytijnodcbgadooaa.Pure
