/- DigitsNums as a statement on numbers and bytes: the program's and the reference's bytes of a number, and of a text, are the same; for every u64 and every text. -/
import Derived.Test.YtijnodcbgadooaaPx0
import Derived.Test.YtijnodcbgadooaaPxSelvedgelaw01DigitsNums
import Derived.Test.YtijnodcbgadooaaPxWW00Ev
import Derived.Test.YtijnodcbgadooaaPxWW02Refnum
import Derived.Test.YtijnodcbgadooaaPxWW03Takenum
import Derived.Test.YtijnodcbgadooaaPxWW04Shown01
namespace Go.Proofs.Ytijnodcbgadooaa.Pure
open Go.RowKit Go.Proofs.Ytijnodcbgadooaa.Px Go.Proofs.YtijnodcbgadooaaW.PrintWords Go.Proofs.YtijnodcbgadooaaW.PrintLast Go.Proofs.YtijnodcbgadooaaW.PrintMore

theorem DigitsNums : selvedgelaw01_DigitsNums.Pure := by
  intro a0 a1 hw hs
  obtain ⟨h0, h1⟩ := u64_wf hw
  obtain ⟨v, rfl⟩ := Int.eq_ofNat_of_zero_le h0
  refine Ev.rounds (Ev.bind shown01_ev (ev_pos rfl ?_))
  refine ev_bind_const (digits_Num_of v (by omega)) (Ev.bind (refNum_ev v (by omega)) (ev_pos rfl ?_))
  refine ev_bind_const (digits_Text_of a1 (by omega)) (ev_bind_const (selvedgeref01_Text_of a1 (by omega)) ?_)
  exact ev_eq (Ev.now _) (by simp)

end Go.Proofs.Ytijnodcbgadooaa.Pure
