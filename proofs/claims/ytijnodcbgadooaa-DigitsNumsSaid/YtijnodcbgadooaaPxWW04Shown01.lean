-- printed by this session's pprint.py (the kit's print, with this session's plugs) out of the translation; Lean checks it
import Derived.Test.YtijnodcbgadooaaPx0
import Derived.Test.YtijnodcbgadooaaPxSelvedgelaw01Shown
import Derived.Test.YtijnodcbgadooaaPxWW00Ev
import Derived.Test.YtijnodcbgadooaaPxWW01Be
import Derived.Test.YtijnodcbgadooaaPxWW03Takenum
namespace Go.Proofs.Ytijnodcbgadooaa.Px
open Go.RowKit Go.Proofs.YtijnodcbgadooaaW.PrintWords Go.Proofs.YtijnodcbgadooaaW.PrintLast Go.Proofs.YtijnodcbgadooaaW.PrintMore
attribute [local go_sem] max2_int min2_int max_two min_two max_three min_three max_four min_four   -- for this text's walks alone
set_option linter.unusedVariables false
set_option linter.unusedSimpArgs false

/-! ### words: w04_shown01.tpl -/

theorem shown01_ev : Ev (fun k => selvedgelaw01_shown.f k) true := by
  have h1 := takeNum_ev (⟨#[2, 0, 1]⟩ : ByteArray) (by decide)
  have h2 := takeNum_ev (⟨#[2, 1]⟩ : ByteArray) (by decide)
  have n0 : (numB 0).toList = ([0] : List UInt8) := by rw [toList_ofB, numB, ofB_toB, numL, be_zero]; rfl
  have n256 : (numB 256).toList = ([2, 1, 0] : List UInt8) := by rw [toList_ofB, numB, ofB_toB, numL, be_256]; rfl
  have tx : (textB (⟨#[97, 98]⟩ : ByteArray)).toList = ([1, 2, 97, 98] : List UInt8) := by
    rw [toList_ofB, textB_eq, ofB_toB]
    show numL 2 ++ [97, 98] = _
    rw [numL, be_2]; rfl
  refine Ev.bind h1 (Ev.bind h2 ?_)
  refine ev_bind_const (digits_Num_of 0 (by omega)) (ev_pos n0 ?_)
  refine ev_bind_const (digits_Num_of 256 (by omega)) (ev_pos n256 ?_)
  refine ev_bind_const (digits_Text_of _ (by decide)) (ev_pos tx ?_)
  exact ev_pos (by rfl) (ev_eq (Ev.now _) (by rfl))


end Go.Proofs.Ytijnodcbgadooaa.Px
