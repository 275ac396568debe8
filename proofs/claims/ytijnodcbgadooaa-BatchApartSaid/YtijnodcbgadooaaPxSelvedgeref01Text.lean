-- printed by this session's pprint.py (the kit's print, with this session's plugs) out of the translation; Lean checks it
import Derived.Test.YtijnodcbgadooaaPx0
import Derived.Test.YtijnodcbgadooaaPxSelvedgeref01Num
import Derived.Test.YtijnodcbgadooaaPxWW01Be
import Derived.Test.YtijnodcbgadooaaPxWW02Refnum
namespace Go.Proofs.Ytijnodcbgadooaa.Px
open Go.RowKit Go.Proofs.YtijnodcbgadooaaW.PrintWords Go.Proofs.YtijnodcbgadooaaW.PrintLast Go.Proofs.YtijnodcbgadooaaW.PrintMore
attribute [local go_sem] max2_int min2_int max_two min_two max_three min_three max_four min_four   -- for this text's walks alone
set_option linter.unusedVariables false
set_option linter.unusedSimpArgs false

/-! ### selvedgeref01_Text: function 22 (a plug) -/

def selvedgeref01_Text.f (a0 : ByteArray) : Option (ByteArray) := if a0.size ≤ 1152921504606846976 then (some (textB a0)) else (none)
theorem selvedgeref01_Text.calls (a0 : ByteArray) (r : ByteArray) (w : World) (h : selvedgeref01_Text.f a0 = some r) :
    Calls Try.prog 22 #[.string a0] w fun e w' => e = .returned (.string r) ∧ Below w.heap.size w w' := by
  unfold selvedgeref01_Text.f at h
  split at h
  · rename_i h0
    obtain rfl := Option.some.inj h
    clear h
    have hn : (numB a0.size).size ≤ 9 := numB_size (by omega)
    have hn2 : (numB a0.size).size + a0.size ≤ 9223372036854775807 := by omega
    obtain ⟨k, hk⟩ := (refNum_ev a0.size (by omega)).rounds
    have HN := Aside0.mk hk
    clear hk
    go_enter Try.func22, Try.ntmps22
    go_wp2_with (go_at_call 20; (with_reducible refine (selvedgeref01_Num.calls _ _ _ _ HN.out).mono ?_); rintro e w1 ⟨rfl, hb⟩)
    go_ret
    exact ⟨rfl, by assumption⟩
  · cases h


end Go.Proofs.Ytijnodcbgadooaa.Px
