/- DigitsOrder as a statement on numbers: of two numbers the greater one has the greater bytes; for every two u64. -/
import Derived.Test.YtijnodcbgadooaaPx0
import Derived.Test.YtijnodcbgadooaaPxSelvedgelaw01DigitsOrder
import Derived.Test.YtijnodcbgadooaaPxWW00Ev
import Derived.Test.YtijnodcbgadooaaPxWW01Be
import Derived.Test.YtijnodcbgadooaaPxWW03Takenum
import Derived.Test.YtijnodcbgadooaaPxWW04Shown01
import Derived.Test.YtijnodcbgadooaaPxWW06Less
namespace Go.Proofs.Ytijnodcbgadooaa.Pure
open Go.RowKit Go.Proofs.Ytijnodcbgadooaa.Px Go.Proofs.YtijnodcbgadooaaW.PrintWords Go.Proofs.YtijnodcbgadooaaW.PrintLast Go.Proofs.YtijnodcbgadooaaW.PrintMore

theorem DigitsOrder : selvedgelaw01_DigitsOrder.Pure := by
  intro a0 a1 hw hw'
  obtain ⟨h0, h1⟩ := u64_wf hw
  obtain ⟨v, rfl⟩ := Int.eq_ofNat_of_zero_le h0
  obtain ⟨h2, h3⟩ := u64_wf hw'
  obtain ⟨x, rfl⟩ := Int.eq_ofNat_of_zero_le h2
  have hs := numB_size (v := v) (by omega)
  refine Ev.rounds (Ev.bind shown01_ev (ev_bind_const (digits_Num_of v (by omega)) (ev_bind_const (digits_Num_of x (by omega)) ?_)))
  refine Ev.bind (less_ev _ _ (by omega)) (ev_pos rfl ?_)
  refine ev_pos ?_ (ev_bind_const (digits_Num_of v (by omega)) (ev_bind_const (digits_Num_of x (by omega)) (ev_eq (Ev.now _) ?_)))
  · rw [numB, numB, ofB_toB, ofB_toB, lessL_num (by omega) (by omega)]
    simp
  · rw [toList_ofB, toList_ofB, numB, numB, ofB_toB, ofB_toB]
    by_cases h : v = x
    · subst h; simp
    · have : ¬ numL v = numL x := fun hh => h (numL_inj hh)
      have h' : ¬ (v : Int) = x := by omega
      rw [beq_eq_false_iff_ne.2 this, beq_eq_false_iff_ne.2 h']; rfl

end Go.Proofs.Ytijnodcbgadooaa.Pure
