-- printed by this session's pprint.py (the kit's print, with this session's plugs) out of the translation; Lean checks it
import Derived.Test.YtijnodcbgadooaaPx0
import Derived.Test.YtijnodcbgadooaaPxSelvedgeref01Num
import Derived.Test.YtijnodcbgadooaaPxWW00Ev
import Derived.Test.YtijnodcbgadooaaPxWW01Be
namespace Go.Proofs.Ytijnodcbgadooaa.Px
open Go.RowKit Go.Proofs.YtijnodcbgadooaaW.PrintWords Go.Proofs.YtijnodcbgadooaaW.PrintLast Go.Proofs.YtijnodcbgadooaaW.PrintMore
attribute [local go_sem] max2_int min2_int max_two min_two max_three min_three max_four min_four   -- for this text's walks alone
set_option linter.unusedVariables false
set_option linter.unusedSimpArgs false

/-! ### words: w02_refnum.tpl -/

theorem refNum_end (acc : Bs) (hl : acc.length ≤ 200) : Ev (fun k => selvedgeref01_Num.l0 k ((0 : Nat) : Int) (toB acc)) (toB (UInt8.ofNat acc.length :: acc)) := by
  refine Ev.step (fun k => by rw [selvedgeref01_Num.l0]) ?_
  refine ev_neg (by simp) ?_
  simp only [Option.bind_some, strOfNums_toB, List.map_cons, List.map_nil, toB_size, List.length_cons, List.length_nil]
  refine ev_pos (by omega) ?_
  have e : ((acc.length : Int) % 256).toNat = acc.length := by omega
  rw [e]
  exact ev_eq (Ev.now _) (by rw [← toB_append]; rfl)
theorem refNum_loop (n : Nat) : ∀ (v : Nat) (acc : Bs), v < 256 ^ n → n + acc.length ≤ 200 → v < 18446744073709551616 →
    Ev (fun k => selvedgeref01_Num.l0 k (v : Int) (toB acc)) (toB (UInt8.ofNat (be v ++ acc).length :: (be v ++ acc))) := by
  induction n with
  | zero =>
    intro v acc hv hl _
    obtain rfl : v = 0 := by simpa using hv
    rw [be_zero, List.nil_append]
    exact refNum_end acc (by omega)
  | succ n ih =>
    intro v acc hv hl hm
    rcases Nat.eq_zero_or_pos v with h | h
    · subst h
      rw [be_zero, List.nil_append]
      exact refNum_end acc (by omega)
    · refine Ev.step (fun k => by rw [selvedgeref01_Num.l0]) ?_
      refine ev_pos (by omega) ?_
      simp only [Option.bind_some, strOfNums_toB, List.map_cons, List.map_nil, toB_size, List.length_cons, List.length_nil]
      refine ev_pos (by omega) ?_
      have e1 : IntKind.u64.wrap (Int.tdiv (v : Int) 256) = ((v / 256 : Nat) : Int) := by
        rw [Int.tdiv_eq_ediv_of_nonneg (by omega), u64_wrap_of (by omega) (by omega)]; omega
      have e2 : (Int.tmod (v : Int) 256 % 256).toNat = v % 256 := by
        rw [Int.tmod_eq_emod_of_nonneg (by omega)]; omega
      rw [e1, e2]
      have := ih (v / 256) ([UInt8.ofNat (v % 256)] ++ acc) (by rw [Nat.pow_succ] at hv; omega) (by simp; omega) (by omega)
      rw [be_pos h, List.append_assoc]
      rw [toB_append [UInt8.ofNat (v % 256)] acc] at this
      exact this
theorem refNum_ev (v : Nat) (hv : v < 18446744073709551616) : Ev (fun k => selvedgeref01_Num.f k (v : Int)) (numB v) := by
  have e8 : (256 : Nat) ^ 8 = 18446744073709551616 := by decide
  have h := refNum_loop 8 v [] (by omega) (by simp) hv
  rw [List.append_nil] at h
  exact h


end Go.Proofs.Ytijnodcbgadooaa.Px
