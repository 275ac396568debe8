/- DigitsSizes as a statement on numbers: a number's bytes are one more than it needs, and begin with how many follow; for every u64. -/
import Derived.Test.YtijnodcbgadooaaPx0
import Derived.Test.YtijnodcbgadooaaPxSelvedgelaw01DigitsSizes
import Derived.Test.YtijnodcbgadooaaPxWW00Ev
import Derived.Test.YtijnodcbgadooaaPxWW01Be
import Derived.Test.YtijnodcbgadooaaPxWW03Takenum
import Derived.Test.YtijnodcbgadooaaPxWW04Shown01
import Derived.Test.YtijnodcbgadooaaPxWW06Less
namespace Go.Proofs.Ytijnodcbgadooaa.Pure
open Go.RowKit Go.Proofs.Ytijnodcbgadooaa.Px Go.Proofs.YtijnodcbgadooaaW.PrintWords Go.Proofs.YtijnodcbgadooaaW.PrintLast Go.Proofs.YtijnodcbgadooaaW.PrintMore

theorem sizes_loop (n : Nat) : ∀ (v : Nat) (s : ByteArray) (i : Nat), v < 256 ^ n → n + i ≤ 200 → v < 18446744073709551616 → s.size = i + (be v).length + 1 → bt s 0 = ((i + (be v).length : Nat) : Int) →
    Ev (fun k => selvedgelaw01_DigitsSizes.l0 k true s (i : Int) (v : Int)) true := by
  induction n with
  | zero =>
    intro v s i hv hl _ hs hb
    obtain rfl : v = 0 := by simpa using hv
    rw [be_zero, List.length_nil] at hs hb
    refine Ev.step (fun k => by rw [selvedgelaw01_DigitsSizes.l0]) ?_
    rw [hs, hb, wrap64_of (x := (i : Int) + 1) (by omega) (by omega), wrap64_of (x := ((i + 0 : Nat) : Int)) (by omega) (by omega)]
    refine ev_neg (by simp) (ev_pos rfl (ev_pos (by omega) (ev_pos (by omega) (ev_eq (Ev.now _) (by simp)))))
  | succ n ih =>
    intro v s i hv hl hm hs hb
    rcases Nat.eq_zero_or_pos v with h | h
    · subst h
      rw [be_zero, List.length_nil] at hs hb
      refine Ev.step (fun k => by rw [selvedgelaw01_DigitsSizes.l0]) ?_
      rw [hs, hb, wrap64_of (x := (i : Int) + 1) (by omega) (by omega), wrap64_of (x := ((i + 0 : Nat) : Int)) (by omega) (by omega)]
      refine ev_neg (by simp) (ev_pos rfl (ev_pos (by omega) (ev_pos (by omega) (ev_eq (Ev.now _) (by simp)))))
    · rw [be_pos h, List.length_append, List.length_singleton] at hs hb
      refine Ev.step (fun k => by rw [selvedgelaw01_DigitsSizes.l0]) ?_
      have e1 : IntKind.u64.wrap (Int.tdiv (v : Int) 256) = ((v / 256 : Nat) : Int) := by
        rw [Int.tdiv_eq_ediv_of_nonneg (by omega), u64_wrap_of (by omega) (by omega)]; omega
      rw [wrap64_of (x := (i : Int) + 1) (by omega) (by omega), e1]
      exact ev_pos (by omega) (ih (v / 256) s (i + 1) (by rw [Nat.pow_succ] at hv; omega) (by omega) (by omega) (by omega) (by rw [hb]; omega))

theorem DigitsSizes : selvedgelaw01_DigitsSizes.Pure := by
  intro a0 hw
  obtain ⟨h0, h1⟩ := u64_wf hw
  obtain ⟨v, rfl⟩ := Int.eq_ofNat_of_zero_le h0
  have e8 : (256 : Nat) ^ 8 = 18446744073709551616 := by decide
  have hl := be_len8 (v := v) (by omega)
  refine Ev.rounds (Ev.bind shown01_ev (ev_bind_const (digits_Num_of v (by omega)) ?_))
  refine sizes_loop 8 v _ 0 (by omega) (by omega) (by omega) (by rw [numB, toB_size, numL, List.length_cons]; omega) ?_
  rw [show (0 : Int) = ((0 : Nat) : Int) from rfl, numB, bt_toB, numL]
  show ((UInt8.ofNat (be v).length).toNat : Int) = _
  simp; omega

end Go.Proofs.Ytijnodcbgadooaa.Pure
