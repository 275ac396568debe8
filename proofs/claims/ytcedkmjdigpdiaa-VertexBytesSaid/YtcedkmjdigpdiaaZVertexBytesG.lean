/- Part 7 of 22 of the proof of the law VertexBytes: what is proved is the statement at the end of the last part; its conditions are those of the given row. -/
import Derived.Test.YtcedkmjdigpdiaaZVertexBytesF
namespace Go.Proofs.Ytcedkmjdigpdiaa.Px
open Go.RowKit Go.Proofs.YtcedkmjdigpdiaaW.PrintWords Go.Proofs.YtcedkmjdigpdiaaW.PrintLast Go.Proofs.YtcedkmjdigpdiaaW.PrintMore
attribute [local go_sem] zK zM zQ zR zC zD zL zN
set_option linter.unusedVariables false
set_option linter.unusedSimpArgs false
theorem zcl : ∀ a b : Bs, Op.bytesLess a b = zcq a b
  | [], [] => rfl
  | [], _ :: _ => rfl
  | _ :: _, [] => rfl
  | x :: xs, y :: ys => by
    rw [Op.bytesLess, zcq, zcl xs ys]
    by_cases h : x = y
    · subst h; simp
    · rw [if_neg h]
      have hn : x.toNat ≠ y.toNat := fun e => h (UInt8.toNat_inj.1 e)
      by_cases h1 : x < y
      · have := UInt8.lt_iff_toNat_lt.1 h1
        simp [h1, this]
      · have h2 : ¬ x.toNat < y.toNat := fun e => h1 (UInt8.lt_iff_toNat_lt.2 e)
        have h3 : y < x := UInt8.lt_iff_toNat_lt.2 (by omega)
        simp [h1, h2]
        exact fun e => absurd e h
def zct (n : Int) : Bool := decide (4 ≤ n) && decide (n ≤ 64) && decide (n % 3 = 1)
theorem zav (n : Int) : zak.f n = some (zct n) := by
  unfold zak.f zct
  by_cases h : n ≥ 4
  · rw [if_pos h]
    by_cases h1 : n ≤ 64
    · rw [if_pos h1, Int.tmod_eq_emod_of_nonneg (by omega)]
      by_cases h2 : n % 3 = 1
      · simp [h1, h2]; omega
      · simp [h2]
    · rw [if_neg h1]; simp [h1]
  · rw [if_neg h]
    have : ¬ 4 ≤ n := by omega
    simp [this]
theorem zb6 (n : Int) : zct n = true ↔ 4 ≤ n ∧ n ≤ 64 ∧ n % 3 = 1 := by
  unfold zct; simp [and_assoc]
def za6 (n : Int) : Int := if zct n = true then n - (n - 1) / 3 else 0
theorem zdz (n : Int) : zaZ.f n = some (za6 n) := by
  unfold zaZ.f zaS.f za6
  rw [zav]
  simp only [Option.bind_some]
  by_cases h : zct n = true
  · rw [if_pos h, if_pos h, if_pos h]
    obtain ⟨h1, h2, h3⟩ := (zb6 n).1 h
    simp only [Option.bind_some]
    rw [zas (x := n - 1) (by omega) (by omega), Int.tdiv_eq_ediv_of_nonneg (by omega), zas (x := (n - 1) / 3) (by omega) (by omega), zas (by omega) (by omega)]
  · rw [if_neg h, if_neg h]
def zdv (a b : Int) : Bool := decide (0 ≤ a) && decide (a < 10007) && decide (0 ≤ b) && decide (b < 10007)
theorem zdU (a b : Int) : zdv a b = true ↔ 0 ≤ a ∧ a < 10007 ∧ 0 ≤ b ∧ b < 10007 := by
  unfold zdv; simp [and_assoc]
theorem zbo (a b : Int) : zbb.f a b = some (zdv a b) := by
  unfold zbb.f zdv
  by_cases h1 : 0 ≤ a <;> by_cases h2 : a < 10007 <;> by_cases h3 : 0 ≤ b <;> simp [h1, h2, h3]
def zb2 (r : Int) : Bool := decide (3 ≤ r) && decide (r % 3 = 0)
theorem za1 (r : Int) : zar.f r = some (zb2 r) := by
  unfold zar.f zb2
  by_cases h : r ≥ 3
  · rw [if_pos h, Int.tmod_eq_emod_of_nonneg (by omega)]
    have : 3 ≤ r := h
    by_cases h2 : r % 3 = 0 <;> simp [this, h2]
  · rw [if_neg h]
    have : ¬ 3 ≤ r := by omega
    simp [this]
def zef (l : List ByteArray) (j : Nat) : Bool := decide ((l.getD j ByteArray.empty).size = 32) && (decide (j = 0) || zcq (ofB (l.getD (j - 1) ByteArray.empty)) (ofB (l.getD j ByteArray.empty)))
def zaK (l : List ByteArray) : Nat → Nat → Bool
  | 0, _ => true
  | d + 1, j => zef l j && zaK l d (j + 1)
def zbq (l : List ByteArray) (r n : Int) : Bool :=
  if r = 1 then decide (l.length = 0) else zaK l l.length 0 && decide (za6 n ≤ l.length) && decide ((l.length : Int) ≤ n)
theorem zeI (l : List ByteArray) (n : Int) (hl : l.length ≤ 9223372036854775807) (d : Nat) : ∀ j, j + d = l.length →
    Ev (fun k => zaa.l0 k l n l (l.length : Int) (j : Int)) (zaK l d j && decide (za6 n ≤ l.length) && decide ((l.length : Int) ≤ n)) := by
  induction d with
  | zero =>
    intro j hj
    refine Ev.step (fun k => by rw [zaa.l0]) ?_
    refine zad (by omega) (zap (zdz n) ?_)
    by_cases h : za6 n ≤ l.length
    · exact zT h (zaw (Ev.now _) (by simp [zaK, h]))
    · exact zad h (zaw (Ev.now _) (by simp [zaK, h]))
  | succ d ih =>
    intro j hj
    refine Ev.step (fun k => by rw [zaa.l0]) ?_
    refine zT (by omega) (zT (by omega) (zT (by omega) ?_))
    have e1 : zz ByteArray.empty l (j : Int) = l.getD j ByteArray.empty := by rw [zz, Int.toNat_natCast]
    rw [e1]
    by_cases h : (l.getD j ByteArray.empty).size = 32
    · refine zT (by omega) ?_
      rw [zas (x := (j : Int) + 1) (by omega) (by omega)]
      by_cases h0 : j = 0
      · subst h0
        refine zad (by omega) (zaw (ih 1 (by omega)) ?_)
        simp only [zaK, zef, h]; simp
      · refine zT (by omega) ?_
        have e2 : wrap64 ((j : Int) - 1) = ((j - 1 : Nat) : Int) := by rw [zas (by omega) (by omega)]; omega
        rw [e2]
        refine zT (by omega) (zT (by omega) ?_)
        have e3 : zz ByteArray.empty l ((j - 1 : Nat) : Int) = l.getD (j - 1) ByteArray.empty := by rw [zz, Int.toNat_natCast]
        rw [e3, zbR, zbR, zcl]
        by_cases h2 : zcq (ofB (l.getD (j - 1) ByteArray.empty)) (ofB (l.getD j ByteArray.empty)) = true
        · refine zT h2 (zaw (ih (j + 1) (by omega)) ?_)
          simp only [zaK, zef, h, h2]; simp
        · refine zad h2 (zaw (Ev.now _) ?_)
          rw [Bool.not_eq_true] at h2
          simp only [zaK, zef, h, h0, h2]; simp
    · refine zad (by omega) (zaw (Ev.now _) ?_)
      simp only [zaK, zef, h]; simp
theorem zfo (l : List ByteArray) (r n : Int) (hl : l.length ≤ 9223372036854775807) : Ev (fun k => zaa.f k l r n) (zbq l r n) := by
  unfold zbq
  by_cases h : r = 1
  · rw [if_pos h]
    refine zT h (zaw (Ev.now _) ?_)
    by_cases h0 : l.length = 0 <;> simp [h0]
  · rw [if_neg h]
    exact zad h (zeI l n hl l.length 0 (by omega))
end Go.Proofs.Ytcedkmjdigpdiaa.Px
