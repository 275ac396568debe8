/- Part 25 of 25 of the proof of the law CertOwn: what is proved is the statement at the end of the last part; its conditions are those of the given row. -/
import Derived.Test.YtlabjgcoopdbiaaRows
import Derived.Deep.Slices
import Derived.ChangeArms
import Derived.SizedLaws
import Derived.WideOpen
import Derived.ProofKit
import Derived.OpenShut
import Derived.ShutString
import Derived.ChangeOld
import Derived.JoinedCond
import Derived.Carry
import Derived.WideShapes
import Derived.Test.YtlabjgcoopdbiaaZCertOwnW
import Derived.Test.YtlabjgcoopdbiaaZCertOwnX
namespace Go.Proofs.Ytlabjgcoopdbiaa.Px
open Go.RowKit Go.Proofs.YtlabjgcoopdbiaaW.PrintWords Go.Proofs.YtlabjgcoopdbiaaW.PrintLast Go.Proofs.YtlabjgcoopdbiaaW.PrintMore
attribute [local go_sem] zA zC zI zJ zt zu zB zD
set_option linter.unusedVariables false
set_option linter.unusedSimpArgs false
end Go.Proofs.Ytlabjgcoopdbiaa.Px

namespace Go.Proofs.Ytlabjgcoopdbiaa.Px
open Go.RowKit Go.Proofs.YtlabjgcoopdbiaaW.PrintWords Go.Proofs.YtlabjgcoopdbiaaW.PrintLast Go.Proofs.YtlabjgcoopdbiaaW.PrintMore
attribute [local go_sem] zA zC zI zJ zt zu zB zD
set_option linter.unusedVariables false
set_option linter.unusedSimpArgs false
theorem zgi {s : ByteArray} (h : s.size ≤ 10000) : zbL.f s = some (zev s) := by rw [zbL.f, if_pos (by omega)]
theorem zgJ {s : ByteArray} (h : s.size ≤ 10000) : zas.f s = some (zev s) := by rw [zas.f, if_pos (by omega)]
theorem zfH (b : UInt8) (s : ByteArray) : ((⟨#[b]⟩ : ByteArray) ++ s).size = 1 + s.size := by rw [ByteArray.size_append]; rfl
end Go.Proofs.Ytlabjgcoopdbiaa.Px

namespace Go.Proofs.Ytlabjgcoopdbiaa.Px
open Go.RowKit Go.Proofs.YtlabjgcoopdbiaaW.PrintWords Go.Proofs.YtlabjgcoopdbiaaW.PrintLast Go.Proofs.YtlabjgcoopdbiaaW.PrintMore
attribute [local go_sem] zA zC zI zJ zt zu zB zD
set_option linter.unusedVariables false
set_option linter.unusedSimpArgs false
theorem zdq {a r : Int} {bs : List S68} {ps : List ByteArray} {x y n : Int} (h : zaT a r bs ps x y n = true) : (toB (zbl a r bs ps x y)).size ≤ 5000 := by
  obtain ⟨h0, h1, h2, h3, h4, h5, h6, h7, h8, h9⟩ := (zcl ..).1 h
  obtain ⟨k1, k2, k3⟩ := (zb1 n).1 h0
  obtain ⟨x1, x2, y1, y2⟩ := (zdk x y).1 h7
  have r1 := zfo (bs := bs) (by omega)
  have r2 := zfp (zby h0 h9)
  have r3 := zaA (v := a.toNat) (by omega)
  have r4 := zaA (v := r.toNat) (by omega)
  have r5 := zaA (v := x.toNat) (by omega)
  have r6 := zaA (v := y.toNat) (by omega)
  rw [zaf, zbl]
  simp only [List.length_append]
  omega
def zbe (a r : Int) (bs : List S68) (ps : List ByteArray) (x y n : Int) : ByteArray × Int := if zaT a r bs ps x y n = true then (zev ((⟨#[118]⟩ : ByteArray) ++ toB (zbl a r bs ps x y)), 0) else ((⟨#[]⟩ : ByteArray), 1)
theorem zdE (a r : Int) (bs : List S68) (ps : List ByteArray) (x y n : Int) : zaK.f a r bs ps x y n = some (zbe a r bs ps x y n) := by
  unfold zaK.f zbe
  rw [zdY]
  simp only [Option.bind_some]
  by_cases h : zaT a r bs ps x y n = true
  · have hs := zdq h
    rw [if_pos h, if_pos h, if_pos rfl, if_pos (by show 1 + (toB (zbl a r bs ps x y)).size ≤ _; omega)]
    show (zbL.f ((⟨#[118]⟩ : ByteArray) ++ toB (zbl a r bs ps x y))).bind _ = _
    rw [zgi (by rw [zfH]; omega)]
    rfl
  · rw [if_neg h, if_neg h, if_neg (by simp)]
theorem zdc (a r : Int) (bs : List S68) (ps : List ByteArray) (x y n : Int) (hb : bs.length < 4611686018427387904) (hbs : ∀ b ∈ bs, b.f2.length < 4611686018427387904) (hl : ps.length < 4611686018427387904) (hp : ∀ t ∈ ps, t.size < 4611686018427387904) :
    Ev (fun k => zae.f k a r bs ps x y n) (zbe a r bs ps x y n) := by
  unfold zae.f
  refine Ev.bind (zdo a r bs ps x y n hb hbs hl hp) ?_
  unfold zfu zbe
  by_cases h : zaT a r bs ps x y n = true
  · have hs := zdq h
    rw [if_pos h, if_pos h]
    refine zO rfl (zO (by show 1 + (toB (zbl a r bs ps x y)).size ≤ _; omega) ?_)
    refine zah (zgJ (s := (⟨#[118]⟩ : ByteArray) ++ toB (zbl a r bs ps x y)) (by rw [zfH]; omega)) ?_
    exact Ev.now _
  · rw [if_neg h, if_neg h]
    exact zZ (by simp) (Ev.now _)
end Go.Proofs.Ytlabjgcoopdbiaa.Px

namespace Go.Proofs.Ytlabjgcoopdbiaa.Px
open Go.RowKit Go.Proofs.YtlabjgcoopdbiaaW.PrintWords Go.Proofs.YtlabjgcoopdbiaaW.PrintLast Go.Proofs.YtlabjgcoopdbiaaW.PrintMore
attribute [local go_sem] zA zC zI zJ zt zu zB zD
set_option linter.unusedVariables false
set_option linter.unusedSimpArgs false
theorem zde : ∀ (d id s : Nat) (x : Int), x ∈ zcz d id s ↔ ∃ j, j < d ∧ s.testBit j = true ∧ x = ((id + j : Nat) : Int)
  | 0, id, s, x => by simp [zcz]
  | d + 1, id, s, x => by
    have ih := zde d (id + 1) (s / 2) x
    have t0 : s.testBit 0 = decide (s % 2 = 1) := Nat.testBit_zero s
    have ts : ∀ j, s.testBit (j + 1) = (s / 2).testBit j := fun j => Nat.testBit_succ s j
    constructor
    · intro h
      have h' : (s % 2 = 1 ∧ x = (id : Int)) ∨ x ∈ zcz d (id + 1) (s / 2) := by
        rw [zcz] at h
        split at h
        · rename_i h1
          rcases List.mem_cons.1 h with h2 | h2
          · exact .inl ⟨h1, h2⟩
          · exact .inr h2
        · exact .inr h
      rcases h' with ⟨h1, h2⟩ | h2
      · exact ⟨0, by omega, by rw [t0]; simp [h1], by rw [h2]; rfl⟩
      · obtain ⟨j, hj, h3, h4⟩ := ih.1 h2
        exact ⟨j + 1, by omega, by rw [ts]; exact h3, by rw [h4]; congr 1; omega⟩
    · rintro ⟨j, hj, h3, h4⟩
      rw [zcz]
      rcases j with _ | j
      · rw [t0] at h3
        rw [if_pos (of_decide_eq_true h3)]
        exact List.mem_cons.2 (.inl h4)
      · have : x ∈ zcz d (id + 1) (s / 2) := ih.2 ⟨j, by omega, by rw [← ts]; exact h3, by rw [h4]; congr 1; omega⟩
        split
        · exact List.mem_cons.2 (.inr this)
        · exact this
end Go.Proofs.Ytlabjgcoopdbiaa.Px

namespace Go.Proofs.Ytlabjgcoopdbiaa.Px
open Go.RowKit Go.Proofs.YtlabjgcoopdbiaaW.PrintWords Go.Proofs.YtlabjgcoopdbiaaW.PrintLast Go.Proofs.YtlabjgcoopdbiaaW.PrintMore
attribute [local go_sem] zA zC zI zJ zt zu zB zD
set_option linter.unusedVariables false
set_option linter.unusedSimpArgs false
def zet (i : Int) (t : ByteArray) (b : List S58) : Bool := b.any fun x => decide (x.f0 = i ∧ x.f1 = t)
def zel (s : Nat) (i : Int) : Nat := if 1 ≤ i ∧ i ≤ 64 then s ||| 2 ^ (i.toNat - 1) else s
def byN (t : ByteArray) : List S58 → Nat → Nat
  | [], s => s
  | x :: b, s => byN t b (if x.f1 = t then zel s x.f0 else s)
theorem zgv {s : Nat} (h : s < 18446744073709551616) (i : Int) : zel s i < 18446744073709551616 := by
  unfold zel
  split
  · have h1 : s < 2 ^ 64 := h
    have h2 : 2 ^ (i.toNat - 1) < 2 ^ 64 := Nat.pow_lt_pow_right (by decide) (by omega)
    exact Nat.or_lt_two_pow h1 h2
  · exact h
theorem zgY (t : ByteArray) : ∀ (b : List S58) (s : Nat), s < 18446744073709551616 → byN t b s < 18446744073709551616
  | [], _, h => h
  | x :: b, s, h => by
    rw [byN]
    refine zgY t b _ ?_
    split
    · exact zgv h _
    · exact h
theorem zhg (s : Nat) (i : Int) (j : Nat) : (zel s i).testBit j = true ↔ s.testBit j = true ∨ (i = ((j + 1 : Nat) : Int) ∧ j < 64) := by
  unfold zel
  split
  · rename_i h
    rw [Nat.testBit_or, Nat.testBit_two_pow, Bool.or_eq_true, decide_eq_true_eq]
    constructor
    · rintro (h1 | h1)
      · exact .inl h1
      · exact .inr ⟨by omega, by omega⟩
    · rintro (h1 | h1)
      · exact .inl h1
      · exact .inr (by omega)
  · rename_i h
    constructor
    · exact fun h1 => .inl h1
    · rintro (h1 | h1)
      · exact h1
      · exact absurd ⟨by omega, by omega⟩ h
theorem ze7 (t : ByteArray) : ∀ (b : List S58) (s j : Nat), (byN t b s).testBit j = true ↔ s.testBit j = true ∨ (zet ((j + 1 : Nat) : Int) t b = true ∧ j < 64)
  | [], s, j => by simp [byN, zet]
  | x :: b, s, j => by
    rw [byN, ze7 t b]
    rw [show zet ((j + 1 : Nat) : Int) t (x :: b) = (decide (x.f0 = ((j + 1 : Nat) : Int) ∧ x.f1 = t) || zet ((j + 1 : Nat) : Int) t b) from rfl, Bool.or_eq_true, decide_eq_true_eq]
    split
    · rename_i h
      rw [zhg]
      constructor
      · rintro ((h1 | ⟨h1, h2⟩) | ⟨h1, h2⟩)
        · exact .inl h1
        · exact .inr ⟨.inl ⟨h1, h⟩, h2⟩
        · exact .inr ⟨.inr h1, h2⟩
      · rintro (h1 | ⟨h1 | h1, h2⟩)
        · exact .inl (.inl h1)
        · exact .inl (.inr ⟨h1.1, h2⟩)
        · exact .inr ⟨h1, h2⟩
    · rename_i h
      constructor
      · rintro (h1 | ⟨h1, h2⟩)
        · exact .inl h1
        · exact .inr ⟨.inr h1, h2⟩
      · rintro (h1 | ⟨h1 | h1, h2⟩)
        · exact .inl h1
        · exact absurd h1.2 h
        · exact .inr ⟨h1, h2⟩
def ze2 (b : List S58) (s : Nat) (t : ByteArray) : Bool := (zcz 64 1 s).all fun id => zet id t b
theorem zgV {b : List S58} {s : Nat} {t : ByteArray} : ze2 b s t = true ↔ ∀ j, j < 64 → s.testBit j = true → zet ((j + 1 : Nat) : Int) t b = true := by
  rw [ze2, List.all_eq_true]
  constructor
  · intro h j hj hs
    exact h _ ((zde 64 1 s _).2 ⟨j, hj, hs, by rw [Nat.add_comm]⟩)
  · intro h x hx
    obtain ⟨j, hj, hs, rfl⟩ := (zde 64 1 s x).1 hx
    have := h j hj hs
    rwa [Nat.add_comm] at this
theorem zfv (s m : Nat) (hs : s < 18446744073709551616) (hm : m < 18446744073709551616) : Go.bits .andNot .u64 (s : Int) (m : Int) = 0 ↔ ∀ j, j < 64 → s.testBit j = true → m.testBit j = true := by
  rw [u64_andNot_nat s m hs hm]
  have e : ((s &&& (18446744073709551615 - m) : Nat) : Int) = 0 ↔ (s &&& (18446744073709551615 - m)) = 0 := by omega
  have tb : ∀ j, (18446744073709551615 - m).testBit j = (decide (j < 64) && !m.testBit j) := fun j => by
    have := Nat.testBit_two_pow_sub_succ (x := m) (n := 64) hm j
    rwa [show 2 ^ 64 - (m + 1) = 18446744073709551615 - m by omega] at this
  rw [e]
  constructor
  · intro h j hj h1
    have h2 : (s &&& (18446744073709551615 - m)).testBit j = false := by rw [h]; exact Nat.zero_testBit j
    rw [Nat.testBit_and, tb, h1, decide_eq_true hj] at h2
    simpa using h2
  · intro h
    apply Nat.eq_of_testBit_eq
    intro j
    rw [Nat.zero_testBit, Nat.testBit_and, tb]
    by_cases hj : j < 64
    · cases h1 : s.testBit j
      · simp
      · rw [h j hj h1]; simp
    · simp [hj]
theorem zh5 (b : List S58) (s : Nat) (hs : s < 18446744073709551616) (t : ByteArray) : decide (Go.bits .andNot .u64 (s : Int) ((byN t b 0 : Nat) : Int) = 0) = ze2 b s t := by
  rw [Bool.eq_iff_iff, decide_eq_true_eq, zfv s _ hs (zgY t b 0 (by decide)), zgV]
  constructor
  · intro h j hj h1
    have := (ze7 t b 0 j).1 (h j hj h1)
    rcases this with h2 | h2
    · rw [Nat.zero_testBit] at h2; cases h2
    · exact h2.1
  · intro h j hj h1
    exact (ze7 t b 0 j).2 (.inr ⟨h j hj h1, hj⟩)
end Go.Proofs.Ytlabjgcoopdbiaa.Px

namespace Go.Proofs.Ytlabjgcoopdbiaa.Px
open Go.RowKit Go.Proofs.YtlabjgcoopdbiaaW.PrintWords Go.Proofs.YtlabjgcoopdbiaaW.PrintLast Go.Proofs.YtlabjgcoopdbiaaW.PrintMore
attribute [local go_sem] zA zC zI zJ zt zu zB zD
set_option linter.unusedVariables false
set_option linter.unusedSimpArgs false
theorem zf6 (l : List S58) (j : Nat) (h : j < l.length) : zbn l (j : Int) = l[j] := by
  rw [zbn, Int.toNat_natCast, List.getD_eq_getElem?_getD, List.getElem?_eq_getElem h]; rfl
theorem zfq (s : Nat) (hs : s < 18446744073709551616) (i : Int) : zbt.f (s : Int) i = some (if 1 ≤ i ∧ i ≤ 64 then (((zel s i : Nat) : Int), 0) else (0, 1)) := by
  by_cases hh : 1 ≤ i ∧ i ≤ 64
  · have es : za1.f i = some true := by unfold za1.f; rw [if_pos hh.1, decide_eq_true hh.2]
    have e1 : wrap64 (i - 1) = ((i.toNat - 1 : Nat) : Int) := by rw [zak (by omega) (by omega)]; omega
    have h3' : 2 ^ (i.toNat - 1) < 2 ^ 64 := Nat.pow_lt_pow_right (by decide) (by omega)
    have h3 : 2 ^ (i.toNat - 1) < 18446744073709551616 := h3'
    have e2 : shl .u64 1 ((i.toNat - 1 : Nat) : Int) = ((2 ^ (i.toNat - 1) : Nat) : Int) := by
      unfold shl
      rw [Int.toNat_natCast, Nat.min_eq_left (by show i.toNat - 1 ≤ 64; omega), Int.one_mul]
      have h4 : ((2 : Int) ^ (i.toNat - 1)) = ((2 ^ (i.toNat - 1) : Nat) : Int) := by rw [Int.natCast_pow]; rfl
      rw [h4]
      generalize 2 ^ (i.toNat - 1) = p at h3 ⊢
      exact zaY (Int.natCast_nonneg _) (by omega)
    unfold zbt.f
    rw [es, show (if 1 ≤ i ∧ i ≤ 64 then (((zel s i : Nat) : Int), (0 : Int)) else (0, 1)) = (((zel s i : Nat) : Int), 0) from if_pos hh, Option.bind_some, if_pos rfl, e1, if_pos (Int.natCast_nonneg _), e2, u64_or_nat _ _ hs h3, zel, if_pos hh]
  · have es : za1.f i = some false := by
      unfold za1.f
      by_cases h1 : i ≥ 1
      · rw [if_pos h1, decide_eq_false (fun h => hh ⟨h1, h⟩)]
      · rw [if_neg h1]
    unfold zbt.f
    rw [es, show (if 1 ≤ i ∧ i ≤ 64 then (((zel s i : Nat) : Int), (0 : Int)) else (0, 1)) = (0, 1) from if_neg hh]
    rfl
theorem zit (t : ByteArray) (b : List S58) (hb : b.length < 4611686018427387904) (d : Nat) : ∀ (j s : Nat), j + d = b.length → s < 18446744073709551616 → Ev (fun k => zaQ.l0 k t (s : Int) b (b.length : Int) (j : Int)) ((byN t (b.drop j) s : Nat) : Int) := by
  induction d with
  | zero =>
    intro j s hj hs
    refine Ev.step (fun k => by rw [zaQ.l0]) ?_
    rw [List.drop_of_length_le (by omega)]
    exact zZ (by omega) (Ev.now _)
  | succ d ih =>
    intro j s hj hs
    refine Ev.step (fun k => by rw [zaQ.l0]) ?_
    have hlt : j < b.length := by omega
    rw [zf6 b j hlt, List.drop_eq_getElem_cons hlt, byN, zak (by omega) (by omega)]
    refine zO (by omega) (zO (by omega) (zO (by omega) ?_))
    by_cases h : b[j].f1 = t
    · rw [if_pos h]
      refine zO (by rw [h]) (zah (zfq s hs b[j].f0) ?_)
      by_cases h1 : 1 ≤ b[j].f0 ∧ b[j].f0 ≤ 64
      · rw [if_pos h1]
        exact zO rfl (ih (j + 1) _ (by omega) (zgv hs _))
      · rw [if_neg h1]
        refine zZ (by simp) ?_
        rw [zel, if_neg h1]
        exact ih (j + 1) s (by omega) hs
    · rw [if_neg h]
      refine zZ (fun hh => h ((zch _ _).1 hh)) (ih (j + 1) s (by omega) hs)
theorem zfw (b : List S58) (hb : b.length < 4611686018427387904) (s : Nat) (hs : s < 18446744073709551616) (t : ByteArray) : Ev (fun k => zbg.f k b (s : Int) t) (ze2 b s t) := by
  refine Ev.bind (zit t b hb b.length 0 0 (by omega) (by decide)) (zav (Ev.now _) ?_)
  rw [List.drop_zero, ← zh5 b s hs t]
  rfl
def zfT (d : ByteArray) : ByteArray := (⟨#[121]⟩ : ByteArray) ++ d
def zea (n : Int) (b : List S58) (a r : Int) (bs : List S68) (ps : List ByteArray) (x y : Int) (s : Nat) : Int :=
  if zcI a r bs ps x y s n = 0 then (if ze2 b s (zfT (zbe a r bs ps x y n).1) = true then 0 else 10) else zcI a r bs ps x y s n
theorem zdp (a r : Int) (bs : List S68) (ps : List ByteArray) (x y n : Int) : (zbe a r bs ps x y n).1.size ≤ 32 := by
  unfold zbe
  split
  · exact Nat.le_of_eq (zgM _)
  · exact Nat.zero_le _
theorem zc2 (n : Int) (b : List S58) (hb : b.length < 4611686018427387904) (a r : Int) (bs : List S68) (ps : List ByteArray) (x y : Int) (s : Nat) (hs : s < 18446744073709551616) :
    Ev (fun k => zap.f k n b a r bs ps x y (s : Int)) (zea n b a r bs ps x y s) := by
  unfold zap.f zea
  refine zah (ze8 a r bs ps x y s hs n) ?_
  refine zg0 (fun _ => ?_) (fun _ => Ev.now _)
  refine zah (zdE ..) ?_
  have hz := zdp a r bs ps x y n
  refine zah (show zai.f (zbe a r bs ps x y n).1 = some (zfT (zbe a r bs ps x y n).1) from if_pos (by omega)) ?_
  refine Ev.bind (zfw b hb s hs _) ?_
  exact zg0 (fun _ => Ev.now _) (fun _ => Ev.now _)
theorem zfy {n : Int} {b : List S58} {a r : Int} {bs : List S68} {ps : List ByteArray} {x y : Int} {s : Nat} : zea n b a r bs ps x y s = 0 ↔ zcI a r bs ps x y s n = 0 ∧ ze2 b s (zfT (zbe a r bs ps x y n).1) = true := by
  unfold zea
  by_cases h : zcI a r bs ps x y s n = 0
  · rw [if_pos h]
    by_cases h2 : ze2 b s (zfT (zbe a r bs ps x y n).1) = true
    · rw [if_pos h2]; simp [h, h2]
    · rw [if_neg h2]; simp [h2]
  · rw [if_neg h]; simp [h]
end Go.Proofs.Ytlabjgcoopdbiaa.Px

namespace Go.Proofs.Ytlabjgcoopdbiaa.Px
open Go.RowKit Go.Proofs.YtlabjgcoopdbiaaW.PrintWords Go.Proofs.YtlabjgcoopdbiaaW.PrintLast Go.Proofs.YtlabjgcoopdbiaaW.PrintMore
attribute [local go_sem] zA zC zI zJ zt zu zB zD
set_option linter.unusedVariables false
set_option linter.unusedSimpArgs false
theorem zdM : zaT 1 1 [] [] 0 0 4 = true := by
  rw [zcl]
  simp [zb1, zdk, zbi]
theorem zeH : zcI 1 1 [] [] 0 0 7 4 = 0 := by
  rw [zf0]
  exact ⟨zdM, by decide +kernel, by decide +kernel⟩
theorem zeG : zcI 1 1 [] [] 0 0 3 4 = 2 := by
  unfold zcI
  rw [if_pos zdM, if_pos (by decide +kernel), if_pos (by decide +kernel)]
theorem zeI : zcz 64 1 7 = [1, 2, 3] := by decide +kernel
theorem zfQ (t : ByteArray) : ze2 [(⟨1, t⟩ : S58), ⟨2, t⟩, ⟨3, t⟩] 7 t = true := by
  rw [ze2, zeI]
  simp [zet]
theorem zgj : Ev (fun k => zaF.f k) true := by
  unfold zaF.f
  refine Ev.bind (zdc 1 1 [] [] 0 0 4 (by decide) (by simp) (by decide) (by simp)) ?_
  have hz := zdp 1 1 [] [] 0 0 4
  refine zO (by omega) ?_
  refine zah rfl ?_
  refine Ev.bind (zc2 4 _ (by decide) 1 1 [] [] 0 0 7 (by decide)) ?_
  refine Ev.bind (zc2 4 _ (by decide) 1 1 [] [] 0 0 3 (by decide)) ?_
  refine zah (show zai.f (zbe 1 1 [] [] 0 0 4).1 = some (zfT (zbe 1 1 [] [] 0 0 4).1) from if_pos (by omega)) ?_
  refine zO rfl ?_
  refine zO ?_ (zav (Ev.now _) ?_)
  · rw [zfy]
    exact ⟨zeH, zfQ _⟩
  · unfold zea
    rw [zeG]; rfl
end Go.Proofs.Ytlabjgcoopdbiaa.Px

namespace Go.Proofs.Ytlabjgcoopdbiaa.Px
open Go.RowKit Go.Proofs.YtlabjgcoopdbiaaW.PrintWords Go.Proofs.YtlabjgcoopdbiaaW.PrintLast Go.Proofs.YtlabjgcoopdbiaaW.PrintMore
attribute [local go_sem] zA zC zI zJ zt zu zB zD
set_option linter.unusedVariables false
set_option linter.unusedSimpArgs false
theorem zfe {x y : UInt8} (h : x ≠ y) (a b : ByteArray) : ¬ ((⟨#[x]⟩ : ByteArray) ++ a).toList = ((⟨#[y]⟩ : ByteArray) ++ b).toList := fun e => by
  have e1 := congrArg ofB ((zch _ _).1 e)
  rw [zb2, zb2] at e1
  exact h (List.head_eq_of_cons_eq (show x :: ofB a = y :: ofB b from e1))
theorem zhE (x : UInt8) (a b : ByteArray) : (⟨#[x]⟩ : ByteArray) ++ a = (⟨#[x]⟩ : ByteArray) ++ b ↔ a = b := by
  constructor
  · intro e
    have e1 := congrArg ofB e
    rw [zb2, zb2] at e1
    have e2 := List.tail_eq_of_cons_eq (show x :: ofB a = x :: ofB b from e1)
    have e3 := congrArg toB e2
    rwa [zcb, zcb] at e3
  · intro e; rw [e]
set_option maxHeartbeats 4000000 in
set_option maxRecDepth 100000 in
theorem zar.walk (a b HA VA VB OB : ByteArray) (k : Nat) (w : World) (h0 : zaF.f k = some true) (h1 : zbM.f a = some HA) (h2 : zai.f b = some VB) (h3 : zai.f a = some VA) (h4 : zbN.f b = some OB)
    (n1 : (HA.toList == VB.toList) = false) (n2 : (VA.toList == OB.toList) = false) (n3 : (HA.toList == OB.toList) = false) (n4 : (VA.toList == VB.toList) = (a.toList == b.toList)) :
    Calls Try.prog 3 #[.string a, .string b] w fun e w' => e = .returned (.bool true) ∧ Below w.heap.size w w' := by
  have H0 := zc.mk h0
  have H1 := zc.mk h1
  have H2 := zc.mk h2
  have H3 := zc.mk h3
  have H4 := zc.mk h4
  obtain ⟨q, hq⟩ : ∃ q, q = (a.toList == b.toList) := ⟨_, rfl⟩
  have q1 := hq.symm
  have q2 : (VA.toList == VB.toList) = q := n4.trans q1
  have m1 : (HA.toList != VB.toList) = true := by rw [bne, n1]; rfl
  have m2 : (VA.toList != OB.toList) = true := by rw [bne, n2]; rfl
  have m3 : (HA.toList != OB.toList) = true := by rw [bne, n3]; rfl
  have q3 : (q == q) = true := by simp
  clear h0 h1 h2 h3 h4 hq n4
  go_enter Try.func3, Try.ntmps3
  go_wp2_with (first
    | (go_at_call 8; (with_reducible refine (zaF.calls k _ _ H0.out).mono ?_); rintro e w1 ⟨rfl, hb⟩; have HB := zc.mk hb; clear hb)
    | (go_at_call 9; (with_reducible refine (zbM.calls a _ _ H1.out).mono ?_); rintro e w' ⟨rfl, ⟨nd, rfl⟩⟩)
    | (go_at_call 10; (with_reducible refine (zai.calls b _ _ H2.out).mono ?_); rintro e w' ⟨rfl, ⟨nd, rfl⟩⟩)
    | (go_at_call 10; (with_reducible refine (zai.calls a _ _ H3.out).mono ?_); rintro e w' ⟨rfl, ⟨nd, rfl⟩⟩)
    | (go_at_call 11; (with_reducible refine (zbN.calls b _ _ H4.out).mono ?_); rintro e w' ⟨rfl, ⟨nd, rfl⟩⟩))
  go_ret
  exact ⟨by first | rfl | simp, by repeat (first | exact HB.out | apply zd)⟩
def zar.f (a0 a1 : ByteArray) : Option Bool := if a0.size ≤ 9223372036854775806 ∧ a1.size ≤ 9223372036854775806 then some true else none
theorem zar.calls (a0 a1 : ByteArray) (r : Bool) (w : World) (h : zar.f a0 a1 = some r) :
    Calls Try.prog 3 #[.string a0, .string a1] w fun e w' => e = .returned (.bool r) ∧ Below w.heap.size w w' := by
  unfold zar.f at h
  split at h
  · rename_i hh
    obtain rfl := Option.some.inj h
    obtain ⟨ha, hb⟩ := hh
    obtain ⟨k, hk⟩ := (zgj).rounds
    have ch : zbM.f a0 = some ((⟨#[104]⟩ : ByteArray) ++ a0) := if_pos (by omega)
    have cv : ∀ {s : ByteArray}, s.size ≤ 9223372036854775806 → zai.f s = some ((⟨#[121]⟩ : ByteArray) ++ s) := fun h => if_pos (by omega)
    have co : zbN.f a1 = some ((⟨#[111]⟩ : ByteArray) ++ a1) := if_pos (by omega)
    refine zar.walk a0 a1 _ _ _ _ k w hk ch (cv hb) (cv ha) co (beq_eq_false_iff_ne.2 (zfe (by decide) a0 a1)) (beq_eq_false_iff_ne.2 (zfe (by decide) a0 a1)) (beq_eq_false_iff_ne.2 (zfe (by decide) a0 a1)) ?_
    rw [zd9, zd9]
    by_cases e : a0 = a1
    · subst e; simp
    · have : ¬ ((⟨#[121]⟩ : ByteArray) ++ a0 = (⟨#[121]⟩ : ByteArray) ++ a1) := fun h => e ((zhE 121 a0 a1).1 h)
      rw [decide_eq_false e, decide_eq_false this]
  · cases h
end Go.Proofs.Ytlabjgcoopdbiaa.Px

namespace Go.Proofs.Ytlabjgcoopdbiaa.Px
open Go.RowKit Go.Proofs.YtlabjgcoopdbiaaW.PrintWords Go.Proofs.YtlabjgcoopdbiaaW.PrintLast Go.Proofs.YtlabjgcoopdbiaaW.PrintMore
attribute [local go_sem] zA zC zI zJ zt zu zB zD
set_option linter.unusedVariables false
set_option linter.unusedSimpArgs false
structure Rd (α : Type) where
  t : TypeId
  d : Kd α
  ok : α → Prop
  wt : α → Prop
  bk : α → Nat
structure zip {α : Type} (P : Program) (r : Rd α) : Prop where
  out : ∀ {H : Type} {enc : TypeId × Value → H} {w : World} {fuel : Nat} {cs : List Value} {x : DataW H × List MemPlace}, DataW.trod enc P w 0 (fun _ => true) true fuel r.t cs = some x →
    ∃ a, r.d.K w a cs ∧ r.ok a ∧ ((∀ n ∈ x.1.weights P r.t, n ≤ reachBytes) → r.wt a) ∧ r.bk a ≤ Rows.uptoBulk x.1
def zhZ (t : TypeId) (k : IntKind) : Rd Int := ⟨t, Kd.int k, fun a => (Lit.int k a).wf = true, fun _ => True, fun _ => 1⟩
def zhi (t : TypeId) : Rd Bool := ⟨t, Kd.bool, fun _ => True, fun _ => True, fun _ => 1⟩
def zbj (t : TypeId) : Rd ByteArray := ⟨t, Kd.string, fun a => a.size ≤ maxLen, fun a => a.size ≤ reachBytes, fun a => a.size + 1⟩
section
variable {P : Program}
theorem zeg {t : TypeId} (h : P.underlying t = some .string) : zip P (zbj t) := by
  constructor
  intro H enc w fuel cs x hx
  obtain ⟨s, rfl, rfl, hs⟩ := DataW.trod_string h hx
  have e : s.data.toList.length = s.size := by rw [Array.length_toList]; rfl
  refine ⟨s, rfl, hs, fun hn => ?_, by simp only [zbj, Rows.uptoBulk, e]; exact Nat.le_refl _⟩
  have := hn s.data.toList.length (by simp [DataW.weights])
  rwa [e] at this
structure FieldsFit {β : Type} (P : Program) (fs : List Field) (o : Nat) (d : Kd β) (ok wt : β → Prop) (bk : β → Nat) : Prop where
  out : ∀ {H : Type} {enc : TypeId × Value → H} {w : World} {n : Nat} {cs : List Value} {xs : List (DataW H × List MemPlace)}, xs.length = fs.length → cs.length = o + d.sz →
    (∀ (i : Nat) (f : Field), fs[i]? = some f → DataW.trod enc P w 0 (fun _ => true) true n f.type ((cs.drop f.offset).take (P.cellsOf f.type)) = xs[i]?) →
    ∃ b, d.K w b (cs.drop o) ∧ ok b ∧ ((∀ q ∈ DataW.weightsEach P (fs.map (·.type)) (xs.map (·.1)), q ≤ reachBytes) → wt b) ∧ bk b ≤ Rows.uptoBulkAll (xs.map (·.1))
end
theorem zgo {α H : Type} {P : Program} {r : Rd α} (hr : zip P r) {enc : TypeId × Value → H} {w : World} {v : Value} {d : DataW H} {ps : List MemPlace} (h : DataW.Trod enc P w 0 (fun _ => true) true r.t v d ps) :
    ∃ a, r.d.K w a v.cells.toList ∧ r.ok a ∧ ((∀ n ∈ d.weights P r.t, n ≤ reachBytes) → r.wt a) ∧ r.bk a ≤ Rows.uptoBulk d := by
  obtain ⟨fuel, hf⟩ := h
  exact hr.out hf
end Go.Proofs.Ytlabjgcoopdbiaa.Px

namespace Go.Proofs.Ytlabjgcoopdbiaa.Px
open Go.RowKit Go.Proofs.Ytlabjgcoopdbiaa.Px Go.Proofs.YtlabjgcoopdbiaaW.PrintWords Go.Proofs.YtlabjgcoopdbiaaW.PrintLast Go.Proofs.YtlabjgcoopdbiaaW.PrintMore
set_option linter.unusedVariables false
def zbY : Prop := ∀ (a0 : ByteArray) (a1 : ByteArray), (zbj 9).ok a0 → (zbj 9).ok a1 → (zbj 9).wt a0 → (zbj 9).wt a1 → zar.f a0 a1 = some true
end Go.Proofs.Ytlabjgcoopdbiaa.Px

namespace Go.Proofs.Ytlabjgcoopdbiaa.Pure
open Go.RowKit Go.Proofs.Ytlabjgcoopdbiaa.Px Go.Proofs.YtlabjgcoopdbiaaW.PrintWords Go.Proofs.YtlabjgcoopdbiaaW.PrintLast Go.Proofs.YtlabjgcoopdbiaaW.PrintMore
theorem CertOwn : zbY := by
  intro a b _ _ ha hb
  have ha' : a.size ≤ 140737488351232 := ha
  have hb' : b.size ≤ 140737488351232 := hb
  exact if_pos ⟨by omega, by omega⟩
end Go.Proofs.Ytlabjgcoopdbiaa.Pure

namespace Go.Proofs.Ytlabjgcoopdbiaa.certOwn
open Go.ChangeShapes Go.WideShapes Go.ChangeAt Go.RowKit
open Go.ChangeMaps (open_string shut_string)
open Go.RowKit Go.Proofs.Ytlabjgcoopdbiaa.Px Go.Proofs.YtlabjgcoopdbiaaW.PrintWords Go.Proofs.YtlabjgcoopdbiaaW.PrintLast Go.Proofs.YtlabjgcoopdbiaaW.PrintMore
set_option linter.unusedVariables false
theorem own : ownKnob Try.prog.godebug = none := by kernel_rfl
theorem laidOut : laidOutB Try.prog = true := by kernel_rfl
set_option maxRecDepth 100000 in
theorem contract (H : Type) (enc : TypeId × Value → H) (W : World) (base : Nat) (args : Array Value) (ds gs : List (DataW H)) (before : List MemPlace)
    (hval0 : ∀ (j : Nat) t v, Try.f3.params[j]? = some t → args[j]? = some v → Value.okWide Try.prog W .any base t v)
    (hW : DataW.Whole enc Try.prog Try.f3.params.toList Rows.certOwnSpec.vars false W args.toList ds gs before)
    (hsz0 : (DataW.weightsEach Try.prog (Try.f3.params.toList ++ Rows.certOwnSpec.plain.varTypes Try.prog) (ds ++ gs)).all (· ≤ reachBytes) = true) :
    Calls Try.prog 3 args W fun e W' => ∃ v, e = .returned v ∧ Rows.certOwnSpec.post enc Try.prog Try.f3 false true false false W args v W' := by
  have hval : ∀ (j : Nat) t v, Try.f3.params[j]? = some t → args[j]? = some v → Value.okWide Try.prog W .any base t v := hval0
  have hW' := hW
  obtain ⟨p, q, hA0, hV, rfl, hfz, hnd⟩ := hW
  have hA : DataW.TrodAll enc Try.prog W 0 (fun _ => true) true Try.f3.params.toList args.toList ds p := hA0
  have hsz := hsz0
  rw [Try.params3] at hA hval hsz
  obtain ⟨v0, vs0, d0, ds0, p0, q0, hargs, rfl, rfl, h0, r0⟩ := trodAll_cons hA
  obtain ⟨v1, vs1, d1, ds1, p1, q1, rfl, rfl, rfl, h1, r1⟩ := trodAll_cons r0
  obtain ⟨rfl, rfl, rfl⟩ := trodAll_nil r1
  obtain rfl : args = #[v0, v1] := by cases args; simp_all
  obtain ⟨rfl, rfl⟩ := trodVars_none hV
  have t0 := h0
  have lt0 : ∀ x ∈ p0, x.block < W.heap.size := by obtain ⟨m, hm⟩ := t0; exact DataW.trod_lt m _ _ _ hm
  have t1 := h1
  have lt1 : ∀ x ∈ p1, x.block < W.heap.size := by obtain ⟨m, hm⟩ := t1; exact DataW.trod_lt m _ _ _ hm
  obtain ⟨a0, K0, ok0, wt0, bk0⟩ := zgo (zeg Try.underlying9) h0
  have wq0 := wt0 (fun n hn => of_decide_eq_true (List.all_eq_true.1 hsz n (DataW.weights_mem_each (j := 0) (t := (zbj 9).t) (d := d0) rfl rfl n hn)))
  obtain ⟨a0', rfl, rfl, rfl, y0⟩ := open_string Try.underlying9 (hval 0 9 v0 rfl rfl) h0
  have e0 : a0' = a0 := by have := K0; simpa [zhZ, zhi, zbj, Kd.int, Kd.bool, Kd.string, Kd.scalar, Value.cells] using this
  subst e0
  obtain ⟨a1, K1, ok1, wt1, bk1⟩ := zgo (zeg Try.underlying9) h1
  have wq1 := wt1 (fun n hn => of_decide_eq_true (List.all_eq_true.1 hsz n (DataW.weights_mem_each (j := 1) (t := (zbj 9).t) (d := d1) rfl rfl n hn)))
  obtain ⟨a1', rfl, rfl, rfl, y1⟩ := open_string Try.underlying9 (hval 1 9 v1 rfl rfl) h1
  have e1 : a1' = a1 := by have := K1; simpa [zhZ, zhi, zbj, Kd.int, Kd.bool, Kd.string, Kd.scalar, Value.cells] using this
  subst e1
  have hkk := Pure.CertOwn a0' a1' ok0 ok1 wq0 wq1
  refine (zar.calls a0' a1' true W  hkk).mono fun e W' ⟨he, bel0⟩ => ?_
  have bel := bel0
  subst he
  exact ⟨_, rfl, _, _, _, [], _, [], hW', trodAll_mk1 (shut_bool Try.underlying4 _), (trodAll_cons_mk (Below.trod laidOut (by kernel_rfl) (of_decide_eq_true (by kernel_rfl)) t0 bel lt0) (trodAll_cons_mk (Below.trod laidOut (by kernel_rfl) (of_decide_eq_true (by kernel_rfl)) t1 bel lt1) trodAll_mk0)), rfl, bel.frame _, fun h => by cases h⟩
set_option maxRecDepth 100000 in
theorem lifted (os : Os) (started : os.Started) (H : Type) (enc : TypeId × Value → H) :
    ReturnsInHanded {} Try.checked os 3 .any (Rows.certOwnSpec.pre6 enc Try.prog Try.f3 Rows.certOwnRow.domain false) (Rows.certOwnSpec.post enc Try.prog Try.f3 false true false false) := by
  refine returnsInHanded_of_change_sized (C := Try.checked) own started (by kernel_rfl) Try.func3
    (ChangeSpec.witness6 (enc := enc) (C := Try.checked) false ⟨#[], #[.string ByteArray.empty, .string ByteArray.empty], []⟩ 8 (by kernel_rfl) (by kernel_rfl) (by kernel_rfl) (by kernel_rfl)) ?_
  intro W base args ds gs before hval hW _ hsz _
  exact contract H enc W base args ds gs before hval hW hsz
theorem proved : Rows.CertOwnSaid :=
  OpenClaim.holds_of_wide 3 Try.f3 rfl rfl rfl rfl rfl rfl rfl ⟨rfl, rfl, rfl, rfl, rfl⟩ rfl rfl rfl rfl rfl (by kernel_rfl) Try.func3 (by kernel_rfl)
    (of_decide_eq_true (by kernel_rfl)) (by unfold Func.isWrapper; first | (rw [if_pos (by decide +kernel)]; kernel_rfl) | (rw [if_neg (by decide +kernel)]; exact ⟨rfl, rfl⟩))
    (fun os started H enc _ => lifted os started H enc)
#print axioms proved
end Go.Proofs.Ytlabjgcoopdbiaa.certOwn
namespace Go.Proofs.Ytlabjgcoopdbiaa
theorem certOwn_holds : Rows.CertOwnSaid := certOwn.proved
end Go.Proofs.Ytlabjgcoopdbiaa
