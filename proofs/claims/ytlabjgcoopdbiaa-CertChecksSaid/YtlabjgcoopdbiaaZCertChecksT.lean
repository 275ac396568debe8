/- Part 20 of 32 of the proof of the law CertChecks: what is proved is the statement at the end of the last part; its conditions are those of the given row. -/
import Derived.Test.YtlabjgcoopdbiaaZCertChecksS
namespace Go.Proofs.Ytlabjgcoopdbiaa.Px
open Go.RowKit Go.Proofs.YtlabjgcoopdbiaaW.PrintWords Go.Proofs.YtlabjgcoopdbiaaW.PrintLast Go.Proofs.YtlabjgcoopdbiaaW.PrintMore
attribute [local go_sem] zC zE zK zL zw zx zD zF
set_option linter.unusedVariables false
set_option linter.unusedSimpArgs false
theorem zea (n : Int) : zan.f n = some (zdq n) := by
  unfold zan.f zdq
  by_cases h4 : n = 4
  · subst h4; rfl
  · rw [if_neg h4]
    by_cases h : n > 4
    · rw [if_pos h]
      by_cases h1 : n ≤ 64
      · rw [if_pos h1, zah (by omega) (by omega), Int.tmod_eq_emod_of_nonneg (by omega)]
        by_cases h2 : n % 3 = 1
        · have : (n - 1) % 3 = 0 := by omega
          simp [h1, h2, this]; omega
        · have : ¬ (n - 1) % 3 = 0 := by omega
          simp [h2, this]
      · rw [if_neg h1]; simp [h1]
    · rw [if_neg h]
      have : ¬ 4 ≤ n := by omega
      simp [this]
theorem zdh (n : Int) : zV.f n = some (zbq n) := by
  unfold zV.f zbq
  rw [zea]
  simp only [Option.bind_some]
  by_cases h : zdq n = true
  · rw [if_pos h, if_pos h]
    obtain ⟨h1, h2, h3⟩ := (zcz n).1 h
    rw [zah (x := n - 1) (by omega) (by omega), Int.tdiv_eq_ediv_of_nonneg (by omega), zah (x := (n - 1) / 3) (by omega) (by omega), zah (by omega) (by omega)]
  · rw [if_neg h, if_neg h]
theorem zgg (a b : Int) : zad.f a b = some (zeJ a b) := by
  unfold zad.f zeJ
  by_cases h1 : 0 ≤ a <;> by_cases h2 : a < 10007 <;> by_cases h3 : 0 ≤ b <;> simp [h1, h2, h3]
theorem zfm (r : Int) : z6.f r = some (zcQ r) := by
  unfold z6.f zcQ
  by_cases h : r > 0
  · rw [if_pos h, Int.tmod_eq_emod_of_nonneg (by omega)]
    by_cases h2 : r % 3 = 0
    · have : 3 ≤ r := by omega
      simp [h2, this]
    · simp [h2]
  · rw [if_neg h]
    have : ¬ 3 ≤ r := by omega
    simp [this]
def zer (r x y : Int) : Bool := zeJ x y && (zcQ r || (decide (x = 0) && decide (y = 0)))
theorem zhf (a r : Int) (bs : List S68) (ps : List ByteArray) (x y : Int) (hl : ps.length < 4611686018427387904) (hp : ∀ t ∈ ps, t.size < 4611686018427387904) (d : Nat) : ∀ j, j + d = ps.length →
    Ev (fun k => zm.l1 k (j : Int) a r bs ps x y) (zba ps d j && zer r x y) := by
  induction d with
  | zero =>
    intro j hj
    refine Ev.step (fun k => by rw [zm.l1]) ?_
    refine zab (by omega) (z8 (zgg x y) (z8 (zfm r) ?_))
    unfold zer
    by_cases h1 : zeJ x y = true
    · refine zN h1 ?_
      by_cases h2 : zcQ r = true
      · exact zN h2 (zaF (Ev.now _) (by simp [zba, h1, h2]))
      · refine zab h2 ?_
        by_cases h3 : x = 0
        · refine zN h3 (zaF (Ev.now _) ?_)
          rw [Bool.not_eq_true] at h2
          subst h3
          by_cases h4 : y = 0
          · subst h4; simp [zba, h1, h2]
          · simp [zba, h1, h2, h4]
        · rw [Bool.not_eq_true] at h2
          exact zab h3 (zaF (Ev.now _) (by simp [zba, h2, h3]))
    · rw [Bool.not_eq_true] at h1
      exact zab (by rw [h1]; simp) (zaF (Ev.now _) (by simp [zba, h1]))
  | succ d ih =>
    intro j hj
    have hj' : j < ps.length := by omega
    refine Ev.step (fun k => by rw [zm.l1]) ?_
    refine zN (by omega) (zN (by omega) ?_)
    have e1 : zJ ByteArray.empty ps (j : Int) = ps.getD j ByteArray.empty := by rw [zJ, Int.toNat_natCast]
    rw [e1]
    by_cases h : (ps.getD j ByteArray.empty).size = 32
    · refine zN (by omega) ?_
      rw [zah (x := (j : Int) + 1) (by omega) (by omega)]
      by_cases h0 : j = 0
      · subst h0
        refine zab (by omega) (zaF (ih 1 (by omega)) ?_)
        simp only [zba, zfH, h]; simp
      · refine zN (by omega) ?_
        have e2 : wrap64 ((j : Int) - 1) = ((j - 1 : Nat) : Int) := by rw [zah (by omega) (by omega)]; omega
        rw [e2]
        refine zN (by omega) (zN (by omega) ?_)
        have e3 : zJ ByteArray.empty ps ((j - 1 : Nat) : Int) = ps.getD (j - 1) ByteArray.empty := by rw [zJ, Int.toNat_natCast]
        rw [e3]
        have hsz : (ps.getD (j - 1) ByteArray.empty).size < 4611686018427387904 := by
          rw [List.getD_eq_getElem?_getD, List.getElem?_eq_getElem (show j - 1 < ps.length by omega)]
          exact hp _ (List.getElem_mem _)
        refine Ev.bind (ziK _ _ hsz) ?_
        by_cases h2 : zdp (ofB (ps.getD (j - 1) ByteArray.empty)) (ofB (ps.getD j ByteArray.empty)) = true
        · refine zN h2 (zaF (ih (j + 1) (by omega)) ?_)
          simp only [zba, zfH, h, h2]; simp
        · refine zab h2 (zaF (Ev.now _) ?_)
          rw [Bool.not_eq_true] at h2
          simp only [zba, zfH, h, h0, h2]; simp
    · refine zab (by omega) (zaF (Ev.now _) ?_)
      simp only [zba, zfH, h]; simp
def zeV (r : Int) (ps : List ByteArray) (x y n : Int) : Bool :=
  !(decide (r = 1) && decide (0 < ps.length)) && !(decide (1 < r) && (decide ((ps.length : Int) < zbq n) || decide (n < ps.length))) && (zba ps ps.length 0 && zer r x y)
theorem zhe (a r : Int) (bs : List S68) (ps : List ByteArray) (x y n : Int) (hb : bs.length < 4611686018427387904) (hbs : ∀ b ∈ bs, b.f2.length < 4611686018427387904) (hl : ps.length < 4611686018427387904) (hp : ∀ t ∈ ps, t.size < 4611686018427387904) (d : Nat) : ∀ j, j + d = bs.length →
    Ev (fun k => zm.l0 k n (j : Int) a r bs ps x y) (!(bs.drop j).any (zcD n) && zeV r ps x y n) := by
  induction d with
  | zero =>
    intro j hj
    refine Ev.step (fun k => by rw [zm.l0]) ?_
    rw [List.drop_eq_nil_of_le (by omega)]
    refine zab (by omega) ?_
    have J3 : ∀ b : Bool, Ev (fun k => zm.j3 k b a r bs ps x y) (!b && (zba ps ps.length 0 && zer r x y)) := by
      intro b
      refine Ev.step (fun k => by rw [zm.j3]) ?_
      rcases b with _ | _
      · exact zab (by simp) (zaF (zhf a r bs ps x y hl hp ps.length 0 (by omega)) (by simp))
      · exact zN rfl (zaF (Ev.now _) (by simp))
    have J2 : ∀ b : Bool, Ev (fun k => zm.j2 k n b a r bs ps x y) (!b && (!(decide (1 < r) && (decide ((ps.length : Int) < zbq n) || decide (n < ps.length))) && (zba ps ps.length 0 && zer r x y))) := by
      intro b
      refine Ev.step (fun k => by rw [zm.j2]) ?_
      rcases b with _ | _
      · refine zab (by simp) ?_
        by_cases h : r > 1
        · have h' : 1 < r := h
          refine zN h (z8 (zdh n) ?_)
          by_cases h2 : (ps.length : Int) < zbq n
          · exact zN h2 (zaF (J3 true) (by simp [h', h2]))
          · exact zab h2 (zaF (J3 _) (by simp [h', h2]))
        · have h' : ¬ 1 < r := h
          exact zab h (zaF (J3 false) (by simp [h']))
      · exact zN rfl (zaF (Ev.now _) (by simp))
    unfold zeV
    by_cases h : r = 1
    · refine zN h (zaF (J2 _) ?_)
      subst h
      by_cases h0 : 0 < ps.length
      · have : decide ((ps.length : Int) > 0) = true := decide_eq_true (by omega)
        simp [this, h0]
      · have : decide ((ps.length : Int) > 0) = false := decide_eq_false (by omega)
        simp [this, h0]
    · exact zab h (zaF (J2 false) (by simp [h]))
  | succ d ih =>
    intro j hj
    have hj' : j < bs.length := by omega
    refine Ev.step (fun k => by rw [zm.l0]) ?_
    refine zN (by omega) (zN (by omega) ?_)
    rw [zcH bs j hj', zah (by omega) (by omega), List.drop_eq_getElem_cons hj', List.any_cons]
    refine Ev.bind (zfS _ _ _ (hbs _ (List.getElem_mem hj'))) ?_
    by_cases h : zcM bs[j].f0 bs[j].f1 bs[j].f2 = true
    · refine zN h ?_
      by_cases h2 : bs[j].f0 > n
      · have h3 : n < bs[j].f0 := h2
        exact zN h2 (zaF (Ev.now _) (by simp [zcD, h3]))
      · have h3 : ¬ n < bs[j].f0 := h2
        refine zab h2 (zaF (ih (j + 1) (by omega)) ?_)
        have : zcD n bs[j] = false := by simp [zcD, h, h3]
        rw [this, Bool.false_or]
    · refine zab h (zaF (Ev.now _) ?_)
      rw [Bool.not_eq_true] at h
      simp [zcD, h]
theorem zig (a r : Int) (bs : List S68) (ps : List ByteArray) (x y n : Int) (h0 : zdq n = true) (h1 : 1 ≤ a) (h2 : a ≤ n) (h3 : 1 ≤ r) (h4 : r ≤ 1048576) (h5 : bs.length ≤ 4) :
    zbb a r bs ps x y n = (!bs.any (zcD n) && zeV r ps x y n) := by
  unfold zbb zeV zbP zer
  simp only [h0, h1, h2, h3, h4, h5]
  by_cases e : r = 1
  · subst e
    rcases ps with _ | ⟨p, ps⟩
    · simp [zba, Bool.and_assoc]
    · simp
  · have h6 : 1 < r := by omega
    simp only [if_neg e, e, h6]
    have q1 : decide ((ps.length : Int) < zbq n) = !decide (zbq n ≤ (ps.length : Int)) := by
      by_cases q : zbq n ≤ (ps.length : Int) <;> simp [q] <;> omega
    have q2 : decide (n < (ps.length : Int)) = !decide ((ps.length : Int) ≤ n) := by
      by_cases q : (ps.length : Int) ≤ n <;> simp [q] <;> omega
    rw [q1, q2]
    cases bs.any (zcD n) <;> cases zeJ x y <;> cases zcQ r <;> cases zba ps ps.length 0 <;> cases decide (zbq n ≤ (ps.length : Int)) <;> cases decide ((ps.length : Int) ≤ n) <;> simp
theorem zfo (a r : Int) (bs : List S68) (ps : List ByteArray) (x y n : Int) (hb : bs.length < 4611686018427387904) (hbs : ∀ b ∈ bs, b.f2.length < 4611686018427387904) (hl : ps.length < 4611686018427387904) (hp : ∀ t ∈ ps, t.size < 4611686018427387904) :
    Ev (fun k => zm.f k a r bs ps x y n) (zbb a r bs ps x y n) := by
  have key : ∀ b : Bool, (b = true ↔ ¬ (zdq n = true ∧ 1 ≤ a ∧ a ≤ n ∧ 1 ≤ r ∧ r ≤ 1048576 ∧ bs.length ≤ 4)) → Ev (fun k => zm.j0 k n b a r bs ps x y) (zbb a r bs ps x y n) := by
    intro b hb'
    refine Ev.step (fun k => by rw [zm.j0]) ?_
    by_cases h : zdq n = true ∧ 1 ≤ a ∧ a ≤ n ∧ 1 ≤ r ∧ r ≤ 1048576 ∧ bs.length ≤ 4
    · refine zab (fun hh => hb'.1 hh h) (zaF (zhe a r bs ps x y n hb hbs hl hp bs.length 0 (by omega)) ?_)
      obtain ⟨h0, h1, h2, h3, h4, h5⟩ := h
      rw [zig a r bs ps x y n h0 h1 h2 h3 h4 h5, List.drop_zero]
    · refine zN (hb'.2 h) (zaF (Ev.now _) ?_)
      symm
      rw [← Bool.not_eq_true, zcs]
      exact fun ⟨h0, h1, h2, h3, h4, h5, _⟩ => h ⟨h0, h1, h2, h3, h4, h5⟩
  refine z8 (zea n) ?_
  by_cases h0 : zdq n = true
  · refine zN h0 ?_
    by_cases h1 : a < 1
    · exact zN h1 (key true (by simp; omega))
    refine zab h1 ?_
    by_cases h2 : a > n
    · exact zN h2 (key true (by simp; omega))
    refine zab h2 ?_
    by_cases h3 : r < 1
    · exact zN h3 (key true (by simp; omega))
    refine zab h3 ?_
    by_cases h4 : r > 1048576
    · exact zN h4 (key true (by simp; omega))
    exact zab h4 (key _ (by simp [h0]; omega))
  · exact zab h0 (key true (by simp [h0]))
end Go.Proofs.Ytlabjgcoopdbiaa.Px

namespace Go.Proofs.Ytlabjgcoopdbiaa.Px
open Go.RowKit Go.Proofs.YtlabjgcoopdbiaaW.PrintWords Go.Proofs.YtlabjgcoopdbiaaW.PrintLast Go.Proofs.YtlabjgcoopdbiaaW.PrintMore
attribute [local go_sem] zC zE zK zL zw zx zD zF
set_option linter.unusedVariables false
set_option linter.unusedSimpArgs false
def zbm : Nat → Nat → Nat
  | 0, _ => 0
  | d + 1, s => s % 2 + zbm d (s / 2)
theorem zb7 : ∀ (d s : Nat), zbm d s ≤ d
  | 0, _ => Nat.le_refl _
  | d + 1, s => by have := zb7 d (s / 2); rw [zbm]; omega
theorem zct : ∀ (d e b r : Nat), b < 2 ^ d → zbm (d + e) (b + 2 ^ d * r) = zbm d b + zbm e r
  | 0, e, b, r, h => by
    obtain rfl : b = 0 := by simpa using h
    rw [Nat.zero_add, Nat.zero_add, Nat.pow_zero, Nat.one_mul]; simp [zbm]
  | d + 1, e, b, r, h => by
    rw [Nat.pow_succ] at h
    have e1 : (b + 2 ^ (d + 1) * r) / 2 = b / 2 + 2 ^ d * r := by
      rw [Nat.pow_succ, Nat.mul_assoc, Nat.mul_left_comm, Nat.add_mul_div_left _ _ (by omega)]
    have e2 : (b + 2 ^ (d + 1) * r) % 2 = b % 2 := by
      rw [Nat.pow_succ, Nat.mul_assoc, Nat.mul_left_comm, Nat.add_mul_mod_self_left]
    rw [show d + 1 + e = (d + e) + 1 by omega, zbm, zbm, e1, e2, zct d e (b / 2) r (by omega)]
    omega
def zaE : List Nat → Nat
  | [] => 0
  | b :: l => b + 256 * zaE l
theorem zdm (a b c d : Nat) (hb : b < 256) (hd : d < 256) : (b + 256 * a) &&& (d + 256 * c) = (b &&& d) + 256 * (a &&& c) := by
  have hx : b &&& d < 2 ^ 8 := Nat.and_lt_two_pow _ (by omega)
  apply Nat.eq_of_testBit_eq
  intro i
  rw [Nat.testBit_and, Nat.add_comm b, Nat.add_comm d, Nat.add_comm (b &&& d)]
  rw [show (256 : Nat) = 2 ^ 8 from rfl, Nat.testBit_two_pow_mul_add _ (by omega), Nat.testBit_two_pow_mul_add _ (by omega), Nat.testBit_two_pow_mul_add _ hx]
  split <;> rw [Nat.testBit_and]
theorem low_1 : ∀ (b : Fin 256) (t : Fin 2), (b.val / 2 + 128 * t.val) &&& 85 = b.val / 2 &&& 85 := by decide +kernel
theorem low_2 : ∀ (b : Fin 256) (t : Fin 4), (b.val / 4 + 64 * t.val) &&& 51 = b.val / 4 &&& 51 := by decide +kernel
def zdI (b : Nat) : Nat := (b / 2 &&& 85) + (b &&& 85)
def zeL (b : Nat) : Nat := (b / 4 &&& 51) + (b &&& 51)
def ziN (b : Nat) : Nat := b % 16 + b / 16
theorem zff : ∀ b : Fin 256, zdI b.val < 256 ∧ zeL (zdI b.val) < 256 ∧ zeL (zdI b.val) % 16 ≤ 4 ∧ zeL (zdI b.val) / 16 ≤ 4 ∧ ziN (zeL (zdI b.val)) = zbm 8 b.val := by decide +kernel
theorem zh6 : ∀ l : List Nat, (∀ b ∈ l, b < 256) → (zaE l / 2 &&& zaE (List.replicate l.length 85)) + (zaE l &&& zaE (List.replicate l.length 85)) = zaE (l.map zdI)
  | [], _ => rfl
  | b :: l, h => by
    have hb := h b List.mem_cons_self
    have ih := zh6 l (fun c hc => h c (List.mem_cons_of_mem _ hc))
    have k := low_1 ⟨b, hb⟩ ⟨zaE l % 2, Nat.mod_lt _ (by omega)⟩
    simp only at k
    rw [List.length_cons, List.replicate_succ, zaE, zaE, List.map_cons, zaE, ← ih]
    rw [show (b + 256 * zaE l) / 2 = (b / 2 + 128 * (zaE l % 2)) + 256 * (zaE l / 2) by omega, zdm _ _ _ _ (by omega) (by omega), zdm _ _ _ _ hb (by omega), k, zdI]
    omega
theorem zh7 : ∀ l : List Nat, (∀ b ∈ l, b < 256) → (zaE l / 4 &&& zaE (List.replicate l.length 51)) + (zaE l &&& zaE (List.replicate l.length 51)) = zaE (l.map zeL)
  | [], _ => rfl
  | b :: l, h => by
    have hb := h b List.mem_cons_self
    have ih := zh7 l (fun c hc => h c (List.mem_cons_of_mem _ hc))
    have k := low_2 ⟨b, hb⟩ ⟨zaE l % 4, Nat.mod_lt _ (by omega)⟩
    simp only at k
    rw [List.length_cons, List.replicate_succ, zaE, zaE, List.map_cons, zaE, ← ih]
    rw [show (b + 256 * zaE l) / 4 = (b / 4 + 64 * (zaE l % 4)) + 256 * (zaE l / 4) by omega, zdm _ _ _ _ (by omega) (by omega), zdm _ _ _ _ hb (by omega), k, zeL]
    omega
theorem zh9 (l : List Nat) (h : ∀ b ∈ l, b % 16 ≤ 4 ∧ b / 16 ≤ 4) : zaE l % 16 ≤ 4 := by
  cases l with
  | nil => simp [zaE]
  | cons b l => have := (h b List.mem_cons_self).1; rw [zaE]; omega
theorem zh8 : ∀ l : List Nat, (∀ b ∈ l, b % 16 ≤ 4 ∧ b / 16 ≤ 4) → ((zaE l / 16 + zaE l) &&& zaE (List.replicate l.length 15)) = zaE (l.map ziN)
  | [], _ => rfl
  | b :: l, h => by
    obtain ⟨h1, h2⟩ := h b List.mem_cons_self
    have hl := fun c hc => h c (List.mem_cons_of_mem b hc)
    have ih := zh8 l hl
    have k := zh9 l hl
    rw [List.length_cons, List.replicate_succ, zaE, zaE, List.map_cons, zaE, ← ih]
    rw [show (b + 256 * zaE l) / 16 + (b + 256 * zaE l) = (b / 16 + 16 * (zaE l % 16) + b) + 256 * (zaE l / 16 + zaE l) by omega, zdm _ _ _ _ (by omega) (by omega)]
    rw [show (15 : Nat) = 2 ^ 4 - 1 from rfl, Nat.and_two_pow_sub_one_eq_mod, ziN]
    omega
theorem zf8 : ∀ l : List Nat, (∀ b ∈ l, b < 256) → zaE l < 256 ^ l.length
  | [], _ => by simp [zaE]
  | b :: l, h => by
    have := zf8 l (fun c hc => h c (List.mem_cons_of_mem _ hc))
    have hb := h b List.mem_cons_self
    rw [zaE, List.length_cons, Nat.pow_succ]; omega
set_option maxRecDepth 10000 in
theorem zhp (m : Nat) : ∀ l : List Nat, (∀ b ∈ l, b ≤ m) → zaE l * 255 + m ≤ m * 256 ^ l.length
  | [], _ => by simp [zaE]
  | b :: l, h => by
    have := zhp m l (fun c hc => h c (List.mem_cons_of_mem _ hc))
    have hb := h b List.mem_cons_self
    rw [zaE, List.length_cons, Nat.pow_succ, ← Nat.mul_assoc]
    generalize m * 256 ^ l.length = X at *
    omega
theorem zdF (a b : Nat) (h : a + b < 18446744073709551616) : IntKind.u64.wrap ((a : Int) + (b : Int)) = ((a + b : Nat) : Int) := by
  rw [zbi (by omega) (by omega)]; omega
theorem pop_e2 {q0 q1 q2 r1 r2 r3 z : Nat} (g0 : q0 ≤ 8) (g1 : q1 ≤ 8) (g2 : q2 ≤ 8) (e0 : z = q0 + 256 * r1) (e1 : r1 = q1 + 256 * r2) (e2 : r2 = q2 + 256 * r3) : z / 256 = r1 ∧ (z + r1) / 65536 = r2 + r3 := by
  constructor <;> omega
theorem pop_e3 {q0 q1 q2 q3 q4 q5 q6 q7 r1 r2 r3 r4 r5 r6 z : Nat} (g0 : q0 ≤ 8) (g1 : q1 ≤ 8) (g2 : q2 ≤ 8) (g3 : q3 ≤ 8) (g4 : q4 ≤ 8) (g5 : q5 ≤ 8) (g6 : q6 ≤ 8) (e0 : z = q0 + 256 * q1 + 65536 * q2 + 16777216 * q3 + 4294967296 * r4) (e1 : r1 = q1 + 256 * q2 + 65536 * q3 + 16777216 * q4 + 4294967296 * r5) (e2 : r2 = q2 + 256 * q3 + 65536 * q4 + 16777216 * q5 + 4294967296 * r6) (e3 : r3 = q3 + 256 * q4 + 65536 * q5 + 16777216 * q6 + 4294967296 * q7) :
    (z + r1 + (r2 + r3)) / 4294967296 = r4 + r5 + r6 + q7 := by
  generalize hx : q0 + 256 * q1 + 65536 * q2 + 16777216 * q3 = x at *
  have lx : x ≤ 134744072 := by omega
  generalize hy : q1 + 256 * q2 + 65536 * q3 + 16777216 * q4 = y at *
  have ly : y ≤ 134744072 := by omega
  generalize hu : q2 + 256 * q3 + 65536 * q4 + 16777216 * q5 = u at *
  have lu : u ≤ 134744072 := by omega
  generalize hv : q3 + 256 * q4 + 65536 * q5 + 16777216 * q6 = v at *
  have lv : v ≤ 134744072 := by omega
  clear hx hy hu hv g0 g1 g2 g3 g4 g5 g6
  omega
theorem ziO (q0 q1 q2 q3 q4 q5 q6 q7 z z1 z2 z3 : Nat) (g0 : q0 ≤ 8) (g1 : q1 ≤ 8) (g2 : q2 ≤ 8) (g3 : q3 ≤ 8) (g4 : q4 ≤ 8) (g5 : q5 ≤ 8) (g6 : q6 ≤ 8) (g7 : q7 ≤ 8)
    (hz : z = q0 + 256 * (q1 + 256 * (q2 + 256 * (q3 + 256 * (q4 + 256 * (q5 + 256 * (q6 + 256 * q7))))))) (h1 : z1 = z + z / 256) (h2 : z2 = z1 + z1 / 65536) (h3 : z3 = z2 + z2 / 4294967296) :
    z3 % 128 = q0 + (q1 + (q2 + (q3 + (q4 + (q5 + (q6 + q7)))))) := by
  obtain ⟨r6, e6⟩ : ∃ r, r = q6 + 256 * q7 := ⟨_, rfl⟩
  obtain ⟨r5, e5⟩ : ∃ r, r = q5 + 256 * r6 := ⟨_, rfl⟩
  obtain ⟨r4, e4⟩ : ∃ r, r = q4 + 256 * r5 := ⟨_, rfl⟩
  obtain ⟨r3, e3⟩ : ∃ r, r = q3 + 256 * r4 := ⟨_, rfl⟩
  obtain ⟨r2, e2⟩ : ∃ r, r = q2 + 256 * r3 := ⟨_, rfl⟩
  obtain ⟨r1, e1⟩ : ∃ r, r = q1 + 256 * r2 := ⟨_, rfl⟩
  rw [← e6, ← e5, ← e4, ← e3, ← e2, ← e1] at hz
  obtain ⟨a1, a2⟩ := pop_e2 g0 g1 g2 hz e1 e2
  rw [a1] at h1
  rw [h1, a2] at h2
  have a3 := pop_e3 (z := z) (q7 := q7) (r1 := r1) (r2 := r2) (r3 := r3) (r4 := r4) (r5 := r5) (r6 := r6) g0 g1 g2 g3 g4 g5 g6 (by rw [hz, e1, e2, e3]; omega) (by rw [e1, e2, e3, e4]; omega) (by rw [e2, e3, e4, e5]; omega) (by rw [e3, e4, e5, e6]; omega)
  rw [h2, a3] at h3
  clear a1 a2 a3 h1 h2
  omega
set_option maxHeartbeats 1000000 in
theorem zdH (x : Nat) (hx : x < 18446744073709551616) : za4.f (x : Int) = some ((zbm 64 x : Nat) : Int) := by
  obtain ⟨b0, b1, b2, b3, b4, b5, b6, b7, h0, h1, h2, h3, h4, h5, h6, h7, e⟩ : ∃ b0 b1 b2 b3 b4 b5 b6 b7 : Nat, b0 < 256 ∧ b1 < 256 ∧ b2 < 256 ∧ b3 < 256 ∧ b4 < 256 ∧ b5 < 256 ∧ b6 < 256 ∧ b7 < 256 ∧ x = zaE [b0, b1, b2, b3, b4, b5, b6, b7] :=
    ⟨x % 256, x / 256 % 256, x / 65536 % 256, x / 16777216 % 256, x / 4294967296 % 256, x / 1099511627776 % 256, x / 281474976710656 % 256, x / 72057594037927936, by omega, by omega, by omega, by omega, by omega, by omega, by omega, by omega, by simp only [zaE]; omega⟩
  generalize hl : [b0, b1, b2, b3, b4, b5, b6, b7] = l at e
  have hlen : l.length = 8 := by rw [← hl]; rfl
  have hb : ∀ b ∈ l, b < 256 := by rw [← hl]; simp only [List.mem_cons, List.not_mem_nil, or_false]; rintro b (rfl | rfl | rfl | rfl | rfl | rfl | rfl | rfl) <;> assumption
  have q1 := zh6 l hb
  have hb1 : ∀ b ∈ l.map zdI, b < 256 := fun b hm => by obtain ⟨c, hc, rfl⟩ := List.mem_map.1 hm; exact (zff ⟨c, hb c hc⟩).1
  have q2 := zh7 (l.map zdI) hb1
  have hb2 : ∀ b ∈ (l.map zdI).map zeL, b % 16 ≤ 4 ∧ b / 16 ≤ 4 := fun b hm => by
    obtain ⟨c, hc, rfl⟩ := List.mem_map.1 hm
    obtain ⟨d, hd, rfl⟩ := List.mem_map.1 hc
    have := zff ⟨d, hb d hd⟩
    exact ⟨this.2.2.1, this.2.2.2.1⟩
  have q3 := zh8 ((l.map zdI).map zeL) hb2
  have e4 : ((l.map zdI).map zeL).map ziN = l.map (zbm 8) := by
    rw [List.map_map, List.map_map]
    refine List.map_congr_left (fun c hc => ?_)
    exact (zff ⟨c, hb c hc⟩).2.2.2.2
  rw [e4] at q3
  rw [List.length_map] at q2
  rw [List.length_map, List.length_map] at q3
  rw [hlen] at q1 q2 q3
  have p8 : (256 : Nat) ^ 8 = 18446744073709551616 := by decide
  have l1 := zf8 _ hb1
  rw [List.length_map, hlen, p8] at l1
  have l2 := zf8 ((l.map zdI).map zeL) (fun b hm => by have := hb2 b hm; omega)
  rw [List.length_map, List.length_map, hlen, p8] at l2
  have l2' := zhp 68 ((l.map zdI).map zeL) (fun b hm => by have := hb2 b hm; omega)
  rw [List.length_map, List.length_map, hlen, p8] at l2'
  rw [show zaE (List.replicate 8 85) = 6148914691236517205 from rfl, ← e] at q1
  rw [show zaE (List.replicate 8 51) = 3689348814741910323 from rfl] at q2
  rw [show zaE (List.replicate 8 15) = 1085102592571150095 from rfl] at q3
  generalize zaE (l.map zdI) = y1 at *
  generalize zaE ((l.map zdI).map zeL) = y2 at *
  have hz : zaE (l.map (zbm 8)) = zbm 8 b0 + 256 * (zbm 8 b1 + 256 * (zbm 8 b2 + 256 * (zbm 8 b3 + 256 * (zbm 8 b4 + 256 * (zbm 8 b5 + 256 * (zbm 8 b6 + 256 * zbm 8 b7)))))) := by rw [← hl]; simp only [List.map, zaE, Nat.mul_zero, Nat.add_zero]
  have hp : zbm 64 x = zbm 8 b0 + (zbm 8 b1 + (zbm 8 b2 + (zbm 8 b3 + (zbm 8 b4 + (zbm 8 b5 + (zbm 8 b6 + zbm 8 b7)))))) := by
    rw [e, ← hl]
    simp only [zaE, Nat.mul_zero, Nat.add_zero]
    rw [show (64 : Nat) = 8 + 56 from rfl, show (256 : Nat) = 2 ^ 8 from rfl, zct _ _ _ _ h0, show (56 : Nat) = 8 + 48 from rfl, zct _ _ _ _ h1, show (48 : Nat) = 8 + 40 from rfl, zct _ _ _ _ h2, show (40 : Nat) = 8 + 32 from rfl, zct _ _ _ _ h3, show (32 : Nat) = 8 + 24 from rfl, zct _ _ _ _ h4, show (24 : Nat) = 8 + 16 from rfl, zct _ _ _ _ h5, show (16 : Nat) = 8 + 8 from rfl, zct _ _ _ _ h6]
  have g0 := zb7 8 b0
  have g1 := zb7 8 b1
  have g2 := zb7 8 b2
  have g3 := zb7 8 b3
  have g4 := zb7 8 b4
  have g5 := zb7 8 b5
  have g6 := zb7 8 b6
  have g7 := zb7 8 b7
  generalize zaE (l.map (zbm 8)) = z at *
  have d2 : (x : Int) / 2 = ((x / 2 : Nat) : Int) := by omega
  have d4 : (y1 : Int) / 4 = ((y1 / 4 : Nat) : Int) := by omega
  have d16 : (y2 : Int) / 16 = ((y2 / 16 : Nat) : Int) := by omega
  have i1 : IntKind.u64.wrap (Go.bits .and .u64 ((x : Int) / 2) 6148914691236517205 + Go.bits .and .u64 (x : Int) 6148914691236517205) = (y1 : Int) := by
    have k1 : Go.bits .and .u64 ((x / 2 : Nat) : Int) 6148914691236517205 = ((x / 2 &&& 6148914691236517205 : Nat) : Int) := u64_and_nat (x / 2) 6148914691236517205 (by omega) (by omega)
    have k2 : Go.bits .and .u64 (x : Int) 6148914691236517205 = ((x &&& 6148914691236517205 : Nat) : Int) := u64_and_nat x 6148914691236517205 hx (by omega)
    rw [d2, k1, k2, zdF _ _ (by rw [q1]; exact l1), q1]
  have i2 : IntKind.u64.wrap (Go.bits .and .u64 ((y1 : Int) / 4) 3689348814741910323 + Go.bits .and .u64 (y1 : Int) 3689348814741910323) = (y2 : Int) := by
    have k1 : Go.bits .and .u64 ((y1 / 4 : Nat) : Int) 3689348814741910323 = ((y1 / 4 &&& 3689348814741910323 : Nat) : Int) := u64_and_nat (y1 / 4) 3689348814741910323 (by omega) (by omega)
    have k2 : Go.bits .and .u64 (y1 : Int) 3689348814741910323 = ((y1 &&& 3689348814741910323 : Nat) : Int) := u64_and_nat y1 3689348814741910323 l1 (by omega)
    rw [d4, k1, k2, zdF _ _ (by rw [q2]; exact l2), q2]
  have l3 : y2 / 16 + y2 < 18446744073709551616 := by omega
  have i3 : Go.bits .and .u64 (IntKind.u64.wrap ((y2 : Int) / 16 + (y2 : Int))) 1085102592571150095 = (z : Int) := by
    have k1 : Go.bits .and .u64 ((y2 / 16 + y2 : Nat) : Int) 1085102592571150095 = ((y2 / 16 + y2 &&& 1085102592571150095 : Nat) : Int) := u64_and_nat (y2 / 16 + y2) 1085102592571150095 l3 (by omega)
    rw [d16, zdF _ _ l3, k1, q3]
  unfold za4.f
  rw [i1, i2, i3]
  have i4 : IntKind.u64.wrap ((z : Int) + (z : Int) / 256) = ((z + z / 256 : Nat) : Int) := by
    rw [show (z : Int) / 256 = ((z / 256 : Nat) : Int) by omega]; exact zdF _ _ (by omega)
  rw [i4]
  generalize hz1 : z + z / 256 = z1
  have i5 : IntKind.u64.wrap ((z1 : Int) + (z1 : Int) / 65536) = ((z1 + z1 / 65536 : Nat) : Int) := by
    rw [show (z1 : Int) / 65536 = ((z1 / 65536 : Nat) : Int) by omega]; exact zdF _ _ (by omega)
  rw [i5]
  generalize hz2 : z1 + z1 / 65536 = z2
  have i6 : IntKind.u64.wrap ((z2 : Int) + (z2 : Int) / 4294967296) = ((z2 + z2 / 4294967296 : Nat) : Int) := by
    rw [show (z2 : Int) / 4294967296 = ((z2 / 4294967296 : Nat) : Int) by omega]; exact zdF _ _ (by omega)
  rw [i6]
  generalize hz3 : z2 + z2 / 4294967296 = z3
  have l4 : z3 < 9223372036854775808 := by omega
  have i7 : Go.bits .and .i64 (wrap64 (z3 : Int)) 127 = ((z3 % 128 : Nat) : Int) := by
    rw [zah (by omega) (by omega)]
    have := bits_mask .i64 63 (by decide) (fun n h0 h1 => by rw [IntKind.wrap_i64]; omega) 7 (by decide) (z3 : Int) (by omega) (by omega)
    rw [show ((2 : Int) ^ 7 - 1) = 127 from rfl] at this
    rw [this]; omega
  rw [i7, hp]
  have hq : z3 % 128 = zbm 8 b0 + (zbm 8 b1 + (zbm 8 b2 + (zbm 8 b3 + (zbm 8 b4 + (zbm 8 b5 + (zbm 8 b6 + zbm 8 b7)))))) := ziO _ _ _ _ _ _ _ _ _ _ _ _ g0 g1 g2 g3 g4 g5 g6 g7 hz hz1.symm hz2.symm hz3.symm
  rw [hq]
end Go.Proofs.Ytlabjgcoopdbiaa.Px

namespace Go.Proofs.Ytlabjgcoopdbiaa.Px
open Go.RowKit Go.Proofs.YtlabjgcoopdbiaaW.PrintWords Go.Proofs.YtlabjgcoopdbiaaW.PrintLast Go.Proofs.YtlabjgcoopdbiaaW.PrintMore
attribute [local go_sem] zC zE zK zL zw zx zD zF
set_option linter.unusedVariables false
set_option linter.unusedSimpArgs false
def zbB (s : Nat) (n : Int) : Bool := decide (0 ≤ n) && decide (n ≤ 64) && decide (s < 2 ^ n.toNat)
theorem zbt (s : Nat) (n : Int) : zbB s n = true ↔ 0 ≤ n ∧ n ≤ 64 ∧ s < 2 ^ n.toNat := by
  unfold zbB; simp [and_assoc]
theorem zf6 (s p : Nat) (hp : 0 < p) : s / p = 0 ↔ s < p := by
  rw [Nat.div_eq_zero_iff]; omega
theorem zeN (s : Nat) (n : Int) : za0.f (s : Int) n = some (zbB s n) := by
  unfold za0.f
  by_cases h1 : n < 0
  · rw [if_pos h1]
    have : zbB s n = false := by rw [← Bool.not_eq_true, zbt]; omega
    rw [this]
  rw [if_neg h1]
  by_cases h2 : n > 64
  · rw [if_pos h2]
    have : zbB s n = false := by rw [← Bool.not_eq_true, zbt]; omega
    rw [this]
  rw [if_neg h2, zah (by omega) (by omega)]
  by_cases h3 : n > 0
  · obtain ⟨m, rfl⟩ : ∃ m : Nat, n = ((m + 1 : Nat) : Int) := ⟨(n - 1).toNat, by omega⟩
    have hm : mx (((m + 1 : Nat) : Int) - 1) 0 = (m : Int) := by unfold mx; split <;> omega
    have hs : shr .u64 ((s : Int) / 2) (m : Int) = ((s / 2 / 2 ^ m : Nat) : Int) := by
      unfold shr
      rw [Int.toNat_natCast, Nat.min_eq_left (by show m ≤ 64; omega), show (s : Int) / 2 = ((s / 2 : Nat) : Int) by omega]
      norm_cast
    have he : s / 2 / 2 ^ m = s / 2 ^ (m + 1) := by rw [Nat.div_div_eq_div_mul, Nat.pow_succ, Nat.mul_comm]
    rw [hm, hs, he]
    have key := zf6 s (2 ^ (m + 1)) (Nat.two_pow_pos _)
    by_cases h4 : s / 2 ^ (m + 1) = 0
    · rw [if_pos (by omega), if_pos h3]
      have : zbB s ((m + 1 : Nat) : Int) = true := by rw [zbt]; exact ⟨by omega, by omega, key.1 h4⟩
      rw [this]
    · rw [if_neg (by omega)]
      have : zbB s ((m + 1 : Nat) : Int) = false := by
        rw [← Bool.not_eq_true, zbt]
        exact fun hh => h4 (key.2 hh.2.2)
      rw [this]
  · obtain rfl : n = 0 := by omega
    have hm : mx ((0 : Int) - 1) 0 = 0 := by decide
    have hs : shr .u64 ((s : Int) / 2) 0 = (s : Int) / 2 := by unfold shr; simp
    have hw : zbB s 0 = decide (s = 0) := by
      rw [Bool.eq_iff_iff, zbt]; simp
    rw [hm, hs, hw]
    by_cases h4 : s = 0
    · subst h4; rfl
    · by_cases h5 : (s : Int) / 2 = 0
      · rw [if_pos h5, if_neg (by omega)]
        congr 1
        rw [Bool.eq_iff_iff]; simp
      · rw [if_neg h5]; simp [h4]
theorem zfr (s : Nat) (hs : s < 18446744073709551616) : za3.f (s : Int) = some ((zbm 64 s : Nat) : Int) := by
  unfold za3.f
  rw [zdH s hs]; rfl
def za9 : Nat → Nat → Nat → List Int
  | 0, _, _ => []
  | d + 1, id, s => (if s % 2 = 1 then [(id : Int)] else []) ++ za9 d (id + 1) (s / 2)
theorem zcq : ∀ d id s, (za9 d id s).length = zbm d s
  | 0, _, _ => rfl
  | d + 1, id, s => by
    rw [za9, zbm, List.length_append, zcq d]
    split
    · rename_i h; rw [h]; rfl
    · rename_i h; have : s % 2 = 0 := by omega
      rw [this]; rfl
theorem zg8 (d : Nat) : ∀ (id s : Nat) (acc : List Int), id + d = 65 → acc.length ≤ id → s < 18446744073709551616 → Ev (fun k => zT.l0 k (s : Int) acc (id : Int)) (acc ++ za9 d id s) := by
  induction d with
  | zero =>
    intro id s acc h ha hs
    refine Ev.step (fun k => by rw [zT.l0]) ?_
    exact zab (by omega) (zaF (Ev.now _) (by simp [za9]))
  | succ d ih =>
    intro id s acc h ha hs
    refine Ev.step (fun k => by rw [zT.l0]) ?_
    refine zN (by omega) ?_
    have e1 : IntKind.u64.wrap (Int.tdiv (s : Int) 2) = ((s / 2 : Nat) : Int) := by
      rw [Int.tdiv_eq_ediv_of_nonneg (by omega), zbi (by omega) (by omega)]; omega
    have e2 : wrap64 ((id : Int) + 1) = ((id + 1 : Nat) : Int) := by rw [zah (by omega) (by omega)]; omega
    have e3 : Int.tmod (s : Int) 2 = ((s % 2 : Nat) : Int) := by rw [Int.tmod_eq_emod_of_nonneg (by omega)]; omega
    rw [e1, e2, e3]
    by_cases hb : s % 2 = 1
    · refine zN (by omega) (zN (by omega) (zaF (ih (id + 1) (s / 2) (acc ++ [(id : Int)]) (by omega) (by rw [List.length_append]; simp; omega) (by omega)) ?_))
      rw [za9, if_pos hb, List.append_assoc]
    · refine zab (by omega) (zaF (ih (id + 1) (s / 2) acc (by omega) (by omega) (by omega)) ?_)
      rw [za9, if_neg hb, List.nil_append]
theorem zdX (s : Nat) (hs : s < 18446744073709551616) : Ev (fun k => zT.f k (s : Int)) (za9 64 1 s) :=
  zg8 64 1 s [] (by omega) (by simp) hs
theorem zgI (s : Nat) (hs : s < 18446744073709551616) : Ev (fun k => zar.f k (s : Int)) ((zbm 64 s : Nat) : Int) :=
  Ev.bind (zdX s hs) (zaF (Ev.now _) (by rw [zcq]))
theorem zdw : ∀ d id, za9 d id 0 = []
  | 0, _ => rfl
  | d + 1, id => by rw [za9, zdw d]; rfl
theorem zeB : ∀ d id s, s < 2 ^ d → 0 < s → ∃ t : Nat, (za9 d id s).getLast? = some ((id + t : Nat) : Int) ∧ 2 ^ t ≤ s ∧ s < 2 ^ (t + 1)
  | 0, _, s, h, h0 => by simp at h; omega
  | d + 1, id, s, h, h0 => by
    rw [Nat.pow_succ] at h
    rcases Nat.eq_zero_or_pos (s / 2) with hz | hz
    · refine ⟨0, ?_, by show 1 ≤ s; omega, by simp; omega⟩
      rw [za9, hz, zdw, List.append_nil, if_pos (by omega)]; rfl
    · obtain ⟨t, h1, h2, h3⟩ := zeB d (id + 1) (s / 2) (by omega) hz
      refine ⟨t + 1, ?_, by rw [Nat.pow_succ]; omega, by rw [Nat.pow_succ]; omega⟩
      rw [za9, List.getLast?_append, h1]
      simp only [Option.some_or]
      congr 2; omega
theorem zgk (s : Nat) (hs : s < 18446744073709551616) (n : Int) : Ev (fun k => zat.f k (s : Int) n) (zbB s n) := by
  by_cases h1 : n < 0
  · have : zbB s n = false := by rw [← Bool.not_eq_true, zbt]; omega
    rw [this]; exact zN h1 (Ev.now _)
  refine zab h1 ?_
  by_cases h2 : n > 64
  · have : zbB s n = false := by rw [← Bool.not_eq_true, zbt]; omega
    rw [this]; exact zN h2 (Ev.now _)
  refine zab h2 (Ev.bind (zdX s hs) ?_)
  have h64 : s < 2 ^ 64 := hs
  rcases Nat.eq_zero_or_pos s with h0 | h0
  · subst h0
    rw [zdw]
    have : zbB 0 n = true := by rw [zbt]; exact ⟨by omega, by omega, Nat.two_pow_pos _⟩
    rw [this]; exact zN rfl (Ev.now _)
  · obtain ⟨t, k1, k2, k3⟩ := zeB 64 1 s h64 h0
    have hne : za9 64 1 s ≠ [] := fun hh => by rw [hh] at k1; cases k1
    have hl := zcq 64 1 s
    have hp := zb7 64 s
    have hlp : 0 < (za9 64 1 s).length := List.length_pos_iff.2 hne
    generalize za9 64 1 s = L at *
    have e1 : wrap64 ((L.length : Int) - 1) = ((L.length - 1 : Nat) : Int) := by rw [zah (by omega) (by omega)]; omega
    refine zab (by omega) ?_
    rw [e1]
    refine zN (by omega) (zN (by omega) (zaF (Ev.now _) ?_))
    have e2 : rd L ((L.length - 1 : Nat) : Int) = ((1 + t : Nat) : Int) := by
      rw [List.getLast?_eq_getElem?] at k1
      unfold rd
      rw [Int.toNat_natCast, List.getD_eq_getElem?_getD, k1]; rfl
    rw [e2, Bool.eq_iff_iff, decide_eq_true_iff, zbt]
    constructor
    · intro hh
      exact ⟨by omega, by omega, Nat.lt_of_lt_of_le k3 (Nat.pow_le_pow_right (by omega) (by omega))⟩
    · rintro ⟨_, _, hh⟩
      have : t < n.toNat := (Nat.pow_lt_pow_iff_right (by omega : 1 < 2)).1 (Nat.lt_of_le_of_lt k2 hh)
      omega
def zcU (a r : Int) (bs : List S68) (ps : List ByteArray) (x y : Int) (s : Nat) (n : Int) : Int :=
  if zbb a r bs ps x y n = true then if zbB s n = true then if ((zbm 64 s : Nat) : Int) < zbq n then 2 else 0 else 4 else 1
theorem zf4 (a r : Int) (bs : List S68) (ps : List ByteArray) (x y : Int) (s : Nat) (hs : s < 18446744073709551616) (n : Int) : zbK.f a r bs ps x y (s : Int) n = some (zcU a r bs ps x y s n) := by
  unfold zbK.f zcU
  rw [show zag.f a r bs ps x y n = some (zbb a r bs ps x y n) from rfl, zeN, zfr s hs, zdi]
  simp only [Option.bind_some]
  split
  · split
    · split <;> rfl
    · rfl
  · rfl
theorem zg7 (a r : Int) (bs : List S68) (ps : List ByteArray) (x y : Int) (s : Nat) (hs : s < 18446744073709551616) (n : Int) (hb : bs.length < 4611686018427387904) (hbs : ∀ b ∈ bs, b.f2.length < 4611686018427387904) (hl : ps.length < 4611686018427387904) (hp : ∀ t ∈ ps, t.size < 4611686018427387904) :
    Ev (fun k => zaP.f k a r bs ps x y (s : Int) n) (zcU a r bs ps x y s n) := by
  refine Ev.bind (zfo a r bs ps x y n hb hbs hl hp) ?_
  unfold zcU
  refine zc8 (fun _ => Ev.bind (zgk s hs n) (zc8 (fun _ => Ev.bind (zgI s hs) (z8 (zdh n) (zc8 (fun _ => Ev.now _) (fun _ => Ev.now _)))) (fun _ => Ev.now _))) (fun _ => Ev.now _)
theorem zgZ {a r : Int} {bs : List S68} {ps : List ByteArray} {x y : Int} {s : Nat} {n : Int} : zcU a r bs ps x y s n = 0 ↔ zbb a r bs ps x y n = true ∧ zbB s n = true ∧ zbq n ≤ ((zbm 64 s : Nat) : Int) := by
  unfold zcU
  by_cases h1 : zbb a r bs ps x y n = true
  · rw [if_pos h1]
    by_cases h2 : zbB s n = true
    · rw [if_pos h2]
      by_cases h3 : ((zbm 64 s : Nat) : Int) < zbq n
      · rw [if_pos h3]; simp; omega
      · rw [if_neg h3]; simp [h1, h2]; omega
    · rw [if_neg h2]; simp [h2]
  · rw [if_neg h1]; simp [h1]
end Go.Proofs.Ytlabjgcoopdbiaa.Px

namespace Go.Proofs.Ytlabjgcoopdbiaa.Px
open Go.RowKit Go.Proofs.YtlabjgcoopdbiaaW.PrintWords Go.Proofs.YtlabjgcoopdbiaaW.PrintLast Go.Proofs.YtlabjgcoopdbiaaW.PrintMore
attribute [local go_sem] zC zE zK zL zw zx zD zF
set_option linter.unusedVariables false
set_option linter.unusedSimpArgs false
theorem zdZ : ∀ (d id s : Nat) (x : Int), x ∈ za9 d id s ↔ ∃ j, j < d ∧ s.testBit j = true ∧ x = ((id + j : Nat) : Int)
  | 0, id, s, x => by simp [za9]
  | d + 1, id, s, x => by
    have ih := zdZ d (id + 1) (s / 2) x
    have t0 : s.testBit 0 = decide (s % 2 = 1) := Nat.testBit_zero s
    have ts : ∀ j, s.testBit (j + 1) = (s / 2).testBit j := fun j => Nat.testBit_succ s j
    constructor
    · intro h
      have h' : (s % 2 = 1 ∧ x = (id : Int)) ∨ x ∈ za9 d (id + 1) (s / 2) := by
        rw [za9] at h
        split at h
        · rename_i h1
          rcases List.mem_cons.1 h with h2 | h2
          · exact .inl ⟨h1, h2⟩
          · exact .inr h2
        · exact .inr h
      rcases h' with ⟨h1, h2⟩ | h2
      · exact ⟨0, by omega, by rw [t0]; simp [h1], by rw [h2]; rfl⟩
      · obtain ⟨j, hj, h3, h4⟩ := ih.1 h2
        exact ⟨j + 1, by omega, by rw [ts]; exact h3, by rw [h4]; congr 1; omega⟩
    · rintro ⟨j, hj, h3, h4⟩
      rw [za9]
      rcases j with _ | j
      · rw [t0] at h3
        rw [if_pos (of_decide_eq_true h3)]
        exact List.mem_cons.2 (.inl h4)
      · have : x ∈ za9 d (id + 1) (s / 2) := ih.2 ⟨j, by omega, by rw [← ts]; exact h3, by rw [h4]; congr 1; omega⟩
        split
        · exact List.mem_cons.2 (.inr this)
        · exact this
end Go.Proofs.Ytlabjgcoopdbiaa.Px

namespace Go.Proofs.Ytlabjgcoopdbiaa.Px
open Go.RowKit Go.Proofs.YtlabjgcoopdbiaaW.PrintWords Go.Proofs.YtlabjgcoopdbiaaW.PrintLast Go.Proofs.YtlabjgcoopdbiaaW.PrintMore
attribute [local go_sem] zC zE zK zL zw zx zD zF
set_option linter.unusedVariables false
set_option linter.unusedSimpArgs false
def zbZ (i : Int) (t : ByteArray) (b : List S58) : Bool := b.any fun x => decide (x.f0 = i ∧ x.f1 = t)
def zfg (s : Nat) (i : Int) : Nat := if 1 ≤ i ∧ i ≤ 64 then s ||| 2 ^ (i.toNat - 1) else s
def byN (t : ByteArray) : List S58 → Nat → Nat
  | [], s => s
  | x :: b, s => byN t b (if x.f1 = t then zfg s x.f0 else s)
theorem zhv {s : Nat} (h : s < 18446744073709551616) (i : Int) : zfg s i < 18446744073709551616 := by
  unfold zfg
  split
  · have h1 : s < 2 ^ 64 := h
    have h2 : 2 ^ (i.toNat - 1) < 2 ^ 64 := Nat.pow_lt_pow_right (by decide) (by omega)
    exact Nat.or_lt_two_pow h1 h2
  · exact h
theorem zhZ (t : ByteArray) : ∀ (b : List S58) (s : Nat), s < 18446744073709551616 → byN t b s < 18446744073709551616
  | [], _, h => h
  | x :: b, s, h => by
    rw [byN]
    refine zhZ t b _ ?_
    split
    · exact zhv h _
    · exact h
theorem zim (s : Nat) (i : Int) (j : Nat) : (zfg s i).testBit j = true ↔ s.testBit j = true ∨ (i = ((j + 1 : Nat) : Int) ∧ j < 64) := by
  unfold zfg
  split
  · rename_i h
    rw [Nat.testBit_or, Nat.testBit_two_pow, Bool.or_eq_true, decide_eq_true_eq]
    constructor
    · rintro (h1 | h1)
      · exact .inl h1
      · exact .inr ⟨by omega, by omega⟩
    · rintro (h1 | h1)
      · exact .inl h1
      · exact .inr (by omega)
  · rename_i h
    constructor
    · exact fun h1 => .inl h1
    · rintro (h1 | h1)
      · exact h1
      · exact absurd ⟨by omega, by omega⟩ h
theorem zf3 (t : ByteArray) : ∀ (b : List S58) (s j : Nat), (byN t b s).testBit j = true ↔ s.testBit j = true ∨ (zbZ ((j + 1 : Nat) : Int) t b = true ∧ j < 64)
  | [], s, j => by simp [byN, zbZ]
  | x :: b, s, j => by
    rw [byN, zf3 t b]
    rw [show zbZ ((j + 1 : Nat) : Int) t (x :: b) = (decide (x.f0 = ((j + 1 : Nat) : Int) ∧ x.f1 = t) || zbZ ((j + 1 : Nat) : Int) t b) from rfl, Bool.or_eq_true, decide_eq_true_eq]
    split
    · rename_i h
      rw [zim]
      constructor
      · rintro ((h1 | ⟨h1, h2⟩) | ⟨h1, h2⟩)
        · exact .inl h1
        · exact .inr ⟨.inl ⟨h1, h⟩, h2⟩
        · exact .inr ⟨.inr h1, h2⟩
      · rintro (h1 | ⟨h1 | h1, h2⟩)
        · exact .inl (.inl h1)
        · exact .inl (.inr ⟨h1.1, h2⟩)
        · exact .inr ⟨h1, h2⟩
    · rename_i h
      constructor
      · rintro (h1 | ⟨h1, h2⟩)
        · exact .inl h1
        · exact .inr ⟨.inr h1, h2⟩
      · rintro (h1 | ⟨h1 | h1, h2⟩)
        · exact .inl h1
        · exact absurd h1.2 h
        · exact .inr ⟨h1, h2⟩
def zfz (b : List S58) (s : Nat) (t : ByteArray) : Bool := (za9 64 1 s).all fun id => zbZ id t b
theorem zhW {b : List S58} {s : Nat} {t : ByteArray} : zfz b s t = true ↔ ∀ j, j < 64 → s.testBit j = true → zbZ ((j + 1 : Nat) : Int) t b = true := by
  rw [zfz, List.all_eq_true]
  constructor
  · intro h j hj hs
    exact h _ ((zdZ 64 1 s _).2 ⟨j, hj, hs, by rw [Nat.add_comm]⟩)
  · intro h x hx
    obtain ⟨j, hj, hs, rfl⟩ := (zdZ 64 1 s x).1 hx
    have := h j hj hs
    rwa [Nat.add_comm] at this
theorem zgt (s m : Nat) (hs : s < 18446744073709551616) (hm : m < 18446744073709551616) : Go.bits .andNot .u64 (s : Int) (m : Int) = 0 ↔ ∀ j, j < 64 → s.testBit j = true → m.testBit j = true := by
  rw [u64_andNot_nat s m hs hm]
  have e : ((s &&& (18446744073709551615 - m) : Nat) : Int) = 0 ↔ (s &&& (18446744073709551615 - m)) = 0 := by omega
  have tb : ∀ j, (18446744073709551615 - m).testBit j = (decide (j < 64) && !m.testBit j) := fun j => by
    have := Nat.testBit_two_pow_sub_succ (x := m) (n := 64) hm j
    rwa [show 2 ^ 64 - (m + 1) = 18446744073709551615 - m by omega] at this
  rw [e]
  constructor
  · intro h j hj h1
    have h2 : (s &&& (18446744073709551615 - m)).testBit j = false := by rw [h]; exact Nat.zero_testBit j
    rw [Nat.testBit_and, tb, h1, decide_eq_true hj] at h2
    simpa using h2
  · intro h
    apply Nat.eq_of_testBit_eq
    intro j
    rw [Nat.zero_testBit, Nat.testBit_and, tb]
    by_cases hj : j < 64
    · cases h1 : s.testBit j
      · simp
      · rw [h j hj h1]; simp
    · simp [hj]
theorem all_by (b : List S58) (s : Nat) (hs : s < 18446744073709551616) (t : ByteArray) : decide (Go.bits .andNot .u64 (s : Int) ((byN t b 0 : Nat) : Int) = 0) = zfz b s t := by
  rw [Bool.eq_iff_iff, decide_eq_true_eq, zgt s _ hs (zhZ t b 0 (by decide)), zhW]
  constructor
  · intro h j hj h1
    have := (zf3 t b 0 j).1 (h j hj h1)
    rcases this with h2 | h2
    · rw [Nat.zero_testBit] at h2; cases h2
    · exact h2.1
  · intro h j hj h1
    exact (zf3 t b 0 j).2 (.inr ⟨h j hj h1, hj⟩)
end Go.Proofs.Ytlabjgcoopdbiaa.Px
