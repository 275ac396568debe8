/- part 19 of the proof of the law PostOwn: texts merged by this session's bundle.py. What is proved: the statement at the end of the last of these texts; its conditions are those of the given row. -/
import Derived.Laws.BitsAllLaws
import Derived.Test.YtenbifjbeeobjaaZPostOwnD
import Derived.Test.YtenbifjbeeobjaaZPostOwnE
import Derived.Test.YtenbifjbeeobjaaZPostOwnF
import Derived.Test.YtenbifjbeeobjaaZPostOwnG
import Derived.Test.YtenbifjbeeobjaaZPostOwnI
import Derived.Test.YtenbifjbeeobjaaZPostOwnJ
import Derived.Test.YtenbifjbeeobjaaZPostOwnM
import Derived.Test.YtenbifjbeeobjaaZPostOwnN
import Derived.Test.YtenbifjbeeobjaaZPostOwnP
import Derived.Test.YtenbifjbeeobjaaZPostOwnQ
import Derived.Test.YtenbifjbeeobjaaZPostOwnR
namespace Go.Proofs.Ytenbifjbeeobjaa.Px
open Go.RowKit Go.Proofs.YtenbifjbeeobjaaW.PrintWords Go.Proofs.YtenbifjbeeobjaaW.PrintLast Go.Proofs.YtenbifjbeeobjaaW.PrintMore
attribute [local go_sem] max2_int min2_int max_two min_two max_three min_three max_four min_four
set_option linter.unusedVariables false
set_option linter.unusedSimpArgs false
end Go.Proofs.Ytenbifjbeeobjaa.Px

namespace Go.Proofs.Ytenbifjbeeobjaa.Px
open Go.RowKit Go.Proofs.YtenbifjbeeobjaaW.PrintWords Go.Proofs.YtenbifjbeeobjaaW.PrintLast Go.Proofs.YtenbifjbeeobjaaW.PrintMore
attribute [local go_sem] max2_int min2_int max_two min_two max_three min_three max_four min_four
set_option linter.unusedVariables false
set_option linter.unusedSimpArgs false
def cert_Bytes.B5 : List Nat := [0, 1, 0, 4, 15, 31, 63, 127]
end Go.Proofs.Ytenbifjbeeobjaa.Px

namespace Go.Proofs.Ytenbifjbeeobjaa.Px
open Go.RowKit Go.Proofs.YtenbifjbeeobjaaW.PrintWords Go.Proofs.YtenbifjbeeobjaaW.PrintLast Go.Proofs.YtenbifjbeeobjaaW.PrintMore
attribute [local go_sem] max2_int min2_int max_two min_two max_three min_three max_four min_four
set_option linter.unusedVariables false
set_option linter.unusedSimpArgs false
end Go.Proofs.Ytenbifjbeeobjaa.Px

namespace Go.Proofs.Ytenbifjbeeobjaa.Px
open Go.RowKit Go.Proofs.YtenbifjbeeobjaaW.PrintWords Go.Proofs.YtenbifjbeeobjaaW.PrintLast Go.Proofs.YtenbifjbeeobjaaW.PrintMore
attribute [local go_sem] max2_int min2_int max_two min_two max_three min_three max_four min_four
set_option linter.unusedVariables false
set_option linter.unusedSimpArgs false
end Go.Proofs.Ytenbifjbeeobjaa.Px

namespace Go.Proofs.Ytenbifjbeeobjaa.Px
open Go.RowKit Go.Proofs.YtenbifjbeeobjaaW.PrintWords Go.Proofs.YtenbifjbeeobjaaW.PrintLast Go.Proofs.YtenbifjbeeobjaaW.PrintMore
attribute [local go_sem] max2_int min2_int max_two min_two max_three min_three max_four min_four
set_option linter.unusedVariables false
set_option linter.unusedSimpArgs false
end Go.Proofs.Ytenbifjbeeobjaa.Px

namespace Go.Proofs.Ytenbifjbeeobjaa.Px
open Go.RowKit Go.Proofs.YtenbifjbeeobjaaW.PrintWords Go.Proofs.YtenbifjbeeobjaaW.PrintLast Go.Proofs.YtenbifjbeeobjaaW.PrintMore
attribute [local go_sem] max2_int min2_int max_two min_two max_three min_three max_four min_four
set_option linter.unusedVariables false
set_option linter.unusedSimpArgs false
end Go.Proofs.Ytenbifjbeeobjaa.Px

namespace Go.Proofs.Ytenbifjbeeobjaa.Px
open Go.RowKit Go.Proofs.YtenbifjbeeobjaaW.PrintWords Go.Proofs.YtenbifjbeeobjaaW.PrintLast Go.Proofs.YtenbifjbeeobjaaW.PrintMore
attribute [local go_sem] max2_int min2_int max_two min_two max_three min_three max_four min_four
set_option linter.unusedVariables false
set_option linter.unusedSimpArgs false
end Go.Proofs.Ytenbifjbeeobjaa.Px

namespace Go.Proofs.Ytenbifjbeeobjaa.Px
open Go.RowKit Go.Proofs.YtenbifjbeeobjaaW.PrintWords Go.Proofs.YtenbifjbeeobjaaW.PrintLast Go.Proofs.YtenbifjbeeobjaaW.PrintMore
attribute [local go_sem] max2_int min2_int max_two min_two max_three min_three max_four min_four
set_option linter.unusedVariables false
set_option linter.unusedSimpArgs false
end Go.Proofs.Ytenbifjbeeobjaa.Px

namespace Go.Proofs.Ytenbifjbeeobjaa.Px
open Go.RowKit Go.Proofs.YtenbifjbeeobjaaW.PrintWords Go.Proofs.YtenbifjbeeobjaaW.PrintLast Go.Proofs.YtenbifjbeeobjaaW.PrintMore
attribute [local go_sem] max2_int min2_int max_two min_two max_three min_three max_four min_four
set_option linter.unusedVariables false
set_option linter.unusedSimpArgs false
end Go.Proofs.Ytenbifjbeeobjaa.Px

namespace Go.Proofs.Ytenbifjbeeobjaa.Px
open Go.RowKit Go.Proofs.YtenbifjbeeobjaaW.PrintWords Go.Proofs.YtenbifjbeeobjaaW.PrintLast Go.Proofs.YtenbifjbeeobjaaW.PrintMore
attribute [local go_sem] max2_int min2_int max_two min_two max_three min_three max_four min_four
set_option linter.unusedVariables false
set_option linter.unusedSimpArgs false
end Go.Proofs.Ytenbifjbeeobjaa.Px

namespace Go.Proofs.Ytenbifjbeeobjaa.Px
open Go.RowKit Go.Proofs.YtenbifjbeeobjaaW.PrintWords Go.Proofs.YtenbifjbeeobjaaW.PrintLast Go.Proofs.YtenbifjbeeobjaaW.PrintMore
attribute [local go_sem] max2_int min2_int max_two min_two max_three min_three max_four min_four
set_option linter.unusedVariables false
set_option linter.unusedSimpArgs false
end Go.Proofs.Ytenbifjbeeobjaa.Px

namespace Go.Proofs.Ytenbifjbeeobjaa.Px
open Go.RowKit Go.Proofs.YtenbifjbeeobjaaW.PrintWords Go.Proofs.YtenbifjbeeobjaaW.PrintLast Go.Proofs.YtenbifjbeeobjaaW.PrintMore
attribute [local go_sem] max2_int min2_int max_two min_two max_three min_three max_four min_four
set_option linter.unusedVariables false
set_option linter.unusedSimpArgs false
end Go.Proofs.Ytenbifjbeeobjaa.Px

namespace Go.Proofs.Ytenbifjbeeobjaa.Px
open Go.RowKit Go.Proofs.YtenbifjbeeobjaaW.PrintWords Go.Proofs.YtenbifjbeeobjaaW.PrintLast Go.Proofs.YtenbifjbeeobjaaW.PrintMore
attribute [local go_sem] max2_int min2_int max_two min_two max_three min_three max_four min_four
set_option linter.unusedVariables false
set_option linter.unusedSimpArgs false
def popA : Nat → Nat → Nat
  | 0, _ => 0
  | d + 1, s => s % 2 + popA d (s / 2)
theorem popA_le : ∀ (d s : Nat), popA d s ≤ d
  | 0, _ => Nat.le_refl _
  | d + 1, s => by have := popA_le d (s / 2); rw [popA]; omega
theorem popA_add : ∀ (d e b r : Nat), b < 2 ^ d → popA (d + e) (b + 2 ^ d * r) = popA d b + popA e r
  | 0, e, b, r, h => by
    obtain rfl : b = 0 := by simpa using h
    rw [Nat.zero_add, Nat.zero_add, Nat.pow_zero, Nat.one_mul]; simp [popA]
  | d + 1, e, b, r, h => by
    rw [Nat.pow_succ] at h
    have e1 : (b + 2 ^ (d + 1) * r) / 2 = b / 2 + 2 ^ d * r := by
      rw [Nat.pow_succ, Nat.mul_assoc, Nat.mul_left_comm, Nat.add_mul_div_left _ _ (by omega)]
    have e2 : (b + 2 ^ (d + 1) * r) % 2 = b % 2 := by
      rw [Nat.pow_succ, Nat.mul_assoc, Nat.mul_left_comm, Nat.add_mul_mod_self_left]
    rw [show d + 1 + e = (d + e) + 1 by omega, popA, popA, e1, e2, popA_add d e (b / 2) r (by omega)]
    omega
def joinB : List Nat → Nat
  | [] => 0
  | b :: l => b + 256 * joinB l
theorem and_join (a b c d : Nat) (hb : b < 256) (hd : d < 256) : (b + 256 * a) &&& (d + 256 * c) = (b &&& d) + 256 * (a &&& c) := by
  have hx : b &&& d < 2 ^ 8 := Nat.and_lt_two_pow _ (by omega)
  apply Nat.eq_of_testBit_eq
  intro i
  rw [Nat.testBit_and, Nat.add_comm b, Nat.add_comm d, Nat.add_comm (b &&& d)]
  rw [show (256 : Nat) = 2 ^ 8 from rfl, Nat.testBit_two_pow_mul_add _ (by omega), Nat.testBit_two_pow_mul_add _ (by omega), Nat.testBit_two_pow_mul_add _ hx]
  split <;> rw [Nat.testBit_and]
theorem low_1 : ∀ (b : Fin 256) (t : Fin 2), (b.val / 2 + 128 * t.val) &&& 85 = b.val / 2 &&& 85 := by decide +kernel
theorem low_2 : ∀ (b : Fin 256) (t : Fin 4), (b.val / 4 + 64 * t.val) &&& 51 = b.val / 4 &&& 51 := by decide +kernel
def pop1 (b : Nat) : Nat := (b / 2 &&& 85) + (b &&& 85)
def pop2 (b : Nat) : Nat := (b / 4 &&& 51) + (b &&& 51)
def pop3 (b : Nat) : Nat := b % 16 + b / 16
theorem pop_byte : ∀ b : Fin 256, pop1 b.val < 256 ∧ pop2 (pop1 b.val) < 256 ∧ pop2 (pop1 b.val) % 16 ≤ 4 ∧ pop2 (pop1 b.val) / 16 ≤ 4 ∧ pop3 (pop2 (pop1 b.val)) = popA 8 b.val := by decide +kernel
theorem join_1 : ∀ l : List Nat, (∀ b ∈ l, b < 256) → (joinB l / 2 &&& joinB (List.replicate l.length 85)) + (joinB l &&& joinB (List.replicate l.length 85)) = joinB (l.map pop1)
  | [], _ => rfl
  | b :: l, h => by
    have hb := h b List.mem_cons_self
    have ih := join_1 l (fun c hc => h c (List.mem_cons_of_mem _ hc))
    have k := low_1 ⟨b, hb⟩ ⟨joinB l % 2, Nat.mod_lt _ (by omega)⟩
    simp only at k
    rw [List.length_cons, List.replicate_succ, joinB, joinB, List.map_cons, joinB, ← ih]
    rw [show (b + 256 * joinB l) / 2 = (b / 2 + 128 * (joinB l % 2)) + 256 * (joinB l / 2) by omega, and_join _ _ _ _ (by omega) (by omega), and_join _ _ _ _ hb (by omega), k, pop1]
    omega
theorem join_2 : ∀ l : List Nat, (∀ b ∈ l, b < 256) → (joinB l / 4 &&& joinB (List.replicate l.length 51)) + (joinB l &&& joinB (List.replicate l.length 51)) = joinB (l.map pop2)
  | [], _ => rfl
  | b :: l, h => by
    have hb := h b List.mem_cons_self
    have ih := join_2 l (fun c hc => h c (List.mem_cons_of_mem _ hc))
    have k := low_2 ⟨b, hb⟩ ⟨joinB l % 4, Nat.mod_lt _ (by omega)⟩
    simp only at k
    rw [List.length_cons, List.replicate_succ, joinB, joinB, List.map_cons, joinB, ← ih]
    rw [show (b + 256 * joinB l) / 4 = (b / 4 + 64 * (joinB l % 4)) + 256 * (joinB l / 4) by omega, and_join _ _ _ _ (by omega) (by omega), and_join _ _ _ _ hb (by omega), k, pop2]
    omega
theorem join_low (l : List Nat) (h : ∀ b ∈ l, b % 16 ≤ 4 ∧ b / 16 ≤ 4) : joinB l % 16 ≤ 4 := by
  cases l with
  | nil => simp [joinB]
  | cons b l => have := (h b List.mem_cons_self).1; rw [joinB]; omega
theorem join_3 : ∀ l : List Nat, (∀ b ∈ l, b % 16 ≤ 4 ∧ b / 16 ≤ 4) → ((joinB l / 16 + joinB l) &&& joinB (List.replicate l.length 15)) = joinB (l.map pop3)
  | [], _ => rfl
  | b :: l, h => by
    obtain ⟨h1, h2⟩ := h b List.mem_cons_self
    have hl := fun c hc => h c (List.mem_cons_of_mem b hc)
    have ih := join_3 l hl
    have k := join_low l hl
    rw [List.length_cons, List.replicate_succ, joinB, joinB, List.map_cons, joinB, ← ih]
    rw [show (b + 256 * joinB l) / 16 + (b + 256 * joinB l) = (b / 16 + 16 * (joinB l % 16) + b) + 256 * (joinB l / 16 + joinB l) by omega, and_join _ _ _ _ (by omega) (by omega)]
    rw [show (15 : Nat) = 2 ^ 4 - 1 from rfl, Nat.and_two_pow_sub_one_eq_mod, pop3]
    omega
theorem join_lt : ∀ l : List Nat, (∀ b ∈ l, b < 256) → joinB l < 256 ^ l.length
  | [], _ => by simp [joinB]
  | b :: l, h => by
    have := join_lt l (fun c hc => h c (List.mem_cons_of_mem _ hc))
    have hb := h b List.mem_cons_self
    rw [joinB, List.length_cons, Nat.pow_succ]; omega
set_option maxRecDepth 10000 in
theorem join_le (m : Nat) : ∀ l : List Nat, (∀ b ∈ l, b ≤ m) → joinB l * 255 + m ≤ m * 256 ^ l.length
  | [], _ => by simp [joinB]
  | b :: l, h => by
    have := join_le m l (fun c hc => h c (List.mem_cons_of_mem _ hc))
    have hb := h b List.mem_cons_self
    rw [joinB, List.length_cons, Nat.pow_succ, ← Nat.mul_assoc]
    generalize m * 256 ^ l.length = X at *
    omega
theorem u64_sum (a b : Nat) (h : a + b < 18446744073709551616) : IntKind.u64.wrap ((a : Int) + (b : Int)) = ((a + b : Nat) : Int) := by
  rw [u64_wrap_of (by omega) (by omega)]; omega
theorem pop_e2 {q0 q1 q2 r1 r2 r3 z : Nat} (g0 : q0 ≤ 8) (g1 : q1 ≤ 8) (g2 : q2 ≤ 8) (e0 : z = q0 + 256 * r1) (e1 : r1 = q1 + 256 * r2) (e2 : r2 = q2 + 256 * r3) : z / 256 = r1 ∧ (z + r1) / 65536 = r2 + r3 := by
  constructor <;> omega
theorem pop_e3 {q0 q1 q2 q3 q4 q5 q6 q7 r1 r2 r3 r4 r5 r6 z : Nat} (g0 : q0 ≤ 8) (g1 : q1 ≤ 8) (g2 : q2 ≤ 8) (g3 : q3 ≤ 8) (g4 : q4 ≤ 8) (g5 : q5 ≤ 8) (g6 : q6 ≤ 8) (e0 : z = q0 + 256 * q1 + 65536 * q2 + 16777216 * q3 + 4294967296 * r4) (e1 : r1 = q1 + 256 * q2 + 65536 * q3 + 16777216 * q4 + 4294967296 * r5) (e2 : r2 = q2 + 256 * q3 + 65536 * q4 + 16777216 * q5 + 4294967296 * r6) (e3 : r3 = q3 + 256 * q4 + 65536 * q5 + 16777216 * q6 + 4294967296 * q7) :
    (z + r1 + (r2 + r3)) / 4294967296 = r4 + r5 + r6 + q7 := by
  generalize hx : q0 + 256 * q1 + 65536 * q2 + 16777216 * q3 = x at *
  have lx : x ≤ 134744072 := by omega
  generalize hy : q1 + 256 * q2 + 65536 * q3 + 16777216 * q4 = y at *
  have ly : y ≤ 134744072 := by omega
  generalize hu : q2 + 256 * q3 + 65536 * q4 + 16777216 * q5 = u at *
  have lu : u ≤ 134744072 := by omega
  generalize hv : q3 + 256 * q4 + 65536 * q5 + 16777216 * q6 = v at *
  have lv : v ≤ 134744072 := by omega
  clear hx hy hu hv g0 g1 g2 g3 g4 g5 g6
  omega
theorem pop_end (q0 q1 q2 q3 q4 q5 q6 q7 z z1 z2 z3 : Nat) (g0 : q0 ≤ 8) (g1 : q1 ≤ 8) (g2 : q2 ≤ 8) (g3 : q3 ≤ 8) (g4 : q4 ≤ 8) (g5 : q5 ≤ 8) (g6 : q6 ≤ 8) (g7 : q7 ≤ 8)
    (hz : z = q0 + 256 * (q1 + 256 * (q2 + 256 * (q3 + 256 * (q4 + 256 * (q5 + 256 * (q6 + 256 * q7))))))) (h1 : z1 = z + z / 256) (h2 : z2 = z1 + z1 / 65536) (h3 : z3 = z2 + z2 / 4294967296) :
    z3 % 128 = q0 + (q1 + (q2 + (q3 + (q4 + (q5 + (q6 + q7)))))) := by
  obtain ⟨r6, e6⟩ : ∃ r, r = q6 + 256 * q7 := ⟨_, rfl⟩
  obtain ⟨r5, e5⟩ : ∃ r, r = q5 + 256 * r6 := ⟨_, rfl⟩
  obtain ⟨r4, e4⟩ : ∃ r, r = q4 + 256 * r5 := ⟨_, rfl⟩
  obtain ⟨r3, e3⟩ : ∃ r, r = q3 + 256 * r4 := ⟨_, rfl⟩
  obtain ⟨r2, e2⟩ : ∃ r, r = q2 + 256 * r3 := ⟨_, rfl⟩
  obtain ⟨r1, e1⟩ : ∃ r, r = q1 + 256 * r2 := ⟨_, rfl⟩
  rw [← e6, ← e5, ← e4, ← e3, ← e2, ← e1] at hz
  obtain ⟨a1, a2⟩ := pop_e2 g0 g1 g2 hz e1 e2
  rw [a1] at h1
  rw [h1, a2] at h2
  have a3 := pop_e3 (z := z) (q7 := q7) (r1 := r1) (r2 := r2) (r3 := r3) (r4 := r4) (r5 := r5) (r6 := r6) g0 g1 g2 g3 g4 g5 g6 (by rw [hz, e1, e2, e3]; omega) (by rw [e1, e2, e3, e4]; omega) (by rw [e2, e3, e4, e5]; omega) (by rw [e3, e4, e5, e6]; omega)
  rw [h2, a3] at h3
  clear a1 a2 a3 h1 h2
  omega
set_option maxHeartbeats 1000000 in
theorem bits_OnesCount64_of (x : Nat) (hx : x < 18446744073709551616) : bits_OnesCount64.f (x : Int) = some ((popA 64 x : Nat) : Int) := by
  obtain ⟨b0, b1, b2, b3, b4, b5, b6, b7, h0, h1, h2, h3, h4, h5, h6, h7, e⟩ : ∃ b0 b1 b2 b3 b4 b5 b6 b7 : Nat, b0 < 256 ∧ b1 < 256 ∧ b2 < 256 ∧ b3 < 256 ∧ b4 < 256 ∧ b5 < 256 ∧ b6 < 256 ∧ b7 < 256 ∧ x = joinB [b0, b1, b2, b3, b4, b5, b6, b7] :=
    ⟨x % 256, x / 256 % 256, x / 65536 % 256, x / 16777216 % 256, x / 4294967296 % 256, x / 1099511627776 % 256, x / 281474976710656 % 256, x / 72057594037927936, by omega, by omega, by omega, by omega, by omega, by omega, by omega, by omega, by simp only [joinB]; omega⟩
  generalize hl : [b0, b1, b2, b3, b4, b5, b6, b7] = l at e
  have hlen : l.length = 8 := by rw [← hl]; rfl
  have hb : ∀ b ∈ l, b < 256 := by rw [← hl]; simp only [List.mem_cons, List.not_mem_nil, or_false]; rintro b (rfl | rfl | rfl | rfl | rfl | rfl | rfl | rfl) <;> assumption
  have q1 := join_1 l hb
  have hb1 : ∀ b ∈ l.map pop1, b < 256 := fun b hm => by obtain ⟨c, hc, rfl⟩ := List.mem_map.1 hm; exact (pop_byte ⟨c, hb c hc⟩).1
  have q2 := join_2 (l.map pop1) hb1
  have hb2 : ∀ b ∈ (l.map pop1).map pop2, b % 16 ≤ 4 ∧ b / 16 ≤ 4 := fun b hm => by
    obtain ⟨c, hc, rfl⟩ := List.mem_map.1 hm
    obtain ⟨d, hd, rfl⟩ := List.mem_map.1 hc
    have := pop_byte ⟨d, hb d hd⟩
    exact ⟨this.2.2.1, this.2.2.2.1⟩
  have q3 := join_3 ((l.map pop1).map pop2) hb2
  have e4 : ((l.map pop1).map pop2).map pop3 = l.map (popA 8) := by
    rw [List.map_map, List.map_map]
    refine List.map_congr_left (fun c hc => ?_)
    exact (pop_byte ⟨c, hb c hc⟩).2.2.2.2
  rw [e4] at q3
  rw [List.length_map] at q2
  rw [List.length_map, List.length_map] at q3
  rw [hlen] at q1 q2 q3
  have p8 : (256 : Nat) ^ 8 = 18446744073709551616 := by decide
  have l1 := join_lt _ hb1
  rw [List.length_map, hlen, p8] at l1
  have l2 := join_lt ((l.map pop1).map pop2) (fun b hm => by have := hb2 b hm; omega)
  rw [List.length_map, List.length_map, hlen, p8] at l2
  have l2' := join_le 68 ((l.map pop1).map pop2) (fun b hm => by have := hb2 b hm; omega)
  rw [List.length_map, List.length_map, hlen, p8] at l2'
  rw [show joinB (List.replicate 8 85) = 6148914691236517205 from rfl, ← e] at q1
  rw [show joinB (List.replicate 8 51) = 3689348814741910323 from rfl] at q2
  rw [show joinB (List.replicate 8 15) = 1085102592571150095 from rfl] at q3
  generalize joinB (l.map pop1) = y1 at *
  generalize joinB ((l.map pop1).map pop2) = y2 at *
  have hz : joinB (l.map (popA 8)) = popA 8 b0 + 256 * (popA 8 b1 + 256 * (popA 8 b2 + 256 * (popA 8 b3 + 256 * (popA 8 b4 + 256 * (popA 8 b5 + 256 * (popA 8 b6 + 256 * popA 8 b7)))))) := by rw [← hl]; simp only [List.map, joinB, Nat.mul_zero, Nat.add_zero]
  have hp : popA 64 x = popA 8 b0 + (popA 8 b1 + (popA 8 b2 + (popA 8 b3 + (popA 8 b4 + (popA 8 b5 + (popA 8 b6 + popA 8 b7)))))) := by
    rw [e, ← hl]
    simp only [joinB, Nat.mul_zero, Nat.add_zero]
    rw [show (64 : Nat) = 8 + 56 from rfl, show (256 : Nat) = 2 ^ 8 from rfl, popA_add _ _ _ _ h0, show (56 : Nat) = 8 + 48 from rfl, popA_add _ _ _ _ h1, show (48 : Nat) = 8 + 40 from rfl, popA_add _ _ _ _ h2, show (40 : Nat) = 8 + 32 from rfl, popA_add _ _ _ _ h3, show (32 : Nat) = 8 + 24 from rfl, popA_add _ _ _ _ h4, show (24 : Nat) = 8 + 16 from rfl, popA_add _ _ _ _ h5, show (16 : Nat) = 8 + 8 from rfl, popA_add _ _ _ _ h6]
  have g0 := popA_le 8 b0
  have g1 := popA_le 8 b1
  have g2 := popA_le 8 b2
  have g3 := popA_le 8 b3
  have g4 := popA_le 8 b4
  have g5 := popA_le 8 b5
  have g6 := popA_le 8 b6
  have g7 := popA_le 8 b7
  generalize joinB (l.map (popA 8)) = z at *
  have d2 : (x : Int) / 2 = ((x / 2 : Nat) : Int) := by omega
  have d4 : (y1 : Int) / 4 = ((y1 / 4 : Nat) : Int) := by omega
  have d16 : (y2 : Int) / 16 = ((y2 / 16 : Nat) : Int) := by omega
  have i1 : IntKind.u64.wrap (Go.bits .and .u64 ((x : Int) / 2) 6148914691236517205 + Go.bits .and .u64 (x : Int) 6148914691236517205) = (y1 : Int) := by
    have k1 : Go.bits .and .u64 ((x / 2 : Nat) : Int) 6148914691236517205 = ((x / 2 &&& 6148914691236517205 : Nat) : Int) := u64_and_nat (x / 2) 6148914691236517205 (by omega) (by omega)
    have k2 : Go.bits .and .u64 (x : Int) 6148914691236517205 = ((x &&& 6148914691236517205 : Nat) : Int) := u64_and_nat x 6148914691236517205 hx (by omega)
    rw [d2, k1, k2, u64_sum _ _ (by rw [q1]; exact l1), q1]
  have i2 : IntKind.u64.wrap (Go.bits .and .u64 ((y1 : Int) / 4) 3689348814741910323 + Go.bits .and .u64 (y1 : Int) 3689348814741910323) = (y2 : Int) := by
    have k1 : Go.bits .and .u64 ((y1 / 4 : Nat) : Int) 3689348814741910323 = ((y1 / 4 &&& 3689348814741910323 : Nat) : Int) := u64_and_nat (y1 / 4) 3689348814741910323 (by omega) (by omega)
    have k2 : Go.bits .and .u64 (y1 : Int) 3689348814741910323 = ((y1 &&& 3689348814741910323 : Nat) : Int) := u64_and_nat y1 3689348814741910323 l1 (by omega)
    rw [d4, k1, k2, u64_sum _ _ (by rw [q2]; exact l2), q2]
  have l3 : y2 / 16 + y2 < 18446744073709551616 := by omega
  have i3 : Go.bits .and .u64 (IntKind.u64.wrap ((y2 : Int) / 16 + (y2 : Int))) 1085102592571150095 = (z : Int) := by
    have k1 : Go.bits .and .u64 ((y2 / 16 + y2 : Nat) : Int) 1085102592571150095 = ((y2 / 16 + y2 &&& 1085102592571150095 : Nat) : Int) := u64_and_nat (y2 / 16 + y2) 1085102592571150095 l3 (by omega)
    rw [d16, u64_sum _ _ l3, k1, q3]
  unfold bits_OnesCount64.f
  rw [i1, i2, i3]
  have i4 : IntKind.u64.wrap ((z : Int) + (z : Int) / 256) = ((z + z / 256 : Nat) : Int) := by
    rw [show (z : Int) / 256 = ((z / 256 : Nat) : Int) by omega]; exact u64_sum _ _ (by omega)
  rw [i4]
  generalize hz1 : z + z / 256 = z1
  have i5 : IntKind.u64.wrap ((z1 : Int) + (z1 : Int) / 65536) = ((z1 + z1 / 65536 : Nat) : Int) := by
    rw [show (z1 : Int) / 65536 = ((z1 / 65536 : Nat) : Int) by omega]; exact u64_sum _ _ (by omega)
  rw [i5]
  generalize hz2 : z1 + z1 / 65536 = z2
  have i6 : IntKind.u64.wrap ((z2 : Int) + (z2 : Int) / 4294967296) = ((z2 + z2 / 4294967296 : Nat) : Int) := by
    rw [show (z2 : Int) / 4294967296 = ((z2 / 4294967296 : Nat) : Int) by omega]; exact u64_sum _ _ (by omega)
  rw [i6]
  generalize hz3 : z2 + z2 / 4294967296 = z3
  have l4 : z3 < 9223372036854775808 := by omega
  have i7 : Go.bits .and .i64 (wrap64 (z3 : Int)) 127 = ((z3 % 128 : Nat) : Int) := by
    rw [wrap64_of (by omega) (by omega)]
    have := bits_mask .i64 63 (by decide) (fun n h0 h1 => by rw [IntKind.wrap_i64]; omega) 7 (by decide) (z3 : Int) (by omega) (by omega)
    rw [show ((2 : Int) ^ 7 - 1) = 127 from rfl] at this
    rw [this]; omega
  rw [i7, hp]
  have hq : z3 % 128 = popA 8 b0 + (popA 8 b1 + (popA 8 b2 + (popA 8 b3 + (popA 8 b4 + (popA 8 b5 + (popA 8 b6 + popA 8 b7)))))) := pop_end _ _ _ _ _ _ _ _ _ _ _ _ g0 g1 g2 g3 g4 g5 g6 g7 hz hz1.symm hz2.symm hz3.symm
  rw [hq]
end Go.Proofs.Ytenbifjbeeobjaa.Px

namespace Go.Proofs.Ytenbifjbeeobjaa.Px
open Go.RowKit Go.Proofs.YtenbifjbeeobjaaW.PrintWords Go.Proofs.YtenbifjbeeobjaaW.PrintLast Go.Proofs.YtenbifjbeeobjaaW.PrintMore
attribute [local go_sem] max2_int min2_int max_two min_two max_three min_three max_four min_four
set_option linter.unusedVariables false
set_option linter.unusedSimpArgs false
def withinS (s : Nat) (n : Int) : Bool := decide (0 ≤ n) && decide (n ≤ 64) && decide (s < 2 ^ n.toNat)
theorem withinS_iff (s : Nat) (n : Int) : withinS s n = true ↔ 0 ≤ n ∧ n ≤ 64 ∧ s < 2 ^ n.toNat := by
  unfold withinS; simp [and_assoc]
theorem div_zero_iff (s p : Nat) (hp : 0 < p) : s / p = 0 ↔ s < p := by
  rw [Nat.div_eq_zero_iff]; omega
theorem seats_Within_of (s : Nat) (n : Int) : seats_Within.f (s : Int) n = some (withinS s n) := by
  unfold seats_Within.f
  by_cases h1 : n < 0
  · rw [if_pos h1]
    have : withinS s n = false := by rw [← Bool.not_eq_true, withinS_iff]; omega
    rw [this]
  rw [if_neg h1]
  by_cases h2 : n > 64
  · rw [if_pos h2]
    have : withinS s n = false := by rw [← Bool.not_eq_true, withinS_iff]; omega
    rw [this]
  rw [if_neg h2, wrap64_of (by omega) (by omega)]
  by_cases h3 : n > 0
  · obtain ⟨m, rfl⟩ : ∃ m : Nat, n = ((m + 1 : Nat) : Int) := ⟨(n - 1).toNat, by omega⟩
    have hm : mx (((m + 1 : Nat) : Int) - 1) 0 = (m : Int) := by unfold mx; split <;> omega
    have hs : shr .u64 ((s : Int) / 2) (m : Int) = ((s / 2 / 2 ^ m : Nat) : Int) := by
      unfold shr
      rw [Int.toNat_natCast, Nat.min_eq_left (by show m ≤ 64; omega), show (s : Int) / 2 = ((s / 2 : Nat) : Int) by omega]
      norm_cast
    have he : s / 2 / 2 ^ m = s / 2 ^ (m + 1) := by rw [Nat.div_div_eq_div_mul, Nat.pow_succ, Nat.mul_comm]
    rw [hm, hs, he]
    have key := div_zero_iff s (2 ^ (m + 1)) (Nat.two_pow_pos _)
    by_cases h4 : s / 2 ^ (m + 1) = 0
    · rw [if_pos (by omega), if_pos h3]
      have : withinS s ((m + 1 : Nat) : Int) = true := by rw [withinS_iff]; exact ⟨by omega, by omega, key.1 h4⟩
      rw [this]
    · rw [if_neg (by omega)]
      have : withinS s ((m + 1 : Nat) : Int) = false := by
        rw [← Bool.not_eq_true, withinS_iff]
        exact fun hh => h4 (key.2 hh.2.2)
      rw [this]
  · obtain rfl : n = 0 := by omega
    have hm : mx ((0 : Int) - 1) 0 = 0 := by decide
    have hs : shr .u64 ((s : Int) / 2) 0 = (s : Int) / 2 := by unfold shr; simp
    have hw : withinS s 0 = decide (s = 0) := by
      rw [Bool.eq_iff_iff, withinS_iff]; simp
    rw [hm, hs, hw]
    by_cases h4 : s = 0
    · subst h4; rfl
    · by_cases h5 : (s : Int) / 2 = 0
      · rw [if_pos h5, if_neg (by omega)]
        congr 1
        rw [Bool.eq_iff_iff]; simp
      · rw [if_neg h5]; simp [h4]
theorem seats_Count_of (s : Nat) (hs : s < 18446744073709551616) : seats_Count.f (s : Int) = some ((popA 64 s : Nat) : Int) := by
  unfold seats_Count.f
  rw [bits_OnesCount64_of s hs]; rfl
def fitsR (a r : Int) (bs : List S101) (ps : List ByteArray) (x y : Int) (s : Nat) (n : Int) : Int :=
  if mayV a r bs ps x y n = true then if withinS s n = true then if ((popA 64 s : Nat) : Int) < quorumN n then 2 else 0 else 4 else 1
theorem cert_fits_of (a r : Int) (bs : List S101) (ps : List ByteArray) (x y : Int) (s : Nat) (hs : s < 18446744073709551616) (n : Int) : cert_fits.f a r bs ps x y (s : Int) n = some (fitsR a r bs ps x y s n) := by
  unfold cert_fits.f fitsR
  rw [show vertex_May.f a r bs ps x y n = some (mayV a r bs ps x y n) from rfl, seats_Within_of, seats_Count_of s hs, seats_Quorum_of]
  simp only [Option.bind_some]
  split
  · split
    · split <;> rfl
    · rfl
  · rfl
def proofL (a r : Int) (bs : List S101) (ps : List ByteArray) (x y : Int) (s : Nat) : Bs := textL (vertexL a r bs ps x y) ++ numL s
end Go.Proofs.Ytenbifjbeeobjaa.Px

namespace Go.Proofs.Ytenbifjbeeobjaa.Px
open Go.RowKit Go.Proofs.YtenbifjbeeobjaaW.PrintWords Go.Proofs.YtenbifjbeeobjaaW.PrintLast Go.Proofs.YtenbifjbeeobjaaW.PrintMore
attribute [local go_sem] max2_int min2_int max_two min_two max_three min_three max_four min_four
set_option linter.unusedVariables false
set_option linter.unusedSimpArgs false
abbrev PT := Int × Int × List S101 × List ByteArray × Int × Int × Int × Int
def badP : PT := (0, 0, [], [], 0, 0, 0, 3)
def pA (s : Bs) : Bs × Bs × Int := takeTextL s 65536
def pB (s : Bs) : Nat × Bs × Int := takeNumL (pA s).2.1
def pV (s : Bs) (n : Int) : VT := takeV (pA s).1 n
def pFit (s : Bs) (n : Int) : Int := fitsR (pV s n).1 (pV s n).2.1 (pV s n).2.2.1 (pV s n).2.2.2.1 (pV s n).2.2.2.2.1 (pV s n).2.2.2.2.2.1 (pB s).1 n
def okP (s : Bs) (n : Int) : Prop := (pA s).2.2 = 0 ∧ (pB s).2.2 = 0 ∧ (pV s n).2.2.2.2.2.2 = 0 ∧ (pB s).2.1 = [] ∧ pFit s n = 0
instance decOkP (s : Bs) (n : Int) : Decidable (okP s n) := by unfold okP; infer_instance
def takeP (s : Bs) (n : Int) : PT := if okP s n then ((pV s n).1, (pV s n).2.1, (pV s n).2.2.1, (pV s n).2.2.2.1, (pV s n).2.2.2.2.1, (pV s n).2.2.2.2.2.1, ((pB s).1 : Int), 0) else badP
theorem takeP_pos {s : Bs} {n : Int} (h : okP s n) : takeP s n = ((pV s n).1, (pV s n).2.1, (pV s n).2.2.1, (pV s n).2.2.2.1, (pV s n).2.2.2.2.1, (pV s n).2.2.2.2.2.1, ((pB s).1 : Int), 0) := if_pos h
theorem takeP_neg {s : Bs} {n : Int} (h : ¬ okP s n) : takeP s n = badP := if_neg h
theorem takeP_ok (s : Bs) (n : Int) : takeP s n = badP ∨ ∃ a r bs ps x y, ∃ z : Nat, takeP s n = (a, r, bs, ps, x, y, (z : Int), 0) ∧ fitsR a r bs ps x y z n = 0 ∧ z < 18446744073709551616 ∧ s = proofL a r bs ps x y z := by
  by_cases h : okP s n
  · refine .inr ⟨_, _, _, _, _, _, _, takeP_pos h, h.2.2.2.2, ?_, ?_⟩
    · exact takeNumL_val _
    · obtain ⟨h1, h2, h3, h4, h5⟩ := h
      obtain ⟨e1, _, _⟩ := takeTextL_ok (s := s) (t := (pA s).1) (r := (pA s).2.1) (most := 65536) (by rw [← h1]; rfl)
      obtain ⟨e2, _⟩ := takeNumL_ok (s := (pA s).2.1) (v := (pB s).1) (r := (pB s).2.1) (by rw [← h2]; rfl)
      rcases takeV_ok (pA s).1 n with h6 | ⟨a, r, bs, ps, x, y, h6, hm, h7⟩
      · exfalso
        rw [show takeV (pA s).1 n = pV s n from rfl] at h6
        rw [h6] at h3; exact absurd h3 (by decide)
      · have h6' : pV s n = (a, r, bs, ps, x, y, 0) := h6
        rw [h6']
        simp only
        rw [h4, List.append_nil] at e2
        rw [proofL, ← h7, ← e2, ← e1]
  · exact .inl (takeP_neg h)
end Go.Proofs.Ytenbifjbeeobjaa.Px

namespace Go.Proofs.Ytenbifjbeeobjaa.Px
open Go.RowKit Go.Proofs.YtenbifjbeeobjaaW.PrintWords Go.Proofs.YtenbifjbeeobjaaW.PrintLast Go.Proofs.YtenbifjbeeobjaaW.PrintMore
attribute [local go_sem] max2_int min2_int max_two min_two max_three min_three max_four min_four
set_option linter.unusedVariables false
set_option linter.unusedSimpArgs false
end Go.Proofs.Ytenbifjbeeobjaa.Px

namespace Go.Proofs.Ytenbifjbeeobjaa.Px
open Go.RowKit Go.Proofs.YtenbifjbeeobjaaW.PrintWords Go.Proofs.YtenbifjbeeobjaaW.PrintLast Go.Proofs.YtenbifjbeeobjaaW.PrintMore
attribute [local go_sem] max2_int min2_int max_two min_two max_three min_three max_four min_four
set_option linter.unusedVariables false
set_option linter.unusedSimpArgs false
end Go.Proofs.Ytenbifjbeeobjaa.Px

namespace Go.Proofs.Ytenbifjbeeobjaa.Px
open Go.RowKit Go.Proofs.YtenbifjbeeobjaaW.PrintWords Go.Proofs.YtenbifjbeeobjaaW.PrintLast Go.Proofs.YtenbifjbeeobjaaW.PrintMore
attribute [local go_sem] max2_int min2_int max_two min_two max_three min_three max_four min_four
set_option linter.unusedVariables false
set_option linter.unusedSimpArgs false
end Go.Proofs.Ytenbifjbeeobjaa.Px

namespace Go.Proofs.Ytenbifjbeeobjaa.Px
open Go.RowKit Go.Proofs.YtenbifjbeeobjaaW.PrintWords Go.Proofs.YtenbifjbeeobjaaW.PrintLast Go.Proofs.YtenbifjbeeobjaaW.PrintMore
attribute [local go_sem] max2_int min2_int max_two min_two max_three min_three max_four min_four
set_option linter.unusedVariables false
set_option linter.unusedSimpArgs false
def refNn (s : Bs) : Nat × Bs × Int := takeNumL (takeNumL s).2.1
def refAa (s : Bs) : List ByteArray × Bs × Int := takeRowL (refNn s).2.1 4 400
def refBb (s : Bs) : List ByteArray × Bs × Int := takeRowL (refAa s).2.1 64 32
def refC3 (s : Bs) : Nat × Bs × Int := takeNumL (refBb s).2.1
def refC4 (s : Bs) : Nat × Bs × Int := takeNumL (refC3 s).2.1
def okR (s : Bs) : Prop := (takeNumL s).2.2 = 0 ∧ (refNn s).2.2 = 0 ∧ (takeNumL s).1 ≤ 64 ∧ (refNn s).1 ≤ 1048576 ∧ (refAa s).2.2 = 0 ∧ (refBb s).2.2 = 0 ∧ (refC3 s).2.2 = 0 ∧ (refC3 s).1 ≤ 10006 ∧ (refC4 s).2.2 = 0 ∧ (refC4 s).1 ≤ 10006 ∧ (refC4 s).2.1 = []
instance decOkR (s : Bs) : Decidable (okR s) := by unfold okR; infer_instance
end Go.Proofs.Ytenbifjbeeobjaa.Px

namespace Go.Proofs.Ytenbifjbeeobjaa.Px
open Go.RowKit Go.Proofs.YtenbifjbeeobjaaW.PrintWords Go.Proofs.YtenbifjbeeobjaaW.PrintLast Go.Proofs.YtenbifjbeeobjaaW.PrintMore
attribute [local go_sem] max2_int min2_int max_two min_two max_three min_three max_four min_four
set_option linter.unusedVariables false
set_option linter.unusedSimpArgs false
theorem takeTextL_rest (s : Bs) (most : Int) : (takeTextL s most).1.length ≤ s.length ∧ (takeTextL s most).2.1.length ≤ s.length := by
  have hl := takeNumL_len s
  unfold takeTextL takeTextIf
  split
  · unfold takeTextOf
    split
    · exact ⟨Nat.zero_le _, Nat.zero_le _⟩
    · split
      · exact ⟨Nat.zero_le _, Nat.zero_le _⟩
      · simp only [List.length_take, List.length_drop]; omega
  · exact ⟨Nat.zero_le _, Nat.zero_le _⟩
theorem certTake_ev (s : ByteArray) (n : Int) (hs : s.size < 4611686018427387904) : Ev (fun k => cert_Take.f k s n) (takeP (ofB s) n) := by
  have l0 : (ofB s).length < 4611686018427387904 := by rw [ofB_length]; exact hs
  obtain ⟨l1, l2⟩ := takeTextL_rest (ofB s) 65536
  have t1 := takeText_ev s 65536 hs (by decide)
  have t2 := takeNum_ev (toB (pA (ofB s)).2.1) (by rw [toB_size]; exact Nat.lt_of_le_of_lt l2 l0)
  have t3 := vertexTake_ev (toB (pA (ofB s)).1) n (by rw [toB_size]; exact Nat.lt_of_le_of_lt l1 l0)
  simp only [takeNumB, ofB_toB] at t2 t3
  refine Ev.bind t1 (Ev.bind t2 (Ev.bind t3 ?_))
  have bad : ¬ okP (ofB s) n → takeP (ofB s) n = badP := takeP_neg
  show Ev (fun k => if (pA (ofB s)).2.2 = 0 then (if (pB (ofB s)).2.2 = 0 then (if (pV (ofB s) n).2.2.2.2.2.2 = 0 then (if (toB (pB (ofB s)).2.1).toList = ([] : List UInt8) then ((cert_fits.f (pV (ofB s) n).1 (pV (ofB s) n).2.1 (pV (ofB s) n).2.2.1 (pV (ofB s) n).2.2.2.1 (pV (ofB s) n).2.2.2.2.1 (pV (ofB s) n).2.2.2.2.2.1 ((pB (ofB s)).1 : Int) n).bind fun t => if t = 0 then some ((pV (ofB s) n).1, (pV (ofB s) n).2.1, (pV (ofB s) n).2.2.1, (pV (ofB s) n).2.2.2.1, (pV (ofB s) n).2.2.2.2.1, (pV (ofB s) n).2.2.2.2.2.1, ((pB (ofB s)).1 : Int), 0) else some badP) else some badP) else some badP) else some badP) else some badP) _
  by_cases h1 : (pA (ofB s)).2.2 = 0
  · refine ev_pos h1 ?_
    by_cases h2 : (pB (ofB s)).2.2 = 0
    · refine ev_pos h2 ?_
      by_cases h3 : (pV (ofB s) n).2.2.2.2.2.2 = 0
      · refine ev_pos h3 ?_
        by_cases h4 : (pB (ofB s)).2.1 = []
        · refine ev_pos (by rw [toList_ofB, ofB_toB]; exact h4) (ev_bind_const (cert_fits_of _ _ _ _ _ _ _ (takeNumL_val _) _) ?_)
          by_cases h5 : pFit (ofB s) n = 0
          · exact ev_pos h5 (ev_eq (Ev.now _) (takeP_pos ⟨h1, h2, h3, h4, h5⟩).symm)
          · exact ev_neg h5 (ev_eq (Ev.now _) (bad (fun hh => h5 hh.2.2.2.2)).symm)
        · exact ev_neg (by rw [toList_ofB, ofB_toB]; exact h4) (ev_eq (Ev.now _) (bad (fun hh => h4 hh.2.2.2.1)).symm)
      · exact ev_neg h3 (ev_eq (Ev.now _) (bad (fun hh => h3 hh.2.2.1)).symm)
    · exact ev_neg h2 (ev_eq (Ev.now _) (bad (fun hh => h2 hh.2.1)).symm)
  · exact ev_neg h1 (ev_eq (Ev.now _) (bad (fun hh => h1 hh.1)).symm)
end Go.Proofs.Ytenbifjbeeobjaa.Px
