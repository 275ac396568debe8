/- Part 27 of 33 of the proof of the law PostBack: what is proved is the statement at the end of the last part; its conditions are those of the given row. -/
import Derived.Laws.BitsAllLaws
import Derived.Test.YtenbifjbeeobjaaZPostBackO
import Derived.Test.YtenbifjbeeobjaaZPostBackX
namespace Go.Proofs.Ytenbifjbeeobjaa.Px
open Go.RowKit Go.Proofs.YtenbifjbeeobjaaW.PrintWords Go.Proofs.YtenbifjbeeobjaaW.PrintLast Go.Proofs.YtenbifjbeeobjaaW.PrintMore
attribute [local go_sem] zC zE zJ zK zv zw zB zD
set_option linter.unusedVariables false
set_option linter.unusedSimpArgs false
theorem zco {a r : Int} {bs : List zR} {ps : List ByteArray} {x y n : Int} (h : za3 a r bs ps x y n = true) : (za6 a r bs ps x y).length ≤ 1000000 := by
  obtain ⟨h0, h1, h2, h3, h4, h5, h6, h7, h8, h9⟩ := (zc0 ..).1 h
  obtain ⟨k1, k2, k3⟩ := (zcz n).1 h0
  obtain ⟨x1, x2, y1, y2⟩ := (zdy x y).1 h7
  obtain ⟨p1, p2⟩ := zbx h0 h9
  have r1 := zcD (bs.map bB) 400 (by omega) (fun t ht => by
    obtain ⟨b, _, rfl⟩ := List.mem_map.1 ht
    exact zfl b)
  have r2 := zcD ps 32 (by omega) (fun t ht => by have := p2 t ht; omega)
  have l1 := zad (v := (bs.map bB).length) (by rw [List.length_map]; omega)
  have l2 := zad (v := ps.length) (by omega)
  have l3 := zad (v := a.toNat) (by omega)
  have l4 := zad (v := r.toNat) (by omega)
  have l5 := zad (v := x.toNat) (by omega)
  have l6 := zad (v := y.toNat) (by omega)
  have l7 : (bs.map bB).length = bs.length := List.length_map ..
  rw [za6, zbw, zbw]
  simp only [List.length_append]
  have m1 : (bs.map bB).length * (400 + 9) ≤ 4 * 409 := Nat.mul_le_mul (by omega) (by omega)
  have m2 : ps.length * (32 + 9) ≤ 64 * 41 := Nat.mul_le_mul (by omega) (by omega)
  omega
end Go.Proofs.Ytenbifjbeeobjaa.Px

namespace Go.Proofs.Ytenbifjbeeobjaa.Px
open Go.RowKit Go.Proofs.YtenbifjbeeobjaaW.PrintWords Go.Proofs.YtenbifjbeeobjaaW.PrintLast Go.Proofs.YtenbifjbeeobjaaW.PrintMore
attribute [local go_sem] zC zE zJ zK zv zw zB zD
set_option linter.unusedVariables false
set_option linter.unusedSimpArgs false
end Go.Proofs.Ytenbifjbeeobjaa.Px

namespace Go.Proofs.Ytenbifjbeeobjaa.Px
open Go.RowKit Go.Proofs.YtenbifjbeeobjaaW.PrintWords Go.Proofs.YtenbifjbeeobjaaW.PrintLast Go.Proofs.YtenbifjbeeobjaaW.PrintMore
attribute [local go_sem] zC zE zJ zK zv zw zB zD
set_option linter.unusedVariables false
set_option linter.unusedSimpArgs false
end Go.Proofs.Ytenbifjbeeobjaa.Px

namespace Go.Proofs.Ytenbifjbeeobjaa.Px
open Go.RowKit Go.Proofs.YtenbifjbeeobjaaW.PrintWords Go.Proofs.YtenbifjbeeobjaaW.PrintLast Go.Proofs.YtenbifjbeeobjaaW.PrintMore
attribute [local go_sem] zC zE zJ zK zv zw zB zD
set_option linter.unusedVariables false
set_option linter.unusedSimpArgs false
end Go.Proofs.Ytenbifjbeeobjaa.Px

namespace Go.Proofs.Ytenbifjbeeobjaa.Px
open Go.RowKit Go.Proofs.YtenbifjbeeobjaaW.PrintWords Go.Proofs.YtenbifjbeeobjaaW.PrintLast Go.Proofs.YtenbifjbeeobjaaW.PrintMore
attribute [local go_sem] zC zE zJ zK zv zw zB zD
set_option linter.unusedVariables false
set_option linter.unusedSimpArgs false
end Go.Proofs.Ytenbifjbeeobjaa.Px

namespace Go.Proofs.Ytenbifjbeeobjaa.Px
open Go.RowKit Go.Proofs.YtenbifjbeeobjaaW.PrintWords Go.Proofs.YtenbifjbeeobjaaW.PrintLast Go.Proofs.YtenbifjbeeobjaaW.PrintMore
attribute [local go_sem] zC zE zJ zK zv zw zB zD
set_option linter.unusedVariables false
set_option linter.unusedSimpArgs false
end Go.Proofs.Ytenbifjbeeobjaa.Px

namespace Go.Proofs.Ytenbifjbeeobjaa.Px
open Go.RowKit Go.Proofs.YtenbifjbeeobjaaW.PrintWords Go.Proofs.YtenbifjbeeobjaaW.PrintLast Go.Proofs.YtenbifjbeeobjaaW.PrintMore
attribute [local go_sem] zC zE zJ zK zv zw zB zD
set_option linter.unusedVariables false
set_option linter.unusedSimpArgs false
end Go.Proofs.Ytenbifjbeeobjaa.Px

namespace Go.Proofs.Ytenbifjbeeobjaa.Px
open Go.RowKit Go.Proofs.YtenbifjbeeobjaaW.PrintWords Go.Proofs.YtenbifjbeeobjaaW.PrintLast Go.Proofs.YtenbifjbeeobjaaW.PrintMore
attribute [local go_sem] zC zE zJ zK zv zw zB zD
set_option linter.unusedVariables false
set_option linter.unusedSimpArgs false
end Go.Proofs.Ytenbifjbeeobjaa.Px

namespace Go.Proofs.Ytenbifjbeeobjaa.Px
open Go.RowKit Go.Proofs.YtenbifjbeeobjaaW.PrintWords Go.Proofs.YtenbifjbeeobjaaW.PrintLast Go.Proofs.YtenbifjbeeobjaaW.PrintMore
attribute [local go_sem] zC zE zJ zK zv zw zB zD
set_option linter.unusedVariables false
set_option linter.unusedSimpArgs false
end Go.Proofs.Ytenbifjbeeobjaa.Px

namespace Go.Proofs.Ytenbifjbeeobjaa.Px
open Go.RowKit Go.Proofs.YtenbifjbeeobjaaW.PrintWords Go.Proofs.YtenbifjbeeobjaaW.PrintLast Go.Proofs.YtenbifjbeeobjaaW.PrintMore
attribute [local go_sem] zC zE zJ zK zv zw zB zD
set_option linter.unusedVariables false
set_option linter.unusedSimpArgs false
end Go.Proofs.Ytenbifjbeeobjaa.Px

namespace Go.Proofs.Ytenbifjbeeobjaa.Px
open Go.RowKit Go.Proofs.YtenbifjbeeobjaaW.PrintWords Go.Proofs.YtenbifjbeeobjaaW.PrintLast Go.Proofs.YtenbifjbeeobjaaW.PrintMore
attribute [local go_sem] zC zE zJ zK zv zw zB zD
set_option linter.unusedVariables false
set_option linter.unusedSimpArgs false
end Go.Proofs.Ytenbifjbeeobjaa.Px

namespace Go.Proofs.Ytenbifjbeeobjaa.Px
open Go.RowKit Go.Proofs.YtenbifjbeeobjaaW.PrintWords Go.Proofs.YtenbifjbeeobjaaW.PrintLast Go.Proofs.YtenbifjbeeobjaaW.PrintMore
attribute [local go_sem] zC zE zJ zK zv zw zB zD
set_option linter.unusedVariables false
set_option linter.unusedSimpArgs false
def zbh : Nat → Nat → Nat
  | 0, _ => 0
  | d + 1, s => s % 2 + zbh d (s / 2)
theorem zcd : ∀ (d s : Nat), zbh d s ≤ d
  | 0, _ => Nat.le_refl _
  | d + 1, s => by have := zcd d (s / 2); rw [zbh]; omega
theorem zb5 : ∀ (d e b r : Nat), b < 2 ^ d → zbh (d + e) (b + 2 ^ d * r) = zbh d b + zbh e r
  | 0, e, b, r, h => by
    obtain rfl : b = 0 := by simpa using h
    rw [Nat.zero_add, Nat.zero_add, Nat.pow_zero, Nat.one_mul]; simp [zbh]
  | d + 1, e, b, r, h => by
    rw [Nat.pow_succ] at h
    have e1 : (b + 2 ^ (d + 1) * r) / 2 = b / 2 + 2 ^ d * r := by
      rw [Nat.pow_succ, Nat.mul_assoc, Nat.mul_left_comm, Nat.add_mul_div_left _ _ (by omega)]
    have e2 : (b + 2 ^ (d + 1) * r) % 2 = b % 2 := by
      rw [Nat.pow_succ, Nat.mul_assoc, Nat.mul_left_comm, Nat.add_mul_mod_self_left]
    rw [show d + 1 + e = (d + e) + 1 by omega, zbh, zbh, e1, e2, zb5 d e (b / 2) r (by omega)]
    omega
def zaw : List Nat → Nat
  | [] => 0
  | b :: l => b + 256 * zaw l
theorem zcY (a b c d : Nat) (hb : b < 256) (hd : d < 256) : (b + 256 * a) &&& (d + 256 * c) = (b &&& d) + 256 * (a &&& c) := by
  have hx : b &&& d < 2 ^ 8 := Nat.and_lt_two_pow _ (by omega)
  apply Nat.eq_of_testBit_eq
  intro i
  rw [Nat.testBit_and, Nat.add_comm b, Nat.add_comm d, Nat.add_comm (b &&& d)]
  rw [show (256 : Nat) = 2 ^ 8 from rfl, Nat.testBit_two_pow_mul_add _ (by omega), Nat.testBit_two_pow_mul_add _ (by omega), Nat.testBit_two_pow_mul_add _ hx]
  split <;> rw [Nat.testBit_and]
theorem zhY : ∀ (b : Fin 256) (t : Fin 2), (b.val / 2 + 128 * t.val) &&& 85 = b.val / 2 &&& 85 := by decide +kernel
theorem zhX : ∀ (b : Fin 256) (t : Fin 4), (b.val / 4 + 64 * t.val) &&& 51 = b.val / 4 &&& 51 := by decide +kernel
def zdg (b : Nat) : Nat := (b / 2 &&& 85) + (b &&& 85)
def zd7 (b : Nat) : Nat := (b / 4 &&& 51) + (b &&& 51)
def zhs (b : Nat) : Nat := b % 16 + b / 16
theorem zek : ∀ b : Fin 256, zdg b.val < 256 ∧ zd7 (zdg b.val) < 256 ∧ zd7 (zdg b.val) % 16 ≤ 4 ∧ zd7 (zdg b.val) / 16 ≤ 4 ∧ zhs (zd7 (zdg b.val)) = zbh 8 b.val := by decide +kernel
theorem zgS : ∀ l : List Nat, (∀ b ∈ l, b < 256) → (zaw l / 2 &&& zaw (List.replicate l.length 85)) + (zaw l &&& zaw (List.replicate l.length 85)) = zaw (l.map zdg)
  | [], _ => rfl
  | b :: l, h => by
    have hb := h b List.mem_cons_self
    have ih := zgS l (fun c hc => h c (List.mem_cons_of_mem _ hc))
    have k := zhY ⟨b, hb⟩ ⟨zaw l % 2, Nat.mod_lt _ (by omega)⟩
    simp only at k
    rw [List.length_cons, List.replicate_succ, zaw, zaw, List.map_cons, zaw, ← ih]
    rw [show (b + 256 * zaw l) / 2 = (b / 2 + 128 * (zaw l % 2)) + 256 * (zaw l / 2) by omega, zcY _ _ _ _ (by omega) (by omega), zcY _ _ _ _ hb (by omega), k, zdg]
    omega
theorem zgU : ∀ l : List Nat, (∀ b ∈ l, b < 256) → (zaw l / 4 &&& zaw (List.replicate l.length 51)) + (zaw l &&& zaw (List.replicate l.length 51)) = zaw (l.map zd7)
  | [], _ => rfl
  | b :: l, h => by
    have hb := h b List.mem_cons_self
    have ih := zgU l (fun c hc => h c (List.mem_cons_of_mem _ hc))
    have k := zhX ⟨b, hb⟩ ⟨zaw l % 4, Nat.mod_lt _ (by omega)⟩
    simp only at k
    rw [List.length_cons, List.replicate_succ, zaw, zaw, List.map_cons, zaw, ← ih]
    rw [show (b + 256 * zaw l) / 4 = (b / 4 + 64 * (zaw l % 4)) + 256 * (zaw l / 4) by omega, zcY _ _ _ _ (by omega) (by omega), zcY _ _ _ _ hb (by omega), k, zd7]
    omega
theorem zgM (l : List Nat) (h : ∀ b ∈ l, b % 16 ≤ 4 ∧ b / 16 ≤ 4) : zaw l % 16 ≤ 4 := by
  cases l with
  | nil => simp [zaw]
  | cons b l => have := (h b List.mem_cons_self).1; rw [zaw]; omega
theorem zg2 : ∀ l : List Nat, (∀ b ∈ l, b % 16 ≤ 4 ∧ b / 16 ≤ 4) → ((zaw l / 16 + zaw l) &&& zaw (List.replicate l.length 15)) = zaw (l.map zhs)
  | [], _ => rfl
  | b :: l, h => by
    obtain ⟨h1, h2⟩ := h b List.mem_cons_self
    have hl := fun c hc => h c (List.mem_cons_of_mem b hc)
    have ih := zg2 l hl
    have k := zgM l hl
    rw [List.length_cons, List.replicate_succ, zaw, zaw, List.map_cons, zaw, ← ih]
    rw [show (b + 256 * zaw l) / 16 + (b + 256 * zaw l) = (b / 16 + 16 * (zaw l % 16) + b) + 256 * (zaw l / 16 + zaw l) by omega, zcY _ _ _ _ (by omega) (by omega)]
    rw [show (15 : Nat) = 2 ^ 4 - 1 from rfl, Nat.and_two_pow_sub_one_eq_mod, zhs]
    omega
theorem zfy : ∀ l : List Nat, (∀ b ∈ l, b < 256) → zaw l < 256 ^ l.length
  | [], _ => by simp [zaw]
  | b :: l, h => by
    have := zfy l (fun c hc => h c (List.mem_cons_of_mem _ hc))
    have hb := h b List.mem_cons_self
    rw [zaw, List.length_cons, Nat.pow_succ]; omega
set_option maxRecDepth 10000 in
theorem zgj (m : Nat) : ∀ l : List Nat, (∀ b ∈ l, b ≤ m) → zaw l * 255 + m ≤ m * 256 ^ l.length
  | [], _ => by simp [zaw]
  | b :: l, h => by
    have := zgj m l (fun c hc => h c (List.mem_cons_of_mem _ hc))
    have hb := h b List.mem_cons_self
    rw [zaw, List.length_cons, Nat.pow_succ, ← Nat.mul_assoc]
    generalize m * 256 ^ l.length = X at *
    omega
theorem zde (a b : Nat) (h : a + b < 18446744073709551616) : IntKind.u64.wrap ((a : Int) + (b : Int)) = ((a + b : Nat) : Int) := by
  rw [zbe (by omega) (by omega)]; omega
theorem zhP {q0 q1 q2 r1 r2 r3 z : Nat} (g0 : q0 ≤ 8) (g1 : q1 ≤ 8) (g2 : q2 ≤ 8) (e0 : z = q0 + 256 * r1) (e1 : r1 = q1 + 256 * r2) (e2 : r2 = q2 + 256 * r3) : z / 256 = r1 ∧ (z + r1) / 65536 = r2 + r3 := by
  constructor <;> omega
theorem zhK {q0 q1 q2 q3 q4 q5 q6 q7 r1 r2 r3 r4 r5 r6 z : Nat} (g0 : q0 ≤ 8) (g1 : q1 ≤ 8) (g2 : q2 ≤ 8) (g3 : q3 ≤ 8) (g4 : q4 ≤ 8) (g5 : q5 ≤ 8) (g6 : q6 ≤ 8) (e0 : z = q0 + 256 * q1 + 65536 * q2 + 16777216 * q3 + 4294967296 * r4) (e1 : r1 = q1 + 256 * q2 + 65536 * q3 + 16777216 * q4 + 4294967296 * r5) (e2 : r2 = q2 + 256 * q3 + 65536 * q4 + 16777216 * q5 + 4294967296 * r6) (e3 : r3 = q3 + 256 * q4 + 65536 * q5 + 16777216 * q6 + 4294967296 * q7) :
    (z + r1 + (r2 + r3)) / 4294967296 = r4 + r5 + r6 + q7 := by
  generalize hx : q0 + 256 * q1 + 65536 * q2 + 16777216 * q3 = x at *
  have lx : x ≤ 134744072 := by omega
  generalize hy : q1 + 256 * q2 + 65536 * q3 + 16777216 * q4 = y at *
  have ly : y ≤ 134744072 := by omega
  generalize hu : q2 + 256 * q3 + 65536 * q4 + 16777216 * q5 = u at *
  have lu : u ≤ 134744072 := by omega
  generalize hv : q3 + 256 * q4 + 65536 * q5 + 16777216 * q6 = v at *
  have lv : v ≤ 134744072 := by omega
  clear hx hy hu hv g0 g1 g2 g3 g4 g5 g6
  omega
theorem zhw (q0 q1 q2 q3 q4 q5 q6 q7 z z1 z2 z3 : Nat) (g0 : q0 ≤ 8) (g1 : q1 ≤ 8) (g2 : q2 ≤ 8) (g3 : q3 ≤ 8) (g4 : q4 ≤ 8) (g5 : q5 ≤ 8) (g6 : q6 ≤ 8) (g7 : q7 ≤ 8)
    (hz : z = q0 + 256 * (q1 + 256 * (q2 + 256 * (q3 + 256 * (q4 + 256 * (q5 + 256 * (q6 + 256 * q7))))))) (h1 : z1 = z + z / 256) (h2 : z2 = z1 + z1 / 65536) (h3 : z3 = z2 + z2 / 4294967296) :
    z3 % 128 = q0 + (q1 + (q2 + (q3 + (q4 + (q5 + (q6 + q7)))))) := by
  obtain ⟨r6, e6⟩ : ∃ r, r = q6 + 256 * q7 := ⟨_, rfl⟩
  obtain ⟨r5, e5⟩ : ∃ r, r = q5 + 256 * r6 := ⟨_, rfl⟩
  obtain ⟨r4, e4⟩ : ∃ r, r = q4 + 256 * r5 := ⟨_, rfl⟩
  obtain ⟨r3, e3⟩ : ∃ r, r = q3 + 256 * r4 := ⟨_, rfl⟩
  obtain ⟨r2, e2⟩ : ∃ r, r = q2 + 256 * r3 := ⟨_, rfl⟩
  obtain ⟨r1, e1⟩ : ∃ r, r = q1 + 256 * r2 := ⟨_, rfl⟩
  rw [← e6, ← e5, ← e4, ← e3, ← e2, ← e1] at hz
  obtain ⟨a1, a2⟩ := zhP g0 g1 g2 hz e1 e2
  rw [a1] at h1
  rw [h1, a2] at h2
  have a3 := zhK (z := z) (q7 := q7) (r1 := r1) (r2 := r2) (r3 := r3) (r4 := r4) (r5 := r5) (r6 := r6) g0 g1 g2 g3 g4 g5 g6 (by rw [hz, e1, e2, e3]; omega) (by rw [e1, e2, e3, e4]; omega) (by rw [e2, e3, e4, e5]; omega) (by rw [e3, e4, e5, e6]; omega)
  rw [h2, a3] at h3
  clear a1 a2 a3 h1 h2
  omega
set_option maxHeartbeats 1000000 in
theorem zdf (x : Nat) (hx : x < 18446744073709551616) : za0.f (x : Int) = some ((zbh 64 x : Nat) : Int) := by
  obtain ⟨b0, b1, b2, b3, b4, b5, b6, b7, h0, h1, h2, h3, h4, h5, h6, h7, e⟩ : ∃ b0 b1 b2 b3 b4 b5 b6 b7 : Nat, b0 < 256 ∧ b1 < 256 ∧ b2 < 256 ∧ b3 < 256 ∧ b4 < 256 ∧ b5 < 256 ∧ b6 < 256 ∧ b7 < 256 ∧ x = zaw [b0, b1, b2, b3, b4, b5, b6, b7] :=
    ⟨x % 256, x / 256 % 256, x / 65536 % 256, x / 16777216 % 256, x / 4294967296 % 256, x / 1099511627776 % 256, x / 281474976710656 % 256, x / 72057594037927936, by omega, by omega, by omega, by omega, by omega, by omega, by omega, by omega, by simp only [zaw]; omega⟩
  generalize hl : [b0, b1, b2, b3, b4, b5, b6, b7] = l at e
  have hlen : l.length = 8 := by rw [← hl]; rfl
  have hb : ∀ b ∈ l, b < 256 := by rw [← hl]; simp only [List.mem_cons, List.not_mem_nil, or_false]; rintro b (rfl | rfl | rfl | rfl | rfl | rfl | rfl | rfl) <;> assumption
  have q1 := zgS l hb
  have hb1 : ∀ b ∈ l.map zdg, b < 256 := fun b hm => by obtain ⟨c, hc, rfl⟩ := List.mem_map.1 hm; exact (zek ⟨c, hb c hc⟩).1
  have q2 := zgU (l.map zdg) hb1
  have hb2 : ∀ b ∈ (l.map zdg).map zd7, b % 16 ≤ 4 ∧ b / 16 ≤ 4 := fun b hm => by
    obtain ⟨c, hc, rfl⟩ := List.mem_map.1 hm
    obtain ⟨d, hd, rfl⟩ := List.mem_map.1 hc
    have := zek ⟨d, hb d hd⟩
    exact ⟨this.2.2.1, this.2.2.2.1⟩
  have q3 := zg2 ((l.map zdg).map zd7) hb2
  have e4 : ((l.map zdg).map zd7).map zhs = l.map (zbh 8) := by
    rw [List.map_map, List.map_map]
    refine List.map_congr_left (fun c hc => ?_)
    exact (zek ⟨c, hb c hc⟩).2.2.2.2
  rw [e4] at q3
  rw [List.length_map] at q2
  rw [List.length_map, List.length_map] at q3
  rw [hlen] at q1 q2 q3
  have p8 : (256 : Nat) ^ 8 = 18446744073709551616 := by decide
  have l1 := zfy _ hb1
  rw [List.length_map, hlen, p8] at l1
  have l2 := zfy ((l.map zdg).map zd7) (fun b hm => by have := hb2 b hm; omega)
  rw [List.length_map, List.length_map, hlen, p8] at l2
  have l2' := zgj 68 ((l.map zdg).map zd7) (fun b hm => by have := hb2 b hm; omega)
  rw [List.length_map, List.length_map, hlen, p8] at l2'
  rw [show zaw (List.replicate 8 85) = 6148914691236517205 from rfl, ← e] at q1
  rw [show zaw (List.replicate 8 51) = 3689348814741910323 from rfl] at q2
  rw [show zaw (List.replicate 8 15) = 1085102592571150095 from rfl] at q3
  generalize zaw (l.map zdg) = y1 at *
  generalize zaw ((l.map zdg).map zd7) = y2 at *
  have hz : zaw (l.map (zbh 8)) = zbh 8 b0 + 256 * (zbh 8 b1 + 256 * (zbh 8 b2 + 256 * (zbh 8 b3 + 256 * (zbh 8 b4 + 256 * (zbh 8 b5 + 256 * (zbh 8 b6 + 256 * zbh 8 b7)))))) := by rw [← hl]; simp only [List.map, zaw, Nat.mul_zero, Nat.add_zero]
  have hp : zbh 64 x = zbh 8 b0 + (zbh 8 b1 + (zbh 8 b2 + (zbh 8 b3 + (zbh 8 b4 + (zbh 8 b5 + (zbh 8 b6 + zbh 8 b7)))))) := by
    rw [e, ← hl]
    simp only [zaw, Nat.mul_zero, Nat.add_zero]
    rw [show (64 : Nat) = 8 + 56 from rfl, show (256 : Nat) = 2 ^ 8 from rfl, zb5 _ _ _ _ h0, show (56 : Nat) = 8 + 48 from rfl, zb5 _ _ _ _ h1, show (48 : Nat) = 8 + 40 from rfl, zb5 _ _ _ _ h2, show (40 : Nat) = 8 + 32 from rfl, zb5 _ _ _ _ h3, show (32 : Nat) = 8 + 24 from rfl, zb5 _ _ _ _ h4, show (24 : Nat) = 8 + 16 from rfl, zb5 _ _ _ _ h5, show (16 : Nat) = 8 + 8 from rfl, zb5 _ _ _ _ h6]
  have g0 := zcd 8 b0
  have g1 := zcd 8 b1
  have g2 := zcd 8 b2
  have g3 := zcd 8 b3
  have g4 := zcd 8 b4
  have g5 := zcd 8 b5
  have g6 := zcd 8 b6
  have g7 := zcd 8 b7
  generalize zaw (l.map (zbh 8)) = z at *
  have d2 : (x : Int) / 2 = ((x / 2 : Nat) : Int) := by omega
  have d4 : (y1 : Int) / 4 = ((y1 / 4 : Nat) : Int) := by omega
  have d16 : (y2 : Int) / 16 = ((y2 / 16 : Nat) : Int) := by omega
  have i1 : IntKind.u64.wrap (Go.bits .and .u64 ((x : Int) / 2) 6148914691236517205 + Go.bits .and .u64 (x : Int) 6148914691236517205) = (y1 : Int) := by
    have k1 : Go.bits .and .u64 ((x / 2 : Nat) : Int) 6148914691236517205 = ((x / 2 &&& 6148914691236517205 : Nat) : Int) := u64_and_nat (x / 2) 6148914691236517205 (by omega) (by omega)
    have k2 : Go.bits .and .u64 (x : Int) 6148914691236517205 = ((x &&& 6148914691236517205 : Nat) : Int) := u64_and_nat x 6148914691236517205 hx (by omega)
    rw [d2, k1, k2, zde _ _ (by rw [q1]; exact l1), q1]
  have i2 : IntKind.u64.wrap (Go.bits .and .u64 ((y1 : Int) / 4) 3689348814741910323 + Go.bits .and .u64 (y1 : Int) 3689348814741910323) = (y2 : Int) := by
    have k1 : Go.bits .and .u64 ((y1 / 4 : Nat) : Int) 3689348814741910323 = ((y1 / 4 &&& 3689348814741910323 : Nat) : Int) := u64_and_nat (y1 / 4) 3689348814741910323 (by omega) (by omega)
    have k2 : Go.bits .and .u64 (y1 : Int) 3689348814741910323 = ((y1 &&& 3689348814741910323 : Nat) : Int) := u64_and_nat y1 3689348814741910323 l1 (by omega)
    rw [d4, k1, k2, zde _ _ (by rw [q2]; exact l2), q2]
  have l3 : y2 / 16 + y2 < 18446744073709551616 := by omega
  have i3 : Go.bits .and .u64 (IntKind.u64.wrap ((y2 : Int) / 16 + (y2 : Int))) 1085102592571150095 = (z : Int) := by
    have k1 : Go.bits .and .u64 ((y2 / 16 + y2 : Nat) : Int) 1085102592571150095 = ((y2 / 16 + y2 &&& 1085102592571150095 : Nat) : Int) := u64_and_nat (y2 / 16 + y2) 1085102592571150095 l3 (by omega)
    rw [d16, zde _ _ l3, k1, q3]
  unfold za0.f
  rw [i1, i2, i3]
  have i4 : IntKind.u64.wrap ((z : Int) + (z : Int) / 256) = ((z + z / 256 : Nat) : Int) := by
    rw [show (z : Int) / 256 = ((z / 256 : Nat) : Int) by omega]; exact zde _ _ (by omega)
  rw [i4]
  generalize hz1 : z + z / 256 = z1
  have i5 : IntKind.u64.wrap ((z1 : Int) + (z1 : Int) / 65536) = ((z1 + z1 / 65536 : Nat) : Int) := by
    rw [show (z1 : Int) / 65536 = ((z1 / 65536 : Nat) : Int) by omega]; exact zde _ _ (by omega)
  rw [i5]
  generalize hz2 : z1 + z1 / 65536 = z2
  have i6 : IntKind.u64.wrap ((z2 : Int) + (z2 : Int) / 4294967296) = ((z2 + z2 / 4294967296 : Nat) : Int) := by
    rw [show (z2 : Int) / 4294967296 = ((z2 / 4294967296 : Nat) : Int) by omega]; exact zde _ _ (by omega)
  rw [i6]
  generalize hz3 : z2 + z2 / 4294967296 = z3
  have l4 : z3 < 9223372036854775808 := by omega
  have i7 : Go.bits .and .i64 (wrap64 (z3 : Int)) 127 = ((z3 % 128 : Nat) : Int) := by
    rw [zaL (by omega) (by omega)]
    have := bits_mask .i64 63 (by decide) (fun n h0 h1 => by rw [IntKind.wrap_i64]; omega) 7 (by decide) (z3 : Int) (by omega) (by omega)
    rw [show ((2 : Int) ^ 7 - 1) = 127 from rfl] at this
    rw [this]; omega
  rw [i7, hp]
  have hq : z3 % 128 = zbh 8 b0 + (zbh 8 b1 + (zbh 8 b2 + (zbh 8 b3 + (zbh 8 b4 + (zbh 8 b5 + (zbh 8 b6 + zbh 8 b7)))))) := zhw _ _ _ _ _ _ _ _ _ _ _ _ g0 g1 g2 g3 g4 g5 g6 g7 hz hz1.symm hz2.symm hz3.symm
  rw [hq]
end Go.Proofs.Ytenbifjbeeobjaa.Px

namespace Go.Proofs.Ytenbifjbeeobjaa.Px
open Go.RowKit Go.Proofs.YtenbifjbeeobjaaW.PrintWords Go.Proofs.YtenbifjbeeobjaaW.PrintLast Go.Proofs.YtenbifjbeeobjaaW.PrintMore
attribute [local go_sem] zC zE zJ zK zv zw zB zD
set_option linter.unusedVariables false
set_option linter.unusedSimpArgs false
def zbP (s : Nat) (n : Int) : Bool := decide (0 ≤ n) && decide (n ≤ 64) && decide (s < 2 ^ n.toNat)
theorem zb6 (s : Nat) (n : Int) : zbP s n = true ↔ 0 ≤ n ∧ n ≤ 64 ∧ s < 2 ^ n.toNat := by
  unfold zbP; simp [and_assoc]
theorem zfn (s p : Nat) (hp : 0 < p) : s / p = 0 ↔ s < p := by
  rw [Nat.div_eq_zero_iff]; omega
theorem zd8 (s : Nat) (n : Int) : zaS.f (s : Int) n = some (zbP s n) := by
  unfold zaS.f
  by_cases h1 : n < 0
  · rw [if_pos h1]
    have : zbP s n = false := by rw [← Bool.not_eq_true, zb6]; omega
    rw [this]
  rw [if_neg h1]
  by_cases h2 : n > 64
  · rw [if_pos h2]
    have : zbP s n = false := by rw [← Bool.not_eq_true, zb6]; omega
    rw [this]
  rw [if_neg h2, zaL (by omega) (by omega)]
  by_cases h3 : n > 0
  · obtain ⟨m, rfl⟩ : ∃ m : Nat, n = ((m + 1 : Nat) : Int) := ⟨(n - 1).toNat, by omega⟩
    have hm : mx (((m + 1 : Nat) : Int) - 1) 0 = (m : Int) := by unfold mx; split <;> omega
    have hs : shr .u64 ((s : Int) / 2) (m : Int) = ((s / 2 / 2 ^ m : Nat) : Int) := by
      unfold shr
      rw [Int.toNat_natCast, Nat.min_eq_left (by show m ≤ 64; omega), show (s : Int) / 2 = ((s / 2 : Nat) : Int) by omega]
      norm_cast
    have he : s / 2 / 2 ^ m = s / 2 ^ (m + 1) := by rw [Nat.div_div_eq_div_mul, Nat.pow_succ, Nat.mul_comm]
    rw [hm, hs, he]
    have key := zfn s (2 ^ (m + 1)) (Nat.two_pow_pos _)
    by_cases h4 : s / 2 ^ (m + 1) = 0
    · rw [if_pos (by omega), if_pos h3]
      have : zbP s ((m + 1 : Nat) : Int) = true := by rw [zb6]; exact ⟨by omega, by omega, key.1 h4⟩
      rw [this]
    · rw [if_neg (by omega)]
      have : zbP s ((m + 1 : Nat) : Int) = false := by
        rw [← Bool.not_eq_true, zb6]
        exact fun hh => h4 (key.2 hh.2.2)
      rw [this]
  · obtain rfl : n = 0 := by omega
    have hm : mx ((0 : Int) - 1) 0 = 0 := by decide
    have hs : shr .u64 ((s : Int) / 2) 0 = (s : Int) / 2 := by unfold shr; simp
    have hw : zbP s 0 = decide (s = 0) := by
      rw [Bool.eq_iff_iff, zb6]; simp
    rw [hm, hs, hw]
    by_cases h4 : s = 0
    · subst h4; rfl
    · by_cases h5 : (s : Int) / 2 = 0
      · rw [if_pos h5, if_neg (by omega)]
        congr 1
        rw [Bool.eq_iff_iff]; simp
      · rw [if_neg h5]; simp [h4]
theorem zel (s : Nat) (hs : s < 18446744073709551616) : zaW.f (s : Int) = some ((zbh 64 s : Nat) : Int) := by
  unfold zaW.f
  rw [zdf s hs]; rfl
def zcu (a r : Int) (bs : List zR) (ps : List ByteArray) (x y : Int) (s : Nat) (n : Int) : Int :=
  if za3 a r bs ps x y n = true then if zbP s n = true then if ((zbh 64 s : Nat) : Int) < zcw n then 2 else 0 else 4 else 1
theorem zdE (a r : Int) (bs : List zR) (ps : List ByteArray) (x y : Int) (s : Nat) (hs : s < 18446744073709551616) (n : Int) : zaV.f a r bs ps x y (s : Int) n = some (zcu a r bs ps x y s n) := by
  unfold zaV.f zcu
  rw [show zaa.f a r bs ps x y n = some (za3 a r bs ps x y n) from rfl, zd8, zel s hs, zcU]
  simp only [Option.bind_some]
  split
  · split
    · split <;> rfl
    · rfl
  · rfl
theorem zcl {a r : Int} {bs : List zR} {ps : List ByteArray} {x y : Int} {s : Nat} {n : Int} : zcu a r bs ps x y s n = 0 ↔ za3 a r bs ps x y n = true ∧ zbP s n = true ∧ zcw n ≤ ((zbh 64 s : Nat) : Int) := by
  unfold zcu
  by_cases h1 : za3 a r bs ps x y n = true
  · rw [if_pos h1]
    by_cases h2 : zbP s n = true
    · rw [if_pos h2]
      by_cases h3 : ((zbh 64 s : Nat) : Int) < zcw n
      · rw [if_pos h3]; simp; omega
      · rw [if_neg h3]; simp [h1, h2]; omega
    · rw [if_neg h2]; simp [h2]
  · rw [if_neg h1]; simp [h1]
def zcb (a r : Int) (bs : List zR) (ps : List ByteArray) (x y : Int) (s : Nat) : Bs := zcc (za6 a r bs ps x y) ++ zaN s
def zge (a r : Int) (bs : List zR) (ps : List ByteArray) (x y : Int) (s : Nat) (n : Int) : ByteArray × Int :=
  if zcu a r bs ps x y s n = 0 then (toB (zcb a r bs ps x y s), 0) else ((⟨#[]⟩ : ByteArray), zcu a r bs ps x y s n)
theorem zgy (l : Bs) : zdP (toB l) = toB (zcc l) := by rw [zf2, zY]
theorem ze5 (a r : Int) (bs : List zR) (ps : List ByteArray) (x y : Int) (s : Nat) (hs : s < 18446744073709551616) (n : Int) : zaG.f a r bs ps x y (s : Int) n = some (zge a r bs ps x y s n) := by
  unfold zaG.f zge
  rw [zdE _ _ _ _ _ _ _ hs]
  simp only [Option.bind_some]
  by_cases h : zcu a r bs ps x y s n = 0
  · rw [if_pos h, if_pos h]
    have hm := (zcl.1 h).1
    have hl := zco hm
    rw [zcV, if_pos hm]
    simp only [Option.bind_some]
    have n1 := zaY (v := s) hs
    have n2 := zaY (v := (za6 a r bs ps x y).length) (by omega)
    rw [zc4 _ (by rw [z5]; omega), zbY s hs]
    simp only [Option.bind_some]
    rw [if_pos (by rw [zdP, ByteArray.size_append, z5]; omega), zgy, zcb, zbU]; rfl
  · rw [if_neg h, if_neg h]
end Go.Proofs.Ytenbifjbeeobjaa.Px

namespace Go.Proofs.Ytenbifjbeeobjaa.Px
open Go.RowKit Go.Proofs.YtenbifjbeeobjaaW.PrintWords Go.Proofs.YtenbifjbeeobjaaW.PrintLast Go.Proofs.YtenbifjbeeobjaaW.PrintMore
attribute [local go_sem] zC zE zJ zK zv zw zB zD
set_option linter.unusedVariables false
set_option linter.unusedSimpArgs false
abbrev PT := Int × Int × List zR × List ByteArray × Int × Int × Int × Int
def zdz : PT := (0, 0, [], [], 0, 0, 0, 3)
def pA (s : Bs) : Bs × Bs × Int := zav s 65536
def pB (s : Bs) : Nat × Bs × Int := zM (pA s).2.1
def pV (s : Bs) (n : Int) : VT := zdj (pA s).1 n
def zhH (s : Bs) (n : Int) : Int := zcu (pV s n).1 (pV s n).2.1 (pV s n).2.2.1 (pV s n).2.2.2.1 (pV s n).2.2.2.2.1 (pV s n).2.2.2.2.2.1 (pB s).1 n
def okP (s : Bs) (n : Int) : Prop := (pA s).2.2 = 0 ∧ (pB s).2.2 = 0 ∧ (pV s n).2.2.2.2.2.2 = 0 ∧ (pB s).2.1 = [] ∧ zhH s n = 0
instance decOkP (s : Bs) (n : Int) : Decidable (okP s n) := by unfold okP; infer_instance
def zd1 (s : Bs) (n : Int) : PT := if okP s n then ((pV s n).1, (pV s n).2.1, (pV s n).2.2.1, (pV s n).2.2.2.1, (pV s n).2.2.2.2.1, (pV s n).2.2.2.2.2.1, ((pB s).1 : Int), 0) else zdz
theorem zdU {s : Bs} {n : Int} (h : okP s n) : zd1 s n = ((pV s n).1, (pV s n).2.1, (pV s n).2.2.1, (pV s n).2.2.2.1, (pV s n).2.2.2.2.1, (pV s n).2.2.2.2.2.1, ((pB s).1 : Int), 0) := if_pos h
theorem zfb {s : Bs} {n : Int} (h : ¬ okP s n) : zd1 s n = zdz := if_neg h
theorem zg6 (s : Bs) (n : Int) : zd1 s n = zdz ∨ ∃ a r bs ps x y, ∃ z : Nat, zd1 s n = (a, r, bs, ps, x, y, (z : Int), 0) ∧ zcu a r bs ps x y z n = 0 ∧ z < 18446744073709551616 ∧ s = zcb a r bs ps x y z := by
  by_cases h : okP s n
  · refine .inr ⟨_, _, _, _, _, _, _, zdU h, h.2.2.2.2, ?_, ?_⟩
    · exact zby _
    · obtain ⟨h1, h2, h3, h4, h5⟩ := h
      obtain ⟨e1, _, _⟩ := zdC (s := s) (t := (pA s).1) (r := (pA s).2.1) (most := 65536) (by rw [← h1]; rfl)
      obtain ⟨e2, _⟩ := zbn (s := (pA s).2.1) (v := (pB s).1) (r := (pB s).2.1) (by rw [← h2]; rfl)
      rcases zfL (pA s).1 n with h6 | ⟨a, r, bs, ps, x, y, h6, hm, h7⟩
      · exfalso
        rw [show zdj (pA s).1 n = pV s n from rfl] at h6
        rw [h6] at h3; exact absurd h3 (by decide)
      · have h6' : pV s n = (a, r, bs, ps, x, y, 0) := h6
        rw [h6']
        simp only
        rw [h4, List.append_nil] at e2
        rw [zcb, ← h7, ← e2, ← e1]
  · exact .inl (zfb h)
theorem zfU {a r : Int} {bs : List zR} {ps : List ByteArray} {x y n : Int} {z : Nat} (h : zcu a r bs ps x y z n = 0) (hz : z < 18446744073709551616) : zd1 (zcb a r bs ps x y z) n = (a, r, bs, ps, x, y, (z : Int), 0) := by
  have hm := (zcl.1 h).1
  have hl : (za6 a r bs ps x y).length ≤ 65536 := by
    obtain ⟨h0, h1, h2, h3, h4, h5, h6, h7, h8, h9⟩ := (zc0 ..).1 hm
    obtain ⟨k1, k2, k3⟩ := (zcz n).1 h0
    obtain ⟨x1, x2, y1, y2⟩ := (zdy x y).1 h7
    have r1 := zgi h5
    have r2 := zgr (zbx h0 h9)
    have l3 := zad (v := a.toNat) (by omega)
    have l4 := zad (v := r.toNat) (by omega)
    have l5 := zad (v := x.toNat) (by omega)
    have l6 := zad (v := y.toNat) (by omega)
    rw [za6]
    simp only [List.length_append]
    omega
  have e1 : pA (zcb a r bs ps x y z) = (za6 a r bs ps x y, zaN z, 0) := by
    have := zcZ (t := toB (za6 a r bs ps x y)) (most := 65536) (by rw [z5]; omega) (by rw [z5]; omega) (zaN z)
    rw [zY] at this
    exact this
  have e2 : pB (zcb a r bs ps x y z) = (z, [], 0) := by
    rw [pB, e1]
    have := zbA hz []
    rwa [List.append_nil] at this
  have e3 : pV (zcb a r bs ps x y z) n = (a, r, bs, ps, x, y, 0) := by
    rw [pV, e1]; exact zdJ hm
  have ho : okP (zcb a r bs ps x y z) n := by
    unfold okP zhH
    rw [e1, e2, e3]
    exact ⟨rfl, rfl, rfl, rfl, h⟩
  rw [zdU ho, e2, e3]
end Go.Proofs.Ytenbifjbeeobjaa.Px
