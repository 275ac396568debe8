/- Part 27 of 28 of the proof of the law CertFewer: what is proved is the statement at the end of the last part; its conditions are those of the given row. -/
import Derived.Test.YtlabjgcoopdbiaaZCertFewerZ
namespace Go.Proofs.Ytlabjgcoopdbiaa.Px
open Go.RowKit Go.Proofs.YtlabjgcoopdbiaaW.PrintWords Go.Proofs.YtlabjgcoopdbiaaW.PrintLast Go.Proofs.YtlabjgcoopdbiaaW.PrintMore
attribute [local go_sem] zB zD zL zM zx zy zC zE
set_option linter.unusedVariables false
set_option linter.unusedSimpArgs false
def za2 : Nat → Nat → Nat
  | 0, _ => 0
  | d + 1, s => s % 2 + za2 d (s / 2)
theorem zb7 : ∀ (d s : Nat), za2 d s ≤ d
  | 0, _ => Nat.le_refl _
  | d + 1, s => by have := zb7 d (s / 2); rw [za2]; omega
theorem zbZ : ∀ (d e b r : Nat), b < 2 ^ d → za2 (d + e) (b + 2 ^ d * r) = za2 d b + za2 e r
  | 0, e, b, r, h => by
    obtain rfl : b = 0 := by simpa using h
    rw [Nat.zero_add, Nat.zero_add, Nat.pow_zero, Nat.one_mul]; simp [za2]
  | d + 1, e, b, r, h => by
    rw [Nat.pow_succ] at h
    have e1 : (b + 2 ^ (d + 1) * r) / 2 = b / 2 + 2 ^ d * r := by
      rw [Nat.pow_succ, Nat.mul_assoc, Nat.mul_left_comm, Nat.add_mul_div_left _ _ (by omega)]
    have e2 : (b + 2 ^ (d + 1) * r) % 2 = b % 2 := by
      rw [Nat.pow_succ, Nat.mul_assoc, Nat.mul_left_comm, Nat.add_mul_mod_self_left]
    rw [show d + 1 + e = (d + e) + 1 by omega, za2, za2, e1, e2, zbZ d e (b / 2) r (by omega)]
    omega
def zau : List Nat → Nat
  | [] => 0
  | b :: l => b + 256 * zau l
theorem zcQ (a b c d : Nat) (hb : b < 256) (hd : d < 256) : (b + 256 * a) &&& (d + 256 * c) = (b &&& d) + 256 * (a &&& c) := by
  have hx : b &&& d < 2 ^ 8 := Nat.and_lt_two_pow _ (by omega)
  apply Nat.eq_of_testBit_eq
  intro i
  rw [Nat.testBit_and, Nat.add_comm b, Nat.add_comm d, Nat.add_comm (b &&& d)]
  rw [show (256 : Nat) = 2 ^ 8 from rfl, Nat.testBit_two_pow_mul_add _ (by omega), Nat.testBit_two_pow_mul_add _ (by omega), Nat.testBit_two_pow_mul_add _ hx]
  split <;> rw [Nat.testBit_and]
theorem low_1 : ∀ (b : Fin 256) (t : Fin 2), (b.val / 2 + 128 * t.val) &&& 85 = b.val / 2 &&& 85 := by decide +kernel
theorem low_2 : ∀ (b : Fin 256) (t : Fin 4), (b.val / 4 + 64 * t.val) &&& 51 = b.val / 4 &&& 51 := by decide +kernel
def zde (b : Nat) : Nat := (b / 2 &&& 85) + (b &&& 85)
def zee (b : Nat) : Nat := (b / 4 &&& 51) + (b &&& 51)
def zh8 (b : Nat) : Nat := b % 16 + b / 16
theorem zeD : ∀ b : Fin 256, zde b.val < 256 ∧ zee (zde b.val) < 256 ∧ zee (zde b.val) % 16 ≤ 4 ∧ zee (zde b.val) / 16 ≤ 4 ∧ zh8 (zee (zde b.val)) = za2 8 b.val := by decide +kernel
theorem zhp : ∀ l : List Nat, (∀ b ∈ l, b < 256) → (zau l / 2 &&& zau (List.replicate l.length 85)) + (zau l &&& zau (List.replicate l.length 85)) = zau (l.map zde)
  | [], _ => rfl
  | b :: l, h => by
    have hb := h b List.mem_cons_self
    have ih := zhp l (fun c hc => h c (List.mem_cons_of_mem _ hc))
    have k := low_1 ⟨b, hb⟩ ⟨zau l % 2, Nat.mod_lt _ (by omega)⟩
    simp only at k
    rw [List.length_cons, List.replicate_succ, zau, zau, List.map_cons, zau, ← ih]
    rw [show (b + 256 * zau l) / 2 = (b / 2 + 128 * (zau l % 2)) + 256 * (zau l / 2) by omega, zcQ _ _ _ _ (by omega) (by omega), zcQ _ _ _ _ hb (by omega), k, zde]
    omega
theorem zhq : ∀ l : List Nat, (∀ b ∈ l, b < 256) → (zau l / 4 &&& zau (List.replicate l.length 51)) + (zau l &&& zau (List.replicate l.length 51)) = zau (l.map zee)
  | [], _ => rfl
  | b :: l, h => by
    have hb := h b List.mem_cons_self
    have ih := zhq l (fun c hc => h c (List.mem_cons_of_mem _ hc))
    have k := low_2 ⟨b, hb⟩ ⟨zau l % 4, Nat.mod_lt _ (by omega)⟩
    simp only at k
    rw [List.length_cons, List.replicate_succ, zau, zau, List.map_cons, zau, ← ih]
    rw [show (b + 256 * zau l) / 4 = (b / 4 + 64 * (zau l % 4)) + 256 * (zau l / 4) by omega, zcQ _ _ _ _ (by omega) (by omega), zcQ _ _ _ _ hb (by omega), k, zee]
    omega
theorem zhs (l : List Nat) (h : ∀ b ∈ l, b % 16 ≤ 4 ∧ b / 16 ≤ 4) : zau l % 16 ≤ 4 := by
  cases l with
  | nil => simp [zau]
  | cons b l => have := (h b List.mem_cons_self).1; rw [zau]; omega
theorem zhr : ∀ l : List Nat, (∀ b ∈ l, b % 16 ≤ 4 ∧ b / 16 ≤ 4) → ((zau l / 16 + zau l) &&& zau (List.replicate l.length 15)) = zau (l.map zh8)
  | [], _ => rfl
  | b :: l, h => by
    obtain ⟨h1, h2⟩ := h b List.mem_cons_self
    have hl := fun c hc => h c (List.mem_cons_of_mem b hc)
    have ih := zhr l hl
    have k := zhs l hl
    rw [List.length_cons, List.replicate_succ, zau, zau, List.map_cons, zau, ← ih]
    rw [show (b + 256 * zau l) / 16 + (b + 256 * zau l) = (b / 16 + 16 * (zau l % 16) + b) + 256 * (zau l / 16 + zau l) by omega, zcQ _ _ _ _ (by omega) (by omega)]
    rw [show (15 : Nat) = 2 ^ 4 - 1 from rfl, Nat.and_two_pow_sub_one_eq_mod, zh8]
    omega
theorem zfw : ∀ l : List Nat, (∀ b ∈ l, b < 256) → zau l < 256 ^ l.length
  | [], _ => by simp [zau]
  | b :: l, h => by
    have := zfw l (fun c hc => h c (List.mem_cons_of_mem _ hc))
    have hb := h b List.mem_cons_self
    rw [zau, List.length_cons, Nat.pow_succ]; omega
set_option maxRecDepth 10000 in
theorem zgL (m : Nat) : ∀ l : List Nat, (∀ b ∈ l, b ≤ m) → zau l * 255 + m ≤ m * 256 ^ l.length
  | [], _ => by simp [zau]
  | b :: l, h => by
    have := zgL m l (fun c hc => h c (List.mem_cons_of_mem _ hc))
    have hb := h b List.mem_cons_self
    rw [zau, List.length_cons, Nat.pow_succ, ← Nat.mul_assoc]
    generalize m * 256 ^ l.length = X at *
    omega
theorem zdb (a b : Nat) (h : a + b < 18446744073709551616) : IntKind.u64.wrap ((a : Int) + (b : Int)) = ((a + b : Nat) : Int) := by
  rw [zaT (by omega) (by omega)]; omega
theorem ziB {q0 q1 q2 r1 r2 r3 z : Nat} (g0 : q0 ≤ 8) (g1 : q1 ≤ 8) (g2 : q2 ≤ 8) (e0 : z = q0 + 256 * r1) (e1 : r1 = q1 + 256 * r2) (e2 : r2 = q2 + 256 * r3) : z / 256 = r1 ∧ (z + r1) / 65536 = r2 + r3 := by
  constructor <;> omega
theorem ziC {q0 q1 q2 q3 q4 q5 q6 q7 r1 r2 r3 r4 r5 r6 z : Nat} (g0 : q0 ≤ 8) (g1 : q1 ≤ 8) (g2 : q2 ≤ 8) (g3 : q3 ≤ 8) (g4 : q4 ≤ 8) (g5 : q5 ≤ 8) (g6 : q6 ≤ 8) (e0 : z = q0 + 256 * q1 + 65536 * q2 + 16777216 * q3 + 4294967296 * r4) (e1 : r1 = q1 + 256 * q2 + 65536 * q3 + 16777216 * q4 + 4294967296 * r5) (e2 : r2 = q2 + 256 * q3 + 65536 * q4 + 16777216 * q5 + 4294967296 * r6) (e3 : r3 = q3 + 256 * q4 + 65536 * q5 + 16777216 * q6 + 4294967296 * q7) :
    (z + r1 + (r2 + r3)) / 4294967296 = r4 + r5 + r6 + q7 := by
  generalize hx : q0 + 256 * q1 + 65536 * q2 + 16777216 * q3 = x at *
  have lx : x ≤ 134744072 := by omega
  generalize hy : q1 + 256 * q2 + 65536 * q3 + 16777216 * q4 = y at *
  have ly : y ≤ 134744072 := by omega
  generalize hu : q2 + 256 * q3 + 65536 * q4 + 16777216 * q5 = u at *
  have lu : u ≤ 134744072 := by omega
  generalize hv : q3 + 256 * q4 + 65536 * q5 + 16777216 * q6 = v at *
  have lv : v ≤ 134744072 := by omega
  clear hx hy hu hv g0 g1 g2 g3 g4 g5 g6
  omega
theorem zh9 (q0 q1 q2 q3 q4 q5 q6 q7 z z1 z2 z3 : Nat) (g0 : q0 ≤ 8) (g1 : q1 ≤ 8) (g2 : q2 ≤ 8) (g3 : q3 ≤ 8) (g4 : q4 ≤ 8) (g5 : q5 ≤ 8) (g6 : q6 ≤ 8) (g7 : q7 ≤ 8)
    (hz : z = q0 + 256 * (q1 + 256 * (q2 + 256 * (q3 + 256 * (q4 + 256 * (q5 + 256 * (q6 + 256 * q7))))))) (h1 : z1 = z + z / 256) (h2 : z2 = z1 + z1 / 65536) (h3 : z3 = z2 + z2 / 4294967296) :
    z3 % 128 = q0 + (q1 + (q2 + (q3 + (q4 + (q5 + (q6 + q7)))))) := by
  obtain ⟨r6, e6⟩ : ∃ r, r = q6 + 256 * q7 := ⟨_, rfl⟩
  obtain ⟨r5, e5⟩ : ∃ r, r = q5 + 256 * r6 := ⟨_, rfl⟩
  obtain ⟨r4, e4⟩ : ∃ r, r = q4 + 256 * r5 := ⟨_, rfl⟩
  obtain ⟨r3, e3⟩ : ∃ r, r = q3 + 256 * r4 := ⟨_, rfl⟩
  obtain ⟨r2, e2⟩ : ∃ r, r = q2 + 256 * r3 := ⟨_, rfl⟩
  obtain ⟨r1, e1⟩ : ∃ r, r = q1 + 256 * r2 := ⟨_, rfl⟩
  rw [← e6, ← e5, ← e4, ← e3, ← e2, ← e1] at hz
  obtain ⟨a1, a2⟩ := ziB g0 g1 g2 hz e1 e2
  rw [a1] at h1
  rw [h1, a2] at h2
  have a3 := ziC (z := z) (q7 := q7) (r1 := r1) (r2 := r2) (r3 := r3) (r4 := r4) (r5 := r5) (r6 := r6) g0 g1 g2 g3 g4 g5 g6 (by rw [hz, e1, e2, e3]; omega) (by rw [e1, e2, e3, e4]; omega) (by rw [e2, e3, e4, e5]; omega) (by rw [e3, e4, e5, e6]; omega)
  rw [h2, a3] at h3
  clear a1 a2 a3 h1 h2
  omega
set_option maxHeartbeats 1000000 in
theorem zdd (x : Nat) (hx : x < 18446744073709551616) : zaO.f (x : Int) = some ((za2 64 x : Nat) : Int) := by
  obtain ⟨b0, b1, b2, b3, b4, b5, b6, b7, h0, h1, h2, h3, h4, h5, h6, h7, e⟩ : ∃ b0 b1 b2 b3 b4 b5 b6 b7 : Nat, b0 < 256 ∧ b1 < 256 ∧ b2 < 256 ∧ b3 < 256 ∧ b4 < 256 ∧ b5 < 256 ∧ b6 < 256 ∧ b7 < 256 ∧ x = zau [b0, b1, b2, b3, b4, b5, b6, b7] :=
    ⟨x % 256, x / 256 % 256, x / 65536 % 256, x / 16777216 % 256, x / 4294967296 % 256, x / 1099511627776 % 256, x / 281474976710656 % 256, x / 72057594037927936, by omega, by omega, by omega, by omega, by omega, by omega, by omega, by omega, by simp only [zau]; omega⟩
  generalize hl : [b0, b1, b2, b3, b4, b5, b6, b7] = l at e
  have hlen : l.length = 8 := by rw [← hl]; rfl
  have hb : ∀ b ∈ l, b < 256 := by rw [← hl]; simp only [List.mem_cons, List.not_mem_nil, or_false]; rintro b (rfl | rfl | rfl | rfl | rfl | rfl | rfl | rfl) <;> assumption
  have q1 := zhp l hb
  have hb1 : ∀ b ∈ l.map zde, b < 256 := fun b hm => by obtain ⟨c, hc, rfl⟩ := List.mem_map.1 hm; exact (zeD ⟨c, hb c hc⟩).1
  have q2 := zhq (l.map zde) hb1
  have hb2 : ∀ b ∈ (l.map zde).map zee, b % 16 ≤ 4 ∧ b / 16 ≤ 4 := fun b hm => by
    obtain ⟨c, hc, rfl⟩ := List.mem_map.1 hm
    obtain ⟨d, hd, rfl⟩ := List.mem_map.1 hc
    have := zeD ⟨d, hb d hd⟩
    exact ⟨this.2.2.1, this.2.2.2.1⟩
  have q3 := zhr ((l.map zde).map zee) hb2
  have e4 : ((l.map zde).map zee).map zh8 = l.map (za2 8) := by
    rw [List.map_map, List.map_map]
    refine List.map_congr_left (fun c hc => ?_)
    exact (zeD ⟨c, hb c hc⟩).2.2.2.2
  rw [e4] at q3
  rw [List.length_map] at q2
  rw [List.length_map, List.length_map] at q3
  rw [hlen] at q1 q2 q3
  have p8 : (256 : Nat) ^ 8 = 18446744073709551616 := by decide
  have l1 := zfw _ hb1
  rw [List.length_map, hlen, p8] at l1
  have l2 := zfw ((l.map zde).map zee) (fun b hm => by have := hb2 b hm; omega)
  rw [List.length_map, List.length_map, hlen, p8] at l2
  have l2' := zgL 68 ((l.map zde).map zee) (fun b hm => by have := hb2 b hm; omega)
  rw [List.length_map, List.length_map, hlen, p8] at l2'
  rw [show zau (List.replicate 8 85) = 6148914691236517205 from rfl, ← e] at q1
  rw [show zau (List.replicate 8 51) = 3689348814741910323 from rfl] at q2
  rw [show zau (List.replicate 8 15) = 1085102592571150095 from rfl] at q3
  generalize zau (l.map zde) = y1 at *
  generalize zau ((l.map zde).map zee) = y2 at *
  have hz : zau (l.map (za2 8)) = za2 8 b0 + 256 * (za2 8 b1 + 256 * (za2 8 b2 + 256 * (za2 8 b3 + 256 * (za2 8 b4 + 256 * (za2 8 b5 + 256 * (za2 8 b6 + 256 * za2 8 b7)))))) := by rw [← hl]; simp only [List.map, zau, Nat.mul_zero, Nat.add_zero]
  have hp : za2 64 x = za2 8 b0 + (za2 8 b1 + (za2 8 b2 + (za2 8 b3 + (za2 8 b4 + (za2 8 b5 + (za2 8 b6 + za2 8 b7)))))) := by
    rw [e, ← hl]
    simp only [zau, Nat.mul_zero, Nat.add_zero]
    rw [show (64 : Nat) = 8 + 56 from rfl, show (256 : Nat) = 2 ^ 8 from rfl, zbZ _ _ _ _ h0, show (56 : Nat) = 8 + 48 from rfl, zbZ _ _ _ _ h1, show (48 : Nat) = 8 + 40 from rfl, zbZ _ _ _ _ h2, show (40 : Nat) = 8 + 32 from rfl, zbZ _ _ _ _ h3, show (32 : Nat) = 8 + 24 from rfl, zbZ _ _ _ _ h4, show (24 : Nat) = 8 + 16 from rfl, zbZ _ _ _ _ h5, show (16 : Nat) = 8 + 8 from rfl, zbZ _ _ _ _ h6]
  have g0 := zb7 8 b0
  have g1 := zb7 8 b1
  have g2 := zb7 8 b2
  have g3 := zb7 8 b3
  have g4 := zb7 8 b4
  have g5 := zb7 8 b5
  have g6 := zb7 8 b6
  have g7 := zb7 8 b7
  generalize zau (l.map (za2 8)) = z at *
  have d2 : (x : Int) / 2 = ((x / 2 : Nat) : Int) := by omega
  have d4 : (y1 : Int) / 4 = ((y1 / 4 : Nat) : Int) := by omega
  have d16 : (y2 : Int) / 16 = ((y2 / 16 : Nat) : Int) := by omega
  have i1 : IntKind.u64.wrap (Go.bits .and .u64 ((x : Int) / 2) 6148914691236517205 + Go.bits .and .u64 (x : Int) 6148914691236517205) = (y1 : Int) := by
    have k1 : Go.bits .and .u64 ((x / 2 : Nat) : Int) 6148914691236517205 = ((x / 2 &&& 6148914691236517205 : Nat) : Int) := u64_and_nat (x / 2) 6148914691236517205 (by omega) (by omega)
    have k2 : Go.bits .and .u64 (x : Int) 6148914691236517205 = ((x &&& 6148914691236517205 : Nat) : Int) := u64_and_nat x 6148914691236517205 hx (by omega)
    rw [d2, k1, k2, zdb _ _ (by rw [q1]; exact l1), q1]
  have i2 : IntKind.u64.wrap (Go.bits .and .u64 ((y1 : Int) / 4) 3689348814741910323 + Go.bits .and .u64 (y1 : Int) 3689348814741910323) = (y2 : Int) := by
    have k1 : Go.bits .and .u64 ((y1 / 4 : Nat) : Int) 3689348814741910323 = ((y1 / 4 &&& 3689348814741910323 : Nat) : Int) := u64_and_nat (y1 / 4) 3689348814741910323 (by omega) (by omega)
    have k2 : Go.bits .and .u64 (y1 : Int) 3689348814741910323 = ((y1 &&& 3689348814741910323 : Nat) : Int) := u64_and_nat y1 3689348814741910323 l1 (by omega)
    rw [d4, k1, k2, zdb _ _ (by rw [q2]; exact l2), q2]
  have l3 : y2 / 16 + y2 < 18446744073709551616 := by omega
  have i3 : Go.bits .and .u64 (IntKind.u64.wrap ((y2 : Int) / 16 + (y2 : Int))) 1085102592571150095 = (z : Int) := by
    have k1 : Go.bits .and .u64 ((y2 / 16 + y2 : Nat) : Int) 1085102592571150095 = ((y2 / 16 + y2 &&& 1085102592571150095 : Nat) : Int) := u64_and_nat (y2 / 16 + y2) 1085102592571150095 l3 (by omega)
    rw [d16, zdb _ _ l3, k1, q3]
  unfold zaO.f
  rw [i1, i2, i3]
  have i4 : IntKind.u64.wrap ((z : Int) + (z : Int) / 256) = ((z + z / 256 : Nat) : Int) := by
    rw [show (z : Int) / 256 = ((z / 256 : Nat) : Int) by omega]; exact zdb _ _ (by omega)
  rw [i4]
  generalize hz1 : z + z / 256 = z1
  have i5 : IntKind.u64.wrap ((z1 : Int) + (z1 : Int) / 65536) = ((z1 + z1 / 65536 : Nat) : Int) := by
    rw [show (z1 : Int) / 65536 = ((z1 / 65536 : Nat) : Int) by omega]; exact zdb _ _ (by omega)
  rw [i5]
  generalize hz2 : z1 + z1 / 65536 = z2
  have i6 : IntKind.u64.wrap ((z2 : Int) + (z2 : Int) / 4294967296) = ((z2 + z2 / 4294967296 : Nat) : Int) := by
    rw [show (z2 : Int) / 4294967296 = ((z2 / 4294967296 : Nat) : Int) by omega]; exact zdb _ _ (by omega)
  rw [i6]
  generalize hz3 : z2 + z2 / 4294967296 = z3
  have l4 : z3 < 9223372036854775808 := by omega
  have i7 : Go.bits .and .i64 (wrap64 (z3 : Int)) 127 = ((z3 % 128 : Nat) : Int) := by
    rw [zap (by omega) (by omega)]
    have := bits_mask .i64 63 (by decide) (fun n h0 h1 => by rw [IntKind.wrap_i64]; omega) 7 (by decide) (z3 : Int) (by omega) (by omega)
    rw [show ((2 : Int) ^ 7 - 1) = 127 from rfl] at this
    rw [this]; omega
  rw [i7, hp]
  have hq : z3 % 128 = za2 8 b0 + (za2 8 b1 + (za2 8 b2 + (za2 8 b3 + (za2 8 b4 + (za2 8 b5 + (za2 8 b6 + za2 8 b7)))))) := zh9 _ _ _ _ _ _ _ _ _ _ _ _ g0 g1 g2 g3 g4 g5 g6 g7 hz hz1.symm hz2.symm hz3.symm
  rw [hq]
end Go.Proofs.Ytlabjgcoopdbiaa.Px

namespace Go.Proofs.Ytlabjgcoopdbiaa.Px
open Go.RowKit Go.Proofs.YtlabjgcoopdbiaaW.PrintWords Go.Proofs.YtlabjgcoopdbiaaW.PrintLast Go.Proofs.YtlabjgcoopdbiaaW.PrintMore
attribute [local go_sem] zB zD zL zM zx zy zC zE
set_option linter.unusedVariables false
set_option linter.unusedSimpArgs false
end Go.Proofs.Ytlabjgcoopdbiaa.Px

namespace Go.Proofs.Ytlabjgcoopdbiaa.Px
open Go.RowKit Go.Proofs.YtlabjgcoopdbiaaW.PrintWords Go.Proofs.YtlabjgcoopdbiaaW.PrintLast Go.Proofs.YtlabjgcoopdbiaaW.PrintMore
attribute [local go_sem] zB zD zL zM zx zy zC zE
set_option linter.unusedVariables false
set_option linter.unusedSimpArgs false
end Go.Proofs.Ytlabjgcoopdbiaa.Px

namespace Go.Proofs.Ytlabjgcoopdbiaa.Px
open Go.RowKit Go.Proofs.YtlabjgcoopdbiaaW.PrintWords Go.Proofs.YtlabjgcoopdbiaaW.PrintLast Go.Proofs.YtlabjgcoopdbiaaW.PrintMore
attribute [local go_sem] zB zD zL zM zx zy zC zE
set_option linter.unusedVariables false
set_option linter.unusedSimpArgs false
def zbv (s : Nat) (n : Int) : Bool := decide (0 ≤ n) && decide (n ≤ 64) && decide (s < 2 ^ n.toNat)
theorem zbj (s : Nat) (n : Int) : zbv s n = true ↔ 0 ≤ n ∧ n ≤ 64 ∧ s < 2 ^ n.toNat := by
  unfold zbv; simp [and_assoc]
theorem zfv (s p : Nat) (hp : 0 < p) : s / p = 0 ↔ s < p := by
  rw [Nat.div_eq_zero_iff]; omega
theorem zeg (s : Nat) (n : Int) : zaK.f (s : Int) n = some (zbv s n) := by
  unfold zaK.f
  by_cases h1 : n < 0
  · rw [if_pos h1]
    have : zbv s n = false := by rw [← Bool.not_eq_true, zbj]; omega
    rw [this]
  rw [if_neg h1]
  by_cases h2 : n > 64
  · rw [if_pos h2]
    have : zbv s n = false := by rw [← Bool.not_eq_true, zbj]; omega
    rw [this]
  rw [if_neg h2, zap (by omega) (by omega)]
  by_cases h3 : n > 0
  · obtain ⟨m, rfl⟩ : ∃ m : Nat, n = ((m + 1 : Nat) : Int) := ⟨(n - 1).toNat, by omega⟩
    have hm : mx (((m + 1 : Nat) : Int) - 1) 0 = (m : Int) := by unfold mx; split <;> omega
    have hs : shr .u64 ((s : Int) / 2) (m : Int) = ((s / 2 / 2 ^ m : Nat) : Int) := by
      unfold shr
      rw [Int.toNat_natCast, Nat.min_eq_left (by show m ≤ 64; omega), show (s : Int) / 2 = ((s / 2 : Nat) : Int) by omega]
      norm_cast
    have he : s / 2 / 2 ^ m = s / 2 ^ (m + 1) := by rw [Nat.div_div_eq_div_mul, Nat.pow_succ, Nat.mul_comm]
    rw [hm, hs, he]
    have key := zfv s (2 ^ (m + 1)) (Nat.two_pow_pos _)
    by_cases h4 : s / 2 ^ (m + 1) = 0
    · rw [if_pos (by omega), if_pos h3]
      have : zbv s ((m + 1 : Nat) : Int) = true := by rw [zbj]; exact ⟨by omega, by omega, key.1 h4⟩
      rw [this]
    · rw [if_neg (by omega)]
      have : zbv s ((m + 1 : Nat) : Int) = false := by
        rw [← Bool.not_eq_true, zbj]
        exact fun hh => h4 (key.2 hh.2.2)
      rw [this]
  · obtain rfl : n = 0 := by omega
    have hm : mx ((0 : Int) - 1) 0 = 0 := by decide
    have hs : shr .u64 ((s : Int) / 2) 0 = (s : Int) / 2 := by unfold shr; simp
    have hw : zbv s 0 = decide (s = 0) := by
      rw [Bool.eq_iff_iff, zbj]; simp
    rw [hm, hs, hw]
    by_cases h4 : s = 0
    · subst h4; rfl
    · by_cases h5 : (s : Int) / 2 = 0
      · rw [if_pos h5, if_neg (by omega)]
        congr 1
        rw [Bool.eq_iff_iff]; simp
      · rw [if_neg h5]; simp [h4]
theorem zeP (s : Nat) (hs : s < 18446744073709551616) : zaN.f (s : Int) = some ((za2 64 s : Nat) : Int) := by
  unfold zaN.f
  rw [zdd s hs]; rfl
def zbn : Nat → Nat → Nat → List Int
  | 0, _, _ => []
  | d + 1, id, s => (if s % 2 = 1 then [(id : Int)] else []) ++ zbn d (id + 1) (s / 2)
theorem zdj : ∀ d id s, (zbn d id s).length = za2 d s
  | 0, _, _ => rfl
  | d + 1, id, s => by
    rw [zbn, za2, List.length_append, zdj d]
    split
    · rename_i h; rw [h]; rfl
    · rename_i h; have : s % 2 = 0 := by omega
      rw [this]; rfl
theorem zgt (d : Nat) : ∀ (id s : Nat) (acc : List Int), id + d = 65 → acc.length ≤ id → s < 18446744073709551616 → Ev (fun k => zX.l0 k (s : Int) acc (id : Int)) (acc ++ zbn d id s) := by
  induction d with
  | zero =>
    intro id s acc h ha hs
    refine Ev.step (fun k => by rw [zX.l0]) ?_
    exact z8 (by omega) (zay (Ev.now _) (by simp [zbn]))
  | succ d ih =>
    intro id s acc h ha hs
    refine Ev.step (fun k => by rw [zX.l0]) ?_
    refine zP (by omega) ?_
    have e1 : IntKind.u64.wrap (Int.tdiv (s : Int) 2) = ((s / 2 : Nat) : Int) := by
      rw [Int.tdiv_eq_ediv_of_nonneg (by omega), zaT (by omega) (by omega)]; omega
    have e2 : wrap64 ((id : Int) + 1) = ((id + 1 : Nat) : Int) := by rw [zap (by omega) (by omega)]; omega
    have e3 : Int.tmod (s : Int) 2 = ((s % 2 : Nat) : Int) := by rw [Int.tmod_eq_emod_of_nonneg (by omega)]; omega
    rw [e1, e2, e3]
    by_cases hb : s % 2 = 1
    · refine zP (by omega) (zP (by omega) (zay (ih (id + 1) (s / 2) (acc ++ [(id : Int)]) (by omega) (by rw [List.length_append]; simp; omega) (by omega)) ?_))
      rw [zbn, if_pos hb, List.append_assoc]
    · refine z8 (by omega) (zay (ih (id + 1) (s / 2) acc (by omega) (by omega) (by omega)) ?_)
      rw [zbn, if_neg hb, List.nil_append]
theorem zgs (s : Nat) (hs : s < 18446744073709551616) : Ev (fun k => zX.f k (s : Int)) (zbn 64 1 s) :=
  zgt 64 1 s [] (by omega) (by simp) hs
theorem zd5 (s : Nat) (hs : s < 18446744073709551616) : Ev (fun k => zH.f k (s : Int)) ((za2 64 s : Nat) : Int) :=
  Ev.bind (zgs s hs) (zay (Ev.now _) (by rw [zdj]))
def zcs (a r : Int) (bs : List S68) (ps : List ByteArray) (x y : Int) (s : Nat) (n : Int) : Int :=
  if za4 a r bs ps x y n = true then if zbv s n = true then if ((za2 64 s : Nat) : Int) < zaV n then 2 else 0 else 4 else 1
theorem zft (a r : Int) (bs : List S68) (ps : List ByteArray) (x y : Int) (s : Nat) (hs : s < 18446744073709551616) (n : Int) : zbk.f a r bs ps x y (s : Int) n = some (zcs a r bs ps x y s n) := by
  unfold zbk.f zcs
  rw [show z9.f a r bs ps x y n = some (za4 a r bs ps x y n) from rfl, zeg, zeP s hs, zcL]
  simp only [Option.bind_some]
  split
  · split
    · split <;> rfl
    · rfl
  · rfl
theorem zdq {a r : Int} {bs : List S68} {ps : List ByteArray} {x y : Int} {s : Nat} {n : Int} : zcs a r bs ps x y s n = 0 ↔ za4 a r bs ps x y n = true ∧ zbv s n = true ∧ zaV n ≤ ((za2 64 s : Nat) : Int) := by
  unfold zcs
  by_cases h1 : za4 a r bs ps x y n = true
  · rw [if_pos h1]
    by_cases h2 : zbv s n = true
    · rw [if_pos h2]
      by_cases h3 : ((za2 64 s : Nat) : Int) < zaV n
      · rw [if_pos h3]; simp; omega
      · rw [if_neg h3]; simp [h1, h2]; omega
    · rw [if_neg h2]; simp [h2]
  · rw [if_neg h1]; simp [h1]
end Go.Proofs.Ytlabjgcoopdbiaa.Px

namespace Go.Proofs.Ytlabjgcoopdbiaa.Px
open Go.RowKit Go.Proofs.YtlabjgcoopdbiaaW.PrintWords Go.Proofs.YtlabjgcoopdbiaaW.PrintLast Go.Proofs.YtlabjgcoopdbiaaW.PrintMore
attribute [local go_sem] zB zD zL zM zx zy zC zE
set_option linter.unusedVariables false
set_option linter.unusedSimpArgs false
theorem zdv : ∀ (d id s : Nat) (x : Int), x ∈ zbn d id s ↔ ∃ j, j < d ∧ s.testBit j = true ∧ x = ((id + j : Nat) : Int)
  | 0, id, s, x => by simp [zbn]
  | d + 1, id, s, x => by
    have ih := zdv d (id + 1) (s / 2) x
    have t0 : s.testBit 0 = decide (s % 2 = 1) := Nat.testBit_zero s
    have ts : ∀ j, s.testBit (j + 1) = (s / 2).testBit j := fun j => Nat.testBit_succ s j
    constructor
    · intro h
      have h' : (s % 2 = 1 ∧ x = (id : Int)) ∨ x ∈ zbn d (id + 1) (s / 2) := by
        rw [zbn] at h
        split at h
        · rename_i h1
          rcases List.mem_cons.1 h with h2 | h2
          · exact .inl ⟨h1, h2⟩
          · exact .inr h2
        · exact .inr h
      rcases h' with ⟨h1, h2⟩ | h2
      · exact ⟨0, by omega, by rw [t0]; simp [h1], by rw [h2]; rfl⟩
      · obtain ⟨j, hj, h3, h4⟩ := ih.1 h2
        exact ⟨j + 1, by omega, by rw [ts]; exact h3, by rw [h4]; congr 1; omega⟩
    · rintro ⟨j, hj, h3, h4⟩
      rw [zbn]
      rcases j with _ | j
      · rw [t0] at h3
        rw [if_pos (of_decide_eq_true h3)]
        exact List.mem_cons.2 (.inl h4)
      · have : x ∈ zbn d (id + 1) (s / 2) := ih.2 ⟨j, by omega, by rw [← ts]; exact h3, by rw [h4]; congr 1; omega⟩
        split
        · exact List.mem_cons.2 (.inr this)
        · exact this
theorem zes : ∀ (d a b : Nat), a < 2 ^ d → b < 2 ^ d → (a &&& b) + (a ||| b) = a + b
  | 0, a, b, ha, hb => by
    obtain rfl : a = 0 := by simpa using ha
    obtain rfl : b = 0 := by simpa using hb
    rfl
  | d + 1, a, b, ha, hb => by
    rw [Nat.pow_succ] at ha hb
    have ih := zes d (a / 2) (b / 2) (by omega) (by omega)
    have e1 : (a &&& b) / 2 = a / 2 &&& b / 2 := Nat.and_div_two
    have e2 : (a ||| b) / 2 = a / 2 ||| b / 2 := Nat.or_div_two
    have m1 : (a &&& b) % 2 = a % 2 &&& b % 2 := by have := Nat.and_mod_two_pow (a := a) (b := b) (n := 1); simpa using this
    have m2 : (a ||| b) % 2 = a % 2 ||| b % 2 := by have := Nat.or_mod_two_pow (a := a) (b := b) (n := 1); simpa using this
    have m3 : (a % 2 &&& b % 2) + (a % 2 ||| b % 2) = a % 2 + b % 2 := by
      rcases Nat.mod_two_eq_zero_or_one a with h | h <;> rcases Nat.mod_two_eq_zero_or_one b with h' | h' <;> rw [h, h'] <;> rfl
    omega
end Go.Proofs.Ytlabjgcoopdbiaa.Px

namespace Go.Proofs.Ytlabjgcoopdbiaa.Px
open Go.RowKit Go.Proofs.YtlabjgcoopdbiaaW.PrintWords Go.Proofs.YtlabjgcoopdbiaaW.PrintLast Go.Proofs.YtlabjgcoopdbiaaW.PrintMore
attribute [local go_sem] zB zD zL zM zx zy zC zE
set_option linter.unusedVariables false
set_option linter.unusedSimpArgs false
def zeO (i : Int) (t : ByteArray) (b : List S58) : Bool := b.any fun x => decide (x.f0 = i ∧ x.f1 = t)
def zeE (s : Nat) (i : Int) : Nat := if 1 ≤ i ∧ i ≤ 64 then s ||| 2 ^ (i.toNat - 1) else s
def byN (t : ByteArray) : List S58 → Nat → Nat
  | [], s => s
  | x :: b, s => byN t b (if x.f1 = t then zeE s x.f0 else s)
theorem zgQ {s : Nat} (h : s < 18446744073709551616) (i : Int) : zeE s i < 18446744073709551616 := by
  unfold zeE
  split
  · have h1 : s < 2 ^ 64 := h
    have h2 : 2 ^ (i.toNat - 1) < 2 ^ 64 := Nat.pow_lt_pow_right (by decide) (by omega)
    exact Nat.or_lt_two_pow h1 h2
  · exact h
theorem zhj (t : ByteArray) : ∀ (b : List S58) (s : Nat), s < 18446744073709551616 → byN t b s < 18446744073709551616
  | [], _, h => h
  | x :: b, s, h => by
    rw [byN]
    refine zhj t b _ ?_
    split
    · exact zgQ h _
    · exact h
theorem zhF (s : Nat) (i : Int) (j : Nat) : (zeE s i).testBit j = true ↔ s.testBit j = true ∨ (i = ((j + 1 : Nat) : Int) ∧ j < 64) := by
  unfold zeE
  split
  · rename_i h
    rw [Nat.testBit_or, Nat.testBit_two_pow, Bool.or_eq_true, decide_eq_true_eq]
    constructor
    · rintro (h1 | h1)
      · exact .inl h1
      · exact .inr ⟨by omega, by omega⟩
    · rintro (h1 | h1)
      · exact .inl h1
      · exact .inr (by omega)
  · rename_i h
    constructor
    · exact fun h1 => .inl h1
    · rintro (h1 | h1)
      · exact h1
      · exact absurd ⟨by omega, by omega⟩ h
theorem zfs (t : ByteArray) : ∀ (b : List S58) (s j : Nat), (byN t b s).testBit j = true ↔ s.testBit j = true ∨ (zeO ((j + 1 : Nat) : Int) t b = true ∧ j < 64)
  | [], s, j => by simp [byN, zeO]
  | x :: b, s, j => by
    rw [byN, zfs t b]
    rw [show zeO ((j + 1 : Nat) : Int) t (x :: b) = (decide (x.f0 = ((j + 1 : Nat) : Int) ∧ x.f1 = t) || zeO ((j + 1 : Nat) : Int) t b) from rfl, Bool.or_eq_true, decide_eq_true_eq]
    split
    · rename_i h
      rw [zhF]
      constructor
      · rintro ((h1 | ⟨h1, h2⟩) | ⟨h1, h2⟩)
        · exact .inl h1
        · exact .inr ⟨.inl ⟨h1, h⟩, h2⟩
        · exact .inr ⟨.inr h1, h2⟩
      · rintro (h1 | ⟨h1 | h1, h2⟩)
        · exact .inl (.inl h1)
        · exact .inl (.inr ⟨h1.1, h2⟩)
        · exact .inr ⟨h1, h2⟩
    · rename_i h
      constructor
      · rintro (h1 | ⟨h1, h2⟩)
        · exact .inl h1
        · exact .inr ⟨.inr h1, h2⟩
      · rintro (h1 | ⟨h1 | h1, h2⟩)
        · exact .inl h1
        · exact absurd h1.2 h
        · exact .inr ⟨h1, h2⟩
def zeq (b : List S58) (s : Nat) (t : ByteArray) : Bool := (zbn 64 1 s).all fun id => zeO id t b
theorem zer {b : List S58} {s : Nat} {t : ByteArray} : zeq b s t = true ↔ ∀ j, j < 64 → s.testBit j = true → zeO ((j + 1 : Nat) : Int) t b = true := by
  rw [zeq, List.all_eq_true]
  constructor
  · intro h j hj hs
    exact h _ ((zdv 64 1 s _).2 ⟨j, hj, hs, by rw [Nat.add_comm]⟩)
  · intro h x hx
    obtain ⟨j, hj, hs, rfl⟩ := (zdv 64 1 s x).1 hx
    have := h j hj hs
    rwa [Nat.add_comm] at this
theorem zfO (s m : Nat) (hs : s < 18446744073709551616) (hm : m < 18446744073709551616) : Go.bits .andNot .u64 (s : Int) (m : Int) = 0 ↔ ∀ j, j < 64 → s.testBit j = true → m.testBit j = true := by
  rw [u64_andNot_nat s m hs hm]
  have e : ((s &&& (18446744073709551615 - m) : Nat) : Int) = 0 ↔ (s &&& (18446744073709551615 - m)) = 0 := by omega
  have tb : ∀ j, (18446744073709551615 - m).testBit j = (decide (j < 64) && !m.testBit j) := fun j => by
    have := Nat.testBit_two_pow_sub_succ (x := m) (n := 64) hm j
    rwa [show 2 ^ 64 - (m + 1) = 18446744073709551615 - m by omega] at this
  rw [e]
  constructor
  · intro h j hj h1
    have h2 : (s &&& (18446744073709551615 - m)).testBit j = false := by rw [h]; exact Nat.zero_testBit j
    rw [Nat.testBit_and, tb, h1, decide_eq_true hj] at h2
    simpa using h2
  · intro h
    apply Nat.eq_of_testBit_eq
    intro j
    rw [Nat.zero_testBit, Nat.testBit_and, tb]
    by_cases hj : j < 64
    · cases h1 : s.testBit j
      · simp
      · rw [h j hj h1]; simp
    · simp [hj]
theorem ziw (b : List S58) (s : Nat) (hs : s < 18446744073709551616) (t : ByteArray) : decide (Go.bits .andNot .u64 (s : Int) ((byN t b 0 : Nat) : Int) = 0) = zeq b s t := by
  rw [Bool.eq_iff_iff, decide_eq_true_eq, zfO s _ hs (zhj t b 0 (by decide)), zer]
  constructor
  · intro h j hj h1
    have := (zfs t b 0 j).1 (h j hj h1)
    rcases this with h2 | h2
    · rw [Nat.zero_testBit] at h2; cases h2
    · exact h2.1
  · intro h j hj h1
    exact (zfs t b 0 j).2 (.inr ⟨h j hj h1, hj⟩)
theorem zhg {b : List S58} {s r : Nat} {t : ByteArray} (h : zeq b s t = true) (hr : ∀ j, j < 64 → r.testBit j = true → s.testBit j = true) : zeq b r t = true :=
  zer.2 fun j hj h1 => zer.1 h j hj (hr j hj h1)
end Go.Proofs.Ytlabjgcoopdbiaa.Px

namespace Go.Proofs.Ytlabjgcoopdbiaa.Px
open Go.RowKit Go.Proofs.YtlabjgcoopdbiaaW.PrintWords Go.Proofs.YtlabjgcoopdbiaaW.PrintLast Go.Proofs.YtlabjgcoopdbiaaW.PrintMore
attribute [local go_sem] zB zD zL zM zx zy zC zE
set_option linter.unusedVariables false
set_option linter.unusedSimpArgs false
theorem zbR {x : Int} (h0 : 0 ≤ x) (h1 : x < 9223372036854775808) : Ev (fun k => zr.f k (IntKind.u64.wrap x)) (za1 x.toNat) := by
  obtain ⟨n, rfl⟩ := Int.eq_ofNat_of_zero_le h0
  rw [zaT (by omega) (by omega), Int.toNat_natCast]
  exact zdS n (by omega)
def zfo (o q : Int) (l : List ByteArray) : ByteArray × Int := if zcT o q l = true then (toB (zdM o q l), 0) else ((⟨#[]⟩ : ByteArray), 1)
theorem zdR (o q : Int) (l : List ByteArray) (hl : l.length < 4611686018427387904) : Ev (fun k => zZ.f k o q l) (zfo o q l) := by
  refine Ev.bind (zfh _ _ _ hl) ?_
  unfold zfo
  by_cases h : zcT o q l = true
  · rw [if_pos h]
    obtain ⟨h1, h2, h3, h4, h5, h6, h7⟩ := (zcU o q l).1 h
    have r1 := zc1 l 48 (by omega) (fun t ht => (h7 t ht).2)
    have r2 := zaH (v := l.length) (by omega)
    have r3 : (zbx l).length ≤ 300 := by rw [zbx, List.length_append]; omega
    have n1 := zaL (v := o.toNat) (by omega)
    have n2 := zaL (v := q.toNat) (by omega)
    have r4 : zK.f l = some (toB (zbx l)) := if_pos (by omega)
    refine zP h (Ev.bind (zbR (by omega) (by omega)) (Ev.bind (zbR (by omega) (by omega)) (zP (by omega) (zao r4 (zP (by rw [ByteArray.size_append, zar]; omega) (zay (Ev.now _) ?_))))))
    rw [zdM, zaQ, zaQ]; rfl
  · rw [if_neg h]; exact z8 h (Ev.now _)
theorem zgh (b : S68) : (zfo b.f0 b.f1 b.f2).1 = bB b := by
  unfold zfo bB; split <;> rfl
def zfN (a r : Int) (bs : List S68) (ps : List ByteArray) (x y n : Int) : ByteArray × Int := if za4 a r bs ps x y n = true then (toB (zbt a r bs ps x y), 0) else ((⟨#[]⟩ : ByteArray), 1)
theorem zfF {a r : Int} {bs : List S68} {ps : List ByteArray} {x y n : Int} (h : za4 a r bs ps x y n = true) (d : Nat) : ∀ j, j + d = bs.length →
    Ev (fun k => zt.l0 k ((bs.take j).map bB) (j : Int) a r bs ps x y) (toB (zbt a r bs ps x y), 0) := by
  obtain ⟨h0, h1, h2, h3, h4, h5, h6, h7, h8, h9⟩ := (zcu ..).1 h
  obtain ⟨k1, k2, k3⟩ := (zcb n).1 h0
  obtain ⟨x1, x2, y1, y2⟩ := (zdD x y).1 h7
  induction d with
  | zero =>
    intro j hj
    refine Ev.step (fun k => by rw [zt.l0]) ?_
    rw [List.take_of_length_le (by omega)]
    have s0 := zaL (v := a.toNat) (by omega)
    have s1 := zaL (v := r.toNat) (by omega)
    have s2 := zaL (v := x.toNat) (by omega)
    have s3 := zaL (v := y.toNat) (by omega)
    have r1 := zfH h5
    have r2 := zfI (zbH h0 h9)
    have d1 : zK.f (bs.map bB) = some (toB (zbx (bs.map bB))) := if_pos (by omega)
    have d2 : zK.f ps = some (toB (zbx ps)) := if_pos (by omega)
    refine z8 (by omega) (Ev.bind (zbR (by omega) (by omega)) (Ev.bind (zbR (by omega) (by omega)) (zP (by omega) (zao d1 (zP (by simp only [ByteArray.size_append, zar]; omega) (zao d2 (zP (by simp only [ByteArray.size_append, zar]; omega)
      (Ev.bind (zbR (by omega) (by omega)) (zP (by simp only [ByteArray.size_append, zar]; omega) (Ev.bind (zbR (by omega) (by omega)) (zP (by simp only [ByteArray.size_append, zar]; omega) (zay (Ev.now _) ?_))))))))))))
    simp only [zbt, za1, zaQ]
  | succ d ih =>
    intro j hj
    have hj' : j < bs.length := by omega
    refine Ev.step (fun k => by rw [zt.l0]) ?_
    refine zP (by omega) (zP (by omega) ?_)
    rw [zd3 bs j hj', zap (by omega) (by omega)]
    have hl := (zgk h).2.1 _ (List.getElem_mem hj')
    refine Ev.bind (zdR _ _ _ hl) (zP (by rw [List.length_map, List.length_take]; omega) ?_)
    rw [zgh]
    have e : (bs.take j).map bB ++ [bB bs[j]] = (bs.take (j + 1)).map bB := by
      rw [List.take_succ_eq_append_getElem hj', List.map_append]; rfl
    rw [e]
    exact ih (j + 1) (by omega)
theorem zdH (a r : Int) (bs : List S68) (ps : List ByteArray) (x y n : Int) (hb : bs.length < 4611686018427387904) (hbs : ∀ b ∈ bs, b.f2.length < 4611686018427387904) (hl : ps.length < 4611686018427387904) (hp : ∀ t ∈ ps, t.size < 4611686018427387904) :
    Ev (fun k => zt.f k a r bs ps x y n) (zfN a r bs ps x y n) := by
  refine Ev.bind (zgz a r bs ps x y n hb hbs hl hp) ?_
  unfold zfN
  by_cases h : za4 a r bs ps x y n = true
  · rw [if_pos h]
    exact zP h (zay (zfF h bs.length 0 (by omega)) rfl)
  · rw [if_neg h]; exact z8 h (Ev.now _)
end Go.Proofs.Ytlabjgcoopdbiaa.Px

namespace Go.Proofs.Ytlabjgcoopdbiaa.Px
open Go.RowKit Go.Proofs.YtlabjgcoopdbiaaW.PrintWords Go.Proofs.YtlabjgcoopdbiaaW.PrintLast Go.Proofs.YtlabjgcoopdbiaaW.PrintMore
attribute [local go_sem] zB zD zL zM zx zy zC zE
set_option linter.unusedVariables false
set_option linter.unusedSimpArgs false
end Go.Proofs.Ytlabjgcoopdbiaa.Px

namespace Go.Proofs.Ytlabjgcoopdbiaa.Px
open Go.RowKit Go.Proofs.YtlabjgcoopdbiaaW.PrintWords Go.Proofs.YtlabjgcoopdbiaaW.PrintLast Go.Proofs.YtlabjgcoopdbiaaW.PrintMore
attribute [local go_sem] zB zD zL zM zx zy zC zE
set_option linter.unusedVariables false
set_option linter.unusedSimpArgs false
theorem zgE {s : ByteArray} (h : s.size ≤ 10000) : zbX.f s = some (zeQ s) := by rw [zbX.f, if_pos (by omega)]
theorem zg4 {s : ByteArray} (h : s.size ≤ 10000) : zaz.f s = some (zeQ s) := by rw [zaz.f, if_pos (by omega)]
theorem zf0 (b : UInt8) (s : ByteArray) : ((⟨#[b]⟩ : ByteArray) ++ s).size = 1 + s.size := by rw [ByteArray.size_append]; rfl
end Go.Proofs.Ytlabjgcoopdbiaa.Px

namespace Go.Proofs.Ytlabjgcoopdbiaa.Px
open Go.RowKit Go.Proofs.YtlabjgcoopdbiaaW.PrintWords Go.Proofs.YtlabjgcoopdbiaaW.PrintLast Go.Proofs.YtlabjgcoopdbiaaW.PrintMore
attribute [local go_sem] zB zD zL zM zx zy zC zE
set_option linter.unusedVariables false
set_option linter.unusedSimpArgs false
theorem zdJ {a r : Int} {bs : List S68} {ps : List ByteArray} {x y n : Int} (h : za4 a r bs ps x y n = true) : (toB (zbt a r bs ps x y)).size ≤ 5000 := by
  obtain ⟨h0, h1, h2, h3, h4, h5, h6, h7, h8, h9⟩ := (zcu ..).1 h
  obtain ⟨k1, k2, k3⟩ := (zcb n).1 h0
  obtain ⟨x1, x2, y1, y2⟩ := (zdD x y).1 h7
  have r1 := zfH (bs := bs) (by omega)
  have r2 := zfI (zbH h0 h9)
  have r3 := zaH (v := a.toNat) (by omega)
  have r4 := zaH (v := r.toNat) (by omega)
  have r5 := zaH (v := x.toNat) (by omega)
  have r6 := zaH (v := y.toNat) (by omega)
  rw [zar, zbt]
  simp only [List.length_append]
  omega
def zbm (a r : Int) (bs : List S68) (ps : List ByteArray) (x y n : Int) : ByteArray × Int := if za4 a r bs ps x y n = true then (zeQ ((⟨#[118]⟩ : ByteArray) ++ toB (zbt a r bs ps x y)), 0) else ((⟨#[]⟩ : ByteArray), 1)
theorem zdX (a r : Int) (bs : List S68) (ps : List ByteArray) (x y n : Int) : zaR.f a r bs ps x y n = some (zbm a r bs ps x y n) := by
  unfold zaR.f zbm
  rw [zeh]
  simp only [Option.bind_some]
  by_cases h : za4 a r bs ps x y n = true
  · have hs := zdJ h
    rw [if_pos h, if_pos h, if_pos rfl, if_pos (by show 1 + (toB (zbt a r bs ps x y)).size ≤ _; omega)]
    show (zbX.f ((⟨#[118]⟩ : ByteArray) ++ toB (zbt a r bs ps x y))).bind _ = _
    rw [zgE (by rw [zf0]; omega)]
    rfl
  · rw [if_neg h, if_neg h, if_neg (by simp)]
theorem zdt (a r : Int) (bs : List S68) (ps : List ByteArray) (x y n : Int) (hb : bs.length < 4611686018427387904) (hbs : ∀ b ∈ bs, b.f2.length < 4611686018427387904) (hl : ps.length < 4611686018427387904) (hp : ∀ t ∈ ps, t.size < 4611686018427387904) :
    Ev (fun k => zaq.f k a r bs ps x y n) (zbm a r bs ps x y n) := by
  unfold zaq.f
  refine Ev.bind (zdH a r bs ps x y n hb hbs hl hp) ?_
  unfold zfN zbm
  by_cases h : za4 a r bs ps x y n = true
  · have hs := zdJ h
    rw [if_pos h, if_pos h]
    refine zP rfl (zP (by show 1 + (toB (zbt a r bs ps x y)).size ≤ _; omega) ?_)
    refine zao (zg4 (s := (⟨#[118]⟩ : ByteArray) ++ toB (zbt a r bs ps x y)) (by rw [zf0]; omega)) ?_
    exact Ev.now _
  · rw [if_neg h, if_neg h]
    exact z8 (by simp) (Ev.now _)
end Go.Proofs.Ytlabjgcoopdbiaa.Px

namespace Go.Proofs.Ytlabjgcoopdbiaa.Px
open Go.RowKit Go.Proofs.YtlabjgcoopdbiaaW.PrintWords Go.Proofs.YtlabjgcoopdbiaaW.PrintLast Go.Proofs.YtlabjgcoopdbiaaW.PrintMore
attribute [local go_sem] zB zD zL zM zx zy zC zE
set_option linter.unusedVariables false
set_option linter.unusedSimpArgs false
theorem zgq (l : List S58) (j : Nat) (h : j < l.length) : zbw l (j : Int) = l[j] := by
  rw [zbw, Int.toNat_natCast, List.getD_eq_getElem?_getD, List.getElem?_eq_getElem h]; rfl
theorem zfJ (s : Nat) (hs : s < 18446744073709551616) (i : Int) : zbC.f (s : Int) i = some (if 1 ≤ i ∧ i ≤ 64 then (((zeE s i : Nat) : Int), 0) else (0, 1)) := by
  by_cases hh : 1 ≤ i ∧ i ≤ 64
  · have es : za9.f i = some true := by unfold za9.f; rw [if_pos hh.1, decide_eq_true hh.2]
    have e1 : wrap64 (i - 1) = ((i.toNat - 1 : Nat) : Int) := by rw [zap (by omega) (by omega)]; omega
    have h3' : 2 ^ (i.toNat - 1) < 2 ^ 64 := Nat.pow_lt_pow_right (by decide) (by omega)
    have h3 : 2 ^ (i.toNat - 1) < 18446744073709551616 := h3'
    have e2 : shl .u64 1 ((i.toNat - 1 : Nat) : Int) = ((2 ^ (i.toNat - 1) : Nat) : Int) := by
      unfold shl
      rw [Int.toNat_natCast, Nat.min_eq_left (by show i.toNat - 1 ≤ 64; omega), Int.one_mul]
      have h4 : ((2 : Int) ^ (i.toNat - 1)) = ((2 ^ (i.toNat - 1) : Nat) : Int) := by rw [Int.natCast_pow]; rfl
      rw [h4]
      generalize 2 ^ (i.toNat - 1) = p at h3 ⊢
      exact zaT (Int.natCast_nonneg _) (by omega)
    unfold zbC.f
    rw [es, show (if 1 ≤ i ∧ i ≤ 64 then (((zeE s i : Nat) : Int), (0 : Int)) else (0, 1)) = (((zeE s i : Nat) : Int), 0) from if_pos hh, Option.bind_some, if_pos rfl, e1, if_pos (Int.natCast_nonneg _), e2, u64_or_nat _ _ hs h3, zeE, if_pos hh]
  · have es : za9.f i = some false := by
      unfold za9.f
      by_cases h1 : i ≥ 1
      · rw [if_pos h1, decide_eq_false (fun h => hh ⟨h1, h⟩)]
      · rw [if_neg h1]
    unfold zbC.f
    rw [es, show (if 1 ≤ i ∧ i ≤ 64 then (((zeE s i : Nat) : Int), (0 : Int)) else (0, 1)) = (0, 1) from if_neg hh]
    rfl
theorem ziT (t : ByteArray) (b : List S58) (hb : b.length < 4611686018427387904) (d : Nat) : ∀ (j s : Nat), j + d = b.length → s < 18446744073709551616 → Ev (fun k => za0.l0 k t (s : Int) b (b.length : Int) (j : Int)) ((byN t (b.drop j) s : Nat) : Int) := by
  induction d with
  | zero =>
    intro j s hj hs
    refine Ev.step (fun k => by rw [za0.l0]) ?_
    rw [List.drop_of_length_le (by omega)]
    exact z8 (by omega) (Ev.now _)
  | succ d ih =>
    intro j s hj hs
    refine Ev.step (fun k => by rw [za0.l0]) ?_
    have hlt : j < b.length := by omega
    rw [zgq b j hlt, List.drop_eq_getElem_cons hlt, byN, zap (by omega) (by omega)]
    refine zP (by omega) (zP (by omega) (zP (by omega) ?_))
    by_cases h : b[j].f1 = t
    · rw [if_pos h]
      refine zP (by rw [h]) (zao (zfJ s hs b[j].f0) ?_)
      by_cases h1 : 1 ≤ b[j].f0 ∧ b[j].f0 ≤ 64
      · rw [if_pos h1]
        exact zP rfl (ih (j + 1) _ (by omega) (zgQ hs _))
      · rw [if_neg h1]
        refine z8 (by simp) ?_
        rw [zeE, if_neg h1]
        exact ih (j + 1) s (by omega) hs
    · rw [if_neg h]
      refine z8 (fun hh => h ((ze4 _ _).1 hh)) (ih (j + 1) s (by omega) hs)
theorem zfP (b : List S58) (hb : b.length < 4611686018427387904) (s : Nat) (hs : s < 18446744073709551616) (t : ByteArray) : Ev (fun k => zbp.f k b (s : Int) t) (zeq b s t) := by
  refine Ev.bind (ziT t b hb b.length 0 0 (by omega) (by decide)) (zay (Ev.now _) ?_)
  rw [List.drop_zero, ← ziw b s hs t]
  rfl
def zgd (d : ByteArray) : ByteArray := (⟨#[121]⟩ : ByteArray) ++ d
def zcC (n : Int) (b : List S58) (a r : Int) (bs : List S68) (ps : List ByteArray) (x y : Int) (s : Nat) : Int :=
  if zcs a r bs ps x y s n = 0 then (if zeq b s (zgd (zbm a r bs ps x y n).1) = true then 0 else 10) else zcs a r bs ps x y s n
theorem zdI (a r : Int) (bs : List S68) (ps : List ByteArray) (x y n : Int) : (zbm a r bs ps x y n).1.size ≤ 32 := by
  unfold zbm
  split
  · exact Nat.le_of_eq (zg7 _)
  · exact Nat.zero_le _
theorem zbV (n : Int) (b : List S58) (hb : b.length < 4611686018427387904) (a r : Int) (bs : List S68) (ps : List ByteArray) (x y : Int) (s : Nat) (hs : s < 18446744073709551616) :
    Ev (fun k => zV.f k n b a r bs ps x y (s : Int)) (zcC n b a r bs ps x y s) := by
  unfold zV.f zcC
  refine zao (zft a r bs ps x y s hs n) ?_
  refine zhl (fun _ => ?_) (fun _ => Ev.now _)
  refine zao (zdX ..) ?_
  have hz := zdI a r bs ps x y n
  refine zao (show zaC.f (zbm a r bs ps x y n).1 = some (zgd (zbm a r bs ps x y n).1) from if_pos (by omega)) ?_
  refine Ev.bind (zfP b hb s hs _) ?_
  exact zhl (fun _ => Ev.now _) (fun _ => Ev.now _)
theorem zcR {n : Int} {b : List S58} {a r : Int} {bs : List S68} {ps : List ByteArray} {x y : Int} {s : Nat} : zcC n b a r bs ps x y s = 0 ↔ zcs a r bs ps x y s n = 0 ∧ zeq b s (zgd (zbm a r bs ps x y n).1) = true := by
  unfold zcC
  by_cases h : zcs a r bs ps x y s n = 0
  · rw [if_pos h]
    by_cases h2 : zeq b s (zgd (zbm a r bs ps x y n).1) = true
    · rw [if_pos h2]; simp [h, h2]
    · rw [if_neg h2]; simp [h2]
  · rw [if_neg h]; simp [h]
end Go.Proofs.Ytlabjgcoopdbiaa.Px

namespace Go.Proofs.Ytlabjgcoopdbiaa.Px
open Go.RowKit Go.Proofs.YtlabjgcoopdbiaaW.PrintWords Go.Proofs.YtlabjgcoopdbiaaW.PrintLast Go.Proofs.YtlabjgcoopdbiaaW.PrintMore
attribute [local go_sem] zB zD zL zM zx zy zC zE
set_option linter.unusedVariables false
set_option linter.unusedSimpArgs false
theorem zd6 : za4 1 1 [] [] 0 0 4 = true := by
  rw [zcu]
  simp [zcb, zdD, zbr]
theorem ze2 : zcs 1 1 [] [] 0 0 7 4 = 0 := by
  rw [zdq]
  exact ⟨zd6, by decide +kernel, by decide +kernel⟩
theorem ze1 : zcs 1 1 [] [] 0 0 3 4 = 2 := by
  unfold zcs
  rw [if_pos zd6, if_pos (by decide +kernel), if_pos (by decide +kernel)]
theorem ze3 : zbn 64 1 7 = [1, 2, 3] := by decide +kernel
theorem zga (t : ByteArray) : zeq [(⟨1, t⟩ : S58), ⟨2, t⟩, ⟨3, t⟩] 7 t = true := by
  rw [zeq, ze3]
  simp [zeO]
theorem zgF : Ev (fun k => zab.f k) true := by
  unfold zab.f
  refine Ev.bind (zdt 1 1 [] [] 0 0 4 (by decide) (by simp) (by decide) (by simp)) ?_
  have hz := zdI 1 1 [] [] 0 0 4
  refine zP (by omega) ?_
  refine zao rfl ?_
  refine Ev.bind (zbV 4 _ (by decide) 1 1 [] [] 0 0 7 (by decide)) ?_
  refine Ev.bind (zbV 4 _ (by decide) 1 1 [] [] 0 0 3 (by decide)) ?_
  refine zao (show zaC.f (zbm 1 1 [] [] 0 0 4).1 = some (zgd (zbm 1 1 [] [] 0 0 4).1) from if_pos (by omega)) ?_
  refine zP rfl ?_
  refine zP ?_ (zay (Ev.now _) ?_)
  · rw [zcR]
    exact ⟨ze2, zga _⟩
  · unfold zcC
    rw [ze1]; rfl
end Go.Proofs.Ytlabjgcoopdbiaa.Px
