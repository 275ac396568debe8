/- Part 9 of 28 of the proof of the law CertFewer: what is proved is the statement at the end of the last part; its conditions are those of the given row. -/
import Derived.Test.YtlabjgcoopdbiaaZCertFewerH
namespace Go.Proofs.Ytlabjgcoopdbiaa.Px
open Go.RowKit Go.Proofs.YtlabjgcoopdbiaaW.PrintWords Go.Proofs.YtlabjgcoopdbiaaW.PrintLast Go.Proofs.YtlabjgcoopdbiaaW.PrintMore
attribute [local go_sem] zB zD zL zM zx zy zC zE
set_option linter.unusedVariables false
set_option linter.unusedSimpArgs false
def z6.l0 : Nat → Int → Int → Int → Option (Int)
  | 0, _, _, _ => none
  | k + 1, x0, x1, x5 => if x5 < x1 then (z6.l0 k ((Int.tdiv x0 2) % 4294967296) x1 (wrap64 (x5 + 1))) else (some x0)
def z6.f (k : Nat) (a0 : Int) (a1 : Int) : Option (Int) := z6.l0 k a0 a1 0
set_option maxHeartbeats 8000000 in
set_option maxRecDepth 100000 in
theorem z6.calls (k : Nat) (a0 : Int) (a1 : Int) (r : Int) (w : World) (h : z6.f k a0 a1 = some r) :
    Calls Try.prog 83 #[.int .u32 a0, .int .i64 a1] w fun e w' => e = .returned (.int .u32 r) ∧ zF w w' := by
  have H : (z6.l0 k a0 a1 0) = some r := h
  clear h
  have H' := zc.mk H
  clear H
  go_enter Try.func83, Try.ntmps83
  go_wp2
  go_loopg [0, 5] k (fun kq v0 v5 w' => ∃ (x0_1 : Int) (x5_1 : Int), v0 = .int .u32 x0_1 ∧ v5 = .int .i64 x5_1 ∧ zc (z6.l0 kq x0_1 a1 x5_1 = some r) ∧ zc (kq ≤ k) ∧ zF w w')
  case atStart => exact ⟨(a0), (0), (by first | rfl | (simp; done) | (simp [*]; done)), (by first | rfl | (simp; done) | (simp [*]; done)), H', ⟨Nat.le_refl _⟩, by repeat (first | exact zF.refl _ | apply zF.step)⟩
  case round =>
    clear H'
    try clear p2
    obtain ⟨x0_1, x5_1, rfl, rfl, HA, HK1, ⟨m1, rfl⟩⟩ := hrel
    cases gk with
    | zero => exact absurd HA.out (by simp [z6.l0])
    | succ k1 =>
      have H := HA.out
      clear HA
      simp only [z6.l0] at H
      by_cases c3 : x5_1 < a1
      · rw [if_pos c3] at H
        have c3b0 : decide (x5_1 < a1) = true := decide_eq_true c3
        clear c3
        have H' := zc.mk H
        clear H
        go_wp2
        go_roundg k1
        case measure => have := HK1.out; omega
        case rel => exact ⟨((Int.tdiv x0_1 2) % 4294967296), (wrap64 (x5_1 + 1)), (by first | rfl | (simp; done) | (simp [*]; done)), (by first | rfl | (simp; done) | (simp [*]; done)), H', ⟨by have := HK1.out; omega⟩, by repeat (first | exact zF.refl _ | apply zF.step)⟩
      · rw [if_neg c3] at H
        have c3b0 : decide (x5_1 < a1) = false := decide_eq_false c3
        clear c3
        obtain rfl := Option.some.inj H
        go_wp2
        go_ret
        exact ⟨by first | rfl | (simp; done) | (simp [*]; done), by repeat (first | exact zF.refl _ | apply zF.step)⟩
end Go.Proofs.Ytlabjgcoopdbiaa.Px

namespace Go.Proofs.Ytlabjgcoopdbiaa.Px
open Go.RowKit Go.Proofs.YtlabjgcoopdbiaaW.PrintWords Go.Proofs.YtlabjgcoopdbiaaW.PrintLast Go.Proofs.YtlabjgcoopdbiaaW.PrintMore
attribute [local go_sem] zB zD zL zM zx zy zC zE
set_option linter.unusedVariables false
set_option linter.unusedSimpArgs false
mutual
def zN.l0 : Nat → Int → Int → Int → Int → Option (Int)
  | 0, _, _, _, _ => none
  | k + 1, x0, x1, x5, x6 => if x6 < x1 then (zN.l0 k x0 x1 ((x5 * 2) % 4294967296) (wrap64 (x6 + 1))) else (if x5 = 0 then (none) else (zN.l1 k x0 x1 x5 (Int.tmod x0 x5) 0))
def zN.l1 : Nat → Int → Int → Int → Int → Int → Option (Int)
  | 0, _, _, _, _, _ => none
  | k + 1, x0, x1, x5, x7, x8 => if x8 < (wrap64 (32 - x1)) then (zN.l1 k x0 x1 x5 ((x7 * 2) % 4294967296) (wrap64 (x8 + 1))) else (if x5 = 0 then (none) else (some ((((Int.tdiv x0 x5) % 4294967296) + x7) % 4294967296)))
end
def zN.f (k : Nat) (a0 : Int) (a1 : Int) : Option (Int) := zN.l0 k a0 a1 1 0
set_option maxHeartbeats 8000000 in
set_option maxRecDepth 100000 in
theorem zN.calls (k : Nat) (a0 : Int) (a1 : Int) (r : Int) (w : World) (h : zN.f k a0 a1 = some r) :
    Calls Try.prog 82 #[.int .u32 a0, .int .i64 a1] w fun e w' => e = .returned (.int .u32 r) ∧ zF w w' := by
  have H : (zN.l0 k a0 a1 1 0) = some r := h
  clear h
  have H' := zc.mk H
  clear H
  go_enter Try.func82, Try.ntmps82
  go_wp2
  go_loopg [5, 6] k (fun kq v5 v6 w' => ∃ (x5_1 : Int) (x6_1 : Int), v5 = .int .u32 x5_1 ∧ v6 = .int .i64 x6_1 ∧ zc (zN.l0 kq a0 a1 x5_1 x6_1 = some r) ∧ zc (kq ≤ k) ∧ zF w w')
  case atStart => exact ⟨(1), (0), (by first | rfl | (simp; done) | (simp [*]; done)), (by first | rfl | (simp; done) | (simp [*]; done)), H', ⟨Nat.le_refl _⟩, by repeat (first | exact zF.refl _ | apply zF.step)⟩
  case round =>
    clear H'
    try clear p2
    obtain ⟨x5_1, x6_1, rfl, rfl, HA, HK1, ⟨m1, rfl⟩⟩ := hrel
    cases gk with
    | zero => exact absurd HA.out (by simp [zN.l0])
    | succ k1 =>
      have H := HA.out
      clear HA
      simp only [zN.l0] at H
      by_cases c3 : x6_1 < a1
      · rw [if_pos c3] at H
        have c3b0 : decide (x6_1 < a1) = true := decide_eq_true c3
        clear c3
        have H' := zc.mk H
        clear H
        go_wp2
        go_roundg k1
        case measure => have := HK1.out; omega
        case rel => exact ⟨((x5_1 * 2) % 4294967296), (wrap64 (x6_1 + 1)), (by first | rfl | (simp; done) | (simp [*]; done)), (by first | rfl | (simp; done) | (simp [*]; done)), H', ⟨by have := HK1.out; omega⟩, by repeat (first | exact zF.refl _ | apply zF.step)⟩
      · rw [if_neg c3] at H
        have c3b0 : decide (x6_1 < a1) = false := decide_eq_false c3
        clear c3
        by_cases c4 : x5_1 = 0
        · rw [if_pos c4] at H
          exact absurd H (by simp)
        · rw [if_neg c4] at H
          have c4b0 : (x5_1 == 0) = false := beq_eq_false_iff_ne.mpr c4
          have c4b1 : (x5_1 != 0) = true := bne_iff_ne.mpr c4
          have H' := zc.mk H
          clear H
          go_wp2
          go_loopg [7, 8] k1 (fun kq v7 v8 w' => ∃ (x7_2 : Int) (x8_2 : Int), v7 = .int .u32 x7_2 ∧ v8 = .int .i64 x8_2 ∧ zc (zN.l1 kq a0 a1 x5_1 x7_2 x8_2 = some r) ∧ zc (kq ≤ k1) ∧ zF w w')
          case atStart => exact ⟨(Int.tmod a0 x5_1), (0), (by first | rfl | (simp; done) | (simp [*]; done)), (by first | rfl | (simp; done) | (simp [*]; done)), H', ⟨Nat.le_refl _⟩, by repeat (first | exact zF.refl _ | apply zF.step)⟩
          case round =>
            clear H'
            try clear p2
            try clear c3
            try clear c3b0
            try clear c4
            try clear c4b0
            try clear c4b1
            try clear p2
            obtain ⟨x7_2, x8_2, rfl, rfl, HA, HK2, ⟨m2, rfl⟩⟩ := hrel
            cases gk with
            | zero => exact absurd HA.out (by simp [zN.l1])
            | succ k2 =>
              have H := HA.out
              clear HA
              simp only [zN.l1] at H
              by_cases c5 : x8_2 < (wrap64 (32 - a1))
              · rw [if_pos c5] at H
                have c5b0 : decide (x8_2 < (wrap64 (32 - a1))) = true := decide_eq_true c5
                clear c5
                have H' := zc.mk H
                clear H
                go_wp2
                go_roundg k2
                case measure => have := HK1.out; have := HK2.out; omega
                case rel => exact ⟨((x7_2 * 2) % 4294967296), (wrap64 (x8_2 + 1)), (by first | rfl | (simp; done) | (simp [*]; done)), (by first | rfl | (simp; done) | (simp [*]; done)), H', ⟨by have := HK1.out; have := HK2.out; omega⟩, by repeat (first | exact zF.refl _ | apply zF.step)⟩
              · rw [if_neg c5] at H
                have c5b0 : decide (x8_2 < (wrap64 (32 - a1))) = false := decide_eq_false c5
                clear c5
                by_cases c6 : x5_1 = 0
                · rw [if_pos c6] at H
                  exact absurd H (by simp)
                · rw [if_neg c6] at H
                  have c6b0 : (x5_1 == 0) = false := beq_eq_false_iff_ne.mpr c6
                  have c6b1 : (x5_1 != 0) = true := bne_iff_ne.mpr c6
                  obtain rfl := Option.some.inj H
                  go_wp2
                  go_ret
                  exact ⟨by first | rfl | (simp; done) | (simp [*]; done), by repeat (first | exact zF.refl _ | apply zF.step)⟩
end Go.Proofs.Ytlabjgcoopdbiaa.Px

namespace Go.Proofs.Ytlabjgcoopdbiaa.Px
open Go.RowKit Go.Proofs.YtlabjgcoopdbiaaW.PrintWords Go.Proofs.YtlabjgcoopdbiaaW.PrintLast Go.Proofs.YtlabjgcoopdbiaaW.PrintMore
attribute [local go_sem] zB zD zL zM zx zy zC zE
set_option linter.unusedVariables false
set_option linter.unusedSimpArgs false
theorem zgp (n : Nat) (h1 : n ≤ 32) : (2 : Int) ^ n * 2 ^ (32 - n) = 4294967296 := by
  rw [← Int.pow_add, show n + (32 - n) = 32 by omega]; rfl
theorem zbI (n : Nat) : (0 : Int) < 2 ^ n := Int.pow_pos (by decide)
theorem zhK (n : Nat) (h1 : n ≤ 32) {x : Int} (hx : za5 x) : za5 (zah n x) := by
  have hpq := zgp n h1
  have hp := zbI n
  have hq := zbI (32 - n)
  have h2 := Int.emod_nonneg x (Int.ne_of_gt hp)
  have h3 := Int.emod_lt_of_pos x hp
  have h4 : 0 ≤ x / 2 ^ n := Int.ediv_nonneg hx.1 (Int.le_of_lt hp)
  have h5 : x / 2 ^ n < 2 ^ (32 - n) := Int.ediv_lt_of_lt_mul hp (by rw [Int.mul_comm, hpq]; exact hx.2)
  unfold zah
  generalize (2 : Int) ^ n = p at *
  generalize (2 : Int) ^ (32 - n) = q at *
  generalize x % p = m at *
  generalize x / p = d at *
  have h6 : m * q ≤ (p - 1) * q := Int.mul_le_mul_of_nonneg_right (by omega) (by omega)
  rw [Int.sub_mul, hpq, Int.one_mul] at h6
  have h7 : 0 ≤ m * q := Int.mul_nonneg h2 (by omega)
  unfold za5; omega
theorem zhL (n : Nat) (h1 : n ≤ 32) {x : Int} (hx : za5 x) : Go.bits .or .u32 (IntKind.u32.wrap (x * 2 ^ (32 - n))) (x / 2 ^ n) = zah n x := by
  have hpq := zgp n h1
  have hp := zbI n
  have hq := zbI (32 - n)
  have h2 := Int.emod_nonneg x (Int.ne_of_gt hp)
  have h3 := Int.emod_lt_of_pos x hp
  have h4 : 0 ≤ x / 2 ^ n := Int.ediv_nonneg hx.1 (Int.le_of_lt hp)
  have h5 : x / 2 ^ n < 2 ^ (32 - n) := Int.ediv_lt_of_lt_mul hp (by rw [Int.mul_comm, hpq]; exact hx.2)
  have h8 : x / 2 ^ n < 4294967296 := by
    have : x / 2 ^ n ≤ x := Int.ediv_le_self _ hx.1
    have := hx.2; omega
  have e : IntKind.u32.wrap (x * 2 ^ (32 - n)) = x % 2 ^ n * 2 ^ (32 - n) := by
    rw [IntKind.wrap_u32, ← hpq, Int.mul_comm x, Int.mul_comm (2 ^ n), Int.mul_emod_mul_of_pos _ _ hq, Int.mul_comm]
  have h6 : x % 2 ^ n * 2 ^ (32 - n) ≤ (2 ^ n - 1) * 2 ^ (32 - n) := Int.mul_le_mul_of_nonneg_right (by omega) (by omega)
  rw [Int.sub_mul, hpq, Int.one_mul] at h6
  have h7 : 0 ≤ x % 2 ^ n * 2 ^ (32 - n) := Int.mul_nonneg h2 (by omega)
  rw [e, bits_join .u32 32 (by decide) (fun n h0 h1 => by rw [IntKind.wrap_u32]; omega) (32 - n) _ _ h7 (Int.mul_emod_left _ _) (by omega) h4 h5 (by omega), zah, Int.add_comm]
theorem zf9 (n : Nat) (h0 : 1 ≤ n) (h1 : n ≤ 31) {x : Int} (hx : za5 x) : zeR.f x (n : Int) = some (zah n x) := by
  unfold zeR.f zbE.f
  have e1 : wrap64 (-(n : Int)) = -(n : Int) := zap (by omega) (by omega)
  have e2 : IntKind.u64.wrap (-(n : Int)) = 18446744073709551616 - (n : Int) := by
    show (-(n : Int)) % 18446744073709551616 = _
    omega
  have e3 : Go.bits .and .u64 (18446744073709551616 - (n : Int)) 31 = ((32 - n : Nat) : Int) := by
    have := bits_mask .u64 64 (by decide) (fun n h0 h1 => zaT h0 (by omega)) 5 (by decide) (18446744073709551616 - (n : Int)) (by omega) (by omega)
    rw [show ((2 : Int) ^ 5 - 1) = 31 from rfl, show (2 : Int) ^ 5 = 32 from rfl] at this
    rw [this]; omega
  have e4 : IntKind.u64.wrap (32 - ((32 - n : Nat) : Int)) = (n : Int) := by rw [zaT (by omega) (by omega)]; omega
  rw [e1, e2, e3, e4, if_pos (by omega), if_pos (by omega)]
  simp only [Option.bind_some]
  congr 1
  unfold shl shr
  rw [Int.toNat_natCast, Int.toNat_natCast, Nat.min_eq_left (by show 32 - n ≤ 32; omega), Nat.min_eq_left (by show n ≤ 32; omega)]
  exact zhL n (by omega) hx
theorem zgy (x n p low : Int) (hp : p ≠ 0) (m : Nat) (hm : wrap64 (32 - n) = m) (d : Nat) : ∀ j : Nat, j + d = m → m ≤ 32 → 0 ≤ low → low * 2 ^ m < 4294967296 → Ev (fun k => zN.l1 k x n p (low * 2 ^ j) (j : Int)) (((Int.tdiv x p % 4294967296) + low * 2 ^ m) % 4294967296) := by
  induction d with
  | zero =>
    intro j hj hm2 h0 h1
    obtain rfl : j = m := by omega
    refine Ev.step (fun k => by rw [zN.l1]) ?_
    rw [hm]
    exact z8 (by omega) (z8 hp (Ev.now _))
  | succ d ih =>
    intro j hj hm2 h0 h1
    refine Ev.step (fun k => by rw [zN.l1]) ?_
    rw [hm]
    refine zP (by omega) ?_
    have h2 : low * 2 ^ (j + 1) ≤ low * 2 ^ m := Int.mul_le_mul_of_nonneg_left (by exact_mod_cast Nat.pow_le_pow_right (by omega) (by omega)) h0
    have h3 : 0 ≤ low * 2 ^ (j + 1) := Int.mul_nonneg h0 (Int.le_of_lt (zbI _))
    have e1 : low * 2 ^ j * 2 % 4294967296 = low * 2 ^ (j + 1) := by
      rw [Int.mul_assoc, ← Int.pow_succ]
      show low * 2 ^ (j + 1) % 4294967296 = low * 2 ^ (j + 1)
      omega
    rw [e1, zap (by omega) (by omega)]
    exact ih (j + 1) (by omega) hm2 h0 h1
theorem zgx (x : Int) (n : Nat) (hn : n ≤ 31) (r : Int) (hr : Ev (fun k => zN.l1 k x n (2 ^ n) (Int.tmod x (2 ^ n)) 0) r) (d : Nat) : ∀ j : Nat, j + d = n → Ev (fun k => zN.l0 k x (n : Int) (2 ^ j) (j : Int)) r := by
  induction d with
  | zero =>
    intro j hj
    obtain rfl : j = n := by omega
    refine Ev.step (fun k => by rw [zN.l0]) ?_
    exact z8 (by omega) (z8 (Int.ne_of_gt (zbI _)) hr)
  | succ d ih =>
    intro j hj
    refine Ev.step (fun k => by rw [zN.l0]) ?_
    refine zP (by omega) ?_
    have h2 : (2 : Int) ^ (j + 1) ≤ 2 ^ 31 := by exact_mod_cast Nat.pow_le_pow_right (by omega : 0 < 2) (by omega : j + 1 ≤ 31)
    have h3 : (2 : Int) ^ 31 = 2147483648 := rfl
    have h4 := zbI (j + 1)
    have e1 : (2 : Int) ^ j * 2 % 4294967296 = 2 ^ (j + 1) := by
      rw [← Int.pow_succ]; omega
    rw [e1, zap (by omega) (by omega)]
    exact ih (j + 1) (by omega)
theorem zgw (n : Nat) (h0 : 1 ≤ n) (h1 : n ≤ 31) {x : Int} (hx : za5 x) : Ev (fun k => zN.f k x (n : Int)) (zah n x) := by
  have hpq := zgp n (by omega)
  have hp := zbI n
  have hq := zbI (32 - n)
  have h2 := Int.emod_nonneg x (Int.ne_of_gt hp)
  have h3 := Int.emod_lt_of_pos x hp
  have h6 : x % 2 ^ n * 2 ^ (32 - n) ≤ (2 ^ n - 1) * 2 ^ (32 - n) := Int.mul_le_mul_of_nonneg_right (by omega) (by omega)
  rw [Int.sub_mul, hpq, Int.one_mul] at h6
  have hl := zgy x n (2 ^ n) (x % 2 ^ n) (Int.ne_of_gt hp) (32 - n) (by rw [zap (by omega) (by omega)]; omega) (32 - n) 0 (by omega) (by omega) h2 (by omega)
  rw [Int.pow_zero, Int.mul_one] at hl
  rw [← Int.tmod_eq_emod_of_nonneg hx.1] at hl
  have := zgx x n h1 _ hl n 0 (by omega)
  rw [Int.pow_zero] at this
  refine zay this ?_
  have ok := zhK n (by omega) hx
  rw [Int.tmod_eq_emod_of_nonneg hx.1, Int.tdiv_eq_ediv_of_nonneg hx.1]
  have h4 : 0 ≤ x / 2 ^ n := Int.ediv_nonneg hx.1 (Int.le_of_lt hp)
  have h8 : x / 2 ^ n < 4294967296 := by
    have : x / 2 ^ n ≤ x := Int.ediv_le_self _ hx.1
    have := hx.2; omega
  rw [Int.emod_eq_of_lt h4 h8]
  exact Int.emod_eq_of_lt ok.1 ok.2
theorem zgv (n : Nat) (hn : n ≤ 31) (d : Nat) : ∀ (j : Nat) (x : Int), j + d = n → za5 x → Ev (fun k => z6.l0 k x (n : Int) (j : Int)) (x / 2 ^ d) := by
  induction d with
  | zero =>
    intro j x hj hx
    refine Ev.step (fun k => by rw [z6.l0]) ?_
    exact z8 (by omega) (zay (Ev.now _) (by simp))
  | succ d ih =>
    intro j x hj hx
    refine Ev.step (fun k => by rw [z6.l0]) ?_
    refine zP (by omega) ?_
    obtain ⟨x0, x1⟩ := hx
    have e1 : Int.tdiv x 2 % 4294967296 = x / 2 := by rw [Int.tdiv_eq_ediv_of_nonneg x0]; omega
    rw [e1, zap (by omega) (by omega)]
    refine zay (ih (j + 1) (x / 2) (by omega) ⟨by omega, by omega⟩) ?_
    rw [Int.pow_succ, Int.mul_comm, ← Int.ediv_ediv_of_nonneg (by decide)]
theorem zgu (n : Nat) (hn : n ≤ 31) {x : Int} (hx : za5 x) : Ev (fun k => z6.f k x (n : Int)) (x / 2 ^ n) := zgv n hn n 0 x (by omega) hx
end Go.Proofs.Ytlabjgcoopdbiaa.Px
