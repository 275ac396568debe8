-- printed by this session's pprint.py (the kit's print, with this session's plugs) out of the translation; Lean checks it
import Derived.ScopeJumps
import Derived.WalkMore
import Derived.Test.YtijnodcbgadooaaPx0
import Derived.Test.YtijnodcbgadooaaPxWW01Be
namespace Go.Proofs.Ytijnodcbgadooaa.Px
open Go.RowKit Go.Proofs.YtijnodcbgadooaaW.PrintWords Go.Proofs.YtijnodcbgadooaaW.PrintLast Go.Proofs.YtijnodcbgadooaaW.PrintMore
attribute [local go_sem] max2_int min2_int max_two min_two max_three min_three max_four min_four   -- for this text's walks alone
set_option linter.unusedVariables false
set_option linter.unusedSimpArgs false

/-! ### digits_Num: function 19 (a plug) -/

/-- the bytes of a number as whole numbers -/
def beL (v : Nat) : List Int := if v = 0 then [] else beL (v / 256) ++ [((v % 256 : Nat) : Int)]
termination_by v
decreasing_by omega
theorem beL_zero : beL 0 = [] := by rw [beL]; simp
theorem beL_pos {v : Nat} (h : 0 < v) : beL v = beL (v / 256) ++ [((v % 256 : Nat) : Int)] := by rw [beL, if_neg (by omega)]
theorem beL_be (v : Nat) : (beL v).map (fun n => UInt8.ofNat n.toNat) = be v := by
  induction v using Nat.strongRecOn with
  | _ v ih =>
    rcases Nat.eq_zero_or_pos v with h | h
    · subst h; rw [beL_zero, be_zero]; rfl
    · rw [beL_pos h, be_pos h, List.map_append, ih _ (by omega)]; rfl
theorem numB_beL (v : Nat) : numB v = strOfNums (((beL v).length : Int) :: beL v) := (numB_strOfNums v _ (beL_be v)).symm

def num_intOf : Value → Int | .int _ q => q | _ => 0
/-- nine cells, the last of which are L -/
def Nine (cs : Array Value) (p : Nat) (L : List Int) : Prop := cs.size = 9 ∧ p + L.length = 9 ∧ ∀ i, i < L.length → cs[p + i]? = some (.int .u8 (L.getD i 0))
theorem Nine.cell {cs : Array Value} {p : Nat} {L : List Int} (h : Nine cs p L) (i : Nat) (hi : i < 9) : ∃ v, cs[i]? = some v :=
  ⟨cs[i]'(by rw [h.1]; exact hi), Array.getElem?_eq_getElem _⟩
theorem Nine.set {cs : Array Value} {q : Nat} {L : List Int} (h : Nine cs (q + 1) L) (x : Int) : Nine (cs.setIfInBounds q (.int .u8 x)) q (x :: L) := by
  refine ⟨by simp [h.1], by have := h.2.1; simp only [List.length_cons]; omega, fun i hi => ?_⟩
  rcases i with _ | i
  · rw [Nat.add_zero, Array.getElem?_setIfInBounds_self_of_lt (by rw [h.1]; have := h.2.1; omega)]; rfl
  · have h2 := h.2.2 i (by simpa using hi)
    rw [Array.getElem?_setIfInBounds_ne (by omega), ← Nat.add_assoc, Nat.add_right_comm, h2]; simp
theorem pow_step {v q : Nat} (h : v < 256 ^ (q + 1)) : v / 256 < 256 ^ q := by
  rw [Nat.pow_succ] at h
  exact Nat.div_lt_of_lt_mul (by rw [Nat.mul_comm]; exact h)

set_option maxHeartbeats 1000000 in
set_option maxRecDepth 100000 in
theorem digits_Num.walk (a0 : Nat) (w : World) (h1 : a0 < 18446744073709551616) :
    Calls Try.prog 19 #[.int .u64 a0] w fun e w' => e = .returned (.string (numB a0)) ∧ Below w.heap.size w w' := by
  go_enter Try.func19, Try.ntmps19
  go_wp2
  refine wp_scope_jumps 0 (fun a' w' => ∃ (v p n : Nat) (L : List Int) (cs : Array Value) (u6 u7 u8 u9 u10 u11 u12 u13 u14 u15 u16 u17 : Value),
      Nine cs p L ∧ v < 256 ^ (p - 1) ∧ 1 ≤ p ∧ L.length = n ∧ beL a0 = beL v ++ L ∧
      w' = w.alloc (.cells cs 85) ∧
      a' = { tmps := #[.int .u64 v, undef, .string ⟨#[]⟩, .pointer (some ⟨w.heap.size, 0, none⟩), .int .i64 p, .int .u8 n, u6, u7, u8, u9, u10, u11, u12, u13, u14, u15, u16, u17, undef, undef, undef, undef, undef, undef, undef, undef], defers := [] })
      (fun a' _ => (num_intOf (a'.tmps.getD 4 undef)).toNat) rfl ?_ ?_
  · rcases Nat.eq_zero_or_pos a0 with h0 | h0
    · subst h0
      have hcv := fun W => run_convert_bytes_arg (P := Try.prog) (w.alloc W) 87 5 Try.underlying87 Try.underlying5 w.heap.size 8 1 1 [0] rfl
      go_wp2
      go_step3
      go_wp2
      simp only [Exit.jump]
      go_ret
      exact ⟨by rw [numB_beL, beL_zero]; rfl, (Below.refl _ _).alloc (Nat.le_refl _) _⟩
    · go_wp2
      go_step3
      go_wp2
      go_step3
      refine ⟨rfl, a0 / 256, 8, 1, [(a0 % 256 : Nat)], _, _, _, _, _, _, _, _, _, _, _, _, _, ?_, ?_, ?_, rfl, beL_pos h0, rfl, rfl⟩
      · refine ⟨rfl, rfl, fun i hi => ?_⟩
        obtain rfl : i = 0 := by simpa using hi
        rfl
      · have : (256:Nat) ^ (8 - 1) = 72057594037927936 := by decide
        omega
      · omega
  · rintro a' w' ⟨v, p, n, L, cs, u6, u7, u8, u9, u10, u11, u12, u13, u14, u15, u16, u17, hN, hv, hp, hn, hb, rfl, rfl⟩
    obtain ⟨q, rfl⟩ : ∃ q, p = q + 1 := ⟨p - 1, by omega⟩
    have hq : q < 9 := by have := hN.2.1; omega
    have hnq : n + q = 8 := by have := hN.2.1; omega
    have hnn : n ≤ 8 := by omega
    have hvb : v < 18446744073709551616 := by
      have : 256 ^ (q + 1 - 1) ≤ 256 ^ 8 := Nat.pow_le_pow_right (by omega) (by omega)
      have : (256:Nat) ^ 8 = 18446744073709551616 := by decide
      omega
    obtain ⟨v0, hc⟩ := hN.cell q hq
    have HN := Aside0.mk hN
    have HB := Aside0.mk hb
    have HV := Aside0.mk hv
    have HL := Aside0.mk hn
    have HQ := Aside0.mk hnq
    clear hN hb hv hn hnq h1
    rcases Nat.eq_zero_or_pos v with h0 | h0
    · subst h0
      have hq9 : q ≤ 9 := by omega
      have hsl : ∀ W : World, (Instr.sliceAt 85 (.pointer (some ⟨w.heap.size, 0, none⟩)) (some (.int .i64 (q : Int))) none none).run Try.prog W = .ok (.slice (some ⟨w.heap.size, q, none⟩) (9 - q) (9 - q)) W := by
        intro W
        rw [run_sliceAt_array_l W 85 _ (by kernel_rfl) .i64 q (by omega) (by show (q : Int) ≤ 9; omega)]
        have e1 : (sizeOf (Try.prog.elem 85)).run Try.prog W = .ok 1 W := by kernel_rfl
        have e2 : Try.prog.arrayLen 85 = 9 := by kernel_rfl
        rw [e1, e2]
        simp only [Result.andThen, slicedAt, Int.toNat_natCast, Nat.mul_one]
        rw [if_neg (by omega), add_plain]
      have hS := HN.out.set n
      have hcv := run_convert_bytes_arg (P := Try.prog) (w.alloc (.cells (cs.setIfInBounds q (.int .u8 (n : Int))) 85)) 87 5 Try.underlying87 Try.underlying5 w.heap.size q (9 - q) (9 - q) ((n : Int) :: L) (by rw [List.length_cons, HL.out]; have := HQ.out; omega)
        (fun i hi => by
          have h2 := hS.2.2 i (by have := hS.2.1; omega)
          rw [World.cell?_alloc_new]; exact h2) 9 Try.underlying9
      clear hS
      go_wp2
      simp only [Exit.jump]
      go_ret
      exact ⟨by rw [numB_beL, HB.out, beL_zero, List.nil_append, HL.out]; rfl, (Below.refl _ _).alloc (Nat.le_refl _) _⟩
    · obtain ⟨q', rfl⟩ : ∃ q', q = q' + 1 := ⟨q - 1, by
        rcases Nat.eq_zero_or_pos q with hz | hz
        · have := HV.out; subst hz; simp at this; omega
        · omega⟩
      go_wp2
      go_step3
      refine ⟨rfl, ⟨v / 256, q' + 1, n + 1, ((v % 256 : Nat) : Int) :: L, _, _, _, _, _, _, _, _, _, _, _, _, _, HN.out.set _, pow_step HV.out, by omega, by rw [List.length_cons, HL.out], ?_, rfl, rfl⟩, ?_⟩
      · rw [HB.out, beL_pos h0]; simp
      · simp [num_intOf]; omega

def digits_Num.f (a0 : Int) : Option (ByteArray) := if 0 ≤ a0 then (if a0 < 18446744073709551616 then (some (numB a0.toNat)) else (none)) else (none)
theorem digits_Num.calls (a0 : Int) (r : ByteArray) (w : World) (h : digits_Num.f a0 = some r) :
    Calls Try.prog 19 #[.int .u64 a0] w fun e w' => e = .returned (.string r) ∧ Below w.heap.size w w' := by
  unfold digits_Num.f at h
  split at h
  · rename_i h0
    split at h
    · rename_i h1
      obtain ⟨n, rfl⟩ := Int.eq_ofNat_of_zero_le h0
      obtain rfl := Option.some.inj h
      rw [Int.toNat_natCast]
      exact digits_Num.walk n w (by omega)
    · cases h
  · cases h


end Go.Proofs.Ytijnodcbgadooaa.Px
