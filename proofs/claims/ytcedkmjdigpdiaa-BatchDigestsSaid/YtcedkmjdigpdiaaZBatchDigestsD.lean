/- Part 4 of 9 of the proof of the law BatchDigests: what is proved is the statement at the end of the last part; its conditions are those of the given row. -/
import Derived.Test.YtcedkmjdigpdiaaProg
import Derived.WalkLawsBesides
import Derived.Laws.StructEq
import Derived.ScopeJumps
import Derived.WalkMore
import Derived.Lib.Builder
import Derived.Lib.UnsafeStr
import Derived.Lib.Strings
import Derived.Lib.Slices
import Derived.Lib.Walk
import Derived.RegionTactic
import Derived.ChangeAlike
import Derived.Test.YtcedkmjdigpdiaaZBatchDigestsC
namespace Go.Proofs.Ytcedkmjdigpdiaa.Px
open Go.RowKit Go.Proofs.YtcedkmjdigpdiaaW.PrintWords Go.Proofs.YtcedkmjdigpdiaaW.PrintLast Go.Proofs.YtcedkmjdigpdiaaW.PrintMore
attribute [local go_sem] zs zu zD zE zm zn zt zv
set_option linter.unusedVariables false
set_option linter.unusedSimpArgs false
def zev : Option Int → Value
  | none => .nilIface
  | some c => .iface 0 (.int .i64 c)
theorem zB : zev none = .nilIface := rfl
theorem zC (c : Int) : zev (some c) = .iface 0 (.int .i64 c) := rfl
structure S24 where
  f0 : Int
  f1 : Int
  f2 : (List ByteArray)
def z24 : S24 := ⟨(0 : Int), (0 : Int), ([] : List ByteArray)⟩
def k24 : Kd S24 := Kd.iso (Kd.pair (Kd.int .i64) (Kd.pair (Kd.int .i64) (Kd.slice 9 Kd.string))) (fun x : S24 => (x.f0, x.f1, x.f2))
theorem zdz {w : World} {x : S24} {cs : List Value} (h : k24.K w x cs) : ∃ A2 c2, cs = [.int .i64 x.f0, .int .i64 x.f1, .slice A2 x.f2.length c2] ∧ x.f2.length ≤ c2 ∧ Kd.string.C w A2 x.f2.length x.f2 := by
  obtain ⟨_, _, rfl, rfl, ⟨_, _, rfl, rfl, ⟨A2, c2, rfl, l2, g2⟩⟩⟩ := h
  exact ⟨A2, c2, rfl, l2, g2⟩
structure S35 where
  f0 : Int
  f1 : Int
structure S37 where
  f0 : Int
  f1 : Int
  f2 : (List S24)
  f3 : (List ByteArray)
  f4 : S35
end Go.Proofs.Ytcedkmjdigpdiaa.Px

namespace Go.Proofs.Ytcedkmjdigpdiaa.Px
open Go.RowKit Go.Proofs.YtcedkmjdigpdiaaW.PrintWords Go.Proofs.YtcedkmjdigpdiaaW.PrintLast Go.Proofs.YtcedkmjdigpdiaaW.PrintMore
attribute [local go_sem] zs zu zD zE zm zn zt zv
set_option linter.unusedVariables false
set_option linter.unusedSimpArgs false
abbrev Bs := List UInt8
def toB (l : Bs) : ByteArray := ⟨l.toArray⟩
def ofB (s : ByteArray) : Bs := s.data.toList
theorem zaU (l : Bs) : ofB (toB l) = l := by simp [ofB, toB]
theorem zbA (s : ByteArray) : toB (ofB s) = s := by simp [ofB, toB]
theorem zd2 {a b : ByteArray} (h : ofB a = ofB b) : a = b := by rw [← zbA a, ← zbA b, h]
theorem zL (s : ByteArray) : (ofB s).length = s.size := by rw [ofB, Array.length_toList]; rfl
theorem zay (l : Bs) : (toB l).size = l.length := by rw [← zL, zaU]
theorem zcO (a b : ByteArray) : ofB (a ++ b) = ofB a ++ ofB b := by simp [ofB]
theorem zaj (a b : Bs) : toB (a ++ b) = toB a ++ toB b := zd2 (by rw [zcO, zaU, zaU, zaU])
theorem zbb (s : ByteArray) : s.toList = ofB s := ByteArray.toList_eq s
theorem za8 (xs : List Int) : strOfNums xs = toB (xs.map fun n => UInt8.ofNat n.toNat) := rfl
def be (v : Nat) : Bs := if v = 0 then [] else be (v / 256) ++ [UInt8.ofNat (v % 256)]
termination_by v
decreasing_by omega
theorem zbc : be 0 = [] := by rw [be]; simp
theorem zbF {v : Nat} (h : 0 < v) : be v = be (v / 256) ++ [UInt8.ofNat (v % 256)] := by rw [be, if_neg (by omega)]
theorem zc8 (n : Nat) : ∀ v : Nat, (be v).length ≤ n ↔ v < 256 ^ n := by
  induction n with
  | zero =>
    intro v
    rcases Nat.eq_zero_or_pos v with h | h
    · subst h; simp [zbc]
    · rw [zbF h]; simp; omega
  | succ n ih =>
    intro v
    rcases Nat.eq_zero_or_pos v with h | h
    · subst h; simp [zbc, Nat.pow_pos]
    · rw [zbF h, List.length_append, List.length_singleton, Nat.succ_le_succ_iff, ih, Nat.pow_succ, Nat.mul_comm, Nat.div_lt_iff_lt_mul (by omega), Nat.mul_comm]
theorem zdS {v : Nat} (h : v < 18446744073709551616) : (be v).length ≤ 8 := by
  have : (256 : Nat) ^ 8 = 18446744073709551616 := by decide
  exact (zc8 8 v).2 (by rw [this]; exact h)
def zaF (v : Nat) : Bs := UInt8.ofNat (be v).length :: be v
def zbf (v : Nat) : ByteArray := toB (zaF v)
def zbs (t : Bs) : Bs := zaF t.length ++ t
def zbY (t : ByteArray) : ByteArray := zbf t.size ++ t
theorem zdN (t : ByteArray) : zbY t = toB (zbs (ofB t)) := by rw [zbs, zaj, zbA, zL]; rfl
theorem zac {v : Nat} (h : v < 18446744073709551616) : (zaF v).length ≤ 9 := by
  have := zdS h
  simp only [zaF, List.length_cons]; omega
theorem za1 {v : Nat} (h : v < 18446744073709551616) : (zbf v).size ≤ 9 := by rw [zbf, zay]; exact zac h
theorem zbN (v : Nat) (L : List Int) (h : L.map (fun n => UInt8.ofNat n.toNat) = be v) : strOfNums ((L.length : Int) :: L) = zbf v := by
  rw [za8, List.map_cons, h, zbf, zaF]
  have : L.length = (be v).length := by rw [← h, List.length_map]
  rw [this, Int.toNat_natCast]
end Go.Proofs.Ytcedkmjdigpdiaa.Px

namespace Go.Proofs.Ytcedkmjdigpdiaa.Px
open Go.RowKit Go.Proofs.YtcedkmjdigpdiaaW.PrintWords Go.Proofs.YtcedkmjdigpdiaaW.PrintLast Go.Proofs.YtcedkmjdigpdiaaW.PrintMore
attribute [local go_sem] zs zu zD zE zm zn zt zv
set_option linter.unusedVariables false
set_option linter.unusedSimpArgs false
def zcN {α : Type} (p : α → Bool) (l : List α) : Int := match l.findIdx? p with | some i => (i : Int) | none => -1
theorem zdy {α : Type} {p : α → Bool} {l : List α} {k : Nat} {x : α} (hx : l[k]? = some x) (hp : p x = true) (hn : ∀ (j : Nat) (y : α), j < k → l[j]? = some y → p y = false) : zcN p l = k := by
  have hk := (List.getElem?_eq_some_iff.1 hx).1
  have h : l.findIdx? p = some k := by
    rw [List.findIdx?_eq_some_iff_getElem]
    refine ⟨hk, ?_, fun j hj => ?_⟩
    · rw [(List.getElem?_eq_some_iff.1 hx).2]; exact hp
    · have := hn j l[j] hj (List.getElem?_eq_getElem _)
      simp [this]
  rw [zcN, h]
theorem zdc {α : Type} {p : α → Bool} {l : List α} (hn : ∀ (j : Nat) (y : α), l[j]? = some y → p y = false) : zcN p l = -1 := by
  have h : l.findIdx? p = none := by
    rw [List.findIdx?_eq_none_iff]
    intro x hx
    obtain ⟨j, hj⟩ := List.mem_iff_getElem?.1 hx
    exact hn j x hj
  rw [zcN, h]
theorem zdx {α : Type} (p : α → Bool) (l : List α) : decide (0 ≤ zcN p l) = l.any p := by
  rw [zcN]
  rcases h : l.findIdx? p with _ | i
  · rw [List.findIdx?_eq_none_iff] at h
    simp
    intro x hx
    simpa using h x hx
  · rw [List.findIdx?_eq_some_iff_getElem] at h
    obtain ⟨hi, hp, _⟩ := h
    simp
    exact ⟨_, List.getElem_mem hi, hp⟩
theorem zd0 {a b : Bool} (h : a = b) : Ending.returned (.bool a) = .returned (.bool b) := by rw [h]
end Go.Proofs.Ytcedkmjdigpdiaa.Px

namespace Go.Proofs.Ytcedkmjdigpdiaa.Px
open Go.RowKit Go.Proofs.YtcedkmjdigpdiaaW.PrintWords Go.Proofs.YtcedkmjdigpdiaaW.PrintLast Go.Proofs.YtcedkmjdigpdiaaW.PrintMore
attribute [local go_sem] zs zu zD zE zm zn zt zv
set_option linter.unusedVariables false
set_option linter.unusedSimpArgs false
def zaJ (s : ByteArray) : Bool := decide (s.size = 0) || decide (48 < s.size)
theorem zM.odd (s : ByteArray) (w : World) : Calls Try.prog 26 #[.string s] w fun e w' => e = .returned (.bool (zaJ s)) ∧ w = w' := by
  by_cases h : s.toList = []
  · have hb : (s.toList == []) = true := beq_iff_eq.mpr h
    have h0 : s.size = 0 := by rw [← zL, ← zbb, h]; rfl
    have HO : za (zaJ s = true) := ⟨by simp [zaJ, h0]⟩
    clear h h0
    go_enter Try.func26, Try.ntmps26
    go_wp2
    go_ret
    rw [HO.out]
    exact ⟨rfl, rfl⟩
  · have hb : (s.toList == []) = false := beq_eq_false_iff_ne.mpr h
    have h0 : s.size ≠ 0 := fun hz => h (List.eq_nil_of_length_eq_zero (by rw [zbb, zL, hz]))
    have HO : za (zaJ s = decide (48 < (s.size : Int))) := ⟨by simp [zaJ, h0]; omega⟩
    clear h h0
    by_cases h1 : 48 < (s.size : Int)
    · have h1b : decide (48 < (s.size : Int)) = true := decide_eq_true h1
      rw [h1b] at HO
      clear h1
      go_enter Try.func26, Try.ntmps26
      go_wp2
      go_ret
      rw [HO.out]
      exact ⟨rfl, rfl⟩
    · have h1b : decide (48 < (s.size : Int)) = false := decide_eq_false h1
      rw [h1b] at HO
      clear h1
      go_enter Try.func26, Try.ntmps26
      go_wp2
      go_ret
      rw [HO.out]
      exact ⟨rfl, rfl⟩
theorem zM.idx (A : Option Addr) (c : Nat) (l : List ByteArray) (w : World) (hr : Kd.C Kd.string w A l.length l) (hc : l.length ≤ c) :
    Calls Try.prog 55 #[.slice A l.length c, .func (.func 26) #[] #[]] w fun e w' => e = .returned (.int .i64 (zcN zaJ l)) ∧ w = w' := by
  have hm := hr.2.1
  have HR := za.mk hr
  clear hr
  go_enter Try.func55, Try.ntmps55
  go_wp2_with fail
  go_loop [5, 8] (fun v5 v8 => ∃ k : Nat, v8 = .int .i64 k ∧ k ≤ l.length ∧ za (∀ (j : Nat) (y : ByteArray), j < k → l[j]? = some y → zaJ y = false)) (fun _ v8 => l.length - (match v8 with | .int _ q => q | _ => 0).toNat)
  case atStart => exact ⟨0, rfl, Nat.zero_le _, ⟨fun j y hj => absurd hj (Nat.not_lt_zero _)⟩⟩
  case round =>
    obtain ⟨k, rfl, hk, HN⟩ := hrel
    by_cases hlt : k < l.length
    · obtain ⟨ad, rfl, hcell⟩ := Kd.at_string HR.out (k : Int) (by omega) (by omega)
      rw [Int.toNat_natCast] at hcell
      have hb : decide (k < l.length) = true := decide_eq_true hlt
      have hx : l[k]? = some (zcz ByteArray.empty l (k : Int)) := by
        rw [zcz, Int.toNat_natCast, List.getD_eq_getElem?_getD, List.getElem?_eq_getElem hlt]; rfl
      have HX := za.mk hx
      clear hx
      generalize zcz ByteArray.empty l (k : Int) = s at *
      rcases ho : zaJ s with _ | _
      · have HO := za.mk ho
        clear ho
        go_wp2_with (go_at_call 26; (with_reducible refine (zM.odd _ _).mono ?_); rintro e w1 ⟨rfl, rfl⟩; rw [HO.out])
        go_round
        case rel =>
          refine ⟨k + 1, by go_num, by omega, ⟨fun j y hj hy => ?_⟩⟩
          rcases Nat.lt_succ_iff_lt_or_eq.1 hj with h | h
          · exact HN.out j y h hy
          · subst h
            rw [HX.out] at hy
            injection hy with hy
            subst hy
            exact HO.out
        case measure => simp; omega
      · have HO := za.mk ho
        clear ho
        go_wp2_with (go_at_call 26; (with_reducible refine (zM.odd _ _).mono ?_); rintro e w1 ⟨rfl, rfl⟩; rw [HO.out])
        go_ret
        exact ⟨by rw [zdy HX.out HO.out HN.out]; rfl, rfl⟩
    · obtain rfl : k = l.length := by omega
      go_wp2_with fail
      go_ret
      exact ⟨by rw [zdc (fun j y hy => HN.out j y (List.getElem?_eq_some_iff.1 hy).1 hy)]; rfl, rfl⟩
theorem zM.contains (A : Option Addr) (c : Nat) (l : List ByteArray) (w : World) (hr : Kd.C Kd.string w A l.length l) (hc : l.length ≤ c) :
    Calls Try.prog 27 #[.slice A l.length c, .func (.func 26) #[] #[]] w fun e w' => e = .returned (.bool (l.any zaJ)) ∧ w = w' := by
  have HR := za.mk hr
  have HC := za.mk hc
  clear hr hc
  have HA := za.mk (zdx zaJ l)
  go_enter Try.func27, Try.ntmps27
  go_wp2_with (go_at_call 55; (with_reducible refine (zM.idx _ _ _ _ HR.out HC.out).mono ?_); rintro e w1 ⟨rfl, rfl⟩)
  go_ret
  exact ⟨by rw [← HA.out]; rfl, rfl⟩
def zbL (o q : Int) (l : List ByteArray) : Bool := decide (1 ≤ o) && decide (o ≤ 64) && decide (1 ≤ q) && decide (q ≤ 1073741824) && decide (1 ≤ l.length) && decide (l.length ≤ 4) && !l.any zaJ
def zM.f (a0_0 : Int) (a0_1 : Int) (l0_2 : List ByteArray) : Option (Bool) := some (zbL a0_0 a0_1 l0_2)
theorem zM.walk (a0_0 : Int) (a0_1 : Int) (A : Option Addr) (c : Nat) (l : List ByteArray) (w : World) (hr : Kd.C Kd.string w A l.length l) (hc : l.length ≤ c) :
    Calls Try.prog 11 #[.agg #[.int .i64 a0_0, .int .i64 a0_1, .slice A l.length c]] w fun e w' => e = .returned (.bool (zbL a0_0 a0_1 l)) ∧ Below w.heap.size w w' := by
  have HR := za.mk hr
  have HC := za.mk hc
  clear hr hc
  have HW := fun (o : Obj) => Kd.C_below HR.out (Below.alloc (Below.refl w.heap.size w) (Nat.le_refl _) o)
  have HW' := za.mk HW
  clear HW
  go_enter Try.func11, Try.ntmps11
  go_wp2_with (go_at_call 27; (with_reducible refine (zM.contains _ _ _ _ (HW'.out _) HC.out).mono ?_); rintro e w1 ⟨rfl, rfl⟩)
  all_goals go_ret
  all_goals refine ⟨zd0 ?_, (Below.refl _ _).alloc (Nat.le_refl _) _⟩
  all_goals (unfold zbL; simp; try omega)
theorem zM.calls (a0_0 : Int) (a0_1 : Int) (A0_2 : Option Addr) (c0_2 : Nat) (l0_2 : List ByteArray) (r : Bool) (w : World) (hr0_2 : Kd.C Kd.string w A0_2 l0_2.length l0_2) (hc0_2 : l0_2.length ≤ c0_2) (h : zM.f a0_0 a0_1 l0_2 = some r) :
    Calls Try.prog 11 #[.agg #[.int .i64 a0_0, .int .i64 a0_1, .slice A0_2 l0_2.length c0_2]] w fun e w' => e = .returned (.bool r) ∧ Below w.heap.size w w' := by
  obtain rfl := Option.some.inj h
  exact zM.walk a0_0 a0_1 A0_2 c0_2 l0_2 w hr0_2 hc0_2
end Go.Proofs.Ytcedkmjdigpdiaa.Px

namespace Go.Proofs.Ytcedkmjdigpdiaa.Px
open Go.RowKit Go.Proofs.YtcedkmjdigpdiaaW.PrintWords Go.Proofs.YtcedkmjdigpdiaaW.PrintLast Go.Proofs.YtcedkmjdigpdiaaW.PrintMore
attribute [local go_sem] zs zu zD zE zm zn zt zv
set_option linter.unusedVariables false
set_option linter.unusedSimpArgs false
def beL (v : Nat) : List Int := if v = 0 then [] else beL (v / 256) ++ [((v % 256 : Nat) : Int)]
termination_by v
decreasing_by omega
theorem zbE : beL 0 = [] := by rw [beL]; simp
theorem zch {v : Nat} (h : 0 < v) : beL v = beL (v / 256) ++ [((v % 256 : Nat) : Int)] := by rw [beL, if_neg (by omega)]
theorem zeb (v : Nat) : (beL v).map (fun n => UInt8.ofNat n.toNat) = be v := by
  induction v using Nat.strongRecOn with
  | _ v ih =>
    rcases Nat.eq_zero_or_pos v with h | h
    · subst h; rw [zbE, zbc]; rfl
    · rw [zch h, zbF h, List.map_append, ih _ (by omega)]; rfl
theorem zcv (v : Nat) : zbf v = strOfNums (((beL v).length : Int) :: beL v) := (zbN v _ (zeb v)).symm
def zca : Value → Int | .int _ q => q | _ => 0
def zc7 (cs : Array Value) (p : Nat) (L : List Int) : Prop := cs.size = 9 ∧ p + L.length = 9 ∧ ∀ i, i < L.length → cs[p + i]? = some (.int .u8 (L.getD i 0))
theorem zc7.cell {cs : Array Value} {p : Nat} {L : List Int} (h : zc7 cs p L) (i : Nat) (hi : i < 9) : ∃ v, cs[i]? = some v :=
  ⟨cs[i]'(by rw [h.1]; exact hi), Array.getElem?_eq_getElem _⟩
theorem zc7.set {cs : Array Value} {q : Nat} {L : List Int} (h : zc7 cs (q + 1) L) (x : Int) : zc7 (cs.setIfInBounds q (.int .u8 x)) q (x :: L) := by
  refine ⟨by simp [h.1], by have := h.2.1; simp only [List.length_cons]; omega, fun i hi => ?_⟩
  rcases i with _ | i
  · rw [Nat.add_zero, Array.getElem?_setIfInBounds_self_of_lt (by rw [h.1]; have := h.2.1; omega)]; rfl
  · have h2 := h.2.2 i (by simpa using hi)
    rw [Array.getElem?_setIfInBounds_ne (by omega), ← Nat.add_assoc, Nat.add_right_comm, h2]; simp
theorem zdH {v q : Nat} (h : v < 256 ^ (q + 1)) : v / 256 < 256 ^ q := by
  rw [Nat.pow_succ] at h
  exact Nat.div_lt_of_lt_mul (by rw [Nat.mul_comm]; exact h)
set_option maxHeartbeats 1000000 in
set_option maxRecDepth 100000 in
theorem zw.walk (a0 : Nat) (w : World) (h1 : a0 < 18446744073709551616) :
    Calls Try.prog 21 #[.int .u64 a0] w fun e w' => e = .returned (.string (zbf a0)) ∧ Below w.heap.size w w' := by
  go_enter Try.func21, Try.ntmps21
  go_wp2
  refine wp_scope_jumps 0 (fun a' w' => ∃ (v p n : Nat) (L : List Int) (cs : Array Value) (u6 u7 u8 u9 u10 u11 u12 u13 u14 u15 u16 u17 : Value),
      zc7 cs p L ∧ v < 256 ^ (p - 1) ∧ 1 ≤ p ∧ L.length = n ∧ beL a0 = beL v ++ L ∧
      w' = w.alloc (.cells cs 66) ∧
      a' = { tmps := #[.int .u64 v, undef, .string ⟨#[]⟩, .pointer (some ⟨w.heap.size, 0, none⟩), .int .i64 p, .int .u8 n, u6, u7, u8, u9, u10, u11, u12, u13, u14, u15, u16, u17, undef, undef, undef, undef, undef, undef, undef, undef], defers := [] })
      (fun a' _ => (zca (a'.tmps.getD 4 undef)).toNat) rfl ?_ ?_
  · rcases Nat.eq_zero_or_pos a0 with h0 | h0
    · subst h0
      have hcv := fun W => run_convert_bytes_arg (P := Try.prog) (w.alloc W) 54 5 Try.underlying54 Try.underlying5 w.heap.size 8 1 1 [0] rfl
      go_wp2
      go_step3
      go_wp2
      simp only [Exit.jump]
      go_ret
      exact ⟨by rw [zcv, zbE]; rfl, (Below.refl _ _).alloc (Nat.le_refl _) _⟩
    · go_wp2
      go_step3
      go_wp2
      go_step3
      refine ⟨rfl, a0 / 256, 8, 1, [(a0 % 256 : Nat)], _, _, _, _, _, _, _, _, _, _, _, _, _, ?_, ?_, ?_, rfl, zch h0, rfl, rfl⟩
      · refine ⟨rfl, rfl, fun i hi => ?_⟩
        obtain rfl : i = 0 := by simpa using hi
        rfl
      · have : (256:Nat) ^ (8 - 1) = 72057594037927936 := by decide
        omega
      · omega
  · rintro a' w' ⟨v, p, n, L, cs, u6, u7, u8, u9, u10, u11, u12, u13, u14, u15, u16, u17, hN, hv, hp, hn, hb, rfl, rfl⟩
    obtain ⟨q, rfl⟩ : ∃ q, p = q + 1 := ⟨p - 1, by omega⟩
    have hq : q < 9 := by have := hN.2.1; omega
    have hnq : n + q = 8 := by have := hN.2.1; omega
    have hnn : n ≤ 8 := by omega
    have hvb : v < 18446744073709551616 := by
      have : 256 ^ (q + 1 - 1) ≤ 256 ^ 8 := Nat.pow_le_pow_right (by omega) (by omega)
      have : (256:Nat) ^ 8 = 18446744073709551616 := by decide
      omega
    obtain ⟨v0, hc⟩ := hN.cell q hq
    have HN := za.mk hN
    have HB := za.mk hb
    have HV := za.mk hv
    have HL := za.mk hn
    have HQ := za.mk hnq
    clear hN hb hv hn hnq h1
    rcases Nat.eq_zero_or_pos v with h0 | h0
    · subst h0
      have hq9 : q ≤ 9 := by omega
      have hsl : ∀ W : World, (Instr.sliceAt 66 (.pointer (some ⟨w.heap.size, 0, none⟩)) (some (.int .i64 (q : Int))) none none).run Try.prog W = .ok (.slice (some ⟨w.heap.size, q, none⟩) (9 - q) (9 - q)) W := by
        intro W
        rw [run_sliceAt_array_l W 66 _ (by kernel_rfl) .i64 q (by omega) (by show (q : Int) ≤ 9; omega)]
        have e1 : (sizeOf (Try.prog.elem 66)).run Try.prog W = .ok 1 W := by kernel_rfl
        have e2 : Try.prog.arrayLen 66 = 9 := by kernel_rfl
        rw [e1, e2]
        simp only [Result.andThen, slicedAt, Int.toNat_natCast, Nat.mul_one]
        rw [if_neg (by omega), zb7]
      have hS := HN.out.set n
      have hcv := run_convert_bytes_arg (P := Try.prog) (w.alloc (.cells (cs.setIfInBounds q (.int .u8 (n : Int))) 66)) 54 5 Try.underlying54 Try.underlying5 w.heap.size q (9 - q) (9 - q) ((n : Int) :: L) (by rw [List.length_cons, HL.out]; have := HQ.out; omega)
        (fun i hi => by
          have h2 := hS.2.2 i (by have := hS.2.1; omega)
          rw [World.cell?_alloc_new]; exact h2) 9 Try.underlying9
      clear hS
      go_wp2
      simp only [Exit.jump]
      go_ret
      exact ⟨by rw [zcv, HB.out, zbE, List.nil_append, HL.out]; rfl, (Below.refl _ _).alloc (Nat.le_refl _) _⟩
    · obtain ⟨q', rfl⟩ : ∃ q', q = q' + 1 := ⟨q - 1, by
        rcases Nat.eq_zero_or_pos q with hz | hz
        · have := HV.out; subst hz; simp at this; omega
        · omega⟩
      go_wp2
      go_step3
      refine ⟨rfl, ⟨v / 256, q' + 1, n + 1, ((v % 256 : Nat) : Int) :: L, _, _, _, _, _, _, _, _, _, _, _, _, _, HN.out.set _, zdH HV.out, by omega, by rw [List.length_cons, HL.out], ?_, rfl, rfl⟩, ?_⟩
      · rw [HB.out, zch h0]; simp
      · simp [zca]; omega
def zw.f (a0 : Int) : Option (ByteArray) := if 0 ≤ a0 then (if a0 < 18446744073709551616 then (some (zbf a0.toNat)) else (none)) else (none)
theorem zw.calls (a0 : Int) (r : ByteArray) (w : World) (h : zw.f a0 = some r) :
    Calls Try.prog 21 #[.int .u64 a0] w fun e w' => e = .returned (.string r) ∧ Below w.heap.size w w' := by
  unfold zw.f at h
  split at h
  · rename_i h0
    split at h
    · rename_i h1
      obtain ⟨n, rfl⟩ := Int.eq_ofNat_of_zero_le h0
      obtain rfl := Option.some.inj h
      rw [Int.toNat_natCast]
      exact zw.walk n w (by omega)
    · cases h
  · cases h
end Go.Proofs.Ytcedkmjdigpdiaa.Px

namespace Go.Proofs.Ytcedkmjdigpdiaa.Px
open Go.RowKit Go.Proofs.YtcedkmjdigpdiaaW.PrintWords Go.Proofs.YtcedkmjdigpdiaaW.PrintLast Go.Proofs.YtcedkmjdigpdiaaW.PrintMore
attribute [local go_sem] zs zu zD zE zm zn zt zv
set_option linter.unusedVariables false
set_option linter.unusedSimpArgs false
def zab.f (a0 : ByteArray) : Option (ByteArray) := if a0.size ≤ 1152921504606846976 then (some (zbY a0)) else (none)
theorem zab.calls (a0 : ByteArray) (r : ByteArray) (w : World) (h : zab.f a0 = some r) :
    Calls Try.prog 49 #[.string a0] w fun e w' => e = .returned (.string r) ∧ Below w.heap.size w w' := by
  unfold zab.f at h
  split at h
  · rename_i h0
    obtain rfl := Option.some.inj h
    clear h
    have hn : (zbf a0.size).size ≤ 9 := za1 (by omega)
    have hn2 : (zbf a0.size).size + a0.size ≤ 9223372036854775807 := by omega
    have HN := za.mk (show zw.f (a0.size : Int) = some (zbf a0.size) by unfold zw.f; rw [if_pos (by omega), if_pos (by omega), Int.toNat_natCast])
    go_enter Try.func49, Try.ntmps49
    go_wp2_with (go_at_call 21; (with_reducible refine (zw.calls _ _ _ HN.out).mono ?_); rintro e w1 ⟨rfl, hb⟩)
    go_ret
    exact ⟨rfl, by assumption⟩
  · cases h
end Go.Proofs.Ytcedkmjdigpdiaa.Px

namespace Go.Proofs.Ytcedkmjdigpdiaa.Px
open Go.RowKit Go.Proofs.YtcedkmjdigpdiaaW.PrintWords Go.Proofs.YtcedkmjdigpdiaaW.PrintLast Go.Proofs.YtcedkmjdigpdiaaW.PrintMore
attribute [local go_sem] zs zu zD zE zm zn zt zv
set_option linter.unusedVariables false
set_option linter.unusedSimpArgs false
end Go.Proofs.Ytcedkmjdigpdiaa.Px

namespace Go.Proofs.Ytcedkmjdigpdiaa.Px
open Go.RowKit Go.Proofs.YtcedkmjdigpdiaaW.PrintWords Go.Proofs.YtcedkmjdigpdiaaW.PrintLast Go.Proofs.YtcedkmjdigpdiaaW.PrintMore
attribute [local go_sem] zs zu zD zE zm zn zt zv
set_option linter.unusedVariables false
set_option linter.unusedSimpArgs false
theorem zaB {x : Int} (h0 : 0 ≤ x) (h1 : x < 18446744073709551616) : IntKind.u64.wrap x = x := by
  show x % 18446744073709551616 = x
  omega
theorem zdp {x : Int} (h0 : -9223372036854775808 ≤ x) (h1 : x < 9223372036854775808) : wrap64 x = x := by
  unfold wrap64
  omega
end Go.Proofs.Ytcedkmjdigpdiaa.Px

namespace Go.Proofs.Ytcedkmjdigpdiaa.Px
open Go.RowKit Go.Proofs.YtcedkmjdigpdiaaW.PrintWords Go.Proofs.YtcedkmjdigpdiaaW.PrintLast Go.Proofs.YtcedkmjdigpdiaaW.PrintMore
attribute [local go_sem] zs zu zD zE zm zn zt zv
set_option linter.unusedVariables false
set_option linter.unusedSimpArgs false
end Go.Proofs.Ytcedkmjdigpdiaa.Px

namespace Go.Proofs.Ytcedkmjdigpdiaa.Px
open Go.RowKit Go.Proofs.YtcedkmjdigpdiaaW.PrintWords Go.Proofs.YtcedkmjdigpdiaaW.PrintLast Go.Proofs.YtcedkmjdigpdiaaW.PrintMore
attribute [local go_sem] zs zu zD zE zm zn zt zv
set_option linter.unusedVariables false
set_option linter.unusedSimpArgs false
end Go.Proofs.Ytcedkmjdigpdiaa.Px

namespace Go.Proofs.Ytcedkmjdigpdiaa.Px
open Go.RowKit Go.Proofs.YtcedkmjdigpdiaaW.PrintWords Go.Proofs.YtcedkmjdigpdiaaW.PrintLast Go.Proofs.YtcedkmjdigpdiaaW.PrintMore
attribute [local go_sem] zs zu zD zE zm zn zt zv
set_option linter.unusedVariables false
set_option linter.unusedSimpArgs false
theorem zaE (v : Nat) (hv : v < 18446744073709551616) : zw.f (v : Int) = some (zbf v) := by
  unfold zw.f
  rw [if_pos (by omega), if_pos (by omega), Int.toNat_natCast]
theorem zbI (t : ByteArray) (h : t.size ≤ 1152921504606846976) : zab.f t = some (zbY t) := by unfold zab.f; rw [if_pos h]
theorem zes : be 2 = [2] := by
  rw [zbF (by omega)]
  simp [zbc]
end Go.Proofs.Ytcedkmjdigpdiaa.Px

namespace Go.Proofs.Ytcedkmjdigpdiaa.Px
open Go.RowKit Go.Proofs.YtcedkmjdigpdiaaW.PrintWords Go.Proofs.YtcedkmjdigpdiaaW.PrintLast Go.Proofs.YtcedkmjdigpdiaaW.PrintMore
attribute [local go_sem] zs zu zD zE zm zn zt zv
set_option linter.unusedVariables false
set_option linter.unusedSimpArgs false
theorem zdt : (Try.prog.info? 5).map (fun i => (i.zero, i.size, i.bytes)) = some (some (.int .u8 0), 1, 1) := by kernel_rfl
theorem zb8 : (Try.prog.info? 69).map (·.size) = some 2 := by kernel_rfl
theorem zdT : liesAt Try.prog Try.prog.depth 69 (2 / Try.prog.cellsOf 69) 0 69 1 = true := by kernel_rfl
abbrev za5 (B b : Nat) (l : Bs) (w : World) : Prop := Lib.IsBuilder 69 5 B b (Lib.byteCells l) w
theorem za5.below {B b : Nat} {l : Bs} {w w' : World} (h : za5 B b l w) (hb : Below w.heap.size w w') : za5 B b l w' := by
  have key : ∀ p, Lib.BuilderAt 69 5 B b p (Lib.byteCells l) w → Lib.BuilderAt 69 5 B b p (Lib.byteCells l) w' := by
    rintro p ⟨hB, v, hk, hown, hne⟩
    have hlt : b < w.heap.size := Lib.BuilderAt.lt ⟨hB, v, hk, hown, hne⟩
    exact ⟨hB, v, (hb.block b hlt).trans hk, zap hown hb, hne⟩
  exact h.imp (key _) (key _)
set_option maxHeartbeats 1000000 in
set_option maxRecDepth 100000 in
theorem zbH (b : Nat) (w : World) (h0 : w.cell? ⟨b, 0, none⟩ = some (.pointer (some ⟨b, 0, none⟩))) :
    Calls Try.prog 60 #[.pointer (some ⟨b, 0, none⟩)] w fun e w' => e = .returned (.tuple #[]) ∧ w = w' := by
  obtain ⟨j, hj, _⟩ := Option.map_eq_some_iff.1 zb8
  go_enter Try.func60, Try.ntmps60
  go_wp2
  rw [Lib.run_neq_ptr_same w _ Try.underlying67 hj]
  go_wp2
  go_end0
  exact ⟨rfl, rfl⟩
set_option maxHeartbeats 1000000 in
set_option maxRecDepth 100000 in
theorem zbu (b : Nat) (w : World) (h0 : w.cell? ⟨b, 0, none⟩ = some (.pointer none)) (hsh : w.shape? b = some (69, 2)) (hfz : w.frozen? ⟨b, 0, none⟩ = false) :
    Calls Try.prog 60 #[.pointer (some ⟨b, 0, none⟩)] w fun e w' => e = .returned (.tuple #[]) ∧ w.setCell ⟨b, 0, none⟩ (.pointer (some ⟨b, 0, none⟩)) = w' := by
  obtain ⟨j, hj, hjs⟩ := Option.map_eq_some_iff.1 zb8
  go_enter Try.func60, Try.ntmps60
  go_wp2
  rw [Lib.run_to_unsafe w ⟨b, 0, none⟩ Try.underlying67 Try.underlying88 hj (by rw [hjs]; decide) hsh (Nat.zero_lt_succ 1)]
  simp only [Result.andThen]
  rw [Oper.upon_value]
  go_wp2
  rw [run_callFunc_extern Try.func70 (by kernel_rfl) (by kernel_rfl) (by kernel_rfl) (e := Extern.AbiNoEscape.same) (by kernel_rfl)]
  rw [Lib.run_noEscape]
  simp only [Result.andThen]
  rw [Oper.upon_value]
  go_wp2
  rw [Lib.run_from_unsafe w ⟨b, 0, none⟩ Try.underlying88 Try.underlying67 hj hsh zdT]
  simp only [Result.andThen]
  rw [Oper.upon_value]
  go_wp2
  go_end0
  exact ⟨rfl, rfl⟩
theorem zb3 (B b : Nat) (bs : List Value) (w : World) (h : Lib.IsBuilder 69 5 B b bs w) :
    Calls Try.prog 60 #[.pointer (some ⟨b, 0, none⟩)] w fun e w' => e = .returned (.tuple #[]) ∧ (Lib.BuilderAt 69 5 B b (.pointer (some ⟨b, 0, none⟩)) bs w' ∧ Below B w w') := by
  rcases h with h | h
  · refine (zbu b w h.cell0 h.shape h.frozen0).mono ?_
    rintro e w' ⟨rfl, rfl⟩
    exact ⟨rfl, h.used _, (Below.refl B w).setCell (p := ⟨b, 0, none⟩) h.1 _⟩
  · refine (zbH b w h.cell0).mono ?_
    rintro e w' ⟨rfl, rfl⟩
    exact ⟨rfl, h, Below.refl B _⟩
set_option maxHeartbeats 2000000 in
set_option maxRecDepth 100000 in
theorem zaV (B b : Nat) (l : Bs) (s : ByteArray) (w : World) (h : za5 B b l w) (hlen : l.length + s.size ≤ 140737488355328) (hBw : B ≤ w.heap.size) :
    Calls Try.prog 48 #[.pointer (some ⟨b, 0, none⟩), .string s] w fun e w' => e = .returned (.tuple #[.int .i64 s.size, .nilIface]) ∧ za5 B b (l ++ ofB s) w' ∧ Below B w w' := by
  obtain ⟨i0, hi, hz0, hz1, hz2⟩ := info_parts zdt
  have hlc : (Lib.byteCells l).length = l.length := Lib.byteCells_length l
  go_enter Try.func48, Try.ntmps48
  go_wp2_with (go_at_call 60; refine (zb3 B b _ _ h).mono ?_)
  rintro e w1 ⟨rfl, h1, hb1⟩
  obtain ⟨hB, v, hbk, hown, hne⟩ := h1
  have c0 : w1.cell? ⟨b, 0, none⟩ = some (.pointer (some ⟨b, 0, none⟩)) := by rw [Lib.cell_of_heap hbk]; rfl
  have c1 : w1.cell? ⟨b, 1, none⟩ = some v := by rw [Lib.cell_of_heap hbk]; rfl
  go_wp2_with (at_builtin; refine Lib.wpList_append_own_string _ rfl _ _ 54 9 rfl B 5 i0 Try.underlying54 Try.underlying9 hi hz0 hz1 hz2 _ _ _ rfl hown s rfl ?c3 ?c4 ?c5 ?_)
  case c3 => unfold maxLen; omega
  case c4 => omega
  case c5 => have := hb1.size; omega
  intro v' w2 hown' hgrow _
  have hlt : b < w1.heap.size := by
    rcases Nat.lt_or_ge b w1.heap.size with h' | h'
    · exact h'
    · simp [Array.getElem?_eq_none h'] at hbk
  have hb2 : w2.heap[b]? = some (.cells #[.pointer (some ⟨b, 0, none⟩), v] 69 (0, 0)) := by
    rw [hgrow.block b hlt (fun e => hne e.symm)]
    exact hbk
  have d0 : w2.cell? ⟨b, 0, none⟩ = some (.pointer (some ⟨b, 0, none⟩)) := by rw [Lib.cell_of_heap hb2]; rfl
  have d1 : w2.cell? ⟨b, 1, none⟩ = some v := by rw [Lib.cell_of_heap hb2]; rfl
  have f1 : w2.frozen? ⟨b, 1, none⟩ = false := Lib.frozen_of_heap hb2 1
  obtain ⟨ao, n', cap, rfl⟩ : ∃ ao n' cap, v' = .slice ao n' cap := by
    rcases hown'.2 with ⟨hv, _⟩ | ⟨g, cap, cur, hv, _⟩
    · exact ⟨_, _, _, hv⟩
    · exact ⟨_, _, _, hv⟩
  go_wp2
  go_ret2
  refine ⟨rfl, .inr ?_, ?_⟩
  · have e1 : Lib.byteCells l ++ Lib.strCells s = Lib.byteCells (l ++ ofB s) := by rw [Lib.strCells_eq]; simp [Lib.byteCells, ofB]
    rw [e1] at hown'
    refine Lib.BuilderAt.put (T := 69) (e := 5) hB hb2 (bs' := Lib.byteCells (l ++ ofB s)) ?_ (by decide)
    rw [Lib.byteCells_length, List.length_append, zL]
    exact hown'
  · exact (hb1.grown hgrow (by have := hb1.size; omega) (fun k hk => (hown.lt k hk).1)).setCell (p := ⟨b, 1, none⟩) hB _
set_option maxHeartbeats 1000000 in
set_option maxRecDepth 100000 in
theorem zb2 (B b : Nat) (l : Bs) (w : World) (h : za5 B b l w) (h0 : l ≠ []) :
    Calls Try.prog 50 #[.pointer (some ⟨b, 0, none⟩)] w fun e w' => e = .returned (.string (toB l)) ∧ Below B w w' := by
  obtain ⟨p, hB, v, hbk, hown, hne⟩ : ∃ p, Lib.BuilderAt 69 5 B b p (Lib.byteCells l) w := by
    rcases h with h | h
    · exact ⟨_, h⟩
    · exact ⟨_, h⟩
  have hl0 : l.length ≠ 0 := by simpa using h0
  rw [Lib.byteCells_length] at hown
  obtain ⟨g, cap, cur, rfl, hbg, hg, hnc, hcm, hcs, htake⟩ : ∃ g cap cur, v = .slice (some ⟨g, 0, none⟩) l.length cap ∧ B ≤ g ∧ w.heap[g]? = some (.cells cur 5 (0, 0)) ∧ l.length ≤ cap ∧ cap ≤ maxLen ∧ cur.size = cap * 1 ∧ cur.toList.take (l.length * 1) = Lib.byteCells l := by
    rcases hown.2 with ⟨_, hz⟩ | ⟨g, cap, cur, hv, r⟩
    · exact absurd hz hl0
    · exact ⟨g, cap, cur, hv, r⟩
  have c1 : w.drew.cell? ⟨b, 1, none⟩ = some (.slice (some ⟨g, 0, none⟩) l.length cap) := by
    have : w.drew.heap[b]? = some (.cells #[p, .slice (some ⟨g, 0, none⟩) l.length cap] 69 (0, 0)) := hbk
    rw [Lib.cell_of_heap this]; rfl
  have hSD : (Builtin.unsafeSliceData_ #[54] 82 #[.slice (some ⟨g, 0, none⟩) l.length cap]).run Try.prog w.drew = .ok (.pointer (some ⟨g, 0, none⟩)) w.drew :=
    Lib.run_unsafeSliceData_row _ _ _ _ _ _ (by omega)
  have hUS : (Builtin.unsafeString_ #[82, 3] 9 #[.pointer (some ⟨g, 0, none⟩), .int .i64 l.length]).run Try.prog w.drew = .ok (.string ⟨l.toArray⟩) (w.drew.freeze ⟨g, 0, none⟩ l.length) := by
    refine Lib.run_unsafeString_row w.drew 82 3 9 5 Try.underlying82 (by kernel_rfl) g cur.size (by have hg' : w.drew.heap[g]? = some (.cells cur 5 (0, 0)) := hg; simp [World.shape?, hg']) l h0 (by omega) (by unfold maxLen at hcm; omega) ?_
    intro j x hx
    have := hown.cells (g := g) rfl j (.int .u8 x.toNat) (by simp [Lib.byteCells, hx])
    exact this
  go_enter Try.func50, Try.ntmps50
  go_wp2
  go_region
  all_goals (go_wp2; go_ret; exact ⟨rfl, Lib.below_freeze (Below.drew (Below.refl B w)) (p := ⟨g, 0, none⟩) hbg _⟩)
end Go.Proofs.Ytcedkmjdigpdiaa.Px

namespace Go.Proofs.Ytcedkmjdigpdiaa.Px
open Go.RowKit Go.Proofs.YtcedkmjdigpdiaaW.PrintWords Go.Proofs.YtcedkmjdigpdiaaW.PrintLast Go.Proofs.YtcedkmjdigpdiaaW.PrintMore
attribute [local go_sem] zs zu zD zE zm zn zt zv
set_option linter.unusedVariables false
set_option linter.unusedSimpArgs false
def zS (l : List ByteArray) : Bs := l.flatMap (fun t => zbs (ofB t))
def zbk (l : List ByteArray) : Bs := zaF l.length ++ zS l
theorem zbS (l : List ByteArray) (k : Nat) (t : ByteArray) (h : l[k]? = some t) : zS (l.take (k + 1)) = zS (l.take k) ++ ofB (zbY t) := by
  have hk := (List.getElem?_eq_some_iff.1 h)
  obtain ⟨hk, rfl⟩ := hk
  rw [List.take_succ_eq_append_getElem hk, zS, zS, List.flatMap_append, zdN, zaU]
  simp
theorem za7 (l : List ByteArray) (k : Nat) : (zS (l.take k)).length ≤ (zS l).length := by
  have : zS l = zS (l.take k) ++ zS (l.drop k) := by rw [zS, zS, zS, ← List.flatMap_append, List.take_append_drop]
  rw [this, List.length_append]; omega
theorem zdL (l : List ByteArray) : l.length ≤ (zS l).length := by
  induction l with
  | nil => simp
  | cons t l ih =>
    have : zS (t :: l) = zbs (ofB t) ++ zS l := rfl
    rw [this, List.length_append, List.length_cons, zbs, zaF]
    simp only [List.length_cons, List.length_append]
    omega
theorem zcj (l : List ByteArray) (k : Nat) (t : ByteArray) (h : l[k]? = some t) : t.size ≤ (zS l).length := by
  have h1 := zbS l k t h
  have h2 := za7 l (k + 1)
  rw [h1, List.length_append, zL, zbY, ByteArray.size_append] at h2
  omega
end Go.Proofs.Ytcedkmjdigpdiaa.Px

namespace Go.Proofs.Ytcedkmjdigpdiaa.Px
open Go.RowKit Go.Proofs.YtcedkmjdigpdiaaW.PrintWords Go.Proofs.YtcedkmjdigpdiaaW.PrintLast Go.Proofs.YtcedkmjdigpdiaaW.PrintMore
attribute [local go_sem] zs zu zD zE zm zn zt zv
set_option linter.unusedVariables false
set_option linter.unusedSimpArgs false
def zF.Bld (B : Nat) (l : List ByteArray) (k : Nat) (w0 wr : World) : Prop := za5 B w0.heap.size (zaF l.length ++ zS (l.take k)) wr ∧ Below w0.heap.size w0 wr
theorem zF.walk (A : Option Addr) (c : Nat) (l : List ByteArray) (w : World) (hr : Kd.C Kd.string w A l.length l) (hc : l.length ≤ c) (hs : (zbk l).length ≤ 140737488355328) :
    Calls Try.prog 22 #[.slice A l.length c] w fun e w' => e = .returned (.string (toB (zbk l))) ∧ Below w.heap.size w w' := by
  have hm := hr.2.1
  have hll := zdL l
  have hsum : (zbk l).length = (zaF l.length).length + (zS l).length := by rw [zbk, List.length_append]
  have hlen : l.length ≤ 140737488355328 := by omega
  have HN := za.mk (zaE l.length (by omega))
  have HR := za.mk hr
  have HF : za (za5 w.heap.size w.heap.size [] (w.alloc (.cells #[.pointer none, .slice none 0 0] 69))) := ⟨Lib.fresh_isBuilder 69 5 w⟩
  have HS := za.mk hs
  have HU := za.mk hsum
  clear hr hs hll hsum
  go_enter Try.func22, Try.ntmps22
  go_wp2_with (go_at_call 21; (with_reducible refine (zw.calls _ _ _ HN.out).mono ?_); rintro e w1 ⟨rfl, hb1⟩)
  have hB1 := za5.below HF.out hb1
  have hw1 : Below w.heap.size w w1 := zg ((Below.refl _ _).alloc (Nat.le_refl _) _) hb1
  have hsz1 := hw1.size
  clear hb1
  refine (zaV w.heap.size w.heap.size [] (zbf l.length) w1 hB1 (by have := za1 (v := l.length) (by omega); simp; omega) hsz1).mono ?_
  rintro e w2 ⟨rfl, hB2, hw2⟩
  have HL : za (zF.Bld w.heap.size l 0 w w2) := ⟨by rw [zbf, zaU, List.nil_append] at hB2; rw [List.take_zero, show zS [] = [] from rfl, List.append_nil]; exact hB2, hw1.trans hw2⟩
  clear hB1 hB2 hw1 hw2 hsz1
  go_wp2_with fail
  go_loopw [5, 13] (fun _ v13 wr => ∃ k : Nat, v13 = .int .i64 k ∧ k ≤ l.length ∧ za (zF.Bld w.heap.size l k w wr)) (fun _ v13 _ => l.length - (match v13 with | .int _ q => q | _ => 0).toNat)
  case atStart => exact ⟨0, rfl, Nat.zero_le _, HL⟩
  case round =>
    obtain ⟨k, rfl, hk, HK⟩ := hrel
    by_cases hlt : k < l.length
    · obtain ⟨ad, rfl, hcell⟩ := Kd.at_string (Kd.C_below HR.out HK.out.2) (k : Int) (by omega) (by omega)
      rw [Int.toNat_natCast] at hcell
      have hb : decide (k < l.length) = true := decide_eq_true hlt
      have hx : l[k]? = some (zcz ByteArray.empty l (k : Int)) := by
        rw [zcz, Int.toNat_natCast, List.getD_eq_getElem?_getD, List.getElem?_eq_getElem hlt]; rfl
      have HX := za.mk hx
      clear hx
      generalize zcz ByteArray.empty l (k : Int) = s at *
      have hs := zcj l k s HX.out
      have HT := za.mk (zbI s (by have := HS.out; have := HU.out; omega))
      have h2 := zbS l k s HX.out
      have h3 := za7 l (k + 1)
      rw [h2, List.length_append, zL] at h3
      have H2 := za.mk h2
      have H3 : za ((zaF l.length ++ zS (l.take k)).length + (zbY s).size ≤ 140737488355328) := ⟨by rw [List.length_append]; have := HS.out; have := HU.out; omega⟩
      clear h2 h3 hs
      go_wp2_with (go_at_call 49; (with_reducible refine (zab.calls _ _ _ HT.out).mono ?_); rintro e w3 ⟨rfl, hb3⟩)
      refine (zaV w.heap.size w.heap.size _ (zbY s) w3 (za5.below HK.out.1 hb3) H3.out (Nat.le_trans HK.out.2.size hb3.size)).mono ?_
      rintro e w4 ⟨rfl, hB4, hw4⟩
      have HL4 : za (zF.Bld w.heap.size l (k + 1) w w4) := ⟨by rw [H2.out, ← List.append_assoc]; exact hB4, (zg HK.out.2 hb3).trans hw4⟩
      clear hB4 hw4 hb3
      go_wp2
      go_roundw
      case rel => exact ⟨k + 1, by go_num, by omega, HL4⟩
      case measure => simp; omega
    · obtain rfl : k = l.length := by omega
      have HE : za (zaF l.length ++ zS (l.take l.length) = zbk l) := ⟨by rw [List.take_of_length_le (Nat.le_refl _)]; rfl⟩
      go_wp2_with (go_at_call 50; refine (zb2 w.heap.size w.heap.size _ _ HK.out.1 (by simp [zaF])).mono ?_; rintro e w3 ⟨rfl, hb3⟩)
      go_ret
      exact ⟨rfl, HK.out.2.trans hb3⟩
def zF.f (l0 : List ByteArray) : Option (ByteArray) := if (zbk l0).length ≤ 140737488355328 then (some (toB (zbk l0))) else (none)
theorem zF.calls (A0 : Option Addr) (c0 : Nat) (l0 : List ByteArray) (r : ByteArray) (w : World) (hr0 : Kd.C Kd.string w A0 l0.length l0) (hc0 : l0.length ≤ c0) (h : zF.f l0 = some r) :
    Calls Try.prog 22 #[.slice A0 l0.length c0] w fun e w' => e = .returned (.string r) ∧ Below w.heap.size w w' := by
  unfold zF.f at h
  split at h
  · rename_i hs
    obtain rfl := Option.some.inj h
    exact zF.walk A0 c0 l0 w hr0 hc0 hs
  · cases h
end Go.Proofs.Ytcedkmjdigpdiaa.Px
