/- Part 4 of 15 of the proof of the law BatchBytes: what is proved is the statement at the end of the last part; its conditions are those of the given row. -/
import Derived.Test.YtcedkmjdigpdiaaProg
import Derived.WalkLawsBesides
import Derived.Laws.StructEq
import Derived.ScopeJumps
import Derived.WalkMore
import Derived.Lib.Builder
import Derived.Lib.UnsafeStr
import Derived.Lib.Strings
import Derived.Lib.Slices
import Derived.Lib.Walk
import Derived.RegionTactic
import Derived.ChangeAlike
import Derived.Test.YtcedkmjdigpdiaaZBatchBytesC
namespace Go.Proofs.Ytcedkmjdigpdiaa.Px
open Go.RowKit Go.Proofs.YtcedkmjdigpdiaaW.PrintWords Go.Proofs.YtcedkmjdigpdiaaW.PrintLast Go.Proofs.YtcedkmjdigpdiaaW.PrintMore
attribute [local go_sem] zz zB zG zH zr zs zA zC
set_option linter.unusedVariables false
set_option linter.unusedSimpArgs false
def zga : Option Int → Value
  | none => .nilIface
  | some c => .iface 0 (.int .i64 c)
theorem zK : zga none = .nilIface := rfl
theorem zL (c : Int) : zga (some c) = .iface 0 (.int .i64 c) := rfl
structure S24 where
  f0 : Int
  f1 : Int
  f2 : (List ByteArray)
def z24 : S24 := ⟨(0 : Int), (0 : Int), ([] : List ByteArray)⟩
def k24 : Kd S24 := Kd.iso (Kd.pair (Kd.int .i64) (Kd.pair (Kd.int .i64) (Kd.slice 9 Kd.string))) (fun x : S24 => (x.f0, x.f1, x.f2))
theorem zdT {w : World} {x : S24} {cs : List Value} (h : k24.K w x cs) : ∃ A2 c2, cs = [.int .i64 x.f0, .int .i64 x.f1, .slice A2 x.f2.length c2] ∧ x.f2.length ≤ c2 ∧ Kd.string.C w A2 x.f2.length x.f2 := by
  obtain ⟨_, _, rfl, rfl, ⟨_, _, rfl, rfl, ⟨A2, c2, rfl, l2, g2⟩⟩⟩ := h
  exact ⟨A2, c2, rfl, l2, g2⟩
def zbB (xs : List S24) (i : Int) : S24 := xs.getD i.toNat z24
theorem zfR {w : World} {A : Option Addr} {n : Nat} {xs : List S24} (h : Kd.C k24 w A n xs) (i : Int) (h0 : 0 ≤ i) (h1 : i < n) : ∃ ad A2 c2, A = some ad ∧ w.cell? (ad.add (i.toNat * 3)) = some (.int .i64 (zbB xs i).f0) ∧ w.cell? ⟨(ad.add (i.toNat * 3)).block, (ad.add (i.toNat * 3)).off + 1, none⟩ = some (.int .i64 (zbB xs i).f1) ∧ w.cell? ⟨(ad.add (i.toNat * 3)).block, (ad.add (i.toNat * 3)).off + 2, none⟩ = some (.slice A2 (zbB xs i).f2.length c2) ∧ (zbB xs i).f2.length ≤ c2 ∧ Kd.string.C w A2 (zbB xs i).f2.length (zbB xs i).f2 := by
  obtain ⟨ad, c, e, _, hK, hc0⟩ := Kd.C_get h z24 i h0 h1
  have hc : ∀ j u, c[j]? = some u → w.cell? (ad.add (i.toNat * 3 + j)) = some u := hc0
  obtain ⟨A2, c2, rfl, l2, g2⟩ := zdT hK
  exact ⟨ad, A2, c2, e, hc 0 _ rfl, by rw [← zdh _ _ 1 (by omega)]; exact hc 1 _ rfl, by rw [← zdh _ _ 2 (by omega)]; exact hc 2 _ rfl, l2, g2⟩
structure S35 where
  f0 : Int
  f1 : Int
structure S37 where
  f0 : Int
  f1 : Int
  f2 : (List S24)
  f3 : (List ByteArray)
  f4 : S35
end Go.Proofs.Ytcedkmjdigpdiaa.Px

namespace Go.Proofs.Ytcedkmjdigpdiaa.Px
open Go.RowKit Go.Proofs.YtcedkmjdigpdiaaW.PrintWords Go.Proofs.YtcedkmjdigpdiaaW.PrintLast Go.Proofs.YtcedkmjdigpdiaaW.PrintMore
attribute [local go_sem] zz zB zG zH zr zs zA zC
set_option linter.unusedVariables false
set_option linter.unusedSimpArgs false
abbrev Bs := List UInt8
def toB (l : Bs) : ByteArray := ⟨l.toArray⟩
def ofB (s : ByteArray) : Bs := s.data.toList
theorem zbf (l : Bs) : ofB (toB l) = l := by simp [ofB, toB]
theorem zcN (s : ByteArray) : toB (ofB s) = s := by simp [ofB, toB]
theorem zfx {a b : ByteArray} (h : ofB a = ofB b) : a = b := by rw [← zcN a, ← zcN b, h]
theorem zV (s : ByteArray) : (ofB s).length = s.size := by rw [ofB, Array.length_toList]; rfl
theorem zas (l : Bs) : (toB l).size = l.length := by rw [← zV, zbf]
theorem zee (a b : ByteArray) : ofB (a ++ b) = ofB a ++ ofB b := by simp [ofB]
theorem zak (a b : Bs) : toB (a ++ b) = toB a ++ toB b := zfx (by rw [zee, zbf, zbf, zbf])
theorem zca (s : ByteArray) : s.toList = ofB s := ByteArray.toList_eq s
theorem zau (xs : List Int) : strOfNums xs = toB (xs.map fun n => UInt8.ofNat n.toNat) := rfl
def be (v : Nat) : Bs := if v = 0 then [] else be (v / 256) ++ [UInt8.ofNat (v % 256)]
termination_by v
decreasing_by omega
theorem zbv : be 0 = [] := by rw [be]; simp
theorem zch {v : Nat} (h : 0 < v) : be v = be (v / 256) ++ [UInt8.ofNat (v % 256)] := by rw [be, if_neg (by omega)]
theorem zeF (n : Nat) : ∀ v : Nat, (be v).length ≤ n ↔ v < 256 ^ n := by
  induction n with
  | zero =>
    intro v
    rcases Nat.eq_zero_or_pos v with h | h
    · subst h; simp [zbv]
    · rw [zch h]; simp; omega
  | succ n ih =>
    intro v
    rcases Nat.eq_zero_or_pos v with h | h
    · subst h; simp [zbv, Nat.pow_pos]
    · rw [zch h, List.length_append, List.length_singleton, Nat.succ_le_succ_iff, ih, Nat.pow_succ, Nat.mul_comm, Nat.div_lt_iff_lt_mul (by omega), Nat.mul_comm]
theorem zfo {v : Nat} (h : v < 18446744073709551616) : (be v).length ≤ 8 := by
  have : (256 : Nat) ^ 8 = 18446744073709551616 := by decide
  exact (zeF 8 v).2 (by rw [this]; exact h)
def za6 (v : Nat) : Bs := UInt8.ofNat (be v).length :: be v
def za0 (v : Nat) : ByteArray := toB (za6 v)
def zcC (t : Bs) : Bs := za6 t.length ++ t
def zb3 (t : ByteArray) : ByteArray := za0 t.size ++ t
theorem zfj (t : ByteArray) : zb3 t = toB (zcC (ofB t)) := by rw [zcC, zak, zcN, zV]; rfl
theorem zaA {v : Nat} (h : v < 18446744073709551616) : (za6 v).length ≤ 9 := by
  have := zfo h
  simp only [za6, List.length_cons]; omega
theorem zaI {v : Nat} (h : v < 18446744073709551616) : (za0 v).size ≤ 9 := by rw [za0, zas]; exact zaA h
theorem zcV (v : Nat) (L : List Int) (h : L.map (fun n => UInt8.ofNat n.toNat) = be v) : strOfNums ((L.length : Int) :: L) = za0 v := by
  rw [zau, List.map_cons, h, za0, za6]
  have : L.length = (be v).length := by rw [← h, List.length_map]
  rw [this, Int.toNat_natCast]
end Go.Proofs.Ytcedkmjdigpdiaa.Px

namespace Go.Proofs.Ytcedkmjdigpdiaa.Px
open Go.RowKit Go.Proofs.YtcedkmjdigpdiaaW.PrintWords Go.Proofs.YtcedkmjdigpdiaaW.PrintLast Go.Proofs.YtcedkmjdigpdiaaW.PrintMore
attribute [local go_sem] zz zB zG zH zr zs zA zC
set_option linter.unusedVariables false
set_option linter.unusedSimpArgs false
def zdQ {α : Type} (p : α → Bool) (l : List α) : Int := match l.findIdx? p with | some i => (i : Int) | none => -1
theorem zdS {α : Type} {p : α → Bool} {l : List α} {k : Nat} {x : α} (hx : l[k]? = some x) (hp : p x = true) (hn : ∀ (j : Nat) (y : α), j < k → l[j]? = some y → p y = false) : zdQ p l = k := by
  have hk := (List.getElem?_eq_some_iff.1 hx).1
  have h : l.findIdx? p = some k := by
    rw [List.findIdx?_eq_some_iff_getElem]
    refine ⟨hk, ?_, fun j hj => ?_⟩
    · rw [(List.getElem?_eq_some_iff.1 hx).2]; exact hp
    · have := hn j l[j] hj (List.getElem?_eq_getElem _)
      simp [this]
  rw [zdQ, h]
theorem zdj {α : Type} {p : α → Bool} {l : List α} (hn : ∀ (j : Nat) (y : α), l[j]? = some y → p y = false) : zdQ p l = -1 := by
  have h : l.findIdx? p = none := by
    rw [List.findIdx?_eq_none_iff]
    intro x hx
    obtain ⟨j, hj⟩ := List.mem_iff_getElem?.1 hx
    exact hn j x hj
  rw [zdQ, h]
theorem zdR {α : Type} (p : α → Bool) (l : List α) : decide (0 ≤ zdQ p l) = l.any p := by
  rw [zdQ]
  rcases h : l.findIdx? p with _ | i
  · rw [List.findIdx?_eq_none_iff] at h
    simp
    intro x hx
    simpa using h x hx
  · rw [List.findIdx?_eq_some_iff_getElem] at h
    obtain ⟨hi, hp, _⟩ := h
    simp
    exact ⟨_, List.getElem_mem hi, hp⟩
theorem zfv {a b : Bool} (h : a = b) : Ending.returned (.bool a) = .returned (.bool b) := by rw [h]
end Go.Proofs.Ytcedkmjdigpdiaa.Px

namespace Go.Proofs.Ytcedkmjdigpdiaa.Px
open Go.RowKit Go.Proofs.YtcedkmjdigpdiaaW.PrintWords Go.Proofs.YtcedkmjdigpdiaaW.PrintLast Go.Proofs.YtcedkmjdigpdiaaW.PrintMore
attribute [local go_sem] zz zB zG zH zr zs zA zC
set_option linter.unusedVariables false
set_option linter.unusedSimpArgs false
def zaS (s : ByteArray) : Bool := decide (s.size = 0) || decide (48 < s.size)
theorem zS.odd (s : ByteArray) (w : World) : Calls Try.prog 26 #[.string s] w fun e w' => e = .returned (.bool (zaS s)) ∧ w = w' := by
  by_cases h : s.toList = []
  · have hb : (s.toList == []) = true := beq_iff_eq.mpr h
    have h0 : s.size = 0 := by rw [← zV, ← zca, h]; rfl
    have HO : za (zaS s = true) := ⟨by simp [zaS, h0]⟩
    clear h h0
    go_enter Try.func26, Try.ntmps26
    go_wp2
    go_ret
    rw [HO.out]
    exact ⟨rfl, rfl⟩
  · have hb : (s.toList == []) = false := beq_eq_false_iff_ne.mpr h
    have h0 : s.size ≠ 0 := fun hz => h (List.eq_nil_of_length_eq_zero (by rw [zca, zV, hz]))
    have HO : za (zaS s = decide (48 < (s.size : Int))) := ⟨by simp [zaS, h0]; omega⟩
    clear h h0
    by_cases h1 : 48 < (s.size : Int)
    · have h1b : decide (48 < (s.size : Int)) = true := decide_eq_true h1
      rw [h1b] at HO
      clear h1
      go_enter Try.func26, Try.ntmps26
      go_wp2
      go_ret
      rw [HO.out]
      exact ⟨rfl, rfl⟩
    · have h1b : decide (48 < (s.size : Int)) = false := decide_eq_false h1
      rw [h1b] at HO
      clear h1
      go_enter Try.func26, Try.ntmps26
      go_wp2
      go_ret
      rw [HO.out]
      exact ⟨rfl, rfl⟩
theorem zS.idx (A : Option Addr) (c : Nat) (l : List ByteArray) (w : World) (hr : Kd.C Kd.string w A l.length l) (hc : l.length ≤ c) :
    Calls Try.prog 55 #[.slice A l.length c, .func (.func 26) #[] #[]] w fun e w' => e = .returned (.int .i64 (zdQ zaS l)) ∧ w = w' := by
  have hm := hr.2.1
  have HR := za.mk hr
  clear hr
  go_enter Try.func55, Try.ntmps55
  go_wp2_with fail
  go_loop [5, 8] (fun v5 v8 => ∃ k : Nat, v8 = .int .i64 k ∧ k ≤ l.length ∧ za (∀ (j : Nat) (y : ByteArray), j < k → l[j]? = some y → zaS y = false)) (fun _ v8 => l.length - (match v8 with | .int _ q => q | _ => 0).toNat)
  case atStart => exact ⟨0, rfl, Nat.zero_le _, ⟨fun j y hj => absurd hj (Nat.not_lt_zero _)⟩⟩
  case round =>
    obtain ⟨k, rfl, hk, HN⟩ := hrel
    by_cases hlt : k < l.length
    · obtain ⟨ad, rfl, hcell⟩ := Kd.at_string HR.out (k : Int) (by omega) (by omega)
      rw [Int.toNat_natCast] at hcell
      have hb : decide (k < l.length) = true := decide_eq_true hlt
      have hx : l[k]? = some (za3 ByteArray.empty l (k : Int)) := by
        rw [za3, Int.toNat_natCast, List.getD_eq_getElem?_getD, List.getElem?_eq_getElem hlt]; rfl
      have HX := za.mk hx
      clear hx
      generalize za3 ByteArray.empty l (k : Int) = s at *
      rcases ho : zaS s with _ | _
      · have HO := za.mk ho
        clear ho
        go_wp2_with (go_at_call 26; (with_reducible refine (zS.odd _ _).mono ?_); rintro e w1 ⟨rfl, rfl⟩; rw [HO.out])
        go_round
        case rel =>
          refine ⟨k + 1, by go_num, by omega, ⟨fun j y hj hy => ?_⟩⟩
          rcases Nat.lt_succ_iff_lt_or_eq.1 hj with h | h
          · exact HN.out j y h hy
          · subst h
            rw [HX.out] at hy
            injection hy with hy
            subst hy
            exact HO.out
        case measure => simp; omega
      · have HO := za.mk ho
        clear ho
        go_wp2_with (go_at_call 26; (with_reducible refine (zS.odd _ _).mono ?_); rintro e w1 ⟨rfl, rfl⟩; rw [HO.out])
        go_ret
        exact ⟨by rw [zdS HX.out HO.out HN.out]; rfl, rfl⟩
    · obtain rfl : k = l.length := by omega
      go_wp2_with fail
      go_ret
      exact ⟨by rw [zdj (fun j y hy => HN.out j y (List.getElem?_eq_some_iff.1 hy).1 hy)]; rfl, rfl⟩
theorem zS.contains (A : Option Addr) (c : Nat) (l : List ByteArray) (w : World) (hr : Kd.C Kd.string w A l.length l) (hc : l.length ≤ c) :
    Calls Try.prog 27 #[.slice A l.length c, .func (.func 26) #[] #[]] w fun e w' => e = .returned (.bool (l.any zaS)) ∧ w = w' := by
  have HR := za.mk hr
  have HC := za.mk hc
  clear hr hc
  have HA := za.mk (zdR zaS l)
  go_enter Try.func27, Try.ntmps27
  go_wp2_with (go_at_call 55; (with_reducible refine (zS.idx _ _ _ _ HR.out HC.out).mono ?_); rintro e w1 ⟨rfl, rfl⟩)
  go_ret
  exact ⟨by rw [← HA.out]; rfl, rfl⟩
def zbo (o q : Int) (l : List ByteArray) : Bool := decide (1 ≤ o) && decide (o ≤ 64) && decide (1 ≤ q) && decide (q ≤ 1073741824) && decide (1 ≤ l.length) && decide (l.length ≤ 4) && !l.any zaS
def zS.f (a0_0 : Int) (a0_1 : Int) (l0_2 : List ByteArray) : Option (Bool) := some (zbo a0_0 a0_1 l0_2)
theorem zS.walk (a0_0 : Int) (a0_1 : Int) (A : Option Addr) (c : Nat) (l : List ByteArray) (w : World) (hr : Kd.C Kd.string w A l.length l) (hc : l.length ≤ c) :
    Calls Try.prog 11 #[.agg #[.int .i64 a0_0, .int .i64 a0_1, .slice A l.length c]] w fun e w' => e = .returned (.bool (zbo a0_0 a0_1 l)) ∧ Below w.heap.size w w' := by
  have HR := za.mk hr
  have HC := za.mk hc
  clear hr hc
  have HW := fun (o : Obj) => Kd.C_below HR.out (Below.alloc (Below.refl w.heap.size w) (Nat.le_refl _) o)
  have HW' := za.mk HW
  clear HW
  go_enter Try.func11, Try.ntmps11
  go_wp2_with (go_at_call 27; (with_reducible refine (zS.contains _ _ _ _ (HW'.out _) HC.out).mono ?_); rintro e w1 ⟨rfl, rfl⟩)
  all_goals go_ret
  all_goals refine ⟨zfv ?_, (Below.refl _ _).alloc (Nat.le_refl _) _⟩
  all_goals (unfold zbo; simp; try omega)
theorem zS.calls (a0_0 : Int) (a0_1 : Int) (A0_2 : Option Addr) (c0_2 : Nat) (l0_2 : List ByteArray) (r : Bool) (w : World) (hr0_2 : Kd.C Kd.string w A0_2 l0_2.length l0_2) (hc0_2 : l0_2.length ≤ c0_2) (h : zS.f a0_0 a0_1 l0_2 = some r) :
    Calls Try.prog 11 #[.agg #[.int .i64 a0_0, .int .i64 a0_1, .slice A0_2 l0_2.length c0_2]] w fun e w' => e = .returned (.bool r) ∧ Below w.heap.size w w' := by
  obtain rfl := Option.some.inj h
  exact zS.walk a0_0 a0_1 A0_2 c0_2 l0_2 w hr0_2 hc0_2
end Go.Proofs.Ytcedkmjdigpdiaa.Px

namespace Go.Proofs.Ytcedkmjdigpdiaa.Px
open Go.RowKit Go.Proofs.YtcedkmjdigpdiaaW.PrintWords Go.Proofs.YtcedkmjdigpdiaaW.PrintLast Go.Proofs.YtcedkmjdigpdiaaW.PrintMore
attribute [local go_sem] zz zB zG zH zr zs zA zC
set_option linter.unusedVariables false
set_option linter.unusedSimpArgs false
def beL (v : Nat) : List Int := if v = 0 then [] else beL (v / 256) ++ [((v % 256 : Nat) : Int)]
termination_by v
decreasing_by omega
theorem zcP : beL 0 = [] := by rw [beL]; simp
theorem zdv {v : Nat} (h : 0 < v) : beL v = beL (v / 256) ++ [((v % 256 : Nat) : Int)] := by rw [beL, if_neg (by omega)]
theorem zfS (v : Nat) : (beL v).map (fun n => UInt8.ofNat n.toNat) = be v := by
  induction v using Nat.strongRecOn with
  | _ v ih =>
    rcases Nat.eq_zero_or_pos v with h | h
    · subst h; rw [zcP, zbv]; rfl
    · rw [zdv h, zch h, List.map_append, ih _ (by omega)]; rfl
theorem zdU (v : Nat) : za0 v = strOfNums (((beL v).length : Int) :: beL v) := (zcV v _ (zfS v)).symm
def zdm : Value → Int | .int _ q => q | _ => 0
def zeE (cs : Array Value) (p : Nat) (L : List Int) : Prop := cs.size = 9 ∧ p + L.length = 9 ∧ ∀ i, i < L.length → cs[p + i]? = some (.int .u8 (L.getD i 0))
theorem zeE.cell {cs : Array Value} {p : Nat} {L : List Int} (h : zeE cs p L) (i : Nat) (hi : i < 9) : ∃ v, cs[i]? = some v :=
  ⟨cs[i]'(by rw [h.1]; exact hi), Array.getElem?_eq_getElem _⟩
theorem zeE.set {cs : Array Value} {q : Nat} {L : List Int} (h : zeE cs (q + 1) L) (x : Int) : zeE (cs.setIfInBounds q (.int .u8 x)) q (x :: L) := by
  refine ⟨by simp [h.1], by have := h.2.1; simp only [List.length_cons]; omega, fun i hi => ?_⟩
  rcases i with _ | i
  · rw [Nat.add_zero, Array.getElem?_setIfInBounds_self_of_lt (by rw [h.1]; have := h.2.1; omega)]; rfl
  · have h2 := h.2.2 i (by simpa using hi)
    rw [Array.getElem?_setIfInBounds_ne (by omega), ← Nat.add_assoc, Nat.add_right_comm, h2]; simp
theorem zfc {v q : Nat} (h : v < 256 ^ (q + 1)) : v / 256 < 256 ^ q := by
  rw [Nat.pow_succ] at h
  exact Nat.div_lt_of_lt_mul (by rw [Nat.mul_comm]; exact h)
set_option maxHeartbeats 1000000 in
set_option maxRecDepth 100000 in
theorem zU.walk (a0 : Nat) (w : World) (h1 : a0 < 18446744073709551616) :
    Calls Try.prog 21 #[.int .u64 a0] w fun e w' => e = .returned (.string (za0 a0)) ∧ Below w.heap.size w w' := by
  go_enter Try.func21, Try.ntmps21
  go_wp2
  refine wp_scope_jumps 0 (fun a' w' => ∃ (v p n : Nat) (L : List Int) (cs : Array Value) (u6 u7 u8 u9 u10 u11 u12 u13 u14 u15 u16 u17 : Value),
      zeE cs p L ∧ v < 256 ^ (p - 1) ∧ 1 ≤ p ∧ L.length = n ∧ beL a0 = beL v ++ L ∧
      w' = w.alloc (.cells cs 66) ∧
      a' = { tmps := #[.int .u64 v, undef, .string ⟨#[]⟩, .pointer (some ⟨w.heap.size, 0, none⟩), .int .i64 p, .int .u8 n, u6, u7, u8, u9, u10, u11, u12, u13, u14, u15, u16, u17, undef, undef, undef, undef, undef, undef, undef, undef], defers := [] })
      (fun a' _ => (zdm (a'.tmps.getD 4 undef)).toNat) rfl ?_ ?_
  · rcases Nat.eq_zero_or_pos a0 with h0 | h0
    · subst h0
      have hcv := fun W => run_convert_bytes_arg (P := Try.prog) (w.alloc W) 54 5 Try.underlying54 Try.underlying5 w.heap.size 8 1 1 [0] rfl
      go_wp2
      go_step3
      go_wp2
      simp only [Exit.jump]
      go_ret
      exact ⟨by rw [zdU, zcP]; rfl, (Below.refl _ _).alloc (Nat.le_refl _) _⟩
    · go_wp2
      go_step3
      go_wp2
      go_step3
      refine ⟨rfl, a0 / 256, 8, 1, [(a0 % 256 : Nat)], _, _, _, _, _, _, _, _, _, _, _, _, _, ?_, ?_, ?_, rfl, zdv h0, rfl, rfl⟩
      · refine ⟨rfl, rfl, fun i hi => ?_⟩
        obtain rfl : i = 0 := by simpa using hi
        rfl
      · have : (256:Nat) ^ (8 - 1) = 72057594037927936 := by decide
        omega
      · omega
  · rintro a' w' ⟨v, p, n, L, cs, u6, u7, u8, u9, u10, u11, u12, u13, u14, u15, u16, u17, hN, hv, hp, hn, hb, rfl, rfl⟩
    obtain ⟨q, rfl⟩ : ∃ q, p = q + 1 := ⟨p - 1, by omega⟩
    have hq : q < 9 := by have := hN.2.1; omega
    have hnq : n + q = 8 := by have := hN.2.1; omega
    have hnn : n ≤ 8 := by omega
    have hvb : v < 18446744073709551616 := by
      have : 256 ^ (q + 1 - 1) ≤ 256 ^ 8 := Nat.pow_le_pow_right (by omega) (by omega)
      have : (256:Nat) ^ 8 = 18446744073709551616 := by decide
      omega
    obtain ⟨v0, hc⟩ := hN.cell q hq
    have HN := za.mk hN
    have HB := za.mk hb
    have HV := za.mk hv
    have HL := za.mk hn
    have HQ := za.mk hnq
    clear hN hb hv hn hnq h1
    rcases Nat.eq_zero_or_pos v with h0 | h0
    · subst h0
      have hq9 : q ≤ 9 := by omega
      have hsl : ∀ W : World, (Instr.sliceAt 66 (.pointer (some ⟨w.heap.size, 0, none⟩)) (some (.int .i64 (q : Int))) none none).run Try.prog W = .ok (.slice (some ⟨w.heap.size, q, none⟩) (9 - q) (9 - q)) W := by
        intro W
        rw [run_sliceAt_array_l W 66 _ (by kernel_rfl) .i64 q (by omega) (by show (q : Int) ≤ 9; omega)]
        have e1 : (sizeOf (Try.prog.elem 66)).run Try.prog W = .ok 1 W := by kernel_rfl
        have e2 : Try.prog.arrayLen 66 = 9 := by kernel_rfl
        rw [e1, e2]
        simp only [Result.andThen, slicedAt, Int.toNat_natCast, Nat.mul_one]
        rw [if_neg (by omega), zbm]
      have hS := HN.out.set n
      have hcv := run_convert_bytes_arg (P := Try.prog) (w.alloc (.cells (cs.setIfInBounds q (.int .u8 (n : Int))) 66)) 54 5 Try.underlying54 Try.underlying5 w.heap.size q (9 - q) (9 - q) ((n : Int) :: L) (by rw [List.length_cons, HL.out]; have := HQ.out; omega)
        (fun i hi => by
          have h2 := hS.2.2 i (by have := hS.2.1; omega)
          rw [World.cell?_alloc_new]; exact h2) 9 Try.underlying9
      clear hS
      go_wp2
      simp only [Exit.jump]
      go_ret
      exact ⟨by rw [zdU, HB.out, zcP, List.nil_append, HL.out]; rfl, (Below.refl _ _).alloc (Nat.le_refl _) _⟩
    · obtain ⟨q', rfl⟩ : ∃ q', q = q' + 1 := ⟨q - 1, by
        rcases Nat.eq_zero_or_pos q with hz | hz
        · have := HV.out; subst hz; simp at this; omega
        · omega⟩
      go_wp2
      go_step3
      refine ⟨rfl, ⟨v / 256, q' + 1, n + 1, ((v % 256 : Nat) : Int) :: L, _, _, _, _, _, _, _, _, _, _, _, _, _, HN.out.set _, zfc HV.out, by omega, by rw [List.length_cons, HL.out], ?_, rfl, rfl⟩, ?_⟩
      · rw [HB.out, zdv h0]; simp
      · simp [zdm]; omega
def zU.f (a0 : Int) : Option (ByteArray) := if 0 ≤ a0 then (if a0 < 18446744073709551616 then (some (za0 a0.toNat)) else (none)) else (none)
theorem zU.calls (a0 : Int) (r : ByteArray) (w : World) (h : zU.f a0 = some r) :
    Calls Try.prog 21 #[.int .u64 a0] w fun e w' => e = .returned (.string r) ∧ Below w.heap.size w w' := by
  unfold zU.f at h
  split at h
  · rename_i h0
    split at h
    · rename_i h1
      obtain ⟨n, rfl⟩ := Int.eq_ofNat_of_zero_le h0
      obtain rfl := Option.some.inj h
      rw [Int.toNat_natCast]
      exact zU.walk n w (by omega)
    · cases h
  · cases h
end Go.Proofs.Ytcedkmjdigpdiaa.Px

namespace Go.Proofs.Ytcedkmjdigpdiaa.Px
open Go.RowKit Go.Proofs.YtcedkmjdigpdiaaW.PrintWords Go.Proofs.YtcedkmjdigpdiaaW.PrintLast Go.Proofs.YtcedkmjdigpdiaaW.PrintMore
attribute [local go_sem] zz zB zG zH zr zs zA zC
set_option linter.unusedVariables false
set_option linter.unusedSimpArgs false
def zaG.f (a0 : ByteArray) : Option (ByteArray) := if a0.size ≤ 1152921504606846976 then (some (zb3 a0)) else (none)
theorem zaG.calls (a0 : ByteArray) (r : ByteArray) (w : World) (h : zaG.f a0 = some r) :
    Calls Try.prog 49 #[.string a0] w fun e w' => e = .returned (.string r) ∧ Below w.heap.size w w' := by
  unfold zaG.f at h
  split at h
  · rename_i h0
    obtain rfl := Option.some.inj h
    clear h
    have hn : (za0 a0.size).size ≤ 9 := zaI (by omega)
    have hn2 : (za0 a0.size).size + a0.size ≤ 9223372036854775807 := by omega
    have HN := za.mk (show zU.f (a0.size : Int) = some (za0 a0.size) by unfold zU.f; rw [if_pos (by omega), if_pos (by omega), Int.toNat_natCast])
    go_enter Try.func49, Try.ntmps49
    go_wp2_with (go_at_call 21; (with_reducible refine (zU.calls _ _ _ HN.out).mono ?_); rintro e w1 ⟨rfl, hb⟩)
    go_ret
    exact ⟨rfl, by assumption⟩
  · cases h
end Go.Proofs.Ytcedkmjdigpdiaa.Px

namespace Go.Proofs.Ytcedkmjdigpdiaa.Px
open Go.RowKit Go.Proofs.YtcedkmjdigpdiaaW.PrintWords Go.Proofs.YtcedkmjdigpdiaaW.PrintLast Go.Proofs.YtcedkmjdigpdiaaW.PrintMore
attribute [local go_sem] zz zB zG zH zr zs zA zC
set_option linter.unusedVariables false
set_option linter.unusedSimpArgs false
def zu.l0 : Nat → Int → ByteArray → Option (ByteArray)
  | 0, _, _ => none
  | k + 1, x0, x3 => if x0 > 0 then ((some (([(Int.tmod x0 256) % 256] : List Int) : List Int)).bind fun y114 => (if (strOfNums y114).size + x3.size ≤ 9223372036854775807 then (zu.l0 k (IntKind.u64.wrap (Int.tdiv x0 256)) ((strOfNums y114) ++ x3)) else (none))) else ((some (([((x3.size : Int)) % 256] : List Int) : List Int)).bind fun y117 => (if (strOfNums y117).size + x3.size ≤ 9223372036854775807 then (some ((strOfNums y117) ++ x3)) else (none)))
def zu.f (k : Nat) (a0 : Int) : Option (ByteArray) := zu.l0 k a0 (⟨#[]⟩ : ByteArray)
set_option maxHeartbeats 8000000 in
set_option maxRecDepth 100000 in
theorem zu.calls (k : Nat) (a0 : Int) (r : ByteArray) (w : World) (h : zu.f k a0 = some r) :
    Calls Try.prog 23 #[.int .u64 a0] w fun e w' => e = .returned (.string r) ∧ Below w.heap.size w w' := by
  have HB := za.mk (Below.refl w.heap.size w)
  have H : (zu.l0 k a0 (⟨#[]⟩ : ByteArray)) = some r := h
  clear h
  have H' := za.mk H
  clear H
  go_enter Try.func23, Try.ntmps23
  go_wp2
  go_loopg [0, 3] k (fun kq v0 v3 w' => ∃ (x0_1 : Int) (x3_1 : ByteArray), v0 = .int .u64 x0_1 ∧ v3 = .string x3_1 ∧ za (zu.l0 kq x0_1 x3_1 = some r) ∧ za (kq ≤ k) ∧ za (Below w.heap.size w w'))
  case atStart => exact ⟨(a0), ((⟨#[]⟩ : ByteArray)), (by first | rfl | (simp; done) | (simp [*]; done)), (by first | rfl | (simp; done) | (simp [*]; done)), H', ⟨Nat.le_refl _⟩, ⟨by repeat (first | (with_reducible first | exact HB.out | apply zf | apply zb | apply zc) | exact HB.out)⟩⟩
  case round =>
    clear H'
    obtain ⟨x0_1, x3_1, rfl, rfl, HA, HK1, HB⟩ := hrel
    cases gk with
    | zero => exact absurd HA.out (by simp [zu.l0])
    | succ k1 =>
      have H := HA.out
      clear HA
      simp only [zu.l0] at H
      by_cases c2 : x0_1 > 0
      · rw [if_pos c2] at H
        have c2b0 : decide (0 < x0_1) = true := decide_eq_true c2
        clear c2
        obtain ⟨y114, hy114⟩ : ∃ y_ : List Int, y_ = (([(Int.tmod x0_1 256) % 256] : List Int)) := ⟨_, rfl⟩
        replace H : (if (strOfNums y114).size + x3_1.size ≤ 9223372036854775807 then (zu.l0 k1 (IntKind.u64.wrap (Int.tdiv x0_1 256)) ((strOfNums y114) ++ x3_1)) else (none)) = some r := by first | (rw [hy114]; with_reducible exact H) | (have H2_ := (Option.bind_some _ _).symm.trans H; rw [hy114]; with_reducible exact H2_) | (have H2_ := (Option.bind_some _ _).symm.trans H; with_reducible exact H2_) | with_reducible exact H | (rw [hy114]; exact H) | exact H
        have Ny114 := za.mk hy114
        clear hy114
        by_cases c3 : (strOfNums y114).size + x3_1.size ≤ 9223372036854775807
        · rw [if_pos c3] at H
          have c3b0 := eq_true c3
          have c3b1 : decide ((strOfNums y114).size + x3_1.size ≤ 9223372036854775807) = true := decide_eq_true c3
          try have c3b2 : (9223372036854775807 < (strOfNums y114).size + x3_1.size) = False := eq_false (Nat.not_lt.2 c3)
          have H' := za.mk H
          clear H
          go_wp2_with (first | ((with_reducible refine zP (N := 9) rfl ?_); refine Kd.R_lit (Kd.int .u8) _ 5 ?hg (N := 9) ?hd (xs := ([(Int.tmod x0_1 256) % 256] : List Int)) (inner := [.int .u8 ((Int.tmod x0_1 256) % 256)]) (ok := fun _ => True) (okp := fun _ => True) ?hr ?hp (fun _ hk => hk) trivial (Below.refl _ _) (Nat.le_refl _) (by simp) ?_; (case hd => rfl); (case hg => rfl); (case hr => first | (go_simp; done) | (go_simp; rfl)); (case hp => exact (z9.one (show Kd.M (Kd.int .u8) _ _ _ ((Int.tmod x0_1 256) % 256) [.int .u8 ((Int.tmod x0_1 256) % 256)] from rfl) (z9.none _ _))); intro v115 w4 ho5 hb hg_ hnew_; clear hg_ hnew_; (first | rw [← Ny114.out] at ho5 | (simp only [Int.reduceToNat] at ho5; rw [← Ny114.out] at ho5)); have n0_ := za.mk (Kd.R_lower ho5 (zE (by repeat (first | (with_reducible first | exact HB.out | apply zf | apply zb | apply zc) | exact HB.out)))); have n1_ := za.mk (zg (by repeat (first | (with_reducible first | exact HB.out | apply zf | apply zb | apply zc) | exact HB.out)) hb); clear HB; have HO116 := n0_; have HB := n1_; clear n0_ n1_; clear hb ho5; have hcv6 := zbA (P := Try.prog) Try.underlying54 Try.underlying5 Try.underlying9 (Kd.own_of_R HO116.out)))
          go_roundg k1
          case measure => have := HK1.out; omega
          case rel => exact ⟨(IntKind.u64.wrap (Int.tdiv x0_1 256)), ((strOfNums y114) ++ x3_1), (by first | rfl | (simp; done) | (simp [*]; done)), (by first | rfl | (simp; done) | (simp [*]; done)), H', ⟨by have := HK1.out; omega⟩, ⟨by repeat (first | (with_reducible first | exact HB.out | apply zf | apply zb | apply zc) | exact HB.out)⟩⟩
        · rw [if_neg c3] at H
          exact absurd H (by simp)
      · rw [if_neg c2] at H
        have c2b0 : decide (0 < x0_1) = false := decide_eq_false c2
        clear c2
        obtain ⟨y117, hy117⟩ : ∃ y_ : List Int, y_ = (([((x3_1.size : Int)) % 256] : List Int)) := ⟨_, rfl⟩
        replace H : (if (strOfNums y117).size + x3_1.size ≤ 9223372036854775807 then (some ((strOfNums y117) ++ x3_1)) else (none)) = some r := by first | (rw [hy117]; with_reducible exact H) | (have H2_ := (Option.bind_some _ _).symm.trans H; rw [hy117]; with_reducible exact H2_) | (have H2_ := (Option.bind_some _ _).symm.trans H; with_reducible exact H2_) | with_reducible exact H | (rw [hy117]; exact H) | exact H
        have Ny117 := za.mk hy117
        clear hy117
        by_cases c7 : (strOfNums y117).size + x3_1.size ≤ 9223372036854775807
        · rw [if_pos c7] at H
          have c7b0 := eq_true c7
          have c7b1 : decide ((strOfNums y117).size + x3_1.size ≤ 9223372036854775807) = true := decide_eq_true c7
          try have c7b2 : (9223372036854775807 < (strOfNums y117).size + x3_1.size) = False := eq_false (Nat.not_lt.2 c7)
          obtain rfl := Option.some.inj H
          go_wp2_with (first | ((with_reducible refine zP (N := 18) rfl ?_); refine Kd.R_lit (Kd.int .u8) _ 5 ?hg (N := 18) ?hd (xs := ([((x3_1.size : Int)) % 256] : List Int)) (inner := [.int .u8 (((x3_1.size : Int)) % 256)]) (ok := fun _ => True) (okp := fun _ => True) ?hr ?hp (fun _ hk => hk) trivial (Below.refl _ _) (Nat.le_refl _) (by simp) ?_; (case hd => rfl); (case hg => rfl); (case hr => first | (go_simp; done) | (go_simp; rfl)); (case hp => exact (z9.one (show Kd.M (Kd.int .u8) _ _ _ (((x3_1.size : Int)) % 256) [.int .u8 (((x3_1.size : Int)) % 256)] from rfl) (z9.none _ _))); intro v118 w8 ho9 hb hg_ hnew_; clear hg_ hnew_; (first | rw [← Ny117.out] at ho9 | (simp only [Int.reduceToNat] at ho9; rw [← Ny117.out] at ho9)); have n0_ := za.mk (Kd.R_lower ho9 (zE (by repeat (first | (with_reducible first | exact HB.out | apply zf | apply zb | apply zc) | exact HB.out)))); have n1_ := za.mk (zg (by repeat (first | (with_reducible first | exact HB.out | apply zf | apply zb | apply zc) | exact HB.out)) hb); clear HB; have HO119 := n0_; have HB := n1_; clear n0_ n1_; clear hb ho9; have hcv10 := zbA (P := Try.prog) Try.underlying54 Try.underlying5 Try.underlying9 (Kd.own_of_R HO119.out)))
          go_ret
          exact ⟨by first | rfl | (simp [zK, zL] <;> rfl) | (simp [*, zK, zL] <;> rfl), by repeat (first | (with_reducible first | exact HB.out | apply zf | apply zb | apply zc) | exact HB.out)⟩
        · rw [if_neg c7] at H
          exact absurd H (by simp)
end Go.Proofs.Ytcedkmjdigpdiaa.Px

namespace Go.Proofs.Ytcedkmjdigpdiaa.Px
open Go.RowKit Go.Proofs.YtcedkmjdigpdiaaW.PrintWords Go.Proofs.YtcedkmjdigpdiaaW.PrintLast Go.Proofs.YtcedkmjdigpdiaaW.PrintMore
attribute [local go_sem] zz zB zG zH zr zs zA zC
set_option linter.unusedVariables false
set_option linter.unusedSimpArgs false
theorem zaf {α : Type} {c : Prop} [Decidable c] {f g : Nat → Option α} {r : α} (h : c) (e : Ev f r) : Ev (fun k => if c then f k else g k) r := by
  simp only [if_pos h]
  exact e
theorem zaz {α : Type} {c : Prop} [Decidable c] {f g : Nat → Option α} {r : α} (h : ¬ c) (e : Ev g r) : Ev (fun k => if c then f k else g k) r := by
  simp only [if_neg h]
  exact e
theorem zbG {α : Type} {f : Nat → Option α} {a b : α} (h : Ev f a) (e : a = b) : Ev f b := e ▸ h
theorem zat {α β : Type} {o : Option α} {f : Nat → α → Option β} {a : α} {r : β} (h : o = some a) (k : Ev (fun n => f n a) r) : Ev (fun n => o.bind (f n)) r := by
  subst h
  exact k
theorem zaJ {x : Int} (h0 : 0 ≤ x) (h1 : x < 18446744073709551616) : IntKind.u64.wrap x = x := by
  show x % 18446744073709551616 = x
  omega
theorem za8 {x : Int} (h0 : -9223372036854775808 ≤ x) (h1 : x < 9223372036854775808) : wrap64 x = x := by
  unfold wrap64
  omega
end Go.Proofs.Ytcedkmjdigpdiaa.Px

namespace Go.Proofs.Ytcedkmjdigpdiaa.Px
open Go.RowKit Go.Proofs.YtcedkmjdigpdiaaW.PrintWords Go.Proofs.YtcedkmjdigpdiaaW.PrintLast Go.Proofs.YtcedkmjdigpdiaaW.PrintMore
attribute [local go_sem] zz zB zG zH zr zs zA zC
set_option linter.unusedVariables false
set_option linter.unusedSimpArgs false
theorem zcZ (acc : Bs) (hl : acc.length ≤ 200) : Ev (fun k => zu.l0 k ((0 : Nat) : Int) (toB acc)) (toB (UInt8.ofNat acc.length :: acc)) := by
  refine Ev.step (fun k => by rw [zu.l0]) ?_
  refine zaz (by simp) ?_
  simp only [Option.bind_some, zau, List.map_cons, List.map_nil, zas, List.length_cons, List.length_nil]
  refine zaf (by omega) ?_
  have e : ((acc.length : Int) % 256).toNat = acc.length := by omega
  rw [e]
  exact zbG (Ev.now _) (by rw [← zak]; rfl)
theorem zd2 (n : Nat) : ∀ (v : Nat) (acc : Bs), v < 256 ^ n → n + acc.length ≤ 200 → v < 18446744073709551616 →
    Ev (fun k => zu.l0 k (v : Int) (toB acc)) (toB (UInt8.ofNat (be v ++ acc).length :: (be v ++ acc))) := by
  induction n with
  | zero =>
    intro v acc hv hl _
    obtain rfl : v = 0 := by simpa using hv
    rw [zbv, List.nil_append]
    exact zcZ acc (by omega)
  | succ n ih =>
    intro v acc hv hl hm
    rcases Nat.eq_zero_or_pos v with h | h
    · subst h
      rw [zbv, List.nil_append]
      exact zcZ acc (by omega)
    · refine Ev.step (fun k => by rw [zu.l0]) ?_
      refine zaf (by omega) ?_
      simp only [Option.bind_some, zau, List.map_cons, List.map_nil, zas, List.length_cons, List.length_nil]
      refine zaf (by omega) ?_
      have e1 : IntKind.u64.wrap (Int.tdiv (v : Int) 256) = ((v / 256 : Nat) : Int) := by
        rw [Int.tdiv_eq_ediv_of_nonneg (by omega), zaJ (by omega) (by omega)]; omega
      have e2 : (Int.tmod (v : Int) 256 % 256).toNat = v % 256 := by
        rw [Int.tmod_eq_emod_of_nonneg (by omega)]; omega
      rw [e1, e2]
      have := ih (v / 256) ([UInt8.ofNat (v % 256)] ++ acc) (by rw [Nat.pow_succ] at hv; omega) (by simp; omega) (by omega)
      rw [zch h, List.append_assoc]
      rw [zak [UInt8.ofNat (v % 256)] acc] at this
      exact this
theorem zcl (v : Nat) (hv : v < 18446744073709551616) : Ev (fun k => zu.f k (v : Int)) (za0 v) := by
  have e8 : (256 : Nat) ^ 8 = 18446744073709551616 := by decide
  have h := zd2 8 v [] (by omega) (by simp) hv
  rw [List.append_nil] at h
  exact h
end Go.Proofs.Ytcedkmjdigpdiaa.Px

namespace Go.Proofs.Ytcedkmjdigpdiaa.Px
open Go.RowKit Go.Proofs.YtcedkmjdigpdiaaW.PrintWords Go.Proofs.YtcedkmjdigpdiaaW.PrintLast Go.Proofs.YtcedkmjdigpdiaaW.PrintMore
attribute [local go_sem] zz zB zG zH zr zs zA zC
set_option linter.unusedVariables false
set_option linter.unusedSimpArgs false
def zad.f (a0 : ByteArray) : Option (ByteArray) := if a0.size ≤ 1152921504606846976 then (some (zb3 a0)) else (none)
theorem zad.calls (a0 : ByteArray) (r : ByteArray) (w : World) (h : zad.f a0 = some r) :
    Calls Try.prog 51 #[.string a0] w fun e w' => e = .returned (.string r) ∧ Below w.heap.size w w' := by
  unfold zad.f at h
  split at h
  · rename_i h0
    obtain rfl := Option.some.inj h
    clear h
    have hn : (za0 a0.size).size ≤ 9 := zaI (by omega)
    have hn2 : (za0 a0.size).size + a0.size ≤ 9223372036854775807 := by omega
    obtain ⟨k, hk⟩ := (zcl a0.size (by omega)).rounds
    have HN := za.mk hk
    clear hk
    go_enter Try.func51, Try.ntmps51
    go_wp2_with (go_at_call 23; (with_reducible refine (zu.calls _ _ _ _ HN.out).mono ?_); rintro e w1 ⟨rfl, hb⟩)
    go_ret
    exact ⟨rfl, by assumption⟩
  · cases h
end Go.Proofs.Ytcedkmjdigpdiaa.Px

namespace Go.Proofs.Ytcedkmjdigpdiaa.Px
open Go.RowKit Go.Proofs.YtcedkmjdigpdiaaW.PrintWords Go.Proofs.YtcedkmjdigpdiaaW.PrintLast Go.Proofs.YtcedkmjdigpdiaaW.PrintMore
attribute [local go_sem] zz zB zG zH zr zs zA zC
set_option linter.unusedVariables false
set_option linter.unusedSimpArgs false
theorem zbi (v : Nat) (hv : v < 18446744073709551616) : zU.f (v : Int) = some (za0 v) := by
  unfold zU.f
  rw [if_pos (by omega), if_pos (by omega), Int.toNat_natCast]
theorem zcR (t : ByteArray) (h : t.size ≤ 1152921504606846976) : zaG.f t = some (zb3 t) := by unfold zaG.f; rw [if_pos h]
theorem zbJ (t : ByteArray) (h : t.size ≤ 1152921504606846976) : zad.f t = some (zb3 t) := by unfold zad.f; rw [if_pos h]
theorem zf8 : be 2 = [2] := by
  rw [zch (by omega)]
  simp [zbv]
end Go.Proofs.Ytcedkmjdigpdiaa.Px

namespace Go.Proofs.Ytcedkmjdigpdiaa.Px
open Go.RowKit Go.Proofs.YtcedkmjdigpdiaaW.PrintWords Go.Proofs.YtcedkmjdigpdiaaW.PrintLast Go.Proofs.YtcedkmjdigpdiaaW.PrintMore
attribute [local go_sem] zz zB zG zH zr zs zA zC
set_option linter.unusedVariables false
set_option linter.unusedSimpArgs false
theorem ze1 : (Try.prog.info? 5).map (fun i => (i.zero, i.size, i.bytes)) = some (some (.int .u8 0), 1, 1) := by kernel_rfl
theorem zdi : (Try.prog.info? 69).map (·.size) = some 2 := by kernel_rfl
theorem zfp : liesAt Try.prog Try.prog.depth 69 (2 / Try.prog.cellsOf 69) 0 69 1 = true := by kernel_rfl
abbrev zbZ (B b : Nat) (l : Bs) (w : World) : Prop := Lib.IsBuilder 69 5 B b (Lib.byteCells l) w
theorem zbZ.below {B b : Nat} {l : Bs} {w w' : World} (h : zbZ B b l w) (hb : Below w.heap.size w w') : zbZ B b l w' := by
  have key : ∀ p, Lib.BuilderAt 69 5 B b p (Lib.byteCells l) w → Lib.BuilderAt 69 5 B b p (Lib.byteCells l) w' := by
    rintro p ⟨hB, v, hk, hown, hne⟩
    have hlt : b < w.heap.size := Lib.BuilderAt.lt ⟨hB, v, hk, hown, hne⟩
    exact ⟨hB, v, (hb.block b hlt).trans hk, zaP hown hb, hne⟩
  exact h.imp (key _) (key _)
set_option maxHeartbeats 1000000 in
set_option maxRecDepth 100000 in
theorem zcQ (b : Nat) (w : World) (h0 : w.cell? ⟨b, 0, none⟩ = some (.pointer (some ⟨b, 0, none⟩))) :
    Calls Try.prog 60 #[.pointer (some ⟨b, 0, none⟩)] w fun e w' => e = .returned (.tuple #[]) ∧ w = w' := by
  obtain ⟨j, hj, _⟩ := Option.map_eq_some_iff.1 zdi
  go_enter Try.func60, Try.ntmps60
  go_wp2
  rw [Lib.run_neq_ptr_same w _ Try.underlying67 hj]
  go_wp2
  go_end0
  exact ⟨rfl, rfl⟩
set_option maxHeartbeats 1000000 in
set_option maxRecDepth 100000 in
theorem zcG (b : Nat) (w : World) (h0 : w.cell? ⟨b, 0, none⟩ = some (.pointer none)) (hsh : w.shape? b = some (69, 2)) (hfz : w.frozen? ⟨b, 0, none⟩ = false) :
    Calls Try.prog 60 #[.pointer (some ⟨b, 0, none⟩)] w fun e w' => e = .returned (.tuple #[]) ∧ w.setCell ⟨b, 0, none⟩ (.pointer (some ⟨b, 0, none⟩)) = w' := by
  obtain ⟨j, hj, hjs⟩ := Option.map_eq_some_iff.1 zdi
  go_enter Try.func60, Try.ntmps60
  go_wp2
  rw [Lib.run_to_unsafe w ⟨b, 0, none⟩ Try.underlying67 Try.underlying88 hj (by rw [hjs]; decide) hsh (Nat.zero_lt_succ 1)]
  simp only [Result.andThen]
  rw [Oper.upon_value]
  go_wp2
  rw [run_callFunc_extern Try.func70 (by kernel_rfl) (by kernel_rfl) (by kernel_rfl) (e := Extern.AbiNoEscape.same) (by kernel_rfl)]
  rw [Lib.run_noEscape]
  simp only [Result.andThen]
  rw [Oper.upon_value]
  go_wp2
  rw [Lib.run_from_unsafe w ⟨b, 0, none⟩ Try.underlying88 Try.underlying67 hj hsh zfp]
  simp only [Result.andThen]
  rw [Oper.upon_value]
  go_wp2
  go_end0
  exact ⟨rfl, rfl⟩
theorem zc9 (B b : Nat) (bs : List Value) (w : World) (h : Lib.IsBuilder 69 5 B b bs w) :
    Calls Try.prog 60 #[.pointer (some ⟨b, 0, none⟩)] w fun e w' => e = .returned (.tuple #[]) ∧ (Lib.BuilderAt 69 5 B b (.pointer (some ⟨b, 0, none⟩)) bs w' ∧ Below B w w') := by
  rcases h with h | h
  · refine (zcG b w h.cell0 h.shape h.frozen0).mono ?_
    rintro e w' ⟨rfl, rfl⟩
    exact ⟨rfl, h.used _, (Below.refl B w).setCell (p := ⟨b, 0, none⟩) h.1 _⟩
  · refine (zcQ b w h.cell0).mono ?_
    rintro e w' ⟨rfl, rfl⟩
    exact ⟨rfl, h, Below.refl B _⟩
set_option maxHeartbeats 2000000 in
set_option maxRecDepth 100000 in
theorem zbI (B b : Nat) (l : Bs) (s : ByteArray) (w : World) (h : zbZ B b l w) (hlen : l.length + s.size ≤ 140737488355328) (hBw : B ≤ w.heap.size) :
    Calls Try.prog 48 #[.pointer (some ⟨b, 0, none⟩), .string s] w fun e w' => e = .returned (.tuple #[.int .i64 s.size, .nilIface]) ∧ zbZ B b (l ++ ofB s) w' ∧ Below B w w' := by
  obtain ⟨i0, hi, hz0, hz1, hz2⟩ := info_parts ze1
  have hlc : (Lib.byteCells l).length = l.length := Lib.byteCells_length l
  go_enter Try.func48, Try.ntmps48
  go_wp2_with (go_at_call 60; refine (zc9 B b _ _ h).mono ?_)
  rintro e w1 ⟨rfl, h1, hb1⟩
  obtain ⟨hB, v, hbk, hown, hne⟩ := h1
  have c0 : w1.cell? ⟨b, 0, none⟩ = some (.pointer (some ⟨b, 0, none⟩)) := by rw [Lib.cell_of_heap hbk]; rfl
  have c1 : w1.cell? ⟨b, 1, none⟩ = some v := by rw [Lib.cell_of_heap hbk]; rfl
  go_wp2_with (at_builtin; refine Lib.wpList_append_own_string _ rfl _ _ 54 9 rfl B 5 i0 Try.underlying54 Try.underlying9 hi hz0 hz1 hz2 _ _ _ rfl hown s rfl ?c3 ?c4 ?c5 ?_)
  case c3 => unfold maxLen; omega
  case c4 => omega
  case c5 => have := hb1.size; omega
  intro v' w2 hown' hgrow _
  have hlt : b < w1.heap.size := by
    rcases Nat.lt_or_ge b w1.heap.size with h' | h'
    · exact h'
    · simp [Array.getElem?_eq_none h'] at hbk
  have hb2 : w2.heap[b]? = some (.cells #[.pointer (some ⟨b, 0, none⟩), v] 69 (0, 0)) := by
    rw [hgrow.block b hlt (fun e => hne e.symm)]
    exact hbk
  have d0 : w2.cell? ⟨b, 0, none⟩ = some (.pointer (some ⟨b, 0, none⟩)) := by rw [Lib.cell_of_heap hb2]; rfl
  have d1 : w2.cell? ⟨b, 1, none⟩ = some v := by rw [Lib.cell_of_heap hb2]; rfl
  have f1 : w2.frozen? ⟨b, 1, none⟩ = false := Lib.frozen_of_heap hb2 1
  obtain ⟨ao, n', cap, rfl⟩ : ∃ ao n' cap, v' = .slice ao n' cap := by
    rcases hown'.2 with ⟨hv, _⟩ | ⟨g, cap, cur, hv, _⟩
    · exact ⟨_, _, _, hv⟩
    · exact ⟨_, _, _, hv⟩
  go_wp2
  go_ret2
  refine ⟨rfl, .inr ?_, ?_⟩
  · have e1 : Lib.byteCells l ++ Lib.strCells s = Lib.byteCells (l ++ ofB s) := by rw [Lib.strCells_eq]; simp [Lib.byteCells, ofB]
    rw [e1] at hown'
    refine Lib.BuilderAt.put (T := 69) (e := 5) hB hb2 (bs' := Lib.byteCells (l ++ ofB s)) ?_ (by decide)
    rw [Lib.byteCells_length, List.length_append, zV]
    exact hown'
  · exact (hb1.grown hgrow (by have := hb1.size; omega) (fun k hk => (hown.lt k hk).1)).setCell (p := ⟨b, 1, none⟩) hB _
set_option maxHeartbeats 1000000 in
set_option maxRecDepth 100000 in
theorem zc8 (B b : Nat) (l : Bs) (w : World) (h : zbZ B b l w) (h0 : l ≠ []) :
    Calls Try.prog 50 #[.pointer (some ⟨b, 0, none⟩)] w fun e w' => e = .returned (.string (toB l)) ∧ Below B w w' := by
  obtain ⟨p, hB, v, hbk, hown, hne⟩ : ∃ p, Lib.BuilderAt 69 5 B b p (Lib.byteCells l) w := by
    rcases h with h | h
    · exact ⟨_, h⟩
    · exact ⟨_, h⟩
  have hl0 : l.length ≠ 0 := by simpa using h0
  rw [Lib.byteCells_length] at hown
  obtain ⟨g, cap, cur, rfl, hbg, hg, hnc, hcm, hcs, htake⟩ : ∃ g cap cur, v = .slice (some ⟨g, 0, none⟩) l.length cap ∧ B ≤ g ∧ w.heap[g]? = some (.cells cur 5 (0, 0)) ∧ l.length ≤ cap ∧ cap ≤ maxLen ∧ cur.size = cap * 1 ∧ cur.toList.take (l.length * 1) = Lib.byteCells l := by
    rcases hown.2 with ⟨_, hz⟩ | ⟨g, cap, cur, hv, r⟩
    · exact absurd hz hl0
    · exact ⟨g, cap, cur, hv, r⟩
  have c1 : w.drew.cell? ⟨b, 1, none⟩ = some (.slice (some ⟨g, 0, none⟩) l.length cap) := by
    have : w.drew.heap[b]? = some (.cells #[p, .slice (some ⟨g, 0, none⟩) l.length cap] 69 (0, 0)) := hbk
    rw [Lib.cell_of_heap this]; rfl
  have hSD : (Builtin.unsafeSliceData_ #[54] 82 #[.slice (some ⟨g, 0, none⟩) l.length cap]).run Try.prog w.drew = .ok (.pointer (some ⟨g, 0, none⟩)) w.drew :=
    Lib.run_unsafeSliceData_row _ _ _ _ _ _ (by omega)
  have hUS : (Builtin.unsafeString_ #[82, 3] 9 #[.pointer (some ⟨g, 0, none⟩), .int .i64 l.length]).run Try.prog w.drew = .ok (.string ⟨l.toArray⟩) (w.drew.freeze ⟨g, 0, none⟩ l.length) := by
    refine Lib.run_unsafeString_row w.drew 82 3 9 5 Try.underlying82 (by kernel_rfl) g cur.size (by have hg' : w.drew.heap[g]? = some (.cells cur 5 (0, 0)) := hg; simp [World.shape?, hg']) l h0 (by omega) (by unfold maxLen at hcm; omega) ?_
    intro j x hx
    have := hown.cells (g := g) rfl j (.int .u8 x.toNat) (by simp [Lib.byteCells, hx])
    exact this
  go_enter Try.func50, Try.ntmps50
  go_wp2
  go_region
  all_goals (go_wp2; go_ret; exact ⟨rfl, Lib.below_freeze (Below.drew (Below.refl B w)) (p := ⟨g, 0, none⟩) hbg _⟩)
end Go.Proofs.Ytcedkmjdigpdiaa.Px

namespace Go.Proofs.Ytcedkmjdigpdiaa.Px
open Go.RowKit Go.Proofs.YtcedkmjdigpdiaaW.PrintWords Go.Proofs.YtcedkmjdigpdiaaW.PrintLast Go.Proofs.YtcedkmjdigpdiaaW.PrintMore
attribute [local go_sem] zz zB zG zH zr zs zA zC
set_option linter.unusedVariables false
set_option linter.unusedSimpArgs false
def zaj (l : List ByteArray) : Bs := l.flatMap (fun t => zcC (ofB t))
def zbc (l : List ByteArray) : Bs := za6 l.length ++ zaj l
theorem zb9 (l : List ByteArray) (k : Nat) (t : ByteArray) (h : l[k]? = some t) : zaj (l.take (k + 1)) = zaj (l.take k) ++ ofB (zb3 t) := by
  have hk := (List.getElem?_eq_some_iff.1 h)
  obtain ⟨hk, rfl⟩ := hk
  rw [List.take_succ_eq_append_getElem hk, zaj, zaj, List.flatMap_append, zfj, zbf]
  simp
theorem zbk (l : List ByteArray) (k : Nat) : (zaj (l.take k)).length ≤ (zaj l).length := by
  have : zaj l = zaj (l.take k) ++ zaj (l.drop k) := by rw [zaj, zaj, zaj, ← List.flatMap_append, List.take_append_drop]
  rw [this, List.length_append]; omega
theorem zd3 (l : List ByteArray) : l.length ≤ (zaj l).length := by
  induction l with
  | nil => simp
  | cons t l ih =>
    have : zaj (t :: l) = zcC (ofB t) ++ zaj l := rfl
    rw [this, List.length_append, List.length_cons, zcC, za6]
    simp only [List.length_cons, List.length_append]
    omega
theorem zcc (l : List ByteArray) (k : Nat) (t : ByteArray) (h : l[k]? = some t) : t.size ≤ (zaj l).length := by
  have h1 := zb9 l k t h
  have h2 := zbk l (k + 1)
  rw [h1, List.length_append, zV, zb3, ByteArray.size_append] at h2
  omega
end Go.Proofs.Ytcedkmjdigpdiaa.Px
