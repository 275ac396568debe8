/- Part 5 of 28 of the proof of the law CertFewer: what is proved is the statement at the end of the last part; its conditions are those of the given row. -/
import Derived.Test.YtlabjgcoopdbiaaZCertFewerD
namespace Go.Proofs.Ytlabjgcoopdbiaa.Px
open Go.RowKit Go.Proofs.YtlabjgcoopdbiaaW.PrintWords Go.Proofs.YtlabjgcoopdbiaaW.PrintLast Go.Proofs.YtlabjgcoopdbiaaW.PrintMore
attribute [local go_sem] zB zD zL zM zx zy zC zE
set_option linter.unusedVariables false
set_option linter.unusedSimpArgs false
def zat.f (a0 : Int) : Option (Bool) := if a0 ≥ 4 then (if a0 ≤ 64 then (some ((Int.tmod a0 3) == 1)) else (some false)) else (some false)
set_option maxHeartbeats 8000000 in
set_option maxRecDepth 100000 in
theorem zat.calls (a0 : Int) (r : Bool) (w : World) (h : zat.f a0 = some r) :
    Calls Try.prog 60 #[.int .i64 a0] w fun e w' => e = .returned (.bool r) ∧ zF w w' := by
  have H : (if a0 ≥ 4 then (if a0 ≤ 64 then (some ((Int.tmod a0 3) == 1)) else (some false)) else (some false)) = some r := h
  clear h
  by_cases c2 : a0 ≥ 4
  · rw [if_pos c2] at H
    have c2b0 : decide (4 ≤ a0) = true := decide_eq_true c2
    clear c2
    by_cases c3 : a0 ≤ 64
    · rw [if_pos c3] at H
      have c3b0 : decide (a0 ≤ 64) = true := decide_eq_true c3
      clear c3
      obtain rfl := Option.some.inj H
      go_enter Try.func60, Try.ntmps60
      go_wp2
      go_ret
      exact ⟨by first | rfl | (simp; done) | (simp [*]; done), by repeat (first | exact zF.refl _ | apply zF.step)⟩
    · rw [if_neg c3] at H
      have c3b0 : decide (a0 ≤ 64) = false := decide_eq_false c3
      clear c3
      obtain rfl := Option.some.inj H
      go_enter Try.func60, Try.ntmps60
      go_wp2
      go_ret
      exact ⟨by first | rfl | (simp; done) | (simp [*]; done), by repeat (first | exact zF.refl _ | apply zF.step)⟩
  · rw [if_neg c2] at H
    have c2b0 : decide (4 ≤ a0) = false := decide_eq_false c2
    clear c2
    obtain rfl := Option.some.inj H
    go_enter Try.func60, Try.ntmps60
    go_wp2
    go_ret
    exact ⟨by first | rfl | (simp; done) | (simp [*]; done), by repeat (first | exact zF.refl _ | apply zF.step)⟩
end Go.Proofs.Ytlabjgcoopdbiaa.Px

namespace Go.Proofs.Ytlabjgcoopdbiaa.Px
open Go.RowKit Go.Proofs.YtlabjgcoopdbiaaW.PrintWords Go.Proofs.YtlabjgcoopdbiaaW.PrintLast Go.Proofs.YtlabjgcoopdbiaaW.PrintMore
attribute [local go_sem] zB zD zL zM zx zy zC zE
set_option linter.unusedVariables false
set_option linter.unusedSimpArgs false
def za7.f (a0 : Int) : Option (Int) := (zat.f a0).bind fun t101 => (if t101 = true then (some (wrap64 (Int.tdiv (wrap64 (a0 - 1)) 3))) else (some 0))
set_option maxHeartbeats 8000000 in
set_option maxRecDepth 100000 in
theorem za7.calls (a0 : Int) (r : Int) (w : World) (h : za7.f a0 = some r) :
    Calls Try.prog 66 #[.int .i64 a0] w fun e w' => e = .returned (.int .i64 r) ∧ zF w w' := by
  have H : ((zat.f a0).bind fun t101 => (if t101 = true then (some (wrap64 (Int.tdiv (wrap64 (a0 - 1)) 3))) else (some 0))) = some r := h
  clear h
  replace H := Option.bind_eq_some_iff.mp H
  obtain ⟨t101, A20, H⟩ := H
  replace H : (if t101 = true then (some (wrap64 (Int.tdiv (wrap64 (a0 - 1)) 3))) else (some 0)) = some r := H
  have A2 := zc.mk A20
  clear A20
  by_cases c3 : t101 = true
  · subst c3
    have H1 : (some (wrap64 (Int.tdiv (wrap64 (a0 - 1)) 3))) = some r := by rw [if_pos rfl] at H; exact H
    clear H
    have H := H1
    clear H1
    obtain rfl := Option.some.inj H
    go_enter Try.func66, Try.ntmps66
    go_wp2_with (first | ((with_reducible refine zq (f := 60) rfl ?_); refine zQ (some 4) rfl rfl Try.func60 (by kernel_rfl) rfl #[.int .i64 a0] rfl (by (try simp only [List.map_toArray, List.map_cons, List.map_nil]); first | done | rfl | (simp only [List.length_drop, List.length_take]; rfl)) ?_; (with_reducible refine (zat.calls a0 true _ A2.out).mono ?_); rintro e w' ⟨rfl, ⟨nd, rfl⟩⟩; refine ⟨_, rfl, ?_⟩))
    go_ret
    exact ⟨by first | rfl | (simp; done) | (simp [*]; done), by repeat (first | exact zF.refl _ | apply zF.step)⟩
  · replace c3 := Bool.eq_false_iff.mpr c3
    subst c3
    have H1 : (some 0) = some r := by rw [if_neg (show ¬ (false = true) by decide)] at H; exact H
    clear H
    have H := H1
    clear H1
    obtain rfl := Option.some.inj H
    go_enter Try.func66, Try.ntmps66
    go_wp2_with (first | ((with_reducible refine zq (f := 60) rfl ?_); refine zQ (some 4) rfl rfl Try.func60 (by kernel_rfl) rfl #[.int .i64 a0] rfl (by (try simp only [List.map_toArray, List.map_cons, List.map_nil]); first | done | rfl | (simp only [List.length_drop, List.length_take]; rfl)) ?_; (with_reducible refine (zat.calls a0 false _ A2.out).mono ?_); rintro e w' ⟨rfl, ⟨nd, rfl⟩⟩; refine ⟨_, rfl, ?_⟩))
    go_ret
    exact ⟨by first | rfl | (simp; done) | (simp [*]; done), by repeat (first | exact zF.refl _ | apply zF.step)⟩
end Go.Proofs.Ytlabjgcoopdbiaa.Px

namespace Go.Proofs.Ytlabjgcoopdbiaa.Px
open Go.RowKit Go.Proofs.YtlabjgcoopdbiaaW.PrintWords Go.Proofs.YtlabjgcoopdbiaaW.PrintLast Go.Proofs.YtlabjgcoopdbiaaW.PrintMore
attribute [local go_sem] zB zD zL zM zx zy zC zE
set_option linter.unusedVariables false
set_option linter.unusedSimpArgs false
def zav.f (a0 : Int) : Option (Int) := (zat.f a0).bind fun t102 => (if t102 = true then ((za7.f a0).bind fun t103 => (some (wrap64 (a0 - t103)))) else (some 0))
set_option maxHeartbeats 8000000 in
set_option maxRecDepth 100000 in
theorem zav.calls (a0 : Int) (r : Int) (w : World) (h : zav.f a0 = some r) :
    Calls Try.prog 41 #[.int .i64 a0] w fun e w' => e = .returned (.int .i64 r) ∧ zF w w' := by
  have H : ((zat.f a0).bind fun t102 => (if t102 = true then ((za7.f a0).bind fun t103 => (some (wrap64 (a0 - t103)))) else (some 0))) = some r := h
  clear h
  replace H := Option.bind_eq_some_iff.mp H
  obtain ⟨t102, A20, H⟩ := H
  replace H : (if t102 = true then ((za7.f a0).bind fun t103 => (some (wrap64 (a0 - t103)))) else (some 0)) = some r := H
  have A2 := zc.mk A20
  clear A20
  by_cases c3 : t102 = true
  · subst c3
    have H1 : ((za7.f a0).bind fun t103 => (some (wrap64 (a0 - t103)))) = some r := by rw [if_pos rfl] at H; exact H
    clear H
    have H := H1
    clear H1
    replace H := Option.bind_eq_some_iff.mp H
    obtain ⟨t103, A40, H⟩ := H
    replace H : (some (wrap64 (a0 - t103))) = some r := H
    have A4 := zc.mk A40
    clear A40
    obtain rfl := Option.some.inj H
    go_enter Try.func41, Try.ntmps41
    go_wp2_with (first | ((with_reducible refine zq (f := 60) rfl ?_); refine zQ (some 4) rfl rfl Try.func60 (by kernel_rfl) rfl #[.int .i64 a0] rfl (by (try simp only [List.map_toArray, List.map_cons, List.map_nil]); first | done | rfl | (simp only [List.length_drop, List.length_take]; rfl)) ?_; (with_reducible refine (zat.calls a0 true _ A2.out).mono ?_); rintro e w' ⟨rfl, ⟨nd, rfl⟩⟩; refine ⟨_, rfl, ?_⟩) | ((with_reducible refine zq (f := 66) rfl ?_); refine zQ (some 8) rfl rfl Try.func66 (by kernel_rfl) rfl #[.int .i64 a0] rfl (by (try simp only [List.map_toArray, List.map_cons, List.map_nil]); first | done | rfl | (simp only [List.length_drop, List.length_take]; rfl)) ?_; (with_reducible refine (za7.calls a0 t103 _ A4.out).mono ?_); rintro e w' ⟨rfl, ⟨nd, rfl⟩⟩; refine ⟨_, rfl, ?_⟩))
    go_ret
    exact ⟨by first | rfl | (simp; done) | (simp [*]; done), by repeat (first | exact zF.refl _ | apply zF.step)⟩
  · replace c3 := Bool.eq_false_iff.mpr c3
    subst c3
    have H1 : (some 0) = some r := by rw [if_neg (show ¬ (false = true) by decide)] at H; exact H
    clear H
    have H := H1
    clear H1
    obtain rfl := Option.some.inj H
    go_enter Try.func41, Try.ntmps41
    go_wp2_with (first | ((with_reducible refine zq (f := 60) rfl ?_); refine zQ (some 4) rfl rfl Try.func60 (by kernel_rfl) rfl #[.int .i64 a0] rfl (by (try simp only [List.map_toArray, List.map_cons, List.map_nil]); first | done | rfl | (simp only [List.length_drop, List.length_take]; rfl)) ?_; (with_reducible refine (zat.calls a0 false _ A2.out).mono ?_); rintro e w' ⟨rfl, ⟨nd, rfl⟩⟩; refine ⟨_, rfl, ?_⟩))
    go_ret
    exact ⟨by first | rfl | (simp; done) | (simp [*]; done), by repeat (first | exact zF.refl _ | apply zF.step)⟩
end Go.Proofs.Ytlabjgcoopdbiaa.Px

namespace Go.Proofs.Ytlabjgcoopdbiaa.Px
open Go.RowKit Go.Proofs.YtlabjgcoopdbiaaW.PrintWords Go.Proofs.YtlabjgcoopdbiaaW.PrintLast Go.Proofs.YtlabjgcoopdbiaaW.PrintMore
attribute [local go_sem] zB zD zL zM zx zy zC zE
set_option linter.unusedVariables false
set_option linter.unusedSimpArgs false
def zaK.f (a0 : Int) (a1 : Int) : Option (Bool) := if a1 < 0 then (some false) else (if a1 > 64 then (some false) else (if (shr .u64 (a0 / 2) (mx (wrap64 (a1 - 1)) 0)) = 0 then (if a1 > 0 then (some true) else (some (a0 == 0))) else (some false)))
set_option maxHeartbeats 8000000 in
set_option maxRecDepth 100000 in
theorem zaK.calls (a0 : Int) (a1 : Int) (r : Bool) (w : World) (h : zaK.f a0 a1 = some r) :
    Calls Try.prog 39 #[.int .u64 a0, .int .i64 a1] w fun e w' => e = .returned (.bool r) ∧ Below w.heap.size w w' := by
  have HB := zc.mk (Below.refl w.heap.size w)
  have H : (if a1 < 0 then (some false) else (if a1 > 64 then (some false) else (if (shr .u64 (a0 / 2) (mx (wrap64 (a1 - 1)) 0)) = 0 then (if a1 > 0 then (some true) else (some (a0 == 0))) else (some false)))) = some r := h
  clear h
  by_cases c3 : a1 < 0
  · rw [if_pos c3] at H
    have c3b0 : decide (a1 < 0) = true := decide_eq_true c3
    clear c3
    obtain rfl := Option.some.inj H
    go_enter Try.func39, Try.ntmps39
    go_wp2
    go_ret
    exact ⟨by first | rfl | (simp [zo, zp] <;> rfl) | (simp [*, zo, zp] <;> rfl), by repeat (first | (with_reducible first | exact HB.out | apply zf | apply zd | apply ze) | exact HB.out)⟩
  · rw [if_neg c3] at H
    have c3b0 : decide (a1 < 0) = false := decide_eq_false c3
    clear c3
    by_cases c4 : a1 > 64
    · rw [if_pos c4] at H
      have c4b0 : decide (64 < a1) = true := decide_eq_true c4
      clear c4
      obtain rfl := Option.some.inj H
      go_enter Try.func39, Try.ntmps39
      go_wp2
      go_ret
      exact ⟨by first | rfl | (simp [zo, zp] <;> rfl) | (simp [*, zo, zp] <;> rfl), by repeat (first | (with_reducible first | exact HB.out | apply zf | apply zd | apply ze) | exact HB.out)⟩
    · rw [if_neg c4] at H
      have c4b0 : decide (64 < a1) = false := decide_eq_false c4
      clear c4
      obtain ⟨ji5, hji5⟩ : ∃ j_ : Int, (mx (wrap64 (a1 - 1)) 0) = j_ := ⟨_, rfl⟩
      replace H : (if (shr .u64 (a0 / 2) (ji5)) = 0 then (if a1 > 0 then (some true) else (some (a0 == 0))) else (some false)) = some r := by first | (rw [hji5] at H; exact H) | (simp only [hji5] at H ⊢; exact H)
      (try (have hji5l : 0 ≤ ji5 := by (rw [← hji5]; unfold mx; (repeat' split) <;> omega)))
      (try (have hji5m : 0 ≤ ji5 := by omega))
      have hji5_ : (if (wrap64 (a1 - 1)) < 0 then 0 else (wrap64 (a1 - 1))) = ji5 := hji5
      obtain ⟨ji6, hji6⟩ : ∃ j_ : Int, (shr .u64 (a0 / 2) (ji5)) = j_ := ⟨_, rfl⟩
      replace H : (if (ji6) = 0 then (if a1 > 0 then (some true) else (some (a0 == 0))) else (some false)) = some r := by first | (rw [hji6] at H; exact H) | (simp only [hji6] at H ⊢; exact H)
      have hji6_ : ((a0 / 2) / 2 ^ min (ji5).toNat 64) = ji6 := hji6
      have hji6z : (ji5) ≤ 64 → ((a0 / 2) / 2 ^ (ji5).toNat) = ji6 := zfk hji6
      by_cases c7 : (ji6) = 0
      · rw [if_pos c7] at H
        have c7b0 : ((ji6) == 0) = true := beq_iff_eq.mpr c7
        have c7b1 : ((ji6) != 0) = false := bne_eq_false_iff_eq.mpr c7
        clear c7
        by_cases c8 : a1 > 0
        · rw [if_pos c8] at H
          have c8b0 : decide (0 < a1) = true := decide_eq_true c8
          clear c8
          obtain rfl := Option.some.inj H
          go_enter Try.func39, Try.ntmps39
          go_wp2
          go_ret
          exact ⟨by first | rfl | (simp [zo, zp] <;> rfl) | (simp only [← hji5, ← hji6]; first | rfl | (simp [zo, zp] <;> rfl)) | (simp [*, zo, zp] <;> rfl), by repeat (first | (with_reducible first | exact HB.out | apply zf | apply zd | apply ze) | exact HB.out)⟩
        · rw [if_neg c8] at H
          have c8b0 : decide (0 < a1) = false := decide_eq_false c8
          clear c8
          obtain rfl := Option.some.inj H
          go_enter Try.func39, Try.ntmps39
          go_wp2
          go_ret
          exact ⟨by first | rfl | (simp [zo, zp] <;> rfl) | (simp only [← hji5, ← hji6]; first | rfl | (simp [zo, zp] <;> rfl)) | (simp [*, zo, zp] <;> rfl), by repeat (first | (with_reducible first | exact HB.out | apply zf | apply zd | apply ze) | exact HB.out)⟩
      · rw [if_neg c7] at H
        have c7b0 : ((ji6) == 0) = false := beq_eq_false_iff_ne.mpr c7
        have c7b1 : ((ji6) != 0) = true := bne_iff_ne.mpr c7
        obtain rfl := Option.some.inj H
        go_enter Try.func39, Try.ntmps39
        go_wp2
        go_ret
        exact ⟨by first | rfl | (simp [zo, zp] <;> rfl) | (simp only [← hji5, ← hji6]; first | rfl | (simp [zo, zp] <;> rfl)) | (simp [*, zo, zp] <;> rfl), by repeat (first | (with_reducible first | exact HB.out | apply zf | apply zd | apply ze) | exact HB.out)⟩
end Go.Proofs.Ytlabjgcoopdbiaa.Px

namespace Go.Proofs.Ytlabjgcoopdbiaa.Px
open Go.RowKit Go.Proofs.YtlabjgcoopdbiaaW.PrintWords Go.Proofs.YtlabjgcoopdbiaaW.PrintLast Go.Proofs.YtlabjgcoopdbiaaW.PrintMore
attribute [local go_sem] zB zD zL zM zx zy zC zE
set_option linter.unusedVariables false
set_option linter.unusedSimpArgs false
abbrev Bs := List UInt8
def toB (l : Bs) : ByteArray := ⟨l.toArray⟩
def ofB (s : ByteArray) : Bs := s.data.toList
theorem zci (l : Bs) : ofB (toB l) = l := by simp [ofB, toB]
theorem zda (s : ByteArray) : toB (ofB s) = s := by simp [ofB, toB]
theorem zgO {a b : ByteArray} (h : ofB a = ofB b) : a = b := by rw [← zda a, ← zda b, h]
theorem zal (s : ByteArray) : (ofB s).length = s.size := by rw [ofB, Array.length_toList]; rfl
theorem zar (l : Bs) : (toB l).size = l.length := by rw [← zal, zci]
theorem zgl (a b : ByteArray) : ofB (a ++ b) = ofB a ++ ofB b := by simp [ofB]
theorem zaQ (a b : Bs) : toB (a ++ b) = toB a ++ toB b := zgO (by rw [zgl, zci, zci, zci])
theorem zbT (s : ByteArray) : s.toList = ofB s := ByteArray.toList_eq s
theorem ziy (s : ByteArray) (i : Nat) : bt s (i : Int) = (((ofB s).getD i 0).toNat : Int) := by
  unfold bt ofB
  split
  · rename_i h
    have h' : i < s.data.toList.length := by rw [zd1]; simpa using h
    simp [List.getD_eq_getElem?_getD, List.getElem?_eq_getElem h']
    rfl
  · rename_i h
    have h' : s.data.toList.length ≤ i := by rw [zd1]; simp at h; omega
    simp [List.getD_eq_getElem?_getD, List.getElem?_eq_none h']
theorem zbf (xs : List Int) : strOfNums xs = toB (xs.map fun n => UInt8.ofNat n.toNat) := rfl
def be (v : Nat) : Bs := if v = 0 then [] else be (v / 256) ++ [UInt8.ofNat (v % 256)]
termination_by v
decreasing_by omega
theorem zdy : be 0 = [] := by rw [be]; simp
theorem zfq {v : Nat} (h : 0 < v) : be v = be (v / 256) ++ [UInt8.ofNat (v % 256)] := by rw [be, if_neg (by omega)]
def val (l : Bs) : Nat := l.foldl (fun a c => a * 256 + c.toNat) 0
theorem zgU (n : Nat) : ∀ v : Nat, (be v).length ≤ n ↔ v < 256 ^ n := by
  induction n with
  | zero =>
    intro v
    rcases Nat.eq_zero_or_pos v with h | h
    · subst h; simp [zdy]
    · rw [zfq h]; simp; omega
  | succ n ih =>
    intro v
    rcases Nat.eq_zero_or_pos v with h | h
    · subst h; simp [zdy, Nat.pow_pos]
    · rw [zfq h, List.length_append, List.length_singleton, Nat.succ_le_succ_iff, ih, Nat.pow_succ, Nat.mul_comm, Nat.div_lt_iff_lt_mul (by omega), Nat.mul_comm]
theorem zhY {v : Nat} (h : v < 18446744073709551616) : (be v).length ≤ 8 := by
  have : (256 : Nat) ^ 8 = 18446744073709551616 := by decide
  exact (zgU 8 v).2 (by rw [this]; exact h)
def zcm (v : Nat) : Bs := UInt8.ofNat (be v).length :: be v
def za1 (v : Nat) : ByteArray := toB (zcm v)
def zeS (t : Bs) : Bs := zcm t.length ++ t
def zdl (t : ByteArray) : ByteArray := za1 t.size ++ t
theorem zhP (t : ByteArray) : zdl t = toB (zeS (ofB t)) := by rw [zeS, zaQ, zda, zal]; rfl
theorem zaH {v : Nat} (h : v < 18446744073709551616) : (zcm v).length ≤ 9 := by
  have := zhY h
  simp only [zcm, List.length_cons]; omega
theorem zaL {v : Nat} (h : v < 18446744073709551616) : (za1 v).size ≤ 9 := by rw [za1, zar]; exact zaH h
theorem zeC (v : Nat) (L : List Int) (h : L.map (fun n => UInt8.ofNat n.toNat) = be v) : strOfNums ((L.length : Int) :: L) = za1 v := by
  rw [zbf, List.map_cons, h, za1, zcm]
  have : L.length = (be v).length := by rw [← h, List.length_map]
  rw [this, Int.toNat_natCast]
end Go.Proofs.Ytlabjgcoopdbiaa.Px

namespace Go.Proofs.Ytlabjgcoopdbiaa.Px
open Go.RowKit Go.Proofs.YtlabjgcoopdbiaaW.PrintWords Go.Proofs.YtlabjgcoopdbiaaW.PrintLast Go.Proofs.YtlabjgcoopdbiaaW.PrintMore
attribute [local go_sem] zB zD zL zM zx zy zC zE
set_option linter.unusedVariables false
set_option linter.unusedSimpArgs false
def zfV {α : Type} (p : α → Bool) (l : List α) : Int := match l.findIdx? p with | some i => (i : Int) | none => -1
theorem zfX {α : Type} {p : α → Bool} {l : List α} {k : Nat} {x : α} (hx : l[k]? = some x) (hp : p x = true) (hn : ∀ (j : Nat) (y : α), j < k → l[j]? = some y → p y = false) : zfV p l = k := by
  have hk := (List.getElem?_eq_some_iff.1 hx).1
  have h : l.findIdx? p = some k := by
    rw [List.findIdx?_eq_some_iff_getElem]
    refine ⟨hk, ?_, fun j hj => ?_⟩
    · rw [(List.getElem?_eq_some_iff.1 hx).2]; exact hp
    · have := hn j l[j] hj (List.getElem?_eq_getElem _)
      simp [this]
  rw [zfV, h]
theorem zfb {α : Type} {p : α → Bool} {l : List α} (hn : ∀ (j : Nat) (y : α), l[j]? = some y → p y = false) : zfV p l = -1 := by
  have h : l.findIdx? p = none := by
    rw [List.findIdx?_eq_none_iff]
    intro x hx
    obtain ⟨j, hj⟩ := List.mem_iff_getElem?.1 hx
    exact hn j x hj
  rw [zfV, h]
theorem zfW {α : Type} (p : α → Bool) (l : List α) : decide (0 ≤ zfV p l) = l.any p := by
  rw [zfV]
  rcases h : l.findIdx? p with _ | i
  · rw [List.findIdx?_eq_none_iff] at h
    simp
    intro x hx
    simpa using h x hx
  · rw [List.findIdx?_eq_some_iff_getElem] at h
    obtain ⟨hi, hp, _⟩ := h
    simp
    exact ⟨_, List.getElem_mem hi, hp⟩
theorem zh6 {a b : Bool} (h : a = b) : Ending.returned (.bool a) = .returned (.bool b) := by rw [h]
end Go.Proofs.Ytlabjgcoopdbiaa.Px

namespace Go.Proofs.Ytlabjgcoopdbiaa.Px
open Go.RowKit Go.Proofs.YtlabjgcoopdbiaaW.PrintWords Go.Proofs.YtlabjgcoopdbiaaW.PrintLast Go.Proofs.YtlabjgcoopdbiaaW.PrintMore
attribute [local go_sem] zB zD zL zM zx zy zC zE
set_option linter.unusedVariables false
set_option linter.unusedSimpArgs false
def zbO (s : ByteArray) : Bool := decide (s.size = 0) || decide (48 < s.size)
theorem zaE.odd (s : ByteArray) (w : World) : Calls Try.prog 86 #[.string s] w fun e w' => e = .returned (.bool (zbO s)) ∧ w = w' := by
  by_cases h : s.toList = []
  · have hb : (s.toList == []) = true := beq_iff_eq.mpr h
    have h0 : s.size = 0 := by rw [← zal, ← zbT, h]; rfl
    have HO : zc (zbO s = true) := ⟨by simp [zbO, h0]⟩
    clear h h0
    go_enter Try.func86, Try.ntmps86
    go_wp2
    go_ret
    rw [HO.out]
    exact ⟨rfl, rfl⟩
  · have hb : (s.toList == []) = false := beq_eq_false_iff_ne.mpr h
    have h0 : s.size ≠ 0 := fun hz => h (List.eq_nil_of_length_eq_zero (by rw [zbT, zal, hz]))
    have HO : zc (zbO s = decide (48 < (s.size : Int))) := ⟨by simp [zbO, h0]; omega⟩
    clear h h0
    by_cases h1 : 48 < (s.size : Int)
    · have h1b : decide (48 < (s.size : Int)) = true := decide_eq_true h1
      rw [h1b] at HO
      clear h1
      go_enter Try.func86, Try.ntmps86
      go_wp2
      go_ret
      rw [HO.out]
      exact ⟨rfl, rfl⟩
    · have h1b : decide (48 < (s.size : Int)) = false := decide_eq_false h1
      rw [h1b] at HO
      clear h1
      go_enter Try.func86, Try.ntmps86
      go_wp2
      go_ret
      rw [HO.out]
      exact ⟨rfl, rfl⟩
theorem zaE.idx (A : Option Addr) (c : Nat) (l : List ByteArray) (w : World) (hr : Kd.C Kd.string w A l.length l) (hc : l.length ≤ c) :
    Calls Try.prog 95 #[.slice A l.length c, .func (.func 86) #[] #[]] w fun e w' => e = .returned (.int .i64 (zfV zbO l)) ∧ w = w' := by
  have hm := hr.2.1
  have HR := zc.mk hr
  clear hr
  go_enter Try.func95, Try.ntmps95
  go_wp2_with fail
  go_loop [5, 8] (fun v5 v8 => ∃ k : Nat, v8 = .int .i64 k ∧ k ≤ l.length ∧ zc (∀ (j : Nat) (y : ByteArray), j < k → l[j]? = some y → zbO y = false)) (fun _ v8 => l.length - (match v8 with | .int _ q => q | _ => 0).toNat)
  case atStart => exact ⟨0, rfl, Nat.zero_le _, ⟨fun j y hj => absurd hj (Nat.not_lt_zero _)⟩⟩
  case round =>
    obtain ⟨k, rfl, hk, HN⟩ := hrel
    by_cases hlt : k < l.length
    · obtain ⟨ad, rfl, hcell⟩ := Kd.at_string HR.out (k : Int) (by omega) (by omega)
      rw [Int.toNat_natCast] at hcell
      have hb : decide (k < l.length) = true := decide_eq_true hlt
      have hx : l[k]? = some (zA ByteArray.empty l (k : Int)) := by
        rw [zA, Int.toNat_natCast, List.getD_eq_getElem?_getD, List.getElem?_eq_getElem hlt]; rfl
      have HX := zc.mk hx
      clear hx
      generalize zA ByteArray.empty l (k : Int) = s at *
      rcases ho : zbO s with _ | _
      · have HO := zc.mk ho
        clear ho
        go_wp2_with (go_at_call 86; (with_reducible refine (zaE.odd _ _).mono ?_); rintro e w1 ⟨rfl, rfl⟩; rw [HO.out])
        go_round
        case rel =>
          refine ⟨k + 1, by go_num, by omega, ⟨fun j y hj hy => ?_⟩⟩
          rcases Nat.lt_succ_iff_lt_or_eq.1 hj with h | h
          · exact HN.out j y h hy
          · subst h
            rw [HX.out] at hy
            injection hy with hy
            subst hy
            exact HO.out
        case measure => simp; omega
      · have HO := zc.mk ho
        clear ho
        go_wp2_with (go_at_call 86; (with_reducible refine (zaE.odd _ _).mono ?_); rintro e w1 ⟨rfl, rfl⟩; rw [HO.out])
        go_ret
        exact ⟨by rw [zfX HX.out HO.out HN.out]; rfl, rfl⟩
    · obtain rfl : k = l.length := by omega
      go_wp2_with fail
      go_ret
      exact ⟨by rw [zfb (fun j y hy => HN.out j y (List.getElem?_eq_some_iff.1 hy).1 hy)]; rfl, rfl⟩
theorem zaE.contains (A : Option Addr) (c : Nat) (l : List ByteArray) (w : World) (hr : Kd.C Kd.string w A l.length l) (hc : l.length ≤ c) :
    Calls Try.prog 87 #[.slice A l.length c, .func (.func 86) #[] #[]] w fun e w' => e = .returned (.bool (l.any zbO)) ∧ w = w' := by
  have HR := zc.mk hr
  have HC := zc.mk hc
  clear hr hc
  have HA := zc.mk (zfW zbO l)
  go_enter Try.func87, Try.ntmps87
  go_wp2_with (go_at_call 95; (with_reducible refine (zaE.idx _ _ _ _ HR.out HC.out).mono ?_); rintro e w1 ⟨rfl, rfl⟩)
  go_ret
  exact ⟨by rw [← HA.out]; rfl, rfl⟩
def zcT (o q : Int) (l : List ByteArray) : Bool := decide (1 ≤ o) && decide (o ≤ 64) && decide (1 ≤ q) && decide (q ≤ 1073741824) && decide (1 ≤ l.length) && decide (l.length ≤ 4) && !l.any zbO
def zaE.f (a0_0 : Int) (a0_1 : Int) (l0_2 : List ByteArray) : Option (Bool) := some (zcT a0_0 a0_1 l0_2)
theorem zaE.walk (a0_0 : Int) (a0_1 : Int) (A : Option Addr) (c : Nat) (l : List ByteArray) (w : World) (hr : Kd.C Kd.string w A l.length l) (hc : l.length ≤ c) :
    Calls Try.prog 59 #[.agg #[.int .i64 a0_0, .int .i64 a0_1, .slice A l.length c]] w fun e w' => e = .returned (.bool (zcT a0_0 a0_1 l)) ∧ Below w.heap.size w w' := by
  have HR := zc.mk hr
  have HC := zc.mk hc
  clear hr hc
  have HW := fun (o : Obj) => Kd.C_below HR.out (Below.alloc (Below.refl w.heap.size w) (Nat.le_refl _) o)
  have HW' := zc.mk HW
  clear HW
  go_enter Try.func59, Try.ntmps59
  go_wp2_with (go_at_call 87; (with_reducible refine (zaE.contains _ _ _ _ (HW'.out _) HC.out).mono ?_); rintro e w1 ⟨rfl, rfl⟩)
  all_goals go_ret
  all_goals refine ⟨zh6 ?_, (Below.refl _ _).alloc (Nat.le_refl _) _⟩
  all_goals (unfold zcT; simp; try omega)
theorem zaE.calls (a0_0 : Int) (a0_1 : Int) (A0_2 : Option Addr) (c0_2 : Nat) (l0_2 : List ByteArray) (r : Bool) (w : World) (hr0_2 : Kd.C Kd.string w A0_2 l0_2.length l0_2) (hc0_2 : l0_2.length ≤ c0_2) (h : zaE.f a0_0 a0_1 l0_2 = some r) :
    Calls Try.prog 59 #[.agg #[.int .i64 a0_0, .int .i64 a0_1, .slice A0_2 l0_2.length c0_2]] w fun e w' => e = .returned (.bool r) ∧ Below w.heap.size w w' := by
  obtain rfl := Option.some.inj h
  exact zaE.walk a0_0 a0_1 A0_2 c0_2 l0_2 w hr0_2 hc0_2
end Go.Proofs.Ytlabjgcoopdbiaa.Px

namespace Go.Proofs.Ytlabjgcoopdbiaa.Px
open Go.RowKit Go.Proofs.YtlabjgcoopdbiaaW.PrintWords Go.Proofs.YtlabjgcoopdbiaaW.PrintLast Go.Proofs.YtlabjgcoopdbiaaW.PrintMore
attribute [local go_sem] zB zD zL zM zx zy zC zE
set_option linter.unusedVariables false
set_option linter.unusedSimpArgs false
def zbl.f (a0_0 : Int) (a0_1 : Int) : Option (Bool) := if a0_0 ≥ 0 then (if a0_0 < 10007 then (if a0_1 ≥ 0 then (some (decide (a0_1 < 10007))) else (some false)) else (some false)) else (some false)
set_option maxHeartbeats 8000000 in
set_option maxRecDepth 100000 in
theorem zbl.calls (a0_0 : Int) (a0_1 : Int) (r : Bool) (w : World) (h : zbl.f a0_0 a0_1 = some r) :
    Calls Try.prog 62 #[.agg #[.int .i64 a0_0, .int .i64 a0_1]] w fun e w' => e = .returned (.bool r) ∧ Below w.heap.size w w' := by
  have hu29 := Try.underlying29
  have HB := zc.mk (Below.refl w.heap.size w)
  have H : (if a0_0 ≥ 0 then (if a0_0 < 10007 then (if a0_1 ≥ 0 then (some (decide (a0_1 < 10007))) else (some false)) else (some false)) else (some false)) = some r := h
  clear h
  by_cases c2 : a0_0 ≥ 0
  · rw [if_pos c2] at H
    have c2b0 : decide (0 ≤ a0_0) = true := decide_eq_true c2
    clear c2
    by_cases c3 : a0_0 < 10007
    · rw [if_pos c3] at H
      have c3b0 : decide (a0_0 < 10007) = true := decide_eq_true c3
      clear c3
      by_cases c4 : a0_1 ≥ 0
      · rw [if_pos c4] at H
        have c4b0 : decide (0 ≤ a0_1) = true := decide_eq_true c4
        clear c4
        obtain rfl := Option.some.inj H
        go_enter Try.func62, Try.ntmps62
        go_wp2_with (first | ((with_reducible refine zv (N := 1) rfl ?_); refine zu ?hg (N := 1) ?hd (cs := #[.int .i64 a0_0, .int .i64 a0_1]) (t := 29) ?hr ?_; (case hd => rfl); (case hg => rfl); (case hr => first | (go_simp; done) | (go_simp; rfl)); intro gb104 hg w5 hbox hb; have n0_ := zc.mk (zk (by repeat (first | (with_reducible first | exact HB.out | apply zf | apply zd | apply ze) | exact HB.out)) hb); have n1_ := zc.mk (hbox); have n2_ := zc.mk ((by rw [hg]; exact (zn (by repeat (first | (with_reducible first | exact HB.out | apply zf | apply zd | apply ze) | exact HB.out))) : w.heap.size ≤ gb104)); have n3_ := zc.mk ((by rw [hg]; exact (zn (by repeat (first | (with_reducible first | exact HB.out | apply zf | apply zd | apply ze) | exact HB.out))) : w.heap.size ≤ gb104)); clear HB; have HB := n0_; have BK104 := n1_; have GW104 := n2_; have GE104 := n3_; clear n0_ n1_ n2_ n3_; clear hb hbox hg; have hcz6_0 : w5.cell? ⟨gb104, 0, none⟩ = some (.int .i64 a0_0) := (zb BK104.out 0).trans rfl; have hcz6_1 : w5.cell? ⟨gb104, 1, none⟩ = some (.int .i64 a0_1) := (zb BK104.out 1).trans rfl; have hfz6_0 := za BK104.out 0; have hfz6_1 := za BK104.out 1))
        go_ret
        exact ⟨by first | rfl | (simp [zo, zp] <;> rfl) | (simp [*, zo, zp] <;> rfl), by repeat (first | (with_reducible first | exact HB.out | apply zf | apply zd | apply ze | refine zj ?_ GE104.out) | exact HB.out)⟩
      · rw [if_neg c4] at H
        have c4b0 : decide (0 ≤ a0_1) = false := decide_eq_false c4
        clear c4
        obtain rfl := Option.some.inj H
        go_enter Try.func62, Try.ntmps62
        go_wp2_with (first | ((with_reducible refine zv (N := 1) rfl ?_); refine zu ?hg (N := 1) ?hd (cs := #[.int .i64 a0_0, .int .i64 a0_1]) (t := 29) ?hr ?_; (case hd => rfl); (case hg => rfl); (case hr => first | (go_simp; done) | (go_simp; rfl)); intro gb104 hg w7 hbox hb; have n0_ := zc.mk (zk (by repeat (first | (with_reducible first | exact HB.out | apply zf | apply zd | apply ze) | exact HB.out)) hb); have n1_ := zc.mk (hbox); have n2_ := zc.mk ((by rw [hg]; exact (zn (by repeat (first | (with_reducible first | exact HB.out | apply zf | apply zd | apply ze) | exact HB.out))) : w.heap.size ≤ gb104)); have n3_ := zc.mk ((by rw [hg]; exact (zn (by repeat (first | (with_reducible first | exact HB.out | apply zf | apply zd | apply ze) | exact HB.out))) : w.heap.size ≤ gb104)); clear HB; have HB := n0_; have BK104 := n1_; have GW104 := n2_; have GE104 := n3_; clear n0_ n1_ n2_ n3_; clear hb hbox hg; have hcz8_0 : w7.cell? ⟨gb104, 0, none⟩ = some (.int .i64 a0_0) := (zb BK104.out 0).trans rfl; have hcz8_1 : w7.cell? ⟨gb104, 1, none⟩ = some (.int .i64 a0_1) := (zb BK104.out 1).trans rfl; have hfz8_0 := za BK104.out 0; have hfz8_1 := za BK104.out 1))
        go_ret
        exact ⟨by first | rfl | (simp [zo, zp] <;> rfl) | (simp [*, zo, zp] <;> rfl), by repeat (first | (with_reducible first | exact HB.out | apply zf | apply zd | apply ze | refine zj ?_ GE104.out) | exact HB.out)⟩
    · rw [if_neg c3] at H
      have c3b0 : decide (a0_0 < 10007) = false := decide_eq_false c3
      clear c3
      obtain rfl := Option.some.inj H
      go_enter Try.func62, Try.ntmps62
      go_wp2_with (first | ((with_reducible refine zv (N := 1) rfl ?_); refine zu ?hg (N := 1) ?hd (cs := #[.int .i64 a0_0, .int .i64 a0_1]) (t := 29) ?hr ?_; (case hd => rfl); (case hg => rfl); (case hr => first | (go_simp; done) | (go_simp; rfl)); intro gb104 hg w9 hbox hb; have n0_ := zc.mk (zk (by repeat (first | (with_reducible first | exact HB.out | apply zf | apply zd | apply ze) | exact HB.out)) hb); have n1_ := zc.mk (hbox); have n2_ := zc.mk ((by rw [hg]; exact (zn (by repeat (first | (with_reducible first | exact HB.out | apply zf | apply zd | apply ze) | exact HB.out))) : w.heap.size ≤ gb104)); have n3_ := zc.mk ((by rw [hg]; exact (zn (by repeat (first | (with_reducible first | exact HB.out | apply zf | apply zd | apply ze) | exact HB.out))) : w.heap.size ≤ gb104)); clear HB; have HB := n0_; have BK104 := n1_; have GW104 := n2_; have GE104 := n3_; clear n0_ n1_ n2_ n3_; clear hb hbox hg; have hcz10_0 : w9.cell? ⟨gb104, 0, none⟩ = some (.int .i64 a0_0) := (zb BK104.out 0).trans rfl; have hcz10_1 : w9.cell? ⟨gb104, 1, none⟩ = some (.int .i64 a0_1) := (zb BK104.out 1).trans rfl; have hfz10_0 := za BK104.out 0; have hfz10_1 := za BK104.out 1))
      go_ret
      exact ⟨by first | rfl | (simp [zo, zp] <;> rfl) | (simp [*, zo, zp] <;> rfl), by repeat (first | (with_reducible first | exact HB.out | apply zf | apply zd | apply ze | refine zj ?_ GE104.out) | exact HB.out)⟩
  · rw [if_neg c2] at H
    have c2b0 : decide (0 ≤ a0_0) = false := decide_eq_false c2
    clear c2
    obtain rfl := Option.some.inj H
    go_enter Try.func62, Try.ntmps62
    go_wp2_with (first | ((with_reducible refine zv (N := 1) rfl ?_); refine zu ?hg (N := 1) ?hd (cs := #[.int .i64 a0_0, .int .i64 a0_1]) (t := 29) ?hr ?_; (case hd => rfl); (case hg => rfl); (case hr => first | (go_simp; done) | (go_simp; rfl)); intro gb104 hg w11 hbox hb; have n0_ := zc.mk (zk (by repeat (first | (with_reducible first | exact HB.out | apply zf | apply zd | apply ze) | exact HB.out)) hb); have n1_ := zc.mk (hbox); have n2_ := zc.mk ((by rw [hg]; exact (zn (by repeat (first | (with_reducible first | exact HB.out | apply zf | apply zd | apply ze) | exact HB.out))) : w.heap.size ≤ gb104)); have n3_ := zc.mk ((by rw [hg]; exact (zn (by repeat (first | (with_reducible first | exact HB.out | apply zf | apply zd | apply ze) | exact HB.out))) : w.heap.size ≤ gb104)); clear HB; have HB := n0_; have BK104 := n1_; have GW104 := n2_; have GE104 := n3_; clear n0_ n1_ n2_ n3_; clear hb hbox hg; have hcz12_0 : w11.cell? ⟨gb104, 0, none⟩ = some (.int .i64 a0_0) := (zb BK104.out 0).trans rfl; have hcz12_1 : w11.cell? ⟨gb104, 1, none⟩ = some (.int .i64 a0_1) := (zb BK104.out 1).trans rfl; have hfz12_0 := za BK104.out 0; have hfz12_1 := za BK104.out 1))
    go_ret
    exact ⟨by first | rfl | (simp [zo, zp] <;> rfl) | (simp [*, zo, zp] <;> rfl), by repeat (first | (with_reducible first | exact HB.out | apply zf | apply zd | apply ze | refine zj ?_ GE104.out) | exact HB.out)⟩
end Go.Proofs.Ytlabjgcoopdbiaa.Px
