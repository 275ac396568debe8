/- Part 11 of 28 of the proof of the law CertFewer: what is proved is the statement at the end of the last part; its conditions are those of the given row. -/
import Derived.ScopeJumps
import Derived.WalkMore
import Derived.Lib.Builder
import Derived.Lib.UnsafeStr
import Derived.Lib.Strings
import Derived.Lib.Slices
import Derived.Lib.Walk
import Derived.RegionTactic
import Derived.ChangeAlike
import Derived.Test.YtlabjgcoopdbiaaZCertFewerF
namespace Go.Proofs.Ytlabjgcoopdbiaa.Px
open Go.RowKit Go.Proofs.YtlabjgcoopdbiaaW.PrintWords Go.Proofs.YtlabjgcoopdbiaaW.PrintLast Go.Proofs.YtlabjgcoopdbiaaW.PrintMore
attribute [local go_sem] zB zD zL zM zx zy zC zE
set_option linter.unusedVariables false
set_option linter.unusedSimpArgs false
def beL (v : Nat) : List Int := if v = 0 then [] else beL (v / 256) ++ [((v % 256 : Nat) : Int)]
termination_by v
decreasing_by omega
theorem zeu : beL 0 = [] := by rw [beL]; simp
theorem zfp {v : Nat} (h : 0 < v) : beL v = beL (v / 256) ++ [((v % 256 : Nat) : Int)] := by rw [beL, if_neg (by omega)]
theorem zix (v : Nat) : (beL v).map (fun n => UInt8.ofNat n.toNat) = be v := by
  induction v using Nat.strongRecOn with
  | _ v ih =>
    rcases Nat.eq_zero_or_pos v with h | h
    · subst h; rw [zeu, zdy]; rfl
    · rw [zfp h, zfq h, List.map_append, ih _ (by omega)]; rfl
theorem zfY (v : Nat) : za1 v = strOfNums (((beL v).length : Int) :: beL v) := (zeC v _ (zix v)).symm
def zfe : Value → Int | .int _ q => q | _ => 0
def zgT (cs : Array Value) (p : Nat) (L : List Int) : Prop := cs.size = 9 ∧ p + L.length = 9 ∧ ∀ i, i < L.length → cs[p + i]? = some (.int .u8 (L.getD i 0))
theorem zgT.cell {cs : Array Value} {p : Nat} {L : List Int} (h : zgT cs p L) (i : Nat) (hi : i < 9) : ∃ v, cs[i]? = some v :=
  ⟨cs[i]'(by rw [h.1]; exact hi), Array.getElem?_eq_getElem _⟩
theorem zgT.set {cs : Array Value} {q : Nat} {L : List Int} (h : zgT cs (q + 1) L) (x : Int) : zgT (cs.setIfInBounds q (.int .u8 x)) q (x :: L) := by
  refine ⟨by simp [h.1], by have := h.2.1; simp only [List.length_cons]; omega, fun i hi => ?_⟩
  rcases i with _ | i
  · rw [Nat.add_zero, Array.getElem?_setIfInBounds_self_of_lt (by rw [h.1]; have := h.2.1; omega)]; rfl
  · have h2 := h.2.2 i (by simpa using hi)
    rw [Array.getElem?_setIfInBounds_ne (by omega), ← Nat.add_assoc, Nat.add_right_comm, h2]; simp
theorem zhE {v q : Nat} (h : v < 256 ^ (q + 1)) : v / 256 < 256 ^ q := by
  rw [Nat.pow_succ] at h
  exact Nat.div_lt_of_lt_mul (by rw [Nat.mul_comm]; exact h)
set_option maxHeartbeats 1000000 in
set_option maxRecDepth 100000 in
theorem zaf.walk (a0 : Nat) (w : World) (h1 : a0 < 18446744073709551616) :
    Calls Try.prog 71 #[.int .u64 a0] w fun e w' => e = .returned (.string (za1 a0)) ∧ Below w.heap.size w w' := by
  go_enter Try.func71, Try.ntmps71
  go_wp2
  refine wp_scope_jumps 0 (fun a' w' => ∃ (v p n : Nat) (L : List Int) (cs : Array Value) (u6 u7 u8 u9 u10 u11 u12 u13 u14 u15 u16 u17 : Value),
      zgT cs p L ∧ v < 256 ^ (p - 1) ∧ 1 ≤ p ∧ L.length = n ∧ beL a0 = beL v ++ L ∧
      w' = w.alloc (.cells cs 108) ∧
      a' = { tmps := #[.int .u64 v, undef, .string ⟨#[]⟩, .pointer (some ⟨w.heap.size, 0, none⟩), .int .i64 p, .int .u8 n, u6, u7, u8, u9, u10, u11, u12, u13, u14, u15, u16, u17, undef, undef, undef, undef, undef, undef, undef, undef], defers := [] })
      (fun a' _ => (zfe (a'.tmps.getD 4 undef)).toNat) rfl ?_ ?_
  · rcases Nat.eq_zero_or_pos a0 with h0 | h0
    · subst h0
      have hcv := fun W => run_convert_bytes_arg (P := Try.prog) (w.alloc W) 84 5 Try.underlying84 Try.underlying5 w.heap.size 8 1 1 [0] rfl
      go_wp2
      go_step3
      go_wp2
      simp only [Exit.jump]
      go_ret
      exact ⟨by rw [zfY, zeu]; rfl, (Below.refl _ _).alloc (Nat.le_refl _) _⟩
    · go_wp2
      go_step3
      go_wp2
      go_step3
      refine ⟨rfl, a0 / 256, 8, 1, [(a0 % 256 : Nat)], _, _, _, _, _, _, _, _, _, _, _, _, _, ?_, ?_, ?_, rfl, zfp h0, rfl, rfl⟩
      · refine ⟨rfl, rfl, fun i hi => ?_⟩
        obtain rfl : i = 0 := by simpa using hi
        rfl
      · have : (256:Nat) ^ (8 - 1) = 72057594037927936 := by decide
        omega
      · omega
  · rintro a' w' ⟨v, p, n, L, cs, u6, u7, u8, u9, u10, u11, u12, u13, u14, u15, u16, u17, hN, hv, hp, hn, hb, rfl, rfl⟩
    obtain ⟨q, rfl⟩ : ∃ q, p = q + 1 := ⟨p - 1, by omega⟩
    have hq : q < 9 := by have := hN.2.1; omega
    have hnq : n + q = 8 := by have := hN.2.1; omega
    have hnn : n ≤ 8 := by omega
    have hvb : v < 18446744073709551616 := by
      have : 256 ^ (q + 1 - 1) ≤ 256 ^ 8 := Nat.pow_le_pow_right (by omega) (by omega)
      have : (256:Nat) ^ 8 = 18446744073709551616 := by decide
      omega
    obtain ⟨v0, hc⟩ := hN.cell q hq
    have HN := zc.mk hN
    have HB := zc.mk hb
    have HV := zc.mk hv
    have HL := zc.mk hn
    have HQ := zc.mk hnq
    clear hN hb hv hn hnq h1
    rcases Nat.eq_zero_or_pos v with h0 | h0
    · subst h0
      have hq9 : q ≤ 9 := by omega
      have hsl : ∀ W : World, (Instr.sliceAt 108 (.pointer (some ⟨w.heap.size, 0, none⟩)) (some (.int .i64 (q : Int))) none none).run Try.prog W = .ok (.slice (some ⟨w.heap.size, q, none⟩) (9 - q) (9 - q)) W := by
        intro W
        rw [run_sliceAt_array_l W 108 _ (by kernel_rfl) .i64 q (by omega) (by show (q : Int) ≤ 9; omega)]
        have e1 : (sizeOf (Try.prog.elem 108)).run Try.prog W = .ok 1 W := by kernel_rfl
        have e2 : Try.prog.arrayLen 108 = 9 := by kernel_rfl
        rw [e1, e2]
        simp only [Result.andThen, slicedAt, Int.toNat_natCast, Nat.mul_one]
        rw [if_neg (by omega), zcr]
      have hS := HN.out.set n
      have hcv := run_convert_bytes_arg (P := Try.prog) (w.alloc (.cells (cs.setIfInBounds q (.int .u8 (n : Int))) 108)) 84 5 Try.underlying84 Try.underlying5 w.heap.size q (9 - q) (9 - q) ((n : Int) :: L) (by rw [List.length_cons, HL.out]; have := HQ.out; omega)
        (fun i hi => by
          have h2 := hS.2.2 i (by have := hS.2.1; omega)
          rw [World.cell?_alloc_new]; exact h2) 9 Try.underlying9
      clear hS
      go_wp2
      simp only [Exit.jump]
      go_ret
      exact ⟨by rw [zfY, HB.out, zeu, List.nil_append, HL.out]; rfl, (Below.refl _ _).alloc (Nat.le_refl _) _⟩
    · obtain ⟨q', rfl⟩ : ∃ q', q = q' + 1 := ⟨q - 1, by
        rcases Nat.eq_zero_or_pos q with hz | hz
        · have := HV.out; subst hz; simp at this; omega
        · omega⟩
      go_wp2
      go_step3
      refine ⟨rfl, ⟨v / 256, q' + 1, n + 1, ((v % 256 : Nat) : Int) :: L, _, _, _, _, _, _, _, _, _, _, _, _, _, HN.out.set _, zhE HV.out, by omega, by rw [List.length_cons, HL.out], ?_, rfl, rfl⟩, ?_⟩
      · rw [HB.out, zfp h0]; simp
      · simp [zfe]; omega
def zaf.f (a0 : Int) : Option (ByteArray) := if 0 ≤ a0 then (if a0 < 18446744073709551616 then (some (za1 a0.toNat)) else (none)) else (none)
theorem zaf.calls (a0 : Int) (r : ByteArray) (w : World) (h : zaf.f a0 = some r) :
    Calls Try.prog 71 #[.int .u64 a0] w fun e w' => e = .returned (.string r) ∧ Below w.heap.size w w' := by
  unfold zaf.f at h
  split at h
  · rename_i h0
    split at h
    · rename_i h1
      obtain ⟨n, rfl⟩ := Int.eq_ofNat_of_zero_le h0
      obtain rfl := Option.some.inj h
      rw [Int.toNat_natCast]
      exact zaf.walk n w (by omega)
    · cases h
  · cases h
end Go.Proofs.Ytlabjgcoopdbiaa.Px

namespace Go.Proofs.Ytlabjgcoopdbiaa.Px
open Go.RowKit Go.Proofs.YtlabjgcoopdbiaaW.PrintWords Go.Proofs.YtlabjgcoopdbiaaW.PrintLast Go.Proofs.YtlabjgcoopdbiaaW.PrintMore
attribute [local go_sem] zB zD zL zM zx zy zC zE
set_option linter.unusedVariables false
set_option linter.unusedSimpArgs false
def zbA.f (a0 : ByteArray) : Option (ByteArray) := if a0.size ≤ 1152921504606846976 then (some (zdl a0)) else (none)
theorem zbA.calls (a0 : ByteArray) (r : ByteArray) (w : World) (h : zbA.f a0 = some r) :
    Calls Try.prog 90 #[.string a0] w fun e w' => e = .returned (.string r) ∧ Below w.heap.size w w' := by
  unfold zbA.f at h
  split at h
  · rename_i h0
    obtain rfl := Option.some.inj h
    clear h
    have hn : (za1 a0.size).size ≤ 9 := zaL (by omega)
    have hn2 : (za1 a0.size).size + a0.size ≤ 9223372036854775807 := by omega
    have HN := zc.mk (show zaf.f (a0.size : Int) = some (za1 a0.size) by unfold zaf.f; rw [if_pos (by omega), if_pos (by omega), Int.toNat_natCast])
    go_enter Try.func90, Try.ntmps90
    go_wp2_with (go_at_call 71; (with_reducible refine (zaf.calls _ _ _ HN.out).mono ?_); rintro e w1 ⟨rfl, hb⟩)
    go_ret
    exact ⟨rfl, by assumption⟩
  · cases h
end Go.Proofs.Ytlabjgcoopdbiaa.Px

namespace Go.Proofs.Ytlabjgcoopdbiaa.Px
open Go.RowKit Go.Proofs.YtlabjgcoopdbiaaW.PrintWords Go.Proofs.YtlabjgcoopdbiaaW.PrintLast Go.Proofs.YtlabjgcoopdbiaaW.PrintMore
attribute [local go_sem] zB zD zL zM zx zy zC zE
set_option linter.unusedVariables false
set_option linter.unusedSimpArgs false
def zr.l0 : Nat → Int → ByteArray → Option (ByteArray)
  | 0, _, _ => none
  | k + 1, x0, x3 => if x0 > 0 then ((some (([(Int.tmod x0 256) % 256] : List Int) : List Int)).bind fun y170 => (if (strOfNums y170).size + x3.size ≤ 9223372036854775807 then (zr.l0 k (IntKind.u64.wrap (Int.tdiv x0 256)) ((strOfNums y170) ++ x3)) else (none))) else ((some (([((x3.size : Int)) % 256] : List Int) : List Int)).bind fun y173 => (if (strOfNums y173).size + x3.size ≤ 9223372036854775807 then (some ((strOfNums y173) ++ x3)) else (none)))
def zr.f (k : Nat) (a0 : Int) : Option (ByteArray) := zr.l0 k a0 (⟨#[]⟩ : ByteArray)
set_option maxHeartbeats 8000000 in
set_option maxRecDepth 100000 in
theorem zr.calls (k : Nat) (a0 : Int) (r : ByteArray) (w : World) (h : zr.f k a0 = some r) :
    Calls Try.prog 47 #[.int .u64 a0] w fun e w' => e = .returned (.string r) ∧ Below w.heap.size w w' := by
  have HB := zc.mk (Below.refl w.heap.size w)
  have H : (zr.l0 k a0 (⟨#[]⟩ : ByteArray)) = some r := h
  clear h
  have H' := zc.mk H
  clear H
  go_enter Try.func47, Try.ntmps47
  go_wp2
  go_loopg [0, 3] k (fun kq v0 v3 w' => ∃ (x0_1 : Int) (x3_1 : ByteArray), v0 = .int .u64 x0_1 ∧ v3 = .string x3_1 ∧ zc (zr.l0 kq x0_1 x3_1 = some r) ∧ zc (kq ≤ k) ∧ zc (Below w.heap.size w w'))
  case atStart => exact ⟨(a0), ((⟨#[]⟩ : ByteArray)), (by first | rfl | (simp; done) | (simp [*]; done)), (by first | rfl | (simp; done) | (simp [*]; done)), H', ⟨Nat.le_refl _⟩, ⟨by repeat (first | (with_reducible first | exact HB.out | apply zf | apply zd | apply ze) | exact HB.out)⟩⟩
  case round =>
    clear H'
    obtain ⟨x0_1, x3_1, rfl, rfl, HA, HK1, HB⟩ := hrel
    cases gk with
    | zero => exact absurd HA.out (by simp [zr.l0])
    | succ k1 =>
      have H := HA.out
      clear HA
      simp only [zr.l0] at H
      by_cases c2 : x0_1 > 0
      · rw [if_pos c2] at H
        have c2b0 : decide (0 < x0_1) = true := decide_eq_true c2
        clear c2
        obtain ⟨y170, hy170⟩ : ∃ y_ : List Int, y_ = (([(Int.tmod x0_1 256) % 256] : List Int)) := ⟨_, rfl⟩
        replace H : (if (strOfNums y170).size + x3_1.size ≤ 9223372036854775807 then (zr.l0 k1 (IntKind.u64.wrap (Int.tdiv x0_1 256)) ((strOfNums y170) ++ x3_1)) else (none)) = some r := by first | (rw [hy170]; with_reducible exact H) | (have H2_ := (Option.bind_some _ _).symm.trans H; rw [hy170]; with_reducible exact H2_) | (have H2_ := (Option.bind_some _ _).symm.trans H; with_reducible exact H2_) | with_reducible exact H | (rw [hy170]; exact H) | exact H
        have Ny170 := zc.mk hy170
        clear hy170
        by_cases c3 : (strOfNums y170).size + x3_1.size ≤ 9223372036854775807
        · rw [if_pos c3] at H
          have c3b0 := eq_true c3
          have c3b1 : decide ((strOfNums y170).size + x3_1.size ≤ 9223372036854775807) = true := decide_eq_true c3
          try have c3b2 : (9223372036854775807 < (strOfNums y170).size + x3_1.size) = False := eq_false (Nat.not_lt.2 c3)
          have H' := zc.mk H
          clear H
          go_wp2_with (first | ((with_reducible refine zv (N := 9) rfl ?_); refine Kd.R_lit (Kd.int .u8) _ 5 ?hg (N := 9) ?hd (xs := ([(Int.tmod x0_1 256) % 256] : List Int)) (inner := [.int .u8 ((Int.tmod x0_1 256) % 256)]) (ok := fun _ => True) (okp := fun _ => True) ?hr ?hp (fun _ hk => hk) trivial (Below.refl _ _) (Nat.le_refl _) (by simp) ?_; (case hd => rfl); (case hg => rfl); (case hr => first | (go_simp; done) | (go_simp; rfl)); (case hp => exact (zaw.one (show Kd.M (Kd.int .u8) _ _ _ ((Int.tmod x0_1 256) % 256) [.int .u8 ((Int.tmod x0_1 256) % 256)] from rfl) (zaw.none _ _))); intro v171 w4 ho5 hb hg_ hnew_; clear hg_ hnew_; (first | rw [← Ny170.out] at ho5 | (simp only [Int.reduceToNat] at ho5; rw [← Ny170.out] at ho5)); have n0_ := zc.mk (Kd.R_lower ho5 (zn (by repeat (first | (with_reducible first | exact HB.out | apply zf | apply zd | apply ze) | exact HB.out)))); have n1_ := zc.mk (zk (by repeat (first | (with_reducible first | exact HB.out | apply zf | apply zd | apply ze) | exact HB.out)) hb); clear HB; have HO172 := n0_; have HB := n1_; clear n0_ n1_; clear hb ho5; have hcv6 := zcF (P := Try.prog) Try.underlying84 Try.underlying5 Try.underlying9 (Kd.own_of_R HO172.out)))
          go_roundg k1
          case measure => have := HK1.out; omega
          case rel => exact ⟨(IntKind.u64.wrap (Int.tdiv x0_1 256)), ((strOfNums y170) ++ x3_1), (by first | rfl | (simp; done) | (simp [*]; done)), (by first | rfl | (simp; done) | (simp [*]; done)), H', ⟨by have := HK1.out; omega⟩, ⟨by repeat (first | (with_reducible first | exact HB.out | apply zf | apply zd | apply ze) | exact HB.out)⟩⟩
        · rw [if_neg c3] at H
          exact absurd H (by simp)
      · rw [if_neg c2] at H
        have c2b0 : decide (0 < x0_1) = false := decide_eq_false c2
        clear c2
        obtain ⟨y173, hy173⟩ : ∃ y_ : List Int, y_ = (([((x3_1.size : Int)) % 256] : List Int)) := ⟨_, rfl⟩
        replace H : (if (strOfNums y173).size + x3_1.size ≤ 9223372036854775807 then (some ((strOfNums y173) ++ x3_1)) else (none)) = some r := by first | (rw [hy173]; with_reducible exact H) | (have H2_ := (Option.bind_some _ _).symm.trans H; rw [hy173]; with_reducible exact H2_) | (have H2_ := (Option.bind_some _ _).symm.trans H; with_reducible exact H2_) | with_reducible exact H | (rw [hy173]; exact H) | exact H
        have Ny173 := zc.mk hy173
        clear hy173
        by_cases c7 : (strOfNums y173).size + x3_1.size ≤ 9223372036854775807
        · rw [if_pos c7] at H
          have c7b0 := eq_true c7
          have c7b1 : decide ((strOfNums y173).size + x3_1.size ≤ 9223372036854775807) = true := decide_eq_true c7
          try have c7b2 : (9223372036854775807 < (strOfNums y173).size + x3_1.size) = False := eq_false (Nat.not_lt.2 c7)
          obtain rfl := Option.some.inj H
          go_wp2_with (first | ((with_reducible refine zv (N := 18) rfl ?_); refine Kd.R_lit (Kd.int .u8) _ 5 ?hg (N := 18) ?hd (xs := ([((x3_1.size : Int)) % 256] : List Int)) (inner := [.int .u8 (((x3_1.size : Int)) % 256)]) (ok := fun _ => True) (okp := fun _ => True) ?hr ?hp (fun _ hk => hk) trivial (Below.refl _ _) (Nat.le_refl _) (by simp) ?_; (case hd => rfl); (case hg => rfl); (case hr => first | (go_simp; done) | (go_simp; rfl)); (case hp => exact (zaw.one (show Kd.M (Kd.int .u8) _ _ _ (((x3_1.size : Int)) % 256) [.int .u8 (((x3_1.size : Int)) % 256)] from rfl) (zaw.none _ _))); intro v174 w8 ho9 hb hg_ hnew_; clear hg_ hnew_; (first | rw [← Ny173.out] at ho9 | (simp only [Int.reduceToNat] at ho9; rw [← Ny173.out] at ho9)); have n0_ := zc.mk (Kd.R_lower ho9 (zn (by repeat (first | (with_reducible first | exact HB.out | apply zf | apply zd | apply ze) | exact HB.out)))); have n1_ := zc.mk (zk (by repeat (first | (with_reducible first | exact HB.out | apply zf | apply zd | apply ze) | exact HB.out)) hb); clear HB; have HO175 := n0_; have HB := n1_; clear n0_ n1_; clear hb ho9; have hcv10 := zcF (P := Try.prog) Try.underlying84 Try.underlying5 Try.underlying9 (Kd.own_of_R HO175.out)))
          go_ret
          exact ⟨by first | rfl | (simp [zo, zp] <;> rfl) | (simp [*, zo, zp] <;> rfl), by repeat (first | (with_reducible first | exact HB.out | apply zf | apply zd | apply ze) | exact HB.out)⟩
        · rw [if_neg c7] at H
          exact absurd H (by simp)
end Go.Proofs.Ytlabjgcoopdbiaa.Px

namespace Go.Proofs.Ytlabjgcoopdbiaa.Px
open Go.RowKit Go.Proofs.YtlabjgcoopdbiaaW.PrintWords Go.Proofs.YtlabjgcoopdbiaaW.PrintLast Go.Proofs.YtlabjgcoopdbiaaW.PrintMore
attribute [local go_sem] zB zD zL zM zx zy zC zE
set_option linter.unusedVariables false
set_option linter.unusedSimpArgs false
theorem zeL (acc : Bs) (hl : acc.length ≤ 200) : Ev (fun k => zr.l0 k ((0 : Nat) : Int) (toB acc)) (toB (UInt8.ofNat acc.length :: acc)) := by
  refine Ev.step (fun k => by rw [zr.l0]) ?_
  refine z8 (by simp) ?_
  simp only [Option.bind_some, zbf, List.map_cons, List.map_nil, zar, List.length_cons, List.length_nil]
  refine zP (by omega) ?_
  have e : ((acc.length : Int) % 256).toNat = acc.length := by omega
  rw [e]
  exact zay (Ev.now _) (by rw [← zaQ]; rfl)
theorem zf6 (n : Nat) : ∀ (v : Nat) (acc : Bs), v < 256 ^ n → n + acc.length ≤ 200 → v < 18446744073709551616 →
    Ev (fun k => zr.l0 k (v : Int) (toB acc)) (toB (UInt8.ofNat (be v ++ acc).length :: (be v ++ acc))) := by
  induction n with
  | zero =>
    intro v acc hv hl _
    obtain rfl : v = 0 := by simpa using hv
    rw [zdy, List.nil_append]
    exact zeL acc (by omega)
  | succ n ih =>
    intro v acc hv hl hm
    rcases Nat.eq_zero_or_pos v with h | h
    · subst h
      rw [zdy, List.nil_append]
      exact zeL acc (by omega)
    · refine Ev.step (fun k => by rw [zr.l0]) ?_
      refine zP (by omega) ?_
      simp only [Option.bind_some, zbf, List.map_cons, List.map_nil, zar, List.length_cons, List.length_nil]
      refine zP (by omega) ?_
      have e1 : IntKind.u64.wrap (Int.tdiv (v : Int) 256) = ((v / 256 : Nat) : Int) := by
        rw [Int.tdiv_eq_ediv_of_nonneg (by omega), zaT (by omega) (by omega)]; omega
      have e2 : (Int.tmod (v : Int) 256 % 256).toNat = v % 256 := by
        rw [Int.tmod_eq_emod_of_nonneg (by omega)]; omega
      rw [e1, e2]
      have := ih (v / 256) ([UInt8.ofNat (v % 256)] ++ acc) (by rw [Nat.pow_succ] at hv; omega) (by simp; omega) (by omega)
      rw [zfq h, List.append_assoc]
      rw [zaQ [UInt8.ofNat (v % 256)] acc] at this
      exact this
theorem zdS (v : Nat) (hv : v < 18446744073709551616) : Ev (fun k => zr.f k (v : Int)) (za1 v) := by
  have e8 : (256 : Nat) ^ 8 = 18446744073709551616 := by decide
  have h := zf6 8 v [] (by omega) (by simp) hv
  rw [List.append_nil] at h
  exact h
end Go.Proofs.Ytlabjgcoopdbiaa.Px

namespace Go.Proofs.Ytlabjgcoopdbiaa.Px
open Go.RowKit Go.Proofs.YtlabjgcoopdbiaaW.PrintWords Go.Proofs.YtlabjgcoopdbiaaW.PrintLast Go.Proofs.YtlabjgcoopdbiaaW.PrintMore
attribute [local go_sem] zB zD zL zM zx zy zC zE
set_option linter.unusedVariables false
set_option linter.unusedSimpArgs false
def zaP.f (a0 : ByteArray) : Option (ByteArray) := if a0.size ≤ 1152921504606846976 then (some (zdl a0)) else (none)
theorem zaP.calls (a0 : ByteArray) (r : ByteArray) (w : World) (h : zaP.f a0 = some r) :
    Calls Try.prog 81 #[.string a0] w fun e w' => e = .returned (.string r) ∧ Below w.heap.size w w' := by
  unfold zaP.f at h
  split at h
  · rename_i h0
    obtain rfl := Option.some.inj h
    clear h
    have hn : (za1 a0.size).size ≤ 9 := zaL (by omega)
    have hn2 : (za1 a0.size).size + a0.size ≤ 9223372036854775807 := by omega
    obtain ⟨k, hk⟩ := (zdS a0.size (by omega)).rounds
    have HN := zc.mk hk
    clear hk
    go_enter Try.func81, Try.ntmps81
    go_wp2_with (go_at_call 47; (with_reducible refine (zr.calls _ _ _ _ HN.out).mono ?_); rintro e w1 ⟨rfl, hb⟩)
    go_ret
    exact ⟨rfl, by assumption⟩
  · cases h
end Go.Proofs.Ytlabjgcoopdbiaa.Px

namespace Go.Proofs.Ytlabjgcoopdbiaa.Px
open Go.RowKit Go.Proofs.YtlabjgcoopdbiaaW.PrintWords Go.Proofs.YtlabjgcoopdbiaaW.PrintLast Go.Proofs.YtlabjgcoopdbiaaW.PrintMore
attribute [local go_sem] zB zD zL zM zx zy zC zE
set_option linter.unusedVariables false
set_option linter.unusedSimpArgs false
theorem zcl (v : Nat) (hv : v < 18446744073709551616) : zaf.f (v : Int) = some (za1 v) := by
  unfold zaf.f
  rw [if_pos (by omega), if_pos (by omega), Int.toNat_natCast]
theorem zex (t : ByteArray) (h : t.size ≤ 1152921504606846976) : zbA.f t = some (zdl t) := by unfold zbA.f; rw [if_pos h]
theorem zcP (t : ByteArray) (h : t.size ≤ 1152921504606846976) : zaP.f t = some (zdl t) := by unfold zaP.f; rw [if_pos h]
end Go.Proofs.Ytlabjgcoopdbiaa.Px

namespace Go.Proofs.Ytlabjgcoopdbiaa.Px
open Go.RowKit Go.Proofs.YtlabjgcoopdbiaaW.PrintWords Go.Proofs.YtlabjgcoopdbiaaW.PrintLast Go.Proofs.YtlabjgcoopdbiaaW.PrintMore
attribute [local go_sem] zB zD zL zM zx zy zC zE
set_option linter.unusedVariables false
set_option linter.unusedSimpArgs false
theorem zhh : (Try.prog.info? 5).map (fun i => (i.zero, i.size, i.bytes)) = some (some (.int .u8 0), 1, 1) := by kernel_rfl
theorem zfa : (Try.prog.info? 111).map (·.size) = some 2 := by kernel_rfl
theorem zhZ : liesAt Try.prog Try.prog.depth 111 (2 / Try.prog.cellsOf 111) 0 111 1 = true := by kernel_rfl
abbrev zdg (B b : Nat) (l : Bs) (w : World) : Prop := Lib.IsBuilder 111 5 B b (Lib.byteCells l) w
theorem zdg.below {B b : Nat} {l : Bs} {w w' : World} (h : zdg B b l w) (hb : Below w.heap.size w w') : zdg B b l w' := by
  have key : ∀ p, Lib.BuilderAt 111 5 B b p (Lib.byteCells l) w → Lib.BuilderAt 111 5 B b p (Lib.byteCells l) w' := by
    rintro p ⟨hB, v, hk, hown, hne⟩
    have hlt : b < w.heap.size := Lib.BuilderAt.lt ⟨hB, v, hk, hown, hne⟩
    exact ⟨hB, v, (hb.block b hlt).trans hk, zbJ hown hb, hne⟩
  exact h.imp (key _) (key _)
set_option maxHeartbeats 1000000 in
set_option maxRecDepth 100000 in
theorem zew (b : Nat) (w : World) (h0 : w.cell? ⟨b, 0, none⟩ = some (.pointer (some ⟨b, 0, none⟩))) :
    Calls Try.prog 96 #[.pointer (some ⟨b, 0, none⟩)] w fun e w' => e = .returned (.tuple #[]) ∧ w = w' := by
  obtain ⟨j, hj, _⟩ := Option.map_eq_some_iff.1 zfa
  go_enter Try.func96, Try.ntmps96
  go_wp2
  rw [Lib.run_neq_ptr_same w _ Try.underlying109 hj]
  go_wp2
  go_end0
  exact ⟨rfl, rfl⟩
set_option maxHeartbeats 1000000 in
set_option maxRecDepth 100000 in
theorem zeb (b : Nat) (w : World) (h0 : w.cell? ⟨b, 0, none⟩ = some (.pointer none)) (hsh : w.shape? b = some (111, 2)) (hfz : w.frozen? ⟨b, 0, none⟩ = false) :
    Calls Try.prog 96 #[.pointer (some ⟨b, 0, none⟩)] w fun e w' => e = .returned (.tuple #[]) ∧ w.setCell ⟨b, 0, none⟩ (.pointer (some ⟨b, 0, none⟩)) = w' := by
  obtain ⟨j, hj, hjs⟩ := Option.map_eq_some_iff.1 zfa
  go_enter Try.func96, Try.ntmps96
  go_wp2
  rw [Lib.run_to_unsafe w ⟨b, 0, none⟩ Try.underlying109 Try.underlying125 hj (by rw [hjs]; decide) hsh (Nat.zero_lt_succ 1)]
  simp only [Result.andThen]
  rw [Oper.upon_value]
  go_wp2
  rw [run_callFunc_extern Try.func102 (by kernel_rfl) (by kernel_rfl) (by kernel_rfl) (e := Extern.AbiNoEscape.same) (by kernel_rfl)]
  rw [Lib.run_noEscape]
  simp only [Result.andThen]
  rw [Oper.upon_value]
  go_wp2
  rw [Lib.run_from_unsafe w ⟨b, 0, none⟩ Try.underlying125 Try.underlying109 hj hsh zhZ]
  simp only [Result.andThen]
  rw [Oper.upon_value]
  go_wp2
  go_end0
  exact ⟨rfl, rfl⟩
theorem zeY (B b : Nat) (bs : List Value) (w : World) (h : Lib.IsBuilder 111 5 B b bs w) :
    Calls Try.prog 96 #[.pointer (some ⟨b, 0, none⟩)] w fun e w' => e = .returned (.tuple #[]) ∧ (Lib.BuilderAt 111 5 B b (.pointer (some ⟨b, 0, none⟩)) bs w' ∧ Below B w w') := by
  rcases h with h | h
  · refine (zeb b w h.cell0 h.shape h.frozen0).mono ?_
    rintro e w' ⟨rfl, rfl⟩
    exact ⟨rfl, h.used _, (Below.refl B w).setCell (p := ⟨b, 0, none⟩) h.1 _⟩
  · refine (zew b w h.cell0).mono ?_
    rintro e w' ⟨rfl, rfl⟩
    exact ⟨rfl, h, Below.refl B _⟩
set_option maxHeartbeats 2000000 in
set_option maxRecDepth 100000 in
theorem zcN (B b : Nat) (l : Bs) (s : ByteArray) (w : World) (h : zdg B b l w) (hlen : l.length + s.size ≤ 140737488355328) (hBw : B ≤ w.heap.size) :
    Calls Try.prog 89 #[.pointer (some ⟨b, 0, none⟩), .string s] w fun e w' => e = .returned (.tuple #[.int .i64 s.size, .nilIface]) ∧ zdg B b (l ++ ofB s) w' ∧ Below B w w' := by
  obtain ⟨i0, hi, hz0, hz1, hz2⟩ := info_parts zhh
  have hlc : (Lib.byteCells l).length = l.length := Lib.byteCells_length l
  go_enter Try.func89, Try.ntmps89
  go_wp2_with (go_at_call 96; refine (zeY B b _ _ h).mono ?_)
  rintro e w1 ⟨rfl, h1, hb1⟩
  obtain ⟨hB, v, hbk, hown, hne⟩ := h1
  have c0 : w1.cell? ⟨b, 0, none⟩ = some (.pointer (some ⟨b, 0, none⟩)) := by rw [Lib.cell_of_heap hbk]; rfl
  have c1 : w1.cell? ⟨b, 1, none⟩ = some v := by rw [Lib.cell_of_heap hbk]; rfl
  go_wp2_with (at_builtin; refine Lib.wpList_append_own_string _ rfl _ _ 84 9 rfl B 5 i0 Try.underlying84 Try.underlying9 hi hz0 hz1 hz2 _ _ _ rfl hown s rfl ?c3 ?c4 ?c5 ?_)
  case c3 => unfold maxLen; omega
  case c4 => omega
  case c5 => have := hb1.size; omega
  intro v' w2 hown' hgrow _
  have hlt : b < w1.heap.size := by
    rcases Nat.lt_or_ge b w1.heap.size with h' | h'
    · exact h'
    · simp [Array.getElem?_eq_none h'] at hbk
  have hb2 : w2.heap[b]? = some (.cells #[.pointer (some ⟨b, 0, none⟩), v] 111 (0, 0)) := by
    rw [hgrow.block b hlt (fun e => hne e.symm)]
    exact hbk
  have d0 : w2.cell? ⟨b, 0, none⟩ = some (.pointer (some ⟨b, 0, none⟩)) := by rw [Lib.cell_of_heap hb2]; rfl
  have d1 : w2.cell? ⟨b, 1, none⟩ = some v := by rw [Lib.cell_of_heap hb2]; rfl
  have f1 : w2.frozen? ⟨b, 1, none⟩ = false := Lib.frozen_of_heap hb2 1
  obtain ⟨ao, n', cap, rfl⟩ : ∃ ao n' cap, v' = .slice ao n' cap := by
    rcases hown'.2 with ⟨hv, _⟩ | ⟨g, cap, cur, hv, _⟩
    · exact ⟨_, _, _, hv⟩
    · exact ⟨_, _, _, hv⟩
  go_wp2
  go_ret2
  refine ⟨rfl, .inr ?_, ?_⟩
  · have e1 : Lib.byteCells l ++ Lib.strCells s = Lib.byteCells (l ++ ofB s) := by rw [Lib.strCells_eq]; simp [Lib.byteCells, ofB]
    rw [e1] at hown'
    refine Lib.BuilderAt.put (T := 111) (e := 5) hB hb2 (bs' := Lib.byteCells (l ++ ofB s)) ?_ (by decide)
    rw [Lib.byteCells_length, List.length_append, zal]
    exact hown'
  · exact (hb1.grown hgrow (by have := hb1.size; omega) (fun k hk => (hown.lt k hk).1)).setCell (p := ⟨b, 1, none⟩) hB _
set_option maxHeartbeats 1000000 in
set_option maxRecDepth 100000 in
theorem zeX (B b : Nat) (l : Bs) (w : World) (h : zdg B b l w) (h0 : l ≠ []) :
    Calls Try.prog 91 #[.pointer (some ⟨b, 0, none⟩)] w fun e w' => e = .returned (.string (toB l)) ∧ Below B w w' := by
  obtain ⟨p, hB, v, hbk, hown, hne⟩ : ∃ p, Lib.BuilderAt 111 5 B b p (Lib.byteCells l) w := by
    rcases h with h | h
    · exact ⟨_, h⟩
    · exact ⟨_, h⟩
  have hl0 : l.length ≠ 0 := by simpa using h0
  rw [Lib.byteCells_length] at hown
  obtain ⟨g, cap, cur, rfl, hbg, hg, hnc, hcm, hcs, htake⟩ : ∃ g cap cur, v = .slice (some ⟨g, 0, none⟩) l.length cap ∧ B ≤ g ∧ w.heap[g]? = some (.cells cur 5 (0, 0)) ∧ l.length ≤ cap ∧ cap ≤ maxLen ∧ cur.size = cap * 1 ∧ cur.toList.take (l.length * 1) = Lib.byteCells l := by
    rcases hown.2 with ⟨_, hz⟩ | ⟨g, cap, cur, hv, r⟩
    · exact absurd hz hl0
    · exact ⟨g, cap, cur, hv, r⟩
  have c1 : w.drew.cell? ⟨b, 1, none⟩ = some (.slice (some ⟨g, 0, none⟩) l.length cap) := by
    have : w.drew.heap[b]? = some (.cells #[p, .slice (some ⟨g, 0, none⟩) l.length cap] 111 (0, 0)) := hbk
    rw [Lib.cell_of_heap this]; rfl
  have hSD : (Builtin.unsafeSliceData_ #[84] 120 #[.slice (some ⟨g, 0, none⟩) l.length cap]).run Try.prog w.drew = .ok (.pointer (some ⟨g, 0, none⟩)) w.drew :=
    Lib.run_unsafeSliceData_row _ _ _ _ _ _ (by omega)
  have hUS : (Builtin.unsafeString_ #[120, 3] 9 #[.pointer (some ⟨g, 0, none⟩), .int .i64 l.length]).run Try.prog w.drew = .ok (.string ⟨l.toArray⟩) (w.drew.freeze ⟨g, 0, none⟩ l.length) := by
    refine Lib.run_unsafeString_row w.drew 120 3 9 5 Try.underlying120 (by kernel_rfl) g cur.size (by have hg' : w.drew.heap[g]? = some (.cells cur 5 (0, 0)) := hg; simp [World.shape?, hg']) l h0 (by omega) (by unfold maxLen at hcm; omega) ?_
    intro j x hx
    have := hown.cells (g := g) rfl j (.int .u8 x.toNat) (by simp [Lib.byteCells, hx])
    exact this
  go_enter Try.func91, Try.ntmps91
  go_wp2
  go_region
  all_goals (go_wp2; go_ret; exact ⟨rfl, Lib.below_freeze (Below.drew (Below.refl B w)) (p := ⟨g, 0, none⟩) hbg _⟩)
end Go.Proofs.Ytlabjgcoopdbiaa.Px

namespace Go.Proofs.Ytlabjgcoopdbiaa.Px
open Go.RowKit Go.Proofs.YtlabjgcoopdbiaaW.PrintWords Go.Proofs.YtlabjgcoopdbiaaW.PrintLast Go.Proofs.YtlabjgcoopdbiaaW.PrintMore
attribute [local go_sem] zB zD zL zM zx zy zC zE
set_option linter.unusedVariables false
set_option linter.unusedSimpArgs false
def za6 (l : List ByteArray) : Bs := l.flatMap (fun t => zeS (ofB t))
def zbx (l : List ByteArray) : Bs := zcm l.length ++ za6 l
theorem zdu (l : List ByteArray) (k : Nat) (t : ByteArray) (h : l[k]? = some t) : za6 (l.take (k + 1)) = za6 (l.take k) ++ ofB (zdl t) := by
  have hk := (List.getElem?_eq_some_iff.1 h)
  obtain ⟨hk, rfl⟩ := hk
  rw [List.take_succ_eq_append_getElem hk, za6, za6, List.flatMap_append, zhP, zci]
  simp
theorem zco (l : List ByteArray) (k : Nat) : (za6 (l.take k)).length ≤ (za6 l).length := by
  have : za6 l = za6 (l.take k) ++ za6 (l.drop k) := by rw [za6, za6, za6, ← List.flatMap_append, List.take_append_drop]
  rw [this, List.length_append]; omega
theorem zf7 (l : List ByteArray) : l.length ≤ (za6 l).length := by
  induction l with
  | nil => simp
  | cons t l ih =>
    have : za6 (t :: l) = zeS (ofB t) ++ za6 l := rfl
    rw [this, List.length_append, List.length_cons, zeS, zcm]
    simp only [List.length_cons, List.length_append]
    omega
theorem zdE (l : List ByteArray) (k : Nat) (t : ByteArray) (h : l[k]? = some t) : t.size ≤ (za6 l).length := by
  have h1 := zdu l k t h
  have h2 := zco l (k + 1)
  rw [h1, List.length_append, zal, zdl, ByteArray.size_append] at h2
  omega
end Go.Proofs.Ytlabjgcoopdbiaa.Px

namespace Go.Proofs.Ytlabjgcoopdbiaa.Px
open Go.RowKit Go.Proofs.YtlabjgcoopdbiaaW.PrintWords Go.Proofs.YtlabjgcoopdbiaaW.PrintLast Go.Proofs.YtlabjgcoopdbiaaW.PrintMore
attribute [local go_sem] zB zD zL zM zx zy zC zE
set_option linter.unusedVariables false
set_option linter.unusedSimpArgs false
def zW.Bld (B : Nat) (l : List ByteArray) (k : Nat) (w0 wr : World) : Prop := zdg B w0.heap.size (zcm l.length ++ za6 (l.take k)) wr ∧ Below w0.heap.size w0 wr
theorem zW.walk (A : Option Addr) (c : Nat) (l : List ByteArray) (w : World) (hr : Kd.C Kd.string w A l.length l) (hc : l.length ≤ c) (hs : (zbx l).length ≤ 140737488355328) :
    Calls Try.prog 72 #[.slice A l.length c] w fun e w' => e = .returned (.string (toB (zbx l))) ∧ Below w.heap.size w w' := by
  have hm := hr.2.1
  have hll := zf7 l
  have hsum : (zbx l).length = (zcm l.length).length + (za6 l).length := by rw [zbx, List.length_append]
  have hlen : l.length ≤ 140737488355328 := by omega
  have HN := zc.mk (zcl l.length (by omega))
  have HR := zc.mk hr
  have HF : zc (zdg w.heap.size w.heap.size [] (w.alloc (.cells #[.pointer none, .slice none 0 0] 111))) := ⟨Lib.fresh_isBuilder 111 5 w⟩
  have HS := zc.mk hs
  have HU := zc.mk hsum
  clear hr hs hll hsum
  go_enter Try.func72, Try.ntmps72
  go_wp2_with (go_at_call 71; (with_reducible refine (zaf.calls _ _ _ HN.out).mono ?_); rintro e w1 ⟨rfl, hb1⟩)
  have hB1 := zdg.below HF.out hb1
  have hw1 : Below w.heap.size w w1 := zk ((Below.refl _ _).alloc (Nat.le_refl _) _) hb1
  have hsz1 := hw1.size
  clear hb1
  refine (zcN w.heap.size w.heap.size [] (za1 l.length) w1 hB1 (by have := zaL (v := l.length) (by omega); simp; omega) hsz1).mono ?_
  rintro e w2 ⟨rfl, hB2, hw2⟩
  have HL : zc (zW.Bld w.heap.size l 0 w w2) := ⟨by rw [za1, zci, List.nil_append] at hB2; rw [List.take_zero, show za6 [] = [] from rfl, List.append_nil]; exact hB2, hw1.trans hw2⟩
  clear hB1 hB2 hw1 hw2 hsz1
  go_wp2_with fail
  go_loopw [5, 13] (fun _ v13 wr => ∃ k : Nat, v13 = .int .i64 k ∧ k ≤ l.length ∧ zc (zW.Bld w.heap.size l k w wr)) (fun _ v13 _ => l.length - (match v13 with | .int _ q => q | _ => 0).toNat)
  case atStart => exact ⟨0, rfl, Nat.zero_le _, HL⟩
  case round =>
    obtain ⟨k, rfl, hk, HK⟩ := hrel
    by_cases hlt : k < l.length
    · obtain ⟨ad, rfl, hcell⟩ := Kd.at_string (Kd.C_below HR.out HK.out.2) (k : Int) (by omega) (by omega)
      rw [Int.toNat_natCast] at hcell
      have hb : decide (k < l.length) = true := decide_eq_true hlt
      have hx : l[k]? = some (zA ByteArray.empty l (k : Int)) := by
        rw [zA, Int.toNat_natCast, List.getD_eq_getElem?_getD, List.getElem?_eq_getElem hlt]; rfl
      have HX := zc.mk hx
      clear hx
      generalize zA ByteArray.empty l (k : Int) = s at *
      have hs := zdE l k s HX.out
      have HT := zc.mk (zex s (by have := HS.out; have := HU.out; omega))
      have h2 := zdu l k s HX.out
      have h3 := zco l (k + 1)
      rw [h2, List.length_append, zal] at h3
      have H2 := zc.mk h2
      have H3 : zc ((zcm l.length ++ za6 (l.take k)).length + (zdl s).size ≤ 140737488355328) := ⟨by rw [List.length_append]; have := HS.out; have := HU.out; omega⟩
      clear h2 h3 hs
      go_wp2_with (go_at_call 90; (with_reducible refine (zbA.calls _ _ _ HT.out).mono ?_); rintro e w3 ⟨rfl, hb3⟩)
      refine (zcN w.heap.size w.heap.size _ (zdl s) w3 (zdg.below HK.out.1 hb3) H3.out (Nat.le_trans HK.out.2.size hb3.size)).mono ?_
      rintro e w4 ⟨rfl, hB4, hw4⟩
      have HL4 : zc (zW.Bld w.heap.size l (k + 1) w w4) := ⟨by rw [H2.out, ← List.append_assoc]; exact hB4, (zk HK.out.2 hb3).trans hw4⟩
      clear hB4 hw4 hb3
      go_wp2
      go_roundw
      case rel => exact ⟨k + 1, by go_num, by omega, HL4⟩
      case measure => simp; omega
    · obtain rfl : k = l.length := by omega
      have HE : zc (zcm l.length ++ za6 (l.take l.length) = zbx l) := ⟨by rw [List.take_of_length_le (Nat.le_refl _)]; rfl⟩
      go_wp2_with (go_at_call 91; refine (zeX w.heap.size w.heap.size _ _ HK.out.1 (by simp [zcm])).mono ?_; rintro e w3 ⟨rfl, hb3⟩)
      go_ret
      exact ⟨rfl, HK.out.2.trans hb3⟩
def zW.f (l0 : List ByteArray) : Option (ByteArray) := if (zbx l0).length ≤ 140737488355328 then (some (toB (zbx l0))) else (none)
theorem zW.calls (A0 : Option Addr) (c0 : Nat) (l0 : List ByteArray) (r : ByteArray) (w : World) (hr0 : Kd.C Kd.string w A0 l0.length l0) (hc0 : l0.length ≤ c0) (h : zW.f l0 = some r) :
    Calls Try.prog 72 #[.slice A0 l0.length c0] w fun e w' => e = .returned (.string r) ∧ Below w.heap.size w w' := by
  unfold zW.f at h
  split at h
  · rename_i hs
    obtain rfl := Option.some.inj h
    exact zW.walk A0 c0 l0 w hr0 hc0 hs
  · cases h
end Go.Proofs.Ytlabjgcoopdbiaa.Px
