/- Part 4 of 33 of the proof of the law PostBack: what is proved is the statement at the end of the last part; its conditions are those of the given row. -/
import Derived.Test.YtenbifjbeeobjaaProg
import Derived.WalkLawsBesides
import Derived.ScopeJumps
import Derived.WalkMore
import Derived.Test.YtenbifjbeeobjaaZPostBackC
namespace Go.Proofs.Ytenbifjbeeobjaa.Px
open Go.RowKit Go.Proofs.YtenbifjbeeobjaaW.PrintWords Go.Proofs.YtenbifjbeeobjaaW.PrintLast Go.Proofs.YtenbifjbeeobjaaW.PrintMore
attribute [local go_sem] zC zE zJ zK zv zw zB zD
set_option linter.unusedVariables false
set_option linter.unusedSimpArgs false
def zh0 : Option Int → Value
  | none => .nilIface
  | some c => .iface 0 (.int .i64 c)
theorem zt : zh0 none = .nilIface := rfl
theorem zr (c : Int) : zh0 (some c) = .iface 0 (.int .i64 c) := rfl
theorem zgk : (Try.prog.info? 5).map (fun i => (i.zero, i.size, i.bytes)) = some (some (.int .u8 0), 1, 1) := by kernel_rfl
theorem zho : (Try.prog.info? 101).map (fun i => (i.zero, i.size, i.bytes)) = some (some (.agg #[(.int .i64 0), (.int .i64 0), (.slice none 0 0)]), 3, 40) := by kernel_rfl
structure S95 where
  f0 : Int
  f1 : Int
structure zR where
  f0 : Int
  f1 : Int
  f2 : (List ByteArray)
def zhT : zR := ⟨(0 : Int), (0 : Int), ([] : List ByteArray)⟩
def zbB : Kd zR := Kd.iso (Kd.pair (Kd.int .i64) (Kd.pair (Kd.int .i64) (Kd.slice 9 Kd.string))) (fun x : zR => (x.f0, x.f1, x.f2))
theorem zgw {w : World} {x : zR} {cs : List Value} (h : zbB.K w x cs) : ∃ A2 c2, cs = [.int .i64 x.f0, .int .i64 x.f1, .slice A2 x.f2.length c2] ∧ x.f2.length ≤ c2 ∧ Kd.string.C w A2 x.f2.length x.f2 := by
  obtain ⟨_, _, rfl, rfl, ⟨_, _, rfl, rfl, ⟨A2, c2, rfl, l2, g2⟩⟩⟩ := h
  exact ⟨A2, c2, rfl, l2, g2⟩
theorem zgT (w : World) (base : Nat) (ok : Nat → Prop) (x : zR) {v2 : Value} (g2 : Kd.string.R 9 w base ok v2 x.f2) : zbB.M w base ok x [.int .i64 x.f0, .int .i64 x.f1, v2] := ⟨[.int .i64 x.f0], [.int .i64 x.f1, v2], rfl, rfl, ⟨[.int .i64 x.f1], [v2], rfl, rfl, ⟨v2, rfl, g2⟩⟩⟩
def z7 (xs : List zR) (i : Int) : zR := xs.getD i.toNat zhT
theorem zc7 {w : World} {A : Option Addr} {n : Nat} {xs : List zR} (h : Kd.C zbB w A n xs) (i : Int) (h0 : 0 ≤ i) (h1 : i < n) : ∃ ad A2 c2, A = some ad ∧ w.cell? (ad.add (i.toNat * 3)) = some (.int .i64 (z7 xs i).f0) ∧ w.cell? ⟨(ad.add (i.toNat * 3)).block, (ad.add (i.toNat * 3)).off + 1, none⟩ = some (.int .i64 (z7 xs i).f1) ∧ w.cell? ⟨(ad.add (i.toNat * 3)).block, (ad.add (i.toNat * 3)).off + 2, none⟩ = some (.slice A2 (z7 xs i).f2.length c2) ∧ (z7 xs i).f2.length ≤ c2 ∧ Kd.string.C w A2 (z7 xs i).f2.length (z7 xs i).f2 := by
  obtain ⟨ad, c, e, _, hK, hc0⟩ := Kd.C_get h zhT i h0 h1
  have hc : ∀ j u, c[j]? = some u → w.cell? (ad.add (i.toNat * 3 + j)) = some u := hc0
  obtain ⟨A2, c2, rfl, l2, g2⟩ := zgw hK
  exact ⟨ad, A2, c2, e, hc 0 _ rfl, by rw [← zff _ _ 1 (by omega)]; exact hc 1 _ rfl, by rw [← zff _ _ 2 (by omega)]; exact hc 2 _ rfl, l2, g2⟩
structure S26 where
  f0 : Int
  f1 : Int
def z26 : S26 := ⟨(0 : Int), (0 : Int)⟩
def k26 : Kd S26 := Kd.iso (Kd.pair (Kd.int .i64) (Kd.int .i64)) (fun x : S26 => (x.f0, x.f1))
theorem zgW {w : World} {x : S26} {cs : List Value} (h : k26.K w x cs) : cs = [.int .i64 x.f0, .int .i64 x.f1] := by
  obtain ⟨_, _, rfl, rfl, rfl⟩ := h
  exact rfl
structure S28 where
  f0 : Int
  f1 : Int
  f2 : (List zR)
  f3 : (List ByteArray)
  f4 : S26
def z28 : S28 := ⟨(0 : Int), (0 : Int), ([] : List zR), ([] : List ByteArray), z26⟩
def k28 : Kd S28 := Kd.iso (Kd.pair (Kd.int .i64) (Kd.pair (Kd.int .i64) (Kd.pair (Kd.slice 101 zbB) (Kd.pair (Kd.slice 9 Kd.string) k26)))) (fun x : S28 => (x.f0, x.f1, x.f2, x.f3, x.f4))
theorem zhd {w : World} {x : S28} {cs : List Value} (h : k28.K w x cs) : ∃ A2 c2 A3 c3, cs = [.int .i64 x.f0, .int .i64 x.f1, .slice A2 x.f2.length c2, .slice A3 x.f3.length c3, .int .i64 x.f4.f0, .int .i64 x.f4.f1] ∧ x.f2.length ≤ c2 ∧ zbB.C w A2 x.f2.length x.f2 ∧ x.f3.length ≤ c3 ∧ Kd.string.C w A3 x.f3.length x.f3 := by
  obtain ⟨_, _, rfl, rfl, ⟨_, _, rfl, rfl, ⟨_, _, rfl, ⟨A2, c2, rfl, l2, g2⟩, ⟨_, _, rfl, ⟨A3, c3, rfl, l3, g3⟩, s4⟩⟩⟩⟩ := h
  obtain rfl := zgW s4
  exact ⟨A2, c2, A3, c3, rfl, l2, g2, l3, g3⟩
structure S36 where
  f0 : S28
  f1 : Int
structure S42 where
  f0 : Int
  f1 : Int
  f2 : Int
  f3 : ByteArray
def z42 : S42 := ⟨(0 : Int), (0 : Int), (0 : Int), (⟨#[]⟩ : ByteArray)⟩
def k42 : Kd S42 := Kd.iso (Kd.pair (Kd.int .i64) (Kd.pair (Kd.int .i64) (Kd.pair (Kd.int .i64) Kd.string))) (fun x : S42 => (x.f0, x.f1, x.f2, x.f3))
theorem zgF {w : World} {x : S42} {cs : List Value} (h : k42.K w x cs) : cs = [.int .i64 x.f0, .int .i64 x.f1, .int .i64 x.f2, .string x.f3] := by
  obtain ⟨_, _, rfl, rfl, ⟨_, _, rfl, rfl, ⟨_, _, rfl, rfl, rfl⟩⟩⟩ := h
  exact rfl
structure S48 where
  f0 : Int
  f1 : Int
  f2 : ByteArray
structure S62 where
  f0 : S28
  f1 : Int
  f2 : S42
  f3 : Int
def z62 : S62 := ⟨z28, (0 : Int), z42, (0 : Int)⟩
def k62 : Kd S62 := Kd.iso (Kd.pair k28 (Kd.pair (Kd.int .u64) (Kd.pair k42 (Kd.int .i64)))) (fun x : S62 => (x.f0, x.f1, x.f2, x.f3))
theorem zg3 {w : World} {x : S62} {cs : List Value} (h : k62.K w x cs) : ∃ A2 c2 A3 c3, cs = [.int .i64 x.f0.f0, .int .i64 x.f0.f1, .slice A2 x.f0.f2.length c2, .slice A3 x.f0.f3.length c3, .int .i64 x.f0.f4.f0, .int .i64 x.f0.f4.f1, .int .u64 x.f1, .int .i64 x.f2.f0, .int .i64 x.f2.f1, .int .i64 x.f2.f2, .string x.f2.f3, .int .i64 x.f3] ∧ x.f0.f2.length ≤ c2 ∧ zbB.C w A2 x.f0.f2.length x.f0.f2 ∧ x.f0.f3.length ≤ c3 ∧ Kd.string.C w A3 x.f0.f3.length x.f0.f3 := by
  obtain ⟨_, _, rfl, s0, ⟨_, _, rfl, rfl, ⟨_, _, rfl, s7, rfl⟩⟩⟩ := h
  obtain ⟨A2, c2, A3, c3, rfl, l2, g2, l3, g3⟩ := zhd s0
  obtain rfl := zgF s7
  exact ⟨A2, c2, A3, c3, rfl, l2, g2, l3, g3⟩
end Go.Proofs.Ytenbifjbeeobjaa.Px

namespace Go.Proofs.Ytenbifjbeeobjaa.Px
open Go.RowKit Go.Proofs.YtenbifjbeeobjaaW.PrintWords Go.Proofs.YtenbifjbeeobjaaW.PrintLast Go.Proofs.YtenbifjbeeobjaaW.PrintMore
attribute [local go_sem] zC zE zJ zK zv zw zB zD
set_option linter.unusedVariables false
set_option linter.unusedSimpArgs false
abbrev Bs := List UInt8
def toB (l : Bs) : ByteArray := ⟨l.toArray⟩
def ofB (s : ByteArray) : Bs := s.data.toList
theorem zY (l : Bs) : ofB (toB l) = l := by simp [ofB, toB]
theorem zbt (s : ByteArray) : toB (ofB s) = s := by simp [ofB, toB]
theorem zcN {a b : ByteArray} (h : ofB a = ofB b) : a = b := by rw [← zbt a, ← zbt b, h]
theorem z9 (s : ByteArray) : (ofB s).length = s.size := by rw [ofB, Array.length_toList]; rfl
theorem z5 (l : Bs) : (toB l).size = l.length := by rw [← z9, zY]
theorem zcP (a b : ByteArray) : ofB (a ++ b) = ofB a ++ ofB b := by simp [ofB]
theorem zbU (a b : Bs) : toB (a ++ b) = toB a ++ toB b := zcN (by rw [zcP, zY, zY, zY])
theorem zaI (s : ByteArray) : s.toList = ofB s := ByteArray.toList_eq s
theorem zcs (s : ByteArray) (i j : Nat) : ofB (s.extract i j) = ((ofB s).drop i).take (j - i) := by
  simp only [ofB, ByteArray.data_extract, Array.toList_extract, List.extract]
theorem zgb (s : ByteArray) (i : Nat) : bt s (i : Int) = (((ofB s).getD i 0).toNat : Int) := by
  unfold bt ofB
  split
  · rename_i h
    have h' : i < s.data.toList.length := by rw [zd2]; simpa using h
    simp [List.getD_eq_getElem?_getD, List.getElem?_eq_getElem h']
    rfl
  · rename_i h
    have h' : s.data.toList.length ≤ i := by rw [zd2]; simp at h; omega
    simp [List.getD_eq_getElem?_getD, List.getElem?_eq_none h']
theorem zdp (xs : List Int) : strOfNums xs = toB (xs.map fun n => UInt8.ofNat n.toNat) := rfl
def be (v : Nat) : Bs := if v = 0 then [] else be (v / 256) ++ [UInt8.ofNat (v % 256)]
termination_by v
decreasing_by omega
theorem zb0 : be 0 = [] := by rw [be]; simp
theorem zcJ {v : Nat} (h : 0 < v) : be v = be (v / 256) ++ [UInt8.ofNat (v % 256)] := by rw [be, if_neg (by omega)]
def val (l : Bs) : Nat := l.foldl (fun a c => a * 256 + c.toNat) 0
theorem zc2 (l : Bs) (c : UInt8) : val (l ++ [c]) = val l * 256 + c.toNat := by simp [val]
theorem zhN (v : Nat) : val (be v) = v := by
  induction v using Nat.strongRecOn with
  | _ v ih =>
    rcases Nat.eq_zero_or_pos v with h | h
    · subst h; rw [zb0]; rfl
    · rw [zcJ h, zc2, ih _ (by omega)]
      have : (UInt8.ofNat (v % 256)).toNat = v % 256 := by simp
      omega
theorem zgu (n : Nat) : ∀ v : Nat, (be v).length ≤ n ↔ v < 256 ^ n := by
  induction n with
  | zero =>
    intro v
    rcases Nat.eq_zero_or_pos v with h | h
    · subst h; simp [zb0]
    · rw [zcJ h]; simp; omega
  | succ n ih =>
    intro v
    rcases Nat.eq_zero_or_pos v with h | h
    · subst h; simp [zb0, Nat.pow_pos]
    · rw [zcJ h, List.length_append, List.length_singleton, Nat.succ_le_succ_iff, ih, Nat.pow_succ, Nat.mul_comm, Nat.div_lt_iff_lt_mul (by omega), Nat.mul_comm]
theorem zgq {v : Nat} (h : v < 18446744073709551616) : (be v).length ≤ 8 := by
  have : (256 : Nat) ^ 8 = 18446744073709551616 := by decide
  exact (zgu 8 v).2 (by rw [this]; exact h)
theorem zhl (v : Nat) (h : 0 < v) : ∃ c t, be v = c :: t ∧ c ≠ 0 := by
  induction v using Nat.strongRecOn with
  | _ v ih =>
    rw [zcJ h]
    rcases Nat.eq_zero_or_pos (v / 256) with h0 | h0
    · rw [h0, zb0]
      refine ⟨_, _, rfl, ?_⟩
      have e : v % 256 = v := Nat.mod_eq_of_lt (by omega)
      intro hz
      have := congrArg UInt8.toNat hz
      simp at this
      omega
    · obtain ⟨c, t, e, hc⟩ := ih (v / 256) (by omega) h0
      exact ⟨c, t ++ [_], by rw [e]; rfl, hc⟩
theorem zhb (l : Bs) : val l < 256 ^ l.length := by
  suffices h : ∀ (r : Bs), val r.reverse < 256 ^ r.length by
    have := h l.reverse; rwa [List.reverse_reverse, List.length_reverse] at this
  intro r
  induction r with
  | nil => simp [val]
  | cons c r ih =>
    rw [List.reverse_cons, zc2, List.length_cons, Nat.pow_succ]
    have := c.toNat_lt
    omega
theorem zhQ (l : Bs) (h : ∀ c t, l = c :: t → c ≠ 0) : be (val l) = l := by
  suffices k : ∀ (n : Nat) (l : Bs), l.length = n → (∀ c t, l = c :: t → c ≠ 0) → be (val l) = l ∧ (l ≠ [] → 0 < val l) from (k _ l rfl h).1
  intro n
  induction n with
  | zero => intro l hl _; obtain rfl := List.eq_nil_of_length_eq_zero hl; exact ⟨zb0, fun h => absurd rfl h⟩
  | succ n ih =>
    intro l hl hh
    obtain ⟨r, x, rfl⟩ : ∃ r x, l = r ++ [x] := ⟨l.dropLast, l.getLast (by intro e; subst e; simp at hl), (List.dropLast_concat_getLast _).symm⟩
    have hr : r.length = n := by simpa using hl
    have hrh : ∀ c t, r = c :: t → c ≠ 0 := fun c t e => hh c (t ++ [x]) (by rw [e]; rfl)
    obtain ⟨h1, h2⟩ := ih r hr hrh
    have hx := x.toNat_lt
    have hp : 0 < val (r ++ [x]) := by
      rw [zc2]
      rcases r with _ | ⟨c, t⟩
      · have := hh x [] rfl
        have h0 : x.toNat ≠ 0 := fun e => this (UInt8.toNat_inj.1 (by simpa using e))
        simp [val]; omega
      · have := h2 (by simp); omega
    refine ⟨?_, fun _ => hp⟩
    rw [zcJ hp, zc2]
    have e1 : (val r * 256 + x.toNat) / 256 = val r := by omega
    have e2 : (val r * 256 + x.toNat) % 256 = x.toNat := by omega
    rw [e1, e2, h1]; simp
def zaN (v : Nat) : Bs := UInt8.ofNat (be v).length :: be v
def zbg (v : Nat) : ByteArray := toB (zaN v)
def zM : Bs → Nat × Bs × Int
  | [] => (0, [], 2)
  | c :: t => if 8 < c.toNat then (0, [], 3) else if t.length < c.toNat then (0, [], 2) else if 0 < c.toNat ∧ t.getD 0 0 = 0 then (0, [], 3) else (val (t.take c.toNat), t.drop c.toNat, 0)
theorem zbA {v : Nat} (hv : v < 18446744073709551616) (r : Bs) : zM (zaN v ++ r) = (v, r, 0) := by
  have hl := zgq hv
  have hc : (UInt8.ofNat (be v).length).toNat = (be v).length := by simp; omega
  rw [show zaN v ++ r = UInt8.ofNat (be v).length :: (be v ++ r) from rfl, zM]
  rw [hc, if_neg (by omega), if_neg (by rw [List.length_append]; omega), if_neg ?_]
  · rw [List.take_left, List.drop_left, zhN]
  · rintro ⟨h1, h2⟩
    have hv0 : 0 < v := by
      rcases Nat.eq_zero_or_pos v with h | h
      · subst h; simp [zb0] at h1
      · exact h
    obtain ⟨c, t, e, hc⟩ := zhl v hv0
    rw [e] at h2
    exact hc h2
theorem zbn {s r : Bs} {v : Nat} (h : zM s = (v, r, 0)) : s = zaN v ++ r ∧ v < 18446744073709551616 := by
  match s, h with
  | [], h => simp [zM] at h
  | c :: t, h =>
    simp only [zM] at h
    split at h
    · simp at h
    · rename_i h8
      split at h
      · simp at h
      · rename_i hlen
        split at h
        · simp at h
        · rename_i hz
          simp only [Prod.mk.injEq, and_true] at h
          obtain ⟨rfl, rfl⟩ := h
          have hb : be (val (t.take c.toNat)) = t.take c.toNat := zhQ _ (by
            intro x y e hx
            apply hz
            rcases Nat.eq_zero_or_pos c.toNat with h0 | h0
            · rw [h0] at e; simp at e
            · refine ⟨h0, ?_⟩
              rcases t with _ | ⟨z, t⟩
              · simp at e
              · obtain ⟨m, hm⟩ : ∃ m, c.toNat = m + 1 := ⟨c.toNat - 1, by omega⟩
                rw [hm, List.take_succ_cons] at e
                injection e with e1 _
                simp [e1, hx])
          have hn : (be (val (t.take c.toNat))).length = c.toNat := by rw [hb, List.length_take]; omega
          refine ⟨?_, ?_⟩
          · rw [zaN, hn, hb, List.cons_append, List.take_append_drop]; simp
          · have := zhb (t.take c.toNat)
            rw [List.length_take, Nat.min_eq_left (by omega)] at this
            have h2 : 256 ^ c.toNat ≤ 256 ^ 8 := Nat.pow_le_pow_right (by omega) (by omega)
            have : (256 : Nat) ^ 8 = 18446744073709551616 := by decide
            omega
theorem zfB {s r : Bs} {v : Nat} {e : Int} (h : zM s = (v, r, e)) : e = 0 ∨ (v = 0 ∧ r = [] ∧ (e = 2 ∨ e = 3)) := by
  match s, h with
  | [], h => simp [zM] at h; obtain ⟨rfl, rfl, rfl⟩ := h; simp
  | c :: t, h =>
    simp only [zM] at h
    (repeat' split at h) <;> (simp only [Prod.mk.injEq] at h; obtain ⟨rfl, rfl, rfl⟩ := h; simp)
def zcc (t : Bs) : Bs := zaN t.length ++ t
def zdP (t : ByteArray) : ByteArray := zbg t.size ++ t
theorem zf2 (t : ByteArray) : zdP t = toB (zcc (ofB t)) := by rw [zcc, zbU, zbt, z9]; rfl
theorem zad {v : Nat} (h : v < 18446744073709551616) : (zaN v).length ≤ 9 := by
  have := zgq h
  simp only [zaN, List.length_cons]; omega
theorem zaY {v : Nat} (h : v < 18446744073709551616) : (zbg v).size ≤ 9 := by rw [zbg, z5]; exact zad h
theorem zep (v : Nat) (L : List Int) (h : L.map (fun n => UInt8.ofNat n.toNat) = be v) : strOfNums ((L.length : Int) :: L) = zbg v := by
  rw [zdp, List.map_cons, h, zbg, zaN]
  have : L.length = (be v).length := by rw [← h, List.length_map]
  rw [this, Int.toNat_natCast]
end Go.Proofs.Ytenbifjbeeobjaa.Px

namespace Go.Proofs.Ytenbifjbeeobjaa.Px
open Go.RowKit Go.Proofs.YtenbifjbeeobjaaW.PrintWords Go.Proofs.YtenbifjbeeobjaaW.PrintLast Go.Proofs.YtenbifjbeeobjaaW.PrintMore
attribute [local go_sem] zC zE zJ zK zv zw zB zD
set_option linter.unusedVariables false
set_option linter.unusedSimpArgs false
def beL (v : Nat) : List Int := if v = 0 then [] else beL (v / 256) ++ [((v % 256 : Nat) : Int)]
termination_by v
decreasing_by omega
theorem zeF : beL 0 = [] := by rw [beL]; simp
theorem zft {v : Nat} (h : 0 < v) : beL v = beL (v / 256) ++ [((v % 256 : Nat) : Int)] := by rw [beL, if_neg (by omega)]
theorem zhS (v : Nat) : (beL v).map (fun n => UInt8.ofNat n.toNat) = be v := by
  induction v using Nat.strongRecOn with
  | _ v ih =>
    rcases Nat.eq_zero_or_pos v with h | h
    · subst h; rw [zeF, zb0]; rfl
    · rw [zft h, zcJ h, List.map_append, ih _ (by omega)]; rfl
theorem zf0 (v : Nat) : zbg v = strOfNums (((beL v).length : Int) :: beL v) := (zep v _ (zhS v)).symm
def zfe : Value → Int | .int _ q => q | _ => 0
def zgA (cs : Array Value) (p : Nat) (L : List Int) : Prop := cs.size = 9 ∧ p + L.length = 9 ∧ ∀ i, i < L.length → cs[p + i]? = some (.int .u8 (L.getD i 0))
theorem zgA.cell {cs : Array Value} {p : Nat} {L : List Int} (h : zgA cs p L) (i : Nat) (hi : i < 9) : ∃ v, cs[i]? = some v :=
  ⟨cs[i]'(by rw [h.1]; exact hi), Array.getElem?_eq_getElem _⟩
theorem zgA.set {cs : Array Value} {q : Nat} {L : List Int} (h : zgA cs (q + 1) L) (x : Int) : zgA (cs.setIfInBounds q (.int .u8 x)) q (x :: L) := by
  refine ⟨by simp [h.1], by have := h.2.1; simp only [List.length_cons]; omega, fun i hi => ?_⟩
  rcases i with _ | i
  · rw [Nat.add_zero, Array.getElem?_setIfInBounds_self_of_lt (by rw [h.1]; have := h.2.1; omega)]; rfl
  · have h2 := h.2.2 i (by simpa using hi)
    rw [Array.getElem?_setIfInBounds_ne (by omega), ← Nat.add_assoc, Nat.add_right_comm, h2]; simp
theorem zgY {v q : Nat} (h : v < 256 ^ (q + 1)) : v / 256 < 256 ^ q := by
  rw [Nat.pow_succ] at h
  exact Nat.div_lt_of_lt_mul (by rw [Nat.mul_comm]; exact h)
set_option maxHeartbeats 1000000 in
set_option maxRecDepth 100000 in
theorem zO.walk (a0 : Nat) (w : World) (h1 : a0 < 18446744073709551616) :
    Calls Try.prog 50 #[.int .u64 a0] w fun e w' => e = .returned (.string (zbg a0)) ∧ Below w.heap.size w w' := by
  go_enter Try.func50, Try.ntmps50
  go_wp2
  refine wp_scope_jumps 0 (fun a' w' => ∃ (v p n : Nat) (L : List Int) (cs : Array Value) (u6 u7 u8 u9 u10 u11 u12 u13 u14 u15 u16 u17 : Value),
      zgA cs p L ∧ v < 256 ^ (p - 1) ∧ 1 ≤ p ∧ L.length = n ∧ beL a0 = beL v ++ L ∧
      w' = w.alloc (.cells cs 127) ∧
      a' = { tmps := #[.int .u64 v, undef, .string ⟨#[]⟩, .pointer (some ⟨w.heap.size, 0, none⟩), .int .i64 p, .int .u8 n, u6, u7, u8, u9, u10, u11, u12, u13, u14, u15, u16, u17, undef, undef, undef, undef, undef, undef, undef, undef], defers := [] })
      (fun a' _ => (zfe (a'.tmps.getD 4 undef)).toNat) rfl ?_ ?_
  · rcases Nat.eq_zero_or_pos a0 with h0 | h0
    · subst h0
      have hcv := fun W => run_convert_bytes_arg (P := Try.prog) (w.alloc W) 69 5 Try.underlying69 Try.underlying5 w.heap.size 8 1 1 [0] rfl
      go_wp2
      go_step3
      go_wp2
      simp only [Exit.jump]
      go_ret
      exact ⟨by rw [zf0, zeF]; rfl, (Below.refl _ _).alloc (Nat.le_refl _) _⟩
    · go_wp2
      go_step3
      go_wp2
      go_step3
      refine ⟨rfl, a0 / 256, 8, 1, [(a0 % 256 : Nat)], _, _, _, _, _, _, _, _, _, _, _, _, _, ?_, ?_, ?_, rfl, zft h0, rfl, rfl⟩
      · refine ⟨rfl, rfl, fun i hi => ?_⟩
        obtain rfl : i = 0 := by simpa using hi
        rfl
      · have : (256:Nat) ^ (8 - 1) = 72057594037927936 := by decide
        omega
      · omega
  · rintro a' w' ⟨v, p, n, L, cs, u6, u7, u8, u9, u10, u11, u12, u13, u14, u15, u16, u17, hN, hv, hp, hn, hb, rfl, rfl⟩
    obtain ⟨q, rfl⟩ : ∃ q, p = q + 1 := ⟨p - 1, by omega⟩
    have hq : q < 9 := by have := hN.2.1; omega
    have hnq : n + q = 8 := by have := hN.2.1; omega
    have hnn : n ≤ 8 := by omega
    have hvb : v < 18446744073709551616 := by
      have : 256 ^ (q + 1 - 1) ≤ 256 ^ 8 := Nat.pow_le_pow_right (by omega) (by omega)
      have : (256:Nat) ^ 8 = 18446744073709551616 := by decide
      omega
    obtain ⟨v0, hc⟩ := hN.cell q hq
    have HN := zb.mk hN
    have HB := zb.mk hb
    have HV := zb.mk hv
    have HL := zb.mk hn
    have HQ := zb.mk hnq
    clear hN hb hv hn hnq h1
    rcases Nat.eq_zero_or_pos v with h0 | h0
    · subst h0
      have hq9 : q ≤ 9 := by omega
      have hsl : ∀ W : World, (Instr.sliceAt 127 (.pointer (some ⟨w.heap.size, 0, none⟩)) (some (.int .i64 (q : Int))) none none).run Try.prog W = .ok (.slice (some ⟨w.heap.size, q, none⟩) (9 - q) (9 - q)) W := by
        intro W
        rw [run_sliceAt_array_l W 127 _ (by kernel_rfl) .i64 q (by omega) (by show (q : Int) ≤ 9; omega)]
        have e1 : (sizeOf (Try.prog.elem 127)).run Try.prog W = .ok 1 W := by kernel_rfl
        have e2 : Try.prog.arrayLen 127 = 9 := by kernel_rfl
        rw [e1, e2]
        simp only [Result.andThen, slicedAt, Int.toNat_natCast, Nat.mul_one]
        rw [if_neg (by omega), zgx]
      have hS := HN.out.set n
      have hcv := run_convert_bytes_arg (P := Try.prog) (w.alloc (.cells (cs.setIfInBounds q (.int .u8 (n : Int))) 127)) 69 5 Try.underlying69 Try.underlying5 w.heap.size q (9 - q) (9 - q) ((n : Int) :: L) (by rw [List.length_cons, HL.out]; have := HQ.out; omega)
        (fun i hi => by
          have h2 := hS.2.2 i (by have := hS.2.1; omega)
          rw [World.cell?_alloc_new]; exact h2) 9 Try.underlying9
      clear hS
      go_wp2
      simp only [Exit.jump]
      go_ret
      exact ⟨by rw [zf0, HB.out, zeF, List.nil_append, HL.out]; rfl, (Below.refl _ _).alloc (Nat.le_refl _) _⟩
    · obtain ⟨q', rfl⟩ : ∃ q', q = q' + 1 := ⟨q - 1, by
        rcases Nat.eq_zero_or_pos q with hz | hz
        · have := HV.out; subst hz; simp at this; omega
        · omega⟩
      go_wp2
      go_step3
      refine ⟨rfl, ⟨v / 256, q' + 1, n + 1, ((v % 256 : Nat) : Int) :: L, _, _, _, _, _, _, _, _, _, _, _, _, _, HN.out.set _, zgY HV.out, by omega, by rw [List.length_cons, HL.out], ?_, rfl, rfl⟩, ?_⟩
      · rw [HB.out, zft h0]; simp
      · simp [zfe]; omega
def zO.f (a0 : Int) : Option (ByteArray) := if 0 ≤ a0 then (if a0 < 18446744073709551616 then (some (zbg a0.toNat)) else (none)) else (none)
theorem zO.calls (a0 : Int) (r : ByteArray) (w : World) (h : zO.f a0 = some r) :
    Calls Try.prog 50 #[.int .u64 a0] w fun e w' => e = .returned (.string r) ∧ Below w.heap.size w w' := by
  unfold zO.f at h
  split at h
  · rename_i h0
    split at h
    · rename_i h1
      obtain ⟨n, rfl⟩ := Int.eq_ofNat_of_zero_le h0
      obtain rfl := Option.some.inj h
      rw [Int.toNat_natCast]
      exact zO.walk n w (by omega)
    · cases h
  · cases h
end Go.Proofs.Ytenbifjbeeobjaa.Px

namespace Go.Proofs.Ytenbifjbeeobjaa.Px
open Go.RowKit Go.Proofs.YtenbifjbeeobjaaW.PrintWords Go.Proofs.YtenbifjbeeobjaaW.PrintLast Go.Proofs.YtenbifjbeeobjaaW.PrintMore
attribute [local go_sem] zC zE zJ zK zv zw zB zD
set_option linter.unusedVariables false
set_option linter.unusedSimpArgs false
def zaQ.f (a0 : Int) : Option (Bool) := if a0 ≥ 1 then (some (decide (a0 ≤ 64))) else (some false)
set_option maxHeartbeats 8000000 in
set_option maxRecDepth 100000 in
theorem zaQ.calls (a0 : Int) (r : Bool) (w : World) (h : zaQ.f a0 = some r) :
    Calls Try.prog 39 #[.int .i64 a0] w fun e w' => e = .returned (.bool r) ∧ zI w w' := by
  have H : (if a0 ≥ 1 then (some (decide (a0 ≤ 64))) else (some false)) = some r := h
  clear h
  by_cases c2 : a0 ≥ 1
  · rw [if_pos c2] at H
    have c2b0 : decide (1 ≤ a0) = true := decide_eq_true c2
    clear c2
    obtain rfl := Option.some.inj H
    go_enter Try.func39, Try.ntmps39
    go_wp2
    go_ret
    exact ⟨by first | rfl | (simp; done) | (simp [*]; done), by repeat (first | exact zI.refl _ | apply zI.step)⟩
  · rw [if_neg c2] at H
    have c2b0 : decide (1 ≤ a0) = false := decide_eq_false c2
    clear c2
    obtain rfl := Option.some.inj H
    go_enter Try.func39, Try.ntmps39
    go_wp2
    go_ret
    exact ⟨by first | rfl | (simp; done) | (simp [*]; done), by repeat (first | exact zI.refl _ | apply zI.step)⟩
end Go.Proofs.Ytenbifjbeeobjaa.Px

namespace Go.Proofs.Ytenbifjbeeobjaa.Px
open Go.RowKit Go.Proofs.YtenbifjbeeobjaaW.PrintWords Go.Proofs.YtenbifjbeeobjaaW.PrintLast Go.Proofs.YtenbifjbeeobjaaW.PrintMore
attribute [local go_sem] zC zE zJ zK zv zw zB zD
set_option linter.unusedVariables false
set_option linter.unusedSimpArgs false
def za7.f (a0 : Int) (a1 : Int) (a2 : ByteArray) : Option (Bool) := (zaQ.f a0).bind fun t101 => (if t101 = true then (if a1 ≥ 1 then (if a1 ≤ 1048576 then (some ((a2.size : Int) == 32)) else (some false)) else (some false)) else (some false))
set_option maxHeartbeats 8000000 in
set_option maxRecDepth 100000 in
theorem za7.calls (a0 : Int) (a1 : Int) (a2 : ByteArray) (r : Bool) (w : World) (h : za7.f a0 a1 a2 = some r) :
    Calls Try.prog 38 #[.int .i64 a0, .int .i64 a1, .string a2] w fun e w' => e = .returned (.bool r) ∧ zI w w' := by
  have H : ((zaQ.f a0).bind fun t101 => (if t101 = true then (if a1 ≥ 1 then (if a1 ≤ 1048576 then (some ((a2.size : Int) == 32)) else (some false)) else (some false)) else (some false))) = some r := h
  clear h
  replace H := Option.bind_eq_some_iff.mp H
  obtain ⟨t101, A40, H⟩ := H
  replace H : (if t101 = true then (if a1 ≥ 1 then (if a1 ≤ 1048576 then (some ((a2.size : Int) == 32)) else (some false)) else (some false)) else (some false)) = some r := H
  have A4 := zb.mk A40
  clear A40
  by_cases c5 : t101 = true
  · subst c5
    have H1 : (if a1 ≥ 1 then (if a1 ≤ 1048576 then (some ((a2.size : Int) == 32)) else (some false)) else (some false)) = some r := by rw [if_pos rfl] at H; exact H
    clear H
    have H := H1
    clear H1
    by_cases c6 : a1 ≥ 1
    · rw [if_pos c6] at H
      have c6b0 : decide (1 ≤ a1) = true := decide_eq_true c6
      clear c6
      by_cases c7 : a1 ≤ 1048576
      · rw [if_pos c7] at H
        have c7b0 : decide (a1 ≤ 1048576) = true := decide_eq_true c7
        clear c7
        obtain rfl := Option.some.inj H
        go_enter Try.func38, Try.ntmps38
        go_wp2_with (first | ((with_reducible refine zu (f := 39) rfl ?_); refine zQ (some 8) rfl rfl Try.func39 (by kernel_rfl) rfl #[.int .i64 a0] rfl (by (try simp only [List.map_toArray, List.map_cons, List.map_nil]); first | done | rfl | (simp only [List.length_drop, List.length_take]; rfl)) ?_; (with_reducible refine (zaQ.calls a0 true _ A4.out).mono ?_); rintro e w' ⟨rfl, ⟨nd, rfl⟩⟩; refine ⟨_, rfl, ?_⟩))
        go_ret
        exact ⟨by first | rfl | (simp; done) | (simp [*]; done), by repeat (first | exact zI.refl _ | apply zI.step)⟩
      · rw [if_neg c7] at H
        have c7b0 : decide (a1 ≤ 1048576) = false := decide_eq_false c7
        clear c7
        obtain rfl := Option.some.inj H
        go_enter Try.func38, Try.ntmps38
        go_wp2_with (first | ((with_reducible refine zu (f := 39) rfl ?_); refine zQ (some 8) rfl rfl Try.func39 (by kernel_rfl) rfl #[.int .i64 a0] rfl (by (try simp only [List.map_toArray, List.map_cons, List.map_nil]); first | done | rfl | (simp only [List.length_drop, List.length_take]; rfl)) ?_; (with_reducible refine (zaQ.calls a0 true _ A4.out).mono ?_); rintro e w' ⟨rfl, ⟨nd, rfl⟩⟩; refine ⟨_, rfl, ?_⟩))
        go_ret
        exact ⟨by first | rfl | (simp; done) | (simp [*]; done), by repeat (first | exact zI.refl _ | apply zI.step)⟩
    · rw [if_neg c6] at H
      have c6b0 : decide (1 ≤ a1) = false := decide_eq_false c6
      clear c6
      obtain rfl := Option.some.inj H
      go_enter Try.func38, Try.ntmps38
      go_wp2_with (first | ((with_reducible refine zu (f := 39) rfl ?_); refine zQ (some 8) rfl rfl Try.func39 (by kernel_rfl) rfl #[.int .i64 a0] rfl (by (try simp only [List.map_toArray, List.map_cons, List.map_nil]); first | done | rfl | (simp only [List.length_drop, List.length_take]; rfl)) ?_; (with_reducible refine (zaQ.calls a0 true _ A4.out).mono ?_); rintro e w' ⟨rfl, ⟨nd, rfl⟩⟩; refine ⟨_, rfl, ?_⟩))
      go_ret
      exact ⟨by first | rfl | (simp; done) | (simp [*]; done), by repeat (first | exact zI.refl _ | apply zI.step)⟩
  · replace c5 := Bool.eq_false_iff.mpr c5
    subst c5
    have H1 : (some false) = some r := by rw [if_neg (show ¬ (false = true) by decide)] at H; exact H
    clear H
    have H := H1
    clear H1
    obtain rfl := Option.some.inj H
    go_enter Try.func38, Try.ntmps38
    go_wp2_with (first | ((with_reducible refine zu (f := 39) rfl ?_); refine zQ (some 8) rfl rfl Try.func39 (by kernel_rfl) rfl #[.int .i64 a0] rfl (by (try simp only [List.map_toArray, List.map_cons, List.map_nil]); first | done | rfl | (simp only [List.length_drop, List.length_take]; rfl)) ?_; (with_reducible refine (zaQ.calls a0 false _ A4.out).mono ?_); rintro e w' ⟨rfl, ⟨nd, rfl⟩⟩; refine ⟨_, rfl, ?_⟩))
    go_ret
    exact ⟨by first | rfl | (simp; done) | (simp [*]; done), by repeat (first | exact zI.refl _ | apply zI.step)⟩
end Go.Proofs.Ytenbifjbeeobjaa.Px
