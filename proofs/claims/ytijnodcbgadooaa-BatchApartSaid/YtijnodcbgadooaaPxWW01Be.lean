-- printed by this session's pprint.py (the kit's print, with this session's plugs) out of the translation; Lean checks it
import Derived.Test.YtijnodcbgadooaaPx0
namespace Go.Proofs.Ytijnodcbgadooaa.Px
open Go.RowKit Go.Proofs.YtijnodcbgadooaaW.PrintWords Go.Proofs.YtijnodcbgadooaaW.PrintLast Go.Proofs.YtijnodcbgadooaaW.PrintMore
attribute [local go_sem] max2_int min2_int max_two min_two max_three min_three max_four min_four   -- for this text's walks alone
set_option linter.unusedVariables false
set_option linter.unusedSimpArgs false

/-! ### words: w01_be.tpl -/

/-! bytes as lists -/
abbrev Bs := List UInt8
def toB (l : Bs) : ByteArray := ⟨l.toArray⟩
def ofB (s : ByteArray) : Bs := s.data.toList
theorem ofB_toB (l : Bs) : ofB (toB l) = l := by simp [ofB, toB]
theorem toB_ofB (s : ByteArray) : toB (ofB s) = s := by simp [ofB, toB]
theorem ofB_inj {a b : ByteArray} (h : ofB a = ofB b) : a = b := by rw [← toB_ofB a, ← toB_ofB b, h]
theorem ofB_length (s : ByteArray) : (ofB s).length = s.size := by rw [ofB, Array.length_toList]; rfl
theorem toB_size (l : Bs) : (toB l).size = l.length := by rw [← ofB_length, ofB_toB]
theorem ofB_append (a b : ByteArray) : ofB (a ++ b) = ofB a ++ ofB b := by simp [ofB]
theorem toB_append (a b : Bs) : toB (a ++ b) = toB a ++ toB b := ofB_inj (by rw [ofB_append, ofB_toB, ofB_toB, ofB_toB])
theorem toList_ofB (s : ByteArray) : s.toList = ofB s := ByteArray.toList_eq s
theorem ofB_extract (s : ByteArray) (i j : Nat) : ofB (s.extract i j) = ((ofB s).drop i).take (j - i) := by
  simp only [ofB, ByteArray.data_extract, Array.toList_extract, List.extract]
theorem toB_inj {a b : Bs} (h : toB a = toB b) : a = b := by rw [← ofB_toB a, ← ofB_toB b, h]
theorem ofB_empty : ofB (⟨#[]⟩ : ByteArray) = [] := rfl
theorem toB_nil : toB [] = (⟨#[]⟩ : ByteArray) := rfl
theorem bt_ofB (s : ByteArray) (i : Nat) : bt s (i : Int) = (((ofB s).getD i 0).toNat : Int) := by
  unfold bt ofB
  split
  · rename_i h
    have h' : i < s.data.toList.length := by rw [data_length]; simpa using h
    simp [List.getD_eq_getElem?_getD, List.getElem?_eq_getElem h']
    rfl
  · rename_i h
    have h' : s.data.toList.length ≤ i := by rw [data_length]; simp at h; omega
    simp [List.getD_eq_getElem?_getD, List.getElem?_eq_none h']
theorem strOfNums_toB (xs : List Int) : strOfNums xs = toB (xs.map fun n => UInt8.ofNat n.toNat) := rfl

/-! numbers -/
/-- the bytes of a number, the highest first -/
def be (v : Nat) : Bs := if v = 0 then [] else be (v / 256) ++ [UInt8.ofNat (v % 256)]
termination_by v
decreasing_by omega
theorem be_zero : be 0 = [] := by rw [be]; simp
theorem be_pos {v : Nat} (h : 0 < v) : be v = be (v / 256) ++ [UInt8.ofNat (v % 256)] := by rw [be, if_neg (by omega)]
/-- the number of bytes -/
def val (l : Bs) : Nat := l.foldl (fun a c => a * 256 + c.toNat) 0
theorem val_snoc (l : Bs) (c : UInt8) : val (l ++ [c]) = val l * 256 + c.toNat := by simp [val]
theorem val_nil : val [] = 0 := rfl
theorem val_be (v : Nat) : val (be v) = v := by
  induction v using Nat.strongRecOn with
  | _ v ih =>
    rcases Nat.eq_zero_or_pos v with h | h
    · subst h; rw [be_zero]; rfl
    · rw [be_pos h, val_snoc, ih _ (by omega)]
      have : (UInt8.ofNat (v % 256)).toNat = v % 256 := by simp
      omega
theorem be_length (n : Nat) : ∀ v : Nat, (be v).length ≤ n ↔ v < 256 ^ n := by
  induction n with
  | zero =>
    intro v
    rcases Nat.eq_zero_or_pos v with h | h
    · subst h; simp [be_zero]
    · rw [be_pos h]; simp; omega
  | succ n ih =>
    intro v
    rcases Nat.eq_zero_or_pos v with h | h
    · subst h; simp [be_zero, Nat.pow_pos]
    · rw [be_pos h, List.length_append, List.length_singleton, Nat.succ_le_succ_iff, ih, Nat.pow_succ, Nat.mul_comm, Nat.div_lt_iff_lt_mul (by omega), Nat.mul_comm]
theorem be_len8 {v : Nat} (h : v < 18446744073709551616) : (be v).length ≤ 8 := by
  have : (256 : Nat) ^ 8 = 18446744073709551616 := by decide
  exact (be_length 8 v).2 (by rw [this]; exact h)
theorem be_head (v : Nat) (h : 0 < v) : ∃ c t, be v = c :: t ∧ c ≠ 0 := by
  induction v using Nat.strongRecOn with
  | _ v ih =>
    rw [be_pos h]
    rcases Nat.eq_zero_or_pos (v / 256) with h0 | h0
    · rw [h0, be_zero]
      refine ⟨_, _, rfl, ?_⟩
      have e : v % 256 = v := Nat.mod_eq_of_lt (by omega)
      intro hz
      have := congrArg UInt8.toNat hz
      simp at this
      omega
    · obtain ⟨c, t, e, hc⟩ := ih (v / 256) (by omega) h0
      exact ⟨c, t ++ [_], by rw [e]; rfl, hc⟩
theorem val_lt (l : Bs) : val l < 256 ^ l.length := by
  suffices h : ∀ (r : Bs), val r.reverse < 256 ^ r.length by
    have := h l.reverse; rwa [List.reverse_reverse, List.length_reverse] at this
  intro r
  induction r with
  | nil => simp [val]
  | cons c r ih =>
    rw [List.reverse_cons, val_snoc, List.length_cons, Nat.pow_succ]
    have := c.toNat_lt
    omega
theorem be_val (l : Bs) (h : ∀ c t, l = c :: t → c ≠ 0) : be (val l) = l := by
  suffices k : ∀ (n : Nat) (l : Bs), l.length = n → (∀ c t, l = c :: t → c ≠ 0) → be (val l) = l ∧ (l ≠ [] → 0 < val l) from (k _ l rfl h).1
  intro n
  induction n with
  | zero => intro l hl _; obtain rfl := List.eq_nil_of_length_eq_zero hl; exact ⟨be_zero, fun h => absurd rfl h⟩
  | succ n ih =>
    intro l hl hh
    obtain ⟨r, x, rfl⟩ : ∃ r x, l = r ++ [x] := ⟨l.dropLast, l.getLast (by intro e; subst e; simp at hl), (List.dropLast_concat_getLast _).symm⟩
    have hr : r.length = n := by simpa using hl
    have hrh : ∀ c t, r = c :: t → c ≠ 0 := fun c t e => hh c (t ++ [x]) (by rw [e]; rfl)
    obtain ⟨h1, h2⟩ := ih r hr hrh
    have hx := x.toNat_lt
    have hp : 0 < val (r ++ [x]) := by
      rw [val_snoc]
      rcases r with _ | ⟨c, t⟩
      · have := hh x [] rfl
        have h0 : x.toNat ≠ 0 := fun e => this (UInt8.toNat_inj.1 (by simpa using e))
        simp [val]; omega
      · have := h2 (by simp); omega
    refine ⟨?_, fun _ => hp⟩
    rw [be_pos hp, val_snoc]
    have e1 : (val r * 256 + x.toNat) / 256 = val r := by omega
    have e2 : (val r * 256 + x.toNat) % 256 = x.toNat := by omega
    rw [e1, e2, h1]; simp
/-- a number's bytes -/
def numL (v : Nat) : Bs := UInt8.ofNat (be v).length :: be v
def numB (v : Nat) : ByteArray := toB (numL v)

/-! taking a number: (its value, what is behind it, the error) -/
def takeNumL : Bs → Nat × Bs × Int
  | [] => (0, [], 2)
  | c :: t => if 8 < c.toNat then (0, [], 3) else if t.length < c.toNat then (0, [], 2) else if 0 < c.toNat ∧ t.getD 0 0 = 0 then (0, [], 3) else (val (t.take c.toNat), t.drop c.toNat, 0)
theorem takeNumL_num {v : Nat} (hv : v < 18446744073709551616) (r : Bs) : takeNumL (numL v ++ r) = (v, r, 0) := by
  have hl := be_len8 hv
  have hc : (UInt8.ofNat (be v).length).toNat = (be v).length := by simp; omega
  rw [show numL v ++ r = UInt8.ofNat (be v).length :: (be v ++ r) from rfl, takeNumL]
  rw [hc, if_neg (by omega), if_neg (by rw [List.length_append]; omega), if_neg ?_]
  · rw [List.take_left, List.drop_left, val_be]
  · rintro ⟨h1, h2⟩
    have hv0 : 0 < v := by
      rcases Nat.eq_zero_or_pos v with h | h
      · subst h; simp [be_zero] at h1
      · exact h
    obtain ⟨c, t, e, hc⟩ := be_head v hv0
    rw [e] at h2
    exact hc h2
theorem takeNumL_ok {s r : Bs} {v : Nat} (h : takeNumL s = (v, r, 0)) : s = numL v ++ r ∧ v < 18446744073709551616 := by
  match s, h with
  | [], h => simp [takeNumL] at h
  | c :: t, h =>
    simp only [takeNumL] at h
    split at h
    · simp at h
    · rename_i h8
      split at h
      · simp at h
      · rename_i hlen
        split at h
        · simp at h
        · rename_i hz
          simp only [Prod.mk.injEq, and_true] at h
          obtain ⟨rfl, rfl⟩ := h
          have hb : be (val (t.take c.toNat)) = t.take c.toNat := be_val _ (by
            intro x y e hx
            apply hz
            rcases Nat.eq_zero_or_pos c.toNat with h0 | h0
            · rw [h0] at e; simp at e
            · refine ⟨h0, ?_⟩
              rcases t with _ | ⟨z, t⟩
              · simp at e
              · obtain ⟨m, hm⟩ : ∃ m, c.toNat = m + 1 := ⟨c.toNat - 1, by omega⟩
                rw [hm, List.take_succ_cons] at e
                injection e with e1 _
                simp [e1, hx])
          have hn : (be (val (t.take c.toNat))).length = c.toNat := by rw [hb, List.length_take]; omega
          refine ⟨?_, ?_⟩
          · rw [numL, hn, hb, List.cons_append, List.take_append_drop]; simp
          · have := val_lt (t.take c.toNat)
            rw [List.length_take, Nat.min_eq_left (by omega)] at this
            have h2 : 256 ^ c.toNat ≤ 256 ^ 8 := Nat.pow_le_pow_right (by omega) (by omega)
            have : (256 : Nat) ^ 8 = 18446744073709551616 := by decide
            omega
theorem takeNumL_err {s r : Bs} {v : Nat} {e : Int} (h : takeNumL s = (v, r, e)) : e = 0 ∨ (v = 0 ∧ r = [] ∧ (e = 2 ∨ e = 3)) := by
  match s, h with
  | [], h => simp [takeNumL] at h; obtain ⟨rfl, rfl, rfl⟩ := h; simp
  | c :: t, h =>
    simp only [takeNumL] at h
    (repeat' split at h) <;> (simp only [Prod.mk.injEq] at h; obtain ⟨rfl, rfl, rfl⟩ := h; simp)
/-! a text's bytes -/
def textL (t : Bs) : Bs := numL t.length ++ t
def textB (t : ByteArray) : ByteArray := numB t.size ++ t
theorem textB_eq (t : ByteArray) : textB t = toB (textL (ofB t)) := by rw [textL, toB_append, toB_ofB, ofB_length]; rfl
theorem numL_length {v : Nat} (h : v < 18446744073709551616) : (numL v).length ≤ 9 := by
  have := be_len8 h
  simp only [numL, List.length_cons]; omega
theorem numB_size {v : Nat} (h : v < 18446744073709551616) : (numB v).size ≤ 9 := by rw [numB, toB_size]; exact numL_length h
theorem numB_strOfNums (v : Nat) (L : List Int) (h : L.map (fun n => UInt8.ofNat n.toNat) = be v) : strOfNums ((L.length : Int) :: L) = numB v := by
  rw [strOfNums_toB, List.map_cons, h, numB, numL]
  have : L.length = (be v).length := by rw [← h, List.length_map]
  rw [this, Int.toNat_natCast]


end Go.Proofs.Ytijnodcbgadooaa.Px
