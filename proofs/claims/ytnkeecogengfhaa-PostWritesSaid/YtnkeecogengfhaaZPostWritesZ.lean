/- part 26 of the proof of the law PostWrites: texts merged by this session's bundle.py. What is proved: the statement at the end of the last of these texts; its conditions are those of the given row. -/
import Derived.Test.YtnkeecogengfhaaZPostWritesD
import Derived.Test.YtnkeecogengfhaaZPostWritesE
import Derived.Test.YtnkeecogengfhaaZPostWritesI
import Derived.Test.YtnkeecogengfhaaZPostWritesJ
import Derived.Test.YtnkeecogengfhaaZPostWritesL
import Derived.Test.YtnkeecogengfhaaZPostWritesM
import Derived.Test.YtnkeecogengfhaaZPostWritesN
import Derived.Test.YtnkeecogengfhaaZPostWritesO
import Derived.Test.YtnkeecogengfhaaZPostWritesP
import Derived.Test.YtnkeecogengfhaaZPostWritesU
import Derived.Test.YtnkeecogengfhaaZPostWritesV
import Derived.Test.YtnkeecogengfhaaZPostWritesW
import Derived.Test.YtnkeecogengfhaaZPostWritesX
import Derived.Test.YtnkeecogengfhaaZPostWritesY
namespace Go.Proofs.Ytnkeecogengfhaa.Px
open Go.RowKit Go.Proofs.YtnkeecogengfhaaW.PrintWords Go.Proofs.YtnkeecogengfhaaW.PrintLast Go.Proofs.YtnkeecogengfhaaW.PrintMore
attribute [local go_sem] max2_int min2_int max_two min_two max_three min_three max_four min_four
set_option linter.unusedVariables false
set_option linter.unusedSimpArgs false
def withinS (s : Nat) (n : Int) : Bool := decide (0 ≤ n) && decide (n ≤ 64) && decide (s < 2 ^ n.toNat)
theorem withinS_iff (s : Nat) (n : Int) : withinS s n = true ↔ 0 ≤ n ∧ n ≤ 64 ∧ s < 2 ^ n.toNat := by
  unfold withinS; simp [and_assoc]
theorem div_zero_iff (s p : Nat) (hp : 0 < p) : s / p = 0 ↔ s < p := by
  rw [Nat.div_eq_zero_iff]; omega
theorem seats_Within_of (s : Nat) (n : Int) : seats_Within.f (s : Int) n = some (withinS s n) := by
  unfold seats_Within.f
  by_cases h1 : n < 0
  · rw [if_pos h1]
    have : withinS s n = false := by rw [← Bool.not_eq_true, withinS_iff]; omega
    rw [this]
  rw [if_neg h1]
  by_cases h2 : n > 64
  · rw [if_pos h2]
    have : withinS s n = false := by rw [← Bool.not_eq_true, withinS_iff]; omega
    rw [this]
  rw [if_neg h2, wrap64_of (by omega) (by omega)]
  by_cases h3 : n > 0
  · obtain ⟨m, rfl⟩ : ∃ m : Nat, n = ((m + 1 : Nat) : Int) := ⟨(n - 1).toNat, by omega⟩
    have hm : mx (((m + 1 : Nat) : Int) - 1) 0 = (m : Int) := by unfold mx; split <;> omega
    have hs : shr .u64 ((s : Int) / 2) (m : Int) = ((s / 2 / 2 ^ m : Nat) : Int) := by
      unfold shr
      rw [Int.toNat_natCast, Nat.min_eq_left (by show m ≤ 64; omega), show (s : Int) / 2 = ((s / 2 : Nat) : Int) by omega]
      norm_cast
    have he : s / 2 / 2 ^ m = s / 2 ^ (m + 1) := by rw [Nat.div_div_eq_div_mul, Nat.pow_succ, Nat.mul_comm]
    rw [hm, hs, he]
    have key := div_zero_iff s (2 ^ (m + 1)) (Nat.two_pow_pos _)
    by_cases h4 : s / 2 ^ (m + 1) = 0
    · rw [if_pos (by omega), if_pos h3]
      have : withinS s ((m + 1 : Nat) : Int) = true := by rw [withinS_iff]; exact ⟨by omega, by omega, key.1 h4⟩
      rw [this]
    · rw [if_neg (by omega)]
      have : withinS s ((m + 1 : Nat) : Int) = false := by
        rw [← Bool.not_eq_true, withinS_iff]
        exact fun hh => h4 (key.2 hh.2.2)
      rw [this]
  · obtain rfl : n = 0 := by omega
    have hm : mx ((0 : Int) - 1) 0 = 0 := by decide
    have hs : shr .u64 ((s : Int) / 2) 0 = (s : Int) / 2 := by unfold shr; simp
    have hw : withinS s 0 = decide (s = 0) := by
      rw [Bool.eq_iff_iff, withinS_iff]; simp
    rw [hm, hs, hw]
    by_cases h4 : s = 0
    · subst h4; rfl
    · by_cases h5 : (s : Int) / 2 = 0
      · rw [if_pos h5, if_neg (by omega)]
        congr 1
        rw [Bool.eq_iff_iff]; simp
      · rw [if_neg h5]; simp [h4]
theorem seats_Count_of (s : Nat) (hs : s < 18446744073709551616) : seats_Count.f (s : Int) = some ((popA 64 s : Nat) : Int) := by
  unfold seats_Count.f
  rw [bits_OnesCount64_of s hs]; rfl
def seatsL : Nat → Nat → Nat → List Int
  | 0, _, _ => []
  | d + 1, id, s => (if s % 2 = 1 then [(id : Int)] else []) ++ seatsL d (id + 1) (s / 2)
theorem seatsL_length : ∀ d id s, (seatsL d id s).length = popA d s
  | 0, _, _ => rfl
  | d + 1, id, s => by
    rw [seatsL, popA, List.length_append, seatsL_length d]
    split
    · rename_i h; rw [h]; rfl
    · rename_i h; have : s % 2 = 0 := by omega
      rw [this]; rfl
theorem refList_l0 (d : Nat) : ∀ (id s : Nat) (acc : List Int), id + d = 65 → acc.length ≤ id → s < 18446744073709551616 → Ev (fun k => selvedgeref05_List.l0 k (s : Int) acc (id : Int)) (acc ++ seatsL d id s) := by
  induction d with
  | zero =>
    intro id s acc h ha hs
    refine Ev.step (fun k => by rw [selvedgeref05_List.l0]) ?_
    exact ev_neg (by omega) (ev_eq (Ev.now _) (by simp [seatsL]))
  | succ d ih =>
    intro id s acc h ha hs
    refine Ev.step (fun k => by rw [selvedgeref05_List.l0]) ?_
    refine ev_pos (by omega) ?_
    have e1 : IntKind.u64.wrap (Int.tdiv (s : Int) 2) = ((s / 2 : Nat) : Int) := by
      rw [Int.tdiv_eq_ediv_of_nonneg (by omega), u64_wrap_of (by omega) (by omega)]; omega
    have e2 : wrap64 ((id : Int) + 1) = ((id + 1 : Nat) : Int) := by rw [wrap64_of (by omega) (by omega)]; omega
    have e3 : Int.tmod (s : Int) 2 = ((s % 2 : Nat) : Int) := by rw [Int.tmod_eq_emod_of_nonneg (by omega)]; omega
    rw [e1, e2, e3]
    by_cases hb : s % 2 = 1
    · refine ev_pos (by omega) (ev_pos (by omega) (ev_eq (ih (id + 1) (s / 2) (acc ++ [(id : Int)]) (by omega) (by rw [List.length_append]; simp; omega) (by omega)) ?_))
      rw [seatsL, if_pos hb, List.append_assoc]
    · refine ev_neg (by omega) (ev_eq (ih (id + 1) (s / 2) acc (by omega) (by omega) (by omega)) ?_)
      rw [seatsL, if_neg hb, List.nil_append]
theorem refList_ev (s : Nat) (hs : s < 18446744073709551616) : Ev (fun k => selvedgeref05_List.f k (s : Int)) (seatsL 64 1 s) :=
  refList_l0 64 1 s [] (by omega) (by simp) hs
theorem refCount_ev (s : Nat) (hs : s < 18446744073709551616) : Ev (fun k => selvedgeref05_Count.f k (s : Int)) ((popA 64 s : Nat) : Int) :=
  Ev.bind (refList_ev s hs) (ev_eq (Ev.now _) (by rw [seatsL_length]))
theorem seatsL_zero : ∀ d id, seatsL d id 0 = []
  | 0, _ => rfl
  | d + 1, id => by rw [seatsL, seatsL_zero d]; rfl
theorem seatsL_last : ∀ d id s, s < 2 ^ d → 0 < s → ∃ t : Nat, (seatsL d id s).getLast? = some ((id + t : Nat) : Int) ∧ 2 ^ t ≤ s ∧ s < 2 ^ (t + 1)
  | 0, _, s, h, h0 => by simp at h; omega
  | d + 1, id, s, h, h0 => by
    rw [Nat.pow_succ] at h
    rcases Nat.eq_zero_or_pos (s / 2) with hz | hz
    · refine ⟨0, ?_, by show 1 ≤ s; omega, by simp; omega⟩
      rw [seatsL, hz, seatsL_zero, List.append_nil, if_pos (by omega)]; rfl
    · obtain ⟨t, h1, h2, h3⟩ := seatsL_last d (id + 1) (s / 2) (by omega) hz
      refine ⟨t + 1, ?_, by rw [Nat.pow_succ]; omega, by rw [Nat.pow_succ]; omega⟩
      rw [seatsL, List.getLast?_append, h1]
      simp only [Option.some_or]
      congr 2; omega
theorem refWithin_ev (s : Nat) (hs : s < 18446744073709551616) (n : Int) : Ev (fun k => selvedgeref05_Within.f k (s : Int) n) (withinS s n) := by
  by_cases h1 : n < 0
  · have : withinS s n = false := by rw [← Bool.not_eq_true, withinS_iff]; omega
    rw [this]; exact ev_pos h1 (Ev.now _)
  refine ev_neg h1 ?_
  by_cases h2 : n > 64
  · have : withinS s n = false := by rw [← Bool.not_eq_true, withinS_iff]; omega
    rw [this]; exact ev_pos h2 (Ev.now _)
  refine ev_neg h2 (Ev.bind (refList_ev s hs) ?_)
  have h64 : s < 2 ^ 64 := hs
  rcases Nat.eq_zero_or_pos s with h0 | h0
  · subst h0
    rw [seatsL_zero]
    have : withinS 0 n = true := by rw [withinS_iff]; exact ⟨by omega, by omega, Nat.two_pow_pos _⟩
    rw [this]; exact ev_pos rfl (Ev.now _)
  · obtain ⟨t, k1, k2, k3⟩ := seatsL_last 64 1 s h64 h0
    have hne : seatsL 64 1 s ≠ [] := fun hh => by rw [hh] at k1; cases k1
    have hl := seatsL_length 64 1 s
    have hp := popA_le 64 s
    have hlp : 0 < (seatsL 64 1 s).length := List.length_pos_iff.2 hne
    generalize seatsL 64 1 s = L at *
    have e1 : wrap64 ((L.length : Int) - 1) = ((L.length - 1 : Nat) : Int) := by rw [wrap64_of (by omega) (by omega)]; omega
    refine ev_neg (by omega) ?_
    rw [e1]
    refine ev_pos (by omega) (ev_pos (by omega) (ev_eq (Ev.now _) ?_))
    have e2 : rd L ((L.length - 1 : Nat) : Int) = ((1 + t : Nat) : Int) := by
      rw [List.getLast?_eq_getElem?] at k1
      unfold rd
      rw [Int.toNat_natCast, List.getD_eq_getElem?_getD, k1]; rfl
    rw [e2, Bool.eq_iff_iff, decide_eq_true_iff, withinS_iff]
    constructor
    · intro hh
      exact ⟨by omega, by omega, Nat.lt_of_lt_of_le k3 (Nat.pow_le_pow_right (by omega) (by omega))⟩
    · rintro ⟨_, _, hh⟩
      have : t < n.toNat := (Nat.pow_lt_pow_iff_right (by omega : 1 < 2)).1 (Nat.lt_of_le_of_lt k2 hh)
      omega
def fitsR (a r : Int) (bs : List S61) (ps : List ByteArray) (x y : Int) (s : Nat) (n : Int) : Int :=
  if mayV a r bs ps x y n = true then if withinS s n = true then if ((popA 64 s : Nat) : Int) < quorumN n then 2 else 0 else 4 else 1
theorem cert_fits_of (a r : Int) (bs : List S61) (ps : List ByteArray) (x y : Int) (s : Nat) (hs : s < 18446744073709551616) (n : Int) : cert_fits.f a r bs ps x y (s : Int) n = some (fitsR a r bs ps x y s n) := by
  unfold cert_fits.f fitsR
  rw [show vertex_May.f a r bs ps x y n = some (mayV a r bs ps x y n) from rfl, seats_Within_of, seats_Count_of s hs, seats_Quorum_of]
  simp only [Option.bind_some]
  split
  · split
    · split <;> rfl
    · rfl
  · rfl
theorem refFits_ev (a r : Int) (bs : List S61) (ps : List ByteArray) (x y : Int) (s : Nat) (hs : s < 18446744073709551616) (n : Int) (hb : bs.length < 4611686018427387904) (hbs : ∀ b ∈ bs, b.f2.length < 4611686018427387904) (hl : ps.length < 4611686018427387904) (hp : ∀ t ∈ ps, t.size < 4611686018427387904) :
    Ev (fun k => selvedgeref10_Fits.f k a r bs ps x y (s : Int) n) (fitsR a r bs ps x y s n) := by
  refine Ev.bind (refVMay_ev a r bs ps x y n hb hbs hl hp) ?_
  unfold fitsR
  refine ev_ite (fun _ => Ev.bind (refWithin_ev s hs n) (ev_ite (fun _ => Ev.bind (refCount_ev s hs) (ev_bind_const (ref05_Quorum_of n) (ev_ite (fun _ => Ev.now _) (fun _ => Ev.now _)))) (fun _ => Ev.now _))) (fun _ => Ev.now _)
theorem fitsR_zero {a r : Int} {bs : List S61} {ps : List ByteArray} {x y : Int} {s : Nat} {n : Int} : fitsR a r bs ps x y s n = 0 ↔ mayV a r bs ps x y n = true ∧ withinS s n = true ∧ quorumN n ≤ ((popA 64 s : Nat) : Int) := by
  unfold fitsR
  by_cases h1 : mayV a r bs ps x y n = true
  · rw [if_pos h1]
    by_cases h2 : withinS s n = true
    · rw [if_pos h2]
      by_cases h3 : ((popA 64 s : Nat) : Int) < quorumN n
      · rw [if_pos h3]; simp; omega
      · rw [if_neg h3]; simp [h1, h2]; omega
    · rw [if_neg h2]; simp [h2]
  · rw [if_neg h1]; simp [h1]
def proofL (a r : Int) (bs : List S61) (ps : List ByteArray) (x y : Int) (s : Nat) : Bs := textL (vertexL a r bs ps x y) ++ numL s
def proofR (a r : Int) (bs : List S61) (ps : List ByteArray) (x y : Int) (s : Nat) (n : Int) : ByteArray × Int :=
  if fitsR a r bs ps x y s n = 0 then (toB (proofL a r bs ps x y s), 0) else ((⟨#[]⟩ : ByteArray), fitsR a r bs ps x y s n)
theorem textB_toB (l : Bs) : textB (toB l) = toB (textL l) := by rw [textB_eq, ofB_toB]
theorem cert_Bytes_of (a r : Int) (bs : List S61) (ps : List ByteArray) (x y : Int) (s : Nat) (hs : s < 18446744073709551616) (n : Int) : cert_Bytes.f a r bs ps x y (s : Int) n = some (proofR a r bs ps x y s n) := by
  unfold cert_Bytes.f proofR
  rw [cert_fits_of _ _ _ _ _ _ _ hs]
  simp only [Option.bind_some]
  by_cases h : fitsR a r bs ps x y s n = 0
  · rw [if_pos h, if_pos h]
    have hm := (fitsR_zero.1 h).1
    have hl := vertexL_len hm
    rw [vertex_Bytes_of, if_pos hm]
    simp only [Option.bind_some]
    have n1 := numB_size (v := s) hs
    have n2 := numB_size (v := (vertexL a r bs ps x y).length) (by omega)
    rw [digits_Text_of _ (by rw [toB_size]; omega), digits_Num_of s hs]
    simp only [Option.bind_some]
    rw [if_pos (by rw [textB, ByteArray.size_append, toB_size]; omega), textB_toB, proofL, toB_append]; rfl
  · rw [if_neg h, if_neg h]
theorem refProofBytes_ev (a r : Int) (bs : List S61) (ps : List ByteArray) (x y : Int) (s : Nat) (hs : s < 18446744073709551616) (n : Int) (hb : bs.length < 4611686018427387904) (hbs : ∀ b ∈ bs, b.f2.length < 4611686018427387904) (hp0 : ps.length < 4611686018427387904) (hp : ∀ t ∈ ps, t.size < 4611686018427387904) :
    Ev (fun k => selvedgeref10_Bytes.f k a r bs ps x y (s : Int) n) (proofR a r bs ps x y s n) := by
  refine Ev.bind (refFits_ev a r bs ps x y s hs n hb hbs hp0 hp) ?_
  unfold proofR
  by_cases h : fitsR a r bs ps x y s n = 0
  · rw [if_pos h]
    refine ev_pos h (Ev.bind (refVertexBytes_ev a r bs ps x y n hb hbs hp0 hp) ?_)
    have hm := (fitsR_zero.1 h).1
    have hl := vertexL_len hm
    have n1 := numB_size (v := s) hs
    have n2 := numB_size (v := (vertexL a r bs ps x y).length) (by omega)
    rw [vertexR, if_pos hm]
    refine ev_bind_const (selvedgeref01_Text_of _ (by rw [toB_size]; omega)) (Ev.bind (refNum_ev s hs) (ev_pos (by rw [textB, ByteArray.size_append, toB_size]; omega) (ev_eq (Ev.now _) ?_)))
    rw [textB_toB, proofL, toB_append]; rfl
  · rw [if_neg h]; exact ev_neg h (Ev.now _)
end Go.Proofs.Ytnkeecogengfhaa.Px

namespace Go.Proofs.Ytnkeecogengfhaa.Px
open Go.RowKit Go.Proofs.YtnkeecogengfhaaW.PrintWords Go.Proofs.YtnkeecogengfhaaW.PrintLast Go.Proofs.YtnkeecogengfhaaW.PrintMore
attribute [local go_sem] max2_int min2_int max_two min_two max_three min_three max_four min_four
set_option linter.unusedVariables false
set_option linter.unusedSimpArgs false
def headR (a r : Int) (bs : List S61) (ps : List ByteArray) (x y n : Int) : ByteArray × Int := if mayV a r bs ps x y n = true then (toB (104 :: vertexL a r bs ps x y), 0) else ((⟨#[]⟩ : ByteArray), 1)
def certR (a r : Int) (bs : List S61) (ps : List ByteArray) (x y : Int) (s : Nat) (n : Int) : ByteArray × Int :=
  if fitsR a r bs ps x y s n = 0 then (toB (99 :: proofL a r bs ps x y s), 0) else ((⟨#[]⟩ : ByteArray), fitsR a r bs ps x y s n)
theorem cons_toB (c : UInt8) (l : Bs) : (⟨#[c]⟩ : ByteArray) ++ toB l = toB (c :: l) := by
  rw [show (⟨#[c]⟩ : ByteArray) = toB [c] from rfl, ← toB_append]; rfl
theorem proofL_len {a r : Int} {bs : List S61} {ps : List ByteArray} {x y n : Int} (h : mayV a r bs ps x y n = true) {s : Nat} (hs : s < 18446744073709551616) : (proofL a r bs ps x y s).length ≤ 1000020 := by
  have hl := vertexL_len h
  have n1 := numL_length (v := s) hs
  have n2 := numL_length (v := (vertexL a r bs ps x y).length) (by omega)
  rw [proofL, textL, List.length_append, List.length_append]; omega
theorem post_Header_of (a r : Int) (bs : List S61) (ps : List ByteArray) (x y n : Int) : post_Header.f a r bs ps x y n = some (headR a r bs ps x y n) := by
  unfold post_Header.f headR
  rw [vertex_Bytes_of]
  simp only [Option.bind_some]
  by_cases h : mayV a r bs ps x y n = true
  · have hl := vertexL_len h
    rw [if_pos h, if_pos h, if_pos rfl, if_pos (by rw [toB_size]; omega), cons_toB]
  · rw [if_neg h, if_neg h]; rfl
theorem post_Proof_of (a r : Int) (bs : List S61) (ps : List ByteArray) (x y : Int) (s : Nat) (hs : s < 18446744073709551616) (n : Int) : post_Proof.f a r bs ps x y (s : Int) n = some (certR a r bs ps x y s n) := by
  unfold post_Proof.f certR
  rw [cert_Bytes_of _ _ _ _ _ _ _ hs]
  simp only [Option.bind_some, proofR]
  by_cases h : fitsR a r bs ps x y s n = 0
  · have hl := proofL_len (fitsR_zero.1 h).1 hs
    rw [if_pos h, if_pos h, if_pos rfl, if_pos (by rw [toB_size]; omega), cons_toB]
  · rw [if_neg h, if_neg h, if_neg h]
theorem post_Tx_of (d : ByteArray) (h : d.size ≤ 140737488351232) : post_Tx.f d = some (toB (116 :: ofB d)) := by
  unfold post_Tx.f
  rw [if_pos (by omega), ← cons_toB, toB_ofB]
def kindB (s : ByteArray) : Int := ((ofB s).head?.map (fun c => (c.toNat : Int))).getD 0
theorem refKind_of (s : ByteArray) : selvedgeref18_Kind.f s = some (kindB s) := by
  unfold selvedgeref18_Kind.f kindB
  have hz := ofB_length s
  rcases hq : ofB s with _ | ⟨c, t⟩
  · rw [hq] at hz
    rw [if_pos (by simp at hz; omega)]; rfl
  · rw [hq] at hz
    rw [List.length_cons] at hz
    rw [if_neg (by omega), if_pos (by omega)]
    have := bt_ofB s 0
    rw [hq] at this
    rw [show ((0 : Nat) : Int) = 0 from rfl] at this
    rw [this]; rfl
theorem ref18_named_of (a r : Int) (d : ByteArray) : selvedgeref18_named.f a r d = some (namedB a r d) := by
  unfold selvedgeref18_named.f
  by_cases h : namedB a r d = true
  · obtain ⟨h1, h2, h3, h4, h5⟩ := (namedB_iff _ _ _).1 h
    rw [if_pos h1, if_pos h2, if_pos h3, if_pos h4, h]
    congr 1
    rw [beq_iff_eq]; omega
  · rw [Bool.not_eq_true] at h
    have key : ¬ (1 ≤ a ∧ a ≤ 64 ∧ 1 ≤ r ∧ r ≤ 1048576 ∧ d.size = 32) := fun hh => by rw [(namedB_iff _ _ _).2 hh] at h; cases h
    rw [h]
    by_cases h1 : a ≥ 1
    · rw [if_pos h1]
      by_cases h2 : a ≤ 64
      · rw [if_pos h2]
        by_cases h3 : r ≥ 1
        · rw [if_pos h3]
          by_cases h4 : r ≤ 1048576
          · rw [if_pos h4]
            congr 1
            rw [beq_eq_false_iff_ne]
            intro he
            exact key ⟨h1, h2, h3, h4, by omega⟩
          · rw [if_neg h4]
        · rw [if_neg h3]
      · rw [if_neg h2]
    · rw [if_neg h1]
theorem refSay_ev (a r v : Int) (d : ByteArray) : Ev (fun k => selvedgeref18_Say.f k a r v d) (sayR a r v d) := by
  refine ev_bind_const (ref18_named_of _ _ _) ?_
  unfold sayR
  have bad : Ev (fun k => selvedgeref18_Say.j0 k true a r v d) ((⟨#[]⟩ : ByteArray), 1) := Ev.step (fun k => by rw [selvedgeref18_Say.j0]) (ev_pos rfl (Ev.now _))
  by_cases h : namedB a r d = true
  · refine ev_pos h ?_
    by_cases hv : seatB v = true
    · rw [if_pos ⟨h, hv⟩]
      obtain ⟨h1, h2, h3, h4, h5⟩ := (namedB_iff _ _ _).1 h
      obtain ⟨h6, h7⟩ := (seatB_iff _).1 hv
      refine ev_neg (by omega) ?_
      rw [decide_eq_false (show ¬ v > 64 by omega)]
      refine Ev.step (fun k => by rw [selvedgeref18_Say.j0]) ?_
      have s0 := numB_size (v := a.toNat) (by omega)
      have s1 := numB_size (v := r.toNat) (by omega)
      have s2 := numB_size (v := v.toNat) (by omega)
      refine ev_neg (by simp) (Ev.bind (refNumZ_ev (by omega) (by omega)) (ev_pos (by omega) (Ev.bind (refNumZ_ev (by omega) (by omega)) (ev_pos (by rw [ByteArray.size_append, size_one]; omega) (Ev.bind (refNumZ_ev (by omega) (by omega)) (ev_pos (by simp only [ByteArray.size_append, size_one]; omega) (ev_pos (by simp only [ByteArray.size_append, size_one]; omega) ?_)))))))
      rw [sayB_eq, ← sayW]
      exact Ev.now _
    · rw [if_neg (fun hh => hv hh.2)]
      have hv' : ¬ (1 ≤ v ∧ v ≤ 64) := fun hh => hv ((seatB_iff _).2 hh)
      by_cases h6 : v < 1
      · exact ev_pos h6 bad
      · refine ev_neg h6 ?_
        rw [decide_eq_true (show v > 64 by omega)]
        exact bad
  · rw [if_neg (fun hh => h hh.1)]
    exact ev_neg h bad
theorem refBallot_ev (a r : Int) (d : ByteArray) : Ev (fun k => selvedgeref18_Ballot.f k a r d) (ballotR a r d) := by
  refine ev_bind_const (ref18_named_of _ _ _) ?_
  unfold ballotR
  by_cases h : namedB a r d = true
  · rw [if_pos h]
    obtain ⟨h1, h2, h3, h4, h5⟩ := (namedB_iff _ _ _).1 h
    have s0 := numB_size (v := a.toNat) (by omega)
    have s1 := numB_size (v := r.toNat) (by omega)
    refine ev_pos h (Ev.bind (refNumZ_ev (by omega) (by omega)) (ev_pos (by omega) (Ev.bind (refNumZ_ev (by omega) (by omega)) (ev_pos (by rw [ByteArray.size_append, size_one]; omega) (ev_pos (by simp only [ByteArray.size_append, size_one]; omega) ?_)))))
    rw [ballotB_eq, ← ballotW]
    exact Ev.now _
  · rw [if_neg h]; exact ev_neg h (Ev.now _)
theorem refHeader_ev (a r : Int) (bs : List S61) (ps : List ByteArray) (x y n : Int) (hb : bs.length < 4611686018427387904) (hbs : ∀ b ∈ bs, b.f2.length < 4611686018427387904) (hl : ps.length < 4611686018427387904) (hp : ∀ t ∈ ps, t.size < 4611686018427387904) :
    Ev (fun k => selvedgeref18_Header.f k a r bs ps x y n) (headR a r bs ps x y n) := by
  refine Ev.bind (refVertexBytes_ev a r bs ps x y n hb hbs hl hp) ?_
  unfold vertexR headR
  by_cases h : mayV a r bs ps x y n = true
  · have hl := vertexL_len h
    rw [if_pos h, if_pos h]
    refine ev_pos rfl (ev_pos (by rw [toB_size]; omega) ?_)
    rw [cons_toB]; exact Ev.now _
  · rw [if_neg h, if_neg h]; exact ev_neg (by simp) (Ev.now _)
theorem refProof_ev (a r : Int) (bs : List S61) (ps : List ByteArray) (x y : Int) (s : Nat) (hs : s < 18446744073709551616) (n : Int) (hb : bs.length < 4611686018427387904) (hbs : ∀ b ∈ bs, b.f2.length < 4611686018427387904) (hl : ps.length < 4611686018427387904) (hp : ∀ t ∈ ps, t.size < 4611686018427387904) :
    Ev (fun k => selvedgeref18_Proof.f k a r bs ps x y (s : Int) n) (certR a r bs ps x y s n) := by
  refine Ev.bind (refProofBytes_ev a r bs ps x y s hs n hb hbs hl hp) ?_
  unfold proofR certR
  by_cases h : fitsR a r bs ps x y s n = 0
  · have hl := proofL_len (fitsR_zero.1 h).1 hs
    rw [if_pos h, if_pos h]
    refine ev_pos rfl (ev_pos (by rw [toB_size]; omega) ?_)
    rw [cons_toB]; exact Ev.now _
  · rw [if_neg h, if_neg h, if_neg h]; exact Ev.now _
end Go.Proofs.Ytnkeecogengfhaa.Px
