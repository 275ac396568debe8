/- part 26 of the proof of the law PostOwn: texts merged by this session's bundle.py. What is proved: the statement at the end of the last of these texts; its conditions are those of the given row. -/
import Derived.Test.YtenbifjbeeobjaaRows
import Derived.WalkKit
import Derived.ProofKit
import Derived.OpenShut
import Derived.ShutString
import Derived.ChangeOld
import Derived.Below
import Derived.SizedLaws
import Derived.Test.YtenbifjbeeobjaaZPostOwnD
import Derived.Test.YtenbifjbeeobjaaZPostOwnE
import Derived.Test.YtenbifjbeeobjaaZPostOwnF
import Derived.Test.YtenbifjbeeobjaaZPostOwnJ
import Derived.Test.YtenbifjbeeobjaaZPostOwnM
import Derived.Test.YtenbifjbeeobjaaZPostOwnN
import Derived.Test.YtenbifjbeeobjaaZPostOwnO
import Derived.Test.YtenbifjbeeobjaaZPostOwnS
import Derived.Test.YtenbifjbeeobjaaZPostOwnT
import Derived.Test.YtenbifjbeeobjaaZPostOwnU
import Derived.Test.YtenbifjbeeobjaaZPostOwnV
import Derived.Test.YtenbifjbeeobjaaZPostOwnW
import Derived.Test.YtenbifjbeeobjaaZPostOwnX
import Derived.Test.YtenbifjbeeobjaaZPostOwnY
namespace Go.Proofs.Ytenbifjbeeobjaa.Px
open Go.RowKit Go.Proofs.YtenbifjbeeobjaaW.PrintWords Go.Proofs.YtenbifjbeeobjaaW.PrintLast Go.Proofs.YtenbifjbeeobjaaW.PrintMore
attribute [local go_sem] max2_int min2_int max_two min_two max_three min_three max_four min_four
set_option linter.unusedVariables false
set_option linter.unusedSimpArgs false
def post_Ballot.T3 : Bool × List (List Nat × List Nat) := (true, [([], []), ([0], [0]), ([1], [1]), ([2], [2]), ([3], [3]), ([], []), ([5], [5]), ([6], [6]), ([7, 3], [7]), ([4, 8], [4, 8]), ([], []), ([10], [10]), ([9, 11], [9, 11]), ([12, 8, 0, 1, 2, 3, 4, 5, 6, 7, 8, 9, 10, 11, 12], [12]), ([13, 0, 1, 2, 3, 4, 5, 6, 7, 8, 9, 10, 11, 12, 13], [])])
def post_Ballot.B3 : List Nat := [0, 1, 3, 7, 15, 0, 32, 96, 239, 511, 0, 1024, 4095, 8191, 16383]
theorem post_Ballot.tab3 : rtab .any (opsOf Try.f22 3) = post_Ballot.T3 := by kernel_rfl
theorem post_Ballot.bits3 : waitsOk post_Ballot.T3.2 post_Ballot.B3 = true := by kernel_rfl
end Go.Proofs.Ytenbifjbeeobjaa.Px

namespace Go.Proofs.Ytenbifjbeeobjaa.Px
open Go.RowKit Go.Proofs.YtenbifjbeeobjaaW.PrintWords Go.Proofs.YtenbifjbeeobjaaW.PrintLast Go.Proofs.YtenbifjbeeobjaaW.PrintMore
attribute [local go_sem] max2_int min2_int max_two min_two max_three min_three max_four min_four
set_option linter.unusedVariables false
set_option linter.unusedSimpArgs false
theorem digits_NumZ {x : Int} (h0 : 0 ≤ x) (h1 : x < 9223372036854775808) : digits_Num.f (IntKind.u64.wrap x) = some (numB x.toNat) := by
  rw [u64_wrap_of h0 (by omega), digits_Num.f, if_pos h0, if_pos (by omega)]
theorem namedB_iff (a r : Int) (d : ByteArray) : namedB a r d = true ↔ 1 ≤ a ∧ a ≤ 64 ∧ 1 ≤ r ∧ r ≤ 1048576 ∧ d.size = 32 := by
  unfold namedB; simp [and_assoc]
theorem seatB_iff (a : Int) : seatB a = true ↔ 1 ≤ a ∧ a ≤ 64 := by
  unfold seatB; simp
def sayW (a r v : Int) (d : ByteArray) : Bs := numL a.toNat ++ (numL r.toNat ++ (numL v.toNat ++ ofB d))
def sayR (a r v : Int) (d : ByteArray) : ByteArray × Int := if namedB a r d = true ∧ seatB v = true then (toB (121 :: sayW a r v d), 0) else ((⟨#[]⟩ : ByteArray), 1)
theorem sayB_eq (a r v : Nat) (d : ByteArray) : ((((⟨#[121]⟩ : ByteArray) ++ numB a) ++ numB r) ++ numB v) ++ d = toB (121 :: (numL a ++ (numL r ++ (numL v ++ ofB d)))) := by
  apply ofB_inj
  simp only [ofB_append, ofB_toB, numB]
  show (([121] : Bs) ++ numL a ++ numL r ++ numL v ++ ofB d) = _
  simp
theorem size_one (c : UInt8) : (⟨#[c]⟩ : ByteArray).size = 1 := rfl
theorem post_Say_ev (a r v : Int) (d : ByteArray) : Ev (fun k => post_Say.f k a r v d) (sayR a r v d) := by
  refine ev_bind_const (post_may_of _ _ _) ?_
  unfold sayR
  have bad : Ev (fun k => post_Say.j0 k true a r v d) ((⟨#[]⟩ : ByteArray), 1) := Ev.step (fun k => by rw [post_Say.j0]) (ev_pos rfl (Ev.now _))
  by_cases h : namedB a r d = true
  · refine ev_pos h (ev_bind_const (post_seat_of _) ?_)
    by_cases hv : seatB v = true
    · rw [if_pos ⟨h, hv⟩, hv]
      refine Ev.step (fun k => by rw [post_Say.j0]) ?_
      obtain ⟨h1, h2, h3, h4, h5⟩ := (namedB_iff _ _ _).1 h
      obtain ⟨h6, h7⟩ := (seatB_iff _).1 hv
      have s0 := numB_size (v := a.toNat) (by omega)
      have s1 := numB_size (v := r.toNat) (by omega)
      have s2 := numB_size (v := v.toNat) (by omega)
      refine ev_neg (by simp) (ev_bind_const (digits_NumZ (by omega) (by omega)) (ev_pos (by omega) (ev_bind_const (digits_NumZ (by omega) (by omega)) (ev_pos (by rw [ByteArray.size_append, size_one]; omega) (ev_bind_const (digits_NumZ (by omega) (by omega)) (ev_pos (by simp only [ByteArray.size_append, size_one]; omega) (ev_pos (by simp only [ByteArray.size_append, size_one]; omega) ?_)))))))
      rw [sayB_eq, ← sayW]
      exact Ev.now _
    · rw [if_neg (fun hh => hv hh.2)]
      rw [Bool.not_eq_true] at hv
      rw [hv]; exact bad
  · rw [if_neg (fun hh => h hh.1)]
    exact ev_neg h bad
theorem post_TakeSay_of (s : ByteArray) (hs : s.size < 4611686018427387904) : post_TakeSay.f s = some (takeSayB s) := by
  unfold post_TakeSay.f post_behind_Say.f
  rw [if_pos ⟨rfl, hs⟩]
  rfl
theorem post_TakeBallot_of (s : ByteArray) (hs : s.size < 4611686018427387904) : post_TakeBallot.f s = some (takeBallotB s) := by
  unfold post_TakeBallot.f post_behind_Ballot.f
  rw [if_pos ⟨rfl, hs⟩]
  rfl
theorem post_Kind_of (s : ByteArray) : post_Kind.f s = some ((((ofB s).head?.map (fun c => (c.toNat : Int))).getD 0)) := by
  unfold post_Kind.f
  rw [toList_ofB]
  rcases hq : ofB s with _ | ⟨c, t⟩
  · rfl
  · have hz : s.size = t.length + 1 := by rw [← ofB_length, hq]; rfl
    rw [if_neg (by simp), if_pos (by omega)]
    have := bt_ofB s 0
    rw [hq] at this
    rw [show ((0 : Nat) : Int) = 0 from rfl] at this
    rw [this]; rfl
def d32 : ByteArray := strOfNums (List.replicate 32 0)
theorem d32_size : d32.size = 32 := by
  rw [d32, strOfNums_toB, toB_size, List.length_map, List.length_replicate]
theorem shown18_ev : Ev (fun k => selvedgelaw18_shown.f k) true := by
  unfold selvedgelaw18_shown.f
  refine ev_pos (by omega) (ev_bind_const rfl ?_)
  have hn : namedB 1 2 d32 = true := by rw [namedB_iff]; exact ⟨by omega, by omega, by omega, by omega, d32_size⟩
  have hz : (strOfNums (List.replicate 32 0)).size = 32 := d32_size
  refine Ev.bind (post_Say_ev 1 2 3 d32) (ev_pos (by omega) ?_)
  have hs : sayR 1 2 3 d32 = (toB (121 :: sayW 1 2 3 d32), 0) := if_pos ⟨hn, by decide⟩
  have b3 : be 3 = [3] := by rw [be_pos (by omega)]; simp [be_zero]
  have e : (toB (121 :: sayW 1 2 3 d32)).toList = ((⟨#[121, 1, 1, 1, 2, 1, 3]⟩ : ByteArray) ++ strOfNums (List.replicate 32 0)).toList := by
    rw [toList_ofB, toList_ofB, ofB_toB, ofB_append]
    show 121 :: (numL 1 ++ (numL 2 ++ (numL 3 ++ ofB d32))) = _
    rw [numL, numL, numL, be_1, be_2, b3]
    rfl
  rw [hs]
  refine ev_pos e (ev_pos rfl (ev_bind_const (post_Kind_of _) (ev_pos rfl (ev_bind_const (post_Kind_of _) (ev_eq (Ev.now _) ?_)))))
  rw [ofB_toB]; rfl
end Go.Proofs.Ytenbifjbeeobjaa.Px

namespace Go.Proofs.Ytenbifjbeeobjaa.Px
open Go.RowKit Go.Proofs.YtenbifjbeeobjaaW.PrintWords Go.Proofs.YtenbifjbeeobjaaW.PrintLast Go.Proofs.YtenbifjbeeobjaaW.PrintMore
attribute [local go_sem] max2_int min2_int max_two min_two max_three min_three max_four min_four
set_option linter.unusedVariables false
set_option linter.unusedSimpArgs false
end Go.Proofs.Ytenbifjbeeobjaa.Px

namespace Go.Proofs.Ytenbifjbeeobjaa.Px
open Go.RowKit Go.Proofs.YtenbifjbeeobjaaW.PrintWords Go.Proofs.YtenbifjbeeobjaaW.PrintLast Go.Proofs.YtenbifjbeeobjaaW.PrintMore
attribute [local go_sem] max2_int min2_int max_two min_two max_three min_three max_four min_four
set_option linter.unusedVariables false
set_option linter.unusedSimpArgs false
end Go.Proofs.Ytenbifjbeeobjaa.Px

namespace Go.Proofs.Ytenbifjbeeobjaa.Px
open Go.RowKit Go.Proofs.YtenbifjbeeobjaaW.PrintWords Go.Proofs.YtenbifjbeeobjaaW.PrintLast Go.Proofs.YtenbifjbeeobjaaW.PrintMore
attribute [local go_sem] max2_int min2_int max_two min_two max_three min_three max_four min_four
set_option linter.unusedVariables false
set_option linter.unusedSimpArgs false
end Go.Proofs.Ytenbifjbeeobjaa.Px

namespace Go.Proofs.Ytenbifjbeeobjaa.Px
open Go.RowKit Go.Proofs.YtenbifjbeeobjaaW.PrintWords Go.Proofs.YtenbifjbeeobjaaW.PrintLast Go.Proofs.YtenbifjbeeobjaaW.PrintMore
attribute [local go_sem] max2_int min2_int max_two min_two max_three min_three max_four min_four
set_option linter.unusedVariables false
set_option linter.unusedSimpArgs false
end Go.Proofs.Ytenbifjbeeobjaa.Px

namespace Go.Proofs.Ytenbifjbeeobjaa.Px
open Go.RowKit Go.Proofs.YtenbifjbeeobjaaW.PrintWords Go.Proofs.YtenbifjbeeobjaaW.PrintLast Go.Proofs.YtenbifjbeeobjaaW.PrintMore
attribute [local go_sem] max2_int min2_int max_two min_two max_three min_three max_four min_four
set_option linter.unusedVariables false
set_option linter.unusedSimpArgs false
end Go.Proofs.Ytenbifjbeeobjaa.Px

namespace Go.Proofs.Ytenbifjbeeobjaa.Px
open Go.RowKit Go.Proofs.YtenbifjbeeobjaaW.PrintWords Go.Proofs.YtenbifjbeeobjaaW.PrintLast Go.Proofs.YtenbifjbeeobjaaW.PrintMore
attribute [local go_sem] max2_int min2_int max_two min_two max_three min_three max_four min_four
set_option linter.unusedVariables false
set_option linter.unusedSimpArgs false
end Go.Proofs.Ytenbifjbeeobjaa.Px

namespace Go.Proofs.Ytenbifjbeeobjaa.Px
open Go.RowKit Go.Proofs.YtenbifjbeeobjaaW.PrintWords Go.Proofs.YtenbifjbeeobjaaW.PrintLast Go.Proofs.YtenbifjbeeobjaaW.PrintMore
attribute [local go_sem] max2_int min2_int max_two min_two max_three min_three max_four min_four
set_option linter.unusedVariables false
set_option linter.unusedSimpArgs false
end Go.Proofs.Ytenbifjbeeobjaa.Px

namespace Go.Proofs.Ytenbifjbeeobjaa.Px
open Go.RowKit Go.Proofs.YtenbifjbeeobjaaW.PrintWords Go.Proofs.YtenbifjbeeobjaaW.PrintLast Go.Proofs.YtenbifjbeeobjaaW.PrintMore
attribute [local go_sem] max2_int min2_int max_two min_two max_three min_three max_four min_four
set_option linter.unusedVariables false
set_option linter.unusedSimpArgs false
end Go.Proofs.Ytenbifjbeeobjaa.Px

namespace Go.Proofs.Ytenbifjbeeobjaa.Px
open Go.RowKit Go.Proofs.YtenbifjbeeobjaaW.PrintWords Go.Proofs.YtenbifjbeeobjaaW.PrintLast Go.Proofs.YtenbifjbeeobjaaW.PrintMore
attribute [local go_sem] max2_int min2_int max_two min_two max_three min_three max_four min_four
set_option linter.unusedVariables false
set_option linter.unusedSimpArgs false
end Go.Proofs.Ytenbifjbeeobjaa.Px

namespace Go.Proofs.Ytenbifjbeeobjaa.Px
open Go.RowKit Go.Proofs.YtenbifjbeeobjaaW.PrintWords Go.Proofs.YtenbifjbeeobjaaW.PrintLast Go.Proofs.YtenbifjbeeobjaaW.PrintMore
attribute [local go_sem] max2_int min2_int max_two min_two max_three min_three max_four min_four
set_option linter.unusedVariables false
set_option linter.unusedSimpArgs false
end Go.Proofs.Ytenbifjbeeobjaa.Px

namespace Go.Proofs.Ytenbifjbeeobjaa.Px
open Go.RowKit Go.Proofs.YtenbifjbeeobjaaW.PrintWords Go.Proofs.YtenbifjbeeobjaaW.PrintLast Go.Proofs.YtenbifjbeeobjaaW.PrintMore
attribute [local go_sem] max2_int min2_int max_two min_two max_three min_three max_four min_four
set_option linter.unusedVariables false
set_option linter.unusedSimpArgs false
end Go.Proofs.Ytenbifjbeeobjaa.Px

namespace Go.Proofs.Ytenbifjbeeobjaa.Px
open Go.RowKit Go.Proofs.YtenbifjbeeobjaaW.PrintWords Go.Proofs.YtenbifjbeeobjaaW.PrintLast Go.Proofs.YtenbifjbeeobjaaW.PrintMore
attribute [local go_sem] max2_int min2_int max_two min_two max_three min_three max_four min_four
set_option linter.unusedVariables false
set_option linter.unusedSimpArgs false
end Go.Proofs.Ytenbifjbeeobjaa.Px

namespace Go.Proofs.Ytenbifjbeeobjaa.Px
open Go.RowKit Go.Proofs.YtenbifjbeeobjaaW.PrintWords Go.Proofs.YtenbifjbeeobjaaW.PrintLast Go.Proofs.YtenbifjbeeobjaaW.PrintMore
attribute [local go_sem] max2_int min2_int max_two min_two max_three min_three max_four min_four
set_option linter.unusedVariables false
set_option linter.unusedSimpArgs false
theorem post_TakeTx_of (s : ByteArray) : post_TakeTx.f s = some (takeTxB s) := by
  unfold post_TakeTx.f post_behind_string.f
  rw [if_pos rfl]; rfl
theorem post_TakeHeader_of (s : ByteArray) (n : Int) (hs : s.size < 4611686018427387904) : post_TakeHeader.f s n = some (headV (ofB s) n) := if_pos hs
theorem post_TakeProof_of (s : ByteArray) (n : Int) (hs : s.size < 4611686018427387904) : post_TakeProof.f s n = some (headP (ofB s) n) := if_pos hs
theorem headV_err (s : Bs) (n : Int) : (headV s n).2.2.2.2.2.2 = 3 ∨ (headV s n).2.2.2.2.2.2 = 0 ∧ s.head? = some 104 := by
  unfold headV
  rcases s with _ | ⟨c, t⟩
  · exact .inl rfl
  · simp only
    split
    · rename_i hc
      rcases takeV_ok t n with h | ⟨a, r, bs, ps, x, y, h, _⟩
      · rw [h]; exact .inl rfl
      · rw [h]; exact .inr ⟨rfl, by rw [hc]; rfl⟩
    · exact .inl rfl
theorem headP_err (s : Bs) (n : Int) : (headP s n).2.2.2.2.2.2.2 = 3 ∨ (headP s n).2.2.2.2.2.2.2 = 0 ∧ s.head? = some 99 := by
  unfold headP
  rcases s with _ | ⟨c, t⟩
  · exact .inl rfl
  · simp only
    split
    · rename_i hc
      rcases takeP_ok t n with h | ⟨a, r, bs, ps, x, y, z, h, _⟩
      · rw [h]; exact .inl rfl
      · rw [h]; exact .inr ⟨rfl, by rw [hc]; rfl⟩
    · exact .inl rfl
theorem takeSayB_err (s : ByteArray) : (takeSayB s).2.2.2.2 = 3 ∨ (takeSayB s).2.2.2.2 = 0 ∧ (ofB s).head? = some 121 := by
  unfold takeSayB
  rcases ofB s with _ | ⟨c, t⟩
  · exact .inl rfl
  · simp only
    split
    · rename_i hc
      rcases sayL t with _ | x
      · exact .inl rfl
      · exact .inr ⟨rfl, by rw [hc]; rfl⟩
    · exact .inl rfl
theorem takeBallotB_err (s : ByteArray) : (takeBallotB s).2.2.2 = 3 ∨ (takeBallotB s).2.2.2 = 0 ∧ (ofB s).head? = some 118 := by
  unfold takeBallotB
  rcases ofB s with _ | ⟨c, t⟩
  · exact .inl rfl
  · simp only
    split
    · rename_i hc
      rcases ballotL t with _ | x
      · exact .inl rfl
      · exact .inr ⟨rfl, by rw [hc]; rfl⟩
    · exact .inl rfl
theorem takeTxB_err (s : ByteArray) : (takeTxB s).2 = 3 ∨ (takeTxB s).2 = 0 ∧ (ofB s).head? = some 116 := by
  unfold takeTxB
  rcases ofB s with _ | ⟨c, t⟩
  · exact .inl rfl
  · simp only
    split
    · rename_i hc; exact .inr ⟨rfl, by rw [hc]; rfl⟩
    · exact .inl rfl
end Go.Proofs.Ytenbifjbeeobjaa.Px

namespace Go.Proofs.Ytenbifjbeeobjaa.Pure
open Go.RowKit Go.Proofs.Ytenbifjbeeobjaa.Px Go.Proofs.YtenbifjbeeobjaaW.PrintWords Go.Proofs.YtenbifjbeeobjaaW.PrintLast Go.Proofs.YtenbifjbeeobjaaW.PrintMore
def zeros : List Int → Nat
  | [] => 0
  | x :: l => (if x = 0 then 1 else 0) + zeros l
theorem own_loop (L : List Int) (h : ∀ x ∈ L, x = 0 ∨ x = 3) (hl : L.length ≤ 100) (d : Nat) : ∀ (j c : Nat), j + d = L.length → c + zeros (L.drop j) ≤ 1 → Ev (fun k => selvedgelaw18_PostOwn.l0 k (c : Int) true L (j : Int)) true := by
  induction d with
  | zero =>
    intro j c hj hc
    refine Ev.step (fun k => by rw [selvedgelaw18_PostOwn.l0]) ?_
    exact ev_neg (by omega) (ev_pos rfl (ev_eq (Ev.now _) (by simp; omega)))
  | succ d ih =>
    intro j c hj hc
    have hj' : j < L.length := by omega
    refine Ev.step (fun k => by rw [selvedgelaw18_PostOwn.l0]) ?_
    refine ev_pos (by omega) (ev_pos (by omega) ?_)
    have e1 : rd L (j : Int) = L[j] := by
      unfold rd
      rw [Int.toNat_natCast, List.getD_eq_getElem?_getD, List.getElem?_eq_getElem hj']; rfl
    have e2 : wrap64 ((j : Int) + 1) = ((j + 1 : Nat) : Int) := by rw [wrap64_of (by omega) (by omega)]; omega
    have e3 : wrap64 ((c : Int) + 1) = ((c + 1 : Nat) : Int) := by rw [wrap64_of (by omega) (by omega)]; omega
    rw [List.drop_eq_getElem_cons hj', zeros] at hc
    rw [e1, e2, e3]
    rcases h _ (List.getElem_mem hj') with hx | hx
    · rw [hx] at hc ⊢
      exact ev_pos rfl (ih (j + 1) (c + 1) (by omega) (by rw [if_pos rfl] at hc; omega))
    · rw [hx] at hc ⊢
      exact ev_neg (by decide) (ev_pos rfl (ih (j + 1) c (by omega) (by omega)))
theorem PostOwn : selvedgelaw18_PostOwn.Pure := by
  intro s n hs _
  have hs' : s.size < 4611686018427387904 := by omega
  refine Ev.rounds (Ev.bind shown18_ev (ev_bind_const (post_TakeHeader_of s n hs') (ev_bind_const (post_TakeProof_of s n hs') (ev_bind_const (post_TakeSay_of s hs') (ev_bind_const (post_TakeBallot_of s hs') (ev_bind_const (post_TakeTx_of s) ?_))))))
  have e1 := headV_err (ofB s) n
  have e2 := headP_err (ofB s) n
  have e3 := takeSayB_err s
  have e4 := takeBallotB_err s
  have e5 := takeTxB_err s
  generalize (headV (ofB s) n).2.2.2.2.2.2 = x1 at *
  generalize (headP (ofB s) n).2.2.2.2.2.2.2 = x2 at *
  generalize (takeSayB s).2.2.2.2 = x3 at *
  generalize (takeBallotB s).2.2.2 = x4 at *
  generalize (takeTxB s).2 = x5 at *
  refine own_loop [x1, x2, x3, x4, x5] ?_ (by simp) 5 0 0 rfl ?_
  · intro x hx
    simp only [List.mem_cons, List.not_mem_nil, or_false] at hx
    rcases hx with rfl | rfl | rfl | rfl | rfl <;> omega
  · simp only [List.drop_zero, zeros]
    rcases e1 with rfl | ⟨rfl, k1⟩ <;> rcases e2 with rfl | ⟨rfl, k2⟩ <;> rcases e3 with rfl | ⟨rfl, k3⟩ <;> rcases e4 with rfl | ⟨rfl, k4⟩ <;> rcases e5 with rfl | ⟨rfl, k5⟩ <;> first | decide | simp_all
end Go.Proofs.Ytenbifjbeeobjaa.Pure

namespace Go.Proofs.Ytenbifjbeeobjaa.postOwn
open Go.ChangeShapes Go.WideShapes Go.ChangeAt Go.RowKit
open Go.ChangeMaps (open_string shut_string)
set_option linter.unusedVariables false
theorem own : ownKnob Try.prog.godebug = none := by kernel_rfl
set_option maxRecDepth 100000 in
theorem lifted (os : Os) (started : os.Started) (H : Type) (enc : TypeId × Value → H) :
    ReturnsInHanded {} Try.checked os 4 .any (Rows.postOwnSpec.pre6 enc Try.prog Try.f4 Rows.postOwnRow.domain false) (Rows.postOwnSpec.post enc Try.prog Try.f4 false true false false) := by
  refine returnsInHanded_of_change_sized (C := Try.checked) own started (by kernel_rfl) Try.func4
    (ChangeSpec.witness6 (enc := enc) (C := Try.checked) false ⟨#[], #[.string ByteArray.empty, .int .i64 0], []⟩ 8 (by kernel_rfl) (by kernel_rfl) (by kernel_rfl) (by kernel_rfl)) ?_
  intro W base args ds gs before hval0 hW hcnd hsz0 _
  have hsz : (DataW.weightsEach Try.prog (Try.f4.params.toList ++ Rows.postOwnSpec.plain.varTypes Try.prog) (ds ++ gs)).all (· ≤ reachBytes) = true := hsz0
  have hval : ∀ (j : Nat) t v, Try.f4.params[j]? = some t → args[j]? = some v → Value.okWide Try.prog W .any base t v := hval0
  have hW' := hW
  obtain ⟨p, q, hA0, hV, rfl, hfz, hnd⟩ := hW
  have hA : DataW.TrodAll enc Try.prog W 0 (fun _ => true) true Try.f4.params.toList args.toList ds p := hA0
  rw [Try.params4] at hA hval hsz
  obtain ⟨v0, vs0, d0, ds0, p0, q0, hargs, rfl, rfl, h0, r0⟩ := trodAll_cons hA
  obtain ⟨v1, vs1, d1, ds1, p1, q1, rfl, rfl, rfl, h1, r1⟩ := trodAll_cons r0
  obtain ⟨rfl, rfl, rfl⟩ := trodAll_nil r1
  obtain rfl : args = #[v0, v1] := by cases args; simp_all
  obtain ⟨rfl, rfl⟩ := trodVars_none hV
  obtain ⟨a0, rfl, rfl, rfl, y0⟩ := open_string Try.underlying9 (hval 0 9 v0 rfl rfl) h0
  have w0 : a0.size ≤ 140737488351232 := by
    have z := sized_string hsz (j := 0) (t := 9) rfl rfl
    rw [Array.length_toList] at z
    exact z
  obtain ⟨a1, rfl, rfl, rfl, w1⟩ := open_int Try.underlying3 (hval 1 3 v1 rfl rfl) h1
  clear hA0 hval0 hsz0 hsz
  refine (Px.selvedgelaw18_PostOwn.walk Pure.PostOwn a0 a1 W w0 w1).mono fun e W' ⟨he, bel⟩ => ?_
  subst he
  exact ⟨_, rfl, _, _, _, [], _, [], hW', trodAll_mk1 (shut_bool Try.underlying4 _), (trodAll_cons_mk (shut_string Try.underlying9 y0) (trodAll_cons_mk (shut_int Try.underlying3 w1) trodAll_mk0)), rfl, bel.frame _, fun h => by cases h⟩
theorem over : Rows.postOwnRow.holds Try.pinned (OpenSpec.ofChange Rows.postOwnSpec) :=
  OpenClaim.holds_of_wide 4 Try.f4 rfl rfl rfl rfl rfl rfl rfl ⟨rfl, rfl, rfl, rfl, rfl⟩ rfl rfl rfl rfl rfl (by kernel_rfl) Try.func4 (by kernel_rfl)
    (of_decide_eq_true (by kernel_rfl)) (by unfold Func.isWrapper; first | (rw [if_pos (by decide +kernel)]; kernel_rfl) | (rw [if_neg (by decide +kernel)]; exact ⟨rfl, rfl⟩))
    (fun os started H enc _ => lifted os started H enc)
theorem proved : Rows.PostOwnSaid := over
#print axioms proved
end Go.Proofs.Ytenbifjbeeobjaa.postOwn
namespace Go.Proofs.Ytenbifjbeeobjaa
theorem postOwn_holds : Rows.PostOwnSaid := postOwn.proved
end Go.Proofs.Ytenbifjbeeobjaa
