/- part 19 of the proof of the law VertexBack: texts merged by this session's bundle.py. What is proved: the statement at the end of the last of these texts; its conditions are those of the given row. -/
import Derived.WalkKit
import Derived.ProofKit
import Derived.OpenShut
import Derived.ShutString
import Derived.ChangeOld
import Derived.Below
import Derived.SizedLaws
import Derived.JoinedCond
import Derived.Carry
import Derived.WideShapes
import Derived.Test.YtfhjimeigelibaaZVertexBackD
import Derived.Test.YtfhjimeigelibaaZVertexBackE
import Derived.Test.YtfhjimeigelibaaZVertexBackG
import Derived.Test.YtfhjimeigelibaaZVertexBackH
import Derived.Test.YtfhjimeigelibaaZVertexBackI
import Derived.Test.YtfhjimeigelibaaZVertexBackM
import Derived.Test.YtfhjimeigelibaaZVertexBackO
import Derived.Test.YtfhjimeigelibaaZVertexBackP
import Derived.Test.YtfhjimeigelibaaZVertexBackQ
import Derived.Test.YtfhjimeigelibaaZVertexBackR
namespace Go.Proofs.Ytfhjimeigelibaa.Px
open Go.RowKit Go.Proofs.YtfhjimeigelibaaW.PrintWords Go.Proofs.YtfhjimeigelibaaW.PrintLast Go.Proofs.YtfhjimeigelibaaW.PrintMore
attribute [local go_sem] max2_int min2_int max_two min_two max_three min_three max_four min_four
set_option linter.unusedVariables false
set_option linter.unusedSimpArgs false
abbrev VT := Int × Int × List S24 × List ByteArray × Int × Int × Int
def badV : VT := (0, 0, [], [], 0, 0, 3)
def batchesL : List ByteArray → Option (List S24)
  | [] => some []
  | t :: l => if (takeBatchL (ofB t)).2.2.2 = 0 then (batchesL l).map (fun bs => ⟨(takeBatchL (ofB t)).1, (takeBatchL (ofB t)).2.1, (takeBatchL (ofB t)).2.2.1⟩ :: bs) else none
def endV (a r : Int) (ps : List ByteArray) (x y n : Int) : Option (List S24) → VT
  | none => badV
  | some bs => if mayV a r bs ps x y n = true then (a, r, bs, ps, x, y, 0) else badV
theorem batchesL_ok : ∀ {l : List ByteArray} {bs : List S24}, batchesL l = some bs → l = bs.map bB ∧ ∀ b ∈ bs, mayB b.f0 b.f1 b.f2 = true
  | [], bs, h => by
    have : bs = [] := (Option.some.inj h).symm
    subst this; exact ⟨rfl, fun b hb => absurd hb (by simp)⟩
  | t :: l, bs, h => by
    rw [batchesL] at h
    split at h
    · rename_i h0
      obtain ⟨cs, hc, rfl⟩ := Option.map_eq_some_iff.1 h
      obtain ⟨h1, h2⟩ := batchesL_ok hc
      rcases hq : takeBatchL (ofB t) with ⟨o, q, l', e⟩
      rw [hq] at h0
      simp only at h0
      subst h0
      obtain ⟨h3, h4⟩ := takeBatchL_ok hq
      refine ⟨?_, ?_⟩
      · rw [List.map_cons, ← h1, bB]
        simp only
        rw [if_pos h4, ← h3, toB_ofB]
      · intro b hb
        rcases List.mem_cons.1 hb with rfl | hb
        · exact h4
        · exact h2 b hb
    · cases h
theorem batchesL_map : ∀ {bs : List S24}, (∀ b ∈ bs, mayB b.f0 b.f1 b.f2 = true) → batchesL (bs.map bB) = some bs
  | [], _ => rfl
  | b :: bs, h => by
    have hb := h b List.mem_cons_self
    have e : takeBatchL (ofB (bB b)) = (b.f0, b.f1, b.f2, 0) := by rw [bB, if_pos hb, ofB_toB]; exact takeBatchL_batch hb
    rw [List.map_cons, batchesL, e, if_pos rfl, batchesL_map (fun c hc => h c (List.mem_cons_of_mem _ hc))]
    rfl
theorem takeRowL_rest (s : Bs) (many most : Int) : (takeRowL s many most).2.1.length ≤ s.length := by
  have key : ∀ (n : Nat) (s : Bs) (acc : List ByteArray), (takeTexts most n s acc).2.1.length ≤ s.length := by
    intro n
    induction n with
    | zero => intro s acc; exact Nat.le_refl _
    | succ n ih =>
      intro s acc
      rw [takeTexts]
      split
      · rename_i h0
        have := takeTextL_short h0
        exact Nat.le_trans (ih _ _) (by omega)
      · exact Nat.zero_le _
  have h := takeNumL_len s
  unfold takeRowL takeRowIf
  split
  · split
    · exact Nat.zero_le _
    · exact Nat.le_trans (key _ _ _) h
  · exact Nat.zero_le _
theorem numbersL_rest (s : Bs) : (numbersL s).2.2.1.length ≤ s.length := by
  unfold numbersL
  rcases h : smallL s with _ | ⟨a, s1⟩
  · exact Nat.zero_le _
  · simp only
    have h1 := smallL_len h
    rcases h' : smallL s1 with _ | ⟨b, s2⟩
    · exact Nat.zero_le _
    · have h2 := smallL_len h'
      simp only; omega
def vA (s : Bs) : List ByteArray × Bs × Int := takeRowL (numbersL s).2.2.1 4 65536
def vB (s : Bs) : List ByteArray × Bs × Int := takeRowL (vA s).2.1 64 32
def vC (s : Bs) : Int × Int × Bs × Bool := numbersL (vB s).2.1
def okV (s : Bs) : Prop := (numbersL s).2.2.2 = true ∧ (vA s).2.2 = 0 ∧ (vB s).2.2 = 0 ∧ (vC s).2.2.2 = true ∧ (vC s).2.2.1 = []
instance decOkV (s : Bs) : Decidable (okV s) := by unfold okV; infer_instance
def takeV (s : Bs) (n : Int) : VT := if okV s then endV (numbersL s).1 (numbersL s).2.1 (vB s).1 (vC s).1 (vC s).2.1 n (batchesL (vA s).1) else badV
theorem takeV_pos {s : Bs} {n : Int} (h : okV s) : takeV s n = endV (numbersL s).1 (numbersL s).2.1 (vB s).1 (vC s).1 (vC s).2.1 n (batchesL (vA s).1) := if_pos h
theorem takeV_neg {s : Bs} {n : Int} (h : ¬ okV s) : takeV s n = badV := if_neg h
theorem vA_small {s : Bs} (h : (vA s).2.2 = 0) : (vA s).1.length ≤ 4 ∧ ∀ t ∈ (vA s).1, t.size < 4611686018427387904 := by
  rcases hq : vA s with ⟨l, r, e⟩
  rw [hq] at h
  simp only at h ⊢
  subst h
  obtain ⟨_, h2, _, h4⟩ := takeRowL_ok hq
  exact ⟨by omega, fun t ht => by have := (h4 t ht).1; omega⟩
theorem vertexTake_loop (n : Int) (l : List ByteArray) (a r : Int) (ps : List ByteArray) (x y : Int) (hl : l.length ≤ 4) (hs : ∀ t ∈ l, t.size < 4611686018427387904) (d : Nat) : ∀ (j : Nat) (acc : List S24), j + d = l.length → acc.length = j →
    Ev (fun k => vertex_Take.l0 k n l (l.length : Int) (j : Int) a r acc ps x y) (endV a r ps x y n ((batchesL (l.drop j)).map (acc ++ ·))) := by
  induction d with
  | zero =>
    intro j acc hj ha
    refine Ev.step (fun k => by rw [vertex_Take.l0]) ?_
    rw [List.drop_eq_nil_of_le (by omega)]
    refine ev_neg (by omega) (ev_bind_const (show vertex_May.f a r acc ps x y n = some (mayV a r acc ps x y n) from rfl) ?_)
    show Ev _ (endV a r ps x y n (some (acc ++ [])))
    rw [List.append_nil, endV]
    by_cases h : mayV a r acc ps x y n = true
    · exact ev_eq (ev_pos h (Ev.now _)) (by rw [if_pos h])
    · exact ev_eq (ev_neg h (Ev.now _)) (by rw [if_neg h]; rfl)
  | succ d ih =>
    intro j acc hj ha
    have hj' : j < l.length := by omega
    refine Ev.step (fun k => by rw [vertex_Take.l0]) ?_
    refine ev_pos (by omega) (ev_pos (by omega) (ev_pos (by omega) ?_))
    rw [rdOf_at l j hj', List.drop_eq_getElem_cons hj']
    refine Ev.bind (batchTake_ev _ (hs _ (List.getElem_mem hj'))) ?_
    rw [batchesL]
    by_cases h : (takeBatchL (ofB l[j])).2.2.2 = 0
    · rw [if_pos h]
      refine ev_pos h (ev_pos (by omega) ?_)
      rw [wrap64_of (by omega) (by omega)]
      refine ev_eq (ih (j + 1) _ (by omega) (by rw [List.length_append, ha]; rfl)) ?_
      congr 1
      rcases batchesL (l.drop (j + 1)) with _ | bs
      · rfl
      · simp
    · rw [if_neg h]
      exact ev_neg h (Ev.now _)
theorem vertex_numbers_of (s : ByteArray) (hs : s.size < 4611686018427387904) : vertex_numbers.f s = some ((numbersL (ofB s)).1, (numbersL (ofB s)).2.1, toB (numbersL (ofB s)).2.2.1, (numbersL (ofB s)).2.2.2) := if_pos hs
theorem vertexTake_ev (s : ByteArray) (n : Int) (hs : s.size < 4611686018427387904) : Ev (fun k => vertex_Take.f k s n) (takeV (ofB s) n) := by
  have l0 : (ofB s).length < 4611686018427387904 := by rw [ofB_length]; exact hs
  have l1 := numbersL_rest (ofB s)
  have l2 : (vA (ofB s)).2.1.length ≤ _ := takeRowL_rest (numbersL (ofB s)).2.2.1 4 65536
  have l3 : (vB (ofB s)).2.1.length ≤ _ := takeRowL_rest (vA (ofB s)).2.1 64 32
  refine ev_bind_const (vertex_numbers_of s hs) ?_
  simp only
  refine ev_bind_const (digits_TakeRow_of _ 4 65536 (by decide) (by decide) (by rw [toB_size]; omega) (.inr (by omega))) ?_
  simp only [takeRowB, ofB_toB]
  refine ev_bind_const (digits_TakeRow_of _ 64 32 (by decide) (by decide) (by rw [toB_size]; exact Nat.lt_of_le_of_lt (Nat.le_trans l2 l1) l0) (.inr (by omega))) ?_
  simp only [takeRowB, ofB_toB]
  refine ev_bind_const (vertex_numbers_of _ (by rw [toB_size]; exact Nat.lt_of_le_of_lt (Nat.le_trans l3 (Nat.le_trans l2 l1)) l0)) ?_
  simp only [ofB_toB]
  have key : ∀ b : Bool, (b = true ↔ ¬ okV (ofB s)) → Ev (fun k => vertex_Take.j0 k n (vA (ofB s)).1 (vB (ofB s)).1 b (numbersL (ofB s)).1 (numbersL (ofB s)).2.1 (vC (ofB s)).1 (vC (ofB s)).2.1) (takeV (ofB s) n) := by
    intro b hb
    refine Ev.step (fun k => by rw [vertex_Take.j0]) ?_
    by_cases h : okV (ofB s)
    · rw [takeV_pos h]
      obtain ⟨h1, h2⟩ := vA_small h.2.1
      refine ev_neg (fun hh => hb.1 hh h) (ev_eq (vertexTake_loop n (vA (ofB s)).1 _ _ _ _ _ h1 h2 (vA (ofB s)).1.length 0 [] (by omega) rfl) ?_)
      rw [List.drop_zero]
      rcases batchesL (vA (ofB s)).1 with _ | bs <;> rfl
    · rw [takeV_neg h]
      exact ev_pos (hb.2 h) (Ev.now _)
  show Ev (fun k => if (numbersL (ofB s)).2.2.2 = true then (if (vA (ofB s)).2.2 = 0 then (if (vB (ofB s)).2.2 = 0 then (if (vC (ofB s)).2.2.2 = true then vertex_Take.j0 k n (vA (ofB s)).1 (vB (ofB s)).1 ((toB (vC (ofB s)).2.2.1).toList != ([] : List UInt8)) (numbersL (ofB s)).1 (numbersL (ofB s)).2.1 (vC (ofB s)).1 (vC (ofB s)).2.1 else _) else _) else _) else _) _
  by_cases h1 : (numbersL (ofB s)).2.2.2 = true
  · refine ev_pos h1 ?_
    by_cases h2 : (vA (ofB s)).2.2 = 0
    · refine ev_pos h2 ?_
      by_cases h3 : (vB (ofB s)).2.2 = 0
      · refine ev_pos h3 ?_
        by_cases h4 : (vC (ofB s)).2.2.2 = true
        · refine ev_pos h4 (key _ ?_)
          rw [toList_ofB, ofB_toB, bne_iff_ne]
          exact ⟨fun hh hv => hh hv.2.2.2.2, fun hh hv => hh ⟨h1, h2, h3, h4, hv⟩⟩
        · exact ev_neg h4 (key true ⟨fun _ hv => h4 hv.2.2.2.1, fun _ => rfl⟩)
      · exact ev_neg h3 (key true ⟨fun _ hv => h3 hv.2.2.1, fun _ => rfl⟩)
    · exact ev_neg h2 (key true ⟨fun _ hv => h2 hv.2.1, fun _ => rfl⟩)
  · exact ev_neg h1 (key true ⟨fun _ hv => h1 hv.1, fun _ => rfl⟩)
theorem numbersL_ok {s : Bs} (h : (numbersL s).2.2.2 = true) : ∃ a b : Nat, (numbersL s).1 = a ∧ (numbersL s).2.1 = b ∧ a ≤ 1048576 ∧ b ≤ 1048576 ∧ s = numL a ++ (numL b ++ (numbersL s).2.2.1) := by
  unfold numbersL at h ⊢
  rcases h1 : smallL s with _ | ⟨a, s1⟩
  · rw [h1] at h; cases h
  · rw [h1] at h
    simp only at h ⊢
    rcases h2 : smallL s1 with _ | ⟨b, s2⟩
    · rw [h2] at h; cases h
    · obtain ⟨e1, k1⟩ := smallL_ok h1
      obtain ⟨e2, k2⟩ := smallL_ok h2
      exact ⟨a, b, rfl, rfl, k1, k2, by rw [e1, e2]⟩
theorem numbersL_two {a b : Nat} (ha : a ≤ 1048576) (hb : b ≤ 1048576) (r : Bs) : numbersL (numL a ++ (numL b ++ r)) = ((a : Int), (b : Int), r, true) := by
  rw [numbersL, smallL_num ha]
  simp only
  rw [smallL_num hb]
theorem endV_err (a r : Int) (ps : List ByteArray) (x y n : Int) (o : Option (List S24)) : endV a r ps x y n o = badV ∨ ∃ bs, o = some bs ∧ mayV a r bs ps x y n = true ∧ endV a r ps x y n o = (a, r, bs, ps, x, y, 0) := by
  rcases o with _ | bs
  · exact .inl rfl
  · by_cases h : mayV a r bs ps x y n = true
    · exact .inr ⟨bs, rfl, h, if_pos h⟩
    · exact .inl (if_neg h)
theorem takeV_ok (s : Bs) (n : Int) : takeV s n = badV ∨ ∃ a r bs ps x y, takeV s n = (a, r, bs, ps, x, y, 0) ∧ mayV a r bs ps x y n = true ∧ s = vertexL a r bs ps x y := by
  by_cases h : okV s
  · rw [takeV_pos h]
    rcases endV_err (numbersL s).1 (numbersL s).2.1 (vB s).1 (vC s).1 (vC s).2.1 n (batchesL (vA s).1) with h0 | ⟨bs, h1, h2, h3⟩
    · exact .inl h0
    · refine .inr ⟨_, _, _, _, _, _, h3, h2, ?_⟩
      obtain ⟨k1, k2, k3, k4, k5⟩ := h
      obtain ⟨a, b, e1, e2, _, _, e3⟩ := numbersL_ok k1
      obtain ⟨c, d, e4, e5, _, _, e6⟩ := numbersL_ok k4
      obtain ⟨e7, _⟩ := batchesL_ok h1
      have r1 : (numbersL s).2.2.1 = rowL (vA s).1 ++ (vA s).2.1 := (takeRowL_ok (many := 4) (most := 65536) (show takeRowL (numbersL s).2.2.1 4 65536 = ((vA s).1, (vA s).2.1, 0) by rw [← k2]; rfl)).1
      have r2 : (vA s).2.1 = rowL (vB s).1 ++ (vB s).2.1 := (takeRowL_ok (many := 64) (most := 32) (show takeRowL (vA s).2.1 64 32 = ((vB s).1, (vB s).2.1, 0) by rw [← k3]; rfl)).1
      have e6' : (vB s).2.1 = numL c ++ (numL d ++ (vC s).2.2.1) := e6
      have e4' : (vC s).1 = c := e4
      have e5' : (vC s).2.1 = d := e5
      rw [k5, List.append_nil] at e6'
      rw [vertexL, e1, e2, e4', e5', Int.toNat_natCast, Int.toNat_natCast, Int.toNat_natCast, Int.toNat_natCast, ← e7]
      rw [e6'] at r2
      rw [r2] at r1
      rw [r1] at e3
      simp only [List.append_assoc]
      exact e3
  · exact .inl (takeV_neg h)
theorem takeV_vertex {a r : Int} {bs : List S24} {ps : List ByteArray} {x y n : Int} (h : mayV a r bs ps x y n = true) : takeV (vertexL a r bs ps x y) n = (a, r, bs, ps, x, y, 0) := by
  obtain ⟨h0, h1, h2, h3, h4, h5, h6, h7, h8, h9⟩ := (mayV_iff ..).1 h
  obtain ⟨k1, k2, k3⟩ := (mayN_iff n).1 h0
  obtain ⟨x1, x2, y1, y2⟩ := (mayE_iff x y).1 h7
  have hp := parentsB_small h0 h9
  obtain ⟨a', rfl⟩ := Int.eq_ofNat_of_zero_le (show 0 ≤ a by omega)
  obtain ⟨r', rfl⟩ := Int.eq_ofNat_of_zero_le (show 0 ≤ r by omega)
  obtain ⟨x', rfl⟩ := Int.eq_ofNat_of_zero_le x1
  obtain ⟨y', rfl⟩ := Int.eq_ofNat_of_zero_le y1
  have e1 : numbersL (vertexL a' r' bs ps x' y') = ((a' : Int), (r' : Int), rowL (bs.map bB) ++ (rowL ps ++ (numL x' ++ numL y')), true) := by
    rw [vertexL, Int.toNat_natCast, Int.toNat_natCast, Int.toNat_natCast, Int.toNat_natCast]
    simp only [List.append_assoc]
    exact numbersL_two (by omega) (by omega) _
  have e2 : vA (vertexL a' r' bs ps x' y') = (bs.map bB, rowL ps ++ (numL x' ++ numL y'), 0) := by
    rw [vA, e1]
    exact takeRowL_row (by rw [List.length_map]; omega) (by rw [List.length_map]; omega) (fun t ht => by
      obtain ⟨b, _, rfl⟩ := List.mem_map.1 ht
      have := bB_size b; omega) _
  have e3 : vB (vertexL a' r' bs ps x' y') = (ps, numL x' ++ numL y', 0) := by
    rw [vB, e2]
    exact takeRowL_row (by have := hp.1; omega) (by have := hp.1; omega) (fun t ht => by have := hp.2 t ht; omega) _
  have e4 : vC (vertexL a' r' bs ps x' y') = ((x' : Int), (y' : Int), [], true) := by
    rw [vC, e3]
    have := numbersL_two (a := x') (b := y') (by omega) (by omega) []
    rwa [List.append_nil] at this
  have hv : okV (vertexL a' r' bs ps x' y') := by
    unfold okV
    rw [e1, e2, e3, e4]
    exact ⟨rfl, rfl, rfl, rfl, rfl⟩
  rw [takeV_pos hv, e1, e2, e3, e4, batchesL_map (fun b hb => (any_odd h6 b hb).1), endV, if_pos h]
end Go.Proofs.Ytfhjimeigelibaa.Px

namespace Go.Proofs.Ytfhjimeigelibaa.Px
open Go.RowKit Go.Proofs.YtfhjimeigelibaaW.PrintWords Go.Proofs.YtfhjimeigelibaaW.PrintLast Go.Proofs.YtfhjimeigelibaaW.PrintMore
attribute [local go_sem] max2_int min2_int max_two min_two max_three min_three max_four min_four
set_option linter.unusedVariables false
set_option linter.unusedSimpArgs false
theorem vertexL_len {a r : Int} {bs : List S24} {ps : List ByteArray} {x y n : Int} (h : mayV a r bs ps x y n = true) : (vertexL a r bs ps x y).length ≤ 1000000 := by
  obtain ⟨h0, h1, h2, h3, h4, h5, h6, h7, h8, h9⟩ := (mayV_iff ..).1 h
  obtain ⟨k1, k2, k3⟩ := (mayN_iff n).1 h0
  obtain ⟨x1, x2, y1, y2⟩ := (mayE_iff x y).1 h7
  obtain ⟨p1, p2⟩ := parentsB_small h0 h9
  have r1 := rowOf_le (bs.map bB) 400 (by omega) (fun t ht => by
    obtain ⟨b, _, rfl⟩ := List.mem_map.1 ht
    exact bB_size b)
  have r2 := rowOf_le ps 32 (by omega) (fun t ht => by have := p2 t ht; omega)
  have l1 := numL_length (v := (bs.map bB).length) (by rw [List.length_map]; omega)
  have l2 := numL_length (v := ps.length) (by omega)
  have l3 := numL_length (v := a.toNat) (by omega)
  have l4 := numL_length (v := r.toNat) (by omega)
  have l5 := numL_length (v := x.toNat) (by omega)
  have l6 := numL_length (v := y.toNat) (by omega)
  have l7 : (bs.map bB).length = bs.length := List.length_map ..
  rw [vertexL, rowL, rowL]
  simp only [List.length_append]
  have m1 : (bs.map bB).length * (400 + 9) ≤ 4 * 409 := Nat.mul_le_mul (by omega) (by omega)
  have m2 : ps.length * (32 + 9) ≤ 64 * 41 := Nat.mul_le_mul (by omega) (by omega)
  omega
theorem takeV_none {s : Bs} {n : Int} (h : ∀ a r bs ps x y, mayV a r bs ps x y n = true → s ≠ vertexL a r bs ps x y) : takeV s n = badV := by
  rcases takeV_ok s n with h0 | ⟨a, r, bs, ps, x, y, _, hm, he⟩
  · exact h0
  · exact absurd he (h a r bs ps x y hm)
end Go.Proofs.Ytfhjimeigelibaa.Px

namespace Go.Proofs.Ytfhjimeigelibaa.Pure
open Go.RowKit Go.Proofs.Ytfhjimeigelibaa.Px Go.Proofs.YtfhjimeigelibaaW.PrintWords Go.Proofs.YtfhjimeigelibaaW.PrintLast Go.Proofs.YtfhjimeigelibaaW.PrintMore
theorem VertexBack : selvedgelaw08_VertexBack_PureS := by
  rintro a0 n cut _ _ _ _ _ _
  refine Ev.rounds (ev_bind_const shown08_of (ev_bind_const (vertex_Bytes_of ..) ?_))
  by_cases h : mayV a0.f0 a0.f1 a0.f2 a0.f3 a0.f4.f0 a0.f4.f1 n = true
  · rw [if_pos h]
    have hl := vertexL_len h
    have t1 := takeV_vertex h
    obtain ⟨k1, k2, k3⟩ := mayV_small h
    generalize hV : vertexL a0.f0 a0.f1 a0.f2 a0.f3 a0.f4.f0 a0.f4.f1 = V at *
    refine ev_pos rfl (Ev.bind (vertexTake_ev _ _ (by rw [toB_size]; omega)) (Ev.bind (refVertexSame_ev _ _ _ _ _ _ _ _ _ _ _ _ (by rw [ofB_toB, t1]; exact k1) (by rw [ofB_toB, t1]; exact k2) (by rw [ofB_toB, t1]; exact k3)) (ev_pos (by rw [toB_size]; omega) ?_)))
    refine Ev.bind (vertexTake_ev _ _ (by rw [ByteArray.size_append, toB_size]; show _ + 1 < _; omega)) ?_
    rw [ofB_toB, t1]
    have e0 : takeV (ofB (toB V ++ (⟨#[0]⟩ : ByteArray))) n = badV := by
      rw [ofB_append, ofB_toB]
      refine takeV_none (fun a r bs ps x y hm he => ?_)
      obtain ⟨_, _, _, _, _, _, h9⟩ := vertexL_cancel h hm (s := [0]) (t := []) (by rw [List.append_nil, hV]; exact he)
      cases h9
    rw [e0]
    refine ev_pos (by simp [vertexEq]) (ev_pos rfl (Ev.step (fun k => by rw [selvedgelaw08_VertexBack.j0]) ?_))
    refine ev_neg (by simp [badV]) ?_
    by_cases c1 : cut < 0
    · exact ev_pos c1 (Ev.now _)
    refine ev_neg c1 ?_
    by_cases c2 : cut ≥ ((toB V).size : Int)
    · exact ev_pos c2 (Ev.now _)
    rw [toB_size] at c2
    refine ev_neg (by rw [toB_size]; exact c2) (ev_pos (by omega) (ev_pos (by rw [toB_size]; omega) ?_))
    have ex : (toB V).extract 0 cut.toNat = toB (V.take cut.toNat) := by rw [extract_toB, List.drop_zero, Nat.sub_zero]
    rw [ex]
    refine Ev.bind (vertexTake_ev _ _ (by rw [toB_size, List.length_take]; omega)) (ev_pos rfl (ev_eq (Ev.now _) ?_))
    have e1 : takeV (ofB (toB (V.take cut.toNat))) n = badV := by
      rw [ofB_toB]
      refine takeV_none (fun a r bs ps x y hm he => ?_)
      obtain ⟨_, _, _, _, _, _, h9⟩ := vertexL_cancel h hm (s := []) (t := V.drop cut.toNat) (by rw [List.append_nil, ← he, List.take_append_drop, hV])
      have := congrArg List.length h9
      rw [List.length_drop, List.length_nil] at this
      omega
    rw [e1]; rfl
  · rw [if_neg h]
    refine ev_neg (by simp) (ev_pos rfl (ev_bind_const rfl (ev_eq (Ev.now _) ?_)))
    simpa using h
end Go.Proofs.Ytfhjimeigelibaa.Pure

namespace Go.Proofs.Ytfhjimeigelibaa.vertexBack
open Go.ChangeShapes Go.WideShapes Go.ChangeAt Go.RowKit
open Go.ChangeMaps (open_string shut_string)
open Go.RowKit Go.Proofs.Ytfhjimeigelibaa.Px Go.Proofs.YtfhjimeigelibaaW.PrintWords Go.Proofs.YtfhjimeigelibaaW.PrintLast Go.Proofs.YtfhjimeigelibaaW.PrintMore
set_option linter.unusedVariables false
theorem own : ownKnob Try.prog.godebug = none := by kernel_rfl
theorem laidOut : laidOutB Try.prog = true := by kernel_rfl
set_option maxRecDepth 100000 in
theorem contract (H : Type) (enc : TypeId × Value → H) (W : World) (base : Nat) (args : Array Value) (ds gs : List (DataW H)) (before : List MemPlace)
    (hval0 : ∀ (j : Nat) t v, Try.f5.params[j]? = some t → args[j]? = some v → Value.okWide Try.prog W .any base t v)
    (hW : DataW.Whole enc Try.prog Try.f5.params.toList Rows.vertexBackSpec.vars false W args.toList ds gs before)
    (hsz0 : (DataW.weightsEach Try.prog (Try.f5.params.toList ++ Rows.vertexBackSpec.plain.varTypes Try.prog) (ds ++ gs)).all (· ≤ reachBytes) = true) :
    Calls Try.prog 5 args W fun e W' => ∃ v, e = .returned v ∧ Rows.vertexBackSpec.post enc Try.prog Try.f5 false true false false W args v W' := by
  have hval : ∀ (j : Nat) t v, Try.f5.params[j]? = some t → args[j]? = some v → Value.okWide Try.prog W .any base t v := hval0
  have hW' := hW
  obtain ⟨p, q, hA0, hV, rfl, hfz, hnd⟩ := hW
  have hA : DataW.TrodAll enc Try.prog W 0 (fun _ => true) true Try.f5.params.toList args.toList ds p := hA0
  have hsz := hsz0
  rw [Try.params5] at hA hval hsz
  obtain ⟨v0, vs0, d0, ds0, p0, q0, hargs, rfl, rfl, h0, r0⟩ := trodAll_cons hA
  obtain ⟨v1, vs1, d1, ds1, p1, q1, rfl, rfl, rfl, h1, r1⟩ := trodAll_cons r0
  obtain ⟨v2, vs2, d2, ds2, p2, q2, rfl, rfl, rfl, h2, r2⟩ := trodAll_cons r1
  obtain ⟨rfl, rfl, rfl⟩ := trodAll_nil r2
  obtain rfl : args = #[v0, v1, v2] := by cases args; simp_all
  obtain ⟨rfl, rfl⟩ := trodVars_none hV
  have t0 := h0
  have lt0 : ∀ x ∈ p0, x.block < W.heap.size := by obtain ⟨m, hm⟩ := t0; exact DataW.trod_lt m _ _ _ hm
  have t1 := h1
  have lt1 : ∀ x ∈ p1, x.block < W.heap.size := by obtain ⟨m, hm⟩ := t1; exact DataW.trod_lt m _ _ _ hm
  have t2 := h2
  have lt2 : ∀ x ∈ p2, x.block < W.heap.size := by obtain ⟨m, hm⟩ := t2; exact DataW.trod_lt m _ _ _ hm
  obtain ⟨a0, K0, ok0, wt0, bk0⟩ := fit_arg fit38 h0
  have wq0 := wt0 (fun n hn => of_decide_eq_true (List.all_eq_true.1 hsz n (DataW.weights_mem_each (j := 0) (t := rd38.t) (d := d0) rfl rfl n hn)))
  obtain ⟨cs0, rfl, sz0⟩ := okWide_struct Try.underlying38 (hval 0 38 v0 rfl rfl)
  obtain ⟨A0_2, c0_2, A0_3, c0_3, e0, l0_2, g0_2, l0_3, g0_3⟩ := k38_open (show k38.K W a0 _ from K0)
  obtain rfl : cs0 = #[.int .i64 a0.f0, .int .i64 a0.f1, .slice A0_2 a0.f2.length c0_2, .slice A0_3 a0.f3.length c0_3, .int .i64 a0.f4.f0, .int .i64 a0.f4.f1] := by have := congrArg List.toArray e0; simpa [Value.cells] using this
  obtain ⟨a1, K1, ok1, wt1, bk1⟩ := fit_arg (fit_int Try.underlying3) h1
  have wq1 := wt1 (fun n hn => of_decide_eq_true (List.all_eq_true.1 hsz n (DataW.weights_mem_each (j := 1) (t := (rdInt 3 .i64).t) (d := d1) rfl rfl n hn)))
  obtain ⟨a1', rfl, rfl, rfl, y1⟩ := open_int Try.underlying3 (hval 1 3 v1 rfl rfl) h1
  have e1 : a1' = a1 := by have := K1; simpa [rdInt, rdBool, rdString, Kd.int, Kd.bool, Kd.string, Kd.scalar, Value.cells] using this
  subst e1
  obtain ⟨a2, K2, ok2, wt2, bk2⟩ := fit_arg (fit_int Try.underlying3) h2
  have wq2 := wt2 (fun n hn => of_decide_eq_true (List.all_eq_true.1 hsz n (DataW.weights_mem_each (j := 2) (t := (rdInt 3 .i64).t) (d := d2) rfl rfl n hn)))
  obtain ⟨a2', rfl, rfl, rfl, y2⟩ := open_int Try.underlying3 (hval 2 3 v2 rfl rfl) h2
  have e2 : a2' = a2 := by have := K2; simpa [rdInt, rdBool, rdString, Kd.int, Kd.bool, Kd.string, Kd.scalar, Value.cells] using this
  subst e2
  obtain ⟨kk, hkk⟩ := Pure.VertexBack a0 a1' a2' ok0 ok1 ok2 wq0 wq1 wq2
  refine (selvedgelaw08_VertexBack.calls kk (a0.f0) (a0.f1) A0_2 c0_2 (a0.f2) A0_3 c0_3 (a0.f3) (a0.f4.f0) (a0.f4.f1) a1' a2' true W g0_2 l0_2 g0_3 l0_3 hkk).mono fun e W' ⟨he, bel0⟩ => ?_
  have bel := bel0
  subst he
  exact ⟨_, rfl, _, _, _, [], _, [], hW', trodAll_mk1 (shut_bool Try.underlying4 _), (trodAll_cons_mk (Below.trod laidOut (by kernel_rfl) (of_decide_eq_true (by kernel_rfl)) t0 bel lt0) (trodAll_cons_mk (Below.trod laidOut (by kernel_rfl) (of_decide_eq_true (by kernel_rfl)) t1 bel lt1) (trodAll_cons_mk (Below.trod laidOut (by kernel_rfl) (of_decide_eq_true (by kernel_rfl)) t2 bel lt2) trodAll_mk0))), rfl, bel.frame _, fun h => by cases h⟩
set_option maxRecDepth 100000 in
theorem lifted (os : Os) (started : os.Started) (H : Type) (enc : TypeId × Value → H) :
    ReturnsInHanded {} Try.checked os 5 .any (Rows.vertexBackSpec.pre6 enc Try.prog Try.f5 Rows.vertexBackRow.domain false) (Rows.vertexBackSpec.post enc Try.prog Try.f5 false true false false) := by
  refine returnsInHanded_of_change_sized (C := Try.checked) own started (by kernel_rfl) Try.func5
    (ChangeSpec.witness6 (enc := enc) (C := Try.checked) false ⟨#[], #[.agg #[.int .i64 0, .int .i64 0, .slice none 0 0, .slice none 0 0, .int .i64 0, .int .i64 0], .int .i64 0, .int .i64 0], []⟩ 8 (by kernel_rfl) (by kernel_rfl) (by kernel_rfl) (by kernel_rfl)) ?_
  intro W base args ds gs before hval hW _ hsz _
  exact contract H enc W base args ds gs before hval hW hsz
theorem proved : Rows.VertexBackSaid :=
  OpenClaim.holds_of_wide 5 Try.f5 rfl rfl rfl rfl rfl rfl rfl ⟨rfl, rfl, rfl, rfl, rfl⟩ rfl rfl rfl rfl rfl (by kernel_rfl) Try.func5 (by kernel_rfl)
    (of_decide_eq_true (by kernel_rfl)) (by unfold Func.isWrapper; first | (rw [if_pos (by decide +kernel)]; kernel_rfl) | (rw [if_neg (by decide +kernel)]; exact ⟨rfl, rfl⟩))
    (fun os started H enc _ => lifted os started H enc)
#print axioms proved
end Go.Proofs.Ytfhjimeigelibaa.vertexBack
namespace Go.Proofs.Ytfhjimeigelibaa
theorem vertexBack_holds : Rows.VertexBackSaid := vertexBack.proved
end Go.Proofs.Ytfhjimeigelibaa
