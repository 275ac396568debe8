/- part 6 of the proof of the law PostOwn: texts merged by this session's bundle.py. What is proved: the statement at the end of the last of these texts; its conditions are those of the given row. -/
import Derived.Tactics2
import Derived.Defers
import Derived.Recover
import Derived.Laws.Pointers
import Derived.WalkLawsBesides
import Derived.Test.YtenbifjbeeobjaaZPostOwnD
import Derived.Test.YtenbifjbeeobjaaZPostOwnE
namespace Go.Proofs.Ytenbifjbeeobjaa.Px
open Go.RowKit Go.Proofs.YtenbifjbeeobjaaW.PrintWords Go.Proofs.YtenbifjbeeobjaaW.PrintLast Go.Proofs.YtenbifjbeeobjaaW.PrintMore
attribute [local go_sem] max2_int min2_int max_two min_two max_three min_three max_four min_four
set_option linter.unusedVariables false
set_option linter.unusedSimpArgs false
def ballotL (s : Bs) : Option (Nat × Nat × Bs) :=
  (smallL s).bind fun x => (smallL x.2).bind fun y => if namedB x.1 y.1 (toB y.2) = true then some (x.1, y.1, y.2) else none
set_option maxHeartbeats 4000000 in
set_option maxRecDepth 100000 in
theorem post_TakeBallot.good (s : ByteArray) (a r : Nat) (d : Bs) (w : World) (hs : s.size < 4611686018427387904) (h : ballotL (ofB s) = some (a, r, d)) :
    Calls Try.prog 43 #[.string s] w fun e w' => e = .returned (.agg #[.int .i64 a, .int .i64 r, .string (toB d)]) ∧ Below w.heap.size w w' := by
  unfold ballotL at h
  obtain ⟨⟨a', s1⟩, h1, h⟩ := Option.bind_eq_some_iff.1 h
  obtain ⟨⟨r', s2⟩, h2, h⟩ := Option.bind_eq_some_iff.1 h
  simp only at h2 h
  split at h
  · rename_i h0
    have h4 := h0
    obtain ⟨rfl, rfl, rfl⟩ : a' = a ∧ r' = r ∧ s2 = d := by
      have := Option.some.inj h
      simp only [Prod.mk.injEq] at this
      exact this
    have l1 := smallL_len h1
    rw [ofB_length] at l1
    have HS1 : Aside0 ((toB s1).size < 4611686018427387904) := ⟨by rw [toB_size]; omega⟩
    have HS := Aside0.mk hs
    have H1 := Aside0.mk h1
    have H2 : Aside0 (smallL (ofB (toB s1)) = some (r', s2)) := ⟨by rw [ofB_toB]; exact h2⟩
    have H4 := Aside0.mk h4
    clear hs h1 h2 h4 h l1
    go_enter Try.func43, Try.ntmps43
    go_wp2_with (first
      | ((with_reducible refine gate_dst (N := 1) rfl ?_); refine box_event ?hg (N := 1) ?hd (cs := #[.string s]) (t := 9) ?hr ?_; (case hd => rfl); (case hg => rfl); (case hr => first | (go_simp; done) | (go_simp; rfl)); intro g1 hg w1 hbox hb; have G1 : Aside0 (w.heap.size ≤ g1) := ⟨by rw [hg]; exact Nat.le_refl _⟩; have B1 := Aside0.mk hbox; have HB1 := Aside0.mk hb; clear hb hbox hg)
      | ((with_reducible refine gate_dst (N := 2) rfl ?_); refine box_event ?hg (N := 2) ?hd (cs := #[.int .i64 0, .int .i64 0, .string ⟨#[]⟩]) (t := 48) ?hr ?_; (case hd => rfl); (case hg => rfl); (case hr => first | (go_simp; done) | (go_simp; rfl)); intro g2 hg w2 hbox hb; have G2 : Aside0 (w.heap.size ≤ g2) := ⟨by rw [hg]; exact below_size HB1.out⟩; have N2 : Aside0 (g2 ≠ g1) := ⟨by rw [hg]; exact Nat.ne_of_gt (blk_lt B1.out)⟩; have B2 := Aside0.mk hbox; have B1b := Aside0.mk (blk_below B1.out hb); have HB2 := Aside0.mk (below_step HB1.out hb); clear hb hbox hg B1)
      | (go_at_call 37; (with_reducible refine (post_num.goodU s g1 _ _ _ _ HS.out H1.out B1b.out).mono ?_); rintro e w3 ⟨rfl, hu, hk, hl⟩; have C1 := Aside0.mk hu; have C2 := Aside0.mk (hk g2 _ _ N2.out B2.out); have HB3 := Aside0.mk (hl _ HB2.out G1.out); clear hu hk hl B1b H1)
      | (go_at_call 37; (with_reducible refine (post_num.goodU (toB s1) g1 _ _ _ _ HS1.out H2.out (blk_alloc C1.out _)).mono ?_); rintro e w4 ⟨rfl, hu, hk, hl⟩; have N3 : Aside0 (w3.heap.size ≠ g1) := ⟨Nat.ne_of_gt (blk_lt C1.out)⟩; have N4 : Aside0 (w3.heap.size ≠ g2) := ⟨Nat.ne_of_gt (blk_lt C2.out)⟩; have D1 := Aside0.mk hu; have D2 := Aside0.mk (hk g2 _ _ N2.out (blk_alloc C2.out _)); have D3 := Aside0.mk (hk _ _ _ N3.out (blk_new _ _)); have HB4 := Aside0.mk (hl _ (below_alloc HB3.out _) G1.out); have GL3 := Aside0.mk (below_size HB3.out); clear hu hk hl C1 C2 H2; have hz0 := (blk_cell D3.out 0).trans rfl; have fz0 := blk_frozen D3.out 0; have hw0 := (blk_cell D2.out 0).trans rfl; have fw0 := blk_frozen D2.out 0; have hz1 := (blk_cell D3.out 1).trans rfl; have fz1 := blk_frozen D3.out 1; have hw1 := (blk_cell D2.out 1).trans rfl; have fw1 := blk_frozen D2.out 1; have hz2 := (blk_cell D3.out 2).trans rfl; have fz2 := blk_frozen D3.out 2; have hw2 := (blk_cell D2.out 2).trans rfl; have fw2 := blk_frozen D2.out 2; have hx := (blk_cell D1.out 0).trans rfl; have fx := blk_frozen D1.out 0; have n31 := N3.out; have n13 := Ne.symm N3.out; have n32 := N4.out; have n23 := Ne.symm N4.out)
      | (go_at_call 38; (with_reducible refine (post_may.calls _ _ _ _ _ (post_may_of _ _ _)).mono ?_); rintro e w6 ⟨rfl, ⟨n6, rfl⟩⟩; rw [H4.out])
      | (go_at_call 28; (with_reducible refine (post_ask.yes _).mono ?_); rintro e w1 ⟨rfl, rfl⟩))
    refine bodyPost_ret (results_cell_row rfl _ _ g2 48 #[.int .i64 a', .int .i64 r', .string (toB s2)] (0, 0) _ rfl (by
      refine blk_put (cs := #[.int .i64 a', .int .i64 r', .string ⟨#[]⟩]) ?_ 2 _ rfl
      refine blk_put (cs := #[.int .i64 a', .int .i64 0, .string ⟨#[]⟩]) ?_ 1 _ rfl
      refine blk_put (cs := #[.int .i64 0, .int .i64 0, .string ⟨#[]⟩]) ?_ 0 _ rfl
      exact blk_drewN (blk_far (blk_far D2.out (Ne.symm N4.out) _) (Ne.symm N4.out) _) _) Try.underlying48 rfl (by kernel_rfl)) rfl ?_
    exact ⟨rfl, (below_set (below_set (below_set (pw_below_drewN (below_set (below_set HB4.out GL3.out) GL3.out) _) G2.out) G2.out) G2.out)⟩
  · cases h
set_option maxHeartbeats 4000000 in
set_option maxRecDepth 100000 in
theorem post_TakeBallot.bad (s : ByteArray) (w : World) (hs : s.size < 4611686018427387904) (h : ballotL (ofB s) = none) :
    Calls Try.prog 43 #[.string s] w fun e w' => e = .panicked oddChain ∧ Below w.heap.size w w' := by
  unfold ballotL at h
  have HS := Aside0.mk hs
  rcases h1 : smallL (ofB s) with _ | ⟨a', s1⟩
  · have H1 : Aside0 (smallL (ofB s) = none) := ⟨h1⟩
    clear h hs h1
    go_enter Try.func43, Try.ntmps43
    go_wp2_with (first
      | ((with_reducible refine gate_dst (N := 1) rfl ?_); refine box_event ?hg (N := 1) ?hd (cs := #[.string s]) (t := 9) ?hr ?_; (case hd => rfl); (case hg => rfl); (case hr => first | (go_simp; done) | (go_simp; rfl)); intro g1 hg w1 hbox hb; have G1 : Aside0 (w.heap.size ≤ g1) := ⟨by rw [hg]; exact Nat.le_refl _⟩; have B1 := Aside0.mk hbox; have HB1 := Aside0.mk hb; clear hb hbox hg)
      | ((with_reducible refine gate_dst (N := 2) rfl ?_); refine box_event ?hg (N := 2) ?hd (cs := #[.int .i64 0, .int .i64 0, .string ⟨#[]⟩]) (t := 48) ?hr ?_; (case hd => rfl); (case hg => rfl); (case hr => first | (go_simp; done) | (go_simp; rfl)); intro g2 hg w2 hbox hb; have G2 : Aside0 (w.heap.size ≤ g2) := ⟨by rw [hg]; exact below_size HB1.out⟩; have N2 : Aside0 (g2 ≠ g1) := ⟨by rw [hg]; exact Nat.ne_of_gt (blk_lt B1.out)⟩; have B2 := Aside0.mk hbox; have B1b := Aside0.mk (blk_below B1.out hb); have HB2 := Aside0.mk (below_step HB1.out hb); clear hb hbox hg B1)
      | (go_at_call 37; (with_reducible refine (post_num.badU s g1 _ _ HS.out H1.out B1b.out).mono ?_); rintro e wb ⟨rfl, hl⟩; have HX := Aside0.mk (hl _ HB2.out); clear hl))
    exact ⟨rfl, rfl, HX.out⟩
  rw [h1, Option.bind_some] at h
  simp only at h
  have H1 := Aside0.mk h1
  have l1 := smallL_len h1
  rw [ofB_length] at l1
  have HS1 : Aside0 ((toB s1).size < 4611686018427387904) := ⟨by rw [toB_size]; omega⟩
  rcases h2 : smallL s1 with _ | ⟨r', s2⟩
  · have H2 : Aside0 (smallL (ofB (toB s1)) = none) := ⟨by rw [ofB_toB]; exact h2⟩
    clear h hs h1 h2 l1
    go_enter Try.func43, Try.ntmps43
    go_wp2_with (first
      | ((with_reducible refine gate_dst (N := 1) rfl ?_); refine box_event ?hg (N := 1) ?hd (cs := #[.string s]) (t := 9) ?hr ?_; (case hd => rfl); (case hg => rfl); (case hr => first | (go_simp; done) | (go_simp; rfl)); intro g1 hg w1 hbox hb; have G1 : Aside0 (w.heap.size ≤ g1) := ⟨by rw [hg]; exact Nat.le_refl _⟩; have B1 := Aside0.mk hbox; have HB1 := Aside0.mk hb; clear hb hbox hg)
      | ((with_reducible refine gate_dst (N := 2) rfl ?_); refine box_event ?hg (N := 2) ?hd (cs := #[.int .i64 0, .int .i64 0, .string ⟨#[]⟩]) (t := 48) ?hr ?_; (case hd => rfl); (case hg => rfl); (case hr => first | (go_simp; done) | (go_simp; rfl)); intro g2 hg w2 hbox hb; have G2 : Aside0 (w.heap.size ≤ g2) := ⟨by rw [hg]; exact below_size HB1.out⟩; have N2 : Aside0 (g2 ≠ g1) := ⟨by rw [hg]; exact Nat.ne_of_gt (blk_lt B1.out)⟩; have B2 := Aside0.mk hbox; have B1b := Aside0.mk (blk_below B1.out hb); have HB2 := Aside0.mk (below_step HB1.out hb); clear hb hbox hg B1)
      | (go_at_call 37; (with_reducible refine (post_num.goodU s g1 _ _ _ _ HS.out H1.out B1b.out).mono ?_); rintro e w3 ⟨rfl, hu, hk, hl⟩; have C1 := Aside0.mk hu; have C2 := Aside0.mk (hk g2 _ _ N2.out B2.out); have HB3 := Aside0.mk (hl _ HB2.out G1.out); clear hu hk hl B1b H1)
      | (go_at_call 37; (with_reducible refine (post_num.badU (toB s1) g1 _ _ HS1.out H2.out (blk_alloc C1.out _)).mono ?_); rintro e wb ⟨rfl, hl⟩; have HX := Aside0.mk (hl _ (below_alloc HB3.out _)); clear hl))
    exact ⟨rfl, rfl, HX.out⟩
  rw [h2, Option.bind_some] at h
  simp only at h
  have H2 : Aside0 (smallL (ofB (toB s1)) = some (r', s2)) := ⟨by rw [ofB_toB]; exact h2⟩
  split at h
  · cases h
  · rename_i h0
    clear h hs h1 h2 l1
    rcases h4 : namedB a' r' (toB s2) with _ | _
    · have H4 := Aside0.mk h4
      clear h0 h4
      go_enter Try.func43, Try.ntmps43
      go_wp2_with (first
        | ((with_reducible refine gate_dst (N := 1) rfl ?_); refine box_event ?hg (N := 1) ?hd (cs := #[.string s]) (t := 9) ?hr ?_; (case hd => rfl); (case hg => rfl); (case hr => first | (go_simp; done) | (go_simp; rfl)); intro g1 hg w1 hbox hb; have G1 : Aside0 (w.heap.size ≤ g1) := ⟨by rw [hg]; exact Nat.le_refl _⟩; have B1 := Aside0.mk hbox; have HB1 := Aside0.mk hb; clear hb hbox hg)
        | ((with_reducible refine gate_dst (N := 2) rfl ?_); refine box_event ?hg (N := 2) ?hd (cs := #[.int .i64 0, .int .i64 0, .string ⟨#[]⟩]) (t := 48) ?hr ?_; (case hd => rfl); (case hg => rfl); (case hr => first | (go_simp; done) | (go_simp; rfl)); intro g2 hg w2 hbox hb; have G2 : Aside0 (w.heap.size ≤ g2) := ⟨by rw [hg]; exact below_size HB1.out⟩; have N2 : Aside0 (g2 ≠ g1) := ⟨by rw [hg]; exact Nat.ne_of_gt (blk_lt B1.out)⟩; have B2 := Aside0.mk hbox; have B1b := Aside0.mk (blk_below B1.out hb); have HB2 := Aside0.mk (below_step HB1.out hb); clear hb hbox hg B1)
        | (go_at_call 37; (with_reducible refine (post_num.goodU s g1 _ _ _ _ HS.out H1.out B1b.out).mono ?_); rintro e w3 ⟨rfl, hu, hk, hl⟩; have C1 := Aside0.mk hu; have C2 := Aside0.mk (hk g2 _ _ N2.out B2.out); have HB3 := Aside0.mk (hl _ HB2.out G1.out); clear hu hk hl B1b H1)
        | (go_at_call 37; (with_reducible refine (post_num.goodU (toB s1) g1 _ _ _ _ HS1.out H2.out (blk_alloc C1.out _)).mono ?_); rintro e w4 ⟨rfl, hu, hk, hl⟩; have N3 : Aside0 (w3.heap.size ≠ g1) := ⟨Nat.ne_of_gt (blk_lt C1.out)⟩; have N4 : Aside0 (w3.heap.size ≠ g2) := ⟨Nat.ne_of_gt (blk_lt C2.out)⟩; have D1 := Aside0.mk hu; have D2 := Aside0.mk (hk g2 _ _ N2.out (blk_alloc C2.out _)); have D3 := Aside0.mk (hk _ _ _ N3.out (blk_new _ _)); have HB4 := Aside0.mk (hl _ (below_alloc HB3.out _) G1.out); have GL3 := Aside0.mk (below_size HB3.out); clear hu hk hl C1 C2 H2; have hz0 := (blk_cell D3.out 0).trans rfl; have fz0 := blk_frozen D3.out 0; have hw0 := (blk_cell D2.out 0).trans rfl; have fw0 := blk_frozen D2.out 0; have hz1 := (blk_cell D3.out 1).trans rfl; have fz1 := blk_frozen D3.out 1; have hw1 := (blk_cell D2.out 1).trans rfl; have fw1 := blk_frozen D2.out 1; have hz2 := (blk_cell D3.out 2).trans rfl; have fz2 := blk_frozen D3.out 2; have hw2 := (blk_cell D2.out 2).trans rfl; have fw2 := blk_frozen D2.out 2; have hx := (blk_cell D1.out 0).trans rfl; have fx := blk_frozen D1.out 0; have n31 := N3.out; have n13 := Ne.symm N3.out; have n32 := N4.out; have n23 := Ne.symm N4.out)
        | (go_at_call 38; (with_reducible refine (post_may.calls _ _ _ _ _ (post_may_of _ _ _)).mono ?_); rintro e w6 ⟨rfl, ⟨n6, rfl⟩⟩; rw [H4.out])
        | (go_at_call 28; (with_reducible refine (post_ask.no _).mono ?_); rintro e w1 ⟨rfl, rfl⟩))
      exact ⟨rfl, rfl, by repeat (first | exact (below_set (below_set HB4.out GL3.out) GL3.out) | apply pw_below_drewN)⟩
    · exact absurd h4 h0
theorem post_behind_Ballot.assert (w : World) : (Instr.typeAssert (.iface 91 (.agg #[])) 20 91 true).run Try.prog w = .ok (.tuple #[.agg #[], .bool true]) w := by kernel_rfl
set_option maxHeartbeats 4000000 in
set_option maxRecDepth 100000 in
theorem post_behind_Ballot.catch (g6 g7 : Nat) (older : List PanicEntry) (c7 : Value) (w : World) (h6 : w.heap[g6]? = some (.cells #[.int .i64 0, .int .i64 0, .string ⟨#[]⟩] 48 (0, 0))) (h7 : w.heap[g7]? = some (.cells #[c7] 29 (0, 0))) (hne : g6 ≠ g7) :
    CallsD Try.prog 68 #[.pointer (some ⟨g6, 0, none⟩), .pointer (some ⟨g7, 0, none⟩)] (.panicking ({ v := oddV, recovered := false } :: older)) w fun e u' w' =>
      e = .returned (.tuple #[]) ∧ u' = .panicking ({ v := oddV, recovered := true } :: older) ∧ w'.heap[g6]? = some (.cells #[.int .i64 0, .int .i64 0, .string ⟨#[]⟩] 48 (0, 0)) ∧ w'.heap[g7]? = some (.cells #[.int .i64 3] 29 (0, 0)) ∧ ∀ W0 : World, Below W0.heap.size W0 w → W0.heap.size ≤ g6 → W0.heap.size ≤ g7 → Below W0.heap.size W0 w' := by
  have ha := post_behind_Ballot.assert
  have hne' := Ne.symm hne
  refine callsD_of_wpS Try.func68 rfl fun c₀ cs hu => ?_
  apply wpS_seq
  apply wpS_region
  simp [wpOpsS, go_sem, recoverD, hu, Try.ntmps68, Exit.thenS, oddV]
  show Code.wpS _ _ _ ⟨#[.pointer (some ⟨g6, 0, none⟩), .pointer (some ⟨g7, 0, none⟩), oddV, undef, undef, undef, oddV, undef, undef, undef, undef, undef, undef, undef, undef, undef, undef, undef], []⟩ _ _
  unfold oddV
  refine wpS_of_wp ?_
  go_wp2_with (first
    | ((with_reducible refine gate_dst (N := 3) rfl ?_); refine box_event ?hg (N := 3) ?hd (cs := #[]) (t := 91) ?hr ?_; (case hd => rfl); (case hg => rfl); (case hr => first | (go_simp; done) | (go_simp; rfl)); intro g3 hg w1 hbox hb; have B6 := Aside0.mk (blk_below h6 hb); have B7 := Aside0.mk (blk_below h7 hb); have HB1 := Aside0.mk hb; clear hb hbox hg)
    | ((with_reducible refine gate_dst (N := 5) rfl ?_); refine box_event ?hg (N := 5) ?hd (cs := #[.int .i64 0, .int .i64 0, .string ⟨#[]⟩]) (t := 48) ?hr ?_; (case hd => rfl); (case hg => rfl); (case hr => first | (go_simp; done) | (go_simp; rfl)); intro g5 hg w2 hbox hb; have C6 := Aside0.mk (blk_below B6.out hb); have C7 := Aside0.mk (blk_below B7.out hb); have HB2 := Aside0.mk (below_step HB1.out hb); have B5 := Aside0.mk hbox; clear hb hbox hg; have ca0 := (blk_cell C6.out 0).trans rfl; have fca0 := blk_frozen C6.out 0; have cd0 := (blk_cell B5.out 0).trans rfl; have fcd0 := blk_frozen B5.out 0; have ca1 := (blk_cell C6.out 1).trans rfl; have fca1 := blk_frozen C6.out 1; have cd1 := (blk_cell B5.out 1).trans rfl; have fcd1 := blk_frozen B5.out 1; have ca2 := (blk_cell C6.out 2).trans rfl; have fca2 := blk_frozen C6.out 2; have cd2 := (blk_cell B5.out 2).trans rfl; have fcd2 := blk_frozen B5.out 2; have cb0 := (blk_cell C7.out 0).trans rfl; have fcb0 := blk_frozen C7.out 0))
  have x6 : ((((w2.setCell ⟨g6, 0, none⟩ (.int .i64 0)).setCell ⟨g6, 1, none⟩ (.int .i64 0)).setCell ⟨g6, 2, none⟩ (.string ⟨#[]⟩)).setCell ⟨g7, 0, none⟩ (.int .i64 3)).heap[g6]? = some (.cells #[.int .i64 0, .int .i64 0, .string ⟨#[]⟩] 48 (0, 0)) := blk_far (blk_put (blk_put (blk_put C6.out 0 _ rfl) 1 _ rfl) 2 _ rfl) hne _
  have x7 : ((((w2.setCell ⟨g6, 0, none⟩ (.int .i64 0)).setCell ⟨g6, 1, none⟩ (.int .i64 0)).setCell ⟨g6, 2, none⟩ (.string ⟨#[]⟩)).setCell ⟨g7, 0, none⟩ (.int .i64 3)).heap[g7]? = some (.cells #[.int .i64 3] 29 (0, 0)) := blk_put (blk_far (blk_far (blk_far C7.out hne' _) hne' _) hne' _) 0 _ rfl
  have x8 : ∀ W0 : World, Below W0.heap.size W0 w → W0.heap.size ≤ g6 → W0.heap.size ≤ g7 → Below W0.heap.size W0 ((((w2.setCell ⟨g6, 0, none⟩ (.int .i64 0)).setCell ⟨g6, 1, none⟩ (.int .i64 0)).setCell ⟨g6, 2, none⟩ (.string ⟨#[]⟩)).setCell ⟨g7, 0, none⟩ (.int .i64 3)) := fun W0 h k6 k7 => below_set (below_set (below_set (below_set (below_step h HB2.out) k6) k6) k6) k7
  generalize ((((w2.setCell ⟨g6, 0, none⟩ (.int .i64 0)).setCell ⟨g6, 1, none⟩ (.int .i64 0)).setCell ⟨g6, 2, none⟩ (.string ⟨#[]⟩)).setCell ⟨g7, 0, none⟩ (.int .i64 3)) = wE at x6 x7 x8 ⊢
  simp [bodyPostS, results, Try.results68]
  exact ⟨x6, x7, x8⟩
set_option maxHeartbeats 4000000 in
set_option maxRecDepth 100000 in
theorem post_behind_Ballot.idle (g6 g7 : Nat) (w : World) :
    CallsD Try.prog 68 #[.pointer (some ⟨g6, 0, none⟩), .pointer (some ⟨g7, 0, none⟩)] .returning w fun e u' w' => e = .returned (.tuple #[]) ∧ u' = .returning ∧ w' = w := by
  refine callsD_of_wpS Try.func68 rfl fun c₀ cs hu => ?_
  apply wpS_seq
  apply wpS_region
  simp [wpOpsS, go_sem, recoverD, hu, Try.ntmps68, Exit.thenS]
  show Code.wpS _ _ _ ⟨#[.pointer (some ⟨g6, 0, none⟩), .pointer (some ⟨g7, 0, none⟩), .nilIface, undef, undef, undef, .nilIface, undef, undef, undef, undef, undef, undef, undef, undef, undef, undef, undef], []⟩ _ _
  refine wpS_of_wp ?_
  go_wp2
  cases c₀
  simp_all [bodyPostS, results, Try.results68]
set_option maxHeartbeats 4000000 in
set_option maxRecDepth 100000 in
theorem post_behind_Ballot.good (s rest : ByteArray) (a r : Nat) (d : Bs) (w : World) (hs : rest.size < 4611686018427387904) (hcut : strings_CutPrefix.f s ⟨#[118]⟩ = some (rest, true)) (h : ballotL (ofB rest) = some (a, r, d)) :
    Calls Try.prog 42 #[.string s, .string ⟨#[118]⟩, .func (.func 43) #[] #[]] w fun e w' => e = .returned (.tuple #[.agg #[.int .i64 a, .int .i64 r, .string (toB d)], .int .i64 0]) ∧ Below w.heap.size w w' := by
  have hmf : ∀ (fn : Fn) (first cap : Array Value) (w : World), (Instr.makeFunc fn first cap).run Try.prog w = .ok (.func fn first cap) w := fun _ _ _ _ => rfl
  have HC := Aside0.mk hcut
  have HS := Aside0.mk hs
  have HL := Aside0.mk h
  clear hcut hs h
  go_enter_defers Try.func42, Try.ntmps42
  go_wp2_with (first
    | ((with_reducible refine gate_dst (N := 6) rfl ?_); refine box_event ?hg (N := 6) ?hd (cs := #[.int .i64 0, .int .i64 0, .string ⟨#[]⟩]) (t := 48) ?hr ?_; (case hd => rfl); (case hg => rfl); (case hr => first | (go_simp; done) | (go_simp; rfl)); intro g6 hg w1 hbox hb; have G6 : Aside0 (w.heap.size ≤ g6) := ⟨by rw [hg]; exact Nat.le_refl _⟩; have B6 := Aside0.mk hbox; have HB1 := Aside0.mk hb; clear hb hbox hg)
    | ((with_reducible refine gate_dst (N := 7) rfl ?_); refine box_event ?hg (N := 7) ?hd (cs := #[.int .i64 0]) (t := 29) ?hr ?_; (case hd => rfl); (case hg => rfl); (case hr => first | (go_simp; done) | (go_simp; rfl)); intro g7 hg w2 hbox hb; have G7 : Aside0 (w.heap.size ≤ g7) := ⟨by rw [hg]; exact below_size HB1.out⟩; have N67 : Aside0 (g6 ≠ g7) := ⟨by rw [hg]; exact Nat.ne_of_lt (blk_lt B6.out)⟩; have C7 := Aside0.mk hbox; have C6 := Aside0.mk (blk_below B6.out hb); have HB2 := Aside0.mk (below_step HB1.out hb); clear hb hbox hg B6)
    | (go_at_call 52; (with_reducible refine (strings_CutPrefix.calls _ _ _ _ _ HC.out).mono ?_); rintro e w3 ⟨rfl, ⟨n3, rfl⟩⟩)
    | (go_at_call 28; (with_reducible refine (post_ask.yes _).mono ?_); rintro e w1 ⟨rfl, rfl⟩)
    | (go_at_call 43; (with_reducible refine (post_TakeBallot.good rest a r d _ HS.out HL.out).mono ?_); rintro e w4 ⟨rfl, hb⟩; have D6 := Aside0.mk (blk_below (blk_drewN C6.out _) hb); have D7 := Aside0.mk (blk_below (blk_drewN C7.out _) hb); have HB4 := Aside0.mk (below_step (pw_below_drewN HB2.out _) hb); clear hb; have ca0 := (blk_cell D6.out 0).trans rfl; have fca0 := blk_frozen D6.out 0; have ca1 := (blk_cell D6.out 1).trans rfl; have fca1 := blk_frozen D6.out 1; have ca2 := (blk_cell D6.out 2).trans rfl; have fca2 := blk_frozen D6.out 2; have cb0 := (blk_cell D7.out 0).trans rfl; have fcb0 := blk_frozen D7.out 0; have n67 := N67.out; have n76 := Ne.symm N67.out))
  have x6 : ((((w4.setCell ⟨g6, 0, none⟩ (.int .i64 a)).setCell ⟨g6, 1, none⟩ (.int .i64 r)).setCell ⟨g6, 2, none⟩ (.string (toB d))).setCell ⟨g7, 0, none⟩ (.int .i64 0)).heap[g6]? = some (.cells #[.int .i64 a, .int .i64 r, .string (toB d)] 48 (0, 0)) := blk_far (blk_put (blk_put (blk_put D6.out 0 _ rfl) 1 _ rfl) 2 _ rfl) N67.out _
  have x7 : ((((w4.setCell ⟨g6, 0, none⟩ (.int .i64 a)).setCell ⟨g6, 1, none⟩ (.int .i64 r)).setCell ⟨g6, 2, none⟩ (.string (toB d))).setCell ⟨g7, 0, none⟩ (.int .i64 0)).heap[g7]? = some (.cells #[.int .i64 0] 29 (0, 0)) := blk_put (blk_far (blk_far (blk_far D7.out (Ne.symm N67.out) _) (Ne.symm N67.out) _) (Ne.symm N67.out) _) 0 _ rfl
  have x8 : Below w.heap.size w ((((w4.setCell ⟨g6, 0, none⟩ (.int .i64 a)).setCell ⟨g6, 1, none⟩ (.int .i64 r)).setCell ⟨g6, 2, none⟩ (.string (toB d))).setCell ⟨g7, 0, none⟩ (.int .i64 0)) := below_set (below_set (below_set (below_set HB4.out G6.out) G6.out) G6.out) G7.out
  generalize ((((w4.setCell ⟨g6, 0, none⟩ (.int .i64 a)).setCell ⟨g6, 1, none⟩ (.int .i64 r)).setCell ⟨g6, 2, none⟩ (.string (toB d))).setCell ⟨g7, 0, none⟩ (.int .i64 0)) = wE at x6 x7 x8 ⊢
  refine leaves_cons (f := 68) (args := #[.pointer (some ⟨g6, 0, none⟩), .pointer (some ⟨g7, 0, none⟩)]) (by simp) (by simp [go_sem]) ?_
  refine (post_behind_Ballot.idle g6 g7 _).mono ?_
  rintro e u' w'' ⟨rfl, rfl, rfl⟩
  have hc60 : w''.cell? ⟨g6, 0, none⟩ = some (.int .i64 a) := (blk_cell x6 0).trans rfl
  have hc61 : w''.cell? ⟨g6, 1, none⟩ = some (.int .i64 r) := (blk_cell x6 1).trans rfl
  have hc62 : w''.cell? ⟨g6, 2, none⟩ = some (.string (toB d)) := (blk_cell x6 2).trans rfl
  have hc7 : w''.cell? ⟨g7, 0, none⟩ = some (.int .i64 0) := (blk_cell x7 0).trans rfl
  simp [Leaves, settle, results, Try.results42, asAddr, go_sem, hc60, hc61, hc62, hc7]
  exact x8
set_option maxHeartbeats 4000000 in
set_option maxRecDepth 100000 in
theorem post_behind_Ballot.none1 (s : ByteArray) (w : World) (hcut : strings_CutPrefix.f s ⟨#[118]⟩ = some (s, false)) :
    Calls Try.prog 42 #[.string s, .string ⟨#[118]⟩, .func (.func 43) #[] #[]] w fun e w' => e = .returned (.tuple #[.agg #[.int .i64 0, .int .i64 0, .string ⟨#[]⟩], .int .i64 3]) ∧ Below w.heap.size w w' := by
  have hmf : ∀ (fn : Fn) (first cap : Array Value) (w : World), (Instr.makeFunc fn first cap).run Try.prog w = .ok (.func fn first cap) w := fun _ _ _ _ => rfl
  have HC := Aside0.mk hcut
  clear hcut
  go_enter_defers Try.func42, Try.ntmps42
  go_wp2_with (first
    | ((with_reducible refine gate_dst (N := 6) rfl ?_); refine box_event ?hg (N := 6) ?hd (cs := #[.int .i64 0, .int .i64 0, .string ⟨#[]⟩]) (t := 48) ?hr ?_; (case hd => rfl); (case hg => rfl); (case hr => first | (go_simp; done) | (go_simp; rfl)); intro g6 hg w1 hbox hb; have G6 : Aside0 (w.heap.size ≤ g6) := ⟨by rw [hg]; exact Nat.le_refl _⟩; have B6 := Aside0.mk hbox; have HB1 := Aside0.mk hb; clear hb hbox hg)
    | ((with_reducible refine gate_dst (N := 7) rfl ?_); refine box_event ?hg (N := 7) ?hd (cs := #[.int .i64 0]) (t := 29) ?hr ?_; (case hd => rfl); (case hg => rfl); (case hr => first | (go_simp; done) | (go_simp; rfl)); intro g7 hg w2 hbox hb; have G7 : Aside0 (w.heap.size ≤ g7) := ⟨by rw [hg]; exact below_size HB1.out⟩; have N67 : Aside0 (g6 ≠ g7) := ⟨by rw [hg]; exact Nat.ne_of_lt (blk_lt B6.out)⟩; have C7 := Aside0.mk hbox; have C6 := Aside0.mk (blk_below B6.out hb); have HB2 := Aside0.mk (below_step HB1.out hb); clear hb hbox hg B6)
    | (go_at_call 52; (with_reducible refine (strings_CutPrefix.calls _ _ _ _ _ HC.out).mono ?_); rintro e w3 ⟨rfl, ⟨n3, rfl⟩⟩)
    | (go_at_call 28; (with_reducible refine (post_ask.no _).mono ?_); rintro e w4 ⟨rfl, rfl⟩; have D6 := Aside0.mk (blk_drewN C6.out n3); have D7 := Aside0.mk (blk_drewN C7.out n3); have HB4 := Aside0.mk (pw_below_drewN HB2.out n3)))
  refine leaves_cons (f := 68) (args := #[.pointer (some ⟨g6, 0, none⟩), .pointer (some ⟨g7, 0, none⟩)]) (by simp) (by simp [go_sem]) ?_
  refine (post_behind_Ballot.catch g6 g7 [] _ _ D6.out D7.out N67.out).mono ?_
  rintro e u' w'' ⟨rfl, rfl, x6, x7, hx⟩
  have x8 := hx w HB4.out G6.out G7.out
  have hc60 : w''.cell? ⟨g6, 0, none⟩ = some (.int .i64 0) := (blk_cell x6 0).trans rfl
  have hc61 : w''.cell? ⟨g6, 1, none⟩ = some (.int .i64 0) := (blk_cell x6 1).trans rfl
  have hc62 : w''.cell? ⟨g6, 2, none⟩ = some (.string ⟨#[]⟩) := (blk_cell x6 2).trans rfl
  have hc7 : w''.cell? ⟨g7, 0, none⟩ = some (.int .i64 3) := (blk_cell x7 0).trans rfl
  simp [Leaves, settle, results, Try.results42, asAddr, go_sem, hc60, hc61, hc62, hc7]
  exact x8
set_option maxHeartbeats 4000000 in
set_option maxRecDepth 100000 in
theorem post_behind_Ballot.none2 (s rest : ByteArray) (w : World) (hs : rest.size < 4611686018427387904) (hcut : strings_CutPrefix.f s ⟨#[118]⟩ = some (rest, true)) (h : ballotL (ofB rest) = none) :
    Calls Try.prog 42 #[.string s, .string ⟨#[118]⟩, .func (.func 43) #[] #[]] w fun e w' => e = .returned (.tuple #[.agg #[.int .i64 0, .int .i64 0, .string ⟨#[]⟩], .int .i64 3]) ∧ Below w.heap.size w w' := by
  have hmf : ∀ (fn : Fn) (first cap : Array Value) (w : World), (Instr.makeFunc fn first cap).run Try.prog w = .ok (.func fn first cap) w := fun _ _ _ _ => rfl
  have HC := Aside0.mk hcut
  have HS := Aside0.mk hs
  have HL := Aside0.mk h
  clear hcut hs h
  go_enter_defers Try.func42, Try.ntmps42
  go_wp2_with (first
    | ((with_reducible refine gate_dst (N := 6) rfl ?_); refine box_event ?hg (N := 6) ?hd (cs := #[.int .i64 0, .int .i64 0, .string ⟨#[]⟩]) (t := 48) ?hr ?_; (case hd => rfl); (case hg => rfl); (case hr => first | (go_simp; done) | (go_simp; rfl)); intro g6 hg w1 hbox hb; have G6 : Aside0 (w.heap.size ≤ g6) := ⟨by rw [hg]; exact Nat.le_refl _⟩; have B6 := Aside0.mk hbox; have HB1 := Aside0.mk hb; clear hb hbox hg)
    | ((with_reducible refine gate_dst (N := 7) rfl ?_); refine box_event ?hg (N := 7) ?hd (cs := #[.int .i64 0]) (t := 29) ?hr ?_; (case hd => rfl); (case hg => rfl); (case hr => first | (go_simp; done) | (go_simp; rfl)); intro g7 hg w2 hbox hb; have G7 : Aside0 (w.heap.size ≤ g7) := ⟨by rw [hg]; exact below_size HB1.out⟩; have N67 : Aside0 (g6 ≠ g7) := ⟨by rw [hg]; exact Nat.ne_of_lt (blk_lt B6.out)⟩; have C7 := Aside0.mk hbox; have C6 := Aside0.mk (blk_below B6.out hb); have HB2 := Aside0.mk (below_step HB1.out hb); clear hb hbox hg B6)
    | (go_at_call 52; (with_reducible refine (strings_CutPrefix.calls _ _ _ _ _ HC.out).mono ?_); rintro e w3 ⟨rfl, ⟨n3, rfl⟩⟩)
    | (go_at_call 28; (with_reducible refine (post_ask.yes _).mono ?_); rintro e w1 ⟨rfl, rfl⟩)
    | (go_at_call 43; (with_reducible refine (post_TakeBallot.bad rest _ HS.out HL.out).mono ?_); rintro e w4 ⟨rfl, hb⟩; have D6 := Aside0.mk (blk_below (blk_drewN C6.out _) hb); have D7 := Aside0.mk (blk_below (blk_drewN C7.out _) hb); have HB4 := Aside0.mk (below_step (pw_below_drewN HB2.out _) hb); clear hb))
  refine leaves_cons (f := 68) (args := #[.pointer (some ⟨g6, 0, none⟩), .pointer (some ⟨g7, 0, none⟩)]) (by simp) (by simp [go_sem]) ?_
  refine (post_behind_Ballot.catch g6 g7 [] _ _ D6.out D7.out N67.out).mono ?_
  rintro e u' w'' ⟨rfl, rfl, x6, x7, hx⟩
  have x8 := hx w HB4.out G6.out G7.out
  have hc60 : w''.cell? ⟨g6, 0, none⟩ = some (.int .i64 0) := (blk_cell x6 0).trans rfl
  have hc61 : w''.cell? ⟨g6, 1, none⟩ = some (.int .i64 0) := (blk_cell x6 1).trans rfl
  have hc62 : w''.cell? ⟨g6, 2, none⟩ = some (.string ⟨#[]⟩) := (blk_cell x6 2).trans rfl
  have hc7 : w''.cell? ⟨g7, 0, none⟩ = some (.int .i64 3) := (blk_cell x7 0).trans rfl
  simp [Leaves, settle, results, Try.results42, asAddr, go_sem, hc60, hc61, hc62, hc7]
  exact x8
def ballotOf : Option (Nat × Nat × Bs) → Int × Int × ByteArray × Int
  | some x => ((x.1 : Int), (x.2.1 : Int), toB x.2.2, 0)
  | none => (0, 0, (⟨#[]⟩ : ByteArray), 3)
def takeBallotB (s : ByteArray) : Int × Int × ByteArray × Int := match ofB s with
  | c :: t => if c = 118 then ballotOf (ballotL t) else (0, 0, (⟨#[]⟩ : ByteArray), 3)
  | [] => (0, 0, (⟨#[]⟩ : ByteArray), 3)
def post_behind_Ballot.f (a0 a1 : ByteArray) : Option (Int × Int × ByteArray × Int) := if a1 = ⟨#[118]⟩ ∧ a0.size < 4611686018427387904 then some (takeBallotB a0) else none
theorem post_behind_Ballot.calls (a0 a1 : ByteArray) (r1 r2 : Int) (r3 : ByteArray) (r4 : Int) (w : World) (h : post_behind_Ballot.f a0 a1 = some (r1, r2, r3, r4)) :
    Calls Try.prog 42 #[.string a0, .string a1, .func (.func 43) #[] #[]] w fun e w' => e = .returned (.tuple #[.agg #[.int .i64 r1, .int .i64 r2, .string r3], .int .i64 r4]) ∧ Below w.heap.size w w' := by
  unfold post_behind_Ballot.f at h
  split at h
  · rename_i h0
    obtain ⟨rfl, hs⟩ := h0
    have h := Option.some.inj h
    unfold takeBallotB at h
    rcases hq : ofB a0 with _ | ⟨c, t⟩
    · rw [hq] at h
      simp only [Prod.mk.injEq] at h
      obtain ⟨rfl, rfl, rfl, rfl⟩ := h
      exact post_behind_Ballot.none1 a0 w (cutPrefix_no _ _ (by rw [hq]; simp))
    · rw [hq] at h
      simp only at h
      by_cases hc : c = 118
      · rw [if_pos hc] at h
        subst hc
        have hcut := cutPrefix_yes a0 118 t hq
        have hs2 : (toB t).size < 4611686018427387904 := by
          have := congrArg List.length hq
          rw [ofB_length, List.length_cons] at this
          rw [toB_size]; omega
        rcases hl : ballotL t with _ | ⟨a, r, d⟩
        · rw [hl, ballotOf] at h
          simp only [Prod.mk.injEq] at h
          obtain ⟨rfl, rfl, rfl, rfl⟩ := h
          exact post_behind_Ballot.none2 a0 (toB t) w hs2 hcut (by rw [ofB_toB]; exact hl)
        · rw [hl, ballotOf] at h
          simp only [Prod.mk.injEq] at h
          obtain ⟨rfl, rfl, rfl, rfl⟩ := h
          exact post_behind_Ballot.good a0 (toB t) a r d w hs2 hcut (by rw [ofB_toB]; exact hl)
      · rw [if_neg hc] at h
        simp only [Prod.mk.injEq] at h
        obtain ⟨rfl, rfl, rfl, rfl⟩ := h
        exact post_behind_Ballot.none1 a0 w (cutPrefix_no _ _ (by rw [hq]; simpa using hc))
  · cases h
end Go.Proofs.Ytenbifjbeeobjaa.Px

namespace Go.Proofs.Ytenbifjbeeobjaa.Px
open Go.RowKit Go.Proofs.YtenbifjbeeobjaaW.PrintWords Go.Proofs.YtenbifjbeeobjaaW.PrintLast Go.Proofs.YtenbifjbeeobjaaW.PrintMore
attribute [local go_sem] max2_int min2_int max_two min_two max_three min_three max_four min_four
set_option linter.unusedVariables false
set_option linter.unusedSimpArgs false
def post_TakeBallot.f (a0 : ByteArray) : Option (Int × Int × ByteArray × Int) := (post_behind_Ballot.f a0 (⟨#[118]⟩ : ByteArray)).bind fun bt367 => (some (bt367.1, bt367.2.1, bt367.2.2.1, bt367.2.2.2))
set_option maxHeartbeats 8000000 in
set_option maxRecDepth 100000 in
theorem post_TakeBallot.calls (a0 : ByteArray) (r1 : Int) (r2 : Int) (r3 : ByteArray) (r4 : Int) (w : World) (h : post_TakeBallot.f a0 = some (r1, r2, r3, r4)) :
    Calls Try.prog 13 #[.string a0] w fun e w' => e = .returned (.tuple #[.agg #[.int .i64 r1, .int .i64 r2, .string r3], .int .i64 r4]) ∧ Below w.heap.size w w' := by
  have hu48 := Try.underlying48
  have HB := Aside0.mk (Below.refl w.heap.size w)
  have H : ((post_behind_Ballot.f a0 (⟨#[118]⟩ : ByteArray)).bind fun bt367 => (some (bt367.1, bt367.2.1, bt367.2.2.1, bt367.2.2.2))) = some (r1, r2, r3, r4) := h
  clear h
  replace H := Option.bind_eq_some_iff.mp H
  obtain ⟨⟨t367, t368, t369, t370⟩, A20, H⟩ := H
  replace H : (some (t367, t368, t369, t370)) = some (r1, r2, r3, r4) := H
  have A2 := Aside0.mk A20
  clear A20
  simp only [Option.some.injEq, Prod.mk.injEq] at H
  obtain ⟨rfl, rfl, rfl, rfl⟩ := H
  go_enter Try.func13, Try.ntmps13
  go_wp2_with (first | ((with_reducible refine gate_dst (N := 2) rfl ?_); refine box_event ?hg (N := 2) ?hd (cs := #[.int .i64 0, .int .i64 0, .string (⟨#[]⟩ : ByteArray)]) (t := 48) ?hr ?_; (case hd => rfl); (case hg => rfl); (case hr => first | (go_simp; done) | (go_simp; rfl)); intro gb366 hg w3 hbox hb; have n0_ := Aside0.mk (below_step (by repeat (first | (with_reducible first | exact HB.out | apply below_alloc | apply pw_below_drewN | apply below_drew1) | exact HB.out)) hb); have n1_ := Aside0.mk (hbox); have n2_ := Aside0.mk ((by rw [hg]; exact (below_size (by repeat (first | (with_reducible first | exact HB.out | apply below_alloc | apply pw_below_drewN | apply below_drew1) | exact HB.out))) : w.heap.size ≤ gb366)); have n3_ := Aside0.mk ((by rw [hg]; exact (below_size (by repeat (first | (with_reducible first | exact HB.out | apply below_alloc | apply pw_below_drewN | apply below_drew1) | exact HB.out))) : w.heap.size ≤ gb366)); clear HB; have HB := n0_; have BK366 := n1_; have GW366 := n2_; have GE366 := n3_; clear n0_ n1_ n2_ n3_; clear hb hbox hg) | ((with_reducible refine gate_callee (f := 42) rfl ?_); refine goesL_ (some 5) rfl rfl Try.func42 (by kernel_rfl) rfl #[.string a0, .string (⟨#[118]⟩ : ByteArray), .func (.func 43) #[] #[]] rfl (by (try simp only [List.map_toArray, List.map_cons, List.map_nil]); first | done | rfl | (simp only [List.length_drop, List.length_take]; rfl)) ?_; (with_reducible refine (post_behind_Ballot.calls a0 (⟨#[118]⟩ : ByteArray) t367 t368 t369 t370 _ A2.out).mono ?_); rintro e w4 ⟨rfl, hb⟩; refine ⟨_, rfl, ?_⟩; have n0_ := Aside0.mk (blk_below (g := gb366) (o := .cells #[.int .i64 0, .int .i64 0, .string (⟨#[]⟩ : ByteArray)] 48 (0, 0)) (by (with_reducible repeat (first | refine blk_drewN ?_ _ | refine blk_drew ?_ | refine blk_alloc ?_ _)); exact BK366.out) hb); have n1_ := Aside0.mk (below_step (by repeat (first | (with_reducible first | exact HB.out | apply below_alloc | apply pw_below_drewN | apply below_drew1 | refine below_set ?_ GE366.out) | exact HB.out)) hb); clear BK366; clear HB; have BK366 := n0_; have HB := n1_; clear n0_ n1_; (try clear hb); (try clear hb2); (try clear hk); (try clear hi); have hcz5_0 : w4.cell? ⟨gb366, 0, none⟩ = some (.int .i64 0) := (blk_cell BK366.out 0).trans rfl; have hcz5_1 : w4.cell? ⟨gb366, 1, none⟩ = some (.int .i64 0) := (blk_cell BK366.out 1).trans rfl; have hcz5_2 : w4.cell? ⟨gb366, 2, none⟩ = some (.string (⟨#[]⟩ : ByteArray)) := (blk_cell BK366.out 2).trans rfl; have hfz5_0 := blk_frozen BK366.out 0; have hfz5_1 := blk_frozen BK366.out 1; have hfz5_2 := blk_frozen BK366.out 2))
  refine bodyPost_ret (results_ct rfl _ _ gb366 48 #[.int .i64 t367, .int .i64 t368, .string t369] (0, 0) _ rfl (by (with_reducible repeat (first | refine blk_drewN ?_ _ | refine blk_drew ?_ | refine blk_alloc ?_ _)); refine blk_put (cs := #[.int .i64 t367, .int .i64 t368, .string (⟨#[]⟩ : ByteArray)]) ?_ 2 _ rfl; (with_reducible repeat (first | refine blk_drewN ?_ _ | refine blk_drew ?_ | refine blk_alloc ?_ _)); refine blk_put (cs := #[.int .i64 t367, .int .i64 0, .string (⟨#[]⟩ : ByteArray)]) ?_ 1 _ rfl; (with_reducible repeat (first | refine blk_drewN ?_ _ | refine blk_drew ?_ | refine blk_alloc ?_ _)); refine blk_put (cs := #[.int .i64 0, .int .i64 0, .string (⟨#[]⟩ : ByteArray)]) ?_ 0 _ rfl; (with_reducible repeat (first | refine blk_drewN ?_ _ | refine blk_drew ?_ | refine blk_alloc ?_ _)); exact BK366.out) Try.underlying48 rfl (by kernel_rfl)) rfl ?_
  exact ⟨by first | rfl | (simp [errW_none, errW_some] <;> rfl) | (simp [*, errW_none, errW_some] <;> rfl), by repeat (first | (with_reducible first | exact HB.out | apply below_alloc | apply pw_below_drewN | apply below_drew1 | refine below_set ?_ GE366.out) | exact HB.out)⟩
end Go.Proofs.Ytenbifjbeeobjaa.Px

namespace Go.Proofs.Ytenbifjbeeobjaa.Px
open Go.RowKit Go.Proofs.YtenbifjbeeobjaaW.PrintWords Go.Proofs.YtenbifjbeeobjaaW.PrintLast Go.Proofs.YtenbifjbeeobjaaW.PrintMore
attribute [local go_sem] max2_int min2_int max_two min_two max_three min_three max_four min_four
set_option linter.unusedVariables false
set_option linter.unusedSimpArgs false
def idxF {α : Type} (p : α → Bool) (l : List α) : Int := match l.findIdx? p with | some i => (i : Int) | none => -1
theorem idxF_hit {α : Type} {p : α → Bool} {l : List α} {k : Nat} {x : α} (hx : l[k]? = some x) (hp : p x = true) (hn : ∀ (j : Nat) (y : α), j < k → l[j]? = some y → p y = false) : idxF p l = k := by
  have hk := (List.getElem?_eq_some_iff.1 hx).1
  have h : l.findIdx? p = some k := by
    rw [List.findIdx?_eq_some_iff_getElem]
    refine ⟨hk, ?_, fun j hj => ?_⟩
    · rw [(List.getElem?_eq_some_iff.1 hx).2]; exact hp
    · have := hn j l[j] hj (List.getElem?_eq_getElem _)
      simp [this]
  rw [idxF, h]
theorem idxF_none {α : Type} {p : α → Bool} {l : List α} (hn : ∀ (j : Nat) (y : α), l[j]? = some y → p y = false) : idxF p l = -1 := by
  have h : l.findIdx? p = none := by
    rw [List.findIdx?_eq_none_iff]
    intro x hx
    obtain ⟨j, hj⟩ := List.mem_iff_getElem?.1 hx
    exact hn j x hj
  rw [idxF, h]
theorem idxF_any {α : Type} (p : α → Bool) (l : List α) : decide (0 ≤ idxF p l) = l.any p := by
  rw [idxF]
  rcases h : l.findIdx? p with _ | i
  · rw [List.findIdx?_eq_none_iff] at h
    simp
    intro x hx
    simpa using h x hx
  · rw [List.findIdx?_eq_some_iff_getElem] at h
    obtain ⟨hi, hp, _⟩ := h
    simp
    exact ⟨_, List.getElem_mem hi, hp⟩
theorem may_ret {a b : Bool} (h : a = b) : Ending.returned (.bool a) = .returned (.bool b) := by rw [h]
end Go.Proofs.Ytenbifjbeeobjaa.Px

namespace Go.Proofs.Ytenbifjbeeobjaa.Px
open Go.RowKit Go.Proofs.YtenbifjbeeobjaaW.PrintWords Go.Proofs.YtenbifjbeeobjaaW.PrintLast Go.Proofs.YtenbifjbeeobjaaW.PrintMore
attribute [local go_sem] max2_int min2_int max_two min_two max_three min_three max_four min_four
set_option linter.unusedVariables false
set_option linter.unusedSimpArgs false
def oddTx (s : ByteArray) : Bool := decide (s.size = 0) || decide (48 < s.size)
theorem batch_May.odd (s : ByteArray) (w : World) : Calls Try.prog 102 #[.string s] w fun e w' => e = .returned (.bool (oddTx s)) ∧ w = w' := by
  by_cases h : s.toList = []
  · have hb : (s.toList == []) = true := beq_iff_eq.mpr h
    have h0 : s.size = 0 := by rw [← ofB_length, ← toList_ofB, h]; rfl
    have HO : Aside0 (oddTx s = true) := ⟨by simp [oddTx, h0]⟩
    clear h h0
    go_enter Try.func102, Try.ntmps102
    go_wp2
    go_ret
    rw [HO.out]
    exact ⟨rfl, rfl⟩
  · have hb : (s.toList == []) = false := beq_eq_false_iff_ne.mpr h
    have h0 : s.size ≠ 0 := fun hz => h (List.eq_nil_of_length_eq_zero (by rw [toList_ofB, ofB_length, hz]))
    have HO : Aside0 (oddTx s = decide (48 < (s.size : Int))) := ⟨by simp [oddTx, h0]; omega⟩
    clear h h0
    by_cases h1 : 48 < (s.size : Int)
    · have h1b : decide (48 < (s.size : Int)) = true := decide_eq_true h1
      rw [h1b] at HO
      clear h1
      go_enter Try.func102, Try.ntmps102
      go_wp2
      go_ret
      rw [HO.out]
      exact ⟨rfl, rfl⟩
    · have h1b : decide (48 < (s.size : Int)) = false := decide_eq_false h1
      rw [h1b] at HO
      clear h1
      go_enter Try.func102, Try.ntmps102
      go_wp2
      go_ret
      rw [HO.out]
      exact ⟨rfl, rfl⟩
theorem batch_May.idx (A : Option Addr) (c : Nat) (l : List ByteArray) (w : World) (hr : Kd.C Kd.string w A l.length l) (hc : l.length ≤ c) :
    Calls Try.prog 109 #[.slice A l.length c, .func (.func 102) #[] #[]] w fun e w' => e = .returned (.int .i64 (idxF oddTx l)) ∧ w = w' := by
  have hm := hr.2.1
  have HR := Aside0.mk hr
  clear hr
  go_enter Try.func109, Try.ntmps109
  go_wp2_with fail
  go_loop [5, 8] (fun v5 v8 => ∃ k : Nat, v8 = .int .i64 k ∧ k ≤ l.length ∧ Aside0 (∀ (j : Nat) (y : ByteArray), j < k → l[j]? = some y → oddTx y = false)) (fun _ v8 => l.length - (match v8 with | .int _ q => q | _ => 0).toNat)
  case atStart => exact ⟨0, rfl, Nat.zero_le _, ⟨fun j y hj => absurd hj (Nat.not_lt_zero _)⟩⟩
  case round =>
    obtain ⟨k, rfl, hk, HN⟩ := hrel
    by_cases hlt : k < l.length
    · obtain ⟨ad, rfl, hcell⟩ := Kd.at_string HR.out (k : Int) (by omega) (by omega)
      rw [Int.toNat_natCast] at hcell
      have hb : decide (k < l.length) = true := decide_eq_true hlt
      have hx : l[k]? = some (rdOf ByteArray.empty l (k : Int)) := by
        rw [rdOf, Int.toNat_natCast, List.getD_eq_getElem?_getD, List.getElem?_eq_getElem hlt]; rfl
      have HX := Aside0.mk hx
      clear hx
      generalize rdOf ByteArray.empty l (k : Int) = s at *
      rcases ho : oddTx s with _ | _
      · have HO := Aside0.mk ho
        clear ho
        go_wp2_with (go_at_call 102; (with_reducible refine (batch_May.odd _ _).mono ?_); rintro e w1 ⟨rfl, rfl⟩; rw [HO.out])
        go_round
        case rel =>
          refine ⟨k + 1, by go_num, by omega, ⟨fun j y hj hy => ?_⟩⟩
          rcases Nat.lt_succ_iff_lt_or_eq.1 hj with h | h
          · exact HN.out j y h hy
          · subst h
            rw [HX.out] at hy
            injection hy with hy
            subst hy
            exact HO.out
        case measure => simp; omega
      · have HO := Aside0.mk ho
        clear ho
        go_wp2_with (go_at_call 102; (with_reducible refine (batch_May.odd _ _).mono ?_); rintro e w1 ⟨rfl, rfl⟩; rw [HO.out])
        go_ret
        exact ⟨by rw [idxF_hit HX.out HO.out HN.out]; rfl, rfl⟩
    · obtain rfl : k = l.length := by omega
      go_wp2_with fail
      go_ret
      exact ⟨by rw [idxF_none (fun j y hy => HN.out j y (List.getElem?_eq_some_iff.1 hy).1 hy)]; rfl, rfl⟩
theorem batch_May.contains (A : Option Addr) (c : Nat) (l : List ByteArray) (w : World) (hr : Kd.C Kd.string w A l.length l) (hc : l.length ≤ c) :
    Calls Try.prog 103 #[.slice A l.length c, .func (.func 102) #[] #[]] w fun e w' => e = .returned (.bool (l.any oddTx)) ∧ w = w' := by
  have HR := Aside0.mk hr
  have HC := Aside0.mk hc
  clear hr hc
  have HA := Aside0.mk (idxF_any oddTx l)
  go_enter Try.func103, Try.ntmps103
  go_wp2_with (go_at_call 109; (with_reducible refine (batch_May.idx _ _ _ _ HR.out HC.out).mono ?_); rintro e w1 ⟨rfl, rfl⟩)
  go_ret
  exact ⟨by rw [← HA.out]; rfl, rfl⟩
def mayB (o q : Int) (l : List ByteArray) : Bool := decide (1 ≤ o) && decide (o ≤ 64) && decide (1 ≤ q) && decide (q ≤ 1073741824) && decide (1 ≤ l.length) && decide (l.length ≤ 4) && !l.any oddTx
def batch_May.f (a0_0 : Int) (a0_1 : Int) (l0_2 : List ByteArray) : Option (Bool) := some (mayB a0_0 a0_1 l0_2)
theorem batch_May.walk (a0_0 : Int) (a0_1 : Int) (A : Option Addr) (c : Nat) (l : List ByteArray) (w : World) (hr : Kd.C Kd.string w A l.length l) (hc : l.length ≤ c) :
    Calls Try.prog 81 #[.agg #[.int .i64 a0_0, .int .i64 a0_1, .slice A l.length c]] w fun e w' => e = .returned (.bool (mayB a0_0 a0_1 l)) ∧ Below w.heap.size w w' := by
  have HR := Aside0.mk hr
  have HC := Aside0.mk hc
  clear hr hc
  have HW := fun (o : Obj) => Kd.C_below HR.out (Below.alloc (Below.refl w.heap.size w) (Nat.le_refl _) o)
  have HW' := Aside0.mk HW
  clear HW
  go_enter Try.func81, Try.ntmps81
  go_wp2_with (go_at_call 103; (with_reducible refine (batch_May.contains _ _ _ _ (HW'.out _) HC.out).mono ?_); rintro e w1 ⟨rfl, rfl⟩)
  all_goals go_ret
  all_goals refine ⟨may_ret ?_, (Below.refl _ _).alloc (Nat.le_refl _) _⟩
  all_goals (unfold mayB; simp; try omega)
theorem batch_May.calls (a0_0 : Int) (a0_1 : Int) (A0_2 : Option Addr) (c0_2 : Nat) (l0_2 : List ByteArray) (r : Bool) (w : World) (hr0_2 : Kd.C Kd.string w A0_2 l0_2.length l0_2) (hc0_2 : l0_2.length ≤ c0_2) (h : batch_May.f a0_0 a0_1 l0_2 = some r) :
    Calls Try.prog 81 #[.agg #[.int .i64 a0_0, .int .i64 a0_1, .slice A0_2 l0_2.length c0_2]] w fun e w' => e = .returned (.bool r) ∧ Below w.heap.size w w' := by
  obtain rfl := Option.some.inj h
  exact batch_May.walk a0_0 a0_1 A0_2 c0_2 l0_2 w hr0_2 hc0_2
end Go.Proofs.Ytenbifjbeeobjaa.Px
