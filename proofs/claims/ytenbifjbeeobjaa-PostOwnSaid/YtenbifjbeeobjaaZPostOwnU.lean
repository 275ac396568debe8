/- part 21 of the proof of the law PostOwn: texts merged by this session's bundle.py. What is proved: the statement at the end of the last of these texts; its conditions are those of the given row. -/
import Derived.Tactics2
import Derived.Defers
import Derived.Recover
import Derived.Laws.Pointers
import Derived.WalkLawsBesides
import Derived.Test.YtenbifjbeeobjaaZPostOwnD
import Derived.Test.YtenbifjbeeobjaaZPostOwnE
namespace Go.Proofs.Ytenbifjbeeobjaa.Px
open Go.RowKit Go.Proofs.YtenbifjbeeobjaaW.PrintWords Go.Proofs.YtenbifjbeeobjaaW.PrintLast Go.Proofs.YtenbifjbeeobjaaW.PrintMore
attribute [local go_sem] max2_int min2_int max_two min_two max_three min_three max_four min_four
set_option linter.unusedVariables false
set_option linter.unusedSimpArgs false
def sayL (s : Bs) : Option (Nat × Nat × Nat × Bs) :=
  (smallL s).bind fun x => (smallL x.2).bind fun y => (smallL y.2).bind fun z => if namedB x.1 y.1 (toB z.2) = true ∧ seatB z.1 = true then some (x.1, y.1, z.1, z.2) else none
set_option maxHeartbeats 4000000 in
set_option maxRecDepth 100000 in
theorem post_TakeSay.good (s : ByteArray) (a r v : Nat) (d : Bs) (w : World) (hs : s.size < 4611686018427387904) (h : sayL (ofB s) = some (a, r, v, d)) :
    Calls Try.prog 36 #[.string s] w fun e w' => e = .returned (.agg #[.int .i64 a, .int .i64 r, .int .i64 v, .string (toB d)]) ∧ Below w.heap.size w w' := by
  unfold sayL at h
  obtain ⟨⟨a', s1⟩, h1, h⟩ := Option.bind_eq_some_iff.1 h
  obtain ⟨⟨r', s2⟩, h2, h⟩ := Option.bind_eq_some_iff.1 h
  obtain ⟨⟨v', s3⟩, h3, h⟩ := Option.bind_eq_some_iff.1 h
  simp only at h2 h3 h
  split at h
  · rename_i h0
    obtain ⟨h4, h5⟩ := h0
    obtain ⟨rfl, rfl, rfl, rfl⟩ : a' = a ∧ r' = r ∧ v' = v ∧ s3 = d := by
      have := Option.some.inj h
      simp only [Prod.mk.injEq] at this
      exact this
    have l1 := smallL_len h1
    rw [ofB_length] at l1
    have HS1 : Aside0 ((toB s1).size < 4611686018427387904) := ⟨by rw [toB_size]; omega⟩
    have l2 := smallL_len h2
    have HS2 : Aside0 ((toB s2).size < 4611686018427387904) := ⟨by rw [toB_size]; omega⟩
    have HS := Aside0.mk hs
    have H1 := Aside0.mk h1
    have H2 : Aside0 (smallL (ofB (toB s1)) = some (r', s2)) := ⟨by rw [ofB_toB]; exact h2⟩
    have H3 : Aside0 (smallL (ofB (toB s2)) = some (v', s3)) := ⟨by rw [ofB_toB]; exact h3⟩
    have H4 := Aside0.mk h4
    have H5 := Aside0.mk h5
    clear hs h1 h2 h3 h4 h5 h l1 l2
    go_enter Try.func36, Try.ntmps36
    go_wp2_with (first
      | ((with_reducible refine gate_dst (N := 1) rfl ?_); refine box_event ?hg (N := 1) ?hd (cs := #[.string s]) (t := 9) ?hr ?_; (case hd => rfl); (case hg => rfl); (case hr => first | (go_simp; done) | (go_simp; rfl)); intro g1 hg w1 hbox hb; have G1 : Aside0 (w.heap.size ≤ g1) := ⟨by rw [hg]; exact Nat.le_refl _⟩; have B1 := Aside0.mk hbox; have HB1 := Aside0.mk hb; clear hb hbox hg)
      | ((with_reducible refine gate_dst (N := 2) rfl ?_); refine box_event ?hg (N := 2) ?hd (cs := #[.int .i64 0, .int .i64 0, .int .i64 0, .string ⟨#[]⟩]) (t := 42) ?hr ?_; (case hd => rfl); (case hg => rfl); (case hr => first | (go_simp; done) | (go_simp; rfl)); intro g2 hg w2 hbox hb; have G2 : Aside0 (w.heap.size ≤ g2) := ⟨by rw [hg]; exact below_size HB1.out⟩; have N2 : Aside0 (g2 ≠ g1) := ⟨by rw [hg]; exact Nat.ne_of_gt (blk_lt B1.out)⟩; have B2 := Aside0.mk hbox; have B1b := Aside0.mk (blk_below B1.out hb); have HB2 := Aside0.mk (below_step HB1.out hb); clear hb hbox hg B1)
      | (go_at_call 37; (with_reducible refine (post_num.goodU s g1 _ _ _ _ HS.out H1.out B1b.out).mono ?_); rintro e w3 ⟨rfl, hu, hk, hl⟩; have C1 := Aside0.mk hu; have C2 := Aside0.mk (hk g2 _ _ N2.out B2.out); have HB3 := Aside0.mk (hl _ HB2.out G1.out); clear hu hk hl B1b H1)
      | (go_at_call 37; (with_reducible refine (post_num.goodU (toB s1) g1 _ _ _ _ HS1.out H2.out (blk_alloc C1.out _)).mono ?_); rintro e w4 ⟨rfl, hu, hk, hl⟩; have N3 : Aside0 (w3.heap.size ≠ g1) := ⟨Nat.ne_of_gt (blk_lt C1.out)⟩; have N4 : Aside0 (w3.heap.size ≠ g2) := ⟨Nat.ne_of_gt (blk_lt C2.out)⟩; have D1 := Aside0.mk hu; have D2 := Aside0.mk (hk g2 _ _ N2.out (blk_alloc C2.out _)); have D3 := Aside0.mk (hk _ _ _ N3.out (blk_new _ _)); have HB4 := Aside0.mk (hl _ (below_alloc HB3.out _) G1.out); have GL3 := Aside0.mk (below_size HB3.out); clear hu hk hl C1 C2 H2; have hy1 := (blk_cell D3.out 1).trans rfl; have fy1 := blk_frozen D3.out 1)
      | (go_at_call 37; (with_reducible refine (post_num.goodU (toB s2) g1 _ _ _ _ HS2.out H3.out (blk_far D1.out (Ne.symm N3.out) _)).mono ?_); rintro e w5 ⟨rfl, hu, hk, hl⟩; have E1 := Aside0.mk hu; have E2 := Aside0.mk (hk g2 _ _ N2.out (blk_far D2.out (Ne.symm N4.out) _)); have E3 := Aside0.mk (hk _ _ _ N3.out (blk_put D3.out 1 (.int .i64 r') rfl)); have HB5 := Aside0.mk (hl _ (below_set HB4.out GL3.out) G1.out); clear hu hk hl D1 D2 D3 H3; have hz0 := (blk_cell E3.out 0).trans rfl; have fz0 := blk_frozen E3.out 0; have hw0 := (blk_cell E2.out 0).trans rfl; have fw0 := blk_frozen E2.out 0; have hz1 := (blk_cell E3.out 1).trans rfl; have fz1 := blk_frozen E3.out 1; have hw1 := (blk_cell E2.out 1).trans rfl; have fw1 := blk_frozen E2.out 1; have hz2 := (blk_cell E3.out 2).trans rfl; have fz2 := blk_frozen E3.out 2; have hw2 := (blk_cell E2.out 2).trans rfl; have fw2 := blk_frozen E2.out 2; have hz3 := (blk_cell E3.out 3).trans rfl; have fz3 := blk_frozen E3.out 3; have hw3 := (blk_cell E2.out 3).trans rfl; have fw3 := blk_frozen E2.out 3; have hx := (blk_cell E1.out 0).trans rfl; have fx := blk_frozen E1.out 0; have n31 := N3.out; have n13 := Ne.symm N3.out; have n32 := N4.out; have n23 := Ne.symm N4.out)
      | (go_at_call 38; (with_reducible refine (post_may.calls _ _ _ _ _ (post_may_of _ _ _)).mono ?_); rintro e w6 ⟨rfl, ⟨n6, rfl⟩⟩; rw [H4.out])
      | (go_at_call 39; (with_reducible refine (post_seat.calls _ _ _ (post_seat_of _)).mono ?_); rintro e w6 ⟨rfl, ⟨n7, rfl⟩⟩; rw [H5.out])
      | (go_at_call 28; (with_reducible refine (post_ask.yes _).mono ?_); rintro e w1 ⟨rfl, rfl⟩))
    refine bodyPost_ret (results_cell_row rfl _ _ g2 42 #[.int .i64 a', .int .i64 r', .int .i64 v', .string (toB s3)] (0, 0) _ rfl (by
      refine blk_put (cs := #[.int .i64 a', .int .i64 r', .int .i64 v', .string ⟨#[]⟩]) ?_ 3 _ rfl
      refine blk_put (cs := #[.int .i64 a', .int .i64 r', .int .i64 0, .string ⟨#[]⟩]) ?_ 2 _ rfl
      refine blk_put (cs := #[.int .i64 a', .int .i64 0, .int .i64 0, .string ⟨#[]⟩]) ?_ 1 _ rfl
      refine blk_put (cs := #[.int .i64 0, .int .i64 0, .int .i64 0, .string ⟨#[]⟩]) ?_ 0 _ rfl
      exact blk_drewN (blk_far (blk_far E2.out (Ne.symm N4.out) _) (Ne.symm N4.out) _) _) Try.underlying42 rfl (by kernel_rfl)) rfl ?_
    exact ⟨rfl, (below_set (below_set (below_set (below_set (pw_below_drewN (below_set (below_set HB5.out GL3.out) GL3.out) _) G2.out) G2.out) G2.out) G2.out)⟩
  · cases h
set_option maxHeartbeats 4000000 in
set_option maxRecDepth 100000 in
theorem post_TakeSay.bad (s : ByteArray) (w : World) (hs : s.size < 4611686018427387904) (h : sayL (ofB s) = none) :
    Calls Try.prog 36 #[.string s] w fun e w' => e = .panicked oddChain ∧ Below w.heap.size w w' := by
  unfold sayL at h
  have HS := Aside0.mk hs
  rcases h1 : smallL (ofB s) with _ | ⟨a', s1⟩
  · have H1 : Aside0 (smallL (ofB s) = none) := ⟨h1⟩
    clear h hs h1
    go_enter Try.func36, Try.ntmps36
    go_wp2_with (first
      | ((with_reducible refine gate_dst (N := 1) rfl ?_); refine box_event ?hg (N := 1) ?hd (cs := #[.string s]) (t := 9) ?hr ?_; (case hd => rfl); (case hg => rfl); (case hr => first | (go_simp; done) | (go_simp; rfl)); intro g1 hg w1 hbox hb; have G1 : Aside0 (w.heap.size ≤ g1) := ⟨by rw [hg]; exact Nat.le_refl _⟩; have B1 := Aside0.mk hbox; have HB1 := Aside0.mk hb; clear hb hbox hg)
      | ((with_reducible refine gate_dst (N := 2) rfl ?_); refine box_event ?hg (N := 2) ?hd (cs := #[.int .i64 0, .int .i64 0, .int .i64 0, .string ⟨#[]⟩]) (t := 42) ?hr ?_; (case hd => rfl); (case hg => rfl); (case hr => first | (go_simp; done) | (go_simp; rfl)); intro g2 hg w2 hbox hb; have G2 : Aside0 (w.heap.size ≤ g2) := ⟨by rw [hg]; exact below_size HB1.out⟩; have N2 : Aside0 (g2 ≠ g1) := ⟨by rw [hg]; exact Nat.ne_of_gt (blk_lt B1.out)⟩; have B2 := Aside0.mk hbox; have B1b := Aside0.mk (blk_below B1.out hb); have HB2 := Aside0.mk (below_step HB1.out hb); clear hb hbox hg B1)
      | (go_at_call 37; (with_reducible refine (post_num.badU s g1 _ _ HS.out H1.out B1b.out).mono ?_); rintro e wb ⟨rfl, hl⟩; have HX := Aside0.mk (hl _ HB2.out); clear hl))
    exact ⟨rfl, rfl, HX.out⟩
  rw [h1, Option.bind_some] at h
  simp only at h
  have H1 := Aside0.mk h1
  have l1 := smallL_len h1
  rw [ofB_length] at l1
  have HS1 : Aside0 ((toB s1).size < 4611686018427387904) := ⟨by rw [toB_size]; omega⟩
  rcases h2 : smallL s1 with _ | ⟨r', s2⟩
  · have H2 : Aside0 (smallL (ofB (toB s1)) = none) := ⟨by rw [ofB_toB]; exact h2⟩
    clear h hs h1 h2 l1
    go_enter Try.func36, Try.ntmps36
    go_wp2_with (first
      | ((with_reducible refine gate_dst (N := 1) rfl ?_); refine box_event ?hg (N := 1) ?hd (cs := #[.string s]) (t := 9) ?hr ?_; (case hd => rfl); (case hg => rfl); (case hr => first | (go_simp; done) | (go_simp; rfl)); intro g1 hg w1 hbox hb; have G1 : Aside0 (w.heap.size ≤ g1) := ⟨by rw [hg]; exact Nat.le_refl _⟩; have B1 := Aside0.mk hbox; have HB1 := Aside0.mk hb; clear hb hbox hg)
      | ((with_reducible refine gate_dst (N := 2) rfl ?_); refine box_event ?hg (N := 2) ?hd (cs := #[.int .i64 0, .int .i64 0, .int .i64 0, .string ⟨#[]⟩]) (t := 42) ?hr ?_; (case hd => rfl); (case hg => rfl); (case hr => first | (go_simp; done) | (go_simp; rfl)); intro g2 hg w2 hbox hb; have G2 : Aside0 (w.heap.size ≤ g2) := ⟨by rw [hg]; exact below_size HB1.out⟩; have N2 : Aside0 (g2 ≠ g1) := ⟨by rw [hg]; exact Nat.ne_of_gt (blk_lt B1.out)⟩; have B2 := Aside0.mk hbox; have B1b := Aside0.mk (blk_below B1.out hb); have HB2 := Aside0.mk (below_step HB1.out hb); clear hb hbox hg B1)
      | (go_at_call 37; (with_reducible refine (post_num.goodU s g1 _ _ _ _ HS.out H1.out B1b.out).mono ?_); rintro e w3 ⟨rfl, hu, hk, hl⟩; have C1 := Aside0.mk hu; have C2 := Aside0.mk (hk g2 _ _ N2.out B2.out); have HB3 := Aside0.mk (hl _ HB2.out G1.out); clear hu hk hl B1b H1)
      | (go_at_call 37; (with_reducible refine (post_num.badU (toB s1) g1 _ _ HS1.out H2.out (blk_alloc C1.out _)).mono ?_); rintro e wb ⟨rfl, hl⟩; have HX := Aside0.mk (hl _ (below_alloc HB3.out _)); clear hl))
    exact ⟨rfl, rfl, HX.out⟩
  rw [h2, Option.bind_some] at h
  simp only at h
  have H2 : Aside0 (smallL (ofB (toB s1)) = some (r', s2)) := ⟨by rw [ofB_toB]; exact h2⟩
  have l2 := smallL_len h2
  have HS2 : Aside0 ((toB s2).size < 4611686018427387904) := ⟨by rw [toB_size]; omega⟩
  rcases h3 : smallL s2 with _ | ⟨v', s3⟩
  · have H3 : Aside0 (smallL (ofB (toB s2)) = none) := ⟨by rw [ofB_toB]; exact h3⟩
    clear h hs h1 h2 h3 l1 l2
    go_enter Try.func36, Try.ntmps36
    go_wp2_with (first
      | ((with_reducible refine gate_dst (N := 1) rfl ?_); refine box_event ?hg (N := 1) ?hd (cs := #[.string s]) (t := 9) ?hr ?_; (case hd => rfl); (case hg => rfl); (case hr => first | (go_simp; done) | (go_simp; rfl)); intro g1 hg w1 hbox hb; have G1 : Aside0 (w.heap.size ≤ g1) := ⟨by rw [hg]; exact Nat.le_refl _⟩; have B1 := Aside0.mk hbox; have HB1 := Aside0.mk hb; clear hb hbox hg)
      | ((with_reducible refine gate_dst (N := 2) rfl ?_); refine box_event ?hg (N := 2) ?hd (cs := #[.int .i64 0, .int .i64 0, .int .i64 0, .string ⟨#[]⟩]) (t := 42) ?hr ?_; (case hd => rfl); (case hg => rfl); (case hr => first | (go_simp; done) | (go_simp; rfl)); intro g2 hg w2 hbox hb; have G2 : Aside0 (w.heap.size ≤ g2) := ⟨by rw [hg]; exact below_size HB1.out⟩; have N2 : Aside0 (g2 ≠ g1) := ⟨by rw [hg]; exact Nat.ne_of_gt (blk_lt B1.out)⟩; have B2 := Aside0.mk hbox; have B1b := Aside0.mk (blk_below B1.out hb); have HB2 := Aside0.mk (below_step HB1.out hb); clear hb hbox hg B1)
      | (go_at_call 37; (with_reducible refine (post_num.goodU s g1 _ _ _ _ HS.out H1.out B1b.out).mono ?_); rintro e w3 ⟨rfl, hu, hk, hl⟩; have C1 := Aside0.mk hu; have C2 := Aside0.mk (hk g2 _ _ N2.out B2.out); have HB3 := Aside0.mk (hl _ HB2.out G1.out); clear hu hk hl B1b H1)
      | (go_at_call 37; (with_reducible refine (post_num.goodU (toB s1) g1 _ _ _ _ HS1.out H2.out (blk_alloc C1.out _)).mono ?_); rintro e w4 ⟨rfl, hu, hk, hl⟩; have N3 : Aside0 (w3.heap.size ≠ g1) := ⟨Nat.ne_of_gt (blk_lt C1.out)⟩; have N4 : Aside0 (w3.heap.size ≠ g2) := ⟨Nat.ne_of_gt (blk_lt C2.out)⟩; have D1 := Aside0.mk hu; have D2 := Aside0.mk (hk g2 _ _ N2.out (blk_alloc C2.out _)); have D3 := Aside0.mk (hk _ _ _ N3.out (blk_new _ _)); have HB4 := Aside0.mk (hl _ (below_alloc HB3.out _) G1.out); have GL3 := Aside0.mk (below_size HB3.out); clear hu hk hl C1 C2 H2; have hy1 := (blk_cell D3.out 1).trans rfl; have fy1 := blk_frozen D3.out 1)
      | (go_at_call 37; (with_reducible refine (post_num.badU (toB s2) g1 _ _ HS2.out H3.out (blk_far D1.out (Ne.symm N3.out) _)).mono ?_); rintro e wb ⟨rfl, hl⟩; have HX := Aside0.mk (hl _ (below_set HB4.out (below_size HB3.out))); clear hl))
    exact ⟨rfl, rfl, HX.out⟩
  rw [h3, Option.bind_some] at h
  simp only at h
  have H3 : Aside0 (smallL (ofB (toB s2)) = some (v', s3)) := ⟨by rw [ofB_toB]; exact h3⟩
  split at h
  · cases h
  · rename_i h0
    clear h hs h1 h2 h3 l1 l2
    rcases h4 : namedB a' r' (toB s3) with _ | _
    · have H4 := Aside0.mk h4
      clear h0 h4
      go_enter Try.func36, Try.ntmps36
      go_wp2_with (first
        | ((with_reducible refine gate_dst (N := 1) rfl ?_); refine box_event ?hg (N := 1) ?hd (cs := #[.string s]) (t := 9) ?hr ?_; (case hd => rfl); (case hg => rfl); (case hr => first | (go_simp; done) | (go_simp; rfl)); intro g1 hg w1 hbox hb; have G1 : Aside0 (w.heap.size ≤ g1) := ⟨by rw [hg]; exact Nat.le_refl _⟩; have B1 := Aside0.mk hbox; have HB1 := Aside0.mk hb; clear hb hbox hg)
        | ((with_reducible refine gate_dst (N := 2) rfl ?_); refine box_event ?hg (N := 2) ?hd (cs := #[.int .i64 0, .int .i64 0, .int .i64 0, .string ⟨#[]⟩]) (t := 42) ?hr ?_; (case hd => rfl); (case hg => rfl); (case hr => first | (go_simp; done) | (go_simp; rfl)); intro g2 hg w2 hbox hb; have G2 : Aside0 (w.heap.size ≤ g2) := ⟨by rw [hg]; exact below_size HB1.out⟩; have N2 : Aside0 (g2 ≠ g1) := ⟨by rw [hg]; exact Nat.ne_of_gt (blk_lt B1.out)⟩; have B2 := Aside0.mk hbox; have B1b := Aside0.mk (blk_below B1.out hb); have HB2 := Aside0.mk (below_step HB1.out hb); clear hb hbox hg B1)
        | (go_at_call 37; (with_reducible refine (post_num.goodU s g1 _ _ _ _ HS.out H1.out B1b.out).mono ?_); rintro e w3 ⟨rfl, hu, hk, hl⟩; have C1 := Aside0.mk hu; have C2 := Aside0.mk (hk g2 _ _ N2.out B2.out); have HB3 := Aside0.mk (hl _ HB2.out G1.out); clear hu hk hl B1b H1)
        | (go_at_call 37; (with_reducible refine (post_num.goodU (toB s1) g1 _ _ _ _ HS1.out H2.out (blk_alloc C1.out _)).mono ?_); rintro e w4 ⟨rfl, hu, hk, hl⟩; have N3 : Aside0 (w3.heap.size ≠ g1) := ⟨Nat.ne_of_gt (blk_lt C1.out)⟩; have N4 : Aside0 (w3.heap.size ≠ g2) := ⟨Nat.ne_of_gt (blk_lt C2.out)⟩; have D1 := Aside0.mk hu; have D2 := Aside0.mk (hk g2 _ _ N2.out (blk_alloc C2.out _)); have D3 := Aside0.mk (hk _ _ _ N3.out (blk_new _ _)); have HB4 := Aside0.mk (hl _ (below_alloc HB3.out _) G1.out); have GL3 := Aside0.mk (below_size HB3.out); clear hu hk hl C1 C2 H2; have hy1 := (blk_cell D3.out 1).trans rfl; have fy1 := blk_frozen D3.out 1)
        | (go_at_call 37; (with_reducible refine (post_num.goodU (toB s2) g1 _ _ _ _ HS2.out H3.out (blk_far D1.out (Ne.symm N3.out) _)).mono ?_); rintro e w5 ⟨rfl, hu, hk, hl⟩; have E1 := Aside0.mk hu; have E2 := Aside0.mk (hk g2 _ _ N2.out (blk_far D2.out (Ne.symm N4.out) _)); have E3 := Aside0.mk (hk _ _ _ N3.out (blk_put D3.out 1 (.int .i64 r') rfl)); have HB5 := Aside0.mk (hl _ (below_set HB4.out GL3.out) G1.out); clear hu hk hl D1 D2 D3 H3; have hz0 := (blk_cell E3.out 0).trans rfl; have fz0 := blk_frozen E3.out 0; have hw0 := (blk_cell E2.out 0).trans rfl; have fw0 := blk_frozen E2.out 0; have hz1 := (blk_cell E3.out 1).trans rfl; have fz1 := blk_frozen E3.out 1; have hw1 := (blk_cell E2.out 1).trans rfl; have fw1 := blk_frozen E2.out 1; have hz2 := (blk_cell E3.out 2).trans rfl; have fz2 := blk_frozen E3.out 2; have hw2 := (blk_cell E2.out 2).trans rfl; have fw2 := blk_frozen E2.out 2; have hz3 := (blk_cell E3.out 3).trans rfl; have fz3 := blk_frozen E3.out 3; have hw3 := (blk_cell E2.out 3).trans rfl; have fw3 := blk_frozen E2.out 3; have hx := (blk_cell E1.out 0).trans rfl; have fx := blk_frozen E1.out 0; have n31 := N3.out; have n13 := Ne.symm N3.out; have n32 := N4.out; have n23 := Ne.symm N4.out)
        | (go_at_call 38; (with_reducible refine (post_may.calls _ _ _ _ _ (post_may_of _ _ _)).mono ?_); rintro e w6 ⟨rfl, ⟨n6, rfl⟩⟩; rw [H4.out])
        | (go_at_call 28; (with_reducible refine (post_ask.no _).mono ?_); rintro e w1 ⟨rfl, rfl⟩))
      exact ⟨rfl, rfl, by repeat (first | exact (below_set (below_set HB5.out GL3.out) GL3.out) | apply pw_below_drewN)⟩
    · have H4 := Aside0.mk h4
      rcases h5 : seatB v' with _ | _
      · have H5 := Aside0.mk h5
        clear h0 h4 h5
        go_enter Try.func36, Try.ntmps36
        go_wp2_with (first
          | ((with_reducible refine gate_dst (N := 1) rfl ?_); refine box_event ?hg (N := 1) ?hd (cs := #[.string s]) (t := 9) ?hr ?_; (case hd => rfl); (case hg => rfl); (case hr => first | (go_simp; done) | (go_simp; rfl)); intro g1 hg w1 hbox hb; have G1 : Aside0 (w.heap.size ≤ g1) := ⟨by rw [hg]; exact Nat.le_refl _⟩; have B1 := Aside0.mk hbox; have HB1 := Aside0.mk hb; clear hb hbox hg)
          | ((with_reducible refine gate_dst (N := 2) rfl ?_); refine box_event ?hg (N := 2) ?hd (cs := #[.int .i64 0, .int .i64 0, .int .i64 0, .string ⟨#[]⟩]) (t := 42) ?hr ?_; (case hd => rfl); (case hg => rfl); (case hr => first | (go_simp; done) | (go_simp; rfl)); intro g2 hg w2 hbox hb; have G2 : Aside0 (w.heap.size ≤ g2) := ⟨by rw [hg]; exact below_size HB1.out⟩; have N2 : Aside0 (g2 ≠ g1) := ⟨by rw [hg]; exact Nat.ne_of_gt (blk_lt B1.out)⟩; have B2 := Aside0.mk hbox; have B1b := Aside0.mk (blk_below B1.out hb); have HB2 := Aside0.mk (below_step HB1.out hb); clear hb hbox hg B1)
          | (go_at_call 37; (with_reducible refine (post_num.goodU s g1 _ _ _ _ HS.out H1.out B1b.out).mono ?_); rintro e w3 ⟨rfl, hu, hk, hl⟩; have C1 := Aside0.mk hu; have C2 := Aside0.mk (hk g2 _ _ N2.out B2.out); have HB3 := Aside0.mk (hl _ HB2.out G1.out); clear hu hk hl B1b H1)
          | (go_at_call 37; (with_reducible refine (post_num.goodU (toB s1) g1 _ _ _ _ HS1.out H2.out (blk_alloc C1.out _)).mono ?_); rintro e w4 ⟨rfl, hu, hk, hl⟩; have N3 : Aside0 (w3.heap.size ≠ g1) := ⟨Nat.ne_of_gt (blk_lt C1.out)⟩; have N4 : Aside0 (w3.heap.size ≠ g2) := ⟨Nat.ne_of_gt (blk_lt C2.out)⟩; have D1 := Aside0.mk hu; have D2 := Aside0.mk (hk g2 _ _ N2.out (blk_alloc C2.out _)); have D3 := Aside0.mk (hk _ _ _ N3.out (blk_new _ _)); have HB4 := Aside0.mk (hl _ (below_alloc HB3.out _) G1.out); have GL3 := Aside0.mk (below_size HB3.out); clear hu hk hl C1 C2 H2; have hy1 := (blk_cell D3.out 1).trans rfl; have fy1 := blk_frozen D3.out 1)
          | (go_at_call 37; (with_reducible refine (post_num.goodU (toB s2) g1 _ _ _ _ HS2.out H3.out (blk_far D1.out (Ne.symm N3.out) _)).mono ?_); rintro e w5 ⟨rfl, hu, hk, hl⟩; have E1 := Aside0.mk hu; have E2 := Aside0.mk (hk g2 _ _ N2.out (blk_far D2.out (Ne.symm N4.out) _)); have E3 := Aside0.mk (hk _ _ _ N3.out (blk_put D3.out 1 (.int .i64 r') rfl)); have HB5 := Aside0.mk (hl _ (below_set HB4.out GL3.out) G1.out); clear hu hk hl D1 D2 D3 H3; have hz0 := (blk_cell E3.out 0).trans rfl; have fz0 := blk_frozen E3.out 0; have hw0 := (blk_cell E2.out 0).trans rfl; have fw0 := blk_frozen E2.out 0; have hz1 := (blk_cell E3.out 1).trans rfl; have fz1 := blk_frozen E3.out 1; have hw1 := (blk_cell E2.out 1).trans rfl; have fw1 := blk_frozen E2.out 1; have hz2 := (blk_cell E3.out 2).trans rfl; have fz2 := blk_frozen E3.out 2; have hw2 := (blk_cell E2.out 2).trans rfl; have fw2 := blk_frozen E2.out 2; have hz3 := (blk_cell E3.out 3).trans rfl; have fz3 := blk_frozen E3.out 3; have hw3 := (blk_cell E2.out 3).trans rfl; have fw3 := blk_frozen E2.out 3; have hx := (blk_cell E1.out 0).trans rfl; have fx := blk_frozen E1.out 0; have n31 := N3.out; have n13 := Ne.symm N3.out; have n32 := N4.out; have n23 := Ne.symm N4.out)
          | (go_at_call 38; (with_reducible refine (post_may.calls _ _ _ _ _ (post_may_of _ _ _)).mono ?_); rintro e w6 ⟨rfl, ⟨n6, rfl⟩⟩; rw [H4.out])
          | (go_at_call 39; (with_reducible refine (post_seat.calls _ _ _ (post_seat_of _)).mono ?_); rintro e w6 ⟨rfl, ⟨n7, rfl⟩⟩; rw [H5.out])
          | (go_at_call 28; (with_reducible refine (post_ask.no _).mono ?_); rintro e w1 ⟨rfl, rfl⟩))
        exact ⟨rfl, rfl, by repeat (first | exact (below_set (below_set HB5.out GL3.out) GL3.out) | apply pw_below_drewN)⟩
      · exact absurd ⟨h4, h5⟩ h0
theorem post_behind_Say.assert (w : World) : (Instr.typeAssert (.iface 91 (.agg #[])) 20 91 true).run Try.prog w = .ok (.tuple #[.agg #[], .bool true]) w := by kernel_rfl
set_option maxHeartbeats 4000000 in
set_option maxRecDepth 100000 in
theorem post_behind_Say.catch (g6 g7 : Nat) (older : List PanicEntry) (c7 : Value) (w : World) (h6 : w.heap[g6]? = some (.cells #[.int .i64 0, .int .i64 0, .int .i64 0, .string ⟨#[]⟩] 42 (0, 0))) (h7 : w.heap[g7]? = some (.cells #[c7] 29 (0, 0))) (hne : g6 ≠ g7) :
    CallsD Try.prog 67 #[.pointer (some ⟨g6, 0, none⟩), .pointer (some ⟨g7, 0, none⟩)] (.panicking ({ v := oddV, recovered := false } :: older)) w fun e u' w' =>
      e = .returned (.tuple #[]) ∧ u' = .panicking ({ v := oddV, recovered := true } :: older) ∧ w'.heap[g6]? = some (.cells #[.int .i64 0, .int .i64 0, .int .i64 0, .string ⟨#[]⟩] 42 (0, 0)) ∧ w'.heap[g7]? = some (.cells #[.int .i64 3] 29 (0, 0)) ∧ ∀ W0 : World, Below W0.heap.size W0 w → W0.heap.size ≤ g6 → W0.heap.size ≤ g7 → Below W0.heap.size W0 w' := by
  have ha := post_behind_Say.assert
  have hne' := Ne.symm hne
  refine callsD_of_wpS Try.func67 rfl fun c₀ cs hu => ?_
  apply wpS_seq
  apply wpS_region
  simp [wpOpsS, go_sem, recoverD, hu, Try.ntmps67, Exit.thenS, oddV]
  show Code.wpS _ _ _ ⟨#[.pointer (some ⟨g6, 0, none⟩), .pointer (some ⟨g7, 0, none⟩), oddV, undef, undef, undef, oddV, undef, undef, undef, undef, undef, undef, undef, undef, undef, undef, undef], []⟩ _ _
  unfold oddV
  refine wpS_of_wp ?_
  go_wp2_with (first
    | ((with_reducible refine gate_dst (N := 3) rfl ?_); refine box_event ?hg (N := 3) ?hd (cs := #[]) (t := 91) ?hr ?_; (case hd => rfl); (case hg => rfl); (case hr => first | (go_simp; done) | (go_simp; rfl)); intro g3 hg w1 hbox hb; have B6 := Aside0.mk (blk_below h6 hb); have B7 := Aside0.mk (blk_below h7 hb); have HB1 := Aside0.mk hb; clear hb hbox hg)
    | ((with_reducible refine gate_dst (N := 5) rfl ?_); refine box_event ?hg (N := 5) ?hd (cs := #[.int .i64 0, .int .i64 0, .int .i64 0, .string ⟨#[]⟩]) (t := 42) ?hr ?_; (case hd => rfl); (case hg => rfl); (case hr => first | (go_simp; done) | (go_simp; rfl)); intro g5 hg w2 hbox hb; have C6 := Aside0.mk (blk_below B6.out hb); have C7 := Aside0.mk (blk_below B7.out hb); have HB2 := Aside0.mk (below_step HB1.out hb); have B5 := Aside0.mk hbox; clear hb hbox hg; have ca0 := (blk_cell C6.out 0).trans rfl; have fca0 := blk_frozen C6.out 0; have cd0 := (blk_cell B5.out 0).trans rfl; have fcd0 := blk_frozen B5.out 0; have ca1 := (blk_cell C6.out 1).trans rfl; have fca1 := blk_frozen C6.out 1; have cd1 := (blk_cell B5.out 1).trans rfl; have fcd1 := blk_frozen B5.out 1; have ca2 := (blk_cell C6.out 2).trans rfl; have fca2 := blk_frozen C6.out 2; have cd2 := (blk_cell B5.out 2).trans rfl; have fcd2 := blk_frozen B5.out 2; have ca3 := (blk_cell C6.out 3).trans rfl; have fca3 := blk_frozen C6.out 3; have cd3 := (blk_cell B5.out 3).trans rfl; have fcd3 := blk_frozen B5.out 3; have cb0 := (blk_cell C7.out 0).trans rfl; have fcb0 := blk_frozen C7.out 0))
  have x6 : (((((w2.setCell ⟨g6, 0, none⟩ (.int .i64 0)).setCell ⟨g6, 1, none⟩ (.int .i64 0)).setCell ⟨g6, 2, none⟩ (.int .i64 0)).setCell ⟨g6, 3, none⟩ (.string ⟨#[]⟩)).setCell ⟨g7, 0, none⟩ (.int .i64 3)).heap[g6]? = some (.cells #[.int .i64 0, .int .i64 0, .int .i64 0, .string ⟨#[]⟩] 42 (0, 0)) := blk_far (blk_put (blk_put (blk_put (blk_put C6.out 0 _ rfl) 1 _ rfl) 2 _ rfl) 3 _ rfl) hne _
  have x7 : (((((w2.setCell ⟨g6, 0, none⟩ (.int .i64 0)).setCell ⟨g6, 1, none⟩ (.int .i64 0)).setCell ⟨g6, 2, none⟩ (.int .i64 0)).setCell ⟨g6, 3, none⟩ (.string ⟨#[]⟩)).setCell ⟨g7, 0, none⟩ (.int .i64 3)).heap[g7]? = some (.cells #[.int .i64 3] 29 (0, 0)) := blk_put (blk_far (blk_far (blk_far (blk_far C7.out hne' _) hne' _) hne' _) hne' _) 0 _ rfl
  have x8 : ∀ W0 : World, Below W0.heap.size W0 w → W0.heap.size ≤ g6 → W0.heap.size ≤ g7 → Below W0.heap.size W0 (((((w2.setCell ⟨g6, 0, none⟩ (.int .i64 0)).setCell ⟨g6, 1, none⟩ (.int .i64 0)).setCell ⟨g6, 2, none⟩ (.int .i64 0)).setCell ⟨g6, 3, none⟩ (.string ⟨#[]⟩)).setCell ⟨g7, 0, none⟩ (.int .i64 3)) := fun W0 h k6 k7 => below_set (below_set (below_set (below_set (below_set (below_step h HB2.out) k6) k6) k6) k6) k7
  generalize (((((w2.setCell ⟨g6, 0, none⟩ (.int .i64 0)).setCell ⟨g6, 1, none⟩ (.int .i64 0)).setCell ⟨g6, 2, none⟩ (.int .i64 0)).setCell ⟨g6, 3, none⟩ (.string ⟨#[]⟩)).setCell ⟨g7, 0, none⟩ (.int .i64 3)) = wE at x6 x7 x8 ⊢
  simp [bodyPostS, results, Try.results67]
  exact ⟨x6, x7, x8⟩
set_option maxHeartbeats 4000000 in
set_option maxRecDepth 100000 in
theorem post_behind_Say.idle (g6 g7 : Nat) (w : World) :
    CallsD Try.prog 67 #[.pointer (some ⟨g6, 0, none⟩), .pointer (some ⟨g7, 0, none⟩)] .returning w fun e u' w' => e = .returned (.tuple #[]) ∧ u' = .returning ∧ w' = w := by
  refine callsD_of_wpS Try.func67 rfl fun c₀ cs hu => ?_
  apply wpS_seq
  apply wpS_region
  simp [wpOpsS, go_sem, recoverD, hu, Try.ntmps67, Exit.thenS]
  show Code.wpS _ _ _ ⟨#[.pointer (some ⟨g6, 0, none⟩), .pointer (some ⟨g7, 0, none⟩), .nilIface, undef, undef, undef, .nilIface, undef, undef, undef, undef, undef, undef, undef, undef, undef, undef, undef], []⟩ _ _
  refine wpS_of_wp ?_
  go_wp2
  cases c₀
  simp_all [bodyPostS, results, Try.results67]
set_option maxHeartbeats 4000000 in
set_option maxRecDepth 100000 in
theorem post_behind_Say.good (s rest : ByteArray) (a r v : Nat) (d : Bs) (w : World) (hs : rest.size < 4611686018427387904) (hcut : strings_CutPrefix.f s ⟨#[121]⟩ = some (rest, true)) (h : sayL (ofB rest) = some (a, r, v, d)) :
    Calls Try.prog 35 #[.string s, .string ⟨#[121]⟩, .func (.func 36) #[] #[]] w fun e w' => e = .returned (.tuple #[.agg #[.int .i64 a, .int .i64 r, .int .i64 v, .string (toB d)], .int .i64 0]) ∧ Below w.heap.size w w' := by
  have hmf : ∀ (fn : Fn) (first cap : Array Value) (w : World), (Instr.makeFunc fn first cap).run Try.prog w = .ok (.func fn first cap) w := fun _ _ _ _ => rfl
  have HC := Aside0.mk hcut
  have HS := Aside0.mk hs
  have HL := Aside0.mk h
  clear hcut hs h
  go_enter_defers Try.func35, Try.ntmps35
  go_wp2_with (first
    | ((with_reducible refine gate_dst (N := 6) rfl ?_); refine box_event ?hg (N := 6) ?hd (cs := #[.int .i64 0, .int .i64 0, .int .i64 0, .string ⟨#[]⟩]) (t := 42) ?hr ?_; (case hd => rfl); (case hg => rfl); (case hr => first | (go_simp; done) | (go_simp; rfl)); intro g6 hg w1 hbox hb; have G6 : Aside0 (w.heap.size ≤ g6) := ⟨by rw [hg]; exact Nat.le_refl _⟩; have B6 := Aside0.mk hbox; have HB1 := Aside0.mk hb; clear hb hbox hg)
    | ((with_reducible refine gate_dst (N := 7) rfl ?_); refine box_event ?hg (N := 7) ?hd (cs := #[.int .i64 0]) (t := 29) ?hr ?_; (case hd => rfl); (case hg => rfl); (case hr => first | (go_simp; done) | (go_simp; rfl)); intro g7 hg w2 hbox hb; have G7 : Aside0 (w.heap.size ≤ g7) := ⟨by rw [hg]; exact below_size HB1.out⟩; have N67 : Aside0 (g6 ≠ g7) := ⟨by rw [hg]; exact Nat.ne_of_lt (blk_lt B6.out)⟩; have C7 := Aside0.mk hbox; have C6 := Aside0.mk (blk_below B6.out hb); have HB2 := Aside0.mk (below_step HB1.out hb); clear hb hbox hg B6)
    | (go_at_call 52; (with_reducible refine (strings_CutPrefix.calls _ _ _ _ _ HC.out).mono ?_); rintro e w3 ⟨rfl, ⟨n3, rfl⟩⟩)
    | (go_at_call 28; (with_reducible refine (post_ask.yes _).mono ?_); rintro e w1 ⟨rfl, rfl⟩)
    | (go_at_call 36; (with_reducible refine (post_TakeSay.good rest a r v d _ HS.out HL.out).mono ?_); rintro e w4 ⟨rfl, hb⟩; have D6 := Aside0.mk (blk_below (blk_drewN C6.out _) hb); have D7 := Aside0.mk (blk_below (blk_drewN C7.out _) hb); have HB4 := Aside0.mk (below_step (pw_below_drewN HB2.out _) hb); clear hb; have ca0 := (blk_cell D6.out 0).trans rfl; have fca0 := blk_frozen D6.out 0; have ca1 := (blk_cell D6.out 1).trans rfl; have fca1 := blk_frozen D6.out 1; have ca2 := (blk_cell D6.out 2).trans rfl; have fca2 := blk_frozen D6.out 2; have ca3 := (blk_cell D6.out 3).trans rfl; have fca3 := blk_frozen D6.out 3; have cb0 := (blk_cell D7.out 0).trans rfl; have fcb0 := blk_frozen D7.out 0; have n67 := N67.out; have n76 := Ne.symm N67.out))
  have x6 : (((((w4.setCell ⟨g6, 0, none⟩ (.int .i64 a)).setCell ⟨g6, 1, none⟩ (.int .i64 r)).setCell ⟨g6, 2, none⟩ (.int .i64 v)).setCell ⟨g6, 3, none⟩ (.string (toB d))).setCell ⟨g7, 0, none⟩ (.int .i64 0)).heap[g6]? = some (.cells #[.int .i64 a, .int .i64 r, .int .i64 v, .string (toB d)] 42 (0, 0)) := blk_far (blk_put (blk_put (blk_put (blk_put D6.out 0 _ rfl) 1 _ rfl) 2 _ rfl) 3 _ rfl) N67.out _
  have x7 : (((((w4.setCell ⟨g6, 0, none⟩ (.int .i64 a)).setCell ⟨g6, 1, none⟩ (.int .i64 r)).setCell ⟨g6, 2, none⟩ (.int .i64 v)).setCell ⟨g6, 3, none⟩ (.string (toB d))).setCell ⟨g7, 0, none⟩ (.int .i64 0)).heap[g7]? = some (.cells #[.int .i64 0] 29 (0, 0)) := blk_put (blk_far (blk_far (blk_far (blk_far D7.out (Ne.symm N67.out) _) (Ne.symm N67.out) _) (Ne.symm N67.out) _) (Ne.symm N67.out) _) 0 _ rfl
  have x8 : Below w.heap.size w (((((w4.setCell ⟨g6, 0, none⟩ (.int .i64 a)).setCell ⟨g6, 1, none⟩ (.int .i64 r)).setCell ⟨g6, 2, none⟩ (.int .i64 v)).setCell ⟨g6, 3, none⟩ (.string (toB d))).setCell ⟨g7, 0, none⟩ (.int .i64 0)) := below_set (below_set (below_set (below_set (below_set HB4.out G6.out) G6.out) G6.out) G6.out) G7.out
  generalize (((((w4.setCell ⟨g6, 0, none⟩ (.int .i64 a)).setCell ⟨g6, 1, none⟩ (.int .i64 r)).setCell ⟨g6, 2, none⟩ (.int .i64 v)).setCell ⟨g6, 3, none⟩ (.string (toB d))).setCell ⟨g7, 0, none⟩ (.int .i64 0)) = wE at x6 x7 x8 ⊢
  refine leaves_cons (f := 67) (args := #[.pointer (some ⟨g6, 0, none⟩), .pointer (some ⟨g7, 0, none⟩)]) (by simp) (by simp [go_sem]) ?_
  refine (post_behind_Say.idle g6 g7 _).mono ?_
  rintro e u' w'' ⟨rfl, rfl, rfl⟩
  have hc60 : w''.cell? ⟨g6, 0, none⟩ = some (.int .i64 a) := (blk_cell x6 0).trans rfl
  have hc61 : w''.cell? ⟨g6, 1, none⟩ = some (.int .i64 r) := (blk_cell x6 1).trans rfl
  have hc62 : w''.cell? ⟨g6, 2, none⟩ = some (.int .i64 v) := (blk_cell x6 2).trans rfl
  have hc63 : w''.cell? ⟨g6, 3, none⟩ = some (.string (toB d)) := (blk_cell x6 3).trans rfl
  have hc7 : w''.cell? ⟨g7, 0, none⟩ = some (.int .i64 0) := (blk_cell x7 0).trans rfl
  simp [Leaves, settle, results, Try.results35, asAddr, go_sem, hc60, hc61, hc62, hc63, hc7]
  exact x8
set_option maxHeartbeats 4000000 in
set_option maxRecDepth 100000 in
theorem post_behind_Say.none1 (s : ByteArray) (w : World) (hcut : strings_CutPrefix.f s ⟨#[121]⟩ = some (s, false)) :
    Calls Try.prog 35 #[.string s, .string ⟨#[121]⟩, .func (.func 36) #[] #[]] w fun e w' => e = .returned (.tuple #[.agg #[.int .i64 0, .int .i64 0, .int .i64 0, .string ⟨#[]⟩], .int .i64 3]) ∧ Below w.heap.size w w' := by
  have hmf : ∀ (fn : Fn) (first cap : Array Value) (w : World), (Instr.makeFunc fn first cap).run Try.prog w = .ok (.func fn first cap) w := fun _ _ _ _ => rfl
  have HC := Aside0.mk hcut
  clear hcut
  go_enter_defers Try.func35, Try.ntmps35
  go_wp2_with (first
    | ((with_reducible refine gate_dst (N := 6) rfl ?_); refine box_event ?hg (N := 6) ?hd (cs := #[.int .i64 0, .int .i64 0, .int .i64 0, .string ⟨#[]⟩]) (t := 42) ?hr ?_; (case hd => rfl); (case hg => rfl); (case hr => first | (go_simp; done) | (go_simp; rfl)); intro g6 hg w1 hbox hb; have G6 : Aside0 (w.heap.size ≤ g6) := ⟨by rw [hg]; exact Nat.le_refl _⟩; have B6 := Aside0.mk hbox; have HB1 := Aside0.mk hb; clear hb hbox hg)
    | ((with_reducible refine gate_dst (N := 7) rfl ?_); refine box_event ?hg (N := 7) ?hd (cs := #[.int .i64 0]) (t := 29) ?hr ?_; (case hd => rfl); (case hg => rfl); (case hr => first | (go_simp; done) | (go_simp; rfl)); intro g7 hg w2 hbox hb; have G7 : Aside0 (w.heap.size ≤ g7) := ⟨by rw [hg]; exact below_size HB1.out⟩; have N67 : Aside0 (g6 ≠ g7) := ⟨by rw [hg]; exact Nat.ne_of_lt (blk_lt B6.out)⟩; have C7 := Aside0.mk hbox; have C6 := Aside0.mk (blk_below B6.out hb); have HB2 := Aside0.mk (below_step HB1.out hb); clear hb hbox hg B6)
    | (go_at_call 52; (with_reducible refine (strings_CutPrefix.calls _ _ _ _ _ HC.out).mono ?_); rintro e w3 ⟨rfl, ⟨n3, rfl⟩⟩)
    | (go_at_call 28; (with_reducible refine (post_ask.no _).mono ?_); rintro e w4 ⟨rfl, rfl⟩; have D6 := Aside0.mk (blk_drewN C6.out n3); have D7 := Aside0.mk (blk_drewN C7.out n3); have HB4 := Aside0.mk (pw_below_drewN HB2.out n3)))
  refine leaves_cons (f := 67) (args := #[.pointer (some ⟨g6, 0, none⟩), .pointer (some ⟨g7, 0, none⟩)]) (by simp) (by simp [go_sem]) ?_
  refine (post_behind_Say.catch g6 g7 [] _ _ D6.out D7.out N67.out).mono ?_
  rintro e u' w'' ⟨rfl, rfl, x6, x7, hx⟩
  have x8 := hx w HB4.out G6.out G7.out
  have hc60 : w''.cell? ⟨g6, 0, none⟩ = some (.int .i64 0) := (blk_cell x6 0).trans rfl
  have hc61 : w''.cell? ⟨g6, 1, none⟩ = some (.int .i64 0) := (blk_cell x6 1).trans rfl
  have hc62 : w''.cell? ⟨g6, 2, none⟩ = some (.int .i64 0) := (blk_cell x6 2).trans rfl
  have hc63 : w''.cell? ⟨g6, 3, none⟩ = some (.string ⟨#[]⟩) := (blk_cell x6 3).trans rfl
  have hc7 : w''.cell? ⟨g7, 0, none⟩ = some (.int .i64 3) := (blk_cell x7 0).trans rfl
  simp [Leaves, settle, results, Try.results35, asAddr, go_sem, hc60, hc61, hc62, hc63, hc7]
  exact x8
set_option maxHeartbeats 4000000 in
set_option maxRecDepth 100000 in
theorem post_behind_Say.none2 (s rest : ByteArray) (w : World) (hs : rest.size < 4611686018427387904) (hcut : strings_CutPrefix.f s ⟨#[121]⟩ = some (rest, true)) (h : sayL (ofB rest) = none) :
    Calls Try.prog 35 #[.string s, .string ⟨#[121]⟩, .func (.func 36) #[] #[]] w fun e w' => e = .returned (.tuple #[.agg #[.int .i64 0, .int .i64 0, .int .i64 0, .string ⟨#[]⟩], .int .i64 3]) ∧ Below w.heap.size w w' := by
  have hmf : ∀ (fn : Fn) (first cap : Array Value) (w : World), (Instr.makeFunc fn first cap).run Try.prog w = .ok (.func fn first cap) w := fun _ _ _ _ => rfl
  have HC := Aside0.mk hcut
  have HS := Aside0.mk hs
  have HL := Aside0.mk h
  clear hcut hs h
  go_enter_defers Try.func35, Try.ntmps35
  go_wp2_with (first
    | ((with_reducible refine gate_dst (N := 6) rfl ?_); refine box_event ?hg (N := 6) ?hd (cs := #[.int .i64 0, .int .i64 0, .int .i64 0, .string ⟨#[]⟩]) (t := 42) ?hr ?_; (case hd => rfl); (case hg => rfl); (case hr => first | (go_simp; done) | (go_simp; rfl)); intro g6 hg w1 hbox hb; have G6 : Aside0 (w.heap.size ≤ g6) := ⟨by rw [hg]; exact Nat.le_refl _⟩; have B6 := Aside0.mk hbox; have HB1 := Aside0.mk hb; clear hb hbox hg)
    | ((with_reducible refine gate_dst (N := 7) rfl ?_); refine box_event ?hg (N := 7) ?hd (cs := #[.int .i64 0]) (t := 29) ?hr ?_; (case hd => rfl); (case hg => rfl); (case hr => first | (go_simp; done) | (go_simp; rfl)); intro g7 hg w2 hbox hb; have G7 : Aside0 (w.heap.size ≤ g7) := ⟨by rw [hg]; exact below_size HB1.out⟩; have N67 : Aside0 (g6 ≠ g7) := ⟨by rw [hg]; exact Nat.ne_of_lt (blk_lt B6.out)⟩; have C7 := Aside0.mk hbox; have C6 := Aside0.mk (blk_below B6.out hb); have HB2 := Aside0.mk (below_step HB1.out hb); clear hb hbox hg B6)
    | (go_at_call 52; (with_reducible refine (strings_CutPrefix.calls _ _ _ _ _ HC.out).mono ?_); rintro e w3 ⟨rfl, ⟨n3, rfl⟩⟩)
    | (go_at_call 28; (with_reducible refine (post_ask.yes _).mono ?_); rintro e w1 ⟨rfl, rfl⟩)
    | (go_at_call 36; (with_reducible refine (post_TakeSay.bad rest _ HS.out HL.out).mono ?_); rintro e w4 ⟨rfl, hb⟩; have D6 := Aside0.mk (blk_below (blk_drewN C6.out _) hb); have D7 := Aside0.mk (blk_below (blk_drewN C7.out _) hb); have HB4 := Aside0.mk (below_step (pw_below_drewN HB2.out _) hb); clear hb))
  refine leaves_cons (f := 67) (args := #[.pointer (some ⟨g6, 0, none⟩), .pointer (some ⟨g7, 0, none⟩)]) (by simp) (by simp [go_sem]) ?_
  refine (post_behind_Say.catch g6 g7 [] _ _ D6.out D7.out N67.out).mono ?_
  rintro e u' w'' ⟨rfl, rfl, x6, x7, hx⟩
  have x8 := hx w HB4.out G6.out G7.out
  have hc60 : w''.cell? ⟨g6, 0, none⟩ = some (.int .i64 0) := (blk_cell x6 0).trans rfl
  have hc61 : w''.cell? ⟨g6, 1, none⟩ = some (.int .i64 0) := (blk_cell x6 1).trans rfl
  have hc62 : w''.cell? ⟨g6, 2, none⟩ = some (.int .i64 0) := (blk_cell x6 2).trans rfl
  have hc63 : w''.cell? ⟨g6, 3, none⟩ = some (.string ⟨#[]⟩) := (blk_cell x6 3).trans rfl
  have hc7 : w''.cell? ⟨g7, 0, none⟩ = some (.int .i64 3) := (blk_cell x7 0).trans rfl
  simp [Leaves, settle, results, Try.results35, asAddr, go_sem, hc60, hc61, hc62, hc63, hc7]
  exact x8
def sayOf : Option (Nat × Nat × Nat × Bs) → Int × Int × Int × ByteArray × Int
  | some x => ((x.1 : Int), (x.2.1 : Int), (x.2.2.1 : Int), toB x.2.2.2, 0)
  | none => (0, 0, 0, (⟨#[]⟩ : ByteArray), 3)
def takeSayB (s : ByteArray) : Int × Int × Int × ByteArray × Int := match ofB s with
  | c :: t => if c = 121 then sayOf (sayL t) else (0, 0, 0, (⟨#[]⟩ : ByteArray), 3)
  | [] => (0, 0, 0, (⟨#[]⟩ : ByteArray), 3)
def post_behind_Say.f (a0 a1 : ByteArray) : Option (Int × Int × Int × ByteArray × Int) := if a1 = ⟨#[121]⟩ ∧ a0.size < 4611686018427387904 then some (takeSayB a0) else none
theorem post_behind_Say.calls (a0 a1 : ByteArray) (r1 r2 r3 : Int) (r4 : ByteArray) (r5 : Int) (w : World) (h : post_behind_Say.f a0 a1 = some (r1, r2, r3, r4, r5)) :
    Calls Try.prog 35 #[.string a0, .string a1, .func (.func 36) #[] #[]] w fun e w' => e = .returned (.tuple #[.agg #[.int .i64 r1, .int .i64 r2, .int .i64 r3, .string r4], .int .i64 r5]) ∧ Below w.heap.size w w' := by
  unfold post_behind_Say.f at h
  split at h
  · rename_i h0
    obtain ⟨rfl, hs⟩ := h0
    have h := Option.some.inj h
    unfold takeSayB at h
    rcases hq : ofB a0 with _ | ⟨c, t⟩
    · rw [hq] at h
      simp only [Prod.mk.injEq] at h
      obtain ⟨rfl, rfl, rfl, rfl, rfl⟩ := h
      exact post_behind_Say.none1 a0 w (cutPrefix_no _ _ (by rw [hq]; simp))
    · rw [hq] at h
      simp only at h
      by_cases hc : c = 121
      · rw [if_pos hc] at h
        subst hc
        have hcut := cutPrefix_yes a0 121 t hq
        have hs2 : (toB t).size < 4611686018427387904 := by
          have := congrArg List.length hq
          rw [ofB_length, List.length_cons] at this
          rw [toB_size]; omega
        rcases hl : sayL t with _ | ⟨a, r, v, d⟩
        · rw [hl, sayOf] at h
          simp only [Prod.mk.injEq] at h
          obtain ⟨rfl, rfl, rfl, rfl, rfl⟩ := h
          exact post_behind_Say.none2 a0 (toB t) w hs2 hcut (by rw [ofB_toB]; exact hl)
        · rw [hl, sayOf] at h
          simp only [Prod.mk.injEq] at h
          obtain ⟨rfl, rfl, rfl, rfl, rfl⟩ := h
          exact post_behind_Say.good a0 (toB t) a r v d w hs2 hcut (by rw [ofB_toB]; exact hl)
      · rw [if_neg hc] at h
        simp only [Prod.mk.injEq] at h
        obtain ⟨rfl, rfl, rfl, rfl, rfl⟩ := h
        exact post_behind_Say.none1 a0 w (cutPrefix_no _ _ (by rw [hq]; simpa using hc))
  · cases h
end Go.Proofs.Ytenbifjbeeobjaa.Px
