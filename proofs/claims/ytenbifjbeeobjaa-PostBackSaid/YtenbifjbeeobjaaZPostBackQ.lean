/- Part 17 of 33 of the proof of the law PostBack: what is proved is the statement at the end of the last part; its conditions are those of the given row. -/
import Derived.Test.YtenbifjbeeobjaaZPostBackF
import Derived.Test.YtenbifjbeeobjaaZPostBackP
namespace Go.Proofs.Ytenbifjbeeobjaa.Px
open Go.RowKit Go.Proofs.YtenbifjbeeobjaaW.PrintWords Go.Proofs.YtenbifjbeeobjaaW.PrintLast Go.Proofs.YtenbifjbeeobjaaW.PrintMore
attribute [local go_sem] zC zE zJ zK zv zw zB zD
set_option linter.unusedVariables false
set_option linter.unusedSimpArgs false
def zbX (s : Bs) : Option (Nat × Nat × Bs) :=
  (zao s).bind fun x => (zao x.2).bind fun y => if zbj x.1 y.1 (toB y.2) = true then some (x.1, y.1, y.2) else none
set_option maxHeartbeats 4000000 in
set_option maxRecDepth 100000 in
theorem zaJ.good (s : ByteArray) (a r : Nat) (d : Bs) (w : World) (hs : s.size < 4611686018427387904) (h : zbX (ofB s) = some (a, r, d)) :
    Calls Try.prog 43 #[.string s] w fun e w' => e = .returned (.agg #[.int .i64 a, .int .i64 r, .string (toB d)]) ∧ Below w.heap.size w w' := by
  unfold zbX at h
  obtain ⟨⟨a', s1⟩, h1, h⟩ := Option.bind_eq_some_iff.1 h
  obtain ⟨⟨r', s2⟩, h2, h⟩ := Option.bind_eq_some_iff.1 h
  simp only at h2 h
  split at h
  · rename_i h0
    have h4 := h0
    obtain ⟨rfl, rfl, rfl⟩ : a' = a ∧ r' = r ∧ s2 = d := by
      have := Option.some.inj h
      simp only [Prod.mk.injEq] at this
      exact this
    have l1 := zbq h1
    rw [z9] at l1
    have HS1 : zb ((toB s1).size < 4611686018427387904) := ⟨by rw [z5]; omega⟩
    have HS := zb.mk hs
    have H1 := zb.mk h1
    have H2 : zb (zao (ofB (toB s1)) = some (r', s2)) := ⟨by rw [zY]; exact h2⟩
    have H4 := zb.mk h4
    clear hs h1 h2 h4 h l1
    go_enter Try.func43, Try.ntmps43
    go_wp2_with (first
      | ((with_reducible refine zq (N := 1) rfl ?_); refine zp ?hg (N := 1) ?hd (cs := #[.string s]) (t := 9) ?hr ?_; (case hd => rfl); (case hg => rfl); (case hr => first | (go_simp; done) | (go_simp; rfl)); intro g1 hg w1 hbox hb; have G1 : zb (w.heap.size ≤ g1) := ⟨by rw [hg]; exact Nat.le_refl _⟩; have B1 := zb.mk hbox; have HB1 := zb.mk hb; clear hb hbox hg)
      | ((with_reducible refine zq (N := 2) rfl ?_); refine zp ?hg (N := 2) ?hd (cs := #[.int .i64 0, .int .i64 0, .string ⟨#[]⟩]) (t := 48) ?hr ?_; (case hd => rfl); (case hg => rfl); (case hr => first | (go_simp; done) | (go_simp; rfl)); intro g2 hg w2 hbox hb; have G2 : zb (w.heap.size ≤ g2) := ⟨by rw [hg]; exact zo HB1.out⟩; have N2 : zb (g2 ≠ g1) := ⟨by rw [hg]; exact Nat.ne_of_gt (zH B1.out)⟩; have B2 := zb.mk hbox; have B1b := zb.mk (zk B1.out hb); have HB2 := zb.mk (zl HB1.out hb); clear hb hbox hg B1)
      | (go_at_call 37; (with_reducible refine (zat.goodU s g1 _ _ _ _ HS.out H1.out B1b.out).mono ?_); rintro e w3 ⟨rfl, hu, hk, hl⟩; have C1 := zb.mk hu; have C2 := zb.mk (hk g2 _ _ N2.out B2.out); have HB3 := zb.mk (hl _ HB2.out G1.out); clear hu hk hl B1b H1)
      | (go_at_call 37; (with_reducible refine (zat.goodU (toB s1) g1 _ _ _ _ HS1.out H2.out (zf C1.out _)).mono ?_); rintro e w4 ⟨rfl, hu, hk, hl⟩; have N3 : zb (w3.heap.size ≠ g1) := ⟨Nat.ne_of_gt (zH C1.out)⟩; have N4 : zb (w3.heap.size ≠ g2) := ⟨Nat.ne_of_gt (zH C2.out)⟩; have D1 := zb.mk hu; have D2 := zb.mk (hk g2 _ _ N2.out (zf C2.out _)); have D3 := zb.mk (hk _ _ _ N3.out (zcG _ _)); have HB4 := zb.mk (hl _ (zi HB3.out _) G1.out); have GL3 := zb.mk (zo HB3.out); clear hu hk hl C1 C2 H2; have hz0 := (zc D3.out 0).trans rfl; have fz0 := za D3.out 0; have hw0 := (zc D2.out 0).trans rfl; have fw0 := za D2.out 0; have hz1 := (zc D3.out 1).trans rfl; have fz1 := za D3.out 1; have hw1 := (zc D2.out 1).trans rfl; have fw1 := za D2.out 1; have hz2 := (zc D3.out 2).trans rfl; have fz2 := za D3.out 2; have hw2 := (zc D2.out 2).trans rfl; have fw2 := za D2.out 2; have hx := (zc D1.out 0).trans rfl; have fx := za D1.out 0; have n31 := N3.out; have n13 := Ne.symm N3.out; have n32 := N4.out; have n23 := Ne.symm N4.out)
      | (go_at_call 38; (with_reducible refine (za7.calls _ _ _ _ _ (zbv _ _ _)).mono ?_); rintro e w6 ⟨rfl, ⟨n6, rfl⟩⟩; rw [H4.out])
      | (go_at_call 28; (with_reducible refine (zaB.yes _).mono ?_); rintro e w1 ⟨rfl, rfl⟩))
    refine bodyPost_ret (results_cell_row rfl _ _ g2 48 #[.int .i64 a', .int .i64 r', .string (toB s2)] (0, 0) _ rfl (by
      refine zn (cs := #[.int .i64 a', .int .i64 r', .string ⟨#[]⟩]) ?_ 2 _ rfl
      refine zn (cs := #[.int .i64 a', .int .i64 0, .string ⟨#[]⟩]) ?_ 1 _ rfl
      refine zn (cs := #[.int .i64 0, .int .i64 0, .string ⟨#[]⟩]) ?_ 0 _ rfl
      exact ze (zm (zm D2.out (Ne.symm N4.out) _) (Ne.symm N4.out) _) _) Try.underlying48 rfl (by kernel_rfl)) rfl ?_
    exact ⟨rfl, (zg (zg (zg (zd (zg (zg HB4.out GL3.out) GL3.out) _) G2.out) G2.out) G2.out)⟩
  · cases h
set_option maxHeartbeats 4000000 in
set_option maxRecDepth 100000 in
theorem zaJ.bad (s : ByteArray) (w : World) (hs : s.size < 4611686018427387904) (h : zbX (ofB s) = none) :
    Calls Try.prog 43 #[.string s] w fun e w' => e = .panicked zch ∧ Below w.heap.size w w' := by
  unfold zbX at h
  have HS := zb.mk hs
  rcases h1 : zao (ofB s) with _ | ⟨a', s1⟩
  · have H1 : zb (zao (ofB s) = none) := ⟨h1⟩
    clear h hs h1
    go_enter Try.func43, Try.ntmps43
    go_wp2_with (first
      | ((with_reducible refine zq (N := 1) rfl ?_); refine zp ?hg (N := 1) ?hd (cs := #[.string s]) (t := 9) ?hr ?_; (case hd => rfl); (case hg => rfl); (case hr => first | (go_simp; done) | (go_simp; rfl)); intro g1 hg w1 hbox hb; have G1 : zb (w.heap.size ≤ g1) := ⟨by rw [hg]; exact Nat.le_refl _⟩; have B1 := zb.mk hbox; have HB1 := zb.mk hb; clear hb hbox hg)
      | ((with_reducible refine zq (N := 2) rfl ?_); refine zp ?hg (N := 2) ?hd (cs := #[.int .i64 0, .int .i64 0, .string ⟨#[]⟩]) (t := 48) ?hr ?_; (case hd => rfl); (case hg => rfl); (case hr => first | (go_simp; done) | (go_simp; rfl)); intro g2 hg w2 hbox hb; have G2 : zb (w.heap.size ≤ g2) := ⟨by rw [hg]; exact zo HB1.out⟩; have N2 : zb (g2 ≠ g1) := ⟨by rw [hg]; exact Nat.ne_of_gt (zH B1.out)⟩; have B2 := zb.mk hbox; have B1b := zb.mk (zk B1.out hb); have HB2 := zb.mk (zl HB1.out hb); clear hb hbox hg B1)
      | (go_at_call 37; (with_reducible refine (zat.badU s g1 _ _ HS.out H1.out B1b.out).mono ?_); rintro e wb ⟨rfl, hl⟩; have HX := zb.mk (hl _ HB2.out); clear hl))
    exact ⟨rfl, rfl, HX.out⟩
  rw [h1, Option.bind_some] at h
  simp only at h
  have H1 := zb.mk h1
  have l1 := zbq h1
  rw [z9] at l1
  have HS1 : zb ((toB s1).size < 4611686018427387904) := ⟨by rw [z5]; omega⟩
  rcases h2 : zao s1 with _ | ⟨r', s2⟩
  · have H2 : zb (zao (ofB (toB s1)) = none) := ⟨by rw [zY]; exact h2⟩
    clear h hs h1 h2 l1
    go_enter Try.func43, Try.ntmps43
    go_wp2_with (first
      | ((with_reducible refine zq (N := 1) rfl ?_); refine zp ?hg (N := 1) ?hd (cs := #[.string s]) (t := 9) ?hr ?_; (case hd => rfl); (case hg => rfl); (case hr => first | (go_simp; done) | (go_simp; rfl)); intro g1 hg w1 hbox hb; have G1 : zb (w.heap.size ≤ g1) := ⟨by rw [hg]; exact Nat.le_refl _⟩; have B1 := zb.mk hbox; have HB1 := zb.mk hb; clear hb hbox hg)
      | ((with_reducible refine zq (N := 2) rfl ?_); refine zp ?hg (N := 2) ?hd (cs := #[.int .i64 0, .int .i64 0, .string ⟨#[]⟩]) (t := 48) ?hr ?_; (case hd => rfl); (case hg => rfl); (case hr => first | (go_simp; done) | (go_simp; rfl)); intro g2 hg w2 hbox hb; have G2 : zb (w.heap.size ≤ g2) := ⟨by rw [hg]; exact zo HB1.out⟩; have N2 : zb (g2 ≠ g1) := ⟨by rw [hg]; exact Nat.ne_of_gt (zH B1.out)⟩; have B2 := zb.mk hbox; have B1b := zb.mk (zk B1.out hb); have HB2 := zb.mk (zl HB1.out hb); clear hb hbox hg B1)
      | (go_at_call 37; (with_reducible refine (zat.goodU s g1 _ _ _ _ HS.out H1.out B1b.out).mono ?_); rintro e w3 ⟨rfl, hu, hk, hl⟩; have C1 := zb.mk hu; have C2 := zb.mk (hk g2 _ _ N2.out B2.out); have HB3 := zb.mk (hl _ HB2.out G1.out); clear hu hk hl B1b H1)
      | (go_at_call 37; (with_reducible refine (zat.badU (toB s1) g1 _ _ HS1.out H2.out (zf C1.out _)).mono ?_); rintro e wb ⟨rfl, hl⟩; have HX := zb.mk (hl _ (zi HB3.out _)); clear hl))
    exact ⟨rfl, rfl, HX.out⟩
  rw [h2, Option.bind_some] at h
  simp only at h
  have H2 : zb (zao (ofB (toB s1)) = some (r', s2)) := ⟨by rw [zY]; exact h2⟩
  split at h
  · cases h
  · rename_i h0
    clear h hs h1 h2 l1
    rcases h4 : zbj a' r' (toB s2) with _ | _
    · have H4 := zb.mk h4
      clear h0 h4
      go_enter Try.func43, Try.ntmps43
      go_wp2_with (first
        | ((with_reducible refine zq (N := 1) rfl ?_); refine zp ?hg (N := 1) ?hd (cs := #[.string s]) (t := 9) ?hr ?_; (case hd => rfl); (case hg => rfl); (case hr => first | (go_simp; done) | (go_simp; rfl)); intro g1 hg w1 hbox hb; have G1 : zb (w.heap.size ≤ g1) := ⟨by rw [hg]; exact Nat.le_refl _⟩; have B1 := zb.mk hbox; have HB1 := zb.mk hb; clear hb hbox hg)
        | ((with_reducible refine zq (N := 2) rfl ?_); refine zp ?hg (N := 2) ?hd (cs := #[.int .i64 0, .int .i64 0, .string ⟨#[]⟩]) (t := 48) ?hr ?_; (case hd => rfl); (case hg => rfl); (case hr => first | (go_simp; done) | (go_simp; rfl)); intro g2 hg w2 hbox hb; have G2 : zb (w.heap.size ≤ g2) := ⟨by rw [hg]; exact zo HB1.out⟩; have N2 : zb (g2 ≠ g1) := ⟨by rw [hg]; exact Nat.ne_of_gt (zH B1.out)⟩; have B2 := zb.mk hbox; have B1b := zb.mk (zk B1.out hb); have HB2 := zb.mk (zl HB1.out hb); clear hb hbox hg B1)
        | (go_at_call 37; (with_reducible refine (zat.goodU s g1 _ _ _ _ HS.out H1.out B1b.out).mono ?_); rintro e w3 ⟨rfl, hu, hk, hl⟩; have C1 := zb.mk hu; have C2 := zb.mk (hk g2 _ _ N2.out B2.out); have HB3 := zb.mk (hl _ HB2.out G1.out); clear hu hk hl B1b H1)
        | (go_at_call 37; (with_reducible refine (zat.goodU (toB s1) g1 _ _ _ _ HS1.out H2.out (zf C1.out _)).mono ?_); rintro e w4 ⟨rfl, hu, hk, hl⟩; have N3 : zb (w3.heap.size ≠ g1) := ⟨Nat.ne_of_gt (zH C1.out)⟩; have N4 : zb (w3.heap.size ≠ g2) := ⟨Nat.ne_of_gt (zH C2.out)⟩; have D1 := zb.mk hu; have D2 := zb.mk (hk g2 _ _ N2.out (zf C2.out _)); have D3 := zb.mk (hk _ _ _ N3.out (zcG _ _)); have HB4 := zb.mk (hl _ (zi HB3.out _) G1.out); have GL3 := zb.mk (zo HB3.out); clear hu hk hl C1 C2 H2; have hz0 := (zc D3.out 0).trans rfl; have fz0 := za D3.out 0; have hw0 := (zc D2.out 0).trans rfl; have fw0 := za D2.out 0; have hz1 := (zc D3.out 1).trans rfl; have fz1 := za D3.out 1; have hw1 := (zc D2.out 1).trans rfl; have fw1 := za D2.out 1; have hz2 := (zc D3.out 2).trans rfl; have fz2 := za D3.out 2; have hw2 := (zc D2.out 2).trans rfl; have fw2 := za D2.out 2; have hx := (zc D1.out 0).trans rfl; have fx := za D1.out 0; have n31 := N3.out; have n13 := Ne.symm N3.out; have n32 := N4.out; have n23 := Ne.symm N4.out)
        | (go_at_call 38; (with_reducible refine (za7.calls _ _ _ _ _ (zbv _ _ _)).mono ?_); rintro e w6 ⟨rfl, ⟨n6, rfl⟩⟩; rw [H4.out])
        | (go_at_call 28; (with_reducible refine (zaB.no _).mono ?_); rintro e w1 ⟨rfl, rfl⟩))
      exact ⟨rfl, rfl, by repeat (first | exact (zg (zg HB4.out GL3.out) GL3.out) | apply zd)⟩
    · exact absurd h4 h0
theorem zS.assert (w : World) : (Instr.typeAssert (.iface 91 (.agg #[])) 20 91 true).run Try.prog w = .ok (.tuple #[.agg #[], .bool true]) w := by kernel_rfl
set_option maxHeartbeats 4000000 in
set_option maxRecDepth 100000 in
theorem zS.catch (g6 g7 : Nat) (older : List PanicEntry) (c7 : Value) (w : World) (h6 : w.heap[g6]? = some (.cells #[.int .i64 0, .int .i64 0, .string ⟨#[]⟩] 48 (0, 0))) (h7 : w.heap[g7]? = some (.cells #[c7] 29 (0, 0))) (hne : g6 ≠ g7) :
    CallsD Try.prog 68 #[.pointer (some ⟨g6, 0, none⟩), .pointer (some ⟨g7, 0, none⟩)] (.panicking ({ v := zbM, recovered := false } :: older)) w fun e u' w' =>
      e = .returned (.tuple #[]) ∧ u' = .panicking ({ v := zbM, recovered := true } :: older) ∧ w'.heap[g6]? = some (.cells #[.int .i64 0, .int .i64 0, .string ⟨#[]⟩] 48 (0, 0)) ∧ w'.heap[g7]? = some (.cells #[.int .i64 3] 29 (0, 0)) ∧ ∀ W0 : World, Below W0.heap.size W0 w → W0.heap.size ≤ g6 → W0.heap.size ≤ g7 → Below W0.heap.size W0 w' := by
  have ha := zS.assert
  have hne' := Ne.symm hne
  refine callsD_of_wpS Try.func68 rfl fun c₀ cs hu => ?_
  apply wpS_seq
  apply wpS_region
  simp [wpOpsS, go_sem, recoverD, hu, Try.ntmps68, Exit.thenS, zbM]
  show Code.wpS _ _ _ ⟨#[.pointer (some ⟨g6, 0, none⟩), .pointer (some ⟨g7, 0, none⟩), zbM, undef, undef, undef, zbM, undef, undef, undef, undef, undef, undef, undef, undef, undef, undef, undef], []⟩ _ _
  unfold zbM
  refine wpS_of_wp ?_
  go_wp2_with (first
    | ((with_reducible refine zq (N := 3) rfl ?_); refine zp ?hg (N := 3) ?hd (cs := #[]) (t := 91) ?hr ?_; (case hd => rfl); (case hg => rfl); (case hr => first | (go_simp; done) | (go_simp; rfl)); intro g3 hg w1 hbox hb; have B6 := zb.mk (zk h6 hb); have B7 := zb.mk (zk h7 hb); have HB1 := zb.mk hb; clear hb hbox hg)
    | ((with_reducible refine zq (N := 5) rfl ?_); refine zp ?hg (N := 5) ?hd (cs := #[.int .i64 0, .int .i64 0, .string ⟨#[]⟩]) (t := 48) ?hr ?_; (case hd => rfl); (case hg => rfl); (case hr => first | (go_simp; done) | (go_simp; rfl)); intro g5 hg w2 hbox hb; have C6 := zb.mk (zk B6.out hb); have C7 := zb.mk (zk B7.out hb); have HB2 := zb.mk (zl HB1.out hb); have B5 := zb.mk hbox; clear hb hbox hg; have ca0 := (zc C6.out 0).trans rfl; have fca0 := za C6.out 0; have cd0 := (zc B5.out 0).trans rfl; have fcd0 := za B5.out 0; have ca1 := (zc C6.out 1).trans rfl; have fca1 := za C6.out 1; have cd1 := (zc B5.out 1).trans rfl; have fcd1 := za B5.out 1; have ca2 := (zc C6.out 2).trans rfl; have fca2 := za C6.out 2; have cd2 := (zc B5.out 2).trans rfl; have fcd2 := za B5.out 2; have cb0 := (zc C7.out 0).trans rfl; have fcb0 := za C7.out 0))
  have x6 : ((((w2.setCell ⟨g6, 0, none⟩ (.int .i64 0)).setCell ⟨g6, 1, none⟩ (.int .i64 0)).setCell ⟨g6, 2, none⟩ (.string ⟨#[]⟩)).setCell ⟨g7, 0, none⟩ (.int .i64 3)).heap[g6]? = some (.cells #[.int .i64 0, .int .i64 0, .string ⟨#[]⟩] 48 (0, 0)) := zm (zn (zn (zn C6.out 0 _ rfl) 1 _ rfl) 2 _ rfl) hne _
  have x7 : ((((w2.setCell ⟨g6, 0, none⟩ (.int .i64 0)).setCell ⟨g6, 1, none⟩ (.int .i64 0)).setCell ⟨g6, 2, none⟩ (.string ⟨#[]⟩)).setCell ⟨g7, 0, none⟩ (.int .i64 3)).heap[g7]? = some (.cells #[.int .i64 3] 29 (0, 0)) := zn (zm (zm (zm C7.out hne' _) hne' _) hne' _) 0 _ rfl
  have x8 : ∀ W0 : World, Below W0.heap.size W0 w → W0.heap.size ≤ g6 → W0.heap.size ≤ g7 → Below W0.heap.size W0 ((((w2.setCell ⟨g6, 0, none⟩ (.int .i64 0)).setCell ⟨g6, 1, none⟩ (.int .i64 0)).setCell ⟨g6, 2, none⟩ (.string ⟨#[]⟩)).setCell ⟨g7, 0, none⟩ (.int .i64 3)) := fun W0 h k6 k7 => zg (zg (zg (zg (zl h HB2.out) k6) k6) k6) k7
  generalize ((((w2.setCell ⟨g6, 0, none⟩ (.int .i64 0)).setCell ⟨g6, 1, none⟩ (.int .i64 0)).setCell ⟨g6, 2, none⟩ (.string ⟨#[]⟩)).setCell ⟨g7, 0, none⟩ (.int .i64 3)) = wE at x6 x7 x8 ⊢
  simp [bodyPostS, results, Try.results68]
  exact ⟨x6, x7, x8⟩
set_option maxHeartbeats 4000000 in
set_option maxRecDepth 100000 in
theorem zS.idle (g6 g7 : Nat) (w : World) :
    CallsD Try.prog 68 #[.pointer (some ⟨g6, 0, none⟩), .pointer (some ⟨g7, 0, none⟩)] .returning w fun e u' w' => e = .returned (.tuple #[]) ∧ u' = .returning ∧ w' = w := by
  refine callsD_of_wpS Try.func68 rfl fun c₀ cs hu => ?_
  apply wpS_seq
  apply wpS_region
  simp [wpOpsS, go_sem, recoverD, hu, Try.ntmps68, Exit.thenS]
  show Code.wpS _ _ _ ⟨#[.pointer (some ⟨g6, 0, none⟩), .pointer (some ⟨g7, 0, none⟩), .nilIface, undef, undef, undef, .nilIface, undef, undef, undef, undef, undef, undef, undef, undef, undef, undef, undef], []⟩ _ _
  refine wpS_of_wp ?_
  go_wp2
  cases c₀
  simp_all [bodyPostS, results, Try.results68]
set_option maxHeartbeats 4000000 in
set_option maxRecDepth 100000 in
theorem zS.good (s rest : ByteArray) (a r : Nat) (d : Bs) (w : World) (hs : rest.size < 4611686018427387904) (hcut : zG.f s ⟨#[118]⟩ = some (rest, true)) (h : zbX (ofB rest) = some (a, r, d)) :
    Calls Try.prog 42 #[.string s, .string ⟨#[118]⟩, .func (.func 43) #[] #[]] w fun e w' => e = .returned (.tuple #[.agg #[.int .i64 a, .int .i64 r, .string (toB d)], .int .i64 0]) ∧ Below w.heap.size w w' := by
  have hmf : ∀ (fn : Fn) (first cap : Array Value) (w : World), (Instr.makeFunc fn first cap).run Try.prog w = .ok (.func fn first cap) w := fun _ _ _ _ => rfl
  have HC := zb.mk hcut
  have HS := zb.mk hs
  have HL := zb.mk h
  clear hcut hs h
  go_enter_defers Try.func42, Try.ntmps42
  go_wp2_with (first
    | ((with_reducible refine zq (N := 6) rfl ?_); refine zp ?hg (N := 6) ?hd (cs := #[.int .i64 0, .int .i64 0, .string ⟨#[]⟩]) (t := 48) ?hr ?_; (case hd => rfl); (case hg => rfl); (case hr => first | (go_simp; done) | (go_simp; rfl)); intro g6 hg w1 hbox hb; have G6 : zb (w.heap.size ≤ g6) := ⟨by rw [hg]; exact Nat.le_refl _⟩; have B6 := zb.mk hbox; have HB1 := zb.mk hb; clear hb hbox hg)
    | ((with_reducible refine zq (N := 7) rfl ?_); refine zp ?hg (N := 7) ?hd (cs := #[.int .i64 0]) (t := 29) ?hr ?_; (case hd => rfl); (case hg => rfl); (case hr => first | (go_simp; done) | (go_simp; rfl)); intro g7 hg w2 hbox hb; have G7 : zb (w.heap.size ≤ g7) := ⟨by rw [hg]; exact zo HB1.out⟩; have N67 : zb (g6 ≠ g7) := ⟨by rw [hg]; exact Nat.ne_of_lt (zH B6.out)⟩; have C7 := zb.mk hbox; have C6 := zb.mk (zk B6.out hb); have HB2 := zb.mk (zl HB1.out hb); clear hb hbox hg B6)
    | (go_at_call 52; (with_reducible refine (zG.calls _ _ _ _ _ HC.out).mono ?_); rintro e w3 ⟨rfl, ⟨n3, rfl⟩⟩)
    | (go_at_call 28; (with_reducible refine (zaB.yes _).mono ?_); rintro e w1 ⟨rfl, rfl⟩)
    | (go_at_call 43; (with_reducible refine (zaJ.good rest a r d _ HS.out HL.out).mono ?_); rintro e w4 ⟨rfl, hb⟩; have D6 := zb.mk (zk (ze C6.out _) hb); have D7 := zb.mk (zk (ze C7.out _) hb); have HB4 := zb.mk (zl (zd HB2.out _) hb); clear hb; have ca0 := (zc D6.out 0).trans rfl; have fca0 := za D6.out 0; have ca1 := (zc D6.out 1).trans rfl; have fca1 := za D6.out 1; have ca2 := (zc D6.out 2).trans rfl; have fca2 := za D6.out 2; have cb0 := (zc D7.out 0).trans rfl; have fcb0 := za D7.out 0; have n67 := N67.out; have n76 := Ne.symm N67.out))
  have x6 : ((((w4.setCell ⟨g6, 0, none⟩ (.int .i64 a)).setCell ⟨g6, 1, none⟩ (.int .i64 r)).setCell ⟨g6, 2, none⟩ (.string (toB d))).setCell ⟨g7, 0, none⟩ (.int .i64 0)).heap[g6]? = some (.cells #[.int .i64 a, .int .i64 r, .string (toB d)] 48 (0, 0)) := zm (zn (zn (zn D6.out 0 _ rfl) 1 _ rfl) 2 _ rfl) N67.out _
  have x7 : ((((w4.setCell ⟨g6, 0, none⟩ (.int .i64 a)).setCell ⟨g6, 1, none⟩ (.int .i64 r)).setCell ⟨g6, 2, none⟩ (.string (toB d))).setCell ⟨g7, 0, none⟩ (.int .i64 0)).heap[g7]? = some (.cells #[.int .i64 0] 29 (0, 0)) := zn (zm (zm (zm D7.out (Ne.symm N67.out) _) (Ne.symm N67.out) _) (Ne.symm N67.out) _) 0 _ rfl
  have x8 : Below w.heap.size w ((((w4.setCell ⟨g6, 0, none⟩ (.int .i64 a)).setCell ⟨g6, 1, none⟩ (.int .i64 r)).setCell ⟨g6, 2, none⟩ (.string (toB d))).setCell ⟨g7, 0, none⟩ (.int .i64 0)) := zg (zg (zg (zg HB4.out G6.out) G6.out) G6.out) G7.out
  generalize ((((w4.setCell ⟨g6, 0, none⟩ (.int .i64 a)).setCell ⟨g6, 1, none⟩ (.int .i64 r)).setCell ⟨g6, 2, none⟩ (.string (toB d))).setCell ⟨g7, 0, none⟩ (.int .i64 0)) = wE at x6 x7 x8 ⊢
  refine leaves_cons (f := 68) (args := #[.pointer (some ⟨g6, 0, none⟩), .pointer (some ⟨g7, 0, none⟩)]) (by simp) (by simp [go_sem]) ?_
  refine (zS.idle g6 g7 _).mono ?_
  rintro e u' w'' ⟨rfl, rfl, rfl⟩
  have hc60 : w''.cell? ⟨g6, 0, none⟩ = some (.int .i64 a) := (zc x6 0).trans rfl
  have hc61 : w''.cell? ⟨g6, 1, none⟩ = some (.int .i64 r) := (zc x6 1).trans rfl
  have hc62 : w''.cell? ⟨g6, 2, none⟩ = some (.string (toB d)) := (zc x6 2).trans rfl
  have hc7 : w''.cell? ⟨g7, 0, none⟩ = some (.int .i64 0) := (zc x7 0).trans rfl
  simp [Leaves, settle, results, Try.results42, asAddr, go_sem, hc60, hc61, hc62, hc7]
  exact x8
set_option maxHeartbeats 4000000 in
set_option maxRecDepth 100000 in
theorem zS.none1 (s : ByteArray) (w : World) (hcut : zG.f s ⟨#[118]⟩ = some (s, false)) :
    Calls Try.prog 42 #[.string s, .string ⟨#[118]⟩, .func (.func 43) #[] #[]] w fun e w' => e = .returned (.tuple #[.agg #[.int .i64 0, .int .i64 0, .string ⟨#[]⟩], .int .i64 3]) ∧ Below w.heap.size w w' := by
  have hmf : ∀ (fn : Fn) (first cap : Array Value) (w : World), (Instr.makeFunc fn first cap).run Try.prog w = .ok (.func fn first cap) w := fun _ _ _ _ => rfl
  have HC := zb.mk hcut
  clear hcut
  go_enter_defers Try.func42, Try.ntmps42
  go_wp2_with (first
    | ((with_reducible refine zq (N := 6) rfl ?_); refine zp ?hg (N := 6) ?hd (cs := #[.int .i64 0, .int .i64 0, .string ⟨#[]⟩]) (t := 48) ?hr ?_; (case hd => rfl); (case hg => rfl); (case hr => first | (go_simp; done) | (go_simp; rfl)); intro g6 hg w1 hbox hb; have G6 : zb (w.heap.size ≤ g6) := ⟨by rw [hg]; exact Nat.le_refl _⟩; have B6 := zb.mk hbox; have HB1 := zb.mk hb; clear hb hbox hg)
    | ((with_reducible refine zq (N := 7) rfl ?_); refine zp ?hg (N := 7) ?hd (cs := #[.int .i64 0]) (t := 29) ?hr ?_; (case hd => rfl); (case hg => rfl); (case hr => first | (go_simp; done) | (go_simp; rfl)); intro g7 hg w2 hbox hb; have G7 : zb (w.heap.size ≤ g7) := ⟨by rw [hg]; exact zo HB1.out⟩; have N67 : zb (g6 ≠ g7) := ⟨by rw [hg]; exact Nat.ne_of_lt (zH B6.out)⟩; have C7 := zb.mk hbox; have C6 := zb.mk (zk B6.out hb); have HB2 := zb.mk (zl HB1.out hb); clear hb hbox hg B6)
    | (go_at_call 52; (with_reducible refine (zG.calls _ _ _ _ _ HC.out).mono ?_); rintro e w3 ⟨rfl, ⟨n3, rfl⟩⟩)
    | (go_at_call 28; (with_reducible refine (zaB.no _).mono ?_); rintro e w4 ⟨rfl, rfl⟩; have D6 := zb.mk (ze C6.out n3); have D7 := zb.mk (ze C7.out n3); have HB4 := zb.mk (zd HB2.out n3)))
  refine leaves_cons (f := 68) (args := #[.pointer (some ⟨g6, 0, none⟩), .pointer (some ⟨g7, 0, none⟩)]) (by simp) (by simp [go_sem]) ?_
  refine (zS.catch g6 g7 [] _ _ D6.out D7.out N67.out).mono ?_
  rintro e u' w'' ⟨rfl, rfl, x6, x7, hx⟩
  have x8 := hx w HB4.out G6.out G7.out
  have hc60 : w''.cell? ⟨g6, 0, none⟩ = some (.int .i64 0) := (zc x6 0).trans rfl
  have hc61 : w''.cell? ⟨g6, 1, none⟩ = some (.int .i64 0) := (zc x6 1).trans rfl
  have hc62 : w''.cell? ⟨g6, 2, none⟩ = some (.string ⟨#[]⟩) := (zc x6 2).trans rfl
  have hc7 : w''.cell? ⟨g7, 0, none⟩ = some (.int .i64 3) := (zc x7 0).trans rfl
  simp [Leaves, settle, results, Try.results42, asAddr, go_sem, hc60, hc61, hc62, hc7]
  exact x8
set_option maxHeartbeats 4000000 in
set_option maxRecDepth 100000 in
theorem zS.none2 (s rest : ByteArray) (w : World) (hs : rest.size < 4611686018427387904) (hcut : zG.f s ⟨#[118]⟩ = some (rest, true)) (h : zbX (ofB rest) = none) :
    Calls Try.prog 42 #[.string s, .string ⟨#[118]⟩, .func (.func 43) #[] #[]] w fun e w' => e = .returned (.tuple #[.agg #[.int .i64 0, .int .i64 0, .string ⟨#[]⟩], .int .i64 3]) ∧ Below w.heap.size w w' := by
  have hmf : ∀ (fn : Fn) (first cap : Array Value) (w : World), (Instr.makeFunc fn first cap).run Try.prog w = .ok (.func fn first cap) w := fun _ _ _ _ => rfl
  have HC := zb.mk hcut
  have HS := zb.mk hs
  have HL := zb.mk h
  clear hcut hs h
  go_enter_defers Try.func42, Try.ntmps42
  go_wp2_with (first
    | ((with_reducible refine zq (N := 6) rfl ?_); refine zp ?hg (N := 6) ?hd (cs := #[.int .i64 0, .int .i64 0, .string ⟨#[]⟩]) (t := 48) ?hr ?_; (case hd => rfl); (case hg => rfl); (case hr => first | (go_simp; done) | (go_simp; rfl)); intro g6 hg w1 hbox hb; have G6 : zb (w.heap.size ≤ g6) := ⟨by rw [hg]; exact Nat.le_refl _⟩; have B6 := zb.mk hbox; have HB1 := zb.mk hb; clear hb hbox hg)
    | ((with_reducible refine zq (N := 7) rfl ?_); refine zp ?hg (N := 7) ?hd (cs := #[.int .i64 0]) (t := 29) ?hr ?_; (case hd => rfl); (case hg => rfl); (case hr => first | (go_simp; done) | (go_simp; rfl)); intro g7 hg w2 hbox hb; have G7 : zb (w.heap.size ≤ g7) := ⟨by rw [hg]; exact zo HB1.out⟩; have N67 : zb (g6 ≠ g7) := ⟨by rw [hg]; exact Nat.ne_of_lt (zH B6.out)⟩; have C7 := zb.mk hbox; have C6 := zb.mk (zk B6.out hb); have HB2 := zb.mk (zl HB1.out hb); clear hb hbox hg B6)
    | (go_at_call 52; (with_reducible refine (zG.calls _ _ _ _ _ HC.out).mono ?_); rintro e w3 ⟨rfl, ⟨n3, rfl⟩⟩)
    | (go_at_call 28; (with_reducible refine (zaB.yes _).mono ?_); rintro e w1 ⟨rfl, rfl⟩)
    | (go_at_call 43; (with_reducible refine (zaJ.bad rest _ HS.out HL.out).mono ?_); rintro e w4 ⟨rfl, hb⟩; have D6 := zb.mk (zk (ze C6.out _) hb); have D7 := zb.mk (zk (ze C7.out _) hb); have HB4 := zb.mk (zl (zd HB2.out _) hb); clear hb))
  refine leaves_cons (f := 68) (args := #[.pointer (some ⟨g6, 0, none⟩), .pointer (some ⟨g7, 0, none⟩)]) (by simp) (by simp [go_sem]) ?_
  refine (zS.catch g6 g7 [] _ _ D6.out D7.out N67.out).mono ?_
  rintro e u' w'' ⟨rfl, rfl, x6, x7, hx⟩
  have x8 := hx w HB4.out G6.out G7.out
  have hc60 : w''.cell? ⟨g6, 0, none⟩ = some (.int .i64 0) := (zc x6 0).trans rfl
  have hc61 : w''.cell? ⟨g6, 1, none⟩ = some (.int .i64 0) := (zc x6 1).trans rfl
  have hc62 : w''.cell? ⟨g6, 2, none⟩ = some (.string ⟨#[]⟩) := (zc x6 2).trans rfl
  have hc7 : w''.cell? ⟨g7, 0, none⟩ = some (.int .i64 3) := (zc x7 0).trans rfl
  simp [Leaves, settle, results, Try.results42, asAddr, go_sem, hc60, hc61, hc62, hc7]
  exact x8
def zdI : Option (Nat × Nat × Bs) → Int × Int × ByteArray × Int
  | some x => ((x.1 : Int), (x.2.1 : Int), toB x.2.2, 0)
  | none => (0, 0, (⟨#[]⟩ : ByteArray), 3)
def zb2 (s : ByteArray) : Int × Int × ByteArray × Int := match ofB s with
  | c :: t => if c = 118 then zdI (zbX t) else (0, 0, (⟨#[]⟩ : ByteArray), 3)
  | [] => (0, 0, (⟨#[]⟩ : ByteArray), 3)
def zS.f (a0 a1 : ByteArray) : Option (Int × Int × ByteArray × Int) := if a1 = ⟨#[118]⟩ ∧ a0.size < 4611686018427387904 then some (zb2 a0) else none
theorem zS.calls (a0 a1 : ByteArray) (r1 r2 : Int) (r3 : ByteArray) (r4 : Int) (w : World) (h : zS.f a0 a1 = some (r1, r2, r3, r4)) :
    Calls Try.prog 42 #[.string a0, .string a1, .func (.func 43) #[] #[]] w fun e w' => e = .returned (.tuple #[.agg #[.int .i64 r1, .int .i64 r2, .string r3], .int .i64 r4]) ∧ Below w.heap.size w w' := by
  unfold zS.f at h
  split at h
  · rename_i h0
    obtain ⟨rfl, hs⟩ := h0
    have h := Option.some.inj h
    unfold zb2 at h
    rcases hq : ofB a0 with _ | ⟨c, t⟩
    · rw [hq] at h
      simp only [Prod.mk.injEq] at h
      obtain ⟨rfl, rfl, rfl, rfl⟩ := h
      exact zS.none1 a0 w (za5 _ _ (by rw [hq]; simp))
    · rw [hq] at h
      simp only at h
      by_cases hc : c = 118
      · rw [if_pos hc] at h
        subst hc
        have hcut := zbF a0 118 t hq
        have hs2 : (toB t).size < 4611686018427387904 := by
          have := congrArg List.length hq
          rw [z9, List.length_cons] at this
          rw [z5]; omega
        rcases hl : zbX t with _ | ⟨a, r, d⟩
        · rw [hl, zdI] at h
          simp only [Prod.mk.injEq] at h
          obtain ⟨rfl, rfl, rfl, rfl⟩ := h
          exact zS.none2 a0 (toB t) w hs2 hcut (by rw [zY]; exact hl)
        · rw [hl, zdI] at h
          simp only [Prod.mk.injEq] at h
          obtain ⟨rfl, rfl, rfl, rfl⟩ := h
          exact zS.good a0 (toB t) a r d w hs2 hcut (by rw [zY]; exact hl)
      · rw [if_neg hc] at h
        simp only [Prod.mk.injEq] at h
        obtain ⟨rfl, rfl, rfl, rfl⟩ := h
        exact zS.none1 a0 w (za5 _ _ (by rw [hq]; simpa using hc))
  · cases h
end Go.Proofs.Ytenbifjbeeobjaa.Px

namespace Go.Proofs.Ytenbifjbeeobjaa.Px
open Go.RowKit Go.Proofs.YtenbifjbeeobjaaW.PrintWords Go.Proofs.YtenbifjbeeobjaaW.PrintLast Go.Proofs.YtenbifjbeeobjaaW.PrintMore
attribute [local go_sem] zC zE zJ zK zv zw zB zD
set_option linter.unusedVariables false
set_option linter.unusedSimpArgs false
def zaJ.f (a0 : ByteArray) : Option (Int × Int × ByteArray × Int) := (zS.f a0 (⟨#[118]⟩ : ByteArray)).bind fun bt367 => (some (bt367.1, bt367.2.1, bt367.2.2.1, bt367.2.2.2))
set_option maxHeartbeats 8000000 in
set_option maxRecDepth 100000 in
theorem zaJ.calls (a0 : ByteArray) (r1 : Int) (r2 : Int) (r3 : ByteArray) (r4 : Int) (w : World) (h : zaJ.f a0 = some (r1, r2, r3, r4)) :
    Calls Try.prog 13 #[.string a0] w fun e w' => e = .returned (.tuple #[.agg #[.int .i64 r1, .int .i64 r2, .string r3], .int .i64 r4]) ∧ Below w.heap.size w w' := by
  have hu48 := Try.underlying48
  have HB := zb.mk (Below.refl w.heap.size w)
  have H : ((zS.f a0 (⟨#[118]⟩ : ByteArray)).bind fun bt367 => (some (bt367.1, bt367.2.1, bt367.2.2.1, bt367.2.2.2))) = some (r1, r2, r3, r4) := h
  clear h
  replace H := Option.bind_eq_some_iff.mp H
  obtain ⟨⟨t367, t368, t369, t370⟩, A20, H⟩ := H
  replace H : (some (t367, t368, t369, t370)) = some (r1, r2, r3, r4) := H
  have A2 := zb.mk A20
  clear A20
  simp only [Option.some.injEq, Prod.mk.injEq] at H
  obtain ⟨rfl, rfl, rfl, rfl⟩ := H
  go_enter Try.func13, Try.ntmps13
  go_wp2_with (first | ((with_reducible refine zq (N := 2) rfl ?_); refine zp ?hg (N := 2) ?hd (cs := #[.int .i64 0, .int .i64 0, .string (⟨#[]⟩ : ByteArray)]) (t := 48) ?hr ?_; (case hd => rfl); (case hg => rfl); (case hr => first | (go_simp; done) | (go_simp; rfl)); intro gb366 hg w3 hbox hb; have n0_ := zb.mk (zl (by repeat (first | (with_reducible first | exact HB.out | apply zi | apply zd | apply zj) | exact HB.out)) hb); have n1_ := zb.mk (hbox); have n2_ := zb.mk ((by rw [hg]; exact (zo (by repeat (first | (with_reducible first | exact HB.out | apply zi | apply zd | apply zj) | exact HB.out))) : w.heap.size ≤ gb366)); have n3_ := zb.mk ((by rw [hg]; exact (zo (by repeat (first | (with_reducible first | exact HB.out | apply zi | apply zd | apply zj) | exact HB.out))) : w.heap.size ≤ gb366)); clear HB; have HB := n0_; have BK366 := n1_; have GW366 := n2_; have GE366 := n3_; clear n0_ n1_ n2_ n3_; clear hb hbox hg) | ((with_reducible refine zu (f := 42) rfl ?_); refine zQ (some 5) rfl rfl Try.func42 (by kernel_rfl) rfl #[.string a0, .string (⟨#[118]⟩ : ByteArray), .func (.func 43) #[] #[]] rfl (by (try simp only [List.map_toArray, List.map_cons, List.map_nil]); first | done | rfl | (simp only [List.length_drop, List.length_take]; rfl)) ?_; (with_reducible refine (zS.calls a0 (⟨#[118]⟩ : ByteArray) t367 t368 t369 t370 _ A2.out).mono ?_); rintro e w4 ⟨rfl, hb⟩; refine ⟨_, rfl, ?_⟩; have n0_ := zb.mk (zk (g := gb366) (o := .cells #[.int .i64 0, .int .i64 0, .string (⟨#[]⟩ : ByteArray)] 48 (0, 0)) (by (with_reducible repeat (first | refine ze ?_ _ | refine zh ?_ | refine zf ?_ _)); exact BK366.out) hb); have n1_ := zb.mk (zl (by repeat (first | (with_reducible first | exact HB.out | apply zi | apply zd | apply zj | refine zg ?_ GE366.out) | exact HB.out)) hb); clear BK366; clear HB; have BK366 := n0_; have HB := n1_; clear n0_ n1_; (try clear hb); (try clear hb2); (try clear hk); (try clear hi); have hcz5_0 : w4.cell? ⟨gb366, 0, none⟩ = some (.int .i64 0) := (zc BK366.out 0).trans rfl; have hcz5_1 : w4.cell? ⟨gb366, 1, none⟩ = some (.int .i64 0) := (zc BK366.out 1).trans rfl; have hcz5_2 : w4.cell? ⟨gb366, 2, none⟩ = some (.string (⟨#[]⟩ : ByteArray)) := (zc BK366.out 2).trans rfl; have hfz5_0 := za BK366.out 0; have hfz5_1 := za BK366.out 1; have hfz5_2 := za BK366.out 2))
  refine bodyPost_ret (zaq rfl _ _ gb366 48 #[.int .i64 t367, .int .i64 t368, .string t369] (0, 0) _ rfl (by (with_reducible repeat (first | refine ze ?_ _ | refine zh ?_ | refine zf ?_ _)); refine zn (cs := #[.int .i64 t367, .int .i64 t368, .string (⟨#[]⟩ : ByteArray)]) ?_ 2 _ rfl; (with_reducible repeat (first | refine ze ?_ _ | refine zh ?_ | refine zf ?_ _)); refine zn (cs := #[.int .i64 t367, .int .i64 0, .string (⟨#[]⟩ : ByteArray)]) ?_ 1 _ rfl; (with_reducible repeat (first | refine ze ?_ _ | refine zh ?_ | refine zf ?_ _)); refine zn (cs := #[.int .i64 0, .int .i64 0, .string (⟨#[]⟩ : ByteArray)]) ?_ 0 _ rfl; (with_reducible repeat (first | refine ze ?_ _ | refine zh ?_ | refine zf ?_ _)); exact BK366.out) Try.underlying48 rfl (by kernel_rfl)) rfl ?_
  exact ⟨by first | rfl | (simp [zt, zr] <;> rfl) | (simp [*, zt, zr] <;> rfl), by repeat (first | (with_reducible first | exact HB.out | apply zi | apply zd | apply zj | refine zg ?_ GE366.out) | exact HB.out)⟩
end Go.Proofs.Ytenbifjbeeobjaa.Px

namespace Go.Proofs.Ytenbifjbeeobjaa.Px
open Go.RowKit Go.Proofs.YtenbifjbeeobjaaW.PrintWords Go.Proofs.YtenbifjbeeobjaaW.PrintLast Go.Proofs.YtenbifjbeeobjaaW.PrintMore
attribute [local go_sem] zC zE zJ zK zv zw zB zD
set_option linter.unusedVariables false
set_option linter.unusedSimpArgs false
def zV.j0 : Nat → Int → ByteArray → Bool → Option (ByteArray × ByteArray × Int)
  | 0, _, _, _ => none
  | k + 1, x7, x8, x20 => if x20 = true then (some ((⟨#[]⟩ : ByteArray), (⟨#[]⟩ : ByteArray), 4)) else (if x7 > (IntKind.u64.wrap ((x8.size : Int))) then (some ((⟨#[]⟩ : ByteArray), (⟨#[]⟩ : ByteArray), 2)) else (if 0 ≤ x7 then (if x7 ≤ (x8.size : Int) then (some (x8.extract 0 (x7 : Int).toNat, x8.extract (x7 : Int).toNat x8.size, 0)) else (none)) else (none)))
def zV.f (k : Nat) (a0 : ByteArray) (a1 : Int) : Option (ByteArray × ByteArray × Int) := (zx.f k a0).bind fun bt118 => (if bt118.2.2 = 0 then (if a1 < 0 then (zV.j0 k bt118.1 bt118.2.1 true) else (zV.j0 k bt118.1 bt118.2.1 (decide (bt118.1 > (IntKind.u64.wrap (a1)))))) else (some ((⟨#[]⟩ : ByteArray), (⟨#[]⟩ : ByteArray), bt118.2.2)))
set_option maxHeartbeats 8000000 in
set_option maxRecDepth 100000 in
theorem zV.calls (k : Nat) (a0 : ByteArray) (a1 : Int) (r1 : ByteArray) (r2 : ByteArray) (r3 : Int) (w : World) (h : zV.f k a0 a1 = some (r1, r2, r3)) :
    Calls Try.prog 62 #[.string a0, .int .i64 a1] w fun e w' => e = .returned (.tuple #[.string r1, .string r2, .int .i64 r3]) ∧ zI w w' := by
  have H : ((zx.f k a0).bind fun bt118 => (if bt118.2.2 = 0 then (if a1 < 0 then (zV.j0 k bt118.1 bt118.2.1 true) else (zV.j0 k bt118.1 bt118.2.1 (decide (bt118.1 > (IntKind.u64.wrap (a1)))))) else (some ((⟨#[]⟩ : ByteArray), (⟨#[]⟩ : ByteArray), bt118.2.2)))) = some (r1, r2, r3) := h
  clear h
  replace H := Option.bind_eq_some_iff.mp H
  obtain ⟨⟨t118, t119, t120⟩, A30, H⟩ := H
  replace H : (if t120 = 0 then (if a1 < 0 then (zV.j0 k t118 t119 true) else (zV.j0 k t118 t119 (decide (t118 > (IntKind.u64.wrap (a1)))))) else (some ((⟨#[]⟩ : ByteArray), (⟨#[]⟩ : ByteArray), t120))) = some (r1, r2, r3) := H
  have A3 := zb.mk A30
  clear A30
  by_cases c4 : t120 = 0
  · rw [if_pos c4] at H
    have c4b0 : (t120 == 0) = true := beq_iff_eq.mpr c4
    have c4b1 : (t120 != 0) = false := bne_eq_false_iff_eq.mpr c4
    clear c4
    have HC5 := zb.mk H
    clear H
    go_enter Try.func62, Try.ntmps62
    go_upto_region 4 with (first | (go_at_call 63; (with_reducible refine (zx.calls k a0 t118 t119 t120 _ A3.out).mono ?_); rintro e w' ⟨rfl, ⟨nd, rfl⟩⟩; (try first | exact ⟨rfl, _, World.drewN_drewN _ _ _⟩ | exact ⟨rfl, _, Eq.trans (World.drewN_drewN _ _ _) (congrArg (World.drewN _) (Nat.add_assoc _ _ _))⟩)))
    repeat (go_quiet (first | (go_at_call 63; (with_reducible refine (zx.calls k a0 t118 t119 t120 _ A3.out).mono ?_); rintro e w' ⟨rfl, ⟨nd, rfl⟩⟩; (try first | exact ⟨rfl, _, World.drewN_drewN _ _ _⟩ | exact ⟨rfl, _, Eq.trans (World.drewN_drewN _ _ _) (congrArg (World.drewN _) (Nat.add_assoc _ _ _))⟩))); go_upto_region 4 with (first | (go_at_call 63; (with_reducible refine (zx.calls k a0 t118 t119 t120 _ A3.out).mono ?_); rintro e w' ⟨rfl, ⟨nd, rfl⟩⟩; (try first | exact ⟨rfl, _, World.drewN_drewN _ _ _⟩ | exact ⟨rfl, _, Eq.trans (World.drewN_drewN _ _ _) (congrArg (World.drewN _) (Nat.add_assoc _ _ _))⟩))))
    (try simp only [Act.put, List.setIfInBounds_toArray, List.set_cons_zero, List.set_cons_succ])
    go_cut [20] (fun v20 wc => ∃ (kq : Nat) (x20_4 : Bool), v20 = .bool x20_4 ∧ zb (zV.j0 kq t118 t119 x20_4 = some (r1, r2, r3)) ∧ zb (kq ≤ k) ∧ zI w wc)
    case first =>
      have H := HC5.out
      clear HC5
      by_cases c6 : a1 < 0
      · rw [if_pos c6] at H
        have c6b0 : decide (a1 < 0) = true := decide_eq_true c6
        clear c6
        (first | rw [c6b0] | (simp only [zU, zW]; rw [c6b0]) | skip)
        have H' := zb.mk H
        clear H
        go_wp2
        repeat (go_quiet (fail); try go_wp2)
        go_meet
        case rel => exact ⟨_, (true), (by first | rfl | (simp; done) | (simp [*]; done)), H', ⟨by first | omega | exact Nat.le_refl _⟩, by repeat (first | exact zI.refl _ | apply zI.step)⟩
      · rw [if_neg c6] at H
        have c6b0 : decide (a1 < 0) = false := decide_eq_false c6
        clear c6
        (first | rw [c6b0] | (simp only [zU, zW]; rw [c6b0]) | skip)
        have H' := zb.mk H
        clear H
        go_wp2
        repeat (go_quiet (fail); try go_wp2)
        go_meet
        case rel => exact ⟨_, (decide (t118 > (IntKind.u64.wrap (a1)))), (by first | rfl | (simp; done) | (simp [*]; done)), H', ⟨by first | omega | exact Nat.le_refl _⟩, by repeat (first | exact zI.refl _ | apply zI.step)⟩
    case rest =>
      clear HC5
      try clear p2
      try clear c4
      try clear c4b0
      try clear c4b1
      try clear c6
      try clear c6b0
      obtain ⟨kq, x20_4, rfl, HA, HJ4, ⟨mc4, rfl⟩⟩ := hcut
      cases kq with
      | zero => exact absurd HA.out (by simp [zV.j0])
      | succ kj4 =>
        have H := HA.out
        clear HA
        simp only [zV.j0] at H
        by_cases c7 : x20_4 = true
        · subst c7
          have H1 : (some ((⟨#[]⟩ : ByteArray), (⟨#[]⟩ : ByteArray), 4)) = some (r1, r2, r3) := by rw [if_pos rfl] at H; exact H
          clear H
          have H := H1
          clear H1
          simp only [Option.some.injEq, Prod.mk.injEq] at H
          obtain ⟨rfl, rfl, rfl⟩ := H
          go_wp2
          repeat (go_quiet (fail); try go_wp2)
          go_ret3
          exact ⟨by first | rfl | (simp; done) | (simp [*]; done), by repeat (first | exact zI.refl _ | apply zI.step)⟩
        · replace c7 := Bool.eq_false_iff.mpr c7
          subst c7
          have H1 : (if t118 > (IntKind.u64.wrap ((t119.size : Int))) then (some ((⟨#[]⟩ : ByteArray), (⟨#[]⟩ : ByteArray), 2)) else (if 0 ≤ t118 then (if t118 ≤ (t119.size : Int) then (some (t119.extract 0 (t118 : Int).toNat, t119.extract (t118 : Int).toNat t119.size, 0)) else (none)) else (none))) = some (r1, r2, r3) := by rw [if_neg (show ¬ (false = true) by decide)] at H; exact H
          clear H
          have H := H1
          clear H1
          by_cases c8 : t118 > (IntKind.u64.wrap ((t119.size : Int)))
          · rw [if_pos c8] at H
            have c8b0 : decide ((IntKind.u64.wrap ((t119.size : Int))) < t118) = true := decide_eq_true c8
            clear c8
            simp only [Option.some.injEq, Prod.mk.injEq] at H
            obtain ⟨rfl, rfl, rfl⟩ := H
            go_wp2
            repeat (go_quiet (fail); try go_wp2)
            go_ret3
            exact ⟨by first | rfl | (simp; done) | (simp [*]; done), by repeat (first | exact zI.refl _ | apply zI.step)⟩
          · rw [if_neg c8] at H
            have c8b0 : decide ((IntKind.u64.wrap ((t119.size : Int))) < t118) = false := decide_eq_false c8
            clear c8
            by_cases c9 : 0 ≤ t118
            · rw [if_pos c9] at H
              have c9b0 := eq_true c9
              have c9b1 : decide (0 ≤ t118) = true := decide_eq_true c9
              clear c9
              by_cases c10 : t118 ≤ (t119.size : Int)
              · rw [if_pos c10] at H
                have c10b0 := eq_true c10
                have c10b1 : decide (t118 ≤ (t119.size : Int)) = true := decide_eq_true c10
                clear c10
                have c11b0 := eq_true (of_decide_eq_true (by first | (with_reducible assumption) | assumption) : 0 ≤ t118)
                have c12b0 := eq_true (of_decide_eq_true (by first | (with_reducible assumption) | assumption) : t118 ≤ (t119.size : Int))
                simp only [Option.some.injEq, Prod.mk.injEq] at H
                obtain ⟨rfl, rfl, rfl⟩ := H
                go_wp2
                repeat (go_quiet (fail); try go_wp2)
                go_ret3
                exact ⟨by first | rfl | (simp; done) | (simp [*]; done), by repeat (first | exact zI.refl _ | apply zI.step)⟩
              · rw [if_neg c10] at H
                exact absurd H (by simp)
            · rw [if_neg c9] at H
              exact absurd H (by simp)
  · rw [if_neg c4] at H
    have c4b0 : (t120 == 0) = false := beq_eq_false_iff_ne.mpr c4
    have c4b1 : (t120 != 0) = true := bne_iff_ne.mpr c4
    simp only [Option.some.injEq, Prod.mk.injEq] at H
    obtain ⟨rfl, rfl, rfl⟩ := H
    go_enter Try.func62, Try.ntmps62
    go_wp2_with (first | (go_at_call 63; (with_reducible refine (zx.calls k a0 t118 t119 t120 _ A3.out).mono ?_); rintro e w' ⟨rfl, ⟨nd, rfl⟩⟩; (try first | exact ⟨rfl, _, World.drewN_drewN _ _ _⟩ | exact ⟨rfl, _, Eq.trans (World.drewN_drewN _ _ _) (congrArg (World.drewN _) (Nat.add_assoc _ _ _))⟩)))
    repeat (go_quiet (first | (go_at_call 63; (with_reducible refine (zx.calls k a0 t118 t119 t120 _ A3.out).mono ?_); rintro e w' ⟨rfl, ⟨nd, rfl⟩⟩; (try first | exact ⟨rfl, _, World.drewN_drewN _ _ _⟩ | exact ⟨rfl, _, Eq.trans (World.drewN_drewN _ _ _) (congrArg (World.drewN _) (Nat.add_assoc _ _ _))⟩))); try go_wp2_with (first | (go_at_call 63; (with_reducible refine (zx.calls k a0 t118 t119 t120 _ A3.out).mono ?_); rintro e w' ⟨rfl, ⟨nd, rfl⟩⟩; (try first | exact ⟨rfl, _, World.drewN_drewN _ _ _⟩ | exact ⟨rfl, _, Eq.trans (World.drewN_drewN _ _ _) (congrArg (World.drewN _) (Nat.add_assoc _ _ _))⟩))))
    go_ret3
    exact ⟨by first | rfl | (simp; done) | (simp [*]; done), by repeat (first | exact zI.refl _ | apply zI.step)⟩
end Go.Proofs.Ytenbifjbeeobjaa.Px

namespace Go.Proofs.Ytenbifjbeeobjaa.Px
open Go.RowKit Go.Proofs.YtenbifjbeeobjaaW.PrintWords Go.Proofs.YtenbifjbeeobjaaW.PrintLast Go.Proofs.YtenbifjbeeobjaaW.PrintMore
attribute [local go_sem] zC zE zJ zK zv zw zB zD
set_option linter.unusedVariables false
set_option linter.unusedSimpArgs false
end Go.Proofs.Ytenbifjbeeobjaa.Px
