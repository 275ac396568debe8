/- Part 6 of 35 of the proof of the law PostTakes: what is proved is the statement at the end of the last part; its conditions are those of the given row. -/
import Derived.Tactics2
import Derived.Defers
import Derived.Recover
import Derived.Laws.Pointers
import Derived.Test.YtgdpiegkoeikiaaZPostTakesE
namespace Go.Proofs.Ytgdpiegkoeikiaa.Px
open Go.RowKit Go.Proofs.YtgdpiegkoeikiaaW.PrintWords Go.Proofs.YtgdpiegkoeikiaaW.PrintLast Go.Proofs.YtgdpiegkoeikiaaW.PrintMore
attribute [local go_sem] zF zH zQ zR zy zz zG zI
set_option linter.unusedVariables false
set_option linter.unusedSimpArgs false
def zcB (s : Bs) : Option (Nat × Nat × Bs) :=
 (zas s).bind fun x => (zas x.2).bind fun y => if zbK x.1 y.1 (toB y.2) = true then some (x.1,y.1,y.2) else none
set_option maxHeartbeats 4000000 in
set_option maxRecDepth 100000 in
theorem zaU.good (s : ByteArray) (a r : Nat) (d : Bs) (w : World) (hs : s.size < 4611686018427387904) (h : zcB (ofB s) = some (a,r,d)) :
  Calls Try.prog 40 #[.string s] w fun e w' => e = .returned (.agg #[.int .i64 a,.int .i64 r,.string (toB d)]) ∧ Below w.heap.size w w' := by
 unfold zcB at h
 obtain ⟨⟨a',s1⟩,h1,h⟩ := Option.bind_eq_some_iff.1 h
 obtain ⟨⟨r',s2⟩,h2,h⟩ := Option.bind_eq_some_iff.1 h
 simp only at h2 h
 split at h
 ·rename_i h0
  have h4 := h0
  obtain ⟨rfl,rfl,rfl⟩ : a' = a ∧ r' = r ∧ s2 = d := by
   have := Option.some.inj h
   simp only [Prod.mk.injEq] at this
   exact this
  have l1 := zbs h1
  rw [zah] at l1
  have HS1 : zc ((toB s1).size < 4611686018427387904) := ⟨by rw [zV];omega⟩
  have HS := zc.mk hs
  have H1 := zc.mk h1
  have H2 : zc (zas (ofB (toB s1)) = some (r',s2)) := ⟨by rw [zae];exact h2⟩
  have H4 := zc.mk h4
  clear hs h1 h2 h4 h l1
  go_enter Try.func40,Try.ntmps40
  go_wp2_with (first
   | ((with_reducible refine zu (N := 1) rfl ?_);refine zr ?hg (N := 1) ?hd (cs := #[.string s]) (t := 9) ?hr ?_;(case hd => rfl);(case hg => rfl);(case hr => first | (go_simp;done) | (go_simp;rfl));intro g1 hg w1 hbox hb;have G1 : zc (w.heap.size ≤ g1) := ⟨by rw [hg];exact Nat.le_refl _⟩;have B1 := zc.mk hbox;have HB1 := zc.mk hb;clear hb hbox hg)
   | ((with_reducible refine zu (N := 2) rfl ?_);refine zr ?hg (N := 2) ?hd (cs := #[.int .i64 0,.int .i64 0,.string ⟨#[]⟩]) (t := 48) ?hr ?_;(case hd => rfl);(case hg => rfl);(case hr => first | (go_simp;done) | (go_simp;rfl));intro g2 hg w2 hbox hb;have G2 : zc (w.heap.size ≤ g2) := ⟨by rw [hg];exact zl HB1.out⟩;have N2 : zc (g2 ≠ g1) := ⟨by rw [hg];exact Nat.ne_of_gt (zP B1.out)⟩;have B2 := zc.mk hbox;have B1b := zc.mk (zh B1.out hb);have HB2 := zc.mk (zj HB1.out hb);clear hb hbox hg B1)
   | (go_at_call 34;(with_reducible refine (zaD.goodU s g1 _ _ _ _ HS.out H1.out B1b.out).mono ?_);rintro e w3 ⟨rfl,hu,hk,hl⟩;have C1 := zc.mk hu;have C2 := zc.mk (hk g2 _ _ N2.out B2.out);have HB3 := zc.mk (hl _ HB2.out G1.out);clear hu hk hl B1b H1)
   | (go_at_call 34;(with_reducible refine (zaD.goodU (toB s1) g1 _ _ _ _ HS1.out H2.out (ze C1.out _)).mono ?_);rintro e w4 ⟨rfl,hu,hk,hl⟩;have N3 : zc (w3.heap.size ≠ g1) := ⟨Nat.ne_of_gt (zP C1.out)⟩;have N4 : zc (w3.heap.size ≠ g2) := ⟨Nat.ne_of_gt (zP C2.out)⟩;have D1 := zc.mk hu;have D2 := zc.mk (hk g2 _ _ N2.out (ze C2.out _));have D3 := zc.mk (hk _ _ _ N3.out (zc3 _ _));have HB4 := zc.mk (hl _ (zA HB3.out _) G1.out);have GL3 := zc.mk (zl HB3.out);clear hu hk hl C1 C2 H2;have hz0 := (zb D3.out 0).trans rfl;have fz0 := za D3.out 0;have hw0 := (zb D2.out 0).trans rfl;have fw0 := za D2.out 0;have hz1 := (zb D3.out 1).trans rfl;have fz1 := za D3.out 1;have hw1 := (zb D2.out 1).trans rfl;have fw1 := za D2.out 1;have hz2 := (zb D3.out 2).trans rfl;have fz2 := za D3.out 2;have hw2 := (zb D2.out 2).trans rfl;have fw2 := za D2.out 2;have hx := (zb D1.out 0).trans rfl;have fx := za D1.out 0;have n31 := N3.out;have n13 := Ne.symm N3.out;have n32 := N4.out;have n23 := Ne.symm N4.out)
   | (go_at_call 35;(with_reducible refine (zbL.calls _ _ _ _ _ (zb8 _ _ _)).mono ?_);rintro e w6 ⟨rfl,⟨n6,rfl⟩⟩;rw [H4.out])
   | (go_at_call 26;(with_reducible refine (zaJ.yes _).mono ?_);rintro e w1 ⟨rfl,rfl⟩))
  refine bodyPost_ret (results_cell_row rfl _ _ g2 48 #[.int .i64 a',.int .i64 r',.string (toB s2)] (0,0) _ rfl (by
   refine zi (cs := #[.int .i64 a',.int .i64 r',.string ⟨#[]⟩]) ?_ 2 _ rfl
   refine zi (cs := #[.int .i64 a',.int .i64 0,.string ⟨#[]⟩]) ?_ 1 _ rfl
   refine zi (cs := #[.int .i64 0,.int .i64 0,.string ⟨#[]⟩]) ?_ 0 _ rfl
   exact zd (zk (zk D2.out (Ne.symm N4.out) _) (Ne.symm N4.out) _) _) Try.underlying48 rfl (by kernel_rfl)) rfl ?_
  exact ⟨rfl,(zg (zg (zg (zm (zg (zg HB4.out GL3.out) GL3.out) _) G2.out) G2.out) G2.out)⟩
 ·cases h
set_option maxHeartbeats 4000000 in
set_option maxRecDepth 100000 in
theorem zaU.bad (s : ByteArray) (w : World) (hs : s.size < 4611686018427387904) (h : zcB (ofB s) = none) :
  Calls Try.prog 40 #[.string s] w fun e w' => e = .panicked zcE ∧ Below w.heap.size w w' := by
 unfold zcB at h
 have HS := zc.mk hs
 rcases h1 : zas (ofB s) with _ | ⟨a',s1⟩
 ·have H1 : zc (zas (ofB s) = none) := ⟨h1⟩
  clear h hs h1
  go_enter Try.func40,Try.ntmps40
  go_wp2_with (first
   | ((with_reducible refine zu (N := 1) rfl ?_);refine zr ?hg (N := 1) ?hd (cs := #[.string s]) (t := 9) ?hr ?_;(case hd => rfl);(case hg => rfl);(case hr => first | (go_simp;done) | (go_simp;rfl));intro g1 hg w1 hbox hb;have G1 : zc (w.heap.size ≤ g1) := ⟨by rw [hg];exact Nat.le_refl _⟩;have B1 := zc.mk hbox;have HB1 := zc.mk hb;clear hb hbox hg)
   | ((with_reducible refine zu (N := 2) rfl ?_);refine zr ?hg (N := 2) ?hd (cs := #[.int .i64 0,.int .i64 0,.string ⟨#[]⟩]) (t := 48) ?hr ?_;(case hd => rfl);(case hg => rfl);(case hr => first | (go_simp;done) | (go_simp;rfl));intro g2 hg w2 hbox hb;have G2 : zc (w.heap.size ≤ g2) := ⟨by rw [hg];exact zl HB1.out⟩;have N2 : zc (g2 ≠ g1) := ⟨by rw [hg];exact Nat.ne_of_gt (zP B1.out)⟩;have B2 := zc.mk hbox;have B1b := zc.mk (zh B1.out hb);have HB2 := zc.mk (zj HB1.out hb);clear hb hbox hg B1)
   | (go_at_call 34;(with_reducible refine (zaD.badU s g1 _ _ HS.out H1.out B1b.out).mono ?_);rintro e wb ⟨rfl,hl⟩;have HX := zc.mk (hl _ HB2.out);clear hl))
  exact ⟨rfl,rfl,HX.out⟩
 rw [h1,Option.bind_some] at h
 simp only at h
 have H1 := zc.mk h1
 have l1 := zbs h1
 rw [zah] at l1
 have HS1 : zc ((toB s1).size < 4611686018427387904) := ⟨by rw [zV];omega⟩
 rcases h2 : zas s1 with _ | ⟨r',s2⟩
 ·have H2 : zc (zas (ofB (toB s1)) = none) := ⟨by rw [zae];exact h2⟩
  clear h hs h1 h2 l1
  go_enter Try.func40,Try.ntmps40
  go_wp2_with (first
   | ((with_reducible refine zu (N := 1) rfl ?_);refine zr ?hg (N := 1) ?hd (cs := #[.string s]) (t := 9) ?hr ?_;(case hd => rfl);(case hg => rfl);(case hr => first | (go_simp;done) | (go_simp;rfl));intro g1 hg w1 hbox hb;have G1 : zc (w.heap.size ≤ g1) := ⟨by rw [hg];exact Nat.le_refl _⟩;have B1 := zc.mk hbox;have HB1 := zc.mk hb;clear hb hbox hg)
   | ((with_reducible refine zu (N := 2) rfl ?_);refine zr ?hg (N := 2) ?hd (cs := #[.int .i64 0,.int .i64 0,.string ⟨#[]⟩]) (t := 48) ?hr ?_;(case hd => rfl);(case hg => rfl);(case hr => first | (go_simp;done) | (go_simp;rfl));intro g2 hg w2 hbox hb;have G2 : zc (w.heap.size ≤ g2) := ⟨by rw [hg];exact zl HB1.out⟩;have N2 : zc (g2 ≠ g1) := ⟨by rw [hg];exact Nat.ne_of_gt (zP B1.out)⟩;have B2 := zc.mk hbox;have B1b := zc.mk (zh B1.out hb);have HB2 := zc.mk (zj HB1.out hb);clear hb hbox hg B1)
   | (go_at_call 34;(with_reducible refine (zaD.goodU s g1 _ _ _ _ HS.out H1.out B1b.out).mono ?_);rintro e w3 ⟨rfl,hu,hk,hl⟩;have C1 := zc.mk hu;have C2 := zc.mk (hk g2 _ _ N2.out B2.out);have HB3 := zc.mk (hl _ HB2.out G1.out);clear hu hk hl B1b H1)
   | (go_at_call 34;(with_reducible refine (zaD.badU (toB s1) g1 _ _ HS1.out H2.out (ze C1.out _)).mono ?_);rintro e wb ⟨rfl,hl⟩;have HX := zc.mk (hl _ (zA HB3.out _));clear hl))
  exact ⟨rfl,rfl,HX.out⟩
 rw [h2,Option.bind_some] at h
 simp only at h
 have H2 : zc (zas (ofB (toB s1)) = some (r',s2)) := ⟨by rw [zae];exact h2⟩
 split at h
 ·cases h
 ·rename_i h0
  clear h hs h1 h2 l1
  rcases h4 : zbK a' r' (toB s2) with _ | _
  ·have H4 := zc.mk h4
   clear h0 h4
   go_enter Try.func40,Try.ntmps40
   go_wp2_with (first
    | ((with_reducible refine zu (N := 1) rfl ?_);refine zr ?hg (N := 1) ?hd (cs := #[.string s]) (t := 9) ?hr ?_;(case hd => rfl);(case hg => rfl);(case hr => first | (go_simp;done) | (go_simp;rfl));intro g1 hg w1 hbox hb;have G1 : zc (w.heap.size ≤ g1) := ⟨by rw [hg];exact Nat.le_refl _⟩;have B1 := zc.mk hbox;have HB1 := zc.mk hb;clear hb hbox hg)
    | ((with_reducible refine zu (N := 2) rfl ?_);refine zr ?hg (N := 2) ?hd (cs := #[.int .i64 0,.int .i64 0,.string ⟨#[]⟩]) (t := 48) ?hr ?_;(case hd => rfl);(case hg => rfl);(case hr => first | (go_simp;done) | (go_simp;rfl));intro g2 hg w2 hbox hb;have G2 : zc (w.heap.size ≤ g2) := ⟨by rw [hg];exact zl HB1.out⟩;have N2 : zc (g2 ≠ g1) := ⟨by rw [hg];exact Nat.ne_of_gt (zP B1.out)⟩;have B2 := zc.mk hbox;have B1b := zc.mk (zh B1.out hb);have HB2 := zc.mk (zj HB1.out hb);clear hb hbox hg B1)
    | (go_at_call 34;(with_reducible refine (zaD.goodU s g1 _ _ _ _ HS.out H1.out B1b.out).mono ?_);rintro e w3 ⟨rfl,hu,hk,hl⟩;have C1 := zc.mk hu;have C2 := zc.mk (hk g2 _ _ N2.out B2.out);have HB3 := zc.mk (hl _ HB2.out G1.out);clear hu hk hl B1b H1)
    | (go_at_call 34;(with_reducible refine (zaD.goodU (toB s1) g1 _ _ _ _ HS1.out H2.out (ze C1.out _)).mono ?_);rintro e w4 ⟨rfl,hu,hk,hl⟩;have N3 : zc (w3.heap.size ≠ g1) := ⟨Nat.ne_of_gt (zP C1.out)⟩;have N4 : zc (w3.heap.size ≠ g2) := ⟨Nat.ne_of_gt (zP C2.out)⟩;have D1 := zc.mk hu;have D2 := zc.mk (hk g2 _ _ N2.out (ze C2.out _));have D3 := zc.mk (hk _ _ _ N3.out (zc3 _ _));have HB4 := zc.mk (hl _ (zA HB3.out _) G1.out);have GL3 := zc.mk (zl HB3.out);clear hu hk hl C1 C2 H2;have hz0 := (zb D3.out 0).trans rfl;have fz0 := za D3.out 0;have hw0 := (zb D2.out 0).trans rfl;have fw0 := za D2.out 0;have hz1 := (zb D3.out 1).trans rfl;have fz1 := za D3.out 1;have hw1 := (zb D2.out 1).trans rfl;have fw1 := za D2.out 1;have hz2 := (zb D3.out 2).trans rfl;have fz2 := za D3.out 2;have hw2 := (zb D2.out 2).trans rfl;have fw2 := za D2.out 2;have hx := (zb D1.out 0).trans rfl;have fx := za D1.out 0;have n31 := N3.out;have n13 := Ne.symm N3.out;have n32 := N4.out;have n23 := Ne.symm N4.out)
    | (go_at_call 35;(with_reducible refine (zbL.calls _ _ _ _ _ (zb8 _ _ _)).mono ?_);rintro e w6 ⟨rfl,⟨n6,rfl⟩⟩;rw [H4.out])
    | (go_at_call 26;(with_reducible refine (zaJ.no _).mono ?_);rintro e w1 ⟨rfl,rfl⟩))
   exact ⟨rfl,rfl,by repeat (first | exact (zg (zg HB4.out GL3.out) GL3.out) | apply zm)⟩
  ·exact absurd h4 h0
theorem zaa.assert (w : World) : (Instr.typeAssert (.iface 97 (.agg #[])) 20 97 true).run Try.prog w = .ok (.tuple #[.agg #[],.bool true]) w := by kernel_rfl
set_option maxHeartbeats 4000000 in
set_option maxRecDepth 100000 in
theorem zaa.catch (g6 g7 : Nat) (older : List PanicEntry) (c7 : Value) (w : World) (h6 : w.heap[g6]? = some (.cells #[.int .i64 0,.int .i64 0,.string ⟨#[]⟩] 48 (0,0))) (h7 : w.heap[g7]? = some (.cells #[c7] 29 (0,0))) (hne : g6 ≠ g7) :
  CallsD Try.prog 68 #[.pointer (some ⟨g6,0,none⟩),.pointer (some ⟨g7,0,none⟩)] (.panicking ({ v := zca,recovered := false } :: older)) w fun e u' w' =>
   e = .returned (.tuple #[]) ∧ u' = .panicking ({ v := zca,recovered := true } :: older) ∧ w'.heap[g6]? = some (.cells #[.int .i64 0,.int .i64 0,.string ⟨#[]⟩] 48 (0,0)) ∧ w'.heap[g7]? = some (.cells #[.int .i64 3] 29 (0,0)) ∧ ∀ W0 : World,Below W0.heap.size W0 w → W0.heap.size ≤ g6 → W0.heap.size ≤ g7 → Below W0.heap.size W0 w' := by
 have ha := zaa.assert
 have hne' := Ne.symm hne
 refine callsD_of_wpS Try.func68 rfl fun c₀ cs hu => ?_
 apply wpS_seq
 apply wpS_region
 simp [wpOpsS,go_sem,recoverD,hu,Try.ntmps68,Exit.thenS,zca]
 show Code.wpS _ _ _ ⟨#[.pointer (some ⟨g6,0,none⟩),.pointer (some ⟨g7,0,none⟩),zca,undef,undef,undef,zca,undef,undef,undef,undef,undef,undef,undef,undef,undef,undef,undef],[]⟩ _ _
 unfold zca
 refine wpS_of_wp ?_
 go_wp2_with (first
  | ((with_reducible refine zu (N := 3) rfl ?_);refine zr ?hg (N := 3) ?hd (cs := #[]) (t := 97) ?hr ?_;(case hd => rfl);(case hg => rfl);(case hr => first | (go_simp;done) | (go_simp;rfl));intro g3 hg w1 hbox hb;have B6 := zc.mk (zh h6 hb);have B7 := zc.mk (zh h7 hb);have HB1 := zc.mk hb;clear hb hbox hg)
  | ((with_reducible refine zu (N := 5) rfl ?_);refine zr ?hg (N := 5) ?hd (cs := #[.int .i64 0,.int .i64 0,.string ⟨#[]⟩]) (t := 48) ?hr ?_;(case hd => rfl);(case hg => rfl);(case hr => first | (go_simp;done) | (go_simp;rfl));intro g5 hg w2 hbox hb;have C6 := zc.mk (zh B6.out hb);have C7 := zc.mk (zh B7.out hb);have HB2 := zc.mk (zj HB1.out hb);have B5 := zc.mk hbox;clear hb hbox hg;have ca0 := (zb C6.out 0).trans rfl;have fca0 := za C6.out 0;have cd0 := (zb B5.out 0).trans rfl;have fcd0 := za B5.out 0;have ca1 := (zb C6.out 1).trans rfl;have fca1 := za C6.out 1;have cd1 := (zb B5.out 1).trans rfl;have fcd1 := za B5.out 1;have ca2 := (zb C6.out 2).trans rfl;have fca2 := za C6.out 2;have cd2 := (zb B5.out 2).trans rfl;have fcd2 := za B5.out 2;have cb0 := (zb C7.out 0).trans rfl;have fcb0 := za C7.out 0))
 have x6 : ((((w2.setCell ⟨g6,0,none⟩ (.int .i64 0)).setCell ⟨g6,1,none⟩ (.int .i64 0)).setCell ⟨g6,2,none⟩ (.string ⟨#[]⟩)).setCell ⟨g7,0,none⟩ (.int .i64 3)).heap[g6]? = some (.cells #[.int .i64 0,.int .i64 0,.string ⟨#[]⟩] 48 (0,0)) := zk (zi (zi (zi C6.out 0 _ rfl) 1 _ rfl) 2 _ rfl) hne _
 have x7 : ((((w2.setCell ⟨g6,0,none⟩ (.int .i64 0)).setCell ⟨g6,1,none⟩ (.int .i64 0)).setCell ⟨g6,2,none⟩ (.string ⟨#[]⟩)).setCell ⟨g7,0,none⟩ (.int .i64 3)).heap[g7]? = some (.cells #[.int .i64 3] 29 (0,0)) := zi (zk (zk (zk C7.out hne' _) hne' _) hne' _) 0 _ rfl
 have x8 : ∀ W0 : World,Below W0.heap.size W0 w → W0.heap.size ≤ g6 → W0.heap.size ≤ g7 → Below W0.heap.size W0 ((((w2.setCell ⟨g6,0,none⟩ (.int .i64 0)).setCell ⟨g6,1,none⟩ (.int .i64 0)).setCell ⟨g6,2,none⟩ (.string ⟨#[]⟩)).setCell ⟨g7,0,none⟩ (.int .i64 3)) := fun W0 h k6 k7 => zg (zg (zg (zg (zj h HB2.out) k6) k6) k6) k7
 generalize ((((w2.setCell ⟨g6,0,none⟩ (.int .i64 0)).setCell ⟨g6,1,none⟩ (.int .i64 0)).setCell ⟨g6,2,none⟩ (.string ⟨#[]⟩)).setCell ⟨g7,0,none⟩ (.int .i64 3)) = wE at x6 x7 x8 ⊢
 simp [bodyPostS,results,Try.results68]
 exact ⟨x6,x7,x8⟩
set_option maxHeartbeats 4000000 in
set_option maxRecDepth 100000 in
theorem zaa.idle (g6 g7 : Nat) (w : World) :
  CallsD Try.prog 68 #[.pointer (some ⟨g6,0,none⟩),.pointer (some ⟨g7,0,none⟩)] .returning w fun e u' w' => e = .returned (.tuple #[]) ∧ u' = .returning ∧ w' = w := by
 refine callsD_of_wpS Try.func68 rfl fun c₀ cs hu => ?_
 apply wpS_seq
 apply wpS_region
 simp [wpOpsS,go_sem,recoverD,hu,Try.ntmps68,Exit.thenS]
 show Code.wpS _ _ _ ⟨#[.pointer (some ⟨g6,0,none⟩),.pointer (some ⟨g7,0,none⟩),.nilIface,undef,undef,undef,.nilIface,undef,undef,undef,undef,undef,undef,undef,undef,undef,undef,undef],[]⟩ _ _
 refine wpS_of_wp ?_
 go_wp2
 cases c₀
 simp_all [bodyPostS,results,Try.results68]
set_option maxHeartbeats 4000000 in
set_option maxRecDepth 100000 in
theorem zaa.good (s rest : ByteArray) (a r : Nat) (d : Bs) (w : World) (hs : rest.size < 4611686018427387904) (hcut : zN.f s ⟨#[118]⟩ = some (rest,true)) (h : zcB (ofB rest) = some (a,r,d)) :
  Calls Try.prog 39 #[.string s,.string ⟨#[118]⟩,.func (.func 40) #[] #[]] w fun e w' => e = .returned (.tuple #[.agg #[.int .i64 a,.int .i64 r,.string (toB d)],.int .i64 0]) ∧ Below w.heap.size w w' := by
 have hmf : ∀ (fn : Fn) (first cap : Array Value) (w : World),(Instr.makeFunc fn first cap).run Try.prog w = .ok (.func fn first cap) w := fun _ _ _ _ => rfl
 have HC := zc.mk hcut
 have HS := zc.mk hs
 have HL := zc.mk h
 clear hcut hs h
 go_enter_defers Try.func39,Try.ntmps39
 go_wp2_with (first
  | ((with_reducible refine zu (N := 6) rfl ?_);refine zr ?hg (N := 6) ?hd (cs := #[.int .i64 0,.int .i64 0,.string ⟨#[]⟩]) (t := 48) ?hr ?_;(case hd => rfl);(case hg => rfl);(case hr => first | (go_simp;done) | (go_simp;rfl));intro g6 hg w1 hbox hb;have G6 : zc (w.heap.size ≤ g6) := ⟨by rw [hg];exact Nat.le_refl _⟩;have B6 := zc.mk hbox;have HB1 := zc.mk hb;clear hb hbox hg)
  | ((with_reducible refine zu (N := 7) rfl ?_);refine zr ?hg (N := 7) ?hd (cs := #[.int .i64 0]) (t := 29) ?hr ?_;(case hd => rfl);(case hg => rfl);(case hr => first | (go_simp;done) | (go_simp;rfl));intro g7 hg w2 hbox hb;have G7 : zc (w.heap.size ≤ g7) := ⟨by rw [hg];exact zl HB1.out⟩;have N67 : zc (g6 ≠ g7) := ⟨by rw [hg];exact Nat.ne_of_lt (zP B6.out)⟩;have C7 := zc.mk hbox;have C6 := zc.mk (zh B6.out hb);have HB2 := zc.mk (zj HB1.out hb);clear hb hbox hg B6)
  | (go_at_call 55;(with_reducible refine (zN.calls _ _ _ _ _ HC.out).mono ?_);rintro e w3 ⟨rfl,⟨n3,rfl⟩⟩)
  | (go_at_call 26;(with_reducible refine (zaJ.yes _).mono ?_);rintro e w1 ⟨rfl,rfl⟩)
  | (go_at_call 40;(with_reducible refine (zaU.good rest a r d _ HS.out HL.out).mono ?_);rintro e w4 ⟨rfl,hb⟩;have D6 := zc.mk (zh (zd C6.out _) hb);have D7 := zc.mk (zh (zd C7.out _) hb);have HB4 := zc.mk (zj (zm HB2.out _) hb);clear hb;have ca0 := (zb D6.out 0).trans rfl;have fca0 := za D6.out 0;have ca1 := (zb D6.out 1).trans rfl;have fca1 := za D6.out 1;have ca2 := (zb D6.out 2).trans rfl;have fca2 := za D6.out 2;have cb0 := (zb D7.out 0).trans rfl;have fcb0 := za D7.out 0;have n67 := N67.out;have n76 := Ne.symm N67.out))
 have x6 : ((((w4.setCell ⟨g6,0,none⟩ (.int .i64 a)).setCell ⟨g6,1,none⟩ (.int .i64 r)).setCell ⟨g6,2,none⟩ (.string (toB d))).setCell ⟨g7,0,none⟩ (.int .i64 0)).heap[g6]? = some (.cells #[.int .i64 a,.int .i64 r,.string (toB d)] 48 (0,0)) := zk (zi (zi (zi D6.out 0 _ rfl) 1 _ rfl) 2 _ rfl) N67.out _
 have x7 : ((((w4.setCell ⟨g6,0,none⟩ (.int .i64 a)).setCell ⟨g6,1,none⟩ (.int .i64 r)).setCell ⟨g6,2,none⟩ (.string (toB d))).setCell ⟨g7,0,none⟩ (.int .i64 0)).heap[g7]? = some (.cells #[.int .i64 0] 29 (0,0)) := zi (zk (zk (zk D7.out (Ne.symm N67.out) _) (Ne.symm N67.out) _) (Ne.symm N67.out) _) 0 _ rfl
 have x8 : Below w.heap.size w ((((w4.setCell ⟨g6,0,none⟩ (.int .i64 a)).setCell ⟨g6,1,none⟩ (.int .i64 r)).setCell ⟨g6,2,none⟩ (.string (toB d))).setCell ⟨g7,0,none⟩ (.int .i64 0)) := zg (zg (zg (zg HB4.out G6.out) G6.out) G6.out) G7.out
 generalize ((((w4.setCell ⟨g6,0,none⟩ (.int .i64 a)).setCell ⟨g6,1,none⟩ (.int .i64 r)).setCell ⟨g6,2,none⟩ (.string (toB d))).setCell ⟨g7,0,none⟩ (.int .i64 0)) = wE at x6 x7 x8 ⊢
 refine leaves_cons (f := 68) (args := #[.pointer (some ⟨g6,0,none⟩),.pointer (some ⟨g7,0,none⟩)]) (by simp) (by simp [go_sem]) ?_
 refine (zaa.idle g6 g7 _).mono ?_
 rintro e u' w'' ⟨rfl,rfl,rfl⟩
 have hc60 : w''.cell? ⟨g6,0,none⟩ = some (.int .i64 a) := (zb x6 0).trans rfl
 have hc61 : w''.cell? ⟨g6,1,none⟩ = some (.int .i64 r) := (zb x6 1).trans rfl
 have hc62 : w''.cell? ⟨g6,2,none⟩ = some (.string (toB d)) := (zb x6 2).trans rfl
 have hc7 : w''.cell? ⟨g7,0,none⟩ = some (.int .i64 0) := (zb x7 0).trans rfl
 simp [Leaves,settle,results,Try.results39,asAddr,go_sem,hc60,hc61,hc62,hc7]
 exact x8
set_option maxHeartbeats 4000000 in
set_option maxRecDepth 100000 in
theorem zaa.none1 (s : ByteArray) (w : World) (hcut : zN.f s ⟨#[118]⟩ = some (s,false)) :
  Calls Try.prog 39 #[.string s,.string ⟨#[118]⟩,.func (.func 40) #[] #[]] w fun e w' => e = .returned (.tuple #[.agg #[.int .i64 0,.int .i64 0,.string ⟨#[]⟩],.int .i64 3]) ∧ Below w.heap.size w w' := by
 have hmf : ∀ (fn : Fn) (first cap : Array Value) (w : World),(Instr.makeFunc fn first cap).run Try.prog w = .ok (.func fn first cap) w := fun _ _ _ _ => rfl
 have HC := zc.mk hcut
 clear hcut
 go_enter_defers Try.func39,Try.ntmps39
 go_wp2_with (first
  | ((with_reducible refine zu (N := 6) rfl ?_);refine zr ?hg (N := 6) ?hd (cs := #[.int .i64 0,.int .i64 0,.string ⟨#[]⟩]) (t := 48) ?hr ?_;(case hd => rfl);(case hg => rfl);(case hr => first | (go_simp;done) | (go_simp;rfl));intro g6 hg w1 hbox hb;have G6 : zc (w.heap.size ≤ g6) := ⟨by rw [hg];exact Nat.le_refl _⟩;have B6 := zc.mk hbox;have HB1 := zc.mk hb;clear hb hbox hg)
  | ((with_reducible refine zu (N := 7) rfl ?_);refine zr ?hg (N := 7) ?hd (cs := #[.int .i64 0]) (t := 29) ?hr ?_;(case hd => rfl);(case hg => rfl);(case hr => first | (go_simp;done) | (go_simp;rfl));intro g7 hg w2 hbox hb;have G7 : zc (w.heap.size ≤ g7) := ⟨by rw [hg];exact zl HB1.out⟩;have N67 : zc (g6 ≠ g7) := ⟨by rw [hg];exact Nat.ne_of_lt (zP B6.out)⟩;have C7 := zc.mk hbox;have C6 := zc.mk (zh B6.out hb);have HB2 := zc.mk (zj HB1.out hb);clear hb hbox hg B6)
  | (go_at_call 55;(with_reducible refine (zN.calls _ _ _ _ _ HC.out).mono ?_);rintro e w3 ⟨rfl,⟨n3,rfl⟩⟩)
  | (go_at_call 26;(with_reducible refine (zaJ.no _).mono ?_);rintro e w4 ⟨rfl,rfl⟩;have D6 := zc.mk (zd C6.out n3);have D7 := zc.mk (zd C7.out n3);have HB4 := zc.mk (zm HB2.out n3)))
 refine leaves_cons (f := 68) (args := #[.pointer (some ⟨g6,0,none⟩),.pointer (some ⟨g7,0,none⟩)]) (by simp) (by simp [go_sem]) ?_
 refine (zaa.catch g6 g7 [] _ _ D6.out D7.out N67.out).mono ?_
 rintro e u' w'' ⟨rfl,rfl,x6,x7,hx⟩
 have x8 := hx w HB4.out G6.out G7.out
 have hc60 : w''.cell? ⟨g6,0,none⟩ = some (.int .i64 0) := (zb x6 0).trans rfl
 have hc61 : w''.cell? ⟨g6,1,none⟩ = some (.int .i64 0) := (zb x6 1).trans rfl
 have hc62 : w''.cell? ⟨g6,2,none⟩ = some (.string ⟨#[]⟩) := (zb x6 2).trans rfl
 have hc7 : w''.cell? ⟨g7,0,none⟩ = some (.int .i64 3) := (zb x7 0).trans rfl
 simp [Leaves,settle,results,Try.results39,asAddr,go_sem,hc60,hc61,hc62,hc7]
 exact x8
set_option maxHeartbeats 4000000 in
set_option maxRecDepth 100000 in
theorem zaa.none2 (s rest : ByteArray) (w : World) (hs : rest.size < 4611686018427387904) (hcut : zN.f s ⟨#[118]⟩ = some (rest,true)) (h : zcB (ofB rest) = none) :
  Calls Try.prog 39 #[.string s,.string ⟨#[118]⟩,.func (.func 40) #[] #[]] w fun e w' => e = .returned (.tuple #[.agg #[.int .i64 0,.int .i64 0,.string ⟨#[]⟩],.int .i64 3]) ∧ Below w.heap.size w w' := by
 have hmf : ∀ (fn : Fn) (first cap : Array Value) (w : World),(Instr.makeFunc fn first cap).run Try.prog w = .ok (.func fn first cap) w := fun _ _ _ _ => rfl
 have HC := zc.mk hcut
 have HS := zc.mk hs
 have HL := zc.mk h
 clear hcut hs h
 go_enter_defers Try.func39,Try.ntmps39
 go_wp2_with (first
  | ((with_reducible refine zu (N := 6) rfl ?_);refine zr ?hg (N := 6) ?hd (cs := #[.int .i64 0,.int .i64 0,.string ⟨#[]⟩]) (t := 48) ?hr ?_;(case hd => rfl);(case hg => rfl);(case hr => first | (go_simp;done) | (go_simp;rfl));intro g6 hg w1 hbox hb;have G6 : zc (w.heap.size ≤ g6) := ⟨by rw [hg];exact Nat.le_refl _⟩;have B6 := zc.mk hbox;have HB1 := zc.mk hb;clear hb hbox hg)
  | ((with_reducible refine zu (N := 7) rfl ?_);refine zr ?hg (N := 7) ?hd (cs := #[.int .i64 0]) (t := 29) ?hr ?_;(case hd => rfl);(case hg => rfl);(case hr => first | (go_simp;done) | (go_simp;rfl));intro g7 hg w2 hbox hb;have G7 : zc (w.heap.size ≤ g7) := ⟨by rw [hg];exact zl HB1.out⟩;have N67 : zc (g6 ≠ g7) := ⟨by rw [hg];exact Nat.ne_of_lt (zP B6.out)⟩;have C7 := zc.mk hbox;have C6 := zc.mk (zh B6.out hb);have HB2 := zc.mk (zj HB1.out hb);clear hb hbox hg B6)
  | (go_at_call 55;(with_reducible refine (zN.calls _ _ _ _ _ HC.out).mono ?_);rintro e w3 ⟨rfl,⟨n3,rfl⟩⟩)
  | (go_at_call 26;(with_reducible refine (zaJ.yes _).mono ?_);rintro e w1 ⟨rfl,rfl⟩)
  | (go_at_call 40;(with_reducible refine (zaU.bad rest _ HS.out HL.out).mono ?_);rintro e w4 ⟨rfl,hb⟩;have D6 := zc.mk (zh (zd C6.out _) hb);have D7 := zc.mk (zh (zd C7.out _) hb);have HB4 := zc.mk (zj (zm HB2.out _) hb);clear hb))
 refine leaves_cons (f := 68) (args := #[.pointer (some ⟨g6,0,none⟩),.pointer (some ⟨g7,0,none⟩)]) (by simp) (by simp [go_sem]) ?_
 refine (zaa.catch g6 g7 [] _ _ D6.out D7.out N67.out).mono ?_
 rintro e u' w'' ⟨rfl,rfl,x6,x7,hx⟩
 have x8 := hx w HB4.out G6.out G7.out
 have hc60 : w''.cell? ⟨g6,0,none⟩ = some (.int .i64 0) := (zb x6 0).trans rfl
 have hc61 : w''.cell? ⟨g6,1,none⟩ = some (.int .i64 0) := (zb x6 1).trans rfl
 have hc62 : w''.cell? ⟨g6,2,none⟩ = some (.string ⟨#[]⟩) := (zb x6 2).trans rfl
 have hc7 : w''.cell? ⟨g7,0,none⟩ = some (.int .i64 3) := (zb x7 0).trans rfl
 simp [Leaves,settle,results,Try.results39,asAddr,go_sem,hc60,hc61,hc62,hc7]
 exact x8
def zeH : Option (Nat × Nat × Bs) → Int × Int × ByteArray × Int
 | some x => ((x.1 : Int),(x.2.1 : Int),toB x.2.2,0)
 | none => (0,0,(⟨#[]⟩ : ByteArray),3)
def zcu (s : ByteArray) : Int × Int × ByteArray × Int := match ofB s with
 | c :: t => if c = 118 then zeH (zcB t) else (0,0,(⟨#[]⟩ : ByteArray),3)
 | [] => (0,0,(⟨#[]⟩ : ByteArray),3)
def zaa.f (a0 a1 : ByteArray) : Option (Int × Int × ByteArray × Int) := if a1 = ⟨#[118]⟩ ∧ a0.size < 4611686018427387904 then some (zcu a0) else none
theorem zaa.calls (a0 a1 : ByteArray) (r1 r2 : Int) (r3 : ByteArray) (r4 : Int) (w : World) (h : zaa.f a0 a1 = some (r1,r2,r3,r4)) :
  Calls Try.prog 39 #[.string a0,.string a1,.func (.func 40) #[] #[]] w fun e w' => e = .returned (.tuple #[.agg #[.int .i64 r1,.int .i64 r2,.string r3],.int .i64 r4]) ∧ Below w.heap.size w w' := by
 unfold zaa.f at h
 split at h
 ·rename_i h0
  obtain ⟨rfl,hs⟩ := h0
  have h := Option.some.inj h
  unfold zcu at h
  rcases hq : ofB a0 with _ | ⟨c,t⟩
  ·rw [hq] at h
   simp only [Prod.mk.injEq] at h
   obtain ⟨rfl,rfl,rfl,rfl⟩ := h
   exact zaa.none1 a0 w (zbm _ _ (by rw [hq];simp))
  ·rw [hq] at h
   simp only at h
   by_cases hc : c = 118
   ·rw [if_pos hc] at h
    subst hc
    have hcut := zb0 a0 118 t hq
    have hs2 : (toB t).size < 4611686018427387904 := by
     have := congrArg List.length hq
     rw [zah,List.length_cons] at this
     rw [zV];omega
    rcases hl : zcB t with _ | ⟨a,r,d⟩
    ·rw [hl,zeH] at h
     simp only [Prod.mk.injEq] at h
     obtain ⟨rfl,rfl,rfl,rfl⟩ := h
     exact zaa.none2 a0 (toB t) w hs2 hcut (by rw [zae];exact hl)
    ·rw [hl,zeH] at h
     simp only [Prod.mk.injEq] at h
     obtain ⟨rfl,rfl,rfl,rfl⟩ := h
     exact zaa.good a0 (toB t) a r d w hs2 hcut (by rw [zae];exact hl)
   ·rw [if_neg hc] at h
    simp only [Prod.mk.injEq] at h
    obtain ⟨rfl,rfl,rfl,rfl⟩ := h
    exact zaa.none1 a0 w (zbm _ _ (by rw [hq];simpa using hc))
 ·cases h
def zaU.f (a0 : ByteArray) : Option (Int × Int × ByteArray × Int) := (zaa.f a0 (⟨#[118]⟩ : ByteArray)).bind fun bt367 => (some (bt367.1,bt367.2.1,bt367.2.2.1,bt367.2.2.2))
set_option maxHeartbeats 8000000 in
set_option maxRecDepth 100000 in
theorem zaU.calls (a0 : ByteArray) (r1 : Int) (r2 : Int) (r3 : ByteArray) (r4 : Int) (w : World) (h : zaU.f a0 = some (r1,r2,r3,r4)) :
  Calls Try.prog 12 #[.string a0] w fun e w' => e = .returned (.tuple #[.agg #[.int .i64 r1,.int .i64 r2,.string r3],.int .i64 r4]) ∧ Below w.heap.size w w' := by
 have hu48 := Try.underlying48
 have HB := zc.mk (Below.refl w.heap.size w)
 have H : ((zaa.f a0 (⟨#[118]⟩ : ByteArray)).bind fun bt367 => (some (bt367.1,bt367.2.1,bt367.2.2.1,bt367.2.2.2))) = some (r1,r2,r3,r4) := h
 clear h
 replace H := Option.bind_eq_some_iff.mp H
 obtain ⟨⟨t367,t368,t369,t370⟩,A20,H⟩ := H
 replace H : (some (t367,t368,t369,t370)) = some (r1,r2,r3,r4) := H
 have A2 := zc.mk A20
 clear A20
 simp only [Option.some.injEq,Prod.mk.injEq] at H
 obtain ⟨rfl,rfl,rfl,rfl⟩ := H
 go_enter Try.func12,Try.ntmps12
 go_wp2_with (first | ((with_reducible refine zu (N := 2) rfl ?_);refine zr ?hg (N := 2) ?hd (cs := #[.int .i64 0,.int .i64 0,.string (⟨#[]⟩ : ByteArray)]) (t := 48) ?hr ?_;(case hd => rfl);(case hg => rfl);(case hr => first | (go_simp;done) | (go_simp;rfl));intro gb366 hg w3 hbox hb;have n0_ := zc.mk (zj hBq hb);have n1_ := zc.mk (hbox);have n2_ := zc.mk ((by rw [hg];exact (zl hBq) : w.heap.size ≤ gb366));have n3_ := zc.mk ((by rw [hg];exact (zl hBq) : w.heap.size ≤ gb366));clear HB;have HB := n0_;have BK366 := n1_;have GW366 := n2_;have GE366 := n3_;clear n0_ n1_ n2_ n3_;clear hb hbox hg) | ((with_reducible refine zt (f := 39) rfl ?_);refine zU (some 5) rfl rfl Try.func39 (by kernel_rfl) rfl #[.string a0,.string (⟨#[118]⟩ : ByteArray),.func (.func 40) #[] #[]] rfl (by (try simp only [List.map_toArray,List.map_cons,List.map_nil]);first | done | rfl | (simp only [List.length_drop,List.length_take];rfl)) ?_;(with_reducible refine (zaa.calls a0 (⟨#[118]⟩ : ByteArray) t367 t368 t369 t370 _ A2.out).mono ?_);rintro e w4 ⟨rfl,hb⟩;refine ⟨_,rfl,?_⟩;have n0_ := zc.mk (zh (g := gb366) (o := .cells #[.int .i64 0,.int .i64 0,.string (⟨#[]⟩ : ByteArray)] 48 (0,0)) (hGq BK366.out) hb);have n1_ := zc.mk (zj hCq hb);clear BK366;clear HB;have BK366 := n0_;have HB := n1_;clear n0_ n1_;(try clear hb);(try clear hb2);(try clear hk);(try clear hi);have hcz5_0 : w4.cell? ⟨gb366,0,none⟩ = some (.int .i64 0) := (zb BK366.out 0).trans rfl;have hcz5_1 : w4.cell? ⟨gb366,1,none⟩ = some (.int .i64 0) := (zb BK366.out 1).trans rfl;have hcz5_2 : w4.cell? ⟨gb366,2,none⟩ = some (.string (⟨#[]⟩ : ByteArray)) := (zb BK366.out 2).trans rfl;have hfz5_0 := za BK366.out 0;have hfz5_1 := za BK366.out 1;have hfz5_2 := za BK366.out 2))
 refine bodyPost_ret (z9 rfl _ _ gb366 48 #[.int .i64 t367,.int .i64 t368,.string t369] (0,0) _ rfl (by (with_reducible repeat (first | refine zd ?_ _ | refine zf ?_ | refine ze ?_ _));refine zi (cs := #[.int .i64 t367,.int .i64 t368,.string (⟨#[]⟩ : ByteArray)]) ?_ 2 _ rfl;(with_reducible repeat (first | refine zd ?_ _ | refine zf ?_ | refine ze ?_ _));refine zi (cs := #[.int .i64 t367,.int .i64 0,.string (⟨#[]⟩ : ByteArray)]) ?_ 1 _ rfl;(with_reducible repeat (first | refine zd ?_ _ | refine zf ?_ | refine ze ?_ _));refine zi (cs := #[.int .i64 0,.int .i64 0,.string (⟨#[]⟩ : ByteArray)]) ?_ 0 _ rfl;(with_reducible repeat (first | refine zd ?_ _ | refine zf ?_ | refine ze ?_ _));exact BK366.out) Try.underlying48 rfl (by kernel_rfl)) rfl ?_
 exact ⟨hHq,hCq⟩
def zf7 {α : Type} (p : α → Bool) (l : List α) : Int := match l.findIdx? p with | some i => (i : Int) | none => -1
theorem zf9 {α : Type} {p : α → Bool} {l : List α} {k : Nat} {x : α} (hx : l[k]? = some x) (hp : p x = true) (hn : ∀ (j : Nat) (y : α),j < k → l[j]? = some y → p y = false) : zf7 p l = k := by
 have hk := (List.getElem?_eq_some_iff.1 hx).1
 have h : l.findIdx? p = some k := by
  rw [List.findIdx?_eq_some_iff_getElem]
  refine ⟨hk,?_,fun j hj => ?_⟩
  ·rw [(List.getElem?_eq_some_iff.1 hx).2];exact hp
  ·have := hn j l[j] hj (List.getElem?_eq_getElem _)
   simp [this]
 rw [zf7,h]
theorem zfs {α : Type} {p : α → Bool} {l : List α} (hn : ∀ (j : Nat) (y : α),l[j]? = some y → p y = false) : zf7 p l = -1 := by
 have h : l.findIdx? p = none := by
  rw [List.findIdx?_eq_none_iff]
  intro x hx
  obtain ⟨j,hj⟩ := List.mem_iff_getElem?.1 hx
  exact hn j x hj
 rw [zf7,h]
theorem zf8 {α : Type} (p : α → Bool) (l : List α) : decide (0 ≤ zf7 p l) = l.any p := by
 rw [zf7]
 rcases h : l.findIdx? p with _ | i
 ·rw [List.findIdx?_eq_none_iff] at h
  simp
  intro x hx
  simpa using h x hx
 ·rw [List.findIdx?_eq_some_iff_getElem] at h
  obtain ⟨hi,hp,_⟩ := h
  simp
  exact ⟨_,List.getElem_mem hi,hp⟩
theorem zhH {a b : Bool} (h : a = b) : Ending.returned (.bool a) = .returned (.bool b) := by rw [h]
def zcg (s : ByteArray) : Bool := decide (s.size = 0) || decide (48 < s.size)
theorem zaZ.odd (s : ByteArray) (w : World) : Calls Try.prog 115 #[.string s] w fun e w' => e = .returned (.bool (zcg s)) ∧ w = w' := by
 by_cases h : s.toList = []
 ·have hb : (s.toList == []) = true := beq_iff_eq.mpr h
  have h0 : s.size = 0 := by rw [← zah,← zaT,h];rfl
  have HO : zc (zcg s = true) := ⟨by simp [zcg,h0]⟩
  clear h h0
  go_enter Try.func115,Try.ntmps115
  go_wp2
  go_ret
  rw [HO.out]
  exact ⟨rfl,rfl⟩
 ·have hb : (s.toList == []) = false := beq_eq_false_iff_ne.mpr h
  have h0 : s.size ≠ 0 := fun hz => h (List.eq_nil_of_length_eq_zero (by rw [zaT,zah,hz]))
  have HO : zc (zcg s = decide (48 < (s.size : Int))) := ⟨by simp [zcg,h0];omega⟩
  clear h h0
  by_cases h1 : 48 < (s.size : Int)
  ·have h1b : decide (48 < (s.size : Int)) = true := decide_eq_true h1
   rw [h1b] at HO
   clear h1
   go_enter Try.func115,Try.ntmps115
   go_wp2
   go_ret
   rw [HO.out]
   exact ⟨rfl,rfl⟩
  ·have h1b : decide (48 < (s.size : Int)) = false := decide_eq_false h1
   rw [h1b] at HO
   clear h1
   go_enter Try.func115,Try.ntmps115
   go_wp2
   go_ret
   rw [HO.out]
   exact ⟨rfl,rfl⟩
theorem zaZ.idx (A : Option Addr) (c : Nat) (l : List ByteArray) (w : World) (hr : Kd.C Kd.string w A l.length l) (hc : l.length ≤ c) :
  Calls Try.prog 129 #[.slice A l.length c,.func (.func 115) #[] #[]] w fun e w' => e = .returned (.int .i64 (zf7 zcg l)) ∧ w = w' := by
 have hm := hr.2.1
 have HR := zc.mk hr
 clear hr
 go_enter Try.func129,Try.ntmps129
 go_wp2_with fail
 go_loop [5,8] (fun v5 v8 => ∃ k : Nat,v8 = .int .i64 k ∧ k ≤ l.length ∧ zc (∀ (j : Nat) (y : ByteArray),j < k → l[j]? = some y → zcg y = false)) (fun _ v8 => l.length - (match v8 with | .int _ q => q | _ => 0).toNat)
 case atStart => exact ⟨0,rfl,Nat.zero_le _,⟨fun j y hj => absurd hj (Nat.not_lt_zero _)⟩⟩
 case round =>
  obtain ⟨k,rfl,hk,HN⟩ := hrel
  by_cases hlt : k < l.length
  ·obtain ⟨ad,rfl,hcell⟩ := Kd.at_string HR.out (k : Int) (by omega) (by omega)
   rw [Int.toNat_natCast] at hcell
   have hb : decide (k < l.length) = true := decide_eq_true hlt
   have hx : l[k]? = some (zaF ByteArray.empty l (k : Int)) := by
    rw [zaF,Int.toNat_natCast,List.getD_eq_getElem?_getD,List.getElem?_eq_getElem hlt];rfl
   have HX := zc.mk hx
   clear hx
   generalize zaF ByteArray.empty l (k : Int) = s at *
   rcases ho : zcg s with _ | _
   ·have HO := zc.mk ho
    clear ho
    go_wp2_with (go_at_call 115;(with_reducible refine (zaZ.odd _ _).mono ?_);rintro e w1 ⟨rfl,rfl⟩;rw [HO.out])
    go_round
    case rel =>
     refine ⟨k + 1,by go_num,by omega,⟨fun j y hj hy => ?_⟩⟩
     rcases Nat.lt_succ_iff_lt_or_eq.1 hj with h | h
     ·exact HN.out j y h hy
     ·subst h
      rw [HX.out] at hy
      injection hy with hy
      subst hy
      exact HO.out
    case measure => simp;omega
   ·have HO := zc.mk ho
    clear ho
    go_wp2_with (go_at_call 115;(with_reducible refine (zaZ.odd _ _).mono ?_);rintro e w1 ⟨rfl,rfl⟩;rw [HO.out])
    go_ret
    exact ⟨by rw [zf9 HX.out HO.out HN.out];rfl,rfl⟩
  ·obtain rfl : k = l.length := by omega
   go_wp2_with fail
   go_ret
   exact ⟨by rw [zfs (fun j y hy => HN.out j y (List.getElem?_eq_some_iff.1 hy).1 hy)];rfl,rfl⟩
theorem zaZ.contains (A : Option Addr) (c : Nat) (l : List ByteArray) (w : World) (hr : Kd.C Kd.string w A l.length l) (hc : l.length ≤ c) :
  Calls Try.prog 116 #[.slice A l.length c,.func (.func 115) #[] #[]] w fun e w' => e = .returned (.bool (l.any zcg)) ∧ w = w' := by
 have HR := zc.mk hr
 have HC := zc.mk hc
 clear hr hc
 have HA := zc.mk (zf8 zcg l)
 go_enter Try.func116,Try.ntmps116
 go_wp2_with (go_at_call 129;(with_reducible refine (zaZ.idx _ _ _ _ HR.out HC.out).mono ?_);rintro e w1 ⟨rfl,rfl⟩)
 go_ret
 exact ⟨by rw [← HA.out];rfl,rfl⟩
def zcK (o q : Int) (l : List ByteArray) : Bool := decide (1 ≤ o) && decide (o ≤ 64) && decide (1 ≤ q) && decide (q ≤ 1073741824) && decide (1 ≤ l.length) && decide (l.length ≤ 4) && !l.any zcg
def zaZ.f (a0_0 : Int) (a0_1 : Int) (l0_2 : List ByteArray) : Option (Bool) := some (zcK a0_0 a0_1 l0_2)
theorem zaZ.walk (a0_0 : Int) (a0_1 : Int) (A : Option Addr) (c : Nat) (l : List ByteArray) (w : World) (hr : Kd.C Kd.string w A l.length l) (hc : l.length ≤ c) :
  Calls Try.prog 87 #[.agg #[.int .i64 a0_0,.int .i64 a0_1,.slice A l.length c]] w fun e w' => e = .returned (.bool (zcK a0_0 a0_1 l)) ∧ Below w.heap.size w w' := by
 have HR := zc.mk hr
 have HC := zc.mk hc
 clear hr hc
 have HW := fun (o : Obj) => Kd.C_below HR.out (Below.alloc (Below.refl w.heap.size w) (Nat.le_refl _) o)
 have HW' := zc.mk HW
 clear HW
 go_enter Try.func87,Try.ntmps87
 go_wp2_with (go_at_call 116;(with_reducible refine (zaZ.contains _ _ _ _ (HW'.out _) HC.out).mono ?_);rintro e w1 ⟨rfl,rfl⟩)
 all_goals go_ret
 all_goals refine ⟨zhH ?_,(Below.refl _ _).alloc (Nat.le_refl _) _⟩
 all_goals (unfold zcK;simp;try omega)
theorem zaZ.calls (a0_0 : Int) (a0_1 : Int) (A0_2 : Option Addr) (c0_2 : Nat) (l0_2 : List ByteArray) (r : Bool) (w : World) (hr0_2 : Kd.C Kd.string w A0_2 l0_2.length l0_2) (hc0_2 : l0_2.length ≤ c0_2) (h : zaZ.f a0_0 a0_1 l0_2 = some r) :
  Calls Try.prog 87 #[.agg #[.int .i64 a0_0,.int .i64 a0_1,.slice A0_2 l0_2.length c0_2]] w fun e w' => e = .returned (.bool r) ∧ Below w.heap.size w w' := by
 obtain rfl := Option.some.inj h
 exact zaZ.walk a0_0 a0_1 A0_2 c0_2 l0_2 w hr0_2 hc0_2
end Go.Proofs.Ytgdpiegkoeikiaa.Px