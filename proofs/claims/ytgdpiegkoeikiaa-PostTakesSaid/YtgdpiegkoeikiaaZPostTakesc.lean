/- Part 29 of 35 of the proof of the law PostTakes: what is proved is the statement at the end of the last part; its conditions are those of the given row. -/
import Derived.Tactics2
import Derived.Defers
import Derived.Recover
import Derived.Laws.Pointers
import Derived.Test.YtgdpiegkoeikiaaZPostTakesE
namespace Go.Proofs.Ytgdpiegkoeikiaa.Px
open Go.RowKit Go.Proofs.YtgdpiegkoeikiaaW.PrintWords Go.Proofs.YtgdpiegkoeikiaaW.PrintLast Go.Proofs.YtgdpiegkoeikiaaW.PrintMore
attribute [local go_sem] zF zH zQ zR zy zz zG zI
set_option linter.unusedVariables false
set_option linter.unusedSimpArgs false
def zfT (s : Bs) : Option (Nat × Nat × Nat × Bs) :=
 (zas s).bind fun x => (zas x.2).bind fun y => (zas y.2).bind fun z => if zbK x.1 y.1 (toB z.2) = true ∧ zcZ z.1 = true then some (x.1,y.1,z.1,z.2) else none
set_option maxHeartbeats 4000000 in
set_option maxRecDepth 100000 in
theorem zbn.good (s : ByteArray) (a r v : Nat) (d : Bs) (w : World) (hs : s.size < 4611686018427387904) (h : zfT (ofB s) = some (a,r,v,d)) :
  Calls Try.prog 33 #[.string s] w fun e w' => e = .returned (.agg #[.int .i64 a,.int .i64 r,.int .i64 v,.string (toB d)]) ∧ Below w.heap.size w w' := by
 unfold zfT at h
 obtain ⟨⟨a',s1⟩,h1,h⟩ := Option.bind_eq_some_iff.1 h
 obtain ⟨⟨r',s2⟩,h2,h⟩ := Option.bind_eq_some_iff.1 h
 obtain ⟨⟨v',s3⟩,h3,h⟩ := Option.bind_eq_some_iff.1 h
 simp only at h2 h3 h
 split at h
 ·rename_i h0
  obtain ⟨h4,h5⟩ := h0
  obtain ⟨rfl,rfl,rfl,rfl⟩ : a' = a ∧ r' = r ∧ v' = v ∧ s3 = d := by
   have := Option.some.inj h
   simp only [Prod.mk.injEq] at this
   exact this
  have l1 := zbs h1
  rw [zah] at l1
  have HS1 : zc ((toB s1).size < 4611686018427387904) := ⟨by rw [zV];omega⟩
  have l2 := zbs h2
  have HS2 : zc ((toB s2).size < 4611686018427387904) := ⟨by rw [zV];omega⟩
  have HS := zc.mk hs
  have H1 := zc.mk h1
  have H2 : zc (zas (ofB (toB s1)) = some (r',s2)) := ⟨by rw [zae];exact h2⟩
  have H3 : zc (zas (ofB (toB s2)) = some (v',s3)) := ⟨by rw [zae];exact h3⟩
  have H4 := zc.mk h4
  have H5 := zc.mk h5
  clear hs h1 h2 h3 h4 h5 h l1 l2
  go_enter Try.func33,Try.ntmps33
  go_wp2_with (first
   | ((with_reducible refine zu (N := 1) rfl ?_);refine zr ?hg (N := 1) ?hd (cs := #[.string s]) (t := 9) ?hr ?_;(case hd => rfl);(case hg => rfl);(case hr => first | (go_simp;done) | (go_simp;rfl));intro g1 hg w1 hbox hb;have G1 : zc (w.heap.size ≤ g1) := ⟨by rw [hg];exact Nat.le_refl _⟩;have B1 := zc.mk hbox;have HB1 := zc.mk hb;clear hb hbox hg)
   | ((with_reducible refine zu (N := 2) rfl ?_);refine zr ?hg (N := 2) ?hd (cs := #[.int .i64 0,.int .i64 0,.int .i64 0,.string ⟨#[]⟩]) (t := 42) ?hr ?_;(case hd => rfl);(case hg => rfl);(case hr => first | (go_simp;done) | (go_simp;rfl));intro g2 hg w2 hbox hb;have G2 : zc (w.heap.size ≤ g2) := ⟨by rw [hg];exact zl HB1.out⟩;have N2 : zc (g2 ≠ g1) := ⟨by rw [hg];exact Nat.ne_of_gt (zP B1.out)⟩;have B2 := zc.mk hbox;have B1b := zc.mk (zh B1.out hb);have HB2 := zc.mk (zj HB1.out hb);clear hb hbox hg B1)
   | (go_at_call 34;(with_reducible refine (zaD.goodU s g1 _ _ _ _ HS.out H1.out B1b.out).mono ?_);rintro e w3 ⟨rfl,hu,hk,hl⟩;have C1 := zc.mk hu;have C2 := zc.mk (hk g2 _ _ N2.out B2.out);have HB3 := zc.mk (hl _ HB2.out G1.out);clear hu hk hl B1b H1)
   | (go_at_call 34;(with_reducible refine (zaD.goodU (toB s1) g1 _ _ _ _ HS1.out H2.out (ze C1.out _)).mono ?_);rintro e w4 ⟨rfl,hu,hk,hl⟩;have N3 : zc (w3.heap.size ≠ g1) := ⟨Nat.ne_of_gt (zP C1.out)⟩;have N4 : zc (w3.heap.size ≠ g2) := ⟨Nat.ne_of_gt (zP C2.out)⟩;have D1 := zc.mk hu;have D2 := zc.mk (hk g2 _ _ N2.out (ze C2.out _));have D3 := zc.mk (hk _ _ _ N3.out (zc3 _ _));have HB4 := zc.mk (hl _ (zA HB3.out _) G1.out);have GL3 := zc.mk (zl HB3.out);clear hu hk hl C1 C2 H2;have hy1 := (zb D3.out 1).trans rfl;have fy1 := za D3.out 1)
   | (go_at_call 34;(with_reducible refine (zaD.goodU (toB s2) g1 _ _ _ _ HS2.out H3.out (zk D1.out (Ne.symm N3.out) _)).mono ?_);rintro e w5 ⟨rfl,hu,hk,hl⟩;have E1 := zc.mk hu;have E2 := zc.mk (hk g2 _ _ N2.out (zk D2.out (Ne.symm N4.out) _));have E3 := zc.mk (hk _ _ _ N3.out (zi D3.out 1 (.int .i64 r') rfl));have HB5 := zc.mk (hl _ (zg HB4.out GL3.out) G1.out);clear hu hk hl D1 D2 D3 H3;have hz0 := (zb E3.out 0).trans rfl;have fz0 := za E3.out 0;have hw0 := (zb E2.out 0).trans rfl;have fw0 := za E2.out 0;have hz1 := (zb E3.out 1).trans rfl;have fz1 := za E3.out 1;have hw1 := (zb E2.out 1).trans rfl;have fw1 := za E2.out 1;have hz2 := (zb E3.out 2).trans rfl;have fz2 := za E3.out 2;have hw2 := (zb E2.out 2).trans rfl;have fw2 := za E2.out 2;have hz3 := (zb E3.out 3).trans rfl;have fz3 := za E3.out 3;have hw3 := (zb E2.out 3).trans rfl;have fw3 := za E2.out 3;have hx := (zb E1.out 0).trans rfl;have fx := za E1.out 0;have n31 := N3.out;have n13 := Ne.symm N3.out;have n32 := N4.out;have n23 := Ne.symm N4.out)
   | (go_at_call 35;(with_reducible refine (zbL.calls _ _ _ _ _ (zb8 _ _ _)).mono ?_);rintro e w6 ⟨rfl,⟨n6,rfl⟩⟩;rw [H4.out])
   | (go_at_call 36;(with_reducible refine (za6.calls _ _ _ (zcD _)).mono ?_);rintro e w6 ⟨rfl,⟨n7,rfl⟩⟩;rw [H5.out])
   | (go_at_call 26;(with_reducible refine (zaJ.yes _).mono ?_);rintro e w1 ⟨rfl,rfl⟩))
  refine bodyPost_ret (results_cell_row rfl _ _ g2 42 #[.int .i64 a',.int .i64 r',.int .i64 v',.string (toB s3)] (0,0) _ rfl (by
   refine zi (cs := #[.int .i64 a',.int .i64 r',.int .i64 v',.string ⟨#[]⟩]) ?_ 3 _ rfl
   refine zi (cs := #[.int .i64 a',.int .i64 r',.int .i64 0,.string ⟨#[]⟩]) ?_ 2 _ rfl
   refine zi (cs := #[.int .i64 a',.int .i64 0,.int .i64 0,.string ⟨#[]⟩]) ?_ 1 _ rfl
   refine zi (cs := #[.int .i64 0,.int .i64 0,.int .i64 0,.string ⟨#[]⟩]) ?_ 0 _ rfl
   exact zd (zk (zk E2.out (Ne.symm N4.out) _) (Ne.symm N4.out) _) _) Try.underlying42 rfl (by kernel_rfl)) rfl ?_
  exact ⟨rfl,(zg (zg (zg (zg (zm (zg (zg HB5.out GL3.out) GL3.out) _) G2.out) G2.out) G2.out) G2.out)⟩
 ·cases h
set_option maxHeartbeats 4000000 in
set_option maxRecDepth 100000 in
theorem zbn.bad (s : ByteArray) (w : World) (hs : s.size < 4611686018427387904) (h : zfT (ofB s) = none) :
  Calls Try.prog 33 #[.string s] w fun e w' => e = .panicked zcE ∧ Below w.heap.size w w' := by
 unfold zfT at h
 have HS := zc.mk hs
 rcases h1 : zas (ofB s) with _ | ⟨a',s1⟩
 ·have H1 : zc (zas (ofB s) = none) := ⟨h1⟩
  clear h hs h1
  go_enter Try.func33,Try.ntmps33
  go_wp2_with (first
   | ((with_reducible refine zu (N := 1) rfl ?_);refine zr ?hg (N := 1) ?hd (cs := #[.string s]) (t := 9) ?hr ?_;(case hd => rfl);(case hg => rfl);(case hr => first | (go_simp;done) | (go_simp;rfl));intro g1 hg w1 hbox hb;have G1 : zc (w.heap.size ≤ g1) := ⟨by rw [hg];exact Nat.le_refl _⟩;have B1 := zc.mk hbox;have HB1 := zc.mk hb;clear hb hbox hg)
   | ((with_reducible refine zu (N := 2) rfl ?_);refine zr ?hg (N := 2) ?hd (cs := #[.int .i64 0,.int .i64 0,.int .i64 0,.string ⟨#[]⟩]) (t := 42) ?hr ?_;(case hd => rfl);(case hg => rfl);(case hr => first | (go_simp;done) | (go_simp;rfl));intro g2 hg w2 hbox hb;have G2 : zc (w.heap.size ≤ g2) := ⟨by rw [hg];exact zl HB1.out⟩;have N2 : zc (g2 ≠ g1) := ⟨by rw [hg];exact Nat.ne_of_gt (zP B1.out)⟩;have B2 := zc.mk hbox;have B1b := zc.mk (zh B1.out hb);have HB2 := zc.mk (zj HB1.out hb);clear hb hbox hg B1)
   | (go_at_call 34;(with_reducible refine (zaD.badU s g1 _ _ HS.out H1.out B1b.out).mono ?_);rintro e wb ⟨rfl,hl⟩;have HX := zc.mk (hl _ HB2.out);clear hl))
  exact ⟨rfl,rfl,HX.out⟩
 rw [h1,Option.bind_some] at h
 simp only at h
 have H1 := zc.mk h1
 have l1 := zbs h1
 rw [zah] at l1
 have HS1 : zc ((toB s1).size < 4611686018427387904) := ⟨by rw [zV];omega⟩
 rcases h2 : zas s1 with _ | ⟨r',s2⟩
 ·have H2 : zc (zas (ofB (toB s1)) = none) := ⟨by rw [zae];exact h2⟩
  clear h hs h1 h2 l1
  go_enter Try.func33,Try.ntmps33
  go_wp2_with (first
   | ((with_reducible refine zu (N := 1) rfl ?_);refine zr ?hg (N := 1) ?hd (cs := #[.string s]) (t := 9) ?hr ?_;(case hd => rfl);(case hg => rfl);(case hr => first | (go_simp;done) | (go_simp;rfl));intro g1 hg w1 hbox hb;have G1 : zc (w.heap.size ≤ g1) := ⟨by rw [hg];exact Nat.le_refl _⟩;have B1 := zc.mk hbox;have HB1 := zc.mk hb;clear hb hbox hg)
   | ((with_reducible refine zu (N := 2) rfl ?_);refine zr ?hg (N := 2) ?hd (cs := #[.int .i64 0,.int .i64 0,.int .i64 0,.string ⟨#[]⟩]) (t := 42) ?hr ?_;(case hd => rfl);(case hg => rfl);(case hr => first | (go_simp;done) | (go_simp;rfl));intro g2 hg w2 hbox hb;have G2 : zc (w.heap.size ≤ g2) := ⟨by rw [hg];exact zl HB1.out⟩;have N2 : zc (g2 ≠ g1) := ⟨by rw [hg];exact Nat.ne_of_gt (zP B1.out)⟩;have B2 := zc.mk hbox;have B1b := zc.mk (zh B1.out hb);have HB2 := zc.mk (zj HB1.out hb);clear hb hbox hg B1)
   | (go_at_call 34;(with_reducible refine (zaD.goodU s g1 _ _ _ _ HS.out H1.out B1b.out).mono ?_);rintro e w3 ⟨rfl,hu,hk,hl⟩;have C1 := zc.mk hu;have C2 := zc.mk (hk g2 _ _ N2.out B2.out);have HB3 := zc.mk (hl _ HB2.out G1.out);clear hu hk hl B1b H1)
   | (go_at_call 34;(with_reducible refine (zaD.badU (toB s1) g1 _ _ HS1.out H2.out (ze C1.out _)).mono ?_);rintro e wb ⟨rfl,hl⟩;have HX := zc.mk (hl _ (zA HB3.out _));clear hl))
  exact ⟨rfl,rfl,HX.out⟩
 rw [h2,Option.bind_some] at h
 simp only at h
 have H2 : zc (zas (ofB (toB s1)) = some (r',s2)) := ⟨by rw [zae];exact h2⟩
 have l2 := zbs h2
 have HS2 : zc ((toB s2).size < 4611686018427387904) := ⟨by rw [zV];omega⟩
 rcases h3 : zas s2 with _ | ⟨v',s3⟩
 ·have H3 : zc (zas (ofB (toB s2)) = none) := ⟨by rw [zae];exact h3⟩
  clear h hs h1 h2 h3 l1 l2
  go_enter Try.func33,Try.ntmps33
  go_wp2_with (first
   | ((with_reducible refine zu (N := 1) rfl ?_);refine zr ?hg (N := 1) ?hd (cs := #[.string s]) (t := 9) ?hr ?_;(case hd => rfl);(case hg => rfl);(case hr => first | (go_simp;done) | (go_simp;rfl));intro g1 hg w1 hbox hb;have G1 : zc (w.heap.size ≤ g1) := ⟨by rw [hg];exact Nat.le_refl _⟩;have B1 := zc.mk hbox;have HB1 := zc.mk hb;clear hb hbox hg)
   | ((with_reducible refine zu (N := 2) rfl ?_);refine zr ?hg (N := 2) ?hd (cs := #[.int .i64 0,.int .i64 0,.int .i64 0,.string ⟨#[]⟩]) (t := 42) ?hr ?_;(case hd => rfl);(case hg => rfl);(case hr => first | (go_simp;done) | (go_simp;rfl));intro g2 hg w2 hbox hb;have G2 : zc (w.heap.size ≤ g2) := ⟨by rw [hg];exact zl HB1.out⟩;have N2 : zc (g2 ≠ g1) := ⟨by rw [hg];exact Nat.ne_of_gt (zP B1.out)⟩;have B2 := zc.mk hbox;have B1b := zc.mk (zh B1.out hb);have HB2 := zc.mk (zj HB1.out hb);clear hb hbox hg B1)
   | (go_at_call 34;(with_reducible refine (zaD.goodU s g1 _ _ _ _ HS.out H1.out B1b.out).mono ?_);rintro e w3 ⟨rfl,hu,hk,hl⟩;have C1 := zc.mk hu;have C2 := zc.mk (hk g2 _ _ N2.out B2.out);have HB3 := zc.mk (hl _ HB2.out G1.out);clear hu hk hl B1b H1)
   | (go_at_call 34;(with_reducible refine (zaD.goodU (toB s1) g1 _ _ _ _ HS1.out H2.out (ze C1.out _)).mono ?_);rintro e w4 ⟨rfl,hu,hk,hl⟩;have N3 : zc (w3.heap.size ≠ g1) := ⟨Nat.ne_of_gt (zP C1.out)⟩;have N4 : zc (w3.heap.size ≠ g2) := ⟨Nat.ne_of_gt (zP C2.out)⟩;have D1 := zc.mk hu;have D2 := zc.mk (hk g2 _ _ N2.out (ze C2.out _));have D3 := zc.mk (hk _ _ _ N3.out (zc3 _ _));have HB4 := zc.mk (hl _ (zA HB3.out _) G1.out);have GL3 := zc.mk (zl HB3.out);clear hu hk hl C1 C2 H2;have hy1 := (zb D3.out 1).trans rfl;have fy1 := za D3.out 1)
   | (go_at_call 34;(with_reducible refine (zaD.badU (toB s2) g1 _ _ HS2.out H3.out (zk D1.out (Ne.symm N3.out) _)).mono ?_);rintro e wb ⟨rfl,hl⟩;have HX := zc.mk (hl _ (zg HB4.out (zl HB3.out)));clear hl))
  exact ⟨rfl,rfl,HX.out⟩
 rw [h3,Option.bind_some] at h
 simp only at h
 have H3 : zc (zas (ofB (toB s2)) = some (v',s3)) := ⟨by rw [zae];exact h3⟩
 split at h
 ·cases h
 ·rename_i h0
  clear h hs h1 h2 h3 l1 l2
  rcases h4 : zbK a' r' (toB s3) with _ | _
  ·have H4 := zc.mk h4
   clear h0 h4
   go_enter Try.func33,Try.ntmps33
   go_wp2_with (first
    | ((with_reducible refine zu (N := 1) rfl ?_);refine zr ?hg (N := 1) ?hd (cs := #[.string s]) (t := 9) ?hr ?_;(case hd => rfl);(case hg => rfl);(case hr => first | (go_simp;done) | (go_simp;rfl));intro g1 hg w1 hbox hb;have G1 : zc (w.heap.size ≤ g1) := ⟨by rw [hg];exact Nat.le_refl _⟩;have B1 := zc.mk hbox;have HB1 := zc.mk hb;clear hb hbox hg)
    | ((with_reducible refine zu (N := 2) rfl ?_);refine zr ?hg (N := 2) ?hd (cs := #[.int .i64 0,.int .i64 0,.int .i64 0,.string ⟨#[]⟩]) (t := 42) ?hr ?_;(case hd => rfl);(case hg => rfl);(case hr => first | (go_simp;done) | (go_simp;rfl));intro g2 hg w2 hbox hb;have G2 : zc (w.heap.size ≤ g2) := ⟨by rw [hg];exact zl HB1.out⟩;have N2 : zc (g2 ≠ g1) := ⟨by rw [hg];exact Nat.ne_of_gt (zP B1.out)⟩;have B2 := zc.mk hbox;have B1b := zc.mk (zh B1.out hb);have HB2 := zc.mk (zj HB1.out hb);clear hb hbox hg B1)
    | (go_at_call 34;(with_reducible refine (zaD.goodU s g1 _ _ _ _ HS.out H1.out B1b.out).mono ?_);rintro e w3 ⟨rfl,hu,hk,hl⟩;have C1 := zc.mk hu;have C2 := zc.mk (hk g2 _ _ N2.out B2.out);have HB3 := zc.mk (hl _ HB2.out G1.out);clear hu hk hl B1b H1)
    | (go_at_call 34;(with_reducible refine (zaD.goodU (toB s1) g1 _ _ _ _ HS1.out H2.out (ze C1.out _)).mono ?_);rintro e w4 ⟨rfl,hu,hk,hl⟩;have N3 : zc (w3.heap.size ≠ g1) := ⟨Nat.ne_of_gt (zP C1.out)⟩;have N4 : zc (w3.heap.size ≠ g2) := ⟨Nat.ne_of_gt (zP C2.out)⟩;have D1 := zc.mk hu;have D2 := zc.mk (hk g2 _ _ N2.out (ze C2.out _));have D3 := zc.mk (hk _ _ _ N3.out (zc3 _ _));have HB4 := zc.mk (hl _ (zA HB3.out _) G1.out);have GL3 := zc.mk (zl HB3.out);clear hu hk hl C1 C2 H2;have hy1 := (zb D3.out 1).trans rfl;have fy1 := za D3.out 1)
    | (go_at_call 34;(with_reducible refine (zaD.goodU (toB s2) g1 _ _ _ _ HS2.out H3.out (zk D1.out (Ne.symm N3.out) _)).mono ?_);rintro e w5 ⟨rfl,hu,hk,hl⟩;have E1 := zc.mk hu;have E2 := zc.mk (hk g2 _ _ N2.out (zk D2.out (Ne.symm N4.out) _));have E3 := zc.mk (hk _ _ _ N3.out (zi D3.out 1 (.int .i64 r') rfl));have HB5 := zc.mk (hl _ (zg HB4.out GL3.out) G1.out);clear hu hk hl D1 D2 D3 H3;have hz0 := (zb E3.out 0).trans rfl;have fz0 := za E3.out 0;have hw0 := (zb E2.out 0).trans rfl;have fw0 := za E2.out 0;have hz1 := (zb E3.out 1).trans rfl;have fz1 := za E3.out 1;have hw1 := (zb E2.out 1).trans rfl;have fw1 := za E2.out 1;have hz2 := (zb E3.out 2).trans rfl;have fz2 := za E3.out 2;have hw2 := (zb E2.out 2).trans rfl;have fw2 := za E2.out 2;have hz3 := (zb E3.out 3).trans rfl;have fz3 := za E3.out 3;have hw3 := (zb E2.out 3).trans rfl;have fw3 := za E2.out 3;have hx := (zb E1.out 0).trans rfl;have fx := za E1.out 0;have n31 := N3.out;have n13 := Ne.symm N3.out;have n32 := N4.out;have n23 := Ne.symm N4.out)
    | (go_at_call 35;(with_reducible refine (zbL.calls _ _ _ _ _ (zb8 _ _ _)).mono ?_);rintro e w6 ⟨rfl,⟨n6,rfl⟩⟩;rw [H4.out])
    | (go_at_call 26;(with_reducible refine (zaJ.no _).mono ?_);rintro e w1 ⟨rfl,rfl⟩))
   exact ⟨rfl,rfl,by repeat (first | exact (zg (zg HB5.out GL3.out) GL3.out) | apply zm)⟩
  ·have H4 := zc.mk h4
   rcases h5 : zcZ v' with _ | _
   ·have H5 := zc.mk h5
    clear h0 h4 h5
    go_enter Try.func33,Try.ntmps33
    go_wp2_with (first
     | ((with_reducible refine zu (N := 1) rfl ?_);refine zr ?hg (N := 1) ?hd (cs := #[.string s]) (t := 9) ?hr ?_;(case hd => rfl);(case hg => rfl);(case hr => first | (go_simp;done) | (go_simp;rfl));intro g1 hg w1 hbox hb;have G1 : zc (w.heap.size ≤ g1) := ⟨by rw [hg];exact Nat.le_refl _⟩;have B1 := zc.mk hbox;have HB1 := zc.mk hb;clear hb hbox hg)
     | ((with_reducible refine zu (N := 2) rfl ?_);refine zr ?hg (N := 2) ?hd (cs := #[.int .i64 0,.int .i64 0,.int .i64 0,.string ⟨#[]⟩]) (t := 42) ?hr ?_;(case hd => rfl);(case hg => rfl);(case hr => first | (go_simp;done) | (go_simp;rfl));intro g2 hg w2 hbox hb;have G2 : zc (w.heap.size ≤ g2) := ⟨by rw [hg];exact zl HB1.out⟩;have N2 : zc (g2 ≠ g1) := ⟨by rw [hg];exact Nat.ne_of_gt (zP B1.out)⟩;have B2 := zc.mk hbox;have B1b := zc.mk (zh B1.out hb);have HB2 := zc.mk (zj HB1.out hb);clear hb hbox hg B1)
     | (go_at_call 34;(with_reducible refine (zaD.goodU s g1 _ _ _ _ HS.out H1.out B1b.out).mono ?_);rintro e w3 ⟨rfl,hu,hk,hl⟩;have C1 := zc.mk hu;have C2 := zc.mk (hk g2 _ _ N2.out B2.out);have HB3 := zc.mk (hl _ HB2.out G1.out);clear hu hk hl B1b H1)
     | (go_at_call 34;(with_reducible refine (zaD.goodU (toB s1) g1 _ _ _ _ HS1.out H2.out (ze C1.out _)).mono ?_);rintro e w4 ⟨rfl,hu,hk,hl⟩;have N3 : zc (w3.heap.size ≠ g1) := ⟨Nat.ne_of_gt (zP C1.out)⟩;have N4 : zc (w3.heap.size ≠ g2) := ⟨Nat.ne_of_gt (zP C2.out)⟩;have D1 := zc.mk hu;have D2 := zc.mk (hk g2 _ _ N2.out (ze C2.out _));have D3 := zc.mk (hk _ _ _ N3.out (zc3 _ _));have HB4 := zc.mk (hl _ (zA HB3.out _) G1.out);have GL3 := zc.mk (zl HB3.out);clear hu hk hl C1 C2 H2;have hy1 := (zb D3.out 1).trans rfl;have fy1 := za D3.out 1)
     | (go_at_call 34;(with_reducible refine (zaD.goodU (toB s2) g1 _ _ _ _ HS2.out H3.out (zk D1.out (Ne.symm N3.out) _)).mono ?_);rintro e w5 ⟨rfl,hu,hk,hl⟩;have E1 := zc.mk hu;have E2 := zc.mk (hk g2 _ _ N2.out (zk D2.out (Ne.symm N4.out) _));have E3 := zc.mk (hk _ _ _ N3.out (zi D3.out 1 (.int .i64 r') rfl));have HB5 := zc.mk (hl _ (zg HB4.out GL3.out) G1.out);clear hu hk hl D1 D2 D3 H3;have hz0 := (zb E3.out 0).trans rfl;have fz0 := za E3.out 0;have hw0 := (zb E2.out 0).trans rfl;have fw0 := za E2.out 0;have hz1 := (zb E3.out 1).trans rfl;have fz1 := za E3.out 1;have hw1 := (zb E2.out 1).trans rfl;have fw1 := za E2.out 1;have hz2 := (zb E3.out 2).trans rfl;have fz2 := za E3.out 2;have hw2 := (zb E2.out 2).trans rfl;have fw2 := za E2.out 2;have hz3 := (zb E3.out 3).trans rfl;have fz3 := za E3.out 3;have hw3 := (zb E2.out 3).trans rfl;have fw3 := za E2.out 3;have hx := (zb E1.out 0).trans rfl;have fx := za E1.out 0;have n31 := N3.out;have n13 := Ne.symm N3.out;have n32 := N4.out;have n23 := Ne.symm N4.out)
     | (go_at_call 35;(with_reducible refine (zbL.calls _ _ _ _ _ (zb8 _ _ _)).mono ?_);rintro e w6 ⟨rfl,⟨n6,rfl⟩⟩;rw [H4.out])
     | (go_at_call 36;(with_reducible refine (za6.calls _ _ _ (zcD _)).mono ?_);rintro e w6 ⟨rfl,⟨n7,rfl⟩⟩;rw [H5.out])
     | (go_at_call 26;(with_reducible refine (zaJ.no _).mono ?_);rintro e w1 ⟨rfl,rfl⟩))
    exact ⟨rfl,rfl,by repeat (first | exact (zg (zg HB5.out GL3.out) GL3.out) | apply zm)⟩
   ·exact absurd ⟨h4,h5⟩ h0
theorem zaj.assert (w : World) : (Instr.typeAssert (.iface 97 (.agg #[])) 20 97 true).run Try.prog w = .ok (.tuple #[.agg #[],.bool true]) w := by kernel_rfl
set_option maxHeartbeats 4000000 in
set_option maxRecDepth 100000 in
theorem zaj.catch (g6 g7 : Nat) (older : List PanicEntry) (c7 : Value) (w : World) (h6 : w.heap[g6]? = some (.cells #[.int .i64 0,.int .i64 0,.int .i64 0,.string ⟨#[]⟩] 42 (0,0))) (h7 : w.heap[g7]? = some (.cells #[c7] 29 (0,0))) (hne : g6 ≠ g7) :
  CallsD Try.prog 67 #[.pointer (some ⟨g6,0,none⟩),.pointer (some ⟨g7,0,none⟩)] (.panicking ({ v := zca,recovered := false } :: older)) w fun e u' w' =>
   e = .returned (.tuple #[]) ∧ u' = .panicking ({ v := zca,recovered := true } :: older) ∧ w'.heap[g6]? = some (.cells #[.int .i64 0,.int .i64 0,.int .i64 0,.string ⟨#[]⟩] 42 (0,0)) ∧ w'.heap[g7]? = some (.cells #[.int .i64 3] 29 (0,0)) ∧ ∀ W0 : World,Below W0.heap.size W0 w → W0.heap.size ≤ g6 → W0.heap.size ≤ g7 → Below W0.heap.size W0 w' := by
 have ha := zaj.assert
 have hne' := Ne.symm hne
 refine callsD_of_wpS Try.func67 rfl fun c₀ cs hu => ?_
 apply wpS_seq
 apply wpS_region
 simp [wpOpsS,go_sem,recoverD,hu,Try.ntmps67,Exit.thenS,zca]
 show Code.wpS _ _ _ ⟨#[.pointer (some ⟨g6,0,none⟩),.pointer (some ⟨g7,0,none⟩),zca,undef,undef,undef,zca,undef,undef,undef,undef,undef,undef,undef,undef,undef,undef,undef],[]⟩ _ _
 unfold zca
 refine wpS_of_wp ?_
 go_wp2_with (first
  | ((with_reducible refine zu (N := 3) rfl ?_);refine zr ?hg (N := 3) ?hd (cs := #[]) (t := 97) ?hr ?_;(case hd => rfl);(case hg => rfl);(case hr => first | (go_simp;done) | (go_simp;rfl));intro g3 hg w1 hbox hb;have B6 := zc.mk (zh h6 hb);have B7 := zc.mk (zh h7 hb);have HB1 := zc.mk hb;clear hb hbox hg)
  | ((with_reducible refine zu (N := 5) rfl ?_);refine zr ?hg (N := 5) ?hd (cs := #[.int .i64 0,.int .i64 0,.int .i64 0,.string ⟨#[]⟩]) (t := 42) ?hr ?_;(case hd => rfl);(case hg => rfl);(case hr => first | (go_simp;done) | (go_simp;rfl));intro g5 hg w2 hbox hb;have C6 := zc.mk (zh B6.out hb);have C7 := zc.mk (zh B7.out hb);have HB2 := zc.mk (zj HB1.out hb);have B5 := zc.mk hbox;clear hb hbox hg;have ca0 := (zb C6.out 0).trans rfl;have fca0 := za C6.out 0;have cd0 := (zb B5.out 0).trans rfl;have fcd0 := za B5.out 0;have ca1 := (zb C6.out 1).trans rfl;have fca1 := za C6.out 1;have cd1 := (zb B5.out 1).trans rfl;have fcd1 := za B5.out 1;have ca2 := (zb C6.out 2).trans rfl;have fca2 := za C6.out 2;have cd2 := (zb B5.out 2).trans rfl;have fcd2 := za B5.out 2;have ca3 := (zb C6.out 3).trans rfl;have fca3 := za C6.out 3;have cd3 := (zb B5.out 3).trans rfl;have fcd3 := za B5.out 3;have cb0 := (zb C7.out 0).trans rfl;have fcb0 := za C7.out 0))
 have x6 : (((((w2.setCell ⟨g6,0,none⟩ (.int .i64 0)).setCell ⟨g6,1,none⟩ (.int .i64 0)).setCell ⟨g6,2,none⟩ (.int .i64 0)).setCell ⟨g6,3,none⟩ (.string ⟨#[]⟩)).setCell ⟨g7,0,none⟩ (.int .i64 3)).heap[g6]? = some (.cells #[.int .i64 0,.int .i64 0,.int .i64 0,.string ⟨#[]⟩] 42 (0,0)) := zk (zi (zi (zi (zi C6.out 0 _ rfl) 1 _ rfl) 2 _ rfl) 3 _ rfl) hne _
 have x7 : (((((w2.setCell ⟨g6,0,none⟩ (.int .i64 0)).setCell ⟨g6,1,none⟩ (.int .i64 0)).setCell ⟨g6,2,none⟩ (.int .i64 0)).setCell ⟨g6,3,none⟩ (.string ⟨#[]⟩)).setCell ⟨g7,0,none⟩ (.int .i64 3)).heap[g7]? = some (.cells #[.int .i64 3] 29 (0,0)) := zi (zk (zk (zk (zk C7.out hne' _) hne' _) hne' _) hne' _) 0 _ rfl
 have x8 : ∀ W0 : World,Below W0.heap.size W0 w → W0.heap.size ≤ g6 → W0.heap.size ≤ g7 → Below W0.heap.size W0 (((((w2.setCell ⟨g6,0,none⟩ (.int .i64 0)).setCell ⟨g6,1,none⟩ (.int .i64 0)).setCell ⟨g6,2,none⟩ (.int .i64 0)).setCell ⟨g6,3,none⟩ (.string ⟨#[]⟩)).setCell ⟨g7,0,none⟩ (.int .i64 3)) := fun W0 h k6 k7 => zg (zg (zg (zg (zg (zj h HB2.out) k6) k6) k6) k6) k7
 generalize (((((w2.setCell ⟨g6,0,none⟩ (.int .i64 0)).setCell ⟨g6,1,none⟩ (.int .i64 0)).setCell ⟨g6,2,none⟩ (.int .i64 0)).setCell ⟨g6,3,none⟩ (.string ⟨#[]⟩)).setCell ⟨g7,0,none⟩ (.int .i64 3)) = wE at x6 x7 x8 ⊢
 simp [bodyPostS,results,Try.results67]
 exact ⟨x6,x7,x8⟩
set_option maxHeartbeats 4000000 in
set_option maxRecDepth 100000 in
theorem zaj.idle (g6 g7 : Nat) (w : World) :
  CallsD Try.prog 67 #[.pointer (some ⟨g6,0,none⟩),.pointer (some ⟨g7,0,none⟩)] .returning w fun e u' w' => e = .returned (.tuple #[]) ∧ u' = .returning ∧ w' = w := by
 refine callsD_of_wpS Try.func67 rfl fun c₀ cs hu => ?_
 apply wpS_seq
 apply wpS_region
 simp [wpOpsS,go_sem,recoverD,hu,Try.ntmps67,Exit.thenS]
 show Code.wpS _ _ _ ⟨#[.pointer (some ⟨g6,0,none⟩),.pointer (some ⟨g7,0,none⟩),.nilIface,undef,undef,undef,.nilIface,undef,undef,undef,undef,undef,undef,undef,undef,undef,undef,undef],[]⟩ _ _
 refine wpS_of_wp ?_
 go_wp2
 cases c₀
 simp_all [bodyPostS,results,Try.results67]
set_option maxHeartbeats 4000000 in
set_option maxRecDepth 100000 in
theorem zaj.good (s rest : ByteArray) (a r v : Nat) (d : Bs) (w : World) (hs : rest.size < 4611686018427387904) (hcut : zN.f s ⟨#[121]⟩ = some (rest,true)) (h : zfT (ofB rest) = some (a,r,v,d)) :
  Calls Try.prog 32 #[.string s,.string ⟨#[121]⟩,.func (.func 33) #[] #[]] w fun e w' => e = .returned (.tuple #[.agg #[.int .i64 a,.int .i64 r,.int .i64 v,.string (toB d)],.int .i64 0]) ∧ Below w.heap.size w w' := by
 have hmf : ∀ (fn : Fn) (first cap : Array Value) (w : World),(Instr.makeFunc fn first cap).run Try.prog w = .ok (.func fn first cap) w := fun _ _ _ _ => rfl
 have HC := zc.mk hcut
 have HS := zc.mk hs
 have HL := zc.mk h
 clear hcut hs h
 go_enter_defers Try.func32,Try.ntmps32
 go_wp2_with (first
  | ((with_reducible refine zu (N := 6) rfl ?_);refine zr ?hg (N := 6) ?hd (cs := #[.int .i64 0,.int .i64 0,.int .i64 0,.string ⟨#[]⟩]) (t := 42) ?hr ?_;(case hd => rfl);(case hg => rfl);(case hr => first | (go_simp;done) | (go_simp;rfl));intro g6 hg w1 hbox hb;have G6 : zc (w.heap.size ≤ g6) := ⟨by rw [hg];exact Nat.le_refl _⟩;have B6 := zc.mk hbox;have HB1 := zc.mk hb;clear hb hbox hg)
  | ((with_reducible refine zu (N := 7) rfl ?_);refine zr ?hg (N := 7) ?hd (cs := #[.int .i64 0]) (t := 29) ?hr ?_;(case hd => rfl);(case hg => rfl);(case hr => first | (go_simp;done) | (go_simp;rfl));intro g7 hg w2 hbox hb;have G7 : zc (w.heap.size ≤ g7) := ⟨by rw [hg];exact zl HB1.out⟩;have N67 : zc (g6 ≠ g7) := ⟨by rw [hg];exact Nat.ne_of_lt (zP B6.out)⟩;have C7 := zc.mk hbox;have C6 := zc.mk (zh B6.out hb);have HB2 := zc.mk (zj HB1.out hb);clear hb hbox hg B6)
  | (go_at_call 55;(with_reducible refine (zN.calls _ _ _ _ _ HC.out).mono ?_);rintro e w3 ⟨rfl,⟨n3,rfl⟩⟩)
  | (go_at_call 26;(with_reducible refine (zaJ.yes _).mono ?_);rintro e w1 ⟨rfl,rfl⟩)
  | (go_at_call 33;(with_reducible refine (zbn.good rest a r v d _ HS.out HL.out).mono ?_);rintro e w4 ⟨rfl,hb⟩;have D6 := zc.mk (zh (zd C6.out _) hb);have D7 := zc.mk (zh (zd C7.out _) hb);have HB4 := zc.mk (zj (zm HB2.out _) hb);clear hb;have ca0 := (zb D6.out 0).trans rfl;have fca0 := za D6.out 0;have ca1 := (zb D6.out 1).trans rfl;have fca1 := za D6.out 1;have ca2 := (zb D6.out 2).trans rfl;have fca2 := za D6.out 2;have ca3 := (zb D6.out 3).trans rfl;have fca3 := za D6.out 3;have cb0 := (zb D7.out 0).trans rfl;have fcb0 := za D7.out 0;have n67 := N67.out;have n76 := Ne.symm N67.out))
 have x6 : (((((w4.setCell ⟨g6,0,none⟩ (.int .i64 a)).setCell ⟨g6,1,none⟩ (.int .i64 r)).setCell ⟨g6,2,none⟩ (.int .i64 v)).setCell ⟨g6,3,none⟩ (.string (toB d))).setCell ⟨g7,0,none⟩ (.int .i64 0)).heap[g6]? = some (.cells #[.int .i64 a,.int .i64 r,.int .i64 v,.string (toB d)] 42 (0,0)) := zk (zi (zi (zi (zi D6.out 0 _ rfl) 1 _ rfl) 2 _ rfl) 3 _ rfl) N67.out _
 have x7 : (((((w4.setCell ⟨g6,0,none⟩ (.int .i64 a)).setCell ⟨g6,1,none⟩ (.int .i64 r)).setCell ⟨g6,2,none⟩ (.int .i64 v)).setCell ⟨g6,3,none⟩ (.string (toB d))).setCell ⟨g7,0,none⟩ (.int .i64 0)).heap[g7]? = some (.cells #[.int .i64 0] 29 (0,0)) := zi (zk (zk (zk (zk D7.out (Ne.symm N67.out) _) (Ne.symm N67.out) _) (Ne.symm N67.out) _) (Ne.symm N67.out) _) 0 _ rfl
 have x8 : Below w.heap.size w (((((w4.setCell ⟨g6,0,none⟩ (.int .i64 a)).setCell ⟨g6,1,none⟩ (.int .i64 r)).setCell ⟨g6,2,none⟩ (.int .i64 v)).setCell ⟨g6,3,none⟩ (.string (toB d))).setCell ⟨g7,0,none⟩ (.int .i64 0)) := zg (zg (zg (zg (zg HB4.out G6.out) G6.out) G6.out) G6.out) G7.out
 generalize (((((w4.setCell ⟨g6,0,none⟩ (.int .i64 a)).setCell ⟨g6,1,none⟩ (.int .i64 r)).setCell ⟨g6,2,none⟩ (.int .i64 v)).setCell ⟨g6,3,none⟩ (.string (toB d))).setCell ⟨g7,0,none⟩ (.int .i64 0)) = wE at x6 x7 x8 ⊢
 refine leaves_cons (f := 67) (args := #[.pointer (some ⟨g6,0,none⟩),.pointer (some ⟨g7,0,none⟩)]) (by simp) (by simp [go_sem]) ?_
 refine (zaj.idle g6 g7 _).mono ?_
 rintro e u' w'' ⟨rfl,rfl,rfl⟩
 have hc60 : w''.cell? ⟨g6,0,none⟩ = some (.int .i64 a) := (zb x6 0).trans rfl
 have hc61 : w''.cell? ⟨g6,1,none⟩ = some (.int .i64 r) := (zb x6 1).trans rfl
 have hc62 : w''.cell? ⟨g6,2,none⟩ = some (.int .i64 v) := (zb x6 2).trans rfl
 have hc63 : w''.cell? ⟨g6,3,none⟩ = some (.string (toB d)) := (zb x6 3).trans rfl
 have hc7 : w''.cell? ⟨g7,0,none⟩ = some (.int .i64 0) := (zb x7 0).trans rfl
 simp [Leaves,settle,results,Try.results32,asAddr,go_sem,hc60,hc61,hc62,hc63,hc7]
 exact x8
set_option maxHeartbeats 4000000 in
set_option maxRecDepth 100000 in
theorem zaj.none1 (s : ByteArray) (w : World) (hcut : zN.f s ⟨#[121]⟩ = some (s,false)) :
  Calls Try.prog 32 #[.string s,.string ⟨#[121]⟩,.func (.func 33) #[] #[]] w fun e w' => e = .returned (.tuple #[.agg #[.int .i64 0,.int .i64 0,.int .i64 0,.string ⟨#[]⟩],.int .i64 3]) ∧ Below w.heap.size w w' := by
 have hmf : ∀ (fn : Fn) (first cap : Array Value) (w : World),(Instr.makeFunc fn first cap).run Try.prog w = .ok (.func fn first cap) w := fun _ _ _ _ => rfl
 have HC := zc.mk hcut
 clear hcut
 go_enter_defers Try.func32,Try.ntmps32
 go_wp2_with (first
  | ((with_reducible refine zu (N := 6) rfl ?_);refine zr ?hg (N := 6) ?hd (cs := #[.int .i64 0,.int .i64 0,.int .i64 0,.string ⟨#[]⟩]) (t := 42) ?hr ?_;(case hd => rfl);(case hg => rfl);(case hr => first | (go_simp;done) | (go_simp;rfl));intro g6 hg w1 hbox hb;have G6 : zc (w.heap.size ≤ g6) := ⟨by rw [hg];exact Nat.le_refl _⟩;have B6 := zc.mk hbox;have HB1 := zc.mk hb;clear hb hbox hg)
  | ((with_reducible refine zu (N := 7) rfl ?_);refine zr ?hg (N := 7) ?hd (cs := #[.int .i64 0]) (t := 29) ?hr ?_;(case hd => rfl);(case hg => rfl);(case hr => first | (go_simp;done) | (go_simp;rfl));intro g7 hg w2 hbox hb;have G7 : zc (w.heap.size ≤ g7) := ⟨by rw [hg];exact zl HB1.out⟩;have N67 : zc (g6 ≠ g7) := ⟨by rw [hg];exact Nat.ne_of_lt (zP B6.out)⟩;have C7 := zc.mk hbox;have C6 := zc.mk (zh B6.out hb);have HB2 := zc.mk (zj HB1.out hb);clear hb hbox hg B6)
  | (go_at_call 55;(with_reducible refine (zN.calls _ _ _ _ _ HC.out).mono ?_);rintro e w3 ⟨rfl,⟨n3,rfl⟩⟩)
  | (go_at_call 26;(with_reducible refine (zaJ.no _).mono ?_);rintro e w4 ⟨rfl,rfl⟩;have D6 := zc.mk (zd C6.out n3);have D7 := zc.mk (zd C7.out n3);have HB4 := zc.mk (zm HB2.out n3)))
 refine leaves_cons (f := 67) (args := #[.pointer (some ⟨g6,0,none⟩),.pointer (some ⟨g7,0,none⟩)]) (by simp) (by simp [go_sem]) ?_
 refine (zaj.catch g6 g7 [] _ _ D6.out D7.out N67.out).mono ?_
 rintro e u' w'' ⟨rfl,rfl,x6,x7,hx⟩
 have x8 := hx w HB4.out G6.out G7.out
 have hc60 : w''.cell? ⟨g6,0,none⟩ = some (.int .i64 0) := (zb x6 0).trans rfl
 have hc61 : w''.cell? ⟨g6,1,none⟩ = some (.int .i64 0) := (zb x6 1).trans rfl
 have hc62 : w''.cell? ⟨g6,2,none⟩ = some (.int .i64 0) := (zb x6 2).trans rfl
 have hc63 : w''.cell? ⟨g6,3,none⟩ = some (.string ⟨#[]⟩) := (zb x6 3).trans rfl
 have hc7 : w''.cell? ⟨g7,0,none⟩ = some (.int .i64 3) := (zb x7 0).trans rfl
 simp [Leaves,settle,results,Try.results32,asAddr,go_sem,hc60,hc61,hc62,hc63,hc7]
 exact x8
set_option maxHeartbeats 4000000 in
set_option maxRecDepth 100000 in
theorem zaj.none2 (s rest : ByteArray) (w : World) (hs : rest.size < 4611686018427387904) (hcut : zN.f s ⟨#[121]⟩ = some (rest,true)) (h : zfT (ofB rest) = none) :
  Calls Try.prog 32 #[.string s,.string ⟨#[121]⟩,.func (.func 33) #[] #[]] w fun e w' => e = .returned (.tuple #[.agg #[.int .i64 0,.int .i64 0,.int .i64 0,.string ⟨#[]⟩],.int .i64 3]) ∧ Below w.heap.size w w' := by
 have hmf : ∀ (fn : Fn) (first cap : Array Value) (w : World),(Instr.makeFunc fn first cap).run Try.prog w = .ok (.func fn first cap) w := fun _ _ _ _ => rfl
 have HC := zc.mk hcut
 have HS := zc.mk hs
 have HL := zc.mk h
 clear hcut hs h
 go_enter_defers Try.func32,Try.ntmps32
 go_wp2_with (first
  | ((with_reducible refine zu (N := 6) rfl ?_);refine zr ?hg (N := 6) ?hd (cs := #[.int .i64 0,.int .i64 0,.int .i64 0,.string ⟨#[]⟩]) (t := 42) ?hr ?_;(case hd => rfl);(case hg => rfl);(case hr => first | (go_simp;done) | (go_simp;rfl));intro g6 hg w1 hbox hb;have G6 : zc (w.heap.size ≤ g6) := ⟨by rw [hg];exact Nat.le_refl _⟩;have B6 := zc.mk hbox;have HB1 := zc.mk hb;clear hb hbox hg)
  | ((with_reducible refine zu (N := 7) rfl ?_);refine zr ?hg (N := 7) ?hd (cs := #[.int .i64 0]) (t := 29) ?hr ?_;(case hd => rfl);(case hg => rfl);(case hr => first | (go_simp;done) | (go_simp;rfl));intro g7 hg w2 hbox hb;have G7 : zc (w.heap.size ≤ g7) := ⟨by rw [hg];exact zl HB1.out⟩;have N67 : zc (g6 ≠ g7) := ⟨by rw [hg];exact Nat.ne_of_lt (zP B6.out)⟩;have C7 := zc.mk hbox;have C6 := zc.mk (zh B6.out hb);have HB2 := zc.mk (zj HB1.out hb);clear hb hbox hg B6)
  | (go_at_call 55;(with_reducible refine (zN.calls _ _ _ _ _ HC.out).mono ?_);rintro e w3 ⟨rfl,⟨n3,rfl⟩⟩)
  | (go_at_call 26;(with_reducible refine (zaJ.yes _).mono ?_);rintro e w1 ⟨rfl,rfl⟩)
  | (go_at_call 33;(with_reducible refine (zbn.bad rest _ HS.out HL.out).mono ?_);rintro e w4 ⟨rfl,hb⟩;have D6 := zc.mk (zh (zd C6.out _) hb);have D7 := zc.mk (zh (zd C7.out _) hb);have HB4 := zc.mk (zj (zm HB2.out _) hb);clear hb))
 refine leaves_cons (f := 67) (args := #[.pointer (some ⟨g6,0,none⟩),.pointer (some ⟨g7,0,none⟩)]) (by simp) (by simp [go_sem]) ?_
 refine (zaj.catch g6 g7 [] _ _ D6.out D7.out N67.out).mono ?_
 rintro e u' w'' ⟨rfl,rfl,x6,x7,hx⟩
 have x8 := hx w HB4.out G6.out G7.out
 have hc60 : w''.cell? ⟨g6,0,none⟩ = some (.int .i64 0) := (zb x6 0).trans rfl
 have hc61 : w''.cell? ⟨g6,1,none⟩ = some (.int .i64 0) := (zb x6 1).trans rfl
 have hc62 : w''.cell? ⟨g6,2,none⟩ = some (.int .i64 0) := (zb x6 2).trans rfl
 have hc63 : w''.cell? ⟨g6,3,none⟩ = some (.string ⟨#[]⟩) := (zb x6 3).trans rfl
 have hc7 : w''.cell? ⟨g7,0,none⟩ = some (.int .i64 3) := (zb x7 0).trans rfl
 simp [Leaves,settle,results,Try.results32,asAddr,go_sem,hc60,hc61,hc62,hc63,hc7]
 exact x8
def zhr : Option (Nat × Nat × Nat × Bs) → Int × Int × Int × ByteArray × Int
 | some x => ((x.1 : Int),(x.2.1 : Int),(x.2.2.1 : Int),toB x.2.2.2,0)
 | none => (0,0,0,(⟨#[]⟩ : ByteArray),3)
def zdk (s : ByteArray) : Int × Int × Int × ByteArray × Int := match ofB s with
 | c :: t => if c = 121 then zhr (zfT t) else (0,0,0,(⟨#[]⟩ : ByteArray),3)
 | [] => (0,0,0,(⟨#[]⟩ : ByteArray),3)
def zaj.f (a0 a1 : ByteArray) : Option (Int × Int × Int × ByteArray × Int) := if a1 = ⟨#[121]⟩ ∧ a0.size < 4611686018427387904 then some (zdk a0) else none
theorem zaj.calls (a0 a1 : ByteArray) (r1 r2 r3 : Int) (r4 : ByteArray) (r5 : Int) (w : World) (h : zaj.f a0 a1 = some (r1,r2,r3,r4,r5)) :
  Calls Try.prog 32 #[.string a0,.string a1,.func (.func 33) #[] #[]] w fun e w' => e = .returned (.tuple #[.agg #[.int .i64 r1,.int .i64 r2,.int .i64 r3,.string r4],.int .i64 r5]) ∧ Below w.heap.size w w' := by
 unfold zaj.f at h
 split at h
 ·rename_i h0
  obtain ⟨rfl,hs⟩ := h0
  have h := Option.some.inj h
  unfold zdk at h
  rcases hq : ofB a0 with _ | ⟨c,t⟩
  ·rw [hq] at h
   simp only [Prod.mk.injEq] at h
   obtain ⟨rfl,rfl,rfl,rfl,rfl⟩ := h
   exact zaj.none1 a0 w (zbm _ _ (by rw [hq];simp))
  ·rw [hq] at h
   simp only at h
   by_cases hc : c = 121
   ·rw [if_pos hc] at h
    subst hc
    have hcut := zb0 a0 121 t hq
    have hs2 : (toB t).size < 4611686018427387904 := by
     have := congrArg List.length hq
     rw [zah,List.length_cons] at this
     rw [zV];omega
    rcases hl : zfT t with _ | ⟨a,r,v,d⟩
    ·rw [hl,zhr] at h
     simp only [Prod.mk.injEq] at h
     obtain ⟨rfl,rfl,rfl,rfl,rfl⟩ := h
     exact zaj.none2 a0 (toB t) w hs2 hcut (by rw [zae];exact hl)
    ·rw [hl,zhr] at h
     simp only [Prod.mk.injEq] at h
     obtain ⟨rfl,rfl,rfl,rfl,rfl⟩ := h
     exact zaj.good a0 (toB t) a r v d w hs2 hcut (by rw [zae];exact hl)
   ·rw [if_neg hc] at h
    simp only [Prod.mk.injEq] at h
    obtain ⟨rfl,rfl,rfl,rfl,rfl⟩ := h
    exact zaj.none1 a0 w (zbm _ _ (by rw [hq];simpa using hc))
 ·cases h
def zbn.f (a0 : ByteArray) : Option (Int × Int × Int × ByteArray × Int) := (zaj.f a0 (⟨#[121]⟩ : ByteArray)).bind fun bt346 => (some (bt346.1,bt346.2.1,bt346.2.2.1,bt346.2.2.2.1,bt346.2.2.2.2))
set_option maxHeartbeats 8000000 in
set_option maxRecDepth 100000 in
theorem zbn.calls (a0 : ByteArray) (r1 : Int) (r2 : Int) (r3 : Int) (r4 : ByteArray) (r5 : Int) (w : World) (h : zbn.f a0 = some (r1,r2,r3,r4,r5)) :
  Calls Try.prog 10 #[.string a0] w fun e w' => e = .returned (.tuple #[.agg #[.int .i64 r1,.int .i64 r2,.int .i64 r3,.string r4],.int .i64 r5]) ∧ Below w.heap.size w w' := by
 have hu42 := Try.underlying42
 have HB := zc.mk (Below.refl w.heap.size w)
 have H : ((zaj.f a0 (⟨#[121]⟩ : ByteArray)).bind fun bt346 => (some (bt346.1,bt346.2.1,bt346.2.2.1,bt346.2.2.2.1,bt346.2.2.2.2))) = some (r1,r2,r3,r4,r5) := h
 clear h
 replace H := Option.bind_eq_some_iff.mp H
 obtain ⟨⟨t346,t347,t348,t349,t350⟩,A20,H⟩ := H
 replace H : (some (t346,t347,t348,t349,t350)) = some (r1,r2,r3,r4,r5) := H
 have A2 := zc.mk A20
 clear A20
 simp only [Option.some.injEq,Prod.mk.injEq] at H
 obtain ⟨rfl,rfl,rfl,rfl,rfl⟩ := H
 go_enter Try.func10,Try.ntmps10
 go_wp2_with (first | ((with_reducible refine zu (N := 2) rfl ?_);refine zr ?hg (N := 2) ?hd (cs := #[.int .i64 0,.int .i64 0,.int .i64 0,.string (⟨#[]⟩ : ByteArray)]) (t := 42) ?hr ?_;(case hd => rfl);(case hg => rfl);(case hr => first | (go_simp;done) | (go_simp;rfl));intro gb345 hg w3 hbox hb;have n0_ := zc.mk (zj hBq hb);have n1_ := zc.mk (hbox);have n2_ := zc.mk ((by rw [hg];exact (zl hBq) : w.heap.size ≤ gb345));have n3_ := zc.mk ((by rw [hg];exact (zl hBq) : w.heap.size ≤ gb345));clear HB;have HB := n0_;have BK345 := n1_;have GW345 := n2_;have GE345 := n3_;clear n0_ n1_ n2_ n3_;clear hb hbox hg) | ((with_reducible refine zt (f := 32) rfl ?_);refine zU (some 5) rfl rfl Try.func32 (by kernel_rfl) rfl #[.string a0,.string (⟨#[121]⟩ : ByteArray),.func (.func 33) #[] #[]] rfl (by (try simp only [List.map_toArray,List.map_cons,List.map_nil]);first | done | rfl | (simp only [List.length_drop,List.length_take];rfl)) ?_;(with_reducible refine (zaj.calls a0 (⟨#[121]⟩ : ByteArray) t346 t347 t348 t349 t350 _ A2.out).mono ?_);rintro e w4 ⟨rfl,hb⟩;refine ⟨_,rfl,?_⟩;have n0_ := zc.mk (zh (g := gb345) (o := .cells #[.int .i64 0,.int .i64 0,.int .i64 0,.string (⟨#[]⟩ : ByteArray)] 42 (0,0)) (hGq BK345.out) hb);have n1_ := zc.mk (zj hCq hb);clear BK345;clear HB;have BK345 := n0_;have HB := n1_;clear n0_ n1_;(try clear hb);(try clear hb2);(try clear hk);(try clear hi);have hcz5_0 : w4.cell? ⟨gb345,0,none⟩ = some (.int .i64 0) := (zb BK345.out 0).trans rfl;have hcz5_1 : w4.cell? ⟨gb345,1,none⟩ = some (.int .i64 0) := (zb BK345.out 1).trans rfl;have hcz5_2 : w4.cell? ⟨gb345,2,none⟩ = some (.int .i64 0) := (zb BK345.out 2).trans rfl;have hcz5_3 : w4.cell? ⟨gb345,3,none⟩ = some (.string (⟨#[]⟩ : ByteArray)) := (zb BK345.out 3).trans rfl;have hfz5_0 := za BK345.out 0;have hfz5_1 := za BK345.out 1;have hfz5_2 := za BK345.out 2;have hfz5_3 := za BK345.out 3))
 refine bodyPost_ret (z9 rfl _ _ gb345 42 #[.int .i64 t346,.int .i64 t347,.int .i64 t348,.string t349] (0,0) _ rfl (by (with_reducible repeat (first | refine zd ?_ _ | refine zf ?_ | refine ze ?_ _));refine zi (cs := #[.int .i64 t346,.int .i64 t347,.int .i64 t348,.string (⟨#[]⟩ : ByteArray)]) ?_ 3 _ rfl;(with_reducible repeat (first | refine zd ?_ _ | refine zf ?_ | refine ze ?_ _));refine zi (cs := #[.int .i64 t346,.int .i64 t347,.int .i64 0,.string (⟨#[]⟩ : ByteArray)]) ?_ 2 _ rfl;(with_reducible repeat (first | refine zd ?_ _ | refine zf ?_ | refine ze ?_ _));refine zi (cs := #[.int .i64 t346,.int .i64 0,.int .i64 0,.string (⟨#[]⟩ : ByteArray)]) ?_ 1 _ rfl;(with_reducible repeat (first | refine zd ?_ _ | refine zf ?_ | refine ze ?_ _));refine zi (cs := #[.int .i64 0,.int .i64 0,.int .i64 0,.string (⟨#[]⟩ : ByteArray)]) ?_ 0 _ rfl;(with_reducible repeat (first | refine zd ?_ _ | refine zf ?_ | refine ze ?_ _));exact BK345.out) Try.underlying42 rfl (by kernel_rfl)) rfl ?_
 exact ⟨hHq,hCq⟩
end Go.Proofs.Ytgdpiegkoeikiaa.Px