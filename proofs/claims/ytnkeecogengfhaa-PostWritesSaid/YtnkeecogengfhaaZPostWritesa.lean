/- part 27 of the proof of the law PostWrites: texts merged by this session's bundle.py. What is proved: the statement at the end of the last of these texts; its conditions are those of the given row. -/
import Derived.BigQuiet
import Derived.Deep.QuietTactic
import Derived.Test.YtnkeecogengfhaaRows
import Derived.Deep.Slices
import Derived.ChangeArms
import Derived.SizedLaws
import Derived.WideOpen
import Derived.Test.YtnkeecogengfhaaZPostWritesD
import Derived.Test.YtnkeecogengfhaaZPostWritesE
import Derived.Test.YtnkeecogengfhaaZPostWritesL
import Derived.Test.YtnkeecogengfhaaZPostWritesN
import Derived.Test.YtnkeecogengfhaaZPostWritesO
import Derived.Test.YtnkeecogengfhaaZPostWritesP
import Derived.Test.YtnkeecogengfhaaZPostWritesU
import Derived.Test.YtnkeecogengfhaaZPostWritesW
import Derived.Test.YtnkeecogengfhaaZPostWritesX
import Derived.Test.YtnkeecogengfhaaZPostWritesZ
namespace Go.Proofs.Ytnkeecogengfhaa.Px
open Go.RowKit Go.Proofs.YtnkeecogengfhaaW.PrintWords Go.Proofs.YtnkeecogengfhaaW.PrintLast Go.Proofs.YtnkeecogengfhaaW.PrintMore
attribute [local go_sem] max2_int min2_int max_two min_two max_three min_three max_four min_four
set_option linter.unusedVariables false
set_option linter.unusedSimpArgs false
set_option maxHeartbeats 16000000 in
set_option maxRecDepth 100000 in
theorem selvedgelaw18_PostWrites.walk (a r : Int) (A2 : Option Addr) (c2 : Nat) (bs : List S61) (A3 : Option Addr) (c3 : Nat) (ps : List ByteArray) (x y s sa sr sv : Int) (d : ByteArray) (n : Int) (w : World) (hr2 : Kd.C k61 w A2 bs.length bs) (hc2 : bs.length ≤ c2) (hr3 : Kd.C Kd.string w A3 ps.length ps) (hc3 : ps.length ≤ c3)
    (k0 k1 k2 k3 k4 k5 : Nat) (hS hP yS yB tS : ByteArray) (hE pE yE bE kd : Int) (h0 : selvedgelaw18_shown.f k0 = some true) (h1 : post_Header.f a r bs ps x y n = some (hS, hE)) (h2 : selvedgeref18_Header.f k1 a r bs ps x y n = some (hS, hE)) (h3 : post_Proof.f a r bs ps x y s n = some (hP, pE)) (h4 : selvedgeref18_Proof.f k2 a r bs ps x y s n = some (hP, pE))
    (h5 : post_Say.f k3 sa sr sv d = some (yS, yE)) (h6 : selvedgeref18_Say.f k4 sa sr sv d = some (yS, yE)) (h7 : post_Ballot.f sa sr d = some (yB, bE)) (h8 : selvedgeref18_Ballot.f k5 sa sr d = some (yB, bE)) (h9 : post_Tx.f d = some ((⟨#[116]⟩ : ByteArray) ++ d)) (h10 : post_Kind.f d = some kd) (h11 : selvedgeref18_Kind.f d = some kd) (hd : 1 + d.size ≤ 9223372036854775807) :
    Calls Try.prog 3 #[.agg #[.int .i64 a, .int .i64 r, .slice A2 bs.length c2, .slice A3 ps.length c3, .int .i64 x, .int .i64 y, .int .u64 s, .int .i64 sa, .int .i64 sr, .int .i64 sv, .string d, .int .i64 n]] w fun e w' => e = .returned (.bool true) ∧ Below w.heap.size w w' := by
  have HR2 := Aside0.mk hr2
  have HC2 := Aside0.mk hc2
  have HR3 := Aside0.mk hr3
  have HC3 := Aside0.mk hc3
  have H0 := Aside0.mk h0
  have H1 := Aside0.mk h1
  have H2 := Aside0.mk h2
  have H3 := Aside0.mk h3
  have H4 := Aside0.mk h4
  have H5 := Aside0.mk h5
  have H6 := Aside0.mk h6
  have H7 := Aside0.mk h7
  have H8 := Aside0.mk h8
  have H9 := Aside0.mk h9
  have H10 := Aside0.mk h10
  have H11 := Aside0.mk h11
  have hd1 := eq_true hd
  have hd2 := eq_false (Nat.not_lt.2 hd)
  clear hr2 hc2 hr3 hc3 hd h0 h1 h2 h3 h4 h5 h6 h7 h8 h9 h10 h11
  go_enter Try.func3, Try.ntmps3
  go_wp2_with (first
    | ((with_reducible refine gate_dst (N := 1) rfl ?_); refine box_event ?hg (N := 1) ?hd (cs := #[.int .i64 a, .int .i64 r, .slice A2 bs.length c2, .slice A3 ps.length c3, .int .i64 x, .int .i64 y, .int .u64 s, .int .i64 sa, .int .i64 sr, .int .i64 sv, .string d, .int .i64 n]) (t := 32) ?hr ?_; (case hd => rfl); (case hg => rfl); (case hr => first | (go_simp; done) | (go_simp; rfl)); intro g1 hg w1 hbox hb; have B1 := Aside0.mk hbox; have HB1 := Aside0.mk hb; clear hb hbox hg; have ha0 := (blk_cell B1.out 0).trans rfl; have fha0 := blk_frozen B1.out 0; have ha1 := (blk_cell B1.out 1).trans rfl; have fha1 := blk_frozen B1.out 1; have ha2 := (blk_cell B1.out 2).trans rfl; have fha2 := blk_frozen B1.out 2; have ha3 := (blk_cell B1.out 3).trans rfl; have fha3 := blk_frozen B1.out 3; have ha4 := (blk_cell B1.out 4).trans rfl; have fha4 := blk_frozen B1.out 4; have ha5 := (blk_cell B1.out 5).trans rfl; have fha5 := blk_frozen B1.out 5; have ha6 := (blk_cell B1.out 6).trans rfl; have fha6 := blk_frozen B1.out 6; have ha7 := (blk_cell B1.out 7).trans rfl; have fha7 := blk_frozen B1.out 7; have ha8 := (blk_cell B1.out 8).trans rfl; have fha8 := blk_frozen B1.out 8; have ha9 := (blk_cell B1.out 9).trans rfl; have fha9 := blk_frozen B1.out 9; have ha10 := (blk_cell B1.out 10).trans rfl; have fha10 := blk_frozen B1.out 10; have ha11 := (blk_cell B1.out 11).trans rfl; have fha11 := blk_frozen B1.out 11)
    | ((with_reducible refine gate_dst (N := 3) rfl ?_); refine box_event ?hg (N := 3) ?hd (cs := #[.int .i64 0, .int .i64 0, .slice none 0 0, .slice none 0 0, .int .i64 0, .int .i64 0]) (t := 27) ?hr ?_; (case hd => rfl); (case hg => rfl); (case hr => first | (go_simp; done) | (go_simp; rfl)); intro g3 hg w2 hbox hb; have G3 : Aside0 (w.heap.size ≤ g3) := ⟨by rw [hg]; exact below_size HB1.out⟩; have N3 : Aside0 (g3 ≠ g1) := ⟨by rw [hg]; exact Nat.ne_of_gt (blk_lt B1.out)⟩; have B3 := Aside0.mk hbox; have C1 := Aside0.mk (blk_below B1.out hb); have HB2 := Aside0.mk (below_step HB1.out hb); clear hb hbox hg; have n31 := N3.out; have n13 := Ne.symm N3.out; have hb6 := (blk_cell C1.out 6).trans rfl; have fhb6 := blk_frozen C1.out 6; have hb7 := (blk_cell C1.out 7).trans rfl; have fhb7 := blk_frozen C1.out 7; have hb8 := (blk_cell C1.out 8).trans rfl; have fhb8 := blk_frozen C1.out 8; have hb9 := (blk_cell C1.out 9).trans rfl; have fhb9 := blk_frozen C1.out 9; have hb10 := (blk_cell C1.out 10).trans rfl; have fhb10 := blk_frozen C1.out 10; have hb11 := (blk_cell C1.out 11).trans rfl; have fhb11 := blk_frozen C1.out 11; have hc0 := (blk_cell B3.out 0).trans rfl; have fhc0 := blk_frozen B3.out 0; have hc1 := (blk_cell B3.out 1).trans rfl; have fhc1 := blk_frozen B3.out 1; have hc2 := (blk_cell B3.out 2).trans rfl; have fhc2 := blk_frozen B3.out 2; have hc3 := (blk_cell B3.out 3).trans rfl; have fhc3 := blk_frozen B3.out 3; have hc4 := (blk_cell B3.out 4).trans rfl; have fhc4 := blk_frozen B3.out 4; have hc5 := (blk_cell B3.out 5).trans rfl; have fhc5 := blk_frozen B3.out 5)
    | ((with_reducible refine gate_dst (N := 5) rfl ?_); refine box_event ?hg (N := 5) ?hd (cs := #[.int .i64 0, .int .i64 0, .int .i64 0, .string ⟨#[]⟩]) (t := 30) ?hr ?_; (case hd => rfl); (case hg => rfl); (case hr => first | (go_simp; done) | (go_simp; rfl)); intro g5 hg w3 hbox hb; have G5 : Aside0 (w.heap.size ≤ g5) := ⟨by rw [hg]; exact below_size (below_set (below_set (below_set (below_set (below_set (below_set HB2.out G3.out) G3.out) G3.out) G3.out) G3.out) G3.out)⟩; have N51 : Aside0 (g5 ≠ g1) := ⟨by rw [hg]; exact Nat.ne_of_gt (blk_lt (blk_far (blk_far (blk_far (blk_far (blk_far (blk_far C1.out (Ne.symm N3.out) _) (Ne.symm N3.out) _) (Ne.symm N3.out) _) (Ne.symm N3.out) _) (Ne.symm N3.out) _) (Ne.symm N3.out) _))⟩; have N53 : Aside0 (g5 ≠ g3) := ⟨by rw [hg]; exact Nat.ne_of_gt (blk_lt (blk_put (cs := #[.int .i64 a, .int .i64 r, .slice A2 bs.length c2, .slice A3 ps.length c3, .int .i64 x, .int .i64 0]) (cs' := #[.int .i64 a, .int .i64 r, .slice A2 bs.length c2, .slice A3 ps.length c3, .int .i64 x, .int .i64 y]) (blk_put (cs := #[.int .i64 a, .int .i64 r, .slice A2 bs.length c2, .slice A3 ps.length c3, .int .i64 0, .int .i64 0]) (cs' := #[.int .i64 a, .int .i64 r, .slice A2 bs.length c2, .slice A3 ps.length c3, .int .i64 x, .int .i64 0]) (blk_put (cs := #[.int .i64 a, .int .i64 r, .slice A2 bs.length c2, .slice none 0 0, .int .i64 0, .int .i64 0]) (cs' := #[.int .i64 a, .int .i64 r, .slice A2 bs.length c2, .slice A3 ps.length c3, .int .i64 0, .int .i64 0]) (blk_put (cs := #[.int .i64 a, .int .i64 r, .slice none 0 0, .slice none 0 0, .int .i64 0, .int .i64 0]) (cs' := #[.int .i64 a, .int .i64 r, .slice A2 bs.length c2, .slice none 0 0, .int .i64 0, .int .i64 0]) (blk_put (cs := #[.int .i64 a, .int .i64 0, .slice none 0 0, .slice none 0 0, .int .i64 0, .int .i64 0]) (cs' := #[.int .i64 a, .int .i64 r, .slice none 0 0, .slice none 0 0, .int .i64 0, .int .i64 0]) (blk_put (cs := #[.int .i64 0, .int .i64 0, .slice none 0 0, .slice none 0 0, .int .i64 0, .int .i64 0]) (cs' := #[.int .i64 a, .int .i64 0, .slice none 0 0, .slice none 0 0, .int .i64 0, .int .i64 0]) B3.out 0 _ rfl) 1 _ rfl) 2 _ rfl) 3 _ rfl) 4 _ rfl) 5 _ rfl))⟩; have B5 := Aside0.mk hbox; have D1 := Aside0.mk (blk_below (blk_far (blk_far (blk_far (blk_far (blk_far (blk_far C1.out (Ne.symm N3.out) _) (Ne.symm N3.out) _) (Ne.symm N3.out) _) (Ne.symm N3.out) _) (Ne.symm N3.out) _) (Ne.symm N3.out) _) hb); have D3 := Aside0.mk (blk_below (blk_put (cs := #[.int .i64 a, .int .i64 r, .slice A2 bs.length c2, .slice A3 ps.length c3, .int .i64 x, .int .i64 0]) (cs' := #[.int .i64 a, .int .i64 r, .slice A2 bs.length c2, .slice A3 ps.length c3, .int .i64 x, .int .i64 y]) (blk_put (cs := #[.int .i64 a, .int .i64 r, .slice A2 bs.length c2, .slice A3 ps.length c3, .int .i64 0, .int .i64 0]) (cs' := #[.int .i64 a, .int .i64 r, .slice A2 bs.length c2, .slice A3 ps.length c3, .int .i64 x, .int .i64 0]) (blk_put (cs := #[.int .i64 a, .int .i64 r, .slice A2 bs.length c2, .slice none 0 0, .int .i64 0, .int .i64 0]) (cs' := #[.int .i64 a, .int .i64 r, .slice A2 bs.length c2, .slice A3 ps.length c3, .int .i64 0, .int .i64 0]) (blk_put (cs := #[.int .i64 a, .int .i64 r, .slice none 0 0, .slice none 0 0, .int .i64 0, .int .i64 0]) (cs' := #[.int .i64 a, .int .i64 r, .slice A2 bs.length c2, .slice none 0 0, .int .i64 0, .int .i64 0]) (blk_put (cs := #[.int .i64 a, .int .i64 0, .slice none 0 0, .slice none 0 0, .int .i64 0, .int .i64 0]) (cs' := #[.int .i64 a, .int .i64 r, .slice none 0 0, .slice none 0 0, .int .i64 0, .int .i64 0]) (blk_put (cs := #[.int .i64 0, .int .i64 0, .slice none 0 0, .slice none 0 0, .int .i64 0, .int .i64 0]) (cs' := #[.int .i64 a, .int .i64 0, .slice none 0 0, .slice none 0 0, .int .i64 0, .int .i64 0]) B3.out 0 _ rfl) 1 _ rfl) 2 _ rfl) 3 _ rfl) 4 _ rfl) 5 _ rfl) hb); have HB3 := Aside0.mk (below_step (below_set (below_set (below_set (below_set (below_set (below_set HB2.out G3.out) G3.out) G3.out) G3.out) G3.out) G3.out) hb); clear hb hbox hg; have n51 := N51.out; have n15 := Ne.symm N51.out; have n53 := N53.out; have n35 := Ne.symm N53.out; have hd11 := (blk_cell D1.out 11).trans rfl; have fhd11 := blk_frozen D1.out 11; have he0 := (blk_cell B5.out 0).trans rfl; have fhe0 := blk_frozen B5.out 0; have he1 := (blk_cell B5.out 1).trans rfl; have fhe1 := blk_frozen B5.out 1; have he2 := (blk_cell B5.out 2).trans rfl; have fhe2 := blk_frozen B5.out 2; have he3 := (blk_cell B5.out 3).trans rfl; have fhe3 := blk_frozen B5.out 3)
    | (go_at_call 5; (with_reducible refine (selvedgelaw18_shown.calls k0 true _ H0.out).mono ?_); rintro e ww0 ⟨rfl, hb⟩; have E30 := Aside0.mk (blk_below (blk_far (blk_far (blk_far (blk_far D3.out (Ne.symm N53.out) _) (Ne.symm N53.out) _) (Ne.symm N53.out) _) (Ne.symm N53.out) _) hb); have E50 := Aside0.mk (blk_below (blk_put (cs := #[.int .i64 sa, .int .i64 sr, .int .i64 sv, .string ⟨#[]⟩]) (cs' := #[.int .i64 sa, .int .i64 sr, .int .i64 sv, .string d]) (blk_put (cs := #[.int .i64 sa, .int .i64 sr, .int .i64 0, .string ⟨#[]⟩]) (cs' := #[.int .i64 sa, .int .i64 sr, .int .i64 sv, .string ⟨#[]⟩]) (blk_put (cs := #[.int .i64 sa, .int .i64 0, .int .i64 0, .string ⟨#[]⟩]) (cs' := #[.int .i64 sa, .int .i64 sr, .int .i64 0, .string ⟨#[]⟩]) (blk_put (cs := #[.int .i64 0, .int .i64 0, .int .i64 0, .string ⟨#[]⟩]) (cs' := #[.int .i64 sa, .int .i64 0, .int .i64 0, .string ⟨#[]⟩]) B5.out 0 _ rfl) 1 _ rfl) 2 _ rfl) 3 _ rfl) hb); have HE0 := Aside0.mk (below_step (below_set (below_set (below_set (below_set HB3.out G5.out) G5.out) G5.out) G5.out) hb); clear hb; have hv0_0 := (blk_cell E30.out 0).trans rfl; have fhv0_0 := blk_frozen E30.out 0; have hv0_1 := (blk_cell E30.out 1).trans rfl; have fhv0_1 := blk_frozen E30.out 1; have hv0_2 := (blk_cell E30.out 2).trans rfl; have fhv0_2 := blk_frozen E30.out 2; have hv0_3 := (blk_cell E30.out 3).trans rfl; have fhv0_3 := blk_frozen E30.out 3; have hv0_4 := (blk_cell E30.out 4).trans rfl; have fhv0_4 := blk_frozen E30.out 4; have hv0_5 := (blk_cell E30.out 5).trans rfl; have fhv0_5 := blk_frozen E30.out 5; have hs0_0 := (blk_cell E50.out 0).trans rfl; have fhs0_0 := blk_frozen E50.out 0; have hs0_1 := (blk_cell E50.out 1).trans rfl; have fhs0_1 := blk_frozen E50.out 1; have hs0_2 := (blk_cell E50.out 2).trans rfl; have fhs0_2 := blk_frozen E50.out 2; have hs0_3 := (blk_cell E50.out 3).trans rfl; have fhs0_3 := blk_frozen E50.out 3)
    | (go_at_call 6; (with_reducible refine (post_Header.calls a r _ _ bs _ _ ps x y n _ _ _ (Kd.C_below HR2.out HE0.out) HC2.out (Kd.C_below HR3.out HE0.out) HC3.out H1.out).mono ?_); rintro e ww1 ⟨rfl, hb⟩; have E31 := Aside0.mk (blk_below E30.out hb); have E51 := Aside0.mk (blk_below E50.out hb); have HE1 := Aside0.mk (below_step HE0.out hb); clear hb; have hv1_0 := (blk_cell E31.out 0).trans rfl; have fhv1_0 := blk_frozen E31.out 0; have hv1_1 := (blk_cell E31.out 1).trans rfl; have fhv1_1 := blk_frozen E31.out 1; have hv1_2 := (blk_cell E31.out 2).trans rfl; have fhv1_2 := blk_frozen E31.out 2; have hv1_3 := (blk_cell E31.out 3).trans rfl; have fhv1_3 := blk_frozen E31.out 3; have hv1_4 := (blk_cell E31.out 4).trans rfl; have fhv1_4 := blk_frozen E31.out 4; have hv1_5 := (blk_cell E31.out 5).trans rfl; have fhv1_5 := blk_frozen E31.out 5; have hs1_0 := (blk_cell E51.out 0).trans rfl; have fhs1_0 := blk_frozen E51.out 0; have hs1_1 := (blk_cell E51.out 1).trans rfl; have fhs1_1 := blk_frozen E51.out 1; have hs1_2 := (blk_cell E51.out 2).trans rfl; have fhs1_2 := blk_frozen E51.out 2; have hs1_3 := (blk_cell E51.out 3).trans rfl; have fhs1_3 := blk_frozen E51.out 3; clear hv0_0 fhv0_0 hv0_1 fhv0_1 hv0_2 fhv0_2 hv0_3 fhv0_3 hv0_4 fhv0_4 hv0_5 fhv0_5; clear hs0_0 fhs0_0 hs0_1 fhs0_1 hs0_2 fhs0_2 hs0_3 fhs0_3)
    | (go_at_call 7; (with_reducible refine (selvedgeref18_Header.calls k1 a r _ _ bs _ _ ps x y n _ _ _ (Kd.C_below HR2.out HE1.out) HC2.out (Kd.C_below HR3.out HE1.out) HC3.out H2.out).mono ?_); rintro e ww2 ⟨rfl, hb⟩; have E32 := Aside0.mk (blk_below E31.out hb); have E52 := Aside0.mk (blk_below E51.out hb); have HE2 := Aside0.mk (below_step HE1.out hb); clear hb; have hv2_0 := (blk_cell E32.out 0).trans rfl; have fhv2_0 := blk_frozen E32.out 0; have hv2_1 := (blk_cell E32.out 1).trans rfl; have fhv2_1 := blk_frozen E32.out 1; have hv2_2 := (blk_cell E32.out 2).trans rfl; have fhv2_2 := blk_frozen E32.out 2; have hv2_3 := (blk_cell E32.out 3).trans rfl; have fhv2_3 := blk_frozen E32.out 3; have hv2_4 := (blk_cell E32.out 4).trans rfl; have fhv2_4 := blk_frozen E32.out 4; have hv2_5 := (blk_cell E32.out 5).trans rfl; have fhv2_5 := blk_frozen E32.out 5; have hs2_0 := (blk_cell E52.out 0).trans rfl; have fhs2_0 := blk_frozen E52.out 0; have hs2_1 := (blk_cell E52.out 1).trans rfl; have fhs2_1 := blk_frozen E52.out 1; have hs2_2 := (blk_cell E52.out 2).trans rfl; have fhs2_2 := blk_frozen E52.out 2; have hs2_3 := (blk_cell E52.out 3).trans rfl; have fhs2_3 := blk_frozen E52.out 3; clear hv1_0 fhv1_0 hv1_1 fhv1_1 hv1_2 fhv1_2 hv1_3 fhv1_3 hv1_4 fhv1_4 hv1_5 fhv1_5; clear hs1_0 fhs1_0 hs1_1 fhs1_1 hs1_2 fhs1_2 hs1_3 fhs1_3)
    | (go_at_call 8; (with_reducible refine (post_Proof.calls a r _ _ bs _ _ ps x y s n _ _ _ (Kd.C_below HR2.out HE2.out) HC2.out (Kd.C_below HR3.out HE2.out) HC3.out H3.out).mono ?_); rintro e ww3 ⟨rfl, hb⟩; have E33 := Aside0.mk (blk_below E32.out hb); have E53 := Aside0.mk (blk_below E52.out hb); have HE3 := Aside0.mk (below_step HE2.out hb); clear hb; have hv3_0 := (blk_cell E33.out 0).trans rfl; have fhv3_0 := blk_frozen E33.out 0; have hv3_1 := (blk_cell E33.out 1).trans rfl; have fhv3_1 := blk_frozen E33.out 1; have hv3_2 := (blk_cell E33.out 2).trans rfl; have fhv3_2 := blk_frozen E33.out 2; have hv3_3 := (blk_cell E33.out 3).trans rfl; have fhv3_3 := blk_frozen E33.out 3; have hv3_4 := (blk_cell E33.out 4).trans rfl; have fhv3_4 := blk_frozen E33.out 4; have hv3_5 := (blk_cell E33.out 5).trans rfl; have fhv3_5 := blk_frozen E33.out 5; have hs3_0 := (blk_cell E53.out 0).trans rfl; have fhs3_0 := blk_frozen E53.out 0; have hs3_1 := (blk_cell E53.out 1).trans rfl; have fhs3_1 := blk_frozen E53.out 1; have hs3_2 := (blk_cell E53.out 2).trans rfl; have fhs3_2 := blk_frozen E53.out 2; have hs3_3 := (blk_cell E53.out 3).trans rfl; have fhs3_3 := blk_frozen E53.out 3; clear hv2_0 fhv2_0 hv2_1 fhv2_1 hv2_2 fhv2_2 hv2_3 fhv2_3 hv2_4 fhv2_4 hv2_5 fhv2_5; clear hs2_0 fhs2_0 hs2_1 fhs2_1 hs2_2 fhs2_2 hs2_3 fhs2_3)
    | (go_at_call 9; (with_reducible refine (selvedgeref18_Proof.calls k2 a r _ _ bs _ _ ps x y s n _ _ _ (Kd.C_below HR2.out HE3.out) HC2.out (Kd.C_below HR3.out HE3.out) HC3.out H4.out).mono ?_); rintro e ww4 ⟨rfl, hb⟩; have E34 := Aside0.mk (blk_below E33.out hb); have E54 := Aside0.mk (blk_below E53.out hb); have HE4 := Aside0.mk (below_step HE3.out hb); clear hb; have hv4_0 := (blk_cell E34.out 0).trans rfl; have fhv4_0 := blk_frozen E34.out 0; have hv4_1 := (blk_cell E34.out 1).trans rfl; have fhv4_1 := blk_frozen E34.out 1; have hv4_2 := (blk_cell E34.out 2).trans rfl; have fhv4_2 := blk_frozen E34.out 2; have hv4_3 := (blk_cell E34.out 3).trans rfl; have fhv4_3 := blk_frozen E34.out 3; have hv4_4 := (blk_cell E34.out 4).trans rfl; have fhv4_4 := blk_frozen E34.out 4; have hv4_5 := (blk_cell E34.out 5).trans rfl; have fhv4_5 := blk_frozen E34.out 5; have hs4_0 := (blk_cell E54.out 0).trans rfl; have fhs4_0 := blk_frozen E54.out 0; have hs4_1 := (blk_cell E54.out 1).trans rfl; have fhs4_1 := blk_frozen E54.out 1; have hs4_2 := (blk_cell E54.out 2).trans rfl; have fhs4_2 := blk_frozen E54.out 2; have hs4_3 := (blk_cell E54.out 3).trans rfl; have fhs4_3 := blk_frozen E54.out 3; clear hv3_0 fhv3_0 hv3_1 fhv3_1 hv3_2 fhv3_2 hv3_3 fhv3_3 hv3_4 fhv3_4 hv3_5 fhv3_5; clear hs3_0 fhs3_0 hs3_1 fhs3_1 hs3_2 fhs3_2 hs3_3 fhs3_3)
    | (go_at_call 10; (with_reducible refine (post_Say.calls k3 sa sr sv d _ _ _ H5.out).mono ?_); rintro e ww5 ⟨rfl, hb⟩; have E35 := Aside0.mk (blk_below E34.out hb); have E55 := Aside0.mk (blk_below E54.out hb); have HE5 := Aside0.mk (below_step HE4.out hb); clear hb; have hv5_0 := (blk_cell E35.out 0).trans rfl; have fhv5_0 := blk_frozen E35.out 0; have hv5_1 := (blk_cell E35.out 1).trans rfl; have fhv5_1 := blk_frozen E35.out 1; have hv5_2 := (blk_cell E35.out 2).trans rfl; have fhv5_2 := blk_frozen E35.out 2; have hv5_3 := (blk_cell E35.out 3).trans rfl; have fhv5_3 := blk_frozen E35.out 3; have hv5_4 := (blk_cell E35.out 4).trans rfl; have fhv5_4 := blk_frozen E35.out 4; have hv5_5 := (blk_cell E35.out 5).trans rfl; have fhv5_5 := blk_frozen E35.out 5; have hs5_0 := (blk_cell E55.out 0).trans rfl; have fhs5_0 := blk_frozen E55.out 0; have hs5_1 := (blk_cell E55.out 1).trans rfl; have fhs5_1 := blk_frozen E55.out 1; have hs5_2 := (blk_cell E55.out 2).trans rfl; have fhs5_2 := blk_frozen E55.out 2; have hs5_3 := (blk_cell E55.out 3).trans rfl; have fhs5_3 := blk_frozen E55.out 3; clear hv4_0 fhv4_0 hv4_1 fhv4_1 hv4_2 fhv4_2 hv4_3 fhv4_3 hv4_4 fhv4_4 hv4_5 fhv4_5; clear hs4_0 fhs4_0 hs4_1 fhs4_1 hs4_2 fhs4_2 hs4_3 fhs4_3)
    | (go_at_call 11; (with_reducible refine (selvedgeref18_Say.calls k4 sa sr sv d _ _ _ H6.out).mono ?_); rintro e ww6 ⟨rfl, hb⟩; have E36 := Aside0.mk (blk_below E35.out hb); have E56 := Aside0.mk (blk_below E55.out hb); have HE6 := Aside0.mk (below_step HE5.out hb); clear hb; have hv6_0 := (blk_cell E36.out 0).trans rfl; have fhv6_0 := blk_frozen E36.out 0; have hv6_1 := (blk_cell E36.out 1).trans rfl; have fhv6_1 := blk_frozen E36.out 1; have hv6_2 := (blk_cell E36.out 2).trans rfl; have fhv6_2 := blk_frozen E36.out 2; have hv6_3 := (blk_cell E36.out 3).trans rfl; have fhv6_3 := blk_frozen E36.out 3; have hv6_4 := (blk_cell E36.out 4).trans rfl; have fhv6_4 := blk_frozen E36.out 4; have hv6_5 := (blk_cell E36.out 5).trans rfl; have fhv6_5 := blk_frozen E36.out 5; have hs6_0 := (blk_cell E56.out 0).trans rfl; have fhs6_0 := blk_frozen E56.out 0; have hs6_1 := (blk_cell E56.out 1).trans rfl; have fhs6_1 := blk_frozen E56.out 1; have hs6_2 := (blk_cell E56.out 2).trans rfl; have fhs6_2 := blk_frozen E56.out 2; have hs6_3 := (blk_cell E56.out 3).trans rfl; have fhs6_3 := blk_frozen E56.out 3; clear hv5_0 fhv5_0 hv5_1 fhv5_1 hv5_2 fhv5_2 hv5_3 fhv5_3 hv5_4 fhv5_4 hv5_5 fhv5_5; clear hs5_0 fhs5_0 hs5_1 fhs5_1 hs5_2 fhs5_2 hs5_3 fhs5_3)
    | (go_at_call 12; (with_reducible refine (post_Ballot.calls sa sr d _ _ _ H7.out).mono ?_); rintro e ww7 ⟨rfl, hb⟩; have E37 := Aside0.mk (blk_below E36.out hb); have E57 := Aside0.mk (blk_below E56.out hb); have HE7 := Aside0.mk (below_step HE6.out hb); clear hb; have hv7_0 := (blk_cell E37.out 0).trans rfl; have fhv7_0 := blk_frozen E37.out 0; have hv7_1 := (blk_cell E37.out 1).trans rfl; have fhv7_1 := blk_frozen E37.out 1; have hv7_2 := (blk_cell E37.out 2).trans rfl; have fhv7_2 := blk_frozen E37.out 2; have hv7_3 := (blk_cell E37.out 3).trans rfl; have fhv7_3 := blk_frozen E37.out 3; have hv7_4 := (blk_cell E37.out 4).trans rfl; have fhv7_4 := blk_frozen E37.out 4; have hv7_5 := (blk_cell E37.out 5).trans rfl; have fhv7_5 := blk_frozen E37.out 5; have hs7_0 := (blk_cell E57.out 0).trans rfl; have fhs7_0 := blk_frozen E57.out 0; have hs7_1 := (blk_cell E57.out 1).trans rfl; have fhs7_1 := blk_frozen E57.out 1; have hs7_2 := (blk_cell E57.out 2).trans rfl; have fhs7_2 := blk_frozen E57.out 2; have hs7_3 := (blk_cell E57.out 3).trans rfl; have fhs7_3 := blk_frozen E57.out 3; clear hv6_0 fhv6_0 hv6_1 fhv6_1 hv6_2 fhv6_2 hv6_3 fhv6_3 hv6_4 fhv6_4 hv6_5 fhv6_5; clear hs6_0 fhs6_0 hs6_1 fhs6_1 hs6_2 fhs6_2 hs6_3 fhs6_3)
    | (go_at_call 13; (with_reducible refine (selvedgeref18_Ballot.calls k5 sa sr d _ _ _ H8.out).mono ?_); rintro e ww8 ⟨rfl, hb⟩; have E38 := Aside0.mk (blk_below E37.out hb); have E58 := Aside0.mk (blk_below E57.out hb); have HE8 := Aside0.mk (below_step HE7.out hb); clear hb; have hv8_0 := (blk_cell E38.out 0).trans rfl; have fhv8_0 := blk_frozen E38.out 0; have hv8_1 := (blk_cell E38.out 1).trans rfl; have fhv8_1 := blk_frozen E38.out 1; have hv8_2 := (blk_cell E38.out 2).trans rfl; have fhv8_2 := blk_frozen E38.out 2; have hv8_3 := (blk_cell E38.out 3).trans rfl; have fhv8_3 := blk_frozen E38.out 3; have hv8_4 := (blk_cell E38.out 4).trans rfl; have fhv8_4 := blk_frozen E38.out 4; have hv8_5 := (blk_cell E38.out 5).trans rfl; have fhv8_5 := blk_frozen E38.out 5; have hs8_0 := (blk_cell E58.out 0).trans rfl; have fhs8_0 := blk_frozen E58.out 0; have hs8_1 := (blk_cell E58.out 1).trans rfl; have fhs8_1 := blk_frozen E58.out 1; have hs8_2 := (blk_cell E58.out 2).trans rfl; have fhs8_2 := blk_frozen E58.out 2; have hs8_3 := (blk_cell E58.out 3).trans rfl; have fhs8_3 := blk_frozen E58.out 3; clear hv7_0 fhv7_0 hv7_1 fhv7_1 hv7_2 fhv7_2 hv7_3 fhv7_3 hv7_4 fhv7_4 hv7_5 fhv7_5; clear hs7_0 fhs7_0 hs7_1 fhs7_1 hs7_2 fhs7_2 hs7_3 fhs7_3))
  repeat (go_quiet (first | (go_at_call 14; (with_reducible refine (post_Tx.calls d _ _ H9.out).mono ?_); rintro e w' ⟨rfl, ⟨nd, rfl⟩⟩; (try first | exact ⟨rfl, _, World.drewN_drewN _ _ _⟩ | exact ⟨rfl, _, Eq.trans (World.drewN_drewN _ _ _) (congrArg (World.drewN _) (Nat.add_assoc _ _ _))⟩)) | (go_at_call 15; (with_reducible refine (post_Kind.calls d _ _ H10.out).mono ?_); rintro e w' ⟨rfl, ⟨nd, rfl⟩⟩; (try first | exact ⟨rfl, _, World.drewN_drewN _ _ _⟩ | exact ⟨rfl, _, Eq.trans (World.drewN_drewN _ _ _) (congrArg (World.drewN _) (Nat.add_assoc _ _ _))⟩)) | (go_at_call 16; (with_reducible refine (selvedgeref18_Kind.calls d _ _ H11.out).mono ?_); rintro e w' ⟨rfl, ⟨nd, rfl⟩⟩; (try first | exact ⟨rfl, _, World.drewN_drewN _ _ _⟩ | exact ⟨rfl, _, Eq.trans (World.drewN_drewN _ _ _) (congrArg (World.drewN _) (Nat.add_assoc _ _ _))⟩))); try go_wp2)
  go_ret
  exact ⟨rfl, by repeat (first | exact HE8.out | apply pw_below_drewN)⟩
def selvedgelaw18_PostWrites.f (a r : Int) (bs : List S61) (ps : List ByteArray) (x y s sa sr sv : Int) (d : ByteArray) (n : Int) : Option Bool :=
  if 0 ≤ s ∧ s < 18446744073709551616 ∧ bs.length < 4611686018427387904 ∧ (∀ b ∈ bs, b.f2.length < 4611686018427387904) ∧ ps.length < 4611686018427387904 ∧ (∀ t ∈ ps, t.size < 4611686018427387904) ∧ d.size ≤ 140737488351232 then some true else none
theorem selvedgelaw18_PostWrites.calls (a r : Int) (A2 : Option Addr) (c2 : Nat) (bs : List S61) (A3 : Option Addr) (c3 : Nat) (ps : List ByteArray) (x y s sa sr sv : Int) (d : ByteArray) (n : Int) (res : Bool) (w : World) (hr2 : Kd.C k61 w A2 bs.length bs) (hc2 : bs.length ≤ c2) (hr3 : Kd.C Kd.string w A3 ps.length ps) (hc3 : ps.length ≤ c3) (h : selvedgelaw18_PostWrites.f a r bs ps x y s sa sr sv d n = some res) :
    Calls Try.prog 3 #[.agg #[.int .i64 a, .int .i64 r, .slice A2 bs.length c2, .slice A3 ps.length c3, .int .i64 x, .int .i64 y, .int .u64 s, .int .i64 sa, .int .i64 sr, .int .i64 sv, .string d, .int .i64 n]] w fun e w' => e = .returned (.bool res) ∧ Below w.heap.size w w' := by
  unfold selvedgelaw18_PostWrites.f at h
  split at h
  · rename_i hh
    obtain ⟨s0, s1, q1, q2, q3, q4, q5⟩ := hh
    obtain rfl := Option.some.inj h
    obtain ⟨s, rfl⟩ := Int.eq_ofNat_of_zero_le s0
    obtain ⟨k0, e0⟩ := shown18_ev.rounds
    obtain ⟨k1, e1⟩ := (refHeader_ev a r bs ps x y n q1 q2 q3 q4).rounds
    obtain ⟨k2, e2⟩ := (refProof_ev a r bs ps x y s (by omega) n q1 q2 q3 q4).rounds
    obtain ⟨k3, e3⟩ := (post_Say_ev sa sr sv d).rounds
    obtain ⟨k4, e4⟩ := (refSay_ev sa sr sv d).rounds
    obtain ⟨k5, e5⟩ := (refBallot_ev sa sr d).rounds
    have t := post_Tx_of d q5
    rw [← cons_toB, toB_ofB] at t
    exact selvedgelaw18_PostWrites.walk a r _ _ bs _ _ ps x y s sa sr sv d n _ hr2 hc2 hr3 hc3 k0 k1 k2 k3 k4 k5 _ _ _ _ d _ _ _ _ _ e0 (post_Header_of ..) e1 (post_Proof_of _ _ _ _ _ _ _ (by omega) _) e2 e3 e4 (post_Ballot_of ..) e5 t (post_Kind_of d) (refKind_of d) (by omega)
  · cases h
end Go.Proofs.Ytnkeecogengfhaa.Px

namespace Go.Proofs.Ytnkeecogengfhaa.Px
open Go.RowKit Go.Proofs.YtnkeecogengfhaaW.PrintWords Go.Proofs.YtnkeecogengfhaaW.PrintLast Go.Proofs.YtnkeecogengfhaaW.PrintMore
attribute [local go_sem] max2_int min2_int max_two min_two max_three min_three max_four min_four
set_option linter.unusedVariables false
set_option linter.unusedSimpArgs false
structure Rd (α : Type) where
  t : TypeId
  d : Kd α
  ok : α → Prop
  wt : α → Prop
  bk : α → Nat
structure Fits {α : Type} (P : Program) (r : Rd α) : Prop where
  out : ∀ {H : Type} {enc : TypeId × Value → H} {w : World} {fuel : Nat} {cs : List Value} {x : DataW H × List MemPlace}, DataW.trod enc P w 0 (fun _ => true) true fuel r.t cs = some x →
    ∃ a, r.d.K w a cs ∧ r.ok a ∧ ((∀ n ∈ x.1.weights P r.t, n ≤ reachBytes) → r.wt a) ∧ r.bk a ≤ Rows.uptoBulk x.1
def rdInt (t : TypeId) (k : IntKind) : Rd Int := ⟨t, Kd.int k, fun a => (Lit.int k a).wf = true, fun _ => True, fun _ => 1⟩
def rdString (t : TypeId) : Rd ByteArray := ⟨t, Kd.string, fun a => a.size ≤ maxLen, fun a => a.size ≤ reachBytes, fun a => a.size + 1⟩
def rdSlice {α : Type} (t : TypeId) (B : Nat) (r : Rd α) : Rd (List α) :=
  ⟨t, Kd.slice r.t r.d, fun l => l.length ≤ maxLen ∧ ∀ a ∈ l, r.ok a, fun l => l.length * B ≤ reachBytes ∧ ∀ a ∈ l, r.wt a, fun l => (l.map r.bk).sum + 1⟩
section
variable {P : Program}
theorem fit_int {t : TypeId} {k : IntKind} (h : P.underlying t = some (.int k)) : Fits P (rdInt t k) := by
  constructor
  intro H enc w fuel cs x hx
  obtain ⟨n, rfl, rfl, hw⟩ := DataW.trod_int h hx
  exact ⟨n, rfl, hw, fun _ => trivial, by simp [rdInt, Rows.uptoBulk]⟩
theorem fit_string {t : TypeId} (h : P.underlying t = some .string) : Fits P (rdString t) := by
  constructor
  intro H enc w fuel cs x hx
  obtain ⟨s, rfl, rfl, hs⟩ := DataW.trod_string h hx
  have e : s.data.toList.length = s.size := by rw [Array.length_toList]; rfl
  refine ⟨s, rfl, hs, fun hn => ?_, by simp only [rdString, Rows.uptoBulk, e]; exact Nat.le_refl _⟩
  have := hn s.data.toList.length (by simp [DataW.weights])
  rwa [e] at this
theorem bulkAll_map {H α : Type} (f : Nat → DataW H) (g : Nat → α) (bk : α → Nat) (n : Nat) (h : ∀ i, i < n → bk (g i) ≤ Rows.uptoBulk (f i)) : (((List.range n).map g).map bk).sum ≤ Rows.uptoBulkAll ((List.range n).map f) := by
  suffices k : ∀ l : List Nat, (∀ i ∈ l, i < n) → ((l.map g).map bk).sum ≤ Rows.uptoBulkAll (l.map f) from k _ (fun i hi => List.mem_range.1 hi)
  intro l
  induction l with
  | nil => intro _; simp
  | cons i l ih =>
    intro hl
    have h1 := h i (hl i List.mem_cons_self)
    have h2 := ih (fun j hj => hl j (List.mem_cons_of_mem _ hj))
    simp only [List.map_cons, List.sum_cons, Rows.uptoBulkAll]
    omega
theorem weightsAll_mem {H : Type} {e : TypeId} : ∀ {l : List (DataW H)} {d : DataW H} {n : Nat}, d ∈ l → n ∈ d.weights P e → n ∈ DataW.weightsAll P e l
  | x :: l, d, n, hd, hn => by
    simp only [DataW.weightsAll, List.mem_append]
    rcases List.mem_cons.1 hd with rfl | hd
    · exact .inl hn
    · exact .inr (weightsAll_mem hd hn)
theorem fit_slice {α : Type} [Inhabited α] {r : Rd α} (hr : Fits P r) {t : TypeId} {B : Nat} (h : P.underlying t = some (.slice r.t)) (hc : P.cellsOf r.t = r.d.sz) (hB : P.bytesOf r.t = B) : Fits P (rdSlice t B r) := by
  constructor
  intro H enc w fuel cs x hx
  rcases Deep.open_slice h hx with ⟨rfl, rfl⟩ | ⟨a, len, cap, m, n, D, Pl, rfl, _, hl, hm, hmm, rfl, hel⟩
  · exact ⟨[], ⟨none, 0, rfl, Nat.le_refl _, Kd.C_nil _ _⟩, ⟨Nat.zero_le _, by simp⟩, fun _ => ⟨by simp, by simp⟩, by simp [rdSlice, Rows.uptoBulk]⟩
  · simp only [if_true] at hmm
    subst hmm
    obtain ⟨f, hf⟩ := Deep.choose_lt (α := α) (n := len) (p := fun i v => ∃ c, w.cells? 0 (a.add (i * P.cellsOf r.t)) (P.cellsOf r.t) = some c ∧ r.d.K w v c ∧ r.ok v ∧ ((∀ q ∈ (D i).weights P r.t, q ≤ reachBytes) → r.wt v) ∧ r.bk v ≤ Rows.uptoBulk (D i)) (fun i hi => by
      obtain ⟨cs', h1, h2⟩ := hel i (by omega)
      obtain ⟨v, k1, k2, k3, k4⟩ := hr.out h2
      exact ⟨v, cs', h1, k1, k2, k3, k4⟩)
    have hlen : ((List.range len).map f).length = len := by simp
    refine ⟨(List.range len).map f, ⟨some a, m, by rw [hlen], by rw [hlen]; exact hl, ?_⟩, ⟨by rw [hlen]; omega, ?_⟩, fun hw => ⟨?_, ?_⟩, ?_⟩
    · rw [hlen]
      refine ⟨hlen, by unfold maxLen at hm; omega, fun _ => ⟨a, rfl, fun j p hj => ?_⟩⟩
      have hjl : j < len := by
        have := (List.getElem?_eq_some_iff.1 hj).1
        simpa using this
      obtain ⟨c, c1, c2, _⟩ := hf j hjl
      have hp : f j = p := by simpa [List.getElem?_map, List.getElem?_range hjl] using hj
      obtain ⟨_, l2, l3⟩ := World.cells?_some c1
      refine ⟨c, by rw [l2, hc], hp ▸ c2, fun i u hu => ?_⟩
      have hi : i < P.cellsOf r.t := by rw [← l2]; exact (List.getElem?_eq_some_iff.1 hu).1
      rw [← hc, ← Deep.add_add, l3 i hi]
      exact hu
    · intro v hv
      obtain ⟨i, hi, rfl⟩ := List.mem_map.1 hv
      obtain ⟨c, _, _, h3, _⟩ := hf i (List.mem_range.1 hi)
      exact h3
    · have := hw ((((List.range len).map D).length + ((List.range (m - len)).map fun j => D (len + j)).length) * P.bytesOf r.t) (by show _ ∈ DataW.weights P t _; simp only [DataW.weights, h]; exact List.mem_cons_self)
      rw [hlen]
      rw [hB] at this
      simp only [List.length_map, List.length_range] at this
      exact Nat.le_trans (Nat.mul_le_mul_right _ (by omega)) this
    · intro v hv
      obtain ⟨i, hi, rfl⟩ := List.mem_map.1 hv
      obtain ⟨c, _, _, _, h4, _⟩ := hf i (List.mem_range.1 hi)
      refine h4 (fun q hq => hw q ?_)
      show _ ∈ DataW.weights P t _
      simp only [DataW.weights, h]
      exact List.mem_cons_of_mem _ (List.mem_append_left _ (weightsAll_mem (List.mem_map.2 ⟨i, hi, rfl⟩) hq))
    · simp only [rdSlice, Rows.uptoBulk]
      have := bulkAll_map D f r.bk len (fun i hi => (hf i hi).choose_spec.2.2.2.2)
      omega
structure FieldsFit {β : Type} (P : Program) (fs : List Field) (o : Nat) (d : Kd β) (ok wt : β → Prop) (bk : β → Nat) : Prop where
  out : ∀ {H : Type} {enc : TypeId × Value → H} {w : World} {n : Nat} {cs : List Value} {xs : List (DataW H × List MemPlace)}, xs.length = fs.length → cs.length = o + d.sz →
    (∀ (i : Nat) (f : Field), fs[i]? = some f → DataW.trod enc P w 0 (fun _ => true) true n f.type ((cs.drop f.offset).take (P.cellsOf f.type)) = xs[i]?) →
    ∃ b, d.K w b (cs.drop o) ∧ ok b ∧ ((∀ q ∈ DataW.weightsEach P (fs.map (·.type)) (xs.map (·.1)), q ≤ reachBytes) → wt b) ∧ bk b ≤ Rows.uptoBulkAll (xs.map (·.1))
theorem fields_one {α : Type} {r : Rd α} (hr : Fits P r) {f : Field} (ht : f.type = r.t) {o : Nat} (ho : f.offset = o) (hc : P.cellsOf r.t = r.d.sz) : FieldsFit P [f] o r.d r.ok r.wt r.bk := by
  constructor
  intro H enc w n cs xs hl hcs hx
  match xs, hl with
  | [x], _ =>
    have h := hx 0 f rfl
    rw [ho, ht, hc, List.take_of_length_le (by rw [List.length_drop]; omega)] at h
    obtain ⟨a, h1, h2, h3, h4⟩ := hr.out h
    refine ⟨a, h1, h2, fun hq => h3 (fun q hm => hq q ?_), by simp [Rows.uptoBulkAll]; omega⟩
    simp only [List.map_cons, List.map_nil, DataW.weightsEach, List.mem_append, ht]
    exact .inl hm
theorem fields_cons {α β : Type} {r : Rd α} (hr : Fits P r) {f : Field} (ht : f.type = r.t) {fs : List Field} {o o' : Nat} (ho : f.offset = o) (hc : P.cellsOf r.t = r.d.sz) (ho' : o' = o + r.d.sz) {d : Kd β} {ok wt : β → Prop} {bk : β → Nat} (hfs : FieldsFit P fs o' d ok wt bk) :
    FieldsFit P (f :: fs) o (Kd.pair r.d d) (fun x => r.ok x.1 ∧ ok x.2) (fun x => r.wt x.1 ∧ wt x.2) (fun x => r.bk x.1 + bk x.2) := by
  constructor
  intro H enc w n cs xs hl hcs hx
  match xs, hl with
  | x :: xs, hl =>
    have h := hx 0 f rfl
    have hcs' : cs.length = o + (r.d.sz + d.sz) := hcs
    rw [ho, ht, hc] at h
    obtain ⟨a, h1, h2, h3, h4⟩ := hr.out h
    obtain ⟨b, k1, k2, k3, k4⟩ := hfs.out (enc := enc) (w := w) (n := n) (cs := cs) (xs := xs) (by simpa using hl) (by omega) (fun i g hg => hx (i + 1) g hg)
    refine ⟨(a, b), ⟨(cs.drop o).take r.d.sz, cs.drop o', ?_, h1, k1⟩, ⟨h2, k2⟩, fun hq => ⟨h3 (fun q hm => hq q ?_), k3 (fun q hm => hq q ?_)⟩, ?_⟩
    · rw [ho', ← List.drop_drop, List.take_append_drop]
    · simp only [List.map_cons, DataW.weightsEach, List.mem_append, ht]
      exact .inl hm
    · simp only [List.map_cons, DataW.weightsEach, List.mem_append]
      exact .inr hm
    · simp only [List.map_cons, Rows.uptoBulkAll]; omega
def rdStruct {α β : Type} (t : TypeId) (d : Kd β) (f : α → β) (ok wt : β → Prop) (bk : β → Nat) : Rd α := ⟨t, Kd.iso d f, fun a => ok (f a), fun a => wt (f a), fun a => bk (f a) + 1⟩
theorem fit_struct {α β : Type} {t : TypeId} {fs : List Field} {d : Kd β} {ok wt : β → Prop} {bk : β → Nat} (hfs : FieldsFit P fs 0 d ok wt bk) (h : P.underlying t = some (.struct fs.toArray)) (hc : P.cellsOf t = d.sz) (f : α → β) (g : β → α) (hfg : ∀ b, f (g b) = b) : Fits P (rdStruct t d f ok wt bk) := by
  constructor
  intro H enc w fuel cs x hx
  obtain ⟨xs, n, rfl, rfl, hl, hn, hf⟩ := DataW.trod_struct h hx
  obtain ⟨b, k1, k2, k3, k4⟩ := hfs.out (enc := enc) (w := w) (n := n) (cs := cs) (xs := xs) (by simpa using hn) (by omega) (fun i g hg => hf i g (by simpa using hg))
  refine ⟨g b, ?_, ?_, fun hq => ?_, ?_⟩
  · show d.K w (f (g b)) cs
    rw [hfg]
    exact k1
  · show ok (f (g b))
    rw [hfg]
    exact k2
  · show wt (f (g b))
    rw [hfg]
    refine k3 (fun q hm => hq q ?_)
    show _ ∈ DataW.weights P t _
    simp only [DataW.weights, h]
    exact hm
  · show bk (f (g b)) + 1 ≤ _
    rw [hfg]
    simp only [Rows.uptoBulk]
    omega
end
theorem fit_arg {α H : Type} {P : Program} {r : Rd α} (hr : Fits P r) {enc : TypeId × Value → H} {w : World} {v : Value} {d : DataW H} {ps : List MemPlace} (h : DataW.Trod enc P w 0 (fun _ => true) true r.t v d ps) :
    ∃ a, r.d.K w a v.cells.toList ∧ r.ok a ∧ ((∀ n ∈ d.weights P r.t, n ≤ reachBytes) → r.wt a) ∧ r.bk a ≤ Rows.uptoBulk d := by
  obtain ⟨fuel, hf⟩ := h
  exact hr.out hf
end Go.Proofs.Ytnkeecogengfhaa.Px

namespace Go.Proofs.Ytnkeecogengfhaa.Px
open Go.RowKit Go.Proofs.Ytnkeecogengfhaa.Px Go.Proofs.YtnkeecogengfhaaW.PrintWords Go.Proofs.YtnkeecogengfhaaW.PrintLast Go.Proofs.YtnkeecogengfhaaW.PrintMore
set_option linter.unusedVariables false
instance : Inhabited S61 := ⟨z61⟩
def rd61 : Rd S61 := rdStruct 61 (Kd.pair (rdInt 3 .i64).d (Kd.pair (rdInt 3 .i64).d (rdSlice 23 16 (rdString 9)).d)) (fun x : S61 => (x.f0, x.f1, x.f2)) (fun y => (rdInt 3 .i64).ok y.1 ∧ ((rdInt 3 .i64).ok y.2.1 ∧ ((rdSlice 23 16 (rdString 9)).ok y.2.2))) (fun y => (rdInt 3 .i64).wt y.1 ∧ ((rdInt 3 .i64).wt y.2.1 ∧ ((rdSlice 23 16 (rdString 9)).wt y.2.2))) (fun y => (rdInt 3 .i64).bk y.1 + ((rdInt 3 .i64).bk y.2.1 + ((rdSlice 23 16 (rdString 9)).bk y.2.2)))
theorem fit61 : Fits Try.prog rd61 :=
  fit_struct (fields_cons (o := 0) (o' := 1) (ok := fun (y : Int × (List ByteArray)) => (rdInt 3 .i64).ok y.1 ∧ ((rdSlice 23 16 (rdString 9)).ok y.2)) (wt := fun (y : Int × (List ByteArray)) => (rdInt 3 .i64).wt y.1 ∧ ((rdSlice 23 16 (rdString 9)).wt y.2)) (bk := fun (y : Int × (List ByteArray)) => (rdInt 3 .i64).bk y.1 + ((rdSlice 23 16 (rdString 9)).bk y.2)) (fit_int Try.underlying3) rfl rfl (by kernel_rfl) rfl (fields_cons (o := 1) (o' := 2) (ok := fun (y : (List ByteArray)) => (rdSlice 23 16 (rdString 9)).ok y) (wt := fun (y : (List ByteArray)) => (rdSlice 23 16 (rdString 9)).wt y) (bk := fun (y : (List ByteArray)) => (rdSlice 23 16 (rdString 9)).bk y) (fit_int Try.underlying3) rfl rfl (by kernel_rfl) rfl (fields_one (fit_slice (fit_string Try.underlying9) Try.underlying23 (by kernel_rfl) (by kernel_rfl)) rfl rfl (by kernel_rfl)))) Try.underlying61 (by kernel_rfl) (fun x : S61 => (x.f0, x.f1, x.f2)) (fun y => ⟨y.1, y.2.1, y.2.2⟩) (fun _ => rfl)
instance : Inhabited S25 := ⟨z25⟩
def rd25 : Rd S25 := rdStruct 25 (Kd.pair (rdInt 3 .i64).d (rdInt 3 .i64).d) (fun x : S25 => (x.f0, x.f1)) (fun y => (rdInt 3 .i64).ok y.1 ∧ ((rdInt 3 .i64).ok y.2)) (fun y => (rdInt 3 .i64).wt y.1 ∧ ((rdInt 3 .i64).wt y.2)) (fun y => (rdInt 3 .i64).bk y.1 + ((rdInt 3 .i64).bk y.2))
theorem fit25 : Fits Try.prog rd25 :=
  fit_struct (fields_cons (o := 0) (o' := 1) (ok := fun (y : Int) => (rdInt 3 .i64).ok y) (wt := fun (y : Int) => (rdInt 3 .i64).wt y) (bk := fun (y : Int) => (rdInt 3 .i64).bk y) (fit_int Try.underlying3) rfl rfl (by kernel_rfl) rfl (fields_one (fit_int Try.underlying3) rfl rfl (by kernel_rfl))) Try.underlying25 (by kernel_rfl) (fun x : S25 => (x.f0, x.f1)) (fun y => ⟨y.1, y.2⟩) (fun _ => rfl)
instance : Inhabited S27 := ⟨z27⟩
def rd27 : Rd S27 := rdStruct 27 (Kd.pair (rdInt 3 .i64).d (Kd.pair (rdInt 3 .i64).d (Kd.pair (rdSlice 22 40 rd61).d (Kd.pair (rdSlice 23 16 (rdString 9)).d rd25.d)))) (fun x : S27 => (x.f0, x.f1, x.f2, x.f3, x.f4)) (fun y => (rdInt 3 .i64).ok y.1 ∧ ((rdInt 3 .i64).ok y.2.1 ∧ ((rdSlice 22 40 rd61).ok y.2.2.1 ∧ ((rdSlice 23 16 (rdString 9)).ok y.2.2.2.1 ∧ (rd25.ok y.2.2.2.2))))) (fun y => (rdInt 3 .i64).wt y.1 ∧ ((rdInt 3 .i64).wt y.2.1 ∧ ((rdSlice 22 40 rd61).wt y.2.2.1 ∧ ((rdSlice 23 16 (rdString 9)).wt y.2.2.2.1 ∧ (rd25.wt y.2.2.2.2))))) (fun y => (rdInt 3 .i64).bk y.1 + ((rdInt 3 .i64).bk y.2.1 + ((rdSlice 22 40 rd61).bk y.2.2.1 + ((rdSlice 23 16 (rdString 9)).bk y.2.2.2.1 + (rd25.bk y.2.2.2.2)))))
theorem fit27 : Fits Try.prog rd27 :=
  fit_struct (fields_cons (o := 0) (o' := 1) (ok := fun (y : Int × (List S61) × (List ByteArray) × S25) => (rdInt 3 .i64).ok y.1 ∧ ((rdSlice 22 40 rd61).ok y.2.1 ∧ ((rdSlice 23 16 (rdString 9)).ok y.2.2.1 ∧ (rd25.ok y.2.2.2)))) (wt := fun (y : Int × (List S61) × (List ByteArray) × S25) => (rdInt 3 .i64).wt y.1 ∧ ((rdSlice 22 40 rd61).wt y.2.1 ∧ ((rdSlice 23 16 (rdString 9)).wt y.2.2.1 ∧ (rd25.wt y.2.2.2)))) (bk := fun (y : Int × (List S61) × (List ByteArray) × S25) => (rdInt 3 .i64).bk y.1 + ((rdSlice 22 40 rd61).bk y.2.1 + ((rdSlice 23 16 (rdString 9)).bk y.2.2.1 + (rd25.bk y.2.2.2)))) (fit_int Try.underlying3) rfl rfl (by kernel_rfl) rfl (fields_cons (o := 1) (o' := 2) (ok := fun (y : (List S61) × (List ByteArray) × S25) => (rdSlice 22 40 rd61).ok y.1 ∧ ((rdSlice 23 16 (rdString 9)).ok y.2.1 ∧ (rd25.ok y.2.2))) (wt := fun (y : (List S61) × (List ByteArray) × S25) => (rdSlice 22 40 rd61).wt y.1 ∧ ((rdSlice 23 16 (rdString 9)).wt y.2.1 ∧ (rd25.wt y.2.2))) (bk := fun (y : (List S61) × (List ByteArray) × S25) => (rdSlice 22 40 rd61).bk y.1 + ((rdSlice 23 16 (rdString 9)).bk y.2.1 + (rd25.bk y.2.2))) (fit_int Try.underlying3) rfl rfl (by kernel_rfl) rfl (fields_cons (o := 2) (o' := 3) (ok := fun (y : (List ByteArray) × S25) => (rdSlice 23 16 (rdString 9)).ok y.1 ∧ (rd25.ok y.2)) (wt := fun (y : (List ByteArray) × S25) => (rdSlice 23 16 (rdString 9)).wt y.1 ∧ (rd25.wt y.2)) (bk := fun (y : (List ByteArray) × S25) => (rdSlice 23 16 (rdString 9)).bk y.1 + (rd25.bk y.2)) (fit_slice fit61 Try.underlying22 (by kernel_rfl) (by kernel_rfl)) rfl rfl (by kernel_rfl) rfl (fields_cons (o := 3) (o' := 4) (ok := fun (y : S25) => rd25.ok y) (wt := fun (y : S25) => rd25.wt y) (bk := fun (y : S25) => rd25.bk y) (fit_slice (fit_string Try.underlying9) Try.underlying23 (by kernel_rfl) (by kernel_rfl)) rfl rfl (by kernel_rfl) rfl (fields_one fit25 rfl rfl (by kernel_rfl)))))) Try.underlying27 (by kernel_rfl) (fun x : S27 => (x.f0, x.f1, x.f2, x.f3, x.f4)) (fun y => ⟨y.1, y.2.1, y.2.2.1, y.2.2.2.1, y.2.2.2.2⟩) (fun _ => rfl)
instance : Inhabited S30 := ⟨z30⟩
def rd30 : Rd S30 := rdStruct 30 (Kd.pair (rdInt 3 .i64).d (Kd.pair (rdInt 3 .i64).d (Kd.pair (rdInt 3 .i64).d (rdString 9).d))) (fun x : S30 => (x.f0, x.f1, x.f2, x.f3)) (fun y => (rdInt 3 .i64).ok y.1 ∧ ((rdInt 3 .i64).ok y.2.1 ∧ ((rdInt 3 .i64).ok y.2.2.1 ∧ ((rdString 9).ok y.2.2.2)))) (fun y => (rdInt 3 .i64).wt y.1 ∧ ((rdInt 3 .i64).wt y.2.1 ∧ ((rdInt 3 .i64).wt y.2.2.1 ∧ ((rdString 9).wt y.2.2.2)))) (fun y => (rdInt 3 .i64).bk y.1 + ((rdInt 3 .i64).bk y.2.1 + ((rdInt 3 .i64).bk y.2.2.1 + ((rdString 9).bk y.2.2.2))))
theorem fit30 : Fits Try.prog rd30 :=
  fit_struct (fields_cons (o := 0) (o' := 1) (ok := fun (y : Int × Int × ByteArray) => (rdInt 3 .i64).ok y.1 ∧ ((rdInt 3 .i64).ok y.2.1 ∧ ((rdString 9).ok y.2.2))) (wt := fun (y : Int × Int × ByteArray) => (rdInt 3 .i64).wt y.1 ∧ ((rdInt 3 .i64).wt y.2.1 ∧ ((rdString 9).wt y.2.2))) (bk := fun (y : Int × Int × ByteArray) => (rdInt 3 .i64).bk y.1 + ((rdInt 3 .i64).bk y.2.1 + ((rdString 9).bk y.2.2))) (fit_int Try.underlying3) rfl rfl (by kernel_rfl) rfl (fields_cons (o := 1) (o' := 2) (ok := fun (y : Int × ByteArray) => (rdInt 3 .i64).ok y.1 ∧ ((rdString 9).ok y.2)) (wt := fun (y : Int × ByteArray) => (rdInt 3 .i64).wt y.1 ∧ ((rdString 9).wt y.2)) (bk := fun (y : Int × ByteArray) => (rdInt 3 .i64).bk y.1 + ((rdString 9).bk y.2)) (fit_int Try.underlying3) rfl rfl (by kernel_rfl) rfl (fields_cons (o := 2) (o' := 3) (ok := fun (y : ByteArray) => (rdString 9).ok y) (wt := fun (y : ByteArray) => (rdString 9).wt y) (bk := fun (y : ByteArray) => (rdString 9).bk y) (fit_int Try.underlying3) rfl rfl (by kernel_rfl) rfl (fields_one (fit_string Try.underlying9) rfl rfl (by kernel_rfl))))) Try.underlying30 (by kernel_rfl) (fun x : S30 => (x.f0, x.f1, x.f2, x.f3)) (fun y => ⟨y.1, y.2.1, y.2.2.1, y.2.2.2⟩) (fun _ => rfl)
instance : Inhabited S32 := ⟨z32⟩
def rd32 : Rd S32 := rdStruct 32 (Kd.pair rd27.d (Kd.pair (rdInt 28 .u64).d (Kd.pair rd30.d (rdInt 3 .i64).d))) (fun x : S32 => (x.f0, x.f1, x.f2, x.f3)) (fun y => rd27.ok y.1 ∧ ((rdInt 28 .u64).ok y.2.1 ∧ (rd30.ok y.2.2.1 ∧ ((rdInt 3 .i64).ok y.2.2.2)))) (fun y => rd27.wt y.1 ∧ ((rdInt 28 .u64).wt y.2.1 ∧ (rd30.wt y.2.2.1 ∧ ((rdInt 3 .i64).wt y.2.2.2)))) (fun y => rd27.bk y.1 + ((rdInt 28 .u64).bk y.2.1 + (rd30.bk y.2.2.1 + ((rdInt 3 .i64).bk y.2.2.2))))
theorem fit32 : Fits Try.prog rd32 :=
  fit_struct (fields_cons (o := 0) (o' := 6) (ok := fun (y : Int × S30 × Int) => (rdInt 28 .u64).ok y.1 ∧ (rd30.ok y.2.1 ∧ ((rdInt 3 .i64).ok y.2.2))) (wt := fun (y : Int × S30 × Int) => (rdInt 28 .u64).wt y.1 ∧ (rd30.wt y.2.1 ∧ ((rdInt 3 .i64).wt y.2.2))) (bk := fun (y : Int × S30 × Int) => (rdInt 28 .u64).bk y.1 + (rd30.bk y.2.1 + ((rdInt 3 .i64).bk y.2.2))) fit27 rfl rfl (by kernel_rfl) rfl (fields_cons (o := 6) (o' := 7) (ok := fun (y : S30 × Int) => rd30.ok y.1 ∧ ((rdInt 3 .i64).ok y.2)) (wt := fun (y : S30 × Int) => rd30.wt y.1 ∧ ((rdInt 3 .i64).wt y.2)) (bk := fun (y : S30 × Int) => rd30.bk y.1 + ((rdInt 3 .i64).bk y.2)) (fit_int Try.underlying28) rfl rfl (by kernel_rfl) rfl (fields_cons (o := 7) (o' := 11) (ok := fun (y : Int) => (rdInt 3 .i64).ok y) (wt := fun (y : Int) => (rdInt 3 .i64).wt y) (bk := fun (y : Int) => (rdInt 3 .i64).bk y) fit30 rfl rfl (by kernel_rfl) rfl (fields_one (fit_int Try.underlying3) rfl rfl (by kernel_rfl))))) Try.underlying32 (by kernel_rfl) (fun x : S32 => (x.f0, x.f1, x.f2, x.f3)) (fun y => ⟨y.1, y.2.1, y.2.2.1, y.2.2.2⟩) (fun _ => rfl)
def selvedgelaw18_PostWrites_PureS : Prop := ∀ (a0 : S32), rd32.ok a0 → rd32.wt a0 → selvedgelaw18_PostWrites.f (a0.f0.f0) (a0.f0.f1) (a0.f0.f2) (a0.f0.f3) (a0.f0.f4.f0) (a0.f0.f4.f1) (a0.f1) (a0.f2.f0) (a0.f2.f1) (a0.f2.f2) (a0.f2.f3) (a0.f3) = some true
end Go.Proofs.Ytnkeecogengfhaa.Px
