/- Part 32 of 33 of the proof of the law PostBack: what is proved is the statement at the end of the last part; its conditions are those of the given row. -/
import Derived.Test.YtenbifjbeeobjaaZPostBacke
namespace Go.Proofs.Ytenbifjbeeobjaa.Px
open Go.RowKit Go.Proofs.YtenbifjbeeobjaaW.PrintWords Go.Proofs.YtenbifjbeeobjaaW.PrintLast Go.Proofs.YtenbifjbeeobjaaW.PrintMore
attribute [local go_sem] zC zE zJ zK zv zw zB zD
set_option linter.unusedVariables false
set_option linter.unusedSimpArgs false
theorem zhE {w w' : World} (h : zI w w') : Below w.heap.size w w' := by
  obtain ⟨n, rfl⟩ := h
  exact zd (Below.refl _ _) n
theorem zfi (d : Nat) (w : World) (x0 y0 : Int) (x1 y1 : Int) (x2 y2 : Int) (x3 y3 : ByteArray) :
    (Op.equalIn (d + 2) 42 (.agg #[.int .i64 x0, .int .i64 x1, .int .i64 x2, .string x3]) (.agg #[.int .i64 y0, .int .i64 y1, .int .i64 y2, .string y3])).run Try.prog w = .ok (x0 == y0 && (x1 == y1 && (x2 == y2 && (x3.toList == y3.toList)))) w := by
  refine zf9 Try.underlying42 (by kernel_rfl) ?_
  refine zcA (by rfl) (by go_simp; rfl) (by go_simp; rfl) (by go_simp) ?_
  refine zcA (by rfl) (by go_simp; rfl) (by go_simp; rfl) (by go_simp) ?_
  refine zcA (by rfl) (by go_simp; rfl) (by go_simp; rfl) (by go_simp) ?_
  exact zeN (by rfl) (by go_simp; rfl) (by go_simp; rfl) (by go_simp)
theorem zec (d : Nat) (w : World) (x0 y0 : Int) (x1 y1 : Int) (x2 y2 : ByteArray) :
    (Op.equalIn (d + 2) 48 (.agg #[.int .i64 x0, .int .i64 x1, .string x2]) (.agg #[.int .i64 y0, .int .i64 y1, .string y2])).run Try.prog w = .ok (x0 == y0 && (x1 == y1 && (x2.toList == y2.toList))) w := by
  refine zf9 Try.underlying48 (by kernel_rfl) ?_
  refine zcA (by rfl) (by go_simp; rfl) (by go_simp; rfl) (by go_simp) ?_
  refine zcA (by rfl) (by go_simp; rfl) (by go_simp; rfl) (by go_simp) ?_
  exact zeN (by rfl) (by go_simp; rfl) (by go_simp; rfl) (by go_simp)
set_option maxHeartbeats 16000000 in
set_option maxRecDepth 100000 in
theorem zaC.walk (a r : Int) (A2 : Option Addr) (c2 : Nat) (bs : List zR) (A3 : Option Addr) (c3 : Nat) (ps : List ByteArray) (x y s sa sr sv : Int) (d : ByteArray) (n : Int) (w : World) (hr2 : Kd.C zbB w A2 bs.length bs) (hc2 : bs.length ≤ c2) (hr3 : Kd.C Kd.string w A3 ps.length ps) (hc3 : ps.length ≤ c3)
    (k0 k1 k2 k3 : Nat) (hS pS yS bS tS : ByteArray) (hE pE yE bE : Int) (h0 : zaU.f k0 = some true) (h1 : zbL.f a r bs ps x y n = some (hS, hE)) (h2 : zbV.f a r bs ps x y s n = some (pS, pE)) (h3 : zag.f k1 sa sr sv d = some (yS, yE)) (h4 : zaF.f sa sr d = some (bS, bE)) (h5 : zdb.f d = some tS) (h6 : zbc.f tS = some (d, 0))
    (h7 : hE = 0 → zz.f hS n = some (a, r, bs, ps, x, y, 0) ∧ zap.f k2 a r bs ps x y a r bs ps x y = some true) (h8 : pE = 0 → zF.f pS n = some (a, r, bs, ps, x, y, s, 0) ∧ zaO.f k3 a r bs ps x y s a r bs ps x y s = some true) (h9 : yE = 0 → za4.f yS = some (sa, sr, sv, d, 0)) (h10 : bE = 0 → zaJ.f bS = some (sa, sr, d, 0)) :
    Calls Try.prog 5 #[.agg #[.int .i64 a, .int .i64 r, .slice A2 bs.length c2, .slice A3 ps.length c3, .int .i64 x, .int .i64 y, .int .u64 s, .int .i64 sa, .int .i64 sr, .int .i64 sv, .string d, .int .i64 n]] w fun e w' => e = .returned (.bool true) ∧ Below w.heap.size w w' := by
  have HR2 := zb.mk hr2
  have HC2 := zb.mk hc2
  have HR3 := zb.mk hr3
  have HC3 := zb.mk hc3
  have H0 := zb.mk h0
  have H1 := zb.mk h1
  have H2 := zb.mk h2
  have H3 := zb.mk h3
  have H4 := zb.mk h4
  have H5 := zb.mk h5
  have H6 := zb.mk h6
  have H7 := zb.mk h7
  have H8 := zb.mk h8
  have H9 := zb.mk h9
  have H10 := zb.mk h10
  have q1 := zfi
  have q2 := zec
  clear hr2 hc2 hr3 hc3 h0 h1 h2 h3 h4 h5 h6 h7 h8 h9 h10
  go_enter Try.func5, Try.ntmps5
  go_upto_if 46 with (first
    | ((with_reducible refine zq (N := 1) rfl ?_); refine zp ?hg (N := 1) ?hd (cs := #[.int .i64 a, .int .i64 r, .slice A2 bs.length c2, .slice A3 ps.length c3, .int .i64 x, .int .i64 y, .int .u64 s, .int .i64 sa, .int .i64 sr, .int .i64 sv, .string d, .int .i64 n]) (t := 62) ?hr ?_; (case hd => rfl); (case hg => rfl); (case hr => first | (go_simp; done) | (go_simp; rfl)); intro g1 hg w1 hbox hb; have B1 := zb.mk hbox; have HB1 := zb.mk hb; clear hb hbox hg; have ha0 := (zc B1.out 0).trans rfl; have fha0 := za B1.out 0; have ha1 := (zc B1.out 1).trans rfl; have fha1 := za B1.out 1; have ha2 := (zc B1.out 2).trans rfl; have fha2 := za B1.out 2; have ha3 := (zc B1.out 3).trans rfl; have fha3 := za B1.out 3; have ha4 := (zc B1.out 4).trans rfl; have fha4 := za B1.out 4; have ha5 := (zc B1.out 5).trans rfl; have fha5 := za B1.out 5; have ha6 := (zc B1.out 6).trans rfl; have fha6 := za B1.out 6; have ha7 := (zc B1.out 7).trans rfl; have fha7 := za B1.out 7; have ha8 := (zc B1.out 8).trans rfl; have fha8 := za B1.out 8; have ha9 := (zc B1.out 9).trans rfl; have fha9 := za B1.out 9; have ha10 := (zc B1.out 10).trans rfl; have fha10 := za B1.out 10; have ha11 := (zc B1.out 11).trans rfl; have fha11 := za B1.out 11)
    | ((with_reducible refine zq (N := 3) rfl ?_); refine zp ?hg (N := 3) ?hd (cs := #[.int .i64 0, .int .i64 0, .slice none 0 0, .slice none 0 0, .int .i64 0, .int .i64 0]) (t := 28) ?hr ?_; (case hd => rfl); (case hg => rfl); (case hr => first | (go_simp; done) | (go_simp; rfl)); intro g3 hg w2 hbox hb; have G3 : zb (w.heap.size ≤ g3) := ⟨by rw [hg]; exact zo HB1.out⟩; have N3_1 : zb (g3 ≠ g1) := ⟨by rw [hg]; exact Nat.ne_of_gt (zH B1.out)⟩; have n3_1 := N3_1.out; have m3_1 := Ne.symm N3_1.out; have B3 := zb.mk hbox; have C1 := zb.mk (zk B1.out hb); have HB2 := zb.mk (zl HB1.out hb); clear hb hbox hg; have hb6 := (zc C1.out 6).trans rfl; have fhb6 := za C1.out 6; have hb7 := (zc C1.out 7).trans rfl; have fhb7 := za C1.out 7; have hb8 := (zc C1.out 8).trans rfl; have fhb8 := za C1.out 8; have hb9 := (zc C1.out 9).trans rfl; have fhb9 := za C1.out 9; have hb10 := (zc C1.out 10).trans rfl; have fhb10 := za C1.out 10; have hb11 := (zc C1.out 11).trans rfl; have fhb11 := za C1.out 11; have hc0 := (zc B3.out 0).trans rfl; have fhc0 := za B3.out 0; have hc1 := (zc B3.out 1).trans rfl; have fhc1 := za B3.out 1; have hc2 := (zc B3.out 2).trans rfl; have fhc2 := za B3.out 2; have hc3 := (zc B3.out 3).trans rfl; have fhc3 := za B3.out 3; have hc4 := (zc B3.out 4).trans rfl; have fhc4 := za B3.out 4; have hc5 := (zc B3.out 5).trans rfl; have fhc5 := za B3.out 5)
    | ((with_reducible refine zq (N := 5) rfl ?_); refine zp ?hg (N := 5) ?hd (cs := #[.int .i64 0, .int .i64 0, .int .i64 0, .string ⟨#[]⟩]) (t := 42) ?hr ?_; (case hd => rfl); (case hg => rfl); (case hr => first | (go_simp; done) | (go_simp; rfl)); intro g5 hg w3 hbox hb; have G5 : zb (w.heap.size ≤ g5) := ⟨by rw [hg]; exact zo (zg (zg (zg (zg (zg (zg HB2.out G3.out) G3.out) G3.out) G3.out) G3.out) G3.out)⟩; have N5_1 : zb (g5 ≠ g1) := ⟨by rw [hg]; exact Nat.ne_of_gt (zH (zm (zm (zm (zm (zm (zm C1.out (Ne.symm N3_1.out) _) (Ne.symm N3_1.out) _) (Ne.symm N3_1.out) _) (Ne.symm N3_1.out) _) (Ne.symm N3_1.out) _) (Ne.symm N3_1.out) _))⟩; have n5_1 := N5_1.out; have m5_1 := Ne.symm N5_1.out; have N5_3 : zb (g5 ≠ g3) := ⟨by rw [hg]; exact Nat.ne_of_gt (zH (zn (cs := #[.int .i64 a, .int .i64 r, .slice A2 bs.length c2, .slice A3 ps.length c3, .int .i64 x, .int .i64 0]) (cs' := #[.int .i64 a, .int .i64 r, .slice A2 bs.length c2, .slice A3 ps.length c3, .int .i64 x, .int .i64 y]) (zn (cs := #[.int .i64 a, .int .i64 r, .slice A2 bs.length c2, .slice A3 ps.length c3, .int .i64 0, .int .i64 0]) (cs' := #[.int .i64 a, .int .i64 r, .slice A2 bs.length c2, .slice A3 ps.length c3, .int .i64 x, .int .i64 0]) (zn (cs := #[.int .i64 a, .int .i64 r, .slice A2 bs.length c2, .slice none 0 0, .int .i64 0, .int .i64 0]) (cs' := #[.int .i64 a, .int .i64 r, .slice A2 bs.length c2, .slice A3 ps.length c3, .int .i64 0, .int .i64 0]) (zn (cs := #[.int .i64 a, .int .i64 r, .slice none 0 0, .slice none 0 0, .int .i64 0, .int .i64 0]) (cs' := #[.int .i64 a, .int .i64 r, .slice A2 bs.length c2, .slice none 0 0, .int .i64 0, .int .i64 0]) (zn (cs := #[.int .i64 a, .int .i64 0, .slice none 0 0, .slice none 0 0, .int .i64 0, .int .i64 0]) (cs' := #[.int .i64 a, .int .i64 r, .slice none 0 0, .slice none 0 0, .int .i64 0, .int .i64 0]) (zn (cs := #[.int .i64 0, .int .i64 0, .slice none 0 0, .slice none 0 0, .int .i64 0, .int .i64 0]) (cs' := #[.int .i64 a, .int .i64 0, .slice none 0 0, .slice none 0 0, .int .i64 0, .int .i64 0]) B3.out 0 _ rfl) 1 _ rfl) 2 _ rfl) 3 _ rfl) 4 _ rfl) 5 _ rfl))⟩; have n5_3 := N5_3.out; have m5_3 := Ne.symm N5_3.out; have B5 := zb.mk hbox; have D1 := zb.mk (zk (zm (zm (zm (zm (zm (zm C1.out (Ne.symm N3_1.out) _) (Ne.symm N3_1.out) _) (Ne.symm N3_1.out) _) (Ne.symm N3_1.out) _) (Ne.symm N3_1.out) _) (Ne.symm N3_1.out) _) hb); have D3 := zb.mk (zk (zn (cs := #[.int .i64 a, .int .i64 r, .slice A2 bs.length c2, .slice A3 ps.length c3, .int .i64 x, .int .i64 0]) (cs' := #[.int .i64 a, .int .i64 r, .slice A2 bs.length c2, .slice A3 ps.length c3, .int .i64 x, .int .i64 y]) (zn (cs := #[.int .i64 a, .int .i64 r, .slice A2 bs.length c2, .slice A3 ps.length c3, .int .i64 0, .int .i64 0]) (cs' := #[.int .i64 a, .int .i64 r, .slice A2 bs.length c2, .slice A3 ps.length c3, .int .i64 x, .int .i64 0]) (zn (cs := #[.int .i64 a, .int .i64 r, .slice A2 bs.length c2, .slice none 0 0, .int .i64 0, .int .i64 0]) (cs' := #[.int .i64 a, .int .i64 r, .slice A2 bs.length c2, .slice A3 ps.length c3, .int .i64 0, .int .i64 0]) (zn (cs := #[.int .i64 a, .int .i64 r, .slice none 0 0, .slice none 0 0, .int .i64 0, .int .i64 0]) (cs' := #[.int .i64 a, .int .i64 r, .slice A2 bs.length c2, .slice none 0 0, .int .i64 0, .int .i64 0]) (zn (cs := #[.int .i64 a, .int .i64 0, .slice none 0 0, .slice none 0 0, .int .i64 0, .int .i64 0]) (cs' := #[.int .i64 a, .int .i64 r, .slice none 0 0, .slice none 0 0, .int .i64 0, .int .i64 0]) (zn (cs := #[.int .i64 0, .int .i64 0, .slice none 0 0, .slice none 0 0, .int .i64 0, .int .i64 0]) (cs' := #[.int .i64 a, .int .i64 0, .slice none 0 0, .slice none 0 0, .int .i64 0, .int .i64 0]) B3.out 0 _ rfl) 1 _ rfl) 2 _ rfl) 3 _ rfl) 4 _ rfl) 5 _ rfl) hb); have HB3 := zb.mk (zl (zg (zg (zg (zg (zg (zg HB2.out G3.out) G3.out) G3.out) G3.out) G3.out) G3.out) hb); clear hb hbox hg; have hd11 := (zc D1.out 11).trans rfl; have fhd11 := za D1.out 11; have he0 := (zc B5.out 0).trans rfl; have fhe0 := za B5.out 0; have he1 := (zc B5.out 1).trans rfl; have fhe1 := za B5.out 1; have he2 := (zc B5.out 2).trans rfl; have fhe2 := za B5.out 2; have he3 := (zc B5.out 3).trans rfl; have fhe3 := za B5.out 3)
    | (go_at_call 6; (with_reducible refine (zaU.calls k0 true _ H0.out).mono ?_); rintro e w4 ⟨rfl, hb⟩; have E3 := zb.mk (zk (zm (zm (zm (zm D3.out (Ne.symm N5_3.out) _) (Ne.symm N5_3.out) _) (Ne.symm N5_3.out) _) (Ne.symm N5_3.out) _) hb); have E5 := zb.mk (zk (zn (cs := #[.int .i64 sa, .int .i64 sr, .int .i64 sv, .string ⟨#[]⟩]) (cs' := #[.int .i64 sa, .int .i64 sr, .int .i64 sv, .string d]) (zn (cs := #[.int .i64 sa, .int .i64 sr, .int .i64 0, .string ⟨#[]⟩]) (cs' := #[.int .i64 sa, .int .i64 sr, .int .i64 sv, .string ⟨#[]⟩]) (zn (cs := #[.int .i64 sa, .int .i64 0, .int .i64 0, .string ⟨#[]⟩]) (cs' := #[.int .i64 sa, .int .i64 sr, .int .i64 0, .string ⟨#[]⟩]) (zn (cs := #[.int .i64 0, .int .i64 0, .int .i64 0, .string ⟨#[]⟩]) (cs' := #[.int .i64 sa, .int .i64 0, .int .i64 0, .string ⟨#[]⟩]) B5.out 0 _ rfl) 1 _ rfl) 2 _ rfl) 3 _ rfl) hb); have HE := zb.mk (zl (zg (zg (zg (zg HB3.out G5.out) G5.out) G5.out) G5.out) hb); clear hb; have hv0 := (zc E3.out 0).trans rfl; have fhv0 := za E3.out 0; have hv1 := (zc E3.out 1).trans rfl; have fhv1 := za E3.out 1; have hv2 := (zc E3.out 2).trans rfl; have fhv2 := za E3.out 2; have hv3 := (zc E3.out 3).trans rfl; have fhv3 := za E3.out 3; have hv4 := (zc E3.out 4).trans rfl; have fhv4 := za E3.out 4; have hv5 := (zc E3.out 5).trans rfl; have fhv5 := za E3.out 5)
    | (go_at_call 19; (with_reducible refine (zbL.calls a r _ _ bs _ _ ps x y n _ _ _ (Kd.C_below HR2.out HE.out) HC2.out (Kd.C_below HR3.out HE.out) HC3.out H1.out).mono ?_); rintro e w5 ⟨rfl, hb⟩; have nE3 := zb.mk (zk E3.out hb); have nE5 := zb.mk (zk E5.out hb); have nHE := zb.mk (zl HE.out hb); clear E3 E5 HE; have E3 := nE3; have E5 := nE5; have HE := nHE; clear nE3 nE5 nHE hb))
  go_cut [10, 11, 12] (fun v10 v11 v12 wc => zb (wc.heap[g3]? = some (.cells #[.int .i64 a, .int .i64 r, .slice A2 bs.length c2, .slice A3 ps.length c3, .int .i64 x, .int .i64 y] 28 (0, 0))) ∧ zb (wc.heap[g5]? = some (.cells #[.int .i64 sa, .int .i64 sr, .int .i64 sv, .string d] 42 (0, 0))) ∧ zb (Below w.heap.size w wc))
  case first =>
    by_cases hz : hE = 0
    · have hz1 : (hE == 0) = true := beq_iff_eq.2 hz
      have HT := zb.mk (H7.out hz).1
      have HM := zb.mk (H7.out hz).2
      clear hz
      go_wp2_with (first
        | (go_at_call 7; (with_reducible refine (zz.calls hS n _ _ _ _ _ _ _ _ HT.out).mono ?_); rintro e w6 ⟨v2, v3, rfl, hS2, hS3, hb⟩; have nE3 := zb.mk (zk E3.out hb); have nE5 := zb.mk (zk E5.out hb); have nHE := zb.mk (zl HE.out hb); clear E3 E5 HE; have E3 := nE3; have E5 := nE5; have HE := nHE; clear nE3 nE5 nHE hb; obtain ⟨A4, c4, rfl⟩ := Kd.S_slice hS2; obtain ⟨A5, c5, rfl⟩ := Kd.R_slice hS3; have R4 := zb.mk (Kd.S_reads' hS2).2.2; have M4 := zb.mk (Kd.S_reads' hS2).2.1; have R5 := zb.mk (Kd.R_reads' hS3).2.2; have M5 := zb.mk (Kd.R_reads' hS3).2.1; clear hS2 hS3)
        | ((with_reducible refine zq (N := 10) rfl ?_); refine zp ?hg (N := 10) ?hd (cs := #[.int .i64 0, .int .i64 0, .slice none 0 0, .slice none 0 0, .int .i64 0, .int .i64 0]) (t := 28) ?hr ?_; (case hd => rfl); (case hg => rfl); (case hr => first | (go_simp; done) | (go_simp; rfl)); intro g10 hg w7 hbox hb; have G10 : zb (w.heap.size ≤ g10) := ⟨by rw [hg]; exact zo HE.out⟩; have H10b : zb (w6.heap.size ≤ g10) := ⟨by rw [hg]; exact Nat.le_refl _⟩; have N10_3 : zb (g10 ≠ g3) := ⟨by rw [hg]; exact Nat.ne_of_gt (zH E3.out)⟩; have n10_3 := N10_3.out; have m10_3 := Ne.symm N10_3.out; have N10_5 : zb (g10 ≠ g5) := ⟨by rw [hg]; exact Nat.ne_of_gt (zH E5.out)⟩; have n10_5 := N10_5.out; have m10_5 := Ne.symm N10_5.out; have B10 := zb.mk hbox; have HL := zb.mk hb; have nE3 := zb.mk (zk E3.out hb); have nE5 := zb.mk (zk E5.out hb); have nHE := zb.mk (zl HE.out hb); clear E3 E5 HE; have E3 := nE3; have E5 := nE5; have HE := nHE; clear nE3 nE5 nHE hb; clear hbox hg; have hx0 := (zc E3.out 0).trans rfl; have fhx0 := za E3.out 0; have hx1 := (zc E3.out 1).trans rfl; have fhx1 := za E3.out 1; have hx2 := (zc E3.out 2).trans rfl; have fhx2 := za E3.out 2; have hx3 := (zc E3.out 3).trans rfl; have fhx3 := za E3.out 3; have hx4 := (zc E3.out 4).trans rfl; have fhx4 := za E3.out 4; have hx5 := (zc E3.out 5).trans rfl; have fhx5 := za E3.out 5; have hy0 := (zc B10.out 0).trans rfl; have fhy0 := za B10.out 0; have hy1 := (zc B10.out 1).trans rfl; have fhy1 := za B10.out 1; have hy2 := (zc B10.out 2).trans rfl; have fhy2 := za B10.out 2; have hy3 := (zc B10.out 3).trans rfl; have fhy3 := za B10.out 3; have hy4 := (zc B10.out 4).trans rfl; have fhy4 := za B10.out 4; have hy5 := (zc B10.out 5).trans rfl; have fhy5 := za B10.out 5)
        | (go_at_call 17; (with_reducible refine (zap.calls k2 a r _ _ bs _ _ ps x y a r _ _ bs _ _ ps x y true _ (Kd.C_below HR2.out (zg (zg (zg (zg (zg (zg HE.out G10.out) G10.out) G10.out) G10.out) G10.out) G10.out)) HC2.out (Kd.C_below HR3.out (zg (zg (zg (zg (zg (zg HE.out G10.out) G10.out) G10.out) G10.out) G10.out) G10.out)) HC3.out (Kd.C_below R4.out (zg (zg (zg (zg (zg (zg HL.out H10b.out) H10b.out) H10b.out) H10b.out) H10b.out) H10b.out)) M4.out (Kd.C_below R5.out (zg (zg (zg (zg (zg (zg HL.out H10b.out) H10b.out) H10b.out) H10b.out) H10b.out) H10b.out)) M5.out HM.out).mono ?_); rintro e w8 ⟨rfl, hb⟩; have F3 := zb.mk (zk (zm (zm (zm (zm (zm (zm E3.out (Ne.symm N10_3.out) _) (Ne.symm N10_3.out) _) (Ne.symm N10_3.out) _) (Ne.symm N10_3.out) _) (Ne.symm N10_3.out) _) (Ne.symm N10_3.out) _) hb); have F5 := zb.mk (zk (zm (zm (zm (zm (zm (zm E5.out (Ne.symm N10_5.out) _) (Ne.symm N10_5.out) _) (Ne.symm N10_5.out) _) (Ne.symm N10_5.out) _) (Ne.symm N10_5.out) _) (Ne.symm N10_5.out) _) hb); have FE := zb.mk (zl (zg (zg (zg (zg (zg (zg HE.out G10.out) G10.out) G10.out) G10.out) G10.out) G10.out) hb); clear hb))
      go_meet
      case rel => exact ⟨F3, F5, FE⟩
    · have hz1 : (hE == 0) = false := beq_eq_false_iff_ne.2 hz
      clear hz
      go_wp2
      go_meet
      case rel => exact ⟨E3, E5, HE⟩
  case rest =>
  obtain ⟨E3, E5, HE⟩ := hcut
  have hv0 := (zc E3.out 0).trans rfl; have fhv0 := za E3.out 0; have hv1 := (zc E3.out 1).trans rfl; have fhv1 := za E3.out 1; have hv2 := (zc E3.out 2).trans rfl; have fhv2 := za E3.out 2; have hv3 := (zc E3.out 3).trans rfl; have fhv3 := za E3.out 3; have hv4 := (zc E3.out 4).trans rfl; have fhv4 := za E3.out 4; have hv5 := (zc E3.out 5).trans rfl; have fhv5 := za E3.out 5
  go_upto_if 72 with (first
    | ((with_reducible refine zq (N := 13) rfl ?_); refine zp ?hg (N := 13) ?hd (cs := #[.int .i64 0, .int .i64 0, .slice none 0 0, .slice none 0 0, .int .i64 0, .int .i64 0, .int .u64 0]) (t := 36) ?hr ?_; (case hd => rfl); (case hg => rfl); (case hr => first | (go_simp; done) | (go_simp; rfl)); intro g13 hg w9 hbox hb; have G13 : zb (w.heap.size ≤ g13) := ⟨by rw [hg]; exact zo HE.out⟩; have N13_3 : zb (g13 ≠ g3) := ⟨by rw [hg]; exact Nat.ne_of_gt (zH E3.out)⟩; have n13_3 := N13_3.out; have m13_3 := Ne.symm N13_3.out; have N13_5 : zb (g13 ≠ g5) := ⟨by rw [hg]; exact Nat.ne_of_gt (zH E5.out)⟩; have n13_5 := N13_5.out; have m13_5 := Ne.symm N13_5.out; have B13 := zb.mk hbox; have nE3 := zb.mk (zk E3.out hb); have nE5 := zb.mk (zk E5.out hb); have nHE := zb.mk (zl HE.out hb); clear E3 E5 HE; have E3 := nE3; have E5 := nE5; have HE := nHE; clear nE3 nE5 nHE hb; clear hbox hg; have hq0 := (zc B13.out 0).trans rfl; have fhq0 := za B13.out 0; have hq1 := (zc B13.out 1).trans rfl; have fhq1 := za B13.out 1; have hq2 := (zc B13.out 2).trans rfl; have fhq2 := za B13.out 2; have hq3 := (zc B13.out 3).trans rfl; have fhq3 := za B13.out 3; have hq4 := (zc B13.out 4).trans rfl; have fhq4 := za B13.out 4; have hq5 := (zc B13.out 5).trans rfl; have fhq5 := za B13.out 5; have hq6 := (zc B13.out 6).trans rfl; have fhq6 := za B13.out 6)
    | (go_at_call 20; (with_reducible refine (zbV.calls a r _ _ bs _ _ ps x y s n _ _ _ (Kd.C_below HR2.out (zg (zg (zg (zg (zg (zg (zg HE.out G13.out) G13.out) G13.out) G13.out) G13.out) G13.out) G13.out)) HC2.out (Kd.C_below HR3.out (zg (zg (zg (zg (zg (zg (zg HE.out G13.out) G13.out) G13.out) G13.out) G13.out) G13.out) G13.out)) HC3.out H2.out).mono ?_); rintro e w10 ⟨rfl, hb⟩; have E13 := zb.mk (zk (zn (cs := #[.int .i64 a, .int .i64 r, .slice A2 bs.length c2, .slice A3 ps.length c3, .int .i64 x, .int .i64 y, .int .u64 0]) (cs' := #[.int .i64 a, .int .i64 r, .slice A2 bs.length c2, .slice A3 ps.length c3, .int .i64 x, .int .i64 y, .int .u64 s]) (zn (cs := #[.int .i64 a, .int .i64 r, .slice A2 bs.length c2, .slice A3 ps.length c3, .int .i64 x, .int .i64 0, .int .u64 0]) (cs' := #[.int .i64 a, .int .i64 r, .slice A2 bs.length c2, .slice A3 ps.length c3, .int .i64 x, .int .i64 y, .int .u64 0]) (zn (cs := #[.int .i64 a, .int .i64 r, .slice A2 bs.length c2, .slice A3 ps.length c3, .int .i64 0, .int .i64 0, .int .u64 0]) (cs' := #[.int .i64 a, .int .i64 r, .slice A2 bs.length c2, .slice A3 ps.length c3, .int .i64 x, .int .i64 0, .int .u64 0]) (zn (cs := #[.int .i64 a, .int .i64 r, .slice A2 bs.length c2, .slice none 0 0, .int .i64 0, .int .i64 0, .int .u64 0]) (cs' := #[.int .i64 a, .int .i64 r, .slice A2 bs.length c2, .slice A3 ps.length c3, .int .i64 0, .int .i64 0, .int .u64 0]) (zn (cs := #[.int .i64 a, .int .i64 r, .slice none 0 0, .slice none 0 0, .int .i64 0, .int .i64 0, .int .u64 0]) (cs' := #[.int .i64 a, .int .i64 r, .slice A2 bs.length c2, .slice none 0 0, .int .i64 0, .int .i64 0, .int .u64 0]) (zn (cs := #[.int .i64 a, .int .i64 0, .slice none 0 0, .slice none 0 0, .int .i64 0, .int .i64 0, .int .u64 0]) (cs' := #[.int .i64 a, .int .i64 r, .slice none 0 0, .slice none 0 0, .int .i64 0, .int .i64 0, .int .u64 0]) (zn (cs := #[.int .i64 0, .int .i64 0, .slice none 0 0, .slice none 0 0, .int .i64 0, .int .i64 0, .int .u64 0]) (cs' := #[.int .i64 a, .int .i64 0, .slice none 0 0, .slice none 0 0, .int .i64 0, .int .i64 0, .int .u64 0]) B13.out 0 _ rfl) 1 _ rfl) 2 _ rfl) 3 _ rfl) 4 _ rfl) 5 _ rfl) 6 _ rfl) hb); have nE5 := zb.mk (zk (zm (zm (zm (zm (zm (zm (zm E5.out (Ne.symm N13_5.out) _) (Ne.symm N13_5.out) _) (Ne.symm N13_5.out) _) (Ne.symm N13_5.out) _) (Ne.symm N13_5.out) _) (Ne.symm N13_5.out) _) (Ne.symm N13_5.out) _) hb); have nHE := zb.mk (zl (zg (zg (zg (zg (zg (zg (zg HE.out G13.out) G13.out) G13.out) G13.out) G13.out) G13.out) G13.out) hb); clear E3 E5 HE B13 hb; have E5 := nE5; have HE := nHE; clear nE5 nHE))
  go_cut [16, 17, 18] (fun v16 v17 v18 wc => zb (wc.heap[g5]? = some (.cells #[.int .i64 sa, .int .i64 sr, .int .i64 sv, .string d] 42 (0, 0))) ∧ zb (Below w.heap.size w wc))
  case first =>
    by_cases hz : pE = 0
    · have hz1 : (pE == 0) = true := beq_iff_eq.2 hz
      have HT := zb.mk (H8.out hz).1
      have HM := zb.mk (H8.out hz).2
      clear hz
      go_wp2_with (first
        | (go_at_call 9; (with_reducible refine (zF.calls pS n _ _ _ _ _ _ _ _ _ HT.out).mono ?_); rintro e w11 ⟨v2, v3, rfl, hS2, hS3, hb⟩; have nE13 := zb.mk (zk E13.out hb); have nE5 := zb.mk (zk E5.out hb); have nHE := zb.mk (zl HE.out hb); clear E13 E5 HE; have E13 := nE13; have E5 := nE5; have HE := nHE; clear nE13 nE5 nHE hb; obtain ⟨A4, c4, rfl⟩ := Kd.S_slice hS2; obtain ⟨A5, c5, rfl⟩ := Kd.R_slice hS3; have R4 := zb.mk (Kd.S_reads' hS2).2.2; have M4 := zb.mk (Kd.S_reads' hS2).2.1; have R5 := zb.mk (Kd.R_reads' hS3).2.2; have M5 := zb.mk (Kd.R_reads' hS3).2.1; clear hS2 hS3)
        | ((with_reducible refine zq (N := 16) rfl ?_); refine zp ?hg (N := 16) ?hd (cs := #[.int .i64 0, .int .i64 0, .slice none 0 0, .slice none 0 0, .int .i64 0, .int .i64 0, .int .u64 0]) (t := 36) ?hr ?_; (case hd => rfl); (case hg => rfl); (case hr => first | (go_simp; done) | (go_simp; rfl)); intro g16 hg w12 hbox hb; have G16 : zb (w.heap.size ≤ g16) := ⟨by rw [hg]; exact zo HE.out⟩; have H16b : zb (w11.heap.size ≤ g16) := ⟨by rw [hg]; exact Nat.le_refl _⟩; have N16_13 : zb (g16 ≠ g13) := ⟨by rw [hg]; exact Nat.ne_of_gt (zH E13.out)⟩; have n16_13 := N16_13.out; have m16_13 := Ne.symm N16_13.out; have N16_5 : zb (g16 ≠ g5) := ⟨by rw [hg]; exact Nat.ne_of_gt (zH E5.out)⟩; have n16_5 := N16_5.out; have m16_5 := Ne.symm N16_5.out; have B16 := zb.mk hbox; have HL := zb.mk hb; have nE13 := zb.mk (zk E13.out hb); have nE5 := zb.mk (zk E5.out hb); have nHE := zb.mk (zl HE.out hb); clear E13 E5 HE; have E13 := nE13; have E5 := nE5; have HE := nHE; clear nE13 nE5 nHE hb; clear hbox hg; have hx0 := (zc E13.out 0).trans rfl; have fhx0 := za E13.out 0; have hx1 := (zc E13.out 1).trans rfl; have fhx1 := za E13.out 1; have hx2 := (zc E13.out 2).trans rfl; have fhx2 := za E13.out 2; have hx3 := (zc E13.out 3).trans rfl; have fhx3 := za E13.out 3; have hx4 := (zc E13.out 4).trans rfl; have fhx4 := za E13.out 4; have hx5 := (zc E13.out 5).trans rfl; have fhx5 := za E13.out 5; have hx6 := (zc E13.out 6).trans rfl; have fhx6 := za E13.out 6; have hy0 := (zc B16.out 0).trans rfl; have fhy0 := za B16.out 0; have hy1 := (zc B16.out 1).trans rfl; have fhy1 := za B16.out 1; have hy2 := (zc B16.out 2).trans rfl; have fhy2 := za B16.out 2; have hy3 := (zc B16.out 3).trans rfl; have fhy3 := za B16.out 3; have hy4 := (zc B16.out 4).trans rfl; have fhy4 := za B16.out 4; have hy5 := (zc B16.out 5).trans rfl; have fhy5 := za B16.out 5; have hy6 := (zc B16.out 6).trans rfl; have fhy6 := za B16.out 6)
        | (go_at_call 18; (with_reducible refine (zaO.calls k3 a r _ _ bs _ _ ps x y s a r _ _ bs _ _ ps x y s true _ (Kd.C_below HR2.out (zg (zg (zg (zg (zg (zg (zg HE.out G16.out) G16.out) G16.out) G16.out) G16.out) G16.out) G16.out)) HC2.out (Kd.C_below HR3.out (zg (zg (zg (zg (zg (zg (zg HE.out G16.out) G16.out) G16.out) G16.out) G16.out) G16.out) G16.out)) HC3.out (Kd.C_below R4.out (zg (zg (zg (zg (zg (zg (zg HL.out H16b.out) H16b.out) H16b.out) H16b.out) H16b.out) H16b.out) H16b.out)) M4.out (Kd.C_below R5.out (zg (zg (zg (zg (zg (zg (zg HL.out H16b.out) H16b.out) H16b.out) H16b.out) H16b.out) H16b.out) H16b.out)) M5.out HM.out).mono ?_); rintro e w13 ⟨rfl, hb⟩; have F5 := zb.mk (zk (zm (zm (zm (zm (zm (zm (zm E5.out (Ne.symm N16_5.out) _) (Ne.symm N16_5.out) _) (Ne.symm N16_5.out) _) (Ne.symm N16_5.out) _) (Ne.symm N16_5.out) _) (Ne.symm N16_5.out) _) (Ne.symm N16_5.out) _) hb); have FE := zb.mk (zl (zg (zg (zg (zg (zg (zg (zg HE.out G16.out) G16.out) G16.out) G16.out) G16.out) G16.out) G16.out) hb); clear hb))
      go_meet
      case rel => exact ⟨F5, FE⟩
    · have hz1 : (pE == 0) = false := beq_eq_false_iff_ne.2 hz
      clear hz
      go_wp2
      go_meet
      case rel => exact ⟨E5, HE⟩
  case rest =>
  obtain ⟨E5, HE⟩ := hcut
  have hv0 := (zc E5.out 0).trans rfl; have fhv0 := za E5.out 0; have hv1 := (zc E5.out 1).trans rfl; have fhv1 := za E5.out 1; have hv2 := (zc E5.out 2).trans rfl; have fhv2 := za E5.out 2; have hv3 := (zc E5.out 3).trans rfl; have fhv3 := za E5.out 3
  go_upto_if 94 with (first
    | (go_at_call 21; (with_reducible refine (zag.calls k1 sa sr sv d _ _ _ H3.out).mono ?_); rintro e w14 ⟨rfl, hb⟩; have nE5 := zb.mk (zk E5.out hb); have nHE := zb.mk (zl HE.out hb); clear E5 HE; have E5 := nE5; have HE := nHE; clear nE5 nHE hb))
  go_cut [21, 22] (fun v21 v22 wc => zb (wc.heap[g5]? = some (.cells #[.int .i64 sa, .int .i64 sr, .int .i64 sv, .string d] 42 (0, 0))) ∧ zb (Below w.heap.size w wc))
  case first =>
    by_cases hz : yE = 0
    · have hz1 : (yE == 0) = true := beq_iff_eq.2 hz
      have HT := zb.mk (H9.out hz)
      clear hz
      go_wp2_with (first
        | (go_at_call 11; (with_reducible refine (za4.calls yS _ _ _ _ _ _ HT.out).mono ?_); rintro e w15 ⟨rfl, hb⟩; have nE5 := zb.mk (zk E5.out hb); have nHE := zb.mk (zl HE.out hb); clear E5 HE; have E5 := nE5; have HE := nHE; clear nE5 nHE hb)
        | ((with_reducible refine zq (N := 21) rfl ?_); refine zp ?hg (N := 21) ?hd (cs := #[.int .i64 0, .int .i64 0, .int .i64 0, .string ⟨#[]⟩]) (t := 42) ?hr ?_; (case hd => rfl); (case hg => rfl); (case hr => first | (go_simp; done) | (go_simp; rfl)); intro g21 hg w16 hbox hb; have G21 : zb (w.heap.size ≤ g21) := ⟨by rw [hg]; exact zo HE.out⟩; have N21_5 : zb (g21 ≠ g5) := ⟨by rw [hg]; exact Nat.ne_of_gt (zH E5.out)⟩; have n21_5 := N21_5.out; have m21_5 := Ne.symm N21_5.out; have B21 := zb.mk hbox; have nE5 := zb.mk (zk E5.out hb); have nHE := zb.mk (zl HE.out hb); clear E5 HE; have E5 := nE5; have HE := nHE; clear nE5 nHE hb; clear hbox hg; have hx0 := (zc E5.out 0).trans rfl; have fhx0 := za E5.out 0; have hx1 := (zc E5.out 1).trans rfl; have fhx1 := za E5.out 1; have hx2 := (zc E5.out 2).trans rfl; have fhx2 := za E5.out 2; have hx3 := (zc E5.out 3).trans rfl; have fhx3 := za E5.out 3; have hy0 := (zc B21.out 0).trans rfl; have fhy0 := za B21.out 0; have hy1 := (zc B21.out 1).trans rfl; have fhy1 := za B21.out 1; have hy2 := (zc B21.out 2).trans rfl; have fhy2 := za B21.out 2; have hy3 := (zc B21.out 3).trans rfl; have fhy3 := za B21.out 3))
      go_meet
      case rel => exact ⟨⟨(zm (zm (zm (zm E5.out (Ne.symm N21_5.out) _) (Ne.symm N21_5.out) _) (Ne.symm N21_5.out) _) (Ne.symm N21_5.out) _)⟩, ⟨(zg (zg (zg (zg HE.out G21.out) G21.out) G21.out) G21.out)⟩⟩
    · have hz1 : (yE == 0) = false := beq_eq_false_iff_ne.2 hz
      clear hz
      go_wp2
      go_meet
      case rel => exact ⟨E5, HE⟩
  case rest =>
  obtain ⟨E5, HE⟩ := hcut
  have hv0 := (zc E5.out 0).trans rfl; have fhv0 := za E5.out 0; have hv1 := (zc E5.out 1).trans rfl; have fhv1 := za E5.out 1; have hv2 := (zc E5.out 2).trans rfl; have fhv2 := za E5.out 2; have hv3 := (zc E5.out 3).trans rfl; have fhv3 := za E5.out 3
  go_upto_if 120 with (first
    | ((with_reducible refine zq (N := 23) rfl ?_); refine zp ?hg (N := 23) ?hd (cs := #[.int .i64 0, .int .i64 0, .string ⟨#[]⟩]) (t := 48) ?hr ?_; (case hd => rfl); (case hg => rfl); (case hr => first | (go_simp; done) | (go_simp; rfl)); intro g23 hg w17 hbox hb; have G23 : zb (w.heap.size ≤ g23) := ⟨by rw [hg]; exact zo HE.out⟩; have N23_5 : zb (g23 ≠ g5) := ⟨by rw [hg]; exact Nat.ne_of_gt (zH E5.out)⟩; have n23_5 := N23_5.out; have m23_5 := Ne.symm N23_5.out; have B23 := zb.mk hbox; have nE5 := zb.mk (zk E5.out hb); have nHE := zb.mk (zl HE.out hb); clear E5 HE; have E5 := nE5; have HE := nHE; clear nE5 nHE hb; clear hbox hg; have hq0 := (zc B23.out 0).trans rfl; have fhq0 := za B23.out 0; have hq1 := (zc B23.out 1).trans rfl; have fhq1 := za B23.out 1; have hq2 := (zc B23.out 2).trans rfl; have fhq2 := za B23.out 2)
    | (go_at_call 22; (with_reducible refine (zaF.calls sa sr d _ _ _ H4.out).mono ?_); rintro e w18 ⟨rfl, hb⟩; have E23 := zb.mk (zk (zn (cs := #[.int .i64 sa, .int .i64 sr, .string ⟨#[]⟩]) (cs' := #[.int .i64 sa, .int .i64 sr, .string d]) (zn (cs := #[.int .i64 sa, .int .i64 0, .string ⟨#[]⟩]) (cs' := #[.int .i64 sa, .int .i64 sr, .string ⟨#[]⟩]) (zn (cs := #[.int .i64 0, .int .i64 0, .string ⟨#[]⟩]) (cs' := #[.int .i64 sa, .int .i64 0, .string ⟨#[]⟩]) B23.out 0 _ rfl) 1 _ rfl) 2 _ rfl) hb); have nE5 := zb.mk (zk (zm (zm (zm E5.out (Ne.symm N23_5.out) _) (Ne.symm N23_5.out) _) (Ne.symm N23_5.out) _) hb); have nHE := zb.mk (zl (zg (zg (zg HE.out G23.out) G23.out) G23.out) hb); clear E5 HE B23 hb; have E5 := nE5; have HE := nHE; clear nE5 nHE))
  go_cut [26, 27] (fun v26 v27 wc => zb (wc.heap[g5]? = some (.cells #[.int .i64 sa, .int .i64 sr, .int .i64 sv, .string d] 42 (0, 0))) ∧ zb (Below w.heap.size w wc))
  case first =>
    by_cases hz : bE = 0
    · have hz1 : (bE == 0) = true := beq_iff_eq.2 hz
      have HT := zb.mk (H10.out hz)
      clear hz
      go_wp2_with (first
        | (go_at_call 13; (with_reducible refine (zaJ.calls bS _ _ _ _ _ HT.out).mono ?_); rintro e w19 ⟨rfl, hb⟩; have nE5 := zb.mk (zk E5.out hb); have nE23 := zb.mk (zk E23.out hb); have nHE := zb.mk (zl HE.out hb); clear E5 E23 HE; have E5 := nE5; have E23 := nE23; have HE := nHE; clear nE5 nE23 nHE hb)
        | ((with_reducible refine zq (N := 26) rfl ?_); refine zp ?hg (N := 26) ?hd (cs := #[.int .i64 0, .int .i64 0, .string ⟨#[]⟩]) (t := 48) ?hr ?_; (case hd => rfl); (case hg => rfl); (case hr => first | (go_simp; done) | (go_simp; rfl)); intro g26 hg w20 hbox hb; have G26 : zb (w.heap.size ≤ g26) := ⟨by rw [hg]; exact zo HE.out⟩; have N26_5 : zb (g26 ≠ g5) := ⟨by rw [hg]; exact Nat.ne_of_gt (zH E5.out)⟩; have n26_5 := N26_5.out; have m26_5 := Ne.symm N26_5.out; have N26_23 : zb (g26 ≠ g23) := ⟨by rw [hg]; exact Nat.ne_of_gt (zH E23.out)⟩; have n26_23 := N26_23.out; have m26_23 := Ne.symm N26_23.out; have B26 := zb.mk hbox; have nE5 := zb.mk (zk E5.out hb); have nE23 := zb.mk (zk E23.out hb); have nHE := zb.mk (zl HE.out hb); clear E5 E23 HE; have E5 := nE5; have E23 := nE23; have HE := nHE; clear nE5 nE23 nHE hb; clear hbox hg; have hx0 := (zc E23.out 0).trans rfl; have fhx0 := za E23.out 0; have hx1 := (zc E23.out 1).trans rfl; have fhx1 := za E23.out 1; have hx2 := (zc E23.out 2).trans rfl; have fhx2 := za E23.out 2; have hy0 := (zc B26.out 0).trans rfl; have fhy0 := za B26.out 0; have hy1 := (zc B26.out 1).trans rfl; have fhy1 := za B26.out 1; have hy2 := (zc B26.out 2).trans rfl; have fhy2 := za B26.out 2))
      go_meet
      case rel => exact ⟨⟨(zm (zm (zm E5.out (Ne.symm N26_5.out) _) (Ne.symm N26_5.out) _) (Ne.symm N26_5.out) _)⟩, ⟨(zg (zg (zg HE.out G26.out) G26.out) G26.out)⟩⟩
    · have hz1 : (bE == 0) = false := beq_eq_false_iff_ne.2 hz
      clear hz
      go_wp2
      go_meet
      case rel => exact ⟨E5, HE⟩
  case rest =>
  obtain ⟨E5, HE⟩ := hcut
  have hv0 := (zc E5.out 0).trans rfl; have fhv0 := za E5.out 0; have hv1 := (zc E5.out 1).trans rfl; have fhv1 := za E5.out 1; have hv2 := (zc E5.out 2).trans rfl; have fhv2 := za E5.out 2; have hv3 := (zc E5.out 3).trans rfl; have fhv3 := za E5.out 3
  go_wp2_with (first
    | (go_at_call 23; (with_reducible refine (zdb.calls d _ _ H5.out).mono ?_); rintro e w21 ⟨rfl, hd⟩; have hb := zhE hd; clear hd; have nE5 := zb.mk (zk E5.out hb); have nHE := zb.mk (zl HE.out hb); clear E5 HE; have E5 := nE5; have HE := nHE; clear nE5 nHE hb; have hx0 := (zc E5.out 0).trans rfl; have fhx0 := za E5.out 0; have hx1 := (zc E5.out 1).trans rfl; have fhx1 := za E5.out 1; have hx2 := (zc E5.out 2).trans rfl; have fhx2 := za E5.out 2; have hx3 := (zc E5.out 3).trans rfl; have fhx3 := za E5.out 3)
    | (go_at_call 15; (with_reducible refine (zbc.calls tS _ _ _ H6.out).mono ?_); rintro e w22 ⟨rfl, hb⟩; have nE5 := zb.mk (zk E5.out hb); have nHE := zb.mk (zl HE.out hb); clear E5 HE; have E5 := nE5; have HE := nHE; clear nE5 nHE hb; have hy0 := (zc E5.out 0).trans rfl; have fhy0 := za E5.out 0; have hy1 := (zc E5.out 1).trans rfl; have fhy1 := za E5.out 1; have hy2 := (zc E5.out 2).trans rfl; have fhy2 := za E5.out 2; have hy3 := (zc E5.out 3).trans rfl; have fhy3 := za E5.out 3))
  try (repeat (go_quiet (fail); try go_wp2))
  go_ret
  exact ⟨rfl, by repeat (first | exact HE.out | apply zd)⟩
def zaC.f (a r : Int) (bs : List zR) (ps : List ByteArray) (x y s sa sr sv : Int) (d : ByteArray) (n : Int) : Option Bool := if 0 ≤ s ∧ s < 18446744073709551616 ∧ d.size ≤ 140737488351232 then some true else none
theorem zaC.calls (a r : Int) (A2 : Option Addr) (c2 : Nat) (bs : List zR) (A3 : Option Addr) (c3 : Nat) (ps : List ByteArray) (x y s sa sr sv : Int) (d : ByteArray) (n : Int) (res : Bool) (w : World) (hr2 : Kd.C zbB w A2 bs.length bs) (hc2 : bs.length ≤ c2) (hr3 : Kd.C Kd.string w A3 ps.length ps) (hc3 : ps.length ≤ c3) (h : zaC.f a r bs ps x y s sa sr sv d n = some res) :
    Calls Try.prog 5 #[.agg #[.int .i64 a, .int .i64 r, .slice A2 bs.length c2, .slice A3 ps.length c3, .int .i64 x, .int .i64 y, .int .u64 s, .int .i64 sa, .int .i64 sr, .int .i64 sv, .string d, .int .i64 n]] w fun e w' => e = .returned (.bool res) ∧ Below w.heap.size w w' := by
  unfold zaC.f at h
  split at h
  · rename_i hh
    obtain ⟨s0, s1, q5⟩ := hh
    obtain rfl := Option.some.inj h
    obtain ⟨s, rfl⟩ := Int.eq_ofNat_of_zero_le s0
    have hs : s < 18446744073709551616 := by omega
    obtain ⟨k0, e0⟩ := zf7.rounds
    obtain ⟨k1, e1⟩ := (zd4 sa sr sv d).rounds
    have t1 := zga d q5
    have t2 : zbc.f (toB (116 :: ofB d)) = some (d, 0) := by
      rw [zeJ, zei, zY]
      simp only
      rw [if_pos trivial, zbt]
    have sm : za3 a r bs ps x y n = true → Ev (fun k => zap.f k a r bs ps x y a r bs ps x y) true := fun hm => by
      obtain ⟨m1, m2, m3⟩ := zeM hm
      exact zaX (zcC a r bs ps x y a r bs ps x y m1 m2 m3) (by simp [zcx])
    have sp : za3 a r bs ps x y n = true → Ev (fun k => zaO.f k a r bs ps x y (s : Int) a r bs ps x y (s : Int)) true := fun hm => by
      obtain ⟨m1, m2, m3⟩ := zeM hm
      exact zaX (zef a r bs ps x y s a r bs ps x y s m1 m2 m3) (by simp [zfz, zcx])
    obtain ⟨k2, e2⟩ : ∃ k, za3 a r bs ps x y n = true → zap.f k a r bs ps x y a r bs ps x y = some true := by
      by_cases hm : za3 a r bs ps x y n = true
      · obtain ⟨k, hk⟩ := (sm hm).rounds; exact ⟨k, fun _ => hk⟩
      · exact ⟨0, fun hh => absurd hh hm⟩
    obtain ⟨k3, e3⟩ : ∃ k, za3 a r bs ps x y n = true → zaO.f k a r bs ps x y (s : Int) a r bs ps x y (s : Int) = some true := by
      by_cases hm : za3 a r bs ps x y n = true
      · obtain ⟨k, hk⟩ := (sp hm).rounds; exact ⟨k, fun _ => hk⟩
      · exact ⟨0, fun hh => absurd hh hm⟩
    refine zaC.walk a r _ _ bs _ _ ps x y s sa sr sv d n _ hr2 hc2 hr3 hc3 k0 k1 k2 k3 (zfJ a r bs ps x y n).1 (zfH a r bs ps x y s n).1 (zgv sa sr sv d).1 (zdB sa sr d).1 _ (zfJ a r bs ps x y n).2 (zfH a r bs ps x y s n).2 (zgv sa sr sv d).2 (zdB sa sr d).2 e0 (zem ..) (zeU _ _ _ _ _ _ _ hs _) e1 (zeE ..) t1 t2 ?_ ?_ ?_ ?_
    · intro hz
      unfold zfJ at hz ⊢
      by_cases hm : za3 a r bs ps x y n = true
      · have hl := zco hm
        rw [if_pos hm, zdv _ _ (by rw [z5, List.length_cons]; omega), zY, zfP]
        exact ⟨by rw [if_pos rfl, zdJ hm], e2 hm⟩
      · rw [if_neg hm] at hz; cases hz
    · intro hz
      unfold zfH at hz ⊢
      by_cases hm : zcu a r bs ps x y s n = 0
      · have hl := zer (zcl.1 hm).1 hs
        rw [if_pos hm, zdG _ _ (by rw [z5, List.length_cons]; omega), zY, zfT]
        exact ⟨by rw [if_pos rfl, zfU hm hs], e3 (zcl.1 hm).1⟩
      · rw [if_neg hm] at hz; exact absurd hz hm
    · intro hz
      unfold zgv at hz ⊢
      by_cases hm : zbj sa sr d = true ∧ zcy sv = true
      · have hl := zfW hm.1 hm.2
        rw [if_pos hm, zeg _ (by rw [z5, List.length_cons]; omega), zfr hm.1 hm.2]
      · rw [if_neg hm] at hz; cases hz
    · intro hz
      unfold zdB at hz ⊢
      by_cases hm : zbj sa sr d = true
      · have hl := zez hm
        rw [if_pos hm, zdt _ (by rw [z5, List.length_cons]; omega), zdr hm]
      · rw [if_neg hm] at hz; cases hz
  · cases h
end Go.Proofs.Ytenbifjbeeobjaa.Px
