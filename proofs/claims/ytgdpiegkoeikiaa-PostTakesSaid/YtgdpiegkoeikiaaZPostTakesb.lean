/- Part 28 of 35 of the proof of the law PostTakes: what is proved is the statement at the end of the last part; its conditions are those of the given row. -/
import Derived.Test.YtgdpiegkoeikiaaZPostTakesa
namespace Go.Proofs.Ytgdpiegkoeikiaa.Px
open Go.RowKit Go.Proofs.YtgdpiegkoeikiaaW.PrintWords Go.Proofs.YtgdpiegkoeikiaaW.PrintLast Go.Proofs.YtgdpiegkoeikiaaW.PrintMore
attribute [local go_sem] zF zH zQ zR zy zz zG zI
set_option linter.unusedVariables false
set_option linter.unusedSimpArgs false
def zM.Own (w : World) (base : Nat) (A2 : Option Addr) (c2 : Nat) (bs : List zY) (A3 : Option Addr) (c3 : Nat) (ps : List ByteArray) : Prop := Kd.S zb1 107 w base (fun k_ => some k_ ≠ (.slice A3 ps.length c3 : Value).ownBlock) (.slice A2 bs.length c2) bs ∧ Kd.R Kd.string 9 w base (fun _ => True) (.slice A3 ps.length c3) ps
theorem zM.Own.below {w w' : World} {base : Nat} {A2 : Option Addr} {c2 : Nat} {bs : List zY} {A3 : Option Addr} {c3 : Nat} {ps : List ByteArray} (h : zM.Own w base A2 c2 bs A3 c3 ps) (hb : Below w.heap.size w w') : zM.Own w' base A2 c2 bs A3 c3 ps := ⟨Kd.S_below h.1 hb,Kd.R_below h.2 hb⟩
theorem zM.Own.lower {w : World} {base base' : Nat} {A2 : Option Addr} {c2 : Nat} {bs : List zY} {A3 : Option Addr} {c3 : Nat} {ps : List ByteArray} (h : zM.Own w base A2 c2 bs A3 c3 ps) (hb : base' ≤ base) : zM.Own w base' A2 c2 bs A3 c3 ps := ⟨Kd.S_lower h.1 hb,Kd.R_lower h.2 hb⟩
theorem zM.Own.sets {w : World} {base : Nat} {A2 : Option Addr} {c2 : Nat} {bs : List zY} {A3 : Option Addr} {c3 : Nat} {ps : List ByteArray} (h : zM.Own w base A2 c2 bs A3 c3 ps) {g : Nat} {cs : Array Value} (hb : w.heap[g]? = some (.cells cs 36 (0,0))) (u0 u1 u2 u3 u4 u5 u6 : Value) : zM.Own (((((((w.setCell ⟨g,0,none⟩ (u0)).setCell ⟨g,1,none⟩ (u1)).setCell ⟨g,2,none⟩ (u2)).setCell ⟨g,3,none⟩ (u3)).setCell ⟨g,4,none⟩ (u4)).setCell ⟨g,5,none⟩ (u5)).setCell ⟨g,6,none⟩ (u6)) base A2 c2 bs A3 c3 ps :=
 ⟨Kd.S_mono (Kd.S_far (p := ⟨g,6,none⟩) (Kd.S_far (p := ⟨g,5,none⟩) (Kd.S_far (p := ⟨g,4,none⟩) (Kd.S_far (p := ⟨g,3,none⟩) (Kd.S_far (p := ⟨g,2,none⟩) (Kd.S_far (p := ⟨g,1,none⟩) (Kd.S_far (p := ⟨g,0,none⟩) (Kd.S_types h.1 hb (by decide)) (fun _ hk => hk.2) u0) (fun _ hk => hk.2) u1) (fun _ hk => hk.2) u2) (fun _ hk => hk.2) u3) (fun _ hk => hk.2) u4) (fun _ hk => hk.2) u5) (fun _ hk => hk.2) u6) (fun _ hk => hk.1),Kd.R_mono (Kd.R_far (p := ⟨g,6,none⟩) (Kd.R_far (p := ⟨g,5,none⟩) (Kd.R_far (p := ⟨g,4,none⟩) (Kd.R_far (p := ⟨g,3,none⟩) (Kd.R_far (p := ⟨g,2,none⟩) (Kd.R_far (p := ⟨g,1,none⟩) (Kd.R_far (p := ⟨g,0,none⟩) (Kd.R_types h.2 hb (by decide)) (fun _ hk => hk.2) u0) (fun _ hk => hk.2) u1) (fun _ hk => hk.2) u2) (fun _ hk => hk.2) u3) (fun _ hk => hk.2) u4) (fun _ hk => hk.2) u5) (fun _ hk => hk.2) u6) (fun _ hk => hk.1)⟩
theorem zM.Own.set1 {w : World} {base : Nat} {A2 : Option Addr} {c2 : Nat} {bs : List zY} {A3 : Option Addr} {c3 : Nat} {ps : List ByteArray} (h : zM.Own w base A2 c2 bs A3 c3 ps) {g : Nat} {cs : Array Value} (hb : w.heap[g]? = some (.cells cs 29 (0,0))) (u : Value) : zM.Own (w.setCell ⟨g,0,none⟩ u) base A2 c2 bs A3 c3 ps :=
 ⟨Kd.S_mono (Kd.S_far (p := ⟨g,0,none⟩) (Kd.S_types h.1 hb (by decide)) (fun _ hk => hk.2) u) (fun _ hk => hk.1),Kd.R_mono (Kd.R_far (p := ⟨g,0,none⟩) (Kd.R_types h.2 hb (by decide)) (fun _ hk => hk.2) u) (fun _ hk => hk.1)⟩
theorem zM.Own.nil (w : World) (base : Nat) : zM.Own w base none 0 [] none 0 [] := ⟨Kd.S_nil _ _ _ _ _,Kd.R_nil _ _ _ _ _⟩
set_option maxHeartbeats 8000000 in
set_option maxRecDepth 100000 in
theorem zM.good (s : ByteArray) (n : Int) (g k : Nat) (a r x y z : Int) (bs : List zY) (ps : List ByteArray) (w : World) (hT : zbJ.f k s n = some (a,r,bs,ps,x,y,z,0)) (hn : w.heap[g]? = some (.cells #[.int .i64 n] 3 (0,0))) :
  Calls Try.prog 30 #[.string s,.pointer (some ⟨g,0,none⟩)] w fun e w' => ∃ A2 c2 A3 c3,e = .returned (.agg #[.int .i64 a,.int .i64 r,.slice A2 bs.length c2,.slice A3 ps.length c3,.int .i64 x,.int .i64 y,.int .u64 z]) ∧ zM.Own w' w.heap.size A2 c2 bs A3 c3 ps ∧ Below w.heap.size w w' := by
 generalize hee : (0 : Int) = ee at hT
 have HT := zc.mk hT
 have HN := zc.mk hn
 have HE := zc.mk hee
 clear hT hn
 have e1 : (ee == 0) = true := by rw [← hee];rfl
 clear hee
 go_enter Try.func30,Try.ntmps30
 go_wp2_with (first
  | ((with_reducible refine zu (N := 3) rfl ?_);refine zr ?hg (N := 3) ?hd (cs := #[.int .i64 0,.int .i64 0,.slice none 0 0,.slice none 0 0,.int .i64 0,.int .i64 0,.int .u64 0]) (t := 36) ?hr ?_;(case hd => rfl);(case hg => rfl);(case hr => first | (go_simp;done) | (go_simp;rfl));intro g3 hg w1 hbox hb;have G3 : zc (w.heap.size ≤ g3) := ⟨by rw [hg];exact Nat.le_refl _⟩;have B3 := zc.mk hbox;have C1 := zc.mk (zh HN.out hb);have HB1 := zc.mk hb;clear hb hbox hg;have hn0 := (zb C1.out 0).trans rfl;have fn0 := za C1.out 0)
  | (go_at_call 20;(with_reducible refine (zbJ.calls k s n a r bs ps x y z ee _ HT.out).mono ?_);rintro e w2 ⟨v2,v3,rfl,hS2,hS3,hb⟩;obtain ⟨A2,c2,rfl⟩ := Kd.S_slice hS2;obtain ⟨A3,c3,rfl⟩ := Kd.R_slice hS3;have V2 : zc (zM.Own w2 w1.heap.size A2 c2 bs A3 c3 ps) := ⟨⟨hS2,hS3⟩⟩;have C3 := zc.mk (zh B3.out hb);have HB2 := zc.mk (zj HB1.out hb);have HL := zc.mk (zl HB1.out);clear hb hS2 hS3)
  | ((with_reducible refine zu (N := 4) rfl ?_);refine zr ?hg (N := 4) ?hd (cs := #[.int .i64 0,.int .i64 0,.slice none 0 0,.slice none 0 0,.int .i64 0,.int .i64 0,.int .u64 0]) (t := 36) ?hr ?_;(case hd => rfl);(case hg => rfl);(case hr => first | (go_simp;done) | (go_simp;rfl));intro g4 hg w3 hbox hb;have G4 : zc (w.heap.size ≤ g4) := ⟨by rw [hg];exact zl HB2.out⟩;have N4 : zc (g4 ≠ g3) := ⟨by rw [hg];exact Nat.ne_of_gt (zP C3.out)⟩;have B4 := zc.mk hbox;have D3 := zc.mk (zh C3.out hb);have V3 := zc.mk (V2.out.below hb);have HB3 := zc.mk (zj HB2.out hb);clear hb hbox hg;have n43 := N4.out;have n34 := Ne.symm N4.out;have hc0 := (zb D3.out 0).trans rfl;have fhc0 := za D3.out 0;have hc1 := (zb D3.out 1).trans rfl;have fhc1 := za D3.out 1;have hc2 := (zb D3.out 2).trans rfl;have fhc2 := za D3.out 2;have hc3 := (zb D3.out 3).trans rfl;have fhc3 := za D3.out 3;have hc4 := (zb D3.out 4).trans rfl;have fhc4 := za D3.out 4;have hc5 := (zb D3.out 5).trans rfl;have fhc5 := za D3.out 5;have hc6 := (zb D3.out 6).trans rfl;have fhc6 := za D3.out 6;have hd0 := (zb B4.out 0).trans rfl;have fhd0 := za B4.out 0;have hd1 := (zb B4.out 1).trans rfl;have fhd1 := za B4.out 1;have hd2 := (zb B4.out 2).trans rfl;have fhd2 := za B4.out 2;have hd3 := (zb B4.out 3).trans rfl;have fhd3 := za B4.out 3;have hd4 := (zb B4.out 4).trans rfl;have fhd4 := za B4.out 4;have hd5 := (zb B4.out 5).trans rfl;have fhd5 := za B4.out 5;have hd6 := (zb B4.out 6).trans rfl;have fhd6 := za B4.out 6)
  | (go_at_call 26;(with_reducible refine (zaJ.yes _).mono ?_);rintro e w1 ⟨rfl,rfl⟩))
 refine bodyPost_ret (results_cell_row rfl _ _ g3 36 #[.int .i64 a,.int .i64 r,.slice A2 bs.length c2,.slice A3 ps.length c3,.int .i64 x,.int .i64 y,.int .u64 z] (0,0) _ rfl (zi (cs := #[.int .i64 a,.int .i64 r,.slice A2 bs.length c2,.slice A3 ps.length c3,.int .i64 x,.int .i64 y,.int .u64 0]) (cs' := #[.int .i64 a,.int .i64 r,.slice A2 bs.length c2,.slice A3 ps.length c3,.int .i64 x,.int .i64 y,.int .u64 z]) (zi (cs := #[.int .i64 a,.int .i64 r,.slice A2 bs.length c2,.slice A3 ps.length c3,.int .i64 x,.int .i64 0,.int .u64 0]) (cs' := #[.int .i64 a,.int .i64 r,.slice A2 bs.length c2,.slice A3 ps.length c3,.int .i64 x,.int .i64 y,.int .u64 0]) (zi (cs := #[.int .i64 a,.int .i64 r,.slice A2 bs.length c2,.slice A3 ps.length c3,.int .i64 0,.int .i64 0,.int .u64 0]) (cs' := #[.int .i64 a,.int .i64 r,.slice A2 bs.length c2,.slice A3 ps.length c3,.int .i64 x,.int .i64 0,.int .u64 0]) (zi (cs := #[.int .i64 a,.int .i64 r,.slice A2 bs.length c2,.slice none 0 0,.int .i64 0,.int .i64 0,.int .u64 0]) (cs' := #[.int .i64 a,.int .i64 r,.slice A2 bs.length c2,.slice A3 ps.length c3,.int .i64 0,.int .i64 0,.int .u64 0]) (zi (cs := #[.int .i64 a,.int .i64 r,.slice none 0 0,.slice none 0 0,.int .i64 0,.int .i64 0,.int .u64 0]) (cs' := #[.int .i64 a,.int .i64 r,.slice A2 bs.length c2,.slice none 0 0,.int .i64 0,.int .i64 0,.int .u64 0]) (zi (cs := #[.int .i64 a,.int .i64 0,.slice none 0 0,.slice none 0 0,.int .i64 0,.int .i64 0,.int .u64 0]) (cs' := #[.int .i64 a,.int .i64 r,.slice none 0 0,.slice none 0 0,.int .i64 0,.int .i64 0,.int .u64 0]) (zi (cs := #[.int .i64 0,.int .i64 0,.slice none 0 0,.slice none 0 0,.int .i64 0,.int .i64 0,.int .u64 0]) (cs' := #[.int .i64 a,.int .i64 0,.slice none 0 0,.slice none 0 0,.int .i64 0,.int .i64 0,.int .u64 0]) (zk (zk (zk (zk (zk (zk (zk D3.out (Ne.symm N4.out) _) (Ne.symm N4.out) _) (Ne.symm N4.out) _) (Ne.symm N4.out) _) (Ne.symm N4.out) _) (Ne.symm N4.out) _) (Ne.symm N4.out) _) 0 _ rfl) 1 _ rfl) 2 _ rfl) 3 _ rfl) 4 _ rfl) 5 _ rfl) 6 _ rfl) Try.underlying36 rfl (by kernel_rfl)) rfl ?_
 exact ⟨_,_,_,_,rfl,((V3.out.sets B4.out _ _ _ _ _ _ _).sets (zk (zk (zk (zk (zk (zk (zk D3.out (Ne.symm N4.out) _) (Ne.symm N4.out) _) (Ne.symm N4.out) _) (Ne.symm N4.out) _) (Ne.symm N4.out) _) (Ne.symm N4.out) _) (Ne.symm N4.out) _) _ _ _ _ _ _ _).lower HL.out,(zg (zg (zg (zg (zg (zg (zg (zg (zg (zg (zg (zg (zg (zg HB3.out G4.out) G4.out) G4.out) G4.out) G4.out) G4.out) G4.out) G3.out) G3.out) G3.out) G3.out) G3.out) G3.out) G3.out)⟩
set_option maxHeartbeats 8000000 in
set_option maxRecDepth 100000 in
theorem zM.bad (s : ByteArray) (n : Int) (g k : Nat) (a r x y z : Int) (bs : List zY) (ps : List ByteArray) (ee : Int) (w : World) (hT : zbJ.f k s n = some (a,r,bs,ps,x,y,z,ee)) (he : ee ≠ 0) (hn : w.heap[g]? = some (.cells #[.int .i64 n] 3 (0,0))) :
  Calls Try.prog 30 #[.string s,.pointer (some ⟨g,0,none⟩)] w fun e w' => e = .panicked zcE ∧ Below w.heap.size w w' := by
 have HT := zc.mk hT
 have HN := zc.mk hn
 have e1 : (ee == 0) = false := beq_eq_false_iff_ne.2 he
 clear hT hn he
 go_enter Try.func30,Try.ntmps30
 go_wp2_with (first
  | ((with_reducible refine zu (N := 3) rfl ?_);refine zr ?hg (N := 3) ?hd (cs := #[.int .i64 0,.int .i64 0,.slice none 0 0,.slice none 0 0,.int .i64 0,.int .i64 0,.int .u64 0]) (t := 36) ?hr ?_;(case hd => rfl);(case hg => rfl);(case hr => first | (go_simp;done) | (go_simp;rfl));intro g3 hg w1 hbox hb;have G3 : zc (w.heap.size ≤ g3) := ⟨by rw [hg];exact Nat.le_refl _⟩;have B3 := zc.mk hbox;have C1 := zc.mk (zh HN.out hb);have HB1 := zc.mk hb;clear hb hbox hg;have hn0 := (zb C1.out 0).trans rfl;have fn0 := za C1.out 0)
  | (go_at_call 20;(with_reducible refine (zbJ.calls k s n a r bs ps x y z ee _ HT.out).mono ?_);rintro e w2 ⟨v2,v3,rfl,hS2,hS3,hb⟩;obtain ⟨A2,c2,rfl⟩ := Kd.S_slice hS2;obtain ⟨A3,c3,rfl⟩ := Kd.R_slice hS3;have V2 : zc (zM.Own w2 w1.heap.size A2 c2 bs A3 c3 ps) := ⟨⟨hS2,hS3⟩⟩;have C3 := zc.mk (zh B3.out hb);have HB2 := zc.mk (zj HB1.out hb);have HL := zc.mk (zl HB1.out);clear hb hS2 hS3)
  | ((with_reducible refine zu (N := 4) rfl ?_);refine zr ?hg (N := 4) ?hd (cs := #[.int .i64 0,.int .i64 0,.slice none 0 0,.slice none 0 0,.int .i64 0,.int .i64 0,.int .u64 0]) (t := 36) ?hr ?_;(case hd => rfl);(case hg => rfl);(case hr => first | (go_simp;done) | (go_simp;rfl));intro g4 hg w3 hbox hb;have G4 : zc (w.heap.size ≤ g4) := ⟨by rw [hg];exact zl HB2.out⟩;have N4 : zc (g4 ≠ g3) := ⟨by rw [hg];exact Nat.ne_of_gt (zP C3.out)⟩;have B4 := zc.mk hbox;have D3 := zc.mk (zh C3.out hb);have V3 := zc.mk (V2.out.below hb);have HB3 := zc.mk (zj HB2.out hb);clear hb hbox hg;have n43 := N4.out;have n34 := Ne.symm N4.out;have hc0 := (zb D3.out 0).trans rfl;have fhc0 := za D3.out 0;have hc1 := (zb D3.out 1).trans rfl;have fhc1 := za D3.out 1;have hc2 := (zb D3.out 2).trans rfl;have fhc2 := za D3.out 2;have hc3 := (zb D3.out 3).trans rfl;have fhc3 := za D3.out 3;have hc4 := (zb D3.out 4).trans rfl;have fhc4 := za D3.out 4;have hc5 := (zb D3.out 5).trans rfl;have fhc5 := za D3.out 5;have hc6 := (zb D3.out 6).trans rfl;have fhc6 := za D3.out 6;have hd0 := (zb B4.out 0).trans rfl;have fhd0 := za B4.out 0;have hd1 := (zb B4.out 1).trans rfl;have fhd1 := za B4.out 1;have hd2 := (zb B4.out 2).trans rfl;have fhd2 := za B4.out 2;have hd3 := (zb B4.out 3).trans rfl;have fhd3 := za B4.out 3;have hd4 := (zb B4.out 4).trans rfl;have fhd4 := za B4.out 4;have hd5 := (zb B4.out 5).trans rfl;have fhd5 := za B4.out 5;have hd6 := (zb B4.out 6).trans rfl;have fhd6 := za B4.out 6)
  | (go_at_call 26;(with_reducible refine (zaJ.no _).mono ?_);rintro e w1 ⟨rfl,rfl⟩))
 exact ⟨rfl,rfl,(zg (zg (zg (zg (zg (zg (zg HB3.out G4.out) G4.out) G4.out) G4.out) G4.out) G4.out) G4.out)⟩
theorem zM.assert (w : World) : (Instr.typeAssert (.iface 97 (.agg #[])) 20 97 true).run Try.prog w = .ok (.tuple #[.agg #[],.bool true]) w := by kernel_rfl
set_option maxHeartbeats 8000000 in
set_option maxRecDepth 100000 in
theorem zM.catch (g6 g7 : Nat) (older : List PanicEntry) (c7 : Value) (w : World) (h6 : w.heap[g6]? = some (.cells #[.int .i64 0,.int .i64 0,.slice none 0 0,.slice none 0 0,.int .i64 0,.int .i64 0,.int .u64 0] 36 (0,0))) (h7 : w.heap[g7]? = some (.cells #[c7] 29 (0,0))) (hne : g6 ≠ g7) :
  CallsD Try.prog 64 #[.pointer (some ⟨g6,0,none⟩),.pointer (some ⟨g7,0,none⟩)] (.panicking ({ v := zca,recovered := false } :: older)) w fun e u' w' =>
   e = .returned (.tuple #[]) ∧ u' = .panicking ({ v := zca,recovered := true } :: older) ∧ w'.heap[g6]? = some (.cells #[.int .i64 0,.int .i64 0,.slice none 0 0,.slice none 0 0,.int .i64 0,.int .i64 0,.int .u64 0] 36 (0,0)) ∧ w'.heap[g7]? = some (.cells #[.int .i64 3] 29 (0,0)) ∧ ∀ W0 : World,Below W0.heap.size W0 w → W0.heap.size ≤ g6 → W0.heap.size ≤ g7 → Below W0.heap.size W0 w' := by
 have ha := zM.assert
 have hne' := Ne.symm hne
 refine callsD_of_wpS Try.func64 rfl fun c₀ cs hu => ?_
 apply wpS_seq
 apply wpS_region
 simp [wpOpsS,go_sem,recoverD,hu,Try.ntmps64,Exit.thenS,zca]
 show Code.wpS _ _ _ ⟨#[.pointer (some ⟨g6,0,none⟩),.pointer (some ⟨g7,0,none⟩),zca,undef,undef,undef,zca,undef,undef,undef,undef,undef,undef,undef,undef,undef,undef,undef],[]⟩ _ _
 unfold zca
 refine wpS_of_wp ?_
 go_wp2_with (first
  | ((with_reducible refine zu (N := 3) rfl ?_);refine zr ?hg (N := 3) ?hd (cs := #[]) (t := 97) ?hr ?_;(case hd => rfl);(case hg => rfl);(case hr => first | (go_simp;done) | (go_simp;rfl));intro g3 hg w1 hbox hb;have B6 := zc.mk (zh h6 hb);have B7 := zc.mk (zh h7 hb);have HB1 := zc.mk hb;clear hb hbox hg)
  | ((with_reducible refine zu (N := 5) rfl ?_);refine zr ?hg (N := 5) ?hd (cs := #[.int .i64 0,.int .i64 0,.slice none 0 0,.slice none 0 0,.int .i64 0,.int .i64 0,.int .u64 0]) (t := 36) ?hr ?_;(case hd => rfl);(case hg => rfl);(case hr => first | (go_simp;done) | (go_simp;rfl));intro g5 hg w2 hbox hb;have C6 := zc.mk (zh B6.out hb);have C7 := zc.mk (zh B7.out hb);have HB2 := zc.mk (zj HB1.out hb);have B5 := zc.mk hbox;clear hb hbox hg;have ca0 := (zb C6.out 0).trans rfl;have fca0 := za C6.out 0;have ca1 := (zb C6.out 1).trans rfl;have fca1 := za C6.out 1;have ca2 := (zb C6.out 2).trans rfl;have fca2 := za C6.out 2;have ca3 := (zb C6.out 3).trans rfl;have fca3 := za C6.out 3;have ca4 := (zb C6.out 4).trans rfl;have fca4 := za C6.out 4;have ca5 := (zb C6.out 5).trans rfl;have fca5 := za C6.out 5;have ca6 := (zb C6.out 6).trans rfl;have fca6 := za C6.out 6;have cd0 := (zb B5.out 0).trans rfl;have fcd0 := za B5.out 0;have cd1 := (zb B5.out 1).trans rfl;have fcd1 := za B5.out 1;have cd2 := (zb B5.out 2).trans rfl;have fcd2 := za B5.out 2;have cd3 := (zb B5.out 3).trans rfl;have fcd3 := za B5.out 3;have cd4 := (zb B5.out 4).trans rfl;have fcd4 := za B5.out 4;have cd5 := (zb B5.out 5).trans rfl;have fcd5 := za B5.out 5;have cd6 := (zb B5.out 6).trans rfl;have fcd6 := za B5.out 6;have cb0 := (zb C7.out 0).trans rfl;have fcb0 := za C7.out 0))
 have x6 : ((((((((w2.setCell ⟨g6,0,none⟩ (.int .i64 0)).setCell ⟨g6,1,none⟩ (.int .i64 0)).setCell ⟨g6,2,none⟩ (.slice none 0 0)).setCell ⟨g6,3,none⟩ (.slice none 0 0)).setCell ⟨g6,4,none⟩ (.int .i64 0)).setCell ⟨g6,5,none⟩ (.int .i64 0)).setCell ⟨g6,6,none⟩ (.int .u64 0)).setCell ⟨g7,0,none⟩ (.int .i64 3)).heap[g6]? = some (.cells #[.int .i64 0,.int .i64 0,.slice none 0 0,.slice none 0 0,.int .i64 0,.int .i64 0,.int .u64 0] 36 (0,0)) := zk (zi (zi (zi (zi (zi (zi (zi C6.out 0 _ rfl) 1 _ rfl) 2 _ rfl) 3 _ rfl) 4 _ rfl) 5 _ rfl) 6 _ rfl) hne _
 have x7 : ((((((((w2.setCell ⟨g6,0,none⟩ (.int .i64 0)).setCell ⟨g6,1,none⟩ (.int .i64 0)).setCell ⟨g6,2,none⟩ (.slice none 0 0)).setCell ⟨g6,3,none⟩ (.slice none 0 0)).setCell ⟨g6,4,none⟩ (.int .i64 0)).setCell ⟨g6,5,none⟩ (.int .i64 0)).setCell ⟨g6,6,none⟩ (.int .u64 0)).setCell ⟨g7,0,none⟩ (.int .i64 3)).heap[g7]? = some (.cells #[.int .i64 3] 29 (0,0)) := zi (zk (zk (zk (zk (zk (zk (zk C7.out hne' _) hne' _) hne' _) hne' _) hne' _) hne' _) hne' _) 0 _ rfl
 have x8 : ∀ W0 : World,Below W0.heap.size W0 w → W0.heap.size ≤ g6 → W0.heap.size ≤ g7 → Below W0.heap.size W0 ((((((((w2.setCell ⟨g6,0,none⟩ (.int .i64 0)).setCell ⟨g6,1,none⟩ (.int .i64 0)).setCell ⟨g6,2,none⟩ (.slice none 0 0)).setCell ⟨g6,3,none⟩ (.slice none 0 0)).setCell ⟨g6,4,none⟩ (.int .i64 0)).setCell ⟨g6,5,none⟩ (.int .i64 0)).setCell ⟨g6,6,none⟩ (.int .u64 0)).setCell ⟨g7,0,none⟩ (.int .i64 3)) := fun W0 h k6 k7 => zg (zg (zg (zg (zg (zg (zg (zg (zj h HB2.out) k6) k6) k6) k6) k6) k6) k6) k7
 generalize ((((((((w2.setCell ⟨g6,0,none⟩ (.int .i64 0)).setCell ⟨g6,1,none⟩ (.int .i64 0)).setCell ⟨g6,2,none⟩ (.slice none 0 0)).setCell ⟨g6,3,none⟩ (.slice none 0 0)).setCell ⟨g6,4,none⟩ (.int .i64 0)).setCell ⟨g6,5,none⟩ (.int .i64 0)).setCell ⟨g6,6,none⟩ (.int .u64 0)).setCell ⟨g7,0,none⟩ (.int .i64 3)) = wE at x6 x7 x8 ⊢
 simp [bodyPostS,results,Try.results64]
 exact ⟨x6,x7,x8⟩
set_option maxHeartbeats 8000000 in
set_option maxRecDepth 100000 in
theorem zM.idle (g6 g7 : Nat) (w : World) :
  CallsD Try.prog 64 #[.pointer (some ⟨g6,0,none⟩),.pointer (some ⟨g7,0,none⟩)] .returning w fun e u' w' => e = .returned (.tuple #[]) ∧ u' = .returning ∧ w' = w := by
 refine callsD_of_wpS Try.func64 rfl fun c₀ cs hu => ?_
 apply wpS_seq
 apply wpS_region
 simp [wpOpsS,go_sem,recoverD,hu,Try.ntmps64,Exit.thenS]
 show Code.wpS _ _ _ ⟨#[.pointer (some ⟨g6,0,none⟩),.pointer (some ⟨g7,0,none⟩),.nilIface,undef,undef,undef,.nilIface,undef,undef,undef,undef,undef,undef,undef,undef,undef,undef,undef],[]⟩ _ _
 refine wpS_of_wp ?_
 go_wp2
 cases c₀
 simp_all [bodyPostS,results,Try.results64]
set_option maxHeartbeats 8000000 in
set_option maxRecDepth 100000 in
theorem zM.behindGood (s rest : ByteArray) (n : Int) (g k : Nat) (a r x y z : Int) (bs : List zY) (ps : List ByteArray) (w : World) (hcut : zN.f s ⟨#[99]⟩ = some (rest,true)) (hT : zbJ.f k rest n = some (a,r,bs,ps,x,y,z,0)) (hn : w.heap[g]? = some (.cells #[.int .i64 n] 3 (0,0))) :
  Calls Try.prog 29 #[.string s,.string ⟨#[99]⟩,.func (.func 30) #[] #[.pointer (some ⟨g,0,none⟩)]] w fun e w' => ∃ A2 c2 A3 c3,e = .returned (.tuple #[.agg #[.int .i64 a,.int .i64 r,.slice A2 bs.length c2,.slice A3 ps.length c3,.int .i64 x,.int .i64 y,.int .u64 z],.int .i64 0]) ∧ zM.Own w' w.heap.size A2 c2 bs A3 c3 ps ∧ Below w.heap.size w w' := by
 have hmf : ∀ (fn : Fn) (first cap : Array Value) (w : World),(Instr.makeFunc fn first cap).run Try.prog w = .ok (.func fn first cap) w := fun _ _ _ _ => rfl
 have HC := zc.mk hcut
 have HT := zc.mk hT
 have HN := zc.mk hn
 clear hcut hT hn
 go_enter_defers Try.func29,Try.ntmps29
 go_wp2_with (first
  | ((with_reducible refine zu (N := 6) rfl ?_);refine zr ?hg (N := 6) ?hd (cs := #[.int .i64 0,.int .i64 0,.slice none 0 0,.slice none 0 0,.int .i64 0,.int .i64 0,.int .u64 0]) (t := 36) ?hr ?_;(case hd => rfl);(case hg => rfl);(case hr => first | (go_simp;done) | (go_simp;rfl));intro g6 hg w1 hbox hb;have G6 : zc (w.heap.size ≤ g6) := ⟨by rw [hg];exact Nat.le_refl _⟩;have B6 := zc.mk hbox;have HB1 := zc.mk hb;have N1 := zc.mk (zh HN.out hb);clear hb hbox hg)
  | ((with_reducible refine zu (N := 7) rfl ?_);refine zr ?hg (N := 7) ?hd (cs := #[.int .i64 0]) (t := 29) ?hr ?_;(case hd => rfl);(case hg => rfl);(case hr => first | (go_simp;done) | (go_simp;rfl));intro g7 hg w2 hbox hb;have G7 : zc (w.heap.size ≤ g7) := ⟨by rw [hg];exact zl HB1.out⟩;have N67 : zc (g6 ≠ g7) := ⟨by rw [hg];exact Nat.ne_of_lt (zP B6.out)⟩;have C7 := zc.mk hbox;have C6 := zc.mk (zh B6.out hb);have N2 := zc.mk (zh N1.out hb);have HB2 := zc.mk (zj HB1.out hb);clear hb hbox hg B6)
  | (go_at_call 55;(with_reducible refine (zN.calls _ _ _ _ _ HC.out).mono ?_);rintro e w3 ⟨rfl,⟨n3,rfl⟩⟩)
  | (go_at_call 26;(with_reducible refine (zaJ.yes _).mono ?_);rintro e w1 ⟨rfl,rfl⟩)
  | (go_at_call 30;(with_reducible refine (zM.good rest n g k a r x y z bs ps _ HT.out (zd N2.out _)).mono ?_);rintro e w4 ⟨A2,c2,A3,c3,rfl,hV,hb⟩;have V4 := zc.mk (hV.lower (zm HB2.out n3).size);have D6 := zc.mk (zh (zd C6.out _) hb);have D7 := zc.mk (zh (zd C7.out _) hb);have HB4 := zc.mk (zj (zm HB2.out _) hb);clear hb hV;have ca0 := (zb D6.out 0).trans rfl;have fca0 := za D6.out 0;have ca1 := (zb D6.out 1).trans rfl;have fca1 := za D6.out 1;have ca2 := (zb D6.out 2).trans rfl;have fca2 := za D6.out 2;have ca3 := (zb D6.out 3).trans rfl;have fca3 := za D6.out 3;have ca4 := (zb D6.out 4).trans rfl;have fca4 := za D6.out 4;have ca5 := (zb D6.out 5).trans rfl;have fca5 := za D6.out 5;have ca6 := (zb D6.out 6).trans rfl;have fca6 := za D6.out 6;have cb0 := (zb D7.out 0).trans rfl;have fcb0 := za D7.out 0;have n67 := N67.out;have n76 := Ne.symm N67.out))
 have x6 : ((((((((w4.setCell ⟨g6,0,none⟩ (.int .i64 a)).setCell ⟨g6,1,none⟩ (.int .i64 r)).setCell ⟨g6,2,none⟩ (.slice A2 bs.length c2)).setCell ⟨g6,3,none⟩ (.slice A3 ps.length c3)).setCell ⟨g6,4,none⟩ (.int .i64 x)).setCell ⟨g6,5,none⟩ (.int .i64 y)).setCell ⟨g6,6,none⟩ (.int .u64 z)).setCell ⟨g7,0,none⟩ (.int .i64 0)).heap[g6]? = some (.cells #[.int .i64 a,.int .i64 r,.slice A2 bs.length c2,.slice A3 ps.length c3,.int .i64 x,.int .i64 y,.int .u64 z] 36 (0,0)) := zk (zi (cs := #[.int .i64 a,.int .i64 r,.slice A2 bs.length c2,.slice A3 ps.length c3,.int .i64 x,.int .i64 y,.int .u64 0]) (cs' := #[.int .i64 a,.int .i64 r,.slice A2 bs.length c2,.slice A3 ps.length c3,.int .i64 x,.int .i64 y,.int .u64 z]) (zi (cs := #[.int .i64 a,.int .i64 r,.slice A2 bs.length c2,.slice A3 ps.length c3,.int .i64 x,.int .i64 0,.int .u64 0]) (cs' := #[.int .i64 a,.int .i64 r,.slice A2 bs.length c2,.slice A3 ps.length c3,.int .i64 x,.int .i64 y,.int .u64 0]) (zi (cs := #[.int .i64 a,.int .i64 r,.slice A2 bs.length c2,.slice A3 ps.length c3,.int .i64 0,.int .i64 0,.int .u64 0]) (cs' := #[.int .i64 a,.int .i64 r,.slice A2 bs.length c2,.slice A3 ps.length c3,.int .i64 x,.int .i64 0,.int .u64 0]) (zi (cs := #[.int .i64 a,.int .i64 r,.slice A2 bs.length c2,.slice none 0 0,.int .i64 0,.int .i64 0,.int .u64 0]) (cs' := #[.int .i64 a,.int .i64 r,.slice A2 bs.length c2,.slice A3 ps.length c3,.int .i64 0,.int .i64 0,.int .u64 0]) (zi (cs := #[.int .i64 a,.int .i64 r,.slice none 0 0,.slice none 0 0,.int .i64 0,.int .i64 0,.int .u64 0]) (cs' := #[.int .i64 a,.int .i64 r,.slice A2 bs.length c2,.slice none 0 0,.int .i64 0,.int .i64 0,.int .u64 0]) (zi (cs := #[.int .i64 a,.int .i64 0,.slice none 0 0,.slice none 0 0,.int .i64 0,.int .i64 0,.int .u64 0]) (cs' := #[.int .i64 a,.int .i64 r,.slice none 0 0,.slice none 0 0,.int .i64 0,.int .i64 0,.int .u64 0]) (zi (cs := #[.int .i64 0,.int .i64 0,.slice none 0 0,.slice none 0 0,.int .i64 0,.int .i64 0,.int .u64 0]) (cs' := #[.int .i64 a,.int .i64 0,.slice none 0 0,.slice none 0 0,.int .i64 0,.int .i64 0,.int .u64 0]) D6.out 0 _ rfl) 1 _ rfl) 2 _ rfl) 3 _ rfl) 4 _ rfl) 5 _ rfl) 6 _ rfl) N67.out _
 have x7 : ((((((((w4.setCell ⟨g6,0,none⟩ (.int .i64 a)).setCell ⟨g6,1,none⟩ (.int .i64 r)).setCell ⟨g6,2,none⟩ (.slice A2 bs.length c2)).setCell ⟨g6,3,none⟩ (.slice A3 ps.length c3)).setCell ⟨g6,4,none⟩ (.int .i64 x)).setCell ⟨g6,5,none⟩ (.int .i64 y)).setCell ⟨g6,6,none⟩ (.int .u64 z)).setCell ⟨g7,0,none⟩ (.int .i64 0)).heap[g7]? = some (.cells #[.int .i64 0] 29 (0,0)) := zi (zk (zk (zk (zk (zk (zk (zk D7.out (Ne.symm N67.out) _) (Ne.symm N67.out) _) (Ne.symm N67.out) _) (Ne.symm N67.out) _) (Ne.symm N67.out) _) (Ne.symm N67.out) _) (Ne.symm N67.out) _) 0 _ rfl
 have x8 : Below w.heap.size w ((((((((w4.setCell ⟨g6,0,none⟩ (.int .i64 a)).setCell ⟨g6,1,none⟩ (.int .i64 r)).setCell ⟨g6,2,none⟩ (.slice A2 bs.length c2)).setCell ⟨g6,3,none⟩ (.slice A3 ps.length c3)).setCell ⟨g6,4,none⟩ (.int .i64 x)).setCell ⟨g6,5,none⟩ (.int .i64 y)).setCell ⟨g6,6,none⟩ (.int .u64 z)).setCell ⟨g7,0,none⟩ (.int .i64 0)) := zg (zg (zg (zg (zg (zg (zg (zg HB4.out G6.out) G6.out) G6.out) G6.out) G6.out) G6.out) G6.out) G7.out
 have x9 : zM.Own ((((((((w4.setCell ⟨g6,0,none⟩ (.int .i64 a)).setCell ⟨g6,1,none⟩ (.int .i64 r)).setCell ⟨g6,2,none⟩ (.slice A2 bs.length c2)).setCell ⟨g6,3,none⟩ (.slice A3 ps.length c3)).setCell ⟨g6,4,none⟩ (.int .i64 x)).setCell ⟨g6,5,none⟩ (.int .i64 y)).setCell ⟨g6,6,none⟩ (.int .u64 z)).setCell ⟨g7,0,none⟩ (.int .i64 0)) w.heap.size A2 c2 bs A3 c3 ps := (V4.out.sets D6.out _ _ _ _ _ _ _).set1 (zk (zk (zk (zk (zk (zk (zk D7.out (Ne.symm N67.out) _) (Ne.symm N67.out) _) (Ne.symm N67.out) _) (Ne.symm N67.out) _) (Ne.symm N67.out) _) (Ne.symm N67.out) _) (Ne.symm N67.out) _) _
 generalize ((((((((w4.setCell ⟨g6,0,none⟩ (.int .i64 a)).setCell ⟨g6,1,none⟩ (.int .i64 r)).setCell ⟨g6,2,none⟩ (.slice A2 bs.length c2)).setCell ⟨g6,3,none⟩ (.slice A3 ps.length c3)).setCell ⟨g6,4,none⟩ (.int .i64 x)).setCell ⟨g6,5,none⟩ (.int .i64 y)).setCell ⟨g6,6,none⟩ (.int .u64 z)).setCell ⟨g7,0,none⟩ (.int .i64 0)) = wE at x6 x7 x8 x9 ⊢
 refine leaves_cons (f := 64) (args := #[.pointer (some ⟨g6,0,none⟩),.pointer (some ⟨g7,0,none⟩)]) (by simp) (by simp [go_sem]) ?_
 refine (zM.idle g6 g7 _).mono ?_
 rintro e u' w'' ⟨rfl,rfl,rfl⟩
 have hc60 : w''.cell? ⟨g6,0,none⟩ = some (.int .i64 a) := (zb x6 0).trans rfl
 have hc61 : w''.cell? ⟨g6,1,none⟩ = some (.int .i64 r) := (zb x6 1).trans rfl
 have hc62 : w''.cell? ⟨g6,2,none⟩ = some (.slice A2 bs.length c2) := (zb x6 2).trans rfl
 have hc63 : w''.cell? ⟨g6,3,none⟩ = some (.slice A3 ps.length c3) := (zb x6 3).trans rfl
 have hc64 : w''.cell? ⟨g6,4,none⟩ = some (.int .i64 x) := (zb x6 4).trans rfl
 have hc65 : w''.cell? ⟨g6,5,none⟩ = some (.int .i64 y) := (zb x6 5).trans rfl
 have hc66 : w''.cell? ⟨g6,6,none⟩ = some (.int .u64 z) := (zb x6 6).trans rfl
 have hc7 : w''.cell? ⟨g7,0,none⟩ = some (.int .i64 0) := (zb x7 0).trans rfl
 simp [Leaves,settle,results,Try.results29,asAddr,go_sem,hc60,hc61,hc62,hc63,hc64,hc65,hc66,hc7]
 exact ⟨_,_,_,_,⟨⟨rfl,rfl⟩,rfl,rfl⟩,x9,x8⟩
set_option maxHeartbeats 8000000 in
set_option maxRecDepth 100000 in
theorem zM.behindCut (s : ByteArray) (n : Int) (g : Nat) (w : World) (hcut : zN.f s ⟨#[99]⟩ = some (s,false)) (hn : w.heap[g]? = some (.cells #[.int .i64 n] 3 (0,0))) :
  Calls Try.prog 29 #[.string s,.string ⟨#[99]⟩,.func (.func 30) #[] #[.pointer (some ⟨g,0,none⟩)]] w fun e w' => e = .returned (.tuple #[.agg #[.int .i64 0,.int .i64 0,.slice none 0 0,.slice none 0 0,.int .i64 0,.int .i64 0,.int .u64 0],.int .i64 3]) ∧ Below w.heap.size w w' := by
 have hmf : ∀ (fn : Fn) (first cap : Array Value) (w : World),(Instr.makeFunc fn first cap).run Try.prog w = .ok (.func fn first cap) w := fun _ _ _ _ => rfl
 have HC := zc.mk hcut
 have HN := zc.mk hn
 clear hcut hn
 go_enter_defers Try.func29,Try.ntmps29
 go_wp2_with (first
  | ((with_reducible refine zu (N := 6) rfl ?_);refine zr ?hg (N := 6) ?hd (cs := #[.int .i64 0,.int .i64 0,.slice none 0 0,.slice none 0 0,.int .i64 0,.int .i64 0,.int .u64 0]) (t := 36) ?hr ?_;(case hd => rfl);(case hg => rfl);(case hr => first | (go_simp;done) | (go_simp;rfl));intro g6 hg w1 hbox hb;have G6 : zc (w.heap.size ≤ g6) := ⟨by rw [hg];exact Nat.le_refl _⟩;have B6 := zc.mk hbox;have HB1 := zc.mk hb;have N1 := zc.mk (zh HN.out hb);clear hb hbox hg)
  | ((with_reducible refine zu (N := 7) rfl ?_);refine zr ?hg (N := 7) ?hd (cs := #[.int .i64 0]) (t := 29) ?hr ?_;(case hd => rfl);(case hg => rfl);(case hr => first | (go_simp;done) | (go_simp;rfl));intro g7 hg w2 hbox hb;have G7 : zc (w.heap.size ≤ g7) := ⟨by rw [hg];exact zl HB1.out⟩;have N67 : zc (g6 ≠ g7) := ⟨by rw [hg];exact Nat.ne_of_lt (zP B6.out)⟩;have C7 := zc.mk hbox;have C6 := zc.mk (zh B6.out hb);have N2 := zc.mk (zh N1.out hb);have HB2 := zc.mk (zj HB1.out hb);clear hb hbox hg B6)
  | (go_at_call 55;(with_reducible refine (zN.calls _ _ _ _ _ HC.out).mono ?_);rintro e w3 ⟨rfl,⟨n3,rfl⟩⟩)
  | (go_at_call 26;(with_reducible refine (zaJ.no _).mono ?_);rintro e w4 ⟨rfl,rfl⟩;have D6 := zc.mk (zd C6.out n3);have D7 := zc.mk (zd C7.out n3);have HB4 := zc.mk (zm HB2.out n3)))
 refine leaves_cons (f := 64) (args := #[.pointer (some ⟨g6,0,none⟩),.pointer (some ⟨g7,0,none⟩)]) (by simp) (by simp [go_sem]) ?_
 refine (zM.catch g6 g7 [] _ _ D6.out D7.out N67.out).mono ?_
 rintro e u' w'' ⟨rfl,rfl,x6,x7,hx⟩
 have x8 := hx w HB4.out G6.out G7.out
 have hc60 : w''.cell? ⟨g6,0,none⟩ = some (.int .i64 0) := (zb x6 0).trans rfl
 have hc61 : w''.cell? ⟨g6,1,none⟩ = some (.int .i64 0) := (zb x6 1).trans rfl
 have hc62 : w''.cell? ⟨g6,2,none⟩ = some (.slice none 0 0) := (zb x6 2).trans rfl
 have hc63 : w''.cell? ⟨g6,3,none⟩ = some (.slice none 0 0) := (zb x6 3).trans rfl
 have hc64 : w''.cell? ⟨g6,4,none⟩ = some (.int .i64 0) := (zb x6 4).trans rfl
 have hc65 : w''.cell? ⟨g6,5,none⟩ = some (.int .i64 0) := (zb x6 5).trans rfl
 have hc66 : w''.cell? ⟨g6,6,none⟩ = some (.int .u64 0) := (zb x6 6).trans rfl
 have hc7 : w''.cell? ⟨g7,0,none⟩ = some (.int .i64 3) := (zb x7 0).trans rfl
 simp [Leaves,settle,results,Try.results29,asAddr,go_sem,hc60,hc61,hc62,hc63,hc64,hc65,hc66,hc7]
 exact x8
set_option maxHeartbeats 8000000 in
set_option maxRecDepth 100000 in
theorem zM.behindNone (s rest : ByteArray) (n : Int) (g k : Nat) (a r x y z : Int) (bs : List zY) (ps : List ByteArray) (ee : Int) (w : World) (hcut : zN.f s ⟨#[99]⟩ = some (rest,true)) (hT : zbJ.f k rest n = some (a,r,bs,ps,x,y,z,ee)) (he : ee ≠ 0) (hn : w.heap[g]? = some (.cells #[.int .i64 n] 3 (0,0))) :
  Calls Try.prog 29 #[.string s,.string ⟨#[99]⟩,.func (.func 30) #[] #[.pointer (some ⟨g,0,none⟩)]] w fun e w' => e = .returned (.tuple #[.agg #[.int .i64 0,.int .i64 0,.slice none 0 0,.slice none 0 0,.int .i64 0,.int .i64 0,.int .u64 0],.int .i64 3]) ∧ Below w.heap.size w w' := by
 have hmf : ∀ (fn : Fn) (first cap : Array Value) (w : World),(Instr.makeFunc fn first cap).run Try.prog w = .ok (.func fn first cap) w := fun _ _ _ _ => rfl
 have HC := zc.mk hcut
 have HN := zc.mk hn
 have HT := zc.mk hT
 have HE := zc.mk he
 clear hcut hn hT he
 go_enter_defers Try.func29,Try.ntmps29
 go_wp2_with (first
  | ((with_reducible refine zu (N := 6) rfl ?_);refine zr ?hg (N := 6) ?hd (cs := #[.int .i64 0,.int .i64 0,.slice none 0 0,.slice none 0 0,.int .i64 0,.int .i64 0,.int .u64 0]) (t := 36) ?hr ?_;(case hd => rfl);(case hg => rfl);(case hr => first | (go_simp;done) | (go_simp;rfl));intro g6 hg w1 hbox hb;have G6 : zc (w.heap.size ≤ g6) := ⟨by rw [hg];exact Nat.le_refl _⟩;have B6 := zc.mk hbox;have HB1 := zc.mk hb;have N1 := zc.mk (zh HN.out hb);clear hb hbox hg)
  | ((with_reducible refine zu (N := 7) rfl ?_);refine zr ?hg (N := 7) ?hd (cs := #[.int .i64 0]) (t := 29) ?hr ?_;(case hd => rfl);(case hg => rfl);(case hr => first | (go_simp;done) | (go_simp;rfl));intro g7 hg w2 hbox hb;have G7 : zc (w.heap.size ≤ g7) := ⟨by rw [hg];exact zl HB1.out⟩;have N67 : zc (g6 ≠ g7) := ⟨by rw [hg];exact Nat.ne_of_lt (zP B6.out)⟩;have C7 := zc.mk hbox;have C6 := zc.mk (zh B6.out hb);have N2 := zc.mk (zh N1.out hb);have HB2 := zc.mk (zj HB1.out hb);clear hb hbox hg B6)
  | (go_at_call 55;(with_reducible refine (zN.calls _ _ _ _ _ HC.out).mono ?_);rintro e w3 ⟨rfl,⟨n3,rfl⟩⟩)
  | (go_at_call 26;(with_reducible refine (zaJ.yes _).mono ?_);rintro e w1 ⟨rfl,rfl⟩)
  | (go_at_call 30;(with_reducible refine (zM.bad rest n g k a r x y z bs ps ee _ HT.out HE.out (zd N2.out _)).mono ?_);rintro e w4 ⟨rfl,hb⟩;have D6 := zc.mk (zh (zd C6.out _) hb);have D7 := zc.mk (zh (zd C7.out _) hb);have HB4 := zc.mk (zj (zm HB2.out _) hb);clear hb))
 refine leaves_cons (f := 64) (args := #[.pointer (some ⟨g6,0,none⟩),.pointer (some ⟨g7,0,none⟩)]) (by simp) (by simp [go_sem]) ?_
 refine (zM.catch g6 g7 [] _ _ D6.out D7.out N67.out).mono ?_
 rintro e u' w'' ⟨rfl,rfl,x6,x7,hx⟩
 have x8 := hx w HB4.out G6.out G7.out
 have hc60 : w''.cell? ⟨g6,0,none⟩ = some (.int .i64 0) := (zb x6 0).trans rfl
 have hc61 : w''.cell? ⟨g6,1,none⟩ = some (.int .i64 0) := (zb x6 1).trans rfl
 have hc62 : w''.cell? ⟨g6,2,none⟩ = some (.slice none 0 0) := (zb x6 2).trans rfl
 have hc63 : w''.cell? ⟨g6,3,none⟩ = some (.slice none 0 0) := (zb x6 3).trans rfl
 have hc64 : w''.cell? ⟨g6,4,none⟩ = some (.int .i64 0) := (zb x6 4).trans rfl
 have hc65 : w''.cell? ⟨g6,5,none⟩ = some (.int .i64 0) := (zb x6 5).trans rfl
 have hc66 : w''.cell? ⟨g6,6,none⟩ = some (.int .u64 0) := (zb x6 6).trans rfl
 have hc7 : w''.cell? ⟨g7,0,none⟩ = some (.int .i64 3) := (zb x7 0).trans rfl
 simp [Leaves,settle,results,Try.results29,asAddr,go_sem,hc60,hc61,hc62,hc63,hc64,hc65,hc66,hc7]
 exact x8
set_option maxHeartbeats 8000000 in
set_option maxRecDepth 100000 in
theorem zM.goodF (s rest : ByteArray) (n : Int) (k : Nat) (a r x y z : Int) (bs : List zY) (ps : List ByteArray) (w : World) (hcut : zN.f s ⟨#[99]⟩ = some (rest,true)) (hT : zbJ.f k rest n = some (a,r,bs,ps,x,y,z,0)) :
  Calls Try.prog 8 #[.string s,.int .i64 n] w fun e w' => ∃ A2 c2 A3 c3,e = .returned (.tuple #[.agg #[.int .i64 a,.int .i64 r,.slice A2 bs.length c2,.slice A3 ps.length c3,.int .i64 x,.int .i64 y,.int .u64 z],.int .i64 0]) ∧ zM.Own w' w.heap.size A2 c2 bs A3 c3 ps ∧ Below w.heap.size w w' := by
 have hmf : ∀ (fn : Fn) (first cap : Array Value) (w : World),(Instr.makeFunc fn first cap).run Try.prog w = .ok (.func fn first cap) w := fun _ _ _ _ => rfl
 have HC := zc.mk hcut
 have HT := zc.mk hT
 clear hcut hT
 go_enter Try.func8,Try.ntmps8
 go_wp2_with (first
  | ((with_reducible refine zu (N := 3) rfl ?_);refine zr ?hg (N := 3) ?hd (cs := #[.int .i64 n]) (t := 3) ?hr ?_;(case hd => rfl);(case hg => rfl);(case hr => first | (go_simp;done) | (go_simp;rfl));intro g3 hg w1 hbox hb;have B3 := zc.mk hbox;have HB1 := zc.mk hb;clear hb hbox hg)
  | ((with_reducible refine zu (N := 4) rfl ?_);refine zr ?hg (N := 4) ?hd (cs := #[.int .i64 0,.int .i64 0,.slice none 0 0,.slice none 0 0,.int .i64 0,.int .i64 0,.int .u64 0]) (t := 36) ?hr ?_;(case hd => rfl);(case hg => rfl);(case hr => first | (go_simp;done) | (go_simp;rfl));intro g4 hg w2 hbox hb;have G4 : zc (w.heap.size ≤ g4) := ⟨by rw [hg];exact zl HB1.out⟩;have C3 := zc.mk (zh B3.out hb);have B4 := zc.mk hbox;have HB2 := zc.mk (zj HB1.out hb);clear hb hbox hg)
  | (go_at_call 29;(with_reducible refine (zM.behindGood s rest n g3 k a r x y z bs ps _ HC.out HT.out C3.out).mono ?_);rintro e w3 ⟨A2,c2,A3,c3,rfl,hV,hb⟩;have V3 := zc.mk (hV.lower HB2.out.size);have D4 := zc.mk (zh B4.out hb);have HB3 := zc.mk (zj HB2.out hb);clear hb hV;have hc0 := (zb D4.out 0).trans rfl;have fhc0 := za D4.out 0;have hc1 := (zb D4.out 1).trans rfl;have fhc1 := za D4.out 1;have hc2 := (zb D4.out 2).trans rfl;have fhc2 := za D4.out 2;have hc3 := (zb D4.out 3).trans rfl;have fhc3 := za D4.out 3;have hc4 := (zb D4.out 4).trans rfl;have fhc4 := za D4.out 4;have hc5 := (zb D4.out 5).trans rfl;have fhc5 := za D4.out 5;have hc6 := (zb D4.out 6).trans rfl;have fhc6 := za D4.out 6))
 refine bodyPost_ret (z9 rfl _ _ g4 36 #[.int .i64 a,.int .i64 r,.slice A2 bs.length c2,.slice A3 ps.length c3,.int .i64 x,.int .i64 y,.int .u64 z] (0,0) _ rfl (zi (cs := #[.int .i64 a,.int .i64 r,.slice A2 bs.length c2,.slice A3 ps.length c3,.int .i64 x,.int .i64 y,.int .u64 0]) (cs' := #[.int .i64 a,.int .i64 r,.slice A2 bs.length c2,.slice A3 ps.length c3,.int .i64 x,.int .i64 y,.int .u64 z]) (zi (cs := #[.int .i64 a,.int .i64 r,.slice A2 bs.length c2,.slice A3 ps.length c3,.int .i64 x,.int .i64 0,.int .u64 0]) (cs' := #[.int .i64 a,.int .i64 r,.slice A2 bs.length c2,.slice A3 ps.length c3,.int .i64 x,.int .i64 y,.int .u64 0]) (zi (cs := #[.int .i64 a,.int .i64 r,.slice A2 bs.length c2,.slice A3 ps.length c3,.int .i64 0,.int .i64 0,.int .u64 0]) (cs' := #[.int .i64 a,.int .i64 r,.slice A2 bs.length c2,.slice A3 ps.length c3,.int .i64 x,.int .i64 0,.int .u64 0]) (zi (cs := #[.int .i64 a,.int .i64 r,.slice A2 bs.length c2,.slice none 0 0,.int .i64 0,.int .i64 0,.int .u64 0]) (cs' := #[.int .i64 a,.int .i64 r,.slice A2 bs.length c2,.slice A3 ps.length c3,.int .i64 0,.int .i64 0,.int .u64 0]) (zi (cs := #[.int .i64 a,.int .i64 r,.slice none 0 0,.slice none 0 0,.int .i64 0,.int .i64 0,.int .u64 0]) (cs' := #[.int .i64 a,.int .i64 r,.slice A2 bs.length c2,.slice none 0 0,.int .i64 0,.int .i64 0,.int .u64 0]) (zi (cs := #[.int .i64 a,.int .i64 0,.slice none 0 0,.slice none 0 0,.int .i64 0,.int .i64 0,.int .u64 0]) (cs' := #[.int .i64 a,.int .i64 r,.slice none 0 0,.slice none 0 0,.int .i64 0,.int .i64 0,.int .u64 0]) (zi (cs := #[.int .i64 0,.int .i64 0,.slice none 0 0,.slice none 0 0,.int .i64 0,.int .i64 0,.int .u64 0]) (cs' := #[.int .i64 a,.int .i64 0,.slice none 0 0,.slice none 0 0,.int .i64 0,.int .i64 0,.int .u64 0]) D4.out 0 _ rfl) 1 _ rfl) 2 _ rfl) 3 _ rfl) 4 _ rfl) 5 _ rfl) 6 _ rfl) Try.underlying36 rfl (by kernel_rfl)) rfl ?_
 exact ⟨_,_,_,_,rfl,V3.out.sets D4.out _ _ _ _ _ _ _,(zg (zg (zg (zg (zg (zg (zg HB3.out G4.out) G4.out) G4.out) G4.out) G4.out) G4.out) G4.out)⟩
set_option maxHeartbeats 8000000 in
set_option maxRecDepth 100000 in
theorem zM.cutF (s : ByteArray) (n : Int) (w : World) (hcut : zN.f s ⟨#[99]⟩ = some (s,false)) :
  Calls Try.prog 8 #[.string s,.int .i64 n] w fun e w' => e = .returned (.tuple #[.agg #[.int .i64 0,.int .i64 0,.slice none 0 0,.slice none 0 0,.int .i64 0,.int .i64 0,.int .u64 0],.int .i64 3]) ∧ Below w.heap.size w w' := by
 have hmf : ∀ (fn : Fn) (first cap : Array Value) (w : World),(Instr.makeFunc fn first cap).run Try.prog w = .ok (.func fn first cap) w := fun _ _ _ _ => rfl
 have HC := zc.mk hcut
 clear hcut
 go_enter Try.func8,Try.ntmps8
 go_wp2_with (first
  | ((with_reducible refine zu (N := 3) rfl ?_);refine zr ?hg (N := 3) ?hd (cs := #[.int .i64 n]) (t := 3) ?hr ?_;(case hd => rfl);(case hg => rfl);(case hr => first | (go_simp;done) | (go_simp;rfl));intro g3 hg w1 hbox hb;have B3 := zc.mk hbox;have HB1 := zc.mk hb;clear hb hbox hg)
  | ((with_reducible refine zu (N := 4) rfl ?_);refine zr ?hg (N := 4) ?hd (cs := #[.int .i64 0,.int .i64 0,.slice none 0 0,.slice none 0 0,.int .i64 0,.int .i64 0,.int .u64 0]) (t := 36) ?hr ?_;(case hd => rfl);(case hg => rfl);(case hr => first | (go_simp;done) | (go_simp;rfl));intro g4 hg w2 hbox hb;have G4 : zc (w.heap.size ≤ g4) := ⟨by rw [hg];exact zl HB1.out⟩;have C3 := zc.mk (zh B3.out hb);have B4 := zc.mk hbox;have HB2 := zc.mk (zj HB1.out hb);clear hb hbox hg)
  | (go_at_call 29;(with_reducible refine (zM.behindCut s n g3 _ HC.out C3.out).mono ?_);rintro e w3 ⟨rfl,hb⟩;have D4 := zc.mk (zh B4.out hb);have HB3 := zc.mk (zj HB2.out hb);clear hb;have hc0 := (zb D4.out 0).trans rfl;have fhc0 := za D4.out 0;have hc1 := (zb D4.out 1).trans rfl;have fhc1 := za D4.out 1;have hc2 := (zb D4.out 2).trans rfl;have fhc2 := za D4.out 2;have hc3 := (zb D4.out 3).trans rfl;have fhc3 := za D4.out 3;have hc4 := (zb D4.out 4).trans rfl;have fhc4 := za D4.out 4;have hc5 := (zb D4.out 5).trans rfl;have fhc5 := za D4.out 5;have hc6 := (zb D4.out 6).trans rfl;have fhc6 := za D4.out 6))
 refine bodyPost_ret (z9 rfl _ _ g4 36 #[.int .i64 0,.int .i64 0,.slice none 0 0,.slice none 0 0,.int .i64 0,.int .i64 0,.int .u64 0] (0,0) _ rfl (zi (zi (zi (zi (zi (zi (zi D4.out 0 _ rfl) 1 _ rfl) 2 _ rfl) 3 _ rfl) 4 _ rfl) 5 _ rfl) 6 _ rfl) Try.underlying36 rfl (by kernel_rfl)) rfl ?_
 exact ⟨rfl,(zg (zg (zg (zg (zg (zg (zg HB3.out G4.out) G4.out) G4.out) G4.out) G4.out) G4.out) G4.out)⟩
set_option maxHeartbeats 8000000 in
set_option maxRecDepth 100000 in
theorem zM.noneF (s rest : ByteArray) (n : Int) (k : Nat) (a r x y z : Int) (bs : List zY) (ps : List ByteArray) (ee : Int) (w : World) (hcut : zN.f s ⟨#[99]⟩ = some (rest,true)) (hT : zbJ.f k rest n = some (a,r,bs,ps,x,y,z,ee)) (he : ee ≠ 0) :
  Calls Try.prog 8 #[.string s,.int .i64 n] w fun e w' => e = .returned (.tuple #[.agg #[.int .i64 0,.int .i64 0,.slice none 0 0,.slice none 0 0,.int .i64 0,.int .i64 0,.int .u64 0],.int .i64 3]) ∧ Below w.heap.size w w' := by
 have hmf : ∀ (fn : Fn) (first cap : Array Value) (w : World),(Instr.makeFunc fn first cap).run Try.prog w = .ok (.func fn first cap) w := fun _ _ _ _ => rfl
 have HC := zc.mk hcut
 have HT := zc.mk hT
 have HE := zc.mk he
 clear hcut hT he
 go_enter Try.func8,Try.ntmps8
 go_wp2_with (first
  | ((with_reducible refine zu (N := 3) rfl ?_);refine zr ?hg (N := 3) ?hd (cs := #[.int .i64 n]) (t := 3) ?hr ?_;(case hd => rfl);(case hg => rfl);(case hr => first | (go_simp;done) | (go_simp;rfl));intro g3 hg w1 hbox hb;have B3 := zc.mk hbox;have HB1 := zc.mk hb;clear hb hbox hg)
  | ((with_reducible refine zu (N := 4) rfl ?_);refine zr ?hg (N := 4) ?hd (cs := #[.int .i64 0,.int .i64 0,.slice none 0 0,.slice none 0 0,.int .i64 0,.int .i64 0,.int .u64 0]) (t := 36) ?hr ?_;(case hd => rfl);(case hg => rfl);(case hr => first | (go_simp;done) | (go_simp;rfl));intro g4 hg w2 hbox hb;have G4 : zc (w.heap.size ≤ g4) := ⟨by rw [hg];exact zl HB1.out⟩;have C3 := zc.mk (zh B3.out hb);have B4 := zc.mk hbox;have HB2 := zc.mk (zj HB1.out hb);clear hb hbox hg)
  | (go_at_call 29;(with_reducible refine (zM.behindNone s rest n g3 k a r x y z bs ps ee _ HC.out HT.out HE.out C3.out).mono ?_);rintro e w3 ⟨rfl,hb⟩;have D4 := zc.mk (zh B4.out hb);have HB3 := zc.mk (zj HB2.out hb);clear hb;have hc0 := (zb D4.out 0).trans rfl;have fhc0 := za D4.out 0;have hc1 := (zb D4.out 1).trans rfl;have fhc1 := za D4.out 1;have hc2 := (zb D4.out 2).trans rfl;have fhc2 := za D4.out 2;have hc3 := (zb D4.out 3).trans rfl;have fhc3 := za D4.out 3;have hc4 := (zb D4.out 4).trans rfl;have fhc4 := za D4.out 4;have hc5 := (zb D4.out 5).trans rfl;have fhc5 := za D4.out 5;have hc6 := (zb D4.out 6).trans rfl;have fhc6 := za D4.out 6))
 refine bodyPost_ret (z9 rfl _ _ g4 36 #[.int .i64 0,.int .i64 0,.slice none 0 0,.slice none 0 0,.int .i64 0,.int .i64 0,.int .u64 0] (0,0) _ rfl (zi (zi (zi (zi (zi (zi (zi D4.out 0 _ rfl) 1 _ rfl) 2 _ rfl) 3 _ rfl) 4 _ rfl) 5 _ rfl) 6 _ rfl) Try.underlying36 rfl (by kernel_rfl)) rfl ?_
 exact ⟨rfl,(zg (zg (zg (zg (zg (zg (zg HB3.out G4.out) G4.out) G4.out) G4.out) G4.out) G4.out) G4.out)⟩
def zbT (s : Bs) (n : Int) : PT := match s with
 | c :: t => if c = 99 then zdT t n else zcV
 | [] => zcV
def zM.f (a0 : ByteArray) (a1 : Int) : Option (PT) := if a0.size < 4611686018427387904 then some (zbT (ofB a0) a1) else none
theorem zM.calls (a0 : ByteArray) (a1 : Int) (r1 : Int) (r2 : Int) (r3 : List zY) (r4 : List ByteArray) (r5 : Int) (r6 : Int) (r7 : Int) (r8 : Int) (w : World) (h : zM.f a0 a1 = some (r1,r2,r3,r4,r5,r6,r7,r8)) :
  Calls Try.prog 8 #[.string a0,.int .i64 a1] w fun e w' => ∃ v2_ v3_ : Value,e = .returned (.tuple #[.agg #[.int .i64 r1,.int .i64 r2,v2_,v3_,.int .i64 r5,.int .i64 r6,.int .u64 r7],.int .i64 r8]) ∧ Kd.S zb1 107 w' w.heap.size (fun k_ => some k_ ≠ (v3_ : Value).ownBlock) v2_ r3 ∧ Kd.R Kd.string 9 w' w.heap.size (fun _ => True) v3_ r4 ∧ Below w.heap.size w w' := by
 unfold zM.f at h
 split at h
 ·rename_i hs
  have h := Option.some.inj h
  rcases hq : ofB a0 with _ | ⟨c,t⟩
  ·rw [hq] at h
   simp only [zbT,zcV,Prod.mk.injEq] at h
   obtain ⟨rfl,rfl,rfl,rfl,rfl,rfl,rfl,rfl⟩ := h
   exact ((zM.cutF a0 a1 w (zbm _ _ (by rw [hq];simp))).mono (by rintro e w' ⟨rfl,hb⟩;exact ⟨_,_,rfl,Kd.S_nil _ _ _ _ _,Kd.R_nil _ _ _ _ _,hb⟩))
  ·rw [hq] at h
   simp only [zbT] at h
   by_cases hc : c = 99
   ·rw [if_pos hc] at h
    subst hc
    have hcut := zb0 a0 99 t hq
    have hs2 : (toB t).size < 4611686018427387904 := by
     have := congrArg List.length hq
     rw [zah,List.length_cons] at this
     rw [zV];omega
    obtain ⟨k,hk⟩ := (zfX (toB t) a1 hs2).rounds
    rw [zae] at hk
    rcases zgm t a1 with h0 | ⟨a,r,bs,ps,x,y,z,h0,_,_,_⟩
    ·rw [h0] at h hk
     simp only [zcV,Prod.mk.injEq] at h
     obtain ⟨rfl,rfl,rfl,rfl,rfl,rfl,rfl,rfl⟩ := h
     exact ((zM.noneF a0 (toB t) a1 k 0 0 0 0 0 [] [] 3 w hcut hk (by decide)).mono (by rintro e w' ⟨rfl,hb⟩;exact ⟨_,_,rfl,Kd.S_nil _ _ _ _ _,Kd.R_nil _ _ _ _ _,hb⟩))
    ·rw [h0] at h hk
     simp only [Prod.mk.injEq] at h
     obtain ⟨rfl,rfl,rfl,rfl,rfl,rfl,rfl,rfl⟩ := h
     exact ((zM.goodF a0 (toB t) a1 k _ _ _ _ _ _ _ w hcut hk).mono (by rintro e w' ⟨A2,c2,A3,c3,rfl,hV,hb⟩;exact ⟨_,_,rfl,hV.1,hV.2,hb⟩))
   ·rw [if_neg hc] at h
    simp only [zcV,Prod.mk.injEq] at h
    obtain ⟨rfl,rfl,rfl,rfl,rfl,rfl,rfl,rfl⟩ := h
    exact ((zM.cutF a0 a1 w (zbm _ _ (by rw [hq];simpa using hc))).mono (by rintro e w' ⟨rfl,hb⟩;exact ⟨_,_,rfl,Kd.S_nil _ _ _ _ _,Kd.R_nil _ _ _ _ _,hb⟩))
 ·cases h
end Go.Proofs.Ytgdpiegkoeikiaa.Px