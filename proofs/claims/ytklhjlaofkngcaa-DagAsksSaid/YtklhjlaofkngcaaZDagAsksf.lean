/- Part 32 of 33 of the proof of the law DagAsks: what is proved is the statement at the end of the last part; its conditions are those of the given row. -/
import Derived.Test.YtklhjlaofkngcaaZDagAskse
namespace Go.Proofs.Ytklhjlaofkngcaa.Px
open Go.RowKit Go.Proofs.YtklhjlaofkngcaaW.PrintWords Go.Proofs.YtklhjlaofkngcaaW.PrintLast Go.Proofs.YtklhjlaofkngcaaW.PrintMore
attribute [local go_sem] zF zH zM zN zB zC zG zI
set_option linter.unusedVariables false
set_option linter.unusedSimpArgs false
theorem akb {w0 w w1 : World} {g : Nat} {o : Obj} (x_ : w0.heap[g]? = some o) (hb_ : Below w.heap.size w w1) (h_ : w0.heap[g]? = some o → w.heap[g]? = some o := by intro x_;(with_reducible repeat (first | refine zao ?_ _ | refine zam ?_ | refine zf ?_ _));exact x_) : w1.heap[g]? = some o := zt (h_ x_) hb_
theorem akl {w w0 w1 w2 : World} (x_ : Below w.heap.size w w0) (hb_ : Below w1.heap.size w1 w2) (h_ : Below w.heap.size w w0 → Below w.heap.size w w1 := by intro x_;(repeat (with_reducible first | exact x_ | apply zl | apply zi | apply zq))) : Below w.heap.size w w2 := ze (h_ x_) hb_
theorem akw {w w0 w1 : World} (x_ : Below w.heap.size w w0) (h_ : Below w.heap.size w w0 → Below w.heap.size w w1 := by intro x_;(repeat (with_reducible first | exact x_ | apply zl | apply zi | apply zq))) : Below w.heap.size w w1 := h_ x_
theorem akg {w w0 w1 : World} {g : Nat} (x_ : Below w.heap.size w w0) (hg_ : g = w1.heap.size) (h_ : Below w.heap.size w w0 → Below w.heap.size w w1 := by intro x_;(repeat (with_reducible first | exact x_ | apply zl | apply zi | apply zq))) : w.heap.size ≤ g := by rw [hg_];exact zg (h_ x_)
theorem akn {w0 w : World} {g q : Nat} {o : Obj} (hg_ : q = w.heap.size) (x_ : w0.heap[g]? = some o) (h_ : w0.heap[g]? = some o → w.heap[g]? = some o := by intro x_;(with_reducible repeat (first | refine zao ?_ _ | refine zam ?_ | refine zf ?_ _));exact x_) : g ≠ q := by rw [hg_];exact Nat.ne_of_lt (za7 (h_ x_))
theorem akf {w1 W W' : World} {g q : Nat} {o : Obj} (hw_ : W' = W) (n_ : g ≠ q) (x_ : w1.heap[g]? = some o) (h_ : g ≠ q → w1.heap[g]? = some o → W.heap[g]? = some o := by intro n_ x_;(repeat (first | (with_reducible exact x_) | (with_reducible refine zao ?_ _) | (with_reducible refine zam ?_) | (with_reducible refine zf ?_ _) | refine zcg ?_ n_ _))) : W'.heap[g]? = some o := by rw [hw_];exact h_ n_ x_
theorem akp {w1 W W' : World} {g : Nat} {o o' : Obj} (hw_ : W' = W) (x_ : w1.heap[g]? = some o) (h_ : w1.heap[g]? = some o → W.heap[g]? = some o' := by intro x_;(repeat (first | (with_reducible exact x_) | (with_reducible refine zao ?_ _) | (with_reducible refine zam ?_) | (with_reducible refine zf ?_ _) | apply zbs));all_goals first | (with_reducible rfl) | (simp only [List.setIfInBounds_toArray,List.set_cons_zero,List.set_cons_succ];done) | rfl) : W'.heap[g]? = some o' := by rw [hw_];exact h_ x_
theorem aks {w w0 W W' : World} {g : Nat} (hw_ : W' = W) (n_ : w.heap.size ≤ g) (x_ : Below w.heap.size w w0) (h_ : w.heap.size ≤ g → Below w.heap.size w w0 → Below w.heap.size w W := by intro n_ x_;(repeat (with_reducible first | exact x_ | apply zl | apply zi | apply zq | refine zo ?_ n_))) : Below w.heap.size w W' := by rw [hw_];exact h_ n_ x_
theorem ziX {w w' : World} (h : za1 w w') : Below w.heap.size w w' := by
 obtain ⟨nd,rfl⟩ := h;repeat (first | exact Below.refl _ _ | apply zi)
section
variable {P : Program} {ops : Array Oper} {rest : List Oper} {o : Oper} {a : Act} {Q : Exit → Act → World → Prop}
theorem zgX {W : World} (hgd : o.guard = none) {cs : Array Value} {t : TypeId} {n : Nat}
  (hrun : (execOp a.eval o).run P W = .ok (.value (.slice (some ⟨W.heap.size,0,none⟩) n n)) (W.alloc (.cells cs t (0,0))))
  (h : ∀ g,g = W.heap.size → ∀ w1,w1.heap[g]? = some (.cells cs t (0,0)) → Below W.heap.size W w1 → wpList P ops Q rest (a.put o.dst (.slice (some ⟨g,0,none⟩) n n)) w1) : wpList P ops Q (o :: rest) a W :=
 Kd.event_run hgd hrun (h _ rfl _ (zbz W _) (zl (Below.refl _ _) _))
end
theorem zh5 {W : World} {g : Nat} (x y : Ent) {A3 A4 B3 B4 : Option Addr} {c3 c4 d3 d4 : Nat} (hb : W.heap[g]? = some (.cells #[.string x.f0,.int .i64 x.f1.f0,.int .i64 x.f1.f1,.slice A3 x.f1.f2.length c3,.slice A4 x.f1.f3.length c4,.int .i64 x.f1.f4.f0,.int .i64 x.f1.f4.f1,.string y.f0,.int .i64 y.f1.f0,.int .i64 y.f1.f1,.slice B3 y.f1.f2.length d3,.slice B4 y.f1.f3.length d4,.int .i64 y.f1.f4.f0,.int .i64 y.f1.f4.f1] 36 (0,0)))
  (l3 : x.f1.f2.length ≤ c3) (g3 : Kd.C k72 W A3 x.f1.f2.length x.f1.f2) (l4 : x.f1.f3.length ≤ c4) (g4 : Kd.C Kd.string W A4 x.f1.f3.length x.f1.f3) (l5 : y.f1.f2.length ≤ d3) (g5 : Kd.C k72 W B3 y.f1.f2.length y.f1.f2) (l6 : y.f1.f3.length ≤ d4) (g6 : Kd.C Kd.string W B4 y.f1.f3.length y.f1.f3) :
  Kd.C k36 W (some ⟨g,0,none⟩) 2 [x,y] := by
 refine ⟨rfl,by decide,fun _ => ⟨⟨g,0,none⟩,rfl,fun j p hj => ?_⟩⟩
 rcases j with _ | _ | j
 ·obtain rfl : x = p := Option.some.inj hj
  refine ⟨_,rfl,zhy W x l3 g3 l4 g4,fun i u hu => ?_⟩
  rcases i with _ | _ | _ | _ | _ | _ | _ | i
  iterate 7 exact (zb hb _).trans hu
  cases hu
 ·obtain rfl : y = p := Option.some.inj hj
  refine ⟨_,rfl,zhy W y l5 g5 l6 g6,fun i u hu => ?_⟩
  rcases i with _ | _ | _ | _ | _ | _ | _ | i
  iterate 7 exact (zb hb _).trans hu
  cases hu
 ·cases hj
structure zee (w W : World) (g3 g4 : Nat) (o3 o4 : Obj) : Prop where
 b : Below w.heap.size w W
 c3 : W.heap[g3]? = some o3
 c4 : W.heap[g4]? = some o4
theorem zee.step {w W W' : World} {g3 g4 : Nat} {o3 o4 : Obj} (h : zee w W g3 g4 o3 o4) (hb : Below W.heap.size W W') : zee w W' g3 g4 o3 o4 := ⟨ze h.b hb,zt h.c3 hb,zt h.c4 hb⟩
theorem zee.drew {w W : World} {g3 g4 : Nat} {o3 o4 : Obj} (h : zee w W g3 g4 o3 o4) : zee w W.drew g3 g4 o3 o4 := ⟨zq h.b,zam h.c3,zam h.c4⟩
def zA.T15 : Bool × List (List Nat × List Nat) := (true,[([],[]),([],[]),([0,1],[0,1]),([],[]),([],[]),([3,4,2],[3,4]),([2,5,5],[2,5]),([6,6,0,1,2,3,4,5,6],[6])])
def zA.B15 : List Nat := [0,0,3,0,0,31,63,127]
theorem zA.tab15 : zbV .any (zdf Try.f3 15) = zA.T15 := by kernel_rfl
theorem zA.bits15 : zbw zA.T15.2 zA.B15 = true := by kernel_rfl
def zA.T16 : Bool × List (List Nat × List Nat) := (true,[([],[]),([],[]),([0,1],[0,1]),([],[]),([],[]),([3,4,2],[3,4]),([2,5,5],[2,5]),([6,6,0,1,2,3,4,5,6],[6])])
def zA.B16 : List Nat := [0,0,3,0,0,31,63,127]
theorem zA.tab16 : zbV .any (zdf Try.f3 16) = zA.T16 := by kernel_rfl
theorem zA.bits16 : zbw zA.T16.2 zA.B16 = true := by kernel_rfl
def zA.T17 : Bool × List (List Nat × List Nat) := (true,[([],[]),([0],[0]),([1],[1]),([1,2],[1,2]),([3,1],[3]),([4],[4]),([4,5],[4,5]),([6,4],[6]),([7],[7]),([7],[7]),([8,9,7],[7,8,9]),([7,10],[7,10]),([11,7],[11]),([12],[12]),([12],[12]),([13,14,12],[12,13,14]),([12,15],[12,15]),([16,12],[16]),([17],[17]),([18,17,17],[17,18]),([17],[17]),([20,19,17],[17,20]),([19,21,17],[17,19,21]),([17,22],[17,22]),([23,21,0,1,2,3,4,5,6,7,8,9,10,11,12,13,14,15,16,17,18,19,20,21,22,23],[23])])
def zA.B17 : List Nat := [0,1,3,7,15,31,63,127,255,255,1023,2047,4095,8191,8191,32767,65535,131071,262143,524287,262143,2097151,4194303,8388607,16777215]
theorem zA.tab17 : zbV .any (zdf Try.f3 17) = zA.T17 := by kernel_rfl
theorem zA.bits17 : zbw zA.T17.2 zA.B17 = true := by kernel_rfl
set_option maxHeartbeats 16000000 in
set_option maxRecDepth 100000 in
theorem zA.walk (n lo : Int) (A2 : Option Addr) (c2 : Nat) (L : List Ent) (va vr : Int) (A5 : Option Addr) (c5 : Nat) (bs : List S72) (A6 : Option Addr) (c6 : Nat) (ps : List ByteArray) (vx vy : Int) (g : ByteArray) (au r : Int) (w : World) (hr2 : Kd.C k36 w A2 L.length L) (hc2 : L.length ≤ c2) (hr5 : Kd.C k72 w A5 bs.length bs) (hc5 : bs.length ≤ c5) (hr6 : Kd.C Kd.string w A6 ps.length ps) (hc6 : ps.length ≤ c6) (few : Bool) (k1 k2 k3 k4 k5 k6 k7 k8 k9 : Nat) (e1 : ByteArray) (e2 e3 : Int) (e4 : List S72) (e5 : List ByteArray) (e6 e7 : Int) (e8 : Bool) (b1 : ByteArray) (b2 b3 : Int) (b4 : List S72) (b5 : List ByteArray) (b6 b7 : Int) (b8 : Bool) (RL : List Ent) (ML : List ByteArray) (rt : Bool)
  (hH0 : zaQ.f = some true) (hHFW : zbi.f n lo L = some few) (hF1 : zaI.f n lo L g = some (e1,e2,e3,e4,e5,e6,e7,e8)) (hF2 : zaa.f k1 n lo L g = some (e1,e2,e3,e4,e5,e6,e7,e8)) (hF3 : zbk.f n lo L au r = some (b1,b2,b3,b4,b5,b6,b7,b8)) (hF4 : zag.f k2 n lo L au r = some (b1,b2,b3,b4,b5,b6,b7,b8)) (hE1 : zr.f k3 [⟨e1,⟨e2,e3,e4,e5,⟨e6,e7⟩⟩⟩,⟨b1,⟨b2,b3,b4,b5,⟨b6,b7⟩⟩⟩] [⟨e1,⟨e2,e3,e4,e5,⟨e6,e7⟩⟩⟩,⟨b1,⟨b2,b3,b4,b5,⟨b6,b7⟩⟩⟩] = some true) (hQ1 : zaV.f k4 n lo L r = some RL) (hQ2 : zS.f k5 n lo L r = some RL) (hE2 : zr.f k6 RL RL = some true) (hQ3 : zal.f n lo L va vr bs ps vx vy = some ML) (hQ4 : zx.f k7 n lo L va vr bs ps vx vy = some ML) (hE3 : zT.f k8 ML ML = some true) (hQ5 : zaB.f n lo L = some rt) (hQ6 : zj.f k9 n lo L = some rt) :
  Calls Try.prog 3 #[.agg #[.int .i64 n,.int .i64 lo,.slice A2 L.length c2,.int .i64 va,.int .i64 vr,.slice A5 bs.length c5,.slice A6 ps.length c6,.int .i64 vx,.int .i64 vy,.string g,.int .i64 au,.int .i64 r]] w fun e w' => e = .returned (.bool true) ∧ Below w.heap.size w w' := by
 have HR := za.mk hr2
 have HC := za.mk hc2
 have R5 := za.mk hr5
 have C5 := za.mk hc5
 have R6 := za.mk hr6
 have C6 := za.mk hc6
 have H0 := za.mk hH0
 have HFW := za.mk hHFW
 have F1 := za.mk hF1
 have F2 := za.mk hF2
 have F3 := za.mk hF3
 have F4 := za.mk hF4
 have E1 := za.mk hE1
 have Q1 := za.mk hQ1
 have Q2 := za.mk hQ2
 have E2 := za.mk hE2
 have Q3 := za.mk hQ3
 have Q4 := za.mk hQ4
 have E3 := za.mk hE3
 have Q5 := za.mk hQ5
 have Q6 := za.mk hQ6
 clear hr2 hc2 hr5 hc5 hr6 hc6 hH0 hHFW hF1 hF2 hF3 hF4 hE1 hQ1 hQ2 hE2 hQ3 hQ4 hE3 hQ5 hQ6
 have Hw := za.mk (Below.refl w.heap.size w)
 rcases few with _ | _
 ·go_enter Try.func3,Try.ntmps3
  go_wp2_with (first
  | ((with_reducible refine zu (N := 1) rfl ?_);refine zp ?hg (N := 1) ?hd (cs := #[.int .i64 n,.int .i64 lo,.slice A2 L.length c2,.int .i64 va,.int .i64 vr,.slice A5 bs.length c5,.slice A6 ps.length c6,.int .i64 vx,.int .i64 vy,.string g,.int .i64 au,.int .i64 r]) (t := 32) ?hr ?_;(case hd => rfl);(case hg => rfl);(case hr => first | (go_simp;done) | (go_simp;rfl));intro g1 hg u1 hbox hb;have Gw_g1 := za.mk (akg Hw.out hg);replace Hw := za.mk (akl Hw.out hb);have Bg1 := za.mk hbox;clear hbox hb hg;have zg1_0 : u1.cell? ⟨g1,0,none⟩ = some (.int .i64 n) := (zb Bg1.out 0).trans rfl;have zg1_1 : u1.cell? ⟨g1,1,none⟩ = some (.int .i64 lo) := (zb Bg1.out 1).trans rfl;have zg1_2 : u1.cell? ⟨g1,2,none⟩ = some (.slice A2 L.length c2) := (zb Bg1.out 2).trans rfl;have zg1_3 : u1.cell? ⟨g1,3,none⟩ = some (.int .i64 va) := (zb Bg1.out 3).trans rfl;have zg1_4 : u1.cell? ⟨g1,4,none⟩ = some (.int .i64 vr) := (zb Bg1.out 4).trans rfl;have zg1_5 : u1.cell? ⟨g1,5,none⟩ = some (.slice A5 bs.length c5) := (zb Bg1.out 5).trans rfl;have zg1_6 : u1.cell? ⟨g1,6,none⟩ = some (.slice A6 ps.length c6) := (zb Bg1.out 6).trans rfl;have zg1_7 : u1.cell? ⟨g1,7,none⟩ = some (.int .i64 vx) := (zb Bg1.out 7).trans rfl;have zg1_8 : u1.cell? ⟨g1,8,none⟩ = some (.int .i64 vy) := (zb Bg1.out 8).trans rfl;have zg1_9 : u1.cell? ⟨g1,9,none⟩ = some (.string g) := (zb Bg1.out 9).trans rfl;have zg1_10 : u1.cell? ⟨g1,10,none⟩ = some (.int .i64 au) := (zb Bg1.out 10).trans rfl;have zg1_11 : u1.cell? ⟨g1,11,none⟩ = some (.int .i64 r) := (zb Bg1.out 11).trans rfl;have fg1_0 := zc Bg1.out 0;have fg1_1 := zc Bg1.out 1;have fg1_2 := zc Bg1.out 2;have fg1_3 := zc Bg1.out 3;have fg1_4 := zc Bg1.out 4;have fg1_5 := zc Bg1.out 5;have fg1_6 := zc Bg1.out 6;have fg1_7 := zc Bg1.out 7;have fg1_8 := zc Bg1.out 8;have fg1_9 := zc Bg1.out 9;have fg1_10 := zc Bg1.out 10;have fg1_11 := zc Bg1.out 11)
  | ((with_reducible refine zu (N := 3) rfl ?_);refine zp ?hg (N := 3) ?hd (cs := #[.int .i64 0,.int .i64 0,.slice none 0 0]) (t := 24) ?hr ?_;(case hd => rfl);(case hg => rfl);(case hr => first | (go_simp;done) | (go_simp;rfl));intro g3 hg u2 hbox hb;have Gw_g3 := za.mk (akg Hw.out hg);have Ng1_g3 := za.mk (akn hg Bg1.out);clear zg1_0 zg1_1 zg1_2 zg1_3 zg1_4 zg1_5 zg1_6 zg1_7 zg1_8 zg1_9 zg1_10 zg1_11 fg1_0 fg1_1 fg1_2 fg1_3 fg1_4 fg1_5 fg1_6 fg1_7 fg1_8 fg1_9 fg1_10 fg1_11;replace Bg1 := za.mk (akb Bg1.out hb);replace Hw := za.mk (akl Hw.out hb);have Bg3 := za.mk hbox;clear hbox hb hg;have zg3_0 : u2.cell? ⟨g3,0,none⟩ = some (.int .i64 0) := (zb Bg3.out 0).trans rfl;have zg3_1 : u2.cell? ⟨g3,1,none⟩ = some (.int .i64 0) := (zb Bg3.out 1).trans rfl;have zg3_2 : u2.cell? ⟨g3,2,none⟩ = some (.slice none 0 0) := (zb Bg3.out 2).trans rfl;have fg3_0 := zc Bg3.out 0;have fg3_1 := zc Bg3.out 1;have fg3_2 := zc Bg3.out 2)
  | ((with_reducible refine zaO (t := 24) (p := 3) rfl ?_);refine zaG (t := 24) (p := 3) (v := ?vo_u3) (w1 := (((u2.setCell ⟨g3,0,none⟩ (.int .i64 n)).setCell ⟨g3,1,none⟩ (.int .i64 lo)).setCell ⟨g3,2,none⟩ (.slice A2 L.length c2))) ?hg ?ho ?hn ?hr ?_;(case ho => rfl);(case hg => rfl);(case hn => rfl);(case hr => first | (go_simp;done) | (go_simp;rfl));intro u3 hw;clear zg3_0 zg3_1 zg3_2 fg3_0 fg3_1 fg3_2;replace Bg1 := za.mk (akf hw Ng1_g3.out Bg1.out);replace Bg3 : za (u3.heap[g3]? = some (.cells #[.int .i64 n,.int .i64 lo,.slice A2 L.length c2] 24 (0,0))) := ⟨akp hw Bg3.out⟩;replace Hw := za.mk (aks hw Gw_g3.out Hw.out);clear hw;have zg1_0 : u3.cell? ⟨g1,0,none⟩ = some (.int .i64 n) := (zb Bg1.out 0).trans rfl;have zg1_1 : u3.cell? ⟨g1,1,none⟩ = some (.int .i64 lo) := (zb Bg1.out 1).trans rfl;have zg1_2 : u3.cell? ⟨g1,2,none⟩ = some (.slice A2 L.length c2) := (zb Bg1.out 2).trans rfl;have zg1_3 : u3.cell? ⟨g1,3,none⟩ = some (.int .i64 va) := (zb Bg1.out 3).trans rfl;have zg1_4 : u3.cell? ⟨g1,4,none⟩ = some (.int .i64 vr) := (zb Bg1.out 4).trans rfl;have zg1_5 : u3.cell? ⟨g1,5,none⟩ = some (.slice A5 bs.length c5) := (zb Bg1.out 5).trans rfl;have zg1_6 : u3.cell? ⟨g1,6,none⟩ = some (.slice A6 ps.length c6) := (zb Bg1.out 6).trans rfl;have zg1_7 : u3.cell? ⟨g1,7,none⟩ = some (.int .i64 vx) := (zb Bg1.out 7).trans rfl;have zg1_8 : u3.cell? ⟨g1,8,none⟩ = some (.int .i64 vy) := (zb Bg1.out 8).trans rfl;have zg1_9 : u3.cell? ⟨g1,9,none⟩ = some (.string g) := (zb Bg1.out 9).trans rfl;have zg1_10 : u3.cell? ⟨g1,10,none⟩ = some (.int .i64 au) := (zb Bg1.out 10).trans rfl;have zg1_11 : u3.cell? ⟨g1,11,none⟩ = some (.int .i64 r) := (zb Bg1.out 11).trans rfl;have fg1_0 := zc Bg1.out 0;have fg1_1 := zc Bg1.out 1;have fg1_2 := zc Bg1.out 2;have fg1_3 := zc Bg1.out 3;have fg1_4 := zc Bg1.out 4;have fg1_5 := zc Bg1.out 5;have fg1_6 := zc Bg1.out 6;have fg1_7 := zc Bg1.out 7;have fg1_8 := zc Bg1.out 8;have fg1_9 := zc Bg1.out 9;have fg1_10 := zc Bg1.out 10;have fg1_11 := zc Bg1.out 11)
  | ((with_reducible refine zu (N := 4) rfl ?_);refine zp ?hg (N := 4) ?hd (cs := #[.int .i64 0,.int .i64 0,.slice none 0 0,.slice none 0 0,.int .i64 0,.int .i64 0]) (t := 30) ?hr ?_;(case hd => rfl);(case hg => rfl);(case hr => first | (go_simp;done) | (go_simp;rfl));intro g4 hg u4 hbox hb;have Gw_g4 := za.mk (akg Hw.out hg);have Ng1_g4 := za.mk (akn hg Bg1.out);have Ng3_g4 := za.mk (akn hg Bg3.out);clear zg1_0 zg1_1 zg1_2 zg1_3 zg1_4 zg1_5 zg1_6 zg1_7 zg1_8 zg1_9 zg1_10 zg1_11 fg1_0 fg1_1 fg1_2 fg1_3 fg1_4 fg1_5 fg1_6 fg1_7 fg1_8 fg1_9 fg1_10 fg1_11;replace Bg1 := za.mk (akb Bg1.out hb);replace Bg3 := za.mk (akb Bg3.out hb);replace Hw := za.mk (akl Hw.out hb);have Bg4 := za.mk hbox;clear hbox hb hg;have zg4_0 : u4.cell? ⟨g4,0,none⟩ = some (.int .i64 0) := (zb Bg4.out 0).trans rfl;have zg4_1 : u4.cell? ⟨g4,1,none⟩ = some (.int .i64 0) := (zb Bg4.out 1).trans rfl;have zg4_2 : u4.cell? ⟨g4,2,none⟩ = some (.slice none 0 0) := (zb Bg4.out 2).trans rfl;have zg4_3 : u4.cell? ⟨g4,3,none⟩ = some (.slice none 0 0) := (zb Bg4.out 3).trans rfl;have zg4_4 : u4.cell? ⟨g4,4,none⟩ = some (.int .i64 0) := (zb Bg4.out 4).trans rfl;have zg4_5 : u4.cell? ⟨g4,5,none⟩ = some (.int .i64 0) := (zb Bg4.out 5).trans rfl;have fg4_0 := zc Bg4.out 0;have fg4_1 := zc Bg4.out 1;have fg4_2 := zc Bg4.out 2;have fg4_3 := zc Bg4.out 3;have fg4_4 := zc Bg4.out 4;have fg4_5 := zc Bg4.out 5)
  | ((with_reducible refine zaO (t := 30) (p := 4) rfl ?_);refine zaG (t := 30) (p := 4) (v := ?vo_u5) (w1 := ((((((u4.setCell ⟨g4,0,none⟩ (.int .i64 va)).setCell ⟨g4,1,none⟩ (.int .i64 vr)).setCell ⟨g4,2,none⟩ (.slice A5 bs.length c5)).setCell ⟨g4,3,none⟩ (.slice A6 ps.length c6)).setCell ⟨g4,4,none⟩ (.int .i64 vx)).setCell ⟨g4,5,none⟩ (.int .i64 vy))) ?hg ?ho ?hn ?hr ?_;(case ho => rfl);(case hg => rfl);(case hn => rfl);(case hr => first | (go_simp;done) | (go_simp;rfl));intro u5 hw;clear zg4_0 zg4_1 zg4_2 zg4_3 zg4_4 zg4_5 fg4_0 fg4_1 fg4_2 fg4_3 fg4_4 fg4_5;replace Bg1 := za.mk (akf hw Ng1_g4.out Bg1.out);replace Bg3 := za.mk (akf hw Ng3_g4.out Bg3.out);replace Bg4 : za (u5.heap[g4]? = some (.cells #[.int .i64 va,.int .i64 vr,.slice A5 bs.length c5,.slice A6 ps.length c6,.int .i64 vx,.int .i64 vy] 30 (0,0))) := ⟨akp hw Bg4.out⟩;replace Hw := za.mk (aks hw Gw_g4.out Hw.out);clear hw;have zg1_0 : u5.cell? ⟨g1,0,none⟩ = some (.int .i64 n) := (zb Bg1.out 0).trans rfl;have zg1_1 : u5.cell? ⟨g1,1,none⟩ = some (.int .i64 lo) := (zb Bg1.out 1).trans rfl;have zg1_2 : u5.cell? ⟨g1,2,none⟩ = some (.slice A2 L.length c2) := (zb Bg1.out 2).trans rfl;have zg1_3 : u5.cell? ⟨g1,3,none⟩ = some (.int .i64 va) := (zb Bg1.out 3).trans rfl;have zg1_4 : u5.cell? ⟨g1,4,none⟩ = some (.int .i64 vr) := (zb Bg1.out 4).trans rfl;have zg1_5 : u5.cell? ⟨g1,5,none⟩ = some (.slice A5 bs.length c5) := (zb Bg1.out 5).trans rfl;have zg1_6 : u5.cell? ⟨g1,6,none⟩ = some (.slice A6 ps.length c6) := (zb Bg1.out 6).trans rfl;have zg1_7 : u5.cell? ⟨g1,7,none⟩ = some (.int .i64 vx) := (zb Bg1.out 7).trans rfl;have zg1_8 : u5.cell? ⟨g1,8,none⟩ = some (.int .i64 vy) := (zb Bg1.out 8).trans rfl;have zg1_9 : u5.cell? ⟨g1,9,none⟩ = some (.string g) := (zb Bg1.out 9).trans rfl;have zg1_10 : u5.cell? ⟨g1,10,none⟩ = some (.int .i64 au) := (zb Bg1.out 10).trans rfl;have zg1_11 : u5.cell? ⟨g1,11,none⟩ = some (.int .i64 r) := (zb Bg1.out 11).trans rfl;have fg1_0 := zc Bg1.out 0;have fg1_1 := zc Bg1.out 1;have fg1_2 := zc Bg1.out 2;have fg1_3 := zc Bg1.out 3;have fg1_4 := zc Bg1.out 4;have fg1_5 := zc Bg1.out 5;have fg1_6 := zc Bg1.out 6;have fg1_7 := zc Bg1.out 7;have fg1_8 := zc Bg1.out 8;have fg1_9 := zc Bg1.out 9;have fg1_10 := zc Bg1.out 10;have fg1_11 := zc Bg1.out 11)
  | (go_at_call 8;refine (zaQ.calls true _ H0.out).mono ?_;rintro e u6 ⟨rfl,hb⟩;clear zg1_0 zg1_1 zg1_2 zg1_3 zg1_4 zg1_5 zg1_6 zg1_7 zg1_8 zg1_9 zg1_10 zg1_11 fg1_0 fg1_1 fg1_2 fg1_3 fg1_4 fg1_5 fg1_6 fg1_7 fg1_8 fg1_9 fg1_10 fg1_11;replace Bg1 := za.mk (akb Bg1.out hb);replace Bg3 := za.mk (akb Bg3.out hb);replace Bg4 := za.mk (akb Bg4.out hb);replace Hw := za.mk (akl Hw.out hb);clear hb;have zg3_0 : u6.cell? ⟨g3,0,none⟩ = some (.int .i64 n) := (zb Bg3.out 0).trans rfl;have zg3_1 : u6.cell? ⟨g3,1,none⟩ = some (.int .i64 lo) := (zb Bg3.out 1).trans rfl;have zg3_2 : u6.cell? ⟨g3,2,none⟩ = some (.slice A2 L.length c2) := (zb Bg3.out 2).trans rfl;have fg3_0 := zc Bg3.out 0;have fg3_1 := zc Bg3.out 1;have fg3_2 := zc Bg3.out 2)
  | (go_at_call 9;refine (zbi.calls n lo _ _ L false _ (Kd.C_below HR.out (akw Hw.out)) HC.out HFW.out).mono ?_;rintro e u7 ⟨rfl,hb⟩;clear zg3_0 zg3_1 zg3_2 fg3_0 fg3_1 fg3_2;replace Bg1 := za.mk (akb Bg1.out hb);replace Bg3 := za.mk (akb Bg3.out hb);replace Bg4 := za.mk (akb Bg4.out hb);replace Hw := za.mk (akl Hw.out hb);clear hb;have zg3_0 : u7.cell? ⟨g3,0,none⟩ = some (.int .i64 n) := (zb Bg3.out 0).trans rfl;have zg3_1 : u7.cell? ⟨g3,1,none⟩ = some (.int .i64 lo) := (zb Bg3.out 1).trans rfl;have zg3_2 : u7.cell? ⟨g3,2,none⟩ = some (.slice A2 L.length c2) := (zb Bg3.out 2).trans rfl;have fg3_0 := zc Bg3.out 0;have fg3_1 := zc Bg3.out 1;have fg3_2 := zc Bg3.out 2))
  go_ret
  exact ⟨rfl,akw Hw.out⟩
 go_enter Try.func3,Try.ntmps3
 go_wp2_with (first
  | ((with_reducible refine zu (N := 1) rfl ?_);refine zp ?hg (N := 1) ?hd (cs := #[.int .i64 n,.int .i64 lo,.slice A2 L.length c2,.int .i64 va,.int .i64 vr,.slice A5 bs.length c5,.slice A6 ps.length c6,.int .i64 vx,.int .i64 vy,.string g,.int .i64 au,.int .i64 r]) (t := 32) ?hr ?_;(case hd => rfl);(case hg => rfl);(case hr => first | (go_simp;done) | (go_simp;rfl));intro g1 hg u1 hbox hb;have Gw_g1 := za.mk (akg Hw.out hg);replace Hw := za.mk (akl Hw.out hb);have Bg1 := za.mk hbox;clear hbox hb hg;have zg1_0 : u1.cell? ⟨g1,0,none⟩ = some (.int .i64 n) := (zb Bg1.out 0).trans rfl;have zg1_1 : u1.cell? ⟨g1,1,none⟩ = some (.int .i64 lo) := (zb Bg1.out 1).trans rfl;have zg1_2 : u1.cell? ⟨g1,2,none⟩ = some (.slice A2 L.length c2) := (zb Bg1.out 2).trans rfl;have zg1_3 : u1.cell? ⟨g1,3,none⟩ = some (.int .i64 va) := (zb Bg1.out 3).trans rfl;have zg1_4 : u1.cell? ⟨g1,4,none⟩ = some (.int .i64 vr) := (zb Bg1.out 4).trans rfl;have zg1_5 : u1.cell? ⟨g1,5,none⟩ = some (.slice A5 bs.length c5) := (zb Bg1.out 5).trans rfl;have zg1_6 : u1.cell? ⟨g1,6,none⟩ = some (.slice A6 ps.length c6) := (zb Bg1.out 6).trans rfl;have zg1_7 : u1.cell? ⟨g1,7,none⟩ = some (.int .i64 vx) := (zb Bg1.out 7).trans rfl;have zg1_8 : u1.cell? ⟨g1,8,none⟩ = some (.int .i64 vy) := (zb Bg1.out 8).trans rfl;have zg1_9 : u1.cell? ⟨g1,9,none⟩ = some (.string g) := (zb Bg1.out 9).trans rfl;have zg1_10 : u1.cell? ⟨g1,10,none⟩ = some (.int .i64 au) := (zb Bg1.out 10).trans rfl;have zg1_11 : u1.cell? ⟨g1,11,none⟩ = some (.int .i64 r) := (zb Bg1.out 11).trans rfl;have fg1_0 := zc Bg1.out 0;have fg1_1 := zc Bg1.out 1;have fg1_2 := zc Bg1.out 2;have fg1_3 := zc Bg1.out 3;have fg1_4 := zc Bg1.out 4;have fg1_5 := zc Bg1.out 5;have fg1_6 := zc Bg1.out 6;have fg1_7 := zc Bg1.out 7;have fg1_8 := zc Bg1.out 8;have fg1_9 := zc Bg1.out 9;have fg1_10 := zc Bg1.out 10;have fg1_11 := zc Bg1.out 11)
  | ((with_reducible refine zu (N := 3) rfl ?_);refine zp ?hg (N := 3) ?hd (cs := #[.int .i64 0,.int .i64 0,.slice none 0 0]) (t := 24) ?hr ?_;(case hd => rfl);(case hg => rfl);(case hr => first | (go_simp;done) | (go_simp;rfl));intro g3 hg u2 hbox hb;have Gw_g3 := za.mk (akg Hw.out hg);have Ng1_g3 := za.mk (akn hg Bg1.out);clear zg1_0 zg1_1 zg1_2 zg1_3 zg1_4 zg1_5 zg1_6 zg1_7 zg1_8 zg1_9 zg1_10 zg1_11 fg1_0 fg1_1 fg1_2 fg1_3 fg1_4 fg1_5 fg1_6 fg1_7 fg1_8 fg1_9 fg1_10 fg1_11;replace Bg1 := za.mk (akb Bg1.out hb);replace Hw := za.mk (akl Hw.out hb);have Bg3 := za.mk hbox;clear hbox hb hg;have zg3_0 : u2.cell? ⟨g3,0,none⟩ = some (.int .i64 0) := (zb Bg3.out 0).trans rfl;have zg3_1 : u2.cell? ⟨g3,1,none⟩ = some (.int .i64 0) := (zb Bg3.out 1).trans rfl;have zg3_2 : u2.cell? ⟨g3,2,none⟩ = some (.slice none 0 0) := (zb Bg3.out 2).trans rfl;have fg3_0 := zc Bg3.out 0;have fg3_1 := zc Bg3.out 1;have fg3_2 := zc Bg3.out 2)
  | ((with_reducible refine zaO (t := 24) (p := 3) rfl ?_);refine zaG (t := 24) (p := 3) (v := ?vo_u3) (w1 := (((u2.setCell ⟨g3,0,none⟩ (.int .i64 n)).setCell ⟨g3,1,none⟩ (.int .i64 lo)).setCell ⟨g3,2,none⟩ (.slice A2 L.length c2))) ?hg ?ho ?hn ?hr ?_;(case ho => rfl);(case hg => rfl);(case hn => rfl);(case hr => first | (go_simp;done) | (go_simp;rfl));intro u3 hw;clear zg3_0 zg3_1 zg3_2 fg3_0 fg3_1 fg3_2;replace Bg1 := za.mk (akf hw Ng1_g3.out Bg1.out);replace Bg3 : za (u3.heap[g3]? = some (.cells #[.int .i64 n,.int .i64 lo,.slice A2 L.length c2] 24 (0,0))) := ⟨akp hw Bg3.out⟩;replace Hw := za.mk (aks hw Gw_g3.out Hw.out);clear hw;have zg1_0 : u3.cell? ⟨g1,0,none⟩ = some (.int .i64 n) := (zb Bg1.out 0).trans rfl;have zg1_1 : u3.cell? ⟨g1,1,none⟩ = some (.int .i64 lo) := (zb Bg1.out 1).trans rfl;have zg1_2 : u3.cell? ⟨g1,2,none⟩ = some (.slice A2 L.length c2) := (zb Bg1.out 2).trans rfl;have zg1_3 : u3.cell? ⟨g1,3,none⟩ = some (.int .i64 va) := (zb Bg1.out 3).trans rfl;have zg1_4 : u3.cell? ⟨g1,4,none⟩ = some (.int .i64 vr) := (zb Bg1.out 4).trans rfl;have zg1_5 : u3.cell? ⟨g1,5,none⟩ = some (.slice A5 bs.length c5) := (zb Bg1.out 5).trans rfl;have zg1_6 : u3.cell? ⟨g1,6,none⟩ = some (.slice A6 ps.length c6) := (zb Bg1.out 6).trans rfl;have zg1_7 : u3.cell? ⟨g1,7,none⟩ = some (.int .i64 vx) := (zb Bg1.out 7).trans rfl;have zg1_8 : u3.cell? ⟨g1,8,none⟩ = some (.int .i64 vy) := (zb Bg1.out 8).trans rfl;have zg1_9 : u3.cell? ⟨g1,9,none⟩ = some (.string g) := (zb Bg1.out 9).trans rfl;have zg1_10 : u3.cell? ⟨g1,10,none⟩ = some (.int .i64 au) := (zb Bg1.out 10).trans rfl;have zg1_11 : u3.cell? ⟨g1,11,none⟩ = some (.int .i64 r) := (zb Bg1.out 11).trans rfl;have fg1_0 := zc Bg1.out 0;have fg1_1 := zc Bg1.out 1;have fg1_2 := zc Bg1.out 2;have fg1_3 := zc Bg1.out 3;have fg1_4 := zc Bg1.out 4;have fg1_5 := zc Bg1.out 5;have fg1_6 := zc Bg1.out 6;have fg1_7 := zc Bg1.out 7;have fg1_8 := zc Bg1.out 8;have fg1_9 := zc Bg1.out 9;have fg1_10 := zc Bg1.out 10;have fg1_11 := zc Bg1.out 11)
  | ((with_reducible refine zu (N := 4) rfl ?_);refine zp ?hg (N := 4) ?hd (cs := #[.int .i64 0,.int .i64 0,.slice none 0 0,.slice none 0 0,.int .i64 0,.int .i64 0]) (t := 30) ?hr ?_;(case hd => rfl);(case hg => rfl);(case hr => first | (go_simp;done) | (go_simp;rfl));intro g4 hg u4 hbox hb;have Gw_g4 := za.mk (akg Hw.out hg);have Ng1_g4 := za.mk (akn hg Bg1.out);have Ng3_g4 := za.mk (akn hg Bg3.out);clear zg1_0 zg1_1 zg1_2 zg1_3 zg1_4 zg1_5 zg1_6 zg1_7 zg1_8 zg1_9 zg1_10 zg1_11 fg1_0 fg1_1 fg1_2 fg1_3 fg1_4 fg1_5 fg1_6 fg1_7 fg1_8 fg1_9 fg1_10 fg1_11;replace Bg1 := za.mk (akb Bg1.out hb);replace Bg3 := za.mk (akb Bg3.out hb);replace Hw := za.mk (akl Hw.out hb);have Bg4 := za.mk hbox;clear hbox hb hg;have zg4_0 : u4.cell? ⟨g4,0,none⟩ = some (.int .i64 0) := (zb Bg4.out 0).trans rfl;have zg4_1 : u4.cell? ⟨g4,1,none⟩ = some (.int .i64 0) := (zb Bg4.out 1).trans rfl;have zg4_2 : u4.cell? ⟨g4,2,none⟩ = some (.slice none 0 0) := (zb Bg4.out 2).trans rfl;have zg4_3 : u4.cell? ⟨g4,3,none⟩ = some (.slice none 0 0) := (zb Bg4.out 3).trans rfl;have zg4_4 : u4.cell? ⟨g4,4,none⟩ = some (.int .i64 0) := (zb Bg4.out 4).trans rfl;have zg4_5 : u4.cell? ⟨g4,5,none⟩ = some (.int .i64 0) := (zb Bg4.out 5).trans rfl;have fg4_0 := zc Bg4.out 0;have fg4_1 := zc Bg4.out 1;have fg4_2 := zc Bg4.out 2;have fg4_3 := zc Bg4.out 3;have fg4_4 := zc Bg4.out 4;have fg4_5 := zc Bg4.out 5)
  | ((with_reducible refine zaO (t := 30) (p := 4) rfl ?_);refine zaG (t := 30) (p := 4) (v := ?vo_u5) (w1 := ((((((u4.setCell ⟨g4,0,none⟩ (.int .i64 va)).setCell ⟨g4,1,none⟩ (.int .i64 vr)).setCell ⟨g4,2,none⟩ (.slice A5 bs.length c5)).setCell ⟨g4,3,none⟩ (.slice A6 ps.length c6)).setCell ⟨g4,4,none⟩ (.int .i64 vx)).setCell ⟨g4,5,none⟩ (.int .i64 vy))) ?hg ?ho ?hn ?hr ?_;(case ho => rfl);(case hg => rfl);(case hn => rfl);(case hr => first | (go_simp;done) | (go_simp;rfl));intro u5 hw;clear zg4_0 zg4_1 zg4_2 zg4_3 zg4_4 zg4_5 fg4_0 fg4_1 fg4_2 fg4_3 fg4_4 fg4_5;replace Bg1 := za.mk (akf hw Ng1_g4.out Bg1.out);replace Bg3 := za.mk (akf hw Ng3_g4.out Bg3.out);replace Bg4 : za (u5.heap[g4]? = some (.cells #[.int .i64 va,.int .i64 vr,.slice A5 bs.length c5,.slice A6 ps.length c6,.int .i64 vx,.int .i64 vy] 30 (0,0))) := ⟨akp hw Bg4.out⟩;replace Hw := za.mk (aks hw Gw_g4.out Hw.out);clear hw;have zg1_0 : u5.cell? ⟨g1,0,none⟩ = some (.int .i64 n) := (zb Bg1.out 0).trans rfl;have zg1_1 : u5.cell? ⟨g1,1,none⟩ = some (.int .i64 lo) := (zb Bg1.out 1).trans rfl;have zg1_2 : u5.cell? ⟨g1,2,none⟩ = some (.slice A2 L.length c2) := (zb Bg1.out 2).trans rfl;have zg1_3 : u5.cell? ⟨g1,3,none⟩ = some (.int .i64 va) := (zb Bg1.out 3).trans rfl;have zg1_4 : u5.cell? ⟨g1,4,none⟩ = some (.int .i64 vr) := (zb Bg1.out 4).trans rfl;have zg1_5 : u5.cell? ⟨g1,5,none⟩ = some (.slice A5 bs.length c5) := (zb Bg1.out 5).trans rfl;have zg1_6 : u5.cell? ⟨g1,6,none⟩ = some (.slice A6 ps.length c6) := (zb Bg1.out 6).trans rfl;have zg1_7 : u5.cell? ⟨g1,7,none⟩ = some (.int .i64 vx) := (zb Bg1.out 7).trans rfl;have zg1_8 : u5.cell? ⟨g1,8,none⟩ = some (.int .i64 vy) := (zb Bg1.out 8).trans rfl;have zg1_9 : u5.cell? ⟨g1,9,none⟩ = some (.string g) := (zb Bg1.out 9).trans rfl;have zg1_10 : u5.cell? ⟨g1,10,none⟩ = some (.int .i64 au) := (zb Bg1.out 10).trans rfl;have zg1_11 : u5.cell? ⟨g1,11,none⟩ = some (.int .i64 r) := (zb Bg1.out 11).trans rfl;have fg1_0 := zc Bg1.out 0;have fg1_1 := zc Bg1.out 1;have fg1_2 := zc Bg1.out 2;have fg1_3 := zc Bg1.out 3;have fg1_4 := zc Bg1.out 4;have fg1_5 := zc Bg1.out 5;have fg1_6 := zc Bg1.out 6;have fg1_7 := zc Bg1.out 7;have fg1_8 := zc Bg1.out 8;have fg1_9 := zc Bg1.out 9;have fg1_10 := zc Bg1.out 10;have fg1_11 := zc Bg1.out 11)
  | (go_at_call 8;refine (zaQ.calls true _ H0.out).mono ?_;rintro e u6 ⟨rfl,hb⟩;clear zg1_0 zg1_1 zg1_2 zg1_3 zg1_4 zg1_5 zg1_6 zg1_7 zg1_8 zg1_9 zg1_10 zg1_11 fg1_0 fg1_1 fg1_2 fg1_3 fg1_4 fg1_5 fg1_6 fg1_7 fg1_8 fg1_9 fg1_10 fg1_11;replace Bg1 := za.mk (akb Bg1.out hb);replace Bg3 := za.mk (akb Bg3.out hb);replace Bg4 := za.mk (akb Bg4.out hb);replace Hw := za.mk (akl Hw.out hb);clear hb;have zg3_0 : u6.cell? ⟨g3,0,none⟩ = some (.int .i64 n) := (zb Bg3.out 0).trans rfl;have zg3_1 : u6.cell? ⟨g3,1,none⟩ = some (.int .i64 lo) := (zb Bg3.out 1).trans rfl;have zg3_2 : u6.cell? ⟨g3,2,none⟩ = some (.slice A2 L.length c2) := (zb Bg3.out 2).trans rfl;have fg3_0 := zc Bg3.out 0;have fg3_1 := zc Bg3.out 1;have fg3_2 := zc Bg3.out 2)
  | (go_at_call 9;refine (zbi.calls n lo _ _ L true _ (Kd.C_below HR.out (akw Hw.out)) HC.out HFW.out).mono ?_;rintro e u7 ⟨rfl,hb⟩;clear zg3_0 zg3_1 zg3_2 fg3_0 fg3_1 fg3_2;replace Bg1 := za.mk (akb Bg1.out hb);replace Bg3 := za.mk (akb Bg3.out hb);replace Bg4 := za.mk (akb Bg4.out hb);replace Hw := za.mk (akl Hw.out hb);clear hb;have zg3_0 : u7.cell? ⟨g3,0,none⟩ = some (.int .i64 n) := (zb Bg3.out 0).trans rfl;have zg3_1 : u7.cell? ⟨g3,1,none⟩ = some (.int .i64 lo) := (zb Bg3.out 1).trans rfl;have zg3_2 : u7.cell? ⟨g3,2,none⟩ = some (.slice A2 L.length c2) := (zb Bg3.out 2).trans rfl;have fg3_0 := zc Bg3.out 0;have fg3_1 := zc Bg3.out 1;have fg3_2 := zc Bg3.out 2)
  | (go_at_call 10;refine (zaI.calls n lo (fun k_ => k_ < w.heap.size) _ _ L g e1 e2 e3 e4 e5 e6 e7 e8 _ (Kd.V_mk HC.out (Kd.F_below (Kd.C_F zbZ HR.out) (akw Hw.out))) F1.out).mono ?_;rintro e u8 ⟨v3,v4,rfl,hv3,hv4,hb⟩;clear zg3_0 zg3_1 zg3_2 fg3_0 fg3_1 fg3_2;replace Bg1 := za.mk (akb Bg1.out hb);replace Bg3 := za.mk (akb Bg3.out hb);replace Bg4 := za.mk (akb Bg4.out hb);replace Hw := za.mk (akl Hw.out hb);obtain ⟨X3,x3,rfl⟩ := Kd.V_slice hv3;obtain ⟨X4,x4,rfl⟩ := Kd.V_slice hv4;have RX3 := za.mk (Kd.V_reads' hv3).2.2;have LX3 := za.mk (Kd.V_reads' hv3).2.1;have RX4 := za.mk (Kd.V_reads' hv4).2.2;have LX4 := za.mk (Kd.V_reads' hv4).2.1;clear hv3 hv4;have Hu8 := za.mk (Below.refl u8.heap.size u8);clear hb)
  | ((with_reducible refine zu (N := 10) rfl ?_);refine zp ?hg (N := 10) ?hd (cs := #[.string ⟨#[]⟩,.int .i64 0,.int .i64 0,.slice none 0 0,.slice none 0 0,.int .i64 0,.int .i64 0]) (t := 36) ?hr ?_;(case hd => rfl);(case hg => rfl);(case hr => first | (go_simp;done) | (go_simp;rfl));intro g10 hg u9 hbox hb;have Gw_g10 := za.mk (akg Hw.out hg);have Gu8_g10 := za.mk (akg Hu8.out hg);have Ng1_g10 := za.mk (akn hg Bg1.out);have Ng3_g10 := za.mk (akn hg Bg3.out);have Ng4_g10 := za.mk (akn hg Bg4.out);replace Bg1 := za.mk (akb Bg1.out hb);replace Bg3 := za.mk (akb Bg3.out hb);replace Bg4 := za.mk (akb Bg4.out hb);replace Hw := za.mk (akl Hw.out hb);replace Hu8 := za.mk (akl Hu8.out hb);have Bg10 := za.mk hbox;clear hbox hb hg;have zg10_0 : u9.cell? ⟨g10,0,none⟩ = some (.string ⟨#[]⟩) := (zb Bg10.out 0).trans rfl;have zg10_1 : u9.cell? ⟨g10,1,none⟩ = some (.int .i64 0) := (zb Bg10.out 1).trans rfl;have zg10_2 : u9.cell? ⟨g10,2,none⟩ = some (.int .i64 0) := (zb Bg10.out 2).trans rfl;have zg10_3 : u9.cell? ⟨g10,3,none⟩ = some (.slice none 0 0) := (zb Bg10.out 3).trans rfl;have zg10_4 : u9.cell? ⟨g10,4,none⟩ = some (.slice none 0 0) := (zb Bg10.out 4).trans rfl;have zg10_5 : u9.cell? ⟨g10,5,none⟩ = some (.int .i64 0) := (zb Bg10.out 5).trans rfl;have zg10_6 : u9.cell? ⟨g10,6,none⟩ = some (.int .i64 0) := (zb Bg10.out 6).trans rfl;have fg10_0 := zc Bg10.out 0;have fg10_1 := zc Bg10.out 1;have fg10_2 := zc Bg10.out 2;have fg10_3 := zc Bg10.out 3;have fg10_4 := zc Bg10.out 4;have fg10_5 := zc Bg10.out 5;have fg10_6 := zc Bg10.out 6)
  | ((with_reducible refine zaO (t := 36) (p := 10) rfl ?_);refine zaG (t := 36) (p := 10) (v := ?vo_u10) (w1 := (((((((u9.setCell ⟨g10,0,none⟩ (.string e1)).setCell ⟨g10,1,none⟩ (.int .i64 e2)).setCell ⟨g10,2,none⟩ (.int .i64 e3)).setCell ⟨g10,3,none⟩ (.slice X3 e4.length x3)).setCell ⟨g10,4,none⟩ (.slice X4 e5.length x4)).setCell ⟨g10,5,none⟩ (.int .i64 e6)).setCell ⟨g10,6,none⟩ (.int .i64 e7))) ?hg ?ho ?hn ?hr ?_;(case ho => rfl);(case hg => rfl);(case hn => rfl);(case hr => first | (go_simp;done) | (go_simp;rfl));intro u10 hw;clear zg10_0 zg10_1 zg10_2 zg10_3 zg10_4 zg10_5 zg10_6 fg10_0 fg10_1 fg10_2 fg10_3 fg10_4 fg10_5 fg10_6;replace Bg1 := za.mk (akf hw Ng1_g10.out Bg1.out);replace Bg3 := za.mk (akf hw Ng3_g10.out Bg3.out);replace Bg4 := za.mk (akf hw Ng4_g10.out Bg4.out);replace Bg10 : za (u10.heap[g10]? = some (.cells #[.string e1,.int .i64 e2,.int .i64 e3,.slice X3 e4.length x3,.slice X4 e5.length x4,.int .i64 e6,.int .i64 e7] 36 (0,0))) := ⟨akp hw Bg10.out⟩;replace Hw := za.mk (aks hw Gw_g10.out Hw.out);replace Hu8 := za.mk (aks hw Gu8_g10.out Hu8.out);clear hw;have zg3_0 : u10.cell? ⟨g3,0,none⟩ = some (.int .i64 n) := (zb Bg3.out 0).trans rfl;have zg3_1 : u10.cell? ⟨g3,1,none⟩ = some (.int .i64 lo) := (zb Bg3.out 1).trans rfl;have zg3_2 : u10.cell? ⟨g3,2,none⟩ = some (.slice A2 L.length c2) := (zb Bg3.out 2).trans rfl;have fg3_0 := zc Bg3.out 0;have fg3_1 := zc Bg3.out 1;have fg3_2 := zc Bg3.out 2)
  | (go_at_call 11;refine (zaa.calls k1 n lo (fun k_ => k_ < w.heap.size) _ _ L g e1 e2 e3 e4 e5 e6 e7 e8 _ (Kd.V_mk HC.out (Kd.F_below (Kd.C_F zbZ HR.out) (akw Hw.out))) F2.out).mono ?_;rintro e u11 ⟨v3,v4,rfl,hv3,hv4,hb⟩;clear zg3_0 zg3_1 zg3_2 fg3_0 fg3_1 fg3_2;replace Bg1 := za.mk (akb Bg1.out hb);replace Bg3 := za.mk (akb Bg3.out hb);replace Bg4 := za.mk (akb Bg4.out hb);replace Bg10 := za.mk (akb Bg10.out hb);replace Hw := za.mk (akl Hw.out hb);replace Hu8 := za.mk (akl Hu8.out hb);obtain ⟨Y3,y3,rfl⟩ := Kd.V_slice hv3;obtain ⟨Y4,y4,rfl⟩ := Kd.V_slice hv4;have RY3 := za.mk (Kd.V_reads' hv3).2.2;have LY3 := za.mk (Kd.V_reads' hv3).2.1;have RY4 := za.mk (Kd.V_reads' hv4).2.2;have LY4 := za.mk (Kd.V_reads' hv4).2.1;clear hv3 hv4;have Hu11 := za.mk (Below.refl u11.heap.size u11);clear hb)
  | ((with_reducible refine zu (N := 12) rfl ?_);refine zp ?hg (N := 12) ?hd (cs := #[.string ⟨#[]⟩,.int .i64 0,.int .i64 0,.slice none 0 0,.slice none 0 0,.int .i64 0,.int .i64 0]) (t := 36) ?hr ?_;(case hd => rfl);(case hg => rfl);(case hr => first | (go_simp;done) | (go_simp;rfl));intro g12 hg u12 hbox hb;have Gw_g12 := za.mk (akg Hw.out hg);have Gu8_g12 := za.mk (akg Hu8.out hg);have Gu11_g12 := za.mk (akg Hu11.out hg);have Ng1_g12 := za.mk (akn hg Bg1.out);have Ng3_g12 := za.mk (akn hg Bg3.out);have Ng4_g12 := za.mk (akn hg Bg4.out);have Ng10_g12 := za.mk (akn hg Bg10.out);replace Bg1 := za.mk (akb Bg1.out hb);replace Bg3 := za.mk (akb Bg3.out hb);replace Bg4 := za.mk (akb Bg4.out hb);replace Bg10 := za.mk (akb Bg10.out hb);replace Hw := za.mk (akl Hw.out hb);replace Hu8 := za.mk (akl Hu8.out hb);replace Hu11 := za.mk (akl Hu11.out hb);have Bg12 := za.mk hbox;clear hbox hb hg;have zg12_0 : u12.cell? ⟨g12,0,none⟩ = some (.string ⟨#[]⟩) := (zb Bg12.out 0).trans rfl;have zg12_1 : u12.cell? ⟨g12,1,none⟩ = some (.int .i64 0) := (zb Bg12.out 1).trans rfl;have zg12_2 : u12.cell? ⟨g12,2,none⟩ = some (.int .i64 0) := (zb Bg12.out 2).trans rfl;have zg12_3 : u12.cell? ⟨g12,3,none⟩ = some (.slice none 0 0) := (zb Bg12.out 3).trans rfl;have zg12_4 : u12.cell? ⟨g12,4,none⟩ = some (.slice none 0 0) := (zb Bg12.out 4).trans rfl;have zg12_5 : u12.cell? ⟨g12,5,none⟩ = some (.int .i64 0) := (zb Bg12.out 5).trans rfl;have zg12_6 : u12.cell? ⟨g12,6,none⟩ = some (.int .i64 0) := (zb Bg12.out 6).trans rfl;have fg12_0 := zc Bg12.out 0;have fg12_1 := zc Bg12.out 1;have fg12_2 := zc Bg12.out 2;have fg12_3 := zc Bg12.out 3;have fg12_4 := zc Bg12.out 4;have fg12_5 := zc Bg12.out 5;have fg12_6 := zc Bg12.out 6)
  | ((with_reducible refine zaO (t := 36) (p := 12) rfl ?_);refine zaG (t := 36) (p := 12) (v := ?vo_u13) (w1 := (((((((u12.setCell ⟨g12,0,none⟩ (.string e1)).setCell ⟨g12,1,none⟩ (.int .i64 e2)).setCell ⟨g12,2,none⟩ (.int .i64 e3)).setCell ⟨g12,3,none⟩ (.slice Y3 e4.length y3)).setCell ⟨g12,4,none⟩ (.slice Y4 e5.length y4)).setCell ⟨g12,5,none⟩ (.int .i64 e6)).setCell ⟨g12,6,none⟩ (.int .i64 e7))) ?hg ?ho ?hn ?hr ?_;(case ho => rfl);(case hg => rfl);(case hn => rfl);(case hr => first | (go_simp;done) | (go_simp;rfl));intro u13 hw;clear zg12_0 zg12_1 zg12_2 zg12_3 zg12_4 zg12_5 zg12_6 fg12_0 fg12_1 fg12_2 fg12_3 fg12_4 fg12_5 fg12_6;replace Bg1 := za.mk (akf hw Ng1_g12.out Bg1.out);replace Bg3 := za.mk (akf hw Ng3_g12.out Bg3.out);replace Bg4 := za.mk (akf hw Ng4_g12.out Bg4.out);replace Bg10 := za.mk (akf hw Ng10_g12.out Bg10.out);replace Bg12 : za (u13.heap[g12]? = some (.cells #[.string e1,.int .i64 e2,.int .i64 e3,.slice Y3 e4.length y3,.slice Y4 e5.length y4,.int .i64 e6,.int .i64 e7] 36 (0,0))) := ⟨akp hw Bg12.out⟩;replace Hw := za.mk (aks hw Gw_g12.out Hw.out);replace Hu8 := za.mk (aks hw Gu8_g12.out Hu8.out);replace Hu11 := za.mk (aks hw Gu11_g12.out Hu11.out);clear hw;have zg3_0 : u13.cell? ⟨g3,0,none⟩ = some (.int .i64 n) := (zb Bg3.out 0).trans rfl;have zg3_1 : u13.cell? ⟨g3,1,none⟩ = some (.int .i64 lo) := (zb Bg3.out 1).trans rfl;have zg3_2 : u13.cell? ⟨g3,2,none⟩ = some (.slice A2 L.length c2) := (zb Bg3.out 2).trans rfl;have fg3_0 := zc Bg3.out 0;have fg3_1 := zc Bg3.out 1;have fg3_2 := zc Bg3.out 2)
  | (go_at_call 12;refine (zbk.calls n lo (fun k_ => k_ < w.heap.size) _ _ L au r b1 b2 b3 b4 b5 b6 b7 b8 _ (Kd.V_mk HC.out (Kd.F_below (Kd.C_F zbZ HR.out) (akw Hw.out))) F3.out).mono ?_;rintro e u14 ⟨v3,v4,rfl,hv3,hv4,hb⟩;clear zg3_0 zg3_1 zg3_2 fg3_0 fg3_1 fg3_2;replace Bg1 := za.mk (akb Bg1.out hb);replace Bg3 := za.mk (akb Bg3.out hb);replace Bg4 := za.mk (akb Bg4.out hb);replace Bg10 := za.mk (akb Bg10.out hb);replace Bg12 := za.mk (akb Bg12.out hb);replace Hw := za.mk (akl Hw.out hb);replace Hu8 := za.mk (akl Hu8.out hb);replace Hu11 := za.mk (akl Hu11.out hb);obtain ⟨Z3,z3,rfl⟩ := Kd.V_slice hv3;obtain ⟨Z4,z4,rfl⟩ := Kd.V_slice hv4;have RZ3 := za.mk (Kd.V_reads' hv3).2.2;have LZ3 := za.mk (Kd.V_reads' hv3).2.1;have RZ4 := za.mk (Kd.V_reads' hv4).2.2;have LZ4 := za.mk (Kd.V_reads' hv4).2.1;clear hv3 hv4;have Hu14 := za.mk (Below.refl u14.heap.size u14);clear hb)
  | ((with_reducible refine zu (N := 14) rfl ?_);refine zp ?hg (N := 14) ?hd (cs := #[.string ⟨#[]⟩,.int .i64 0,.int .i64 0,.slice none 0 0,.slice none 0 0,.int .i64 0,.int .i64 0]) (t := 36) ?hr ?_;(case hd => rfl);(case hg => rfl);(case hr => first | (go_simp;done) | (go_simp;rfl));intro g14 hg u15 hbox hb;have Gw_g14 := za.mk (akg Hw.out hg);have Gu8_g14 := za.mk (akg Hu8.out hg);have Gu11_g14 := za.mk (akg Hu11.out hg);have Gu14_g14 := za.mk (akg Hu14.out hg);have Ng1_g14 := za.mk (akn hg Bg1.out);have Ng3_g14 := za.mk (akn hg Bg3.out);have Ng4_g14 := za.mk (akn hg Bg4.out);have Ng10_g14 := za.mk (akn hg Bg10.out);have Ng12_g14 := za.mk (akn hg Bg12.out);replace Bg1 := za.mk (akb Bg1.out hb);replace Bg3 := za.mk (akb Bg3.out hb);replace Bg4 := za.mk (akb Bg4.out hb);replace Bg10 := za.mk (akb Bg10.out hb);replace Bg12 := za.mk (akb Bg12.out hb);replace Hw := za.mk (akl Hw.out hb);replace Hu8 := za.mk (akl Hu8.out hb);replace Hu11 := za.mk (akl Hu11.out hb);replace Hu14 := za.mk (akl Hu14.out hb);have Bg14 := za.mk hbox;clear hbox hb hg;have zg14_0 : u15.cell? ⟨g14,0,none⟩ = some (.string ⟨#[]⟩) := (zb Bg14.out 0).trans rfl;have zg14_1 : u15.cell? ⟨g14,1,none⟩ = some (.int .i64 0) := (zb Bg14.out 1).trans rfl;have zg14_2 : u15.cell? ⟨g14,2,none⟩ = some (.int .i64 0) := (zb Bg14.out 2).trans rfl;have zg14_3 : u15.cell? ⟨g14,3,none⟩ = some (.slice none 0 0) := (zb Bg14.out 3).trans rfl;have zg14_4 : u15.cell? ⟨g14,4,none⟩ = some (.slice none 0 0) := (zb Bg14.out 4).trans rfl;have zg14_5 : u15.cell? ⟨g14,5,none⟩ = some (.int .i64 0) := (zb Bg14.out 5).trans rfl;have zg14_6 : u15.cell? ⟨g14,6,none⟩ = some (.int .i64 0) := (zb Bg14.out 6).trans rfl;have fg14_0 := zc Bg14.out 0;have fg14_1 := zc Bg14.out 1;have fg14_2 := zc Bg14.out 2;have fg14_3 := zc Bg14.out 3;have fg14_4 := zc Bg14.out 4;have fg14_5 := zc Bg14.out 5;have fg14_6 := zc Bg14.out 6)
  | ((with_reducible refine zaO (t := 36) (p := 14) rfl ?_);refine zaG (t := 36) (p := 14) (v := ?vo_u16) (w1 := (((((((u15.setCell ⟨g14,0,none⟩ (.string b1)).setCell ⟨g14,1,none⟩ (.int .i64 b2)).setCell ⟨g14,2,none⟩ (.int .i64 b3)).setCell ⟨g14,3,none⟩ (.slice Z3 b4.length z3)).setCell ⟨g14,4,none⟩ (.slice Z4 b5.length z4)).setCell ⟨g14,5,none⟩ (.int .i64 b6)).setCell ⟨g14,6,none⟩ (.int .i64 b7))) ?hg ?ho ?hn ?hr ?_;(case ho => rfl);(case hg => rfl);(case hn => rfl);(case hr => first | (go_simp;done) | (go_simp;rfl));intro u16 hw;clear zg14_0 zg14_1 zg14_2 zg14_3 zg14_4 zg14_5 zg14_6 fg14_0 fg14_1 fg14_2 fg14_3 fg14_4 fg14_5 fg14_6;replace Bg1 := za.mk (akf hw Ng1_g14.out Bg1.out);replace Bg3 := za.mk (akf hw Ng3_g14.out Bg3.out);replace Bg4 := za.mk (akf hw Ng4_g14.out Bg4.out);replace Bg10 := za.mk (akf hw Ng10_g14.out Bg10.out);replace Bg12 := za.mk (akf hw Ng12_g14.out Bg12.out);replace Bg14 : za (u16.heap[g14]? = some (.cells #[.string b1,.int .i64 b2,.int .i64 b3,.slice Z3 b4.length z3,.slice Z4 b5.length z4,.int .i64 b6,.int .i64 b7] 36 (0,0))) := ⟨akp hw Bg14.out⟩;replace Hw := za.mk (aks hw Gw_g14.out Hw.out);replace Hu8 := za.mk (aks hw Gu8_g14.out Hu8.out);replace Hu11 := za.mk (aks hw Gu11_g14.out Hu11.out);replace Hu14 := za.mk (aks hw Gu14_g14.out Hu14.out);clear hw;have zg3_0 : u16.cell? ⟨g3,0,none⟩ = some (.int .i64 n) := (zb Bg3.out 0).trans rfl;have zg3_1 : u16.cell? ⟨g3,1,none⟩ = some (.int .i64 lo) := (zb Bg3.out 1).trans rfl;have zg3_2 : u16.cell? ⟨g3,2,none⟩ = some (.slice A2 L.length c2) := (zb Bg3.out 2).trans rfl;have fg3_0 := zc Bg3.out 0;have fg3_1 := zc Bg3.out 1;have fg3_2 := zc Bg3.out 2)
  | (go_at_call 13;refine (zag.calls k2 n lo (fun k_ => k_ < w.heap.size) _ _ L au r b1 b2 b3 b4 b5 b6 b7 b8 _ (Kd.V_mk HC.out (Kd.F_below (Kd.C_F zbZ HR.out) (akw Hw.out))) F4.out).mono ?_;rintro e u17 ⟨v3,v4,rfl,hv3,hv4,hb⟩;clear zg3_0 zg3_1 zg3_2 fg3_0 fg3_1 fg3_2;replace Bg1 := za.mk (akb Bg1.out hb);replace Bg3 := za.mk (akb Bg3.out hb);replace Bg4 := za.mk (akb Bg4.out hb);replace Bg10 := za.mk (akb Bg10.out hb);replace Bg12 := za.mk (akb Bg12.out hb);replace Bg14 := za.mk (akb Bg14.out hb);replace Hw := za.mk (akl Hw.out hb);replace Hu8 := za.mk (akl Hu8.out hb);replace Hu11 := za.mk (akl Hu11.out hb);replace Hu14 := za.mk (akl Hu14.out hb);obtain ⟨W3,w3,rfl⟩ := Kd.V_slice hv3;obtain ⟨W4,w4,rfl⟩ := Kd.V_slice hv4;have RW3 := za.mk (Kd.V_reads' hv3).2.2;have LW3 := za.mk (Kd.V_reads' hv3).2.1;have RW4 := za.mk (Kd.V_reads' hv4).2.2;have LW4 := za.mk (Kd.V_reads' hv4).2.1;clear hv3 hv4;have Hu17 := za.mk (Below.refl u17.heap.size u17);clear hb)
  | ((with_reducible refine zu (N := 16) rfl ?_);refine zp ?hg (N := 16) ?hd (cs := #[.string ⟨#[]⟩,.int .i64 0,.int .i64 0,.slice none 0 0,.slice none 0 0,.int .i64 0,.int .i64 0]) (t := 36) ?hr ?_;(case hd => rfl);(case hg => rfl);(case hr => first | (go_simp;done) | (go_simp;rfl));intro g16 hg u18 hbox hb;have Gw_g16 := za.mk (akg Hw.out hg);have Gu8_g16 := za.mk (akg Hu8.out hg);have Gu11_g16 := za.mk (akg Hu11.out hg);have Gu14_g16 := za.mk (akg Hu14.out hg);have Gu17_g16 := za.mk (akg Hu17.out hg);have Ng1_g16 := za.mk (akn hg Bg1.out);have Ng3_g16 := za.mk (akn hg Bg3.out);have Ng4_g16 := za.mk (akn hg Bg4.out);have Ng10_g16 := za.mk (akn hg Bg10.out);have Ng12_g16 := za.mk (akn hg Bg12.out);have Ng14_g16 := za.mk (akn hg Bg14.out);replace Bg1 := za.mk (akb Bg1.out hb);replace Bg3 := za.mk (akb Bg3.out hb);replace Bg4 := za.mk (akb Bg4.out hb);replace Bg10 := za.mk (akb Bg10.out hb);replace Bg12 := za.mk (akb Bg12.out hb);replace Bg14 := za.mk (akb Bg14.out hb);replace Hw := za.mk (akl Hw.out hb);replace Hu8 := za.mk (akl Hu8.out hb);replace Hu11 := za.mk (akl Hu11.out hb);replace Hu14 := za.mk (akl Hu14.out hb);replace Hu17 := za.mk (akl Hu17.out hb);have Bg16 := za.mk hbox;clear hbox hb hg;have zg16_0 : u18.cell? ⟨g16,0,none⟩ = some (.string ⟨#[]⟩) := (zb Bg16.out 0).trans rfl;have zg16_1 : u18.cell? ⟨g16,1,none⟩ = some (.int .i64 0) := (zb Bg16.out 1).trans rfl;have zg16_2 : u18.cell? ⟨g16,2,none⟩ = some (.int .i64 0) := (zb Bg16.out 2).trans rfl;have zg16_3 : u18.cell? ⟨g16,3,none⟩ = some (.slice none 0 0) := (zb Bg16.out 3).trans rfl;have zg16_4 : u18.cell? ⟨g16,4,none⟩ = some (.slice none 0 0) := (zb Bg16.out 4).trans rfl;have zg16_5 : u18.cell? ⟨g16,5,none⟩ = some (.int .i64 0) := (zb Bg16.out 5).trans rfl;have zg16_6 : u18.cell? ⟨g16,6,none⟩ = some (.int .i64 0) := (zb Bg16.out 6).trans rfl;have fg16_0 := zc Bg16.out 0;have fg16_1 := zc Bg16.out 1;have fg16_2 := zc Bg16.out 2;have fg16_3 := zc Bg16.out 3;have fg16_4 := zc Bg16.out 4;have fg16_5 := zc Bg16.out 5;have fg16_6 := zc Bg16.out 6)
  | ((with_reducible refine zaO (t := 36) (p := 16) rfl ?_);refine zaG (t := 36) (p := 16) (v := ?vo_u19) (w1 := (((((((u18.setCell ⟨g16,0,none⟩ (.string b1)).setCell ⟨g16,1,none⟩ (.int .i64 b2)).setCell ⟨g16,2,none⟩ (.int .i64 b3)).setCell ⟨g16,3,none⟩ (.slice W3 b4.length w3)).setCell ⟨g16,4,none⟩ (.slice W4 b5.length w4)).setCell ⟨g16,5,none⟩ (.int .i64 b6)).setCell ⟨g16,6,none⟩ (.int .i64 b7))) ?hg ?ho ?hn ?hr ?_;(case ho => rfl);(case hg => rfl);(case hn => rfl);(case hr => first | (go_simp;done) | (go_simp;rfl));intro u19 hw;clear zg16_0 zg16_1 zg16_2 zg16_3 zg16_4 zg16_5 zg16_6 fg16_0 fg16_1 fg16_2 fg16_3 fg16_4 fg16_5 fg16_6;replace Bg1 := za.mk (akf hw Ng1_g16.out Bg1.out);replace Bg3 := za.mk (akf hw Ng3_g16.out Bg3.out);replace Bg4 := za.mk (akf hw Ng4_g16.out Bg4.out);replace Bg10 := za.mk (akf hw Ng10_g16.out Bg10.out);replace Bg12 := za.mk (akf hw Ng12_g16.out Bg12.out);replace Bg14 := za.mk (akf hw Ng14_g16.out Bg14.out);replace Bg16 : za (u19.heap[g16]? = some (.cells #[.string b1,.int .i64 b2,.int .i64 b3,.slice W3 b4.length w3,.slice W4 b5.length w4,.int .i64 b6,.int .i64 b7] 36 (0,0))) := ⟨akp hw Bg16.out⟩;replace Hw := za.mk (aks hw Gw_g16.out Hw.out);replace Hu8 := za.mk (aks hw Gu8_g16.out Hu8.out);replace Hu11 := za.mk (aks hw Gu11_g16.out Hu11.out);replace Hu14 := za.mk (aks hw Gu14_g16.out Hu14.out);replace Hu17 := za.mk (aks hw Gu17_g16.out Hu17.out);clear hw;have zg10_0 : u19.cell? ⟨g10,0,none⟩ = some (.string e1) := (zb Bg10.out 0).trans rfl;have zg10_1 : u19.cell? ⟨g10,1,none⟩ = some (.int .i64 e2) := (zb Bg10.out 1).trans rfl;have zg10_2 : u19.cell? ⟨g10,2,none⟩ = some (.int .i64 e3) := (zb Bg10.out 2).trans rfl;have zg10_3 : u19.cell? ⟨g10,3,none⟩ = some (.slice X3 e4.length x3) := (zb Bg10.out 3).trans rfl;have zg10_4 : u19.cell? ⟨g10,4,none⟩ = some (.slice X4 e5.length x4) := (zb Bg10.out 4).trans rfl;have zg10_5 : u19.cell? ⟨g10,5,none⟩ = some (.int .i64 e6) := (zb Bg10.out 5).trans rfl;have zg10_6 : u19.cell? ⟨g10,6,none⟩ = some (.int .i64 e7) := (zb Bg10.out 6).trans rfl;have fg10_0 := zc Bg10.out 0;have fg10_1 := zc Bg10.out 1;have fg10_2 := zc Bg10.out 2;have fg10_3 := zc Bg10.out 3;have fg10_4 := zc Bg10.out 4;have fg10_5 := zc Bg10.out 5;have fg10_6 := zc Bg10.out 6;have zg14_0 : u19.cell? ⟨g14,0,none⟩ = some (.string b1) := (zb Bg14.out 0).trans rfl;have zg14_1 : u19.cell? ⟨g14,1,none⟩ = some (.int .i64 b2) := (zb Bg14.out 1).trans rfl;have zg14_2 : u19.cell? ⟨g14,2,none⟩ = some (.int .i64 b3) := (zb Bg14.out 2).trans rfl;have zg14_3 : u19.cell? ⟨g14,3,none⟩ = some (.slice Z3 b4.length z3) := (zb Bg14.out 3).trans rfl;have zg14_4 : u19.cell? ⟨g14,4,none⟩ = some (.slice Z4 b5.length z4) := (zb Bg14.out 4).trans rfl;have zg14_5 : u19.cell? ⟨g14,5,none⟩ = some (.int .i64 b6) := (zb Bg14.out 5).trans rfl;have zg14_6 : u19.cell? ⟨g14,6,none⟩ = some (.int .i64 b7) := (zb Bg14.out 6).trans rfl;have fg14_0 := zc Bg14.out 0;have fg14_1 := zc Bg14.out 1;have fg14_2 := zc Bg14.out 2;have fg14_3 := zc Bg14.out 3;have fg14_4 := zc Bg14.out 4;have fg14_5 := zc Bg14.out 5;have fg14_6 := zc Bg14.out 6)
  | ((with_reducible refine zu (N := 69) rfl ?_);refine zgX ?hg (cs := #[.string e1,.int .i64 e2,.int .i64 e3,.slice X3 e4.length x3,.slice X4 e5.length x4,.int .i64 e6,.int .i64 e7,.string b1,.int .i64 b2,.int .i64 b3,.slice Z3 b4.length z3,.slice Z4 b5.length z4,.int .i64 b6,.int .i64 b7]) (t := 36) (n := 2) ?hr ?_;(case hg => rfl);(case hr => first | (go_simp;done) | (go_simp;rfl));intro g69 hg u20 hbox hb;have Gw_g69 := za.mk (akg Hw.out hg);have Gu8_g69 := za.mk (akg Hu8.out hg);have Gu11_g69 := za.mk (akg Hu11.out hg);have Gu14_g69 := za.mk (akg Hu14.out hg);have Gu17_g69 := za.mk (akg Hu17.out hg);clear zg10_0 zg10_1 zg10_2 zg10_3 zg10_4 zg10_5 zg10_6 fg10_0 fg10_1 fg10_2 fg10_3 fg10_4 fg10_5 fg10_6 zg14_0 zg14_1 zg14_2 zg14_3 zg14_4 zg14_5 zg14_6 fg14_0 fg14_1 fg14_2 fg14_3 fg14_4 fg14_5 fg14_6;replace Bg1 := za.mk (akb Bg1.out hb);replace Bg3 := za.mk (akb Bg3.out hb);replace Bg4 := za.mk (akb Bg4.out hb);replace Bg10 := za.mk (akb Bg10.out hb);replace Bg12 := za.mk (akb Bg12.out hb);replace Bg14 := za.mk (akb Bg14.out hb);replace Bg16 := za.mk (akb Bg16.out hb);replace Hw := za.mk (akl Hw.out hb);replace Hu8 := za.mk (akl Hu8.out hb);replace Hu11 := za.mk (akl Hu11.out hb);replace Hu14 := za.mk (akl Hu14.out hb);replace Hu17 := za.mk (akl Hu17.out hb);have Bg69 := za.mk hbox;clear hbox hb hg;have zg12_0 : u20.cell? ⟨g12,0,none⟩ = some (.string e1) := (zb Bg12.out 0).trans rfl;have zg12_1 : u20.cell? ⟨g12,1,none⟩ = some (.int .i64 e2) := (zb Bg12.out 1).trans rfl;have zg12_2 : u20.cell? ⟨g12,2,none⟩ = some (.int .i64 e3) := (zb Bg12.out 2).trans rfl;have zg12_3 : u20.cell? ⟨g12,3,none⟩ = some (.slice Y3 e4.length y3) := (zb Bg12.out 3).trans rfl;have zg12_4 : u20.cell? ⟨g12,4,none⟩ = some (.slice Y4 e5.length y4) := (zb Bg12.out 4).trans rfl;have zg12_5 : u20.cell? ⟨g12,5,none⟩ = some (.int .i64 e6) := (zb Bg12.out 5).trans rfl;have zg12_6 : u20.cell? ⟨g12,6,none⟩ = some (.int .i64 e7) := (zb Bg12.out 6).trans rfl;have fg12_0 := zc Bg12.out 0;have fg12_1 := zc Bg12.out 1;have fg12_2 := zc Bg12.out 2;have fg12_3 := zc Bg12.out 3;have fg12_4 := zc Bg12.out 4;have fg12_5 := zc Bg12.out 5;have fg12_6 := zc Bg12.out 6;have zg16_0 : u20.cell? ⟨g16,0,none⟩ = some (.string b1) := (zb Bg16.out 0).trans rfl;have zg16_1 : u20.cell? ⟨g16,1,none⟩ = some (.int .i64 b2) := (zb Bg16.out 1).trans rfl;have zg16_2 : u20.cell? ⟨g16,2,none⟩ = some (.int .i64 b3) := (zb Bg16.out 2).trans rfl;have zg16_3 : u20.cell? ⟨g16,3,none⟩ = some (.slice W3 b4.length w3) := (zb Bg16.out 3).trans rfl;have zg16_4 : u20.cell? ⟨g16,4,none⟩ = some (.slice W4 b5.length w4) := (zb Bg16.out 4).trans rfl;have zg16_5 : u20.cell? ⟨g16,5,none⟩ = some (.int .i64 b6) := (zb Bg16.out 5).trans rfl;have zg16_6 : u20.cell? ⟨g16,6,none⟩ = some (.int .i64 b7) := (zb Bg16.out 6).trans rfl;have fg16_0 := zc Bg16.out 0;have fg16_1 := zc Bg16.out 1;have fg16_2 := zc Bg16.out 2;have fg16_3 := zc Bg16.out 3;have fg16_4 := zc Bg16.out 4;have fg16_5 := zc Bg16.out 5;have fg16_6 := zc Bg16.out 6)
  | ((with_reducible refine zu (N := 72) rfl ?_);refine zgX ?hg (cs := #[.string e1,.int .i64 e2,.int .i64 e3,.slice Y3 e4.length y3,.slice Y4 e5.length y4,.int .i64 e6,.int .i64 e7,.string b1,.int .i64 b2,.int .i64 b3,.slice W3 b4.length w3,.slice W4 b5.length w4,.int .i64 b6,.int .i64 b7]) (t := 36) (n := 2) ?hr ?_;(case hg => rfl);(case hr => first | (go_simp;done) | (go_simp;rfl));intro g72 hg u21 hbox hb;have Gw_g72 := za.mk (akg Hw.out hg);have Gu8_g72 := za.mk (akg Hu8.out hg);have Gu11_g72 := za.mk (akg Hu11.out hg);have Gu14_g72 := za.mk (akg Hu14.out hg);have Gu17_g72 := za.mk (akg Hu17.out hg);clear zg12_0 zg12_1 zg12_2 zg12_3 zg12_4 zg12_5 zg12_6 fg12_0 fg12_1 fg12_2 fg12_3 fg12_4 fg12_5 fg12_6 zg16_0 zg16_1 zg16_2 zg16_3 zg16_4 zg16_5 zg16_6 fg16_0 fg16_1 fg16_2 fg16_3 fg16_4 fg16_5 fg16_6;replace Bg1 := za.mk (akb Bg1.out hb);replace Bg3 := za.mk (akb Bg3.out hb);replace Bg4 := za.mk (akb Bg4.out hb);replace Bg10 := za.mk (akb Bg10.out hb);replace Bg12 := za.mk (akb Bg12.out hb);replace Bg14 := za.mk (akb Bg14.out hb);replace Bg16 := za.mk (akb Bg16.out hb);replace Bg69 := za.mk (akb Bg69.out hb);replace Hw := za.mk (akl Hw.out hb);replace Hu8 := za.mk (akl Hu8.out hb);replace Hu11 := za.mk (akl Hu11.out hb);replace Hu14 := za.mk (akl Hu14.out hb);replace Hu17 := za.mk (akl Hu17.out hb);have Bg72 := za.mk hbox;clear hbox hb hg)
  | (go_at_call 14;refine (zr.calls k3 _ 2 [⟨e1,⟨e2,e3,e4,e5,⟨e6,e7⟩⟩⟩,⟨b1,⟨b2,b3,b4,b5,⟨b6,b7⟩⟩⟩] _ 2 [⟨e1,⟨e2,e3,e4,e5,⟨e6,e7⟩⟩⟩,⟨b1,⟨b2,b3,b4,b5,⟨b6,b7⟩⟩⟩] true _ (zh5 ⟨e1,⟨e2,e3,e4,e5,⟨e6,e7⟩⟩⟩ ⟨b1,⟨b2,b3,b4,b5,⟨b6,b7⟩⟩⟩ Bg69.out LX3.out (Kd.C_below RX3.out Hu8.out) LX4.out (Kd.C_below RX4.out Hu8.out) LZ3.out (Kd.C_below RZ3.out Hu14.out) LZ4.out (Kd.C_below RZ4.out Hu14.out)) (Nat.le_refl 2) (zh5 ⟨e1,⟨e2,e3,e4,e5,⟨e6,e7⟩⟩⟩ ⟨b1,⟨b2,b3,b4,b5,⟨b6,b7⟩⟩⟩ Bg72.out LY3.out (Kd.C_below RY3.out Hu11.out) LY4.out (Kd.C_below RY4.out Hu11.out) LW3.out (Kd.C_below RW3.out Hu17.out) LW4.out (Kd.C_below RW4.out Hu17.out)) (Nat.le_refl 2) E1.out).mono ?_;rintro e u22 ⟨rfl,hb⟩;replace Bg1 := za.mk (akb Bg1.out hb);replace Bg3 := za.mk (akb Bg3.out hb);replace Bg4 := za.mk (akb Bg4.out hb);replace Bg10 := za.mk (akb Bg10.out hb);replace Bg12 := za.mk (akb Bg12.out hb);replace Bg14 := za.mk (akb Bg14.out hb);replace Bg16 := za.mk (akb Bg16.out hb);replace Bg69 := za.mk (akb Bg69.out hb);replace Bg72 := za.mk (akb Bg72.out hb);replace Hw := za.mk (akl Hw.out hb);replace Hu8 := za.mk (akl Hu8.out hb);replace Hu11 := za.mk (akl Hu11.out hb);replace Hu14 := za.mk (akl Hu14.out hb);replace Hu17 := za.mk (akl Hu17.out hb);clear hb))
 have M0 : za (zee w u22 g3 g4 (.cells #[.int .i64 n,.int .i64 lo,.slice A2 L.length c2] 24 (0,0)) (.cells #[.int .i64 va,.int .i64 vr,.slice A5 bs.length c5,.slice A6 ps.length c6,.int .i64 vx,.int .i64 vy] 30 (0,0))) := ⟨⟨Hw.out,Bg3.out,Bg4.out⟩⟩
 clear Hu8 Hu11 Hu14 Hu17 Bg1 Bg3 Bg4 Bg10 Bg12 Bg14 Bg16 Bg69 Bg72 RX3 LX3 RX4 LX4 RY3 LY3 RY4 LY4 RZ3 LZ3 RZ4 LZ4 RW3 LW3 RW4 LW4
 have MK : za (∀ w' : World,zee w w' g3 g4 (.cells #[.int .i64 n,.int .i64 lo,.slice A2 L.length c2] 24 (0,0)) (.cells #[.int .i64 va,.int .i64 vr,.slice A5 bs.length c5,.slice A6 ps.length c6,.int .i64 vx,.int .i64 vy] 30 (0,0)) → w'.cell? ⟨g3,0,none⟩ = some (.int .i64 n) ∧ w'.cell? ⟨g3,1,none⟩ = some (.int .i64 lo) ∧ w'.cell? ⟨g3,2,none⟩ = some (.slice A2 L.length c2) ∧ w'.cell? ⟨g4,0,none⟩ = some (.int .i64 va) ∧ w'.cell? ⟨g4,1,none⟩ = some (.int .i64 vr) ∧ w'.cell? ⟨g4,2,none⟩ = some (.slice A5 bs.length c5) ∧ w'.cell? ⟨g4,3,none⟩ = some (.slice A6 ps.length c6) ∧ w'.cell? ⟨g4,4,none⟩ = some (.int .i64 vx) ∧ w'.cell? ⟨g4,5,none⟩ = some (.int .i64 vy) ∧ zee w w' g3 g4 (.cells #[.int .i64 n,.int .i64 lo,.slice A2 L.length c2] 24 (0,0)) (.cells #[.int .i64 va,.int .i64 vr,.slice A5 bs.length c5,.slice A6 ps.length c6,.int .i64 vx,.int .i64 vy] 30 (0,0))) := ⟨fun w' h => ⟨(zb h.c3 0).trans rfl,(zb h.c3 1).trans rfl,(zb h.c3 2).trans rfl,(zb h.c4 0).trans rfl,(zb h.c4 1).trans rfl,(zb h.c4 2).trans rfl,(zb h.c4 3).trans rfl,(zb h.c4 4).trans rfl,(zb h.c4 5).trans rfl,h⟩⟩
 have LM : za (∀ w' : World,(w'.cell? ⟨g3,0,none⟩ = some (.int .i64 n) ∧ w'.cell? ⟨g3,1,none⟩ = some (.int .i64 lo) ∧ w'.cell? ⟨g3,2,none⟩ = some (.slice A2 L.length c2) ∧ w'.cell? ⟨g4,0,none⟩ = some (.int .i64 va) ∧ w'.cell? ⟨g4,1,none⟩ = some (.int .i64 vr) ∧ w'.cell? ⟨g4,2,none⟩ = some (.slice A5 bs.length c5) ∧ w'.cell? ⟨g4,3,none⟩ = some (.slice A6 ps.length c6) ∧ w'.cell? ⟨g4,4,none⟩ = some (.int .i64 vx) ∧ w'.cell? ⟨g4,5,none⟩ = some (.int .i64 vy) ∧ zee w w' g3 g4 (.cells #[.int .i64 n,.int .i64 lo,.slice A2 L.length c2] 24 (0,0)) (.cells #[.int .i64 va,.int .i64 vr,.slice A5 bs.length c5,.slice A6 ps.length c6,.int .i64 vx,.int .i64 vy] 30 (0,0))) → zee w w' g3 g4 (.cells #[.int .i64 n,.int .i64 lo,.slice A2 L.length c2] 24 (0,0)) (.cells #[.int .i64 va,.int .i64 vr,.slice A5 bs.length c5,.slice A6 ps.length c6,.int .i64 vx,.int .i64 vy] 30 (0,0))) := ⟨fun w' h => h.2.2.2.2.2.2.2.2.2⟩
 refine zbD (n := 8) (S := fun w' => w'.cell? ⟨g3,0,none⟩ = some (.int .i64 n) ∧ w'.cell? ⟨g3,1,none⟩ = some (.int .i64 lo) ∧ w'.cell? ⟨g3,2,none⟩ = some (.slice A2 L.length c2) ∧ w'.cell? ⟨g4,0,none⟩ = some (.int .i64 va) ∧ w'.cell? ⟨g4,1,none⟩ = some (.int .i64 vr) ∧ w'.cell? ⟨g4,2,none⟩ = some (.slice A5 bs.length c5) ∧ w'.cell? ⟨g4,3,none⟩ = some (.slice A6 ps.length c6) ∧ w'.cell? ⟨g4,4,none⟩ = some (.int .i64 vx) ∧ w'.cell? ⟨g4,5,none⟩ = some (.int .i64 vy) ∧ zee w w' g3 g4 (.cells #[.int .i64 n,.int .i64 lo,.slice A2 L.length c2] 24 (0,0)) (.cells #[.int .i64 va,.int .i64 vr,.slice A5 bs.length c5,.slice A6 ps.length c6,.int .i64 vx,.int .i64 vy] 30 (0,0))) (ds := []) (zaw 8 0) (by kernel_rfl) rfl rfl (MK.out _ M0.out.drew) (fun hHeld => ?_);refine zaL zA.tab15 zA.bits15 (fun HT_ HW_ => ?_)
 clear M0
 refine take_ (i := 0) (N := some 74) (v := ?_) (a' := ?_) #[true,false,false,false,false,false,false,false] rfl rfl (zY HT_.out HW_.out (by kernel_rfl)) (fun _ _ _ h => h) (Or.inl ⟨by rfl,?_⟩) hHeld ?_ ?_
 rotate_left
 ·rintro w' ⟨r0,r1,r2,r3,r4,r5,r6,r7,r8,hM⟩
  go_simp
  with_reducible rfl
 rotate_left
 ·simp only [Act.put,List.setIfInBounds_toArray,List.set_cons_zero,List.set_cons_succ,zk,zm]
  rfl
 refine zv (i := 1) (N := some 75) (v := ?_) (a' := ?_) #[true,true,false,false,false,false,false,false] rfl rfl (zn HT_.out (by kernel_rfl)) (fun _ _ _ h => h) (Or.inl ⟨by rfl,?_⟩) ?_ ?_
 rotate_left
 ·intro w'
  go_simp
  with_reducible rfl
 rotate_left
 ·simp only [Act.put,List.setIfInBounds_toArray,List.set_cons_zero,List.set_cons_succ,zk,zm]
  rfl
 refine take_ (i := 3) (N := some 77) (v := ?_) (a' := ?_) #[true,true,false,true,false,false,false,false] rfl rfl (zY HT_.out HW_.out (by kernel_rfl)) (fun _ _ _ h => h) (Or.inl ⟨by rfl,?_⟩) hHeld ?_ ?_
 rotate_left
 ·rintro w' ⟨r0,r1,r2,r3,r4,r5,r6,r7,r8,hM⟩
  go_simp
  with_reducible rfl
 rotate_left
 ·simp only [Act.put,List.setIfInBounds_toArray,List.set_cons_zero,List.set_cons_succ,zk,zm]
  rfl
 refine zv (i := 4) (N := some 78) (v := ?_) (a' := ?_) #[true,true,false,true,true,false,false,false] rfl rfl (zn HT_.out (by kernel_rfl)) (fun _ _ _ h => h) (Or.inl ⟨by rfl,?_⟩) ?_ ?_
 rotate_left
 ·intro w'
  go_simp
  with_reducible rfl
 rotate_left
 ·simp only [Act.put,List.setIfInBounds_toArray,List.set_cons_zero,List.set_cons_succ,zk,zm]
  rfl
 refine zb0 (i := 2) (N := some 76) #[true,true,true,true,true,false,false,false] rfl rfl (zaY HT_.out (by kernel_rfl)) (by decide) (fun K hK => ?_)
 refine zbn Try.func15 (by kernel_rfl) rfl #[.agg #[.int .i64 n,.int .i64 lo,.slice A2 L.length c2],.int .i64 r] (by rfl) rfl rfl (by (try simp only [List.map_toArray,List.map_cons,List.map_nil]);first | done | rfl) ?_
 refine (zaV.calls k4 n lo (fun k_ => k_ < w.heap.size) _ _ L r RL _ (Kd.V_mk HC.out (Kd.F_below (Kd.C_F zbZ HR.out) (LM.out _ hHeld).b)) Q1.out).mono ?_
 rintro e x1 ⟨v0,rfl,hN,hb⟩
 obtain ⟨N1,m1,rfl⟩ := Kd.V_slice (Kd.N_V (base' := 0) hN)
 have RN1 := za.mk (Kd.V_reads' (Kd.N_V (base' := 0) hN)).2.2
 have LN1 := za.mk (Kd.V_reads' (Kd.N_V (base' := 0) hN)).2.1
 clear hN
 refine ⟨_,rfl,?_⟩
 refine hK.out _ _ (MK.out _ ((LM.out _ hHeld).step hb)) (fun hHeld => ?_)
 clear hK K
 refine zbo (a' := ?_) ?_ ?_
 rotate_left
 ·show Act.put _ (some 76) _ = _
  simp only [Act.put,List.setIfInBounds_toArray,List.set_cons_zero,List.set_cons_succ,zk,zm]
  rfl
 refine zb0 (i := 5) (N := some 79) #[true,true,true,true,true,true,false,false] rfl rfl (zaY HT_.out (by kernel_rfl)) (by decide) (fun K hK => ?_)
 refine zbn Try.func16 (by kernel_rfl) rfl #[.agg #[.int .i64 n,.int .i64 lo,.slice A2 L.length c2],.int .i64 r] (by rfl) rfl rfl (by (try simp only [List.map_toArray,List.map_cons,List.map_nil]);first | done | rfl) ?_
 refine (zS.calls k5 n lo (fun k_ => k_ < w.heap.size) _ _ L r RL _ (Kd.V_mk HC.out (Kd.F_below (Kd.C_F zbZ HR.out) (LM.out _ hHeld).b)) Q2.out).mono ?_
 rintro e x2 ⟨v0,rfl,hN,hb⟩
 obtain ⟨N2,m2,rfl⟩ := Kd.V_slice (Kd.N_V (base' := 0) hN)
 have RN2 := za.mk (Kd.V_reads' (Kd.N_V (base' := 0) hN)).2.2
 have LN2 := za.mk (Kd.V_reads' (Kd.N_V (base' := 0) hN)).2.1
 clear hN
 replace RN1 := za.mk (Kd.C_below RN1.out hb)
 refine ⟨_,rfl,?_⟩
 refine hK.out _ _ (MK.out _ ((LM.out _ hHeld).step hb)) (fun hHeld => ?_)
 clear hK K
 refine zbo (a' := ?_) ?_ ?_
 rotate_left
 ·show Act.put _ (some 79) _ = _
  simp only [Act.put,List.setIfInBounds_toArray,List.set_cons_zero,List.set_cons_succ,zk,zm]
  rfl
 refine zb0 (i := 6) (N := some 80) #[true,true,true,true,true,true,true,false] rfl rfl (zaY HT_.out (by kernel_rfl)) (by decide) (fun K hK => ?_)
 refine zbn Try.func14 (by kernel_rfl) rfl #[.slice N1 RL.length m1,.slice N2 RL.length m2] (by rfl) rfl rfl (by (try simp only [List.map_toArray,List.map_cons,List.map_nil]);first | done | rfl) ?_
 refine (zr.calls k6 _ _ RL _ _ RL true _ RN1.out LN1.out RN2.out LN2.out E2.out).mono ?_
 rintro e x3 ⟨rfl,hb⟩
 refine ⟨_,rfl,?_⟩
 refine hK.out _ _ (MK.out _ ((LM.out _ hHeld).step hb)) (fun hHeld => ?_)
 clear hK K
 refine zbo (a' := ?_) ?_ ?_
 rotate_left
 ·show Act.put _ (some 80) _ = _
  simp only [Act.put,List.setIfInBounds_toArray,List.set_cons_zero,List.set_cons_succ,zk,zm]
  rfl
 refine zv (i := 7) (N := some 19) (v := ?_) (a' := ?_) #[true,true,true,true,true,true,true,true] rfl rfl (zn HT_.out (by kernel_rfl)) (fun _ _ _ h => h) (Or.inl ⟨by rfl,?_⟩) ?_ ?_
 rotate_left
 ·intro w'
  go_simp
  with_reducible rfl
 rotate_left
 ·simp only [Act.put,List.setIfInBounds_toArray,List.set_cons_zero,List.set_cons_succ,zk,zm]
  rfl
 refine zbF (zaR HT_.out (by kernel_rfl)) ?_
 have M1 := za.mk (LM.out _ hHeld)
 clear hHeld HT_ HW_
 go_wp2_with fail
 refine zbD (n := 8) (S := fun w' => w'.cell? ⟨g3,0,none⟩ = some (.int .i64 n) ∧ w'.cell? ⟨g3,1,none⟩ = some (.int .i64 lo) ∧ w'.cell? ⟨g3,2,none⟩ = some (.slice A2 L.length c2) ∧ w'.cell? ⟨g4,0,none⟩ = some (.int .i64 va) ∧ w'.cell? ⟨g4,1,none⟩ = some (.int .i64 vr) ∧ w'.cell? ⟨g4,2,none⟩ = some (.slice A5 bs.length c5) ∧ w'.cell? ⟨g4,3,none⟩ = some (.slice A6 ps.length c6) ∧ w'.cell? ⟨g4,4,none⟩ = some (.int .i64 vx) ∧ w'.cell? ⟨g4,5,none⟩ = some (.int .i64 vy) ∧ zee w w' g3 g4 (.cells #[.int .i64 n,.int .i64 lo,.slice A2 L.length c2] 24 (0,0)) (.cells #[.int .i64 va,.int .i64 vr,.slice A5 bs.length c5,.slice A6 ps.length c6,.int .i64 vx,.int .i64 vy] 30 (0,0))) (ds := []) (zaw 8 0) (by kernel_rfl) rfl rfl (MK.out _ M1.out.drew) (fun hHeld => ?_);refine zaL zA.tab16 zA.bits16 (fun HT_ HW_ => ?_)
 clear M1
 refine take_ (i := 0) (N := some 81) (v := ?_) (a' := ?_) #[true,false,false,false,false,false,false,false] rfl rfl (zY HT_.out HW_.out (by kernel_rfl)) (fun _ _ _ h => h) (Or.inl ⟨by rfl,?_⟩) hHeld ?_ ?_
 rotate_left
 ·rintro w' ⟨r0,r1,r2,r3,r4,r5,r6,r7,r8,hM⟩
  go_simp
  with_reducible rfl
 rotate_left
 ·simp only [Act.put,List.setIfInBounds_toArray,List.set_cons_zero,List.set_cons_succ,zk,zm]
  rfl
 refine take_ (i := 1) (N := some 82) (v := ?_) (a' := ?_) #[true,true,false,false,false,false,false,false] rfl rfl (zY HT_.out HW_.out (by kernel_rfl)) (fun _ _ _ h => h) (Or.inl ⟨by rfl,?_⟩) hHeld ?_ ?_
 rotate_left
 ·rintro w' ⟨r0,r1,r2,r3,r4,r5,r6,r7,r8,hM⟩
  go_simp
  with_reducible rfl
 rotate_left
 ·simp only [Act.put,List.setIfInBounds_toArray,List.set_cons_zero,List.set_cons_succ,zk,zm]
  rfl
 refine take_ (i := 3) (N := some 84) (v := ?_) (a' := ?_) #[true,true,false,true,false,false,false,false] rfl rfl (zY HT_.out HW_.out (by kernel_rfl)) (fun _ _ _ h => h) (Or.inl ⟨by rfl,?_⟩) hHeld ?_ ?_
 rotate_left
 ·rintro w' ⟨r0,r1,r2,r3,r4,r5,r6,r7,r8,hM⟩
  go_simp
  with_reducible rfl
 rotate_left
 ·simp only [Act.put,List.setIfInBounds_toArray,List.set_cons_zero,List.set_cons_succ,zk,zm]
  rfl
 refine take_ (i := 4) (N := some 85) (v := ?_) (a' := ?_) #[true,true,false,true,true,false,false,false] rfl rfl (zY HT_.out HW_.out (by kernel_rfl)) (fun _ _ _ h => h) (Or.inl ⟨by rfl,?_⟩) hHeld ?_ ?_
 rotate_left
 ·rintro w' ⟨r0,r1,r2,r3,r4,r5,r6,r7,r8,hM⟩
  go_simp
  with_reducible rfl
 rotate_left
 ·simp only [Act.put,List.setIfInBounds_toArray,List.set_cons_zero,List.set_cons_succ,zk,zm]
  rfl
 refine zb0 (i := 2) (N := some 83) #[true,true,true,true,true,false,false,false] rfl rfl (zaY HT_.out (by kernel_rfl)) (by decide) (fun K hK => ?_)
 refine zbn Try.func18 (by kernel_rfl) rfl #[.agg #[.int .i64 n,.int .i64 lo,.slice A2 L.length c2],.agg #[.int .i64 va,.int .i64 vr,.slice A5 bs.length c5,.slice A6 ps.length c6,.int .i64 vx,.int .i64 vy]] (by rfl) rfl rfl (by (try simp only [List.map_toArray,List.map_cons,List.map_nil]);first | done | rfl) ?_
 refine (zal.calls n lo _ _ L va vr _ _ bs _ _ ps vx vy ML _ (Kd.C_below HR.out (LM.out _ hHeld).b) HC.out (Kd.C_below R5.out (LM.out _ hHeld).b) C5.out (Kd.C_below R6.out (LM.out _ hHeld).b) C6.out Q3.out).mono ?_
 rintro e x1 ⟨v0,rfl,hN,hb⟩
 obtain ⟨N1,m1,rfl⟩ := Kd.R_slice hN
 have RN1 := za.mk (Kd.R_reads' hN).2.2
 have LN1 := za.mk (Kd.R_reads' hN).2.1
 clear hN
 refine ⟨_,rfl,?_⟩
 refine hK.out _ _ (MK.out _ ((LM.out _ hHeld).step hb)) (fun hHeld => ?_)
 clear hK K
 refine zbo (a' := ?_) ?_ ?_
 rotate_left
 ·show Act.put _ (some 83) _ = _
  simp only [Act.put,List.setIfInBounds_toArray,List.set_cons_zero,List.set_cons_succ,zk,zm]
  rfl
 refine zb0 (i := 5) (N := some 86) #[true,true,true,true,true,true,false,false] rfl rfl (zaY HT_.out (by kernel_rfl)) (by decide) (fun K hK => ?_)
 refine zbn Try.func19 (by kernel_rfl) rfl #[.agg #[.int .i64 n,.int .i64 lo,.slice A2 L.length c2],.agg #[.int .i64 va,.int .i64 vr,.slice A5 bs.length c5,.slice A6 ps.length c6,.int .i64 vx,.int .i64 vy]] (by rfl) rfl rfl (by (try simp only [List.map_toArray,List.map_cons,List.map_nil]);first | done | rfl) ?_
 refine (zx.calls k7 n lo _ _ L va vr _ _ bs _ _ ps vx vy ML _ (Kd.C_below HR.out (LM.out _ hHeld).b) HC.out (Kd.C_below R5.out (LM.out _ hHeld).b) C5.out (Kd.C_below R6.out (LM.out _ hHeld).b) C6.out Q4.out).mono ?_
 rintro e x2 ⟨v0,rfl,hN,hb⟩
 obtain ⟨N2,m2,rfl⟩ := Kd.R_slice hN
 have RN2 := za.mk (Kd.R_reads' hN).2.2
 have LN2 := za.mk (Kd.R_reads' hN).2.1
 clear hN
 replace RN1 := za.mk (Kd.C_below RN1.out hb)
 refine ⟨_,rfl,?_⟩
 refine hK.out _ _ (MK.out _ ((LM.out _ hHeld).step hb)) (fun hHeld => ?_)
 clear hK K
 refine zbo (a' := ?_) ?_ ?_
 rotate_left
 ·show Act.put _ (some 86) _ = _
  simp only [Act.put,List.setIfInBounds_toArray,List.set_cons_zero,List.set_cons_succ,zk,zm]
  rfl
 refine zb0 (i := 6) (N := some 87) #[true,true,true,true,true,true,true,false] rfl rfl (zaY HT_.out (by kernel_rfl)) (by decide) (fun K hK => ?_)
 refine zbn Try.func17 (by kernel_rfl) rfl #[.slice N1 ML.length m1,.slice N2 ML.length m2] (by rfl) rfl rfl (by (try simp only [List.map_toArray,List.map_cons,List.map_nil]);first | done | rfl) ?_
 refine (zT.calls k8 _ _ ML _ _ ML true _ RN1.out LN1.out RN2.out LN2.out E3.out).mono ?_
 rintro e x3 ⟨rfl,hdr⟩
 have hb := ziX hdr
 clear hdr
 refine ⟨_,rfl,?_⟩
 refine hK.out _ _ (MK.out _ ((LM.out _ hHeld).step hb)) (fun hHeld => ?_)
 clear hK K
 refine zbo (a' := ?_) ?_ ?_
 rotate_left
 ·show Act.put _ (some 87) _ = _
  simp only [Act.put,List.setIfInBounds_toArray,List.set_cons_zero,List.set_cons_succ,zk,zm]
  rfl
 refine zv (i := 7) (N := some 20) (v := ?_) (a' := ?_) #[true,true,true,true,true,true,true,true] rfl rfl (zn HT_.out (by kernel_rfl)) (fun _ _ _ h => h) (Or.inl ⟨by rfl,?_⟩) ?_ ?_
 rotate_left
 ·intro w'
  go_simp
  with_reducible rfl
 rotate_left
 ·simp only [Act.put,List.setIfInBounds_toArray,List.set_cons_zero,List.set_cons_succ,zk,zm]
  rfl
 refine zbF (zaR HT_.out (by kernel_rfl)) ?_
 have M2 := za.mk (LM.out _ hHeld)
 clear hHeld HT_ HW_
 go_wp2_with fail
 refine zbD (n := 25) (S := fun w' => w'.cell? ⟨g3,0,none⟩ = some (.int .i64 n) ∧ w'.cell? ⟨g3,1,none⟩ = some (.int .i64 lo) ∧ w'.cell? ⟨g3,2,none⟩ = some (.slice A2 L.length c2) ∧ w'.cell? ⟨g4,0,none⟩ = some (.int .i64 va) ∧ w'.cell? ⟨g4,1,none⟩ = some (.int .i64 vr) ∧ w'.cell? ⟨g4,2,none⟩ = some (.slice A5 bs.length c5) ∧ w'.cell? ⟨g4,3,none⟩ = some (.slice A6 ps.length c6) ∧ w'.cell? ⟨g4,4,none⟩ = some (.int .i64 vx) ∧ w'.cell? ⟨g4,5,none⟩ = some (.int .i64 vy) ∧ zee w w' g3 g4 (.cells #[.int .i64 n,.int .i64 lo,.slice A2 L.length c2] 24 (0,0)) (.cells #[.int .i64 va,.int .i64 vr,.slice A5 bs.length c5,.slice A6 ps.length c6,.int .i64 vx,.int .i64 vy] 30 (0,0))) (ds := []) (zaw 25 0) (by kernel_rfl) rfl rfl (MK.out _ M2.out.drew) (fun hHeld => ?_);refine zaL zA.tab17 zA.bits17 (fun HT_ HW_ => ?_)
 clear M2
 refine zv (i := 0) (N := some 88) (v := ?_) (a' := ?_) #[true,false,false,false,false,false,false,false,false,false,false,false,false,false,false,false,false,false,false,false,false,false,false,false,false] rfl rfl (zn HT_.out (by kernel_rfl)) (fun _ _ _ h => h) (Or.inl ⟨by rfl,?_⟩) ?_ ?_
 rotate_left
 ·intro w'
  go_simp
  with_reducible rfl
 rotate_left
 ·simp only [Act.put,List.setIfInBounds_toArray,List.set_cons_zero,List.set_cons_succ,zk,zm]
  rfl
 refine zv (i := 1) (N := some 89) (v := ?_) (a' := ?_) #[true,true,false,false,false,false,false,false,false,false,false,false,false,false,false,false,false,false,false,false,false,false,false,false,false] rfl rfl (zn HT_.out (by kernel_rfl)) (fun _ _ _ h => h) (Or.inl ⟨by rfl,?_⟩) ?_ ?_
 rotate_left
 ·intro w'
  go_simp
  with_reducible rfl
 rotate_left
 ·simp only [Act.put,List.setIfInBounds_toArray,List.set_cons_zero,List.set_cons_succ,zk,zm]
  rfl
 refine zv (i := 2) (N := some 90) (v := ?_) (a' := ?_) #[true,true,true,false,false,false,false,false,false,false,false,false,false,false,false,false,false,false,false,false,false,false,false,false,false] rfl rfl (zn HT_.out (by kernel_rfl)) (fun _ _ _ h => h) (Or.inl ⟨by rfl,?_⟩) ?_ ?_
 rotate_left
 ·intro w'
  go_simp
  with_reducible rfl
 rotate_left
 ·simp only [Act.put,List.setIfInBounds_toArray,List.set_cons_zero,List.set_cons_succ,zk,zm]
  rfl
 refine zv (i := 3) (N := some 91) (v := ?_) (a' := ?_) #[true,true,true,true,false,false,false,false,false,false,false,false,false,false,false,false,false,false,false,false,false,false,false,false,false] rfl rfl (zn HT_.out (by kernel_rfl)) (fun _ _ _ h => h) (Or.inl ⟨by rfl,?_⟩) ?_ ?_
 rotate_left
 ·intro w'
  go_simp
  with_reducible rfl
 rotate_left
 ·simp only [Act.put,List.setIfInBounds_toArray,List.set_cons_zero,List.set_cons_succ,zk,zm]
  rfl
 refine zv (i := 4) (N := some 92) (v := ?_) (a' := ?_) #[true,true,true,true,true,false,false,false,false,false,false,false,false,false,false,false,false,false,false,false,false,false,false,false,false] rfl rfl (zn HT_.out (by kernel_rfl)) (fun _ _ _ h => h) (Or.inl ⟨by rfl,?_⟩) ?_ ?_
 rotate_left
 ·intro w'
  go_simp
  with_reducible rfl
 rotate_left
 ·simp only [Act.put,List.setIfInBounds_toArray,List.set_cons_zero,List.set_cons_succ,zk,zm]
  rfl
 refine zv (i := 5) (N := some 93) (v := ?_) (a' := ?_) #[true,true,true,true,true,true,false,false,false,false,false,false,false,false,false,false,false,false,false,false,false,false,false,false,false] rfl rfl (zn HT_.out (by kernel_rfl)) (fun _ _ _ h => h) (Or.inl ⟨by rfl,?_⟩) ?_ ?_
 rotate_left
 ·intro w'
  go_simp
  with_reducible rfl
 rotate_left
 ·simp only [Act.put,List.setIfInBounds_toArray,List.set_cons_zero,List.set_cons_succ,zk,zm]
  rfl
 refine zv (i := 6) (N := some 94) (v := ?_) (a' := ?_) #[true,true,true,true,true,true,true,false,false,false,false,false,false,false,false,false,false,false,false,false,false,false,false,false,false] rfl rfl (zn HT_.out (by kernel_rfl)) (fun _ _ _ h => h) (Or.inl ⟨by rfl,?_⟩) ?_ ?_
 rotate_left
 ·intro w'
  go_simp
  with_reducible rfl
 rotate_left
 ·simp only [Act.put,List.setIfInBounds_toArray,List.set_cons_zero,List.set_cons_succ,zk,zm]
  rfl
 refine zv (i := 7) (N := some 95) (v := ?_) (a' := ?_) #[true,true,true,true,true,true,true,true,false,false,false,false,false,false,false,false,false,false,false,false,false,false,false,false,false] rfl rfl (zn HT_.out (by kernel_rfl)) (fun _ _ _ h => h) (Or.inl ⟨by rfl,?_⟩) ?_ ?_
 rotate_left
 ·intro w'
  go_simp
  with_reducible rfl
 rotate_left
 ·simp only [Act.put,List.setIfInBounds_toArray,List.set_cons_zero,List.set_cons_succ,zk,zm]
  rfl
 refine zv (i := 8) (N := some 96) (v := ?_) (a' := ?_) #[true,true,true,true,true,true,true,true,true,false,false,false,false,false,false,false,false,false,false,false,false,false,false,false,false] rfl rfl (zn HT_.out (by kernel_rfl)) (fun _ _ _ h => h) (Or.inl ⟨by rfl,?_⟩) ?_ ?_
 rotate_left
 ·intro w'
  go_simp
  with_reducible rfl
 rotate_left
 ·simp only [Act.put,List.setIfInBounds_toArray,List.set_cons_zero,List.set_cons_succ,zk,zm]
  rfl
 refine zv (i := 9) (N := some 97) (v := ?_) (a' := ?_) #[true,true,true,true,true,true,true,true,true,true,false,false,false,false,false,false,false,false,false,false,false,false,false,false,false] rfl rfl (zn HT_.out (by kernel_rfl)) (fun _ _ _ h => h) (Or.inl ⟨by rfl,?_⟩) ?_ ?_
 rotate_left
 ·intro w'
  go_simp
  with_reducible rfl
 rotate_left
 ·simp only [Act.put,List.setIfInBounds_toArray,List.set_cons_zero,List.set_cons_succ,zk,zm]
  rfl
 refine zv (i := 10) (N := some 98) (v := ?_) (a' := ?_) #[true,true,true,true,true,true,true,true,true,true,true,false,false,false,false,false,false,false,false,false,false,false,false,false,false] rfl rfl (zn HT_.out (by kernel_rfl)) (fun _ _ _ h => h) (Or.inl ⟨by rfl,?_⟩) ?_ ?_
 rotate_left
 ·intro w'
  go_simp
  with_reducible rfl
 rotate_left
 ·simp only [Act.put,List.setIfInBounds_toArray,List.set_cons_zero,List.set_cons_succ,zk,zm]
  rfl
 refine zv (i := 11) (N := some 99) (v := ?_) (a' := ?_) #[true,true,true,true,true,true,true,true,true,true,true,true,false,false,false,false,false,false,false,false,false,false,false,false,false] rfl rfl (zn HT_.out (by kernel_rfl)) (fun _ _ _ h => h) (Or.inl ⟨by rfl,?_⟩) ?_ ?_
 rotate_left
 ·intro w'
  go_simp
  with_reducible rfl
 rotate_left
 ·simp only [Act.put,List.setIfInBounds_toArray,List.set_cons_zero,List.set_cons_succ,zk,zm]
  rfl
 refine zv (i := 12) (N := some 100) (v := ?_) (a' := ?_) #[true,true,true,true,true,true,true,true,true,true,true,true,true,false,false,false,false,false,false,false,false,false,false,false,false] rfl rfl (zn HT_.out (by kernel_rfl)) (fun _ _ _ h => h) (Or.inl ⟨by rfl,?_⟩) ?_ ?_
 rotate_left
 ·intro w'
  go_simp
  with_reducible rfl
 rotate_left
 ·simp only [Act.put,List.setIfInBounds_toArray,List.set_cons_zero,List.set_cons_succ,zk,zm]
  rfl
 refine zv (i := 13) (N := some 101) (v := ?_) (a' := ?_) #[true,true,true,true,true,true,true,true,true,true,true,true,true,true,false,false,false,false,false,false,false,false,false,false,false] rfl rfl (zn HT_.out (by kernel_rfl)) (fun _ _ _ h => h) (Or.inl ⟨by rfl,?_⟩) ?_ ?_
 rotate_left
 ·intro w'
  go_simp
  with_reducible rfl
 rotate_left
 ·simp only [Act.put,List.setIfInBounds_toArray,List.set_cons_zero,List.set_cons_succ,zk,zm]
  rfl
 refine zv (i := 14) (N := some 102) (v := ?_) (a' := ?_) #[true,true,true,true,true,true,true,true,true,true,true,true,true,true,true,false,false,false,false,false,false,false,false,false,false] rfl rfl (zn HT_.out (by kernel_rfl)) (fun _ _ _ h => h) (Or.inl ⟨by rfl,?_⟩) ?_ ?_
 rotate_left
 ·intro w'
  go_simp
  with_reducible rfl
 rotate_left
 ·simp only [Act.put,List.setIfInBounds_toArray,List.set_cons_zero,List.set_cons_succ,zk,zm]
  rfl
 refine zv (i := 15) (N := some 103) (v := ?_) (a' := ?_) #[true,true,true,true,true,true,true,true,true,true,true,true,true,true,true,true,false,false,false,false,false,false,false,false,false] rfl rfl (zn HT_.out (by kernel_rfl)) (fun _ _ _ h => h) (Or.inl ⟨by rfl,?_⟩) ?_ ?_
 rotate_left
 ·intro w'
  go_simp
  with_reducible rfl
 rotate_left
 ·simp only [Act.put,List.setIfInBounds_toArray,List.set_cons_zero,List.set_cons_succ,zk,zm]
  rfl
 refine zv (i := 16) (N := some 104) (v := ?_) (a' := ?_) #[true,true,true,true,true,true,true,true,true,true,true,true,true,true,true,true,true,false,false,false,false,false,false,false,false] rfl rfl (zn HT_.out (by kernel_rfl)) (fun _ _ _ h => h) (Or.inl ⟨by rfl,?_⟩) ?_ ?_
 rotate_left
 ·intro w'
  go_simp
  with_reducible rfl
 rotate_left
 ·simp only [Act.put,List.setIfInBounds_toArray,List.set_cons_zero,List.set_cons_succ,zk,zm]
  rfl
 refine zv (i := 17) (N := some 105) (v := ?_) (a' := ?_) #[true,true,true,true,true,true,true,true,true,true,true,true,true,true,true,true,true,true,false,false,false,false,false,false,false] rfl rfl (zn HT_.out (by kernel_rfl)) (fun _ _ _ h => h) (Or.inl ⟨by rfl,?_⟩) ?_ ?_
 rotate_left
 ·intro w'
  go_simp
  with_reducible rfl
 rotate_left
 ·simp only [Act.put,List.setIfInBounds_toArray,List.set_cons_zero,List.set_cons_succ,zk,zm]
  rfl
 refine take_ (i := 18) (N := some 106) (v := ?_) (a' := ?_) #[true,true,true,true,true,true,true,true,true,true,true,true,true,true,true,true,true,true,true,false,false,false,false,false,false] rfl rfl (zY HT_.out HW_.out (by kernel_rfl)) (fun _ _ _ h => h) (Or.inl ⟨by rfl,?_⟩) hHeld ?_ ?_
 rotate_left
 ·rintro w' ⟨r0,r1,r2,r3,r4,r5,r6,r7,r8,hM⟩
  go_simp
  with_reducible rfl
 rotate_left
 ·simp only [Act.put,List.setIfInBounds_toArray,List.set_cons_zero,List.set_cons_succ,zk,zm]
  rfl
 refine take_ (i := 20) (N := some 108) (v := ?_) (a' := ?_) #[true,true,true,true,true,true,true,true,true,true,true,true,true,true,true,true,true,true,true,false,true,false,false,false,false] rfl rfl (zY HT_.out HW_.out (by kernel_rfl)) (fun _ _ _ h => h) (Or.inl ⟨by rfl,?_⟩) hHeld ?_ ?_
 rotate_left
 ·rintro w' ⟨r0,r1,r2,r3,r4,r5,r6,r7,r8,hM⟩
  go_simp
  with_reducible rfl
 rotate_left
 ·simp only [Act.put,List.setIfInBounds_toArray,List.set_cons_zero,List.set_cons_succ,zk,zm]
  rfl
 refine zb0 (i := 19) (N := some 107) #[true,true,true,true,true,true,true,true,true,true,true,true,true,true,true,true,true,true,true,true,true,false,false,false,false] rfl rfl (zaY HT_.out (by kernel_rfl)) (by decide) (fun K hK => ?_)
 refine zbn Try.func20 (by kernel_rfl) rfl #[.agg #[.int .i64 n,.int .i64 lo,.slice A2 L.length c2]] (by rfl) rfl rfl (by (try simp only [List.map_toArray,List.map_cons,List.map_nil]);first | done | rfl) ?_
 refine (zaB.calls n lo _ _ L rt _ (Kd.C_below HR.out (LM.out _ hHeld).b) HC.out Q5.out).mono ?_
 rintro e x1 ⟨rfl,hb⟩
 refine ⟨_,rfl,?_⟩
 refine hK.out _ _ (MK.out _ ((LM.out _ hHeld).step hb)) (fun hHeld => ?_)
 clear hK K
 refine zbo (a' := ?_) ?_ ?_
 rotate_left
 ·show Act.put _ (some 107) _ = _
  simp only [Act.put,List.setIfInBounds_toArray,List.set_cons_zero,List.set_cons_succ,zk,zm]
  rfl
 refine zb0 (i := 21) (N := some 109) #[true,true,true,true,true,true,true,true,true,true,true,true,true,true,true,true,true,true,true,true,true,true,false,false,false] rfl rfl (zaY HT_.out (by kernel_rfl)) (by decide) (fun K hK => ?_)
 refine zbn Try.func21 (by kernel_rfl) rfl #[.agg #[.int .i64 n,.int .i64 lo,.slice A2 L.length c2]] (by rfl) rfl rfl (by (try simp only [List.map_toArray,List.map_cons,List.map_nil]);first | done | rfl) ?_
 refine (zj.calls k9 n lo _ _ L rt _ (Kd.C_below HR.out (LM.out _ hHeld).b) HC.out Q6.out).mono ?_
 rintro e x2 ⟨rfl,hb⟩
 refine ⟨_,rfl,?_⟩
 refine hK.out _ _ (MK.out _ ((LM.out _ hHeld).step hb)) (fun hHeld => ?_)
 clear hK K
 refine zbo (a' := ?_) ?_ ?_
 rotate_left
 ·show Act.put _ (some 109) _ = _
  simp only [Act.put,List.setIfInBounds_toArray,List.set_cons_zero,List.set_cons_succ,zk,zm]
  rfl
 refine zv (i := 22) (N := some 110) (v := ?_) (a' := ?_) #[true,true,true,true,true,true,true,true,true,true,true,true,true,true,true,true,true,true,true,true,true,true,true,false,false] rfl rfl (zn HT_.out (by kernel_rfl)) (fun _ _ _ h => h) (Or.inl ⟨by rfl,?_⟩) ?_ ?_
 rotate_left
 ·intro w'
  go_simp
  with_reducible rfl
 rotate_left
 ·simp only [Act.put,List.setIfInBounds_toArray,List.set_cons_zero,List.set_cons_succ,zk,zm]
  rfl
 refine zv (i := 23) (N := some 111) (v := ?_) (a' := ?_) #[true,true,true,true,true,true,true,true,true,true,true,true,true,true,true,true,true,true,true,true,true,true,true,true,false] rfl rfl (zn HT_.out (by kernel_rfl)) (fun _ _ _ h => h) (Or.inl ⟨by rfl,?_⟩) ?_ ?_
 rotate_left
 ·intro w'
  go_simp
  with_reducible rfl
 rotate_left
 ·simp only [Act.put,List.setIfInBounds_toArray,List.set_cons_zero,List.set_cons_succ,zk,zm]
  rfl
 refine zv (i := 24) (N := some 2) (v := ?_) (a' := ?_) #[true,true,true,true,true,true,true,true,true,true,true,true,true,true,true,true,true,true,true,true,true,true,true,true,true] rfl rfl (zn HT_.out (by kernel_rfl)) (fun _ _ _ h => h) (Or.inl ⟨by rfl,?_⟩) ?_ ?_
 rotate_left
 ·intro w'
  go_simp
  with_reducible rfl
 rotate_left
 ·simp only [Act.put,List.setIfInBounds_toArray,List.set_cons_zero,List.set_cons_succ,zk,zm]
  rfl
 refine zbF (zaR HT_.out (by kernel_rfl)) ?_
 have M3 := za.mk (LM.out _ hHeld)
 clear hHeld HT_ HW_
 go_wp2_with fail
 go_ret
 exact ⟨by cases rt <;> cases e8 <;> cases b8 <;> rfl,M3.out.b⟩
theorem zh6 {L : List Ent} (hs : ∀ x ∈ L,zgo x) (o : Option Ent) (ho : ∀ x,o = some x → x ∈ L) : zgo ⟨(zcy o).1,⟨(zcy o).2.1,(zcy o).2.2.1,(zcy o).2.2.2.1,(zcy o).2.2.2.2.1,⟨(zcy o).2.2.2.2.2.1,(zcy o).2.2.2.2.2.2.1⟩⟩⟩ := by
 rcases o with _ | x
 ·exact ⟨by decide,fun b hb => absurd hb List.not_mem_nil,by decide,fun t ht => absurd ht List.not_mem_nil⟩
 ·exact hs x (ho x rfl)
def fitB (x : Ent) : Bool := decide (x.f1.f2.length < 4611686018427387904) && x.f1.f2.all (fun b => decide (b.f2.length < 4611686018427387904)) && decide (x.f1.f3.length ≤ 8796093022208) && x.f1.f3.all (fun t => decide (t.size < 4611686018427387904))
theorem zg4 {x : Ent} : fitB x = true ↔ zgo x := by
 unfold fitB
 simp only [Bool.and_eq_true,decide_eq_true_eq,List.all_eq_true]
 exact ⟨fun h => ⟨h.1.1.1,h.1.1.2,h.1.2,h.2⟩,fun h => ⟨⟨⟨h.bs,h.tx⟩,h.ps⟩,h.t⟩⟩
def zA.f (n lo : Int) (L : List (S36)) (va vr : Int) (bs : List (S72)) (ps : List ByteArray) (vx vy : Int) (g : ByteArray) (au r : Int) : Option (Bool) := if L.length < 1466015503701 ∧ L.all fitB = true ∧ ps.length ≤ 8796093022208 then some true else none
theorem zA.calls (a0_0 : Int) (a0_1 : Int) (A0_2 : Option Addr) (c0_2 : Nat) (l0_2 : List (S36)) (a0_3 : Int) (a0_4 : Int) (A0_5 : Option Addr) (c0_5 : Nat) (l0_5 : List (S72)) (A0_6 : Option Addr) (c0_6 : Nat) (l0_6 : List ByteArray) (a0_7 : Int) (a0_8 : Int) (a0_9 : ByteArray) (a0_10 : Int) (a0_11 : Int) (res : Bool) (w : World) (hr0_2 : Kd.C k36 w A0_2 l0_2.length l0_2) (hc0_2 : l0_2.length ≤ c0_2) (hr0_5 : Kd.C k72 w A0_5 l0_5.length l0_5) (hc0_5 : l0_5.length ≤ c0_5) (hr0_6 : Kd.C Kd.string w A0_6 l0_6.length l0_6) (hc0_6 : l0_6.length ≤ c0_6) (h : zA.f a0_0 a0_1 l0_2 a0_3 a0_4 l0_5 l0_6 a0_7 a0_8 a0_9 a0_10 a0_11 = some res) :
  Calls Try.prog 3 #[.agg #[.int .i64 a0_0,.int .i64 a0_1,.slice A0_2 l0_2.length c0_2,.int .i64 a0_3,.int .i64 a0_4,.slice A0_5 l0_5.length c0_5,.slice A0_6 l0_6.length c0_6,.int .i64 a0_7,.int .i64 a0_8,.string a0_9,.int .i64 a0_10,.int .i64 a0_11]] w fun e w' => e = .returned (.bool res) ∧ Below w.heap.size w w' := by
 unfold zA.f at h
 split at h
 ·rename_i hh
  obtain rfl := Option.some.inj h
  obtain ⟨hL,hf,hp⟩ := hh
  have hs : ∀ x ∈ l0_2,zgo x := fun x hx => zg4.1 (List.all_eq_true.1 hf x hx)
  have hL' : l0_2.length < 4611686018427387904 := by omega
  have fe := zh6 hs (zcG l0_2 a0_9) (fun x hx => List.mem_of_find?_eq_some hx)
  have fb := zh6 hs (byE l0_2 a0_10 a0_11) (fun x hx => List.mem_of_find?_eq_some hx)
  obtain ⟨k1,q1⟩ := (zhL a0_0 a0_1 l0_2 a0_9 hL').rounds
  obtain ⟨k2,q2⟩ := (refBy_ev a0_0 a0_1 l0_2 a0_10 a0_11 hL').rounds
  have p1 : zaI.f a0_0 a0_1 l0_2 a0_9 = some (zcy (zcG l0_2 a0_9)) := rfl
  have p2 : zbk.f a0_0 a0_1 l0_2 a0_10 a0_11 = some (zcy (byE l0_2 a0_10 a0_11)) := rfl
  generalize zcy (zcG l0_2 a0_9) = te at fe q1 p1
  generalize zcy (byE l0_2 a0_10 a0_11) = tb at fb q2 p2
  obtain ⟨e1,e2,e3,e4,e5,e6,e7,e8⟩ := te
  obtain ⟨b1,b2,b3,b4,b5,b6,b7,b8⟩ := tb
  obtain ⟨k3,q3⟩ := (zd0 [⟨e1,⟨e2,e3,e4,e5,⟨e6,e7⟩⟩⟩,⟨b1,⟨b2,b3,b4,b5,⟨b6,b7⟩⟩⟩] [⟨e1,⟨e2,e3,e4,e5,⟨e6,e7⟩⟩⟩,⟨b1,⟨b2,b3,b4,b5,⟨b6,b7⟩⟩⟩] (by simp) (fun x hx => by
   rcases List.mem_cons.1 hx with rfl | hx
   ·exact fe
   ·rcases List.mem_cons.1 hx with rfl | hx
    ·exact fb
    ·exact absurd hx List.not_mem_nil)).rounds
  obtain ⟨k4,q4⟩ := (zeT a0_0 a0_1 l0_2 a0_11 hL).rounds
  obtain ⟨k5,q5⟩ := (zeY a0_0 a0_1 a0_11 l0_2 hL).rounds
  have hRL : (zbP l0_2 a0_11).length ≤ l0_2.length := List.length_filter_le _ _
  obtain ⟨k6,q6⟩ := (zd0 (zbP l0_2 a0_11) (zbP l0_2 a0_11) (by omega) (fun x hx => hs x (List.mem_filter.1 hx).1)).rounds
  have p3 : zal.f a0_0 a0_1 l0_2 a0_3 a0_4 l0_5 l0_6 a0_7 a0_8 = some (zbt l0_2 a0_1 a0_4 l0_6) := if_pos ⟨hL,hp⟩
  obtain ⟨k7,q7⟩ := (zd1 a0_0 a0_1 l0_2 a0_3 a0_4 l0_5 l0_6 a0_7 a0_8 hL hp).rounds
  have hML : (zbt l0_2 a0_1 a0_4 l0_6).length ≤ l0_6.length := by
   unfold zbt
   split
   ·exact Nat.zero_le _
   ·exact List.length_filter_le _ _
  obtain ⟨k8,q8⟩ := (zeb (zbt l0_2 a0_1 a0_4 l0_6) (zbt l0_2 a0_1 a0_4 l0_6) (by omega)).rounds
  have p4 : zaB.f a0_0 a0_1 l0_2 = some (zbQ a0_0 a0_1 l0_2) := if_pos hL
  obtain ⟨k9,q9⟩ := (zhh a0_0 a0_1 l0_2 hL hs).rounds
  refine zA.walk a0_0 a0_1 A0_2 c0_2 l0_2 a0_3 a0_4 A0_5 c0_5 l0_5 A0_6 c0_6 l0_6 a0_7 a0_8 a0_9 a0_10 a0_11 w hr0_2 hc0_2 hr0_5 hc0_5 hr0_6 hc0_6 _ k1 k2 k3 k4 k5 k6 k7 k8 k9 e1 e2 e3 e4 e5 e6 e7 e8 b1 b2 b3 b4 b5 b6 b7 b8 (zbP l0_2 a0_11) (zbt l0_2 a0_1 a0_4 l0_6) (zbQ a0_0 a0_1 l0_2) zhZ rfl p1 q1 p2 q2 (q3.trans ?_) q4 q5 (q6.trans ?_) p3 q7 (q8.trans ?_) p4 q9
  ·rw [decide_eq_true rfl]
  ·rw [decide_eq_true rfl]
  ·rw [decide_eq_true rfl]
 ·cases h
end Go.Proofs.Ytklhjlaofkngcaa.Px