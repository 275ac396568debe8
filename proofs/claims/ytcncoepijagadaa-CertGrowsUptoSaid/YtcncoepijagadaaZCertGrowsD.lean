/- Part 4 of 24 of the proof of the law CertGrows: what is proved is the statement at the end of the last part; its conditions are those of the given row. -/
import Derived.Test.YtcncoepijagadaaProg
import Derived.WalkLawsBesides
import Derived.Test.YtcncoepijagadaaZCertGrowsC
namespace Go.Proofs.Ytcncoepijagadaa.Px
open Go.RowKit Go.Proofs.YtcncoepijagadaaW.PrintWords Go.Proofs.YtcncoepijagadaaW.PrintLast Go.Proofs.YtcncoepijagadaaW.PrintMore
attribute [local go_sem] zp zr zy zz zl zm zq zs
set_option linter.unusedVariables false
set_option linter.unusedSimpArgs false
theorem hBq {B_ : Nat} {w_ w_' : World} (h_ : Below B_ w_ w_' := by repeat (first | (with_reducible first | exact HB.out | apply zw | apply zg | apply zn) | exact HB.out)) : Below B_ w_ w_' := h_
theorem hCq {B_ : Nat} {w_ w_' : World} (h_ : Below B_ w_ w_' := by repeat (first | (with_reducible first | exact HB.out | apply zw | apply zg | apply zn | refine zE ?_ (za.out (by with_reducible assumption))) | exact HB.out)) : Below B_ w_ w_' := h_
def errW : Option Int → Value
 | none => .nilIface
 | some c => .iface 0 (.int .i64 c)
theorem zaR : errW none = .nilIface := rfl
theorem zaS (c : Int) : errW (some c) = .iface 0 (.int .i64 c) := rfl
theorem info9 : (Try.prog.info? 9).map (fun i => (i.zero,i.size,i.bytes)) = some (some (.string ⟨#[]⟩),1,16) := by kernel_rfl
theorem zcV : (Try.prog.info? 40).map (fun i => (i.zero,i.size,i.bytes)) = some (some (.agg #[(.int .i64 0),(.string ⟨#[]⟩)]),2,24) := by kernel_rfl
structure S50 where
 f0 : Int
 f1 : Int
 f2 : (List ByteArray)
def z50 : S50 := ⟨(0 : Int),(0 : Int),([] : List ByteArray)⟩
def k50 : Kd S50 := Kd.iso (Kd.pair (Kd.int .i64) (Kd.pair (Kd.int .i64) (Kd.slice 9 Kd.string))) (fun x : S50 => (x.f0,x.f1,x.f2))
theorem zik {w : World} {x : S50} {cs : List Value} (h : k50.K w x cs) : ∃ A2 c2,cs = [.int .i64 x.f0,.int .i64 x.f1,.slice A2 x.f2.length c2] ∧ x.f2.length ≤ c2 ∧ Kd.string.C w A2 x.f2.length x.f2 := by
 obtain ⟨_,_,rfl,rfl,⟨_,_,rfl,rfl,⟨A2,c2,rfl,l2,g2⟩⟩⟩ := h
 exact ⟨A2,c2,rfl,l2,g2⟩
def zG (xs : List S50) (i : Int) : S50 := xs.getD i.toNat z50
theorem zbZ {w : World} {A : Option Addr} {n : Nat} {xs : List S50} (h : Kd.C k50 w A n xs) (i : Int) (h0 : 0 ≤ i) (h1 : i < n) : ∃ ad A2 c2,A = some ad ∧ w.cell? (ad.add (i.toNat * 3)) = some (.int .i64 (zG xs i).f0) ∧ w.cell? ⟨(ad.add (i.toNat * 3)).block,(ad.add (i.toNat * 3)).off + 1,none⟩ = some (.int .i64 (zG xs i).f1) ∧ w.cell? ⟨(ad.add (i.toNat * 3)).block,(ad.add (i.toNat * 3)).off + 2,none⟩ = some (.slice A2 (zG xs i).f2.length c2) ∧ (zG xs i).f2.length ≤ c2 ∧ Kd.string.C w A2 (zG xs i).f2.length (zG xs i).f2 := by
 obtain ⟨ad,c,e,_,hK,hc0⟩ := Kd.C_get h z50 i h0 h1
 have hc : ∀ j u,c[j]? = some u → w.cell? (ad.add (i.toNat * 3 + j)) = some u := hc0
 obtain ⟨A2,c2,rfl,l2,g2⟩ := zik hK
 exact ⟨ad,A2,c2,e,hc 0 _ rfl,by rw [← zd8 _ _ 1 (by omega)];exact hc 1 _ rfl,by rw [← zd8 _ _ 2 (by omega)];exact hc 2 _ rfl,l2,g2⟩
structure S26 where
 f0 : Int
 f1 : Int
def z26 : S26 := ⟨(0 : Int),(0 : Int)⟩
def k26 : Kd S26 := Kd.iso (Kd.pair (Kd.int .i64) (Kd.int .i64)) (fun x : S26 => (x.f0,x.f1))
theorem zie {w : World} {x : S26} {cs : List Value} (h : k26.K w x cs) : cs = [.int .i64 x.f0,.int .i64 x.f1] := by
 obtain ⟨_,_,rfl,rfl,rfl⟩ := h
 exact rfl
structure S28 where
 f0 : Int
 f1 : Int
 f2 : (List S50)
 f3 : (List ByteArray)
 f4 : S26
def z28 : S28 := ⟨(0 : Int),(0 : Int),([] : List S50),([] : List ByteArray),z26⟩
def k28 : Kd S28 := Kd.iso (Kd.pair (Kd.int .i64) (Kd.pair (Kd.int .i64) (Kd.pair (Kd.slice 50 k50) (Kd.pair (Kd.slice 9 Kd.string) k26)))) (fun x : S28 => (x.f0,x.f1,x.f2,x.f3,x.f4))
theorem zif {w : World} {x : S28} {cs : List Value} (h : k28.K w x cs) : ∃ A2 c2 A3 c3,cs = [.int .i64 x.f0,.int .i64 x.f1,.slice A2 x.f2.length c2,.slice A3 x.f3.length c3,.int .i64 x.f4.f0,.int .i64 x.f4.f1] ∧ x.f2.length ≤ c2 ∧ k50.C w A2 x.f2.length x.f2 ∧ x.f3.length ≤ c3 ∧ Kd.string.C w A3 x.f3.length x.f3 := by
 obtain ⟨_,_,rfl,rfl,⟨_,_,rfl,rfl,⟨_,_,rfl,⟨A2,c2,rfl,l2,g2⟩,⟨_,_,rfl,⟨A3,c3,rfl,l3,g3⟩,s4⟩⟩⟩⟩ := h
 obtain rfl := zie s4
 exact ⟨A2,c2,A3,c3,rfl,l2,g2,l3,g3⟩
structure S40 where
 f0 : Int
 f1 : ByteArray
def z40 : S40 := ⟨(0 : Int),(⟨#[]⟩ : ByteArray)⟩
def k40 : Kd S40 := Kd.iso (Kd.pair (Kd.int .i64) Kd.string) (fun x : S40 => (x.f0,x.f1))
theorem zij {w : World} {x : S40} {cs : List Value} (h : k40.K w x cs) : cs = [.int .i64 x.f0,.string x.f1] := by
 obtain ⟨_,_,rfl,rfl,rfl⟩ := h
 exact rfl
theorem zii (w : World) (x : S40)  : k40.K w x [.int .i64 x.f0,.string x.f1] := ⟨[.int .i64 x.f0],[.string x.f1],rfl,rfl,rfl⟩
theorem zdW (w : World) (base : Nat) (ok : Nat → Prop) (x : S40)  : k40.M w base ok x [.int .i64 x.f0,.string x.f1] := ⟨[.int .i64 x.f0],[.string x.f1],rfl,rfl,rfl⟩
def zR (xs : List S40) (i : Int) : S40 := xs.getD i.toNat z40
theorem zcy {w : World} {A : Option Addr} {n : Nat} {xs : List S40} (h : Kd.C k40 w A n xs) (i : Int) (h0 : 0 ≤ i) (h1 : i < n) : ∃ ad ,A = some ad ∧ w.cell? (ad.add (i.toNat * 2)) = some (.int .i64 (zR xs i).f0) ∧ w.cell? ⟨(ad.add (i.toNat * 2)).block,(ad.add (i.toNat * 2)).off + 1,none⟩ = some (.string (zR xs i).f1) := by
 obtain ⟨ad,c,e,_,hK,hc0⟩ := Kd.C_get h z40 i h0 h1
 have hc : ∀ j u,c[j]? = some u → w.cell? (ad.add (i.toNat * 2 + j)) = some u := hc0
 obtain rfl := zij hK
 exact ⟨ad,e,hc 0 _ rfl,by rw [← zd8 _ _ 1 (by omega)];exact hc 1 _ rfl⟩
structure S31 where
 f0 : S28
 f1 : Int
def z31 : S31 := ⟨z28,(0 : Int)⟩
def k31 : Kd S31 := Kd.iso (Kd.pair k28 (Kd.int .u64)) (fun x : S31 => (x.f0,x.f1))
theorem zig {w : World} {x : S31} {cs : List Value} (h : k31.K w x cs) : ∃ A2 c2 A3 c3,cs = [.int .i64 x.f0.f0,.int .i64 x.f0.f1,.slice A2 x.f0.f2.length c2,.slice A3 x.f0.f3.length c3,.int .i64 x.f0.f4.f0,.int .i64 x.f0.f4.f1,.int .u64 x.f1] ∧ x.f0.f2.length ≤ c2 ∧ k50.C w A2 x.f0.f2.length x.f0.f2 ∧ x.f0.f3.length ≤ c3 ∧ Kd.string.C w A3 x.f0.f3.length x.f0.f3 := by
 obtain ⟨_,_,rfl,s0,rfl⟩ := h
 obtain ⟨A2,c2,A3,c3,rfl,l2,g2,l3,g3⟩ := zif s0
 exact ⟨A2,c2,A3,c3,rfl,l2,g2,l3,g3⟩
structure S33 where
 f0 : Int
 f1 : (List S40)
 f2 : (List S40)
 f3 : S31
def z33 : S33 := ⟨(0 : Int),([] : List S40),([] : List S40),z31⟩
def k33 : Kd S33 := Kd.iso (Kd.pair (Kd.int .i64) (Kd.pair (Kd.slice 40 k40) (Kd.pair (Kd.slice 40 k40) k31))) (fun x : S33 => (x.f0,x.f1,x.f2,x.f3))
theorem zih {w : World} {x : S33} {cs : List Value} (h : k33.K w x cs) : ∃ A1 c1 A2 c2 A5 c5 A6 c6,cs = [.int .i64 x.f0,.slice A1 x.f1.length c1,.slice A2 x.f2.length c2,.int .i64 x.f3.f0.f0,.int .i64 x.f3.f0.f1,.slice A5 x.f3.f0.f2.length c5,.slice A6 x.f3.f0.f3.length c6,.int .i64 x.f3.f0.f4.f0,.int .i64 x.f3.f0.f4.f1,.int .u64 x.f3.f1] ∧ x.f1.length ≤ c1 ∧ k40.C w A1 x.f1.length x.f1 ∧ x.f2.length ≤ c2 ∧ k40.C w A2 x.f2.length x.f2 ∧ x.f3.f0.f2.length ≤ c5 ∧ k50.C w A5 x.f3.f0.f2.length x.f3.f0.f2 ∧ x.f3.f0.f3.length ≤ c6 ∧ Kd.string.C w A6 x.f3.f0.f3.length x.f3.f0.f3 := by
 obtain ⟨_,_,rfl,rfl,⟨_,_,rfl,⟨A1,c1,rfl,l1,g1⟩,⟨_,_,rfl,⟨A2,c2,rfl,l2,g2⟩,s3⟩⟩⟩ := h
 obtain ⟨A5,c5,A6,c6,rfl,l5,g5,l6,g6⟩ := zig s3
 exact ⟨A1,c1,A2,c2,A5,c5,A6,c6,rfl,l1,g1,l2,g2,l5,g5,l6,g6⟩
theorem hcq10 {w : World} {g : Nat} {t : TypeId} {a0 a1 a2 a3 a4 a5 a6 a7 a8 a9 : Value} (h : w.heap[g]? = some (.cells #[a0,a1,a2,a3,a4,a5,a6,a7,a8,a9] t (0,0))) : w.cell? ⟨g,0,none⟩ = some a0 ∧ w.cell? ⟨g,1,none⟩ = some a1 ∧ w.cell? ⟨g,2,none⟩ = some a2 ∧ w.cell? ⟨g,3,none⟩ = some a3 ∧ w.cell? ⟨g,4,none⟩ = some a4 ∧ w.cell? ⟨g,5,none⟩ = some a5 ∧ w.cell? ⟨g,6,none⟩ = some a6 ∧ w.cell? ⟨g,7,none⟩ = some a7 ∧ w.cell? ⟨g,8,none⟩ = some a8 ∧ w.cell? ⟨g,9,none⟩ = some a9 ∧ w.frozen? ⟨g,0,none⟩ = false ∧ w.frozen? ⟨g,1,none⟩ = false ∧ w.frozen? ⟨g,2,none⟩ = false ∧ w.frozen? ⟨g,3,none⟩ = false ∧ w.frozen? ⟨g,4,none⟩ = false ∧ w.frozen? ⟨g,5,none⟩ = false ∧ w.frozen? ⟨g,6,none⟩ = false ∧ w.frozen? ⟨g,7,none⟩ = false ∧ w.frozen? ⟨g,8,none⟩ = false ∧ w.frozen? ⟨g,9,none⟩ = false := ⟨(zb h 0).trans rfl,(zb h 1).trans rfl,(zb h 2).trans rfl,(zb h 3).trans rfl,(zb h 4).trans rfl,(zb h 5).trans rfl,(zb h 6).trans rfl,(zb h 7).trans rfl,(zb h 8).trans rfl,(zb h 9).trans rfl,zc h 0,zc h 1,zc h 2,zc h 3,zc h 4,zc h 5,zc h 6,zc h 7,zc h 8,zc h 9⟩
theorem hcq2 {w : World} {g : Nat} {t : TypeId} {a0 a1 : Value} (h : w.heap[g]? = some (.cells #[a0,a1] t (0,0))) : w.cell? ⟨g,0,none⟩ = some a0 ∧ w.cell? ⟨g,1,none⟩ = some a1 ∧ w.frozen? ⟨g,0,none⟩ = false ∧ w.frozen? ⟨g,1,none⟩ = false := ⟨(zb h 0).trans rfl,(zb h 1).trans rfl,zc h 0,zc h 1⟩
theorem hcq2n {w : World} {g : Nat} {t : TypeId} {a0 a1 : Value} (h : w.heap[g]? = some (.cells #[a0,a1] t (0,0))) : w.cell? ⟨g,0,none⟩ = some a0 ∧ w.cell? ⟨g,1,none⟩ = some a1 := ⟨(zb h 0).trans rfl,(zb h 1).trans rfl⟩
theorem hcq3 {w : World} {g : Nat} {t : TypeId} {a0 a1 a2 : Value} (h : w.heap[g]? = some (.cells #[a0,a1,a2] t (0,0))) : w.cell? ⟨g,0,none⟩ = some a0 ∧ w.cell? ⟨g,1,none⟩ = some a1 ∧ w.cell? ⟨g,2,none⟩ = some a2 ∧ w.frozen? ⟨g,0,none⟩ = false ∧ w.frozen? ⟨g,1,none⟩ = false ∧ w.frozen? ⟨g,2,none⟩ = false := ⟨(zb h 0).trans rfl,(zb h 1).trans rfl,(zb h 2).trans rfl,zc h 0,zc h 1,zc h 2⟩
theorem hcq6 {w : World} {g : Nat} {t : TypeId} {a0 a1 a2 a3 a4 a5 : Value} (h : w.heap[g]? = some (.cells #[a0,a1,a2,a3,a4,a5] t (0,0))) : w.cell? ⟨g,0,none⟩ = some a0 ∧ w.cell? ⟨g,1,none⟩ = some a1 ∧ w.cell? ⟨g,2,none⟩ = some a2 ∧ w.cell? ⟨g,3,none⟩ = some a3 ∧ w.cell? ⟨g,4,none⟩ = some a4 ∧ w.cell? ⟨g,5,none⟩ = some a5 ∧ w.frozen? ⟨g,0,none⟩ = false ∧ w.frozen? ⟨g,1,none⟩ = false ∧ w.frozen? ⟨g,2,none⟩ = false ∧ w.frozen? ⟨g,3,none⟩ = false ∧ w.frozen? ⟨g,4,none⟩ = false ∧ w.frozen? ⟨g,5,none⟩ = false := ⟨(zb h 0).trans rfl,(zb h 1).trans rfl,(zb h 2).trans rfl,(zb h 3).trans rfl,(zb h 4).trans rfl,(zb h 5).trans rfl,zc h 0,zc h 1,zc h 2,zc h 3,zc h 4,zc h 5⟩
theorem hcq7 {w : World} {g : Nat} {t : TypeId} {a0 a1 a2 a3 a4 a5 a6 : Value} (h : w.heap[g]? = some (.cells #[a0,a1,a2,a3,a4,a5,a6] t (0,0))) : w.cell? ⟨g,0,none⟩ = some a0 ∧ w.cell? ⟨g,1,none⟩ = some a1 ∧ w.cell? ⟨g,2,none⟩ = some a2 ∧ w.cell? ⟨g,3,none⟩ = some a3 ∧ w.cell? ⟨g,4,none⟩ = some a4 ∧ w.cell? ⟨g,5,none⟩ = some a5 ∧ w.cell? ⟨g,6,none⟩ = some a6 ∧ w.frozen? ⟨g,0,none⟩ = false ∧ w.frozen? ⟨g,1,none⟩ = false ∧ w.frozen? ⟨g,2,none⟩ = false ∧ w.frozen? ⟨g,3,none⟩ = false ∧ w.frozen? ⟨g,4,none⟩ = false ∧ w.frozen? ⟨g,5,none⟩ = false ∧ w.frozen? ⟨g,6,none⟩ = false := ⟨(zb h 0).trans rfl,(zb h 1).trans rfl,(zb h 2).trans rfl,(zb h 3).trans rfl,(zb h 4).trans rfl,(zb h 5).trans rfl,(zb h 6).trans rfl,zc h 0,zc h 1,zc h 2,zc h 3,zc h 4,zc h 5,zc h 6⟩
theorem hGq {A_ B_ : Prop} (x_ : A_) (h_ : A_ → B_ := by intro x_;(with_reducible repeat (first | refine zX ?_ _ | refine zav ?_ | refine zaQ ?_ _));exact x_) : B_ := h_ x_
theorem hDq {B_ : Prop} (h_ : B_ := by first | rfl | (simp;done) | (simp [*];done)) : B_ := h_
theorem hEq {B_ : Prop} (h_ : B_ := by repeat (first | exact zaq.refl _ | apply zaq.step)) : B_ := h_
theorem hHq {B_ : Prop} (h_ : B_ := by first | rfl | (simp [zaR,zaS] <;> rfl) | (simp [*,zaR,zaS] <;> rfl)) : B_ := h_
theorem hFq {p_ : Prop} [Decidable p_] (h_ : decide p_ = true := by first | (with_reducible assumption) | assumption) : p_ := of_decide_eq_true h_
theorem hRq {A_ B_ : Prop} (x_ : A_) (h_ : A_ → B_ := by intro x_;(with_reducible repeat (first | apply Kd.R_alloc | apply Kd.R_drewN | apply Kd.R_drew));exact x_) : B_ := h_ x_
theorem hSq {A_ B_ : Prop} (x_ : A_) (h_ : A_ → B_ := by intro x_;(with_reducible repeat (first | apply Kd.S_alloc | apply Kd.S_drewN | apply Kd.S_drew));exact x_) : B_ := h_ x_
theorem hbq {w0 w w1 : World} {g : Nat} {o : Obj} (x_ : w0.heap[g]? = some o) (hb_ : Below w.heap.size w w1) (h_ : w0.heap[g]? = some o → w.heap[g]? = some o := by intro x_;(with_reducible repeat (first | refine zX ?_ _ | refine zav ?_ | refine zaQ ?_ _));exact x_) : w1.heap[g]? = some o := zx (h_ x_) hb_
theorem hnq {w0 w : World} {g q : Nat} {o : Obj} (hg_ : q = w.heap.size) (x_ : w0.heap[g]? = some o) (h_ : w0.heap[g]? = some o → w.heap[g]? = some o := by intro x_;(with_reducible repeat (first | refine zX ?_ _ | refine zav ?_ | refine zaQ ?_ _));exact x_) : g ≠ q := by rw [hg_];exact Nat.ne_of_lt (za6 (h_ x_))
theorem hmq {w0 w : World} {g q : Nat} {o : Obj} (hg_ : q = w.heap.size) (x_ : w0.heap[g]? = some o) (h_ : w0.heap[g]? = some o → w.heap[g]? = some o := by intro x_;(with_reducible repeat (first | refine zX ?_ _ | refine zav ?_ | refine zaQ ?_ _));exact x_) : q ≠ g := by rw [hg_];exact Nat.ne_of_gt (za6 (h_ x_))
theorem hfq {w1 W W' : World} {g q : Nat} {o : Obj} (hw_ : W' = W) (n_ : g ≠ q) (x_ : w1.heap[g]? = some o) (h_ : g ≠ q → w1.heap[g]? = some o → W.heap[g]? = some o := by intro n_ x_;(repeat (first | (with_reducible exact x_) | (with_reducible refine zX ?_ _) | (with_reducible refine zav ?_) | (with_reducible refine zaQ ?_ _) | refine zb6 ?_ n_ _))) : W'.heap[g]? = some o := by rw [hw_];exact h_ n_ x_
theorem hKq {A_ B_ : Prop} (x_ : A_) (h_ : A_ → B_ := by intro x_;repeat (first | exact x_ | (with_reducible refine Kd.C_alloc ?_ _) | (with_reducible refine Kd.C_drewN ?_ _) | (with_reducible refine Kd.C_drew ?_))) : B_ := h_ x_
theorem hMq {B_ : Prop} (h_ : B_ := by (try simp only [List.map_toArray,List.map_cons,List.map_nil]);first | done | rfl | (simp only [List.length_drop,List.length_take];rfl)) : B_ := h_
theorem hPq {a_ b_ : Act} (h_ : a_ = b_ := by simp only [Act.put,List.setIfInBounds_toArray,List.set_cons_zero,List.set_cons_succ,zaB,zaL];rfl) : a_ = b_ := h_
theorem puq {P : Program} {md : Region.Mode} {ops : Array Oper} {Q : Exit → Act → World → Prop} {S : World → Prop} {ds : List Nat} {T : Bool × List (List Nat × List Nat)} {i : Nat} {N : Option Tmp} {oi : Oper} {v : Value} {fuel : Nat} {l : Array Bool} {a a' : Act} {w : World} (hT_ : zbT md ops = T) (l' : Array Bool) (h_ : zU P md ops Q S ds fuel l' a' w) (hi_ : ops[i]? = some oi := by rfl) (hN_ : oi.dst = N := by rfl) (hc_ : ziI T l.toList l'.toList i = true := by kernel_rfl) (hQ_ : ∀ c a w,Q (.panic c) (a.put oi.dst v) w → Q (.panic c) a w := by exact fun _ _ _ h => h) (hw_ : Region.wanted oi (yielded ops a.tmps) = true := by rfl) (hy_ : ∀ w',(execOp a.eval oi).run P w' = .ok (.value v) w' := by intro w';go_simp;with_reducible rfl) (ha_ : a.put N v = a' := by simp only [Act.put,List.setIfInBounds_toArray,List.set_cons_zero,List.set_cons_succ,zaB,zaL];rfl) : zU P md ops Q S ds (fuel + 1) l a w := za4 l' hi_ hN_ (zbn hT_ hc_) hQ_ (Or.inl ⟨hw_,hy_⟩) ha_ h_
theorem hrq {A_ : Prop} (h_ : A_ := by first | (go_simp;done) | (go_simp;rfl)) : A_ := h_
def uQ (n k : Nat) : Array Bool := (List.replicate k true ++ List.replicate (n - k) false).toArray
theorem haq {A_ B_ : Prop} (a_ : A_) (b_ : B_) : za A_ ∧ B_ := ⟨⟨a_⟩,b_⟩
theorem hxq0p {A_ B_ : Prop} (x_ : A_) (h_ : A_ → B_ := by intro  x_;(repeat (first | (with_reducible exact x_) | (with_reducible refine zX ?_ _) | (with_reducible refine zav ?_) | (with_reducible refine zaQ ?_ _) | apply za7));all_goals first | (with_reducible rfl) | (simp only [List.setIfInBounds_toArray,List.set_cons_zero,List.set_cons_succ];done) | rfl) : B_ := h_ x_
theorem hxq1 {A_ B_ : Prop} {P0_ : Prop} (n0_ : P0_) (x_ : A_) (h_ : P0_ → A_ → B_ := by intro n0_ x_;(repeat (first | (with_reducible exact x_) | (with_reducible refine zX ?_ _) | (with_reducible refine zav ?_) | (with_reducible refine zaQ ?_ _) | refine zb6 ?_ n0_ _))) : B_ := h_ n0_ x_
def zbf.f (a0 : Int) : Option (Bool) := if a0 ≥ 1 then (some (decide (a0 ≤ 64))) else (some false)
set_option maxHeartbeats 8000000 in
set_option maxRecDepth 100000 in
theorem zbf.calls (a0 : Int) (r : Bool) (w : World) (h : zbf.f a0 = some r) :
  Calls Try.prog 78 #[.int .i64 a0] w fun e w' => e = .returned (.bool r) ∧ zaq w w' := by
 have H : (if a0 ≥ 1 then (some (decide (a0 ≤ 64))) else (some false)) = some r := h
 clear h
 by_cases c2 : a0 ≥ 1
 ·rw [if_pos c2] at H
  have c2b0 : decide (1 ≤ a0) = true := decide_eq_true c2
  clear c2
  obtain rfl := Option.some.inj H
  go_enter Try.func78,Try.ntmps78
  go_wp2
  go_ret
  exact ⟨hDq,hEq⟩
 ·rw [if_neg c2] at H
  have c2b0 : decide (1 ≤ a0) = false := decide_eq_false c2
  clear c2
  obtain rfl := Option.some.inj H
  go_enter Try.func78,Try.ntmps78
  go_wp2
  go_ret
  exact ⟨hDq,hEq⟩
def zbL.f (a0 : Int) (a1 : Int) : Option (Int × Int) := (zbf.f a1).bind fun t141 => (if t141 = true then (if 0 ≤ (wrap64 (a1 - 1)) then (some (Go.bits .or .u64 a0 (shl .u64 1 (wrap64 (a1 - 1))),0)) else (none)) else (some (0,1)))
set_option maxHeartbeats 8000000 in
set_option maxRecDepth 100000 in
theorem zbL.calls (a0 : Int) (a1 : Int) (r1 : Int) (r2 : Int) (w : World) (h : zbL.f a0 a1 = some (r1,r2)) :
  Calls Try.prog 59 #[.int .u64 a0,.int .i64 a1] w fun e w' => e = .returned (.tuple #[.int .u64 r1,.int .i64 r2]) ∧ zaq w w' := by
 have H : ((zbf.f a1).bind fun t141 => (if t141 = true then (if 0 ≤ (wrap64 (a1 - 1)) then (some (Go.bits .or .u64 a0 (shl .u64 1 (wrap64 (a1 - 1))),0)) else (none)) else (some (0,1)))) = some (r1,r2) := h
 clear h
 replace H := Option.bind_eq_some_iff.mp H
 obtain ⟨t141,A30,H⟩ := H
 replace H : (if t141 = true then (if 0 ≤ (wrap64 (a1 - 1)) then (some (Go.bits .or .u64 a0 (shl .u64 1 (wrap64 (a1 - 1))),0)) else (none)) else (some (0,1))) = some (r1,r2) := H
 have A3 := za.mk A30
 clear A30
 by_cases c4 : t141 = true
 ·subst c4
  have H1 : (if 0 ≤ (wrap64 (a1 - 1)) then (some (Go.bits .or .u64 a0 (shl .u64 1 (wrap64 (a1 - 1))),0)) else (none)) = some (r1,r2) := by rw [if_pos rfl] at H;exact H
  clear H
  have H := H1
  clear H1
  obtain ⟨ji5,hji5⟩ : ∃ j_ : Int,(wrap64 (a1 - 1)) = j_ := ⟨_,rfl⟩
  replace H : (if 0 ≤ (ji5) then (some (Go.bits .or .u64 a0 (shl .u64 1 (ji5)),0)) else (none)) = some (r1,r2) := by first | (rw [hji5] at H;exact H) | (simp only [hji5] at H ⊢;exact H)
  (try rw [hji5] at A3)
  have hji5w : (IntKind.i64.wrap (a1 - 1)) = ji5 := (zaB _).trans hji5
  by_cases c6 : 0 ≤ (ji5)
  ·rw [if_pos c6] at H
   have c6b0 := eq_true c6
   have c6b1 : decide (0 ≤ (ji5)) = true := decide_eq_true c6
   clear c6
   obtain ⟨ji7,hji7⟩ : ∃ j_ : Int,(shl .u64 1 (ji5)) = j_ := ⟨_,rfl⟩
   replace H : (some (Go.bits .or .u64 a0 (ji7),0)) = some (r1,r2) := by first | (rw [hji7] at H;exact H) | (simp only [hji7] at H ⊢;exact H)
   (try rw [hji7] at A3)
   have hji7_ : (IntKind.u64.wrap (1 * 2 ^ min (ji5).toNat 64)) = ji7 := hji7
   have hji7z : (ji5) ≤ 64 → (IntKind.u64.wrap (1 * 2 ^ (ji5).toNat)) = ji7 := zfP hji7
   have hji7u : (IntKind.u64.wrap (2 ^ min (ji5).toNat 64)) = ji7 := by have h_ := hji7_;rw [Int.one_mul] at h_;exact h_
   have hji7v : (ji5) ≤ 64 → (IntKind.u64.wrap (2 ^ (ji5).toNat)) = ji7 := fun hle_ => by have h_ := hji7z hle_;rw [Int.one_mul] at h_;exact h_
   simp only [Option.some.injEq,Prod.mk.injEq] at H
   obtain ⟨rfl,rfl⟩ := H
   go_enter Try.func59,Try.ntmps59
   go_wp2_with (first | ((with_reducible refine zv (f := 78) rfl ?_);refine zT (some 7) rfl rfl Try.func78 (by kernel_rfl) rfl #[.int .i64 a1] rfl hMq ?_;(with_reducible refine (zbf.calls a1 true _ A3.out).mono ?_);rintro e w' ⟨rfl,⟨nd,rfl⟩⟩;refine ⟨_,rfl,?_⟩))
   go_ret2
   exact ⟨by first | rfl | (simp;done) | (simp only [← hji5,← hji7] <;> (first | rfl | simp)) | (simp [*];done),hEq⟩
  ·rw [if_neg c6] at H
   exact absurd H (by simp)
 ·replace c4 := Bool.eq_false_iff.mpr c4
  subst c4
  have H1 : (some (0,1)) = some (r1,r2) := by rw [if_neg (show ¬ (false = true) by decide)] at H;exact H
  clear H
  have H := H1
  clear H1
  simp only [Option.some.injEq,Prod.mk.injEq] at H
  obtain ⟨rfl,rfl⟩ := H
  go_enter Try.func59,Try.ntmps59
  go_wp2_with (first | ((with_reducible refine zv (f := 78) rfl ?_);refine zT (some 7) rfl rfl Try.func78 (by kernel_rfl) rfl #[.int .i64 a1] rfl hMq ?_;(with_reducible refine (zbf.calls a1 false _ A3.out).mono ?_);rintro e w' ⟨rfl,⟨nd,rfl⟩⟩;refine ⟨_,rfl,?_⟩))
  go_ret2
  exact ⟨hDq,hEq⟩
def zaY.l0 : Nat → ByteArray → Int → List (S40) → Int → Int → Option (Int)
 | 0,_,_,_,_,_ => none
 | k + 1,x1,x5,x10,x11,x12 => if x12 < x11 then (if 0 ≤ x12 then (if x12 < (x10.length : Int) then (if ((zR x10 x12).f1).toList = x1.toList then ((zbL.f x5 ((zR x10 x12).f0)).bind fun bt144 => (if bt144.2 = 0 then (zaY.l0 k x1 bt144.1 x10 x11 (wrap64 (x12 + 1))) else (zaY.l0 k x1 x5 x10 x11 (wrap64 (x12 + 1))))) else (zaY.l0 k x1 x5 x10 x11 (wrap64 (x12 + 1)))) else (none)) else (none)) else (some x5)
def zaY.f (k : Nat) (l0 : List (S40)) (a1 : ByteArray) : Option (Int) := zaY.l0 k a1 0 l0 (l0.length : Int) 0
set_option maxHeartbeats 8000000 in
set_option maxRecDepth 100000 in
theorem zaY.calls (k : Nat) (A0 : Option Addr) (c0 : Nat) (l0 : List (S40)) (a1 : ByteArray) (r : Int) (w : World) (hr0 : Kd.C k40 w A0 l0.length l0) (hc0 : l0.length ≤ c0) (h : zaY.f k l0 a1 = some r) :
  Calls Try.prog 27 #[.slice A0 l0.length c0,.string a1] w fun e w' => e = .returned (.int .u64 r) ∧ Below w.heap.size w w' := by
 have hu40 := Try.underlying40
 have HR0 := za.mk hr0
 have HC0 := za.mk hc0
 clear hr0 hc0
 have HB := za.mk (Below.refl w.heap.size w)
 have H : (zaY.l0 k a1 0 l0 (l0.length : Int) 0) = some r := h
 clear h
 have H' := za.mk H
 clear H
 go_enter Try.func27,Try.ntmps27
 go_wp2
 go_loopg [5,12] k (fun kq v5 v12 w' => ∃ (x5_1 : Int) (x12_1 : Int),v5 = .int .u64 x5_1 ∧ v12 = .int .i64 x12_1 ∧ za (zaY.l0 kq a1 x5_1 l0 (l0.length : Int) x12_1 = some r) ∧ za (kq ≤ k) ∧ za (Below w.heap.size w w'))
 case atStart => exact ⟨(0),(0),(hDq),(hDq),H',⟨Nat.le_refl _⟩,⟨by repeat (first | (with_reducible first | exact HB.out | apply zw | apply zg | apply zn) | exact HB.out)⟩⟩
 case round =>
  clear H'
  try clear c2;try clear p2
  obtain ⟨x5_1,x12_1,rfl,rfl,HA,HK1,HB⟩ := hrel
  cases gk with
  | zero => exact absurd HA.out (by simp [zaY.l0])
  | succ k1 =>
   have H := HA.out
   clear HA
   simp only [zaY.l0] at H
   by_cases c3 : x12_1 < (l0.length : Int)
   ·rw [if_pos c3] at H
    have c3b0 : decide (x12_1 < (l0.length : Int)) = true := decide_eq_true c3
    clear c3
    by_cases c4 : 0 ≤ x12_1
    ·rw [if_pos c4] at H
     have c4b0 : decide (0 ≤ x12_1) = true := decide_eq_true c4
     clear c4
     by_cases c5 : x12_1 < (l0.length : Int)
     ·rw [if_pos c5] at H
      have c5b0 : decide (x12_1 < (l0.length : Int)) = true := decide_eq_true c5
      clear c5
      by_cases c6 : ((zR l0 x12_1).f1).toList = a1.toList
      ·rw [if_pos c6] at H
       have c6b0 : (((zR l0 x12_1).f1).toList == a1.toList) = true := beq_iff_eq.mpr c6
       have c6b1 : (((zR l0 x12_1).f1).toList != a1.toList) = false := bne_eq_false_iff_eq.mpr c6
       clear c6
       replace H := Option.bind_eq_some_iff.mp H
       obtain ⟨⟨t144,t145⟩,A70,H⟩ := H
       replace H : (if t145 = 0 then (zaY.l0 k1 a1 t144 l0 (l0.length : Int) (wrap64 (x12_1 + 1))) else (zaY.l0 k1 a1 x5_1 l0 (l0.length : Int) (wrap64 (x12_1 + 1)))) = some r := H
       have A7 := za.mk A70
       clear A70
       by_cases c8 : t145 = 0
       ·rw [if_pos c8] at H
        have c8b0 : (t145 == 0) = true := beq_iff_eq.mpr c8
        have c8b1 : (t145 != 0) = false := bne_eq_false_iff_eq.mpr c8
        clear c8
        have H' := za.mk H
        clear H
        have p142 : 0 ≤ (x12_1 : Int) := hFq
        have q142 : x12_1 < (l0.length : Int) := hFq
        obtain ⟨ad142,e142,hx142_0,hx142_1⟩ := zcy HR0.out x12_1 p142 q142
        cases e142
        replace hx142_0 := (HB.out.cell (World.block_lt_of_cell? w _ hx142_0)).trans hx142_0
        replace hx142_1 := (HB.out.cell (World.block_lt_of_cell? w _ hx142_1)).trans hx142_1
        replace p142 := eq_true p142
        replace q142 := eq_true q142
        go_wp2_with (first | ((with_reducible refine zo (N := 7) rfl ?_);refine zk rfl (N := 7) rfl (cs := #[.int .i64 0,.string (⟨#[]⟩ : ByteArray)]) (t := 40) hrq ?_;intro gb143 hg w9 hbox hb;have n_ := haq (zd hBq hb) <| haq (hbox) <| haq ((by rw [hg];exact (zf hBq) : w.heap.size ≤ gb143)) <| haq ((by rw [hg];exact (zf hBq) : w.heap.size ≤ gb143)) <| trivial;clear HB;obtain ⟨HB,BK143,GW143,GE143,_⟩ := n_;clear hb hbox hg;obtain ⟨hcz10_0,hcz10_1,hfz10_0,hfz10_1⟩ := hcq2 BK143.out) | ((with_reducible refine zv (f := 59) rfl ?_);refine zT (some 24) rfl rfl Try.func59 (by kernel_rfl) rfl #[.int .u64 x5_1,.int .i64 ((zR l0 x12_1).f0)] rfl hMq ?_;(with_reducible refine (zbL.calls x5_1 ((zR l0 x12_1).f0) t144 t145 _ A7.out).mono ?_);rintro e w' ⟨rfl,⟨nd,rfl⟩⟩;refine ⟨_,rfl,?_⟩))
        go_roundg k1
        case measure => have := HK1.out;omega
        case rel => exact ⟨(t144),(wrap64 (x12_1 + 1)),(hDq),(hDq),H',⟨by have := HK1.out;omega⟩,⟨by repeat (first | (with_reducible first | exact HB.out | apply zw | apply zg | apply zn | refine zE ?_ GE143.out) | exact HB.out)⟩⟩
       ·rw [if_neg c8] at H
        have c8b0 : (t145 == 0) = false := beq_eq_false_iff_ne.mpr c8
        have c8b1 : (t145 != 0) = true := bne_iff_ne.mpr c8
        have H' := za.mk H
        clear H
        have p142 : 0 ≤ (x12_1 : Int) := hFq
        have q142 : x12_1 < (l0.length : Int) := hFq
        obtain ⟨ad142,e142,hx142_0,hx142_1⟩ := zcy HR0.out x12_1 p142 q142
        cases e142
        replace hx142_0 := (HB.out.cell (World.block_lt_of_cell? w _ hx142_0)).trans hx142_0
        replace hx142_1 := (HB.out.cell (World.block_lt_of_cell? w _ hx142_1)).trans hx142_1
        replace p142 := eq_true p142
        replace q142 := eq_true q142
        go_wp2_with (first | ((with_reducible refine zo (N := 7) rfl ?_);refine zk rfl (N := 7) rfl (cs := #[.int .i64 0,.string (⟨#[]⟩ : ByteArray)]) (t := 40) hrq ?_;intro gb143 hg w11 hbox hb;have n_ := haq (zd hBq hb) <| haq (hbox) <| haq ((by rw [hg];exact (zf hBq) : w.heap.size ≤ gb143)) <| haq ((by rw [hg];exact (zf hBq) : w.heap.size ≤ gb143)) <| trivial;clear HB;obtain ⟨HB,BK143,GW143,GE143,_⟩ := n_;clear hb hbox hg;obtain ⟨hcz12_0,hcz12_1,hfz12_0,hfz12_1⟩ := hcq2 BK143.out) | ((with_reducible refine zv (f := 59) rfl ?_);refine zT (some 24) rfl rfl Try.func59 (by kernel_rfl) rfl #[.int .u64 x5_1,.int .i64 ((zR l0 x12_1).f0)] rfl hMq ?_;(with_reducible refine (zbL.calls x5_1 ((zR l0 x12_1).f0) t144 t145 _ A7.out).mono ?_);rintro e w' ⟨rfl,⟨nd,rfl⟩⟩;refine ⟨_,rfl,?_⟩))
        go_roundg k1
        case measure => have := HK1.out;omega
        case rel => exact ⟨(x5_1),(wrap64 (x12_1 + 1)),(hDq),(hDq),H',⟨by have := HK1.out;omega⟩,⟨by repeat (first | (with_reducible first | exact HB.out | apply zw | apply zg | apply zn | refine zE ?_ GE143.out) | exact HB.out)⟩⟩
      ·rw [if_neg c6] at H
       have c6b0 : (((zR l0 x12_1).f1).toList == a1.toList) = false := beq_eq_false_iff_ne.mpr c6
       have c6b1 : (((zR l0 x12_1).f1).toList != a1.toList) = true := bne_iff_ne.mpr c6
       have H' := za.mk H
       clear H
       have p142 : 0 ≤ (x12_1 : Int) := hFq
       have q142 : x12_1 < (l0.length : Int) := hFq
       obtain ⟨ad142,e142,hx142_0,hx142_1⟩ := zcy HR0.out x12_1 p142 q142
       cases e142
       replace hx142_0 := (HB.out.cell (World.block_lt_of_cell? w _ hx142_0)).trans hx142_0
       replace hx142_1 := (HB.out.cell (World.block_lt_of_cell? w _ hx142_1)).trans hx142_1
       replace p142 := eq_true p142
       replace q142 := eq_true q142
       go_wp2_with (first | ((with_reducible refine zo (N := 7) rfl ?_);refine zk rfl (N := 7) rfl (cs := #[.int .i64 0,.string (⟨#[]⟩ : ByteArray)]) (t := 40) hrq ?_;intro gb143 hg w13 hbox hb;have n_ := haq (zd hBq hb) <| haq (hbox) <| haq ((by rw [hg];exact (zf hBq) : w.heap.size ≤ gb143)) <| haq ((by rw [hg];exact (zf hBq) : w.heap.size ≤ gb143)) <| trivial;clear HB;obtain ⟨HB,BK143,GW143,GE143,_⟩ := n_;clear hb hbox hg;obtain ⟨hcz14_0,hcz14_1,hfz14_0,hfz14_1⟩ := hcq2 BK143.out))
       go_roundg k1
       case measure => have := HK1.out;omega
       case rel => exact ⟨(x5_1),(wrap64 (x12_1 + 1)),(hDq),(hDq),H',⟨by have := HK1.out;omega⟩,⟨by repeat (first | (with_reducible first | exact HB.out | apply zw | apply zg | apply zn | refine zE ?_ GE143.out) | exact HB.out)⟩⟩
     ·rw [if_neg c5] at H
      exact absurd H (by simp)
    ·rw [if_neg c4] at H
     exact absurd H (by simp)
   ·rw [if_neg c3] at H
    have c3b0 : decide (x12_1 < (l0.length : Int)) = false := decide_eq_false c3
    clear c3
    obtain rfl := Option.some.inj H
    go_wp2
    go_ret
    exact ⟨hHq,hBq⟩
def zby.f (k : Nat) (l0 : List (S40)) (a1 : Int) (a2 : ByteArray) : Option (Bool) := (zaY.f k l0 a2).bind fun t146 => (some ((Go.bits .andNot .u64 a1 t146) == 0))
set_option maxHeartbeats 8000000 in
set_option maxRecDepth 100000 in
theorem zby.calls (k : Nat) (A0 : Option Addr) (c0 : Nat) (l0 : List (S40)) (a1 : Int) (a2 : ByteArray) (r : Bool) (w : World) (hr0 : Kd.C k40 w A0 l0.length l0) (hc0 : l0.length ≤ c0) (h : zby.f k l0 a1 a2 = some r) :
  Calls Try.prog 12 #[.slice A0 l0.length c0,.int .u64 a1,.string a2] w fun e w' => e = .returned (.bool r) ∧ Below w.heap.size w w' := by
 have HR0 := za.mk hr0
 have HC0 := za.mk hc0
 clear hr0 hc0
 have HB := za.mk (Below.refl w.heap.size w)
 have H : ((zaY.f k l0 a2).bind fun t146 => (some ((Go.bits .andNot .u64 a1 t146) == 0))) = some r := h
 clear h
 replace H := Option.bind_eq_some_iff.mp H
 obtain ⟨t146,A40,H⟩ := H
 replace H : (some ((Go.bits .andNot .u64 a1 t146) == 0)) = some r := H
 have A4 := za.mk A40
 clear A40
 obtain rfl := Option.some.inj H
 go_enter Try.func12,Try.ntmps12
 go_wp2_with (first | ((with_reducible refine zv (f := 27) rfl ?_);refine zT (some 10) rfl rfl Try.func27 (by kernel_rfl) rfl #[.slice A0 l0.length c0,.string a2] rfl hMq ?_;(with_reducible refine (zaY.calls k _ _ l0 a2 t146 _ ?side1 ?side2 A4.out).mono ?_);(case side1 => exact hKq HR0.out);(case side2 => exact HC0.out);rintro e w5 ⟨rfl,hb⟩;refine ⟨_,rfl,?_⟩;have n_ := haq (zd hBq hb) <| trivial;clear HB;obtain ⟨HB,_⟩ := n_;(try clear hb);(try clear hb2);(try clear hk);(try clear hi)))
 go_ret
 exact ⟨hHq,hBq⟩
def zaI.f (a0 : Int) : Option (Int) := some (Go.bits .and .i64 (wrap64 (IntKind.u64.wrap ((IntKind.u64.wrap ((IntKind.u64.wrap ((Go.bits .and .u64 (IntKind.u64.wrap (((IntKind.u64.wrap ((Go.bits .and .u64 ((IntKind.u64.wrap ((Go.bits .and .u64 (a0 / 2) 6148914691236517205) + (Go.bits .and .u64 a0 6148914691236517205))) / 4) 3689348814741910323) + (Go.bits .and .u64 (IntKind.u64.wrap ((Go.bits .and .u64 (a0 / 2) 6148914691236517205) + (Go.bits .and .u64 a0 6148914691236517205))) 3689348814741910323))) / 16) + (IntKind.u64.wrap ((Go.bits .and .u64 ((IntKind.u64.wrap ((Go.bits .and .u64 (a0 / 2) 6148914691236517205) + (Go.bits .and .u64 a0 6148914691236517205))) / 4) 3689348814741910323) + (Go.bits .and .u64 (IntKind.u64.wrap ((Go.bits .and .u64 (a0 / 2) 6148914691236517205) + (Go.bits .and .u64 a0 6148914691236517205))) 3689348814741910323))))) 1085102592571150095) + ((Go.bits .and .u64 (IntKind.u64.wrap (((IntKind.u64.wrap ((Go.bits .and .u64 ((IntKind.u64.wrap ((Go.bits .and .u64 (a0 / 2) 6148914691236517205) + (Go.bits .and .u64 a0 6148914691236517205))) / 4) 3689348814741910323) + (Go.bits .and .u64 (IntKind.u64.wrap ((Go.bits .and .u64 (a0 / 2) 6148914691236517205) + (Go.bits .and .u64 a0 6148914691236517205))) 3689348814741910323))) / 16) + (IntKind.u64.wrap ((Go.bits .and .u64 ((IntKind.u64.wrap ((Go.bits .and .u64 (a0 / 2) 6148914691236517205) + (Go.bits .and .u64 a0 6148914691236517205))) / 4) 3689348814741910323) + (Go.bits .and .u64 (IntKind.u64.wrap ((Go.bits .and .u64 (a0 / 2) 6148914691236517205) + (Go.bits .and .u64 a0 6148914691236517205))) 3689348814741910323))))) 1085102592571150095) / 256))) + ((IntKind.u64.wrap ((Go.bits .and .u64 (IntKind.u64.wrap (((IntKind.u64.wrap ((Go.bits .and .u64 ((IntKind.u64.wrap ((Go.bits .and .u64 (a0 / 2) 6148914691236517205) + (Go.bits .and .u64 a0 6148914691236517205))) / 4) 3689348814741910323) + (Go.bits .and .u64 (IntKind.u64.wrap ((Go.bits .and .u64 (a0 / 2) 6148914691236517205) + (Go.bits .and .u64 a0 6148914691236517205))) 3689348814741910323))) / 16) + (IntKind.u64.wrap ((Go.bits .and .u64 ((IntKind.u64.wrap ((Go.bits .and .u64 (a0 / 2) 6148914691236517205) + (Go.bits .and .u64 a0 6148914691236517205))) / 4) 3689348814741910323) + (Go.bits .and .u64 (IntKind.u64.wrap ((Go.bits .and .u64 (a0 / 2) 6148914691236517205) + (Go.bits .and .u64 a0 6148914691236517205))) 3689348814741910323))))) 1085102592571150095) + ((Go.bits .and .u64 (IntKind.u64.wrap (((IntKind.u64.wrap ((Go.bits .and .u64 ((IntKind.u64.wrap ((Go.bits .and .u64 (a0 / 2) 6148914691236517205) + (Go.bits .and .u64 a0 6148914691236517205))) / 4) 3689348814741910323) + (Go.bits .and .u64 (IntKind.u64.wrap ((Go.bits .and .u64 (a0 / 2) 6148914691236517205) + (Go.bits .and .u64 a0 6148914691236517205))) 3689348814741910323))) / 16) + (IntKind.u64.wrap ((Go.bits .and .u64 ((IntKind.u64.wrap ((Go.bits .and .u64 (a0 / 2) 6148914691236517205) + (Go.bits .and .u64 a0 6148914691236517205))) / 4) 3689348814741910323) + (Go.bits .and .u64 (IntKind.u64.wrap ((Go.bits .and .u64 (a0 / 2) 6148914691236517205) + (Go.bits .and .u64 a0 6148914691236517205))) 3689348814741910323))))) 1085102592571150095) / 256))) / 65536))) + ((IntKind.u64.wrap ((IntKind.u64.wrap ((Go.bits .and .u64 (IntKind.u64.wrap (((IntKind.u64.wrap ((Go.bits .and .u64 ((IntKind.u64.wrap ((Go.bits .and .u64 (a0 / 2) 6148914691236517205) + (Go.bits .and .u64 a0 6148914691236517205))) / 4) 3689348814741910323) + (Go.bits .and .u64 (IntKind.u64.wrap ((Go.bits .and .u64 (a0 / 2) 6148914691236517205) + (Go.bits .and .u64 a0 6148914691236517205))) 3689348814741910323))) / 16) + (IntKind.u64.wrap ((Go.bits .and .u64 ((IntKind.u64.wrap ((Go.bits .and .u64 (a0 / 2) 6148914691236517205) + (Go.bits .and .u64 a0 6148914691236517205))) / 4) 3689348814741910323) + (Go.bits .and .u64 (IntKind.u64.wrap ((Go.bits .and .u64 (a0 / 2) 6148914691236517205) + (Go.bits .and .u64 a0 6148914691236517205))) 3689348814741910323))))) 1085102592571150095) + ((Go.bits .and .u64 (IntKind.u64.wrap (((IntKind.u64.wrap ((Go.bits .and .u64 ((IntKind.u64.wrap ((Go.bits .and .u64 (a0 / 2) 6148914691236517205) + (Go.bits .and .u64 a0 6148914691236517205))) / 4) 3689348814741910323) + (Go.bits .and .u64 (IntKind.u64.wrap ((Go.bits .and .u64 (a0 / 2) 6148914691236517205) + (Go.bits .and .u64 a0 6148914691236517205))) 3689348814741910323))) / 16) + (IntKind.u64.wrap ((Go.bits .and .u64 ((IntKind.u64.wrap ((Go.bits .and .u64 (a0 / 2) 6148914691236517205) + (Go.bits .and .u64 a0 6148914691236517205))) / 4) 3689348814741910323) + (Go.bits .and .u64 (IntKind.u64.wrap ((Go.bits .and .u64 (a0 / 2) 6148914691236517205) + (Go.bits .and .u64 a0 6148914691236517205))) 3689348814741910323))))) 1085102592571150095) / 256))) + ((IntKind.u64.wrap ((Go.bits .and .u64 (IntKind.u64.wrap (((IntKind.u64.wrap ((Go.bits .and .u64 ((IntKind.u64.wrap ((Go.bits .and .u64 (a0 / 2) 6148914691236517205) + (Go.bits .and .u64 a0 6148914691236517205))) / 4) 3689348814741910323) + (Go.bits .and .u64 (IntKind.u64.wrap ((Go.bits .and .u64 (a0 / 2) 6148914691236517205) + (Go.bits .and .u64 a0 6148914691236517205))) 3689348814741910323))) / 16) + (IntKind.u64.wrap ((Go.bits .and .u64 ((IntKind.u64.wrap ((Go.bits .and .u64 (a0 / 2) 6148914691236517205) + (Go.bits .and .u64 a0 6148914691236517205))) / 4) 3689348814741910323) + (Go.bits .and .u64 (IntKind.u64.wrap ((Go.bits .and .u64 (a0 / 2) 6148914691236517205) + (Go.bits .and .u64 a0 6148914691236517205))) 3689348814741910323))))) 1085102592571150095) + ((Go.bits .and .u64 (IntKind.u64.wrap (((IntKind.u64.wrap ((Go.bits .and .u64 ((IntKind.u64.wrap ((Go.bits .and .u64 (a0 / 2) 6148914691236517205) + (Go.bits .and .u64 a0 6148914691236517205))) / 4) 3689348814741910323) + (Go.bits .and .u64 (IntKind.u64.wrap ((Go.bits .and .u64 (a0 / 2) 6148914691236517205) + (Go.bits .and .u64 a0 6148914691236517205))) 3689348814741910323))) / 16) + (IntKind.u64.wrap ((Go.bits .and .u64 ((IntKind.u64.wrap ((Go.bits .and .u64 (a0 / 2) 6148914691236517205) + (Go.bits .and .u64 a0 6148914691236517205))) / 4) 3689348814741910323) + (Go.bits .and .u64 (IntKind.u64.wrap ((Go.bits .and .u64 (a0 / 2) 6148914691236517205) + (Go.bits .and .u64 a0 6148914691236517205))) 3689348814741910323))))) 1085102592571150095) / 256))) / 65536))) / 4294967296)))) 127)
set_option maxHeartbeats 8000000 in
set_option maxRecDepth 100000 in
theorem zaI.calls (a0 : Int) (r : Int) (w : World) (h : zaI.f a0 = some r) :
  Calls Try.prog 47 #[.int .u64 a0] w fun e w' => e = .returned (.int .i64 r) ∧ zaq w w' := by
 have H : (some (Go.bits .and .i64 (wrap64 (IntKind.u64.wrap ((IntKind.u64.wrap ((IntKind.u64.wrap ((Go.bits .and .u64 (IntKind.u64.wrap (((IntKind.u64.wrap ((Go.bits .and .u64 ((IntKind.u64.wrap ((Go.bits .and .u64 (a0 / 2) 6148914691236517205) + (Go.bits .and .u64 a0 6148914691236517205))) / 4) 3689348814741910323) + (Go.bits .and .u64 (IntKind.u64.wrap ((Go.bits .and .u64 (a0 / 2) 6148914691236517205) + (Go.bits .and .u64 a0 6148914691236517205))) 3689348814741910323))) / 16) + (IntKind.u64.wrap ((Go.bits .and .u64 ((IntKind.u64.wrap ((Go.bits .and .u64 (a0 / 2) 6148914691236517205) + (Go.bits .and .u64 a0 6148914691236517205))) / 4) 3689348814741910323) + (Go.bits .and .u64 (IntKind.u64.wrap ((Go.bits .and .u64 (a0 / 2) 6148914691236517205) + (Go.bits .and .u64 a0 6148914691236517205))) 3689348814741910323))))) 1085102592571150095) + ((Go.bits .and .u64 (IntKind.u64.wrap (((IntKind.u64.wrap ((Go.bits .and .u64 ((IntKind.u64.wrap ((Go.bits .and .u64 (a0 / 2) 6148914691236517205) + (Go.bits .and .u64 a0 6148914691236517205))) / 4) 3689348814741910323) + (Go.bits .and .u64 (IntKind.u64.wrap ((Go.bits .and .u64 (a0 / 2) 6148914691236517205) + (Go.bits .and .u64 a0 6148914691236517205))) 3689348814741910323))) / 16) + (IntKind.u64.wrap ((Go.bits .and .u64 ((IntKind.u64.wrap ((Go.bits .and .u64 (a0 / 2) 6148914691236517205) + (Go.bits .and .u64 a0 6148914691236517205))) / 4) 3689348814741910323) + (Go.bits .and .u64 (IntKind.u64.wrap ((Go.bits .and .u64 (a0 / 2) 6148914691236517205) + (Go.bits .and .u64 a0 6148914691236517205))) 3689348814741910323))))) 1085102592571150095) / 256))) + ((IntKind.u64.wrap ((Go.bits .and .u64 (IntKind.u64.wrap (((IntKind.u64.wrap ((Go.bits .and .u64 ((IntKind.u64.wrap ((Go.bits .and .u64 (a0 / 2) 6148914691236517205) + (Go.bits .and .u64 a0 6148914691236517205))) / 4) 3689348814741910323) + (Go.bits .and .u64 (IntKind.u64.wrap ((Go.bits .and .u64 (a0 / 2) 6148914691236517205) + (Go.bits .and .u64 a0 6148914691236517205))) 3689348814741910323))) / 16) + (IntKind.u64.wrap ((Go.bits .and .u64 ((IntKind.u64.wrap ((Go.bits .and .u64 (a0 / 2) 6148914691236517205) + (Go.bits .and .u64 a0 6148914691236517205))) / 4) 3689348814741910323) + (Go.bits .and .u64 (IntKind.u64.wrap ((Go.bits .and .u64 (a0 / 2) 6148914691236517205) + (Go.bits .and .u64 a0 6148914691236517205))) 3689348814741910323))))) 1085102592571150095) + ((Go.bits .and .u64 (IntKind.u64.wrap (((IntKind.u64.wrap ((Go.bits .and .u64 ((IntKind.u64.wrap ((Go.bits .and .u64 (a0 / 2) 6148914691236517205) + (Go.bits .and .u64 a0 6148914691236517205))) / 4) 3689348814741910323) + (Go.bits .and .u64 (IntKind.u64.wrap ((Go.bits .and .u64 (a0 / 2) 6148914691236517205) + (Go.bits .and .u64 a0 6148914691236517205))) 3689348814741910323))) / 16) + (IntKind.u64.wrap ((Go.bits .and .u64 ((IntKind.u64.wrap ((Go.bits .and .u64 (a0 / 2) 6148914691236517205) + (Go.bits .and .u64 a0 6148914691236517205))) / 4) 3689348814741910323) + (Go.bits .and .u64 (IntKind.u64.wrap ((Go.bits .and .u64 (a0 / 2) 6148914691236517205) + (Go.bits .and .u64 a0 6148914691236517205))) 3689348814741910323))))) 1085102592571150095) / 256))) / 65536))) + ((IntKind.u64.wrap ((IntKind.u64.wrap ((Go.bits .and .u64 (IntKind.u64.wrap (((IntKind.u64.wrap ((Go.bits .and .u64 ((IntKind.u64.wrap ((Go.bits .and .u64 (a0 / 2) 6148914691236517205) + (Go.bits .and .u64 a0 6148914691236517205))) / 4) 3689348814741910323) + (Go.bits .and .u64 (IntKind.u64.wrap ((Go.bits .and .u64 (a0 / 2) 6148914691236517205) + (Go.bits .and .u64 a0 6148914691236517205))) 3689348814741910323))) / 16) + (IntKind.u64.wrap ((Go.bits .and .u64 ((IntKind.u64.wrap ((Go.bits .and .u64 (a0 / 2) 6148914691236517205) + (Go.bits .and .u64 a0 6148914691236517205))) / 4) 3689348814741910323) + (Go.bits .and .u64 (IntKind.u64.wrap ((Go.bits .and .u64 (a0 / 2) 6148914691236517205) + (Go.bits .and .u64 a0 6148914691236517205))) 3689348814741910323))))) 1085102592571150095) + ((Go.bits .and .u64 (IntKind.u64.wrap (((IntKind.u64.wrap ((Go.bits .and .u64 ((IntKind.u64.wrap ((Go.bits .and .u64 (a0 / 2) 6148914691236517205) + (Go.bits .and .u64 a0 6148914691236517205))) / 4) 3689348814741910323) + (Go.bits .and .u64 (IntKind.u64.wrap ((Go.bits .and .u64 (a0 / 2) 6148914691236517205) + (Go.bits .and .u64 a0 6148914691236517205))) 3689348814741910323))) / 16) + (IntKind.u64.wrap ((Go.bits .and .u64 ((IntKind.u64.wrap ((Go.bits .and .u64 (a0 / 2) 6148914691236517205) + (Go.bits .and .u64 a0 6148914691236517205))) / 4) 3689348814741910323) + (Go.bits .and .u64 (IntKind.u64.wrap ((Go.bits .and .u64 (a0 / 2) 6148914691236517205) + (Go.bits .and .u64 a0 6148914691236517205))) 3689348814741910323))))) 1085102592571150095) / 256))) + ((IntKind.u64.wrap ((Go.bits .and .u64 (IntKind.u64.wrap (((IntKind.u64.wrap ((Go.bits .and .u64 ((IntKind.u64.wrap ((Go.bits .and .u64 (a0 / 2) 6148914691236517205) + (Go.bits .and .u64 a0 6148914691236517205))) / 4) 3689348814741910323) + (Go.bits .and .u64 (IntKind.u64.wrap ((Go.bits .and .u64 (a0 / 2) 6148914691236517205) + (Go.bits .and .u64 a0 6148914691236517205))) 3689348814741910323))) / 16) + (IntKind.u64.wrap ((Go.bits .and .u64 ((IntKind.u64.wrap ((Go.bits .and .u64 (a0 / 2) 6148914691236517205) + (Go.bits .and .u64 a0 6148914691236517205))) / 4) 3689348814741910323) + (Go.bits .and .u64 (IntKind.u64.wrap ((Go.bits .and .u64 (a0 / 2) 6148914691236517205) + (Go.bits .and .u64 a0 6148914691236517205))) 3689348814741910323))))) 1085102592571150095) + ((Go.bits .and .u64 (IntKind.u64.wrap (((IntKind.u64.wrap ((Go.bits .and .u64 ((IntKind.u64.wrap ((Go.bits .and .u64 (a0 / 2) 6148914691236517205) + (Go.bits .and .u64 a0 6148914691236517205))) / 4) 3689348814741910323) + (Go.bits .and .u64 (IntKind.u64.wrap ((Go.bits .and .u64 (a0 / 2) 6148914691236517205) + (Go.bits .and .u64 a0 6148914691236517205))) 3689348814741910323))) / 16) + (IntKind.u64.wrap ((Go.bits .and .u64 ((IntKind.u64.wrap ((Go.bits .and .u64 (a0 / 2) 6148914691236517205) + (Go.bits .and .u64 a0 6148914691236517205))) / 4) 3689348814741910323) + (Go.bits .and .u64 (IntKind.u64.wrap ((Go.bits .and .u64 (a0 / 2) 6148914691236517205) + (Go.bits .and .u64 a0 6148914691236517205))) 3689348814741910323))))) 1085102592571150095) / 256))) / 65536))) / 4294967296)))) 127)) = some r := h
 clear h
 obtain rfl := Option.some.inj H
 go_enter Try.func47,Try.ntmps47
 go_wp2
 go_ret
 exact ⟨hDq,hEq⟩
end Go.Proofs.Ytcncoepijagadaa.Px