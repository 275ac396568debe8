/- Part 4 of 35 of the proof of the law CertBytes: what is proved is the statement at the end of the last part; its conditions are those of the given row. -/
import Derived.Test.YtfhbeonhnhjikaaGreatProg
import Derived.WalkLawsBesides
import Derived.Test.YtfhbeonhnhjikaaGreatZCertBytesC
namespace Go.Proofs.YtfhbeonhnhjikaaGreat.Px
open Go.RowKit Go.Proofs.YtfhbeonhnhjikaaGreatW.PrintWords Go.Proofs.YtfhbeonhnhjikaaGreatW.PrintLast Go.Proofs.YtfhbeonhnhjikaaGreatW.PrintMore
attribute [local go_sem] zz zB zI zJ zp zq zA zC
set_option linter.unusedVariables false
set_option linter.unusedSimpArgs false
theorem hBq {B_ : Nat} {w_ w_' : World} (h_ : Below B_ w_ w_' := by repeat (first | (with_reducible first | exact HB.out | apply zk | apply zf | apply zm) | exact HB.out)) : Below B_ w_ w_' := h_
theorem hCq {B_ : Nat} {w_ w_' : World} (h_ : Below B_ w_ w_' := by repeat (first | (with_reducible first | exact HB.out | apply zk | apply zf | apply zm | refine zw ?_ (za.out (by with_reducible assumption))) | exact HB.out)) : Below B_ w_ w_' := h_
def errW : Option Int → Value
 | none => .nilIface
 | some c => .iface 0 (.int .i64 c)
theorem zbm : errW none = .nilIface := rfl
theorem zbn (c : Int) : errW (some c) = .iface 0 (.int .i64 c) := rfl
theorem info3 : (Tryz.prog.info? 3).map (fun i => (i.zero,i.size,i.bytes)) = some (some (.int .i64 0),1,8) := by kernel_rfl
theorem info9 : (Tryz.prog.info? 9).map (fun i => (i.zero,i.size,i.bytes)) = some (some (.string ⟨#[]⟩),1,16) := by kernel_rfl
theorem info73 : (Tryz.prog.info? 73).map (fun i => (i.zero,i.size,i.bytes)) = some (some (.agg #[(.int .i64 0),(.int .i64 0),(.slice none 0 0)]),3,40) := by kernel_rfl
structure S73 where
 f0 : Int
 f1 : Int
 f2 : (List ByteArray)
def z73 : S73 := ⟨(0 : Int),(0 : Int),([] : List ByteArray)⟩
def k73 : Kd S73 := Kd.iso (Kd.pair (Kd.int .i64) (Kd.pair (Kd.int .i64) (Kd.slice 9 Kd.string))) (fun x : S73 => (x.f0,x.f1,x.f2))
theorem k73_open {w : World} {x : S73} {cs : List Value} (h : k73.K w x cs) : ∃ A2 c2,cs = [.int .i64 x.f0,.int .i64 x.f1,.slice A2 x.f2.length c2] ∧ x.f2.length ≤ c2 ∧ Kd.string.C w A2 x.f2.length x.f2 := by
 obtain ⟨_,_,rfl,rfl,⟨_,_,rfl,rfl,⟨A2,c2,rfl,l2,g2⟩⟩⟩ := h
 exact ⟨A2,c2,rfl,l2,g2⟩
theorem k73_mkM (w : World) (base : Nat) (ok : Nat → Prop) (x : S73) {v2 : Value} (g2 : Kd.string.R 9 w base ok v2 x.f2) : k73.M w base ok x [.int .i64 x.f0,.int .i64 x.f1,v2] := ⟨[.int .i64 x.f0],[.int .i64 x.f1,v2],rfl,rfl,⟨[.int .i64 x.f1],[v2],rfl,rfl,⟨v2,rfl,g2⟩⟩⟩
def zW (xs : List S73) (i : Int) : S73 := xs.getD i.toNat z73
theorem zcf {w : World} {A : Option Addr} {n : Nat} {xs : List S73} (h : Kd.C k73 w A n xs) (i : Int) (h0 : 0 ≤ i) (h1 : i < n) : ∃ ad A2 c2,A = some ad ∧ w.cell? (ad.add (i.toNat * 3)) = some (.int .i64 (zW xs i).f0) ∧ w.cell? ⟨(ad.add (i.toNat * 3)).block,(ad.add (i.toNat * 3)).off + 1,none⟩ = some (.int .i64 (zW xs i).f1) ∧ w.cell? ⟨(ad.add (i.toNat * 3)).block,(ad.add (i.toNat * 3)).off + 2,none⟩ = some (.slice A2 (zW xs i).f2.length c2) ∧ (zW xs i).f2.length ≤ c2 ∧ Kd.string.C w A2 (zW xs i).f2.length (zW xs i).f2 := by
 obtain ⟨ad,c,e,_,hK,hc0⟩ := Kd.C_get h z73 i h0 h1
 have hc : ∀ j u,c[j]? = some u → w.cell? (ad.add (i.toNat * 3 + j)) = some u := hc0
 obtain ⟨A2,c2,rfl,l2,g2⟩ := k73_open hK
 exact ⟨ad,A2,c2,e,hc 0 _ rfl,by rw [← zfl _ _ 1 (by omega)];exact hc 1 _ rfl,by rw [← zfl _ _ 2 (by omega)];exact hc 2 _ rfl,l2,g2⟩
structure S25 where
 f0 : Int
 f1 : Int
def z25 : S25 := ⟨(0 : Int),(0 : Int)⟩
def k25 : Kd S25 := Kd.iso (Kd.pair (Kd.int .i64) (Kd.int .i64)) (fun x : S25 => (x.f0,x.f1))
theorem k25_open {w : World} {x : S25} {cs : List Value} (h : k25.K w x cs) : cs = [.int .i64 x.f0,.int .i64 x.f1] := by
 obtain ⟨_,_,rfl,rfl,rfl⟩ := h
 exact rfl
structure S27 where
 f0 : Int
 f1 : Int
 f2 : (List S73)
 f3 : (List ByteArray)
 f4 : S25
def z27 : S27 := ⟨(0 : Int),(0 : Int),([] : List S73),([] : List ByteArray),z25⟩
def k27 : Kd S27 := Kd.iso (Kd.pair (Kd.int .i64) (Kd.pair (Kd.int .i64) (Kd.pair (Kd.slice 73 k73) (Kd.pair (Kd.slice 9 Kd.string) k25)))) (fun x : S27 => (x.f0,x.f1,x.f2,x.f3,x.f4))
theorem k27_open {w : World} {x : S27} {cs : List Value} (h : k27.K w x cs) : ∃ A2 c2 A3 c3,cs = [.int .i64 x.f0,.int .i64 x.f1,.slice A2 x.f2.length c2,.slice A3 x.f3.length c3,.int .i64 x.f4.f0,.int .i64 x.f4.f1] ∧ x.f2.length ≤ c2 ∧ k73.C w A2 x.f2.length x.f2 ∧ x.f3.length ≤ c3 ∧ Kd.string.C w A3 x.f3.length x.f3 := by
 obtain ⟨_,_,rfl,rfl,⟨_,_,rfl,rfl,⟨_,_,rfl,⟨A2,c2,rfl,l2,g2⟩,⟨_,_,rfl,⟨A3,c3,rfl,l3,g3⟩,s4⟩⟩⟩⟩ := h
 obtain rfl := k25_open s4
 exact ⟨A2,c2,A3,c3,rfl,l2,g2,l3,g3⟩
structure S45 where
 f0 : Int
 f1 : ByteArray
def z45 : S45 := ⟨(0 : Int),(⟨#[]⟩ : ByteArray)⟩
def k45 : Kd S45 := Kd.iso (Kd.pair (Kd.int .i64) Kd.string) (fun x : S45 => (x.f0,x.f1))
theorem k45_open {w : World} {x : S45} {cs : List Value} (h : k45.K w x cs) : cs = [.int .i64 x.f0,.string x.f1] := by
 obtain ⟨_,_,rfl,rfl,rfl⟩ := h
 exact rfl
theorem zhT (w : World) (base : Nat) (ok : Nat → Prop) (x : S45)  : k45.M w base ok x [.int .i64 x.f0,.string x.f1] := ⟨[.int .i64 x.f0],[.string x.f1],rfl,rfl,rfl⟩
def zcC (xs : List S45) (i : Int) : S45 := xs.getD i.toNat z45
theorem ziR {w : World} {A : Option Addr} {n : Nat} {xs : List S45} (h : Kd.C k45 w A n xs) (i : Int) (h0 : 0 ≤ i) (h1 : i < n) : ∃ ad ,A = some ad ∧ w.cell? (ad.add (i.toNat * 2)) = some (.int .i64 (zcC xs i).f0) ∧ w.cell? ⟨(ad.add (i.toNat * 2)).block,(ad.add (i.toNat * 2)).off + 1,none⟩ = some (.string (zcC xs i).f1) := by
 obtain ⟨ad,c,e,_,hK,hc0⟩ := Kd.C_get h z45 i h0 h1
 have hc : ∀ j u,c[j]? = some u → w.cell? (ad.add (i.toNat * 2 + j)) = some u := hc0
 obtain rfl := k45_open hK
 exact ⟨ad,e,hc 0 _ rfl,by rw [← zfl _ _ 1 (by omega)];exact hc 1 _ rfl⟩
structure S84 where
 f0 : Int
 f1 : Int
structure S30 where
 f0 : S27
 f1 : Int
def z30 : S30 := ⟨z27,(0 : Int)⟩
def k30 : Kd S30 := Kd.iso (Kd.pair k27 (Kd.int .u64)) (fun x : S30 => (x.f0,x.f1))
theorem k30_open {w : World} {x : S30} {cs : List Value} (h : k30.K w x cs) : ∃ A2 c2 A3 c3,cs = [.int .i64 x.f0.f0,.int .i64 x.f0.f1,.slice A2 x.f0.f2.length c2,.slice A3 x.f0.f3.length c3,.int .i64 x.f0.f4.f0,.int .i64 x.f0.f4.f1,.int .u64 x.f1] ∧ x.f0.f2.length ≤ c2 ∧ k73.C w A2 x.f0.f2.length x.f0.f2 ∧ x.f0.f3.length ≤ c3 ∧ Kd.string.C w A3 x.f0.f3.length x.f0.f3 := by
 obtain ⟨_,_,rfl,s0,rfl⟩ := h
 obtain ⟨A2,c2,A3,c3,rfl,l2,g2,l3,g3⟩ := k27_open s0
 exact ⟨A2,c2,A3,c3,rfl,l2,g2,l3,g3⟩
theorem hcq2 {w : World} {g : Nat} {t : TypeId} {a0 a1 : Value} (h : w.heap[g]? = some (.cells #[a0,a1] t (0,0))) : w.cell? ⟨g,0,none⟩ = some a0 ∧ w.cell? ⟨g,1,none⟩ = some a1 ∧ w.frozen? ⟨g,0,none⟩ = false ∧ w.frozen? ⟨g,1,none⟩ = false := ⟨(zb h 0).trans rfl,(zb h 1).trans rfl,zc h 0,zc h 1⟩
theorem hcq3 {w : World} {g : Nat} {t : TypeId} {a0 a1 a2 : Value} (h : w.heap[g]? = some (.cells #[a0,a1,a2] t (0,0))) : w.cell? ⟨g,0,none⟩ = some a0 ∧ w.cell? ⟨g,1,none⟩ = some a1 ∧ w.cell? ⟨g,2,none⟩ = some a2 ∧ w.frozen? ⟨g,0,none⟩ = false ∧ w.frozen? ⟨g,1,none⟩ = false ∧ w.frozen? ⟨g,2,none⟩ = false := ⟨(zb h 0).trans rfl,(zb h 1).trans rfl,(zb h 2).trans rfl,zc h 0,zc h 1,zc h 2⟩
theorem hcq6 {w : World} {g : Nat} {t : TypeId} {a0 a1 a2 a3 a4 a5 : Value} (h : w.heap[g]? = some (.cells #[a0,a1,a2,a3,a4,a5] t (0,0))) : w.cell? ⟨g,0,none⟩ = some a0 ∧ w.cell? ⟨g,1,none⟩ = some a1 ∧ w.cell? ⟨g,2,none⟩ = some a2 ∧ w.cell? ⟨g,3,none⟩ = some a3 ∧ w.cell? ⟨g,4,none⟩ = some a4 ∧ w.cell? ⟨g,5,none⟩ = some a5 ∧ w.frozen? ⟨g,0,none⟩ = false ∧ w.frozen? ⟨g,1,none⟩ = false ∧ w.frozen? ⟨g,2,none⟩ = false ∧ w.frozen? ⟨g,3,none⟩ = false ∧ w.frozen? ⟨g,4,none⟩ = false ∧ w.frozen? ⟨g,5,none⟩ = false := ⟨(zb h 0).trans rfl,(zb h 1).trans rfl,(zb h 2).trans rfl,(zb h 3).trans rfl,(zb h 4).trans rfl,(zb h 5).trans rfl,zc h 0,zc h 1,zc h 2,zc h 3,zc h 4,zc h 5⟩
theorem hcq7 {w : World} {g : Nat} {t : TypeId} {a0 a1 a2 a3 a4 a5 a6 : Value} (h : w.heap[g]? = some (.cells #[a0,a1,a2,a3,a4,a5,a6] t (0,0))) : w.cell? ⟨g,0,none⟩ = some a0 ∧ w.cell? ⟨g,1,none⟩ = some a1 ∧ w.cell? ⟨g,2,none⟩ = some a2 ∧ w.cell? ⟨g,3,none⟩ = some a3 ∧ w.cell? ⟨g,4,none⟩ = some a4 ∧ w.cell? ⟨g,5,none⟩ = some a5 ∧ w.cell? ⟨g,6,none⟩ = some a6 ∧ w.frozen? ⟨g,0,none⟩ = false ∧ w.frozen? ⟨g,1,none⟩ = false ∧ w.frozen? ⟨g,2,none⟩ = false ∧ w.frozen? ⟨g,3,none⟩ = false ∧ w.frozen? ⟨g,4,none⟩ = false ∧ w.frozen? ⟨g,5,none⟩ = false ∧ w.frozen? ⟨g,6,none⟩ = false := ⟨(zb h 0).trans rfl,(zb h 1).trans rfl,(zb h 2).trans rfl,(zb h 3).trans rfl,(zb h 4).trans rfl,(zb h 5).trans rfl,(zb h 6).trans rfl,zc h 0,zc h 1,zc h 2,zc h 3,zc h 4,zc h 5,zc h 6⟩
theorem hGq {A_ B_ : Prop} (x_ : A_) (h_ : A_ → B_ := by intro x_;(with_reducible repeat (first | refine zap ?_ _ | refine zbq ?_ | refine zbb ?_ _));exact x_) : B_ := h_ x_
theorem hDq {B_ : Prop} (h_ : B_ := by first | rfl | (simp;done) | (simp [*];done)) : B_ := h_
theorem hEq {B_ : Prop} (h_ : B_ := by repeat (first | exact zaB.refl _ | apply zaB.step)) : B_ := h_
theorem hHq {B_ : Prop} (h_ : B_ := by first | rfl | (simp [zbm,zbn] <;> rfl) | (simp [*,zbm,zbn] <;> rfl)) : B_ := h_
theorem hFq {p_ : Prop} [Decidable p_] (h_ : decide p_ = true := by first | (with_reducible assumption) | assumption) : p_ := of_decide_eq_true h_
theorem hRq {A_ B_ : Prop} (x_ : A_) (h_ : A_ → B_ := by intro x_;(with_reducible repeat (first | apply Kd.R_alloc | apply Kd.R_drewN | apply Kd.R_drew));exact x_) : B_ := h_ x_
theorem hSq {A_ B_ : Prop} (x_ : A_) (h_ : A_ → B_ := by intro x_;(with_reducible repeat (first | apply Kd.S_alloc | apply Kd.S_drewN | apply Kd.S_drew));exact x_) : B_ := h_ x_
theorem hbq {w0 w w1 : World} {g : Nat} {o : Obj} (x_ : w0.heap[g]? = some o) (hb_ : Below w.heap.size w w1) (h_ : w0.heap[g]? = some o → w.heap[g]? = some o := by intro x_;(with_reducible repeat (first | refine zap ?_ _ | refine zbq ?_ | refine zbb ?_ _));exact x_) : w1.heap[g]? = some o := zx (h_ x_) hb_
theorem hnq {w0 w : World} {g q : Nat} {o : Obj} (hg_ : q = w.heap.size) (x_ : w0.heap[g]? = some o) (h_ : w0.heap[g]? = some o → w.heap[g]? = some o := by intro x_;(with_reducible repeat (first | refine zap ?_ _ | refine zbq ?_ | refine zbb ?_ _));exact x_) : g ≠ q := by rw [hg_];exact Nat.ne_of_lt (za6 (h_ x_))
theorem hmq {w0 w : World} {g q : Nat} {o : Obj} (hg_ : q = w.heap.size) (x_ : w0.heap[g]? = some o) (h_ : w0.heap[g]? = some o → w.heap[g]? = some o := by intro x_;(with_reducible repeat (first | refine zap ?_ _ | refine zbq ?_ | refine zbb ?_ _));exact x_) : q ≠ g := by rw [hg_];exact Nat.ne_of_gt (za6 (h_ x_))
theorem hfq {w1 W W' : World} {g q : Nat} {o : Obj} (hw_ : W' = W) (n_ : g ≠ q) (x_ : w1.heap[g]? = some o) (h_ : g ≠ q → w1.heap[g]? = some o → W.heap[g]? = some o := by intro n_ x_;(repeat (first | (with_reducible exact x_) | (with_reducible refine zap ?_ _) | (with_reducible refine zbq ?_) | (with_reducible refine zbb ?_ _) | refine zcy ?_ n_ _))) : W'.heap[g]? = some o := by rw [hw_];exact h_ n_ x_
theorem hKq {A_ B_ : Prop} (x_ : A_) (h_ : A_ → B_ := by intro x_;repeat (first | exact x_ | (with_reducible refine Kd.C_alloc ?_ _) | (with_reducible refine Kd.C_drewN ?_ _) | (with_reducible refine Kd.C_drew ?_))) : B_ := h_ x_
theorem hMq {B_ : Prop} (h_ : B_ := by (try simp only [List.map_toArray,List.map_cons,List.map_nil]);first | done | rfl | (simp only [List.length_drop,List.length_take];rfl)) : B_ := h_
theorem haq {A_ B_ : Prop} (a_ : A_) (b_ : B_) : za A_ ∧ B_ := ⟨⟨a_⟩,b_⟩
theorem hxq0p {A_ B_ : Prop} (x_ : A_) (h_ : A_ → B_ := by intro  x_;(repeat (first | (with_reducible exact x_) | (with_reducible refine zap ?_ _) | (with_reducible refine zbq ?_) | (with_reducible refine zbb ?_ _) | apply zaX));all_goals first | (with_reducible rfl) | (simp only [List.setIfInBounds_toArray,List.set_cons_zero,List.set_cons_succ];done) | rfl) : B_ := h_ x_
theorem hxq1 {A_ B_ : Prop} {P0_ : Prop} (n0_ : P0_) (x_ : A_) (h_ : P0_ → A_ → B_ := by intro n0_ x_;(repeat (first | (with_reducible exact x_) | (with_reducible refine zap ?_ _) | (with_reducible refine zbq ?_) | (with_reducible refine zbb ?_ _) | refine zcy ?_ n0_ _))) : B_ := h_ n0_ x_
theorem hxq1p {A_ B_ : Prop} {P0_ : Prop} (n0_ : P0_) (x_ : A_) (h_ : P0_ → A_ → B_ := by intro n0_ x_;(repeat (first | (with_reducible exact x_) | (with_reducible refine zap ?_ _) | (with_reducible refine zbq ?_) | (with_reducible refine zbb ?_ _) | apply zcy (hp := n0_) | apply zaX));all_goals first | (with_reducible rfl) | (simp only [List.setIfInBounds_toArray,List.set_cons_zero,List.set_cons_succ];done) | rfl) : B_ := h_ n0_ x_
def zM.l0 : Nat → List ByteArray → List ByteArray → Int → Int → Option (Bool)
 | 0,_,_,_,_ => none
 | k + 1,x0,x1,x12,x13 => if x13 < x12 then (if 0 ≤ x13 then (if x13 < (x0.length : Int) then (if x13 < (x1.length : Int) then (if (zG ByteArray.empty x0 x13).toList = (zG ByteArray.empty x1 x13).toList then (zM.l0 k x0 x1 x12 (wrap64 (x13 + 1))) else (some false)) else (none)) else (none)) else (none)) else (some true)
def zM.f (k : Nat) (l0 : List ByteArray) (l1 : List ByteArray) : Option (Bool) := if (l0.length : Int) = (l1.length : Int) then (zM.l0 k l0 l1 (l0.length : Int) 0) else (some false)
set_option maxHeartbeats 8000000 in
set_option maxRecDepth 100000 in
theorem zM.calls (k : Nat) (A0 : Option Addr) (c0 : Nat) (l0 : List ByteArray) (A1 : Option Addr) (c1 : Nat) (l1 : List ByteArray) (r : Bool) (w : World) (hr0 : Kd.C Kd.string w A0 l0.length l0) (hc0 : l0.length ≤ c0) (hr1 : Kd.C Kd.string w A1 l1.length l1) (hc1 : l1.length ≤ c1) (h : zM.f k l0 l1 = some r) :
  Calls Tryz.prog 56 #[.slice A0 l0.length c0,.slice A1 l1.length c1] w fun e w' => e = .returned (.bool r) ∧ zaB w w' := by
 have HR0 := za.mk hr0
 have HC0 := za.mk hc0
 clear hr0 hc0
 have HR1 := za.mk hr1
 have HC1 := za.mk hc1
 clear hr1 hc1
 have H : (if (l0.length : Int) = (l1.length : Int) then (zM.l0 k l0 l1 (l0.length : Int) 0) else (some false)) = some r := h
 clear h
 by_cases c3 : (l0.length : Int) = (l1.length : Int)
 ·rw [if_pos c3] at H
  have c3b0 : ((l0.length : Int) == (l1.length : Int)) = true := beq_iff_eq.mpr c3
  have c3b1 : ((l0.length : Int) != (l1.length : Int)) = false := bne_eq_false_iff_eq.mpr c3
  have c3b2 : (l0.length == l1.length) = true := by first | simpa using c3 | (simp at c3 ⊢;omega)
  clear c3
  have H' := za.mk H
  clear H
  go_enter Tryz.func56,Tryz.ntmps56
  go_wp2
  repeat (go_quiet (fail);try go_wp2)
  go_loopg [13] k (fun kq v13 w' => ∃ (x13_1 : Int),v13 = .int .i64 x13_1 ∧ za (zM.l0 kq l0 l1 (l0.length : Int) x13_1 = some r) ∧ za (kq ≤ k) ∧ zaB w w')
  case atStart => exact ⟨(0),(hDq),H',⟨Nat.le_refl _⟩,hEq⟩
  case round =>
   clear H'
   try clear c1;try clear p2;try clear c3;try clear c3b0;try clear c3b1;try clear c3b2
   obtain ⟨x13_1,rfl,HA,HK1,⟨m1,rfl⟩⟩ := hrel
   cases gk with
   | zero => exact absurd HA.out (by simp [zM.l0])
   | succ k1 =>
    have H := HA.out
    clear HA
    simp only [zM.l0] at H
    by_cases c4 : x13_1 < (l0.length : Int)
    ·rw [if_pos c4] at H
     have c4b0 : decide (x13_1 < (l0.length : Int)) = true := decide_eq_true c4
     clear c4
     by_cases c5 : 0 ≤ x13_1
     ·rw [if_pos c5] at H
      have c5b0 : decide (0 ≤ x13_1) = true := decide_eq_true c5
      clear c5
      by_cases c6 : x13_1 < (l0.length : Int)
      ·rw [if_pos c6] at H
       have c6b0 : decide (x13_1 < (l0.length : Int)) = true := decide_eq_true c6
       clear c6
       by_cases c7 : x13_1 < (l1.length : Int)
       ·rw [if_pos c7] at H
        have c7b0 : decide (x13_1 < (l1.length : Int)) = true := decide_eq_true c7
        clear c7
        by_cases c8 : (zG ByteArray.empty l0 x13_1).toList = (zG ByteArray.empty l1 x13_1).toList
        ·rw [if_pos c8] at H
         have c8b0 : ((zG ByteArray.empty l0 x13_1).toList == (zG ByteArray.empty l1 x13_1).toList) = true := beq_iff_eq.mpr c8
         have c8b1 : ((zG ByteArray.empty l0 x13_1).toList != (zG ByteArray.empty l1 x13_1).toList) = false := bne_eq_false_iff_eq.mpr c8
         clear c8
         have H' := za.mk H
         clear H
         have p405 : 0 ≤ (x13_1 : Int) := hFq
         have q405 : x13_1 < (l0.length : Int) := hFq
         obtain ⟨ad405,e405,hx405_0⟩ := Kd.at_string HR0.out x13_1 p405 q405
         cases e405
         replace p405 := eq_true p405
         replace q405 := eq_true q405
         have p406 : 0 ≤ (x13_1 : Int) := hFq
         have q406 : x13_1 < (l1.length : Int) := hFq
         obtain ⟨ad406,e406,hx406_0⟩ := Kd.at_string HR1.out x13_1 p406 q406
         cases e406
         replace p406 := eq_true p406
         replace q406 := eq_true q406
         go_wp2
         repeat (go_quiet (fail);try go_wp2)
         go_roundg k1
         case measure => have := HK1.out;omega
         case rel => exact ⟨(wrap64 (x13_1 + 1)),(hDq),H',⟨by have := HK1.out;omega⟩,hEq⟩
        ·rw [if_neg c8] at H
         have c8b0 : ((zG ByteArray.empty l0 x13_1).toList == (zG ByteArray.empty l1 x13_1).toList) = false := beq_eq_false_iff_ne.mpr c8
         have c8b1 : ((zG ByteArray.empty l0 x13_1).toList != (zG ByteArray.empty l1 x13_1).toList) = true := bne_iff_ne.mpr c8
         obtain rfl := Option.some.inj H
         have p405 : 0 ≤ (x13_1 : Int) := hFq
         have q405 : x13_1 < (l0.length : Int) := hFq
         obtain ⟨ad405,e405,hx405_0⟩ := Kd.at_string HR0.out x13_1 p405 q405
         cases e405
         replace p405 := eq_true p405
         replace q405 := eq_true q405
         have p406 : 0 ≤ (x13_1 : Int) := hFq
         have q406 : x13_1 < (l1.length : Int) := hFq
         obtain ⟨ad406,e406,hx406_0⟩ := Kd.at_string HR1.out x13_1 p406 q406
         cases e406
         replace p406 := eq_true p406
         replace q406 := eq_true q406
         go_wp2
         repeat (go_quiet (fail);try go_wp2)
         go_ret
         exact ⟨hDq,hEq⟩
       ·rw [if_neg c7] at H
        exact absurd H (by simp)
      ·rw [if_neg c6] at H
       exact absurd H (by simp)
     ·rw [if_neg c5] at H
      exact absurd H (by simp)
    ·rw [if_neg c4] at H
     have c4b0 : decide (x13_1 < (l0.length : Int)) = false := decide_eq_false c4
     clear c4
     obtain rfl := Option.some.inj H
     go_wp2
     repeat (go_quiet (fail);try go_wp2)
     go_ret
     exact ⟨hDq,hEq⟩
 ·rw [if_neg c3] at H
  have c3b0 : ((l0.length : Int) == (l1.length : Int)) = false := beq_eq_false_iff_ne.mpr c3
  have c3b1 : ((l0.length : Int) != (l1.length : Int)) = true := bne_iff_ne.mpr c3
  have c3b2 : (l0.length == l1.length) = false := by first | simpa using c3 | (simp at c3 ⊢;omega)
  obtain rfl := Option.some.inj H
  go_enter Tryz.func56,Tryz.ntmps56
  go_wp2
  repeat (go_quiet (fail);try go_wp2)
  go_ret
  exact ⟨hDq,hEq⟩
def zdW.f (k : Nat) (a0_0 : Int) (a0_1 : Int) (l0_2 : List ByteArray) (a1_0 : Int) (a1_1 : Int) (l1_2 : List ByteArray) : Option (Bool) := if a0_0 = a1_0 then (if a0_1 = a1_1 then ((zM.f k l0_2 l1_2).bind fun t409 => (some t409)) else (some false)) else (some false)
set_option maxHeartbeats 8000000 in
set_option maxRecDepth 100000 in
theorem zdW.calls (k : Nat) (a0_0 : Int) (a0_1 : Int) (A0_2 : Option Addr) (c0_2 : Nat) (l0_2 : List ByteArray) (a1_0 : Int) (a1_1 : Int) (A1_2 : Option Addr) (c1_2 : Nat) (l1_2 : List ByteArray) (r : Bool) (w : World) (hr0_2 : Kd.C Kd.string w A0_2 l0_2.length l0_2) (hc0_2 : l0_2.length ≤ c0_2) (hr1_2 : Kd.C Kd.string w A1_2 l1_2.length l1_2) (hc1_2 : l1_2.length ≤ c1_2) (h : zdW.f k a0_0 a0_1 l0_2 a1_0 a1_1 l1_2 = some r) :
  Calls Tryz.prog 58 #[.agg #[.int .i64 a0_0,.int .i64 a0_1,.slice A0_2 l0_2.length c0_2],.agg #[.int .i64 a1_0,.int .i64 a1_1,.slice A1_2 l1_2.length c1_2]] w fun e w' => e = .returned (.bool r) ∧ Below w.heap.size w w' := by
 have hu73 := Tryz.underlying73
 have HR0_2 := za.mk hr0_2
 have HC0_2 := za.mk hc0_2
 clear hr0_2 hc0_2
 have HR1_2 := za.mk hr1_2
 have HC1_2 := za.mk hc1_2
 clear hr1_2 hc1_2
 have HB := za.mk (Below.refl w.heap.size w)
 have H : (if a0_0 = a1_0 then (if a0_1 = a1_1 then ((zM.f k l0_2 l1_2).bind fun t409 => (some t409)) else (some false)) else (some false)) = some r := h
 clear h
 by_cases c3 : a0_0 = a1_0
 focus
  rw [if_pos c3] at H
  have c3b0 : (a0_0 == a1_0) = true := beq_iff_eq.mpr c3
  have c3b1 : (a0_0 != a1_0) = false := bne_eq_false_iff_eq.mpr c3
  clear c3
  by_cases c4 : a0_1 = a1_1
  focus
   rw [if_pos c4] at H
   have c4b0 : (a0_1 == a1_1) = true := beq_iff_eq.mpr c4
   have c4b1 : (a0_1 != a1_1) = false := bne_eq_false_iff_eq.mpr c4
   clear c4
   replace H := Option.bind_eq_some_iff.mp H
   obtain ⟨t409,A50,H⟩ := H
   replace H : (some t409) = some r := H
   have A5 := za.mk A50
   clear A50
   obtain rfl := Option.some.inj H
   have EQ0 := True.intro
  rotate_left
  focus
   rw [if_neg c4] at H
   have c4b0 : (a0_1 == a1_1) = false := beq_eq_false_iff_ne.mpr c4
   have c4b1 : (a0_1 != a1_1) = true := bne_iff_ne.mpr c4
   obtain rfl := Option.some.inj H
 rotate_left 2
 focus
  rw [if_neg c3] at H
  have c3b0 : (a0_0 == a1_0) = false := beq_eq_false_iff_ne.mpr c3
  have c3b1 : (a0_0 != a1_0) = true := bne_iff_ne.mpr c3
  obtain rfl := Option.some.inj H
 all_goals
  go_enter Tryz.func58,Tryz.ntmps58
  go_wp2_with (first | ((with_reducible refine zy (N := 2) rfl ?_);refine zo ?hg (N := 2) ?hd (cs := #[.int .i64 a0_0,.int .i64 a0_1,.slice A0_2 l0_2.length c0_2]) (t := 73) ?hr ?_;(case hd => rfl);(case hg => rfl);(case hr => first | (go_simp;done) | (go_simp;rfl));intro gb407 hg wQN22 hbox hb;have n_ := haq (zd hBq hb) <| haq (hbox) <| haq ((by rw [hg];exact (ze hBq) : w.heap.size ≤ gb407)) <| haq ((by rw [hg];exact (ze hBq) : w.heap.size ≤ gb407)) <| trivial;clear HB;obtain ⟨HB,BK407,GW407,GE407,_⟩ := n_;clear hb hbox hg) | ((with_reducible refine zy (N := 3) rfl ?_);refine zo ?hg (N := 3) ?hd (cs := #[.int .i64 a1_0,.int .i64 a1_1,.slice A1_2 l1_2.length c1_2]) (t := 73) ?hr ?_;(case hd => rfl);(case hg => rfl);(case hr => first | (go_simp;done) | (go_simp;rfl));intro gb408 hg wQN32 hbox hb;have n_ := haq (hbq BK407.out hb) <| haq (zd hCq hb) <| haq (hbox) <| haq ((by rw [hg];exact (ze hCq) : w.heap.size ≤ gb408)) <| haq ((by rw [hg];exact (ze hCq) : w.heap.size ≤ gb408)) <| haq (hnq hg BK407.out) <| haq (hmq hg BK407.out) <| trivial;clear BK407 HB;obtain ⟨BK407,HB,BK408,GW408,GE408,NBQN37,NBQN38,_⟩ := n_;clear hb hbox hg;have hnbQN39 := NBQN37.out;have hncQN310 := NBQN38.out;obtain ⟨hczQN311,hczQN312,hczQN313,hfzQN314,hfzQN315,hfzQN316⟩ := hcq3 BK407.out;obtain ⟨hczQN317,hczQN318,hczQN319,hfzQN320,hfzQN321,hfzQN322⟩ := hcq3 BK408.out) | (have _ := EQ0;(go_at_call 56;(with_reducible refine (zM.calls k _ _ l0_2 _ _ l1_2 t409 _ ?side1 ?side2 ?side3 ?side4 A5.out).mono ?_);(case side1 => exact hKq (Kd.C_below HR0_2.out HB.out));(case side2 => exact HC0_2.out);(case side3 => exact hKq (Kd.C_below HR1_2.out HB.out));(case side4 => exact HC1_2.out);rintro e w' ⟨rfl,⟨nd,rfl⟩⟩)))
  go_ret
  exact ⟨hHq,hCq⟩
abbrev Bs := List UInt8
def toB (l : Bs) : ByteArray := ⟨l.toArray⟩
def ofB (s : ByteArray) : Bs := s.data.toList
theorem zav (l : Bs) : ofB (toB l) = l := by simp [ofB,toB]
theorem zcz (s : ByteArray) : toB (ofB s) = s := by simp [ofB,toB]
theorem zgj {a b : ByteArray} (h : ofB a = ofB b) : a = b := by rw [← zcz a,← zcz b,h]
theorem zae (s : ByteArray) : (ofB s).length = s.size := by rw [ofB,Array.length_toList];rfl
theorem zP (l : Bs) : (toB l).size = l.length := by rw [← zae,zav]
theorem ziW (a b : ByteArray) : ofB (a ++ b) = ofB a ++ ofB b := by simp [ofB]
theorem zbk (a b : Bs) : toB (a ++ b) = toB a ++ toB b := zgj (by rw [ziW,zav,zav,zav])
theorem zbJ (s : ByteArray) : s.toList = ofB s := ByteArray.toList_eq s
theorem zfM (s : ByteArray) (i j : Nat) : ofB (s.extract i j) = ((ofB s).drop i).take (j - i) := by
 simp only [ofB,ByteArray.data_extract,Array.toList_extract,List.extract]
theorem zhM (s : ByteArray) (i : Nat) : bt s (i : Int) = (((ofB s).getD i 0).toNat : Int) := by
 unfold bt ofB
 split
 ·rename_i h
  have h' : i < s.data.toList.length := by rw [zfI];simpa using h
  simp [List.getD_eq_getElem?_getD,List.getElem?_eq_getElem h']
  rfl
 ·rename_i h
  have h' : s.data.toList.length ≤ i := by rw [zfI];simp at h;omega
  simp [List.getD_eq_getElem?_getD,List.getElem?_eq_none h']
theorem zce (xs : List Int) : strOfNums xs = toB (xs.map fun n => UInt8.ofNat n.toNat) := rfl
def be (v : Nat) : Bs := if v = 0 then [] else be (v / 256) ++ [UInt8.ofNat (v % 256)]
termination_by v
decreasing_by omega
theorem zdj : be 0 = [] := by rw [be];simp
theorem zeU {v : Nat} (h : 0 < v) : be v = be (v / 256) ++ [UInt8.ofNat (v % 256)] := by rw [be,if_neg (by omega)]
def val (l : Bs) : Nat := l.foldl (fun a c => a * 256 + c.toNat) 0
theorem zew (l : Bs) (c : UInt8) : val (l ++ [c]) = val l * 256 + c.toNat := by simp [val]
theorem val_be (v : Nat) : val (be v) = v := by
 induction v using Nat.strongRecOn with
 | _ v ih =>
  rcases Nat.eq_zero_or_pos v with h | h
  ·subst h;rw [zdj];rfl
  ·rw [zeU h,zew,ih _ (by omega)]
   have : (UInt8.ofNat (v % 256)).toNat = v % 256 := by simp
   omega
theorem be_length (n : Nat) : ∀ v : Nat,(be v).length ≤ n ↔ v < 256 ^ n := by
 induction n with
 | zero =>
  intro v
  rcases Nat.eq_zero_or_pos v with h | h
  ·subst h;simp [zdj]
  ·rw [zeU h];simp;omega
 | succ n ih =>
  intro v
  rcases Nat.eq_zero_or_pos v with h | h
  ·subst h;simp [zdj,Nat.pow_pos]
  ·rw [zeU h,List.length_append,List.length_singleton,Nat.succ_le_succ_iff,ih,Nat.pow_succ,Nat.mul_comm,Nat.div_lt_iff_lt_mul (by omega),Nat.mul_comm]
theorem be_len8 {v : Nat} (h : v < 18446744073709551616) : (be v).length ≤ 8 := by
 have : (256 : Nat) ^ 8 = 18446744073709551616 := by decide
 exact (be_length 8 v).2 (by rw [this];exact h)
theorem be_head (v : Nat) (h : 0 < v) : ∃ c t,be v = c :: t ∧ c ≠ 0 := by
 induction v using Nat.strongRecOn with
 | _ v ih =>
  rw [zeU h]
  rcases Nat.eq_zero_or_pos (v / 256) with h0 | h0
  ·rw [h0,zdj]
   refine ⟨_,_,rfl,?_⟩
   have e : v % 256 = v := Nat.mod_eq_of_lt (by omega)
   intro hz
   have := congrArg UInt8.toNat hz
   simp at this
   omega
  ·obtain ⟨c,t,e,hc⟩ := ih (v / 256) (by omega) h0
   exact ⟨c,t ++ [_],by rw [e];rfl,hc⟩
theorem val_lt (l : Bs) : val l < 256 ^ l.length := by
 suffices h : ∀ (r : Bs),val r.reverse < 256 ^ r.length by
  have := h l.reverse;rwa [List.reverse_reverse,List.length_reverse] at this
 intro r
 induction r with
 | nil => simp [val]
 | cons c r ih =>
  rw [List.reverse_cons,zew,List.length_cons,Nat.pow_succ]
  have := c.toNat_lt
  omega
theorem be_val (l : Bs) (h : ∀ c t,l = c :: t → c ≠ 0) : be (val l) = l := by
 suffices k : ∀ (n : Nat) (l : Bs),l.length = n → (∀ c t,l = c :: t → c ≠ 0) → be (val l) = l ∧ (l ≠ [] → 0 < val l) from (k _ l rfl h).1
 intro n
 induction n with
 | zero => intro l hl _;obtain rfl := List.eq_nil_of_length_eq_zero hl;exact ⟨zdj,fun h => absurd rfl h⟩
 | succ n ih =>
  intro l hl hh
  obtain ⟨r,x,rfl⟩ : ∃ r x,l = r ++ [x] := ⟨l.dropLast,l.getLast (by intro e;subst e;simp at hl),(List.dropLast_concat_getLast _).symm⟩
  have hr : r.length = n := by simpa using hl
  have hrh : ∀ c t,r = c :: t → c ≠ 0 := fun c t e => hh c (t ++ [x]) (by rw [e];rfl)
  obtain ⟨h1,h2⟩ := ih r hr hrh
  have hx := x.toNat_lt
  have hp : 0 < val (r ++ [x]) := by
   rw [zew]
   rcases r with _ | ⟨c,t⟩
   ·have := hh x [] rfl
    have h0 : x.toNat ≠ 0 := fun e => this (UInt8.toNat_inj.1 (by simpa using e))
    simp [val];omega
   ·have := h2 (by simp);omega
  refine ⟨?_,fun _ => hp⟩
  rw [zeU hp,zew]
  have e1 : (val r * 256 + x.toNat) / 256 = val r := by omega
  have e2 : (val r * 256 + x.toNat) % 256 = x.toNat := by omega
  rw [e1,e2,h1];simp
def zbD (v : Nat) : Bs := UInt8.ofNat (be v).length :: be v
def zbO (v : Nat) : ByteArray := toB (zbD v)
def zl : Bs → Nat × Bs × Int
 | [] => (0,[],2)
 | c :: t => if 8 < c.toNat then (0,[],3) else if t.length < c.toNat then (0,[],2) else if 0 < c.toNat ∧ t.getD 0 0 = 0 then (0,[],3) else (val (t.take c.toNat),t.drop c.toNat,0)
theorem zbQ {v : Nat} (hv : v < 18446744073709551616) (r : Bs) : zl (zbD v ++ r) = (v,r,0) := by
 have hl := be_len8 hv
 have hc : (UInt8.ofNat (be v).length).toNat = (be v).length := by simp;omega
 rw [show zbD v ++ r = UInt8.ofNat (be v).length :: (be v ++ r) from rfl,zl]
 rw [hc,if_neg (by omega),if_neg (by rw [List.length_append];omega),if_neg ?_]
 ·rw [List.take_left,List.drop_left,val_be]
 ·rintro ⟨h1,h2⟩
  have hv0 : 0 < v := by
   rcases Nat.eq_zero_or_pos v with h | h
   ·subst h;simp [zdj] at h1
   ·exact h
  obtain ⟨c,t,e,hc⟩ := be_head v hv0
  rw [e] at h2
  exact hc h2
theorem zbG {s r : Bs} {v : Nat} (h : zl s = (v,r,0)) : s = zbD v ++ r ∧ v < 18446744073709551616 := by
 match s,h with
 | [],h => simp [zl] at h
 | c :: t,h =>
  simp only [zl] at h
  split at h
  ·simp at h
  ·rename_i h8
   split at h
   ·simp at h
   ·rename_i hlen
    split at h
    ·simp at h
    ·rename_i hz
     simp only [Prod.mk.injEq,and_true] at h
     obtain ⟨rfl,rfl⟩ := h
     have hb : be (val (t.take c.toNat)) = t.take c.toNat := be_val _ (by
      intro x y e hx
      apply hz
      rcases Nat.eq_zero_or_pos c.toNat with h0 | h0
      ·rw [h0] at e;simp at e
      ·refine ⟨h0,?_⟩
       rcases t with _ | ⟨z,t⟩
       ·simp at e
       ·obtain ⟨m,hm⟩ : ∃ m,c.toNat = m + 1 := ⟨c.toNat - 1,by omega⟩
        rw [hm,List.take_succ_cons] at e
        injection e with e1 _
        simp [e1,hx])
     have hn : (be (val (t.take c.toNat))).length = c.toNat := by rw [hb,List.length_take];omega
     refine ⟨?_,?_⟩
     ·rw [zbD,hn,hb,List.cons_append,List.take_append_drop];simp
     ·have := val_lt (t.take c.toNat)
      rw [List.length_take,Nat.min_eq_left (by omega)] at this
      have h2 : 256 ^ c.toNat ≤ 256 ^ 8 := Nat.pow_le_pow_right (by omega) (by omega)
      have : (256 : Nat) ^ 8 = 18446744073709551616 := by decide
      omega
theorem zib {s r : Bs} {v : Nat} {e : Int} (h : zl s = (v,r,e)) : e = 0 ∨ (v = 0 ∧ r = [] ∧ (e = 2 ∨ e = 3)) := by
 match s,h with
 | [],h => simp [zl] at h;obtain ⟨rfl,rfl,rfl⟩ := h;simp
 | c :: t,h =>
  simp only [zl] at h
  (repeat' split at h) <;> (simp only [Prod.mk.injEq] at h;obtain ⟨rfl,rfl,rfl⟩ := h;simp)
def zdu (t : Bs) : Bs := zbD t.length ++ t
def zdU (t : ByteArray) : ByteArray := zbO t.size ++ t
theorem ziN (t : ByteArray) : zdU t = toB (zdu (ofB t)) := by rw [zdu,zbk,zcz,zae];rfl
theorem zaL {v : Nat} (h : v < 18446744073709551616) : (zbD v).length ≤ 9 := by
 have := be_len8 h
 simp only [zbD,List.length_cons];omega
theorem za0 {v : Nat} (h : v < 18446744073709551616) : (zbO v).size ≤ 9 := by rw [zbO,zP];exact zaL h
theorem zgA (v : Nat) (L : List Int) (h : L.map (fun n => UInt8.ofNat n.toNat) = be v) : strOfNums ((L.length : Int) :: L) = zbO v := by
 rw [zce,List.map_cons,h,zbO,zbD]
 have : L.length = (be v).length := by rw [← h,List.length_map]
 rw [this,Int.toNat_natCast]
def ziu {α : Type} (p : α → Bool) (l : List α) : Int := match l.findIdx? p with | some i => (i : Int) | none => -1
theorem ziw {α : Type} {p : α → Bool} {l : List α} {k : Nat} {x : α} (hx : l[k]? = some x) (hp : p x = true) (hn : ∀ (j : Nat) (y : α),j < k → l[j]? = some y → p y = false) : ziu p l = k := by
 have hk := (List.getElem?_eq_some_iff.1 hx).1
 have h : l.findIdx? p = some k := by
  rw [List.findIdx?_eq_some_iff_getElem]
  refine ⟨hk,?_,fun j hj => ?_⟩
  ·rw [(List.getElem?_eq_some_iff.1 hx).2];exact hp
  ·have := hn j l[j] hj (List.getElem?_eq_getElem _)
   simp [this]
 rw [ziu,h]
theorem zhr {α : Type} {p : α → Bool} {l : List α} (hn : ∀ (j : Nat) (y : α),l[j]? = some y → p y = false) : ziu p l = -1 := by
 have h : l.findIdx? p = none := by
  rw [List.findIdx?_eq_none_iff]
  intro x hx
  obtain ⟨j,hj⟩ := List.mem_iff_getElem?.1 hx
  exact hn j x hj
 rw [ziu,h]
theorem ziv {α : Type} (p : α → Bool) (l : List α) : decide (0 ≤ ziu p l) = l.any p := by
 rw [ziu]
 rcases h : l.findIdx? p with _ | i
 ·rw [List.findIdx?_eq_none_iff] at h
  simp
  intro x hx
  simpa using h x hx
 ·rw [List.findIdx?_eq_some_iff_getElem] at h
  obtain ⟨hi,hp,_⟩ := h
  simp
  exact ⟨_,List.getElem_mem hi,hp⟩
theorem may_ret {a b : Bool} (h : a = b) : Ending.returned (.bool a) = .returned (.bool b) := by rw [h]
def zcW (s : ByteArray) : Bool := decide (s.size = 0) || decide (48 < s.size)
theorem zaP.odd (s : ByteArray) (w : World) : Calls Tryz.prog 92 #[.string s] w fun e w' => e = .returned (.bool (zcW s)) ∧ w = w' := by
 by_cases h : s.toList = []
 ·have hb : (s.toList == []) = true := beq_iff_eq.mpr h
  have h0 : s.size = 0 := by rw [← zae,← zbJ,h];rfl
  have HO : za (zcW s = true) := ⟨by simp [zcW,h0]⟩
  clear h h0
  go_enter Tryz.func92,Tryz.ntmps92
  go_wp2
  go_ret
  rw [HO.out]
  exact ⟨rfl,rfl⟩
 ·have hb : (s.toList == []) = false := beq_eq_false_iff_ne.mpr h
  have h0 : s.size ≠ 0 := fun hz => h (List.eq_nil_of_length_eq_zero (by rw [zbJ,zae,hz]))
  have HO : za (zcW s = decide (48 < (s.size : Int))) := ⟨by simp [zcW,h0];omega⟩
  clear h h0
  by_cases h1 : 48 < (s.size : Int)
  ·have h1b : decide (48 < (s.size : Int)) = true := decide_eq_true h1
   rw [h1b] at HO
   clear h1
   go_enter Tryz.func92,Tryz.ntmps92
   go_wp2
   go_ret
   rw [HO.out]
   exact ⟨rfl,rfl⟩
  ·have h1b : decide (48 < (s.size : Int)) = false := decide_eq_false h1
   rw [h1b] at HO
   clear h1
   go_enter Tryz.func92,Tryz.ntmps92
   go_wp2
   go_ret
   rw [HO.out]
   exact ⟨rfl,rfl⟩
theorem zaP.idx (A : Option Addr) (c : Nat) (l : List ByteArray) (w : World) (hr : Kd.C Kd.string w A l.length l) (hc : l.length ≤ c) :
  Calls Tryz.prog 99 #[.slice A l.length c,.func (.func 92) #[] #[]] w fun e w' => e = .returned (.int .i64 (ziu zcW l)) ∧ w = w' := by
 have hm := hr.2.1
 have HR := za.mk hr
 clear hr
 go_enter Tryz.func99,Tryz.ntmps99
 go_wp2_with fail
 go_loop [5,8] (fun v5 v8 => ∃ k : Nat,v8 = .int .i64 k ∧ k ≤ l.length ∧ za (∀ (j : Nat) (y : ByteArray),j < k → l[j]? = some y → zcW y = false)) (fun _ v8 => l.length - (match v8 with | .int _ q => q | _ => 0).toNat)
 case atStart => exact ⟨0,rfl,Nat.zero_le _,⟨fun j y hj => absurd hj (Nat.not_lt_zero _)⟩⟩
 case round =>
  obtain ⟨k,rfl,hk,HN⟩ := hrel
  by_cases hlt : k < l.length
  ·obtain ⟨ad,rfl,hcell⟩ := Kd.at_string HR.out (k : Int) (by omega) (by omega)
   rw [Int.toNat_natCast] at hcell
   have hb : decide (k < l.length) = true := decide_eq_true hlt
   have hx : l[k]? = some (zG ByteArray.empty l (k : Int)) := by
    rw [zG,Int.toNat_natCast,List.getD_eq_getElem?_getD,List.getElem?_eq_getElem hlt];rfl
   have HX := za.mk hx
   clear hx
   generalize zG ByteArray.empty l (k : Int) = s at *
   rcases ho : zcW s with _ | _
   ·have HO := za.mk ho
    clear ho
    go_wp2_with (go_at_call 92;(with_reducible refine (zaP.odd _ _).mono ?_);rintro e w1 ⟨rfl,rfl⟩;rw [HO.out])
    go_round
    case rel =>
     refine ⟨k + 1,by go_num,by omega,⟨fun j y hj hy => ?_⟩⟩
     rcases Nat.lt_succ_iff_lt_or_eq.1 hj with h | h
     ·exact HN.out j y h hy
     ·subst h
      rw [HX.out] at hy
      injection hy with hy
      subst hy
      exact HO.out
    case measure => simp;omega
   ·have HO := za.mk ho
    clear ho
    go_wp2_with (go_at_call 92;(with_reducible refine (zaP.odd _ _).mono ?_);rintro e w1 ⟨rfl,rfl⟩;rw [HO.out])
    go_ret
    exact ⟨by rw [ziw HX.out HO.out HN.out];rfl,rfl⟩
  ·obtain rfl : k = l.length := by omega
   go_wp2_with fail
   go_ret
   exact ⟨by rw [zhr (fun j y hy => HN.out j y (List.getElem?_eq_some_iff.1 hy).1 hy)];rfl,rfl⟩
theorem zaP.contains (A : Option Addr) (c : Nat) (l : List ByteArray) (w : World) (hr : Kd.C Kd.string w A l.length l) (hc : l.length ≤ c) :
  Calls Tryz.prog 93 #[.slice A l.length c,.func (.func 92) #[] #[]] w fun e w' => e = .returned (.bool (l.any zcW)) ∧ w = w' := by
 have HR := za.mk hr
 have HC := za.mk hc
 clear hr hc
 have HA := za.mk (ziv zcW l)
 go_enter Tryz.func93,Tryz.ntmps93
 go_wp2_with (go_at_call 99;(with_reducible refine (zaP.idx _ _ _ _ HR.out HC.out).mono ?_);rintro e w1 ⟨rfl,rfl⟩)
 go_ret
 exact ⟨by rw [← HA.out];rfl,rfl⟩
def zc8 (o q : Int) (l : List ByteArray) : Bool := decide (1 ≤ o) && decide (o ≤ 64) && decide (1 ≤ q) && decide (q ≤ 1073741824) && decide (1 ≤ l.length) && decide (l.length ≤ 4) && !l.any zcW
def zaP.f (a0_0 : Int) (a0_1 : Int) (l0_2 : List ByteArray) : Option (Bool) := some (zc8 a0_0 a0_1 l0_2)
theorem zaP.walk (a0_0 : Int) (a0_1 : Int) (A : Option Addr) (c : Nat) (l : List ByteArray) (w : World) (hr : Kd.C Kd.string w A l.length l) (hc : l.length ≤ c) :
  Calls Tryz.prog 65 #[.agg #[.int .i64 a0_0,.int .i64 a0_1,.slice A l.length c]] w fun e w' => e = .returned (.bool (zc8 a0_0 a0_1 l)) ∧ Below w.heap.size w w' := by
 have HR := za.mk hr
 have HC := za.mk hc
 clear hr hc
 have HW := fun (o : Obj) => Kd.C_below HR.out (Below.alloc (Below.refl w.heap.size w) (Nat.le_refl _) o)
 have HW' := za.mk HW
 clear HW
 go_enter Tryz.func65,Tryz.ntmps65
 go_wp2_with (go_at_call 93;(with_reducible refine (zaP.contains _ _ _ _ (HW'.out _) HC.out).mono ?_);rintro e w1 ⟨rfl,rfl⟩)
 all_goals go_ret
 all_goals refine ⟨may_ret ?_,(Below.refl _ _).alloc (Nat.le_refl _) _⟩
 all_goals (unfold zc8;simp;try omega)
theorem zaP.calls (a0_0 : Int) (a0_1 : Int) (A0_2 : Option Addr) (c0_2 : Nat) (l0_2 : List ByteArray) (r : Bool) (w : World) (hr0_2 : Kd.C Kd.string w A0_2 l0_2.length l0_2) (hc0_2 : l0_2.length ≤ c0_2) (h : zaP.f a0_0 a0_1 l0_2 = some r) :
  Calls Tryz.prog 65 #[.agg #[.int .i64 a0_0,.int .i64 a0_1,.slice A0_2 l0_2.length c0_2]] w fun e w' => e = .returned (.bool r) ∧ Below w.heap.size w w' := by
 obtain rfl := Option.some.inj h
 exact zaP.walk a0_0 a0_1 A0_2 c0_2 l0_2 w hr0_2 hc0_2
end Go.Proofs.YtfhbeonhnhjikaaGreat.Px