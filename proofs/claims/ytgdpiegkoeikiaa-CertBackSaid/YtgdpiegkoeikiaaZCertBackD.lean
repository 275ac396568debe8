/- Part 4 of 30 of the proof of the law CertBack: what is proved is the statement at the end of the last part; its conditions are those of the given row. -/
import Derived.Test.YtgdpiegkoeikiaaProg
import Derived.WalkLawsBesides
import Derived.Test.YtgdpiegkoeikiaaZCertBackC
namespace Go.Proofs.Ytgdpiegkoeikiaa.Px
open Go.RowKit Go.Proofs.YtgdpiegkoeikiaaW.PrintWords Go.Proofs.YtgdpiegkoeikiaaW.PrintLast Go.Proofs.YtgdpiegkoeikiaaW.PrintMore
attribute [local go_sem] zx zz zJ zK zn zo zy zA
set_option linter.unusedVariables false
set_option linter.unusedSimpArgs false
theorem hBq {B_ : Nat} {w_ w_' : World} (h_ : Below B_ w_ w_' := by repeat (first | (with_reducible first | exact HB.out | apply zI | apply zk | apply zB) | exact HB.out)) : Below B_ w_ w_' := h_
theorem hCq {B_ : Nat} {w_ w_' : World} (h_ : Below B_ w_ w_' := by repeat (first | (with_reducible first | exact HB.out | apply zI | apply zk | apply zB | refine zw ?_ (zc.out (by with_reducible assumption))) | exact HB.out)) : Below B_ w_ w_' := h_
def errW : Option Int → Value
 | none => .nilIface
 | some c => .iface 0 (.int .i64 c)
theorem zbk : errW none = .nilIface := rfl
theorem zbl (c : Int) : errW (some c) = .iface 0 (.int .i64 c) := rfl
theorem info9 : (Try.prog.info? 9).map (fun i => (i.zero,i.size,i.bytes)) = some (some (.string ⟨#[]⟩),1,16) := by kernel_rfl
theorem info107 : (Try.prog.info? 107).map (fun i => (i.zero,i.size,i.bytes)) = some (some (.agg #[(.int .i64 0),(.int .i64 0),(.slice none 0 0)]),3,40) := by kernel_rfl
structure S101 where
 f0 : Int
 f1 : Int
structure zW where
 f0 : Int
 f1 : Int
 f2 : (List ByteArray)
def z107 : zW := ⟨(0 : Int),(0 : Int),([] : List ByteArray)⟩
def zb0 : Kd zW := Kd.iso (Kd.pair (Kd.int .i64) (Kd.pair (Kd.int .i64) (Kd.slice 9 Kd.string))) (fun x : zW => (x.f0,x.f1,x.f2))
theorem ziL {w : World} {x : zW} {cs : List Value} (h : zb0.K w x cs) : ∃ A2 c2,cs = [.int .i64 x.f0,.int .i64 x.f1,.slice A2 x.f2.length c2] ∧ x.f2.length ≤ c2 ∧ Kd.string.C w A2 x.f2.length x.f2 := by
 obtain ⟨_,_,rfl,rfl,⟨_,_,rfl,rfl,⟨A2,c2,rfl,l2,g2⟩⟩⟩ := h
 exact ⟨A2,c2,rfl,l2,g2⟩
theorem k107_mkM (w : World) (base : Nat) (ok : Nat → Prop) (x : zW) {v2 : Value} (g2 : Kd.string.R 9 w base ok v2 x.f2) : zb0.M w base ok x [.int .i64 x.f0,.int .i64 x.f1,v2] := ⟨[.int .i64 x.f0],[.int .i64 x.f1,v2],rfl,rfl,⟨[.int .i64 x.f1],[v2],rfl,rfl,⟨v2,rfl,g2⟩⟩⟩
def zL (xs : List zW) (i : Int) : zW := xs.getD i.toNat z107
theorem zbH {w : World} {A : Option Addr} {n : Nat} {xs : List zW} (h : Kd.C zb0 w A n xs) (i : Int) (h0 : 0 ≤ i) (h1 : i < n) : ∃ ad A2 c2,A = some ad ∧ w.cell? (ad.add (i.toNat * 3)) = some (.int .i64 (zL xs i).f0) ∧ w.cell? ⟨(ad.add (i.toNat * 3)).block,(ad.add (i.toNat * 3)).off + 1,none⟩ = some (.int .i64 (zL xs i).f1) ∧ w.cell? ⟨(ad.add (i.toNat * 3)).block,(ad.add (i.toNat * 3)).off + 2,none⟩ = some (.slice A2 (zL xs i).f2.length c2) ∧ (zL xs i).f2.length ≤ c2 ∧ Kd.string.C w A2 (zL xs i).f2.length (zL xs i).f2 := by
 obtain ⟨ad,c,e,_,hK,hc0⟩ := Kd.C_get h z107 i h0 h1
 have hc : ∀ j u,c[j]? = some u → w.cell? (ad.add (i.toNat * 3 + j)) = some u := hc0
 obtain ⟨A2,c2,rfl,l2,g2⟩ := ziL hK
 exact ⟨ad,A2,c2,e,hc 0 _ rfl,by rw [← zeP _ _ 1 (by omega)];exact hc 1 _ rfl,by rw [← zeP _ _ 2 (by omega)];exact hc 2 _ rfl,l2,g2⟩
structure S26 where
 f0 : Int
 f1 : Int
def z26 : S26 := ⟨(0 : Int),(0 : Int)⟩
def k26 : Kd S26 := Kd.iso (Kd.pair (Kd.int .i64) (Kd.int .i64)) (fun x : S26 => (x.f0,x.f1))
theorem k26_open {w : World} {x : S26} {cs : List Value} (h : k26.K w x cs) : cs = [.int .i64 x.f0,.int .i64 x.f1] := by
 obtain ⟨_,_,rfl,rfl,rfl⟩ := h
 exact rfl
structure S28 where
 f0 : Int
 f1 : Int
 f2 : (List zW)
 f3 : (List ByteArray)
 f4 : S26
def z28 : S28 := ⟨(0 : Int),(0 : Int),([] : List zW),([] : List ByteArray),z26⟩
def k28 : Kd S28 := Kd.iso (Kd.pair (Kd.int .i64) (Kd.pair (Kd.int .i64) (Kd.pair (Kd.slice 107 zb0) (Kd.pair (Kd.slice 9 Kd.string) k26)))) (fun x : S28 => (x.f0,x.f1,x.f2,x.f3,x.f4))
theorem k28_open {w : World} {x : S28} {cs : List Value} (h : k28.K w x cs) : ∃ A2 c2 A3 c3,cs = [.int .i64 x.f0,.int .i64 x.f1,.slice A2 x.f2.length c2,.slice A3 x.f3.length c3,.int .i64 x.f4.f0,.int .i64 x.f4.f1] ∧ x.f2.length ≤ c2 ∧ zb0.C w A2 x.f2.length x.f2 ∧ x.f3.length ≤ c3 ∧ Kd.string.C w A3 x.f3.length x.f3 := by
 obtain ⟨_,_,rfl,rfl,⟨_,_,rfl,rfl,⟨_,_,rfl,⟨A2,c2,rfl,l2,g2⟩,⟨_,_,rfl,⟨A3,c3,rfl,l3,g3⟩,s4⟩⟩⟩⟩ := h
 obtain rfl := k26_open s4
 exact ⟨A2,c2,A3,c3,rfl,l2,g2,l3,g3⟩
structure S36 where
 f0 : S28
 f1 : Int
def z36 : S36 := ⟨z28,(0 : Int)⟩
def k36 : Kd S36 := Kd.iso (Kd.pair k28 (Kd.int .u64)) (fun x : S36 => (x.f0,x.f1))
theorem k36_open {w : World} {x : S36} {cs : List Value} (h : k36.K w x cs) : ∃ A2 c2 A3 c3,cs = [.int .i64 x.f0.f0,.int .i64 x.f0.f1,.slice A2 x.f0.f2.length c2,.slice A3 x.f0.f3.length c3,.int .i64 x.f0.f4.f0,.int .i64 x.f0.f4.f1,.int .u64 x.f1] ∧ x.f0.f2.length ≤ c2 ∧ zb0.C w A2 x.f0.f2.length x.f0.f2 ∧ x.f0.f3.length ≤ c3 ∧ Kd.string.C w A3 x.f0.f3.length x.f0.f3 := by
 obtain ⟨_,_,rfl,s0,rfl⟩ := h
 obtain ⟨A2,c2,A3,c3,rfl,l2,g2,l3,g3⟩ := k28_open s0
 exact ⟨A2,c2,A3,c3,rfl,l2,g2,l3,g3⟩
structure S42 where
 f0 : Int
 f1 : Int
 f2 : Int
 f3 : ByteArray
structure S48 where
 f0 : Int
 f1 : Int
 f2 : ByteArray
structure S86 where
 f0 : Int
 f1 : ByteArray
def z86 : S86 := ⟨(0 : Int),(⟨#[]⟩ : ByteArray)⟩
def k86 : Kd S86 := Kd.iso (Kd.pair (Kd.int .i64) Kd.string) (fun x : S86 => (x.f0,x.f1))
theorem k86_open {w : World} {x : S86} {cs : List Value} (h : k86.K w x cs) : cs = [.int .i64 x.f0,.string x.f1] := by
 obtain ⟨_,_,rfl,rfl,rfl⟩ := h
 exact rfl
theorem zha (w : World) (base : Nat) (ok : Nat → Prop) (x : S86)  : k86.M w base ok x [.int .i64 x.f0,.string x.f1] := ⟨[.int .i64 x.f0],[.string x.f1],rfl,rfl,rfl⟩
def zcf (xs : List S86) (i : Int) : S86 := xs.getD i.toNat z86
theorem zh3 {w : World} {A : Option Addr} {n : Nat} {xs : List S86} (h : Kd.C k86 w A n xs) (i : Int) (h0 : 0 ≤ i) (h1 : i < n) : ∃ ad ,A = some ad ∧ w.cell? (ad.add (i.toNat * 2)) = some (.int .i64 (zcf xs i).f0) ∧ w.cell? ⟨(ad.add (i.toNat * 2)).block,(ad.add (i.toNat * 2)).off + 1,none⟩ = some (.string (zcf xs i).f1) := by
 obtain ⟨ad,c,e,_,hK,hc0⟩ := Kd.C_get h z86 i h0 h1
 have hc : ∀ j u,c[j]? = some u → w.cell? (ad.add (i.toNat * 2 + j)) = some u := hc0
 obtain rfl := k86_open hK
 exact ⟨ad,e,hc 0 _ rfl,by rw [← zeP _ _ 1 (by omega)];exact hc 1 _ rfl⟩
theorem hGq {A_ B_ : Prop} (x_ : A_) (h_ : A_ → B_ := by intro x_;(with_reducible repeat (first | refine zd ?_ _ | refine zf ?_ | refine ze ?_ _));exact x_) : B_ := h_ x_
theorem hDq {B_ : Prop} (h_ : B_ := by first | rfl | (simp;done) | (simp [*];done)) : B_ := h_
theorem hEq {B_ : Prop} (h_ : B_ := by repeat (first | exact zaF.refl _ | apply zaF.step)) : B_ := h_
theorem hHq {B_ : Prop} (h_ : B_ := by first | rfl | (simp [zbk,zbl] <;> rfl) | (simp [*,zbk,zbl] <;> rfl)) : B_ := h_
theorem hFq {p_ : Prop} [Decidable p_] (h_ : decide p_ = true := by first | (with_reducible assumption) | assumption) : p_ := of_decide_eq_true h_
def zba.f (a0 : Int) : Option (Int) := some (Go.bits .and .i64 (wrap64 (IntKind.u64.wrap ((IntKind.u64.wrap ((IntKind.u64.wrap ((Go.bits .and .u64 (IntKind.u64.wrap (((IntKind.u64.wrap ((Go.bits .and .u64 ((IntKind.u64.wrap ((Go.bits .and .u64 (a0 / 2) 6148914691236517205) + (Go.bits .and .u64 a0 6148914691236517205))) / 4) 3689348814741910323) + (Go.bits .and .u64 (IntKind.u64.wrap ((Go.bits .and .u64 (a0 / 2) 6148914691236517205) + (Go.bits .and .u64 a0 6148914691236517205))) 3689348814741910323))) / 16) + (IntKind.u64.wrap ((Go.bits .and .u64 ((IntKind.u64.wrap ((Go.bits .and .u64 (a0 / 2) 6148914691236517205) + (Go.bits .and .u64 a0 6148914691236517205))) / 4) 3689348814741910323) + (Go.bits .and .u64 (IntKind.u64.wrap ((Go.bits .and .u64 (a0 / 2) 6148914691236517205) + (Go.bits .and .u64 a0 6148914691236517205))) 3689348814741910323))))) 1085102592571150095) + ((Go.bits .and .u64 (IntKind.u64.wrap (((IntKind.u64.wrap ((Go.bits .and .u64 ((IntKind.u64.wrap ((Go.bits .and .u64 (a0 / 2) 6148914691236517205) + (Go.bits .and .u64 a0 6148914691236517205))) / 4) 3689348814741910323) + (Go.bits .and .u64 (IntKind.u64.wrap ((Go.bits .and .u64 (a0 / 2) 6148914691236517205) + (Go.bits .and .u64 a0 6148914691236517205))) 3689348814741910323))) / 16) + (IntKind.u64.wrap ((Go.bits .and .u64 ((IntKind.u64.wrap ((Go.bits .and .u64 (a0 / 2) 6148914691236517205) + (Go.bits .and .u64 a0 6148914691236517205))) / 4) 3689348814741910323) + (Go.bits .and .u64 (IntKind.u64.wrap ((Go.bits .and .u64 (a0 / 2) 6148914691236517205) + (Go.bits .and .u64 a0 6148914691236517205))) 3689348814741910323))))) 1085102592571150095) / 256))) + ((IntKind.u64.wrap ((Go.bits .and .u64 (IntKind.u64.wrap (((IntKind.u64.wrap ((Go.bits .and .u64 ((IntKind.u64.wrap ((Go.bits .and .u64 (a0 / 2) 6148914691236517205) + (Go.bits .and .u64 a0 6148914691236517205))) / 4) 3689348814741910323) + (Go.bits .and .u64 (IntKind.u64.wrap ((Go.bits .and .u64 (a0 / 2) 6148914691236517205) + (Go.bits .and .u64 a0 6148914691236517205))) 3689348814741910323))) / 16) + (IntKind.u64.wrap ((Go.bits .and .u64 ((IntKind.u64.wrap ((Go.bits .and .u64 (a0 / 2) 6148914691236517205) + (Go.bits .and .u64 a0 6148914691236517205))) / 4) 3689348814741910323) + (Go.bits .and .u64 (IntKind.u64.wrap ((Go.bits .and .u64 (a0 / 2) 6148914691236517205) + (Go.bits .and .u64 a0 6148914691236517205))) 3689348814741910323))))) 1085102592571150095) + ((Go.bits .and .u64 (IntKind.u64.wrap (((IntKind.u64.wrap ((Go.bits .and .u64 ((IntKind.u64.wrap ((Go.bits .and .u64 (a0 / 2) 6148914691236517205) + (Go.bits .and .u64 a0 6148914691236517205))) / 4) 3689348814741910323) + (Go.bits .and .u64 (IntKind.u64.wrap ((Go.bits .and .u64 (a0 / 2) 6148914691236517205) + (Go.bits .and .u64 a0 6148914691236517205))) 3689348814741910323))) / 16) + (IntKind.u64.wrap ((Go.bits .and .u64 ((IntKind.u64.wrap ((Go.bits .and .u64 (a0 / 2) 6148914691236517205) + (Go.bits .and .u64 a0 6148914691236517205))) / 4) 3689348814741910323) + (Go.bits .and .u64 (IntKind.u64.wrap ((Go.bits .and .u64 (a0 / 2) 6148914691236517205) + (Go.bits .and .u64 a0 6148914691236517205))) 3689348814741910323))))) 1085102592571150095) / 256))) / 65536))) + ((IntKind.u64.wrap ((IntKind.u64.wrap ((Go.bits .and .u64 (IntKind.u64.wrap (((IntKind.u64.wrap ((Go.bits .and .u64 ((IntKind.u64.wrap ((Go.bits .and .u64 (a0 / 2) 6148914691236517205) + (Go.bits .and .u64 a0 6148914691236517205))) / 4) 3689348814741910323) + (Go.bits .and .u64 (IntKind.u64.wrap ((Go.bits .and .u64 (a0 / 2) 6148914691236517205) + (Go.bits .and .u64 a0 6148914691236517205))) 3689348814741910323))) / 16) + (IntKind.u64.wrap ((Go.bits .and .u64 ((IntKind.u64.wrap ((Go.bits .and .u64 (a0 / 2) 6148914691236517205) + (Go.bits .and .u64 a0 6148914691236517205))) / 4) 3689348814741910323) + (Go.bits .and .u64 (IntKind.u64.wrap ((Go.bits .and .u64 (a0 / 2) 6148914691236517205) + (Go.bits .and .u64 a0 6148914691236517205))) 3689348814741910323))))) 1085102592571150095) + ((Go.bits .and .u64 (IntKind.u64.wrap (((IntKind.u64.wrap ((Go.bits .and .u64 ((IntKind.u64.wrap ((Go.bits .and .u64 (a0 / 2) 6148914691236517205) + (Go.bits .and .u64 a0 6148914691236517205))) / 4) 3689348814741910323) + (Go.bits .and .u64 (IntKind.u64.wrap ((Go.bits .and .u64 (a0 / 2) 6148914691236517205) + (Go.bits .and .u64 a0 6148914691236517205))) 3689348814741910323))) / 16) + (IntKind.u64.wrap ((Go.bits .and .u64 ((IntKind.u64.wrap ((Go.bits .and .u64 (a0 / 2) 6148914691236517205) + (Go.bits .and .u64 a0 6148914691236517205))) / 4) 3689348814741910323) + (Go.bits .and .u64 (IntKind.u64.wrap ((Go.bits .and .u64 (a0 / 2) 6148914691236517205) + (Go.bits .and .u64 a0 6148914691236517205))) 3689348814741910323))))) 1085102592571150095) / 256))) + ((IntKind.u64.wrap ((Go.bits .and .u64 (IntKind.u64.wrap (((IntKind.u64.wrap ((Go.bits .and .u64 ((IntKind.u64.wrap ((Go.bits .and .u64 (a0 / 2) 6148914691236517205) + (Go.bits .and .u64 a0 6148914691236517205))) / 4) 3689348814741910323) + (Go.bits .and .u64 (IntKind.u64.wrap ((Go.bits .and .u64 (a0 / 2) 6148914691236517205) + (Go.bits .and .u64 a0 6148914691236517205))) 3689348814741910323))) / 16) + (IntKind.u64.wrap ((Go.bits .and .u64 ((IntKind.u64.wrap ((Go.bits .and .u64 (a0 / 2) 6148914691236517205) + (Go.bits .and .u64 a0 6148914691236517205))) / 4) 3689348814741910323) + (Go.bits .and .u64 (IntKind.u64.wrap ((Go.bits .and .u64 (a0 / 2) 6148914691236517205) + (Go.bits .and .u64 a0 6148914691236517205))) 3689348814741910323))))) 1085102592571150095) + ((Go.bits .and .u64 (IntKind.u64.wrap (((IntKind.u64.wrap ((Go.bits .and .u64 ((IntKind.u64.wrap ((Go.bits .and .u64 (a0 / 2) 6148914691236517205) + (Go.bits .and .u64 a0 6148914691236517205))) / 4) 3689348814741910323) + (Go.bits .and .u64 (IntKind.u64.wrap ((Go.bits .and .u64 (a0 / 2) 6148914691236517205) + (Go.bits .and .u64 a0 6148914691236517205))) 3689348814741910323))) / 16) + (IntKind.u64.wrap ((Go.bits .and .u64 ((IntKind.u64.wrap ((Go.bits .and .u64 (a0 / 2) 6148914691236517205) + (Go.bits .and .u64 a0 6148914691236517205))) / 4) 3689348814741910323) + (Go.bits .and .u64 (IntKind.u64.wrap ((Go.bits .and .u64 (a0 / 2) 6148914691236517205) + (Go.bits .and .u64 a0 6148914691236517205))) 3689348814741910323))))) 1085102592571150095) / 256))) / 65536))) / 4294967296)))) 127)
set_option maxHeartbeats 8000000 in
set_option maxRecDepth 100000 in
theorem zba.calls (a0 : Int) (r : Int) (w : World) (h : zba.f a0 = some r) :
  Calls Try.prog 110 #[.int .u64 a0] w fun e w' => e = .returned (.int .i64 r) ∧ zaF w w' := by
 have H : (some (Go.bits .and .i64 (wrap64 (IntKind.u64.wrap ((IntKind.u64.wrap ((IntKind.u64.wrap ((Go.bits .and .u64 (IntKind.u64.wrap (((IntKind.u64.wrap ((Go.bits .and .u64 ((IntKind.u64.wrap ((Go.bits .and .u64 (a0 / 2) 6148914691236517205) + (Go.bits .and .u64 a0 6148914691236517205))) / 4) 3689348814741910323) + (Go.bits .and .u64 (IntKind.u64.wrap ((Go.bits .and .u64 (a0 / 2) 6148914691236517205) + (Go.bits .and .u64 a0 6148914691236517205))) 3689348814741910323))) / 16) + (IntKind.u64.wrap ((Go.bits .and .u64 ((IntKind.u64.wrap ((Go.bits .and .u64 (a0 / 2) 6148914691236517205) + (Go.bits .and .u64 a0 6148914691236517205))) / 4) 3689348814741910323) + (Go.bits .and .u64 (IntKind.u64.wrap ((Go.bits .and .u64 (a0 / 2) 6148914691236517205) + (Go.bits .and .u64 a0 6148914691236517205))) 3689348814741910323))))) 1085102592571150095) + ((Go.bits .and .u64 (IntKind.u64.wrap (((IntKind.u64.wrap ((Go.bits .and .u64 ((IntKind.u64.wrap ((Go.bits .and .u64 (a0 / 2) 6148914691236517205) + (Go.bits .and .u64 a0 6148914691236517205))) / 4) 3689348814741910323) + (Go.bits .and .u64 (IntKind.u64.wrap ((Go.bits .and .u64 (a0 / 2) 6148914691236517205) + (Go.bits .and .u64 a0 6148914691236517205))) 3689348814741910323))) / 16) + (IntKind.u64.wrap ((Go.bits .and .u64 ((IntKind.u64.wrap ((Go.bits .and .u64 (a0 / 2) 6148914691236517205) + (Go.bits .and .u64 a0 6148914691236517205))) / 4) 3689348814741910323) + (Go.bits .and .u64 (IntKind.u64.wrap ((Go.bits .and .u64 (a0 / 2) 6148914691236517205) + (Go.bits .and .u64 a0 6148914691236517205))) 3689348814741910323))))) 1085102592571150095) / 256))) + ((IntKind.u64.wrap ((Go.bits .and .u64 (IntKind.u64.wrap (((IntKind.u64.wrap ((Go.bits .and .u64 ((IntKind.u64.wrap ((Go.bits .and .u64 (a0 / 2) 6148914691236517205) + (Go.bits .and .u64 a0 6148914691236517205))) / 4) 3689348814741910323) + (Go.bits .and .u64 (IntKind.u64.wrap ((Go.bits .and .u64 (a0 / 2) 6148914691236517205) + (Go.bits .and .u64 a0 6148914691236517205))) 3689348814741910323))) / 16) + (IntKind.u64.wrap ((Go.bits .and .u64 ((IntKind.u64.wrap ((Go.bits .and .u64 (a0 / 2) 6148914691236517205) + (Go.bits .and .u64 a0 6148914691236517205))) / 4) 3689348814741910323) + (Go.bits .and .u64 (IntKind.u64.wrap ((Go.bits .and .u64 (a0 / 2) 6148914691236517205) + (Go.bits .and .u64 a0 6148914691236517205))) 3689348814741910323))))) 1085102592571150095) + ((Go.bits .and .u64 (IntKind.u64.wrap (((IntKind.u64.wrap ((Go.bits .and .u64 ((IntKind.u64.wrap ((Go.bits .and .u64 (a0 / 2) 6148914691236517205) + (Go.bits .and .u64 a0 6148914691236517205))) / 4) 3689348814741910323) + (Go.bits .and .u64 (IntKind.u64.wrap ((Go.bits .and .u64 (a0 / 2) 6148914691236517205) + (Go.bits .and .u64 a0 6148914691236517205))) 3689348814741910323))) / 16) + (IntKind.u64.wrap ((Go.bits .and .u64 ((IntKind.u64.wrap ((Go.bits .and .u64 (a0 / 2) 6148914691236517205) + (Go.bits .and .u64 a0 6148914691236517205))) / 4) 3689348814741910323) + (Go.bits .and .u64 (IntKind.u64.wrap ((Go.bits .and .u64 (a0 / 2) 6148914691236517205) + (Go.bits .and .u64 a0 6148914691236517205))) 3689348814741910323))))) 1085102592571150095) / 256))) / 65536))) + ((IntKind.u64.wrap ((IntKind.u64.wrap ((Go.bits .and .u64 (IntKind.u64.wrap (((IntKind.u64.wrap ((Go.bits .and .u64 ((IntKind.u64.wrap ((Go.bits .and .u64 (a0 / 2) 6148914691236517205) + (Go.bits .and .u64 a0 6148914691236517205))) / 4) 3689348814741910323) + (Go.bits .and .u64 (IntKind.u64.wrap ((Go.bits .and .u64 (a0 / 2) 6148914691236517205) + (Go.bits .and .u64 a0 6148914691236517205))) 3689348814741910323))) / 16) + (IntKind.u64.wrap ((Go.bits .and .u64 ((IntKind.u64.wrap ((Go.bits .and .u64 (a0 / 2) 6148914691236517205) + (Go.bits .and .u64 a0 6148914691236517205))) / 4) 3689348814741910323) + (Go.bits .and .u64 (IntKind.u64.wrap ((Go.bits .and .u64 (a0 / 2) 6148914691236517205) + (Go.bits .and .u64 a0 6148914691236517205))) 3689348814741910323))))) 1085102592571150095) + ((Go.bits .and .u64 (IntKind.u64.wrap (((IntKind.u64.wrap ((Go.bits .and .u64 ((IntKind.u64.wrap ((Go.bits .and .u64 (a0 / 2) 6148914691236517205) + (Go.bits .and .u64 a0 6148914691236517205))) / 4) 3689348814741910323) + (Go.bits .and .u64 (IntKind.u64.wrap ((Go.bits .and .u64 (a0 / 2) 6148914691236517205) + (Go.bits .and .u64 a0 6148914691236517205))) 3689348814741910323))) / 16) + (IntKind.u64.wrap ((Go.bits .and .u64 ((IntKind.u64.wrap ((Go.bits .and .u64 (a0 / 2) 6148914691236517205) + (Go.bits .and .u64 a0 6148914691236517205))) / 4) 3689348814741910323) + (Go.bits .and .u64 (IntKind.u64.wrap ((Go.bits .and .u64 (a0 / 2) 6148914691236517205) + (Go.bits .and .u64 a0 6148914691236517205))) 3689348814741910323))))) 1085102592571150095) / 256))) + ((IntKind.u64.wrap ((Go.bits .and .u64 (IntKind.u64.wrap (((IntKind.u64.wrap ((Go.bits .and .u64 ((IntKind.u64.wrap ((Go.bits .and .u64 (a0 / 2) 6148914691236517205) + (Go.bits .and .u64 a0 6148914691236517205))) / 4) 3689348814741910323) + (Go.bits .and .u64 (IntKind.u64.wrap ((Go.bits .and .u64 (a0 / 2) 6148914691236517205) + (Go.bits .and .u64 a0 6148914691236517205))) 3689348814741910323))) / 16) + (IntKind.u64.wrap ((Go.bits .and .u64 ((IntKind.u64.wrap ((Go.bits .and .u64 (a0 / 2) 6148914691236517205) + (Go.bits .and .u64 a0 6148914691236517205))) / 4) 3689348814741910323) + (Go.bits .and .u64 (IntKind.u64.wrap ((Go.bits .and .u64 (a0 / 2) 6148914691236517205) + (Go.bits .and .u64 a0 6148914691236517205))) 3689348814741910323))))) 1085102592571150095) + ((Go.bits .and .u64 (IntKind.u64.wrap (((IntKind.u64.wrap ((Go.bits .and .u64 ((IntKind.u64.wrap ((Go.bits .and .u64 (a0 / 2) 6148914691236517205) + (Go.bits .and .u64 a0 6148914691236517205))) / 4) 3689348814741910323) + (Go.bits .and .u64 (IntKind.u64.wrap ((Go.bits .and .u64 (a0 / 2) 6148914691236517205) + (Go.bits .and .u64 a0 6148914691236517205))) 3689348814741910323))) / 16) + (IntKind.u64.wrap ((Go.bits .and .u64 ((IntKind.u64.wrap ((Go.bits .and .u64 (a0 / 2) 6148914691236517205) + (Go.bits .and .u64 a0 6148914691236517205))) / 4) 3689348814741910323) + (Go.bits .and .u64 (IntKind.u64.wrap ((Go.bits .and .u64 (a0 / 2) 6148914691236517205) + (Go.bits .and .u64 a0 6148914691236517205))) 3689348814741910323))))) 1085102592571150095) / 256))) / 65536))) / 4294967296)))) 127)) = some r := h
 clear h
 obtain rfl := Option.some.inj H
 go_enter Try.func110,Try.ntmps110
 go_wp2
 go_ret
 exact ⟨hDq,hEq⟩
def zbi.f (a0 : Int) : Option (Int) := (zba.f a0).bind fun t268 => (some t268)
set_option maxHeartbeats 8000000 in
set_option maxRecDepth 100000 in
theorem zbi.calls (a0 : Int) (r : Int) (w : World) (h : zbi.f a0 = some r) :
  Calls Try.prog 76 #[.int .u64 a0] w fun e w' => e = .returned (.int .i64 r) ∧ zaF w w' := by
 have H : ((zba.f a0).bind fun t268 => (some t268)) = some r := h
 clear h
 replace H := Option.bind_eq_some_iff.mp H
 obtain ⟨t268,A20,H⟩ := H
 replace H : (some t268) = some r := H
 have A2 := zc.mk A20
 clear A20
 obtain rfl := Option.some.inj H
 go_enter Try.func76,Try.ntmps76
 go_wp2_with (first | ((with_reducible refine zp (f := 110) rfl ?_);refine z6 (some 4) rfl rfl Try.func110 (by kernel_rfl) rfl #[.int .u64 a0] rfl (by (try simp only [List.map_toArray,List.map_cons,List.map_nil]);first | done | rfl | (simp only [List.length_drop,List.length_take];rfl)) ?_;(with_reducible refine (zba.calls a0 t268 _ A2.out).mono ?_);rintro e w' ⟨rfl,⟨nd,rfl⟩⟩;refine ⟨_,rfl,?_⟩))
 go_ret
 exact ⟨hDq,hEq⟩
def zaA.f (a0 : Int) : Option (Bool) := if a0 ≥ 4 then (if a0 ≤ 64 then (some ((Int.tmod a0 3) == 1)) else (some false)) else (some false)
set_option maxHeartbeats 8000000 in
set_option maxRecDepth 100000 in
theorem zaA.calls (a0 : Int) (r : Bool) (w : World) (h : zaA.f a0 = some r) :
  Calls Try.prog 89 #[.int .i64 a0] w fun e w' => e = .returned (.bool r) ∧ zaF w w' := by
 have H : (if a0 ≥ 4 then (if a0 ≤ 64 then (some ((Int.tmod a0 3) == 1)) else (some false)) else (some false)) = some r := h
 clear h
 by_cases c2 : a0 ≥ 4
 ·rw [if_pos c2] at H
  have c2b0 : decide (4 ≤ a0) = true := decide_eq_true c2
  clear c2
  by_cases c3 : a0 ≤ 64
  ·rw [if_pos c3] at H
   have c3b0 : decide (a0 ≤ 64) = true := decide_eq_true c3
   clear c3
   obtain rfl := Option.some.inj H
   go_enter Try.func89,Try.ntmps89
   go_wp2
   go_ret
   exact ⟨hDq,hEq⟩
  ·rw [if_neg c3] at H
   have c3b0 : decide (a0 ≤ 64) = false := decide_eq_false c3
   clear c3
   obtain rfl := Option.some.inj H
   go_enter Try.func89,Try.ntmps89
   go_wp2
   go_ret
   exact ⟨hDq,hEq⟩
 ·rw [if_neg c2] at H
  have c2b0 : decide (4 ≤ a0) = false := decide_eq_false c2
  clear c2
  obtain rfl := Option.some.inj H
  go_enter Try.func89,Try.ntmps89
  go_wp2
  go_ret
  exact ⟨hDq,hEq⟩
def zbz.f (a0 : Int) : Option (Int) := (zaA.f a0).bind fun t135 => (if t135 = true then (some (wrap64 (Int.tdiv (wrap64 (a0 - 1)) 3))) else (some 0))
set_option maxHeartbeats 8000000 in
set_option maxRecDepth 100000 in
theorem zbz.calls (a0 : Int) (r : Int) (w : World) (h : zbz.f a0 = some r) :
  Calls Try.prog 111 #[.int .i64 a0] w fun e w' => e = .returned (.int .i64 r) ∧ zaF w w' := by
 have H : ((zaA.f a0).bind fun t135 => (if t135 = true then (some (wrap64 (Int.tdiv (wrap64 (a0 - 1)) 3))) else (some 0))) = some r := h
 clear h
 replace H := Option.bind_eq_some_iff.mp H
 obtain ⟨t135,A20,H⟩ := H
 replace H : (if t135 = true then (some (wrap64 (Int.tdiv (wrap64 (a0 - 1)) 3))) else (some 0)) = some r := H
 have A2 := zc.mk A20
 clear A20
 by_cases c3 : t135 = true
 ·subst c3
  have H1 : (some (wrap64 (Int.tdiv (wrap64 (a0 - 1)) 3))) = some r := by rw [if_pos rfl] at H;exact H
  clear H
  have H := H1
  clear H1
  obtain rfl := Option.some.inj H
  go_enter Try.func111,Try.ntmps111
  go_wp2_with (first | ((with_reducible refine zp (f := 89) rfl ?_);refine z6 (some 4) rfl rfl Try.func89 (by kernel_rfl) rfl #[.int .i64 a0] rfl (by (try simp only [List.map_toArray,List.map_cons,List.map_nil]);first | done | rfl | (simp only [List.length_drop,List.length_take];rfl)) ?_;(with_reducible refine (zaA.calls a0 true _ A2.out).mono ?_);rintro e w' ⟨rfl,⟨nd,rfl⟩⟩;refine ⟨_,rfl,?_⟩))
  go_ret
  exact ⟨hDq,hEq⟩
 ·replace c3 := Bool.eq_false_iff.mpr c3
  subst c3
  have H1 : (some 0) = some r := by rw [if_neg (show ¬ (false = true) by decide)] at H;exact H
  clear H
  have H := H1
  clear H1
  obtain rfl := Option.some.inj H
  go_enter Try.func111,Try.ntmps111
  go_wp2_with (first | ((with_reducible refine zp (f := 89) rfl ?_);refine z6 (some 4) rfl rfl Try.func89 (by kernel_rfl) rfl #[.int .i64 a0] rfl (by (try simp only [List.map_toArray,List.map_cons,List.map_nil]);first | done | rfl | (simp only [List.length_drop,List.length_take];rfl)) ?_;(with_reducible refine (zaA.calls a0 false _ A2.out).mono ?_);rintro e w' ⟨rfl,⟨nd,rfl⟩⟩;refine ⟨_,rfl,?_⟩))
  go_ret
  exact ⟨hDq,hEq⟩
def zaJ.f (a0 : Int) : Option (Int) := (zaA.f a0).bind fun t136 => (if t136 = true then ((zbz.f a0).bind fun t137 => (some (wrap64 (a0 - t137)))) else (some 0))
set_option maxHeartbeats 8000000 in
set_option maxRecDepth 100000 in
theorem zaJ.calls (a0 : Int) (r : Int) (w : World) (h : zaJ.f a0 = some r) :
  Calls Try.prog 77 #[.int .i64 a0] w fun e w' => e = .returned (.int .i64 r) ∧ zaF w w' := by
 have H : ((zaA.f a0).bind fun t136 => (if t136 = true then ((zbz.f a0).bind fun t137 => (some (wrap64 (a0 - t137)))) else (some 0))) = some r := h
 clear h
 replace H := Option.bind_eq_some_iff.mp H
 obtain ⟨t136,A20,H⟩ := H
 replace H : (if t136 = true then ((zbz.f a0).bind fun t137 => (some (wrap64 (a0 - t137)))) else (some 0)) = some r := H
 have A2 := zc.mk A20
 clear A20
 by_cases c3 : t136 = true
 ·subst c3
  have H1 : ((zbz.f a0).bind fun t137 => (some (wrap64 (a0 - t137)))) = some r := by rw [if_pos rfl] at H;exact H
  clear H
  have H := H1
  clear H1
  replace H := Option.bind_eq_some_iff.mp H
  obtain ⟨t137,A40,H⟩ := H
  replace H : (some (wrap64 (a0 - t137))) = some r := H
  have A4 := zc.mk A40
  clear A40
  obtain rfl := Option.some.inj H
  go_enter Try.func77,Try.ntmps77
  go_wp2_with (first | ((with_reducible refine zp (f := 89) rfl ?_);refine z6 (some 4) rfl rfl Try.func89 (by kernel_rfl) rfl #[.int .i64 a0] rfl (by (try simp only [List.map_toArray,List.map_cons,List.map_nil]);first | done | rfl | (simp only [List.length_drop,List.length_take];rfl)) ?_;(with_reducible refine (zaA.calls a0 true _ A2.out).mono ?_);rintro e w' ⟨rfl,⟨nd,rfl⟩⟩;refine ⟨_,rfl,?_⟩) | ((with_reducible refine zp (f := 111) rfl ?_);refine z6 (some 8) rfl rfl Try.func111 (by kernel_rfl) rfl #[.int .i64 a0] rfl (by (try simp only [List.map_toArray,List.map_cons,List.map_nil]);first | done | rfl | (simp only [List.length_drop,List.length_take];rfl)) ?_;(with_reducible refine (zbz.calls a0 t137 _ A4.out).mono ?_);rintro e w' ⟨rfl,⟨nd,rfl⟩⟩;refine ⟨_,rfl,?_⟩))
  go_ret
  exact ⟨hDq,hEq⟩
 ·replace c3 := Bool.eq_false_iff.mpr c3
  subst c3
  have H1 : (some 0) = some r := by rw [if_neg (show ¬ (false = true) by decide)] at H;exact H
  clear H
  have H := H1
  clear H1
  obtain rfl := Option.some.inj H
  go_enter Try.func77,Try.ntmps77
  go_wp2_with (first | ((with_reducible refine zp (f := 89) rfl ?_);refine z6 (some 4) rfl rfl Try.func89 (by kernel_rfl) rfl #[.int .i64 a0] rfl (by (try simp only [List.map_toArray,List.map_cons,List.map_nil]);first | done | rfl | (simp only [List.length_drop,List.length_take];rfl)) ?_;(with_reducible refine (zaA.calls a0 false _ A2.out).mono ?_);rintro e w' ⟨rfl,⟨nd,rfl⟩⟩;refine ⟨_,rfl,?_⟩))
  go_ret
  exact ⟨hDq,hEq⟩
def zbe.f (a0 : Int) (a1 : Int) : Option (Bool) := if a1 < 0 then (some false) else (if a1 > 64 then (some false) else (if (shr .u64 (a0 / 2) (mx (wrap64 (a1 - 1)) 0)) = 0 then (if a1 > 0 then (some true) else (some (a0 == 0))) else (some false)))
set_option maxHeartbeats 8000000 in
set_option maxRecDepth 100000 in
theorem zbe.calls (a0 : Int) (a1 : Int) (r : Bool) (w : World) (h : zbe.f a0 a1 = some r) :
  Calls Try.prog 75 #[.int .u64 a0,.int .i64 a1] w fun e w' => e = .returned (.bool r) ∧ Below w.heap.size w w' := by
 have HB := zc.mk (Below.refl w.heap.size w)
 have H : (if a1 < 0 then (some false) else (if a1 > 64 then (some false) else (if (shr .u64 (a0 / 2) (mx (wrap64 (a1 - 1)) 0)) = 0 then (if a1 > 0 then (some true) else (some (a0 == 0))) else (some false)))) = some r := h
 clear h
 by_cases c3 : a1 < 0
 ·rw [if_pos c3] at H
  have c3b0 : decide (a1 < 0) = true := decide_eq_true c3
  clear c3
  obtain rfl := Option.some.inj H
  go_enter Try.func75,Try.ntmps75
  go_wp2
  go_ret
  exact ⟨hHq,hBq⟩
 ·rw [if_neg c3] at H
  have c3b0 : decide (a1 < 0) = false := decide_eq_false c3
  clear c3
  by_cases c4 : a1 > 64
  ·rw [if_pos c4] at H
   have c4b0 : decide (64 < a1) = true := decide_eq_true c4
   clear c4
   obtain rfl := Option.some.inj H
   go_enter Try.func75,Try.ntmps75
   go_wp2
   go_ret
   exact ⟨hHq,hBq⟩
  ·rw [if_neg c4] at H
   have c4b0 : decide (64 < a1) = false := decide_eq_false c4
   clear c4
   obtain ⟨ji5,hji5⟩ : ∃ j_ : Int,(mx (wrap64 (a1 - 1)) 0) = j_ := ⟨_,rfl⟩
   replace H : (if (shr .u64 (a0 / 2) (ji5)) = 0 then (if a1 > 0 then (some true) else (some (a0 == 0))) else (some false)) = some r := by first | (rw [hji5] at H;exact H) | (simp only [hji5] at H ⊢;exact H)
   (try (have hji5l : 0 ≤ ji5 := by (rw [← hji5];unfold mx;(repeat' split) <;> omega)))
   (try (have hji5m : 0 ≤ ji5 := by omega))
   have hji5_ : (if (wrap64 (a1 - 1)) < 0 then 0 else (wrap64 (a1 - 1))) = ji5 := hji5
   obtain ⟨ji6,hji6⟩ : ∃ j_ : Int,(shr .u64 (a0 / 2) (ji5)) = j_ := ⟨_,rfl⟩
   replace H : (if (ji6) = 0 then (if a1 > 0 then (some true) else (some (a0 == 0))) else (some false)) = some r := by first | (rw [hji6] at H;exact H) | (simp only [hji6] at H ⊢;exact H)
   have hji6_ : ((a0 / 2) / 2 ^ min (ji5).toNat 64) = ji6 := hji6
   have hji6z : (ji5) ≤ 64 → ((a0 / 2) / 2 ^ (ji5).toNat) = ji6 := zgS hji6
   by_cases c7 : (ji6) = 0
   ·rw [if_pos c7] at H
    have c7b0 : ((ji6) == 0) = true := beq_iff_eq.mpr c7
    have c7b1 : ((ji6) != 0) = false := bne_eq_false_iff_eq.mpr c7
    clear c7
    by_cases c8 : a1 > 0
    ·rw [if_pos c8] at H
     have c8b0 : decide (0 < a1) = true := decide_eq_true c8
     clear c8
     obtain rfl := Option.some.inj H
     go_enter Try.func75,Try.ntmps75
     go_wp2
     go_ret
     exact ⟨by first | rfl | (simp [zbk,zbl] <;> rfl) | (simp only [← hji5,← hji6];first | rfl | (simp [zbk,zbl] <;> rfl)) | (simp [*,zbk,zbl] <;> rfl),hBq⟩
    ·rw [if_neg c8] at H
     have c8b0 : decide (0 < a1) = false := decide_eq_false c8
     clear c8
     obtain rfl := Option.some.inj H
     go_enter Try.func75,Try.ntmps75
     go_wp2
     go_ret
     exact ⟨by first | rfl | (simp [zbk,zbl] <;> rfl) | (simp only [← hji5,← hji6];first | rfl | (simp [zbk,zbl] <;> rfl)) | (simp [*,zbk,zbl] <;> rfl),hBq⟩
   ·rw [if_neg c7] at H
    have c7b0 : ((ji6) == 0) = false := beq_eq_false_iff_ne.mpr c7
    have c7b1 : ((ji6) != 0) = true := bne_iff_ne.mpr c7
    obtain rfl := Option.some.inj H
    go_enter Try.func75,Try.ntmps75
    go_wp2
    go_ret
    exact ⟨by first | rfl | (simp [zbk,zbl] <;> rfl) | (simp only [← hji5,← hji6];first | rfl | (simp [zbk,zbl] <;> rfl)) | (simp [*,zbk,zbl] <;> rfl),hBq⟩
abbrev Bs := List UInt8
def toB (l : Bs) : ByteArray := ⟨l.toArray⟩
def ofB (s : ByteArray) : Bs := s.data.toList
theorem zat (l : Bs) : ofB (toB l) = l := by simp [ofB,toB]
theorem zct (s : ByteArray) : toB (ofB s) = s := by simp [ofB,toB]
theorem zeE {a b : ByteArray} (h : ofB a = ofB b) : a = b := by rw [← zct a,← zct b,h]
theorem zab (s : ByteArray) : (ofB s).length = s.size := by rw [ofB,Array.length_toList];rfl
theorem zX (l : Bs) : (toB l).size = l.length := by rw [← zab,zat]
theorem zfY (a b : ByteArray) : ofB (a ++ b) = ofB a ++ ofB b := by simp [ofB]
theorem za9 (a b : Bs) : toB (a ++ b) = toB a ++ toB b := zeE (by rw [zfY,zat,zat,zat])
theorem zbo (s : ByteArray) : s.toList = ofB s := ByteArray.toList_eq s
theorem zfg (s : ByteArray) (i j : Nat) : ofB (s.extract i j) = ((ofB s).drop i).take (j - i) := by
 simp only [ofB,ByteArray.data_extract,Array.toList_extract,List.extract]
theorem toB_inj {a b : Bs} (h : toB a = toB b) : a = b := by rw [← zat a,← zat b,h]
theorem zh6 (s : ByteArray) (i : Nat) : bt s (i : Int) = (((ofB s).getD i 0).toNat : Int) := by
 unfold bt ofB
 split
 ·rename_i h
  have h' : i < s.data.toList.length := by rw [zfd];simpa using h
  simp [List.getD_eq_getElem?_getD,List.getElem?_eq_getElem h']
  rfl
 ·rename_i h
  have h' : s.data.toList.length ≤ i := by rw [zfd];simp at h;omega
  simp [List.getD_eq_getElem?_getD,List.getElem?_eq_none h']
theorem zbR (xs : List Int) : strOfNums xs = toB (xs.map fun n => UInt8.ofNat n.toNat) := rfl
def be (v : Nat) : Bs := if v = 0 then [] else be (v / 256) ++ [UInt8.ofNat (v % 256)]
termination_by v
decreasing_by omega
theorem zcX : be 0 = [] := by rw [be];simp
theorem zeq {v : Nat} (h : 0 < v) : be v = be (v / 256) ++ [UInt8.ofNat (v % 256)] := by rw [be,if_neg (by omega)]
def val (l : Bs) : Nat := l.foldl (fun a c => a * 256 + c.toNat) 0
theorem zd0 (l : Bs) (c : UInt8) : val (l ++ [c]) = val l * 256 + c.toNat := by simp [val]
theorem val_be (v : Nat) : val (be v) = v := by
 induction v using Nat.strongRecOn with
 | _ v ih =>
  rcases Nat.eq_zero_or_pos v with h | h
  ·subst h;rw [zcX];rfl
  ·rw [zeq h,zd0,ih _ (by omega)]
   have : (UInt8.ofNat (v % 256)).toNat = v % 256 := by simp
   omega
theorem ziH (n : Nat) : ∀ v : Nat,(be v).length ≤ n ↔ v < 256 ^ n := by
 induction n with
 | zero =>
  intro v
  rcases Nat.eq_zero_or_pos v with h | h
  ·subst h;simp [zcX]
  ·rw [zeq h];simp;omega
 | succ n ih =>
  intro v
  rcases Nat.eq_zero_or_pos v with h | h
  ·subst h;simp [zcX,Nat.pow_pos]
  ·rw [zeq h,List.length_append,List.length_singleton,Nat.succ_le_succ_iff,ih,Nat.pow_succ,Nat.mul_comm,Nat.div_lt_iff_lt_mul (by omega),Nat.mul_comm]
theorem ziv {v : Nat} (h : v < 18446744073709551616) : (be v).length ≤ 8 := by
 have : (256 : Nat) ^ 8 = 18446744073709551616 := by decide
 exact (ziH 8 v).2 (by rw [this];exact h)
theorem be_head (v : Nat) (h : 0 < v) : ∃ c t,be v = c :: t ∧ c ≠ 0 := by
 induction v using Nat.strongRecOn with
 | _ v ih =>
  rw [zeq h]
  rcases Nat.eq_zero_or_pos (v / 256) with h0 | h0
  ·rw [h0,zcX]
   refine ⟨_,_,rfl,?_⟩
   have e : v % 256 = v := Nat.mod_eq_of_lt (by omega)
   intro hz
   have := congrArg UInt8.toNat hz
   simp at this
   omega
  ·obtain ⟨c,t,e,hc⟩ := ih (v / 256) (by omega) h0
   exact ⟨c,t ++ [_],by rw [e];rfl,hc⟩
theorem val_lt (l : Bs) : val l < 256 ^ l.length := by
 suffices h : ∀ (r : Bs),val r.reverse < 256 ^ r.length by
  have := h l.reverse;rwa [List.reverse_reverse,List.length_reverse] at this
 intro r
 induction r with
 | nil => simp [val]
 | cons c r ih =>
  rw [List.reverse_cons,zd0,List.length_cons,Nat.pow_succ]
  have := c.toNat_lt
  omega
theorem be_val (l : Bs) (h : ∀ c t,l = c :: t → c ≠ 0) : be (val l) = l := by
 suffices k : ∀ (n : Nat) (l : Bs),l.length = n → (∀ c t,l = c :: t → c ≠ 0) → be (val l) = l ∧ (l ≠ [] → 0 < val l) from (k _ l rfl h).1
 intro n
 induction n with
 | zero => intro l hl _;obtain rfl := List.eq_nil_of_length_eq_zero hl;exact ⟨zcX,fun h => absurd rfl h⟩
 | succ n ih =>
  intro l hl hh
  obtain ⟨r,x,rfl⟩ : ∃ r x,l = r ++ [x] := ⟨l.dropLast,l.getLast (by intro e;subst e;simp at hl),(List.dropLast_concat_getLast _).symm⟩
  have hr : r.length = n := by simpa using hl
  have hrh : ∀ c t,r = c :: t → c ≠ 0 := fun c t e => hh c (t ++ [x]) (by rw [e];rfl)
  obtain ⟨h1,h2⟩ := ih r hr hrh
  have hx := x.toNat_lt
  have hp : 0 < val (r ++ [x]) := by
   rw [zd0]
   rcases r with _ | ⟨c,t⟩
   ·have := hh x [] rfl
    have h0 : x.toNat ≠ 0 := fun e => this (UInt8.toNat_inj.1 (by simpa using e))
    simp [val];omega
   ·have := h2 (by simp);omega
  refine ⟨?_,fun _ => hp⟩
  rw [zeq hp,zd0]
  have e1 : (val r * 256 + x.toNat) / 256 = val r := by omega
  have e2 : (val r * 256 + x.toNat) % 256 = x.toNat := by omega
  rw [e1,e2,h1];simp
def zbx (v : Nat) : Bs := UInt8.ofNat (be v).length :: be v
def zbt (v : Nat) : ByteArray := toB (zbx v)
def zR : Bs → Nat × Bs × Int
 | [] => (0,[],2)
 | c :: t => if 8 < c.toNat then (0,[],3) else if t.length < c.toNat then (0,[],2) else if 0 < c.toNat ∧ t.getD 0 0 = 0 then (0,[],3) else (val (t.take c.toNat),t.drop c.toNat,0)
theorem zbA {v : Nat} (hv : v < 18446744073709551616) (r : Bs) : zR (zbx v ++ r) = (v,r,0) := by
 have hl := ziv hv
 have hc : (UInt8.ofNat (be v).length).toNat = (be v).length := by simp;omega
 rw [show zbx v ++ r = UInt8.ofNat (be v).length :: (be v ++ r) from rfl,zR]
 rw [hc,if_neg (by omega),if_neg (by rw [List.length_append];omega),if_neg ?_]
 ·rw [List.take_left,List.drop_left,val_be]
 ·rintro ⟨h1,h2⟩
  have hv0 : 0 < v := by
   rcases Nat.eq_zero_or_pos v with h | h
   ·subst h;simp [zcX] at h1
   ·exact h
  obtain ⟨c,t,e,hc⟩ := be_head v hv0
  rw [e] at h2
  exact hc h2
theorem zbK {s r : Bs} {v : Nat} (h : zR s = (v,r,0)) : s = zbx v ++ r ∧ v < 18446744073709551616 := by
 match s,h with
 | [],h => simp [zR] at h
 | c :: t,h =>
  simp only [zR] at h
  split at h
  ·simp at h
  ·rename_i h8
   split at h
   ·simp at h
   ·rename_i hlen
    split at h
    ·simp at h
    ·rename_i hz
     simp only [Prod.mk.injEq,and_true] at h
     obtain ⟨rfl,rfl⟩ := h
     have hb : be (val (t.take c.toNat)) = t.take c.toNat := be_val _ (by
      intro x y e hx
      apply hz
      rcases Nat.eq_zero_or_pos c.toNat with h0 | h0
      ·rw [h0] at e;simp at e
      ·refine ⟨h0,?_⟩
       rcases t with _ | ⟨z,t⟩
       ·simp at e
       ·obtain ⟨m,hm⟩ : ∃ m,c.toNat = m + 1 := ⟨c.toNat - 1,by omega⟩
        rw [hm,List.take_succ_cons] at e
        injection e with e1 _
        simp [e1,hx])
     have hn : (be (val (t.take c.toNat))).length = c.toNat := by rw [hb,List.length_take];omega
     refine ⟨?_,?_⟩
     ·rw [zbx,hn,hb,List.cons_append,List.take_append_drop];simp
     ·have := val_lt (t.take c.toNat)
      rw [List.length_take,Nat.min_eq_left (by omega)] at this
      have h2 : 256 ^ c.toNat ≤ 256 ^ 8 := Nat.pow_le_pow_right (by omega) (by omega)
      have : (256 : Nat) ^ 8 = 18446744073709551616 := by decide
      omega
theorem zhq {s r : Bs} {v : Nat} {e : Int} (h : zR s = (v,r,e)) : e = 0 ∨ (v = 0 ∧ r = [] ∧ (e = 2 ∨ e = 3)) := by
 match s,h with
 | [],h => simp [zR] at h;obtain ⟨rfl,rfl,rfl⟩ := h;simp
 | c :: t,h =>
  simp only [zR] at h
  (repeat' split at h) <;> (simp only [Prod.mk.injEq] at h;obtain ⟨rfl,rfl,rfl⟩ := h;simp)
def zbV (t : Bs) : Bs := zbx t.length ++ t
def zdF (t : ByteArray) : ByteArray := zbt t.size ++ t
theorem zhY (t : ByteArray) : zdF t = toB (zbV (ofB t)) := by rw [zbV,za9,zct,zab];rfl
theorem zam {v : Nat} (h : v < 18446744073709551616) : (zbx v).length ≤ 9 := by
 have := ziv h
 simp only [zbx,List.length_cons];omega
theorem zaX {v : Nat} (h : v < 18446744073709551616) : (zbt v).size ≤ 9 := by rw [zbt,zX];exact zam h
theorem zfX (v : Nat) (L : List Int) (h : L.map (fun n => UInt8.ofNat n.toNat) = be v) : strOfNums ((L.length : Int) :: L) = zbt v := by
 rw [zbR,List.map_cons,h,zbt,zbx]
 have : L.length = (be v).length := by rw [← h,List.length_map]
 rw [this,Int.toNat_natCast]
def zhH {α : Type} (p : α → Bool) (l : List α) : Int := match l.findIdx? p with | some i => (i : Int) | none => -1
theorem zhJ {α : Type} {p : α → Bool} {l : List α} {k : Nat} {x : α} (hx : l[k]? = some x) (hp : p x = true) (hn : ∀ (j : Nat) (y : α),j < k → l[j]? = some y → p y = false) : zhH p l = k := by
 have hk := (List.getElem?_eq_some_iff.1 hx).1
 have h : l.findIdx? p = some k := by
  rw [List.findIdx?_eq_some_iff_getElem]
  refine ⟨hk,?_,fun j hj => ?_⟩
  ·rw [(List.getElem?_eq_some_iff.1 hx).2];exact hp
  ·have := hn j l[j] hj (List.getElem?_eq_getElem _)
   simp [this]
 rw [zhH,h]
theorem zgI {α : Type} {p : α → Bool} {l : List α} (hn : ∀ (j : Nat) (y : α),l[j]? = some y → p y = false) : zhH p l = -1 := by
 have h : l.findIdx? p = none := by
  rw [List.findIdx?_eq_none_iff]
  intro x hx
  obtain ⟨j,hj⟩ := List.mem_iff_getElem?.1 hx
  exact hn j x hj
 rw [zhH,h]
theorem zhI {α : Type} (p : α → Bool) (l : List α) : decide (0 ≤ zhH p l) = l.any p := by
 rw [zhH]
 rcases h : l.findIdx? p with _ | i
 ·rw [List.findIdx?_eq_none_iff] at h
  simp
  intro x hx
  simpa using h x hx
 ·rw [List.findIdx?_eq_some_iff_getElem] at h
  obtain ⟨hi,hp,_⟩ := h
  simp
  exact ⟨_,List.getElem_mem hi,hp⟩
theorem may_ret {a b : Bool} (h : a = b) : Ending.returned (.bool a) = .returned (.bool b) := by rw [h]
end Go.Proofs.Ytgdpiegkoeikiaa.Px