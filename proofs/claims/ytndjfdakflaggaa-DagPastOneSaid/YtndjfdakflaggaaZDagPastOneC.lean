/- Part 3 of 15 of the proof of the law DagPastOne: what is proved is the statement at the end of the last part; its conditions are those of the given row. -/
import Derived.Test.YtndjfdakflaggaaProg
import Derived.WalkLawsBesides
import Derived.ScopeJumps
import Derived.WalkMore
import Derived.Lib.Builder
import Derived.Lib.UnsafeStr
import Derived.Lib.Strings
import Derived.Lib.Slices
import Derived.Lib.Walk
import Derived.RegionTactic
import Derived.ChangeAlike
import Derived.Test.YtndjfdakflaggaaZDagPastOneB
namespace Go.Proofs.Ytndjfdakflaggaa.Px
open Go.RowKit Go.Proofs.YtndjfdakflaggaaW.PrintWords Go.Proofs.YtndjfdakflaggaaW.PrintLast Go.Proofs.YtndjfdakflaggaaW.PrintMore
attribute [local go_sem] zC zE zI zJ zu zv zD zF
set_option linter.unusedVariables false
set_option linter.unusedSimpArgs false
theorem hBq {B_ : Nat} {w_ w_' : World} (h_ : Below B_ w_ w_' := by repeat (first | (with_reducible first | exact HB.out | apply zm | apply zj | apply zp) | exact HB.out)) : Below B_ w_ w_' := h_
theorem hCq {B_ : Nat} {w_ w_' : World} (h_ : Below B_ w_ w_' := by repeat (first | (with_reducible first | exact HB.out | apply zm | apply zj | apply zp | refine zl ?_ (za.out (by with_reducible assumption))) | exact HB.out)) : Below B_ w_ w_' := h_
def errW : Option Int → Value
 | none => .nilIface
 | some c => .iface 0 (.int .i64 c)
theorem zcr : errW none = .nilIface := rfl
theorem zcs (c : Int) : errW (some c) = .iface 0 (.int .i64 c) := rfl
theorem info9 : (Try.prog.info? 9).map (fun i => (i.zero,i.size,i.bytes)) = some (some (.string ⟨#[]⟩),1,16) := by kernel_rfl
theorem zdQ : (Try.prog.info? 34).map (fun i => (i.zero,i.size,i.bytes)) = some (some (.agg #[(.string ⟨#[]⟩),(.int .i64 0),(.int .i64 0),(.slice none 0 0),(.slice none 0 0),(.int .i64 0),(.int .i64 0)]),7,96) := by kernel_rfl
structure S78 where
 f0 : Int
 f1 : Int
 f2 : (List ByteArray)
def z78 : S78 := ⟨(0 : Int),(0 : Int),([] : List ByteArray)⟩
def k78 : Kd S78 := Kd.iso (Kd.pair (Kd.int .i64) (Kd.pair (Kd.int .i64) (Kd.slice 9 Kd.string))) (fun x : S78 => (x.f0,x.f1,x.f2))
theorem k78_heap : Kd.Heap k78 := Kd.heap_iso _ (Kd.heap_pair (Kd.heap_int .i64) (Kd.heap_pair (Kd.heap_int .i64) (Kd.heap_slice 9 Kd.heap_string)))
theorem k78_open {w : World} {x : S78} {cs : List Value} (h : k78.K w x cs) : ∃ A2 c2,cs = [.int .i64 x.f0,.int .i64 x.f1,.slice A2 x.f2.length c2] ∧ x.f2.length ≤ c2 ∧ Kd.string.C w A2 x.f2.length x.f2 := by
 obtain ⟨_,_,rfl,rfl,⟨_,_,rfl,rfl,⟨A2,c2,rfl,l2,g2⟩⟩⟩ := h
 exact ⟨A2,c2,rfl,l2,g2⟩
def zO (xs : List S78) (i : Int) : S78 := xs.getD i.toNat z78
theorem zca {w : World} {A : Option Addr} {n : Nat} {xs : List S78} (h : Kd.C k78 w A n xs) (i : Int) (h0 : 0 ≤ i) (h1 : i < n) : ∃ ad A2 c2,A = some ad ∧ w.cell? (ad.add (i.toNat * 3)) = some (.int .i64 (zO xs i).f0) ∧ w.cell? ⟨(ad.add (i.toNat * 3)).block,(ad.add (i.toNat * 3)).off + 1,none⟩ = some (.int .i64 (zO xs i).f1) ∧ w.cell? ⟨(ad.add (i.toNat * 3)).block,(ad.add (i.toNat * 3)).off + 2,none⟩ = some (.slice A2 (zO xs i).f2.length c2) ∧ (zO xs i).f2.length ≤ c2 ∧ Kd.string.C w A2 (zO xs i).f2.length (zO xs i).f2 := by
 obtain ⟨ad,c,e,_,hK,hc0⟩ := Kd.C_get h z78 i h0 h1
 have hc : ∀ j u,c[j]? = some u → w.cell? (ad.add (i.toNat * 3 + j)) = some u := hc0
 obtain ⟨A2,c2,rfl,l2,g2⟩ := k78_open hK
 exact ⟨ad,A2,c2,e,hc 0 _ rfl,by rw [← zW _ _ 1 (by omega)];exact hc 1 _ rfl,by rw [← zW _ _ 2 (by omega)];exact hc 2 _ rfl,l2,g2⟩
structure S30 where
 f0 : Int
 f1 : Int
def z30 : S30 := ⟨(0 : Int),(0 : Int)⟩
def k30 : Kd S30 := Kd.iso (Kd.pair (Kd.int .i64) (Kd.int .i64)) (fun x : S30 => (x.f0,x.f1))
theorem k30_heap : Kd.Heap k30 := Kd.heap_iso _ (Kd.heap_pair (Kd.heap_int .i64) (Kd.heap_int .i64))
theorem k30_open {w : World} {x : S30} {cs : List Value} (h : k30.K w x cs) : cs = [.int .i64 x.f0,.int .i64 x.f1] := by
 obtain ⟨_,_,rfl,rfl,rfl⟩ := h
 exact rfl
theorem k30_mk (w : World) (x : S30)  : k30.K w x [.int .i64 x.f0,.int .i64 x.f1] := ⟨[.int .i64 x.f0],[.int .i64 x.f1],rfl,rfl,rfl⟩
structure S32 where
 f0 : Int
 f1 : Int
 f2 : (List S78)
 f3 : (List ByteArray)
 f4 : S30
def z32 : S32 := ⟨(0 : Int),(0 : Int),([] : List S78),([] : List ByteArray),z30⟩
def k32 : Kd S32 := Kd.iso (Kd.pair (Kd.int .i64) (Kd.pair (Kd.int .i64) (Kd.pair (Kd.slice 78 k78) (Kd.pair (Kd.slice 9 Kd.string) k30)))) (fun x : S32 => (x.f0,x.f1,x.f2,x.f3,x.f4))
theorem k32_heap : Kd.Heap k32 := Kd.heap_iso _ (Kd.heap_pair (Kd.heap_int .i64) (Kd.heap_pair (Kd.heap_int .i64) (Kd.heap_pair (Kd.heap_slice 78 k78_heap) (Kd.heap_pair (Kd.heap_slice 9 Kd.heap_string) k30_heap))))
theorem k32_open {w : World} {x : S32} {cs : List Value} (h : k32.K w x cs) : ∃ A2 c2 A3 c3,cs = [.int .i64 x.f0,.int .i64 x.f1,.slice A2 x.f2.length c2,.slice A3 x.f3.length c3,.int .i64 x.f4.f0,.int .i64 x.f4.f1] ∧ x.f2.length ≤ c2 ∧ k78.C w A2 x.f2.length x.f2 ∧ x.f3.length ≤ c3 ∧ Kd.string.C w A3 x.f3.length x.f3 := by
 obtain ⟨_,_,rfl,rfl,⟨_,_,rfl,rfl,⟨_,_,rfl,⟨A2,c2,rfl,l2,g2⟩,⟨_,_,rfl,⟨A3,c3,rfl,l3,g3⟩,s4⟩⟩⟩⟩ := h
 obtain rfl := k30_open s4
 exact ⟨A2,c2,A3,c3,rfl,l2,g2,l3,g3⟩
theorem k32_mk (w : World) (x : S32) {A2 : Option Addr} {c2 : Nat} (l2 : x.f2.length ≤ c2) (g2 : k78.C w A2 x.f2.length x.f2) {A3 : Option Addr} {c3 : Nat} (l3 : x.f3.length ≤ c3) (g3 : Kd.string.C w A3 x.f3.length x.f3) : k32.K w x [.int .i64 x.f0,.int .i64 x.f1,.slice A2 x.f2.length c2,.slice A3 x.f3.length c3,.int .i64 x.f4.f0,.int .i64 x.f4.f1] := ⟨[.int .i64 x.f0],[.int .i64 x.f1,.slice A2 x.f2.length c2,.slice A3 x.f3.length c3,.int .i64 x.f4.f0,.int .i64 x.f4.f1],rfl,rfl,⟨[.int .i64 x.f1],[.slice A2 x.f2.length c2,.slice A3 x.f3.length c3,.int .i64 x.f4.f0,.int .i64 x.f4.f1],rfl,rfl,⟨[.slice A2 x.f2.length c2],[.slice A3 x.f3.length c3,.int .i64 x.f4.f0,.int .i64 x.f4.f1],rfl,⟨A2,c2,rfl,l2,g2⟩,⟨[.slice A3 x.f3.length c3],[.int .i64 x.f4.f0,.int .i64 x.f4.f1],rfl,⟨A3,c3,rfl,l3,g3⟩,(k30_mk w x.f4 )⟩⟩⟩⟩
structure S34 where
 f0 : ByteArray
 f1 : S32
def z34 : S34 := ⟨(⟨#[]⟩ : ByteArray),z32⟩
def k34 : Kd S34 := Kd.iso (Kd.pair Kd.string k32) (fun x : S34 => (x.f0,x.f1))
theorem zbS : Kd.Heap k34 := Kd.heap_iso _ (Kd.heap_pair Kd.heap_string k32_heap)
theorem zeM {w : World} {x : S34} {cs : List Value} (h : k34.K w x cs) : ∃ A3 c3 A4 c4,cs = [.string x.f0,.int .i64 x.f1.f0,.int .i64 x.f1.f1,.slice A3 x.f1.f2.length c3,.slice A4 x.f1.f3.length c4,.int .i64 x.f1.f4.f0,.int .i64 x.f1.f4.f1] ∧ x.f1.f2.length ≤ c3 ∧ k78.C w A3 x.f1.f2.length x.f1.f2 ∧ x.f1.f3.length ≤ c4 ∧ Kd.string.C w A4 x.f1.f3.length x.f1.f3 := by
 obtain ⟨_,_,rfl,rfl,s1⟩ := h
 obtain ⟨A3,c3,A4,c4,rfl,l3,g3,l4,g4⟩ := k32_open s1
 exact ⟨A3,c3,A4,c4,rfl,l3,g3,l4,g4⟩
theorem k34_mk (w : World) (x : S34) {A3 : Option Addr} {c3 : Nat} (l3 : x.f1.f2.length ≤ c3) (g3 : k78.C w A3 x.f1.f2.length x.f1.f2) {A4 : Option Addr} {c4 : Nat} (l4 : x.f1.f3.length ≤ c4) (g4 : Kd.string.C w A4 x.f1.f3.length x.f1.f3) : k34.K w x [.string x.f0,.int .i64 x.f1.f0,.int .i64 x.f1.f1,.slice A3 x.f1.f2.length c3,.slice A4 x.f1.f3.length c4,.int .i64 x.f1.f4.f0,.int .i64 x.f1.f4.f1] := ⟨[.string x.f0],[.int .i64 x.f1.f0,.int .i64 x.f1.f1,.slice A3 x.f1.f2.length c3,.slice A4 x.f1.f3.length c4,.int .i64 x.f1.f4.f0,.int .i64 x.f1.f4.f1],rfl,rfl,(k32_mk w x.f1 l3 g3 l4 g4)⟩
theorem zbJ {W : World} {ok : Nat → Prop} {x : S34} {cs : List Value} (h : Kd.FK k34 W ok x cs) : ∃ A3 c3 A4 c4,cs = [.string x.f0,.int .i64 x.f1.f0,.int .i64 x.f1.f1,.slice A3 x.f1.f2.length c3,.slice A4 x.f1.f3.length c4,.int .i64 x.f1.f4.f0,.int .i64 x.f1.f4.f1] ∧ x.f1.f2.length ≤ c3 ∧ Kd.F k78 W ok A3 x.f1.f2.length x.f1.f2 ∧ x.f1.f3.length ≤ c4 ∧ Kd.F Kd.string W ok A4 x.f1.f3.length x.f1.f3 := by
 obtain ⟨A3,c3,A4,c4,rfl,l3,_,l4,_⟩ := zeM (Kd.FK_now h)
 exact ⟨A3,c3,A4,c4,rfl,l3,(fun W' hW => by obtain ⟨A3_,c3_,A4_,c4_,he,l3_,g3_,l4_,g4_⟩ := zeM (h W' hW);injection (Option.some.inj (show some (Value.slice A3 x.f1.f2.length c3) = some (Value.slice A3_ x.f1.f2.length c3_) from congrArg (fun l => l[3]?) he)) with ha_ _ _;rw [ha_];exact g3_),l4,(fun W' hW => by obtain ⟨A3_,c3_,A4_,c4_,he,l3_,g3_,l4_,g4_⟩ := zeM (h W' hW);injection (Option.some.inj (show some (Value.slice A4 x.f1.f3.length c4) = some (Value.slice A4_ x.f1.f3.length c4_) from congrArg (fun l => l[4]?) he)) with ha_ _ _;rw [ha_];exact g4_)⟩
theorem zfX (W : World) (ok : Nat → Prop) (x : S34) {A3 : Option Addr} {c3 : Nat} (l3 : x.f1.f2.length ≤ c3) (g3 : Kd.F k78 W ok A3 x.f1.f2.length x.f1.f2) {A4 : Option Addr} {c4 : Nat} (l4 : x.f1.f3.length ≤ c4) (g4 : Kd.F Kd.string W ok A4 x.f1.f3.length x.f1.f3) : Kd.FK k34 W ok x [.string x.f0,.int .i64 x.f1.f0,.int .i64 x.f1.f1,.slice A3 x.f1.f2.length c3,.slice A4 x.f1.f3.length c4,.int .i64 x.f1.f4.f0,.int .i64 x.f1.f4.f1] := fun W2 hW => k34_mk W2 x l3 (g3 W2 hW) l4 (g4 W2 hW)
def zd (xs : List S34) (i : Int) : S34 := xs.getD i.toNat z34
theorem za7 {w : World} {A : Option Addr} {n : Nat} {xs : List S34} (h : Kd.C k34 w A n xs) (i : Int) (h0 : 0 ≤ i) (h1 : i < n) : ∃ ad A3 c3 A4 c4,A = some ad ∧ w.cell? (ad.add (i.toNat * 7)) = some (.string (zd xs i).f0) ∧ w.cell? ⟨(ad.add (i.toNat * 7)).block,(ad.add (i.toNat * 7)).off + 1,none⟩ = some (.int .i64 (zd xs i).f1.f0) ∧ w.cell? ⟨(ad.add (i.toNat * 7)).block,(ad.add (i.toNat * 7)).off + 2,none⟩ = some (.int .i64 (zd xs i).f1.f1) ∧ w.cell? ⟨(ad.add (i.toNat * 7)).block,(ad.add (i.toNat * 7)).off + 3,none⟩ = some (.slice A3 (zd xs i).f1.f2.length c3) ∧ w.cell? ⟨(ad.add (i.toNat * 7)).block,(ad.add (i.toNat * 7)).off + 4,none⟩ = some (.slice A4 (zd xs i).f1.f3.length c4) ∧ w.cell? ⟨(ad.add (i.toNat * 7)).block,(ad.add (i.toNat * 7)).off + 5,none⟩ = some (.int .i64 (zd xs i).f1.f4.f0) ∧ w.cell? ⟨(ad.add (i.toNat * 7)).block,(ad.add (i.toNat * 7)).off + 6,none⟩ = some (.int .i64 (zd xs i).f1.f4.f1) ∧ (zd xs i).f1.f2.length ≤ c3 ∧ k78.C w A3 (zd xs i).f1.f2.length (zd xs i).f1.f2 ∧ (zd xs i).f1.f3.length ≤ c4 ∧ Kd.string.C w A4 (zd xs i).f1.f3.length (zd xs i).f1.f3 := by
 obtain ⟨ad,c,e,_,hK,hc0⟩ := Kd.C_get h z34 i h0 h1
 have hc : ∀ j u,c[j]? = some u → w.cell? (ad.add (i.toNat * 7 + j)) = some u := hc0
 obtain ⟨A3,c3,A4,c4,rfl,l3,g3,l4,g4⟩ := zeM hK
 exact ⟨ad,A3,c3,A4,c4,e,hc 0 _ rfl,by rw [← zW _ _ 1 (by omega)];exact hc 1 _ rfl,by rw [← zW _ _ 2 (by omega)];exact hc 2 _ rfl,by rw [← zW _ _ 3 (by omega)];exact hc 3 _ rfl,by rw [← zW _ _ 4 (by omega)];exact hc 4 _ rfl,by rw [← zW _ _ 5 (by omega)];exact hc 5 _ rfl,by rw [← zW _ _ 6 (by omega)];exact hc 6 _ rfl,l3,g3,l4,g4⟩
structure S24 where
 f0 : Int
 f1 : Int
 f2 : (List S34)
def z24 : S24 := ⟨(0 : Int),(0 : Int),([] : List S34)⟩
def k24 : Kd S24 := Kd.iso (Kd.pair (Kd.int .i64) (Kd.pair (Kd.int .i64) (Kd.slice 34 k34))) (fun x : S24 => (x.f0,x.f1,x.f2))
theorem zh3 {w : World} {x : S24} {cs : List Value} (h : k24.K w x cs) : ∃ A2 c2,cs = [.int .i64 x.f0,.int .i64 x.f1,.slice A2 x.f2.length c2] ∧ x.f2.length ≤ c2 ∧ k34.C w A2 x.f2.length x.f2 := by
 obtain ⟨_,_,rfl,rfl,⟨_,_,rfl,rfl,⟨A2,c2,rfl,l2,g2⟩⟩⟩ := h
 exact ⟨A2,c2,rfl,l2,g2⟩
structure S42 where
 f0 : S24
 f1 : ByteArray
 f2 : ByteArray
 f3 : Int
 f4 : S24
theorem hcq1 {w : World} {g : Nat} {t : TypeId} {a0 : Value} (h : w.heap[g]? = some (.cells #[a0] t (0,0))) : w.cell? ⟨g,0,none⟩ = some a0 ∧ w.frozen? ⟨g,0,none⟩ = false := ⟨(zb h 0).trans rfl,zc h 0⟩
theorem hcq2 {w : World} {g : Nat} {t : TypeId} {a0 a1 : Value} (h : w.heap[g]? = some (.cells #[a0,a1] t (0,0))) : w.cell? ⟨g,0,none⟩ = some a0 ∧ w.cell? ⟨g,1,none⟩ = some a1 ∧ w.frozen? ⟨g,0,none⟩ = false ∧ w.frozen? ⟨g,1,none⟩ = false := ⟨(zb h 0).trans rfl,(zb h 1).trans rfl,zc h 0,zc h 1⟩
theorem hcq3 {w : World} {g : Nat} {t : TypeId} {a0 a1 a2 : Value} (h : w.heap[g]? = some (.cells #[a0,a1,a2] t (0,0))) : w.cell? ⟨g,0,none⟩ = some a0 ∧ w.cell? ⟨g,1,none⟩ = some a1 ∧ w.cell? ⟨g,2,none⟩ = some a2 ∧ w.frozen? ⟨g,0,none⟩ = false ∧ w.frozen? ⟨g,1,none⟩ = false ∧ w.frozen? ⟨g,2,none⟩ = false := ⟨(zb h 0).trans rfl,(zb h 1).trans rfl,(zb h 2).trans rfl,zc h 0,zc h 1,zc h 2⟩
theorem hcq3n {w : World} {g : Nat} {t : TypeId} {a0 a1 a2 : Value} (h : w.heap[g]? = some (.cells #[a0,a1,a2] t (0,0))) : w.cell? ⟨g,0,none⟩ = some a0 ∧ w.cell? ⟨g,1,none⟩ = some a1 ∧ w.cell? ⟨g,2,none⟩ = some a2 := ⟨(zb h 0).trans rfl,(zb h 1).trans rfl,(zb h 2).trans rfl⟩
theorem hcq6 {w : World} {g : Nat} {t : TypeId} {a0 a1 a2 a3 a4 a5 : Value} (h : w.heap[g]? = some (.cells #[a0,a1,a2,a3,a4,a5] t (0,0))) : w.cell? ⟨g,0,none⟩ = some a0 ∧ w.cell? ⟨g,1,none⟩ = some a1 ∧ w.cell? ⟨g,2,none⟩ = some a2 ∧ w.cell? ⟨g,3,none⟩ = some a3 ∧ w.cell? ⟨g,4,none⟩ = some a4 ∧ w.cell? ⟨g,5,none⟩ = some a5 ∧ w.frozen? ⟨g,0,none⟩ = false ∧ w.frozen? ⟨g,1,none⟩ = false ∧ w.frozen? ⟨g,2,none⟩ = false ∧ w.frozen? ⟨g,3,none⟩ = false ∧ w.frozen? ⟨g,4,none⟩ = false ∧ w.frozen? ⟨g,5,none⟩ = false := ⟨(zb h 0).trans rfl,(zb h 1).trans rfl,(zb h 2).trans rfl,(zb h 3).trans rfl,(zb h 4).trans rfl,(zb h 5).trans rfl,zc h 0,zc h 1,zc h 2,zc h 3,zc h 4,zc h 5⟩
theorem hcq7 {w : World} {g : Nat} {t : TypeId} {a0 a1 a2 a3 a4 a5 a6 : Value} (h : w.heap[g]? = some (.cells #[a0,a1,a2,a3,a4,a5,a6] t (0,0))) : w.cell? ⟨g,0,none⟩ = some a0 ∧ w.cell? ⟨g,1,none⟩ = some a1 ∧ w.cell? ⟨g,2,none⟩ = some a2 ∧ w.cell? ⟨g,3,none⟩ = some a3 ∧ w.cell? ⟨g,4,none⟩ = some a4 ∧ w.cell? ⟨g,5,none⟩ = some a5 ∧ w.cell? ⟨g,6,none⟩ = some a6 ∧ w.frozen? ⟨g,0,none⟩ = false ∧ w.frozen? ⟨g,1,none⟩ = false ∧ w.frozen? ⟨g,2,none⟩ = false ∧ w.frozen? ⟨g,3,none⟩ = false ∧ w.frozen? ⟨g,4,none⟩ = false ∧ w.frozen? ⟨g,5,none⟩ = false ∧ w.frozen? ⟨g,6,none⟩ = false := ⟨(zb h 0).trans rfl,(zb h 1).trans rfl,(zb h 2).trans rfl,(zb h 3).trans rfl,(zb h 4).trans rfl,(zb h 5).trans rfl,(zb h 6).trans rfl,zc h 0,zc h 1,zc h 2,zc h 3,zc h 4,zc h 5,zc h 6⟩
theorem hGq {A_ B_ : Prop} (x_ : A_) (h_ : A_ → B_ := by intro x_;(with_reducible repeat (first | refine zam ?_ _ | refine zaa ?_ | refine zg ?_ _));exact x_) : B_ := h_ x_
theorem hDq {B_ : Prop} (h_ : B_ := by first | rfl | (simp;done) | (simp [*];done)) : B_ := h_
theorem hEq {B_ : Prop} (h_ : B_ := by repeat (first | exact za3.refl _ | apply za3.step)) : B_ := h_
theorem hHq {B_ : Prop} (h_ : B_ := by first | rfl | (simp [zcr,zcs] <;> rfl) | (simp [*,zcr,zcs] <;> rfl)) : B_ := h_
theorem hFq {p_ : Prop} [Decidable p_] (h_ : decide p_ = true := by first | (with_reducible assumption) | assumption) : p_ := of_decide_eq_true h_
theorem hRq {A_ B_ : Prop} (x_ : A_) (h_ : A_ → B_ := by intro x_;(with_reducible repeat (first | apply Kd.R_alloc | apply Kd.R_drewN | apply Kd.R_drew));exact x_) : B_ := h_ x_
theorem hSq {A_ B_ : Prop} (x_ : A_) (h_ : A_ → B_ := by intro x_;(with_reducible repeat (first | apply Kd.S_alloc | apply Kd.S_drewN | apply Kd.S_drew));exact x_) : B_ := h_ x_
theorem hbq {w0 w w1 : World} {g : Nat} {o : Obj} (x_ : w0.heap[g]? = some o) (hb_ : Below w.heap.size w w1) (h_ : w0.heap[g]? = some o → w.heap[g]? = some o := by intro x_;(with_reducible repeat (first | refine zam ?_ _ | refine zaa ?_ | refine zg ?_ _));exact x_) : w1.heap[g]? = some o := zr (h_ x_) hb_
theorem hnq {w0 w : World} {g q : Nat} {o : Obj} (hg_ : q = w.heap.size) (x_ : w0.heap[g]? = some o) (h_ : w0.heap[g]? = some o → w.heap[g]? = some o := by intro x_;(with_reducible repeat (first | refine zam ?_ _ | refine zaa ?_ | refine zg ?_ _));exact x_) : g ≠ q := by rw [hg_];exact Nat.ne_of_lt (zaF (h_ x_))
theorem hmq {w0 w : World} {g q : Nat} {o : Obj} (hg_ : q = w.heap.size) (x_ : w0.heap[g]? = some o) (h_ : w0.heap[g]? = some o → w.heap[g]? = some o := by intro x_;(with_reducible repeat (first | refine zam ?_ _ | refine zaa ?_ | refine zg ?_ _));exact x_) : q ≠ g := by rw [hg_];exact Nat.ne_of_gt (zaF (h_ x_))
theorem hfq {w1 W W' : World} {g q : Nat} {o : Obj} (hw_ : W' = W) (n_ : g ≠ q) (x_ : w1.heap[g]? = some o) (h_ : g ≠ q → w1.heap[g]? = some o → W.heap[g]? = some o := by intro n_ x_;(repeat (first | (with_reducible exact x_) | (with_reducible refine zam ?_ _) | (with_reducible refine zaa ?_) | (with_reducible refine zg ?_ _) | refine zcw ?_ n_ _))) : W'.heap[g]? = some o := by rw [hw_];exact h_ n_ x_
theorem hKq {A_ B_ : Prop} (x_ : A_) (h_ : A_ → B_ := by intro x_;repeat (first | exact x_ | (with_reducible refine Kd.C_alloc ?_ _) | (with_reducible refine Kd.C_drewN ?_ _) | (with_reducible refine Kd.C_drew ?_))) : B_ := h_ x_
theorem hMq {B_ : Prop} (h_ : B_ := by (try simp only [List.map_toArray,List.map_cons,List.map_nil]);first | done | rfl | (simp only [List.length_drop,List.length_take];rfl)) : B_ := h_
theorem hPq {a_ b_ : Act} (h_ : a_ = b_ := by simp only [Act.put,List.setIfInBounds_toArray,List.set_cons_zero,List.set_cons_succ,zah,zaj];rfl) : a_ = b_ := h_
theorem puq {P : Program} {md : Region.Mode} {ops : Array Oper} {Q : Exit → Act → World → Prop} {S : World → Prop} {ds : List Nat} {T : Bool × List (List Nat × List Nat)} {i : Nat} {N : Option Tmp} {oi : Oper} {v : Value} {fuel : Nat} {l : Array Bool} {a a' : Act} {w : World} (hT_ : zb3 md ops = T) (l' : Array Bool) (h_ : zai P md ops Q S ds fuel l' a' w) (hi_ : ops[i]? = some oi := by rfl) (hN_ : oi.dst = N := by rfl) (hc_ : anyT T l.toList l'.toList i = true := by kernel_rfl) (hQ_ : ∀ c a w,Q (.panic c) (a.put oi.dst v) w → Q (.panic c) a w := by exact fun _ _ _ h => h) (hw_ : Region.wanted oi (yielded ops a.tmps) = true := by rfl) (hy_ : ∀ w',(execOp a.eval oi).run P w' = .ok (.value v) w' := by intro w';go_simp;with_reducible rfl) (ha_ : a.put N v = a' := by simp only [Act.put,List.setIfInBounds_toArray,List.set_cons_zero,List.set_cons_succ,zah,zaj];rfl) : zai P md ops Q S ds (fuel + 1) l a w := zbY l' hi_ hN_ (zbk hT_ hc_) hQ_ (Or.inl ⟨hw_,hy_⟩) ha_ h_
theorem hrq {A_ : Prop} (h_ : A_ := by first | (go_simp;done) | (go_simp;rfl)) : A_ := h_
def uQ (n k : Nat) : Array Bool := (List.replicate k true ++ List.replicate (n - k) false).toArray
theorem haq {A_ B_ : Prop} (a_ : A_) (b_ : B_) : za A_ ∧ B_ := ⟨⟨a_⟩,b_⟩
theorem hxq0p {A_ B_ : Prop} (x_ : A_) (h_ : A_ → B_ := by intro  x_;(repeat (first | (with_reducible exact x_) | (with_reducible refine zam ?_ _) | (with_reducible refine zaa ?_) | (with_reducible refine zg ?_ _) | apply zby));all_goals first | (with_reducible rfl) | (simp only [List.setIfInBounds_toArray,List.set_cons_zero,List.set_cons_succ];done) | rfl) : B_ := h_ x_
theorem hxq1 {A_ B_ : Prop} {P0_ : Prop} (n0_ : P0_) (x_ : A_) (h_ : P0_ → A_ → B_ := by intro n0_ x_;(repeat (first | (with_reducible exact x_) | (with_reducible refine zam ?_ _) | (with_reducible refine zaa ?_) | (with_reducible refine zg ?_ _) | refine zcw ?_ n0_ _))) : B_ := h_ n0_ x_
def zcX {α : Type} (p : α → Bool) (l : List α) : Int := match l.findIdx? p with | some i => (i : Int) | none => -1
theorem zdx {α : Type} {p : α → Bool} {l : List α} {k : Nat} {x : α} (hx : l[k]? = some x) (hp : p x = true) (hn : ∀ (j : Nat) (y : α),j < k → l[j]? = some y → p y = false) : zcX p l = k := by
 have hk := (List.getElem?_eq_some_iff.1 hx).1
 have h : l.findIdx? p = some k := by
  rw [List.findIdx?_eq_some_iff_getElem]
  refine ⟨hk,?_,fun j hj => ?_⟩
  ·rw [(List.getElem?_eq_some_iff.1 hx).2];exact hp
  ·have := hn j l[j] hj (List.getElem?_eq_getElem _)
   simp [this]
 rw [zcX,h]
theorem zdy {α : Type} {p : α → Bool} {l : List α} (hn : ∀ (j : Nat) (y : α),l[j]? = some y → p y = false) : zcX p l = -1 := by
 have h : l.findIdx? p = none := by
  rw [List.findIdx?_eq_none_iff]
  intro x hx
  obtain ⟨j,hj⟩ := List.mem_iff_getElem?.1 hx
  exact hn j x hj
 rw [zcX,h]
theorem zh2 {α : Type} (p : α → Bool) (l : List α) : decide (0 ≤ zcX p l) = l.any p := by
 rw [zcX]
 rcases h : l.findIdx? p with _ | i
 ·rw [List.findIdx?_eq_none_iff] at h
  simp
  intro x hx
  simpa using h x hx
 ·rw [List.findIdx?_eq_some_iff_getElem] at h
  obtain ⟨hi,hp,_⟩ := h
  simp
  exact ⟨_,List.getElem_mem hi,hp⟩
theorem may_ret {a b : Bool} (h : a = b) : Ending.returned (.bool a) = .returned (.bool b) := by rw [h]
abbrev Bs := List UInt8
def toB (l : Bs) : ByteArray := ⟨l.toArray⟩
def ofB (s : ByteArray) : Bs := s.data.toList
theorem zdl (l : Bs) : ofB (toB l) = l := by simp [ofB,toB]
theorem zen (s : ByteArray) : toB (ofB s) = s := by simp [ofB,toB]
theorem ofB_inj {a b : ByteArray} (h : ofB a = ofB b) : a = b := by rw [← zen a,← zen b,h]
theorem zat (s : ByteArray) : (ofB s).length = s.size := by rw [ofB,Array.length_toList];rfl
theorem zay (l : Bs) : (toB l).size = l.length := by rw [← zat,zdl]
theorem ziF (a b : ByteArray) : ofB (a ++ b) = ofB a ++ ofB b := by simp [ofB]
theorem zbc (a b : Bs) : toB (a ++ b) = toB a ++ toB b := ofB_inj (by rw [ziF,zdl,zdl,zdl])
theorem zcL (s : ByteArray) : s.toList = ofB s := ByteArray.toList_eq s
theorem bt_ofB (s : ByteArray) (i : Nat) : bt s (i : Int) = (((ofB s).getD i 0).toNat : Int) := by
 unfold bt ofB
 split
 ·rename_i h
  have h' : i < s.data.toList.length := by rw [zfs];simpa using h
  simp [List.getD_eq_getElem?_getD,List.getElem?_eq_getElem h']
  rfl
 ·rename_i h
  have h' : s.data.toList.length ≤ i := by rw [zfs];simp at h;omega
  simp [List.getD_eq_getElem?_getD,List.getElem?_eq_none h']
theorem zbU (xs : List Int) : strOfNums xs = toB (xs.map fun n => UInt8.ofNat n.toNat) := rfl
def be (v : Nat) : Bs := if v = 0 then [] else be (v / 256) ++ [UInt8.ofNat (v % 256)]
termination_by v
decreasing_by omega
theorem zeJ : be 0 = [] := by rw [be];simp
theorem zhi {v : Nat} (h : 0 < v) : be v = be (v / 256) ++ [UInt8.ofNat (v % 256)] := by rw [be,if_neg (by omega)]
def val (l : Bs) : Nat := l.foldl (fun a c => a * 256 + c.toNat) 0
theorem be_length (n : Nat) : ∀ v : Nat,(be v).length ≤ n ↔ v < 256 ^ n := by
 induction n with
 | zero =>
  intro v
  rcases Nat.eq_zero_or_pos v with h | h
  ·subst h;simp [zeJ]
  ·rw [zhi h];simp;omega
 | succ n ih =>
  intro v
  rcases Nat.eq_zero_or_pos v with h | h
  ·subst h;simp [zeJ,Nat.pow_pos]
  ·rw [zhi h,List.length_append,List.length_singleton,Nat.succ_le_succ_iff,ih,Nat.pow_succ,Nat.mul_comm,Nat.div_lt_iff_lt_mul (by omega),Nat.mul_comm]
theorem be_len8 {v : Nat} (h : v < 18446744073709551616) : (be v).length ≤ 8 := by
 have : (256 : Nat) ^ 8 = 18446744073709551616 := by decide
 exact (be_length 8 v).2 (by rw [this];exact h)
def zdq (v : Nat) : Bs := UInt8.ofNat (be v).length :: be v
def zbm (v : Nat) : ByteArray := toB (zdq v)
def zgB (t : Bs) : Bs := zdq t.length ++ t
def zew (t : ByteArray) : ByteArray := zbm t.size ++ t
theorem textB_eq (t : ByteArray) : zew t = toB (zgB (ofB t)) := by rw [zgB,zbc,zen,zat];rfl
theorem zaZ {v : Nat} (h : v < 18446744073709551616) : (zdq v).length ≤ 9 := by
 have := be_len8 h
 simp only [zdq,List.length_cons];omega
theorem za6 {v : Nat} (h : v < 18446744073709551616) : (zbm v).size ≤ 9 := by rw [zbm,zay];exact zaZ h
theorem zgj (v : Nat) (L : List Int) (h : L.map (fun n => UInt8.ofNat n.toNat) = be v) : strOfNums ((L.length : Int) :: L) = zbm v := by
 rw [zbU,List.map_cons,h,zbm,zdq]
 have : L.length = (be v).length := by rw [← h,List.length_map]
 rw [this,Int.toNat_natCast]
def zcG (s : ByteArray) : Bool := decide (s.size = 0) || decide (48 < s.size)
theorem zaU.odd (s : ByteArray) (w : World) : Calls Try.prog 98 #[.string s] w fun e w' => e = .returned (.bool (zcG s)) ∧ w = w' := by
 by_cases h : s.toList = []
 ·have hb : (s.toList == []) = true := beq_iff_eq.mpr h
  have h0 : s.size = 0 := by rw [← zat,← zcL,h];rfl
  have HO : za (zcG s = true) := ⟨by simp [zcG,h0]⟩
  clear h h0
  go_enter Try.func98,Try.ntmps98
  go_wp2
  go_ret
  rw [HO.out]
  exact ⟨rfl,rfl⟩
 ·have hb : (s.toList == []) = false := beq_eq_false_iff_ne.mpr h
  have h0 : s.size ≠ 0 := fun hz => h (List.eq_nil_of_length_eq_zero (by rw [zcL,zat,hz]))
  have HO : za (zcG s = decide (48 < (s.size : Int))) := ⟨by simp [zcG,h0];omega⟩
  clear h h0
  by_cases h1 : 48 < (s.size : Int)
  ·have h1b : decide (48 < (s.size : Int)) = true := decide_eq_true h1
   rw [h1b] at HO
   clear h1
   go_enter Try.func98,Try.ntmps98
   go_wp2
   go_ret
   rw [HO.out]
   exact ⟨rfl,rfl⟩
  ·have h1b : decide (48 < (s.size : Int)) = false := decide_eq_false h1
   rw [h1b] at HO
   clear h1
   go_enter Try.func98,Try.ntmps98
   go_wp2
   go_ret
   rw [HO.out]
   exact ⟨rfl,rfl⟩
theorem zaU.idx (A : Option Addr) (c : Nat) (l : List ByteArray) (w : World) (hr : Kd.C Kd.string w A l.length l) (hc : l.length ≤ c) :
  Calls Try.prog 108 #[.slice A l.length c,.func (.func 98) #[] #[]] w fun e w' => e = .returned (.int .i64 (zcX zcG l)) ∧ w = w' := by
 have hm := hr.2.1
 have HR := za.mk hr
 clear hr
 go_enter Try.func108,Try.ntmps108
 go_wp2_with fail
 go_loop [5,8] (fun v5 v8 => ∃ k : Nat,v8 = .int .i64 k ∧ k ≤ l.length ∧ za (∀ (j : Nat) (y : ByteArray),j < k → l[j]? = some y → zcG y = false)) (fun _ v8 => l.length - (match v8 with | .int _ q => q | _ => 0).toNat)
 case atStart => exact ⟨0,rfl,Nat.zero_le _,⟨fun j y hj => absurd hj (Nat.not_lt_zero _)⟩⟩
 case round =>
  obtain ⟨k,rfl,hk,HN⟩ := hrel
  by_cases hlt : k < l.length
  ·obtain ⟨ad,rfl,hcell⟩ := Kd.at_string HR.out (k : Int) (by omega) (by omega)
   rw [Int.toNat_natCast] at hcell
   have hb : decide (k < l.length) = true := decide_eq_true hlt
   have hx : l[k]? = some (zB ByteArray.empty l (k : Int)) := by
    rw [zB,Int.toNat_natCast,List.getD_eq_getElem?_getD,List.getElem?_eq_getElem hlt];rfl
   have HX := za.mk hx
   clear hx
   generalize zB ByteArray.empty l (k : Int) = s at *
   rcases ho : zcG s with _ | _
   ·have HO := za.mk ho
    clear ho
    go_wp2_with (go_at_call 98;(with_reducible refine (zaU.odd _ _).mono ?_);rintro e w1 ⟨rfl,rfl⟩;rw [HO.out])
    go_round
    case rel =>
     refine ⟨k + 1,by go_num,by omega,⟨fun j y hj hy => ?_⟩⟩
     rcases Nat.lt_succ_iff_lt_or_eq.1 hj with h | h
     ·exact HN.out j y h hy
     ·subst h
      rw [HX.out] at hy
      injection hy with hy
      subst hy
      exact HO.out
    case measure => simp;omega
   ·have HO := za.mk ho
    clear ho
    go_wp2_with (go_at_call 98;(with_reducible refine (zaU.odd _ _).mono ?_);rintro e w1 ⟨rfl,rfl⟩;rw [HO.out])
    go_ret
    exact ⟨by rw [zdx HX.out HO.out HN.out];rfl,rfl⟩
  ·obtain rfl : k = l.length := by omega
   go_wp2_with fail
   go_ret
   exact ⟨by rw [zdy (fun j y hy => HN.out j y (List.getElem?_eq_some_iff.1 hy).1 hy)];rfl,rfl⟩
theorem zaU.contains (A : Option Addr) (c : Nat) (l : List ByteArray) (w : World) (hr : Kd.C Kd.string w A l.length l) (hc : l.length ≤ c) :
  Calls Try.prog 99 #[.slice A l.length c,.func (.func 98) #[] #[]] w fun e w' => e = .returned (.bool (l.any zcG)) ∧ w = w' := by
 have HR := za.mk hr
 have HC := za.mk hc
 clear hr hc
 have HA := za.mk (zh2 zcG l)
 go_enter Try.func99,Try.ntmps99
 go_wp2_with (go_at_call 108;(with_reducible refine (zaU.idx _ _ _ _ HR.out HC.out).mono ?_);rintro e w1 ⟨rfl,rfl⟩)
 go_ret
 exact ⟨by rw [← HA.out];rfl,rfl⟩
def zd4 (o q : Int) (l : List ByteArray) : Bool := decide (1 ≤ o) && decide (o ≤ 64) && decide (1 ≤ q) && decide (q ≤ 1073741824) && decide (1 ≤ l.length) && decide (l.length ≤ 4) && !l.any zcG
def zaU.f (a0_0 : Int) (a0_1 : Int) (l0_2 : List ByteArray) : Option (Bool) := some (zd4 a0_0 a0_1 l0_2)
theorem zaU.walk (a0_0 : Int) (a0_1 : Int) (A : Option Addr) (c : Nat) (l : List ByteArray) (w : World) (hr : Kd.C Kd.string w A l.length l) (hc : l.length ≤ c) :
  Calls Try.prog 87 #[.agg #[.int .i64 a0_0,.int .i64 a0_1,.slice A l.length c]] w fun e w' => e = .returned (.bool (zd4 a0_0 a0_1 l)) ∧ Below w.heap.size w w' := by
 have HR := za.mk hr
 have HC := za.mk hc
 clear hr hc
 have HW := fun (o : Obj) => Kd.C_below HR.out (Below.alloc (Below.refl w.heap.size w) (Nat.le_refl _) o)
 have HW' := za.mk HW
 clear HW
 go_enter Try.func87,Try.ntmps87
 go_wp2_with (go_at_call 99;(with_reducible refine (zaU.contains _ _ _ _ (HW'.out _) HC.out).mono ?_);rintro e w1 ⟨rfl,rfl⟩)
 all_goals go_ret
 all_goals refine ⟨may_ret ?_,(Below.refl _ _).alloc (Nat.le_refl _) _⟩
 all_goals (unfold zd4;simp;try omega)
theorem zaU.calls (a0_0 : Int) (a0_1 : Int) (A0_2 : Option Addr) (c0_2 : Nat) (l0_2 : List ByteArray) (r : Bool) (w : World) (hr0_2 : Kd.C Kd.string w A0_2 l0_2.length l0_2) (hc0_2 : l0_2.length ≤ c0_2) (h : zaU.f a0_0 a0_1 l0_2 = some r) :
  Calls Try.prog 87 #[.agg #[.int .i64 a0_0,.int .i64 a0_1,.slice A0_2 l0_2.length c0_2]] w fun e w' => e = .returned (.bool r) ∧ Below w.heap.size w w' := by
 obtain rfl := Option.some.inj h
 exact zaU.walk a0_0 a0_1 A0_2 c0_2 l0_2 w hr0_2 hc0_2
def beL (v : Nat) : List Int := if v = 0 then [] else beL (v / 256) ++ [((v % 256 : Nat) : Int)]
termination_by v
decreasing_by omega
theorem zf5 : beL 0 = [] := by rw [beL];simp
theorem zhh {v : Nat} (h : 0 < v) : beL v = beL (v / 256) ++ [((v % 256 : Nat) : Int)] := by rw [beL,if_neg (by omega)]
theorem beL_be (v : Nat) : (beL v).map (fun n => UInt8.ofNat n.toNat) = be v := by
 induction v using Nat.strongRecOn with
 | _ v ih =>
  rcases Nat.eq_zero_or_pos v with h | h
  ·subst h;rw [zf5,zeJ];rfl
  ·rw [zhh h,zhi h,List.map_append,ih _ (by omega)];rfl
theorem zh9 (v : Nat) : zbm v = strOfNums (((beL v).length : Int) :: beL v) := (zgj v _ (beL_be v)).symm
def zg6 : Value → Int | .int _ q => q | _ => 0
def Nine (cs : Array Value) (p : Nat) (L : List Int) : Prop := cs.size = 9 ∧ p + L.length = 9 ∧ ∀ i,i < L.length → cs[p + i]? = some (.int .u8 (L.getD i 0))
theorem Nine.cell {cs : Array Value} {p : Nat} {L : List Int} (h : Nine cs p L) (i : Nat) (hi : i < 9) : ∃ v,cs[i]? = some v :=
 ⟨cs[i]'(by rw [h.1];exact hi),Array.getElem?_eq_getElem _⟩
theorem Nine.set {cs : Array Value} {q : Nat} {L : List Int} (h : Nine cs (q + 1) L) (x : Int) : Nine (cs.setIfInBounds q (.int .u8 x)) q (x :: L) := by
 refine ⟨by simp [h.1],by have := h.2.1;simp only [List.length_cons];omega,fun i hi => ?_⟩
 rcases i with _ | i
 ·rw [Nat.add_zero,Array.getElem?_setIfInBounds_self_of_lt (by rw [h.1];have := h.2.1;omega)];rfl
 ·have h2 := h.2.2 i (by simpa using hi)
  rw [Array.getElem?_setIfInBounds_ne (by omega),← Nat.add_assoc,Nat.add_right_comm,h2];simp
theorem pow_step {v q : Nat} (h : v < 256 ^ (q + 1)) : v / 256 < 256 ^ q := by
 rw [Nat.pow_succ] at h
 exact Nat.div_lt_of_lt_mul (by rw [Nat.mul_comm];exact h)
set_option maxHeartbeats 1000000 in
set_option maxRecDepth 100000 in
theorem zao.walk (a0 : Nat) (w : World) (h1 : a0 < 18446744073709551616) :
  Calls Try.prog 70 #[.int .u64 a0] w fun e w' => e = .returned (.string (zbm a0)) ∧ Below w.heap.size w w' := by
 go_enter Try.func70,Try.ntmps70
 go_wp2
 refine wp_scope_jumps 0 (fun a' w' => ∃ (v p n : Nat) (L : List Int) (cs : Array Value) (u6 u7 u8 u9 u10 u11 u12 u13 u14 u15 u16 u17 : Value),
   Nine cs p L ∧ v < 256 ^ (p - 1) ∧ 1 ≤ p ∧ L.length = n ∧ beL a0 = beL v ++ L ∧
   w' = w.alloc (.cells cs 112) ∧
   a' = { tmps := #[.int .u64 v,undef,.string ⟨#[]⟩,.pointer (some ⟨w.heap.size,0,none⟩),.int .i64 p,.int .u8 n,u6,u7,u8,u9,u10,u11,u12,u13,u14,u15,u16,u17,undef,undef,undef,undef,undef,undef,undef,undef],defers := [] })
   (fun a' _ => (zg6 (a'.tmps.getD 4 undef)).toNat) rfl ?_ ?_
 ·rcases Nat.eq_zero_or_pos a0 with h0 | h0
  ·subst h0
   have hcv := fun W => run_convert_bytes_arg (P := Try.prog) (w.alloc W) 91 5 Try.underlying91 Try.underlying5 w.heap.size 8 1 1 [0] rfl
   go_wp2
   go_step3
   go_wp2
   simp only [Exit.jump]
   go_ret
   exact ⟨by rw [zh9,zf5];rfl,(Below.refl _ _).alloc (Nat.le_refl _) _⟩
  ·go_wp2
   go_step3
   go_wp2
   go_step3
   refine ⟨rfl,a0 / 256,8,1,[(a0 % 256 : Nat)],_,_,_,_,_,_,_,_,_,_,_,_,_,?_,?_,?_,rfl,zhh h0,rfl,rfl⟩
   ·refine ⟨rfl,rfl,fun i hi => ?_⟩
    obtain rfl : i = 0 := by simpa using hi
    rfl
   ·have : (256:Nat) ^ (8 - 1) = 72057594037927936 := by decide
    omega
   ·omega
 ·rintro a' w' ⟨v,p,n,L,cs,u6,u7,u8,u9,u10,u11,u12,u13,u14,u15,u16,u17,hN,hv,hp,hn,hb,rfl,rfl⟩
  obtain ⟨q,rfl⟩ : ∃ q,p = q + 1 := ⟨p - 1,by omega⟩
  have hq : q < 9 := by have := hN.2.1;omega
  have hnq : n + q = 8 := by have := hN.2.1;omega
  have hnn : n ≤ 8 := by omega
  have hvb : v < 18446744073709551616 := by
   have : 256 ^ (q + 1 - 1) ≤ 256 ^ 8 := Nat.pow_le_pow_right (by omega) (by omega)
   have : (256:Nat) ^ 8 = 18446744073709551616 := by decide
   omega
  obtain ⟨v0,hc⟩ := hN.cell q hq
  have HN := za.mk hN
  have HB := za.mk hb
  have HV := za.mk hv
  have HL := za.mk hn
  have HQ := za.mk hnq
  clear hN hb hv hn hnq h1
  rcases Nat.eq_zero_or_pos v with h0 | h0
  ·subst h0
   have hq9 : q ≤ 9 := by omega
   have hsl : ∀ W : World,(Instr.sliceAt 112 (.pointer (some ⟨w.heap.size,0,none⟩)) (some (.int .i64 (q : Int))) none none).run Try.prog W = .ok (.slice (some ⟨w.heap.size,q,none⟩) (9 - q) (9 - q)) W := by
    intro W
    rw [run_sliceAt_array_l W 112 _ (by kernel_rfl) .i64 q (by omega) (by show (q : Int) ≤ 9;omega)]
    have e1 : (sizeOf (Try.prog.elem 112)).run Try.prog W = .ok 1 W := by kernel_rfl
    have e2 : Try.prog.arrayLen 112 = 9 := by kernel_rfl
    rw [e1,e2]
    simp only [Result.andThen,slicedAt,Int.toNat_natCast,Nat.mul_one]
    rw [if_neg (by omega),zbI]
   have hS := HN.out.set n
   have hcv := run_convert_bytes_arg (P := Try.prog) (w.alloc (.cells (cs.setIfInBounds q (.int .u8 (n : Int))) 112)) 91 5 Try.underlying91 Try.underlying5 w.heap.size q (9 - q) (9 - q) ((n : Int) :: L) (by rw [List.length_cons,HL.out];have := HQ.out;omega)
    (fun i hi => by
     have h2 := hS.2.2 i (by have := hS.2.1;omega)
     rw [World.cell?_alloc_new];exact h2) 9 Try.underlying9
   clear hS
   go_wp2
   simp only [Exit.jump]
   go_ret
   exact ⟨by rw [zh9,HB.out,zf5,List.nil_append,HL.out];rfl,(Below.refl _ _).alloc (Nat.le_refl _) _⟩
  ·obtain ⟨q',rfl⟩ : ∃ q',q = q' + 1 := ⟨q - 1,by
    rcases Nat.eq_zero_or_pos q with hz | hz
    ·have := HV.out;subst hz;simp at this;omega
    ·omega⟩
   go_wp2
   go_step3
   refine ⟨rfl,⟨v / 256,q' + 1,n + 1,((v % 256 : Nat) : Int) :: L,_,_,_,_,_,_,_,_,_,_,_,_,_,HN.out.set _,pow_step HV.out,by omega,by rw [List.length_cons,HL.out],?_,rfl,rfl⟩,?_⟩
   ·rw [HB.out,zhh h0];simp
   ·simp [zg6];omega
def zao.f (a0 : Int) : Option (ByteArray) := if 0 ≤ a0 then (if a0 < 18446744073709551616 then (some (zbm a0.toNat)) else (none)) else (none)
theorem zao.calls (a0 : Int) (r : ByteArray) (w : World) (h : zao.f a0 = some r) :
  Calls Try.prog 70 #[.int .u64 a0] w fun e w' => e = .returned (.string r) ∧ Below w.heap.size w w' := by
 unfold zao.f at h
 split at h
 ·rename_i h0
  split at h
  ·rename_i h1
   obtain ⟨n,rfl⟩ := Int.eq_ofNat_of_zero_le h0
   obtain rfl := Option.some.inj h
   rw [Int.toNat_natCast]
   exact zao.walk n w (by omega)
  ·cases h
 ·cases h
def zcq.f (a0 : ByteArray) : Option (ByteArray) := if a0.size ≤ 1152921504606846976 then (some (zew a0)) else (none)
theorem zcq.calls (a0 : ByteArray) (r : ByteArray) (w : World) (h : zcq.f a0 = some r) :
  Calls Try.prog 93 #[.string a0] w fun e w' => e = .returned (.string r) ∧ Below w.heap.size w w' := by
 unfold zcq.f at h
 split at h
 ·rename_i h0
  obtain rfl := Option.some.inj h
  clear h
  have hn : (zbm a0.size).size ≤ 9 := za6 (by omega)
  have hn2 : (zbm a0.size).size + a0.size ≤ 9223372036854775807 := by omega
  have HN := za.mk (show zao.f (a0.size : Int) = some (zbm a0.size) by unfold zao.f;rw [if_pos (by omega),if_pos (by omega),Int.toNat_natCast])
  go_enter Try.func93,Try.ntmps93
  go_wp2_with (go_at_call 70;(with_reducible refine (zao.calls _ _ _ HN.out).mono ?_);rintro e w1 ⟨rfl,hb⟩)
  go_ret
  exact ⟨rfl,by assumption⟩
 ·cases h
def zt.l0 : Nat → Int → ByteArray → Option (ByteArray)
 | 0,_,_ => none
 | k + 1,x0,x3 => if x0 > 0 then ((some (([(Int.tmod x0 256) % 256] : List Int) : List Int)).bind fun ya => (if (strOfNums ya).size + x3.size ≤ 9223372036854775807 then (zt.l0 k (IntKind.u64.wrap (Int.tdiv x0 256)) ((strOfNums ya) ++ x3)) else (none))) else ((some (([((x3.size : Int)) % 256] : List Int) : List Int)).bind fun yd => (if (strOfNums yd).size + x3.size ≤ 9223372036854775807 then (some ((strOfNums yd) ++ x3)) else (none)))
def zt.f (k : Nat) (a0 : Int) : Option (ByteArray) := zt.l0 k a0 (⟨#[]⟩ : ByteArray)
set_option maxHeartbeats 8000000 in
set_option maxRecDepth 100000 in
theorem zt.calls (k : Nat) (a0 : Int) (r : ByteArray) (w : World) (h : zt.f k a0 = some r) :
  Calls Try.prog 57 #[.int .u64 a0] w fun e w' => e = .returned (.string r) ∧ Below w.heap.size w w' := by
 have HB := za.mk (Below.refl w.heap.size w)
 have H : (zt.l0 k a0 (⟨#[]⟩ : ByteArray)) = some r := h
 clear h
 have H' := za.mk H
 clear H
 go_enter Try.func57,Try.ntmps57
 go_wp2
 go_loopg [0,3] k (fun kq v0 v3 w' => ∃ (x0_1 : Int) (x3_1 : ByteArray),v0 = .int .u64 x0_1 ∧ v3 = .string x3_1 ∧ za (zt.l0 kq x0_1 x3_1 = some r) ∧ za (kq ≤ k) ∧ za (Below w.heap.size w w'))
 case atStart => exact ⟨(a0),((⟨#[]⟩ : ByteArray)),(hDq),(hDq),H',⟨Nat.le_refl _⟩,⟨by repeat (first | (with_reducible first | exact HB.out | apply zm | apply zj | apply zp) | exact HB.out)⟩⟩
 case round =>
  clear H'
  obtain ⟨x0_1,x3_1,rfl,rfl,HA,HK1,HB⟩ := hrel
  cases gk with
  | zero => exact absurd HA.out (by simp [zt.l0])
  | succ k1 =>
   have H := HA.out
   clear HA
   simp only [zt.l0] at H
   by_cases c2 : x0_1 > 0
   ·rw [if_pos c2] at H
    have c2b0 : decide (0 < x0_1) = true := decide_eq_true c2
    clear c2
    obtain ⟨ya,yb⟩ : ∃ y_ : List Int,y_ = (([(Int.tmod x0_1 256) % 256] : List Int)) := ⟨_,rfl⟩
    replace H : (if (strOfNums ya).size + x3_1.size ≤ 9223372036854775807 then (zt.l0 k1 (IntKind.u64.wrap (Int.tdiv x0_1 256)) ((strOfNums ya) ++ x3_1)) else (none)) = some r := by first | (rw [yb];with_reducible exact H) | (have H2_ := (Option.bind_some _ _).symm.trans H;rw [yb];with_reducible exact H2_) | (have H2_ := (Option.bind_some _ _).symm.trans H;with_reducible exact H2_) | with_reducible exact H | (rw [yb];exact H) | exact H
    have ye := za.mk yb
    clear yb
    by_cases c3 : (strOfNums ya).size + x3_1.size ≤ 9223372036854775807
    ·rw [if_pos c3] at H
     have c3b0 := eq_true c3
     have c3b1 : decide ((strOfNums ya).size + x3_1.size ≤ 9223372036854775807) = true := decide_eq_true c3
     try have c3b2 : (9223372036854775807 < (strOfNums ya).size + x3_1.size) = False := eq_false (Nat.not_lt.2 c3)
     have H' := za.mk H
     clear H
     go_wp2_with (first | ((with_reducible refine zq (N := 9) rfl ?_);refine Kd.R_lit (Kd.int .u8) _ 5 ?hg (N := 9) ?hd (xs := ([(Int.tmod x0_1 256) % 256] : List Int)) (inner := [.int .u8 ((Int.tmod x0_1 256) % 256)]) (ok := fun _ => True) (okp := fun _ => True) ?hr ?hp (fun _ hk => hk) trivial (Below.refl _ _) (Nat.le_refl _) (by simp) ?_;(case hd => rfl);(case hg => rfl);(case hr => first | (go_simp;done) | (go_simp;rfl));(case hp => exact (zaC.one (show Kd.M (Kd.int .u8) _ _ _ ((Int.tmod x0_1 256) % 256) [.int .u8 ((Int.tmod x0_1 256) % 256)] from rfl) (zaC.none _ _)));intro yi w4 ho5 hb hg_ hnew_;clear hg_ hnew_;(first | rw [← ye.out] at ho5 | (simp only [Int.reduceToNat] at ho5;rw [← ye.out] at ho5));have n_ := haq (Kd.R_lower ho5 (zh hBq)) <| haq (zf hBq hb) <| trivial;clear HB;obtain ⟨yg,HB,_⟩ := n_;clear hb ho5;have hcv6 := zdR (P := Try.prog) Try.underlying91 Try.underlying5 Try.underlying9 (Kd.own_of_R yg.out)))
     go_roundg k1
     case measure => have := HK1.out;omega
     case rel => exact ⟨(IntKind.u64.wrap (Int.tdiv x0_1 256)),((strOfNums ya) ++ x3_1),(hDq),(hDq),H',⟨by have := HK1.out;omega⟩,⟨by repeat (first | (with_reducible first | exact HB.out | apply zm | apply zj | apply zp) | exact HB.out)⟩⟩
    ·rw [if_neg c3] at H
     exact absurd H (by simp)
   ·rw [if_neg c2] at H
    have c2b0 : decide (0 < x0_1) = false := decide_eq_false c2
    clear c2
    obtain ⟨yd,yc⟩ : ∃ y_ : List Int,y_ = (([((x3_1.size : Int)) % 256] : List Int)) := ⟨_,rfl⟩
    replace H : (if (strOfNums yd).size + x3_1.size ≤ 9223372036854775807 then (some ((strOfNums yd) ++ x3_1)) else (none)) = some r := by first | (rw [yc];with_reducible exact H) | (have H2_ := (Option.bind_some _ _).symm.trans H;rw [yc];with_reducible exact H2_) | (have H2_ := (Option.bind_some _ _).symm.trans H;with_reducible exact H2_) | with_reducible exact H | (rw [yc];exact H) | exact H
    have yf := za.mk yc
    clear yc
    by_cases c7 : (strOfNums yd).size + x3_1.size ≤ 9223372036854775807
    ·rw [if_pos c7] at H
     have c7b0 := eq_true c7
     have c7b1 : decide ((strOfNums yd).size + x3_1.size ≤ 9223372036854775807) = true := decide_eq_true c7
     try have c7b2 : (9223372036854775807 < (strOfNums yd).size + x3_1.size) = False := eq_false (Nat.not_lt.2 c7)
     obtain rfl := Option.some.inj H
     go_wp2_with (first | ((with_reducible refine zq (N := 18) rfl ?_);refine Kd.R_lit (Kd.int .u8) _ 5 ?hg (N := 18) ?hd (xs := ([((x3_1.size : Int)) % 256] : List Int)) (inner := [.int .u8 (((x3_1.size : Int)) % 256)]) (ok := fun _ => True) (okp := fun _ => True) ?hr ?hp (fun _ hk => hk) trivial (Below.refl _ _) (Nat.le_refl _) (by simp) ?_;(case hd => rfl);(case hg => rfl);(case hr => first | (go_simp;done) | (go_simp;rfl));(case hp => exact (zaC.one (show Kd.M (Kd.int .u8) _ _ _ (((x3_1.size : Int)) % 256) [.int .u8 (((x3_1.size : Int)) % 256)] from rfl) (zaC.none _ _)));intro yj w8 ho9 hb hg_ hnew_;clear hg_ hnew_;(first | rw [← yf.out] at ho9 | (simp only [Int.reduceToNat] at ho9;rw [← yf.out] at ho9));have n_ := haq (Kd.R_lower ho9 (zh hBq)) <| haq (zf hBq hb) <| trivial;clear HB;obtain ⟨yh,HB,_⟩ := n_;clear hb ho9;have hcv10 := zdR (P := Try.prog) Try.underlying91 Try.underlying5 Try.underlying9 (Kd.own_of_R yh.out)))
     go_ret
     exact ⟨hHq,hBq⟩
    ·rw [if_neg c7] at H
     exact absurd H (by simp)
theorem zG {α : Type} {c : Prop} [Decidable c] {f g : Nat → Option α} {r : α} (h : c) (e : Ev f r) : Ev (fun k => if c then f k else g k) r := by
 simp only [if_pos h]
 exact e
theorem zQ {α : Type} {c : Prop} [Decidable c] {f g : Nat → Option α} {r : α} (h : ¬ c) (e : Ev g r) : Ev (fun k => if c then f k else g k) r := by
 simp only [if_neg h]
 exact e
theorem z4 {α : Type} {f : Nat → Option α} {a b : α} (h : Ev f a) (e : a = b) : Ev f b := e ▸ h
theorem zak {α β : Type} {o : Option α} {f : Nat → α → Option β} {a : α} {r : β} (h : o = some a) (k : Ev (fun n => f n a) r) : Ev (fun n => o.bind (f n)) r := by
 subst h
 exact k
theorem zb4 {x : Int} (h0 : 0 ≤ x) (h1 : x < 18446744073709551616) : IntKind.u64.wrap x = x := by
 show x % 18446744073709551616 = x
 omega
theorem zab {x : Int} (h0 : -9223372036854775808 ≤ x) (h1 : x < 9223372036854775808) : wrap64 x = x := by
 unfold wrap64
 omega
theorem zgv (acc : Bs) (hl : acc.length ≤ 200) : Ev (fun k => zt.l0 k ((0 : Nat) : Int) (toB acc)) (toB (UInt8.ofNat acc.length :: acc)) := by
 refine Ev.step (fun k => by rw [zt.l0]) ?_
 refine zQ (by simp) ?_
 simp only [Option.bind_some,zbU,List.map_cons,List.map_nil,zay,List.length_cons,List.length_nil]
 refine zG (by omega) ?_
 have e : ((acc.length : Int) % 256).toNat = acc.length := by omega
 rw [e]
 exact z4 (Ev.now _) (by rw [← zbc];rfl)
theorem zii (n : Nat) : ∀ (v : Nat) (acc : Bs),v < 256 ^ n → n + acc.length ≤ 200 → v < 18446744073709551616 →
  Ev (fun k => zt.l0 k (v : Int) (toB acc)) (toB (UInt8.ofNat (be v ++ acc).length :: (be v ++ acc))) := by
 induction n with
 | zero =>
  intro v acc hv hl _
  obtain rfl : v = 0 := by simpa using hv
  rw [zeJ,List.nil_append]
  exact zgv acc (by omega)
 | succ n ih =>
  intro v acc hv hl hm
  rcases Nat.eq_zero_or_pos v with h | h
  ·subst h
   rw [zeJ,List.nil_append]
   exact zgv acc (by omega)
  ·refine Ev.step (fun k => by rw [zt.l0]) ?_
   refine zG (by omega) ?_
   simp only [Option.bind_some,zbU,List.map_cons,List.map_nil,zay,List.length_cons,List.length_nil]
   refine zG (by omega) ?_
   have e1 : IntKind.u64.wrap (Int.tdiv (v : Int) 256) = ((v / 256 : Nat) : Int) := by
    rw [Int.tdiv_eq_ediv_of_nonneg (by omega),zb4 (by omega) (by omega)];omega
   have e2 : (Int.tmod (v : Int) 256 % 256).toNat = v % 256 := by
    rw [Int.tmod_eq_emod_of_nonneg (by omega)];omega
   rw [e1,e2]
   have := ih (v / 256) ([UInt8.ofNat (v % 256)] ++ acc) (by rw [Nat.pow_succ] at hv;omega) (by simp;omega) (by omega)
   rw [zhi h,List.append_assoc]
   rw [zbc [UInt8.ofNat (v % 256)] acc] at this
   exact this
theorem zfi (v : Nat) (hv : v < 18446744073709551616) : Ev (fun k => zt.f k (v : Int)) (zbm v) := by
 have e8 : (256 : Nat) ^ 8 = 18446744073709551616 := by decide
 have h := zii 8 v [] (by omega) (by simp) hv
 rw [List.append_nil] at h
 exact h
def zba.f (a0 : ByteArray) : Option (ByteArray) := if a0.size ≤ 1152921504606846976 then (some (zew a0)) else (none)
theorem zba.calls (a0 : ByteArray) (r : ByteArray) (w : World) (h : zba.f a0 = some r) :
  Calls Try.prog 82 #[.string a0] w fun e w' => e = .returned (.string r) ∧ Below w.heap.size w w' := by
 unfold zba.f at h
 split at h
 ·rename_i h0
  obtain rfl := Option.some.inj h
  clear h
  have hn : (zbm a0.size).size ≤ 9 := za6 (by omega)
  have hn2 : (zbm a0.size).size + a0.size ≤ 9223372036854775807 := by omega
  obtain ⟨k,hk⟩ := (zfi a0.size (by omega)).rounds
  have HN := za.mk hk
  clear hk
  go_enter Try.func82,Try.ntmps82
  go_wp2_with (go_at_call 57;(with_reducible refine (zt.calls _ _ _ _ HN.out).mono ?_);rintro e w1 ⟨rfl,hb⟩)
  go_ret
  exact ⟨rfl,by assumption⟩
 ·cases h
theorem zdp (v : Nat) (hv : v < 18446744073709551616) : zao.f (v : Int) = some (zbm v) := by
 unfold zao.f
 rw [if_pos (by omega),if_pos (by omega),Int.toNat_natCast]
theorem zf7 (t : ByteArray) (h : t.size ≤ 1152921504606846976) : zcq.f t = some (zew t) := by unfold zcq.f;rw [if_pos h]
theorem zd1 (t : ByteArray) (h : t.size ≤ 1152921504606846976) : zba.f t = some (zew t) := by unfold zba.f;rw [if_pos h]
theorem bldInfo5 : (Try.prog.info? 5).map (fun i => (i.zero,i.size,i.bytes)) = some (some (.int .u8 0),1,1) := by kernel_rfl
theorem zg0 : (Try.prog.info? 115).map (·.size) = some 2 := by kernel_rfl
theorem bldLies : liesAt Try.prog Try.prog.depth 115 (2 / Try.prog.cellsOf 115) 0 115 1 = true := by kernel_rfl
abbrev zer (B b : Nat) (l : Bs) (w : World) : Prop := Lib.IsBuilder 115 5 B b (Lib.byteCells l) w
theorem zer.below {B b : Nat} {l : Bs} {w w' : World} (h : zer B b l w) (hb : Below w.heap.size w w') : zer B b l w' := by
 have key : ∀ p,Lib.BuilderAt 115 5 B b p (Lib.byteCells l) w → Lib.BuilderAt 115 5 B b p (Lib.byteCells l) w' := by
  rintro p ⟨hB,v,hk,hown,hne⟩
  have hlt : b < w.heap.size := Lib.BuilderAt.lt ⟨hB,v,hk,hown,hne⟩
  exact ⟨hB,v,(hb.block b hlt).trans hk,zb7 hown hb,hne⟩
 exact h.imp (key _) (key _)
set_option maxHeartbeats 1000000 in
set_option maxRecDepth 100000 in
theorem zf6 (b : Nat) (w : World) (h0 : w.cell? ⟨b,0,none⟩ = some (.pointer (some ⟨b,0,none⟩))) :
  Calls Try.prog 102 #[.pointer (some ⟨b,0,none⟩)] w fun e w' => e = .returned (.tuple #[]) ∧ w = w' := by
 obtain ⟨j,hj,_⟩ := Option.map_eq_some_iff.1 zg0
 go_enter Try.func102,Try.ntmps102
 go_wp2
 rw [Lib.run_neq_ptr_same w _ Try.underlying113 hj]
 go_wp2
 go_end0
 exact ⟨rfl,rfl⟩
set_option maxHeartbeats 1000000 in
set_option maxRecDepth 100000 in
theorem zfF (b : Nat) (w : World) (h0 : w.cell? ⟨b,0,none⟩ = some (.pointer none)) (hsh : w.shape? b = some (115,2)) (hfz : w.frozen? ⟨b,0,none⟩ = false) :
  Calls Try.prog 102 #[.pointer (some ⟨b,0,none⟩)] w fun e w' => e = .returned (.tuple #[]) ∧ w.setCell ⟨b,0,none⟩ (.pointer (some ⟨b,0,none⟩)) = w' := by
 obtain ⟨j,hj,hjs⟩ := Option.map_eq_some_iff.1 zg0
 go_enter Try.func102,Try.ntmps102
 go_wp2
 rw [Lib.run_to_unsafe w ⟨b,0,none⟩ Try.underlying113 Try.underlying133 hj (by rw [hjs];decide) hsh (Nat.zero_lt_succ 1)]
 simp only [Result.andThen]
 rw [Oper.upon_value]
 go_wp2
 rw [run_callFunc_extern Try.func110 (by kernel_rfl) (by kernel_rfl) (by kernel_rfl) (e := Extern.AbiNoEscape.same) (by kernel_rfl)]
 rw [Lib.run_noEscape]
 simp only [Result.andThen]
 rw [Oper.upon_value]
 go_wp2
 rw [Lib.run_from_unsafe w ⟨b,0,none⟩ Try.underlying133 Try.underlying113 hj hsh bldLies]
 simp only [Result.andThen]
 rw [Oper.upon_value]
 go_wp2
 go_end0
 exact ⟨rfl,rfl⟩
theorem zgK (B b : Nat) (bs : List Value) (w : World) (h : Lib.IsBuilder 115 5 B b bs w) :
  Calls Try.prog 102 #[.pointer (some ⟨b,0,none⟩)] w fun e w' => e = .returned (.tuple #[]) ∧ (Lib.BuilderAt 115 5 B b (.pointer (some ⟨b,0,none⟩)) bs w' ∧ Below B w w') := by
 rcases h with h | h
 ·refine (zfF b w h.cell0 h.shape h.frozen0).mono ?_
  rintro e w' ⟨rfl,rfl⟩
  exact ⟨rfl,h.used _,(Below.refl B w).setCell (p := ⟨b,0,none⟩) h.1 _⟩
 ·refine (zf6 b w h.cell0).mono ?_
  rintro e w' ⟨rfl,rfl⟩
  exact ⟨rfl,h,Below.refl B _⟩
set_option maxHeartbeats 2000000 in
set_option maxRecDepth 100000 in
theorem zd0 (B b : Nat) (l : Bs) (s : ByteArray) (w : World) (h : zer B b l w) (hlen : l.length + s.size ≤ 140737488355328) (hBw : B ≤ w.heap.size) :
  Calls Try.prog 92 #[.pointer (some ⟨b,0,none⟩),.string s] w fun e w' => e = .returned (.tuple #[.int .i64 s.size,.nilIface]) ∧ zer B b (l ++ ofB s) w' ∧ Below B w w' := by
 obtain ⟨i0,hi,hz0,hz1,hz2⟩ := info_parts bldInfo5
 have hlc : (Lib.byteCells l).length = l.length := Lib.byteCells_length l
 go_enter Try.func92,Try.ntmps92
 go_wp2_with (go_at_call 102;refine (zgK B b _ _ h).mono ?_)
 rintro e w1 ⟨rfl,h1,hb1⟩
 obtain ⟨hB,v,hbk,hown,hne⟩ := h1
 have c0 : w1.cell? ⟨b,0,none⟩ = some (.pointer (some ⟨b,0,none⟩)) := by rw [Lib.cell_of_heap hbk];rfl
 have c1 : w1.cell? ⟨b,1,none⟩ = some v := by rw [Lib.cell_of_heap hbk];rfl
 go_wp2_with (at_builtin;refine Lib.wpList_append_own_string _ rfl _ _ 91 9 rfl B 5 i0 Try.underlying91 Try.underlying9 hi hz0 hz1 hz2 _ _ _ rfl hown s rfl ?c3 ?c4 ?c5 ?_)
 case c3 => unfold maxLen;omega
 case c4 => omega
 case c5 => have := hb1.size;omega
 intro v' w2 hown' hgrow _
 have hlt : b < w1.heap.size := by
  rcases Nat.lt_or_ge b w1.heap.size with h' | h'
  ·exact h'
  ·simp [Array.getElem?_eq_none h'] at hbk
 have hb2 : w2.heap[b]? = some (.cells #[.pointer (some ⟨b,0,none⟩),v] 115 (0,0)) := by
  rw [hgrow.block b hlt (fun e => hne e.symm)]
  exact hbk
 have d0 : w2.cell? ⟨b,0,none⟩ = some (.pointer (some ⟨b,0,none⟩)) := by rw [Lib.cell_of_heap hb2];rfl
 have d1 : w2.cell? ⟨b,1,none⟩ = some v := by rw [Lib.cell_of_heap hb2];rfl
 have f1 : w2.frozen? ⟨b,1,none⟩ = false := Lib.frozen_of_heap hb2 1
 obtain ⟨ao,n',cap,rfl⟩ : ∃ ao n' cap,v' = .slice ao n' cap := by
  rcases hown'.2 with ⟨hv,_⟩ | ⟨g,cap,cur,hv,_⟩
  ·exact ⟨_,_,_,hv⟩
  ·exact ⟨_,_,_,hv⟩
 go_wp2
 go_ret2
 refine ⟨rfl,.inr ?_,?_⟩
 ·have e1 : Lib.byteCells l ++ Lib.strCells s = Lib.byteCells (l ++ ofB s) := by rw [Lib.strCells_eq];simp [Lib.byteCells,ofB]
  rw [e1] at hown'
  refine Lib.BuilderAt.put (T := 115) (e := 5) hB hb2 (bs' := Lib.byteCells (l ++ ofB s)) ?_ (by decide)
  rw [Lib.byteCells_length,List.length_append,zat]
  exact hown'
 ·exact (hb1.grown hgrow (by have := hb1.size;omega) (fun k hk => (hown.lt k hk).1)).setCell (p := ⟨b,1,none⟩) hB _
set_option maxHeartbeats 1000000 in
set_option maxRecDepth 100000 in
theorem zgJ (B b : Nat) (l : Bs) (w : World) (h : zer B b l w) (h0 : l ≠ []) :
  Calls Try.prog 94 #[.pointer (some ⟨b,0,none⟩)] w fun e w' => e = .returned (.string (toB l)) ∧ Below B w w' := by
 obtain ⟨p,hB,v,hbk,hown,hne⟩ : ∃ p,Lib.BuilderAt 115 5 B b p (Lib.byteCells l) w := by
  rcases h with h | h
  ·exact ⟨_,h⟩
  ·exact ⟨_,h⟩
 have hl0 : l.length ≠ 0 := by simpa using h0
 rw [Lib.byteCells_length] at hown
 obtain ⟨g,cap,cur,rfl,hbg,hg,hnc,hcm,hcs,htake⟩ : ∃ g cap cur,v = .slice (some ⟨g,0,none⟩) l.length cap ∧ B ≤ g ∧ w.heap[g]? = some (.cells cur 5 (0,0)) ∧ l.length ≤ cap ∧ cap ≤ maxLen ∧ cur.size = cap * 1 ∧ cur.toList.take (l.length * 1) = Lib.byteCells l := by
  rcases hown.2 with ⟨_,hz⟩ | ⟨g,cap,cur,hv,r⟩
  ·exact absurd hz hl0
  ·exact ⟨g,cap,cur,hv,r⟩
 have c1 : w.drew.cell? ⟨b,1,none⟩ = some (.slice (some ⟨g,0,none⟩) l.length cap) := by
  have : w.drew.heap[b]? = some (.cells #[p,.slice (some ⟨g,0,none⟩) l.length cap] 115 (0,0)) := hbk
  rw [Lib.cell_of_heap this];rfl
 have hSD : (Builtin.unsafeSliceData_ #[91] 127 #[.slice (some ⟨g,0,none⟩) l.length cap]).run Try.prog w.drew = .ok (.pointer (some ⟨g,0,none⟩)) w.drew :=
  Lib.run_unsafeSliceData_row _ _ _ _ _ _ (by omega)
 have hUS : (Builtin.unsafeString_ #[127,3] 9 #[.pointer (some ⟨g,0,none⟩),.int .i64 l.length]).run Try.prog w.drew = .ok (.string ⟨l.toArray⟩) (w.drew.freeze ⟨g,0,none⟩ l.length) := by
  refine Lib.run_unsafeString_row w.drew 127 3 9 5 Try.underlying127 (by kernel_rfl) g cur.size (by have hg' : w.drew.heap[g]? = some (.cells cur 5 (0,0)) := hg;simp [World.shape?,hg']) l h0 (by omega) (by unfold maxLen at hcm;omega) ?_
  intro j x hx
  have := hown.cells (g := g) rfl j (.int .u8 x.toNat) (by simp [Lib.byteCells,hx])
  exact this
 go_enter Try.func94,Try.ntmps94
 go_wp2
 go_region
 all_goals (go_wp2;go_ret;exact ⟨rfl,Lib.below_freeze (Below.drew (Below.refl B w)) (p := ⟨g,0,none⟩) hbg _⟩)
def zbw (l : List ByteArray) : Bs := l.flatMap (fun t => zgB (ofB t))
def zcm (l : List ByteArray) : Bs := zdq l.length ++ zbw l
theorem zeG (l : List ByteArray) (k : Nat) (t : ByteArray) (h : l[k]? = some t) : zbw (l.take (k + 1)) = zbw (l.take k) ++ ofB (zew t) := by
 have hk := (List.getElem?_eq_some_iff.1 h)
 obtain ⟨hk,rfl⟩ := hk
 rw [List.take_succ_eq_append_getElem hk,zbw,zbw,List.flatMap_append,textB_eq,zdl]
 simp
theorem zds (l : List ByteArray) (k : Nat) : (zbw (l.take k)).length ≤ (zbw l).length := by
 have : zbw l = zbw (l.take k) ++ zbw (l.drop k) := by rw [zbw,zbw,zbw,← List.flatMap_append,List.take_append_drop]
 rw [this,List.length_append];omega
theorem zik (l : List ByteArray) : l.length ≤ (zbw l).length := by
 induction l with
 | nil => simp
 | cons t l ih =>
  have : zbw (t :: l) = zgB (ofB t) ++ zbw l := rfl
  rw [this,List.length_append,List.length_cons,zgB,zdq]
  simp only [List.length_cons,List.length_append]
  omega
theorem zeP (l : List ByteArray) (k : Nat) (t : ByteArray) (h : l[k]? = some t) : t.size ≤ (zbw l).length := by
 have h1 := zeG l k t h
 have h2 := zds l (k + 1)
 rw [h1,List.length_append,zat,zew,ByteArray.size_append] at h2
 omega
def zV.Bld (B : Nat) (l : List ByteArray) (k : Nat) (w0 wr : World) : Prop := zer B w0.heap.size (zdq l.length ++ zbw (l.take k)) wr ∧ Below w0.heap.size w0 wr
theorem zV.walk (A : Option Addr) (c : Nat) (l : List ByteArray) (w : World) (hr : Kd.C Kd.string w A l.length l) (hc : l.length ≤ c) (hs : (zcm l).length ≤ 140737488355328) :
  Calls Try.prog 71 #[.slice A l.length c] w fun e w' => e = .returned (.string (toB (zcm l))) ∧ Below w.heap.size w w' := by
 have hm := hr.2.1
 have hll := zik l
 have hsum : (zcm l).length = (zdq l.length).length + (zbw l).length := by rw [zcm,List.length_append]
 have hlen : l.length ≤ 140737488355328 := by omega
 have HN := za.mk (zdp l.length (by omega))
 have HR := za.mk hr
 have HF : za (zer w.heap.size w.heap.size [] (w.alloc (.cells #[.pointer none,.slice none 0 0] 115))) := ⟨Lib.fresh_isBuilder 115 5 w⟩
 have HS := za.mk hs
 have HU := za.mk hsum
 clear hr hs hll hsum
 go_enter Try.func71,Try.ntmps71
 go_wp2_with (go_at_call 70;(with_reducible refine (zao.calls _ _ _ HN.out).mono ?_);rintro e w1 ⟨rfl,hb1⟩)
 have hB1 := zer.below HF.out hb1
 have hw1 : Below w.heap.size w w1 := zf ((Below.refl _ _).alloc (Nat.le_refl _) _) hb1
 have hsz1 := hw1.size
 clear hb1
 refine (zd0 w.heap.size w.heap.size [] (zbm l.length) w1 hB1 (by have := za6 (v := l.length) (by omega);simp;omega) hsz1).mono ?_
 rintro e w2 ⟨rfl,hB2,hw2⟩
 have HL : za (zV.Bld w.heap.size l 0 w w2) := ⟨by rw [zbm,zdl,List.nil_append] at hB2;rw [List.take_zero,show zbw [] = [] from rfl,List.append_nil];exact hB2,hw1.trans hw2⟩
 clear hB1 hB2 hw1 hw2 hsz1
 go_wp2_with fail
 go_loopw [5,13] (fun _ v13 wr => ∃ k : Nat,v13 = .int .i64 k ∧ k ≤ l.length ∧ za (zV.Bld w.heap.size l k w wr)) (fun _ v13 _ => l.length - (match v13 with | .int _ q => q | _ => 0).toNat)
 case atStart => exact ⟨0,rfl,Nat.zero_le _,HL⟩
 case round =>
  obtain ⟨k,rfl,hk,HK⟩ := hrel
  by_cases hlt : k < l.length
  ·obtain ⟨ad,rfl,hcell⟩ := Kd.at_string (Kd.C_below HR.out HK.out.2) (k : Int) (by omega) (by omega)
   rw [Int.toNat_natCast] at hcell
   have hb : decide (k < l.length) = true := decide_eq_true hlt
   have hx : l[k]? = some (zB ByteArray.empty l (k : Int)) := by
    rw [zB,Int.toNat_natCast,List.getD_eq_getElem?_getD,List.getElem?_eq_getElem hlt];rfl
   have HX := za.mk hx
   clear hx
   generalize zB ByteArray.empty l (k : Int) = s at *
   have hs := zeP l k s HX.out
   have HT := za.mk (zf7 s (by have := HS.out;have := HU.out;omega))
   have h2 := zeG l k s HX.out
   have h3 := zds l (k + 1)
   rw [h2,List.length_append,zat] at h3
   have H2 := za.mk h2
   have H3 : za ((zdq l.length ++ zbw (l.take k)).length + (zew s).size ≤ 140737488355328) := ⟨by rw [List.length_append];have := HS.out;have := HU.out;omega⟩
   clear h2 h3 hs
   go_wp2_with (go_at_call 93;(with_reducible refine (zcq.calls _ _ _ HT.out).mono ?_);rintro e w3 ⟨rfl,hb3⟩)
   refine (zd0 w.heap.size w.heap.size _ (zew s) w3 (zer.below HK.out.1 hb3) H3.out (Nat.le_trans HK.out.2.size hb3.size)).mono ?_
   rintro e w4 ⟨rfl,hB4,hw4⟩
   have HL4 : za (zV.Bld w.heap.size l (k + 1) w w4) := ⟨by rw [H2.out,← List.append_assoc];exact hB4,(zf HK.out.2 hb3).trans hw4⟩
   clear hB4 hw4 hb3
   go_wp2
   go_roundw
   case rel => exact ⟨k + 1,by go_num,by omega,HL4⟩
   case measure => simp;omega
  ·obtain rfl : k = l.length := by omega
   have HE : za (zdq l.length ++ zbw (l.take l.length) = zcm l) := ⟨by rw [List.take_of_length_le (Nat.le_refl _)];rfl⟩
   go_wp2_with (go_at_call 94;refine (zgJ w.heap.size w.heap.size _ _ HK.out.1 (by simp [zdq])).mono ?_;rintro e w3 ⟨rfl,hb3⟩)
   go_ret
   exact ⟨rfl,HK.out.2.trans hb3⟩
def zV.f (l0 : List ByteArray) : Option (ByteArray) := if (zcm l0).length ≤ 140737488355328 then (some (toB (zcm l0))) else (none)
theorem zV.calls (A0 : Option Addr) (c0 : Nat) (l0 : List ByteArray) (r : ByteArray) (w : World) (hr0 : Kd.C Kd.string w A0 l0.length l0) (hc0 : l0.length ≤ c0) (h : zV.f l0 = some r) :
  Calls Try.prog 71 #[.slice A0 l0.length c0] w fun e w' => e = .returned (.string r) ∧ Below w.heap.size w w' := by
 unfold zV.f at h
 split at h
 ·rename_i hs
  obtain rfl := Option.some.inj h
  exact zV.walk A0 c0 l0 w hr0 hc0 hs
 ·cases h
def zaO.f (a0_0 : Int) (a0_1 : Int) (l0_2 : List ByteArray) : Option (ByteArray × Int) := (zaU.f a0_0 a0_1 l0_2).bind fun yf => (if yf = true then ((zao.f (IntKind.u64.wrap (a0_0))).bind fun yc => ((zao.f (IntKind.u64.wrap (a0_1))).bind fun yb => (if yc.size + yb.size ≤ 9223372036854775807 then ((zV.f l0_2).bind fun yd => (if (yc ++ yb).size + yd.size ≤ 9223372036854775807 then (some ((yc ++ yb) ++ yd,0)) else (none))) else (none)))) else (some ((⟨#[]⟩ : ByteArray),1)))
def zaO.T3 : Bool × List (List Nat × List Nat) := (true,[([],[]),([0],[0]),([1],[1]),([2],[2]),([],[]),([4],[4]),([5],[5]),([6,3],[6]),([3,7],[3,7]),([],[]),([9],[9]),([10,7],[10]),([8,11],[8,11]),([12,11,0,1,2,3,4,5,6,7,8,9,10,11,12],[12]),([13,0,1,2,3,4,5,6,7,8,9,10,11,12,13],[])])
def zaO.B3 : List Nat := [0,1,3,7,0,16,48,127,255,0,512,1791,4095,8191,16383]
theorem zaO.tab3 : zb3 .any (zdC Try.f67 3) = zaO.T3 := by kernel_rfl
theorem zaO.bits3 : zbD zaO.T3.2 zaO.B3 = true := by kernel_rfl
set_option maxHeartbeats 8000000 in
set_option maxRecDepth 100000 in
theorem zaO.calls (a0_0 : Int) (a0_1 : Int) (A0_2 : Option Addr) (c0_2 : Nat) (l0_2 : List ByteArray) (r1 : ByteArray) (r2 : Int) (w : World) (hr0_2 : Kd.C Kd.string w A0_2 l0_2.length l0_2) (hc0_2 : l0_2.length ≤ c0_2) (h : zaO.f a0_0 a0_1 l0_2 = some (r1,r2)) :
  Calls Try.prog 67 #[.agg #[.int .i64 a0_0,.int .i64 a0_1,.slice A0_2 l0_2.length c0_2]] w fun e w' => e = .returned (.tuple #[.string r1,.int .i64 r2]) ∧ Below w.heap.size w w' := by
 have hu78 := Try.underlying78
 have HR0_2 := za.mk hr0_2
 have HC0_2 := za.mk hc0_2
 clear hr0_2 hc0_2
 have HB := za.mk (Below.refl w.heap.size w)
 have H : ((zaU.f a0_0 a0_1 l0_2).bind fun yf => (if yf = true then ((zao.f (IntKind.u64.wrap (a0_0))).bind fun yc => ((zao.f (IntKind.u64.wrap (a0_1))).bind fun yb => (if yc.size + yb.size ≤ 9223372036854775807 then ((zV.f l0_2).bind fun yd => (if (yc ++ yb).size + yd.size ≤ 9223372036854775807 then (some ((yc ++ yb) ++ yd,0)) else (none))) else (none)))) else (some ((⟨#[]⟩ : ByteArray),1)))) = some (r1,r2) := h
 clear h
 replace H := Option.bind_eq_some_iff.mp H
 obtain ⟨yf,A20,H⟩ := H
 replace H : (if yf = true then ((zao.f (IntKind.u64.wrap (a0_0))).bind fun yc => ((zao.f (IntKind.u64.wrap (a0_1))).bind fun yb => (if yc.size + yb.size ≤ 9223372036854775807 then ((zV.f l0_2).bind fun yd => (if (yc ++ yb).size + yd.size ≤ 9223372036854775807 then (some ((yc ++ yb) ++ yd,0)) else (none))) else (none)))) else (some ((⟨#[]⟩ : ByteArray),1))) = some (r1,r2) := H
 have A2 := za.mk A20
 clear A20
 by_cases c3 : yf = true
 ·subst c3
  have H1 : ((zao.f (IntKind.u64.wrap (a0_0))).bind fun yc => ((zao.f (IntKind.u64.wrap (a0_1))).bind fun yb => (if yc.size + yb.size ≤ 9223372036854775807 then ((zV.f l0_2).bind fun yd => (if (yc ++ yb).size + yd.size ≤ 9223372036854775807 then (some ((yc ++ yb) ++ yd,0)) else (none))) else (none)))) = some (r1,r2) := by rw [if_pos rfl] at H;exact H
  clear H
  have H := H1
  clear H1
  replace H := Option.bind_eq_some_iff.mp H
  obtain ⟨yc,A40,H⟩ := H
  replace H : ((zao.f (IntKind.u64.wrap (a0_1))).bind fun yb => (if yc.size + yb.size ≤ 9223372036854775807 then ((zV.f l0_2).bind fun yd => (if (yc ++ yb).size + yd.size ≤ 9223372036854775807 then (some ((yc ++ yb) ++ yd,0)) else (none))) else (none))) = some (r1,r2) := H
  have A4 := za.mk A40
  clear A40
  replace H := Option.bind_eq_some_iff.mp H
  obtain ⟨yb,A50,H⟩ := H
  replace H : (if yc.size + yb.size ≤ 9223372036854775807 then ((zV.f l0_2).bind fun yd => (if (yc ++ yb).size + yd.size ≤ 9223372036854775807 then (some ((yc ++ yb) ++ yd,0)) else (none))) else (none)) = some (r1,r2) := H
  have A5 := za.mk A50
  clear A50
  by_cases c6 : yc.size + yb.size ≤ 9223372036854775807
  ·rw [if_pos c6] at H
   have c6b0 := eq_true c6
   have c6b1 : decide (yc.size + yb.size ≤ 9223372036854775807) = true := decide_eq_true c6
   try have c6b2 : (9223372036854775807 < yc.size + yb.size) = False := eq_false (Nat.not_lt.2 c6)
   replace H := Option.bind_eq_some_iff.mp H
   obtain ⟨yd,A70,H⟩ := H
   replace H : (if (yc ++ yb).size + yd.size ≤ 9223372036854775807 then (some ((yc ++ yb) ++ yd,0)) else (none)) = some (r1,r2) := H
   have A7 := za.mk A70
   clear A70
   by_cases c8 : (yc ++ yb).size + yd.size ≤ 9223372036854775807
   ·rw [if_pos c8] at H
    have c8b0 := eq_true c8
    have c8b1 : decide ((yc ++ yb).size + yd.size ≤ 9223372036854775807) = true := decide_eq_true c8
    try have c8b2 : (9223372036854775807 < (yc ++ yb).size + yd.size) = False := eq_false (Nat.not_lt.2 c8)
    try (have c8b3 := c8;simp [ByteArray.size_append] at c8b3;have c8b4 := eq_false (Nat.not_lt.2 c8b3);clear c8b3)
    simp only [Option.some.injEq,Prod.mk.injEq] at H
    obtain ⟨rfl,rfl⟩ := H
    go_enter Try.func67,Try.ntmps67
    try go_wp2_with (first | ((with_reducible refine zq (N := 1) rfl ?_);refine zn rfl (N := 1) rfl (cs := #[.int .i64 a0_0,.int .i64 a0_1,.slice A0_2 l0_2.length c0_2]) (t := 78) hrq ?_;intro ye hg w9 hbox hb;have n_ := haq (zf hBq hb) <| haq (hbox) <| haq ((by rw [hg];exact (zh hBq) : w.heap.size ≤ ye)) <| haq ((by rw [hg];exact (zh hBq) : w.heap.size ≤ ye)) <| trivial;clear HB;obtain ⟨HB,ya,yh,yg,_⟩ := n_;clear hb hbox hg;obtain ⟨hcz10_0,hcz10_1,hcz10_2,hfz10_0,hfz10_1,hfz10_2⟩ := hcq3 ya.out) | ((with_reducible refine zN (f := 87) rfl ?_);refine zax (some 5) rfl rfl Try.func87 (by kernel_rfl) rfl #[.agg #[.int .i64 a0_0,.int .i64 a0_1,.slice A0_2 l0_2.length c0_2]] rfl hMq ?_;(with_reducible refine (zaU.calls a0_0 a0_1 _ _ l0_2 true _ ?side1 ?side2 A2.out).mono ?_);(case side1 => exact hKq (Kd.C_below HR0_2.out HB.out));(case side2 => exact HC0_2.out);rintro e w11 ⟨rfl,hb⟩;refine ⟨_,rfl,?_⟩;have n_ := haq (hbq ya.out hb) <| haq (zf hCq hb) <| trivial;clear ya HB;obtain ⟨ya,HB,_⟩ := n_;(try clear hb);(try clear hb2);(try clear hk);(try clear hi)))
    have n0_ := za.mk (zaa ya.out)
    have n1_ := za.mk (zp HB.out)
    clear ya
    clear HB
    have ya := n0_
    have HB := n1_
    clear n0_ n1_
    refine zbx (n := 15) (S := fun w' => w'.cell? ⟨ye,0,none⟩ = some (.int .i64 a0_0) ∧ w'.cell? ⟨ye,1,none⟩ = some (.int .i64 a0_1) ∧ w'.cell? ⟨ye,2,none⟩ = some (.slice A0_2 l0_2.length c0_2)) (ds := []) (uQ 15 0) (by kernel_rfl) rfl rfl ⟨(zb ya.out 0).trans rfl,(zb ya.out 1).trans rfl,(zb ya.out 2).trans rfl⟩ (fun hHeld => ?_);refine zaG zaO.tab3 zaO.bits3 (fun HT_ HW_ => ?_)
    generalize w11.drew = w12 at ya HB hHeld ⊢
    refine puq (i := 0) (N := some 7) HT_.out (uQ 15 1) ?_
    refine puq (i := 4) (N := some 11) HT_.out #[true,false,false,false,true,false,false,false,false,false,false,false,false,false,false] ?_
    refine puq (i := 9) (N := some 16) HT_.out #[true,false,false,false,true,false,false,false,false,true,false,false,false,false,false] ?_
    refine take_ (i := 1) (N := some 8) #[true,true,false,false,true,false,false,false,false,true,false,false,false,false,false] rfl rfl (zU HT_.out HW_.out (by kernel_rfl)) (fun _ _ _ h => h) (Or.inl ⟨by rfl,by rintro w' ⟨s0,s1,s2⟩;go_simp;with_reducible rfl⟩) hHeld hPq ?_
    refine puq (i := 2) (N := some 9) HT_.out #[true,true,true,false,true,false,false,false,false,true,false,false,false,false,false] ?_
    refine take_ (i := 5) (N := some 12) #[true,true,true,false,true,true,false,false,false,true,false,false,false,false,false] rfl rfl (zU HT_.out HW_.out (by kernel_rfl)) (fun _ _ _ h => h) (Or.inl ⟨by rfl,by rintro w' ⟨s0,s1,s2⟩;go_simp;with_reducible rfl⟩) hHeld hPq ?_
    refine puq (i := 6) (N := some 13) HT_.out #[true,true,true,false,true,true,true,false,false,true,false,false,false,false,false] ?_
    refine take_ (i := 10) (N := some 17) #[true,true,true,false,true,true,true,false,false,true,true,false,false,false,false] rfl rfl (zU HT_.out HW_.out (by kernel_rfl)) (fun _ _ _ h => h) (Or.inl ⟨by rfl,by rintro w' ⟨s0,s1,s2⟩;go_simp;with_reducible rfl⟩) hHeld hPq ?_
    refine zcl (i := 3) (N := some 10) #[true,true,true,true,true,true,true,false,false,true,true,false,false,false,false] rfl rfl (zaY HT_.out (by kernel_rfl)) (by decide) (fun K hK => ?_)
    refine zbs Try.func70 (by kernel_rfl) rfl #[.int .u64 (IntKind.u64.wrap (a0_0))] (by rfl) rfl rfl hMq ?_
    with_reducible refine (zao.calls (IntKind.u64.wrap (a0_0)) yc _ A4.out).mono ?_
    rintro e w13 ⟨rfl,hb⟩
    refine ⟨_,rfl,?_⟩
    have n0_ := za.mk (hbq ya.out hb)
    have n1_ := za.mk (zf hCq hb)
    clear ya
    clear HB
    have ya := n0_
    have HB := n1_
    clear n0_ n1_
    (try clear hb)
    (try clear hb2)
    (try clear hk)
    (try clear hi)
    refine hK.out _ _ ⟨(zb ya.out 0).trans rfl,(zb ya.out 1).trans rfl,(zb ya.out 2).trans rfl⟩ (fun hHeld => ?_)
    clear hK K
    refine zbu (a' := ?_) ?_ ?_
    rotate_left
    ·show Act.put _ (some 10) _ = _
     simp only [Act.put,List.setIfInBounds_toArray,List.set_cons_zero,List.set_cons_succ,zah,zaj]
     rfl
    refine zcl (i := 7) (N := some 14) #[true,true,true,true,true,true,true,true,false,true,true,false,false,false,false] rfl rfl (zaY HT_.out (by kernel_rfl)) (by decide) (fun K hK => ?_)
    refine zbs Try.func70 (by kernel_rfl) rfl #[.int .u64 (IntKind.u64.wrap (a0_1))] (by rfl) rfl rfl hMq ?_
    with_reducible refine (zao.calls (IntKind.u64.wrap (a0_1)) yb _ A5.out).mono ?_
    rintro e w14 ⟨rfl,hb⟩
    refine ⟨_,rfl,?_⟩
    have n0_ := za.mk (hbq ya.out hb)
    have n1_ := za.mk (zf hCq hb)
    clear ya
    clear HB
    have ya := n0_
    have HB := n1_
    clear n0_ n1_
    (try clear hb)
    (try clear hb2)
    (try clear hk)
    (try clear hi)
    refine hK.out _ _ ⟨(zb ya.out 0).trans rfl,(zb ya.out 1).trans rfl,(zb ya.out 2).trans rfl⟩ (fun hHeld => ?_)
    clear hK K
    refine zbu (a' := ?_) ?_ ?_
    rotate_left
    ·show Act.put _ (some 14) _ = _
     simp only [Act.put,List.setIfInBounds_toArray,List.set_cons_zero,List.set_cons_succ,zah,zaj]
     rfl
    refine puq (i := 8) (N := some 15) HT_.out (uQ 15 11) ?_
    refine zcl (i := 11) (N := some 18) (uQ 15 12) rfl rfl (zaY HT_.out (by kernel_rfl)) (by decide) (fun K hK => ?_)
    refine zbs Try.func71 (by kernel_rfl) rfl #[.slice A0_2 l0_2.length c0_2] (by rfl) rfl rfl hMq ?_
    with_reducible refine (zV.calls _ _ l0_2 yd _ ?side1 ?side2 A7.out).mono ?_
    (case side1 => exact hKq (Kd.C_below HR0_2.out HB.out))
    (case side2 => exact HC0_2.out)
    rintro e w15 ⟨rfl,hb⟩
    refine ⟨_,rfl,?_⟩
    have n0_ := za.mk (hbq ya.out hb)
    have n1_ := za.mk (zf hCq hb)
    clear ya
    clear HB
    have ya := n0_
    have HB := n1_
    clear n0_ n1_
    (try clear hb)
    (try clear hb2)
    (try clear hk)
    (try clear hi)
    refine hK.out _ _ ⟨(zb ya.out 0).trans rfl,(zb ya.out 1).trans rfl,(zb ya.out 2).trans rfl⟩ (fun hHeld => ?_)
    clear hK K
    refine zbu (a' := ?_) ?_ ?_
    rotate_left
    ·show Act.put _ (some 18) _ = _
     simp only [Act.put,List.setIfInBounds_toArray,List.set_cons_zero,List.set_cons_succ,zah,zaj]
     rfl
    refine puq (i := 12) (N := some 19) HT_.out (uQ 15 13) ?_
    refine puq (i := 13) (N := some 2) HT_.out (uQ 15 14) ?_
    refine puq (i := 14) (N := some 3) HT_.out (uQ 15 15) ?_
    refine zbG (zaM HT_.out (by kernel_rfl)) ?_
    try go_wp2
    go_ret2
    exact ⟨hHq,hCq⟩
   ·rw [if_neg c8] at H
    exact absurd H (by simp)
  ·rw [if_neg c6] at H
   exact absurd H (by simp)
 ·replace c3 := Bool.eq_false_iff.mpr c3
  subst c3
  have H1 : (some ((⟨#[]⟩ : ByteArray),1)) = some (r1,r2) := by rw [if_neg (show ¬ (false = true) by decide)] at H;exact H
  clear H
  have H := H1
  clear H1
  simp only [Option.some.injEq,Prod.mk.injEq] at H
  obtain ⟨rfl,rfl⟩ := H
  go_enter Try.func67,Try.ntmps67
  go_wp2_with (first | ((with_reducible refine zq (N := 1) rfl ?_);refine zn rfl (N := 1) rfl (cs := #[.int .i64 a0_0,.int .i64 a0_1,.slice A0_2 l0_2.length c0_2]) (t := 78) hrq ?_;intro ye hg w16 hbox hb;have n_ := haq (zf hBq hb) <| haq (hbox) <| haq ((by rw [hg];exact (zh hBq) : w.heap.size ≤ ye)) <| haq ((by rw [hg];exact (zh hBq) : w.heap.size ≤ ye)) <| trivial;clear HB;obtain ⟨HB,ya,yh,yg,_⟩ := n_;clear hb hbox hg;obtain ⟨hcz17_0,hcz17_1,hcz17_2,hfz17_0,hfz17_1,hfz17_2⟩ := hcq3 ya.out) | ((with_reducible refine zN (f := 87) rfl ?_);refine zax (some 5) rfl rfl Try.func87 (by kernel_rfl) rfl #[.agg #[.int .i64 a0_0,.int .i64 a0_1,.slice A0_2 l0_2.length c0_2]] rfl hMq ?_;(with_reducible refine (zaU.calls a0_0 a0_1 _ _ l0_2 false _ ?side1 ?side2 A2.out).mono ?_);(case side1 => exact hKq (Kd.C_below HR0_2.out HB.out));(case side2 => exact HC0_2.out);rintro e w18 ⟨rfl,hb⟩;refine ⟨_,rfl,?_⟩;have n_ := haq (hbq ya.out hb) <| haq (zf hCq hb) <| trivial;clear ya HB;obtain ⟨ya,HB,_⟩ := n_;(try clear hb);(try clear hb2);(try clear hk);(try clear hi)))
  go_ret2
  exact ⟨hHq,hCq⟩
def zS.l0 : Nat → List ByteArray → List ByteArray → Int → Option (Bool)
 | 0,_,_,_ => none
 | k + 1,x0,x1,x5 => if x5 < (x0.length : Int) then (if 0 ≤ x5 then (if x5 < (x1.length : Int) then (if (zB ByteArray.empty x0 x5).toList = (zB ByteArray.empty x1 x5).toList then (zS.l0 k x0 x1 (wrap64 (x5 + 1))) else (some false)) else (none)) else (none)) else (some true)
def zS.f (k : Nat) (l0 : List ByteArray) (l1 : List ByteArray) : Option (Bool) := if (l0.length : Int) = (l1.length : Int) then (zS.l0 k l0 l1 0) else (some false)
set_option maxHeartbeats 8000000 in
set_option maxRecDepth 100000 in
theorem zS.calls (k : Nat) (A0 : Option Addr) (c0 : Nat) (l0 : List ByteArray) (A1 : Option Addr) (c1 : Nat) (l1 : List ByteArray) (r : Bool) (w : World) (hr0 : Kd.C Kd.string w A0 l0.length l0) (hc0 : l0.length ≤ c0) (hr1 : Kd.C Kd.string w A1 l1.length l1) (hc1 : l1.length ≤ c1) (h : zS.f k l0 l1 = some r) :
  Calls Try.prog 43 #[.slice A0 l0.length c0,.slice A1 l1.length c1] w fun e w' => e = .returned (.bool r) ∧ za3 w w' := by
 have HR0 := za.mk hr0
 have HC0 := za.mk hc0
 clear hr0 hc0
 have HR1 := za.mk hr1
 have HC1 := za.mk hc1
 clear hr1 hc1
 have H : (if (l0.length : Int) = (l1.length : Int) then (zS.l0 k l0 l1 0) else (some false)) = some r := h
 clear h
 by_cases c3 : (l0.length : Int) = (l1.length : Int)
 ·rw [if_pos c3] at H
  have c3b0 : ((l0.length : Int) == (l1.length : Int)) = true := beq_iff_eq.mpr c3
  have c3b1 : ((l0.length : Int) != (l1.length : Int)) = false := bne_eq_false_iff_eq.mpr c3
  have c3b2 : (l0.length == l1.length) = true := by first | simpa using c3 | (simp at c3 ⊢;omega)
  clear c3
  have H' := za.mk H
  clear H
  go_enter Try.func43,Try.ntmps43
  go_wp2
  repeat (go_quiet (fail);try go_wp2)
  go_loopg [5] k (fun kq v5 w' => ∃ (x5_1 : Int),v5 = .int .i64 x5_1 ∧ za (zS.l0 kq l0 l1 x5_1 = some r) ∧ za (kq ≤ k) ∧ za3 w w')
  case atStart => exact ⟨(0),(hDq),H',⟨Nat.le_refl _⟩,hEq⟩
  case round =>
   clear H'
   try clear c1;try clear p2;try clear c3;try clear c3b0;try clear c3b1;try clear c3b2
   obtain ⟨x5_1,rfl,HA,HK1,⟨m1,rfl⟩⟩ := hrel
   cases gk with
   | zero => exact absurd HA.out (by simp [zS.l0])
   | succ k1 =>
    have H := HA.out
    clear HA
    simp only [zS.l0] at H
    by_cases c4 : x5_1 < (l0.length : Int)
    ·rw [if_pos c4] at H
     have c4b0 : decide (x5_1 < (l0.length : Int)) = true := decide_eq_true c4
     clear c4
     by_cases c5 : 0 ≤ x5_1
     ·rw [if_pos c5] at H
      have c5b0 : decide (0 ≤ x5_1) = true := decide_eq_true c5
      clear c5
      by_cases c6 : x5_1 < (l1.length : Int)
      ·rw [if_pos c6] at H
       have c6b0 : decide (x5_1 < (l1.length : Int)) = true := decide_eq_true c6
       clear c6
       by_cases c7 : (zB ByteArray.empty l0 x5_1).toList = (zB ByteArray.empty l1 x5_1).toList
       ·rw [if_pos c7] at H
        have c7b0 : ((zB ByteArray.empty l0 x5_1).toList == (zB ByteArray.empty l1 x5_1).toList) = true := beq_iff_eq.mpr c7
        have c7b1 : ((zB ByteArray.empty l0 x5_1).toList != (zB ByteArray.empty l1 x5_1).toList) = false := bne_eq_false_iff_eq.mpr c7
        clear c7
        have H' := za.mk H
        clear H
        have ya : 0 ≤ (x5_1 : Int) := hFq
        have yc : x5_1 < (l0.length : Int) := hFq
        obtain ⟨yi,yg,ye⟩ := Kd.at_string HR0.out x5_1 ya yc
        cases yg
        replace ya := eq_true ya
        replace yc := eq_true yc
        have yb : 0 ≤ (x5_1 : Int) := hFq
        have yd : x5_1 < (l1.length : Int) := hFq
        obtain ⟨yj,yh,yf⟩ := Kd.at_string HR1.out x5_1 yb yd
        cases yh
        replace yb := eq_true yb
        replace yd := eq_true yd
        go_wp2
        repeat (go_quiet (fail);try go_wp2)
        go_roundg k1
        case measure => have := HK1.out;omega
        case rel => exact ⟨(wrap64 (x5_1 + 1)),(hDq),H',⟨by have := HK1.out;omega⟩,hEq⟩
       ·rw [if_neg c7] at H
        have c7b0 : ((zB ByteArray.empty l0 x5_1).toList == (zB ByteArray.empty l1 x5_1).toList) = false := beq_eq_false_iff_ne.mpr c7
        have c7b1 : ((zB ByteArray.empty l0 x5_1).toList != (zB ByteArray.empty l1 x5_1).toList) = true := bne_iff_ne.mpr c7
        obtain rfl := Option.some.inj H
        have ya : 0 ≤ (x5_1 : Int) := hFq
        have yc : x5_1 < (l0.length : Int) := hFq
        obtain ⟨yi,yg,ye⟩ := Kd.at_string HR0.out x5_1 ya yc
        cases yg
        replace ya := eq_true ya
        replace yc := eq_true yc
        have yb : 0 ≤ (x5_1 : Int) := hFq
        have yd : x5_1 < (l1.length : Int) := hFq
        obtain ⟨yj,yh,yf⟩ := Kd.at_string HR1.out x5_1 yb yd
        cases yh
        replace yb := eq_true yb
        replace yd := eq_true yd
        go_wp2
        repeat (go_quiet (fail);try go_wp2)
        go_ret
        exact ⟨hDq,hEq⟩
      ·rw [if_neg c6] at H
       exact absurd H (by simp)
     ·rw [if_neg c5] at H
      exact absurd H (by simp)
    ·rw [if_neg c4] at H
     have c4b0 : decide (x5_1 < (l0.length : Int)) = false := decide_eq_false c4
     clear c4
     obtain rfl := Option.some.inj H
     go_wp2
     repeat (go_quiet (fail);try go_wp2)
     go_ret
     exact ⟨hDq,hEq⟩
 ·rw [if_neg c3] at H
  have c3b0 : ((l0.length : Int) == (l1.length : Int)) = false := beq_eq_false_iff_ne.mpr c3
  have c3b1 : ((l0.length : Int) != (l1.length : Int)) = true := bne_iff_ne.mpr c3
  have c3b2 : (l0.length == l1.length) = false := by first | simpa using c3 | (simp at c3 ⊢;omega)
  obtain rfl := Option.some.inj H
  go_enter Try.func43,Try.ntmps43
  go_wp2
  repeat (go_quiet (fail);try go_wp2)
  go_ret
  exact ⟨hDq,hEq⟩
def zbb.f (k : Nat) (a0_0 : Int) (a0_1 : Int) (l0_2 : List ByteArray) (a1_0 : Int) (a1_1 : Int) (l1_2 : List ByteArray) : Option (Bool) := (zS.f k l0_2 l1_2).bind fun yb => (if yb = true then (if a0_0 = a1_0 then (some (a0_1 == a1_1)) else (some false)) else (some false))
set_option maxHeartbeats 8000000 in
set_option maxRecDepth 100000 in
theorem zbb.calls (k : Nat) (a0_0 : Int) (a0_1 : Int) (A0_2 : Option Addr) (c0_2 : Nat) (l0_2 : List ByteArray) (a1_0 : Int) (a1_1 : Int) (A1_2 : Option Addr) (c1_2 : Nat) (l1_2 : List ByteArray) (r : Bool) (w : World) (hr0_2 : Kd.C Kd.string w A0_2 l0_2.length l0_2) (hc0_2 : l0_2.length ≤ c0_2) (hr1_2 : Kd.C Kd.string w A1_2 l1_2.length l1_2) (hc1_2 : l1_2.length ≤ c1_2) (h : zbb.f k a0_0 a0_1 l0_2 a1_0 a1_1 l1_2 = some r) :
  Calls Try.prog 62 #[.agg #[.int .i64 a0_0,.int .i64 a0_1,.slice A0_2 l0_2.length c0_2],.agg #[.int .i64 a1_0,.int .i64 a1_1,.slice A1_2 l1_2.length c1_2]] w fun e w' => e = .returned (.bool r) ∧ Below w.heap.size w w' := by
 have hu78 := Try.underlying78
 have HR0_2 := za.mk hr0_2
 have HC0_2 := za.mk hc0_2
 clear hr0_2 hc0_2
 have HR1_2 := za.mk hr1_2
 have HC1_2 := za.mk hc1_2
 clear hr1_2 hc1_2
 have HB := za.mk (Below.refl w.heap.size w)
 have H : ((zS.f k l0_2 l1_2).bind fun yb => (if yb = true then (if a0_0 = a1_0 then (some (a0_1 == a1_1)) else (some false)) else (some false))) = some r := h
 clear h
 replace H := Option.bind_eq_some_iff.mp H
 obtain ⟨yb,A30,H⟩ := H
 replace H : (if yb = true then (if a0_0 = a1_0 then (some (a0_1 == a1_1)) else (some false)) else (some false)) = some r := H
 have A3 := za.mk A30
 clear A30
 by_cases c4 : yb = true
 focus
  subst c4
  have H1 : (if a0_0 = a1_0 then (some (a0_1 == a1_1)) else (some false)) = some r := by rw [if_pos rfl] at H;exact H
  clear H
  have H := H1
  clear H1
  by_cases c5 : a0_0 = a1_0
  focus
   rw [if_pos c5] at H
   have c5b0 : (a0_0 == a1_0) = true := beq_iff_eq.mpr c5
   have c5b1 : (a0_0 != a1_0) = false := bne_eq_false_iff_eq.mpr c5
   clear c5
   obtain rfl := Option.some.inj H
   have EQ0 := True.intro
  rotate_left
  focus
   rw [if_neg c5] at H
   have c5b0 : (a0_0 == a1_0) = false := beq_eq_false_iff_ne.mpr c5
   have c5b1 : (a0_0 != a1_0) = true := bne_iff_ne.mpr c5
   obtain rfl := Option.some.inj H
   have EQ0 := True.intro
 rotate_left 2
 focus
  replace c4 := Bool.eq_false_iff.mpr c4
  subst c4
  have H1 : (some false) = some r := by rw [if_neg (show ¬ (false = true) by decide)] at H;exact H
  clear H
  have H := H1
  clear H1
  obtain rfl := Option.some.inj H
  have EQ1 := True.intro
 all_goals
  go_enter Try.func62,Try.ntmps62
  go_wp2_with (first | ((with_reducible refine zq (N := 2) rfl ?_);refine zn rfl (N := 2) rfl (cs := #[.int .i64 a0_0,.int .i64 a0_1,.slice A0_2 l0_2.length c0_2]) (t := 78) hrq ?_;intro yc hg wQN22 hbox hb;have n_ := haq (zf hBq hb) <| haq (hbox) <| haq ((by rw [hg];exact (zh hBq) : w.heap.size ≤ yc)) <| haq ((by rw [hg];exact (zh hBq) : w.heap.size ≤ yc)) <| trivial;clear HB;obtain ⟨HB,ya,yv,yt,_⟩ := n_;clear hb hbox hg) | ((with_reducible refine zq (N := 3) rfl ?_);refine zn rfl (N := 3) rfl (cs := #[.int .i64 a1_0,.int .i64 a1_1,.slice A1_2 l1_2.length c1_2]) (t := 78) hrq ?_;intro yd hg wQN32 hbox hb;have n_ := haq (hbq ya.out hb) <| haq (zf hCq hb) <| haq (hbox) <| haq ((by rw [hg];exact (zh hCq) : w.heap.size ≤ yd)) <| haq ((by rw [hg];exact (zh hCq) : w.heap.size ≤ yd)) <| haq (hnq hg ya.out) <| haq (hmq hg ya.out) <| trivial;clear ya HB;obtain ⟨ya,HB,ye,yw,yu,NBQN37,NBQN38,_⟩ := n_;clear hb hbox hg;have hnbQN39 := NBQN37.out;have yr := NBQN38.out;obtain ⟨yf,yg,yh,yl,ym,yn⟩ := hcq3 ya.out;obtain ⟨yi,yj,yk,yo,yp,yq⟩ := hcq3 ye.out) | (have _ := EQ0;((with_reducible refine zN (f := 43) rfl ?_);refine zax (some 10) rfl rfl Try.func43 (by kernel_rfl) rfl #[.slice A0_2 l0_2.length c0_2,.slice A1_2 l1_2.length c1_2] rfl hMq ?_;(with_reducible refine (zS.calls k _ _ l0_2 _ _ l1_2 true _ ?side1 ?side2 ?side3 ?side4 A3.out).mono ?_);(case side1 => exact hKq (Kd.C_below HR0_2.out HB.out));(case side2 => exact HC0_2.out);(case side3 => exact hKq (Kd.C_below HR1_2.out HB.out));(case side4 => exact HC1_2.out);rintro e w' ⟨rfl,⟨nd,rfl⟩⟩;refine ⟨_,rfl,?_⟩)) | (have _ := EQ1;((with_reducible refine zN (f := 43) rfl ?_);refine zax (some 10) rfl rfl Try.func43 (by kernel_rfl) rfl #[.slice A0_2 l0_2.length c0_2,.slice A1_2 l1_2.length c1_2] rfl hMq ?_;(with_reducible refine (zS.calls k _ _ l0_2 _ _ l1_2 false _ ?side1 ?side2 ?side3 ?side4 A3.out).mono ?_);(case side1 => exact hKq (Kd.C_below HR0_2.out HB.out));(case side2 => exact HC0_2.out);(case side3 => exact hKq (Kd.C_below HR1_2.out HB.out));(case side4 => exact HC1_2.out);rintro e w' ⟨rfl,⟨nd,rfl⟩⟩;refine ⟨_,rfl,?_⟩)))
  go_ret
  exact ⟨hHq,hCq⟩
theorem zeT (l : List ByteArray) (j : Nat) (h : j < l.length) : zB ByteArray.empty l (j : Int) = l[j] := by
 rw [zB,Int.toNat_natCast,List.getD_eq_getElem?_getD,List.getElem?_eq_getElem h];rfl
theorem zcf (a b : ByteArray) : a.toList = b.toList ↔ a = b := by
 rw [zcL,zcL]
 exact ⟨fun h => ofB_inj h,fun h => by rw [h]⟩
theorem zb1 (a b : ByteArray) : (a.toList == b.toList) = decide (a = b) := by
 rw [Bool.eq_iff_iff];simp [zcf]
theorem zhz (a b : List ByteArray) (hl : a.length = b.length) (hb : a.length < 4611686018427387904) (d : Nat) : ∀ j,j + d = a.length →
  Ev (fun k => zS.l0 k a b (j : Int)) (decide (a.drop j = b.drop j)) := by
 induction d with
 | zero =>
  intro j hj
  refine Ev.step (fun k => by rw [zS.l0]) ?_
  refine zQ (by omega) (z4 (Ev.now _) ?_)
  rw [List.drop_eq_nil_of_le (by omega),List.drop_eq_nil_of_le (by omega)];rfl
 | succ d ih =>
  intro j hj
  refine Ev.step (fun k => by rw [zS.l0]) ?_
  have h1 : j < a.length := by omega
  have h2 : j < b.length := by omega
  refine zG (by omega) (zG (by omega) (zG (by omega) ?_))
  rw [zeT a j h1,zeT b j h2,List.drop_eq_getElem_cons h1,List.drop_eq_getElem_cons h2,zab (by omega) (by omega)]
  by_cases h : a[j] = b[j]
  ·refine zG (by rw [h]) (z4 (ih (j + 1) (by omega)) ?_)
   simp only [List.cons.injEq,h,true_and]
  ·refine zQ (by simpa [zcf] using h) (z4 (Ev.now _) ?_)
   simp only [List.cons.injEq,h,false_and,decide_false]
theorem zgw (a b : List ByteArray) (hb : a.length < 4611686018427387904) : Ev (fun k => zS.f k a b) (decide (a = b)) := by
 by_cases hl : a.length = b.length
 ·exact zG (by omega) (zhz a b hl hb a.length 0 (by omega))
 ·refine zQ (by omega) (z4 (Ev.now _) ?_)
  rw [eq_comm,decide_eq_false_iff_not]
  exact fun h => hl (by rw [h])
def zhf (o q : Int) (l : List ByteArray) (o' q' : Int) (l' : List ByteArray) : Bool := decide (o = o' ∧ q = q' ∧ l = l')
theorem zfK (o q : Int) (l : List ByteArray) (o' q' : Int) (l' : List ByteArray) (hb : l.length < 4611686018427387904) : Ev (fun k => zbb.f k o q l o' q' l') (zhf o q l o' q' l') := by
 unfold zhf
 refine Ev.bind (zgw l l' hb) ?_
 by_cases h3 : l = l'
 ·refine zG (by simp [h3]) ?_
  by_cases h1 : o = o'
  ·exact zG h1 (z4 (Ev.now _) (by simp [h1,h3,Bool.beq_eq_decide_eq]))
  ·exact zQ h1 (z4 (Ev.now _) (by simp [h1]))
 ·exact zQ (by simp [h3]) (z4 (Ev.now _) (by simp [h3]))
theorem zeb (l : List ByteArray) (m : Nat) (hm : m < 18446744073709551616) (h : ∀ t ∈ l,t.size ≤ m) : (zbw l).length ≤ l.length * (m + 9) := by
 induction l with
 | nil => simp [zbw]
 | cons t l ih =>
  have e : zbw (t :: l) = zgB (ofB t) ++ zbw l := rfl
  have h1 := h t List.mem_cons_self
  have h2 := ih (fun x hx => h x (List.mem_cons_of_mem _ hx))
  have h3 := zaZ (v := (ofB t).length) (by rw [zat];omega)
  rw [e,List.length_append,zgB,List.length_append,zat,List.length_cons,Nat.succ_mul]
  rw [zat] at h3
  omega
theorem zd5 (o q : Int) (l : List ByteArray) : zd4 o q l = true ↔ 1 ≤ o ∧ o ≤ 64 ∧ 1 ≤ q ∧ q ≤ 1073741824 ∧ 1 ≤ l.length ∧ l.length ≤ 4 ∧ ∀ t ∈ l,1 ≤ t.size ∧ t.size ≤ 48 := by
 unfold zd4
 simp only [Bool.and_eq_true,decide_eq_true_eq,Bool.not_eq_true',List.any_eq_false]
 constructor
 ·rintro ⟨⟨⟨⟨⟨⟨h1,h2⟩,h3⟩,h4⟩,h5⟩,h6⟩,h7⟩
  refine ⟨h1,h2,h3,h4,h5,h6,fun t ht => ?_⟩
  have h8 := h7 t ht
  simp only [zcG,Bool.or_eq_true,decide_eq_true_eq,not_or] at h8
  omega
 ·rintro ⟨h1,h2,h3,h4,h5,h6,h7⟩
  refine ⟨⟨⟨⟨⟨⟨h1,h2⟩,h3⟩,h4⟩,h5⟩,h6⟩,fun t ht => ?_⟩
  have h8 := h7 t ht
  simp only [zcG,Bool.or_eq_true,decide_eq_true_eq,not_or]
  omega
def ze4 (o q : Int) (l : List ByteArray) : Bs := zdq o.toNat ++ zdq q.toNat ++ zcm l
theorem zf4 (o q : Int) (l : List ByteArray) : zaO.f o q l = some (if zd4 o q l = true then (toB (ze4 o q l),0) else ((⟨#[]⟩ : ByteArray),1)) := by
 unfold zaO.f zaU.f
 rw [Option.bind_some]
 by_cases h : zd4 o q l = true
 ·rw [if_pos h,if_pos h]
  obtain ⟨h1,h2,h3,h4,h5,h6,h7⟩ := (zd5 o q l).1 h
  obtain ⟨a,rfl⟩ := Int.eq_ofNat_of_zero_le (show 0 ≤ o by omega)
  obtain ⟨b,rfl⟩ := Int.eq_ofNat_of_zero_le (show 0 ≤ q by omega)
  have r1 := zeb l 48 (by omega) (fun t ht => (h7 t ht).2)
  have r2 := zaZ (v := l.length) (by omega)
  have r3 : (zcm l).length ≤ 300 := by rw [zcm,List.length_append];omega
  have n1 := za6 (v := a) (by omega)
  have n2 := za6 (v := b) (by omega)
  have r4 : zV.f l = some (toB (zcm l)) := by unfold zV.f;rw [if_pos (by omega)]
  rw [zb4 (by omega) (by omega),zb4 (by omega) (by omega),zdp a (by omega),zdp b (by omega)]
  simp only [Option.bind_some]
  rw [if_pos (by omega),r4]
  simp only [Option.bind_some]
  rw [if_pos (by rw [ByteArray.size_append,zay];omega),ze4,zbc,zbc,Int.toNat_natCast,Int.toNat_natCast]
  rfl
 ·rw [if_neg h,if_neg h]
def zb5.f (a0_0 : Int) (a0_1 : Int) : Option (Bool) := if a0_0 ≥ 0 then (if a0_0 < 10007 then (if a0_1 ≥ 0 then (some (decide (a0_1 < 10007))) else (some false)) else (some false)) else (some false)
set_option maxHeartbeats 8000000 in
set_option maxRecDepth 100000 in
theorem zb5.calls (a0_0 : Int) (a0_1 : Int) (r : Bool) (w : World) (h : zb5.f a0_0 a0_1 = some r) :
  Calls Try.prog 89 #[.agg #[.int .i64 a0_0,.int .i64 a0_1]] w fun e w' => e = .returned (.bool r) ∧ Below w.heap.size w w' := by
 have hu30 := Try.underlying30
 have HB := za.mk (Below.refl w.heap.size w)
 have H : (if a0_0 ≥ 0 then (if a0_0 < 10007 then (if a0_1 ≥ 0 then (some (decide (a0_1 < 10007))) else (some false)) else (some false)) else (some false)) = some r := h
 clear h
 by_cases c2 : a0_0 ≥ 0
 ·rw [if_pos c2] at H
  have c2b0 : decide (0 ≤ a0_0) = true := decide_eq_true c2
  clear c2
  by_cases c3 : a0_0 < 10007
  ·rw [if_pos c3] at H
   have c3b0 : decide (a0_0 < 10007) = true := decide_eq_true c3
   clear c3
   by_cases c4 : a0_1 ≥ 0
   ·rw [if_pos c4] at H
    have c4b0 : decide (0 ≤ a0_1) = true := decide_eq_true c4
    clear c4
    obtain rfl := Option.some.inj H
    go_enter Try.func89,Try.ntmps89
    go_wp2_with (first | ((with_reducible refine zq (N := 1) rfl ?_);refine zn rfl (N := 1) rfl (cs := #[.int .i64 a0_0,.int .i64 a0_1]) (t := 30) hrq ?_;intro ya hg w5 hbox hb;have n_ := haq (zf hBq hb) <| haq (hbox) <| haq ((by rw [hg];exact (zh hBq) : w.heap.size ≤ ya)) <| haq ((by rw [hg];exact (zh hBq) : w.heap.size ≤ ya)) <| trivial;clear HB;obtain ⟨HB,yb,yd,yc,_⟩ := n_;clear hb hbox hg;obtain ⟨hcz6_0,hcz6_1,hfz6_0,hfz6_1⟩ := hcq2 yb.out))
    go_ret
    exact ⟨hHq,hCq⟩
   ·rw [if_neg c4] at H
    have c4b0 : decide (0 ≤ a0_1) = false := decide_eq_false c4
    clear c4
    obtain rfl := Option.some.inj H
    go_enter Try.func89,Try.ntmps89
    go_wp2_with (first | ((with_reducible refine zq (N := 1) rfl ?_);refine zn rfl (N := 1) rfl (cs := #[.int .i64 a0_0,.int .i64 a0_1]) (t := 30) hrq ?_;intro ya hg w7 hbox hb;have n_ := haq (zf hBq hb) <| haq (hbox) <| haq ((by rw [hg];exact (zh hBq) : w.heap.size ≤ ya)) <| haq ((by rw [hg];exact (zh hBq) : w.heap.size ≤ ya)) <| trivial;clear HB;obtain ⟨HB,yb,yd,yc,_⟩ := n_;clear hb hbox hg;obtain ⟨hcz8_0,hcz8_1,hfz8_0,hfz8_1⟩ := hcq2 yb.out))
    go_ret
    exact ⟨hHq,hCq⟩
  ·rw [if_neg c3] at H
   have c3b0 : decide (a0_0 < 10007) = false := decide_eq_false c3
   clear c3
   obtain rfl := Option.some.inj H
   go_enter Try.func89,Try.ntmps89
   go_wp2_with (first | ((with_reducible refine zq (N := 1) rfl ?_);refine zn rfl (N := 1) rfl (cs := #[.int .i64 a0_0,.int .i64 a0_1]) (t := 30) hrq ?_;intro ya hg w9 hbox hb;have n_ := haq (zf hBq hb) <| haq (hbox) <| haq ((by rw [hg];exact (zh hBq) : w.heap.size ≤ ya)) <| haq ((by rw [hg];exact (zh hBq) : w.heap.size ≤ ya)) <| trivial;clear HB;obtain ⟨HB,yb,yd,yc,_⟩ := n_;clear hb hbox hg;obtain ⟨hcz10_0,hcz10_1,hfz10_0,hfz10_1⟩ := hcq2 yb.out))
   go_ret
   exact ⟨hHq,hCq⟩
 ·rw [if_neg c2] at H
  have c2b0 : decide (0 ≤ a0_0) = false := decide_eq_false c2
  clear c2
  obtain rfl := Option.some.inj H
  go_enter Try.func89,Try.ntmps89
  go_wp2_with (first | ((with_reducible refine zq (N := 1) rfl ?_);refine zn rfl (N := 1) rfl (cs := #[.int .i64 a0_0,.int .i64 a0_1]) (t := 30) hrq ?_;intro ya hg w11 hbox hb;have n_ := haq (zf hBq hb) <| haq (hbox) <| haq ((by rw [hg];exact (zh hBq) : w.heap.size ≤ ya)) <| haq ((by rw [hg];exact (zh hBq) : w.heap.size ≤ ya)) <| trivial;clear HB;obtain ⟨HB,yb,yd,yc,_⟩ := n_;clear hb hbox hg;obtain ⟨hcz12_0,hcz12_1,hfz12_0,hfz12_1⟩ := hcq2 yb.out))
  go_ret
  exact ⟨hHq,hCq⟩
def zas.f (a0 : Int) : Option (Bool) := if a0 ≥ 4 then (if a0 ≤ 64 then (some ((Int.tmod a0 3) == 1)) else (some false)) else (some false)
set_option maxHeartbeats 8000000 in
set_option maxRecDepth 100000 in
theorem zas.calls (a0 : Int) (r : Bool) (w : World) (h : zas.f a0 = some r) :
  Calls Try.prog 39 #[.int .i64 a0] w fun e w' => e = .returned (.bool r) ∧ za3 w w' := by
 have H : (if a0 ≥ 4 then (if a0 ≤ 64 then (some ((Int.tmod a0 3) == 1)) else (some false)) else (some false)) = some r := h
 clear h
 by_cases c2 : a0 ≥ 4
 ·rw [if_pos c2] at H
  have c2b0 : decide (4 ≤ a0) = true := decide_eq_true c2
  clear c2
  by_cases c3 : a0 ≤ 64
  ·rw [if_pos c3] at H
   have c3b0 : decide (a0 ≤ 64) = true := decide_eq_true c3
   clear c3
   obtain rfl := Option.some.inj H
   go_enter Try.func39,Try.ntmps39
   go_wp2
   go_ret
   exact ⟨hDq,hEq⟩
  ·rw [if_neg c3] at H
   have c3b0 : decide (a0 ≤ 64) = false := decide_eq_false c3
   clear c3
   obtain rfl := Option.some.inj H
   go_enter Try.func39,Try.ntmps39
   go_wp2
   go_ret
   exact ⟨hDq,hEq⟩
 ·rw [if_neg c2] at H
  have c2b0 : decide (4 ≤ a0) = false := decide_eq_false c2
  clear c2
  obtain rfl := Option.some.inj H
  go_enter Try.func39,Try.ntmps39
  go_wp2
  go_ret
  exact ⟨hDq,hEq⟩
def zbA.f (a0 : Int) : Option (Int) := (zas.f a0).bind fun ya => (if ya = true then (some (wrap64 (Int.tdiv (wrap64 (a0 - 1)) 3))) else (some 0))
set_option maxHeartbeats 8000000 in
set_option maxRecDepth 100000 in
theorem zbA.calls (a0 : Int) (r : Int) (w : World) (h : zbA.f a0 = some r) :
  Calls Try.prog 109 #[.int .i64 a0] w fun e w' => e = .returned (.int .i64 r) ∧ za3 w w' := by
 have H : ((zas.f a0).bind fun ya => (if ya = true then (some (wrap64 (Int.tdiv (wrap64 (a0 - 1)) 3))) else (some 0))) = some r := h
 clear h
 replace H := Option.bind_eq_some_iff.mp H
 obtain ⟨ya,A20,H⟩ := H
 replace H : (if ya = true then (some (wrap64 (Int.tdiv (wrap64 (a0 - 1)) 3))) else (some 0)) = some r := H
 have A2 := za.mk A20
 clear A20
 by_cases c3 : ya = true
 ·subst c3
  have H1 : (some (wrap64 (Int.tdiv (wrap64 (a0 - 1)) 3))) = some r := by rw [if_pos rfl] at H;exact H
  clear H
  have H := H1
  clear H1
  obtain rfl := Option.some.inj H
  go_enter Try.func109,Try.ntmps109
  go_wp2_with (first | ((with_reducible refine zN (f := 39) rfl ?_);refine zax (some 4) rfl rfl Try.func39 (by kernel_rfl) rfl #[.int .i64 a0] rfl hMq ?_;(with_reducible refine (zas.calls a0 true _ A2.out).mono ?_);rintro e w' ⟨rfl,⟨nd,rfl⟩⟩;refine ⟨_,rfl,?_⟩))
  go_ret
  exact ⟨hDq,hEq⟩
 ·replace c3 := Bool.eq_false_iff.mpr c3
  subst c3
  have H1 : (some 0) = some r := by rw [if_neg (show ¬ (false = true) by decide)] at H;exact H
  clear H
  have H := H1
  clear H1
  obtain rfl := Option.some.inj H
  go_enter Try.func109,Try.ntmps109
  go_wp2_with (first | ((with_reducible refine zN (f := 39) rfl ?_);refine zax (some 4) rfl rfl Try.func39 (by kernel_rfl) rfl #[.int .i64 a0] rfl hMq ?_;(with_reducible refine (zas.calls a0 false _ A2.out).mono ?_);rintro e w' ⟨rfl,⟨nd,rfl⟩⟩;refine ⟨_,rfl,?_⟩))
  go_ret
  exact ⟨hDq,hEq⟩
def zbQ.f (a0 : Int) : Option (Int) := (zas.f a0).bind fun yb => (if yb = true then ((zbA.f a0).bind fun ya => (some (wrap64 (a0 - ya)))) else (some 0))
set_option maxHeartbeats 8000000 in
set_option maxRecDepth 100000 in
theorem zbQ.calls (a0 : Int) (r : Int) (w : World) (h : zbQ.f a0 = some r) :
  Calls Try.prog 101 #[.int .i64 a0] w fun e w' => e = .returned (.int .i64 r) ∧ za3 w w' := by
 have H : ((zas.f a0).bind fun yb => (if yb = true then ((zbA.f a0).bind fun ya => (some (wrap64 (a0 - ya)))) else (some 0))) = some r := h
 clear h
 replace H := Option.bind_eq_some_iff.mp H
 obtain ⟨yb,A20,H⟩ := H
 replace H : (if yb = true then ((zbA.f a0).bind fun ya => (some (wrap64 (a0 - ya)))) else (some 0)) = some r := H
 have A2 := za.mk A20
 clear A20
 by_cases c3 : yb = true
 ·subst c3
  have H1 : ((zbA.f a0).bind fun ya => (some (wrap64 (a0 - ya)))) = some r := by rw [if_pos rfl] at H;exact H
  clear H
  have H := H1
  clear H1
  replace H := Option.bind_eq_some_iff.mp H
  obtain ⟨ya,A40,H⟩ := H
  replace H : (some (wrap64 (a0 - ya))) = some r := H
  have A4 := za.mk A40
  clear A40
  obtain rfl := Option.some.inj H
  go_enter Try.func101,Try.ntmps101
  go_wp2_with (first | ((with_reducible refine zN (f := 39) rfl ?_);refine zax (some 4) rfl rfl Try.func39 (by kernel_rfl) rfl #[.int .i64 a0] rfl hMq ?_;(with_reducible refine (zas.calls a0 true _ A2.out).mono ?_);rintro e w' ⟨rfl,⟨nd,rfl⟩⟩;refine ⟨_,rfl,?_⟩) | ((with_reducible refine zN (f := 109) rfl ?_);refine zax (some 8) rfl rfl Try.func109 (by kernel_rfl) rfl #[.int .i64 a0] rfl hMq ?_;(with_reducible refine (zbA.calls a0 ya _ A4.out).mono ?_);rintro e w' ⟨rfl,⟨nd,rfl⟩⟩;refine ⟨_,rfl,?_⟩))
  go_ret
  exact ⟨hDq,hEq⟩
 ·replace c3 := Bool.eq_false_iff.mpr c3
  subst c3
  have H1 : (some 0) = some r := by rw [if_neg (show ¬ (false = true) by decide)] at H;exact H
  clear H
  have H := H1
  clear H1
  obtain rfl := Option.some.inj H
  go_enter Try.func101,Try.ntmps101
  go_wp2_with (first | ((with_reducible refine zN (f := 39) rfl ?_);refine zax (some 4) rfl rfl Try.func39 (by kernel_rfl) rfl #[.int .i64 a0] rfl hMq ?_;(with_reducible refine (zas.calls a0 false _ A2.out).mono ?_);rintro e w' ⟨rfl,⟨nd,rfl⟩⟩;refine ⟨_,rfl,?_⟩))
  go_ret
  exact ⟨hDq,hEq⟩
def zal.l0 : Nat → List ByteArray → Int → List ByteArray → Int → Int → Option (Bool)
 | 0,_,_,_,_,_ => none
 | k + 1,x0,x2,x14,x15,x16 => if x16 < x15 then (if 0 ≤ x16 then (if x16 < (x14.length : Int) then (if ((zB ByteArray.empty x14 x16).size : Int) = 32 then (if x16 > 0 then (if 0 ≤ (wrap64 (x16 - 1)) then (if (wrap64 (x16 - 1)) < (x0.length : Int) then (if ((Op.bytesLess ((zB ByteArray.empty x0 (wrap64 (x16 - 1))).toList) ((zB ByteArray.empty x14 x16).toList)) = true) then (zal.l0 k x0 x2 x14 x15 (wrap64 (x16 + 1))) else (some false)) else (none)) else (none)) else (zal.l0 k x0 x2 x14 x15 (wrap64 (x16 + 1)))) else (some false)) else (none)) else (none)) else ((zbQ.f x2).bind fun ye => (if (x0.length : Int) ≥ ye then (some (decide ((x0.length : Int) ≤ x2))) else (some false)))
def zal.f (k : Nat) (l0 : List ByteArray) (a1 : Int) (a2 : Int) : Option (Bool) := if a1 = 1 then (some ((l0.length : Int) == 0)) else (zal.l0 k l0 a2 l0 (l0.length : Int) 0)
set_option maxHeartbeats 8000000 in
set_option maxRecDepth 100000 in
theorem zal.calls (k : Nat) (A0 : Option Addr) (c0 : Nat) (l0 : List ByteArray) (a1 : Int) (a2 : Int) (r : Bool) (w : World) (hr0 : Kd.C Kd.string w A0 l0.length l0) (hc0 : l0.length ≤ c0) (h : zal.f k l0 a1 a2 = some r) :
  Calls Try.prog 91 #[.slice A0 l0.length c0,.int .i64 a1,.int .i64 a2] w fun e w' => e = .returned (.bool r) ∧ za3 w w' := by
 have HR0 := za.mk hr0
 have HC0 := za.mk hc0
 clear hr0 hc0
 have H : (if a1 = 1 then (some ((l0.length : Int) == 0)) else (zal.l0 k l0 a2 l0 (l0.length : Int) 0)) = some r := h
 clear h
 by_cases c4 : a1 = 1
 ·rw [if_pos c4] at H
  have c4b0 : (a1 == 1) = true := beq_iff_eq.mpr c4
  have c4b1 : (a1 != 1) = false := bne_eq_false_iff_eq.mpr c4
  clear c4
  obtain rfl := Option.some.inj H
  go_enter Try.func91,Try.ntmps91
  go_wp2
  go_ret
  exact ⟨hDq,hEq⟩
 ·rw [if_neg c4] at H
  have c4b0 : (a1 == 1) = false := beq_eq_false_iff_ne.mpr c4
  have c4b1 : (a1 != 1) = true := bne_iff_ne.mpr c4
  have H' := za.mk H
  clear H
  go_enter Try.func91,Try.ntmps91
  go_wp2
  go_loopg [16] k (fun kq v16 w' => ∃ (x16_1 : Int),v16 = .int .i64 x16_1 ∧ za (zal.l0 kq l0 a2 l0 (l0.length : Int) x16_1 = some r) ∧ za (kq ≤ k) ∧ za3 w w')
  case atStart => exact ⟨(0),(hDq),H',⟨Nat.le_refl _⟩,hEq⟩
  case round =>
   clear H'
   try clear p2;try clear c4;try clear c4b0;try clear c4b1
   obtain ⟨x16_1,rfl,HA,HK1,⟨m1,rfl⟩⟩ := hrel
   cases gk with
   | zero => exact absurd HA.out (by simp [zal.l0])
   | succ k1 =>
    have H := HA.out
    clear HA
    simp only [zal.l0] at H
    by_cases c5 : x16_1 < (l0.length : Int)
    ·rw [if_pos c5] at H
     have c5b0 : decide (x16_1 < (l0.length : Int)) = true := decide_eq_true c5
     clear c5
     by_cases c6 : 0 ≤ x16_1
     ·rw [if_pos c6] at H
      have c6b0 : decide (0 ≤ x16_1) = true := decide_eq_true c6
      clear c6
      by_cases c7 : x16_1 < (l0.length : Int)
      ·rw [if_pos c7] at H
       have c7b0 : decide (x16_1 < (l0.length : Int)) = true := decide_eq_true c7
       clear c7
       by_cases c8 : ((zB ByteArray.empty l0 x16_1).size : Int) = 32
       ·rw [if_pos c8] at H
        have c8b0 : (((zB ByteArray.empty l0 x16_1).size : Int) == 32) = true := beq_iff_eq.mpr c8
        have c8b1 : (((zB ByteArray.empty l0 x16_1).size : Int) != 32) = false := bne_eq_false_iff_eq.mpr c8
        clear c8
        by_cases c9 : x16_1 > 0
        ·rw [if_pos c9] at H
         have c9b0 : decide (0 < x16_1) = true := decide_eq_true c9
         clear c9
         obtain ⟨ji10,hji10⟩ : ∃ j_ : Int,(wrap64 (x16_1 - 1)) = j_ := ⟨_,rfl⟩
         replace H : (if 0 ≤ (ji10) then (if (ji10) < (l0.length : Int) then (if ((Op.bytesLess ((zB ByteArray.empty l0 (ji10)).toList) ((zB ByteArray.empty l0 x16_1).toList)) = true) then (zal.l0 k1 l0 a2 l0 (l0.length : Int) (wrap64 (x16_1 + 1))) else (some false)) else (none)) else (none)) = some r := by first | (rw [hji10] at H;exact H) | (simp only [hji10] at H ⊢;exact H)
         have hji10w : (IntKind.i64.wrap (x16_1 - 1)) = ji10 := (zah _).trans hji10
         by_cases c11 : 0 ≤ (ji10)
         ·rw [if_pos c11] at H
          have c11b0 : decide (0 ≤ (ji10)) = true := decide_eq_true c11
          clear c11
          by_cases c12 : (ji10) < (l0.length : Int)
          ·rw [if_pos c12] at H
           have c12b0 : decide ((ji10) < (l0.length : Int)) = true := decide_eq_true c12
           clear c12
           by_cases c13 : ((Op.bytesLess ((zB ByteArray.empty l0 (ji10)).toList) ((zB ByteArray.empty l0 x16_1).toList)) = true)
           ·rw [if_pos c13] at H
            have c13b0 : (Op.bytesLess ((zB ByteArray.empty l0 (ji10)).toList) ((zB ByteArray.empty l0 x16_1).toList)) = true := c13
            clear c13
            have H' := za.mk H
            clear H
            have ya : 0 ≤ (x16_1 : Int) := hFq
            have yb : x16_1 < (l0.length : Int) := hFq
            obtain ⟨yd,yf,yc⟩ := Kd.at_string HR0.out x16_1 ya yb
            cases yf
            replace ya := eq_true ya
            replace yb := eq_true yb
            have yg : 0 ≤ ((ji10) : Int) := hFq
            have yh : (ji10) < (l0.length : Int) := hFq
            obtain ⟨yi,yk,yj⟩ := Kd.at_string HR0.out (ji10) yg yh
            obtain rfl : yd = yi := (by injection yk)
            replace yg := eq_true yg
            replace yh := eq_true yh
            go_wp2
            go_roundg k1
            case measure => have := HK1.out;omega
            case rel => exact ⟨(wrap64 (x16_1 + 1)),(hDq),H',⟨by have := HK1.out;omega⟩,hEq⟩
           ·rw [if_neg c13] at H
            have c13b0 : (Op.bytesLess ((zB ByteArray.empty l0 (ji10)).toList) ((zB ByteArray.empty l0 x16_1).toList)) = false := by simpa using c13
            clear c13
            obtain rfl := Option.some.inj H
            have ya : 0 ≤ (x16_1 : Int) := hFq
            have yb : x16_1 < (l0.length : Int) := hFq
            obtain ⟨yd,yf,yc⟩ := Kd.at_string HR0.out x16_1 ya yb
            cases yf
            replace ya := eq_true ya
            replace yb := eq_true yb
            have yg : 0 ≤ ((ji10) : Int) := hFq
            have yh : (ji10) < (l0.length : Int) := hFq
            obtain ⟨yi,yk,yj⟩ := Kd.at_string HR0.out (ji10) yg yh
            obtain rfl : yd = yi := (by injection yk)
            replace yg := eq_true yg
            replace yh := eq_true yh
            go_wp2
            go_ret
            exact ⟨by first | rfl | (simp;done) | (simp only [← hji10] <;> (first | rfl | simp)) | (simp [*];done),hEq⟩
          ·rw [if_neg c12] at H
           exact absurd H (by simp)
         ·rw [if_neg c11] at H
          exact absurd H (by simp)
        ·rw [if_neg c9] at H
         have c9b0 : decide (0 < x16_1) = false := decide_eq_false c9
         clear c9
         have H' := za.mk H
         clear H
         have ya : 0 ≤ (x16_1 : Int) := hFq
         have yb : x16_1 < (l0.length : Int) := hFq
         obtain ⟨yd,yf,yc⟩ := Kd.at_string HR0.out x16_1 ya yb
         cases yf
         replace ya := eq_true ya
         replace yb := eq_true yb
         go_wp2
         go_roundg k1
         case measure => have := HK1.out;omega
         case rel => exact ⟨(wrap64 (x16_1 + 1)),(hDq),H',⟨by have := HK1.out;omega⟩,hEq⟩
       ·rw [if_neg c8] at H
        have c8b0 : (((zB ByteArray.empty l0 x16_1).size : Int) == 32) = false := beq_eq_false_iff_ne.mpr c8
        have c8b1 : (((zB ByteArray.empty l0 x16_1).size : Int) != 32) = true := bne_iff_ne.mpr c8
        obtain rfl := Option.some.inj H
        have ya : 0 ≤ (x16_1 : Int) := hFq
        have yb : x16_1 < (l0.length : Int) := hFq
        obtain ⟨yd,yf,yc⟩ := Kd.at_string HR0.out x16_1 ya yb
        cases yf
        replace ya := eq_true ya
        replace yb := eq_true yb
        go_wp2
        go_ret
        exact ⟨hDq,hEq⟩
      ·rw [if_neg c7] at H
       exact absurd H (by simp)
     ·rw [if_neg c6] at H
      exact absurd H (by simp)
    ·rw [if_neg c5] at H
     have c5b0 : decide (x16_1 < (l0.length : Int)) = false := decide_eq_false c5
     clear c5
     replace H := Option.bind_eq_some_iff.mp H
     obtain ⟨ye,yl,H⟩ := H
     replace H : (if (l0.length : Int) ≥ ye then (some (decide ((l0.length : Int) ≤ a2))) else (some false)) = some r := H
     have A14 := za.mk yl
     clear yl
     by_cases c15 : (l0.length : Int) ≥ ye
     ·rw [if_pos c15] at H
      have c15b0 : decide (ye ≤ (l0.length : Int)) = true := decide_eq_true c15
      clear c15
      obtain rfl := Option.some.inj H
      go_wp2_with (first | ((with_reducible refine zN (f := 101) rfl ?_);refine zax (some 41) rfl rfl Try.func101 (by kernel_rfl) rfl #[.int .i64 a2] rfl hMq ?_;(with_reducible refine (zbQ.calls a2 ye _ A14.out).mono ?_);rintro e w' ⟨rfl,⟨nd,rfl⟩⟩;refine ⟨_,rfl,?_⟩))
      go_ret
      exact ⟨hDq,hEq⟩
     ·rw [if_neg c15] at H
      have c15b0 : decide (ye ≤ (l0.length : Int)) = false := decide_eq_false c15
      clear c15
      obtain rfl := Option.some.inj H
      go_wp2_with (first | ((with_reducible refine zN (f := 101) rfl ?_);refine zax (some 41) rfl rfl Try.func101 (by kernel_rfl) rfl #[.int .i64 a2] rfl hMq ?_;(with_reducible refine (zbQ.calls a2 ye _ A14.out).mono ?_);rintro e w' ⟨rfl,⟨nd,rfl⟩⟩;refine ⟨_,rfl,?_⟩))
      go_ret
      exact ⟨hDq,hEq⟩
def zbC.f (a0 : Int) : Option (Bool) := if a0 ≥ 3 then (some ((Int.tmod a0 3) == 0)) else (some false)
set_option maxHeartbeats 8000000 in
set_option maxRecDepth 100000 in
theorem zbC.calls (a0 : Int) (r : Bool) (w : World) (h : zbC.f a0 = some r) :
  Calls Try.prog 90 #[.int .i64 a0] w fun e w' => e = .returned (.bool r) ∧ za3 w w' := by
 have H : (if a0 ≥ 3 then (some ((Int.tmod a0 3) == 0)) else (some false)) = some r := h
 clear h
 by_cases c2 : a0 ≥ 3
 ·rw [if_pos c2] at H
  have c2b0 : decide (3 ≤ a0) = true := decide_eq_true c2
  clear c2
  obtain rfl := Option.some.inj H
  go_enter Try.func90,Try.ntmps90
  go_wp2
  go_ret
  exact ⟨hDq,hEq⟩
 ·rw [if_neg c2] at H
  have c2b0 : decide (3 ≤ a0) = false := decide_eq_false c2
  clear c2
  obtain rfl := Option.some.inj H
  go_enter Try.func90,Try.ntmps90
  go_wp2
  go_ret
  exact ⟨hDq,hEq⟩
end Go.Proofs.Ytndjfdakflaggaa.Px