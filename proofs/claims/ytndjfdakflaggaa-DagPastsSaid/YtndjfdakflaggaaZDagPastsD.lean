/- Part 4 of 30 of the proof of the law DagPasts: what is proved is the statement at the end of the last part; its conditions are those of the given row. -/
import Derived.Test.YtndjfdakflaggaaProg
import Derived.WalkLawsBesides
import Derived.ScopeJumps
import Derived.WalkMore
import Derived.Test.YtndjfdakflaggaaZDagPastsC
namespace Go.Proofs.Ytndjfdakflaggaa.Px
open Go.RowKit Go.Proofs.YtndjfdakflaggaaW.PrintWords Go.Proofs.YtndjfdakflaggaaW.PrintLast Go.Proofs.YtndjfdakflaggaaW.PrintMore
attribute [local go_sem] zt zv zA zB zq zr zu zw
set_option linter.unusedVariables false
set_option linter.unusedSimpArgs false
theorem hBq {B_ : Nat} {w_ w_' : World} (h_ : Below B_ w_ w_' := by repeat (first | (with_reducible first | exact HB.out | apply zi | apply zl | apply zx) | exact HB.out)) : Below B_ w_ w_' := h_
theorem hCq {B_ : Nat} {w_ w_' : World} (h_ : Below B_ w_ w_' := by repeat (first | (with_reducible first | exact HB.out | apply zi | apply zl | apply zx | refine zm ?_ (za.out (by with_reducible assumption))) | exact HB.out)) : Below B_ w_ w_' := h_
def errW : Option Int → Value
 | none => .nilIface
 | some c => .iface 0 (.int .i64 c)
theorem zf3 : errW none = .nilIface := rfl
theorem zf4 (c : Int) : errW (some c) = .iface 0 (.int .i64 c) := rfl
theorem info4 : (Try.prog.info? 4).map (fun i => (i.zero,i.size,i.bytes)) = some (some (.bool false),1,1) := by kernel_rfl
theorem zdS : (Try.prog.info? 34).map (fun i => (i.zero,i.size,i.bytes)) = some (some (.agg #[(.string ⟨#[]⟩),(.int .i64 0),(.int .i64 0),(.slice none 0 0),(.slice none 0 0),(.int .i64 0),(.int .i64 0)]),7,96) := by kernel_rfl
structure S78 where
 f0 : Int
 f1 : Int
 f2 : (List ByteArray)
def z78 : S78 := ⟨(0 : Int),(0 : Int),([] : List ByteArray)⟩
def k78 : Kd S78 := Kd.iso (Kd.pair (Kd.int .i64) (Kd.pair (Kd.int .i64) (Kd.slice 9 Kd.string))) (fun x : S78 => (x.f0,x.f1,x.f2))
theorem k78_heap : Kd.Heap k78 := Kd.heap_iso _ (Kd.heap_pair (Kd.heap_int .i64) (Kd.heap_pair (Kd.heap_int .i64) (Kd.heap_slice 9 Kd.heap_string)))
theorem k78_open {w : World} {x : S78} {cs : List Value} (h : k78.K w x cs) : ∃ A2 c2,cs = [.int .i64 x.f0,.int .i64 x.f1,.slice A2 x.f2.length c2] ∧ x.f2.length ≤ c2 ∧ Kd.string.C w A2 x.f2.length x.f2 := by
 obtain ⟨_,_,rfl,rfl,⟨_,_,rfl,rfl,⟨A2,c2,rfl,l2,g2⟩⟩⟩ := h
 exact ⟨A2,c2,rfl,l2,g2⟩
def zQ (xs : List S78) (i : Int) : S78 := xs.getD i.toNat z78
theorem zdn {w : World} {A : Option Addr} {n : Nat} {xs : List S78} (h : Kd.C k78 w A n xs) (i : Int) (h0 : 0 ≤ i) (h1 : i < n) : ∃ ad A2 c2,A = some ad ∧ w.cell? (ad.add (i.toNat * 3)) = some (.int .i64 (zQ xs i).f0) ∧ w.cell? ⟨(ad.add (i.toNat * 3)).block,(ad.add (i.toNat * 3)).off + 1,none⟩ = some (.int .i64 (zQ xs i).f1) ∧ w.cell? ⟨(ad.add (i.toNat * 3)).block,(ad.add (i.toNat * 3)).off + 2,none⟩ = some (.slice A2 (zQ xs i).f2.length c2) ∧ (zQ xs i).f2.length ≤ c2 ∧ Kd.string.C w A2 (zQ xs i).f2.length (zQ xs i).f2 := by
 obtain ⟨ad,c,e,_,hK,hc0⟩ := Kd.C_get h z78 i h0 h1
 have hc : ∀ j u,c[j]? = some u → w.cell? (ad.add (i.toNat * 3 + j)) = some u := hc0
 obtain ⟨A2,c2,rfl,l2,g2⟩ := k78_open hK
 exact ⟨ad,A2,c2,e,hc 0 _ rfl,by rw [← zO _ _ 1 (by omega)];exact hc 1 _ rfl,by rw [← zO _ _ 2 (by omega)];exact hc 2 _ rfl,l2,g2⟩
structure S30 where
 f0 : Int
 f1 : Int
def z30 : S30 := ⟨(0 : Int),(0 : Int)⟩
def k30 : Kd S30 := Kd.iso (Kd.pair (Kd.int .i64) (Kd.int .i64)) (fun x : S30 => (x.f0,x.f1))
theorem k30_heap : Kd.Heap k30 := Kd.heap_iso _ (Kd.heap_pair (Kd.heap_int .i64) (Kd.heap_int .i64))
theorem k30_open {w : World} {x : S30} {cs : List Value} (h : k30.K w x cs) : cs = [.int .i64 x.f0,.int .i64 x.f1] := by
 obtain ⟨_,_,rfl,rfl,rfl⟩ := h
 exact rfl
theorem k30_mk (w : World) (x : S30)  : k30.K w x [.int .i64 x.f0,.int .i64 x.f1] := ⟨[.int .i64 x.f0],[.int .i64 x.f1],rfl,rfl,rfl⟩
structure S32 where
 f0 : Int
 f1 : Int
 f2 : (List S78)
 f3 : (List ByteArray)
 f4 : S30
def z32 : S32 := ⟨(0 : Int),(0 : Int),([] : List S78),([] : List ByteArray),z30⟩
def k32 : Kd S32 := Kd.iso (Kd.pair (Kd.int .i64) (Kd.pair (Kd.int .i64) (Kd.pair (Kd.slice 78 k78) (Kd.pair (Kd.slice 9 Kd.string) k30)))) (fun x : S32 => (x.f0,x.f1,x.f2,x.f3,x.f4))
theorem k32_heap : Kd.Heap k32 := Kd.heap_iso _ (Kd.heap_pair (Kd.heap_int .i64) (Kd.heap_pair (Kd.heap_int .i64) (Kd.heap_pair (Kd.heap_slice 78 k78_heap) (Kd.heap_pair (Kd.heap_slice 9 Kd.heap_string) k30_heap))))
theorem k32_open {w : World} {x : S32} {cs : List Value} (h : k32.K w x cs) : ∃ A2 c2 A3 c3,cs = [.int .i64 x.f0,.int .i64 x.f1,.slice A2 x.f2.length c2,.slice A3 x.f3.length c3,.int .i64 x.f4.f0,.int .i64 x.f4.f1] ∧ x.f2.length ≤ c2 ∧ k78.C w A2 x.f2.length x.f2 ∧ x.f3.length ≤ c3 ∧ Kd.string.C w A3 x.f3.length x.f3 := by
 obtain ⟨_,_,rfl,rfl,⟨_,_,rfl,rfl,⟨_,_,rfl,⟨A2,c2,rfl,l2,g2⟩,⟨_,_,rfl,⟨A3,c3,rfl,l3,g3⟩,s4⟩⟩⟩⟩ := h
 obtain rfl := k30_open s4
 exact ⟨A2,c2,A3,c3,rfl,l2,g2,l3,g3⟩
theorem k32_mk (w : World) (x : S32) {A2 : Option Addr} {c2 : Nat} (l2 : x.f2.length ≤ c2) (g2 : k78.C w A2 x.f2.length x.f2) {A3 : Option Addr} {c3 : Nat} (l3 : x.f3.length ≤ c3) (g3 : Kd.string.C w A3 x.f3.length x.f3) : k32.K w x [.int .i64 x.f0,.int .i64 x.f1,.slice A2 x.f2.length c2,.slice A3 x.f3.length c3,.int .i64 x.f4.f0,.int .i64 x.f4.f1] := ⟨[.int .i64 x.f0],[.int .i64 x.f1,.slice A2 x.f2.length c2,.slice A3 x.f3.length c3,.int .i64 x.f4.f0,.int .i64 x.f4.f1],rfl,rfl,⟨[.int .i64 x.f1],[.slice A2 x.f2.length c2,.slice A3 x.f3.length c3,.int .i64 x.f4.f0,.int .i64 x.f4.f1],rfl,rfl,⟨[.slice A2 x.f2.length c2],[.slice A3 x.f3.length c3,.int .i64 x.f4.f0,.int .i64 x.f4.f1],rfl,⟨A2,c2,rfl,l2,g2⟩,⟨[.slice A3 x.f3.length c3],[.int .i64 x.f4.f0,.int .i64 x.f4.f1],rfl,⟨A3,c3,rfl,l3,g3⟩,(k30_mk w x.f4 )⟩⟩⟩⟩
structure S34 where
 f0 : ByteArray
 f1 : S32
def z34 : S34 := ⟨(⟨#[]⟩ : ByteArray),z32⟩
def k34 : Kd S34 := Kd.iso (Kd.pair Kd.string k32) (fun x : S34 => (x.f0,x.f1))
theorem zbU : Kd.Heap k34 := Kd.heap_iso _ (Kd.heap_pair Kd.heap_string k32_heap)
theorem zd4 {w : World} {x : S34} {cs : List Value} (h : k34.K w x cs) : ∃ A3 c3 A4 c4,cs = [.string x.f0,.int .i64 x.f1.f0,.int .i64 x.f1.f1,.slice A3 x.f1.f2.length c3,.slice A4 x.f1.f3.length c4,.int .i64 x.f1.f4.f0,.int .i64 x.f1.f4.f1] ∧ x.f1.f2.length ≤ c3 ∧ k78.C w A3 x.f1.f2.length x.f1.f2 ∧ x.f1.f3.length ≤ c4 ∧ Kd.string.C w A4 x.f1.f3.length x.f1.f3 := by
 obtain ⟨_,_,rfl,rfl,s1⟩ := h
 obtain ⟨A3,c3,A4,c4,rfl,l3,g3,l4,g4⟩ := k32_open s1
 exact ⟨A3,c3,A4,c4,rfl,l3,g3,l4,g4⟩
theorem k34_mk (w : World) (x : S34) {A3 : Option Addr} {c3 : Nat} (l3 : x.f1.f2.length ≤ c3) (g3 : k78.C w A3 x.f1.f2.length x.f1.f2) {A4 : Option Addr} {c4 : Nat} (l4 : x.f1.f3.length ≤ c4) (g4 : Kd.string.C w A4 x.f1.f3.length x.f1.f3) : k34.K w x [.string x.f0,.int .i64 x.f1.f0,.int .i64 x.f1.f1,.slice A3 x.f1.f2.length c3,.slice A4 x.f1.f3.length c4,.int .i64 x.f1.f4.f0,.int .i64 x.f1.f4.f1] := ⟨[.string x.f0],[.int .i64 x.f1.f0,.int .i64 x.f1.f1,.slice A3 x.f1.f2.length c3,.slice A4 x.f1.f3.length c4,.int .i64 x.f1.f4.f0,.int .i64 x.f1.f4.f1],rfl,rfl,(k32_mk w x.f1 l3 g3 l4 g4)⟩
theorem zbo {W : World} {ok : Nat → Prop} {x : S34} {cs : List Value} (h : Kd.FK k34 W ok x cs) : ∃ A3 c3 A4 c4,cs = [.string x.f0,.int .i64 x.f1.f0,.int .i64 x.f1.f1,.slice A3 x.f1.f2.length c3,.slice A4 x.f1.f3.length c4,.int .i64 x.f1.f4.f0,.int .i64 x.f1.f4.f1] ∧ x.f1.f2.length ≤ c3 ∧ Kd.F k78 W ok A3 x.f1.f2.length x.f1.f2 ∧ x.f1.f3.length ≤ c4 ∧ Kd.F Kd.string W ok A4 x.f1.f3.length x.f1.f3 := by
 obtain ⟨A3,c3,A4,c4,rfl,l3,_,l4,_⟩ := zd4 (Kd.FK_now h)
 exact ⟨A3,c3,A4,c4,rfl,l3,(fun W' hW => by obtain ⟨A3_,c3_,A4_,c4_,he,l3_,g3_,l4_,g4_⟩ := zd4 (h W' hW);injection (Option.some.inj (show some (Value.slice A3 x.f1.f2.length c3) = some (Value.slice A3_ x.f1.f2.length c3_) from congrArg (fun l => l[3]?) he)) with ha_ _ _;rw [ha_];exact g3_),l4,(fun W' hW => by obtain ⟨A3_,c3_,A4_,c4_,he,l3_,g3_,l4_,g4_⟩ := zd4 (h W' hW);injection (Option.some.inj (show some (Value.slice A4 x.f1.f3.length c4) = some (Value.slice A4_ x.f1.f3.length c4_) from congrArg (fun l => l[4]?) he)) with ha_ _ _;rw [ha_];exact g4_)⟩
theorem ze1 (W : World) (ok : Nat → Prop) (x : S34) {A3 : Option Addr} {c3 : Nat} (l3 : x.f1.f2.length ≤ c3) (g3 : Kd.F k78 W ok A3 x.f1.f2.length x.f1.f2) {A4 : Option Addr} {c4 : Nat} (l4 : x.f1.f3.length ≤ c4) (g4 : Kd.F Kd.string W ok A4 x.f1.f3.length x.f1.f3) : Kd.FK k34 W ok x [.string x.f0,.int .i64 x.f1.f0,.int .i64 x.f1.f1,.slice A3 x.f1.f2.length c3,.slice A4 x.f1.f3.length c4,.int .i64 x.f1.f4.f0,.int .i64 x.f1.f4.f1] := fun W2 hW => k34_mk W2 x l3 (g3 W2 hW) l4 (g4 W2 hW)
def zd (xs : List S34) (i : Int) : S34 := xs.getD i.toNat z34
theorem zai {w : World} {A : Option Addr} {n : Nat} {xs : List S34} (h : Kd.C k34 w A n xs) (i : Int) (h0 : 0 ≤ i) (h1 : i < n) : ∃ ad A3 c3 A4 c4,A = some ad ∧ w.cell? (ad.add (i.toNat * 7)) = some (.string (zd xs i).f0) ∧ w.cell? ⟨(ad.add (i.toNat * 7)).block,(ad.add (i.toNat * 7)).off + 1,none⟩ = some (.int .i64 (zd xs i).f1.f0) ∧ w.cell? ⟨(ad.add (i.toNat * 7)).block,(ad.add (i.toNat * 7)).off + 2,none⟩ = some (.int .i64 (zd xs i).f1.f1) ∧ w.cell? ⟨(ad.add (i.toNat * 7)).block,(ad.add (i.toNat * 7)).off + 3,none⟩ = some (.slice A3 (zd xs i).f1.f2.length c3) ∧ w.cell? ⟨(ad.add (i.toNat * 7)).block,(ad.add (i.toNat * 7)).off + 4,none⟩ = some (.slice A4 (zd xs i).f1.f3.length c4) ∧ w.cell? ⟨(ad.add (i.toNat * 7)).block,(ad.add (i.toNat * 7)).off + 5,none⟩ = some (.int .i64 (zd xs i).f1.f4.f0) ∧ w.cell? ⟨(ad.add (i.toNat * 7)).block,(ad.add (i.toNat * 7)).off + 6,none⟩ = some (.int .i64 (zd xs i).f1.f4.f1) ∧ (zd xs i).f1.f2.length ≤ c3 ∧ k78.C w A3 (zd xs i).f1.f2.length (zd xs i).f1.f2 ∧ (zd xs i).f1.f3.length ≤ c4 ∧ Kd.string.C w A4 (zd xs i).f1.f3.length (zd xs i).f1.f3 := by
 obtain ⟨ad,c,e,_,hK,hc0⟩ := Kd.C_get h z34 i h0 h1
 have hc : ∀ j u,c[j]? = some u → w.cell? (ad.add (i.toNat * 7 + j)) = some u := hc0
 obtain ⟨A3,c3,A4,c4,rfl,l3,g3,l4,g4⟩ := zd4 hK
 exact ⟨ad,A3,c3,A4,c4,e,hc 0 _ rfl,by rw [← zO _ _ 1 (by omega)];exact hc 1 _ rfl,by rw [← zO _ _ 2 (by omega)];exact hc 2 _ rfl,by rw [← zO _ _ 3 (by omega)];exact hc 3 _ rfl,by rw [← zO _ _ 4 (by omega)];exact hc 4 _ rfl,by rw [← zO _ _ 5 (by omega)];exact hc 5 _ rfl,by rw [← zO _ _ 6 (by omega)];exact hc 6 _ rfl,l3,g3,l4,g4⟩
structure S24 where
 f0 : Int
 f1 : Int
 f2 : (List S34)
def z24 : S24 := ⟨(0 : Int),(0 : Int),([] : List S34)⟩
def k24 : Kd S24 := Kd.iso (Kd.pair (Kd.int .i64) (Kd.pair (Kd.int .i64) (Kd.slice 34 k34))) (fun x : S24 => (x.f0,x.f1,x.f2))
theorem zg4 {w : World} {x : S24} {cs : List Value} (h : k24.K w x cs) : ∃ A2 c2,cs = [.int .i64 x.f0,.int .i64 x.f1,.slice A2 x.f2.length c2] ∧ x.f2.length ≤ c2 ∧ k34.C w A2 x.f2.length x.f2 := by
 obtain ⟨_,_,rfl,rfl,⟨_,_,rfl,rfl,⟨A2,c2,rfl,l2,g2⟩⟩⟩ := h
 exact ⟨A2,c2,rfl,l2,g2⟩
structure S42 where
 f0 : S24
 f1 : ByteArray
 f2 : ByteArray
 f3 : Int
 f4 : S24
def z42 : S42 := ⟨z24,(⟨#[]⟩ : ByteArray),(⟨#[]⟩ : ByteArray),(0 : Int),z24⟩
def k42 : Kd S42 := Kd.iso (Kd.pair k24 (Kd.pair Kd.string (Kd.pair Kd.string (Kd.pair (Kd.int .i64) k24)))) (fun x : S42 => (x.f0,x.f1,x.f2,x.f3,x.f4))
theorem k42_open {w : World} {x : S42} {cs : List Value} (h : k42.K w x cs) : ∃ A2 c2 A8 c8,cs = [.int .i64 x.f0.f0,.int .i64 x.f0.f1,.slice A2 x.f0.f2.length c2,.string x.f1,.string x.f2,.int .i64 x.f3,.int .i64 x.f4.f0,.int .i64 x.f4.f1,.slice A8 x.f4.f2.length c8] ∧ x.f0.f2.length ≤ c2 ∧ k34.C w A2 x.f0.f2.length x.f0.f2 ∧ x.f4.f2.length ≤ c8 ∧ k34.C w A8 x.f4.f2.length x.f4.f2 := by
 obtain ⟨_,_,rfl,s0,⟨_,_,rfl,rfl,⟨_,_,rfl,rfl,⟨_,_,rfl,rfl,s6⟩⟩⟩⟩ := h
 obtain ⟨A2,c2,rfl,l2,g2⟩ := zg4 s0
 obtain ⟨A8,c8,rfl,l8,g8⟩ := zg4 s6
 exact ⟨A2,c2,A8,c8,rfl,l2,g2,l8,g8⟩
theorem hcq1 {w : World} {g : Nat} {t : TypeId} {a0 : Value} (h : w.heap[g]? = some (.cells #[a0] t (0,0))) : w.cell? ⟨g,0,none⟩ = some a0 ∧ w.frozen? ⟨g,0,none⟩ = false := ⟨(zb h 0).trans rfl,zc h 0⟩
theorem hcq2 {w : World} {g : Nat} {t : TypeId} {a0 a1 : Value} (h : w.heap[g]? = some (.cells #[a0,a1] t (0,0))) : w.cell? ⟨g,0,none⟩ = some a0 ∧ w.cell? ⟨g,1,none⟩ = some a1 ∧ w.frozen? ⟨g,0,none⟩ = false ∧ w.frozen? ⟨g,1,none⟩ = false := ⟨(zb h 0).trans rfl,(zb h 1).trans rfl,zc h 0,zc h 1⟩
theorem hcq3 {w : World} {g : Nat} {t : TypeId} {a0 a1 a2 : Value} (h : w.heap[g]? = some (.cells #[a0,a1,a2] t (0,0))) : w.cell? ⟨g,0,none⟩ = some a0 ∧ w.cell? ⟨g,1,none⟩ = some a1 ∧ w.cell? ⟨g,2,none⟩ = some a2 ∧ w.frozen? ⟨g,0,none⟩ = false ∧ w.frozen? ⟨g,1,none⟩ = false ∧ w.frozen? ⟨g,2,none⟩ = false := ⟨(zb h 0).trans rfl,(zb h 1).trans rfl,(zb h 2).trans rfl,zc h 0,zc h 1,zc h 2⟩
theorem hcq6 {w : World} {g : Nat} {t : TypeId} {a0 a1 a2 a3 a4 a5 : Value} (h : w.heap[g]? = some (.cells #[a0,a1,a2,a3,a4,a5] t (0,0))) : w.cell? ⟨g,0,none⟩ = some a0 ∧ w.cell? ⟨g,1,none⟩ = some a1 ∧ w.cell? ⟨g,2,none⟩ = some a2 ∧ w.cell? ⟨g,3,none⟩ = some a3 ∧ w.cell? ⟨g,4,none⟩ = some a4 ∧ w.cell? ⟨g,5,none⟩ = some a5 ∧ w.frozen? ⟨g,0,none⟩ = false ∧ w.frozen? ⟨g,1,none⟩ = false ∧ w.frozen? ⟨g,2,none⟩ = false ∧ w.frozen? ⟨g,3,none⟩ = false ∧ w.frozen? ⟨g,4,none⟩ = false ∧ w.frozen? ⟨g,5,none⟩ = false := ⟨(zb h 0).trans rfl,(zb h 1).trans rfl,(zb h 2).trans rfl,(zb h 3).trans rfl,(zb h 4).trans rfl,(zb h 5).trans rfl,zc h 0,zc h 1,zc h 2,zc h 3,zc h 4,zc h 5⟩
theorem hcq7 {w : World} {g : Nat} {t : TypeId} {a0 a1 a2 a3 a4 a5 a6 : Value} (h : w.heap[g]? = some (.cells #[a0,a1,a2,a3,a4,a5,a6] t (0,0))) : w.cell? ⟨g,0,none⟩ = some a0 ∧ w.cell? ⟨g,1,none⟩ = some a1 ∧ w.cell? ⟨g,2,none⟩ = some a2 ∧ w.cell? ⟨g,3,none⟩ = some a3 ∧ w.cell? ⟨g,4,none⟩ = some a4 ∧ w.cell? ⟨g,5,none⟩ = some a5 ∧ w.cell? ⟨g,6,none⟩ = some a6 ∧ w.frozen? ⟨g,0,none⟩ = false ∧ w.frozen? ⟨g,1,none⟩ = false ∧ w.frozen? ⟨g,2,none⟩ = false ∧ w.frozen? ⟨g,3,none⟩ = false ∧ w.frozen? ⟨g,4,none⟩ = false ∧ w.frozen? ⟨g,5,none⟩ = false ∧ w.frozen? ⟨g,6,none⟩ = false := ⟨(zb h 0).trans rfl,(zb h 1).trans rfl,(zb h 2).trans rfl,(zb h 3).trans rfl,(zb h 4).trans rfl,(zb h 5).trans rfl,(zb h 6).trans rfl,zc h 0,zc h 1,zc h 2,zc h 3,zc h 4,zc h 5,zc h 6⟩
theorem hcq9 {w : World} {g : Nat} {t : TypeId} {a0 a1 a2 a3 a4 a5 a6 a7 a8 : Value} (h : w.heap[g]? = some (.cells #[a0,a1,a2,a3,a4,a5,a6,a7,a8] t (0,0))) : w.cell? ⟨g,0,none⟩ = some a0 ∧ w.cell? ⟨g,1,none⟩ = some a1 ∧ w.cell? ⟨g,2,none⟩ = some a2 ∧ w.cell? ⟨g,3,none⟩ = some a3 ∧ w.cell? ⟨g,4,none⟩ = some a4 ∧ w.cell? ⟨g,5,none⟩ = some a5 ∧ w.cell? ⟨g,6,none⟩ = some a6 ∧ w.cell? ⟨g,7,none⟩ = some a7 ∧ w.cell? ⟨g,8,none⟩ = some a8 ∧ w.frozen? ⟨g,0,none⟩ = false ∧ w.frozen? ⟨g,1,none⟩ = false ∧ w.frozen? ⟨g,2,none⟩ = false ∧ w.frozen? ⟨g,3,none⟩ = false ∧ w.frozen? ⟨g,4,none⟩ = false ∧ w.frozen? ⟨g,5,none⟩ = false ∧ w.frozen? ⟨g,6,none⟩ = false ∧ w.frozen? ⟨g,7,none⟩ = false ∧ w.frozen? ⟨g,8,none⟩ = false := ⟨(zb h 0).trans rfl,(zb h 1).trans rfl,(zb h 2).trans rfl,(zb h 3).trans rfl,(zb h 4).trans rfl,(zb h 5).trans rfl,(zb h 6).trans rfl,(zb h 7).trans rfl,(zb h 8).trans rfl,zc h 0,zc h 1,zc h 2,zc h 3,zc h 4,zc h 5,zc h 6,zc h 7,zc h 8⟩
theorem hGq {A_ B_ : Prop} (x_ : A_) (h_ : A_ → B_ := by intro x_;(with_reducible repeat (first | refine zL ?_ _ | refine zG ?_ | refine ze ?_ _));exact x_) : B_ := h_ x_
theorem hDq {B_ : Prop} (h_ : B_ := by first | rfl | (simp;done) | (simp [*];done)) : B_ := h_
theorem hEq {B_ : Prop} (h_ : B_ := by repeat (first | exact za3.refl _ | apply za3.step)) : B_ := h_
theorem hHq {B_ : Prop} (h_ : B_ := by first | rfl | (simp [zf3,zf4] <;> rfl) | (simp [*,zf3,zf4] <;> rfl)) : B_ := h_
theorem hFq {p_ : Prop} [Decidable p_] (h_ : decide p_ = true := by first | (with_reducible assumption) | assumption) : p_ := of_decide_eq_true h_
theorem hRq {A_ B_ : Prop} (x_ : A_) (h_ : A_ → B_ := by intro x_;(with_reducible repeat (first | apply Kd.R_alloc | apply Kd.R_drewN | apply Kd.R_drew));exact x_) : B_ := h_ x_
theorem hSq {A_ B_ : Prop} (x_ : A_) (h_ : A_ → B_ := by intro x_;(with_reducible repeat (first | apply Kd.S_alloc | apply Kd.S_drewN | apply Kd.S_drew));exact x_) : B_ := h_ x_
theorem hbq {w0 w w1 : World} {g : Nat} {o : Obj} (x_ : w0.heap[g]? = some o) (hb_ : Below w.heap.size w w1) (h_ : w0.heap[g]? = some o → w.heap[g]? = some o := by intro x_;(with_reducible repeat (first | refine zL ?_ _ | refine zG ?_ | refine ze ?_ _));exact x_) : w1.heap[g]? = some o := zo (h_ x_) hb_
theorem hnq {w0 w : World} {g q : Nat} {o : Obj} (hg_ : q = w.heap.size) (x_ : w0.heap[g]? = some o) (h_ : w0.heap[g]? = some o → w.heap[g]? = some o := by intro x_;(with_reducible repeat (first | refine zL ?_ _ | refine zG ?_ | refine ze ?_ _));exact x_) : g ≠ q := by rw [hg_];exact Nat.ne_of_lt (zam (h_ x_))
theorem hmq {w0 w : World} {g q : Nat} {o : Obj} (hg_ : q = w.heap.size) (x_ : w0.heap[g]? = some o) (h_ : w0.heap[g]? = some o → w.heap[g]? = some o := by intro x_;(with_reducible repeat (first | refine zL ?_ _ | refine zG ?_ | refine ze ?_ _));exact x_) : q ≠ g := by rw [hg_];exact Nat.ne_of_gt (zam (h_ x_))
theorem hfq {w1 W W' : World} {g q : Nat} {o : Obj} (hw_ : W' = W) (n_ : g ≠ q) (x_ : w1.heap[g]? = some o) (h_ : g ≠ q → w1.heap[g]? = some o → W.heap[g]? = some o := by intro n_ x_;(repeat (first | (with_reducible exact x_) | (with_reducible refine zL ?_ _) | (with_reducible refine zG ?_) | (with_reducible refine ze ?_ _) | refine zbS ?_ n_ _))) : W'.heap[g]? = some o := by rw [hw_];exact h_ n_ x_
theorem hKq {A_ B_ : Prop} (x_ : A_) (h_ : A_ → B_ := by intro x_;repeat (first | exact x_ | (with_reducible refine Kd.C_alloc ?_ _) | (with_reducible refine Kd.C_drewN ?_ _) | (with_reducible refine Kd.C_drew ?_))) : B_ := h_ x_
theorem hMq {B_ : Prop} (h_ : B_ := by (try simp only [List.map_toArray,List.map_cons,List.map_nil]);first | done | rfl | (simp only [List.length_drop,List.length_take];rfl)) : B_ := h_
theorem hPq {a_ b_ : Act} (h_ : a_ = b_ := by simp only [Act.put,List.setIfInBounds_toArray,List.set_cons_zero,List.set_cons_succ,z8,zaa];rfl) : a_ = b_ := h_
theorem puq {P : Program} {md : Region.Mode} {ops : Array Oper} {Q : Exit → Act → World → Prop} {S : World → Prop} {ds : List Nat} {T : Bool × List (List Nat × List Nat)} {i : Nat} {N : Option Tmp} {oi : Oper} {v : Value} {fuel : Nat} {l : Array Bool} {a a' : Act} {w : World} (hT_ : zbI md ops = T) (l' : Array Bool) (h_ : zW P md ops Q S ds fuel l' a' w) (hi_ : ops[i]? = some oi := by rfl) (hN_ : oi.dst = N := by rfl) (hc_ : anyT T l.toList l'.toList i = true := by kernel_rfl) (hQ_ : ∀ c a w,Q (.panic c) (a.put oi.dst v) w → Q (.panic c) a w := by exact fun _ _ _ h => h) (hw_ : Region.wanted oi (yielded ops a.tmps) = true := by rfl) (hy_ : ∀ w',(execOp a.eval oi).run P w' = .ok (.value v) w' := by intro w';go_simp;with_reducible rfl) (ha_ : a.put N v = a' := by simp only [Act.put,List.setIfInBounds_toArray,List.set_cons_zero,List.set_cons_succ,z8,zaa];rfl) : zW P md ops Q S ds (fuel + 1) l a w := zaR l' hi_ hN_ (zat hT_ hc_) hQ_ (Or.inl ⟨hw_,hy_⟩) ha_ h_
theorem hrq {A_ : Prop} (h_ : A_ := by first | (go_simp;done) | (go_simp;rfl)) : A_ := h_
def uQ (n k : Nat) : Array Bool := (List.replicate k true ++ List.replicate (n - k) false).toArray
theorem haq {A_ B_ : Prop} (a_ : A_) (b_ : B_) : za A_ ∧ B_ := ⟨⟨a_⟩,b_⟩
theorem hxq0p {A_ B_ : Prop} (x_ : A_) (h_ : A_ → B_ := by intro  x_;(repeat (first | (with_reducible exact x_) | (with_reducible refine zL ?_ _) | (with_reducible refine zG ?_) | (with_reducible refine ze ?_ _) | apply zaZ));all_goals first | (with_reducible rfl) | (simp only [List.setIfInBounds_toArray,List.set_cons_zero,List.set_cons_succ];done) | rfl) : B_ := h_ x_
theorem hxq1 {A_ B_ : Prop} {P0_ : Prop} (n0_ : P0_) (x_ : A_) (h_ : P0_ → A_ → B_ := by intro n0_ x_;(repeat (first | (with_reducible exact x_) | (with_reducible refine zL ?_ _) | (with_reducible refine zG ?_) | (with_reducible refine ze ?_ _) | refine zbS ?_ n0_ _))) : B_ := h_ n0_ x_
def zcp {α : Type} (p : α → Bool) (l : List α) : Int := match l.findIdx? p with | some i => (i : Int) | none => -1
theorem zcW {α : Type} {p : α → Bool} {l : List α} {k : Nat} {x : α} (hx : l[k]? = some x) (hp : p x = true) (hn : ∀ (j : Nat) (y : α),j < k → l[j]? = some y → p y = false) : zcp p l = k := by
 have hk := (List.getElem?_eq_some_iff.1 hx).1
 have h : l.findIdx? p = some k := by
  rw [List.findIdx?_eq_some_iff_getElem]
  refine ⟨hk,?_,fun j hj => ?_⟩
  ·rw [(List.getElem?_eq_some_iff.1 hx).2];exact hp
  ·have := hn j l[j] hj (List.getElem?_eq_getElem _)
   simp [this]
 rw [zcp,h]
theorem zcX {α : Type} {p : α → Bool} {l : List α} (hn : ∀ (j : Nat) (y : α),l[j]? = some y → p y = false) : zcp p l = -1 := by
 have h : l.findIdx? p = none := by
  rw [List.findIdx?_eq_none_iff]
  intro x hx
  obtain ⟨j,hj⟩ := List.mem_iff_getElem?.1 hx
  exact hn j x hj
 rw [zcp,h]
theorem zg3 {α : Type} (p : α → Bool) (l : List α) : decide (0 ≤ zcp p l) = l.any p := by
 rw [zcp]
 rcases h : l.findIdx? p with _ | i
 ·rw [List.findIdx?_eq_none_iff] at h
  simp
  intro x hx
  simpa using h x hx
 ·rw [List.findIdx?_eq_some_iff_getElem] at h
  obtain ⟨hi,hp,_⟩ := h
  simp
  exact ⟨_,List.getElem_mem hi,hp⟩
theorem may_ret {a b : Bool} (h : a = b) : Ending.returned (.bool a) = .returned (.bool b) := by rw [h]
abbrev Bs := List UInt8
def toB (l : Bs) : ByteArray := ⟨l.toArray⟩
def ofB (s : ByteArray) : Bs := s.data.toList
theorem zdB (l : Bs) : ofB (toB l) = l := by simp [ofB,toB]
theorem ze2 (s : ByteArray) : toB (ofB s) = s := by simp [ofB,toB]
theorem zic {a b : ByteArray} (h : ofB a = ofB b) : a = b := by rw [← ze2 a,← ze2 b,h]
theorem zaH (s : ByteArray) : (ofB s).length = s.size := by rw [ofB,Array.length_toList];rfl
theorem zb2 (l : Bs) : (toB l).size = l.length := by rw [← zaH,zdB]
theorem zhN (a b : ByteArray) : ofB (a ++ b) = ofB a ++ ofB b := by simp [ofB]
theorem zbK (a b : Bs) : toB (a ++ b) = toB a ++ toB b := zic (by rw [zhN,zdB,zdB,zdB])
theorem zcd (s : ByteArray) : s.toList = ofB s := ByteArray.toList_eq s
theorem zdN (xs : List Int) : strOfNums xs = toB (xs.map fun n => UInt8.ofNat n.toNat) := rfl
def be (v : Nat) : Bs := if v = 0 then [] else be (v / 256) ++ [UInt8.ofNat (v % 256)]
termination_by v
decreasing_by omega
theorem zgo : be 0 = [] := by rw [be];simp
theorem zhD {v : Nat} (h : 0 < v) : be v = be (v / 256) ++ [UInt8.ofNat (v % 256)] := by rw [be,if_neg (by omega)]
def val (l : Bs) : Nat := l.foldl (fun a c => a * 256 + c.toNat) 0
theorem ziq (n : Nat) : ∀ v : Nat,(be v).length ≤ n ↔ v < 256 ^ n := by
 induction n with
 | zero =>
  intro v
  rcases Nat.eq_zero_or_pos v with h | h
  ·subst h;simp [zgo]
  ·rw [zhD h];simp;omega
 | succ n ih =>
  intro v
  rcases Nat.eq_zero_or_pos v with h | h
  ·subst h;simp [zgo,Nat.pow_pos]
  ·rw [zhD h,List.length_append,List.length_singleton,Nat.succ_le_succ_iff,ih,Nat.pow_succ,Nat.mul_comm,Nat.div_lt_iff_lt_mul (by omega),Nat.mul_comm]
theorem be_len8 {v : Nat} (h : v < 18446744073709551616) : (be v).length ≤ 8 := by
 have : (256 : Nat) ^ 8 = 18446744073709551616 := by decide
 exact (ziq 8 v).2 (by rw [this];exact h)
def zdl (v : Nat) : Bs := UInt8.ofNat (be v).length :: be v
def zbr (v : Nat) : ByteArray := toB (zdl v)
def zfM (t : Bs) : Bs := zdl t.length ++ t
def zfL (t : ByteArray) : ByteArray := zbr t.size ++ t
theorem textB_eq (t : ByteArray) : zfL t = toB (zfM (ofB t)) := by rw [zfM,zbK,ze2,zaH];rfl
theorem zaN {v : Nat} (h : v < 18446744073709551616) : (zdl v).length ≤ 9 := by
 have := be_len8 h
 simp only [zdl,List.length_cons];omega
theorem zbP {v : Nat} (h : v < 18446744073709551616) : (zbr v).size ≤ 9 := by rw [zbr,zb2];exact zaN h
theorem zfs (v : Nat) (L : List Int) (h : L.map (fun n => UInt8.ofNat n.toNat) = be v) : strOfNums ((L.length : Int) :: L) = zbr v := by
 rw [zdN,List.map_cons,h,zbr,zdl]
 have : L.length = (be v).length := by rw [← h,List.length_map]
 rw [this,Int.toNat_natCast]
def zc0 (s : ByteArray) : Bool := decide (s.size = 0) || decide (48 < s.size)
theorem zaE.odd (s : ByteArray) (w : World) : Calls Try.prog 98 #[.string s] w fun e w' => e = .returned (.bool (zc0 s)) ∧ w = w' := by
 by_cases h : s.toList = []
 ·have hb : (s.toList == []) = true := beq_iff_eq.mpr h
  have h0 : s.size = 0 := by rw [← zaH,← zcd,h];rfl
  have HO : za (zc0 s = true) := ⟨by simp [zc0,h0]⟩
  clear h h0
  go_enter Try.func98,Try.ntmps98
  go_wp2
  go_ret
  rw [HO.out]
  exact ⟨rfl,rfl⟩
 ·have hb : (s.toList == []) = false := beq_eq_false_iff_ne.mpr h
  have h0 : s.size ≠ 0 := fun hz => h (List.eq_nil_of_length_eq_zero (by rw [zcd,zaH,hz]))
  have HO : za (zc0 s = decide (48 < (s.size : Int))) := ⟨by simp [zc0,h0];omega⟩
  clear h h0
  by_cases h1 : 48 < (s.size : Int)
  ·have h1b : decide (48 < (s.size : Int)) = true := decide_eq_true h1
   rw [h1b] at HO
   clear h1
   go_enter Try.func98,Try.ntmps98
   go_wp2
   go_ret
   rw [HO.out]
   exact ⟨rfl,rfl⟩
  ·have h1b : decide (48 < (s.size : Int)) = false := decide_eq_false h1
   rw [h1b] at HO
   clear h1
   go_enter Try.func98,Try.ntmps98
   go_wp2
   go_ret
   rw [HO.out]
   exact ⟨rfl,rfl⟩
theorem zaE.idx (A : Option Addr) (c : Nat) (l : List ByteArray) (w : World) (hr : Kd.C Kd.string w A l.length l) (hc : l.length ≤ c) :
  Calls Try.prog 108 #[.slice A l.length c,.func (.func 98) #[] #[]] w fun e w' => e = .returned (.int .i64 (zcp zc0 l)) ∧ w = w' := by
 have hm := hr.2.1
 have HR := za.mk hr
 clear hr
 go_enter Try.func108,Try.ntmps108
 go_wp2_with fail
 go_loop [5,8] (fun v5 v8 => ∃ k : Nat,v8 = .int .i64 k ∧ k ≤ l.length ∧ za (∀ (j : Nat) (y : ByteArray),j < k → l[j]? = some y → zc0 y = false)) (fun _ v8 => l.length - (match v8 with | .int _ q => q | _ => 0).toNat)
 case atStart => exact ⟨0,rfl,Nat.zero_le _,⟨fun j y hj => absurd hj (Nat.not_lt_zero _)⟩⟩
 case round =>
  obtain ⟨k,rfl,hk,HN⟩ := hrel
  by_cases hlt : k < l.length
  ·obtain ⟨ad,rfl,hcell⟩ := Kd.at_string HR.out (k : Int) (by omega) (by omega)
   rw [Int.toNat_natCast] at hcell
   have hb : decide (k < l.length) = true := decide_eq_true hlt
   have hx : l[k]? = some (zz ByteArray.empty l (k : Int)) := by
    rw [zz,Int.toNat_natCast,List.getD_eq_getElem?_getD,List.getElem?_eq_getElem hlt];rfl
   have HX := za.mk hx
   clear hx
   generalize zz ByteArray.empty l (k : Int) = s at *
   rcases ho : zc0 s with _ | _
   ·have HO := za.mk ho
    clear ho
    go_wp2_with (go_at_call 98;(with_reducible refine (zaE.odd _ _).mono ?_);rintro e w1 ⟨rfl,rfl⟩;rw [HO.out])
    go_round
    case rel =>
     refine ⟨k + 1,by go_num,by omega,⟨fun j y hj hy => ?_⟩⟩
     rcases Nat.lt_succ_iff_lt_or_eq.1 hj with h | h
     ·exact HN.out j y h hy
     ·subst h
      rw [HX.out] at hy
      injection hy with hy
      subst hy
      exact HO.out
    case measure => simp;omega
   ·have HO := za.mk ho
    clear ho
    go_wp2_with (go_at_call 98;(with_reducible refine (zaE.odd _ _).mono ?_);rintro e w1 ⟨rfl,rfl⟩;rw [HO.out])
    go_ret
    exact ⟨by rw [zcW HX.out HO.out HN.out];rfl,rfl⟩
  ·obtain rfl : k = l.length := by omega
   go_wp2_with fail
   go_ret
   exact ⟨by rw [zcX (fun j y hy => HN.out j y (List.getElem?_eq_some_iff.1 hy).1 hy)];rfl,rfl⟩
theorem zaE.contains (A : Option Addr) (c : Nat) (l : List ByteArray) (w : World) (hr : Kd.C Kd.string w A l.length l) (hc : l.length ≤ c) :
  Calls Try.prog 99 #[.slice A l.length c,.func (.func 98) #[] #[]] w fun e w' => e = .returned (.bool (l.any zc0)) ∧ w = w' := by
 have HR := za.mk hr
 have HC := za.mk hc
 clear hr hc
 have HA := za.mk (zg3 zc0 l)
 go_enter Try.func99,Try.ntmps99
 go_wp2_with (go_at_call 108;(with_reducible refine (zaE.idx _ _ _ _ HR.out HC.out).mono ?_);rintro e w1 ⟨rfl,rfl⟩)
 go_ret
 exact ⟨by rw [← HA.out];rfl,rfl⟩
def zfU (o q : Int) (l : List ByteArray) : Bool := decide (1 ≤ o) && decide (o ≤ 64) && decide (1 ≤ q) && decide (q ≤ 1073741824) && decide (1 ≤ l.length) && decide (l.length ≤ 4) && !l.any zc0
def zaE.f (a0_0 : Int) (a0_1 : Int) (l0_2 : List ByteArray) : Option (Bool) := some (zfU a0_0 a0_1 l0_2)
theorem zaE.walk (a0_0 : Int) (a0_1 : Int) (A : Option Addr) (c : Nat) (l : List ByteArray) (w : World) (hr : Kd.C Kd.string w A l.length l) (hc : l.length ≤ c) :
  Calls Try.prog 87 #[.agg #[.int .i64 a0_0,.int .i64 a0_1,.slice A l.length c]] w fun e w' => e = .returned (.bool (zfU a0_0 a0_1 l)) ∧ Below w.heap.size w w' := by
 have HR := za.mk hr
 have HC := za.mk hc
 clear hr hc
 have HW := fun (o : Obj) => Kd.C_below HR.out (Below.alloc (Below.refl w.heap.size w) (Nat.le_refl _) o)
 have HW' := za.mk HW
 clear HW
 go_enter Try.func87,Try.ntmps87
 go_wp2_with (go_at_call 99;(with_reducible refine (zaE.contains _ _ _ _ (HW'.out _) HC.out).mono ?_);rintro e w1 ⟨rfl,rfl⟩)
 all_goals go_ret
 all_goals refine ⟨may_ret ?_,(Below.refl _ _).alloc (Nat.le_refl _) _⟩
 all_goals (unfold zfU;simp;try omega)
theorem zaE.calls (a0_0 : Int) (a0_1 : Int) (A0_2 : Option Addr) (c0_2 : Nat) (l0_2 : List ByteArray) (r : Bool) (w : World) (hr0_2 : Kd.C Kd.string w A0_2 l0_2.length l0_2) (hc0_2 : l0_2.length ≤ c0_2) (h : zaE.f a0_0 a0_1 l0_2 = some r) :
  Calls Try.prog 87 #[.agg #[.int .i64 a0_0,.int .i64 a0_1,.slice A0_2 l0_2.length c0_2]] w fun e w' => e = .returned (.bool r) ∧ Below w.heap.size w w' := by
 obtain rfl := Option.some.inj h
 exact zaE.walk a0_0 a0_1 A0_2 c0_2 l0_2 w hr0_2 hc0_2
def beL (v : Nat) : List Int := if v = 0 then [] else beL (v / 256) ++ [((v % 256 : Nat) : Int)]
termination_by v
decreasing_by omega
theorem zfa : beL 0 = [] := by rw [beL];simp
theorem zgn {v : Nat} (h : 0 < v) : beL v = beL (v / 256) ++ [((v % 256 : Nat) : Int)] := by rw [beL,if_neg (by omega)]
theorem beL_be (v : Nat) : (beL v).map (fun n => UInt8.ofNat n.toNat) = be v := by
 induction v using Nat.strongRecOn with
 | _ v ih =>
  rcases Nat.eq_zero_or_pos v with h | h
  ·subst h;rw [zfa,zgo];rfl
  ·rw [zgn h,zhD h,List.map_append,ih _ (by omega)];rfl
theorem zhe (v : Nat) : zbr v = strOfNums (((beL v).length : Int) :: beL v) := (zfs v _ (beL_be v)).symm
def zga : Value → Int | .int _ q => q | _ => 0
def zik (cs : Array Value) (p : Nat) (L : List Int) : Prop := cs.size = 9 ∧ p + L.length = 9 ∧ ∀ i,i < L.length → cs[p + i]? = some (.int .u8 (L.getD i 0))
theorem zik.cell {cs : Array Value} {p : Nat} {L : List Int} (h : zik cs p L) (i : Nat) (hi : i < 9) : ∃ v,cs[i]? = some v :=
 ⟨cs[i]'(by rw [h.1];exact hi),Array.getElem?_eq_getElem _⟩
theorem zik.set {cs : Array Value} {q : Nat} {L : List Int} (h : zik cs (q + 1) L) (x : Int) : zik (cs.setIfInBounds q (.int .u8 x)) q (x :: L) := by
 refine ⟨by simp [h.1],by have := h.2.1;simp only [List.length_cons];omega,fun i hi => ?_⟩
 rcases i with _ | i
 ·rw [Nat.add_zero,Array.getElem?_setIfInBounds_self_of_lt (by rw [h.1];have := h.2.1;omega)];rfl
 ·have h2 := h.2.2 i (by simpa using hi)
  rw [Array.getElem?_setIfInBounds_ne (by omega),← Nat.add_assoc,Nat.add_right_comm,h2];simp
theorem pow_step {v q : Nat} (h : v < 256 ^ (q + 1)) : v / 256 < 256 ^ q := by
 rw [Nat.pow_succ] at h
 exact Nat.div_lt_of_lt_mul (by rw [Nat.mul_comm];exact h)
set_option maxHeartbeats 1000000 in
set_option maxRecDepth 100000 in
theorem z4.walk (a0 : Nat) (w : World) (h1 : a0 < 18446744073709551616) :
  Calls Try.prog 70 #[.int .u64 a0] w fun e w' => e = .returned (.string (zbr a0)) ∧ Below w.heap.size w w' := by
 go_enter Try.func70,Try.ntmps70
 go_wp2
 refine wp_scope_jumps 0 (fun a' w' => ∃ (v p n : Nat) (L : List Int) (cs : Array Value) (u6 u7 u8 u9 u10 u11 u12 u13 u14 u15 u16 u17 : Value),
   zik cs p L ∧ v < 256 ^ (p - 1) ∧ 1 ≤ p ∧ L.length = n ∧ beL a0 = beL v ++ L ∧
   w' = w.alloc (.cells cs 112) ∧
   a' = { tmps := #[.int .u64 v,undef,.string ⟨#[]⟩,.pointer (some ⟨w.heap.size,0,none⟩),.int .i64 p,.int .u8 n,u6,u7,u8,u9,u10,u11,u12,u13,u14,u15,u16,u17,undef,undef,undef,undef,undef,undef,undef,undef],defers := [] })
   (fun a' _ => (zga (a'.tmps.getD 4 undef)).toNat) rfl ?_ ?_
 ·rcases Nat.eq_zero_or_pos a0 with h0 | h0
  ·subst h0
   have hcv := fun W => run_convert_bytes_arg (P := Try.prog) (w.alloc W) 91 5 Try.underlying91 Try.underlying5 w.heap.size 8 1 1 [0] rfl
   go_wp2
   go_step3
   go_wp2
   simp only [Exit.jump]
   go_ret
   exact ⟨by rw [zhe,zfa];rfl,(Below.refl _ _).alloc (Nat.le_refl _) _⟩
  ·go_wp2
   go_step3
   go_wp2
   go_step3
   refine ⟨rfl,a0 / 256,8,1,[(a0 % 256 : Nat)],_,_,_,_,_,_,_,_,_,_,_,_,_,?_,?_,?_,rfl,zgn h0,rfl,rfl⟩
   ·refine ⟨rfl,rfl,fun i hi => ?_⟩
    obtain rfl : i = 0 := by simpa using hi
    rfl
   ·have : (256:Nat) ^ (8 - 1) = 72057594037927936 := by decide
    omega
   ·omega
 ·rintro a' w' ⟨v,p,n,L,cs,u6,u7,u8,u9,u10,u11,u12,u13,u14,u15,u16,u17,hN,hv,hp,hn,hb,rfl,rfl⟩
  obtain ⟨q,rfl⟩ : ∃ q,p = q + 1 := ⟨p - 1,by omega⟩
  have hq : q < 9 := by have := hN.2.1;omega
  have hnq : n + q = 8 := by have := hN.2.1;omega
  have hnn : n ≤ 8 := by omega
  have hvb : v < 18446744073709551616 := by
   have : 256 ^ (q + 1 - 1) ≤ 256 ^ 8 := Nat.pow_le_pow_right (by omega) (by omega)
   have : (256:Nat) ^ 8 = 18446744073709551616 := by decide
   omega
  obtain ⟨v0,hc⟩ := hN.cell q hq
  have HN := za.mk hN
  have HB := za.mk hb
  have HV := za.mk hv
  have HL := za.mk hn
  have HQ := za.mk hnq
  clear hN hb hv hn hnq h1
  rcases Nat.eq_zero_or_pos v with h0 | h0
  ·subst h0
   have hq9 : q ≤ 9 := by omega
   have hsl : ∀ W : World,(Instr.sliceAt 112 (.pointer (some ⟨w.heap.size,0,none⟩)) (some (.int .i64 (q : Int))) none none).run Try.prog W = .ok (.slice (some ⟨w.heap.size,q,none⟩) (9 - q) (9 - q)) W := by
    intro W
    rw [run_sliceAt_array_l W 112 _ (by kernel_rfl) .i64 q (by omega) (by show (q : Int) ≤ 9;omega)]
    have e1 : (sizeOf (Try.prog.elem 112)).run Try.prog W = .ok 1 W := by kernel_rfl
    have e2 : Try.prog.arrayLen 112 = 9 := by kernel_rfl
    rw [e1,e2]
    simp only [Result.andThen,slicedAt,Int.toNat_natCast,Nat.mul_one]
    rw [if_neg (by omega),zbc]
   have hS := HN.out.set n
   have hcv := run_convert_bytes_arg (P := Try.prog) (w.alloc (.cells (cs.setIfInBounds q (.int .u8 (n : Int))) 112)) 91 5 Try.underlying91 Try.underlying5 w.heap.size q (9 - q) (9 - q) ((n : Int) :: L) (by rw [List.length_cons,HL.out];have := HQ.out;omega)
    (fun i hi => by
     have h2 := hS.2.2 i (by have := hS.2.1;omega)
     rw [World.cell?_alloc_new];exact h2) 9 Try.underlying9
   clear hS
   go_wp2
   simp only [Exit.jump]
   go_ret
   exact ⟨by rw [zhe,HB.out,zfa,List.nil_append,HL.out];rfl,(Below.refl _ _).alloc (Nat.le_refl _) _⟩
  ·obtain ⟨q',rfl⟩ : ∃ q',q = q' + 1 := ⟨q - 1,by
    rcases Nat.eq_zero_or_pos q with hz | hz
    ·have := HV.out;subst hz;simp at this;omega
    ·omega⟩
   go_wp2
   go_step3
   refine ⟨rfl,⟨v / 256,q' + 1,n + 1,((v % 256 : Nat) : Int) :: L,_,_,_,_,_,_,_,_,_,_,_,_,_,HN.out.set _,pow_step HV.out,by omega,by rw [List.length_cons,HL.out],?_,rfl,rfl⟩,?_⟩
   ·rw [HB.out,zgn h0];simp
   ·simp [zga];omega
def z4.f (a0 : Int) : Option (ByteArray) := if 0 ≤ a0 then (if a0 < 18446744073709551616 then (some (zbr a0.toNat)) else (none)) else (none)
theorem z4.calls (a0 : Int) (r : ByteArray) (w : World) (h : z4.f a0 = some r) :
  Calls Try.prog 70 #[.int .u64 a0] w fun e w' => e = .returned (.string r) ∧ Below w.heap.size w w' := by
 unfold z4.f at h
 split at h
 ·rename_i h0
  split at h
  ·rename_i h1
   obtain ⟨n,rfl⟩ := Int.eq_ofNat_of_zero_le h0
   obtain rfl := Option.some.inj h
   rw [Int.toNat_natCast]
   exact z4.walk n w (by omega)
  ·cases h
 ·cases h
def zbO.f (a0 : ByteArray) : Option (ByteArray) := if a0.size ≤ 1152921504606846976 then (some (zfL a0)) else (none)
theorem zbO.calls (a0 : ByteArray) (r : ByteArray) (w : World) (h : zbO.f a0 = some r) :
  Calls Try.prog 93 #[.string a0] w fun e w' => e = .returned (.string r) ∧ Below w.heap.size w w' := by
 unfold zbO.f at h
 split at h
 ·rename_i h0
  obtain rfl := Option.some.inj h
  clear h
  have hn : (zbr a0.size).size ≤ 9 := zbP (by omega)
  have hn2 : (zbr a0.size).size + a0.size ≤ 9223372036854775807 := by omega
  have HN := za.mk (show z4.f (a0.size : Int) = some (zbr a0.size) by unfold z4.f;rw [if_pos (by omega),if_pos (by omega),Int.toNat_natCast])
  go_enter Try.func93,Try.ntmps93
  go_wp2_with (go_at_call 70;(with_reducible refine (z4.calls _ _ _ HN.out).mono ?_);rintro e w1 ⟨rfl,hb⟩)
  go_ret
  exact ⟨rfl,by assumption⟩
 ·cases h
theorem zF {α : Type} {c : Prop} [Decidable c] {f g : Nat → Option α} {r : α} (h : c) (e : Ev f r) : Ev (fun k => if c then f k else g k) r := by
 simp only [if_pos h]
 exact e
theorem zU {α : Type} {c : Prop} [Decidable c] {f g : Nat → Option α} {r : α} (h : ¬ c) (e : Ev g r) : Ev (fun k => if c then f k else g k) r := by
 simp only [if_neg h]
 exact e
theorem zah {α : Type} {f : Nat → Option α} {a b : α} (h : Ev f a) (e : a = b) : Ev f b := e ▸ h
theorem za6 {α β : Type} {o : Option α} {f : Nat → α → Option β} {a : α} {r : β} (h : o = some a) (k : Ev (fun n => f n a) r) : Ev (fun n => o.bind (f n)) r := by
 subst h
 exact k
theorem zcm {x : Int} (h0 : 0 ≤ x) (h1 : x < 18446744073709551616) : IntKind.u64.wrap x = x := by
 show x % 18446744073709551616 = x
 omega
theorem zak {x : Int} (h0 : -9223372036854775808 ≤ x) (h1 : x < 9223372036854775808) : wrap64 x = x := by
 unfold wrap64
 omega
theorem zcQ (v : Nat) (hv : v < 18446744073709551616) : z4.f (v : Int) = some (zbr v) := by
 unfold z4.f
 rw [if_pos (by omega),if_pos (by omega),Int.toNat_natCast]
theorem zfe (t : ByteArray) (h : t.size ≤ 1152921504606846976) : zbO.f t = some (zfL t) := by unfold zbO.f;rw [if_pos h]
end Go.Proofs.Ytndjfdakflaggaa.Px