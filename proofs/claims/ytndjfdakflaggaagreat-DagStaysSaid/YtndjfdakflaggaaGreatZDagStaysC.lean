/- Part 3 of 15 of the proof of the law DagStays: what is proved is the statement at the end of the last part; its conditions are those of the given row. -/
import Derived.Test.YtndjfdakflaggaaGreatProg
import Derived.WalkLawsBesides
import Derived.Laws.BitsAllLaws
import Derived.Test.YtndjfdakflaggaaGreatZDagStaysB
namespace Go.Proofs.YtndjfdakflaggaaGreat.Px
open Go.RowKit Go.Proofs.YtndjfdakflaggaaGreatW.PrintWords Go.Proofs.YtndjfdakflaggaaGreatW.PrintLast Go.Proofs.YtndjfdakflaggaaGreatW.PrintMore
attribute [local go_sem] zA zC zH zI zv zw zB zD
set_option linter.unusedVariables false
set_option linter.unusedSimpArgs false
theorem hBq {B_ : Nat} {w_ w_' : World} (h_ : Below B_ w_ w_' := by repeat (first | (with_reducible first | exact HB.out | apply zl | apply zi | apply zp) | exact HB.out)) : Below B_ w_ w_' := h_
theorem hCq {B_ : Nat} {w_ w_' : World} (h_ : Below B_ w_ w_' := by repeat (first | (with_reducible first | exact HB.out | apply zl | apply zi | apply zp | refine zm ?_ (za.out (by with_reducible assumption))) | exact HB.out)) : Below B_ w_ w_' := h_
def errW : Option Int → Value
 | none => .nilIface
 | some c => .iface 0 (.int .i64 c)
theorem zco : errW none = .nilIface := rfl
theorem zcp (c : Int) : errW (some c) = .iface 0 (.int .i64 c) := rfl
theorem info9 : (Tryz.prog.info? 9).map (fun i => (i.zero,i.size,i.bytes)) = some (some (.string ⟨#[]⟩),1,16) := by kernel_rfl
theorem zdL : (Tryz.prog.info? 39).map (fun i => (i.zero,i.size,i.bytes)) = some (some (.agg #[(.string ⟨#[]⟩),(.int .i64 0),(.int .i64 0),(.slice none 0 0),(.slice none 0 0),(.int .i64 0),(.int .i64 0)]),7,96) := by kernel_rfl
structure S75 where
 f0 : Int
 f1 : Int
 f2 : (List ByteArray)
def z75 : S75 := ⟨(0 : Int),(0 : Int),([] : List ByteArray)⟩
def k75 : Kd S75 := Kd.iso (Kd.pair (Kd.int .i64) (Kd.pair (Kd.int .i64) (Kd.slice 9 Kd.string))) (fun x : S75 => (x.f0,x.f1,x.f2))
theorem zd3 : Kd.Heap k75 := Kd.heap_iso _ (Kd.heap_pair (Kd.heap_int .i64) (Kd.heap_pair (Kd.heap_int .i64) (Kd.heap_slice 9 Kd.heap_string)))
theorem k75_open {w : World} {x : S75} {cs : List Value} (h : k75.K w x cs) : ∃ A2 c2,cs = [.int .i64 x.f0,.int .i64 x.f1,.slice A2 x.f2.length c2] ∧ x.f2.length ≤ c2 ∧ Kd.string.C w A2 x.f2.length x.f2 := by
 obtain ⟨_,_,rfl,rfl,⟨_,_,rfl,rfl,⟨A2,c2,rfl,l2,g2⟩⟩⟩ := h
 exact ⟨A2,c2,rfl,l2,g2⟩
def zO (xs : List S75) (i : Int) : S75 := xs.getD i.toNat z75
theorem zcd {w : World} {A : Option Addr} {n : Nat} {xs : List S75} (h : Kd.C k75 w A n xs) (i : Int) (h0 : 0 ≤ i) (h1 : i < n) : ∃ ad A2 c2,A = some ad ∧ w.cell? (ad.add (i.toNat * 3)) = some (.int .i64 (zO xs i).f0) ∧ w.cell? ⟨(ad.add (i.toNat * 3)).block,(ad.add (i.toNat * 3)).off + 1,none⟩ = some (.int .i64 (zO xs i).f1) ∧ w.cell? ⟨(ad.add (i.toNat * 3)).block,(ad.add (i.toNat * 3)).off + 2,none⟩ = some (.slice A2 (zO xs i).f2.length c2) ∧ (zO xs i).f2.length ≤ c2 ∧ Kd.string.C w A2 (zO xs i).f2.length (zO xs i).f2 := by
 obtain ⟨ad,c,e,_,hK,hc0⟩ := Kd.C_get h z75 i h0 h1
 have hc : ∀ j u,c[j]? = some u → w.cell? (ad.add (i.toNat * 3 + j)) = some u := hc0
 obtain ⟨A2,c2,rfl,l2,g2⟩ := k75_open hK
 exact ⟨ad,A2,c2,e,hc 0 _ rfl,by rw [← zM _ _ 1 (by omega)];exact hc 1 _ rfl,by rw [← zM _ _ 2 (by omega)];exact hc 2 _ rfl,l2,g2⟩
structure S33 where
 f0 : Int
 f1 : Int
def z33 : S33 := ⟨(0 : Int),(0 : Int)⟩
def k33 : Kd S33 := Kd.iso (Kd.pair (Kd.int .i64) (Kd.int .i64)) (fun x : S33 => (x.f0,x.f1))
theorem k33_heap : Kd.Heap k33 := Kd.heap_iso _ (Kd.heap_pair (Kd.heap_int .i64) (Kd.heap_int .i64))
theorem k33_open {w : World} {x : S33} {cs : List Value} (h : k33.K w x cs) : cs = [.int .i64 x.f0,.int .i64 x.f1] := by
 obtain ⟨_,_,rfl,rfl,rfl⟩ := h
 exact rfl
theorem k33_mk (w : World) (x : S33)  : k33.K w x [.int .i64 x.f0,.int .i64 x.f1] := ⟨[.int .i64 x.f0],[.int .i64 x.f1],rfl,rfl,rfl⟩
structure S35 where
 f0 : Int
 f1 : Int
 f2 : (List S75)
 f3 : (List ByteArray)
 f4 : S33
def z35 : S35 := ⟨(0 : Int),(0 : Int),([] : List S75),([] : List ByteArray),z33⟩
def k35 : Kd S35 := Kd.iso (Kd.pair (Kd.int .i64) (Kd.pair (Kd.int .i64) (Kd.pair (Kd.slice 75 k75) (Kd.pair (Kd.slice 9 Kd.string) k33)))) (fun x : S35 => (x.f0,x.f1,x.f2,x.f3,x.f4))
theorem k35_heap : Kd.Heap k35 := Kd.heap_iso _ (Kd.heap_pair (Kd.heap_int .i64) (Kd.heap_pair (Kd.heap_int .i64) (Kd.heap_pair (Kd.heap_slice 75 zd3) (Kd.heap_pair (Kd.heap_slice 9 Kd.heap_string) k33_heap))))
theorem zij {w : World} {x : S35} {cs : List Value} (h : k35.K w x cs) : ∃ A2 c2 A3 c3,cs = [.int .i64 x.f0,.int .i64 x.f1,.slice A2 x.f2.length c2,.slice A3 x.f3.length c3,.int .i64 x.f4.f0,.int .i64 x.f4.f1] ∧ x.f2.length ≤ c2 ∧ k75.C w A2 x.f2.length x.f2 ∧ x.f3.length ≤ c3 ∧ Kd.string.C w A3 x.f3.length x.f3 := by
 obtain ⟨_,_,rfl,rfl,⟨_,_,rfl,rfl,⟨_,_,rfl,⟨A2,c2,rfl,l2,g2⟩,⟨_,_,rfl,⟨A3,c3,rfl,l3,g3⟩,s4⟩⟩⟩⟩ := h
 obtain rfl := k33_open s4
 exact ⟨A2,c2,A3,c3,rfl,l2,g2,l3,g3⟩
theorem k35_mk (w : World) (x : S35) {A2 : Option Addr} {c2 : Nat} (l2 : x.f2.length ≤ c2) (g2 : k75.C w A2 x.f2.length x.f2) {A3 : Option Addr} {c3 : Nat} (l3 : x.f3.length ≤ c3) (g3 : Kd.string.C w A3 x.f3.length x.f3) : k35.K w x [.int .i64 x.f0,.int .i64 x.f1,.slice A2 x.f2.length c2,.slice A3 x.f3.length c3,.int .i64 x.f4.f0,.int .i64 x.f4.f1] := ⟨[.int .i64 x.f0],[.int .i64 x.f1,.slice A2 x.f2.length c2,.slice A3 x.f3.length c3,.int .i64 x.f4.f0,.int .i64 x.f4.f1],rfl,rfl,⟨[.int .i64 x.f1],[.slice A2 x.f2.length c2,.slice A3 x.f3.length c3,.int .i64 x.f4.f0,.int .i64 x.f4.f1],rfl,rfl,⟨[.slice A2 x.f2.length c2],[.slice A3 x.f3.length c3,.int .i64 x.f4.f0,.int .i64 x.f4.f1],rfl,⟨A2,c2,rfl,l2,g2⟩,⟨[.slice A3 x.f3.length c3],[.int .i64 x.f4.f0,.int .i64 x.f4.f1],rfl,⟨A3,c3,rfl,l3,g3⟩,(k33_mk w x.f4 )⟩⟩⟩⟩
def zN (xs : List S35) (i : Int) : S35 := xs.getD i.toNat z35
theorem at_T35 {w : World} {A : Option Addr} {n : Nat} {xs : List S35} (h : Kd.C k35 w A n xs) (i : Int) (h0 : 0 ≤ i) (h1 : i < n) : ∃ ad A2 c2 A3 c3,A = some ad ∧ w.cell? (ad.add (i.toNat * 6)) = some (.int .i64 (zN xs i).f0) ∧ w.cell? ⟨(ad.add (i.toNat * 6)).block,(ad.add (i.toNat * 6)).off + 1,none⟩ = some (.int .i64 (zN xs i).f1) ∧ w.cell? ⟨(ad.add (i.toNat * 6)).block,(ad.add (i.toNat * 6)).off + 2,none⟩ = some (.slice A2 (zN xs i).f2.length c2) ∧ w.cell? ⟨(ad.add (i.toNat * 6)).block,(ad.add (i.toNat * 6)).off + 3,none⟩ = some (.slice A3 (zN xs i).f3.length c3) ∧ w.cell? ⟨(ad.add (i.toNat * 6)).block,(ad.add (i.toNat * 6)).off + 4,none⟩ = some (.int .i64 (zN xs i).f4.f0) ∧ w.cell? ⟨(ad.add (i.toNat * 6)).block,(ad.add (i.toNat * 6)).off + 5,none⟩ = some (.int .i64 (zN xs i).f4.f1) ∧ (zN xs i).f2.length ≤ c2 ∧ k75.C w A2 (zN xs i).f2.length (zN xs i).f2 ∧ (zN xs i).f3.length ≤ c3 ∧ Kd.string.C w A3 (zN xs i).f3.length (zN xs i).f3 := by
 obtain ⟨ad,c,e,_,hK,hc0⟩ := Kd.C_get h z35 i h0 h1
 have hc : ∀ j u,c[j]? = some u → w.cell? (ad.add (i.toNat * 6 + j)) = some u := hc0
 obtain ⟨A2,c2,A3,c3,rfl,l2,g2,l3,g3⟩ := zij hK
 exact ⟨ad,A2,c2,A3,c3,e,hc 0 _ rfl,by rw [← zM _ _ 1 (by omega)];exact hc 1 _ rfl,by rw [← zM _ _ 2 (by omega)];exact hc 2 _ rfl,by rw [← zM _ _ 3 (by omega)];exact hc 3 _ rfl,by rw [← zM _ _ 4 (by omega)];exact hc 4 _ rfl,by rw [← zM _ _ 5 (by omega)];exact hc 5 _ rfl,l2,g2,l3,g3⟩
structure S39 where
 f0 : ByteArray
 f1 : S35
def z39 : S39 := ⟨(⟨#[]⟩ : ByteArray),z35⟩
def k39 : Kd S39 := Kd.iso (Kd.pair Kd.string k35) (fun x : S39 => (x.f0,x.f1))
theorem zdx : Kd.Heap k39 := Kd.heap_iso _ (Kd.heap_pair Kd.heap_string k35_heap)
theorem zeY {w : World} {x : S39} {cs : List Value} (h : k39.K w x cs) : ∃ A3 c3 A4 c4,cs = [.string x.f0,.int .i64 x.f1.f0,.int .i64 x.f1.f1,.slice A3 x.f1.f2.length c3,.slice A4 x.f1.f3.length c4,.int .i64 x.f1.f4.f0,.int .i64 x.f1.f4.f1] ∧ x.f1.f2.length ≤ c3 ∧ k75.C w A3 x.f1.f2.length x.f1.f2 ∧ x.f1.f3.length ≤ c4 ∧ Kd.string.C w A4 x.f1.f3.length x.f1.f3 := by
 obtain ⟨_,_,rfl,rfl,s1⟩ := h
 obtain ⟨A3,c3,A4,c4,rfl,l3,g3,l4,g4⟩ := zij s1
 exact ⟨A3,c3,A4,c4,rfl,l3,g3,l4,g4⟩
theorem k39_mk (w : World) (x : S39) {A3 : Option Addr} {c3 : Nat} (l3 : x.f1.f2.length ≤ c3) (g3 : k75.C w A3 x.f1.f2.length x.f1.f2) {A4 : Option Addr} {c4 : Nat} (l4 : x.f1.f3.length ≤ c4) (g4 : Kd.string.C w A4 x.f1.f3.length x.f1.f3) : k39.K w x [.string x.f0,.int .i64 x.f1.f0,.int .i64 x.f1.f1,.slice A3 x.f1.f2.length c3,.slice A4 x.f1.f3.length c4,.int .i64 x.f1.f4.f0,.int .i64 x.f1.f4.f1] := ⟨[.string x.f0],[.int .i64 x.f1.f0,.int .i64 x.f1.f1,.slice A3 x.f1.f2.length c3,.slice A4 x.f1.f3.length c4,.int .i64 x.f1.f4.f0,.int .i64 x.f1.f4.f1],rfl,rfl,(k35_mk w x.f1 l3 g3 l4 g4)⟩
theorem zaN {W : World} {ok : Nat → Prop} {x : S39} {cs : List Value} (h : Kd.FK k39 W ok x cs) : ∃ A3 c3 A4 c4,cs = [.string x.f0,.int .i64 x.f1.f0,.int .i64 x.f1.f1,.slice A3 x.f1.f2.length c3,.slice A4 x.f1.f3.length c4,.int .i64 x.f1.f4.f0,.int .i64 x.f1.f4.f1] ∧ x.f1.f2.length ≤ c3 ∧ Kd.F k75 W ok A3 x.f1.f2.length x.f1.f2 ∧ x.f1.f3.length ≤ c4 ∧ Kd.F Kd.string W ok A4 x.f1.f3.length x.f1.f3 := by
 obtain ⟨A3,c3,A4,c4,rfl,l3,_,l4,_⟩ := zeY (Kd.FK_now h)
 exact ⟨A3,c3,A4,c4,rfl,l3,(fun W' hW => by obtain ⟨A3_,c3_,A4_,c4_,he,l3_,g3_,l4_,g4_⟩ := zeY (h W' hW);injection (Option.some.inj (show some (Value.slice A3 x.f1.f2.length c3) = some (Value.slice A3_ x.f1.f2.length c3_) from congrArg (fun l => l[3]?) he)) with ha_ _ _;rw [ha_];exact g3_),l4,(fun W' hW => by obtain ⟨A3_,c3_,A4_,c4_,he,l3_,g3_,l4_,g4_⟩ := zeY (h W' hW);injection (Option.some.inj (show some (Value.slice A4 x.f1.f3.length c4) = some (Value.slice A4_ x.f1.f3.length c4_) from congrArg (fun l => l[4]?) he)) with ha_ _ _;rw [ha_];exact g4_)⟩
theorem zhy (W : World) (ok : Nat → Prop) (x : S39) {A3 : Option Addr} {c3 : Nat} (l3 : x.f1.f2.length ≤ c3) (g3 : Kd.F k75 W ok A3 x.f1.f2.length x.f1.f2) {A4 : Option Addr} {c4 : Nat} (l4 : x.f1.f3.length ≤ c4) (g4 : Kd.F Kd.string W ok A4 x.f1.f3.length x.f1.f3) : Kd.FK k39 W ok x [.string x.f0,.int .i64 x.f1.f0,.int .i64 x.f1.f1,.slice A3 x.f1.f2.length c3,.slice A4 x.f1.f3.length c4,.int .i64 x.f1.f4.f0,.int .i64 x.f1.f4.f1] := fun W2 hW => k39_mk W2 x l3 (g3 W2 hW) l4 (g4 W2 hW)
def zd (xs : List S39) (i : Int) : S39 := xs.getD i.toNat z39
theorem zbe {w : World} {A : Option Addr} {n : Nat} {xs : List S39} (h : Kd.C k39 w A n xs) (i : Int) (h0 : 0 ≤ i) (h1 : i < n) : ∃ ad A3 c3 A4 c4,A = some ad ∧ w.cell? (ad.add (i.toNat * 7)) = some (.string (zd xs i).f0) ∧ w.cell? ⟨(ad.add (i.toNat * 7)).block,(ad.add (i.toNat * 7)).off + 1,none⟩ = some (.int .i64 (zd xs i).f1.f0) ∧ w.cell? ⟨(ad.add (i.toNat * 7)).block,(ad.add (i.toNat * 7)).off + 2,none⟩ = some (.int .i64 (zd xs i).f1.f1) ∧ w.cell? ⟨(ad.add (i.toNat * 7)).block,(ad.add (i.toNat * 7)).off + 3,none⟩ = some (.slice A3 (zd xs i).f1.f2.length c3) ∧ w.cell? ⟨(ad.add (i.toNat * 7)).block,(ad.add (i.toNat * 7)).off + 4,none⟩ = some (.slice A4 (zd xs i).f1.f3.length c4) ∧ w.cell? ⟨(ad.add (i.toNat * 7)).block,(ad.add (i.toNat * 7)).off + 5,none⟩ = some (.int .i64 (zd xs i).f1.f4.f0) ∧ w.cell? ⟨(ad.add (i.toNat * 7)).block,(ad.add (i.toNat * 7)).off + 6,none⟩ = some (.int .i64 (zd xs i).f1.f4.f1) ∧ (zd xs i).f1.f2.length ≤ c3 ∧ k75.C w A3 (zd xs i).f1.f2.length (zd xs i).f1.f2 ∧ (zd xs i).f1.f3.length ≤ c4 ∧ Kd.string.C w A4 (zd xs i).f1.f3.length (zd xs i).f1.f3 := by
 obtain ⟨ad,c,e,_,hK,hc0⟩ := Kd.C_get h z39 i h0 h1
 have hc : ∀ j u,c[j]? = some u → w.cell? (ad.add (i.toNat * 7 + j)) = some u := hc0
 obtain ⟨A3,c3,A4,c4,rfl,l3,g3,l4,g4⟩ := zeY hK
 exact ⟨ad,A3,c3,A4,c4,e,hc 0 _ rfl,by rw [← zM _ _ 1 (by omega)];exact hc 1 _ rfl,by rw [← zM _ _ 2 (by omega)];exact hc 2 _ rfl,by rw [← zM _ _ 3 (by omega)];exact hc 3 _ rfl,by rw [← zM _ _ 4 (by omega)];exact hc 4 _ rfl,by rw [← zM _ _ 5 (by omega)];exact hc 5 _ rfl,by rw [← zM _ _ 6 (by omega)];exact hc 6 _ rfl,l3,g3,l4,g4⟩
structure S26 where
 f0 : Int
 f1 : Int
 f2 : (List S39)
theorem hcq1 {w : World} {g : Nat} {t : TypeId} {a0 : Value} (h : w.heap[g]? = some (.cells #[a0] t (0,0))) : w.cell? ⟨g,0,none⟩ = some a0 ∧ w.frozen? ⟨g,0,none⟩ = false := ⟨(zb h 0).trans rfl,zc h 0⟩
theorem hcq2 {w : World} {g : Nat} {t : TypeId} {a0 a1 : Value} (h : w.heap[g]? = some (.cells #[a0,a1] t (0,0))) : w.cell? ⟨g,0,none⟩ = some a0 ∧ w.cell? ⟨g,1,none⟩ = some a1 ∧ w.frozen? ⟨g,0,none⟩ = false ∧ w.frozen? ⟨g,1,none⟩ = false := ⟨(zb h 0).trans rfl,(zb h 1).trans rfl,zc h 0,zc h 1⟩
theorem hcq3 {w : World} {g : Nat} {t : TypeId} {a0 a1 a2 : Value} (h : w.heap[g]? = some (.cells #[a0,a1,a2] t (0,0))) : w.cell? ⟨g,0,none⟩ = some a0 ∧ w.cell? ⟨g,1,none⟩ = some a1 ∧ w.cell? ⟨g,2,none⟩ = some a2 ∧ w.frozen? ⟨g,0,none⟩ = false ∧ w.frozen? ⟨g,1,none⟩ = false ∧ w.frozen? ⟨g,2,none⟩ = false := ⟨(zb h 0).trans rfl,(zb h 1).trans rfl,(zb h 2).trans rfl,zc h 0,zc h 1,zc h 2⟩
theorem hcq3n {w : World} {g : Nat} {t : TypeId} {a0 a1 a2 : Value} (h : w.heap[g]? = some (.cells #[a0,a1,a2] t (0,0))) : w.cell? ⟨g,0,none⟩ = some a0 ∧ w.cell? ⟨g,1,none⟩ = some a1 ∧ w.cell? ⟨g,2,none⟩ = some a2 := ⟨(zb h 0).trans rfl,(zb h 1).trans rfl,(zb h 2).trans rfl⟩
theorem hcq6 {w : World} {g : Nat} {t : TypeId} {a0 a1 a2 a3 a4 a5 : Value} (h : w.heap[g]? = some (.cells #[a0,a1,a2,a3,a4,a5] t (0,0))) : w.cell? ⟨g,0,none⟩ = some a0 ∧ w.cell? ⟨g,1,none⟩ = some a1 ∧ w.cell? ⟨g,2,none⟩ = some a2 ∧ w.cell? ⟨g,3,none⟩ = some a3 ∧ w.cell? ⟨g,4,none⟩ = some a4 ∧ w.cell? ⟨g,5,none⟩ = some a5 ∧ w.frozen? ⟨g,0,none⟩ = false ∧ w.frozen? ⟨g,1,none⟩ = false ∧ w.frozen? ⟨g,2,none⟩ = false ∧ w.frozen? ⟨g,3,none⟩ = false ∧ w.frozen? ⟨g,4,none⟩ = false ∧ w.frozen? ⟨g,5,none⟩ = false := ⟨(zb h 0).trans rfl,(zb h 1).trans rfl,(zb h 2).trans rfl,(zb h 3).trans rfl,(zb h 4).trans rfl,(zb h 5).trans rfl,zc h 0,zc h 1,zc h 2,zc h 3,zc h 4,zc h 5⟩
theorem hcq7 {w : World} {g : Nat} {t : TypeId} {a0 a1 a2 a3 a4 a5 a6 : Value} (h : w.heap[g]? = some (.cells #[a0,a1,a2,a3,a4,a5,a6] t (0,0))) : w.cell? ⟨g,0,none⟩ = some a0 ∧ w.cell? ⟨g,1,none⟩ = some a1 ∧ w.cell? ⟨g,2,none⟩ = some a2 ∧ w.cell? ⟨g,3,none⟩ = some a3 ∧ w.cell? ⟨g,4,none⟩ = some a4 ∧ w.cell? ⟨g,5,none⟩ = some a5 ∧ w.cell? ⟨g,6,none⟩ = some a6 ∧ w.frozen? ⟨g,0,none⟩ = false ∧ w.frozen? ⟨g,1,none⟩ = false ∧ w.frozen? ⟨g,2,none⟩ = false ∧ w.frozen? ⟨g,3,none⟩ = false ∧ w.frozen? ⟨g,4,none⟩ = false ∧ w.frozen? ⟨g,5,none⟩ = false ∧ w.frozen? ⟨g,6,none⟩ = false := ⟨(zb h 0).trans rfl,(zb h 1).trans rfl,(zb h 2).trans rfl,(zb h 3).trans rfl,(zb h 4).trans rfl,(zb h 5).trans rfl,(zb h 6).trans rfl,zc h 0,zc h 1,zc h 2,zc h 3,zc h 4,zc h 5,zc h 6⟩
theorem hGq {A_ B_ : Prop} (x_ : A_) (h_ : A_ → B_ := by intro x_;(with_reducible repeat (first | refine zai ?_ _ | refine zaf ?_ | refine zf ?_ _));exact x_) : B_ := h_ x_
theorem hDq {B_ : Prop} (h_ : B_ := by first | rfl | (simp;done) | (simp [*];done)) : B_ := h_
theorem hEq {B_ : Prop} (h_ : B_ := by repeat (first | exact zaZ.refl _ | apply zaZ.step)) : B_ := h_
theorem hHq {B_ : Prop} (h_ : B_ := by first | rfl | (simp [zco,zcp] <;> rfl) | (simp [*,zco,zcp] <;> rfl)) : B_ := h_
theorem hFq {p_ : Prop} [Decidable p_] (h_ : decide p_ = true := by first | (with_reducible assumption) | assumption) : p_ := of_decide_eq_true h_
theorem hRq {A_ B_ : Prop} (x_ : A_) (h_ : A_ → B_ := by intro x_;(with_reducible repeat (first | apply Kd.R_alloc | apply Kd.R_drewN | apply Kd.R_drew));exact x_) : B_ := h_ x_
theorem hSq {A_ B_ : Prop} (x_ : A_) (h_ : A_ → B_ := by intro x_;(with_reducible repeat (first | apply Kd.S_alloc | apply Kd.S_drewN | apply Kd.S_drew));exact x_) : B_ := h_ x_
theorem hbq {w0 w w1 : World} {g : Nat} {o : Obj} (x_ : w0.heap[g]? = some o) (hb_ : Below w.heap.size w w1) (h_ : w0.heap[g]? = some o → w.heap[g]? = some o := by intro x_;(with_reducible repeat (first | refine zai ?_ _ | refine zaf ?_ | refine zf ?_ _));exact x_) : w1.heap[g]? = some o := zo (h_ x_) hb_
theorem hnq {w0 w : World} {g q : Nat} {o : Obj} (hg_ : q = w.heap.size) (x_ : w0.heap[g]? = some o) (h_ : w0.heap[g]? = some o → w.heap[g]? = some o := by intro x_;(with_reducible repeat (first | refine zai ?_ _ | refine zaf ?_ | refine zf ?_ _));exact x_) : g ≠ q := by rw [hg_];exact Nat.ne_of_lt (zav (h_ x_))
theorem hmq {w0 w : World} {g q : Nat} {o : Obj} (hg_ : q = w.heap.size) (x_ : w0.heap[g]? = some o) (h_ : w0.heap[g]? = some o → w.heap[g]? = some o := by intro x_;(with_reducible repeat (first | refine zai ?_ _ | refine zaf ?_ | refine zf ?_ _));exact x_) : q ≠ g := by rw [hg_];exact Nat.ne_of_gt (zav (h_ x_))
theorem hfq {w1 W W' : World} {g q : Nat} {o : Obj} (hw_ : W' = W) (n_ : g ≠ q) (x_ : w1.heap[g]? = some o) (h_ : g ≠ q → w1.heap[g]? = some o → W.heap[g]? = some o := by intro n_ x_;(repeat (first | (with_reducible exact x_) | (with_reducible refine zai ?_ _) | (with_reducible refine zaf ?_) | (with_reducible refine zf ?_ _) | refine zbw ?_ n_ _))) : W'.heap[g]? = some o := by rw [hw_];exact h_ n_ x_
theorem hKq {A_ B_ : Prop} (x_ : A_) (h_ : A_ → B_ := by intro x_;repeat (first | exact x_ | (with_reducible refine Kd.C_alloc ?_ _) | (with_reducible refine Kd.C_drewN ?_ _) | (with_reducible refine Kd.C_drew ?_))) : B_ := h_ x_
theorem hMq {B_ : Prop} (h_ : B_ := by (try simp only [List.map_toArray,List.map_cons,List.map_nil]);first | done | rfl | (simp only [List.length_drop,List.length_take];rfl)) : B_ := h_
theorem hPq {a_ b_ : Act} (h_ : a_ = b_ := by simp only [Act.put,List.setIfInBounds_toArray,List.set_cons_zero,List.set_cons_succ,zam,zap];rfl) : a_ = b_ := h_
theorem puq {P : Program} {md : Region.Mode} {ops : Array Oper} {Q : Exit → Act → World → Prop} {S : World → Prop} {ds : List Nat} {T : Bool × List (List Nat × List Nat)} {i : Nat} {N : Option Tmp} {oi : Oper} {v : Value} {fuel : Nat} {l : Array Bool} {a a' : Act} {w : World} (hT_ : zb5 md ops = T) (l' : Array Bool) (h_ : z8 P md ops Q S ds fuel l' a' w) (hi_ : ops[i]? = some oi := by rfl) (hN_ : oi.dst = N := by rfl) (hc_ : anyT T l.toList l'.toList i = true := by kernel_rfl) (hQ_ : ∀ c a w,Q (.panic c) (a.put oi.dst v) w → Q (.panic c) a w := by exact fun _ _ _ h => h) (hw_ : Region.wanted oi (yielded ops a.tmps) = true := by rfl) (hy_ : ∀ w',(execOp a.eval oi).run P w' = .ok (.value v) w' := by intro w';go_simp;with_reducible rfl) (ha_ : a.put N v = a' := by simp only [Act.put,List.setIfInBounds_toArray,List.set_cons_zero,List.set_cons_succ,zam,zap];rfl) : z8 P md ops Q S ds (fuel + 1) l a w := zdF l' hi_ hN_ (zcH hT_ hc_) hQ_ (Or.inl ⟨hw_,hy_⟩) ha_ h_
theorem hrq {A_ : Prop} (h_ : A_ := by first | (go_simp;done) | (go_simp;rfl)) : A_ := h_
def uQ (n k : Nat) : Array Bool := (List.replicate k true ++ List.replicate (n - k) false).toArray
theorem haq {A_ B_ : Prop} (a_ : A_) (b_ : B_) : za A_ ∧ B_ := ⟨⟨a_⟩,b_⟩
theorem hVq {W_ : World} {a_ : Addr} {v_ : Value} {g_ : Nat} {B_ : Prop} (x_ : W_.cell? a_ = some v_) (G_ : W_.heap.size ≤ g_) (h_ : a_.block < W_.heap.size → W_.heap.size ≤ g_ → B_ := by intro t_ G_;first | exact Nat.ne_of_lt (Nat.lt_of_lt_of_le (by have := t_;first | rwa [zb7] at this | exact this) G_) | (rw [zb7];exact Nat.ne_of_lt (Nat.lt_of_lt_of_le (by have := t_;first | rwa [zb7] at this | exact this) G_)) | (show (Addr.add _ _).block ≠ _;rw [zb7];exact Nat.ne_of_lt (Nat.lt_of_lt_of_le (by have := t_;first | rwa [zb7] at this | exact this) G_)) | (dsimp only;exact Nat.ne_of_lt (Nat.lt_of_lt_of_le (by have := t_;first | rwa [zb7] at this | exact this) G_))) : B_ := h_ (World.block_lt_of_cell? _ _ x_) G_
theorem hxq0p {A_ B_ : Prop} (x_ : A_) (h_ : A_ → B_ := by intro  x_;(repeat (first | (with_reducible exact x_) | (with_reducible refine zai ?_ _) | (with_reducible refine zaf ?_) | (with_reducible refine zf ?_ _) | apply zbt));all_goals first | (with_reducible rfl) | (simp only [List.setIfInBounds_toArray,List.set_cons_zero,List.set_cons_succ];done) | rfl) : B_ := h_ x_
theorem hxq1 {A_ B_ : Prop} {P0_ : Prop} (n0_ : P0_) (x_ : A_) (h_ : P0_ → A_ → B_ := by intro n0_ x_;(repeat (first | (with_reducible exact x_) | (with_reducible refine zai ?_ _) | (with_reducible refine zaf ?_) | (with_reducible refine zf ?_ _) | refine zbw ?_ n0_ _))) : B_ := h_ n0_ x_
theorem hxq1p {A_ B_ : Prop} {P0_ : Prop} (n0_ : P0_) (x_ : A_) (h_ : P0_ → A_ → B_ := by intro n0_ x_;(repeat (first | (with_reducible exact x_) | (with_reducible refine zai ?_ _) | (with_reducible refine zaf ?_) | (with_reducible refine zf ?_ _) | apply zbw (hp := n0_) | apply zbt));all_goals first | (with_reducible rfl) | (simp only [List.setIfInBounds_toArray,List.set_cons_zero,List.set_cons_succ];done) | rfl) : B_ := h_ n0_ x_
def zcT {α : Type} (p : α → Bool) (l : List α) : Int := match l.findIdx? p with | some i => (i : Int) | none => -1
theorem zcU {α : Type} {p : α → Bool} {l : List α} {k : Nat} {x : α} (hx : l[k]? = some x) (hp : p x = true) (hn : ∀ (j : Nat) (y : α),j < k → l[j]? = some y → p y = false) : zcT p l = k := by
 have hk := (List.getElem?_eq_some_iff.1 hx).1
 have h : l.findIdx? p = some k := by
  rw [List.findIdx?_eq_some_iff_getElem]
  refine ⟨hk,?_,fun j hj => ?_⟩
  ·rw [(List.getElem?_eq_some_iff.1 hx).2];exact hp
  ·have := hn j l[j] hj (List.getElem?_eq_getElem _)
   simp [this]
 rw [zcT,h]
theorem zcJ {α : Type} {p : α → Bool} {l : List α} (hn : ∀ (j : Nat) (y : α),l[j]? = some y → p y = false) : zcT p l = -1 := by
 have h : l.findIdx? p = none := by
  rw [List.findIdx?_eq_none_iff]
  intro x hx
  obtain ⟨j,hj⟩ := List.mem_iff_getElem?.1 hx
  exact hn j x hj
 rw [zcT,h]
theorem zii {α : Type} (p : α → Bool) (l : List α) : decide (0 ≤ zcT p l) = l.any p := by
 rw [zcT]
 rcases h : l.findIdx? p with _ | i
 ·rw [List.findIdx?_eq_none_iff] at h
  simp
  intro x hx
  simpa using h x hx
 ·rw [List.findIdx?_eq_some_iff_getElem] at h
  obtain ⟨hi,hp,_⟩ := h
  simp
  exact ⟨_,List.getElem_mem hi,hp⟩
theorem may_ret {a b : Bool} (h : a = b) : Ending.returned (.bool a) = .returned (.bool b) := by rw [h]
def zb8.f (a0_0 : Int) (a0_1 : Int) : Option (Bool) := if a0_0 ≥ 0 then (if a0_0 < 10007 then (if a0_1 ≥ 0 then (some (decide (a0_1 < 10007))) else (some false)) else (some false)) else (some false)
set_option maxHeartbeats 8000000 in
set_option maxRecDepth 100000 in
theorem zb8.calls (a0_0 : Int) (a0_1 : Int) (r : Bool) (w : World) (h : zb8.f a0_0 a0_1 = some r) :
  Calls Tryz.prog 68 #[.agg #[.int .i64 a0_0,.int .i64 a0_1]] w fun e w' => e = .returned (.bool r) ∧ Below w.heap.size w w' := by
 have hu33 := Tryz.underlying33
 have HB := za.mk (Below.refl w.heap.size w)
 have H : (if a0_0 ≥ 0 then (if a0_0 < 10007 then (if a0_1 ≥ 0 then (some (decide (a0_1 < 10007))) else (some false)) else (some false)) else (some false)) = some r := h
 clear h
 by_cases c2 : a0_0 ≥ 0
 ·rw [if_pos c2] at H
  have c2b0 : decide (0 ≤ a0_0) = true := decide_eq_true c2
  clear c2
  by_cases c3 : a0_0 < 10007
  ·rw [if_pos c3] at H
   have c3b0 : decide (a0_0 < 10007) = true := decide_eq_true c3
   clear c3
   by_cases c4 : a0_1 ≥ 0
   ·rw [if_pos c4] at H
    have c4b0 : decide (0 ≤ a0_1) = true := decide_eq_true c4
    clear c4
    obtain rfl := Option.some.inj H
    go_enter Tryz.func68,Tryz.ntmps68
    go_wp2_with (first | ((with_reducible refine zq (N := 1) rfl ?_);refine zn rfl (N := 1) rfl (cs := #[.int .i64 a0_0,.int .i64 a0_1]) (t := 33) hrq ?_;intro ya hg w5 hbox hb;have n_ := haq (ze hBq hb) <| haq (hbox) <| haq ((by rw [hg];exact (zh hBq) : w.heap.size ≤ ya)) <| haq ((by rw [hg];exact (zh hBq) : w.heap.size ≤ ya)) <| trivial;clear HB;obtain ⟨HB,yb,yd,yc,_⟩ := n_;clear hb hbox hg;obtain ⟨hcz6_0,hcz6_1,hfz6_0,hfz6_1⟩ := hcq2 yb.out))
    go_ret
    exact ⟨hHq,hCq⟩
   ·rw [if_neg c4] at H
    have c4b0 : decide (0 ≤ a0_1) = false := decide_eq_false c4
    clear c4
    obtain rfl := Option.some.inj H
    go_enter Tryz.func68,Tryz.ntmps68
    go_wp2_with (first | ((with_reducible refine zq (N := 1) rfl ?_);refine zn rfl (N := 1) rfl (cs := #[.int .i64 a0_0,.int .i64 a0_1]) (t := 33) hrq ?_;intro ya hg w7 hbox hb;have n_ := haq (ze hBq hb) <| haq (hbox) <| haq ((by rw [hg];exact (zh hBq) : w.heap.size ≤ ya)) <| haq ((by rw [hg];exact (zh hBq) : w.heap.size ≤ ya)) <| trivial;clear HB;obtain ⟨HB,yb,yd,yc,_⟩ := n_;clear hb hbox hg;obtain ⟨hcz8_0,hcz8_1,hfz8_0,hfz8_1⟩ := hcq2 yb.out))
    go_ret
    exact ⟨hHq,hCq⟩
  ·rw [if_neg c3] at H
   have c3b0 : decide (a0_0 < 10007) = false := decide_eq_false c3
   clear c3
   obtain rfl := Option.some.inj H
   go_enter Tryz.func68,Tryz.ntmps68
   go_wp2_with (first | ((with_reducible refine zq (N := 1) rfl ?_);refine zn rfl (N := 1) rfl (cs := #[.int .i64 a0_0,.int .i64 a0_1]) (t := 33) hrq ?_;intro ya hg w9 hbox hb;have n_ := haq (ze hBq hb) <| haq (hbox) <| haq ((by rw [hg];exact (zh hBq) : w.heap.size ≤ ya)) <| haq ((by rw [hg];exact (zh hBq) : w.heap.size ≤ ya)) <| trivial;clear HB;obtain ⟨HB,yb,yd,yc,_⟩ := n_;clear hb hbox hg;obtain ⟨hcz10_0,hcz10_1,hfz10_0,hfz10_1⟩ := hcq2 yb.out))
   go_ret
   exact ⟨hHq,hCq⟩
 ·rw [if_neg c2] at H
  have c2b0 : decide (0 ≤ a0_0) = false := decide_eq_false c2
  clear c2
  obtain rfl := Option.some.inj H
  go_enter Tryz.func68,Tryz.ntmps68
  go_wp2_with (first | ((with_reducible refine zq (N := 1) rfl ?_);refine zn rfl (N := 1) rfl (cs := #[.int .i64 a0_0,.int .i64 a0_1]) (t := 33) hrq ?_;intro ya hg w11 hbox hb;have n_ := haq (ze hBq hb) <| haq (hbox) <| haq ((by rw [hg];exact (zh hBq) : w.heap.size ≤ ya)) <| haq ((by rw [hg];exact (zh hBq) : w.heap.size ≤ ya)) <| trivial;clear HB;obtain ⟨HB,yb,yd,yc,_⟩ := n_;clear hb hbox hg;obtain ⟨hcz12_0,hcz12_1,hfz12_0,hfz12_1⟩ := hcq2 yb.out))
  go_ret
  exact ⟨hHq,hCq⟩
def zaq.f (a0 : Int) : Option (Bool) := if a0 ≥ 4 then (if a0 ≤ 64 then (some ((Int.tmod a0 3) == 1)) else (some false)) else (some false)
set_option maxHeartbeats 8000000 in
set_option maxRecDepth 100000 in
theorem zaq.calls (a0 : Int) (r : Bool) (w : World) (h : zaq.f a0 = some r) :
  Calls Tryz.prog 28 #[.int .i64 a0] w fun e w' => e = .returned (.bool r) ∧ zaZ w w' := by
 have H : (if a0 ≥ 4 then (if a0 ≤ 64 then (some ((Int.tmod a0 3) == 1)) else (some false)) else (some false)) = some r := h
 clear h
 by_cases c2 : a0 ≥ 4
 ·rw [if_pos c2] at H
  have c2b0 : decide (4 ≤ a0) = true := decide_eq_true c2
  clear c2
  by_cases c3 : a0 ≤ 64
  ·rw [if_pos c3] at H
   have c3b0 : decide (a0 ≤ 64) = true := decide_eq_true c3
   clear c3
   obtain rfl := Option.some.inj H
   go_enter Tryz.func28,Tryz.ntmps28
   go_wp2
   go_ret
   exact ⟨hDq,hEq⟩
  ·rw [if_neg c3] at H
   have c3b0 : decide (a0 ≤ 64) = false := decide_eq_false c3
   clear c3
   obtain rfl := Option.some.inj H
   go_enter Tryz.func28,Tryz.ntmps28
   go_wp2
   go_ret
   exact ⟨hDq,hEq⟩
 ·rw [if_neg c2] at H
  have c2b0 : decide (4 ≤ a0) = false := decide_eq_false c2
  clear c2
  obtain rfl := Option.some.inj H
  go_enter Tryz.func28,Tryz.ntmps28
  go_wp2
  go_ret
  exact ⟨hDq,hEq⟩
def zbB.f (a0 : Int) : Option (Int) := (zaq.f a0).bind fun ya => (if ya = true then (some (wrap64 (Int.tdiv (wrap64 (a0 - 1)) 3))) else (some 0))
set_option maxHeartbeats 8000000 in
set_option maxRecDepth 100000 in
theorem zbB.calls (a0 : Int) (r : Int) (w : World) (h : zbB.f a0 = some r) :
  Calls Tryz.prog 97 #[.int .i64 a0] w fun e w' => e = .returned (.int .i64 r) ∧ zaZ w w' := by
 have H : ((zaq.f a0).bind fun ya => (if ya = true then (some (wrap64 (Int.tdiv (wrap64 (a0 - 1)) 3))) else (some 0))) = some r := h
 clear h
 replace H := Option.bind_eq_some_iff.mp H
 obtain ⟨ya,A20,H⟩ := H
 replace H : (if ya = true then (some (wrap64 (Int.tdiv (wrap64 (a0 - 1)) 3))) else (some 0)) = some r := H
 have A2 := za.mk A20
 clear A20
 by_cases c3 : ya = true
 ·subst c3
  have H1 : (some (wrap64 (Int.tdiv (wrap64 (a0 - 1)) 3))) = some r := by rw [if_pos rfl] at H;exact H
  clear H
  have H := H1
  clear H1
  obtain rfl := Option.some.inj H
  go_enter Tryz.func97,Tryz.ntmps97
  go_wp2_with (first | ((with_reducible refine zQ (f := 28) rfl ?_);refine zaB (some 4) rfl rfl Tryz.func28 (by kernel_rfl) rfl #[.int .i64 a0] rfl hMq ?_;(with_reducible refine (zaq.calls a0 true _ A2.out).mono ?_);rintro e w' ⟨rfl,⟨nd,rfl⟩⟩;refine ⟨_,rfl,?_⟩))
  go_ret
  exact ⟨hDq,hEq⟩
 ·replace c3 := Bool.eq_false_iff.mpr c3
  subst c3
  have H1 : (some 0) = some r := by rw [if_neg (show ¬ (false = true) by decide)] at H;exact H
  clear H
  have H := H1
  clear H1
  obtain rfl := Option.some.inj H
  go_enter Tryz.func97,Tryz.ntmps97
  go_wp2_with (first | ((with_reducible refine zQ (f := 28) rfl ?_);refine zaB (some 4) rfl rfl Tryz.func28 (by kernel_rfl) rfl #[.int .i64 a0] rfl hMq ?_;(with_reducible refine (zaq.calls a0 false _ A2.out).mono ?_);rintro e w' ⟨rfl,⟨nd,rfl⟩⟩;refine ⟨_,rfl,?_⟩))
  go_ret
  exact ⟨hDq,hEq⟩
def zbP.f (a0 : Int) : Option (Int) := (zaq.f a0).bind fun yb => (if yb = true then ((zbB.f a0).bind fun ya => (some (wrap64 (a0 - ya)))) else (some 0))
set_option maxHeartbeats 8000000 in
set_option maxRecDepth 100000 in
theorem zbP.calls (a0 : Int) (r : Int) (w : World) (h : zbP.f a0 = some r) :
  Calls Tryz.prog 89 #[.int .i64 a0] w fun e w' => e = .returned (.int .i64 r) ∧ zaZ w w' := by
 have H : ((zaq.f a0).bind fun yb => (if yb = true then ((zbB.f a0).bind fun ya => (some (wrap64 (a0 - ya)))) else (some 0))) = some r := h
 clear h
 replace H := Option.bind_eq_some_iff.mp H
 obtain ⟨yb,A20,H⟩ := H
 replace H : (if yb = true then ((zbB.f a0).bind fun ya => (some (wrap64 (a0 - ya)))) else (some 0)) = some r := H
 have A2 := za.mk A20
 clear A20
 by_cases c3 : yb = true
 ·subst c3
  have H1 : ((zbB.f a0).bind fun ya => (some (wrap64 (a0 - ya)))) = some r := by rw [if_pos rfl] at H;exact H
  clear H
  have H := H1
  clear H1
  replace H := Option.bind_eq_some_iff.mp H
  obtain ⟨ya,A40,H⟩ := H
  replace H : (some (wrap64 (a0 - ya))) = some r := H
  have A4 := za.mk A40
  clear A40
  obtain rfl := Option.some.inj H
  go_enter Tryz.func89,Tryz.ntmps89
  go_wp2_with (first | ((with_reducible refine zQ (f := 28) rfl ?_);refine zaB (some 4) rfl rfl Tryz.func28 (by kernel_rfl) rfl #[.int .i64 a0] rfl hMq ?_;(with_reducible refine (zaq.calls a0 true _ A2.out).mono ?_);rintro e w' ⟨rfl,⟨nd,rfl⟩⟩;refine ⟨_,rfl,?_⟩) | ((with_reducible refine zQ (f := 97) rfl ?_);refine zaB (some 8) rfl rfl Tryz.func97 (by kernel_rfl) rfl #[.int .i64 a0] rfl hMq ?_;(with_reducible refine (zbB.calls a0 ya _ A4.out).mono ?_);rintro e w' ⟨rfl,⟨nd,rfl⟩⟩;refine ⟨_,rfl,?_⟩))
  go_ret
  exact ⟨hDq,hEq⟩
 ·replace c3 := Bool.eq_false_iff.mpr c3
  subst c3
  have H1 : (some 0) = some r := by rw [if_neg (show ¬ (false = true) by decide)] at H;exact H
  clear H
  have H := H1
  clear H1
  obtain rfl := Option.some.inj H
  go_enter Tryz.func89,Tryz.ntmps89
  go_wp2_with (first | ((with_reducible refine zQ (f := 28) rfl ?_);refine zaB (some 4) rfl rfl Tryz.func28 (by kernel_rfl) rfl #[.int .i64 a0] rfl hMq ?_;(with_reducible refine (zaq.calls a0 false _ A2.out).mono ?_);rintro e w' ⟨rfl,⟨nd,rfl⟩⟩;refine ⟨_,rfl,?_⟩))
  go_ret
  exact ⟨hDq,hEq⟩
def zaj.l0 : Nat → List ByteArray → Int → List ByteArray → Int → Int → Option (Bool)
 | 0,_,_,_,_,_ => none
 | k + 1,x0,x2,x14,x15,x16 => if x16 < x15 then (if 0 ≤ x16 then (if x16 < (x14.length : Int) then (if ((zz ByteArray.empty x14 x16).size : Int) = 32 then (if x16 > 0 then (if 0 ≤ (wrap64 (x16 - 1)) then (if (wrap64 (x16 - 1)) < (x0.length : Int) then (if ((Op.bytesLess ((zz ByteArray.empty x0 (wrap64 (x16 - 1))).toList) ((zz ByteArray.empty x14 x16).toList)) = true) then (zaj.l0 k x0 x2 x14 x15 (wrap64 (x16 + 1))) else (some false)) else (none)) else (none)) else (zaj.l0 k x0 x2 x14 x15 (wrap64 (x16 + 1)))) else (some false)) else (none)) else (none)) else ((zbP.f x2).bind fun ye => (if (x0.length : Int) ≥ ye then (some (decide ((x0.length : Int) ≤ x2))) else (some false)))
def zaj.f (k : Nat) (l0 : List ByteArray) (a1 : Int) (a2 : Int) : Option (Bool) := if a1 = 1 then (some ((l0.length : Int) == 0)) else (zaj.l0 k l0 a2 l0 (l0.length : Int) 0)
set_option maxHeartbeats 8000000 in
set_option maxRecDepth 100000 in
theorem zaj.calls (k : Nat) (A0 : Option Addr) (c0 : Nat) (l0 : List ByteArray) (a1 : Int) (a2 : Int) (r : Bool) (w : World) (hr0 : Kd.C Kd.string w A0 l0.length l0) (hc0 : l0.length ≤ c0) (h : zaj.f k l0 a1 a2 = some r) :
  Calls Tryz.prog 70 #[.slice A0 l0.length c0,.int .i64 a1,.int .i64 a2] w fun e w' => e = .returned (.bool r) ∧ zaZ w w' := by
 have HR0 := za.mk hr0
 have HC0 := za.mk hc0
 clear hr0 hc0
 have H : (if a1 = 1 then (some ((l0.length : Int) == 0)) else (zaj.l0 k l0 a2 l0 (l0.length : Int) 0)) = some r := h
 clear h
 by_cases c4 : a1 = 1
 ·rw [if_pos c4] at H
  have c4b0 : (a1 == 1) = true := beq_iff_eq.mpr c4
  have c4b1 : (a1 != 1) = false := bne_eq_false_iff_eq.mpr c4
  clear c4
  obtain rfl := Option.some.inj H
  go_enter Tryz.func70,Tryz.ntmps70
  go_wp2
  go_ret
  exact ⟨hDq,hEq⟩
 ·rw [if_neg c4] at H
  have c4b0 : (a1 == 1) = false := beq_eq_false_iff_ne.mpr c4
  have c4b1 : (a1 != 1) = true := bne_iff_ne.mpr c4
  have H' := za.mk H
  clear H
  go_enter Tryz.func70,Tryz.ntmps70
  go_wp2
  go_loopg [16] k (fun kq v16 w' => ∃ (x16_1 : Int),v16 = .int .i64 x16_1 ∧ za (zaj.l0 kq l0 a2 l0 (l0.length : Int) x16_1 = some r) ∧ za (kq ≤ k) ∧ zaZ w w')
  case atStart => exact ⟨(0),(hDq),H',⟨Nat.le_refl _⟩,hEq⟩
  case round =>
   clear H'
   try clear p2;try clear c4;try clear c4b0;try clear c4b1
   obtain ⟨x16_1,rfl,HA,HK1,⟨m1,rfl⟩⟩ := hrel
   cases gk with
   | zero => exact absurd HA.out (by simp [zaj.l0])
   | succ k1 =>
    have H := HA.out
    clear HA
    simp only [zaj.l0] at H
    by_cases c5 : x16_1 < (l0.length : Int)
    ·rw [if_pos c5] at H
     have c5b0 : decide (x16_1 < (l0.length : Int)) = true := decide_eq_true c5
     clear c5
     by_cases c6 : 0 ≤ x16_1
     ·rw [if_pos c6] at H
      have c6b0 : decide (0 ≤ x16_1) = true := decide_eq_true c6
      clear c6
      by_cases c7 : x16_1 < (l0.length : Int)
      ·rw [if_pos c7] at H
       have c7b0 : decide (x16_1 < (l0.length : Int)) = true := decide_eq_true c7
       clear c7
       by_cases c8 : ((zz ByteArray.empty l0 x16_1).size : Int) = 32
       ·rw [if_pos c8] at H
        have c8b0 : (((zz ByteArray.empty l0 x16_1).size : Int) == 32) = true := beq_iff_eq.mpr c8
        have c8b1 : (((zz ByteArray.empty l0 x16_1).size : Int) != 32) = false := bne_eq_false_iff_eq.mpr c8
        clear c8
        by_cases c9 : x16_1 > 0
        ·rw [if_pos c9] at H
         have c9b0 : decide (0 < x16_1) = true := decide_eq_true c9
         clear c9
         obtain ⟨ji10,hji10⟩ : ∃ j_ : Int,(wrap64 (x16_1 - 1)) = j_ := ⟨_,rfl⟩
         replace H : (if 0 ≤ (ji10) then (if (ji10) < (l0.length : Int) then (if ((Op.bytesLess ((zz ByteArray.empty l0 (ji10)).toList) ((zz ByteArray.empty l0 x16_1).toList)) = true) then (zaj.l0 k1 l0 a2 l0 (l0.length : Int) (wrap64 (x16_1 + 1))) else (some false)) else (none)) else (none)) = some r := by first | (rw [hji10] at H;exact H) | (simp only [hji10] at H ⊢;exact H)
         have hji10w : (IntKind.i64.wrap (x16_1 - 1)) = ji10 := (zam _).trans hji10
         by_cases c11 : 0 ≤ (ji10)
         ·rw [if_pos c11] at H
          have c11b0 : decide (0 ≤ (ji10)) = true := decide_eq_true c11
          clear c11
          by_cases c12 : (ji10) < (l0.length : Int)
          ·rw [if_pos c12] at H
           have c12b0 : decide ((ji10) < (l0.length : Int)) = true := decide_eq_true c12
           clear c12
           by_cases c13 : ((Op.bytesLess ((zz ByteArray.empty l0 (ji10)).toList) ((zz ByteArray.empty l0 x16_1).toList)) = true)
           ·rw [if_pos c13] at H
            have c13b0 : (Op.bytesLess ((zz ByteArray.empty l0 (ji10)).toList) ((zz ByteArray.empty l0 x16_1).toList)) = true := c13
            clear c13
            have H' := za.mk H
            clear H
            have ya : 0 ≤ (x16_1 : Int) := hFq
            have yb : x16_1 < (l0.length : Int) := hFq
            obtain ⟨yd,yf,yc⟩ := Kd.at_string HR0.out x16_1 ya yb
            cases yf
            replace ya := eq_true ya
            replace yb := eq_true yb
            have yg : 0 ≤ ((ji10) : Int) := hFq
            have yh : (ji10) < (l0.length : Int) := hFq
            obtain ⟨yi,yk,yj⟩ := Kd.at_string HR0.out (ji10) yg yh
            obtain rfl : yd = yi := (by injection yk)
            replace yg := eq_true yg
            replace yh := eq_true yh
            go_wp2
            go_roundg k1
            case measure => have := HK1.out;omega
            case rel => exact ⟨(wrap64 (x16_1 + 1)),(hDq),H',⟨by have := HK1.out;omega⟩,hEq⟩
           ·rw [if_neg c13] at H
            have c13b0 : (Op.bytesLess ((zz ByteArray.empty l0 (ji10)).toList) ((zz ByteArray.empty l0 x16_1).toList)) = false := by simpa using c13
            clear c13
            obtain rfl := Option.some.inj H
            have ya : 0 ≤ (x16_1 : Int) := hFq
            have yb : x16_1 < (l0.length : Int) := hFq
            obtain ⟨yd,yf,yc⟩ := Kd.at_string HR0.out x16_1 ya yb
            cases yf
            replace ya := eq_true ya
            replace yb := eq_true yb
            have yg : 0 ≤ ((ji10) : Int) := hFq
            have yh : (ji10) < (l0.length : Int) := hFq
            obtain ⟨yi,yk,yj⟩ := Kd.at_string HR0.out (ji10) yg yh
            obtain rfl : yd = yi := (by injection yk)
            replace yg := eq_true yg
            replace yh := eq_true yh
            go_wp2
            go_ret
            exact ⟨by first | rfl | (simp;done) | (simp only [← hji10] <;> (first | rfl | simp)) | (simp [*];done),hEq⟩
          ·rw [if_neg c12] at H
           exact absurd H (by simp)
         ·rw [if_neg c11] at H
          exact absurd H (by simp)
        ·rw [if_neg c9] at H
         have c9b0 : decide (0 < x16_1) = false := decide_eq_false c9
         clear c9
         have H' := za.mk H
         clear H
         have ya : 0 ≤ (x16_1 : Int) := hFq
         have yb : x16_1 < (l0.length : Int) := hFq
         obtain ⟨yd,yf,yc⟩ := Kd.at_string HR0.out x16_1 ya yb
         cases yf
         replace ya := eq_true ya
         replace yb := eq_true yb
         go_wp2
         go_roundg k1
         case measure => have := HK1.out;omega
         case rel => exact ⟨(wrap64 (x16_1 + 1)),(hDq),H',⟨by have := HK1.out;omega⟩,hEq⟩
       ·rw [if_neg c8] at H
        have c8b0 : (((zz ByteArray.empty l0 x16_1).size : Int) == 32) = false := beq_eq_false_iff_ne.mpr c8
        have c8b1 : (((zz ByteArray.empty l0 x16_1).size : Int) != 32) = true := bne_iff_ne.mpr c8
        obtain rfl := Option.some.inj H
        have ya : 0 ≤ (x16_1 : Int) := hFq
        have yb : x16_1 < (l0.length : Int) := hFq
        obtain ⟨yd,yf,yc⟩ := Kd.at_string HR0.out x16_1 ya yb
        cases yf
        replace ya := eq_true ya
        replace yb := eq_true yb
        go_wp2
        go_ret
        exact ⟨hDq,hEq⟩
      ·rw [if_neg c7] at H
       exact absurd H (by simp)
     ·rw [if_neg c6] at H
      exact absurd H (by simp)
    ·rw [if_neg c5] at H
     have c5b0 : decide (x16_1 < (l0.length : Int)) = false := decide_eq_false c5
     clear c5
     replace H := Option.bind_eq_some_iff.mp H
     obtain ⟨ye,yl,H⟩ := H
     replace H : (if (l0.length : Int) ≥ ye then (some (decide ((l0.length : Int) ≤ a2))) else (some false)) = some r := H
     have A14 := za.mk yl
     clear yl
     by_cases c15 : (l0.length : Int) ≥ ye
     ·rw [if_pos c15] at H
      have c15b0 : decide (ye ≤ (l0.length : Int)) = true := decide_eq_true c15
      clear c15
      obtain rfl := Option.some.inj H
      go_wp2_with (first | ((with_reducible refine zQ (f := 89) rfl ?_);refine zaB (some 41) rfl rfl Tryz.func89 (by kernel_rfl) rfl #[.int .i64 a2] rfl hMq ?_;(with_reducible refine (zbP.calls a2 ye _ A14.out).mono ?_);rintro e w' ⟨rfl,⟨nd,rfl⟩⟩;refine ⟨_,rfl,?_⟩))
      go_ret
      exact ⟨hDq,hEq⟩
     ·rw [if_neg c15] at H
      have c15b0 : decide (ye ≤ (l0.length : Int)) = false := decide_eq_false c15
      clear c15
      obtain rfl := Option.some.inj H
      go_wp2_with (first | ((with_reducible refine zQ (f := 89) rfl ?_);refine zaB (some 41) rfl rfl Tryz.func89 (by kernel_rfl) rfl #[.int .i64 a2] rfl hMq ?_;(with_reducible refine (zbP.calls a2 ye _ A14.out).mono ?_);rintro e w' ⟨rfl,⟨nd,rfl⟩⟩;refine ⟨_,rfl,?_⟩))
      go_ret
      exact ⟨hDq,hEq⟩
def zbD.f (a0 : Int) : Option (Bool) := if a0 ≥ 3 then (some ((Int.tmod a0 3) == 0)) else (some false)
set_option maxHeartbeats 8000000 in
set_option maxRecDepth 100000 in
theorem zbD.calls (a0 : Int) (r : Bool) (w : World) (h : zbD.f a0 = some r) :
  Calls Tryz.prog 69 #[.int .i64 a0] w fun e w' => e = .returned (.bool r) ∧ zaZ w w' := by
 have H : (if a0 ≥ 3 then (some ((Int.tmod a0 3) == 0)) else (some false)) = some r := h
 clear h
 by_cases c2 : a0 ≥ 3
 ·rw [if_pos c2] at H
  have c2b0 : decide (3 ≤ a0) = true := decide_eq_true c2
  clear c2
  obtain rfl := Option.some.inj H
  go_enter Tryz.func69,Tryz.ntmps69
  go_wp2
  go_ret
  exact ⟨hDq,hEq⟩
 ·rw [if_neg c2] at H
  have c2b0 : decide (3 ≤ a0) = false := decide_eq_false c2
  clear c2
  obtain rfl := Option.some.inj H
  go_enter Tryz.func69,Tryz.ntmps69
  go_wp2
  go_ret
  exact ⟨hDq,hEq⟩
theorem zE {α : Type} {c : Prop} [Decidable c] {f g : Nat → Option α} {r : α} (h : c) (e : Ev f r) : Ev (fun k => if c then f k else g k) r := by
 simp only [if_pos h]
 exact e
theorem zS {α : Type} {c : Prop} [Decidable c] {f g : Nat → Option α} {r : α} (h : ¬ c) (e : Ev g r) : Ev (fun k => if c then f k else g k) r := by
 simp only [if_neg h]
 exact e
theorem zad {α : Type} {f : Nat → Option α} {a b : α} (h : Ev f a) (e : a = b) : Ev f b := e ▸ h
theorem zaw {α β : Type} {o : Option α} {f : Nat → α → Option β} {a : α} {r : β} (h : o = some a) (k : Ev (fun n => f n a) r) : Ev (fun n => o.bind (f n)) r := by
 subst h
 exact k
theorem zb6 {x : Int} (h0 : 0 ≤ x) (h1 : x < 18446744073709551616) : IntKind.u64.wrap x = x := by
 show x % 18446744073709551616 = x
 omega
theorem z4 {x : Int} (h0 : -9223372036854775808 ≤ x) (h1 : x < 9223372036854775808) : wrap64 x = x := by
 unfold wrap64
 omega
abbrev Bs := List UInt8
def toB (l : Bs) : ByteArray := ⟨l.toArray⟩
def ofB (s : ByteArray) : Bs := s.data.toList
theorem zdn (l : Bs) : ofB (toB l) = l := by simp [ofB,toB]
theorem zev (s : ByteArray) : toB (ofB s) = s := by simp [ofB,toB]
theorem ofB_inj {a b : ByteArray} (h : ofB a = ofB b) : a = b := by rw [← zev a,← zev b,h]
theorem zas (s : ByteArray) : (ofB s).length = s.size := by rw [ofB,Array.length_toList];rfl
theorem zax (l : Bs) : (toB l).size = l.length := by rw [← zas,zdn]
theorem ofB_append (a b : ByteArray) : ofB (a ++ b) = ofB a ++ ofB b := by simp [ofB]
theorem zbb (a b : Bs) : toB (a ++ b) = toB a ++ toB b := ofB_inj (by rw [ofB_append,zdn,zdn,zdn])
theorem zcM (s : ByteArray) : s.toList = ofB s := ByteArray.toList_eq s
theorem bt_ofB (s : ByteArray) (i : Nat) : bt s (i : Int) = (((ofB s).getD i 0).toNat : Int) := by
 unfold bt ofB
 split
 ·rename_i h
  have h' : i < s.data.toList.length := by rw [zfB];simpa using h
  simp [List.getD_eq_getElem?_getD,List.getElem?_eq_getElem h']
  rfl
 ·rename_i h
  have h' : s.data.toList.length ≤ i := by rw [zfB];simp at h;omega
  simp [List.getD_eq_getElem?_getD,List.getElem?_eq_none h']
theorem zbT (xs : List Int) : strOfNums xs = toB (xs.map fun n => UInt8.ofNat n.toNat) := rfl
def be (v : Nat) : Bs := if v = 0 then [] else be (v / 256) ++ [UInt8.ofNat (v % 256)]
termination_by v
decreasing_by omega
theorem zeV : be 0 = [] := by rw [be];simp
theorem zhs {v : Nat} (h : 0 < v) : be v = be (v / 256) ++ [UInt8.ofNat (v % 256)] := by rw [be,if_neg (by omega)]
def val (l : Bs) : Nat := l.foldl (fun a c => a * 256 + c.toNat) 0
theorem be_length (n : Nat) : ∀ v : Nat,(be v).length ≤ n ↔ v < 256 ^ n := by
 induction n with
 | zero =>
  intro v
  rcases Nat.eq_zero_or_pos v with h | h
  ·subst h;simp [zeV]
  ·rw [zhs h];simp;omega
 | succ n ih =>
  intro v
  rcases Nat.eq_zero_or_pos v with h | h
  ·subst h;simp [zeV,Nat.pow_pos]
  ·rw [zhs h,List.length_append,List.length_singleton,Nat.succ_le_succ_iff,ih,Nat.pow_succ,Nat.mul_comm,Nat.div_lt_iff_lt_mul (by omega),Nat.mul_comm]
theorem be_len8 {v : Nat} (h : v < 18446744073709551616) : (be v).length ≤ 8 := by
 have : (256 : Nat) ^ 8 = 18446744073709551616 := by decide
 exact (be_length 8 v).2 (by rw [this];exact h)
def zds (v : Nat) : Bs := UInt8.ofNat (be v).length :: be v
def zbl (v : Nat) : ByteArray := toB (zds v)
def zgJ (t : Bs) : Bs := zds t.length ++ t
def zeG (t : ByteArray) : ByteArray := zbl t.size ++ t
theorem textB_eq (t : ByteArray) : zeG t = toB (zgJ (ofB t)) := by rw [zgJ,zbb,zev,zas];rfl
theorem zaU {v : Nat} (h : v < 18446744073709551616) : (zds v).length ≤ 9 := by
 have := be_len8 h
 simp only [zds,List.length_cons];omega
theorem za4 {v : Nat} (h : v < 18446744073709551616) : (zbl v).size ≤ 9 := by rw [zbl,zax];exact zaU h
theorem zgu (v : Nat) (L : List Int) (h : L.map (fun n => UInt8.ofNat n.toNat) = be v) : strOfNums ((L.length : Int) :: L) = zbl v := by
 rw [zbT,List.map_cons,h,zbl,zds]
 have : L.length = (be v).length := by rw [← h,List.length_map]
 rw [this,Int.toNat_natCast]
mutual
def zG.l0 : Nat → ByteArray → ByteArray → Int → Option (Bool)
 | 0,_,_,_ => none
 | k + 1,x0,x1,x5 => if x5 < (x0.size : Int) then (zG.j1 k x0 x1 x5 (decide (x5 < (x1.size : Int)))) else (zG.j1 k x0 x1 x5 false)
def zG.j1 : Nat → ByteArray → ByteArray → Int → Bool → Option (Bool)
 | 0,_,_,_,_ => none
 | k + 1,x0,x1,x5,x15 => if x15 = true then (if 0 ≤ x5 then (if x5 < (x0.size : Int) then (if x5 < (x1.size : Int) then (if (bt x0 x5) = (bt x1 x5) then (zG.l0 k x0 x1 (wrap64 (x5 + 1))) else (some (decide ((bt x0 x5) < (bt x1 x5))))) else (none)) else (none)) else (none)) else (some (decide ((x0.size : Int) < (x1.size : Int))))
end
def zG.f (k : Nat) (a0 : ByteArray) (a1 : ByteArray) : Option (Bool) := zG.l0 k a0 a1 0
set_option maxHeartbeats 8000000 in
set_option maxRecDepth 100000 in
theorem zG.calls (k : Nat) (a0 : ByteArray) (a1 : ByteArray) (r : Bool) (w : World) (h : zG.f k a0 a1 = some r) :
  Calls Tryz.prog 79 #[.string a0,.string a1] w fun e w' => e = .returned (.bool r) ∧ zaZ w w' := by
 have H : (zG.l0 k a0 a1 0) = some r := h
 clear h
 have H' := za.mk H
 clear H
 go_enter Tryz.func79,Tryz.ntmps79
 go_wp2
 repeat (go_quiet (fail);try go_wp2)
 go_loopg [5] k (fun kq v5 w' => ∃ (x5_1 : Int),v5 = .int .i64 x5_1 ∧ za (zG.l0 kq a0 a1 x5_1 = some r) ∧ za (kq ≤ k) ∧ zaZ w w')
 case atStart => exact ⟨(0),(hDq),H',⟨Nat.le_refl _⟩,hEq⟩
 case round =>
  clear H'
  try clear p2
  obtain ⟨x5_1,rfl,HA,HK1,⟨m1,rfl⟩⟩ := hrel
  cases gk with
  | zero => exact absurd HA.out (by simp [zG.l0])
  | succ k1 =>
   have H := HA.out
   clear HA
   simp only [zG.l0] at H
   have HC3 := za.mk H
   clear H
   go_upto_region 2 with (fail)
   repeat (go_quiet (fail);go_upto_region 2 with (fail))
   go_cut [15] (fun v15 wc => ∃ (kq : Nat) (x15_2 : Bool),v15 = .bool x15_2 ∧ za (zG.j1 kq a0 a1 x5_1 x15_2 = some r) ∧ za (kq ≤ k1) ∧ zaZ w wc)
   case first =>
    have H := HC3.out
    clear HC3
    by_cases c4 : x5_1 < (a0.size : Int)
    ·rw [if_pos c4] at H
     have c4b0 : decide (x5_1 < (a0.size : Int)) = true := decide_eq_true c4
     clear c4
     (first | rw [c4b0] | (simp only [zam,zap];rw [c4b0]) | skip)
     have H' := za.mk H
     clear H
     go_wp2
     repeat (go_quiet (fail);try go_wp2)
     go_meet
     case rel => exact ⟨_,(decide (x5_1 < (a1.size : Int))),(hDq),H',⟨by have := HK1.out;first | omega | exact Nat.le_refl _⟩,hEq⟩
    ·rw [if_neg c4] at H
     have c4b0 : decide (x5_1 < (a0.size : Int)) = false := decide_eq_false c4
     clear c4
     (first | rw [c4b0] | (simp only [zam,zap];rw [c4b0]) | skip)
     have H' := za.mk H
     clear H
     go_wp2
     repeat (go_quiet (fail);try go_wp2)
     go_meet
     case rel => exact ⟨_,(false),(hDq),H',⟨by have := HK1.out;first | omega | exact Nat.le_refl _⟩,hEq⟩
   case rest =>
    clear HC3
    try clear p2;try clear c4;try clear c4b0;try clear p2
    obtain ⟨kq,x15_2,rfl,HA,HJ2,⟨mc2,rfl⟩⟩ := hcut
    cases kq with
    | zero => exact absurd HA.out (by simp [zG.j1])
    | succ kj2 =>
     have H := HA.out
     clear HA
     simp only [zG.j1] at H
     by_cases c5 : x15_2 = true
     ·subst c5
      have H1 : (if 0 ≤ x5_1 then (if x5_1 < (a0.size : Int) then (if x5_1 < (a1.size : Int) then (if (bt a0 x5_1) = (bt a1 x5_1) then (zG.l0 kj2 a0 a1 (wrap64 (x5_1 + 1))) else (some (decide ((bt a0 x5_1) < (bt a1 x5_1))))) else (none)) else (none)) else (none)) = some r := by rw [if_pos rfl] at H;exact H
      clear H
      have H := H1
      clear H1
      by_cases c6 : 0 ≤ x5_1
      ·rw [if_pos c6] at H
       have c6b0 : decide (0 ≤ x5_1) = true := decide_eq_true c6
       clear c6
       by_cases c7 : x5_1 < (a0.size : Int)
       ·rw [if_pos c7] at H
        have c7b0 : decide (x5_1 < (a0.size : Int)) = true := decide_eq_true c7
        clear c7
        by_cases c9 : x5_1 < (a1.size : Int)
        ·rw [if_pos c9] at H
         have c9b0 : decide (x5_1 < (a1.size : Int)) = true := decide_eq_true c9
         clear c9
         by_cases c11 : (bt a0 x5_1) = (bt a1 x5_1)
         ·rw [if_pos c11] at H
          have c11b0 : ((bt a0 x5_1) == (bt a1 x5_1)) = true := beq_iff_eq.mpr c11
          have c11b1 : ((bt a0 x5_1) != (bt a1 x5_1)) = false := bne_eq_false_iff_eq.mpr c11
          clear c11
          have H' := za.mk H
          clear H
          have p8 : 0 ≤ (x5_1 : Int) := hFq
          have q8 : x5_1 < (a0.size : Int) := hFq
          have hx8 := zdj a0 x5_1
          replace p8 := eq_true p8
          replace q8 := eq_true q8
          have p10 : 0 ≤ (x5_1 : Int) := hFq
          have q10 : x5_1 < (a1.size : Int) := hFq
          have hx10 := zdj a1 x5_1
          replace p10 := eq_true p10
          replace q10 := eq_true q10
          go_wp2
          repeat (go_quiet (fail);try go_wp2)
          go_roundg kj2
          case measure => have := HK1.out;have := HJ2.out;omega
          case rel => exact ⟨(wrap64 (x5_1 + 1)),(hDq),H',⟨by have := HK1.out;have := HJ2.out;omega⟩,hEq⟩
         ·rw [if_neg c11] at H
          have c11b0 : ((bt a0 x5_1) == (bt a1 x5_1)) = false := beq_eq_false_iff_ne.mpr c11
          have c11b1 : ((bt a0 x5_1) != (bt a1 x5_1)) = true := bne_iff_ne.mpr c11
          obtain rfl := Option.some.inj H
          have p8 : 0 ≤ (x5_1 : Int) := hFq
          have q8 : x5_1 < (a0.size : Int) := hFq
          have hx8 := zdj a0 x5_1
          replace p8 := eq_true p8
          replace q8 := eq_true q8
          have p10 : 0 ≤ (x5_1 : Int) := hFq
          have q10 : x5_1 < (a1.size : Int) := hFq
          have hx10 := zdj a1 x5_1
          replace p10 := eq_true p10
          replace q10 := eq_true q10
          have p12 : 0 ≤ (x5_1 : Int) := hFq
          have q12 : x5_1 < (a0.size : Int) := hFq
          have hx12 := zdj a0 x5_1
          replace p12 := eq_true p12
          replace q12 := eq_true q12
          have p13 : 0 ≤ (x5_1 : Int) := hFq
          have q13 : x5_1 < (a1.size : Int) := hFq
          have hx13 := zdj a1 x5_1
          replace p13 := eq_true p13
          replace q13 := eq_true q13
          go_wp2
          repeat (go_quiet (fail);try go_wp2)
          go_ret
          exact ⟨hDq,hEq⟩
        ·rw [if_neg c9] at H
         exact absurd H (by simp)
       ·rw [if_neg c7] at H
        exact absurd H (by simp)
      ·rw [if_neg c6] at H
       exact absurd H (by simp)
     ·replace c5 := Bool.eq_false_iff.mpr c5
      subst c5
      have H1 : (some (decide ((a0.size : Int) < (a1.size : Int)))) = some r := by rw [if_neg (show ¬ (false = true) by decide)] at H;exact H
      clear H
      have H := H1
      clear H1
      obtain rfl := Option.some.inj H
      go_wp2
      repeat (go_quiet (fail);try go_wp2)
      go_ret
      exact ⟨hDq,hEq⟩
def zd4 : Bs → Bs → Bool
 | [],b => !b.isEmpty
 | _ :: _,[] => false
 | x :: xs,y :: ys => if x = y then zd4 xs ys else decide (x.toNat < y.toNat)
theorem bt_toB (l : Bs) (j : Nat) : bt (toB l) (j : Int) = ((l.getD j 0).toNat : Int) := by rw [bt_ofB,zdn]
theorem zfi (l : Bs) (j : Nat) (h : j < l.length) : l.drop j = l.getD j 0 :: l.drop (j + 1) := by
 rw [List.drop_eq_getElem_cons h,List.getD_eq_getElem?_getD,List.getElem?_eq_getElem h];rfl
theorem less_loop (a b : Bs) (ha : a.length < 4611686018427387904) (d : Nat) : ∀ j,j + d = a.length →
  Ev (fun k => zG.l0 k (toB a) (toB b) (j : Int)) (zd4 (a.drop j) (b.drop j)) := by
 induction d with
 | zero =>
  intro j hj
  have e : a.drop j = [] := List.drop_eq_nil_of_le (by omega)
  refine Ev.step (fun k => by rw [zG.l0]) ?_
  refine zS (by rw [zax];omega) (Ev.step (fun k => by rw [zG.j1]) ?_)
  refine zS (by simp) (zad (Ev.now _) ?_)
  rw [e,zd4,zax,zax]
  by_cases h : j < b.length
  ·rw [zfi b j h];simp;omega
  ·rw [List.drop_eq_nil_of_le (by omega)];simp;omega
 | succ d ih =>
  intro j hj
  have e := zfi a j (by omega)
  refine Ev.step (fun k => by rw [zG.l0]) ?_
  refine zE (by rw [zax];omega) (Ev.step (fun k => by rw [zG.j1]) ?_)
  by_cases h : j < b.length
  ·have f := zfi b j h
   refine zE (by rw [zax];simp;omega) (zE (by omega) (zE (by rw [zax];omega) (zE (by rw [zax];omega) ?_)))
   rw [bt_toB,bt_toB,z4 (by omega) (by omega),e,f,zd4]
   by_cases hx : a.getD j 0 = b.getD j 0
   ·rw [if_pos hx]
    exact zE (by rw [hx]) (ih (j + 1) (by omega))
   ·rw [if_neg hx]
    exact zS (fun h => hx (UInt8.toNat_inj.1 (by omega))) (zad (Ev.now _) (by simp))
  ·have f : b.drop j = [] := List.drop_eq_nil_of_le (by omega)
   refine zS (by rw [zax];simp;omega) (zad (Ev.now _) ?_)
   rw [e,f,zd4,zax,zax]
   simp;omega
theorem less_ev (a b : ByteArray) (ha : a.size < 4611686018427387904) : Ev (fun k => zG.f k a b) (zd4 (ofB a) (ofB b)) := by
 have h := less_loop (ofB a) (ofB b) (by rw [zas];exact ha) (ofB a).length 0 (by omega)
 rw [zev,zev] at h
 exact h
theorem zdU : ∀ a b : Bs,Op.bytesLess a b = zd4 a b
 | [],[] => rfl
 | [],_ :: _ => rfl
 | _ :: _,[] => rfl
 | x :: xs,y :: ys => by
  rw [Op.bytesLess,zd4,zdU xs ys]
  by_cases h : x = y
  ·subst h;simp
  ·rw [if_neg h]
   have hn : x.toNat ≠ y.toNat := fun e => h (UInt8.toNat_inj.1 e)
   by_cases h1 : x < y
   ·have := UInt8.lt_iff_toNat_lt.1 h1
    simp [h1,this]
   ·have h2 : ¬ x.toNat < y.toNat := fun e => h1 (UInt8.lt_iff_toNat_lt.2 e)
    have h3 : y < x := UInt8.lt_iff_toNat_lt.2 (by omega)
    simp [h1,h2]
    exact fun e => absurd e h
def zcy (n : Int) : Bool := decide (4 ≤ n) && decide (n ≤ 64) && decide (n % 3 = 1)
theorem zaG (n : Int) : zaq.f n = some (zcy n) := by
 unfold zaq.f zcy
 by_cases h : n ≥ 4
 ·rw [if_pos h]
  by_cases h1 : n ≤ 64
  ·rw [if_pos h1,Int.tmod_eq_emod_of_nonneg (by omega)]
   by_cases h2 : n % 3 = 1
   ·simp [h1,h2];omega
   ·simp [h2]
  ·rw [if_neg h1];simp [h1]
 ·rw [if_neg h]
  have : ¬ 4 ≤ n := by omega
  simp [this]
theorem zcV (n : Int) : zcy n = true ↔ 4 ≤ n ∧ n ≤ 64 ∧ n % 3 = 1 := by
 unfold zcy;simp [and_assoc]
def zbZ (n : Int) : Int := if zcy n = true then n - (n - 1) / 3 else 0
theorem zfW (n : Int) : zbP.f n = some (zbZ n) := by
 unfold zbP.f zbB.f zbZ
 rw [zaG]
 simp only [Option.bind_some]
 by_cases h : zcy n = true
 ·rw [if_pos h,if_pos h,if_pos h]
  obtain ⟨h1,h2,h3⟩ := (zcV n).1 h
  simp only [Option.bind_some]
  rw [z4 (x := n - 1) (by omega) (by omega),Int.tdiv_eq_ediv_of_nonneg (by omega),z4 (x := (n - 1) / 3) (by omega) (by omega),z4 (by omega) (by omega)]
 ·rw [if_neg h,if_neg h]
def zfP (a b : Int) : Bool := decide (0 ≤ a) && decide (a < 10007) && decide (0 ≤ b) && decide (b < 10007)
theorem ze0 (a b : Int) : zfP a b = true ↔ 0 ≤ a ∧ a < 10007 ∧ 0 ≤ b ∧ b < 10007 := by
 unfold zfP;simp [and_assoc]
theorem zcv (a b : Int) : zb8.f a b = some (zfP a b) := by
 unfold zb8.f zfP
 by_cases h1 : 0 ≤ a <;> by_cases h2 : a < 10007 <;> by_cases h3 : 0 ≤ b <;> simp [h1,h2,h3]
def zdv (r : Int) : Bool := decide (3 ≤ r) && decide (r % 3 = 0)
theorem zcj (r : Int) : zbD.f r = some (zdv r) := by
 unfold zbD.f zdv
 by_cases h : r ≥ 3
 ·rw [if_pos h,Int.tmod_eq_emod_of_nonneg (by omega)]
  have : 3 ≤ r := h
  by_cases h2 : r % 3 = 0 <;> simp [this,h2]
 ·rw [if_neg h]
  have : ¬ 3 ≤ r := by omega
  simp [this]
def zg0 (l : List ByteArray) (j : Nat) : Bool := decide ((l.getD j ByteArray.empty).size = 32) && (decide (j = 0) || zd4 (ofB (l.getD (j - 1) ByteArray.empty)) (ofB (l.getD j ByteArray.empty)))
def zbf (l : List ByteArray) : Nat → Nat → Bool
 | 0,_ => true
 | d + 1,j => zg0 l j && zbf l d (j + 1)
def zb4 (l : List ByteArray) (r n : Int) : Bool :=
 if r = 1 then decide (l.length = 0) else zbf l l.length 0 && decide (zbZ n ≤ l.length) && decide ((l.length : Int) ≤ n)
theorem zhG (l : List ByteArray) (n : Int) (hl : l.length ≤ 9223372036854775807) (d : Nat) : ∀ j,j + d = l.length →
  Ev (fun k => zaj.l0 k l n l (l.length : Int) (j : Int)) (zbf l d j && decide (zbZ n ≤ l.length) && decide ((l.length : Int) ≤ n)) := by
 induction d with
 | zero =>
  intro j hj
  refine Ev.step (fun k => by rw [zaj.l0]) ?_
  refine zS (by omega) (zaw (zfW n) ?_)
  by_cases h : zbZ n ≤ l.length
  ·exact zE h (zad (Ev.now _) (by simp [zbf,h]))
  ·exact zS h (zad (Ev.now _) (by simp [zbf,h]))
 | succ d ih =>
  intro j hj
  refine Ev.step (fun k => by rw [zaj.l0]) ?_
  refine zE (by omega) (zE (by omega) (zE (by omega) ?_))
  have e1 : zz ByteArray.empty l (j : Int) = l.getD j ByteArray.empty := by rw [zz,Int.toNat_natCast]
  rw [e1]
  by_cases h : (l.getD j ByteArray.empty).size = 32
  ·refine zE (by omega) ?_
   rw [z4 (x := (j : Int) + 1) (by omega) (by omega)]
   by_cases h0 : j = 0
   ·subst h0
    refine zS (by omega) (zad (ih 1 (by omega)) ?_)
    simp only [zbf,zg0,h];simp
   ·refine zE (by omega) ?_
    have e2 : wrap64 ((j : Int) - 1) = ((j - 1 : Nat) : Int) := by rw [z4 (by omega) (by omega)];omega
    rw [e2]
    refine zE (by omega) (zE (by omega) ?_)
    have e3 : zz ByteArray.empty l ((j - 1 : Nat) : Int) = l.getD (j - 1) ByteArray.empty := by rw [zz,Int.toNat_natCast]
    rw [e3,zcM,zcM,zdU]
    by_cases h2 : zd4 (ofB (l.getD (j - 1) ByteArray.empty)) (ofB (l.getD j ByteArray.empty)) = true
    ·refine zE h2 (zad (ih (j + 1) (by omega)) ?_)
     simp only [zbf,zg0,h,h2];simp
    ·refine zS h2 (zad (Ev.now _) ?_)
     rw [Bool.not_eq_true] at h2
     simp only [zbf,zg0,h,h0,h2];simp
  ·refine zS (by omega) (zad (Ev.now _) ?_)
   simp only [zbf,zg0,h];simp
theorem parents_ev (l : List ByteArray) (r n : Int) (hl : l.length ≤ 9223372036854775807) : Ev (fun k => zaj.f k l r n) (zb4 l r n) := by
 unfold zb4
 by_cases h : r = 1
 ·rw [if_pos h]
  refine zE h (zad (Ev.now _) ?_)
  by_cases h0 : l.length = 0 <;> simp [h0]
 ·rw [if_neg h]
  exact zS h (zhG l n hl l.length 0 (by omega))
def zae.l0 : Nat → Int → Int → Int → Option (Int)
 | 0,_,_,_ => none
 | k + 1,x0,x1,x5 => if x5 < x1 then (zae.l0 k ((Int.tdiv x0 2) % 4294967296) x1 (wrap64 (x5 + 1))) else (some x0)
def zae.f (k : Nat) (a0 : Int) (a1 : Int) : Option (Int) := zae.l0 k a0 a1 0
set_option maxHeartbeats 8000000 in
set_option maxRecDepth 100000 in
theorem zae.calls (k : Nat) (a0 : Int) (a1 : Int) (r : Int) (w : World) (h : zae.f k a0 a1 = some r) :
  Calls Tryz.prog 84 #[.int .u32 a0,.int .i64 a1] w fun e w' => e = .returned (.int .u32 r) ∧ zaZ w w' := by
 have H : (zae.l0 k a0 a1 0) = some r := h
 clear h
 have H' := za.mk H
 clear H
 go_enter Tryz.func84,Tryz.ntmps84
 go_wp2
 go_loopg [0,5] k (fun kq v0 v5 w' => ∃ (x0_1 : Int) (x5_1 : Int),v0 = .int .u32 x0_1 ∧ v5 = .int .i64 x5_1 ∧ za (zae.l0 kq x0_1 a1 x5_1 = some r) ∧ za (kq ≤ k) ∧ zaZ w w')
 case atStart => exact ⟨(a0),(0),(hDq),(hDq),H',⟨Nat.le_refl _⟩,hEq⟩
 case round =>
  clear H'
  try clear p2
  obtain ⟨x0_1,x5_1,rfl,rfl,HA,HK1,⟨m1,rfl⟩⟩ := hrel
  cases gk with
  | zero => exact absurd HA.out (by simp [zae.l0])
  | succ k1 =>
   have H := HA.out
   clear HA
   simp only [zae.l0] at H
   by_cases c3 : x5_1 < a1
   ·rw [if_pos c3] at H
    have c3b0 : decide (x5_1 < a1) = true := decide_eq_true c3
    clear c3
    have H' := za.mk H
    clear H
    go_wp2
    go_roundg k1
    case measure => have := HK1.out;omega
    case rel => exact ⟨((Int.tdiv x0_1 2) % 4294967296),(wrap64 (x5_1 + 1)),(hDq),(hDq),H',⟨by have := HK1.out;omega⟩,hEq⟩
   ·rw [if_neg c3] at H
    have c3b0 : decide (x5_1 < a1) = false := decide_eq_false c3
    clear c3
    obtain rfl := Option.some.inj H
    go_wp2
    go_ret
    exact ⟨hDq,hEq⟩
mutual
def zP.l0 : Nat → Int → Int → Int → Int → Option (Int)
 | 0,_,_,_,_ => none
 | k + 1,x0,x1,x5,x6 => if x6 < x1 then (zP.l0 k x0 x1 ((x5 * 2) % 4294967296) (wrap64 (x6 + 1))) else (if x5 = 0 then (none) else (zP.l1 k x0 x1 x5 (Int.tmod x0 x5) 0))
def zP.l1 : Nat → Int → Int → Int → Int → Int → Option (Int)
 | 0,_,_,_,_,_ => none
 | k + 1,x0,x1,x5,x7,x8 => if x8 < (wrap64 (32 - x1)) then (zP.l1 k x0 x1 x5 ((x7 * 2) % 4294967296) (wrap64 (x8 + 1))) else (if x5 = 0 then (none) else (some ((((Int.tdiv x0 x5) % 4294967296) + x7) % 4294967296)))
end
def zP.f (k : Nat) (a0 : Int) (a1 : Int) : Option (Int) := zP.l0 k a0 a1 1 0
set_option maxHeartbeats 8000000 in
set_option maxRecDepth 100000 in
theorem zP.calls (k : Nat) (a0 : Int) (a1 : Int) (r : Int) (w : World) (h : zP.f k a0 a1 = some r) :
  Calls Tryz.prog 83 #[.int .u32 a0,.int .i64 a1] w fun e w' => e = .returned (.int .u32 r) ∧ zaZ w w' := by
 have H : (zP.l0 k a0 a1 1 0) = some r := h
 clear h
 have H' := za.mk H
 clear H
 go_enter Tryz.func83,Tryz.ntmps83
 go_wp2
 go_loopg [5,6] k (fun kq v5 v6 w' => ∃ (x5_1 : Int) (x6_1 : Int),v5 = .int .u32 x5_1 ∧ v6 = .int .i64 x6_1 ∧ za (zP.l0 kq a0 a1 x5_1 x6_1 = some r) ∧ za (kq ≤ k) ∧ zaZ w w')
 case atStart => exact ⟨(1),(0),(hDq),(hDq),H',⟨Nat.le_refl _⟩,hEq⟩
 case round =>
  clear H'
  try clear p2
  obtain ⟨x5_1,x6_1,rfl,rfl,HA,HK1,⟨m1,rfl⟩⟩ := hrel
  cases gk with
  | zero => exact absurd HA.out (by simp [zP.l0])
  | succ k1 =>
   have H := HA.out
   clear HA
   simp only [zP.l0] at H
   by_cases c3 : x6_1 < a1
   ·rw [if_pos c3] at H
    have c3b0 : decide (x6_1 < a1) = true := decide_eq_true c3
    clear c3
    have H' := za.mk H
    clear H
    go_wp2
    go_roundg k1
    case measure => have := HK1.out;omega
    case rel => exact ⟨((x5_1 * 2) % 4294967296),(wrap64 (x6_1 + 1)),(hDq),(hDq),H',⟨by have := HK1.out;omega⟩,hEq⟩
   ·rw [if_neg c3] at H
    have c3b0 : decide (x6_1 < a1) = false := decide_eq_false c3
    clear c3
    by_cases c4 : x5_1 = 0
    ·rw [if_pos c4] at H
     exact absurd H (by simp)
    ·rw [if_neg c4] at H
     have c4b0 : (x5_1 == 0) = false := beq_eq_false_iff_ne.mpr c4
     have c4b1 : (x5_1 != 0) = true := bne_iff_ne.mpr c4
     have H' := za.mk H
     clear H
     go_wp2
     go_loopg [7,8] k1 (fun kq v7 v8 w' => ∃ (x7_2 : Int) (x8_2 : Int),v7 = .int .u32 x7_2 ∧ v8 = .int .i64 x8_2 ∧ za (zP.l1 kq a0 a1 x5_1 x7_2 x8_2 = some r) ∧ za (kq ≤ k1) ∧ zaZ w w')
     case atStart => exact ⟨(Int.tmod a0 x5_1),(0),(hDq),(hDq),H',⟨Nat.le_refl _⟩,hEq⟩
     case round =>
      clear H'
      try clear p2;try clear c3;try clear c3b0;try clear c4;try clear c4b0;try clear c4b1;try clear p2
      obtain ⟨x7_2,x8_2,rfl,rfl,HA,HK2,⟨m2,rfl⟩⟩ := hrel
      cases gk with
      | zero => exact absurd HA.out (by simp [zP.l1])
      | succ k2 =>
       have H := HA.out
       clear HA
       simp only [zP.l1] at H
       by_cases c5 : x8_2 < (wrap64 (32 - a1))
       ·rw [if_pos c5] at H
        have c5b0 : decide (x8_2 < (wrap64 (32 - a1))) = true := decide_eq_true c5
        clear c5
        have H' := za.mk H
        clear H
        go_wp2
        go_roundg k2
        case measure => have := HK1.out;have := HK2.out;omega
        case rel => exact ⟨((x7_2 * 2) % 4294967296),(wrap64 (x8_2 + 1)),(hDq),(hDq),H',⟨by have := HK1.out;have := HK2.out;omega⟩,hEq⟩
       ·rw [if_neg c5] at H
        have c5b0 : decide (x8_2 < (wrap64 (32 - a1))) = false := decide_eq_false c5
        clear c5
        by_cases c6 : x5_1 = 0
        ·rw [if_pos c6] at H
         exact absurd H (by simp)
        ·rw [if_neg c6] at H
         have c6b0 : (x5_1 == 0) = false := beq_eq_false_iff_ne.mpr c6
         have c6b1 : (x5_1 != 0) = true := bne_iff_ne.mpr c6
         obtain rfl := Option.some.inj H
         go_wp2
         go_ret
         exact ⟨hDq,hEq⟩
def zcu.f (a0 : Int) (a1 : Int) : Option (Int) := if 0 ≤ (Go.bits .and .u64 (IntKind.u64.wrap (a1)) 31) then (if 0 ≤ (IntKind.u64.wrap (32 - (Go.bits .and .u64 (IntKind.u64.wrap (a1)) 31))) then (some (Go.bits .or .u32 (shl .u32 a0 (Go.bits .and .u64 (IntKind.u64.wrap (a1)) 31)) (shr .u32 a0 (IntKind.u64.wrap (32 - (Go.bits .and .u64 (IntKind.u64.wrap (a1)) 31)))))) else (none)) else (none)
def zgI.f (a0 : Int) (a1 : Int) : Option (Int) := (zcu.f a0 (wrap64 (-a1))).bind fun ya => (some ya)
def zbp (x : Int) : Prop := 0 ≤ x ∧ x < 4294967296
def zcF (x : Int) : Int := IntKind.u32.wrap x
theorem zb0 (x : Int) : zcF x = x % 4294967296 := IntKind.wrap_u32 x
theorem zf7 (x : Int) : zbp (zcF x) := by rw [zb0];unfold zbp;omega
def zan (n : Nat) (x : Int) : Int := x / 2 ^ n + x % 2 ^ n * 2 ^ (32 - n)
def zcr (a b : Int) : Int := Go.bits .xor .u32 a b
def zdT (a b : Int) : Int := Go.bits .and .u32 a b
def zft (L : List Int) (k w : Int) : List Int :=
 let t := zcF (zcF (zcF (zcF (L.getD 7 0 + zcr (zcr (zan 6 (L.getD 4 0)) (zan 11 (L.getD 4 0))) (zan 25 (L.getD 4 0))) + zcr (zdT (L.getD 4 0) (L.getD 5 0)) (zdT (4294967295 - L.getD 4 0) (L.getD 6 0))) + k) + w)
 let u := zcF (zcr (zcr (zan 2 (L.getD 0 0)) (zan 13 (L.getD 0 0))) (zan 22 (L.getD 0 0)) + zcr (zcr (zdT (L.getD 0 0) (L.getD 1 0)) (zdT (L.getD 0 0) (L.getD 2 0))) (zdT (L.getD 1 0) (L.getD 2 0)))
 [zcF (t + u),L.getD 0 0,L.getD 1 0,L.getD 2 0,zcF (L.getD 3 0 + t),L.getD 4 0,L.getD 5 0,L.getD 6 0]
def okL (L : List Int) : Prop := ∀ i,zbp (L.getD i 0)
theorem zhD : okL [] := fun i => by simp [zbp]
theorem zbi {x : Int} {L : List Int} (hx : zbp x) (hL : okL L) : okL (x :: L) := fun i => by
 rcases i with _ | i
 ·exact hx
 ·exact hL i
theorem zir {x : Int} {L : List Int} (hL : okL L) (hx : zbp x) : okL (L ++ [x]) := fun i => by
 rw [List.getD_eq_getElem?_getD]
 rcases Nat.lt_trichotomy i L.length with h | h | h
 ·rw [List.getElem?_append_left h,← List.getD_eq_getElem?_getD];exact hL i
 ·subst h;simp;exact hx
 ·rw [List.getElem?_eq_none (by rw [List.length_append];simp;omega)];simp [zbp]
theorem roundL_ok {L : List Int} (h : okL L) (k w : Int) : okL (zft L k w) :=
 zbi (zf7 _) (zbi (h 0) (zbi (h 1) (zbi (h 2) (zbi (zf7 _) (zbi (h 4) (zbi (h 5) (zbi (h 6) zhD)))))))
def zgK (b : ByteArray) (i : Nat) : Int := bt b ((4 * i : Nat) : Int) * 16777216 + bt b ((4 * i + 1 : Nat) : Int) * 65536 + bt b ((4 * i + 2 : Nat) : Int) * 256 + bt b ((4 * i + 3 : Nat) : Int)
theorem word4_ok (b : ByteArray) (i : Nat) : zbp (zgK b i) := by
 have h0 := zbR b ((4 * i : Nat) : Int)
 have h1 := zbR b ((4 * i + 1 : Nat) : Int)
 have h2 := zbR b ((4 * i + 2 : Nat) : Int)
 have h3 := zbR b ((4 * i + 3 : Nat) : Int)
 unfold zbp zgK;omega
def zcS (b : ByteArray) : Nat → List Int
 | 0 => []
 | n + 1 => zcS b n ++ [zgK b n]
theorem zcq (b : ByteArray) : ∀ n,(zcS b n).length = n
 | 0 => rfl
 | n + 1 => by rw [zcS,List.length_append,zcq b n];rfl
theorem zih (b : ByteArray) : ∀ n,okL (zcS b n)
 | 0 => zhD
 | n + 1 => zir (zih b n) (word4_ok b n)
def zdR (W : List Int) (i : Nat) : Int :=
 zcF (zcF (zcF (W.getD (i - 16) 0 + zcr (zcr (zan 7 (W.getD (i - 15) 0)) (zan 18 (W.getD (i - 15) 0))) (W.getD (i - 15) 0 / 8)) + W.getD (i - 7) 0) + zcr (zcr (zan 17 (W.getD (i - 2) 0)) (zan 19 (W.getD (i - 2) 0))) (W.getD (i - 2) 0 / 1024))
def zJ (b : ByteArray) : Nat → List Int
 | 0 => zcS b 16
 | n + 1 => zJ b n ++ [zdR (zJ b n) (16 + n)]
theorem za3 (b : ByteArray) : ∀ n,(zJ b n).length = 16 + n
 | 0 => zcq b 16
 | n + 1 => by rw [zJ,List.length_append,za3 b n];rfl
theorem zfu (b : ByteArray) : ∀ n,okL (zJ b n)
 | 0 => zih b 16
 | n + 1 => zir (zfu b n) (zf7 _)
def zaY (S K W : List Int) : Nat → List Int
 | 0 => S
 | n + 1 => zft (zaY S K W n) (K.getD n 0) (W.getD n 0)
theorem zdQ {S : List Int} (h : okL S) (K W : List Int) : ∀ n,okL (zaY S K W n)
 | 0 => h
 | n + 1 => roundL_ok (zdQ h K W n) _ _
theorem zef {S : List Int} (h : S.length = 8) (K W : List Int) : ∀ n,(zaY S K W n).length = 8
 | 0 => h
 | _ + 1 => rfl
def zc1 (S H : List Int) (k : Nat) : List Int := (List.range 8).map fun j => if j < k then zcF (S.getD j 0 + H.getD j 0) else S.getD j 0
theorem zcL (S H : List Int) (k : Nat) : (zc1 S H k).length = 8 := by simp [zc1]
theorem zc7 (S H : List Int) (k j : Nat) (hj : j < 8) : (zc1 S H k).getD j 0 = if j < k then zcF (S.getD j 0 + H.getD j 0) else S.getD j 0 := by
 rw [zc1,List.getD_eq_getElem?_getD,List.getElem?_map,List.getElem?_range hj];rfl
theorem zgp {A B : List Int} (ha : A.length = 8) (hb : B.length = 8) (h : ∀ j,j < 8 → A.getD j 0 = B.getD j 0) : A = B := by
 apply List.ext_getElem (by rw [ha,hb])
 intro i h1 h2
 have := h i (by omega)
 rwa [List.getD_eq_getElem?_getD,List.getD_eq_getElem?_getD,List.getElem?_eq_getElem h1,List.getElem?_eq_getElem h2] at this
theorem sumsL_zero {S : List Int} (h : S.length = 8) (H : List Int) : zc1 S H 0 = S :=
 zgp (zcL _ _ _) h (fun j hj => by rw [zc7 _ _ _ _ hj,if_neg (by omega)])
theorem getD_set (L : List Int) (k j : Nat) (v : Int) (hk : k < L.length) : (L.set k v).getD j 0 = if j = k then v else L.getD j 0 := by
 rw [List.getD_eq_getElem?_getD,List.getElem?_set]
 by_cases h : k = j
 ·subst h;rw [if_pos rfl,if_pos hk,if_pos rfl];rfl
 ·rw [if_neg h,if_neg (Ne.symm h),← List.getD_eq_getElem?_getD]
theorem sumsL_step (S H : List Int) (k : Nat) (hk : k < 8) : (zc1 S H k).set k (zcF (S.getD k 0 + H.getD k 0)) = zc1 S H (k + 1) := by
 refine zgp (by rw [List.length_set,zcL]) (zcL _ _ _) (fun j hj => ?_)
 rw [getD_set _ _ _ _ (by rw [zcL];exact hk),zc7 _ _ _ _ hj,zc7 _ _ _ _ hj]
 by_cases h : j = k
 ·subst h;rw [if_pos rfl,if_pos (by omega)]
 ·rw [if_neg h]
  by_cases h2 : j < k
  ·rw [if_pos h2,if_pos (by omega)]
  ·rw [if_neg h2,if_neg (by omega)]
def zeP (S K : List Int) (b : ByteArray) : List Int := zc1 (zaY S K (zJ b 48) 64) S 8
theorem zdA (S K : List Int) (b : ByteArray) : (zeP S K b).length = 8 := zcL _ _ _
theorem mixL_ok (S K : List Int) (b : ByteArray) : okL (zeP S K b) := fun i => by
 rcases Nat.lt_or_ge i 8 with h | h
 ·rw [zeP,zc7 _ _ _ _ h,if_pos h];exact zf7 _
 ·rw [List.getD_eq_getElem?_getD,List.getElem?_eq_none (by rw [zdA];exact h)];simp [zbp]
def kL : List Int := [1116352408,1899447441,3049323471,3921009573,961987163,1508970993,2453635748,2870763221,3624381080,310598401,607225278,1426881987,1925078388,2162078206,2614888103,3248222580,3835390401,4022224774,264347078,604807628,770255983,1249150122,1555081692,1996064986,2554220882,2821834349,2952996808,3210313671,3336571891,3584528711,113926993,338241895,666307205,773529912,1294757372,1396182291,1695183700,1986661051,2177026350,2456956037,2730485921,2820302411,3259730800,3345764771,3516065817,3600352804,4094571909,275423344,430227734,506948616,659060556,883997877,958139571,1322822218,1537002063,1747873779,1955562222,2024104815,2227730452,2361852424,2428436474,2756734187,3204031479,3329325298]
def hL : List Int := [1779033703,3144134277,1013904242,2773480762,1359893119,2600822924,528734635,1541459225]
theorem hL_ok : okL hL := by
 refine zbi ?_ (zbi ?_ (zbi ?_ (zbi ?_ (zbi ?_ (zbi ?_ (zbi ?_ (zbi ?_ zhD))))))) <;> (constructor <;> decide)
def zeJ (n : Nat) : Bs := [UInt8.ofNat (n / 72057594037927936 % 256),UInt8.ofNat (n / 281474976710656 % 256),UInt8.ofNat (n / 1099511627776 % 256),UInt8.ofNat (n / 4294967296 % 256),UInt8.ofNat (n / 16777216 % 256),UInt8.ofNat (n / 65536 % 256),UInt8.ofNat (n / 256 % 256),UInt8.ofNat (n % 256)]
def zcE (n : Nat) : Nat := (119 - n % 64) % 64
def zd9 (s : Bs) : Bs := s ++ 128 :: (List.replicate (zcE s.length) 0 ++ zeJ (s.length * 8))
theorem zit (s : Bs) : ∃ m,(zd9 s).length = 64 * m := by
 refine ⟨(s.length + 9 + zcE s.length) / 64,?_⟩
 have : (zd9 s).length = s.length + 9 + zcE s.length := by simp [zd9,zeJ];omega
 rw [this];unfold zcE;omega
def zaS (p : ByteArray) : Nat → List Int
 | 0 => hL
 | i + 1 => zeP (zaS p i) kL (p.extract (64 * i) (64 * i + 64))
theorem zbm (p : ByteArray) : ∀ i,(zaS p i).length = 8
 | 0 => rfl
 | _ + 1 => zdA _ _ _
theorem zdI (p : ByteArray) : ∀ i,okL (zaS p i)
 | 0 => hL_ok
 | _ + 1 => mixL_ok _ _ _
def zcX (x : Int) : Bs := [UInt8.ofNat (x.toNat / 16777216 % 256),UInt8.ofNat (x.toNat / 65536 % 256),UInt8.ofNat (x.toNat / 256 % 256),UInt8.ofNat (x.toNat % 256)]
def zgH (s : ByteArray) : ByteArray := toB ((zaS (toB (zd9 (ofB s))) ((zd9 (ofB s)).length / 64)).flatMap zcX)
theorem zeX (l : List Int) : (l.flatMap zcX).length = 4 * l.length := by
 induction l with
 | nil => rfl
 | cons x l ih => rw [List.flatMap_cons,List.length_append,ih,List.length_cons];show 4 + _ = _;omega
theorem shaB_size (s : ByteArray) : (zgH s).size = 32 := by
 rw [zgH,zax,zeX,zbm]
def zK (L : List Int) : Array Value := (L.map (Value.int .u32)).toArray
theorem zaT (L : List Int) : (zK L).size = L.length := by simp [zK]
theorem zV (L : List Int) (i : Nat) (h : i < L.length) : (zK L)[i]? = some (.int .u32 (L.getD i 0)) := by
 rw [zK,List.getElem?_toArray,List.getElem?_map,List.getElem?_eq_getElem h,List.getD_eq_getElem?_getD,List.getElem?_eq_getElem h];rfl
theorem zfz (L : List Int) (i : Nat) (v : Int) : (zK L).setIfInBounds i (.int .u32 v) = zK (L.set i v) := by
 simp [zK,List.map_set]
theorem zfy (L : List Int) (h : L.length = 8) : zK L = #[.int .u32 (L.getD 0 0),.int .u32 (L.getD 1 0),.int .u32 (L.getD 2 0),.int .u32 (L.getD 3 0),.int .u32 (L.getD 4 0),.int .u32 (L.getD 5 0),.int .u32 (L.getD 6 0),.int .u32 (L.getD 7 0)] := by
 obtain ⟨a,b,c,d,e,f,g,k,rfl⟩ : ∃ a b c d e f g k,L = [a,b,c,d,e,f,g,k] := by
  match L,h with
  | [a,b,c,d,e,f,g,k],_ => exact ⟨a,b,c,d,e,f,g,k,rfl⟩
 rfl
def zbU (W : List Int) : List Int := W ++ List.replicate (64 - W.length) 0
theorem zdK {W : List Int} (h : W.length ≤ 64) : (zbU W).length = 64 := by simp [zbU];omega
theorem zgi {W : List Int} (i : Nat) (h : i < W.length) : (zbU W).getD i 0 = W.getD i 0 := by
 rw [zbU,List.getD_eq_getElem?_getD,List.getElem?_append_left h,← List.getD_eq_getElem?_getD]
theorem ziT {W : List Int} (h : W.length < 64) (v : Int) : (zbU W).set W.length v = zbU (W ++ [v]) := by
 rw [zbU,zbU,List.set_append_right _ _ (Nat.le_refl _),Nat.sub_self,List.length_append]
 obtain ⟨m,hm⟩ : ∃ m,64 - W.length = m + 1 := ⟨63 - W.length,by omega⟩
 rw [hm,List.replicate_succ,List.set_cons_zero,show 64 - (W.length + [v].length) = m by simp;omega]
 simp
theorem pow_pq (n : Nat) (h1 : n ≤ 32) : (2 : Int) ^ n * 2 ^ (32 - n) = 4294967296 := by
 rw [← Int.pow_add,show n + (32 - n) = 32 by omega];rfl
theorem zcz (n : Nat) : (0 : Int) < 2 ^ n := Int.pow_pos (by decide)
theorem rot32_ok (n : Nat) (h1 : n ≤ 32) {x : Int} (hx : zbp x) : zbp (zan n x) := by
 have hpq := pow_pq n h1
 have hp := zcz n
 have hq := zcz (32 - n)
 have h2 := Int.emod_nonneg x (Int.ne_of_gt hp)
 have h3 := Int.emod_lt_of_pos x hp
 have h4 : 0 ≤ x / 2 ^ n := Int.ediv_nonneg hx.1 (Int.le_of_lt hp)
 have h5 : x / 2 ^ n < 2 ^ (32 - n) := Int.ediv_lt_of_lt_mul hp (by rw [Int.mul_comm,hpq];exact hx.2)
 unfold zan
 generalize (2 : Int) ^ n = p at *
 generalize (2 : Int) ^ (32 - n) = q at *
 generalize x % p = m at *
 generalize x / p = d at *
 have h6 : m * q ≤ (p - 1) * q := Int.mul_le_mul_of_nonneg_right (by omega) (by omega)
 rw [Int.sub_mul,hpq,Int.one_mul] at h6
 have h7 : 0 ≤ m * q := Int.mul_nonneg h2 (by omega)
 unfold zbp;omega
theorem rot_join (n : Nat) (h1 : n ≤ 32) {x : Int} (hx : zbp x) : Go.bits .or .u32 (IntKind.u32.wrap (x * 2 ^ (32 - n))) (x / 2 ^ n) = zan n x := by
 have hpq := pow_pq n h1
 have hp := zcz n
 have hq := zcz (32 - n)
 have h2 := Int.emod_nonneg x (Int.ne_of_gt hp)
 have h3 := Int.emod_lt_of_pos x hp
 have h4 : 0 ≤ x / 2 ^ n := Int.ediv_nonneg hx.1 (Int.le_of_lt hp)
 have h5 : x / 2 ^ n < 2 ^ (32 - n) := Int.ediv_lt_of_lt_mul hp (by rw [Int.mul_comm,hpq];exact hx.2)
 have h8 : x / 2 ^ n < 4294967296 := by
  have : x / 2 ^ n ≤ x := Int.ediv_le_self _ hx.1
  have := hx.2;omega
 have e : IntKind.u32.wrap (x * 2 ^ (32 - n)) = x % 2 ^ n * 2 ^ (32 - n) := by
  rw [IntKind.wrap_u32,← hpq,Int.mul_comm x,Int.mul_comm (2 ^ n),Int.mul_emod_mul_of_pos _ _ hq,Int.mul_comm]
 have h6 : x % 2 ^ n * 2 ^ (32 - n) ≤ (2 ^ n - 1) * 2 ^ (32 - n) := Int.mul_le_mul_of_nonneg_right (by omega) (by omega)
 rw [Int.sub_mul,hpq,Int.one_mul] at h6
 have h7 : 0 ≤ x % 2 ^ n * 2 ^ (32 - n) := Int.mul_nonneg h2 (by omega)
 rw [e,bits_join .u32 32 (by decide) (fun n h0 h1 => by rw [IntKind.wrap_u32];omega) (32 - n) _ _ h7 (Int.mul_emod_left _ _) (by omega) h4 h5 (by omega),zan,Int.add_comm]
theorem ziD (n : Nat) (h0 : 1 ≤ n) (h1 : n ≤ 31) {x : Int} (hx : zbp x) : zgI.f x (n : Int) = some (zan n x) := by
 unfold zgI.f zcu.f
 have e1 : wrap64 (-(n : Int)) = -(n : Int) := z4 (by omega) (by omega)
 have e2 : IntKind.u64.wrap (-(n : Int)) = 18446744073709551616 - (n : Int) := by
  show (-(n : Int)) % 18446744073709551616 = _
  omega
 have e3 : Go.bits .and .u64 (18446744073709551616 - (n : Int)) 31 = ((32 - n : Nat) : Int) := by
  have := bits_mask .u64 64 (by decide) (fun n h0 h1 => zb6 h0 (by omega)) 5 (by decide) (18446744073709551616 - (n : Int)) (by omega) (by omega)
  rw [show ((2 : Int) ^ 5 - 1) = 31 from rfl,show (2 : Int) ^ 5 = 32 from rfl] at this
  rw [this];omega
 have e4 : IntKind.u64.wrap (32 - ((32 - n : Nat) : Int)) = (n : Int) := by rw [zb6 (by omega) (by omega)];omega
 rw [e1,e2,e3,e4,if_pos (by omega),if_pos (by omega)]
 simp only [Option.bind_some]
 congr 1
 unfold shl shr
 rw [Int.toNat_natCast,Int.toNat_natCast,Nat.min_eq_left (by show 32 - n ≤ 32;omega),Nat.min_eq_left (by show n ≤ 32;omega)]
 exact rot_join n (by omega) hx
theorem refTurn_l1 (x n p low : Int) (hp : p ≠ 0) (m : Nat) (hm : wrap64 (32 - n) = m) (d : Nat) : ∀ j : Nat,j + d = m → m ≤ 32 → 0 ≤ low → low * 2 ^ m < 4294967296 → Ev (fun k => zP.l1 k x n p (low * 2 ^ j) (j : Int)) (((Int.tdiv x p % 4294967296) + low * 2 ^ m) % 4294967296) := by
 induction d with
 | zero =>
  intro j hj hm2 h0 h1
  obtain rfl : j = m := by omega
  refine Ev.step (fun k => by rw [zP.l1]) ?_
  rw [hm]
  exact zS (by omega) (zS hp (Ev.now _))
 | succ d ih =>
  intro j hj hm2 h0 h1
  refine Ev.step (fun k => by rw [zP.l1]) ?_
  rw [hm]
  refine zE (by omega) ?_
  have h2 : low * 2 ^ (j + 1) ≤ low * 2 ^ m := Int.mul_le_mul_of_nonneg_left (by exact_mod_cast Nat.pow_le_pow_right (by omega) (by omega)) h0
  have h3 : 0 ≤ low * 2 ^ (j + 1) := Int.mul_nonneg h0 (Int.le_of_lt (zcz _))
  have e1 : low * 2 ^ j * 2 % 4294967296 = low * 2 ^ (j + 1) := by
   rw [Int.mul_assoc,← Int.pow_succ]
   show low * 2 ^ (j + 1) % 4294967296 = low * 2 ^ (j + 1)
   omega
  rw [e1,z4 (by omega) (by omega)]
  exact ih (j + 1) (by omega) hm2 h0 h1
theorem refTurn_l0 (x : Int) (n : Nat) (hn : n ≤ 31) (r : Int) (hr : Ev (fun k => zP.l1 k x n (2 ^ n) (Int.tmod x (2 ^ n)) 0) r) (d : Nat) : ∀ j : Nat,j + d = n → Ev (fun k => zP.l0 k x (n : Int) (2 ^ j) (j : Int)) r := by
 induction d with
 | zero =>
  intro j hj
  obtain rfl : j = n := by omega
  refine Ev.step (fun k => by rw [zP.l0]) ?_
  exact zS (by omega) (zS (Int.ne_of_gt (zcz _)) hr)
 | succ d ih =>
  intro j hj
  refine Ev.step (fun k => by rw [zP.l0]) ?_
  refine zE (by omega) ?_
  have h2 : (2 : Int) ^ (j + 1) ≤ 2 ^ 31 := by exact_mod_cast Nat.pow_le_pow_right (by omega : 0 < 2) (by omega : j + 1 ≤ 31)
  have h3 : (2 : Int) ^ 31 = 2147483648 := rfl
  have h4 := zcz (j + 1)
  have e1 : (2 : Int) ^ j * 2 % 4294967296 = 2 ^ (j + 1) := by
   rw [← Int.pow_succ];omega
  rw [e1,z4 (by omega) (by omega)]
  exact ih (j + 1) (by omega)
theorem refTurn_ev (n : Nat) (h0 : 1 ≤ n) (h1 : n ≤ 31) {x : Int} (hx : zbp x) : Ev (fun k => zP.f k x (n : Int)) (zan n x) := by
 have hpq := pow_pq n (by omega)
 have hp := zcz n
 have hq := zcz (32 - n)
 have h2 := Int.emod_nonneg x (Int.ne_of_gt hp)
 have h3 := Int.emod_lt_of_pos x hp
 have h6 : x % 2 ^ n * 2 ^ (32 - n) ≤ (2 ^ n - 1) * 2 ^ (32 - n) := Int.mul_le_mul_of_nonneg_right (by omega) (by omega)
 rw [Int.sub_mul,hpq,Int.one_mul] at h6
 have hl := refTurn_l1 x n (2 ^ n) (x % 2 ^ n) (Int.ne_of_gt hp) (32 - n) (by rw [z4 (by omega) (by omega)];omega) (32 - n) 0 (by omega) (by omega) h2 (by omega)
 rw [Int.pow_zero,Int.mul_one] at hl
 rw [← Int.tmod_eq_emod_of_nonneg hx.1] at hl
 have := refTurn_l0 x n h1 _ hl n 0 (by omega)
 rw [Int.pow_zero] at this
 refine zad this ?_
 have ok := rot32_ok n (by omega) hx
 rw [Int.tmod_eq_emod_of_nonneg hx.1,Int.tdiv_eq_ediv_of_nonneg hx.1]
 have h4 : 0 ≤ x / 2 ^ n := Int.ediv_nonneg hx.1 (Int.le_of_lt hp)
 have h8 : x / 2 ^ n < 4294967296 := by
  have : x / 2 ^ n ≤ x := Int.ediv_le_self _ hx.1
  have := hx.2;omega
 rw [Int.emod_eq_of_lt h4 h8]
 exact Int.emod_eq_of_lt ok.1 ok.2
theorem refOver_l0 (n : Nat) (hn : n ≤ 31) (d : Nat) : ∀ (j : Nat) (x : Int),j + d = n → zbp x → Ev (fun k => zae.l0 k x (n : Int) (j : Int)) (x / 2 ^ d) := by
 induction d with
 | zero =>
  intro j x hj hx
  refine Ev.step (fun k => by rw [zae.l0]) ?_
  exact zS (by omega) (zad (Ev.now _) (by simp))
 | succ d ih =>
  intro j x hj hx
  refine Ev.step (fun k => by rw [zae.l0]) ?_
  refine zE (by omega) ?_
  obtain ⟨x0,x1⟩ := hx
  have e1 : Int.tdiv x 2 % 4294967296 = x / 2 := by rw [Int.tdiv_eq_ediv_of_nonneg x0];omega
  rw [e1,z4 (by omega) (by omega)]
  refine zad (ih (j + 1) (x / 2) (by omega) ⟨by omega,by omega⟩) ?_
  rw [Int.pow_succ,Int.mul_comm,← Int.ediv_ediv_of_nonneg (by decide)]
theorem refOver_ev (n : Nat) (hn : n ≤ 31) {x : Int} (hx : zbp x) : Ev (fun k => zae.f k x (n : Int)) (x / 2 ^ n) := refOver_l0 n hn n 0 x (by omega) hx
end Go.Proofs.YtndjfdakflaggaaGreat.Px