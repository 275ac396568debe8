/- Part 12 of 30 of the proof of the law DagPasts: what is proved is the statement at the end of the last part; its conditions are those of the given row. -/
import Derived.Test.YtndjfdakflaggaaZDagPastsK
namespace Go.Proofs.Ytndjfdakflaggaa.Px
open Go.RowKit Go.Proofs.YtndjfdakflaggaaW.PrintWords Go.Proofs.YtndjfdakflaggaaW.PrintLast Go.Proofs.YtndjfdakflaggaaW.PrintMore
attribute [local go_sem] zt zv zA zB zq zr zu zw
set_option linter.unusedVariables false
set_option linter.unusedSimpArgs false
def zdh (a r : Int) (bs : List S78) (ps : List ByteArray) (x y : Int) : Bs :=
 zdl a.toNat ++ zdl r.toNat ++ zc4 (bs.map bB) ++ zc4 ps ++ zdl x.toNat ++ zdl y.toNat
theorem zdo (a r : Int) (bs : List S78) (ps : List ByteArray) (x y n : Int) : zbm a r bs ps x y n = true ↔ zdU n = true ∧ 1 ≤ a ∧ a ≤ n ∧ 1 ≤ r ∧ r ≤ 1048576 ∧ bs.length ≤ 4 ∧ bs.any (zeq n) = false ∧ zhM x y = true ∧ (zfN r = true ∨ x = 0 ∧ y = 0) ∧ zbX ps r n = true := by
 unfold zbm
 simp [and_assoc]
theorem zhu (l : List ByteArray) (d : Nat) : ∀ j,zcH l d j = true → ∀ i,j ≤ i → i < j + d → (l.getD i ByteArray.empty).size = 32 := by
 induction d with
 | zero => intro j _ i h1 h2;omega
 | succ d ih =>
  intro j h i h1 h2
  rw [zcH,Bool.and_eq_true] at h
  rcases Nat.lt_or_ge j i with h3 | h3
  ·exact ih (j + 1) h.2 i (by omega) (by omega)
  ·obtain rfl : i = j := by omega
   have := h.1
   rw [ziT,Bool.and_eq_true] at this
   exact of_decide_eq_true this.1
theorem zbY {l : List ByteArray} {r n : Int} (hn : zdU n = true) (h : zbX l r n = true) : l.length ≤ 64 ∧ ∀ t ∈ l,t.size = 32 := by
 unfold zbX at h
 split at h
 ·have h0 := of_decide_eq_true h
  obtain rfl := List.eq_nil_of_length_eq_zero h0
  simp
 ·obtain ⟨_,h2,_⟩ := (zcZ n).1 hn
  rw [Bool.and_eq_true,Bool.and_eq_true] at h
  have h3 := of_decide_eq_true h.2
  refine ⟨by omega,fun t ht => ?_⟩
  obtain ⟨i,hi,rfl⟩ := List.mem_iff_getElem.1 ht
  have := zhu l l.length 0 h.1.1 i (by omega) (by omega)
  rwa [List.getD_eq_getElem?_getD,List.getElem?_eq_getElem hi] at this
theorem bB_size (b : S78) : (bB b).size ≤ 400 := by
 unfold bB
 split
 ·rename_i h
  obtain ⟨h1,h2,h3,h4,h5,h6,h7⟩ := (zhd _ _ _).1 h
  have r1 := zec b.f2 48 (by omega) (fun t ht => (h7 t ht).2)
  have r2 := zaN (v := b.f2.length) (by omega)
  have r4 := zaN (v := b.f0.toNat) (by omega)
  have r5 := zaN (v := b.f1.toNat) (by omega)
  rw [zb2,zgl,List.length_append,List.length_append,zc4,List.length_append];omega
 ·show 0 ≤ 400;omega
theorem zig {bs : List S78} (h : bs.length ≤ 4) : (zc4 (bs.map bB)).length ≤ 1700 := by
 have r1 := zec (bs.map bB) 400 (by omega) (fun t ht => by obtain ⟨b,_,rfl⟩ := List.mem_map.1 ht;exact bB_size b)
 rw [List.length_map] at r1
 have r2 := zaN (v := (bs.map bB).length) (by rw [List.length_map];omega)
 rw [zc4,List.length_append];omega
theorem zih {ps : List ByteArray} (h : ps.length ≤ 64 ∧ ∀ t ∈ ps,t.size = 32) : (zc4 ps).length ≤ 2700 := by
 have r1 := zec ps 32 (by omega) (fun t ht => by have := h.2 t ht;omega)
 have r2 := zaN (v := ps.length) (by have := h.1;omega)
 rw [zc4,List.length_append];have := h.1;omega
theorem rd_four (a b c d : ByteArray) : zz ByteArray.empty [a,b,c,d] 0 = a ∧ zz ByteArray.empty [a,b,c,d] 1 = b ∧ zz ByteArray.empty [a,b,c,d] 2 = c ∧ zz ByteArray.empty [a,b,c,d] 3 = d := ⟨rfl,rfl,rfl,rfl⟩
theorem zeV (a r : Int) (bs : List S78) (ps : List ByteArray) (x y n : Int) :
  zag.f a r bs ps x y n = some (if zbm a r bs ps x y n = true then (toB (zdh a r bs ps x y),0) else ((⟨#[]⟩ : ByteArray),1)) := by
 unfold zag.f
 rw [show zaj.f a r bs ps x y n = some (zbm a r bs ps x y n) from rfl]
 simp only [Option.bind_some]
 by_cases h : zbm a r bs ps x y n = true
 ·rw [if_pos h,if_pos h]
  obtain ⟨h0,h1,h2,h3,h4,h5,h6,h7,h8,h9⟩ := (zdo ..).1 h
  obtain ⟨k1,k2,k3⟩ := (zcZ n).1 h0
  obtain ⟨x1,x2,y1,y2⟩ := (zfp x y).1 h7
  have e1 : zap.f bs = some (bs.map bB) := if_pos h5
  have e2 : zad.f [a,r,x,y] = some [zbr a.toNat,zbr r.toNat,zbr x.toNat,zbr y.toNat] := by
   rw [zad.f,if_pos]
   ·rfl
   ·refine ⟨Nat.le_refl 4,fun k hk => ?_⟩
    simp only [List.mem_cons,List.not_mem_nil,or_false] at hk
    rcases hk with rfl | rfl | rfl | rfl <;> omega
  have s0 := zbP (v := a.toNat) (by omega)
  have s1 := zbP (v := r.toNat) (by omega)
  have s2 := zbP (v := x.toNat) (by omega)
  have s3 := zbP (v := y.toNat) (by omega)
  have r1 := zig h5
  have r2 := zih (zbY h0 h9)
  have d1 : zK.f (bs.map bB) = some (toB (zc4 (bs.map bB))) := if_pos (by omega)
  have d2 : zK.f ps = some (toB (zc4 ps)) := if_pos (by omega)
  rw [e1,e2]
  simp only [Option.bind_some,d1,d2]
  obtain ⟨q0,q1,q2,q3⟩ := rd_four (zbr a.toNat) (zbr r.toNat) (zbr x.toNat) (zbr y.toNat)
  rw [q0,q1,q2,q3]
  simp only [ByteArray.size_append,zb2]
  rw [if_pos (by simp),if_pos (by simp),if_pos (by omega),if_pos (by omega),if_pos (by omega),if_pos (by simp),if_pos (by omega),if_pos (by simp),if_pos (by omega)]
  simp only [zdh,zbr,zbK]
 ·rw [if_neg h,if_neg h]
instance decBatch : DecidableEq S78 := fun a b => decidable_of_iff (a.f0 = b.f0 ∧ a.f1 = b.f1 ∧ a.f2 = b.f2) ⟨fun ⟨h0,h1,h2⟩ => by obtain ⟨a0,a1,a2⟩ := a;obtain ⟨b0,b1,b2⟩ := b;simp only at h0 h1 h2;rw [h0,h1,h2],fun h => by rw [h];exact ⟨rfl,rfl,rfl⟩⟩
theorem zeI (l : List S78) (j : Nat) (h : j < l.length) : zQ l (j : Int) = l[j] := by
 rw [zQ,Int.toNat_natCast,List.getD_eq_getElem?_getD,List.getElem?_eq_getElem h];rfl
theorem zeR (a b : List S78) (hl : a.length = b.length) (hb : a.length < 4611686018427387904) (hs : ∀ x ∈ a,x.f2.length < 4611686018427387904) (d : Nat) : ∀ j,j + d = a.length →
  Ev (fun k => zy.l0 k a b (j : Int)) (decide (a.drop j = b.drop j)) := by
 induction d with
 | zero =>
  intro j hj
  refine Ev.step (fun k => by rw [zy.l0]) ?_
  refine zU (by omega) (zah (Ev.now _) ?_)
  rw [List.drop_eq_nil_of_le (by omega),List.drop_eq_nil_of_le (by omega)];rfl
 | succ d ih =>
  intro j hj
  have ha : j < a.length := by omega
  have hb' : j < b.length := by omega
  refine Ev.step (fun k => by rw [zy.l0]) ?_
  refine zF (by omega) (zF (by omega) (zF (by omega) ?_))
  rw [zeI a j ha,zeI b j hb']
  refine Ev.bind (zeP _ _ _ _ _ _ (hs _ (List.getElem_mem ha))) ?_
  rw [zak (by omega) (by omega),List.drop_eq_getElem_cons ha,List.drop_eq_getElem_cons hb']
  by_cases e : a[j] = b[j]
  ·refine zF (by rw [e];simp [zda]) (zah (ih (j + 1) (by omega)) ?_)
   rw [e];exact decide_eq_decide.2 ⟨fun h => by rw [h],fun h => (List.cons.inj h).2⟩
  ·refine zU ?_ (zah (Ev.now _) ?_)
   ·intro hh
    apply e
    obtain ⟨h0,h1,h2⟩ := of_decide_eq_true hh
    generalize a[j] = p at *
    generalize b[j] = q at *
    obtain ⟨p0,p1,p2⟩ := p;obtain ⟨q0,q1,q2⟩ := q
    simp only at h0 h1 h2;rw [h0,h1,h2]
   ·exact (decide_eq_false (fun h => e (List.cons.inj h).1)).symm
theorem zfX (a b : List S78) (hb : a.length < 4611686018427387904) (hs : ∀ x ∈ a,x.f2.length < 4611686018427387904) : Ev (fun k => zy.f k a b) (decide (a = b)) := by
 by_cases h : a.length = b.length
 ·exact zF (by omega) (zeR a b h hb hs a.length 0 (by omega))
 ·refine zU (by omega) (zah (Ev.now _) ?_)
  have : ¬ a = b := fun e => h (by rw [e])
  simp [this]
def zbt (a r : Int) (bs : List S78) (ps : List ByteArray) (x y a' r' : Int) (bs' : List S78) (ps' : List ByteArray) (x' y' : Int) : Bool := decide (a = a' ∧ r = r' ∧ bs = bs' ∧ ps = ps' ∧ x = x' ∧ y = y')
theorem zev (a r : Int) (bs : List S78) (ps : List ByteArray) (x y a' r' : Int) (bs' : List S78) (ps' : List ByteArray) (x' y' : Int) (hb : bs.length < 4611686018427387904) (hs : ∀ b ∈ bs,b.f2.length < 4611686018427387904) (hp : ps.length < 4611686018427387904) :
  Ev (fun k => zaI.f k a r bs ps x y a' r' bs' ps' x' y') (zbt a r bs ps x y a' r' bs' ps' x' y') := by
 refine Ev.bind (zfE _ _ hp) (Ev.bind (zfX _ _ hb hs) ?_)
 unfold zbt
 by_cases h1 : ps = ps'
 ·refine zF (by simp [h1]) ?_
  by_cases h2 : bs = bs'
  ·refine zF (by simp [h2]) ?_
   by_cases h3 : a = a'
   ·refine zF h3 ?_
    by_cases h4 : r = r'
    ·refine zF h4 (zah (Ev.now _) ?_)
     by_cases h5 : x = x' <;> by_cases h6 : y = y' <;> simp [h1,h2,h3,h4,h5,h6]
    ·exact zU h4 (zah (Ev.now _) (by simp [h4]))
   ·exact zU h3 (zah (Ev.now _) (by simp [h3]))
  ·exact zU (by simp [h2]) (zah (Ev.now _) (by simp [h2]))
 ·exact zU (by simp [h1]) (zah (Ev.now _) (by simp [h1]))
theorem zb3 {a r : Int} {bs : List S78} {ps : List ByteArray} {x y a' r' : Int} {bs' : List S78} {ps' : List ByteArray} {x' y' : Int} : zbt a r bs ps x y a' r' bs' ps' x' y' = true ↔ a = a' ∧ r = r' ∧ bs = bs' ∧ ps = ps' ∧ x = x' ∧ y = y' := by
 rw [zbt,decide_eq_true_iff]
theorem zhY {s : ByteArray} (h : s.size ≤ 10000) : zcg.f s = some (zhX s) := by rw [zcg.f,if_pos (by omega)]
theorem one_size (b : UInt8) (s : ByteArray) : ((⟨#[b]⟩ : ByteArray) ++ s).size = 1 + s.size := by rw [ByteArray.size_append];rfl
theorem zgO {a r : Int} {bs : List S78} {ps : List ByteArray} {x y n : Int} (h : zbm a r bs ps x y n = true) : (toB (zdh a r bs ps x y)).size ≤ 5000 := by
 obtain ⟨h0,h1,h2,h3,h4,h5,h6,h7,h8,h9⟩ := (zdo ..).1 h
 obtain ⟨k1,k2,k3⟩ := (zcZ n).1 h0
 obtain ⟨x1,x2,y1,y2⟩ := (zfp x y).1 h7
 have r1 := zig (bs := bs) (by omega)
 have r2 := zih (zbY h0 h9)
 have r3 := zaN (v := a.toNat) (by omega)
 have r4 := zaN (v := r.toNat) (by omega)
 have r5 := zaN (v := x.toNat) (by omega)
 have r6 := zaN (v := y.toNat) (by omega)
 rw [zb2,zdh]
 simp only [List.length_append]
 omega
def zY (a r : Int) (bs : List S78) (ps : List ByteArray) (x y n : Int) : ByteArray × Int := if zbm a r bs ps x y n = true then (zhX ((⟨#[118]⟩ : ByteArray) ++ toB (zdh a r bs ps x y)),0) else ((⟨#[]⟩ : ByteArray),1)
theorem zc6 (a r : Int) (bs : List S78) (ps : List ByteArray) (x y n : Int) : zaL.f a r bs ps x y n = some (zY a r bs ps x y n) := by
 unfold zaL.f zY
 rw [zeV]
 simp only [Option.bind_some]
 by_cases h : zbm a r bs ps x y n = true
 ·have hs := zgO h
  rw [if_pos h,if_pos h,if_pos rfl,if_pos (by show 1 + (toB (zdh a r bs ps x y)).size ≤ _;omega)]
  show (zcg.f ((⟨#[118]⟩ : ByteArray) ++ toB (zdh a r bs ps x y))).bind _ = _
  rw [zhY (by rw [one_size];omega)]
  rfl
 ·rw [if_neg h,if_neg h,if_neg (by simp)]
abbrev Ent := S34
abbrev Vtx := S32
abbrev TE := ByteArray × Int × Int × List S78 × List ByteArray × Int × Int × Bool
def zbV (L : List Ent) (low r : Int) (ps : List ByteArray) : List ByteArray := if wrap64 (r - 1) ≤ low then [] else ps.filter fun p => !L.any fun x => decide (x.f1.f1 = wrap64 (r - 1) ∧ x.f0 = p)
def tupE (x : Ent) : TE := (x.f0,x.f1.f0,x.f1.f1,x.f1.f2,x.f1.f3,x.f1.f4.f0,x.f1.f4.f1,true)
def noE : TE := ((⟨#[]⟩ : ByteArray),0,0,[],[],0,0,false)
def zb7 (L : List Ent) (g : ByteArray) : Option Ent := L.find? fun x => decide (x.f0 = g)
def byE (L : List Ent) (a r : Int) : Option Ent := L.find? fun x => decide (x.f1.f0 = a ∧ x.f1.f1 = r)
def zfh (o : Option Ent) : TE := match o with | some x => tupE x | none => noE
def za4 (a r a' r' : Int) : Bool := decide (r < r' ∨ r = r' ∧ a < a')
def zet (L : List Ent) (x : Ent) : List Ent := match L with
 | [] => [x]
 | y :: L => if za4 x.f1.f0 x.f1.f1 y.f1.f0 y.f1.f1 = true then x :: y :: L else y :: zet L x
def zeW (n low : Int) (L : List Ent) (a r : Int) (bs : List S78) (ps : List ByteArray) (x y : Int) : Int :=
 if (zY a r bs ps x y n).2 ≠ 0 then (zY a r bs ps x y n).2
 else if r ≤ low then 9
 else if (zb7 L (zY a r bs ps x y n).1).isSome then 8
 else if (byE L a r).isSome then 13
 else if 0 < (zbV L low r ps).length then 11
 else 0
def zim (n low : Int) (L : List Ent) (a r : Int) (bs : List S78) (ps : List ByteArray) (x y : Int) : List Ent :=
 if zeW n low L a r bs ps x y = 0 then zet L ⟨(zY a r bs ps x y n).1,⟨a,r,bs,ps,⟨x,y⟩⟩⟩ else L
def okE (n low : Int) (L : List Ent) (i : Nat) (x : Ent) : Bool :=
 (decide ((zY x.f1.f0 x.f1.f1 x.f1.f2 x.f1.f3 x.f1.f4.f0 x.f1.f4.f1 n).2 = 0) && decide ((zY x.f1.f0 x.f1.f1 x.f1.f2 x.f1.f3 x.f1.f4.f0 x.f1.f4.f1 n).1 = x.f0) && decide (low < x.f1.f1) && decide ((zbV L low x.f1.f1 x.f1.f3).length = 0)) && (decide (i = 0) || za4 (L.getD (i - 1) z34).f1.f0 (L.getD (i - 1) z34).f1.f1 x.f1.f0 x.f1.f1)
def zb0 (n low : Int) (L : List Ent) : Bool := zdU n && decide (0 ≤ low) && (List.range L.length).all fun i => okE n low L i (L.getD i z34)
theorem ent_at {W : World} {base : Nat} {ok : Nat → Prop} {A : Option Addr} {n c : Nat} {L : List Ent} (h : Kd.V k34 34 W base ok (.slice A n c) L) (k : Nat) (hk : k < n) (x : Ent) (hx : L[k]? = some x) :
  ∃ ad A3 c3 A4 c4,A = some ad ∧ W.cell? (ad.add (k * 7)) = some (.string x.f0) ∧ W.cell? ⟨(ad.add (k * 7)).block,(ad.add (k * 7)).off + 1,none⟩ = some (.int .i64 x.f1.f0) ∧ W.cell? ⟨(ad.add (k * 7)).block,(ad.add (k * 7)).off + 2,none⟩ = some (.int .i64 x.f1.f1) ∧ W.cell? ⟨(ad.add (k * 7)).block,(ad.add (k * 7)).off + 3,none⟩ = some (.slice A3 x.f1.f2.length c3) ∧ W.cell? ⟨(ad.add (k * 7)).block,(ad.add (k * 7)).off + 4,none⟩ = some (.slice A4 x.f1.f3.length c4) ∧ W.cell? ⟨(ad.add (k * 7)).block,(ad.add (k * 7)).off + 5,none⟩ = some (.int .i64 x.f1.f4.f0) ∧ W.cell? ⟨(ad.add (k * 7)).block,(ad.add (k * 7)).off + 6,none⟩ = some (.int .i64 x.f1.f4.f1) ∧
   Kd.V k78 78 W base ok (.slice A3 x.f1.f2.length c3) x.f1.f2 ∧ Kd.V Kd.string 9 W base ok (.slice A4 x.f1.f3.length c4) x.f1.f3 := by
 obtain rfl := (Kd.V_reads' h).1
 obtain ⟨ad,_,_,_,_,rfl,_⟩ := zai (Kd.V_reads' h).2.2 (k : Int) (by omega) (by omega)
 obtain ⟨cs,_,hF,hc0⟩ := Kd.V_get h z34 (k : Int) (by omega) (by omega)
 rw [List.getD_eq_getElem?_getD,Int.toNat_natCast,hx] at hF
 have hc : ∀ j u,cs[j]? = some u → W.cell? (ad.add (k * 7 + j)) = some u := fun j u hj => by have := hc0 j u hj;rwa [Int.toNat_natCast] at this
 obtain ⟨A3,c3,A4,c4,rfl,l3,g3,l4,g4⟩ := zbo hF
 exact ⟨ad,A3,c3,A4,c4,rfl,hc 0 _ rfl,by rw [← zO _ _ 1 (by omega)];exact hc 1 _ rfl,by rw [← zO _ _ 2 (by omega)];exact hc 2 _ rfl,by rw [← zO _ _ 3 (by omega)];exact hc 3 _ rfl,by rw [← zO _ _ 4 (by omega)];exact hc 4 _ rfl,by rw [← zO _ _ 5 (by omega)];exact hc 5 _ rfl,by rw [← zO _ _ 6 (by omega)];exact hc 6 _ rfl,Kd.V_mk l3 g3,Kd.V_mk l4 g4⟩
theorem zf7 {α : Type} (p : α → Bool) (l : List α) : (∃ (i : Nat) (x : α),i < l.length ∧ l[i]? = some x ∧ l.find? p = some x ∧ zcp p l = i) ∨ (l.find? p = none ∧ zcp p l = -1) := by
 rw [zcp]
 rcases h : l.findIdx? p with _ | i
 ·right
  rw [List.findIdx?_eq_none_iff] at h
  exact ⟨List.find?_eq_none.2 (fun x hx => by simp [h x hx]),rfl⟩
 ·left
  rw [List.findIdx?_eq_some_iff_getElem] at h
  obtain ⟨hi,hp,hn⟩ := h
  refine ⟨i,l[i],hi,List.getElem?_eq_getElem hi,?_,rfl⟩
  rw [List.find?_eq_some_iff_getElem]
  exact ⟨hp,i,hi,rfl,fun j hj => by simpa using hn j hj⟩
def z9.p (s : ByteArray) (x : S34) : Bool := decide (x.f0 = s)
set_option maxHeartbeats 4000000 in
set_option maxRecDepth 100000 in
theorem z9.odd (s : ByteArray) (x0 : ByteArray) (x1 x2 : Int) (A3 : Option Addr) (n3 c3 : Nat) (A4 : Option Addr) (n4 c4 : Nat) (x5 x6 : Int) (g : Nat) (w : World) (hg : w.heap[g]? = some (.cells #[.string s] 9 (0,0))) :
  Calls Try.prog 24 #[.agg #[.string x0,.int .i64 x1,.int .i64 x2,.slice A3 n3 c3,.slice A4 n4 c4,.int .i64 x5,.int .i64 x6],.pointer (some ⟨g,0,none⟩)] w fun e w' => e = .returned (.bool (decide (x0 = s))) ∧ Below w.heap.size w w' := by
 have Hg := za.mk hg
 clear hg
 go_enter Try.func24,Try.ntmps24
 go_wp2_with ((with_reducible refine zp (N := 2) rfl ?_);refine zn rfl (N := 2) rfl (cs := #[.string x0,.int .i64 x1,.int .i64 x2,.slice A3 n3 c3,.slice A4 n4 c4,.int .i64 x5,.int .i64 x6]) (t := 34) hrq ?_;intro gb hg w2 hbox hb;have BK := za.mk hbox;have HB := za.mk hb;have Ng := za.mk (zo Hg.out hb);have z_0 := (zb BK.out 0).trans rfl;have zf_0 := zc BK.out 0;have z_1 := (zb BK.out 1).trans rfl;have zf_1 := zc BK.out 1;have z_2 := (zb BK.out 2).trans rfl;have zf_2 := zc BK.out 2;have z_3 := (zb BK.out 3).trans rfl;have zf_3 := zc BK.out 3;have z_4 := (zb BK.out 4).trans rfl;have zf_4 := zc BK.out 4;have z_5 := (zb BK.out 5).trans rfl;have zf_5 := zc BK.out 5;have z_6 := (zb BK.out 6).trans rfl;have zf_6 := zc BK.out 6;have zg_0 := (zb Ng.out 0).trans rfl;have zgf_0 := zc Ng.out 0;clear hb hbox hg)
 go_ret
 exact ⟨by rw [← zbG];rfl,HB.out⟩
set_option maxHeartbeats 4000000 in
set_option maxRecDepth 100000 in
theorem z9.idx (s : ByteArray) (g : Nat) (A : Option Addr) (c : Nat) (l : List S34) (w : World) (hr : Kd.C k34 w A l.length l) (hg : w.heap[g]? = some (.cells #[.string s] 9 (0,0))) :
  Calls Try.prog 34 #[.slice A l.length c,.func (.func 24) #[] #[.pointer (some ⟨g,0,none⟩)]] w fun e w' => e = .returned (.int .i64 (zcp (z9.p s) l)) ∧ Below w.heap.size w w' := by
 have hm := hr.2.1
 have HR := za.mk hr
 have Hg := za.mk hg
 clear hr hg
 go_enter Try.func34,Try.ntmps34
 go_wp2_with fail
 have HB0 := za.mk (Below.refl w.heap.size w)
 go_loopw [5,8] (fun v5 v8 wr => ∃ k : Nat,v8 = .int .i64 k ∧ k ≤ l.length ∧ za (∀ (j : Nat) (y : S34),j < k → l[j]? = some y → z9.p s y = false) ∧ za (Below w.heap.size w wr)) (fun _ v8 _ => l.length - (match v8 with | .int _ q => q | _ => 0).toNat)
 case atStart => exact ⟨0,rfl,Nat.zero_le _,⟨fun j y hj => absurd hj (Nat.not_lt_zero _)⟩,⟨by repeat (first | (with_reducible first | exact HB0.out | apply zi | apply zl | apply zx) | exact HB0.out)⟩⟩
 case round =>
  obtain ⟨k,rfl,hk,HF,HB⟩ := hrel
  by_cases hlt : k < l.length
  ·obtain ⟨ad,A3,c3,A4,c4,rfl,hx0,hx1,hx2,hx3,hx4,hx5,hx6,_,_,_,_⟩ := zai HR.out (k : Int) (by omega) (by omega)
   replace hx0 := (HB.out.cell (World.block_lt_of_cell? w _ hx0)).trans hx0
   replace hx1 := (HB.out.cell (World.block_lt_of_cell? w _ hx1)).trans hx1
   replace hx2 := (HB.out.cell (World.block_lt_of_cell? w _ hx2)).trans hx2
   replace hx3 := (HB.out.cell (World.block_lt_of_cell? w _ hx3)).trans hx3
   replace hx4 := (HB.out.cell (World.block_lt_of_cell? w _ hx4)).trans hx4
   replace hx5 := (HB.out.cell (World.block_lt_of_cell? w _ hx5)).trans hx5
   replace hx6 := (HB.out.cell (World.block_lt_of_cell? w _ hx6)).trans hx6
   rw [Int.toNat_natCast] at hx0 hx1 hx2 hx3 hx4 hx5 hx6
   have hb : decide (k < l.length) = true := decide_eq_true hlt
   have hx : l[k]? = some (zd l (k : Int)) := by
    rw [zd,Int.toNat_natCast,List.getD_eq_getElem?_getD,List.getElem?_eq_getElem hlt];rfl
   have HX := za.mk hx
   have Ng := za.mk (zo Hg.out HB.out)
   clear hx
   generalize zd l (k : Int) = s at *
   obtain ⟨s0,⟨s1,s2,s3,s4,⟨s5,s6⟩⟩⟩ := s
   rcases ho : z9.p s ⟨s0,⟨s1,s2,s3,s4,⟨s5,s6⟩⟩⟩ with _ | _
   ·have HO := za.mk ho
    clear ho
    go_wp2_with (go_at_call 24;(with_reducible refine (z9.odd s s0 s1 s2 _ _ _ _ _ _ s5 s6 g _ Ng.out).mono ?_);rintro e w1 ⟨rfl,hb1⟩;rw [show (decide (s0 = s)) = _ from HO.out];have HB1 := za.mk (zh HB.out hb1);clear hb1)
    go_roundw
    case rel =>
     refine ⟨k + 1,by go_num,by omega,⟨fun j y hj hy => ?_⟩,HB1⟩
     rcases Nat.lt_succ_iff_lt_or_eq.1 hj with h | h
     ·exact HF.out j y h hy
     ·subst h
      rw [HX.out] at hy
      injection hy with hy
      subst hy
      exact HO.out
    case measure => simp;omega
   ·have HO := za.mk ho
    clear ho
    go_wp2_with (go_at_call 24;(with_reducible refine (z9.odd s s0 s1 s2 _ _ _ _ _ _ s5 s6 g _ Ng.out).mono ?_);rintro e w1 ⟨rfl,hb1⟩;rw [show (decide (s0 = s)) = _ from HO.out];have HB1 := za.mk (zh HB.out hb1);clear hb1)
    go_ret
    exact ⟨by rw [zcW HX.out HO.out HF.out];rfl,HB1.out⟩
  ·obtain rfl : k = l.length := by omega
   go_wp2_with fail
   go_ret
   exact ⟨by rw [zcX (fun j y hy => HF.out j y (List.getElem?_eq_some_iff.1 hy).1 hy)];rfl,HB.out⟩
set_option maxHeartbeats 4000000 in
set_option maxRecDepth 100000 in
theorem z9.first (s : ByteArray) (g : Nat) (a0_0 : Int) (a0_1 : Int) (P0_2_ : Nat → Prop) (A0_2 : Option Addr) (c0_2 : Nat) (l0_2 : List (S34)) (r1 : ByteArray) (r2 : Int) (r3 : Int) (r4 : List (S78)) (r5 : List ByteArray) (r6 : Int) (r7 : Int) (r8 : Bool) (w : World) (hs0_2 : Kd.V k34 34 w w.heap.size (fun k_ => P0_2_ k_) (.slice A0_2 l0_2.length c0_2) l0_2) (hg : w.heap[g]? = some (.cells #[.string s] 9 (0,0))) (hres : zfh (l0_2.find? (z9.p s)) = (r1,r2,r3,r4,r5,r6,r7,r8)) :
  Calls Try.prog 23 #[.agg #[.int .i64 a0_0,.int .i64 a0_1,.slice A0_2 l0_2.length c0_2],.func (.func 24) #[] #[.pointer (some ⟨g,0,none⟩)]] w fun e w' => ∃ v3_ v4_ : Value,e = .returned (.tuple #[.agg #[.string r1,.int .i64 r2,.int .i64 r3,v3_,v4_,.int .i64 r6,.int .i64 r7],.bool r8]) ∧ Kd.V k78 78 w' w.heap.size (fun k_ => (P0_2_ k_ ∨ w.heap.size ≤ k_)) v3_ r4 ∧ Kd.V Kd.string 9 w' w.heap.size (fun k_ => (P0_2_ k_ ∨ w.heap.size ≤ k_)) v4_ r5 ∧ Below w.heap.size w w' := by
 have HS := za.mk hs0_2
 have Hg := za.mk hg
 clear hs0_2 hg
 rcases zf7 (z9.p s) l0_2 with ⟨i,x,hi,hx,hf,hidx⟩ | ⟨hf,hidx⟩
 ·rw [hf] at hres
  obtain ⟨x0,⟨x1,x2,x3,x4,⟨x5,x6⟩⟩⟩ := x
  have HI := za.mk hidx
  obtain ⟨ad,A3,c3,A4,c4,rfl,hx0,hx1,hx2,hx3,hx4,hx5,hx6,hv3,hv4⟩ := ent_at HS.out i hi _ hx
  have HV3 := za.mk hv3
  have HV4 := za.mk hv4
  simp only [zfh,tupE,Prod.mk.injEq] at hres
  obtain ⟨rfl,rfl,rfl,rfl,rfl,rfl,rfl,rfl⟩ := hres
  have hib : decide (i < l0_2.length) = true := decide_eq_true hi
  have hi0 : decide ((i : Int) < 0) = false := decide_eq_false (by omega)
  clear hx hf hidx hv3 hv4
  go_enter Try.func23,Try.ntmps23
  go_wp2_with (first
   | ((with_reducible refine zp (N := 2) rfl ?_);refine zn rfl (N := 2) rfl (cs := #[.int .i64 a0_0,.int .i64 a0_1,.slice (some ad) l0_2.length c0_2]) (t := 24) hrq ?_;intro g2 hg w2 hbox hb;have B2 := za.mk hbox;have HB2 := za.mk hb;have Ng := za.mk (zo Hg.out hb);have z2_0 := fun o => (zb (ze B2.out o) 0).trans rfl;have z2_1 := fun o => (zb (ze B2.out o) 1).trans rfl;have z2_2 := fun o => (zb (ze B2.out o) 2).trans rfl;clear hb hbox hg)
   | (go_at_call 34;(with_reducible refine (z9.idx s g _ _ l0_2 _ (Kd.C_below (Kd.V_reads' HS.out).2.2 (zi HB2.out _)) (ze Ng.out _)).mono ?_);rintro e w3 ⟨rfl,hb⟩;rw [HI.out];have HB3 := za.mk (zh (zi HB2.out _) hb);have B4 := za.mk (zo (zbp w2 _) hb);have B22 := za.mk (zo (ze B2.out _) hb);have HLE : za (w.heap.size ≤ w2.heap.size) := ⟨zj HB2.out⟩;clear hb;have y2_0 := (zb B22.out 0).trans rfl;have y2f_0 := zc B22.out 0;have y2_1 := (zb B22.out 1).trans rfl;have y2f_1 := zc B22.out 1;have y2_2 := (zb B22.out 2).trans rfl;have y2f_2 := zc B22.out 2;have y4_0 := (zb B4.out 0).trans rfl;have y4f_0 := zc B4.out 0;have y4_1 := (zb B4.out 1).trans rfl;have y4f_1 := zc B4.out 1;have y4_2 := (zb B4.out 2).trans rfl;have y4f_2 := zc B4.out 2;have y4_3 := (zb B4.out 3).trans rfl;have y4f_3 := zc B4.out 3;have y4_4 := (zb B4.out 4).trans rfl;have y4f_4 := zc B4.out 4;have y4_5 := (zb B4.out 5).trans rfl;have y4f_5 := zc B4.out 5;have y4_6 := (zb B4.out 6).trans rfl;have y4f_6 := zc B4.out 6;have q0 := (HB3.out.cell (World.block_lt_of_cell? w _ hx0)).trans hx0;have q1 := (HB3.out.cell (World.block_lt_of_cell? w _ hx1)).trans hx1;have q2 := (HB3.out.cell (World.block_lt_of_cell? w _ hx2)).trans hx2;have q3 := (HB3.out.cell (World.block_lt_of_cell? w _ hx3)).trans hx3;have q4 := (HB3.out.cell (World.block_lt_of_cell? w _ hx4)).trans hx4;have q5 := (HB3.out.cell (World.block_lt_of_cell? w _ hx5)).trans hx5;have q6 := (HB3.out.cell (World.block_lt_of_cell? w _ hx6)).trans hx6))
  refine bodyPost_ret (zaW rfl _ _ w2.heap.size 34 _ (0,0) _ rfl (zM (zM (zM (zM (zM (zM (zM B4.out 0 _) 1 _) 2 _) 3 _) 4 _) 5 _) 6 _) Try.underlying34 rfl (by kernel_rfl)) rfl ?_
  refine ⟨_,_,rfl,Kd.V_mono (Kd.V_below HV3.out ?e1) (fun _ hk => .inl hk),Kd.V_mono (Kd.V_below HV4.out ?e1) (fun _ hk => .inl hk),?e1⟩
  exact (zm (zm (zm (zm (zm (zm (zm HB3.out HLE.out) HLE.out) HLE.out) HLE.out) HLE.out) HLE.out) HLE.out)
 ·rw [hf] at hres
  have HI := za.mk hidx
  simp only [zfh,noE,Prod.mk.injEq] at hres
  obtain ⟨rfl,rfl,rfl,rfl,rfl,rfl,rfl,rfl⟩ := hres
  clear hf hidx
  go_enter Try.func23,Try.ntmps23
  go_wp2_with (first
   | ((with_reducible refine zp (N := 2) rfl ?_);refine zn rfl (N := 2) rfl (cs := #[.int .i64 a0_0,.int .i64 a0_1,.slice A0_2 l0_2.length c0_2]) (t := 24) hrq ?_;intro g2 hg w2 hbox hb;have B2 := za.mk hbox;have HB2 := za.mk hb;have Ng := za.mk (zo Hg.out hb);have z2_0 := fun o => (zb (ze B2.out o) 0).trans rfl;have z2_1 := fun o => (zb (ze B2.out o) 1).trans rfl;have z2_2 := fun o => (zb (ze B2.out o) 2).trans rfl;clear hb hbox hg)
   | (go_at_call 34;(with_reducible refine (z9.idx s g _ _ l0_2 _ (Kd.C_below (Kd.V_reads' HS.out).2.2 (zi HB2.out _)) (ze Ng.out _)).mono ?_);rintro e w3 ⟨rfl,hb⟩;rw [HI.out];have HB3 := za.mk (zh (zi HB2.out _) hb);have B4 := za.mk (zo (zbp w2 _) hb);have B22 := za.mk (zo (ze B2.out _) hb);have HLE : za (w.heap.size ≤ w2.heap.size) := ⟨zj HB2.out⟩;clear hb;have y2_0 := (zb B22.out 0).trans rfl;have y2f_0 := zc B22.out 0;have y2_1 := (zb B22.out 1).trans rfl;have y2f_1 := zc B22.out 1;have y2_2 := (zb B22.out 2).trans rfl;have y2f_2 := zc B22.out 2;have y4_0 := (zb B4.out 0).trans rfl;have y4f_0 := zc B4.out 0;have y4_1 := (zb B4.out 1).trans rfl;have y4f_1 := zc B4.out 1;have y4_2 := (zb B4.out 2).trans rfl;have y4f_2 := zc B4.out 2;have y4_3 := (zb B4.out 3).trans rfl;have y4f_3 := zc B4.out 3;have y4_4 := (zb B4.out 4).trans rfl;have y4f_4 := zc B4.out 4;have y4_5 := (zb B4.out 5).trans rfl;have y4f_5 := zc B4.out 5;have y4_6 := (zb B4.out 6).trans rfl;have y4f_6 := zc B4.out 6))
  refine bodyPost_ret (zaW rfl _ _ w2.heap.size 34 _ (0,0) _ rfl (zM (zM (zM (zM (zM (zM (zM B4.out 0 _) 1 _) 2 _) 3 _) 4 _) 5 _) 6 _) Try.underlying34 rfl (by kernel_rfl)) rfl ?_
  exact ⟨_,_,rfl,Kd.V_nil _ _ _ _ _,Kd.V_nil _ _ _ _ _,(zm (zm (zm (zm (zm (zm (zm HB3.out HLE.out) HLE.out) HLE.out) HLE.out) HLE.out) HLE.out) HLE.out)⟩
def z9.f (a0_0 : Int) (a0_1 : Int) (l0_2 : List (S34)) (a1 : ByteArray) : Option TE := some (zfh (zb7 l0_2 a1))
set_option maxHeartbeats 4000000 in
set_option maxRecDepth 100000 in
theorem z9.calls (a0_0 : Int) (a0_1 : Int) (P0_2_ : Nat → Prop) (A0_2 : Option Addr) (c0_2 : Nat) (l0_2 : List (S34)) (a1 : ByteArray) (r1 : ByteArray) (r2 : Int) (r3 : Int) (r4 : List (S78)) (r5 : List ByteArray) (r6 : Int) (r7 : Int) (r8 : Bool) (w : World) (hs0_2 : Kd.V k34 34 w w.heap.size (fun k_ => P0_2_ k_) (.slice A0_2 l0_2.length c0_2) l0_2) (h : z9.f a0_0 a0_1 l0_2 a1 = some (r1,r2,r3,r4,r5,r6,r7,r8)) :
  Calls Try.prog 8 #[.agg #[.int .i64 a0_0,.int .i64 a0_1,.slice A0_2 l0_2.length c0_2],.string a1] w fun e w' => ∃ v3_ v4_ : Value,e = .returned (.tuple #[.agg #[.string r1,.int .i64 r2,.int .i64 r3,v3_,v4_,.int .i64 r6,.int .i64 r7],.bool r8]) ∧ Kd.V k78 78 w' w.heap.size (fun k_ => (P0_2_ k_ ∨ w.heap.size ≤ k_)) v3_ r4 ∧ Kd.V Kd.string 9 w' w.heap.size (fun k_ => (P0_2_ k_ ∨ w.heap.size ≤ k_)) v4_ r5 ∧ Below w.heap.size w w' := by
 have HRS := za.mk (show zfh (l0_2.find? (z9.p a1)) = (r1,r2,r3,r4,r5,r6,r7,r8) from Option.some.inj h)
 have HS := za.mk hs0_2
 clear hs0_2 h
 go_enter Try.func8,Try.ntmps8
 go_wp2_with (first
  | ((with_reducible refine zp (N := 2) rfl ?_);refine zn rfl (N := 2) rfl (cs := #[.int .i64 a0_0,.int .i64 a0_1,.slice A0_2 l0_2.length c0_2]) (t := 24) hrq ?_;intro g0 hg u0 hbox hb;have B0 := za.mk hbox;have HB0 := za.mk hb;clear hb hbox hg)
  | ((with_reducible refine zp (N := 3) rfl ?_);refine zn rfl (N := 3) rfl (cs := #[.string a1]) (t := 9) hrq ?_;intro g1 hg u1 hbox hb;have C0 := za.mk (zo B0.out hb);have HB1 := za.mk (zh HB0.out hb);have B1 := za.mk hbox;have z0_0 := fun o => (zb (ze C0.out o) 0).trans rfl;have z0_1 := fun o => (zb (ze C0.out o) 1).trans rfl;have z0_2 := fun o => (zb (ze C0.out o) 2).trans rfl;clear hb hbox hg)
  | (go_at_call 23;(with_reducible refine (z9.first a1 g1 a0_0 a0_1 (fun k_ => P0_2_ k_ ∧ k_ < w.heap.size) A0_2 c0_2 l0_2 r1 r2 r3 r4 r5 r6 r7 r8 _ (Kd.V_map HS.out (fun _ hf => Kd.F_below (Kd.F_bound hf) (zi HB1.out _))) (ze B1.out _) HRS.out).mono ?_);rintro e w5 ⟨v3,v4,rfl,hV3,hV4,hb⟩;obtain ⟨A3,c3,rfl⟩ := Kd.V_slice hV3;obtain ⟨A4,c4,rfl⟩ := Kd.V_slice hV4;have HV3 := za.mk hV3;have HV4 := za.mk hV4;have HBX := za.mk (zh (zi HB1.out _) hb);have BX := za.mk (zo (zbp u1 _) hb);have HLE : za (w.heap.size ≤ u1.heap.size) := ⟨zj HB1.out⟩;clear hb hV3 hV4;have y_0 := (zb BX.out 0).trans rfl;have yf_0 := zc BX.out 0;have y_1 := (zb BX.out 1).trans rfl;have yf_1 := zc BX.out 1;have y_2 := (zb BX.out 2).trans rfl;have yf_2 := zc BX.out 2;have y_3 := (zb BX.out 3).trans rfl;have yf_3 := zc BX.out 3;have y_4 := (zb BX.out 4).trans rfl;have yf_4 := zc BX.out 4;have y_5 := (zb BX.out 5).trans rfl;have yf_5 := zc BX.out 5;have y_6 := (zb BX.out 6).trans rfl;have yf_6 := zc BX.out 6))
 have far : za (∀ k_,((P0_2_ k_ ∧ k_ < w.heap.size) ∨ (u1.alloc (.cells #[.string (⟨#[]⟩ : ByteArray),.int .i64 0,.int .i64 0,.slice none 0 0,.slice none 0 0,.int .i64 0,.int .i64 0] 34 (0,0))).heap.size ≤ k_) → k_ ≠ u1.heap.size) := ⟨fun k_ hk he => by
  subst he
  rcases hk with hk | hk
  ·exact Nat.lt_irrefl _ (Nat.lt_of_lt_of_le hk.2 HLE.out)
  ·exact absurd hk (by simp)⟩
 have lift : ∀ k_,((P0_2_ k_ ∧ k_ < w.heap.size) ∨ (u1.alloc (.cells #[.string (⟨#[]⟩ : ByteArray),.int .i64 0,.int .i64 0,.slice none 0 0,.slice none 0 0,.int .i64 0,.int .i64 0] 34 (0,0))).heap.size ≤ k_) → (P0_2_ k_ ∨ w.heap.size ≤ k_) := fun k_ hk => by
  rcases hk with hk | hk
  ·exact .inl hk.1
  ·exact .inr (Nat.le_trans HLE.out (Nat.le_trans (by simp) hk))
 refine bodyPost_ret (zaW rfl _ _ u1.heap.size 34 _ (0,0) _ rfl (zM (zM (zM (zM (zM (zM (zM BX.out 0 _) 1 _) 2 _) 3 _) 4 _) 5 _) 6 _) Try.underlying34 rfl (by kernel_rfl)) rfl ?_
 exact ⟨_,_,rfl,Kd.V_mono (Kd.V_far (p := ⟨u1.heap.size,6,none⟩) (Kd.V_far (p := ⟨u1.heap.size,5,none⟩) (Kd.V_far (p := ⟨u1.heap.size,4,none⟩) (Kd.V_far (p := ⟨u1.heap.size,3,none⟩) (Kd.V_far (p := ⟨u1.heap.size,2,none⟩) (Kd.V_far (p := ⟨u1.heap.size,1,none⟩) (Kd.V_far (p := ⟨u1.heap.size,0,none⟩) HV3.out far.out _) far.out _) far.out _) far.out _) far.out _) far.out _) far.out _) lift,Kd.V_mono (Kd.V_far (p := ⟨u1.heap.size,6,none⟩) (Kd.V_far (p := ⟨u1.heap.size,5,none⟩) (Kd.V_far (p := ⟨u1.heap.size,4,none⟩) (Kd.V_far (p := ⟨u1.heap.size,3,none⟩) (Kd.V_far (p := ⟨u1.heap.size,2,none⟩) (Kd.V_far (p := ⟨u1.heap.size,1,none⟩) (Kd.V_far (p := ⟨u1.heap.size,0,none⟩) HV4.out far.out _) far.out _) far.out _) far.out _) far.out _) far.out _) far.out _) lift,(zm (zm (zm (zm (zm (zm (zm HBX.out HLE.out) HLE.out) HLE.out) HLE.out) HLE.out) HLE.out) HLE.out)⟩
end Go.Proofs.Ytndjfdakflaggaa.Px