/- Part 12 of 25 of the proof of the law DagOrder: what is proved is the statement at the end of the last part; its conditions are those of the given row. -/
import Derived.Test.YtklhjlaofkngcaaZDagOrderK
namespace Go.Proofs.Ytklhjlaofkngcaa.Px
open Go.RowKit Go.Proofs.YtklhjlaofkngcaaW.PrintWords Go.Proofs.YtklhjlaofkngcaaW.PrintLast Go.Proofs.YtklhjlaofkngcaaW.PrintMore
attribute [local go_sem] zx zz zE zF zr zt zy zA
set_option linter.unusedVariables false
set_option linter.unusedSimpArgs false
def zcw (a r : Int) (bs : List S72) (ps : List ByteArray) (x y : Int) : Bs :=
 zcz a.toNat ++ zcz r.toNat ++ zcn (bs.map bB) ++ zcn ps ++ zcz x.toNat ++ zcz y.toNat
theorem zcC (a r : Int) (bs : List S72) (ps : List ByteArray) (x y n : Int) : zaZ a r bs ps x y n = true ↔ zcZ n = true ∧ 1 ≤ a ∧ a ≤ n ∧ 1 ≤ r ∧ r ≤ 1048576 ∧ bs.length ≤ 4 ∧ bs.any (zdj n) = false ∧ zf3 x y = true ∧ (zeo r = true ∨ x = 0 ∧ y = 0) ∧ zbo ps r n = true := by
 unfold zaZ
 simp [and_assoc]
theorem zfK (l : List ByteArray) (d : Nat) : ∀ j,zb1 l d j = true → ∀ i,j ≤ i → i < j + d → (l.getD i ByteArray.empty).size = 32 := by
 induction d with
 | zero => intro j _ i h1 h2;omega
 | succ d ih =>
  intro j h i h1 h2
  rw [zb1,Bool.and_eq_true] at h
  rcases Nat.lt_or_ge j i with h3 | h3
  ·exact ih (j + 1) h.2 i (by omega) (by omega)
  ·obtain rfl : i = j := by omega
   have := h.1
   rw [zg1,Bool.and_eq_true] at this
   exact of_decide_eq_true this.1
theorem zbp {l : List ByteArray} {r n : Int} (hn : zcZ n = true) (h : zbo l r n = true) : l.length ≤ 64 ∧ ∀ t ∈ l,t.size = 32 := by
 unfold zbo at h
 split at h
 ·have h0 := of_decide_eq_true h
  obtain rfl := List.eq_nil_of_length_eq_zero h0
  simp
 ·obtain ⟨_,h2,_⟩ := (zci n).1 hn
  rw [Bool.and_eq_true,Bool.and_eq_true] at h
  have h3 := of_decide_eq_true h.2
  refine ⟨by omega,fun t ht => ?_⟩
  obtain ⟨i,hi,rfl⟩ := List.mem_iff_getElem.1 ht
  have := zfK l l.length 0 h.1.1 i (by omega) (by omega)
  rwa [List.getD_eq_getElem?_getD,List.getElem?_eq_getElem hi] at this
theorem zhX (b : S72) : (bB b).size ≤ 400 := by
 unfold bB
 split
 ·rename_i h
  obtain ⟨h1,h2,h3,h4,h5,h6,h7⟩ := (zfB _ _ _).1 h
  have r1 := zdc b.f2 48 (by omega) (fun t ht => (h7 t ht).2)
  have r2 := zaw (v := b.f2.length) (by omega)
  have r4 := zaw (v := b.f0.toNat) (by omega)
  have r5 := zaw (v := b.f1.toNat) (by omega)
  rw [zbu,ze1,List.length_append,List.length_append,zcn,List.length_append];omega
 ·show 0 ≤ 400;omega
theorem zgu {bs : List S72} (h : bs.length ≤ 4) : (zcn (bs.map bB)).length ≤ 1700 := by
 have r1 := zdc (bs.map bB) 400 (by omega) (fun t ht => by obtain ⟨b,_,rfl⟩ := List.mem_map.1 ht;exact zhX b)
 rw [List.length_map] at r1
 have r2 := zaw (v := (bs.map bB).length) (by rw [List.length_map];omega)
 rw [zcn,List.length_append];omega
theorem zgv {ps : List ByteArray} (h : ps.length ≤ 64 ∧ ∀ t ∈ ps,t.size = 32) : (zcn ps).length ≤ 2700 := by
 have r1 := zdc ps 32 (by omega) (fun t ht => by have := h.2 t ht;omega)
 have r2 := zaw (v := ps.length) (by have := h.1;omega)
 rw [zcn,List.length_append];have := h.1;omega
theorem zic (a b c d : ByteArray) : zD ByteArray.empty [a,b,c,d] 0 = a ∧ zD ByteArray.empty [a,b,c,d] 1 = b ∧ zD ByteArray.empty [a,b,c,d] 2 = c ∧ zD ByteArray.empty [a,b,c,d] 3 = d := ⟨rfl,rfl,rfl,rfl⟩
theorem zdI (a r : Int) (bs : List S72) (ps : List ByteArray) (x y n : Int) :
  z9.f a r bs ps x y n = some (if zaZ a r bs ps x y n = true then (toB (zcw a r bs ps x y),0) else ((⟨#[]⟩ : ByteArray),1)) := by
 unfold z9.f
 rw [show zaa.f a r bs ps x y n = some (zaZ a r bs ps x y n) from rfl]
 simp only [Option.bind_some]
 by_cases h : zaZ a r bs ps x y n = true
 ·rw [if_pos h,if_pos h]
  obtain ⟨h0,h1,h2,h3,h4,h5,h6,h7,h8,h9⟩ := (zcC ..).1 h
  obtain ⟨k1,k2,k3⟩ := (zci n).1 h0
  obtain ⟨x1,x2,y1,y2⟩ := (zd6 x y).1 h7
  have e1 : zae.f bs = some (bs.map bB) := if_pos h5
  have e2 : z6.f [a,r,x,y] = some [za1 a.toNat,za1 r.toNat,za1 x.toNat,za1 y.toNat] := by
   rw [z6.f,if_pos]
   ·rfl
   ·refine ⟨Nat.le_refl 4,fun k hk => ?_⟩
    simp only [List.mem_cons,List.not_mem_nil,or_false] at hk
    rcases hk with rfl | rfl | rfl | rfl <;> omega
  have s0 := zbi (v := a.toNat) (by omega)
  have s1 := zbi (v := r.toNat) (by omega)
  have s2 := zbi (v := x.toNat) (by omega)
  have s3 := zbi (v := y.toNat) (by omega)
  have r1 := zgu h5
  have r2 := zgv (zbp h0 h9)
  have d1 : zK.f (bs.map bB) = some (toB (zcn (bs.map bB))) := if_pos (by omega)
  have d2 : zK.f ps = some (toB (zcn ps)) := if_pos (by omega)
  rw [e1,e2]
  simp only [Option.bind_some,d1,d2]
  obtain ⟨q0,q1,q2,q3⟩ := zic (za1 a.toNat) (za1 r.toNat) (za1 x.toNat) (za1 y.toNat)
  rw [q0,q1,q2,q3]
  simp only [ByteArray.size_append,zbu]
  rw [if_pos (by simp),if_pos (by simp),if_pos (by omega),if_pos (by omega),if_pos (by omega),if_pos (by simp),if_pos (by omega),if_pos (by simp),if_pos (by omega)]
  simp only [zcw,za1,zbe]
 ·rw [if_neg h,if_neg h]
instance decBatch : DecidableEq S72 := fun a b => decidable_of_iff (a.f0 = b.f0 ∧ a.f1 = b.f1 ∧ a.f2 = b.f2) ⟨fun ⟨h0,h1,h2⟩ => by obtain ⟨a0,a1,a2⟩ := a;obtain ⟨b0,b1,b2⟩ := b;simp only at h0 h1 h2;rw [h0,h1,h2],fun h => by rw [h];exact ⟨rfl,rfl,rfl⟩⟩
theorem zdw (l : List S72) (j : Nat) (h : j < l.length) : zO l (j : Int) = l[j] := by
 rw [zO,Int.toNat_natCast,List.getD_eq_getElem?_getD,List.getElem?_eq_getElem h];rfl
theorem zdE (a b : List S72) (hl : a.length = b.length) (hb : a.length < 4611686018427387904) (hs : ∀ x ∈ a,x.f2.length < 4611686018427387904) (d : Nat) : ∀ j,j + d = a.length →
  Ev (fun k => zu.l0 k a b (j : Int)) (decide (a.drop j = b.drop j)) := by
 induction d with
 | zero =>
  intro j hj
  refine Ev.step (fun k => by rw [zu.l0]) ?_
  refine zak (by omega) (zaC (Ev.now _) ?_)
  rw [List.drop_eq_nil_of_le (by omega),List.drop_eq_nil_of_le (by omega)];rfl
 | succ d ih =>
  intro j hj
  have ha : j < a.length := by omega
  have hb' : j < b.length := by omega
  refine Ev.step (fun k => by rw [zu.l0]) ?_
  refine zS (by omega) (zS (by omega) (zS (by omega) ?_))
  rw [zdw a j ha,zdw b j hb']
  refine Ev.bind (zdC _ _ _ _ _ _ (hs _ (List.getElem_mem ha))) ?_
  rw [zav (by omega) (by omega),List.drop_eq_getElem_cons ha,List.drop_eq_getElem_cons hb']
  by_cases e : a[j] = b[j]
  ·refine zS (by rw [e];simp [ze0]) (zaC (ih (j + 1) (by omega)) ?_)
   rw [e];exact decide_eq_decide.2 ⟨fun h => by rw [h],fun h => (List.cons.inj h).2⟩
  ·refine zak ?_ (zaC (Ev.now _) ?_)
   ·intro hh
    apply e
    obtain ⟨h0,h1,h2⟩ := of_decide_eq_true hh
    generalize a[j] = p at *
    generalize b[j] = q at *
    obtain ⟨p0,p1,p2⟩ := p;obtain ⟨q0,q1,q2⟩ := q
    simp only at h0 h1 h2;rw [h0,h1,h2]
   ·exact (decide_eq_false (fun h => e (List.cons.inj h).1)).symm
theorem zeB (a b : List S72) (hb : a.length < 4611686018427387904) (hs : ∀ x ∈ a,x.f2.length < 4611686018427387904) : Ev (fun k => zu.f k a b) (decide (a = b)) := by
 by_cases h : a.length = b.length
 ·exact zS (by omega) (zdE a b h hb hs a.length 0 (by omega))
 ·refine zak (by omega) (zaC (Ev.now _) ?_)
  have : ¬ a = b := fun e => h (by rw [e])
  simp [this]
def zcp (a r : Int) (bs : List S72) (ps : List ByteArray) (x y a' r' : Int) (bs' : List S72) (ps' : List ByteArray) (x' y' : Int) : Bool := decide (a = a' ∧ r = r' ∧ bs = bs' ∧ ps = ps' ∧ x = x' ∧ y = y')
theorem zdo (a r : Int) (bs : List S72) (ps : List ByteArray) (x y a' r' : Int) (bs' : List S72) (ps' : List ByteArray) (x' y' : Int) (hb : bs.length < 4611686018427387904) (hs : ∀ b ∈ bs,b.f2.length < 4611686018427387904) (hp : ps.length < 4611686018427387904) :
  Ev (fun k => zaq.f k a r bs ps x y a' r' bs' ps' x' y') (zcp a r bs ps x y a' r' bs' ps' x' y') := by
 refine Ev.bind (zef _ _ hp) (Ev.bind (zeB _ _ hb hs) ?_)
 unfold zcp
 by_cases h1 : ps = ps'
 ·refine zS (by simp [h1]) ?_
  by_cases h2 : bs = bs'
  ·refine zS (by simp [h2]) ?_
   by_cases h3 : a = a'
   ·refine zS h3 ?_
    by_cases h4 : r = r'
    ·refine zS h4 (zaC (Ev.now _) ?_)
     by_cases h5 : x = x' <;> by_cases h6 : y = y' <;> simp [h1,h2,h3,h4,h5,h6]
    ·exact zak h4 (zaC (Ev.now _) (by simp [h4]))
   ·exact zak h3 (zaC (Ev.now _) (by simp [h3]))
  ·exact zak (by simp [h2]) (zaC (Ev.now _) (by simp [h2]))
 ·exact zak (by simp [h1]) (zaC (Ev.now _) (by simp [h1]))
theorem zbT {a r : Int} {bs : List S72} {ps : List ByteArray} {x y a' r' : Int} {bs' : List S72} {ps' : List ByteArray} {x' y' : Int} : zcp a r bs ps x y a' r' bs' ps' x' y' = true ↔ a = a' ∧ r = r' ∧ bs = bs' ∧ ps = ps' ∧ x = x' ∧ y = y' := by
 rw [zcp,decide_eq_true_iff]
theorem zgd {s : ByteArray} (h : s.size ≤ 10000) : zbE.f s = some (zgc s) := by rw [zbE.f,if_pos (by omega)]
theorem zhu (b : UInt8) (s : ByteArray) : ((⟨#[b]⟩ : ByteArray) ++ s).size = 1 + s.size := by rw [ByteArray.size_append];rfl
theorem zfn {a r : Int} {bs : List S72} {ps : List ByteArray} {x y n : Int} (h : zaZ a r bs ps x y n = true) : (toB (zcw a r bs ps x y)).size ≤ 5000 := by
 obtain ⟨h0,h1,h2,h3,h4,h5,h6,h7,h8,h9⟩ := (zcC ..).1 h
 obtain ⟨k1,k2,k3⟩ := (zci n).1 h0
 obtain ⟨x1,x2,y1,y2⟩ := (zd6 x y).1 h7
 have r1 := zgu (bs := bs) (by omega)
 have r2 := zgv (zbp h0 h9)
 have r3 := zaw (v := a.toNat) (by omega)
 have r4 := zaw (v := r.toNat) (by omega)
 have r5 := zaw (v := x.toNat) (by omega)
 have r6 := zaw (v := y.toNat) (by omega)
 rw [zbu,zcw]
 simp only [List.length_append]
 omega
def zR (a r : Int) (bs : List S72) (ps : List ByteArray) (x y n : Int) : ByteArray × Int := if zaZ a r bs ps x y n = true then (zgc ((⟨#[118]⟩ : ByteArray) ++ toB (zcw a r bs ps x y)),0) else ((⟨#[]⟩ : ByteArray),1)
theorem zcq (a r : Int) (bs : List S72) (ps : List ByteArray) (x y n : Int) : zar.f a r bs ps x y n = some (zR a r bs ps x y n) := by
 unfold zar.f zR
 rw [zdI]
 simp only [Option.bind_some]
 by_cases h : zaZ a r bs ps x y n = true
 ·have hs := zfn h
  rw [if_pos h,if_pos h,if_pos rfl,if_pos (by show 1 + (toB (zcw a r bs ps x y)).size ≤ _;omega)]
  show (zbE.f ((⟨#[118]⟩ : ByteArray) ++ toB (zcw a r bs ps x y))).bind _ = _
  rw [zgd (by rw [zhu];omega)]
  rfl
 ·rw [if_neg h,if_neg h,if_neg (by simp)]
abbrev Ent := S36
abbrev Vtx := S30
abbrev TE := ByteArray × Int × Int × List S72 × List ByteArray × Int × Int × Bool
def zbn (L : List Ent) (low r : Int) (ps : List ByteArray) : List ByteArray := if wrap64 (r - 1) ≤ low then [] else ps.filter fun p => !L.any fun x => decide (x.f1.f1 = wrap64 (r - 1) ∧ x.f0 = p)
def ziC (x : Ent) : TE := (x.f0,x.f1.f0,x.f1.f1,x.f1.f2,x.f1.f3,x.f1.f4.f0,x.f1.f4.f1,true)
def noE : TE := ((⟨#[]⟩ : ByteArray),0,0,[],[],0,0,false)
def zcQ (L : List Ent) (g : ByteArray) : Option Ent := L.find? fun x => decide (x.f0 = g)
def byE (L : List Ent) (a r : Int) : Option Ent := L.find? fun x => decide (x.f1.f0 = a ∧ x.f1.f1 = r)
def zd2 (o : Option Ent) : TE := match o with | some x => ziC x | none => noE
def zaJ (a r a' r' : Int) : Bool := decide (r < r' ∨ r = r' ∧ a < a')
def zc1 (L : List Ent) (x : Ent) : List Ent := match L with
 | [] => [x]
 | y :: L => if zaJ x.f1.f0 x.f1.f1 y.f1.f0 y.f1.f1 = true then x :: y :: L else y :: zc1 L x
def zdJ (n low : Int) (L : List Ent) (a r : Int) (bs : List S72) (ps : List ByteArray) (x y : Int) : Int :=
 if (zR a r bs ps x y n).2 ≠ 0 then (zR a r bs ps x y n).2
 else if r ≤ low then 9
 else if (zcQ L (zR a r bs ps x y n).1).isSome then 8
 else if (byE L a r).isSome then 13
 else if 0 < (zbn L low r ps).length then 11
 else 0
def zgB (n low : Int) (L : List Ent) (a r : Int) (bs : List S72) (ps : List ByteArray) (x y : Int) : List Ent :=
 if zdJ n low L a r bs ps x y = 0 then zc1 L ⟨(zR a r bs ps x y n).1,⟨a,r,bs,ps,⟨x,y⟩⟩⟩ else L
def okE (n low : Int) (L : List Ent) (i : Nat) (x : Ent) : Bool :=
 (decide ((zR x.f1.f0 x.f1.f1 x.f1.f2 x.f1.f3 x.f1.f4.f0 x.f1.f4.f1 n).2 = 0) && decide ((zR x.f1.f0 x.f1.f1 x.f1.f2 x.f1.f3 x.f1.f4.f0 x.f1.f4.f1 n).1 = x.f0) && decide (low < x.f1.f1) && decide ((zbn L low x.f1.f1 x.f1.f3).length = 0)) && (decide (i = 0) || zaJ (L.getD (i - 1) z36).f1.f0 (L.getD (i - 1) z36).f1.f1 x.f1.f0 x.f1.f1)
def zbr (n low : Int) (L : List Ent) : Bool := zcZ n && decide (0 ≤ low) && (List.range L.length).all fun i => okE n low L i (L.getD i z36)
theorem zhb {W : World} {base : Nat} {ok : Nat → Prop} {A : Option Addr} {n c : Nat} {L : List Ent} (h : Kd.V k36 36 W base ok (.slice A n c) L) (k : Nat) (hk : k < n) (x : Ent) (hx : L[k]? = some x) :
  ∃ ad A3 c3 A4 c4,A = some ad ∧ W.cell? (ad.add (k * 7)) = some (.string x.f0) ∧ W.cell? ⟨(ad.add (k * 7)).block,(ad.add (k * 7)).off + 1,none⟩ = some (.int .i64 x.f1.f0) ∧ W.cell? ⟨(ad.add (k * 7)).block,(ad.add (k * 7)).off + 2,none⟩ = some (.int .i64 x.f1.f1) ∧ W.cell? ⟨(ad.add (k * 7)).block,(ad.add (k * 7)).off + 3,none⟩ = some (.slice A3 x.f1.f2.length c3) ∧ W.cell? ⟨(ad.add (k * 7)).block,(ad.add (k * 7)).off + 4,none⟩ = some (.slice A4 x.f1.f3.length c4) ∧ W.cell? ⟨(ad.add (k * 7)).block,(ad.add (k * 7)).off + 5,none⟩ = some (.int .i64 x.f1.f4.f0) ∧ W.cell? ⟨(ad.add (k * 7)).block,(ad.add (k * 7)).off + 6,none⟩ = some (.int .i64 x.f1.f4.f1) ∧
   Kd.V k72 72 W base ok (.slice A3 x.f1.f2.length c3) x.f1.f2 ∧ Kd.V Kd.string 9 W base ok (.slice A4 x.f1.f3.length c4) x.f1.f3 := by
 obtain rfl := (Kd.V_reads' h).1
 obtain ⟨ad,_,_,_,_,rfl,_⟩ := zaK (Kd.V_reads' h).2.2 (k : Int) (by omega) (by omega)
 obtain ⟨cs,_,hF,hc0⟩ := Kd.V_get h z36 (k : Int) (by omega) (by omega)
 rw [List.getD_eq_getElem?_getD,Int.toNat_natCast,hx] at hF
 have hc : ∀ j u,cs[j]? = some u → W.cell? (ad.add (k * 7 + j)) = some u := fun j u hj => by have := hc0 j u hj;rwa [Int.toNat_natCast] at this
 obtain ⟨A3,c3,A4,c4,rfl,l3,g3,l4,g4⟩ := zce hF
 exact ⟨ad,A3,c3,A4,c4,rfl,hc 0 _ rfl,by rw [← zY _ _ 1 (by omega)];exact hc 1 _ rfl,by rw [← zY _ _ 2 (by omega)];exact hc 2 _ rfl,by rw [← zY _ _ 3 (by omega)];exact hc 3 _ rfl,by rw [← zY _ _ 4 (by omega)];exact hc 4 _ rfl,by rw [← zY _ _ 5 (by omega)];exact hc 5 _ rfl,by rw [← zY _ _ 6 (by omega)];exact hc 6 _ rfl,Kd.V_mk l3 g3,Kd.V_mk l4 g4⟩
theorem zeM {α : Type} (p : α → Bool) (l : List α) : (∃ (i : Nat) (x : α),i < l.length ∧ l[i]? = some x ∧ l.find? p = some x ∧ zbM p l = i) ∨ (l.find? p = none ∧ zbM p l = -1) := by
 rw [zbM]
 rcases h : l.findIdx? p with _ | i
 ·right
  rw [List.findIdx?_eq_none_iff] at h
  exact ⟨List.find?_eq_none.2 (fun x hx => by simp [h x hx]),rfl⟩
 ·left
  rw [List.findIdx?_eq_some_iff_getElem] at h
  obtain ⟨hi,hp,hn⟩ := h
  refine ⟨i,l[i],hi,List.getElem?_eq_getElem hi,?_,rfl⟩
  rw [List.find?_eq_some_iff_getElem]
  exact ⟨hp,i,hi,rfl,fun j hj => by simpa using hn j hj⟩
set_option maxHeartbeats 4000000 in
set_option maxRecDepth 100000 in
theorem zdi.walk (a r : Int) (A2 : Option Addr) (n2 c2 : Nat) (A3 : Option Addr) (n3 c3 : Nat) (x y a' r' : Int) (B2 : Option Addr) (m2 d2 : Nat) (B3 : Option Addr) (m3 d3 : Nat) (x' y' : Int) (w : World) :
  Calls Try.prog 31 #[.agg #[.int .i64 a,.int .i64 r,.slice A2 n2 c2,.slice A3 n3 c3,.int .i64 x,.int .i64 y],.agg #[.int .i64 a',.int .i64 r',.slice B2 m2 d2,.slice B3 m3 d3,.int .i64 x',.int .i64 y']] w fun e w' => e = .returned (.bool (zaJ a r a' r')) ∧ Below w.heap.size w w' := by
 by_cases h1 : r < r'
 ·have HP : zb (zaJ a r a' r' = true) := ⟨decide_eq_true (.inl h1)⟩
  have d1 : decide (r < r') = true := decide_eq_true h1
  clear h1
  go_enter Try.func31,Try.ntmps31
  go_wp2
  go_ret
  exact ⟨by rw [HP.out];rfl,zq (zq (Below.refl _ _) _) _⟩
 ·have d1 : decide (r < r') = false := decide_eq_false h1
  by_cases h2 : r = r'
  ·have d2 : (r == r') = true := beq_iff_eq.2 h2
   have HP : zb (zaJ a r a' r' = decide (a < a')) := ⟨by unfold zaJ;rw [Bool.eq_iff_iff,decide_eq_true_eq,decide_eq_true_eq];omega⟩
   clear h1 h2
   go_enter Try.func31,Try.ntmps31
   go_wp2
   go_ret
   exact ⟨by rw [HP.out];rfl,zq (zq (Below.refl _ _) _) _⟩
  ·have d2 : (r == r') = false := beq_eq_false_iff_ne.2 h2
   have HP : zb (zaJ a r a' r' = false) := ⟨decide_eq_false (by omega)⟩
   clear h1 h2
   go_enter Try.func31,Try.ntmps31
   go_wp2
   go_ret
   exact ⟨by rw [HP.out];rfl,zq (zq (Below.refl _ _) _) _⟩
def zaL.p (a r : Int) (x : S36) : Bool := decide (x.f1.f0 = a ∧ x.f1.f1 = r)
set_option maxHeartbeats 4000000 in
set_option maxRecDepth 100000 in
theorem zaL.odd (a r : Int) (x0 : ByteArray) (x1 x2 : Int) (A3 : Option Addr) (n3 c3 : Nat) (A4 : Option Addr) (n4 c4 : Nat) (x5 x6 : Int) (g : Nat) (g' : Nat) (w : World) (hg : w.heap[g]? = some (.cells #[.int .i64 a] 3 (0,0))) (hg' : w.heap[g']? = some (.cells #[.int .i64 r] 3 (0,0))) :
  Calls Try.prog 27 #[.agg #[.string x0,.int .i64 x1,.int .i64 x2,.slice A3 n3 c3,.slice A4 n4 c4,.int .i64 x5,.int .i64 x6],.pointer (some ⟨g,0,none⟩),.pointer (some ⟨g',0,none⟩)] w fun e w' => e = .returned (.bool (decide (x1 = a ∧ x2 = r))) ∧ Below w.heap.size w w' := by
 have Hg := zb.mk hg
 have Hg' := zb.mk hg'
 clear hg hg'
 by_cases c1 : x1 = a
 ·have d1 : (x1 == a) = true := beq_iff_eq.2 c1
  by_cases c2 : x2 = r
  ·have d2 : (x2 == r) = true := beq_iff_eq.2 c2
   have HP : zb (decide (x1 = a ∧ x2 = r) = true) := ⟨decide_eq_true ⟨c1,c2⟩⟩
   clear c1 c2
   go_enter Try.func27,Try.ntmps27
   go_wp2_with ((with_reducible refine zC (N := 3) rfl ?_);refine zw ?hg (N := 3) ?hd (cs := #[.string x0,.int .i64 x1,.int .i64 x2,.slice A3 n3 c3,.slice A4 n4 c4,.int .i64 x5,.int .i64 x6]) (t := 36) ?hr ?_;(case hd => rfl);(case hg => rfl);(case hr => first | (go_simp;done) | (go_simp;rfl));intro gb hg w2 hbox hb;have BK := zb.mk hbox;have HB := zb.mk hb;have Ng := zb.mk (zl Hg.out hb);have Ng' := zb.mk (zl Hg'.out hb);have z_0 := (za BK.out 0).trans rfl;have zf_0 := zc BK.out 0;have z_1 := (za BK.out 1).trans rfl;have zf_1 := zc BK.out 1;have z_2 := (za BK.out 2).trans rfl;have zf_2 := zc BK.out 2;have z_3 := (za BK.out 3).trans rfl;have zf_3 := zc BK.out 3;have z_4 := (za BK.out 4).trans rfl;have zf_4 := zc BK.out 4;have z_5 := (za BK.out 5).trans rfl;have zf_5 := zc BK.out 5;have z_6 := (za BK.out 6).trans rfl;have zf_6 := zc BK.out 6;have zg_0 := (za Ng.out 0).trans rfl;have zgf_0 := zc Ng.out 0;have zg'_0 := (za Ng'.out 0).trans rfl;have zg'f_0 := zc Ng'.out 0;clear hb hbox hg)
   go_ret
   exact ⟨by rw [HP.out];rfl,HB.out⟩
  ·have d2 : (x2 == r) = false := beq_eq_false_iff_ne.2 c2
   have HP : zb (decide (x1 = a ∧ x2 = r) = false) := ⟨decide_eq_false (fun h => c2 h.2)⟩
   clear c1 c2
   go_enter Try.func27,Try.ntmps27
   go_wp2_with ((with_reducible refine zC (N := 3) rfl ?_);refine zw ?hg (N := 3) ?hd (cs := #[.string x0,.int .i64 x1,.int .i64 x2,.slice A3 n3 c3,.slice A4 n4 c4,.int .i64 x5,.int .i64 x6]) (t := 36) ?hr ?_;(case hd => rfl);(case hg => rfl);(case hr => first | (go_simp;done) | (go_simp;rfl));intro gb hg w2 hbox hb;have BK := zb.mk hbox;have HB := zb.mk hb;have Ng := zb.mk (zl Hg.out hb);have Ng' := zb.mk (zl Hg'.out hb);have z_0 := (za BK.out 0).trans rfl;have zf_0 := zc BK.out 0;have z_1 := (za BK.out 1).trans rfl;have zf_1 := zc BK.out 1;have z_2 := (za BK.out 2).trans rfl;have zf_2 := zc BK.out 2;have z_3 := (za BK.out 3).trans rfl;have zf_3 := zc BK.out 3;have z_4 := (za BK.out 4).trans rfl;have zf_4 := zc BK.out 4;have z_5 := (za BK.out 5).trans rfl;have zf_5 := zc BK.out 5;have z_6 := (za BK.out 6).trans rfl;have zf_6 := zc BK.out 6;have zg_0 := (za Ng.out 0).trans rfl;have zgf_0 := zc Ng.out 0;have zg'_0 := (za Ng'.out 0).trans rfl;have zg'f_0 := zc Ng'.out 0;clear hb hbox hg)
   go_ret
   exact ⟨by rw [HP.out];rfl,HB.out⟩
 ·have d1 : (x1 == a) = false := beq_eq_false_iff_ne.2 c1
  have HP : zb (decide (x1 = a ∧ x2 = r) = false) := ⟨decide_eq_false (fun h => c1 h.1)⟩
  clear c1
  go_enter Try.func27,Try.ntmps27
  go_wp2_with ((with_reducible refine zC (N := 3) rfl ?_);refine zw ?hg (N := 3) ?hd (cs := #[.string x0,.int .i64 x1,.int .i64 x2,.slice A3 n3 c3,.slice A4 n4 c4,.int .i64 x5,.int .i64 x6]) (t := 36) ?hr ?_;(case hd => rfl);(case hg => rfl);(case hr => first | (go_simp;done) | (go_simp;rfl));intro gb hg w2 hbox hb;have BK := zb.mk hbox;have HB := zb.mk hb;have Ng := zb.mk (zl Hg.out hb);have Ng' := zb.mk (zl Hg'.out hb);have z_0 := (za BK.out 0).trans rfl;have zf_0 := zc BK.out 0;have z_1 := (za BK.out 1).trans rfl;have zf_1 := zc BK.out 1;have z_2 := (za BK.out 2).trans rfl;have zf_2 := zc BK.out 2;have z_3 := (za BK.out 3).trans rfl;have zf_3 := zc BK.out 3;have z_4 := (za BK.out 4).trans rfl;have zf_4 := zc BK.out 4;have z_5 := (za BK.out 5).trans rfl;have zf_5 := zc BK.out 5;have z_6 := (za BK.out 6).trans rfl;have zf_6 := zc BK.out 6;have zg_0 := (za Ng.out 0).trans rfl;have zgf_0 := zc Ng.out 0;have zg'_0 := (za Ng'.out 0).trans rfl;have zg'f_0 := zc Ng'.out 0;clear hb hbox hg)
  go_ret
  exact ⟨by rw [HP.out];rfl,HB.out⟩
set_option maxHeartbeats 4000000 in
set_option maxRecDepth 100000 in
theorem zaL.idx (a r : Int) (g : Nat) (g' : Nat) (A : Option Addr) (c : Nat) (l : List S36) (w : World) (hr : Kd.C k36 w A l.length l) (hg : w.heap[g]? = some (.cells #[.int .i64 a] 3 (0,0))) (hg' : w.heap[g']? = some (.cells #[.int .i64 r] 3 (0,0))) :
  Calls Try.prog 35 #[.slice A l.length c,.func (.func 27) #[] #[.pointer (some ⟨g,0,none⟩),.pointer (some ⟨g',0,none⟩)]] w fun e w' => e = .returned (.int .i64 (zbM (zaL.p a r) l)) ∧ Below w.heap.size w w' := by
 have hm := hr.2.1
 have HR := zb.mk hr
 have Hg := zb.mk hg
 have Hg' := zb.mk hg'
 clear hr hg hg'
 go_enter Try.func35,Try.ntmps35
 go_wp2_with fail
 have HB0 := zb.mk (Below.refl w.heap.size w)
 go_loopw [5,8] (fun v5 v8 wr => ∃ k : Nat,v8 = .int .i64 k ∧ k ≤ l.length ∧ zb (∀ (j : Nat) (y : S36),j < k → l[j]? = some y → zaL.p a r y = false) ∧ zb (Below w.heap.size w wr)) (fun _ v8 _ => l.length - (match v8 with | .int _ q => q | _ => 0).toNat)
 case atStart => exact ⟨0,rfl,Nat.zero_le _,⟨fun j y hj => absurd hj (Nat.not_lt_zero _)⟩,⟨by repeat (first | (with_reducible first | exact HB0.out | apply zq | apply zp | apply zG) | exact HB0.out)⟩⟩
 case round =>
  obtain ⟨k,rfl,hk,HF,HB⟩ := hrel
  by_cases hlt : k < l.length
  ·obtain ⟨ad,A3,c3,A4,c4,rfl,hx0,hx1,hx2,hx3,hx4,hx5,hx6,_,_,_,_⟩ := zaK HR.out (k : Int) (by omega) (by omega)
   replace hx0 := (HB.out.cell (World.block_lt_of_cell? w _ hx0)).trans hx0
   replace hx1 := (HB.out.cell (World.block_lt_of_cell? w _ hx1)).trans hx1
   replace hx2 := (HB.out.cell (World.block_lt_of_cell? w _ hx2)).trans hx2
   replace hx3 := (HB.out.cell (World.block_lt_of_cell? w _ hx3)).trans hx3
   replace hx4 := (HB.out.cell (World.block_lt_of_cell? w _ hx4)).trans hx4
   replace hx5 := (HB.out.cell (World.block_lt_of_cell? w _ hx5)).trans hx5
   replace hx6 := (HB.out.cell (World.block_lt_of_cell? w _ hx6)).trans hx6
   rw [Int.toNat_natCast] at hx0 hx1 hx2 hx3 hx4 hx5 hx6
   have hb : decide (k < l.length) = true := decide_eq_true hlt
   have hx : l[k]? = some (zg l (k : Int)) := by
    rw [zg,Int.toNat_natCast,List.getD_eq_getElem?_getD,List.getElem?_eq_getElem hlt];rfl
   have HX := zb.mk hx
   have Ng := zb.mk (zl Hg.out HB.out)
   have Ng' := zb.mk (zl Hg'.out HB.out)
   clear hx
   generalize zg l (k : Int) = s at *
   obtain ⟨s0,⟨s1,s2,s3,s4,⟨s5,s6⟩⟩⟩ := s
   rcases ho : zaL.p a r ⟨s0,⟨s1,s2,s3,s4,⟨s5,s6⟩⟩⟩ with _ | _
   ·have HO := zb.mk ho
    clear ho
    go_wp2_with (go_at_call 27;(with_reducible refine (zaL.odd a r s0 s1 s2 _ _ _ _ _ _ s5 s6 g g' _ Ng.out Ng'.out).mono ?_);rintro e w1 ⟨rfl,hb1⟩;rw [show (decide (s1 = a ∧ s2 = r)) = _ from HO.out];have HB1 := zb.mk (zh HB.out hb1);clear hb1)
    go_roundw
    case rel =>
     refine ⟨k + 1,by go_num,by omega,⟨fun j y hj hy => ?_⟩,HB1⟩
     rcases Nat.lt_succ_iff_lt_or_eq.1 hj with h | h
     ·exact HF.out j y h hy
     ·subst h
      rw [HX.out] at hy
      injection hy with hy
      subst hy
      exact HO.out
    case measure => simp;omega
   ·have HO := zb.mk ho
    clear ho
    go_wp2_with (go_at_call 27;(with_reducible refine (zaL.odd a r s0 s1 s2 _ _ _ _ _ _ s5 s6 g g' _ Ng.out Ng'.out).mono ?_);rintro e w1 ⟨rfl,hb1⟩;rw [show (decide (s1 = a ∧ s2 = r)) = _ from HO.out];have HB1 := zb.mk (zh HB.out hb1);clear hb1)
    go_ret
    exact ⟨by rw [zcb HX.out HO.out HF.out];rfl,HB1.out⟩
  ·obtain rfl : k = l.length := by omega
   go_wp2_with fail
   go_ret
   exact ⟨by rw [zcc (fun j y hy => HF.out j y (List.getElem?_eq_some_iff.1 hy).1 hy)];rfl,HB.out⟩
set_option maxHeartbeats 4000000 in
set_option maxRecDepth 100000 in
theorem zaL.first (a r : Int) (g : Nat) (g' : Nat) (a0_0 : Int) (a0_1 : Int) (P0_2_ : Nat → Prop) (A0_2 : Option Addr) (c0_2 : Nat) (l0_2 : List (S36)) (r1 : ByteArray) (r2 : Int) (r3 : Int) (r4 : List (S72)) (r5 : List ByteArray) (r6 : Int) (r7 : Int) (r8 : Bool) (w : World) (hs0_2 : Kd.V k36 36 w w.heap.size (fun k_ => P0_2_ k_) (.slice A0_2 l0_2.length c0_2) l0_2) (hg : w.heap[g]? = some (.cells #[.int .i64 a] 3 (0,0))) (hg' : w.heap[g']? = some (.cells #[.int .i64 r] 3 (0,0))) (hres : zd2 (l0_2.find? (zaL.p a r)) = (r1,r2,r3,r4,r5,r6,r7,r8)) :
  Calls Try.prog 25 #[.agg #[.int .i64 a0_0,.int .i64 a0_1,.slice A0_2 l0_2.length c0_2],.func (.func 27) #[] #[.pointer (some ⟨g,0,none⟩),.pointer (some ⟨g',0,none⟩)]] w fun e w' => ∃ v3_ v4_ : Value,e = .returned (.tuple #[.agg #[.string r1,.int .i64 r2,.int .i64 r3,v3_,v4_,.int .i64 r6,.int .i64 r7],.bool r8]) ∧ Kd.V k72 72 w' w.heap.size (fun k_ => (P0_2_ k_ ∨ w.heap.size ≤ k_)) v3_ r4 ∧ Kd.V Kd.string 9 w' w.heap.size (fun k_ => (P0_2_ k_ ∨ w.heap.size ≤ k_)) v4_ r5 ∧ Below w.heap.size w w' := by
 have HS := zb.mk hs0_2
 have Hg := zb.mk hg
 have Hg' := zb.mk hg'
 clear hs0_2 hg hg'
 rcases zeM (zaL.p a r) l0_2 with ⟨i,x,hi,hx,hf,hidx⟩ | ⟨hf,hidx⟩
 ·rw [hf] at hres
  obtain ⟨x0,⟨x1,x2,x3,x4,⟨x5,x6⟩⟩⟩ := x
  have HI := zb.mk hidx
  obtain ⟨ad,A3,c3,A4,c4,rfl,hx0,hx1,hx2,hx3,hx4,hx5,hx6,hv3,hv4⟩ := zhb HS.out i hi _ hx
  have HV3 := zb.mk hv3
  have HV4 := zb.mk hv4
  simp only [zd2,ziC,Prod.mk.injEq] at hres
  obtain ⟨rfl,rfl,rfl,rfl,rfl,rfl,rfl,rfl⟩ := hres
  have hib : decide (i < l0_2.length) = true := decide_eq_true hi
  have hi0 : decide ((i : Int) < 0) = false := decide_eq_false (by omega)
  clear hx hf hidx hv3 hv4
  go_enter Try.func25,Try.ntmps25
  go_wp2_with (first
   | ((with_reducible refine zC (N := 2) rfl ?_);refine zw ?hg (N := 2) ?hd (cs := #[.int .i64 a0_0,.int .i64 a0_1,.slice (some ad) l0_2.length c0_2]) (t := 24) ?hr ?_;(case hd => rfl);(case hg => rfl);(case hr => first | (go_simp;done) | (go_simp;rfl));intro g2 hg w2 hbox hb;have B2 := zb.mk hbox;have HB2 := zb.mk hb;have Ng := zb.mk (zl Hg.out hb);have Ng' := zb.mk (zl Hg'.out hb);have z2_0 := fun o => (za (ze B2.out o) 0).trans rfl;have z2_1 := fun o => (za (ze B2.out o) 1).trans rfl;have z2_2 := fun o => (za (ze B2.out o) 2).trans rfl;clear hb hbox hg)
   | (go_at_call 35;(with_reducible refine (zaL.idx a r g g' _ _ l0_2 _ (Kd.C_below (Kd.V_reads' HS.out).2.2 (zq HB2.out _)) (ze Ng.out _) (ze Ng'.out _)).mono ?_);rintro e w3 ⟨rfl,hb⟩;rw [HI.out];have HB3 := zb.mk (zh (zq HB2.out _) hb);have B4 := zb.mk (zl (zaV w2 _) hb);have B22 := zb.mk (zl (ze B2.out _) hb);have HLE : zb (w.heap.size ≤ w2.heap.size) := ⟨zn HB2.out⟩;clear hb;have y2_0 := (za B22.out 0).trans rfl;have y2f_0 := zc B22.out 0;have y2_1 := (za B22.out 1).trans rfl;have y2f_1 := zc B22.out 1;have y2_2 := (za B22.out 2).trans rfl;have y2f_2 := zc B22.out 2;have y4_0 := (za B4.out 0).trans rfl;have y4f_0 := zc B4.out 0;have y4_1 := (za B4.out 1).trans rfl;have y4f_1 := zc B4.out 1;have y4_2 := (za B4.out 2).trans rfl;have y4f_2 := zc B4.out 2;have y4_3 := (za B4.out 3).trans rfl;have y4f_3 := zc B4.out 3;have y4_4 := (za B4.out 4).trans rfl;have y4f_4 := zc B4.out 4;have y4_5 := (za B4.out 5).trans rfl;have y4f_5 := zc B4.out 5;have y4_6 := (za B4.out 6).trans rfl;have y4f_6 := zc B4.out 6;have q0 := (HB3.out.cell (World.block_lt_of_cell? w _ hx0)).trans hx0;have q1 := (HB3.out.cell (World.block_lt_of_cell? w _ hx1)).trans hx1;have q2 := (HB3.out.cell (World.block_lt_of_cell? w _ hx2)).trans hx2;have q3 := (HB3.out.cell (World.block_lt_of_cell? w _ hx3)).trans hx3;have q4 := (HB3.out.cell (World.block_lt_of_cell? w _ hx4)).trans hx4;have q5 := (HB3.out.cell (World.block_lt_of_cell? w _ hx5)).trans hx5;have q6 := (HB3.out.cell (World.block_lt_of_cell? w _ hx6)).trans hx6))
  refine bodyPost_ret (zaE rfl _ _ w2.heap.size 36 _ (0,0) _ rfl (zL (zL (zL (zL (zL (zL (zL B4.out 0 _) 1 _) 2 _) 3 _) 4 _) 5 _) 6 _) Try.underlying36 rfl (by kernel_rfl)) rfl ?_
  refine ⟨_,_,rfl,Kd.V_mono (Kd.V_below HV3.out ?e1) (fun _ hk => .inl hk),Kd.V_mono (Kd.V_below HV4.out ?e1) (fun _ hk => .inl hk),?e1⟩
  exact (zo (zo (zo (zo (zo (zo (zo HB3.out HLE.out) HLE.out) HLE.out) HLE.out) HLE.out) HLE.out) HLE.out)
 ·rw [hf] at hres
  have HI := zb.mk hidx
  simp only [zd2,noE,Prod.mk.injEq] at hres
  obtain ⟨rfl,rfl,rfl,rfl,rfl,rfl,rfl,rfl⟩ := hres
  clear hf hidx
  go_enter Try.func25,Try.ntmps25
  go_wp2_with (first
   | ((with_reducible refine zC (N := 2) rfl ?_);refine zw ?hg (N := 2) ?hd (cs := #[.int .i64 a0_0,.int .i64 a0_1,.slice A0_2 l0_2.length c0_2]) (t := 24) ?hr ?_;(case hd => rfl);(case hg => rfl);(case hr => first | (go_simp;done) | (go_simp;rfl));intro g2 hg w2 hbox hb;have B2 := zb.mk hbox;have HB2 := zb.mk hb;have Ng := zb.mk (zl Hg.out hb);have Ng' := zb.mk (zl Hg'.out hb);have z2_0 := fun o => (za (ze B2.out o) 0).trans rfl;have z2_1 := fun o => (za (ze B2.out o) 1).trans rfl;have z2_2 := fun o => (za (ze B2.out o) 2).trans rfl;clear hb hbox hg)
   | (go_at_call 35;(with_reducible refine (zaL.idx a r g g' _ _ l0_2 _ (Kd.C_below (Kd.V_reads' HS.out).2.2 (zq HB2.out _)) (ze Ng.out _) (ze Ng'.out _)).mono ?_);rintro e w3 ⟨rfl,hb⟩;rw [HI.out];have HB3 := zb.mk (zh (zq HB2.out _) hb);have B4 := zb.mk (zl (zaV w2 _) hb);have B22 := zb.mk (zl (ze B2.out _) hb);have HLE : zb (w.heap.size ≤ w2.heap.size) := ⟨zn HB2.out⟩;clear hb;have y2_0 := (za B22.out 0).trans rfl;have y2f_0 := zc B22.out 0;have y2_1 := (za B22.out 1).trans rfl;have y2f_1 := zc B22.out 1;have y2_2 := (za B22.out 2).trans rfl;have y2f_2 := zc B22.out 2;have y4_0 := (za B4.out 0).trans rfl;have y4f_0 := zc B4.out 0;have y4_1 := (za B4.out 1).trans rfl;have y4f_1 := zc B4.out 1;have y4_2 := (za B4.out 2).trans rfl;have y4f_2 := zc B4.out 2;have y4_3 := (za B4.out 3).trans rfl;have y4f_3 := zc B4.out 3;have y4_4 := (za B4.out 4).trans rfl;have y4f_4 := zc B4.out 4;have y4_5 := (za B4.out 5).trans rfl;have y4f_5 := zc B4.out 5;have y4_6 := (za B4.out 6).trans rfl;have y4f_6 := zc B4.out 6))
  refine bodyPost_ret (zaE rfl _ _ w2.heap.size 36 _ (0,0) _ rfl (zL (zL (zL (zL (zL (zL (zL B4.out 0 _) 1 _) 2 _) 3 _) 4 _) 5 _) 6 _) Try.underlying36 rfl (by kernel_rfl)) rfl ?_
  exact ⟨_,_,rfl,Kd.V_nil _ _ _ _ _,Kd.V_nil _ _ _ _ _,(zo (zo (zo (zo (zo (zo (zo HB3.out HLE.out) HLE.out) HLE.out) HLE.out) HLE.out) HLE.out) HLE.out)⟩
def zaL.f (a0_0 : Int) (a0_1 : Int) (l0_2 : List (S36)) (a1 : Int) (a2 : Int) : Option TE := some (zd2 (byE l0_2 a1 a2))
set_option maxHeartbeats 4000000 in
set_option maxRecDepth 100000 in
theorem zaL.calls (a0_0 : Int) (a0_1 : Int) (P0_2_ : Nat → Prop) (A0_2 : Option Addr) (c0_2 : Nat) (l0_2 : List (S36)) (a1 : Int) (a2 : Int) (r1 : ByteArray) (r2 : Int) (r3 : Int) (r4 : List (S72)) (r5 : List ByteArray) (r6 : Int) (r7 : Int) (r8 : Bool) (w : World) (hs0_2 : Kd.V k36 36 w w.heap.size (fun k_ => P0_2_ k_) (.slice A0_2 l0_2.length c0_2) l0_2) (h : zaL.f a0_0 a0_1 l0_2 a1 a2 = some (r1,r2,r3,r4,r5,r6,r7,r8)) :
  Calls Try.prog 12 #[.agg #[.int .i64 a0_0,.int .i64 a0_1,.slice A0_2 l0_2.length c0_2],.int .i64 a1,.int .i64 a2] w fun e w' => ∃ v3_ v4_ : Value,e = .returned (.tuple #[.agg #[.string r1,.int .i64 r2,.int .i64 r3,v3_,v4_,.int .i64 r6,.int .i64 r7],.bool r8]) ∧ Kd.V k72 72 w' w.heap.size (fun k_ => (P0_2_ k_ ∨ w.heap.size ≤ k_)) v3_ r4 ∧ Kd.V Kd.string 9 w' w.heap.size (fun k_ => (P0_2_ k_ ∨ w.heap.size ≤ k_)) v4_ r5 ∧ Below w.heap.size w w' := by
 have HRS := zb.mk (show zd2 (l0_2.find? (zaL.p a1 a2)) = (r1,r2,r3,r4,r5,r6,r7,r8) from Option.some.inj h)
 have HS := zb.mk hs0_2
 clear hs0_2 h
 go_enter Try.func12,Try.ntmps12
 go_wp2_with (first
  | ((with_reducible refine zC (N := 3) rfl ?_);refine zw ?hg (N := 3) ?hd (cs := #[.int .i64 a0_0,.int .i64 a0_1,.slice A0_2 l0_2.length c0_2]) (t := 24) ?hr ?_;(case hd => rfl);(case hg => rfl);(case hr => first | (go_simp;done) | (go_simp;rfl));intro g0 hg u0 hbox hb;have B0 := zb.mk hbox;have HB0 := zb.mk hb;clear hb hbox hg)
  | ((with_reducible refine zC (N := 4) rfl ?_);refine zw ?hg (N := 4) ?hd (cs := #[.int .i64 a1]) (t := 3) ?hr ?_;(case hd => rfl);(case hg => rfl);(case hr => first | (go_simp;done) | (go_simp;rfl));intro g1 hg u1 hbox hb;have C0 := zb.mk (zl B0.out hb);have HB1 := zb.mk (zh HB0.out hb);have B1 := zb.mk hbox;clear hb hbox hg)
  | ((with_reducible refine zC (N := 5) rfl ?_);refine zw ?hg (N := 5) ?hd (cs := #[.int .i64 a2]) (t := 3) ?hr ?_;(case hd => rfl);(case hg => rfl);(case hr => first | (go_simp;done) | (go_simp;rfl));intro g2 hg u2 hbox hb;have C1 := zb.mk (zl B1.out hb);have HB2 := zb.mk (zh HB1.out hb);have D1_0 := zb.mk (zl C0.out hb);have B2 := zb.mk hbox;have z0_0 := fun o => (za (ze D1_0.out o) 0).trans rfl;have z0_1 := fun o => (za (ze D1_0.out o) 1).trans rfl;have z0_2 := fun o => (za (ze D1_0.out o) 2).trans rfl;clear hb hbox hg)
  | (go_at_call 25;(with_reducible refine (zaL.first a1 a2 g1 g2 a0_0 a0_1 (fun k_ => P0_2_ k_ ∧ k_ < w.heap.size) A0_2 c0_2 l0_2 r1 r2 r3 r4 r5 r6 r7 r8 _ (Kd.V_map HS.out (fun _ hf => Kd.F_below (Kd.F_bound hf) (zq HB2.out _))) (ze C1.out _) (ze B2.out _) HRS.out).mono ?_);rintro e w5 ⟨v3,v4,rfl,hV3,hV4,hb⟩;obtain ⟨A3,c3,rfl⟩ := Kd.V_slice hV3;obtain ⟨A4,c4,rfl⟩ := Kd.V_slice hV4;have HV3 := zb.mk hV3;have HV4 := zb.mk hV4;have HBX := zb.mk (zh (zq HB2.out _) hb);have BX := zb.mk (zl (zaV u2 _) hb);have HLE : zb (w.heap.size ≤ u2.heap.size) := ⟨zn HB2.out⟩;clear hb hV3 hV4;have y_0 := (za BX.out 0).trans rfl;have yf_0 := zc BX.out 0;have y_1 := (za BX.out 1).trans rfl;have yf_1 := zc BX.out 1;have y_2 := (za BX.out 2).trans rfl;have yf_2 := zc BX.out 2;have y_3 := (za BX.out 3).trans rfl;have yf_3 := zc BX.out 3;have y_4 := (za BX.out 4).trans rfl;have yf_4 := zc BX.out 4;have y_5 := (za BX.out 5).trans rfl;have yf_5 := zc BX.out 5;have y_6 := (za BX.out 6).trans rfl;have yf_6 := zc BX.out 6))
 have far : zb (∀ k_,((P0_2_ k_ ∧ k_ < w.heap.size) ∨ (u2.alloc (.cells #[.string (⟨#[]⟩ : ByteArray),.int .i64 0,.int .i64 0,.slice none 0 0,.slice none 0 0,.int .i64 0,.int .i64 0] 36 (0,0))).heap.size ≤ k_) → k_ ≠ u2.heap.size) := ⟨fun k_ hk he => by
  subst he
  rcases hk with hk | hk
  ·exact Nat.lt_irrefl _ (Nat.lt_of_lt_of_le hk.2 HLE.out)
  ·exact absurd hk (by simp)⟩
 have lift : ∀ k_,((P0_2_ k_ ∧ k_ < w.heap.size) ∨ (u2.alloc (.cells #[.string (⟨#[]⟩ : ByteArray),.int .i64 0,.int .i64 0,.slice none 0 0,.slice none 0 0,.int .i64 0,.int .i64 0] 36 (0,0))).heap.size ≤ k_) → (P0_2_ k_ ∨ w.heap.size ≤ k_) := fun k_ hk => by
  rcases hk with hk | hk
  ·exact .inl hk.1
  ·exact .inr (Nat.le_trans HLE.out (Nat.le_trans (by simp) hk))
 refine bodyPost_ret (zaE rfl _ _ u2.heap.size 36 _ (0,0) _ rfl (zL (zL (zL (zL (zL (zL (zL BX.out 0 _) 1 _) 2 _) 3 _) 4 _) 5 _) 6 _) Try.underlying36 rfl (by kernel_rfl)) rfl ?_
 exact ⟨_,_,rfl,Kd.V_mono (Kd.V_far (p := ⟨u2.heap.size,6,none⟩) (Kd.V_far (p := ⟨u2.heap.size,5,none⟩) (Kd.V_far (p := ⟨u2.heap.size,4,none⟩) (Kd.V_far (p := ⟨u2.heap.size,3,none⟩) (Kd.V_far (p := ⟨u2.heap.size,2,none⟩) (Kd.V_far (p := ⟨u2.heap.size,1,none⟩) (Kd.V_far (p := ⟨u2.heap.size,0,none⟩) HV3.out far.out _) far.out _) far.out _) far.out _) far.out _) far.out _) far.out _) lift,Kd.V_mono (Kd.V_far (p := ⟨u2.heap.size,6,none⟩) (Kd.V_far (p := ⟨u2.heap.size,5,none⟩) (Kd.V_far (p := ⟨u2.heap.size,4,none⟩) (Kd.V_far (p := ⟨u2.heap.size,3,none⟩) (Kd.V_far (p := ⟨u2.heap.size,2,none⟩) (Kd.V_far (p := ⟨u2.heap.size,1,none⟩) (Kd.V_far (p := ⟨u2.heap.size,0,none⟩) HV4.out far.out _) far.out _) far.out _) far.out _) far.out _) far.out _) far.out _) lift,(zo (zo (zo (zo (zo (zo (zo HBX.out HLE.out) HLE.out) HLE.out) HLE.out) HLE.out) HLE.out) HLE.out)⟩
end Go.Proofs.Ytklhjlaofkngcaa.Px