/- Part 18 of 36 of the proof of the law DagAdds: what is proved is the statement at the end of the last part; its conditions are those of the given row. -/
import Derived.Test.YtlkfelmbhldgfaaGreatZDagAddsL
import Derived.Test.YtlkfelmbhldgfaaGreatZDagAddsQ
namespace Go.Proofs.YtlkfelmbhldgfaaGreat.Px
open Go.RowKit Go.Proofs.YtlkfelmbhldgfaaGreatW.PrintWords Go.Proofs.YtlkfelmbhldgfaaGreatW.PrintLast Go.Proofs.YtlkfelmbhldgfaaGreatW.PrintMore
attribute [local go_sem] zA zC zH zI zv zw zB zD
set_option linter.unusedVariables false
set_option linter.unusedSimpArgs false
def zb5 (a r : Int) (bs : List S67) (ps : List ByteArray) (x y : Int) : Bs :=
 zda a.toNat ++ zda r.toNat ++ zb9 (bs.map bB) ++ zb9 ps ++ zda x.toNat ++ zda y.toNat
theorem zcH (a r : Int) (bs : List S67) (ps : List ByteArray) (x y n : Int) : zbx a r bs ps x y n = true ↔ zcZ n = true ∧ 1 ≤ a ∧ a ≤ n ∧ 1 ≤ r ∧ r ≤ 1048576 ∧ bs.length ≤ 4 ∧ bs.any (zc0 n) = false ∧ zfj x y = true ∧ (zde r = true ∨ x = 0 ∧ y = 0) ∧ zb2 ps r n = true := by
 unfold zbx
 simp [and_assoc]
theorem zhN (l : List ByteArray) (d : Nat) : ∀ j,zbi l d j = true → ∀ i,j ≤ i → i < j + d → (l.getD i ByteArray.empty).size = 32 := by
 induction d with
 | zero => intro j _ i h1 h2;omega
 | succ d ih =>
  intro j h i h1 h2
  rw [zbi,Bool.and_eq_true] at h
  rcases Nat.lt_or_ge j i with h3 | h3
  ·exact ih (j + 1) h.2 i (by omega) (by omega)
  ·obtain rfl : i = j := by omega
   have := h.1
   rw [zgr,Bool.and_eq_true] at this
   exact of_decide_eq_true this.1
theorem zbG {l : List ByteArray} {r n : Int} (hn : zcZ n = true) (h : zb2 l r n = true) : l.length ≤ 64 ∧ ∀ t ∈ l,t.size = 32 := by
 unfold zb2 at h
 split at h
 ·have h0 := of_decide_eq_true h
  obtain rfl := List.eq_nil_of_length_eq_zero h0
  simp
 ·obtain ⟨_,h2,_⟩ := (zcG n).1 hn
  rw [Bool.and_eq_true,Bool.and_eq_true] at h
  have h3 := of_decide_eq_true h.2
  refine ⟨by omega,fun t ht => ?_⟩
  obtain ⟨i,hi,rfl⟩ := List.mem_iff_getElem.1 ht
  have := zhN l l.length 0 h.1.1 i (by omega) (by omega)
  rwa [List.getD_eq_getElem?_getD,List.getElem?_eq_getElem hi] at this
theorem bB_size (b : S67) : (bB b).size ≤ 400 := by
 unfold bB
 split
 ·rename_i h
  obtain ⟨h1,h2,h3,h4,h5,h6,h7⟩ := (zdP _ _ _).1 h
  have r1 := zdV b.f2 48 (by omega) (fun t ht => (h7 t ht).2)
  have r2 := za2 (v := b.f2.length) (by omega)
  have r4 := za2 (v := b.f0.toNat) (by omega)
  have r5 := za2 (v := b.f1.toNat) (by omega)
  rw [zax,zeS,List.length_append,List.length_append,zb9,List.length_append];omega
 ·show 0 ≤ 400;omega
theorem zhc {bs : List S67} (h : bs.length ≤ 4) : (zb9 (bs.map bB)).length ≤ 1700 := by
 have r1 := zdV (bs.map bB) 400 (by omega) (fun t ht => by obtain ⟨b,_,rfl⟩ := List.mem_map.1 ht;exact bB_size b)
 rw [List.length_map] at r1
 have r2 := za2 (v := (bs.map bB).length) (by rw [List.length_map];omega)
 rw [zb9,List.length_append];omega
theorem zhd {ps : List ByteArray} (h : ps.length ≤ 64 ∧ ∀ t ∈ ps,t.size = 32) : (zb9 ps).length ≤ 2700 := by
 have r1 := zdV ps 32 (by omega) (fun t ht => by have := h.2 t ht;omega)
 have r2 := za2 (v := ps.length) (by have := h.1;omega)
 rw [zb9,List.length_append];have := h.1;omega
theorem any_odd {n : Int} {bs : List S67} (h : bs.any (zc0 n) = false) : ∀ b ∈ bs,zdO b.f0 b.f1 b.f2 = true ∧ b.f0 ≤ n := by
 intro b hb
 rw [List.any_eq_false] at h
 have := h b hb
 rw [zc0] at this
 simp at this
 exact ⟨this.1,by omega⟩
theorem rd_four (a b c d : ByteArray) : zz ByteArray.empty [a,b,c,d] 0 = a ∧ zz ByteArray.empty [a,b,c,d] 1 = b ∧ zz ByteArray.empty [a,b,c,d] 2 = c ∧ zz ByteArray.empty [a,b,c,d] 3 = d := ⟨rfl,rfl,rfl,rfl⟩
theorem zfs (a r : Int) (bs : List S67) (ps : List ByteArray) (x y n : Int) :
  zay.f a r bs ps x y n = some (if zbx a r bs ps x y n = true then (toB (zb5 a r bs ps x y),0) else ((⟨#[]⟩ : ByteArray),1)) := by
 unfold zay.f
 rw [show zaz.f a r bs ps x y n = some (zbx a r bs ps x y n) from rfl]
 simp only [Option.bind_some]
 by_cases h : zbx a r bs ps x y n = true
 ·rw [if_pos h,if_pos h]
  obtain ⟨h0,h1,h2,h3,h4,h5,h6,h7,h8,h9⟩ := (zcH ..).1 h
  obtain ⟨k1,k2,k3⟩ := (zcG n).1 h0
  obtain ⟨x1,x2,y1,y2⟩ := (zeB x y).1 h7
  have e1 : zaI.f bs = some (bs.map bB) := if_pos h5
  have e2 : zau.f [a,r,x,y] = some [zbq a.toNat,zbq r.toNat,zbq x.toNat,zbq y.toNat] := by
   rw [zau.f,if_pos]
   ·rfl
   ·refine ⟨Nat.le_refl 4,fun k hk => ?_⟩
    simp only [List.mem_cons,List.not_mem_nil,or_false] at hk
    rcases hk with rfl | rfl | rfl | rfl <;> omega
  have s0 := za9 (v := a.toNat) (by omega)
  have s1 := za9 (v := r.toNat) (by omega)
  have s2 := za9 (v := x.toNat) (by omega)
  have s3 := za9 (v := y.toNat) (by omega)
  have r1 := zhc h5
  have r2 := zhd (zbG h0 h9)
  have d1 : zZ.f (bs.map bB) = some (toB (zb9 (bs.map bB))) := if_pos (by omega)
  have d2 : zZ.f ps = some (toB (zb9 ps)) := if_pos (by omega)
  rw [e1,e2]
  simp only [Option.bind_some,d1,d2]
  obtain ⟨q0,q1,q2,q3⟩ := rd_four (zbq a.toNat) (zbq r.toNat) (zbq x.toNat) (zbq y.toNat)
  rw [q0,q1,q2,q3]
  simp only [ByteArray.size_append,zax]
  rw [if_pos (by simp),if_pos (by simp),if_pos (by omega),if_pos (by omega),if_pos (by omega),if_pos (by simp),if_pos (by omega),if_pos (by simp),if_pos (by omega)]
  simp only [zb5,zbq,zbg]
 ·rw [if_neg h,if_neg h]
instance decBatch : DecidableEq S67 := fun a b => decidable_of_iff (a.f0 = b.f0 ∧ a.f1 = b.f1 ∧ a.f2 = b.f2) ⟨fun ⟨h0,h1,h2⟩ => by obtain ⟨a0,a1,a2⟩ := a;obtain ⟨b0,b1,b2⟩ := b;simp only at h0 h1 h2;rw [h0,h1,h2],fun h => by rw [h];exact ⟨rfl,rfl,rfl⟩⟩
theorem zc6 (l : List S67) (j : Nat) (h : j < l.length) : zN l (j : Int) = l[j] := by
 rw [zN,Int.toNat_natCast,List.getD_eq_getElem?_getD,List.getElem?_eq_getElem h];rfl
theorem zfo (a b : List S67) (hl : a.length = b.length) (hb : a.length < 4611686018427387904) (hs : ∀ x ∈ a,x.f2.length < 4611686018427387904) (d : Nat) : ∀ j,j + d = a.length →
  Ev (fun k => zy.l0 k a b (j : Int)) (decide (a.drop j = b.drop j)) := by
 induction d with
 | zero =>
  intro j hj
  refine Ev.step (fun k => by rw [zy.l0]) ?_
  refine zT (by omega) (zac (Ev.now _) ?_)
  rw [List.drop_eq_nil_of_le (by omega),List.drop_eq_nil_of_le (by omega)];rfl
 | succ d ih =>
  intro j hj
  have ha : j < a.length := by omega
  have hb' : j < b.length := by omega
  refine Ev.step (fun k => by rw [zy.l0]) ?_
  refine zF (by omega) (zF (by omega) (zF (by omega) ?_))
  rw [zc6 a j ha,zc6 b j hb']
  refine Ev.bind (zfm _ _ _ _ _ _ (hs _ (List.getElem_mem ha))) ?_
  rw [zaf (by omega) (by omega),List.drop_eq_getElem_cons ha,List.drop_eq_getElem_cons hb']
  by_cases e : a[j] = b[j]
  ·refine zF (by rw [e];simp [zgO]) (zac (ih (j + 1) (by omega)) ?_)
   rw [e];exact decide_eq_decide.2 ⟨fun h => by rw [h],fun h => (List.cons.inj h).2⟩
  ·refine zT ?_ (zac (Ev.now _) ?_)
   ·intro hh
    apply e
    obtain ⟨h0,h1,h2⟩ := of_decide_eq_true hh
    generalize a[j] = p at *
    generalize b[j] = q at *
    obtain ⟨p0,p1,p2⟩ := p;obtain ⟨q0,q1,q2⟩ := q
    simp only at h0 h1 h2;rw [h0,h1,h2]
   ·exact (decide_eq_false (fun h => e (List.cons.inj h).1)).symm
theorem zgo (a b : List S67) (hb : a.length < 4611686018427387904) (hs : ∀ x ∈ a,x.f2.length < 4611686018427387904) : Ev (fun k => zy.f k a b) (decide (a = b)) := by
 by_cases h : a.length = b.length
 ·exact zF (by omega) (zfo a b h hb hs a.length 0 (by omega))
 ·refine zT (by omega) (zac (Ev.now _) ?_)
  have : ¬ a = b := fun e => h (by rw [e])
  simp [this]
def zds (a r : Int) (bs : List S67) (ps : List ByteArray) (x y a' r' : Int) (bs' : List S67) (ps' : List ByteArray) (x' y' : Int) : Bool := decide (a = a' ∧ r = r' ∧ bs = bs' ∧ ps = ps' ∧ x = x' ∧ y = y')
theorem ze1 (a r : Int) (bs : List S67) (ps : List ByteArray) (x y a' r' : Int) (bs' : List S67) (ps' : List ByteArray) (x' y' : Int) (hb : bs.length < 4611686018427387904) (hs : ∀ b ∈ bs,b.f2.length < 4611686018427387904) (hp : ps.length < 4611686018427387904) :
  Ev (fun k => za1.f k a r bs ps x y a' r' bs' ps' x' y') (zds a r bs ps x y a' r' bs' ps' x' y') := by
 refine Ev.bind (zf4 _ _ hp) (Ev.bind (zgo _ _ hb hs) ?_)
 unfold zds
 by_cases h1 : ps = ps'
 ·refine zF (by simp [h1]) ?_
  by_cases h2 : bs = bs'
  ·refine zF (by simp [h2]) ?_
   by_cases h3 : a = a'
   ·refine zF h3 ?_
    by_cases h4 : r = r'
    ·refine zF h4 (zac (Ev.now _) ?_)
     by_cases h5 : x = x' <;> by_cases h6 : y = y' <;> simp [h1,h2,h3,h4,h5,h6]
    ·exact zT h4 (zac (Ev.now _) (by simp [h4]))
   ·exact zT h3 (zac (Ev.now _) (by simp [h3]))
  ·exact zT (by simp [h2]) (zac (Ev.now _) (by simp [h2]))
 ·exact zT (by simp [h1]) (zac (Ev.now _) (by simp [h1]))
theorem zcP {a r : Int} {bs : List S67} {ps : List ByteArray} {x y a' r' : Int} {bs' : List S67} {ps' : List ByteArray} {x' y' : Int} : zds a r bs ps x y a' r' bs' ps' x' y' = true ↔ a = a' ∧ r = r' ∧ bs = bs' ∧ ps = ps' ∧ x = x' ∧ y = y' := by
 rw [zds,decide_eq_true_iff]
theorem zh4 {a r : Int} {bs : List S67} {ps : List ByteArray} {x y n : Int} (h : zbx a r bs ps x y n = true) : bs.length < 4611686018427387904 ∧ (∀ b ∈ bs,b.f2.length < 4611686018427387904) ∧ ps.length < 4611686018427387904 := by
 obtain ⟨h0,_,_,_,_,h5,h6,_,_,h9⟩ := (zcH ..).1 h
 refine ⟨by omega,fun b hb => ?_,by have := (zbG h0 h9).1;omega⟩
 obtain ⟨_,_,_,_,_,k,_⟩ := (zdP _ _ _).1 (any_odd h6 b hb).1
 omega
theorem zhE (o q : Int) (l : List ByteArray) (hl : l.length < 4611686018427387904) (d : Nat) : ∀ j,j + d = l.length →
  Ev (fun k => zr.l0 k (j : Int) o q l) (!(l.drop j).any zco) := by
 induction d with
 | zero =>
  intro j hj
  refine Ev.step (fun k => by rw [zr.l0]) ?_
  refine zT (by omega) (zac (Ev.now _) ?_)
  rw [List.drop_eq_nil_of_le (by omega)];rfl
 | succ d ih =>
  intro j hj
  have hjl : j < l.length := by omega
  refine Ev.step (fun k => by rw [zr.l0]) ?_
  refine zF (by omega) (zF (by omega) ?_)
  rw [zeF l j hjl,List.drop_eq_getElem_cons hjl,zaf (by omega) (by omega),List.any_cons]
  by_cases h1 : (l[j].size : Int) < 1
  ·refine zF h1 (zac (Ev.now _) ?_)
   have : l[j].size = 0 := by omega
   simp [zco,this]
  ·refine zT h1 ?_
   by_cases h2 : (l[j].size : Int) > 48
   ·refine zF h2 (zac (Ev.now _) ?_)
    have : 48 < l[j].size := by omega
    simp [zco,this]
   ·refine zT h2 (zac (ih (j + 1) (by omega)) ?_)
    have e1 : zco l[j] = false := by
     have : ¬ l[j].size = 0 := by omega
     have h3 : ¬ 48 < l[j].size := by omega
     simp [zco,this,h3]
    rw [e1,Bool.false_or]
theorem zgI (o q : Int) (l : List ByteArray) (hl : l.length < 4611686018427387904) : Ev (fun k => zr.f k o q l) (zdO o q l) := by
 have key : ∀ b : Bool,(b = true ↔ ¬ (1 ≤ o ∧ o ≤ 64 ∧ 1 ≤ q ∧ q ≤ 1073741824 ∧ 1 ≤ l.length ∧ l.length ≤ 4)) → Ev (fun k => zr.j0 k b o q l) (zdO o q l) := by
  intro b hb
  refine Ev.step (fun k => by rw [zr.j0]) ?_
  by_cases h : 1 ≤ o ∧ o ≤ 64 ∧ 1 ≤ q ∧ q ≤ 1073741824 ∧ 1 ≤ l.length ∧ l.length ≤ 4
  ·refine zT (fun hh => hb.1 hh h) (zac (zhE o q l hl l.length 0 (by omega)) ?_)
   obtain ⟨h1,h2,h3,h4,h5,h6⟩ := h
   simp [zdO,h1,h2,h3,h4,h5,h6]
  ·refine zF (hb.2 h) (zac (Ev.now _) ?_)
   symm
   rw [← Bool.not_eq_true,zdP]
   exact fun ⟨h1,h2,h3,h4,h5,h6,_⟩ => h ⟨h1,h2,h3,h4,h5,h6⟩
 by_cases h1 : o < 1
 ·exact zF h1 (key true (by simp;omega))
 refine zT h1 ?_
 by_cases h2 : o > 64
 ·exact zF h2 (key true (by simp;omega))
 refine zT h2 ?_
 by_cases h3 : q < 1
 ·exact zF h3 (key true (by simp;omega))
 refine zT h3 ?_
 by_cases h4 : q > 1073741824
 ·exact zF h4 (key true (by simp;omega))
 refine zT h4 ?_
 by_cases h5 : (l.length : Int) < 1
 ·exact zF h5 (key true (by simp;omega))
 exact zT h5 (key _ (by simp;omega))
theorem zeG (n : Int) : zam.f n = some (zcZ n) := by
 unfold zam.f zcZ
 by_cases h4 : n = 4
 ·subst h4;rfl
 ·rw [if_neg h4]
  by_cases h : n > 4
  ·rw [if_pos h]
   by_cases h1 : n ≤ 64
   ·rw [if_pos h1,zaf (by omega) (by omega),Int.tmod_eq_emod_of_nonneg (by omega)]
    by_cases h2 : n % 3 = 1
    ·have : (n - 1) % 3 = 0 := by omega
     simp [h1,h2,this];omega
    ·have : ¬ (n - 1) % 3 = 0 := by omega
     simp [h2,this]
   ·rw [if_neg h1];simp [h1]
  ·rw [if_neg h]
   have : ¬ 4 ≤ n := by omega
   simp [this]
theorem zfl (n : Int) : zah.f n = some (zbR n) := by
 unfold zah.f zbR
 rw [zeG]
 simp only [Option.bind_some]
 by_cases h : zcZ n = true
 ·rw [if_pos h,if_pos h]
  obtain ⟨h1,h2,h3⟩ := (zcG n).1 h
  rw [zaf (x := n - 1) (by omega) (by omega),Int.tdiv_eq_ediv_of_nonneg (by omega),zaf (x := (n - 1) / 3) (by omega) (by omega),zaf (by omega) (by omega)]
 ·rw [if_neg h,if_neg h]
theorem zg6 (a b : Int) : zal.f a b = some (zfj a b) := by
 unfold zal.f zfj
 by_cases h1 : 0 ≤ a <;> by_cases h2 : a < 10007 <;> by_cases h3 : 0 ≤ b <;> simp [h1,h2,h3]
theorem zf2 (r : Int) : z8.f r = some (zde r) := by
 unfold z8.f zde
 by_cases h : r > 0
 ·rw [if_pos h,Int.tmod_eq_emod_of_nonneg (by omega)]
  by_cases h2 : r % 3 = 0
  ·have : 3 ≤ r := by omega
   simp [h2,this]
  ·simp [h2]
 ·rw [if_neg h]
  have : ¬ 3 ≤ r := by omega
  simp [this]
def ze4 (r x y : Int) : Bool := zfj x y && (zde r || (decide (x = 0) && decide (y = 0)))
theorem zim (a r : Int) (bs : List S67) (ps : List ByteArray) (x y : Int) (hl : ps.length < 4611686018427387904) (hp : ∀ t ∈ ps,t.size < 4611686018427387904) (d : Nat) : ∀ j,j + d = ps.length →
  Ev (fun k => zh.l1 k (j : Int) a r bs ps x y) (zbi ps d j && ze4 r x y) := by
 induction d with
 | zero =>
  intro j hj
  refine Ev.step (fun k => by rw [zh.l1]) ?_
  refine zT (by omega) (zaC (zg6 x y) (zaC (zf2 r) ?_))
  unfold ze4
  by_cases h1 : zfj x y = true
  ·refine zF h1 ?_
   by_cases h2 : zde r = true
   ·exact zF h2 (zac (Ev.now _) (by simp [zbi,h1,h2]))
   ·refine zT h2 ?_
    by_cases h3 : x = 0
    ·refine zF h3 (zac (Ev.now _) ?_)
     rw [Bool.not_eq_true] at h2
     subst h3
     by_cases h4 : y = 0
     ·subst h4;simp [zbi,h1,h2]
     ·simp [zbi,h1,h2,h4]
    ·rw [Bool.not_eq_true] at h2
     exact zT h3 (zac (Ev.now _) (by simp [zbi,h2,h3]))
  ·rw [Bool.not_eq_true] at h1
   exact zT (by rw [h1];simp) (zac (Ev.now _) (by simp [zbi,h1]))
 | succ d ih =>
  intro j hj
  have hj' : j < ps.length := by omega
  refine Ev.step (fun k => by rw [zh.l1]) ?_
  refine zF (by omega) (zF (by omega) ?_)
  have e1 : zz ByteArray.empty ps (j : Int) = ps.getD j ByteArray.empty := by rw [zz,Int.toNat_natCast]
  rw [e1]
  by_cases h : (ps.getD j ByteArray.empty).size = 32
  ·refine zF (by omega) ?_
   rw [zaf (x := (j : Int) + 1) (by omega) (by omega)]
   by_cases h0 : j = 0
   ·subst h0
    refine zT (by omega) (zac (ih 1 (by omega)) ?_)
    simp only [zbi,zgr,h];simp
   ·refine zF (by omega) ?_
    have e2 : wrap64 ((j : Int) - 1) = ((j - 1 : Nat) : Int) := by rw [zaf (by omega) (by omega)];omega
    rw [e2]
    refine zF (by omega) (zF (by omega) ?_)
    have e3 : zz ByteArray.empty ps ((j - 1 : Nat) : Int) = ps.getD (j - 1) ByteArray.empty := by rw [zz,Int.toNat_natCast]
    rw [e3]
    have hsz : (ps.getD (j - 1) ByteArray.empty).size < 4611686018427387904 := by
     rw [List.getD_eq_getElem?_getD,List.getElem?_eq_getElem (show j - 1 < ps.length by omega)]
     exact hp _ (List.getElem_mem _)
    refine Ev.bind (less_ev _ _ hsz) ?_
    by_cases h2 : zdN (ofB (ps.getD (j - 1) ByteArray.empty)) (ofB (ps.getD j ByteArray.empty)) = true
    ·refine zF h2 (zac (ih (j + 1) (by omega)) ?_)
     simp only [zbi,zgr,h,h2];simp
    ·refine zT h2 (zac (Ev.now _) ?_)
     rw [Bool.not_eq_true] at h2
     simp only [zbi,zgr,h,h0,h2];simp
  ·refine zT (by omega) (zac (Ev.now _) ?_)
   simp only [zbi,zgr,h];simp
def zfz (r : Int) (ps : List ByteArray) (x y n : Int) : Bool :=
 !(decide (r = 1) && decide (0 < ps.length)) && !(decide (1 < r) && (decide ((ps.length : Int) < zbR n) || decide (n < ps.length))) && (zbi ps ps.length 0 && ze4 r x y)
theorem zil (a r : Int) (bs : List S67) (ps : List ByteArray) (x y n : Int) (hb : bs.length < 4611686018427387904) (hbs : ∀ b ∈ bs,b.f2.length < 4611686018427387904) (hl : ps.length < 4611686018427387904) (hp : ∀ t ∈ ps,t.size < 4611686018427387904) (d : Nat) : ∀ j,j + d = bs.length →
  Ev (fun k => zh.l0 k n (j : Int) a r bs ps x y) (!(bs.drop j).any (zc0 n) && zfz r ps x y n) := by
 induction d with
 | zero =>
  intro j hj
  refine Ev.step (fun k => by rw [zh.l0]) ?_
  rw [List.drop_eq_nil_of_le (by omega)]
  refine zT (by omega) ?_
  have J3 : ∀ b : Bool,Ev (fun k => zh.j3 k b a r bs ps x y) (!b && (zbi ps ps.length 0 && ze4 r x y)) := by
   intro b
   refine Ev.step (fun k => by rw [zh.j3]) ?_
   rcases b with _ | _
   ·exact zT (by simp) (zac (zim a r bs ps x y hl hp ps.length 0 (by omega)) (by simp))
   ·exact zF rfl (zac (Ev.now _) (by simp))
  have J2 : ∀ b : Bool,Ev (fun k => zh.j2 k n b a r bs ps x y) (!b && (!(decide (1 < r) && (decide ((ps.length : Int) < zbR n) || decide (n < ps.length))) && (zbi ps ps.length 0 && ze4 r x y))) := by
   intro b
   refine Ev.step (fun k => by rw [zh.j2]) ?_
   rcases b with _ | _
   ·refine zT (by simp) ?_
    by_cases h : r > 1
    ·have h' : 1 < r := h
     refine zF h (zaC (zfl n) ?_)
     by_cases h2 : (ps.length : Int) < zbR n
     ·exact zF h2 (zac (J3 true) (by simp [h',h2]))
     ·exact zT h2 (zac (J3 _) (by simp [h',h2]))
    ·have h' : ¬ 1 < r := h
     exact zT h (zac (J3 false) (by simp [h']))
   ·exact zF rfl (zac (Ev.now _) (by simp))
  unfold zfz
  by_cases h : r = 1
  ·refine zF h (zac (J2 _) ?_)
   subst h
   by_cases h0 : 0 < ps.length
   ·have : decide ((ps.length : Int) > 0) = true := decide_eq_true (by omega)
    simp [this,h0]
   ·have : decide ((ps.length : Int) > 0) = false := decide_eq_false (by omega)
    simp [this,h0]
  ·exact zT h (zac (J2 false) (by simp [h]))
 | succ d ih =>
  intro j hj
  have hj' : j < bs.length := by omega
  refine Ev.step (fun k => by rw [zh.l0]) ?_
  refine zF (by omega) (zF (by omega) ?_)
  rw [zc6 bs j hj',zaf (by omega) (by omega),List.drop_eq_getElem_cons hj',List.any_cons]
  refine Ev.bind (zgI _ _ _ (hbs _ (List.getElem_mem hj'))) ?_
  by_cases h : zdO bs[j].f0 bs[j].f1 bs[j].f2 = true
  ·refine zF h ?_
   by_cases h2 : bs[j].f0 > n
   ·have h3 : n < bs[j].f0 := h2
    exact zF h2 (zac (Ev.now _) (by simp [zc0,h3]))
   ·have h3 : ¬ n < bs[j].f0 := h2
    refine zT h2 (zac (ih (j + 1) (by omega)) ?_)
    have : zc0 n bs[j] = false := by simp [zc0,h,h3]
    rw [this,Bool.false_or]
  ·refine zT h (zac (Ev.now _) ?_)
   rw [Bool.not_eq_true] at h
   simp [zc0,h]
theorem mayV_ref (a r : Int) (bs : List S67) (ps : List ByteArray) (x y n : Int) (h0 : zcZ n = true) (h1 : 1 ≤ a) (h2 : a ≤ n) (h3 : 1 ≤ r) (h4 : r ≤ 1048576) (h5 : bs.length ≤ 4) :
  zbx a r bs ps x y n = (!bs.any (zc0 n) && zfz r ps x y n) := by
 unfold zbx zfz zb2 ze4
 simp only [h0,h1,h2,h3,h4,h5]
 by_cases e : r = 1
 ·subst e
  rcases ps with _ | ⟨p,ps⟩
  ·simp [zbi,Bool.and_assoc]
  ·simp
 ·have h6 : 1 < r := by omega
  simp only [if_neg e,e,h6]
  have q1 : decide ((ps.length : Int) < zbR n) = !decide (zbR n ≤ (ps.length : Int)) := by
   by_cases q : zbR n ≤ (ps.length : Int) <;> simp [q] <;> omega
  have q2 : decide (n < (ps.length : Int)) = !decide ((ps.length : Int) ≤ n) := by
   by_cases q : (ps.length : Int) ≤ n <;> simp [q] <;> omega
  rw [q1,q2]
  cases bs.any (zc0 n) <;> cases zfj x y <;> cases zde r <;> cases zbi ps ps.length 0 <;> cases decide (zbR n ≤ (ps.length : Int)) <;> cases decide ((ps.length : Int) ≤ n) <;> simp
theorem zik (a r : Int) (bs : List S67) (ps : List ByteArray) (x y n : Int) (hb : bs.length < 4611686018427387904) (hbs : ∀ b ∈ bs,b.f2.length < 4611686018427387904) (hl : ps.length < 4611686018427387904) (hp : ∀ t ∈ ps,t.size < 4611686018427387904) :
  Ev (fun k => zh.f k a r bs ps x y n) (zbx a r bs ps x y n) := by
 have key : ∀ b : Bool,(b = true ↔ ¬ (zcZ n = true ∧ 1 ≤ a ∧ a ≤ n ∧ 1 ≤ r ∧ r ≤ 1048576 ∧ bs.length ≤ 4)) → Ev (fun k => zh.j0 k n b a r bs ps x y) (zbx a r bs ps x y n) := by
  intro b hb'
  refine Ev.step (fun k => by rw [zh.j0]) ?_
  by_cases h : zcZ n = true ∧ 1 ≤ a ∧ a ≤ n ∧ 1 ≤ r ∧ r ≤ 1048576 ∧ bs.length ≤ 4
  ·refine zT (fun hh => hb'.1 hh h) (zac (zil a r bs ps x y n hb hbs hl hp bs.length 0 (by omega)) ?_)
   obtain ⟨h0,h1,h2,h3,h4,h5⟩ := h
   rw [mayV_ref a r bs ps x y n h0 h1 h2 h3 h4 h5,List.drop_zero]
  ·refine zF (hb'.2 h) (zac (Ev.now _) ?_)
   symm
   rw [← Bool.not_eq_true,zcH]
   exact fun ⟨h0,h1,h2,h3,h4,h5,_⟩ => h ⟨h0,h1,h2,h3,h4,h5⟩
 refine zaC (zeG n) ?_
 by_cases h0 : zcZ n = true
 ·refine zF h0 ?_
  by_cases h1 : a < 1
  ·exact zF h1 (key true (by simp;omega))
  refine zT h1 ?_
  by_cases h2 : a > n
  ·exact zF h2 (key true (by simp;omega))
  refine zT h2 ?_
  by_cases h3 : r < 1
  ·exact zF h3 (key true (by simp;omega))
  refine zT h3 ?_
  by_cases h4 : r > 1048576
  ·exact zF h4 (key true (by simp;omega))
  exact zT h4 (key _ (by simp [h0];omega))
 ·exact zT h0 (key true (by simp [h0]))
theorem zcu {x : Int} (h0 : 0 ≤ x) (h1 : x < 9223372036854775808) : Ev (fun k => zq.f k (IntKind.u64.wrap x)) (zbq x.toNat) := by
 obtain ⟨n,rfl⟩ := Int.eq_ofNat_of_zero_le h0
 rw [zbU (by omega) (by omega),Int.toNat_natCast]
 exact ze0 n (by omega)
def zgP (o q : Int) (l : List ByteArray) : ByteArray × Int := if zdO o q l = true then (toB (zeS o q l),0) else ((⟨#[]⟩ : ByteArray),1)
theorem zeZ (o q : Int) (l : List ByteArray) (hl : l.length < 4611686018427387904) : Ev (fun k => zab.f k o q l) (zgP o q l) := by
 refine Ev.bind (zgI _ _ _ hl) ?_
 unfold zgP
 by_cases h : zdO o q l = true
 ·rw [if_pos h]
  obtain ⟨h1,h2,h3,h4,h5,h6,h7⟩ := (zdP o q l).1 h
  have r1 := zdV l 48 (by omega) (fun t ht => (h7 t ht).2)
  have r2 := za2 (v := l.length) (by omega)
  have r3 : (zb9 l).length ≤ 300 := by rw [zb9,List.length_append];omega
  have n1 := za9 (v := o.toNat) (by omega)
  have n2 := za9 (v := q.toNat) (by omega)
  have r4 : zM.f l = some (toB (zb9 l)) := if_pos (by omega)
  refine zF h (Ev.bind (zcu (by omega) (by omega)) (Ev.bind (zcu (by omega) (by omega)) (zF (by omega) (zaC r4 (zF (by rw [ByteArray.size_append,zax];omega) (zac (Ev.now _) ?_))))))
  rw [zeS,zbg,zbg];rfl
 ·rw [if_neg h];exact zT h (Ev.now _)
theorem zhX (b : S67) : (zgP b.f0 b.f1 b.f2).1 = bB b := by
 unfold zgP bB;split <;> rfl
def zhj (a r : Int) (bs : List S67) (ps : List ByteArray) (x y n : Int) : ByteArray × Int := if zbx a r bs ps x y n = true then (toB (zb5 a r bs ps x y),0) else ((⟨#[]⟩ : ByteArray),1)
theorem zha {a r : Int} {bs : List S67} {ps : List ByteArray} {x y n : Int} (h : zbx a r bs ps x y n = true) (d : Nat) : ∀ j,j + d = bs.length →
  Ev (fun k => zu.l0 k ((bs.take j).map bB) (j : Int) a r bs ps x y) (toB (zb5 a r bs ps x y),0) := by
 obtain ⟨h0,h1,h2,h3,h4,h5,h6,h7,h8,h9⟩ := (zcH ..).1 h
 obtain ⟨k1,k2,k3⟩ := (zcG n).1 h0
 obtain ⟨x1,x2,y1,y2⟩ := (zeB x y).1 h7
 induction d with
 | zero =>
  intro j hj
  refine Ev.step (fun k => by rw [zu.l0]) ?_
  rw [List.take_of_length_le (by omega)]
  have s0 := za9 (v := a.toNat) (by omega)
  have s1 := za9 (v := r.toNat) (by omega)
  have s2 := za9 (v := x.toNat) (by omega)
  have s3 := za9 (v := y.toNat) (by omega)
  have r1 := zhc h5
  have r2 := zhd (zbG h0 h9)
  have d1 : zM.f (bs.map bB) = some (toB (zb9 (bs.map bB))) := if_pos (by omega)
  have d2 : zM.f ps = some (toB (zb9 ps)) := if_pos (by omega)
  refine zT (by omega) (Ev.bind (zcu (by omega) (by omega)) (Ev.bind (zcu (by omega) (by omega)) (zF (by omega) (zaC d1 (zF (by simp only [ByteArray.size_append,zax];omega) (zaC d2 (zF (by simp only [ByteArray.size_append,zax];omega)
   (Ev.bind (zcu (by omega) (by omega)) (zF (by simp only [ByteArray.size_append,zax];omega) (Ev.bind (zcu (by omega) (by omega)) (zF (by simp only [ByteArray.size_append,zax];omega) (zac (Ev.now _) ?_))))))))))))
  simp only [zb5,zbq,zbg]
 | succ d ih =>
  intro j hj
  have hj' : j < bs.length := by omega
  refine Ev.step (fun k => by rw [zu.l0]) ?_
  refine zF (by omega) (zF (by omega) ?_)
  rw [zc6 bs j hj',zaf (by omega) (by omega)]
  have hl := (zh4 h).2.1 _ (List.getElem_mem hj')
  refine Ev.bind (zeZ _ _ _ hl) (zF (by rw [List.length_map,List.length_take];omega) ?_)
  rw [zhX]
  have e : (bs.take j).map bB ++ [bB bs[j]] = (bs.take (j + 1)).map bB := by
   rw [List.take_succ_eq_append_getElem hj',List.map_append];rfl
  rw [e]
  exact ih (j + 1) (by omega)
theorem zeH (a r : Int) (bs : List S67) (ps : List ByteArray) (x y n : Int) (hb : bs.length < 4611686018427387904) (hbs : ∀ b ∈ bs,b.f2.length < 4611686018427387904) (hl : ps.length < 4611686018427387904) (hp : ∀ t ∈ ps,t.size < 4611686018427387904) :
  Ev (fun k => zu.f k a r bs ps x y n) (zhj a r bs ps x y n) := by
 refine Ev.bind (zik a r bs ps x y n hb hbs hl hp) ?_
 unfold zhj
 by_cases h : zbx a r bs ps x y n = true
 ·rw [if_pos h]
  exact zF h (zac (zha h bs.length 0 (by omega)) rfl)
 ·rw [if_neg h];exact zT h (Ev.now _)
theorem zir {s : ByteArray} (h : s.size ≤ 10000) : zcy.f s = some (zf7 s) := by rw [zcy.f,if_pos (by omega)]
theorem refSum_of {s : ByteArray} (h : s.size ≤ 10000) : zaM.f s = some (zf7 s) := by rw [zaM.f,if_pos (by omega)]
theorem zhA (b : UInt8) (s : ByteArray) : ((⟨#[b]⟩ : ByteArray) ++ s).size = 1 + s.size := by rw [ByteArray.size_append];rfl
theorem zeL {a r : Int} {bs : List S67} {ps : List ByteArray} {x y n : Int} (h : zbx a r bs ps x y n = true) : (toB (zb5 a r bs ps x y)).size ≤ 5000 := by
 obtain ⟨h0,h1,h2,h3,h4,h5,h6,h7,h8,h9⟩ := (zcH ..).1 h
 obtain ⟨k1,k2,k3⟩ := (zcG n).1 h0
 obtain ⟨x1,x2,y1,y2⟩ := (zeB x y).1 h7
 have r1 := zhc (bs := bs) (by omega)
 have r2 := zhd (zbG h0 h9)
 have r3 := za2 (v := a.toNat) (by omega)
 have r4 := za2 (v := r.toNat) (by omega)
 have r5 := za2 (v := x.toNat) (by omega)
 have r6 := za2 (v := y.toNat) (by omega)
 rw [zax,zb5]
 simp only [List.length_append]
 omega
def zaa (a r : Int) (bs : List S67) (ps : List ByteArray) (x y n : Int) : ByteArray × Int := if zbx a r bs ps x y n = true then (zf7 ((⟨#[118]⟩ : ByteArray) ++ toB (zb5 a r bs ps x y)),0) else ((⟨#[]⟩ : ByteArray),1)
theorem zdt (a r : Int) (bs : List S67) (ps : List ByteArray) (x y n : Int) : za5.f a r bs ps x y n = some (zaa a r bs ps x y n) := by
 unfold za5.f zaa
 rw [zfs]
 simp only [Option.bind_some]
 by_cases h : zbx a r bs ps x y n = true
 ·have hs := zeL h
  rw [if_pos h,if_pos h,if_pos rfl,if_pos (by show 1 + (toB (zb5 a r bs ps x y)).size ≤ _;omega)]
  show (zcy.f ((⟨#[118]⟩ : ByteArray) ++ toB (zb5 a r bs ps x y))).bind _ = _
  rw [zir (by rw [zhA];omega)]
  rfl
 ·rw [if_neg h,if_neg h,if_neg (by simp)]
theorem zep (a r : Int) (bs : List S67) (ps : List ByteArray) (x y n : Int) (hb : bs.length < 4611686018427387904) (hbs : ∀ b ∈ bs,b.f2.length < 4611686018427387904) (hl : ps.length < 4611686018427387904) (hp : ∀ t ∈ ps,t.size < 4611686018427387904) :
  Ev (fun k => zaD.f k a r bs ps x y n) (zaa a r bs ps x y n) := by
 unfold zaD.f
 refine Ev.bind (zeH a r bs ps x y n hb hbs hl hp) ?_
 unfold zhj zaa
 by_cases h : zbx a r bs ps x y n = true
 ·have hs := zeL h
  rw [if_pos h,if_pos h]
  refine zF rfl (zF (by show 1 + (toB (zb5 a r bs ps x y)).size ≤ _;omega) ?_)
  refine zaC (refSum_of (s := (⟨#[118]⟩ : ByteArray) ++ toB (zb5 a r bs ps x y)) (by rw [zhA];omega)) ?_
  exact Ev.now _
 ·rw [if_neg h,if_neg h]
  exact zT (by simp) (Ev.now _)
abbrev Ent := S42
abbrev Vtx := S30
abbrev TE := ByteArray × Int × Int × List S67 × List ByteArray × Int × Int × Bool
def zbQ (L : List Ent) (low r : Int) (ps : List ByteArray) : List ByteArray := if wrap64 (r - 1) ≤ low then [] else ps.filter fun p => !L.any fun x => decide (x.f1.f1 = wrap64 (r - 1) ∧ x.f0 = p)
def tupE (x : Ent) : TE := (x.f0,x.f1.f0,x.f1.f1,x.f1.f2,x.f1.f3,x.f1.f4.f0,x.f1.f4.f1,true)
def noE : TE := ((⟨#[]⟩ : ByteArray),0,0,[],[],0,0,false)
def zcB (L : List Ent) (g : ByteArray) : Option Ent := L.find? fun x => decide (x.f0 = g)
def byE (L : List Ent) (a r : Int) : Option Ent := L.find? fun x => decide (x.f1.f0 = a ∧ x.f1.f1 = r)
def zd8 (o : Option Ent) : TE := match o with | some x => tupE x | none => noE
def zbd (a r a' r' : Int) : Bool := decide (r < r' ∨ r = r' ∧ a < a')
def zdb (L : List Ent) (x : Ent) : List Ent := match L with
 | [] => [x]
 | y :: L => if zbd x.f1.f0 x.f1.f1 y.f1.f0 y.f1.f1 = true then x :: y :: L else y :: zdb L x
def zd9 (n low : Int) (L : List Ent) (a r : Int) (bs : List S67) (ps : List ByteArray) (x y : Int) : Int :=
 if (zaa a r bs ps x y n).2 ≠ 0 then (zaa a r bs ps x y n).2
 else if r ≤ low then 9
 else if (zcB L (zaa a r bs ps x y n).1).isSome then 8
 else if (byE L a r).isSome then 13
 else if 0 < (zbQ L low r ps).length then 11
 else 0
def zes (n low : Int) (L : List Ent) (a r : Int) (bs : List S67) (ps : List ByteArray) (x y : Int) : List Ent :=
 if zd9 n low L a r bs ps x y = 0 then zdb L ⟨(zaa a r bs ps x y n).1,⟨a,r,bs,ps,⟨x,y⟩⟩⟩ else L
def zcA (L : List Ent) (low : Int) : List Ent := L.filter fun x => decide (low < x.f1.f1)
def okE (n low : Int) (L : List Ent) (i : Nat) (x : Ent) : Bool :=
 (decide ((zaa x.f1.f0 x.f1.f1 x.f1.f2 x.f1.f3 x.f1.f4.f0 x.f1.f4.f1 n).2 = 0) && decide ((zaa x.f1.f0 x.f1.f1 x.f1.f2 x.f1.f3 x.f1.f4.f0 x.f1.f4.f1 n).1 = x.f0) && decide (low < x.f1.f1) && decide ((zbQ L low x.f1.f1 x.f1.f3).length = 0)) && (decide (i = 0) || zbd (L.getD (i - 1) z42).f1.f0 (L.getD (i - 1) z42).f1.f1 x.f1.f0 x.f1.f1)
def zci (n low : Int) (L : List Ent) : Bool := zcZ n && decide (0 ≤ low) && (List.range L.length).all fun i => okE n low L i (L.getD i z42)
theorem ent_at {W : World} {base : Nat} {ok : Nat → Prop} {A : Option Addr} {n c : Nat} {L : List Ent} (h : Kd.V k42 42 W base ok (.slice A n c) L) (k : Nat) (hk : k < n) (x : Ent) (hx : L[k]? = some x) :
  ∃ ad A3 c3 A4 c4,A = some ad ∧ W.cell? (ad.add (k * 7)) = some (.string x.f0) ∧ W.cell? ⟨(ad.add (k * 7)).block,(ad.add (k * 7)).off + 1,none⟩ = some (.int .i64 x.f1.f0) ∧ W.cell? ⟨(ad.add (k * 7)).block,(ad.add (k * 7)).off + 2,none⟩ = some (.int .i64 x.f1.f1) ∧ W.cell? ⟨(ad.add (k * 7)).block,(ad.add (k * 7)).off + 3,none⟩ = some (.slice A3 x.f1.f2.length c3) ∧ W.cell? ⟨(ad.add (k * 7)).block,(ad.add (k * 7)).off + 4,none⟩ = some (.slice A4 x.f1.f3.length c4) ∧ W.cell? ⟨(ad.add (k * 7)).block,(ad.add (k * 7)).off + 5,none⟩ = some (.int .i64 x.f1.f4.f0) ∧ W.cell? ⟨(ad.add (k * 7)).block,(ad.add (k * 7)).off + 6,none⟩ = some (.int .i64 x.f1.f4.f1) ∧
   Kd.V k67 67 W base ok (.slice A3 x.f1.f2.length c3) x.f1.f2 ∧ Kd.V Kd.string 9 W base ok (.slice A4 x.f1.f3.length c4) x.f1.f3 := by
 obtain rfl := (Kd.V_reads' h).1
 obtain ⟨ad,_,_,_,_,rfl,_⟩ := zaG (Kd.V_reads' h).2.2 (k : Int) (by omega) (by omega)
 obtain ⟨cs,_,hF,hc0⟩ := Kd.V_get h z42 (k : Int) (by omega) (by omega)
 rw [List.getD_eq_getElem?_getD,Int.toNat_natCast,hx] at hF
 have hc : ∀ j u,cs[j]? = some u → W.cell? (ad.add (k * 7 + j)) = some u := fun j u hj => by have := hc0 j u hj;rwa [Int.toNat_natCast] at this
 obtain ⟨A3,c3,A4,c4,rfl,l3,g3,l4,g4⟩ := zaF hF
 exact ⟨ad,A3,c3,A4,c4,rfl,hc 0 _ rfl,by rw [← zQ _ _ 1 (by omega)];exact hc 1 _ rfl,by rw [← zQ _ _ 2 (by omega)];exact hc 2 _ rfl,by rw [← zQ _ _ 3 (by omega)];exact hc 3 _ rfl,by rw [← zQ _ _ 4 (by omega)];exact hc 4 _ rfl,by rw [← zQ _ _ 5 (by omega)];exact hc 5 _ rfl,by rw [← zQ _ _ 6 (by omega)];exact hc 6 _ rfl,Kd.V_mk l3 g3,Kd.V_mk l4 g4⟩
theorem zgA {α : Type} (p : α → Bool) (l : List α) : (∃ (i : Nat) (x : α),i < l.length ∧ l[i]? = some x ∧ l.find? p = some x ∧ zcD p l = i) ∨ (l.find? p = none ∧ zcD p l = -1) := by
 rw [zcD]
 rcases h : l.findIdx? p with _ | i
 ·right
  rw [List.findIdx?_eq_none_iff] at h
  exact ⟨List.find?_eq_none.2 (fun x hx => by simp [h x hx]),rfl⟩
 ·left
  rw [List.findIdx?_eq_some_iff_getElem] at h
  obtain ⟨hi,hp,hn⟩ := h
  refine ⟨i,l[i],hi,List.getElem?_eq_getElem hi,?_,rfl⟩
  rw [List.find?_eq_some_iff_getElem]
  exact ⟨hp,i,hi,rfl,fun j hj => by simpa using hn j hj⟩
set_option maxHeartbeats 4000000 in
set_option maxRecDepth 100000 in
theorem zeT.walk (a r : Int) (A2 : Option Addr) (n2 c2 : Nat) (A3 : Option Addr) (n3 c3 : Nat) (x y a' r' : Int) (B2 : Option Addr) (m2 d2 : Nat) (B3 : Option Addr) (m3 d3 : Nat) (x' y' : Int) (w : World) :
  Calls Tryz.prog 18 #[.agg #[.int .i64 a,.int .i64 r,.slice A2 n2 c2,.slice A3 n3 c3,.int .i64 x,.int .i64 y],.agg #[.int .i64 a',.int .i64 r',.slice B2 m2 d2,.slice B3 m3 d3,.int .i64 x',.int .i64 y']] w fun e w' => e = .returned (.bool (zbd a r a' r')) ∧ Below w.heap.size w w' := by
 by_cases h1 : r < r'
 ·have HP : za (zbd a r a' r' = true) := ⟨decide_eq_true (.inl h1)⟩
  have d1 : decide (r < r') = true := decide_eq_true h1
  clear h1
  go_enter Tryz.func18,Tryz.ntmps18
  go_wp2
  go_ret
  exact ⟨by rw [HP.out];rfl,zk (zk (Below.refl _ _) _) _⟩
 ·have d1 : decide (r < r') = false := decide_eq_false h1
  by_cases h2 : r = r'
  ·have d2 : (r == r') = true := beq_iff_eq.2 h2
   have HP : za (zbd a r a' r' = decide (a < a')) := ⟨by unfold zbd;rw [Bool.eq_iff_iff,decide_eq_true_eq,decide_eq_true_eq];omega⟩
   clear h1 h2
   go_enter Tryz.func18,Tryz.ntmps18
   go_wp2
   go_ret
   exact ⟨by rw [HP.out];rfl,zk (zk (Below.refl _ _) _) _⟩
  ·have d2 : (r == r') = false := beq_eq_false_iff_ne.2 h2
   have HP : za (zbd a r a' r' = false) := ⟨decide_eq_false (by omega)⟩
   clear h1 h2
   go_enter Tryz.func18,Tryz.ntmps18
   go_wp2
   go_ret
   exact ⟨by rw [HP.out];rfl,zk (zk (Below.refl _ _) _) _⟩
end Go.Proofs.YtlkfelmbhldgfaaGreat.Px