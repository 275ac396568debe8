/- Part 18 of 33 of the proof of the law DagAsks: what is proved is the statement at the end of the last part; its conditions are those of the given row. -/
import Derived.Test.YtklhjlaofkngcaaZDagAsksQ
namespace Go.Proofs.Ytklhjlaofkngcaa.Px
open Go.RowKit Go.Proofs.YtklhjlaofkngcaaW.PrintWords Go.Proofs.YtklhjlaofkngcaaW.PrintLast Go.Proofs.YtklhjlaofkngcaaW.PrintMore
attribute [local go_sem] zF zH zM zN zB zC zG zI
set_option linter.unusedVariables false
set_option linter.unusedSimpArgs false
def zb3 (a r : Int) (bs : List S72) (ps : List ByteArray) (x y : Int) : Bs :=
 zc3 a.toNat ++ zc3 r.toNat ++ zb6 (bs.map bB) ++ zb6 ps ++ zc3 x.toNat ++ zc3 y.toNat
theorem zcC (a r : Int) (bs : List S72) (ps : List ByteArray) (x y n : Int) : zbq a r bs ps x y n = true ↔ zcO n = true ∧ 1 ≤ a ∧ a ≤ n ∧ 1 ≤ r ∧ r ≤ 1048576 ∧ bs.length ≤ 4 ∧ bs.any (zcT n) = false ∧ ze5 x y = true ∧ (zc6 r = true ∨ x = 0 ∧ y = 0) ∧ zb1 ps r n = true := by
 unfold zbq
 simp [and_assoc]
theorem zhm (l : List ByteArray) (d : Nat) : ∀ j,zbe l d j = true → ∀ i,j ≤ i → i < j + d → (l.getD i ByteArray.empty).size = 32 := by
 induction d with
 | zero => intro j _ i h1 h2;omega
 | succ d ih =>
  intro j h i h1 h2
  rw [zbe,Bool.and_eq_true] at h
  rcases Nat.lt_or_ge j i with h3 | h3
  ·exact ih (j + 1) h.2 i (by omega) (by omega)
  ·obtain rfl : i = j := by omega
   have := h.1
   rw [zf6,Bool.and_eq_true] at this
   exact of_decide_eq_true this.1
theorem zbC {l : List ByteArray} {r n : Int} (hn : zcO n = true) (h : zb1 l r n = true) : l.length ≤ 64 ∧ ∀ t ∈ l,t.size = 32 := by
 unfold zb1 at h
 split at h
 ·have h0 := of_decide_eq_true h
  obtain rfl := List.eq_nil_of_length_eq_zero h0
  simp
 ·obtain ⟨_,h2,_⟩ := (zcB n).1 hn
  rw [Bool.and_eq_true,Bool.and_eq_true] at h
  have h3 := of_decide_eq_true h.2
  refine ⟨by omega,fun t ht => ?_⟩
  obtain ⟨i,hi,rfl⟩ := List.mem_iff_getElem.1 ht
  have := zhm l l.length 0 h.1.1 i (by omega) (by omega)
  rwa [List.getD_eq_getElem?_getD,List.getElem?_eq_getElem hi] at this
theorem bB_size (b : S72) : (bB b).size ≤ 400 := by
 unfold bB
 split
 ·rename_i h
  obtain ⟨h1,h2,h3,h4,h5,h6,h7⟩ := (zdF _ _ _).1 h
  have r1 := zdM b.f2 48 (by omega) (fun t ht => (h7 t ht).2)
  have r2 := za3 (v := b.f2.length) (by omega)
  have r4 := za3 (v := b.f0.toNat) (by omega)
  have r5 := za3 (v := b.f1.toNat) (by omega)
  rw [zax,zey,List.length_append,List.length_append,zb6,List.length_append];omega
 ·show 0 ≤ 400;omega
theorem zgN {bs : List S72} (h : bs.length ≤ 4) : (zb6 (bs.map bB)).length ≤ 1700 := by
 have r1 := zdM (bs.map bB) 400 (by omega) (fun t ht => by obtain ⟨b,_,rfl⟩ := List.mem_map.1 ht;exact bB_size b)
 rw [List.length_map] at r1
 have r2 := za3 (v := (bs.map bB).length) (by rw [List.length_map];omega)
 rw [zb6,List.length_append];omega
theorem zgO {ps : List ByteArray} (h : ps.length ≤ 64 ∧ ∀ t ∈ ps,t.size = 32) : (zb6 ps).length ≤ 2700 := by
 have r1 := zdM ps 32 (by omega) (fun t ht => by have := h.2 t ht;omega)
 have r2 := za3 (v := ps.length) (by have := h.1;omega)
 rw [zb6,List.length_append];have := h.1;omega
theorem any_odd {n : Int} {bs : List S72} (h : bs.any (zcT n) = false) : ∀ b ∈ bs,zdE b.f0 b.f1 b.f2 = true ∧ b.f0 ≤ n := by
 intro b hb
 rw [List.any_eq_false] at h
 have := h b hb
 rw [zcT] at this
 simp at this
 exact ⟨this.1,by omega⟩
theorem rd_four (a b c d : ByteArray) : zE ByteArray.empty [a,b,c,d] 0 = a ∧ zE ByteArray.empty [a,b,c,d] 1 = b ∧ zE ByteArray.empty [a,b,c,d] 2 = c ∧ zE ByteArray.empty [a,b,c,d] 3 = d := ⟨rfl,rfl,rfl,rfl⟩
theorem zfe (a r : Int) (bs : List S72) (ps : List ByteArray) (x y n : Int) :
  zay.f a r bs ps x y n = some (if zbq a r bs ps x y n = true then (toB (zb3 a r bs ps x y),0) else ((⟨#[]⟩ : ByteArray),1)) := by
 unfold zay.f
 rw [show zaz.f a r bs ps x y n = some (zbq a r bs ps x y n) from rfl]
 simp only [Option.bind_some]
 by_cases h : zbq a r bs ps x y n = true
 ·rw [if_pos h,if_pos h]
  obtain ⟨h0,h1,h2,h3,h4,h5,h6,h7,h8,h9⟩ := (zcC ..).1 h
  obtain ⟨k1,k2,k3⟩ := (zcB n).1 h0
  obtain ⟨x1,x2,y1,y2⟩ := (zen x y).1 h7
  have e1 : zaE.f bs = some (bs.map bB) := if_pos h5
  have e2 : zav.f [a,r,x,y] = some [zbl a.toNat,zbl r.toNat,zbl x.toNat,zbl y.toNat] := by
   rw [zav.f,if_pos]
   ·rfl
   ·refine ⟨Nat.le_refl 4,fun k hk => ?_⟩
    simp only [List.mem_cons,List.not_mem_nil,or_false] at hk
    rcases hk with rfl | rfl | rfl | rfl <;> omega
  have s0 := za9 (v := a.toNat) (by omega)
  have s1 := za9 (v := r.toNat) (by omega)
  have s2 := za9 (v := x.toNat) (by omega)
  have s3 := za9 (v := y.toNat) (by omega)
  have r1 := zgN h5
  have r2 := zgO (zbC h0 h9)
  have d1 : zZ.f (bs.map bB) = some (toB (zb6 (bs.map bB))) := if_pos (by omega)
  have d2 : zZ.f ps = some (toB (zb6 ps)) := if_pos (by omega)
  rw [e1,e2]
  simp only [Option.bind_some,d1,d2]
  obtain ⟨q0,q1,q2,q3⟩ := rd_four (zbl a.toNat) (zbl r.toNat) (zbl x.toNat) (zbl y.toNat)
  rw [q0,q1,q2,q3]
  simp only [ByteArray.size_append,zax]
  rw [if_pos (by simp),if_pos (by simp),if_pos (by omega),if_pos (by omega),if_pos (by omega),if_pos (by simp),if_pos (by omega),if_pos (by simp),if_pos (by omega)]
  simp only [zb3,zbl,zbc]
 ·rw [if_neg h,if_neg h]
instance decBatch : DecidableEq S72 := fun a b => decidable_of_iff (a.f0 = b.f0 ∧ a.f1 = b.f1 ∧ a.f2 = b.f2) ⟨fun ⟨h0,h1,h2⟩ => by obtain ⟨a0,a1,a2⟩ := a;obtain ⟨b0,b1,b2⟩ := b;simp only at h0 h1 h2;rw [h0,h1,h2],fun h => by rw [h];exact ⟨rfl,rfl,rfl⟩⟩
theorem zcZ (l : List S72) (j : Nat) (h : j < l.length) : zQ l (j : Int) = l[j] := by
 rw [zQ,Int.toNat_natCast,List.getD_eq_getElem?_getD,List.getElem?_eq_getElem h];rfl
theorem zfa (a b : List S72) (hl : a.length = b.length) (hb : a.length < 4611686018427387904) (hs : ∀ x ∈ a,x.f2.length < 4611686018427387904) (d : Nat) : ∀ j,j + d = a.length →
  Ev (fun k => zD.l0 k a b (j : Int)) (decide (a.drop j = b.drop j)) := by
 induction d with
 | zero =>
  intro j hj
  refine Ev.step (fun k => by rw [zD.l0]) ?_
  refine zU (by omega) (z9 (Ev.now _) ?_)
  rw [List.drop_eq_nil_of_le (by omega),List.drop_eq_nil_of_le (by omega)];rfl
 | succ d ih =>
  intro j hj
  have ha : j < a.length := by omega
  have hb' : j < b.length := by omega
  refine Ev.step (fun k => by rw [zD.l0]) ?_
  refine zJ (by omega) (zJ (by omega) (zJ (by omega) ?_))
  rw [zcZ a j ha,zcZ b j hb']
  refine Ev.bind (ze8 _ _ _ _ _ _ (hs _ (List.getElem_mem ha))) ?_
  rw [zad (by omega) (by omega),List.drop_eq_getElem_cons ha,List.drop_eq_getElem_cons hb']
  by_cases e : a[j] = b[j]
  ·refine zJ (by rw [e];simp [zgs]) (z9 (ih (j + 1) (by omega)) ?_)
   rw [e];exact decide_eq_decide.2 ⟨fun h => by rw [h],fun h => (List.cons.inj h).2⟩
  ·refine zU ?_ (z9 (Ev.now _) ?_)
   ·intro hh
    apply e
    obtain ⟨h0,h1,h2⟩ := of_decide_eq_true hh
    generalize a[j] = p at *
    generalize b[j] = q at *
    obtain ⟨p0,p1,p2⟩ := p;obtain ⟨q0,q1,q2⟩ := q
    simp only at h0 h1 h2;rw [h0,h1,h2]
   ·exact (decide_eq_false (fun h => e (List.cons.inj h).1)).symm
theorem zf3 (a b : List S72) (hb : a.length < 4611686018427387904) (hs : ∀ x ∈ a,x.f2.length < 4611686018427387904) : Ev (fun k => zD.f k a b) (decide (a = b)) := by
 by_cases h : a.length = b.length
 ·exact zJ (by omega) (zfa a b h hb hs a.length 0 (by omega))
 ·refine zU (by omega) (z9 (Ev.now _) ?_)
  have : ¬ a = b := fun e => h (by rw [e])
  simp [this]
def zdk (a r : Int) (bs : List S72) (ps : List ByteArray) (x y a' r' : Int) (bs' : List S72) (ps' : List ByteArray) (x' y' : Int) : Bool := decide (a = a' ∧ r = r' ∧ bs = bs' ∧ ps = ps' ∧ x = x' ∧ y = y')
theorem zeL (a r : Int) (bs : List S72) (ps : List ByteArray) (x y a' r' : Int) (bs' : List S72) (ps' : List ByteArray) (x' y' : Int) (hb : bs.length < 4611686018427387904) (hs : ∀ b ∈ bs,b.f2.length < 4611686018427387904) (hp : ps.length < 4611686018427387904) :
  Ev (fun k => za2.f k a r bs ps x y a' r' bs' ps' x' y') (zdk a r bs ps x y a' r' bs' ps' x' y') := by
 refine Ev.bind (zeb _ _ hp) (Ev.bind (zf3 _ _ hb hs) ?_)
 unfold zdk
 by_cases h1 : ps = ps'
 ·refine zJ (by simp [h1]) ?_
  by_cases h2 : bs = bs'
  ·refine zJ (by simp [h2]) ?_
   by_cases h3 : a = a'
   ·refine zJ h3 ?_
    by_cases h4 : r = r'
    ·refine zJ h4 (z9 (Ev.now _) ?_)
     by_cases h5 : x = x' <;> by_cases h6 : y = y' <;> simp [h1,h2,h3,h4,h5,h6]
    ·exact zU h4 (z9 (Ev.now _) (by simp [h4]))
   ·exact zU h3 (z9 (Ev.now _) (by simp [h3]))
  ·exact zU (by simp [h2]) (z9 (Ev.now _) (by simp [h2]))
 ·exact zU (by simp [h1]) (z9 (Ev.now _) (by simp [h1]))
theorem zcM {a r : Int} {bs : List S72} {ps : List ByteArray} {x y a' r' : Int} {bs' : List S72} {ps' : List ByteArray} {x' y' : Int} : zdk a r bs ps x y a' r' bs' ps' x' y' = true ↔ a = a' ∧ r = r' ∧ bs = bs' ∧ ps = ps' ∧ x = x' ∧ y = y' := by
 rw [zdk,decide_eq_true_iff]
theorem zhD {a r : Int} {bs : List S72} {ps : List ByteArray} {x y n : Int} (h : zbq a r bs ps x y n = true) : bs.length < 4611686018427387904 ∧ (∀ b ∈ bs,b.f2.length < 4611686018427387904) ∧ ps.length < 4611686018427387904 := by
 obtain ⟨h0,_,_,_,_,h5,h6,_,_,h9⟩ := (zcC ..).1 h
 refine ⟨by omega,fun b hb => ?_,by have := (zbC h0 h9).1;omega⟩
 obtain ⟨_,_,_,_,_,k,_⟩ := (zdF _ _ _).1 (any_odd h6 b hb).1
 omega
theorem zhe (o q : Int) (l : List ByteArray) (hl : l.length < 4611686018427387904) (d : Nat) : ∀ j,j + d = l.length →
  Ev (fun k => zy.l0 k (j : Int) o q l) (!(l.drop j).any zcm) := by
 induction d with
 | zero =>
  intro j hj
  refine Ev.step (fun k => by rw [zy.l0]) ?_
  refine zU (by omega) (z9 (Ev.now _) ?_)
  rw [List.drop_eq_nil_of_le (by omega)];rfl
 | succ d ih =>
  intro j hj
  have hjl : j < l.length := by omega
  refine Ev.step (fun k => by rw [zy.l0]) ?_
  refine zJ (by omega) (zJ (by omega) ?_)
  rw [zeq l j hjl,List.drop_eq_getElem_cons hjl,zad (by omega) (by omega),List.any_cons]
  by_cases h1 : (l[j].size : Int) < 1
  ·refine zJ h1 (z9 (Ev.now _) ?_)
   have : l[j].size = 0 := by omega
   simp [zcm,this]
  ·refine zU h1 ?_
   by_cases h2 : (l[j].size : Int) > 48
   ·refine zJ h2 (z9 (Ev.now _) ?_)
    have : 48 < l[j].size := by omega
    simp [zcm,this]
   ·refine zU h2 (z9 (ih (j + 1) (by omega)) ?_)
    have e1 : zcm l[j] = false := by
     have : ¬ l[j].size = 0 := by omega
     have h3 : ¬ 48 < l[j].size := by omega
     simp [zcm,this,h3]
    rw [e1,Bool.false_or]
theorem zgl (o q : Int) (l : List ByteArray) (hl : l.length < 4611686018427387904) : Ev (fun k => zy.f k o q l) (zdE o q l) := by
 have key : ∀ b : Bool,(b = true ↔ ¬ (1 ≤ o ∧ o ≤ 64 ∧ 1 ≤ q ∧ q ≤ 1073741824 ∧ 1 ≤ l.length ∧ l.length ≤ 4)) → Ev (fun k => zy.j0 k b o q l) (zdE o q l) := by
  intro b hb
  refine Ev.step (fun k => by rw [zy.j0]) ?_
  by_cases h : 1 ≤ o ∧ o ≤ 64 ∧ 1 ≤ q ∧ q ≤ 1073741824 ∧ 1 ≤ l.length ∧ l.length ≤ 4
  ·refine zU (fun hh => hb.1 hh h) (z9 (zhe o q l hl l.length 0 (by omega)) ?_)
   obtain ⟨h1,h2,h3,h4,h5,h6⟩ := h
   simp [zdE,h1,h2,h3,h4,h5,h6]
  ·refine zJ (hb.2 h) (z9 (Ev.now _) ?_)
   symm
   rw [← Bool.not_eq_true,zdF]
   exact fun ⟨h1,h2,h3,h4,h5,h6,_⟩ => h ⟨h1,h2,h3,h4,h5,h6⟩
 by_cases h1 : o < 1
 ·exact zJ h1 (key true (by simp;omega))
 refine zU h1 ?_
 by_cases h2 : o > 64
 ·exact zJ h2 (key true (by simp;omega))
 refine zU h2 ?_
 by_cases h3 : q < 1
 ·exact zJ h3 (key true (by simp;omega))
 refine zU h3 ?_
 by_cases h4 : q > 1073741824
 ·exact zJ h4 (key true (by simp;omega))
 refine zU h4 ?_
 by_cases h5 : (l.length : Int) < 1
 ·exact zJ h5 (key true (by simp;omega))
 exact zU h5 (key _ (by simp;omega))
theorem zds (n : Int) : zab.f n = some (zcO n) := by
 unfold zab.f zcO
 by_cases h4 : n = 4
 ·subst h4;rfl
 ·rw [if_neg h4]
  by_cases h : n > 4
  ·rw [if_pos h]
   by_cases h1 : n ≤ 64
   ·rw [if_pos h1,zad (by omega) (by omega),Int.tmod_eq_emod_of_nonneg (by omega)]
    by_cases h2 : n % 3 = 1
    ·have : (n - 1) % 3 = 0 := by omega
     simp [h1,h2,this];omega
    ·have : ¬ (n - 1) % 3 = 0 := by omega
     simp [h2,this]
   ·rw [if_neg h1];simp [h1]
  ·rw [if_neg h]
   have : ¬ 4 ≤ n := by omega
   simp [this]
theorem ze7 (n : Int) : zaj.f n = some (zbN n) := by
 unfold zaj.f zbN
 rw [zds]
 simp only [Option.bind_some]
 by_cases h : zcO n = true
 ·rw [if_pos h,if_pos h]
  obtain ⟨h1,h2,h3⟩ := (zcB n).1 h
  rw [zad (x := n - 1) (by omega) (by omega),Int.tdiv_eq_ediv_of_nonneg (by omega),zad (x := (n - 1) / 3) (by omega) (by omega),zad (by omega) (by omega)]
 ·rw [if_neg h,if_neg h]
theorem zgI (a b : Int) : zap.f a b = some (ze5 a b) := by
 unfold zap.f ze5
 by_cases h1 : 0 ≤ a <;> by_cases h2 : a < 10007 <;> by_cases h3 : 0 ≤ b <;> simp [h1,h2,h3]
theorem zfL (r : Int) : z8.f r = some (zc6 r) := by
 unfold z8.f zc6
 by_cases h : r > 0
 ·rw [if_pos h,Int.tmod_eq_emod_of_nonneg (by omega)]
  by_cases h2 : r % 3 = 0
  ·have : 3 ≤ r := by omega
   simp [h2,this]
  ·simp [h2]
 ·rw [if_neg h]
  have : ¬ 3 ≤ r := by omega
  simp [this]
def zeO (r x y : Int) : Bool := ze5 x y && (zc6 r || (decide (x = 0) && decide (y = 0)))
theorem zhU (a r : Int) (bs : List S72) (ps : List ByteArray) (x y : Int) (hl : ps.length < 4611686018427387904) (hp : ∀ t ∈ ps,t.size < 4611686018427387904) (d : Nat) : ∀ j,j + d = ps.length →
  Ev (fun k => zh.l1 k (j : Int) a r bs ps x y) (zbe ps d j && zeO r x y) := by
 induction d with
 | zero =>
  intro j hj
  refine Ev.step (fun k => by rw [zh.l1]) ?_
  refine zU (by omega) (zaX (zgI x y) (zaX (zfL r) ?_))
  unfold zeO
  by_cases h1 : ze5 x y = true
  ·refine zJ h1 ?_
   by_cases h2 : zc6 r = true
   ·exact zJ h2 (z9 (Ev.now _) (by simp [zbe,h1,h2]))
   ·refine zU h2 ?_
    by_cases h3 : x = 0
    ·refine zJ h3 (z9 (Ev.now _) ?_)
     rw [Bool.not_eq_true] at h2
     subst h3
     by_cases h4 : y = 0
     ·subst h4;simp [zbe,h1,h2]
     ·simp [zbe,h1,h2,h4]
    ·rw [Bool.not_eq_true] at h2
     exact zU h3 (z9 (Ev.now _) (by simp [zbe,h2,h3]))
  ·rw [Bool.not_eq_true] at h1
   exact zU (by rw [h1];simp) (z9 (Ev.now _) (by simp [zbe,h1]))
 | succ d ih =>
  intro j hj
  have hj' : j < ps.length := by omega
  refine Ev.step (fun k => by rw [zh.l1]) ?_
  refine zJ (by omega) (zJ (by omega) ?_)
  have e1 : zE ByteArray.empty ps (j : Int) = ps.getD j ByteArray.empty := by rw [zE,Int.toNat_natCast]
  rw [e1]
  by_cases h : (ps.getD j ByteArray.empty).size = 32
  ·refine zJ (by omega) ?_
   rw [zad (x := (j : Int) + 1) (by omega) (by omega)]
   by_cases h0 : j = 0
   ·subst h0
    refine zU (by omega) (z9 (ih 1 (by omega)) ?_)
    simp only [zbe,zf6,h];simp
   ·refine zJ (by omega) ?_
    have e2 : wrap64 ((j : Int) - 1) = ((j - 1 : Nat) : Int) := by rw [zad (by omega) (by omega)];omega
    rw [e2]
    refine zJ (by omega) (zJ (by omega) ?_)
    have e3 : zE ByteArray.empty ps ((j - 1 : Nat) : Int) = ps.getD (j - 1) ByteArray.empty := by rw [zE,Int.toNat_natCast]
    rw [e3]
    have hsz : (ps.getD (j - 1) ByteArray.empty).size < 4611686018427387904 := by
     rw [List.getD_eq_getElem?_getD,List.getElem?_eq_getElem (show j - 1 < ps.length by omega)]
     exact hp _ (List.getElem_mem _)
    refine Ev.bind (less_ev _ _ hsz) ?_
    by_cases h2 : zdD (ofB (ps.getD (j - 1) ByteArray.empty)) (ofB (ps.getD j ByteArray.empty)) = true
    ·refine zJ h2 (z9 (ih (j + 1) (by omega)) ?_)
     simp only [zbe,zf6,h,h2];simp
    ·refine zU h2 (z9 (Ev.now _) ?_)
     rw [Bool.not_eq_true] at h2
     simp only [zbe,zf6,h,h0,h2];simp
  ·refine zU (by omega) (z9 (Ev.now _) ?_)
   simp only [zbe,zf6,h];simp
def zfn (r : Int) (ps : List ByteArray) (x y n : Int) : Bool :=
 !(decide (r = 1) && decide (0 < ps.length)) && !(decide (1 < r) && (decide ((ps.length : Int) < zbN n) || decide (n < ps.length))) && (zbe ps ps.length 0 && zeO r x y)
theorem zhT (a r : Int) (bs : List S72) (ps : List ByteArray) (x y n : Int) (hb : bs.length < 4611686018427387904) (hbs : ∀ b ∈ bs,b.f2.length < 4611686018427387904) (hl : ps.length < 4611686018427387904) (hp : ∀ t ∈ ps,t.size < 4611686018427387904) (d : Nat) : ∀ j,j + d = bs.length →
  Ev (fun k => zh.l0 k n (j : Int) a r bs ps x y) (!(bs.drop j).any (zcT n) && zfn r ps x y n) := by
 induction d with
 | zero =>
  intro j hj
  refine Ev.step (fun k => by rw [zh.l0]) ?_
  rw [List.drop_eq_nil_of_le (by omega)]
  refine zU (by omega) ?_
  have J3 : ∀ b : Bool,Ev (fun k => zh.j3 k b a r bs ps x y) (!b && (zbe ps ps.length 0 && zeO r x y)) := by
   intro b
   refine Ev.step (fun k => by rw [zh.j3]) ?_
   rcases b with _ | _
   ·exact zU (by simp) (z9 (zhU a r bs ps x y hl hp ps.length 0 (by omega)) (by simp))
   ·exact zJ rfl (z9 (Ev.now _) (by simp))
  have J2 : ∀ b : Bool,Ev (fun k => zh.j2 k n b a r bs ps x y) (!b && (!(decide (1 < r) && (decide ((ps.length : Int) < zbN n) || decide (n < ps.length))) && (zbe ps ps.length 0 && zeO r x y))) := by
   intro b
   refine Ev.step (fun k => by rw [zh.j2]) ?_
   rcases b with _ | _
   ·refine zU (by simp) ?_
    by_cases h : r > 1
    ·have h' : 1 < r := h
     refine zJ h (zaX (ze7 n) ?_)
     by_cases h2 : (ps.length : Int) < zbN n
     ·exact zJ h2 (z9 (J3 true) (by simp [h',h2]))
     ·exact zU h2 (z9 (J3 _) (by simp [h',h2]))
    ·have h' : ¬ 1 < r := h
     exact zU h (z9 (J3 false) (by simp [h']))
   ·exact zJ rfl (z9 (Ev.now _) (by simp))
  unfold zfn
  by_cases h : r = 1
  ·refine zJ h (z9 (J2 _) ?_)
   subst h
   by_cases h0 : 0 < ps.length
   ·have : decide ((ps.length : Int) > 0) = true := decide_eq_true (by omega)
    simp [this,h0]
   ·have : decide ((ps.length : Int) > 0) = false := decide_eq_false (by omega)
    simp [this,h0]
  ·exact zU h (z9 (J2 false) (by simp [h]))
 | succ d ih =>
  intro j hj
  have hj' : j < bs.length := by omega
  refine Ev.step (fun k => by rw [zh.l0]) ?_
  refine zJ (by omega) (zJ (by omega) ?_)
  rw [zcZ bs j hj',zad (by omega) (by omega),List.drop_eq_getElem_cons hj',List.any_cons]
  refine Ev.bind (zgl _ _ _ (hbs _ (List.getElem_mem hj'))) ?_
  by_cases h : zdE bs[j].f0 bs[j].f1 bs[j].f2 = true
  ·refine zJ h ?_
   by_cases h2 : bs[j].f0 > n
   ·have h3 : n < bs[j].f0 := h2
    exact zJ h2 (z9 (Ev.now _) (by simp [zcT,h3]))
   ·have h3 : ¬ n < bs[j].f0 := h2
    refine zU h2 (z9 (ih (j + 1) (by omega)) ?_)
    have : zcT n bs[j] = false := by simp [zcT,h,h3]
    rw [this,Bool.false_or]
  ·refine zU h (z9 (Ev.now _) ?_)
   rw [Bool.not_eq_true] at h
   simp [zcT,h]
theorem mayV_ref (a r : Int) (bs : List S72) (ps : List ByteArray) (x y n : Int) (h0 : zcO n = true) (h1 : 1 ≤ a) (h2 : a ≤ n) (h3 : 1 ≤ r) (h4 : r ≤ 1048576) (h5 : bs.length ≤ 4) :
  zbq a r bs ps x y n = (!bs.any (zcT n) && zfn r ps x y n) := by
 unfold zbq zfn zb1 zeO
 simp only [h0,h1,h2,h3,h4,h5]
 by_cases e : r = 1
 ·subst e
  rcases ps with _ | ⟨p,ps⟩
  ·simp [zbe,Bool.and_assoc]
  ·simp
 ·have h6 : 1 < r := by omega
  simp only [if_neg e,e,h6]
  have q1 : decide ((ps.length : Int) < zbN n) = !decide (zbN n ≤ (ps.length : Int)) := by
   by_cases q : zbN n ≤ (ps.length : Int) <;> simp [q] <;> omega
  have q2 : decide (n < (ps.length : Int)) = !decide ((ps.length : Int) ≤ n) := by
   by_cases q : (ps.length : Int) ≤ n <;> simp [q] <;> omega
  rw [q1,q2]
  cases bs.any (zcT n) <;> cases ze5 x y <;> cases zc6 r <;> cases zbe ps ps.length 0 <;> cases decide (zbN n ≤ (ps.length : Int)) <;> cases decide ((ps.length : Int) ≤ n) <;> simp
theorem zhS (a r : Int) (bs : List S72) (ps : List ByteArray) (x y n : Int) (hb : bs.length < 4611686018427387904) (hbs : ∀ b ∈ bs,b.f2.length < 4611686018427387904) (hl : ps.length < 4611686018427387904) (hp : ∀ t ∈ ps,t.size < 4611686018427387904) :
  Ev (fun k => zh.f k a r bs ps x y n) (zbq a r bs ps x y n) := by
 have key : ∀ b : Bool,(b = true ↔ ¬ (zcO n = true ∧ 1 ≤ a ∧ a ≤ n ∧ 1 ≤ r ∧ r ≤ 1048576 ∧ bs.length ≤ 4)) → Ev (fun k => zh.j0 k n b a r bs ps x y) (zbq a r bs ps x y n) := by
  intro b hb'
  refine Ev.step (fun k => by rw [zh.j0]) ?_
  by_cases h : zcO n = true ∧ 1 ≤ a ∧ a ≤ n ∧ 1 ≤ r ∧ r ≤ 1048576 ∧ bs.length ≤ 4
  ·refine zU (fun hh => hb'.1 hh h) (z9 (zhT a r bs ps x y n hb hbs hl hp bs.length 0 (by omega)) ?_)
   obtain ⟨h0,h1,h2,h3,h4,h5⟩ := h
   rw [mayV_ref a r bs ps x y n h0 h1 h2 h3 h4 h5,List.drop_zero]
  ·refine zJ (hb'.2 h) (z9 (Ev.now _) ?_)
   symm
   rw [← Bool.not_eq_true,zcC]
   exact fun ⟨h0,h1,h2,h3,h4,h5,_⟩ => h ⟨h0,h1,h2,h3,h4,h5⟩
 refine zaX (zds n) ?_
 by_cases h0 : zcO n = true
 ·refine zJ h0 ?_
  by_cases h1 : a < 1
  ·exact zJ h1 (key true (by simp;omega))
  refine zU h1 ?_
  by_cases h2 : a > n
  ·exact zJ h2 (key true (by simp;omega))
  refine zU h2 ?_
  by_cases h3 : r < 1
  ·exact zJ h3 (key true (by simp;omega))
  refine zU h3 ?_
  by_cases h4 : r > 1048576
  ·exact zJ h4 (key true (by simp;omega))
  exact zU h4 (key _ (by simp [h0];omega))
 ·exact zU h0 (key true (by simp [h0]))
theorem zcq {x : Int} (h0 : 0 ≤ x) (h1 : x < 9223372036854775808) : Ev (fun k => zw.f k (IntKind.u64.wrap x)) (zbl x.toNat) := by
 obtain ⟨n,rfl⟩ := Int.eq_ofNat_of_zero_le h0
 rw [zbR (by omega) (by omega),Int.toNat_natCast]
 exact zeK n (by omega)
def zgt (o q : Int) (l : List ByteArray) : ByteArray × Int := if zdE o q l = true then (toB (zey o q l),0) else ((⟨#[]⟩ : ByteArray),1)
theorem zeJ (o q : Int) (l : List ByteArray) (hl : l.length < 4611686018427387904) : Ev (fun k => zac.f k o q l) (zgt o q l) := by
 refine Ev.bind (zgl _ _ _ hl) ?_
 unfold zgt
 by_cases h : zdE o q l = true
 ·rw [if_pos h]
  obtain ⟨h1,h2,h3,h4,h5,h6,h7⟩ := (zdF o q l).1 h
  have r1 := zdM l 48 (by omega) (fun t ht => (h7 t ht).2)
  have r2 := za3 (v := l.length) (by omega)
  have r3 : (zb6 l).length ≤ 300 := by rw [zb6,List.length_append];omega
  have n1 := za9 (v := o.toNat) (by omega)
  have n2 := za9 (v := q.toNat) (by omega)
  have r4 : zP.f l = some (toB (zb6 l)) := if_pos (by omega)
  refine zJ h (Ev.bind (zcq (by omega) (by omega)) (Ev.bind (zcq (by omega) (by omega)) (zJ (by omega) (zaX r4 (zJ (by rw [ByteArray.size_append,zax];omega) (z9 (Ev.now _) ?_))))))
  rw [zey,zbc,zbc];rfl
 ·rw [if_neg h];exact zU h (Ev.now _)
theorem zhu (b : S72) : (zgt b.f0 b.f1 b.f2).1 = bB b := by
 unfold zgt bB;split <;> rfl
def zgU (a r : Int) (bs : List S72) (ps : List ByteArray) (x y n : Int) : ByteArray × Int := if zbq a r bs ps x y n = true then (toB (zb3 a r bs ps x y),0) else ((⟨#[]⟩ : ByteArray),1)
theorem zgL {a r : Int} {bs : List S72} {ps : List ByteArray} {x y n : Int} (h : zbq a r bs ps x y n = true) (d : Nat) : ∀ j,j + d = bs.length →
  Ev (fun k => zz.l0 k ((bs.take j).map bB) (j : Int) a r bs ps x y) (toB (zb3 a r bs ps x y),0) := by
 obtain ⟨h0,h1,h2,h3,h4,h5,h6,h7,h8,h9⟩ := (zcC ..).1 h
 obtain ⟨k1,k2,k3⟩ := (zcB n).1 h0
 obtain ⟨x1,x2,y1,y2⟩ := (zen x y).1 h7
 induction d with
 | zero =>
  intro j hj
  refine Ev.step (fun k => by rw [zz.l0]) ?_
  rw [List.take_of_length_le (by omega)]
  have s0 := za9 (v := a.toNat) (by omega)
  have s1 := za9 (v := r.toNat) (by omega)
  have s2 := za9 (v := x.toNat) (by omega)
  have s3 := za9 (v := y.toNat) (by omega)
  have r1 := zgN h5
  have r2 := zgO (zbC h0 h9)
  have d1 : zP.f (bs.map bB) = some (toB (zb6 (bs.map bB))) := if_pos (by omega)
  have d2 : zP.f ps = some (toB (zb6 ps)) := if_pos (by omega)
  refine zU (by omega) (Ev.bind (zcq (by omega) (by omega)) (Ev.bind (zcq (by omega) (by omega)) (zJ (by omega) (zaX d1 (zJ (by simp only [ByteArray.size_append,zax];omega) (zaX d2 (zJ (by simp only [ByteArray.size_append,zax];omega)
   (Ev.bind (zcq (by omega) (by omega)) (zJ (by simp only [ByteArray.size_append,zax];omega) (Ev.bind (zcq (by omega) (by omega)) (zJ (by simp only [ByteArray.size_append,zax];omega) (z9 (Ev.now _) ?_))))))))))))
  simp only [zb3,zbl,zbc]
 | succ d ih =>
  intro j hj
  have hj' : j < bs.length := by omega
  refine Ev.step (fun k => by rw [zz.l0]) ?_
  refine zJ (by omega) (zJ (by omega) ?_)
  rw [zcZ bs j hj',zad (by omega) (by omega)]
  have hl := (zhD h).2.1 _ (List.getElem_mem hj')
  refine Ev.bind (zeJ _ _ _ hl) (zJ (by rw [List.length_map,List.length_take];omega) ?_)
  rw [zhu]
  have e : (bs.take j).map bB ++ [bB bs[j]] = (bs.take (j + 1)).map bB := by
   rw [List.take_succ_eq_append_getElem hj',List.map_append];rfl
  rw [e]
  exact ih (j + 1) (by omega)
theorem zer (a r : Int) (bs : List S72) (ps : List ByteArray) (x y n : Int) (hb : bs.length < 4611686018427387904) (hbs : ∀ b ∈ bs,b.f2.length < 4611686018427387904) (hl : ps.length < 4611686018427387904) (hp : ∀ t ∈ ps,t.size < 4611686018427387904) :
  Ev (fun k => zz.f k a r bs ps x y n) (zgU a r bs ps x y n) := by
 refine Ev.bind (zhS a r bs ps x y n hb hbs hl hp) ?_
 unfold zgU
 by_cases h : zbq a r bs ps x y n = true
 ·rw [if_pos h]
  exact zJ h (z9 (zgL h bs.length 0 (by omega)) rfl)
 ·rw [if_neg h];exact zU h (Ev.now _)
theorem zhY {s : ByteArray} (h : s.size ≤ 10000) : zcw.f s = some (zfP s) := by rw [zcw.f,if_pos (by omega)]
theorem ziE {s : ByteArray} (h : s.size ≤ 10000) : zaK.f s = some (zfP s) := by rw [zaK.f,if_pos (by omega)]
theorem zha (b : UInt8) (s : ByteArray) : ((⟨#[b]⟩ : ByteArray) ++ s).size = 1 + s.size := by rw [ByteArray.size_append];rfl
theorem zes {a r : Int} {bs : List S72} {ps : List ByteArray} {x y n : Int} (h : zbq a r bs ps x y n = true) : (toB (zb3 a r bs ps x y)).size ≤ 5000 := by
 obtain ⟨h0,h1,h2,h3,h4,h5,h6,h7,h8,h9⟩ := (zcC ..).1 h
 obtain ⟨k1,k2,k3⟩ := (zcB n).1 h0
 obtain ⟨x1,x2,y1,y2⟩ := (zen x y).1 h7
 have r1 := zgN (bs := bs) (by omega)
 have r2 := zgO (zbC h0 h9)
 have r3 := za3 (v := a.toNat) (by omega)
 have r4 := za3 (v := r.toNat) (by omega)
 have r5 := za3 (v := x.toNat) (by omega)
 have r6 := za3 (v := y.toNat) (by omega)
 rw [zax,zb3]
 simp only [List.length_append]
 omega
def zai (a r : Int) (bs : List S72) (ps : List ByteArray) (x y n : Int) : ByteArray × Int := if zbq a r bs ps x y n = true then (zfP ((⟨#[118]⟩ : ByteArray) ++ toB (zb3 a r bs ps x y)),0) else ((⟨#[]⟩ : ByteArray),1)
theorem zdl (a r : Int) (bs : List S72) (ps : List ByteArray) (x y n : Int) : za6.f a r bs ps x y n = some (zai a r bs ps x y n) := by
 unfold za6.f zai
 rw [zfe]
 simp only [Option.bind_some]
 by_cases h : zbq a r bs ps x y n = true
 ·have hs := zes h
  rw [if_pos h,if_pos h,if_pos rfl,if_pos (by show 1 + (toB (zb3 a r bs ps x y)).size ≤ _;omega)]
  show (zcw.f ((⟨#[118]⟩ : ByteArray) ++ toB (zb3 a r bs ps x y))).bind _ = _
  rw [zhY (by rw [zha];omega)]
  rfl
 ·rw [if_neg h,if_neg h,if_neg (by simp)]
theorem zec (a r : Int) (bs : List S72) (ps : List ByteArray) (x y n : Int) (hb : bs.length < 4611686018427387904) (hbs : ∀ b ∈ bs,b.f2.length < 4611686018427387904) (hl : ps.length < 4611686018427387904) (hp : ∀ t ∈ ps,t.size < 4611686018427387904) :
  Ev (fun k => za4.f k a r bs ps x y n) (zai a r bs ps x y n) := by
 unfold za4.f
 refine Ev.bind (zer a r bs ps x y n hb hbs hl hp) ?_
 unfold zgU zai
 by_cases h : zbq a r bs ps x y n = true
 ·have hs := zes h
  rw [if_pos h,if_pos h]
  refine zJ rfl (zJ (by show 1 + (toB (zb3 a r bs ps x y)).size ≤ _;omega) ?_)
  refine zaX (ziE (s := (⟨#[118]⟩ : ByteArray) ++ toB (zb3 a r bs ps x y)) (by rw [zha];omega)) ?_
  exact Ev.now _
 ·rw [if_neg h,if_neg h]
  exact zU (by simp) (Ev.now _)
abbrev Ent := S36
abbrev Vtx := S30
abbrev TE := ByteArray × Int × Int × List S72 × List ByteArray × Int × Int × Bool
def zbt (L : List Ent) (low r : Int) (ps : List ByteArray) : List ByteArray := if wrap64 (r - 1) ≤ low then [] else ps.filter fun p => !L.any fun x => decide (x.f1.f1 = wrap64 (r - 1) ∧ x.f0 = p)
def tupE (x : Ent) : TE := (x.f0,x.f1.f0,x.f1.f1,x.f1.f2,x.f1.f3,x.f1.f4.f0,x.f1.f4.f1,true)
def noE : TE := ((⟨#[]⟩ : ByteArray),0,0,[],[],0,0,false)
def zcG (L : List Ent) (g : ByteArray) : Option Ent := L.find? fun x => decide (x.f0 = g)
def byE (L : List Ent) (a r : Int) : Option Ent := L.find? fun x => decide (x.f1.f0 = a ∧ x.f1.f1 = r)
def zcy (o : Option Ent) : TE := match o with | some x => tupE x | none => noE
def zbg (a r a' r' : Int) : Bool := decide (r < r' ∨ r = r' ∧ a < a')
def zeH (L : List Ent) (x : Ent) : List Ent := match L with
 | [] => [x]
 | y :: L => if zbg x.f1.f0 x.f1.f1 y.f1.f0 y.f1.f1 = true then x :: y :: L else y :: zeH L x
def zff (n low : Int) (L : List Ent) (a r : Int) (bs : List S72) (ps : List ByteArray) (x y : Int) : Int :=
 if (zai a r bs ps x y n).2 ≠ 0 then (zai a r bs ps x y n).2
 else if r ≤ low then 9
 else if (zcG L (zai a r bs ps x y n).1).isSome then 8
 else if (byE L a r).isSome then 13
 else if 0 < (zbt L low r ps).length then 11
 else 0
def zin (n low : Int) (L : List Ent) (a r : Int) (bs : List S72) (ps : List ByteArray) (x y : Int) : List Ent :=
 if zff n low L a r bs ps x y = 0 then zeH L ⟨(zai a r bs ps x y n).1,⟨a,r,bs,ps,⟨x,y⟩⟩⟩ else L
def okE (n low : Int) (L : List Ent) (i : Nat) (x : Ent) : Bool :=
 (decide ((zai x.f1.f0 x.f1.f1 x.f1.f2 x.f1.f3 x.f1.f4.f0 x.f1.f4.f1 n).2 = 0) && decide ((zai x.f1.f0 x.f1.f1 x.f1.f2 x.f1.f3 x.f1.f4.f0 x.f1.f4.f1 n).1 = x.f0) && decide (low < x.f1.f1) && decide ((zbt L low x.f1.f1 x.f1.f3).length = 0)) && (decide (i = 0) || zbg (L.getD (i - 1) z36).f1.f0 (L.getD (i - 1) z36).f1.f1 x.f1.f0 x.f1.f1)
def zbQ (n low : Int) (L : List Ent) : Bool := zcO n && decide (0 ≤ low) && (List.range L.length).all fun i => okE n low L i (L.getD i z36)
theorem ent_at {W : World} {base : Nat} {ok : Nat → Prop} {A : Option Addr} {n c : Nat} {L : List Ent} (h : Kd.V k36 36 W base ok (.slice A n c) L) (k : Nat) (hk : k < n) (x : Ent) (hx : L[k]? = some x) :
  ∃ ad A3 c3 A4 c4,A = some ad ∧ W.cell? (ad.add (k * 7)) = some (.string x.f0) ∧ W.cell? ⟨(ad.add (k * 7)).block,(ad.add (k * 7)).off + 1,none⟩ = some (.int .i64 x.f1.f0) ∧ W.cell? ⟨(ad.add (k * 7)).block,(ad.add (k * 7)).off + 2,none⟩ = some (.int .i64 x.f1.f1) ∧ W.cell? ⟨(ad.add (k * 7)).block,(ad.add (k * 7)).off + 3,none⟩ = some (.slice A3 x.f1.f2.length c3) ∧ W.cell? ⟨(ad.add (k * 7)).block,(ad.add (k * 7)).off + 4,none⟩ = some (.slice A4 x.f1.f3.length c4) ∧ W.cell? ⟨(ad.add (k * 7)).block,(ad.add (k * 7)).off + 5,none⟩ = some (.int .i64 x.f1.f4.f0) ∧ W.cell? ⟨(ad.add (k * 7)).block,(ad.add (k * 7)).off + 6,none⟩ = some (.int .i64 x.f1.f4.f1) ∧
   Kd.V k72 72 W base ok (.slice A3 x.f1.f2.length c3) x.f1.f2 ∧ Kd.V Kd.string 9 W base ok (.slice A4 x.f1.f3.length c4) x.f1.f3 := by
 obtain rfl := (Kd.V_reads' h).1
 obtain ⟨ad,_,_,_,_,rfl,_⟩ := zaH (Kd.V_reads' h).2.2 (k : Int) (by omega) (by omega)
 obtain ⟨cs,_,hF,hc0⟩ := Kd.V_get h z36 (k : Int) (by omega) (by omega)
 rw [List.getD_eq_getElem?_getD,Int.toNat_natCast,hx] at hF
 have hc : ∀ j u,cs[j]? = some u → W.cell? (ad.add (k * 7 + j)) = some u := fun j u hj => by have := hc0 j u hj;rwa [Int.toNat_natCast] at this
 obtain ⟨A3,c3,A4,c4,rfl,l3,g3,l4,g4⟩ := zaW hF
 exact ⟨ad,A3,c3,A4,c4,rfl,hc 0 _ rfl,by rw [← zW _ _ 1 (by omega)];exact hc 1 _ rfl,by rw [← zW _ _ 2 (by omega)];exact hc 2 _ rfl,by rw [← zW _ _ 3 (by omega)];exact hc 3 _ rfl,by rw [← zW _ _ 4 (by omega)];exact hc 4 _ rfl,by rw [← zW _ _ 5 (by omega)];exact hc 5 _ rfl,by rw [← zW _ _ 6 (by omega)];exact hc 6 _ rfl,Kd.V_mk l3 g3,Kd.V_mk l4 g4⟩
theorem zge {α : Type} (p : α → Bool) (l : List α) : (∃ (i : Nat) (x : α),i < l.length ∧ l[i]? = some x ∧ l.find? p = some x ∧ zcF p l = i) ∨ (l.find? p = none ∧ zcF p l = -1) := by
 rw [zcF]
 rcases h : l.findIdx? p with _ | i
 ·right
  rw [List.findIdx?_eq_none_iff] at h
  exact ⟨List.find?_eq_none.2 (fun x hx => by simp [h x hx]),rfl⟩
 ·left
  rw [List.findIdx?_eq_some_iff_getElem] at h
  obtain ⟨hi,hp,hn⟩ := h
  refine ⟨i,l[i],hi,List.getElem?_eq_getElem hi,?_,rfl⟩
  rw [List.find?_eq_some_iff_getElem]
  exact ⟨hp,i,hi,rfl,fun j hj => by simpa using hn j hj⟩
end Go.Proofs.Ytklhjlaofkngcaa.Px