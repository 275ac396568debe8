/- Part 20 of 24 of the proof of the law CertGrows: what is proved is the statement at the end of the last part; its conditions are those of the given row. -/
import Derived.Test.YtcncoepijagadaaZCertGrowsM
import Derived.Test.YtcncoepijagadaaZCertGrowsS
namespace Go.Proofs.Ytcncoepijagadaa.Px
open Go.RowKit Go.Proofs.YtcncoepijagadaaW.PrintWords Go.Proofs.YtcncoepijagadaaW.PrintLast Go.Proofs.YtcncoepijagadaaW.PrintMore
attribute [local go_sem] zp zr zy zz zl zm zq zs
set_option linter.unusedVariables false
set_option linter.unusedSimpArgs false
theorem zgB (o q : Int) (l : List ByteArray) (hl : l.length < 4611686018427387904) (d : Nat) : ∀ j,j + d = l.length →
  Ev (fun k => zi.l0 k (j : Int) o q l) (!(l.drop j).any zbY) := by
 induction d with
 | zero =>
  intro j hj
  refine Ev.step (fun k => by rw [zi.l0]) ?_
  refine zO (by omega) (zat (Ev.now _) ?_)
  rw [List.drop_eq_nil_of_le (by omega)];rfl
 | succ d ih =>
  intro j hj
  have hjl : j < l.length := by omega
  refine Ev.step (fun k => by rw [zi.l0]) ?_
  refine zF (by omega) (zF (by omega) ?_)
  rw [rdOf_at l j hjl,List.drop_eq_getElem_cons hjl,z9 (by omega) (by omega),List.any_cons]
  by_cases h1 : (l[j].size : Int) < 1
  ·refine zF h1 (zat (Ev.now _) ?_)
   have : l[j].size = 0 := by omega
   simp [zbY,this]
  ·refine zO h1 ?_
   by_cases h2 : (l[j].size : Int) > 48
   ·refine zF h2 (zat (Ev.now _) ?_)
    have : 48 < l[j].size := by omega
    simp [zbY,this]
   ·refine zO h2 (zat (ih (j + 1) (by omega)) ?_)
    have e1 : zbY l[j] = false := by
     have : ¬ l[j].size = 0 := by omega
     have h3 : ¬ 48 < l[j].size := by omega
     simp [zbY,this,h3]
    rw [e1,Bool.false_or]
theorem zfM (o q : Int) (l : List ByteArray) (hl : l.length < 4611686018427387904) : Ev (fun k => zi.f k o q l) (zcI o q l) := by
 have key : ∀ b : Bool,(b = true ↔ ¬ (1 ≤ o ∧ o ≤ 64 ∧ 1 ≤ q ∧ q ≤ 1073741824 ∧ 1 ≤ l.length ∧ l.length ≤ 4)) → Ev (fun k => zi.j0 k b o q l) (zcI o q l) := by
  intro b hb
  refine Ev.step (fun k => by rw [zi.j0]) ?_
  by_cases h : 1 ≤ o ∧ o ≤ 64 ∧ 1 ≤ q ∧ q ≤ 1073741824 ∧ 1 ≤ l.length ∧ l.length ≤ 4
  ·refine zO (fun hh => hb.1 hh h) (zat (zgB o q l hl l.length 0 (by omega)) ?_)
   obtain ⟨h1,h2,h3,h4,h5,h6⟩ := h
   simp [zcI,h1,h2,h3,h4,h5,h6]
  ·refine zF (hb.2 h) (zat (Ev.now _) ?_)
   symm
   rw [← Bool.not_eq_true,zcJ]
   exact fun ⟨h1,h2,h3,h4,h5,h6,_⟩ => h ⟨h1,h2,h3,h4,h5,h6⟩
 by_cases h1 : o < 1
 ·exact zF h1 (key true (by simp;omega))
 refine zO h1 ?_
 by_cases h2 : o > 64
 ·exact zF h2 (key true (by simp;omega))
 refine zO h2 ?_
 by_cases h3 : q < 1
 ·exact zF h3 (key true (by simp;omega))
 refine zO h3 ?_
 by_cases h4 : q > 1073741824
 ·exact zF h4 (key true (by simp;omega))
 refine zO h4 ?_
 by_cases h5 : (l.length : Int) < 1
 ·exact zF h5 (key true (by simp;omega))
 exact zO h5 (key _ (by simp;omega))
theorem zd1 (n : Int) : zZ.f n = some (zdf n) := by
 unfold zZ.f zdf
 by_cases h4 : n = 4
 ·subst h4;rfl
 ·rw [if_neg h4]
  by_cases h : n > 4
  ·rw [if_pos h]
   by_cases h1 : n ≤ 64
   ·rw [if_pos h1,z9 (by omega) (by omega),Int.tmod_eq_emod_of_nonneg (by omega)]
    by_cases h2 : n % 3 = 1
    ·have : (n - 1) % 3 = 0 := by omega
     simp [h1,h2,this];omega
    ·have : ¬ (n - 1) % 3 = 0 := by omega
     simp [h2,this]
   ·rw [if_neg h1];simp [h1]
  ·rw [if_neg h]
   have : ¬ 4 ≤ n := by omega
   simp [this]
theorem zeC (n : Int) : zQ.f n = some (za9 n) := by
 unfold zQ.f za9
 rw [zd1]
 simp only [Option.bind_some]
 by_cases h : zdf n = true
 ·rw [if_pos h,if_pos h]
  obtain ⟨h1,h2,h3⟩ := (zcl n).1 h
  rw [z9 (x := n - 1) (by omega) (by omega),Int.tdiv_eq_ediv_of_nonneg (by omega),z9 (x := (n - 1) / 3) (by omega) (by omega),z9 (by omega) (by omega)]
 ·rw [if_neg h,if_neg h]
theorem zgc (a b : Int) : zY.f a b = some (zez a b) := by
 unfold zY.f zez
 by_cases h1 : 0 ≤ a <;> by_cases h2 : a < 10007 <;> by_cases h3 : 0 ≤ b <;> simp [h1,h2,h3]
theorem zfd (r : Int) : zK.f r = some (zcD r) := by
 unfold zK.f zcD
 by_cases h : r > 0
 ·rw [if_pos h,Int.tmod_eq_emod_of_nonneg (by omega)]
  by_cases h2 : r % 3 = 0
  ·have : 3 ≤ r := by omega
   simp [h2,this]
  ·simp [h2]
 ·rw [if_neg h]
  have : ¬ 3 ≤ r := by omega
  simp [this]
def zej (r x y : Int) : Bool := zez x y && (zcD r || (decide (x = 0) && decide (y = 0)))
theorem zhc (a r : Int) (bs : List S50) (ps : List ByteArray) (x y : Int) (hl : ps.length < 4611686018427387904) (hp : ∀ t ∈ ps,t.size < 4611686018427387904) (d : Nat) : ∀ j,j + d = ps.length →
  Ev (fun k => ze.l1 k (j : Int) a r bs ps x y) (zaP ps d j && zej r x y) := by
 induction d with
 | zero =>
  intro j hj
  refine Ev.step (fun k => by rw [ze.l1]) ?_
  refine zO (by omega) (zS (zgc x y) (zS (zfd r) ?_))
  unfold zej
  by_cases h1 : zez x y = true
  ·refine zF h1 ?_
   by_cases h2 : zcD r = true
   ·exact zF h2 (zat (Ev.now _) (by simp [zaP,h1,h2]))
   ·refine zO h2 ?_
    by_cases h3 : x = 0
    ·refine zF h3 (zat (Ev.now _) ?_)
     rw [Bool.not_eq_true] at h2
     subst h3
     by_cases h4 : y = 0
     ·subst h4;simp [zaP,h1,h2]
     ·simp [zaP,h1,h2,h4]
    ·rw [Bool.not_eq_true] at h2
     exact zO h3 (zat (Ev.now _) (by simp [zaP,h2,h3]))
  ·rw [Bool.not_eq_true] at h1
   exact zO (by rw [h1];simp) (zat (Ev.now _) (by simp [zaP,h1]))
 | succ d ih =>
  intro j hj
  have hj' : j < ps.length := by omega
  refine Ev.step (fun k => by rw [ze.l1]) ?_
  refine zF (by omega) (zF (by omega) ?_)
  have e1 : zu ByteArray.empty ps (j : Int) = ps.getD j ByteArray.empty := by rw [zu,Int.toNat_natCast]
  rw [e1]
  by_cases h : (ps.getD j ByteArray.empty).size = 32
  ·refine zF (by omega) ?_
   rw [z9 (x := (j : Int) + 1) (by omega) (by omega)]
   by_cases h0 : j = 0
   ·subst h0
    refine zO (by omega) (zat (ih 1 (by omega)) ?_)
    simp only [zaP,zfA,h];simp
   ·refine zF (by omega) ?_
    have e2 : wrap64 ((j : Int) - 1) = ((j - 1 : Nat) : Int) := by rw [z9 (by omega) (by omega)];omega
    rw [e2]
    refine zF (by omega) (zF (by omega) ?_)
    have e3 : zu ByteArray.empty ps ((j - 1 : Nat) : Int) = ps.getD (j - 1) ByteArray.empty := by rw [zu,Int.toNat_natCast]
    rw [e3]
    have hsz : (ps.getD (j - 1) ByteArray.empty).size < 4611686018427387904 := by
     rw [List.getD_eq_getElem?_getD,List.getElem?_eq_getElem (show j - 1 < ps.length by omega)]
     exact hp _ (List.getElem_mem _)
    refine Ev.bind (zhq _ _ hsz) ?_
    by_cases h2 : zde (ofB (ps.getD (j - 1) ByteArray.empty)) (ofB (ps.getD j ByteArray.empty)) = true
    ·refine zF h2 (zat (ih (j + 1) (by omega)) ?_)
     simp only [zaP,zfA,h,h2];simp
    ·refine zO h2 (zat (Ev.now _) ?_)
     rw [Bool.not_eq_true] at h2
     simp only [zaP,zfA,h,h0,h2];simp
  ·refine zO (by omega) (zat (Ev.now _) ?_)
   simp only [zaP,zfA,h];simp
def zeM (r : Int) (ps : List ByteArray) (x y n : Int) : Bool :=
 !(decide (r = 1) && decide (0 < ps.length)) && !(decide (1 < r) && (decide ((ps.length : Int) < za9 n) || decide (n < ps.length))) && (zaP ps ps.length 0 && zej r x y)
theorem zhb (a r : Int) (bs : List S50) (ps : List ByteArray) (x y n : Int) (hb : bs.length < 4611686018427387904) (hbs : ∀ b ∈ bs,b.f2.length < 4611686018427387904) (hl : ps.length < 4611686018427387904) (hp : ∀ t ∈ ps,t.size < 4611686018427387904) (d : Nat) : ∀ j,j + d = bs.length →
  Ev (fun k => ze.l0 k n (j : Int) a r bs ps x y) (!(bs.drop j).any (zcs n) && zeM r ps x y n) := by
 induction d with
 | zero =>
  intro j hj
  refine Ev.step (fun k => by rw [ze.l0]) ?_
  rw [List.drop_eq_nil_of_le (by omega)]
  refine zO (by omega) ?_
  have J3 : ∀ b : Bool,Ev (fun k => ze.j3 k b a r bs ps x y) (!b && (zaP ps ps.length 0 && zej r x y)) := by
   intro b
   refine Ev.step (fun k => by rw [ze.j3]) ?_
   rcases b with _ | _
   ·exact zO (by simp) (zat (zhc a r bs ps x y hl hp ps.length 0 (by omega)) (by simp))
   ·exact zF rfl (zat (Ev.now _) (by simp))
  have J2 : ∀ b : Bool,Ev (fun k => ze.j2 k n b a r bs ps x y) (!b && (!(decide (1 < r) && (decide ((ps.length : Int) < za9 n) || decide (n < ps.length))) && (zaP ps ps.length 0 && zej r x y))) := by
   intro b
   refine Ev.step (fun k => by rw [ze.j2]) ?_
   rcases b with _ | _
   ·refine zO (by simp) ?_
    by_cases h : r > 1
    ·have h' : 1 < r := h
     refine zF h (zS (zeC n) ?_)
     by_cases h2 : (ps.length : Int) < za9 n
     ·exact zF h2 (zat (J3 true) (by simp [h',h2]))
     ·exact zO h2 (zat (J3 _) (by simp [h',h2]))
    ·have h' : ¬ 1 < r := h
     exact zO h (zat (J3 false) (by simp [h']))
   ·exact zF rfl (zat (Ev.now _) (by simp))
  unfold zeM
  by_cases h : r = 1
  ·refine zF h (zat (J2 _) ?_)
   subst h
   by_cases h0 : 0 < ps.length
   ·have : decide ((ps.length : Int) > 0) = true := decide_eq_true (by omega)
    simp [this,h0]
   ·have : decide ((ps.length : Int) > 0) = false := decide_eq_false (by omega)
    simp [this,h0]
  ·exact zO h (zat (J2 false) (by simp [h]))
 | succ d ih =>
  intro j hj
  have hj' : j < bs.length := by omega
  refine Ev.step (fun k => by rw [ze.l0]) ?_
  refine zF (by omega) (zF (by omega) ?_)
  rw [zdj bs j hj',z9 (by omega) (by omega),List.drop_eq_getElem_cons hj',List.any_cons]
  refine Ev.bind (zfM _ _ _ (hbs _ (List.getElem_mem hj'))) ?_
  by_cases h : zcI bs[j].f0 bs[j].f1 bs[j].f2 = true
  ·refine zF h ?_
   by_cases h2 : bs[j].f0 > n
   ·have h3 : n < bs[j].f0 := h2
    exact zF h2 (zat (Ev.now _) (by simp [zcs,h3]))
   ·have h3 : ¬ n < bs[j].f0 := h2
    refine zO h2 (zat (ih (j + 1) (by omega)) ?_)
    have : zcs n bs[j] = false := by simp [zcs,h,h3]
    rw [this,Bool.false_or]
  ·refine zO h (zat (Ev.now _) ?_)
   rw [Bool.not_eq_true] at h
   simp [zcs,h]
theorem zil (a r : Int) (bs : List S50) (ps : List ByteArray) (x y n : Int) (h0 : zdf n = true) (h1 : 1 ≤ a) (h2 : a ≤ n) (h3 : 1 ≤ r) (h4 : r ≤ 1048576) (h5 : bs.length ≤ 4) :
  zaU a r bs ps x y n = (!bs.any (zcs n) && zeM r ps x y n) := by
 unfold zaU zeM zbA zej
 simp only [h0,h1,h2,h3,h4,h5]
 by_cases e : r = 1
 ·subst e
  rcases ps with _ | ⟨p,ps⟩
  ·simp [zaP,Bool.and_assoc]
  ·simp
 ·have h6 : 1 < r := by omega
  simp only [if_neg e,e,h6]
  have q1 : decide ((ps.length : Int) < za9 n) = !decide (za9 n ≤ (ps.length : Int)) := by
   by_cases q : za9 n ≤ (ps.length : Int) <;> simp [q] <;> omega
  have q2 : decide (n < (ps.length : Int)) = !decide ((ps.length : Int) ≤ n) := by
   by_cases q : (ps.length : Int) ≤ n <;> simp [q] <;> omega
  rw [q1,q2]
  cases bs.any (zcs n) <;> cases zez x y <;> cases zcD r <;> cases zaP ps ps.length 0 <;> cases decide (za9 n ≤ (ps.length : Int)) <;> cases decide ((ps.length : Int) ≤ n) <;> simp
theorem zha (a r : Int) (bs : List S50) (ps : List ByteArray) (x y n : Int) (hb : bs.length < 4611686018427387904) (hbs : ∀ b ∈ bs,b.f2.length < 4611686018427387904) (hl : ps.length < 4611686018427387904) (hp : ∀ t ∈ ps,t.size < 4611686018427387904) :
  Ev (fun k => ze.f k a r bs ps x y n) (zaU a r bs ps x y n) := by
 have key : ∀ b : Bool,(b = true ↔ ¬ (zdf n = true ∧ 1 ≤ a ∧ a ≤ n ∧ 1 ≤ r ∧ r ≤ 1048576 ∧ bs.length ≤ 4)) → Ev (fun k => ze.j0 k n b a r bs ps x y) (zaU a r bs ps x y n) := by
  intro b hb'
  refine Ev.step (fun k => by rw [ze.j0]) ?_
  by_cases h : zdf n = true ∧ 1 ≤ a ∧ a ≤ n ∧ 1 ≤ r ∧ r ≤ 1048576 ∧ bs.length ≤ 4
  ·refine zO (fun hh => hb'.1 hh h) (zat (zhb a r bs ps x y n hb hbs hl hp bs.length 0 (by omega)) ?_)
   obtain ⟨h0,h1,h2,h3,h4,h5⟩ := h
   rw [zil a r bs ps x y n h0 h1 h2 h3 h4 h5,List.drop_zero]
  ·refine zF (hb'.2 h) (zat (Ev.now _) ?_)
   symm
   rw [← Bool.not_eq_true,zcm]
   exact fun ⟨h0,h1,h2,h3,h4,h5,_⟩ => h ⟨h0,h1,h2,h3,h4,h5⟩
 refine zS (zd1 n) ?_
 by_cases h0 : zdf n = true
 ·refine zF h0 ?_
  by_cases h1 : a < 1
  ·exact zF h1 (key true (by simp;omega))
  refine zO h1 ?_
  by_cases h2 : a > n
  ·exact zF h2 (key true (by simp;omega))
  refine zO h2 ?_
  by_cases h3 : r < 1
  ·exact zF h3 (key true (by simp;omega))
  refine zO h3 ?_
  by_cases h4 : r > 1048576
  ·exact zF h4 (key true (by simp;omega))
  exact zO h4 (key _ (by simp [h0];omega))
 ·exact zO h0 (key true (by simp [h0]))
theorem zb2 {x : Int} (h0 : 0 ≤ x) (h1 : x < 9223372036854775808) : Ev (fun k => zh.f k (IntKind.u64.wrap x)) (zaZ x.toNat) := by
 obtain ⟨n,rfl⟩ := Int.eq_ofNat_of_zero_le h0
 rw [zbb (by omega) (by omega),Int.toNat_natCast]
 exact zeg n (by omega)
def zfU (o q : Int) (l : List ByteArray) : ByteArray × Int := if zcI o q l = true then (toB (zck o q l),0) else ((⟨#[]⟩ : ByteArray),1)
theorem zef (o q : Int) (l : List ByteArray) (hl : l.length < 4611686018427387904) : Ev (fun k => zN.f k o q l) (zfU o q l) := by
 refine Ev.bind (zfM _ _ _ hl) ?_
 unfold zfU
 by_cases h : zcI o q l = true
 ·rw [if_pos h]
  obtain ⟨h1,h2,h3,h4,h5,h6,h7⟩ := (zcJ o q l).1 h
  have r1 := zcO l 48 (by omega) (fun t ht => (h7 t ht).2)
  have r2 := zan (v := l.length) (by omega)
  have r3 : (zbB l).length ≤ 300 := by rw [zbB,List.length_append];omega
  have n1 := zaE (v := o.toNat) (by omega)
  have n2 := zaE (v := q.toNat) (by omega)
  have r4 : zC.f l = some (toB (zbB l)) := if_pos (by omega)
  refine zF h (Ev.bind (zb2 (by omega) (by omega)) (Ev.bind (zb2 (by omega) (by omega)) (zF (by omega) (zS r4 (zF (by rw [ByteArray.size_append,zac];omega) (zat (Ev.now _) ?_))))))
  rw [zck,zaK,zaK];rfl
 ·rw [if_neg h];exact zO h (Ev.now _)
theorem zgO (b : S50) : (zfU b.f0 b.f1 b.f2).1 = bB b := by
 unfold zfU bB;split <;> rfl
def zgl (a r : Int) (bs : List S50) (ps : List ByteArray) (x y n : Int) : ByteArray × Int := if zaU a r bs ps x y n = true then (toB (zbE a r bs ps x y),0) else ((⟨#[]⟩ : ByteArray),1)
theorem zgd {a r : Int} {bs : List S50} {ps : List ByteArray} {x y n : Int} (h : zaU a r bs ps x y n = true) (d : Nat) : ∀ j,j + d = bs.length →
  Ev (fun k => zj.l0 k ((bs.take j).map bB) (j : Int) a r bs ps x y) (toB (zbE a r bs ps x y),0) := by
 obtain ⟨h0,h1,h2,h3,h4,h5,h6,h7,h8,h9⟩ := (zcm ..).1 h
 obtain ⟨k1,k2,k3⟩ := (zcl n).1 h0
 obtain ⟨x1,x2,y1,y2⟩ := (zdY x y).1 h7
 induction d with
 | zero =>
  intro j hj
  refine Ev.step (fun k => by rw [zj.l0]) ?_
  rw [List.take_of_length_le (by omega)]
  have s0 := zaE (v := a.toNat) (by omega)
  have s1 := zaE (v := r.toNat) (by omega)
  have s2 := zaE (v := x.toNat) (by omega)
  have s3 := zaE (v := y.toNat) (by omega)
  have r1 := zgf h5
  have r2 := zgg (zbQ h0 h9)
  have d1 : zC.f (bs.map bB) = some (toB (zbB (bs.map bB))) := if_pos (by omega)
  have d2 : zC.f ps = some (toB (zbB ps)) := if_pos (by omega)
  refine zO (by omega) (Ev.bind (zb2 (by omega) (by omega)) (Ev.bind (zb2 (by omega) (by omega)) (zF (by omega) (zS d1 (zF (by simp only [ByteArray.size_append,zac];omega) (zS d2 (zF (by simp only [ByteArray.size_append,zac];omega)
   (Ev.bind (zb2 (by omega) (by omega)) (zF (by simp only [ByteArray.size_append,zac];omega) (Ev.bind (zb2 (by omega) (by omega)) (zF (by simp only [ByteArray.size_append,zac];omega) (zat (Ev.now _) ?_))))))))))))
  simp only [zbE,zaZ,zaK]
 | succ d ih =>
  intro j hj
  have hj' : j < bs.length := by omega
  refine Ev.step (fun k => by rw [zj.l0]) ?_
  refine zF (by omega) (zF (by omega) ?_)
  rw [zdj bs j hj',z9 (by omega) (by omega)]
  have hl := (zgX h).2.1 _ (List.getElem_mem hj')
  refine Ev.bind (zef _ _ _ hl) (zF (by rw [List.length_map,List.length_take];omega) ?_)
  rw [zgO]
  have e : (bs.take j).map bB ++ [bB bs[j]] = (bs.take (j + 1)).map bB := by
   rw [List.take_succ_eq_append_getElem hj',List.map_append];rfl
  rw [e]
  exact ih (j + 1) (by omega)
theorem zd2 (a r : Int) (bs : List S50) (ps : List ByteArray) (x y n : Int) (hb : bs.length < 4611686018427387904) (hbs : ∀ b ∈ bs,b.f2.length < 4611686018427387904) (hl : ps.length < 4611686018427387904) (hp : ∀ t ∈ ps,t.size < 4611686018427387904) :
  Ev (fun k => zj.f k a r bs ps x y n) (zgl a r bs ps x y n) := by
 refine Ev.bind (zha a r bs ps x y n hb hbs hl hp) ?_
 unfold zgl
 by_cases h : zaU a r bs ps x y n = true
 ·rw [if_pos h]
  exact zF h (zat (zgd h bs.length 0 (by omega)) rfl)
 ·rw [if_neg h];exact zO h (Ev.now _)
theorem zfi {s : ByteArray} (h : s.size ≤ 10000) : zbk.f s = some (zeF s) := by rw [zbk.f,if_pos (by omega)]
theorem zhN {s : ByteArray} (h : s.size ≤ 10000) : zap.f s = some (zeF s) := by rw [zap.f,if_pos (by omega)]
theorem ze4 (b : UInt8) (s : ByteArray) : ((⟨#[b]⟩ : ByteArray) ++ s).size = 1 + s.size := by rw [ByteArray.size_append];rfl
theorem zd5 {a r : Int} {bs : List S50} {ps : List ByteArray} {x y n : Int} (h : zaU a r bs ps x y n = true) : (toB (zbE a r bs ps x y)).size ≤ 5000 := by
 obtain ⟨h0,h1,h2,h3,h4,h5,h6,h7,h8,h9⟩ := (zcm ..).1 h
 obtain ⟨k1,k2,k3⟩ := (zcl n).1 h0
 obtain ⟨x1,x2,y1,y2⟩ := (zdY x y).1 h7
 have r1 := zgf (bs := bs) (by omega)
 have r2 := zgg (zbQ h0 h9)
 have r3 := zan (v := a.toNat) (by omega)
 have r4 := zan (v := r.toNat) (by omega)
 have r5 := zan (v := x.toNat) (by omega)
 have r6 := zan (v := y.toNat) (by omega)
 rw [zac,zbE]
 simp only [List.length_append]
 omega
def zaT (a r : Int) (bs : List S50) (ps : List ByteArray) (x y n : Int) : ByteArray × Int := if zaU a r bs ps x y n = true then (zeF ((⟨#[118]⟩ : ByteArray) ++ toB (zbE a r bs ps x y)),0) else ((⟨#[]⟩ : ByteArray),1)
theorem zcP (a r : Int) (bs : List S50) (ps : List ByteArray) (x y n : Int) : zam.f a r bs ps x y n = some (zaT a r bs ps x y n) := by
 unfold zam.f zaT
 rw [zeG]
 simp only [Option.bind_some]
 by_cases h : zaU a r bs ps x y n = true
 ·have hs := zd5 h
  rw [if_pos h,if_pos h,if_pos rfl,if_pos (by show 1 + (toB (zbE a r bs ps x y)).size ≤ _;omega)]
  show (zbk.f ((⟨#[118]⟩ : ByteArray) ++ toB (zbE a r bs ps x y))).bind _ = _
  rw [zfi (by rw [ze4];omega)]
  rfl
 ·rw [if_neg h,if_neg h,if_neg (by simp)]
theorem zdP (a r : Int) (bs : List S50) (ps : List ByteArray) (x y n : Int) (hb : bs.length < 4611686018427387904) (hbs : ∀ b ∈ bs,b.f2.length < 4611686018427387904) (hl : ps.length < 4611686018427387904) (hp : ∀ t ∈ ps,t.size < 4611686018427387904) :
  Ev (fun k => zas.f k a r bs ps x y n) (zaT a r bs ps x y n) := by
 unfold zas.f
 refine Ev.bind (zd2 a r bs ps x y n hb hbs hl hp) ?_
 unfold zgl zaT
 by_cases h : zaU a r bs ps x y n = true
 ·have hs := zd5 h
  rw [if_pos h,if_pos h]
  refine zF rfl (zF (by show 1 + (toB (zbE a r bs ps x y)).size ≤ _;omega) ?_)
  refine zS (zhN (s := (⟨#[118]⟩ : ByteArray) ++ toB (zbE a r bs ps x y)) (by rw [ze4];omega)) ?_
  exact Ev.now _
 ·rw [if_neg h,if_neg h]
  exact zO (by simp) (Ev.now _)
theorem zdO (l : List S40) (j : Nat) (h : j < l.length) : zR l (j : Int) = l[j] := by
 rw [zR,Int.toNat_natCast,List.getD_eq_getElem?_getD,List.getElem?_eq_getElem h];rfl
theorem zgh (s : Nat) (hs : s < 18446744073709551616) (i : Int) : zbL.f (s : Int) i = some (if 1 ≤ i ∧ i ≤ 64 then (((ze7 s i : Nat) : Int),0) else (0,1)) := by
 by_cases hh : 1 ≤ i ∧ i ≤ 64
 ·have es : zbf.f i = some true := by unfold zbf.f;rw [if_pos hh.1,decide_eq_true hh.2]
  have e1 : wrap64 (i - 1) = ((i.toNat - 1 : Nat) : Int) := by rw [z9 (by omega) (by omega)];omega
  have h3' : 2 ^ (i.toNat - 1) < 2 ^ 64 := Nat.pow_lt_pow_right (by decide) (by omega)
  have h3 : 2 ^ (i.toNat - 1) < 18446744073709551616 := h3'
  have e2 : shl .u64 1 ((i.toNat - 1 : Nat) : Int) = ((2 ^ (i.toNat - 1) : Nat) : Int) := by
   unfold shl
   rw [Int.toNat_natCast,Nat.min_eq_left (by show i.toNat - 1 ≤ 64;omega),Int.one_mul]
   have h4 : ((2 : Int) ^ (i.toNat - 1)) = ((2 ^ (i.toNat - 1) : Nat) : Int) := by rw [Int.natCast_pow];rfl
   rw [h4]
   generalize 2 ^ (i.toNat - 1) = p at h3 ⊢
   exact zbb (Int.natCast_nonneg _) (by omega)
  unfold zbL.f
  rw [es,show (if 1 ≤ i ∧ i ≤ 64 then (((ze7 s i : Nat) : Int),(0 : Int)) else (0,1)) = (((ze7 s i : Nat) : Int),0) from if_pos hh,Option.bind_some,if_pos rfl,e1,if_pos (Int.natCast_nonneg _),e2,u64_or_nat _ _ hs h3,ze7,if_pos hh]
 ·have es : zbf.f i = some false := by
   unfold zbf.f
   by_cases h1 : i ≥ 1
   ·rw [if_pos h1,decide_eq_false (fun h => hh ⟨h1,h⟩)]
   ·rw [if_neg h1]
  unfold zbL.f
  rw [es,show (if 1 ≤ i ∧ i ≤ 64 then (((ze7 s i : Nat) : Int),(0 : Int)) else (0,1)) = (0,1) from if_neg hh]
  rfl
theorem by_l0 (t : ByteArray) (b : List S40) (hb : b.length < 4611686018427387904) (d : Nat) : ∀ (j s : Nat),j + d = b.length → s < 18446744073709551616 → Ev (fun k => zaY.l0 k t (s : Int) b (b.length : Int) (j : Int)) ((byN t (b.drop j) s : Nat) : Int) := by
 induction d with
 | zero =>
  intro j s hj hs
  refine Ev.step (fun k => by rw [zaY.l0]) ?_
  rw [List.drop_of_length_le (by omega)]
  exact zO (by omega) (Ev.now _)
 | succ d ih =>
  intro j s hj hs
  refine Ev.step (fun k => by rw [zaY.l0]) ?_
  have hlt : j < b.length := by omega
  rw [zdO b j hlt,List.drop_eq_getElem_cons hlt,byN,z9 (by omega) (by omega)]
  refine zF (by omega) (zF (by omega) (zF (by omega) ?_))
  by_cases h : b[j].f1 = t
  ·rw [if_pos h]
   refine zF (by rw [h]) (zS (zgh s hs b[j].f0) ?_)
   by_cases h1 : 1 ≤ b[j].f0 ∧ b[j].f0 ≤ 64
   ·rw [if_pos h1]
    exact zF rfl (ih (j + 1) _ (by omega) (zhv hs _))
   ·rw [if_neg h1]
    refine zO (by simp) ?_
    rw [ze7,if_neg h1]
    exact ih (j + 1) s (by omega) hs
  ·rw [if_neg h]
   refine zO (fun hh => h ((zdF _ _).1 hh)) (ih (j + 1) s (by omega) hs)
theorem zgq (b : List S40) (hb : b.length < 4611686018427387904) (s : Nat) (hs : s < 18446744073709551616) (t : ByteArray) : Ev (fun k => zby.f k b (s : Int) t) (zfT b s t) := by
 refine Ev.bind (by_l0 t b hb b.length 0 0 (by omega) (by decide)) (zat (Ev.now _) ?_)
 rw [List.drop_zero,← all_by b s hs t]
 rfl
def zgL (d : ByteArray) : ByteArray := (⟨#[121]⟩ : ByteArray) ++ d
def zdJ (n : Int) (b : List S40) (a r : Int) (bs : List S50) (ps : List ByteArray) (x y : Int) (s : Nat) : Int :=
 if zdd a r bs ps x y s n = 0 then (if zfT b s (zgL (zaT a r bs ps x y n).1) = true then 0 else 10) else zdd a r bs ps x y s n
theorem zc0 (a r : Int) (bs : List S50) (ps : List ByteArray) (x y n : Int) : (zaT a r bs ps x y n).1.size ≤ 32 := by
 unfold zaT
 split
 ·exact Nat.le_of_eq (zfO _)
 ·exact Nat.zero_le _
theorem zb7 (n : Int) (b : List S40) (hb : b.length < 4611686018427387904) (a r : Int) (bs : List S50) (ps : List ByteArray) (x y : Int) (s : Nat) (hs : s < 18446744073709551616) :
  Ev (fun k => zaj.f k n b a r bs ps x y (s : Int)) (zdJ n b a r bs ps x y s) := by
 unfold zaj.f zdJ
 refine zS (zfZ a r bs ps x y s hs n) ?_
 refine zgS (fun _ => ?_) (fun _ => Ev.now _)
 refine zS (zcP ..) ?_
 have hz := zc0 a r bs ps x y n
 refine zS (show zaz.f (zaT a r bs ps x y n).1 = some (zgL (zaT a r bs ps x y n).1) from if_pos (by omega)) ?_
 refine Ev.bind (zgq b hb s hs _) ?_
 exact zgS (fun _ => Ev.now _) (fun _ => Ev.now _)
theorem zeo {n : Int} {b : List S40} {a r : Int} {bs : List S50} {ps : List ByteArray} {x y : Int} {s : Nat} : zdJ n b a r bs ps x y s = 0 ↔ zdd a r bs ps x y s n = 0 ∧ zfT b s (zgL (zaT a r bs ps x y n).1) = true := by
 unfold zdJ
 by_cases h : zdd a r bs ps x y s n = 0
 ·rw [if_pos h]
  by_cases h2 : zfT b s (zgL (zaT a r bs ps x y n).1) = true
  ·rw [if_pos h2];simp [h,h2]
  ·rw [if_neg h2];simp [h2]
 ·rw [if_neg h];simp [h]
theorem zgR (b : List S40) (hb : b.length < 4611686018427387904) (i : Int) (t : ByteArray) (d : Nat) : ∀ j : Nat,j + d = b.length → Ev (fun k => za8.l0 k b (b.length : Int) (j : Int) i t) (zbC i t (b.drop j)) := by
 induction d with
 | zero =>
  intro j hj
  refine Ev.step (fun k => by rw [za8.l0]) ?_
  rw [List.drop_of_length_le (by omega)]
  exact zO (by omega) (Ev.now _)
 | succ d ih =>
  intro j hj
  refine Ev.step (fun k => by rw [za8.l0]) ?_
  have hlt : j < b.length := by omega
  rw [zdO b j hlt,List.drop_eq_getElem_cons hlt,z9 (by omega) (by omega)]
  refine zF (by omega) (zF (by omega) (zF (by omega) ?_))
  rw [show zbC i t (b[j] :: b.drop (j + 1)) = (decide (b[j].f0 = i ∧ b[j].f1 = t) || zbC i t (b.drop (j + 1))) from rfl]
  by_cases h : b[j].f0 = i ∧ b[j].f1 = t
  ·rw [decide_eq_true h]
   exact zF (by rw [h.1,h.2];simp) (Ev.now _)
  ·rw [decide_eq_false h,Bool.false_or]
   refine zO (fun hh => h ?_) (ih (j + 1) (by omega))
   rw [Bool.and_eq_true,beq_iff_eq,zeT,decide_eq_true_eq] at hh
   exact hh
theorem zgQ (b : List S40) (hb : b.length < 4611686018427387904) (i : Int) (t : ByteArray) : Ev (fun k => za8.f k b i t) (zbC i t b) := by
 have := zgR b hb i t b.length 0 (by omega)
 rwa [List.drop_zero] at this
def ze1 (b : List S40) (x : S40) : Bool := !zbC x.f0 x.f1 b
theorem za3.odd (b : List S40) (hl : b.length < 4611686018427387904) (g : Nat) (B : Option Addr) (cb : Nat) (i : Int) (t : ByteArray) (w : World) (hr : Kd.C k40 w B b.length b) (hc : b.length ≤ cb)
  (hn : w.heap[g]? = some (.cells #[.slice B b.length cb] 22 (0,0))) :
  Calls Try.prog 30 #[.agg #[.int .i64 i,.string t],.pointer (some ⟨g,0,none⟩)] w fun e w' => e = .returned (.bool (ze1 b ⟨i,t⟩)) ∧ Below w.heap.size w w' := by
 obtain ⟨k,hk⟩ := (zgQ b hl i t).rounds
 have HK := za.mk hk
 have HR := za.mk hr
 have HC := za.mk hc
 have HN := za.mk hn
 clear hr hc hn hk
 go_enter Try.func30,Try.ntmps30
 go_wp2_with (first
  | ((with_reducible refine zo (N := 2) rfl ?_);refine zk rfl (N := 2) rfl (cs := #[.int .i64 i,.string t]) (t := 40) hrq ?_;intro gb hg w2 hbox hb;have BK := za.mk hbox;have HB := za.mk hb;have BN := za.mk (zx HN.out hb);clear hb hbox hg;have hz0 := (zb BK.out 0).trans rfl;have hz1 := (zb BK.out 1).trans rfl;have hf0 := zc BK.out 0;have hf1 := zc BK.out 1;have hn0 := (zb BN.out 0).trans rfl;have hnf := zc BN.out 0)
  | (go_at_call 31;(with_reducible refine (za8.calls k _ _ b i t _ _ (Kd.C_below HR.out HB.out) HC.out HK.out).mono ?_);rintro e w3 ⟨rfl,hb⟩;have HB3 := za.mk (zd HB.out hb);clear hb))
 go_ret
 exact ⟨rfl,HB3.out⟩
theorem za3.idx (b : List S40) (hl : b.length < 4611686018427387904) (g : Nat) (B : Option Addr) (cb : Nat) (A : Option Addr) (c : Nat) (l : List S40) (w : World) (hr : Kd.C k40 w A l.length l) (hc : l.length ≤ c)
  (hrb : Kd.C k40 w B b.length b) (hcb : b.length ≤ cb) (hn : w.heap[g]? = some (.cells #[.slice B b.length cb] 22 (0,0))) :
  Calls Try.prog 60 #[.slice A l.length c,.func (.func 30) #[] #[.pointer (some ⟨g,0,none⟩)]] w fun e w' => e = .returned (.int .i64 (zf3 (ze1 b) l)) ∧ Below w.heap.size w w' := by
 have hm := hr.2.1
 have HR := za.mk hr
 have HRB := za.mk hrb
 have HCB := za.mk hcb
 have HN := za.mk hn
 have HLB := za.mk hl
 clear hr hn hrb hcb hl
 go_enter Try.func60,Try.ntmps60
 go_wp2_with fail
 have HB0 := za.mk (Below.refl w.heap.size w)
 go_loopw [5,8] (fun v5 v8 wr => ∃ k : Nat,v8 = .int .i64 k ∧ k ≤ l.length ∧ za (∀ (j : Nat) (y : S40),j < k → l[j]? = some y → ze1 b y = false) ∧ za (Below w.heap.size w wr)) (fun _ v8 _ => l.length - (match v8 with | .int _ q => q | _ => 0).toNat)
 case atStart => exact ⟨0,rfl,Nat.zero_le _,⟨fun j y hj => absurd hj (Nat.not_lt_zero _)⟩,⟨by repeat (first | (with_reducible first | exact HB0.out | apply zw | apply zg | apply zn) | exact HB0.out)⟩⟩
 case round =>
  obtain ⟨k,rfl,hk,HF,HB⟩ := hrel
  by_cases hlt : k < l.length
  ·obtain ⟨ad,rfl,hx0,hx1⟩ := zcy HR.out (k : Int) (by omega) (by omega)
   replace hx0 := (HB.out.cell (World.block_lt_of_cell? w _ hx0)).trans hx0
   replace hx1 := (HB.out.cell (World.block_lt_of_cell? w _ hx1)).trans hx1
   rw [Int.toNat_natCast] at hx0 hx1
   have hb : decide (k < l.length) = true := decide_eq_true hlt
   have hx : l[k]? = some (zR l (k : Int)) := by
    rw [zR,Int.toNat_natCast,List.getD_eq_getElem?_getD,List.getElem?_eq_getElem hlt];rfl
   have HX := za.mk hx
   have HNW := za.mk (zx HN.out HB.out)
   have HRW := za.mk (Kd.C_below HRB.out HB.out)
   clear hx
   generalize zR l (k : Int) = s at *
   obtain ⟨s0,s1⟩ := s
   rcases ho : ze1 b ⟨s0,s1⟩ with _ | _
   ·have HO := za.mk ho
    clear ho
    go_wp2_with (go_at_call 30;(with_reducible refine (za3.odd b HLB.out g _ _ s0 s1 _ HRW.out HCB.out HNW.out).mono ?_);rintro e w1 ⟨rfl,hb1⟩;rw [HO.out];have HB1 := za.mk (zd HB.out hb1);clear hb1)
    go_roundw
    case rel =>
     refine ⟨k + 1,by go_num,by omega,⟨fun j y hj hy => ?_⟩,HB1⟩
     rcases Nat.lt_succ_iff_lt_or_eq.1 hj with h | h
     ·exact HF.out j y h hy
     ·subst h
      rw [HX.out] at hy
      injection hy with hy
      subst hy
      exact HO.out
    case measure => simp;omega
   ·have HO := za.mk ho
    clear ho
    go_wp2_with (go_at_call 30;(with_reducible refine (za3.odd b HLB.out g _ _ s0 s1 _ HRW.out HCB.out HNW.out).mono ?_);rintro e w1 ⟨rfl,hb1⟩;rw [HO.out];have HB1 := za.mk (zd HB.out hb1);clear hb1)
    go_ret
    exact ⟨by rw [ze0 HX.out HO.out HF.out];rfl,HB1.out⟩
  ·obtain rfl : k = l.length := by omega
   go_wp2_with fail
   go_ret
   exact ⟨by rw [zeb (fun j y hy => HF.out j y (List.getElem?_eq_some_iff.1 hy).1 hy)];rfl,HB.out⟩
theorem za3.contains (b : List S40) (hl : b.length < 4611686018427387904) (g : Nat) (B : Option Addr) (cb : Nat) (A : Option Addr) (c : Nat) (l : List S40) (w : World) (hr : Kd.C k40 w A l.length l) (hc : l.length ≤ c)
  (hrb : Kd.C k40 w B b.length b) (hcb : b.length ≤ cb) (hn : w.heap[g]? = some (.cells #[.slice B b.length cb] 22 (0,0))) :
  Calls Try.prog 29 #[.slice A l.length c,.func (.func 30) #[] #[.pointer (some ⟨g,0,none⟩)]] w fun e w' => e = .returned (.bool (l.any (ze1 b))) ∧ Below w.heap.size w w' := by
 have HR := za.mk hr
 have HC := za.mk hc
 have HRB := za.mk hrb
 have HCB := za.mk hcb
 have HN := za.mk hn
 clear hr hc hn hrb hcb
 have HA := za.mk (zeZ (ze1 b) l)
 go_enter Try.func29,Try.ntmps29
 go_wp2_with (go_at_call 60;(with_reducible refine (za3.idx b hl g _ _ _ _ l _ HR.out HC.out HRB.out HCB.out HN.out).mono ?_);rintro e w1 ⟨rfl,hb1⟩;have HB1 := za.mk hb1;clear hb1)
 go_ret
 exact ⟨by rw [← HA.out];rfl,HB1.out⟩
def za3.f (l0 : List S40) (l1 : List S40) : Option (Bool) := if l0.length < 4611686018427387904 then some (!l1.any (ze1 l0)) else none
theorem za3.calls (A0 : Option Addr) (c0 : Nat) (l0 : List S40) (A1 : Option Addr) (c1 : Nat) (l1 : List S40) (r : Bool) (w : World) (hr0 : Kd.C k40 w A0 l0.length l0) (hc0 : l0.length ≤ c0) (hr1 : Kd.C k40 w A1 l1.length l1) (hc1 : l1.length ≤ c1) (h : za3.f l0 l1 = some r) :
  Calls Try.prog 16 #[.slice A0 l0.length c0,.slice A1 l1.length c1] w fun e w' => e = .returned (.bool r) ∧ Below w.heap.size w w' := by
 unfold za3.f at h
 split at h
 ·next hl =>
  obtain rfl := Option.some.inj h
  have HR0 := za.mk hr0
  have HC0 := za.mk hc0
  have HR1 := za.mk hr1
  have HC1 := za.mk hc1
  have HL := za.mk hl
  clear hr0 hc0 hr1 hc1 hl h
  go_enter Try.func16,Try.ntmps16
  go_wp2_with (first
   | ((with_reducible refine zo (N := 2) rfl ?_);refine zk rfl (N := 2) rfl (cs := #[.slice A0 l0.length c0]) (t := 22) hrq ?_;intro gb hg w2 hbox hb;have BK := za.mk hbox;have HB := za.mk hb;clear hb hbox hg)
   | (go_at_call 29;(with_reducible refine (za3.contains l0 HL.out gb _ _ _ _ l1 _ (Kd.C_below HR1.out HB.out) HC1.out (Kd.C_below HR0.out HB.out) HC0.out BK.out).mono ?_);rintro e w3 ⟨rfl,hb⟩;have HB3 := za.mk (zd HB.out hb);clear hb))
  go_ret
  exact ⟨rfl,HB3.out⟩
 ·exact absurd h (by simp)
def zbt.f (a0 : ByteArray) : Option (ByteArray) := if 1 + a0.size ≤ 9223372036854775807 then (some ((⟨#[104]⟩ : ByteArray) ++ a0)) else (none)
set_option maxHeartbeats 8000000 in
set_option maxRecDepth 100000 in
theorem zbt.calls (a0 : ByteArray) (r : ByteArray) (w : World) (h : zbt.f a0 = some r) :
  Calls Try.prog 13 #[.string a0] w fun e w' => e = .returned (.string r) ∧ zaq w w' := by
 have H : (if 1 + a0.size ≤ 9223372036854775807 then (some ((⟨#[104]⟩ : ByteArray) ++ a0)) else (none)) = some r := h
 clear h
 by_cases c2 : 1 + a0.size ≤ 9223372036854775807
 ·rw [if_pos c2] at H
  have c2b0 := eq_true c2
  have c2b1 : decide (1 + a0.size ≤ 9223372036854775807) = true := decide_eq_true c2
  try have c2b2 : (9223372036854775807 < 1 + a0.size) = False := eq_false (Nat.not_lt.2 c2)
  obtain rfl := Option.some.inj H
  go_enter Try.func13,Try.ntmps13
  go_wp2
  go_ret
  exact ⟨hDq,hEq⟩
 ·rw [if_neg c2] at H
  exact absurd H (by simp)
def zbI.f (a0 : ByteArray) : Option (ByteArray) := if 1 + a0.size ≤ 9223372036854775807 then (some ((⟨#[111]⟩ : ByteArray) ++ a0)) else (none)
set_option maxHeartbeats 8000000 in
set_option maxRecDepth 100000 in
theorem zbI.calls (a0 : ByteArray) (r : ByteArray) (w : World) (h : zbI.f a0 = some r) :
  Calls Try.prog 15 #[.string a0] w fun e w' => e = .returned (.string r) ∧ zaq w w' := by
 have H : (if 1 + a0.size ≤ 9223372036854775807 then (some ((⟨#[111]⟩ : ByteArray) ++ a0)) else (none)) = some r := h
 clear h
 by_cases c2 : 1 + a0.size ≤ 9223372036854775807
 ·rw [if_pos c2] at H
  have c2b0 := eq_true c2
  have c2b1 : decide (1 + a0.size ≤ 9223372036854775807) = true := decide_eq_true c2
  try have c2b2 : (9223372036854775807 < 1 + a0.size) = False := eq_false (Nat.not_lt.2 c2)
  obtain rfl := Option.some.inj H
  go_enter Try.func15,Try.ntmps15
  go_wp2
  go_ret
  exact ⟨hDq,hEq⟩
 ·rw [if_neg c2] at H
  exact absurd H (by simp)
end Go.Proofs.Ytcncoepijagadaa.Px