/- Part 32 of 35 of the proof of the law CertBytes: what is proved is the statement at the end of the last part; its conditions are those of the given row. -/
import Derived.Test.YtfhbeonhnhjikaaGreatZCertBytese
namespace Go.Proofs.YtfhbeonhnhjikaaGreat.Px
open Go.RowKit Go.Proofs.YtfhbeonhnhjikaaGreatW.PrintWords Go.Proofs.YtfhbeonhnhjikaaGreatW.PrintLast Go.Proofs.YtfhbeonhnhjikaaGreatW.PrintMore
attribute [local go_sem] zz zB zI zJ zp zq zA zC
set_option linter.unusedVariables false
set_option linter.unusedSimpArgs false
def zcI (o q : Int) (e : Bool) (s : Bs) : Int × Int × List ByteArray × Int :=
 if e = true ∧ o ≤ 64 ∧ q ≤ 1073741824 ∧ (zag s 4 48).2.2 = 0 ∧ (zag s 4 48).2.1 = [] ∧ zc8 o q (zag s 4 48).1 = true then (o,q,(zag s 4 48).1,0) else (0,0,[],3)
theorem zde {o q : Int} {e : Bool} {s : Bs} (h : e = true ∧ o ≤ 64 ∧ q ≤ 1073741824 ∧ (zag s 4 48).2.2 = 0 ∧ (zag s 4 48).2.1 = [] ∧ zc8 o q (zag s 4 48).1 = true) : zcI o q e s = (o,q,(zag s 4 48).1,0) := if_pos h
theorem zbe {o q : Int} {e : Bool} {s : Bs} (h : ¬ (e = true ∧ o ≤ 64 ∧ q ≤ 1073741824 ∧ (zag s 4 48).2.2 = 0 ∧ (zag s 4 48).2.1 = [] ∧ zc8 o q (zag s 4 48).1 = true)) : zcI o q e s = (0,0,[],3) := if_neg h
def zaR (s : Bs) : Int × Int × List ByteArray × Int :=
 zcI (zl s).1 (zl (zl s).2.1).1 (decide ((zl s).2.2 = 0 ∧ (zl (zl s).2.1).2.2 = 0)) (zl (zl s).2.1).2.1
theorem zgZ (s : ByteArray) : s.toList = ([] : List UInt8) ↔ ofB s = [] := by rw [zbJ]
theorem zhK (s : Bs) (o q : Nat) (e b : Bool) (hs : s.length < 4611686018427387904) (ho : o < 18446744073709551616) (hq : q < 18446744073709551616) (hb : b = true ↔ ¬ (e = true ∧ (o : Int) ≤ 64 ∧ (q : Int) ≤ 1073741824)) :
  Ev (fun k => zas.j0 k (toB s) (o : Int) (q : Int) b) (zcI o q e s) := by
 refine Ev.step (fun k => by rw [zas.j0]) ?_
 by_cases h : e = true ∧ (o : Int) ≤ 64 ∧ (q : Int) ≤ 1073741824
 ·obtain ⟨h1,h2,h3⟩ := h
  refine zF (fun hh => hb.1 hh ⟨h1,h2,h3⟩) (zaf (zcM (toB s) 4 48 (by decide) (by decide) (by rw [zP];exact hs) (.inr (by omega))) ?_)
  simp only [zdc,zav]
  rw [z9 (by omega) (by omega),z9 (by omega) (by omega)]
  by_cases h4 : (zag s 4 48).2.2 = 0
  ·refine zn h4 ?_
   by_cases h5 : (zag s 4 48).2.1 = []
   ·refine zn (by rw [zgZ,zav];exact h5) (zaf rfl ?_)
    by_cases h6 : zc8 o q (zag s 4 48).1 = true
    ·rw [zde ⟨h1,h2,h3,h4,h5,h6⟩]
     exact zn h6 (Ev.now _)
    ·rw [zbe (fun hh => h6 hh.2.2.2.2.2)]
     exact zF h6 (Ev.now _)
   ·rw [zbe (fun hh => h5 hh.2.2.2.2.1)]
    exact zF (by rw [zgZ,zav];exact h5) (Ev.now _)
  ·rw [zbe (fun hh => h4 hh.2.2.2.1)]
   exact zF h4 (Ev.now _)
 ·rw [zbe (fun hh => h ⟨hh.1,hh.2.1,hh.2.2.1⟩)]
  exact zn (hb.2 h) (Ev.now _)
theorem zhJ (s : ByteArray) (hs : s.size < 4611686018427387904) : Ev (fun k => zas.f k s) (zaR (ofB s)) := by
 have h1 := za8 (ofB s)
 have h2 := za8 (zl (ofB s)).2.1
 have h3 := zaZ (ofB s)
 have h4 := zaZ (zl (ofB s)).2.1
 rw [zae] at h1
 have t2 := zc0 (zbL s).2.1 (by simp only [zbL,zP];omega)
 refine Ev.bind (zc0 s hs) (Ev.bind t2 ?_)
 simp only [zbL,zav]
 have key := fun b => zhK (zl (zl (ofB s)).2.1).2.1 (zl (ofB s)).1 (zl (zl (ofB s)).2.1).1 (decide ((zl (ofB s)).2.2 = 0 ∧ (zl (zl (ofB s)).2.1).2.2 = 0)) b (by omega) h3 h4
 by_cases e1 : (zl (ofB s)).2.2 = 0
 ·refine zn e1 ?_
  by_cases e2 : (zl (zl (ofB s)).2.1).2.2 = 0
  ·refine zn e2 ?_
   by_cases e3 : ((zl (ofB s)).1 : Int) > 64
   ·exact zn e3 (key true (by simp [e1,e2];omega))
   ·exact zF e3 (key _ (by simp [e1,e2];omega))
  ·exact zF e2 (key true (by simp [e2]))
 ·exact zF e1 (key true (by simp [e1]))
theorem ziD (o q : Int) (l : List ByteArray) (hl : l.length < 4611686018427387904) (d : Nat) : ∀ j,j + d = l.length →
  Ev (fun k => zt.l0 k (j : Int) o q l) (!(l.drop j).any zcW) := by
 induction d with
 | zero =>
  intro j hj
  refine Ev.step (fun k => by rw [zt.l0]) ?_
  refine zF (by omega) (zac (Ev.now _) ?_)
  rw [List.drop_eq_nil_of_le (by omega)];rfl
 | succ d ih =>
  intro j hj
  have hjl : j < l.length := by omega
  refine Ev.step (fun k => by rw [zt.l0]) ?_
  refine zn (by omega) (zn (by omega) ?_)
  rw [zd4 l j hjl,List.drop_eq_getElem_cons hjl,z9 (by omega) (by omega),List.any_cons]
  by_cases h1 : (l[j].size : Int) < 1
  ·refine zn h1 (zac (Ev.now _) ?_)
   have : l[j].size = 0 := by omega
   simp [zcW,this]
  ·refine zF h1 ?_
   by_cases h2 : (l[j].size : Int) > 48
   ·refine zn h2 (zac (Ev.now _) ?_)
    have : 48 < l[j].size := by omega
    simp [zcW,this]
   ·refine zF h2 (zac (ih (j + 1) (by omega)) ?_)
    have e1 : zcW l[j] = false := by
     have : ¬ l[j].size = 0 := by omega
     have h3 : ¬ 48 < l[j].size := by omega
     simp [zcW,this,h3]
    rw [e1,Bool.false_or]
theorem zfs (o q : Int) (l : List ByteArray) (hl : l.length < 4611686018427387904) : Ev (fun k => zt.f k o q l) (zc8 o q l) := by
 have key : ∀ b : Bool,(b = true ↔ ¬ (1 ≤ o ∧ o ≤ 64 ∧ 1 ≤ q ∧ q ≤ 1073741824 ∧ 1 ≤ l.length ∧ l.length ≤ 4)) → Ev (fun k => zt.j0 k b o q l) (zc8 o q l) := by
  intro b hb
  refine Ev.step (fun k => by rw [zt.j0]) ?_
  by_cases h : 1 ≤ o ∧ o ≤ 64 ∧ 1 ≤ q ∧ q ≤ 1073741824 ∧ 1 ≤ l.length ∧ l.length ≤ 4
  ·refine zF (fun hh => hb.1 hh h) (zac (ziD o q l hl l.length 0 (by omega)) ?_)
   obtain ⟨h1,h2,h3,h4,h5,h6⟩ := h
   simp [zc8,h1,h2,h3,h4,h5,h6]
  ·refine zn (hb.2 h) (zac (Ev.now _) ?_)
   symm
   rw [← Bool.not_eq_true,zdP]
   exact fun ⟨h1,h2,h3,h4,h5,h6,_⟩ => h ⟨h1,h2,h3,h4,h5,h6⟩
 by_cases h1 : o < 1
 ·exact zn h1 (key true (by simp;omega))
 refine zF h1 ?_
 by_cases h2 : o > 64
 ·exact zn h2 (key true (by simp;omega))
 refine zF h2 ?_
 by_cases h3 : q < 1
 ·exact zn h3 (key true (by simp;omega))
 refine zF h3 ?_
 by_cases h4 : q > 1073741824
 ·exact zn h4 (key true (by simp;omega))
 refine zF h4 ?_
 by_cases h5 : (l.length : Int) < 1
 ·exact zn h5 (key true (by simp;omega))
 exact zF h5 (key _ (by simp;omega))
theorem zhi {s : Bs} {many most : Int} (h : ¬ (zag s many most).2.2 = 0) : (zag s many most).1.length < 4611686018427387904 := by
 have key : ∀ (n : Nat) (s : Bs) (acc : List ByteArray),(zaS most n s acc).2.2 ≠ 0 → (zaS most n s acc).1 = [] := by
  intro n
  induction n with
  | zero => intro s acc hh;exact absurd rfl hh
  | succ n ih =>
   intro s acc hh
   rw [zaS] at hh ⊢
   split
   ·rename_i h0;rw [if_pos h0] at hh;exact ih _ _ hh
   ·rfl
 unfold zag zbT at h ⊢
 split
 ·rename_i h0
  rw [if_pos h0] at h
  split
  ·simp
  ·rename_i h1
   rw [if_neg h1] at h
   rw [key _ _ _ h];simp
 ·simp
theorem zff (s : Bs) (many most : Int) (hm : many < 4611686018427387904) : (zag s many most).1.length < 4611686018427387904 := by
 by_cases h : (zag s many most).2.2 = 0
 ·rcases hq : zag s many most with ⟨l,r,e⟩
  rw [hq] at h
  simp only at h
  subst h
  obtain ⟨_,h2,_⟩ := zbZ hq
  simp only;omega
 ·exact zhi h
theorem zf6 (s : ByteArray) (hs : s.size < 4611686018427387904) : Ev (fun k => zO.f k s) (zaR (ofB s)) := by
 have h1 := za8 (ofB s)
 have h2 := za8 (zl (ofB s)).2.1
 have h3 := zaZ (ofB s)
 have h4 := zaZ (zl (ofB s)).2.1
 rw [zae] at h1
 have t2 := zby (toB (zl (ofB s)).2.1) (by simp only [zP];omega)
 refine Ev.bind (zby s hs) ?_
 simp only [zbL,zav] at t2 ⊢
 have key1 : ∀ b : Bool,(b = true ↔ ¬ ((zl (zl (ofB s)).2.1).2.2 = 0 ∧ ((zl (zl (ofB s)).2.1).1 : Int) ≤ 1073741824)) → (zl (ofB s)).2.2 = 0 → ((zl (ofB s)).1 : Int) ≤ 64 →
   Ev (fun k => zO.j1 k ((zl (ofB s)).1 : Int) ((zl (zl (ofB s)).2.1).1 : Int) (toB (zl (zl (ofB s)).2.1).2.1) b) (zaR (ofB s)) := by
  intro b hb e1 e0
  refine Ev.step (fun k => by rw [zO.j1]) ?_
  rw [zaR]
  by_cases h : (zl (zl (ofB s)).2.1).2.2 = 0 ∧ ((zl (zl (ofB s)).2.1).1 : Int) ≤ 1073741824
  ·obtain ⟨h5,h6⟩ := h
   refine zF (fun hh => hb.1 hh ⟨h5,h6⟩) (Ev.bind (zdF (toB (zl (zl (ofB s)).2.1).2.1) 4 48 (by decide) (by decide) (by rw [zP];omega) (.inr (by omega))) ?_)
   simp only [zdc,zav]
   rw [z9 (by omega) (by omega),z9 (by omega) (by omega)]
   refine Ev.bind (zfs _ _ _ (zff _ _ _ (by omega))) ?_
   by_cases h7 : (zag (zl (zl (ofB s)).2.1).2.1 4 48).2.2 = 0
   ·refine zn h7 ?_
    by_cases h8 : (zag (zl (zl (ofB s)).2.1).2.1 4 48).2.1 = []
    ·refine zF (by rw [h8,zP];simp) ?_
     by_cases h9 : zc8 (zl (ofB s)).1 (zl (zl (ofB s)).2.1).1 (zag (zl (zl (ofB s)).2.1).2.1 4 48).1 = true
     ·rw [zde ⟨by simp [e1,h5],e0,h6,h7,h8,h9⟩]
      exact zn h9 (Ev.now _)
     ·rw [zbe (fun hh => h9 hh.2.2.2.2.2)]
      exact zF h9 (Ev.now _)
    ·rw [zbe (fun hh => h8 hh.2.2.2.2.1)]
     refine zn ?_ (Ev.now _)
     rw [zP]
     have : (zag (zl (zl (ofB s)).2.1).2.1 4 48).2.1.length ≠ 0 := fun hh => h8 (List.eq_nil_of_length_eq_zero hh)
     omega
   ·rw [zbe (fun hh => h7 hh.2.2.2.1)]
    exact zF h7 (Ev.now _)
  ·rw [zbe (fun hh => h ⟨(of_decide_eq_true hh.1).2,hh.2.2.1⟩)]
   exact zn (hb.2 h) (Ev.now _)
 have key0 : ∀ b : Bool,(b = true ↔ ¬ ((zl (ofB s)).2.2 = 0 ∧ ((zl (ofB s)).1 : Int) ≤ 64)) → Ev (fun k => zO.j0 k ((zl (ofB s)).1 : Int) (toB (zl (ofB s)).2.1) b) (zaR (ofB s)) := by
  intro b hb
  refine Ev.step (fun k => by rw [zO.j0]) ?_
  by_cases h : (zl (ofB s)).2.2 = 0 ∧ ((zl (ofB s)).1 : Int) ≤ 64
  ·obtain ⟨e1,e0⟩ := h
   refine zF (fun hh => hb.1 hh ⟨e1,e0⟩) (Ev.bind t2 ?_)
   by_cases e2 : (zl (zl (ofB s)).2.1).2.2 = 0
   ·exact zn e2 (key1 _ (by simp [e2]) e1 e0)
   ·exact zF e2 (key1 true (by simp [e2]) e1 e0)
  ·rw [zaR,zbe (fun hh => h ⟨(of_decide_eq_true hh.1).1,hh.2.1⟩)]
   exact zn (hb.2 h) (Ev.now _)
 by_cases e1 : (zl (ofB s)).2.2 = 0
 ·exact zn e1 (key0 _ (by simp [e1]))
 ·exact zF e1 (key0 true (by simp [e1]))
theorem zgW (s : Bs) : (zaR s).2.2.1.length < 4611686018427387904 := by
 unfold zaR zcI
 split
 ·exact zff _ _ _ (by omega)
 ·simp
theorem zhg {s : Bs} {o q : Int} {l : List ByteArray} (h : zaR s = (o,q,l,0)) : s = zdn o q l ∧ zc8 o q l = true := by
 unfold zaR zcI at h
 split at h
 ·rename_i hc
  obtain ⟨h1,h2,h3,h4,h5,h6⟩ := hc
  obtain ⟨h7,h8⟩ := of_decide_eq_true h1
  simp only [Prod.mk.injEq,and_true] at h
  obtain ⟨rfl,rfl,rfl⟩ := h
  refine ⟨?_,h6⟩
  rcases hq : zl s with ⟨v,r,e⟩
  rw [hq] at h4 h5 h7 h8
  simp only at h4 h5 h7 h8 ⊢
  subst h7
  obtain ⟨rfl,_⟩ := zbG hq
  rcases hq2 : zl r with ⟨v2,r2,e2⟩
  rw [hq2] at h4 h5 h8
  simp only at h4 h5 h8 ⊢
  subst h8
  obtain ⟨rfl,_⟩ := zbG hq2
  rcases hq3 : zag r2 4 48 with ⟨l,r3,e3⟩
  rw [hq3] at h4 h5
  simp only at h4 h5 ⊢
  subst h4 h5
  obtain ⟨h9,_⟩ := zbZ hq3
  rw [List.append_nil] at h9
  rw [zdn,← h9,Int.toNat_natCast,Int.toNat_natCast,List.append_assoc]
 ·simp at h
theorem zfA {o q : Int} {l : List ByteArray} (h : zc8 o q l = true) : zaR (zdn o q l) = (o,q,l,0) := by
 obtain ⟨h1,h2,h3,h4,h5,h6,h7⟩ := (zdP o q l).1 h
 obtain ⟨a,rfl⟩ := Int.eq_ofNat_of_zero_le (show 0 ≤ o by omega)
 obtain ⟨b,rfl⟩ := Int.eq_ofNat_of_zero_le (show 0 ≤ q by omega)
 have e1 : zl (zdn a b l) = (a,zbD b ++ zbI l,0) := by
  rw [zdn,Int.toNat_natCast,Int.toNat_natCast,List.append_assoc]
  exact zbQ (by omega) _
 have e2 : zl (zbD b ++ zbI l) = (b,zbI l,0) := zbQ (by omega) _
 have e3 : zag (zbI l) 4 48 = (l,[],0) := by
  have := zcR (l := l) (many := 4) (most := 48) (by omega) (by omega) (fun t ht => by have := h7 t ht;omega) []
  rwa [List.append_nil] at this
 rw [zaR,e1]
 simp only
 rw [e2]
 simp only
 rw [zde (by rw [e3];exact ⟨by simp,h2,h4,rfl,rfl,h⟩),e3]
theorem zfd (n : Int) : zax.f n = some (zem n) := by
 unfold zax.f zem
 by_cases h4 : n = 4
 ·subst h4;rfl
 ·rw [if_neg h4]
  by_cases h : n > 4
  ·rw [if_pos h]
   by_cases h1 : n ≤ 64
   ·rw [if_pos h1,z9 (by omega) (by omega),Int.tmod_eq_emod_of_nonneg (by omega)]
    by_cases h2 : n % 3 = 1
    ·have : (n - 1) % 3 = 0 := by omega
     simp [h1,h2,this];omega
    ·have : ¬ (n - 1) % 3 = 0 := by omega
     simp [h2,this]
   ·rw [if_neg h1];simp [h1]
  ·rw [if_neg h]
   have : ¬ 4 ≤ n := by omega
   simp [this]
theorem zd9 (n : Int) : zY.f n = some (zbX n) := by
 unfold zY.f zbX
 rw [zfd]
 simp only [Option.bind_some]
 by_cases h : zem n = true
 ·rw [if_pos h,if_pos h]
  obtain ⟨h1,h2,h3⟩ := (zcu n).1 h
  rw [z9 (x := n - 1) (by omega) (by omega),Int.tdiv_eq_ediv_of_nonneg (by omega),z9 (x := (n - 1) / 3) (by omega) (by omega),z9 (by omega) (by omega)]
 ·rw [if_neg h,if_neg h]
theorem zh1 (a b : Int) : zaw.f a b = some (zf2 a b) := by
 unfold zaw.f zf2
 by_cases h1 : 0 ≤ a <;> by_cases h2 : a < 10007 <;> by_cases h3 : 0 ≤ b <;> simp [h1,h2,h3]
theorem zgI (r : Int) : zai.f r = some (zdI r) := by
 unfold zai.f zdI
 by_cases h : r > 0
 ·rw [if_pos h,Int.tmod_eq_emod_of_nonneg (by omega)]
  by_cases h2 : r % 3 = 0
  ·have : 3 ≤ r := by omega
   simp [h2,this]
  ·simp [h2]
 ·rw [if_neg h]
  have : ¬ 3 ≤ r := by omega
  simp [this]
def zfx (r x y : Int) : Bool := zf2 x y && (zdI r || (decide (x = 0) && decide (y = 0)))
theorem refVMay_l1 (a r : Int) (bs : List S73) (ps : List ByteArray) (x y : Int) (hl : ps.length < 4611686018427387904) (hp : ∀ t ∈ ps,t.size < 4611686018427387904) (d : Nat) : ∀ j,j + d = ps.length →
  Ev (fun k => zg.l1 k (j : Int) a r bs ps x y) (zbH ps d j && zfx r x y) := by
 induction d with
 | zero =>
  intro j hj
  refine Ev.step (fun k => by rw [zg.l1]) ?_
  refine zF (by omega) (zaf (zh1 x y) (zaf (zgI r) ?_))
  unfold zfx
  by_cases h1 : zf2 x y = true
  ·refine zn h1 ?_
   by_cases h2 : zdI r = true
   ·exact zn h2 (zac (Ev.now _) (by simp [zbH,h1,h2]))
   ·refine zF h2 ?_
    by_cases h3 : x = 0
    ·refine zn h3 (zac (Ev.now _) ?_)
     rw [Bool.not_eq_true] at h2
     subst h3
     by_cases h4 : y = 0
     ·subst h4;simp [zbH,h1,h2]
     ·simp [zbH,h1,h2,h4]
    ·rw [Bool.not_eq_true] at h2
     exact zF h3 (zac (Ev.now _) (by simp [zbH,h2,h3]))
  ·rw [Bool.not_eq_true] at h1
   exact zF (by rw [h1];simp) (zac (Ev.now _) (by simp [zbH,h1]))
 | succ d ih =>
  intro j hj
  have hj' : j < ps.length := by omega
  refine Ev.step (fun k => by rw [zg.l1]) ?_
  refine zn (by omega) (zn (by omega) ?_)
  have e1 : zG ByteArray.empty ps (j : Int) = ps.getD j ByteArray.empty := by rw [zG,Int.toNat_natCast]
  rw [e1]
  by_cases h : (ps.getD j ByteArray.empty).size = 32
  ·refine zn (by omega) ?_
   rw [z9 (x := (j : Int) + 1) (by omega) (by omega)]
   by_cases h0 : j = 0
   ·subst h0
    refine zF (by omega) (zac (ih 1 (by omega)) ?_)
    simp only [zbH,zhj,h];simp
   ·refine zn (by omega) ?_
    have e2 : wrap64 ((j : Int) - 1) = ((j - 1 : Nat) : Int) := by rw [z9 (by omega) (by omega)];omega
    rw [e2]
    refine zn (by omega) (zn (by omega) ?_)
    have e3 : zG ByteArray.empty ps ((j - 1 : Nat) : Int) = ps.getD (j - 1) ByteArray.empty := by rw [zG,Int.toNat_natCast]
    rw [e3]
    have hsz : (ps.getD (j - 1) ByteArray.empty).size < 4611686018427387904 := by
     rw [List.getD_eq_getElem?_getD,List.getElem?_eq_getElem (show j - 1 < ps.length by omega)]
     exact hp _ (List.getElem_mem _)
    refine Ev.bind (less_ev _ _ hsz) ?_
    by_cases h2 : zel (ofB (ps.getD (j - 1) ByteArray.empty)) (ofB (ps.getD j ByteArray.empty)) = true
    ·refine zn h2 (zac (ih (j + 1) (by omega)) ?_)
     simp only [zbH,zhj,h,h2];simp
    ·refine zF h2 (zac (Ev.now _) ?_)
     rw [Bool.not_eq_true] at h2
     simp only [zbH,zhj,h,h0,h2];simp
  ·refine zF (by omega) (zac (Ev.now _) ?_)
   simp only [zbH,zhj,h];simp
def zgl (r : Int) (ps : List ByteArray) (x y n : Int) : Bool :=
 !(decide (r = 1) && decide (0 < ps.length)) && !(decide (1 < r) && (decide ((ps.length : Int) < zbX n) || decide (n < ps.length))) && (zbH ps ps.length 0 && zfx r x y)
theorem refVMay_l0 (a r : Int) (bs : List S73) (ps : List ByteArray) (x y n : Int) (hb : bs.length < 4611686018427387904) (hbs : ∀ b ∈ bs,b.f2.length < 4611686018427387904) (hl : ps.length < 4611686018427387904) (hp : ∀ t ∈ ps,t.size < 4611686018427387904) (d : Nat) : ∀ j,j + d = bs.length →
  Ev (fun k => zg.l0 k n (j : Int) a r bs ps x y) (!(bs.drop j).any (zdw n) && zgl r ps x y n) := by
 induction d with
 | zero =>
  intro j hj
  refine Ev.step (fun k => by rw [zg.l0]) ?_
  rw [List.drop_eq_nil_of_le (by omega)]
  refine zF (by omega) ?_
  have J3 : ∀ b : Bool,Ev (fun k => zg.j3 k b a r bs ps x y) (!b && (zbH ps ps.length 0 && zfx r x y)) := by
   intro b
   refine Ev.step (fun k => by rw [zg.j3]) ?_
   rcases b with _ | _
   ·exact zF (by simp) (zac (refVMay_l1 a r bs ps x y hl hp ps.length 0 (by omega)) (by simp))
   ·exact zn rfl (zac (Ev.now _) (by simp))
  have J2 : ∀ b : Bool,Ev (fun k => zg.j2 k n b a r bs ps x y) (!b && (!(decide (1 < r) && (decide ((ps.length : Int) < zbX n) || decide (n < ps.length))) && (zbH ps ps.length 0 && zfx r x y))) := by
   intro b
   refine Ev.step (fun k => by rw [zg.j2]) ?_
   rcases b with _ | _
   ·refine zF (by simp) ?_
    by_cases h : r > 1
    ·have h' : 1 < r := h
     refine zn h (zaf (zd9 n) ?_)
     by_cases h2 : (ps.length : Int) < zbX n
     ·exact zn h2 (zac (J3 true) (by simp [h',h2]))
     ·exact zF h2 (zac (J3 _) (by simp [h',h2]))
    ·have h' : ¬ 1 < r := h
     exact zF h (zac (J3 false) (by simp [h']))
   ·exact zn rfl (zac (Ev.now _) (by simp))
  unfold zgl
  by_cases h : r = 1
  ·refine zn h (zac (J2 _) ?_)
   subst h
   by_cases h0 : 0 < ps.length
   ·have : decide ((ps.length : Int) > 0) = true := decide_eq_true (by omega)
    simp [this,h0]
   ·have : decide ((ps.length : Int) > 0) = false := decide_eq_false (by omega)
    simp [this,h0]
  ·exact zF h (zac (J2 false) (by simp [h]))
 | succ d ih =>
  intro j hj
  have hj' : j < bs.length := by omega
  refine Ev.step (fun k => by rw [zg.l0]) ?_
  refine zn (by omega) (zn (by omega) ?_)
  rw [zdA bs j hj',z9 (by omega) (by omega),List.drop_eq_getElem_cons hj',List.any_cons]
  refine Ev.bind (zfs _ _ _ (hbs _ (List.getElem_mem hj'))) ?_
  by_cases h : zc8 bs[j].f0 bs[j].f1 bs[j].f2 = true
  ·refine zn h ?_
   by_cases h2 : bs[j].f0 > n
   ·have h3 : n < bs[j].f0 := h2
    exact zn h2 (zac (Ev.now _) (by simp [zdw,h3]))
   ·have h3 : ¬ n < bs[j].f0 := h2
    refine zF h2 (zac (ih (j + 1) (by omega)) ?_)
    have : zdw n bs[j] = false := by simp [zdw,h,h3]
    rw [this,Bool.false_or]
  ·refine zF h (zac (Ev.now _) ?_)
   rw [Bool.not_eq_true] at h
   simp [zdw,h]
theorem mayV_ref (a r : Int) (bs : List S73) (ps : List ByteArray) (x y n : Int) (h0 : zem n = true) (h1 : 1 ≤ a) (h2 : a ≤ n) (h3 : 1 ≤ r) (h4 : r ≤ 1048576) (h5 : bs.length ≤ 4) :
  zbr a r bs ps x y n = (!bs.any (zdw n) && zgl r ps x y n) := by
 unfold zbr zgl zcw zfx
 simp only [h0,h1,h2,h3,h4,h5]
 by_cases e : r = 1
 ·subst e
  rcases ps with _ | ⟨p,ps⟩
  ·simp [zbH,Bool.and_assoc]
  ·simp
 ·have h6 : 1 < r := by omega
  simp only [if_neg e,e,h6]
  have q1 : decide ((ps.length : Int) < zbX n) = !decide (zbX n ≤ (ps.length : Int)) := by
   by_cases q : zbX n ≤ (ps.length : Int) <;> simp [q] <;> omega
  have q2 : decide (n < (ps.length : Int)) = !decide ((ps.length : Int) ≤ n) := by
   by_cases q : (ps.length : Int) ≤ n <;> simp [q] <;> omega
  rw [q1,q2]
  cases bs.any (zdw n) <;> cases zf2 x y <;> cases zdI r <;> cases zbH ps ps.length 0 <;> cases decide (zbX n ≤ (ps.length : Int)) <;> cases decide ((ps.length : Int) ≤ n) <;> simp
theorem ze1 (a r : Int) (bs : List S73) (ps : List ByteArray) (x y n : Int) (hb : bs.length < 4611686018427387904) (hbs : ∀ b ∈ bs,b.f2.length < 4611686018427387904) (hl : ps.length < 4611686018427387904) (hp : ∀ t ∈ ps,t.size < 4611686018427387904) :
  Ev (fun k => zg.f k a r bs ps x y n) (zbr a r bs ps x y n) := by
 have key : ∀ b : Bool,(b = true ↔ ¬ (zem n = true ∧ 1 ≤ a ∧ a ≤ n ∧ 1 ≤ r ∧ r ≤ 1048576 ∧ bs.length ≤ 4)) → Ev (fun k => zg.j0 k n b a r bs ps x y) (zbr a r bs ps x y n) := by
  intro b hb'
  refine Ev.step (fun k => by rw [zg.j0]) ?_
  by_cases h : zem n = true ∧ 1 ≤ a ∧ a ≤ n ∧ 1 ≤ r ∧ r ≤ 1048576 ∧ bs.length ≤ 4
  ·refine zF (fun hh => hb'.1 hh h) (zac (refVMay_l0 a r bs ps x y n hb hbs hl hp bs.length 0 (by omega)) ?_)
   obtain ⟨h0,h1,h2,h3,h4,h5⟩ := h
   rw [mayV_ref a r bs ps x y n h0 h1 h2 h3 h4 h5,List.drop_zero]
  ·refine zn (hb'.2 h) (zac (Ev.now _) ?_)
   symm
   rw [← Bool.not_eq_true,zcv]
   exact fun ⟨h0,h1,h2,h3,h4,h5,_⟩ => h ⟨h0,h1,h2,h3,h4,h5⟩
 refine zaf (zfd n) ?_
 by_cases h0 : zem n = true
 ·refine zn h0 ?_
  by_cases h1 : a < 1
  ·exact zn h1 (key true (by simp;omega))
  refine zF h1 ?_
  by_cases h2 : a > n
  ·exact zn h2 (key true (by simp;omega))
  refine zF h2 ?_
  by_cases h3 : r < 1
  ·exact zn h3 (key true (by simp;omega))
  refine zF h3 ?_
  by_cases h4 : r > 1048576
  ·exact zn h4 (key true (by simp;omega))
  exact zF h4 (key _ (by simp [h0];omega))
 ·exact zF h0 (key true (by simp [h0]))
abbrev VT := Int × Int × List S73 × List ByteArray × Int × Int × Int
def zeh : VT := (0,0,[],[],0,0,3)
def zbp : List ByteArray → Option (List S73)
 | [] => some []
 | t :: l => if (zaR (ofB t)).2.2.2 = 0 then (zbp l).map (fun bs => ⟨(zaR (ofB t)).1,(zaR (ofB t)).2.1,(zaR (ofB t)).2.2.1⟩ :: bs) else none
def ze7 (a r : Int) (ps : List ByteArray) (x y n : Int) : Option (List S73) → VT
 | none => zeh
 | some bs => if zbr a r bs ps x y n = true then (a,r,bs,ps,x,y,0) else zeh
theorem zei : ∀ {l : List ByteArray} {bs : List S73},zbp l = some bs → l = bs.map bB ∧ ∀ b ∈ bs,zc8 b.f0 b.f1 b.f2 = true
 | [],bs,h => by
  have : bs = [] := (Option.some.inj h).symm
  subst this;exact ⟨rfl,fun b hb => absurd hb (by simp)⟩
 | t :: l,bs,h => by
  rw [zbp] at h
  split at h
  ·rename_i h0
   obtain ⟨cs,hc,rfl⟩ := Option.map_eq_some_iff.1 h
   obtain ⟨h1,h2⟩ := zei hc
   rcases hq : zaR (ofB t) with ⟨o,q,l',e⟩
   rw [hq] at h0
   simp only at h0
   subst h0
   obtain ⟨h3,h4⟩ := zhg hq
   refine ⟨?_,?_⟩
   ·rw [List.map_cons,← h1,bB]
    simp only
    rw [if_pos h4,← h3,zcz]
   ·intro b hb
    rcases List.mem_cons.1 hb with rfl | hb
    ·exact h4
    ·exact h2 b hb
  ·cases h
theorem zdX : ∀ {bs : List S73},(∀ b ∈ bs,zc8 b.f0 b.f1 b.f2 = true) → zbp (bs.map bB) = some bs
 | [],_ => rfl
 | b :: bs,h => by
  have hb := h b List.mem_cons_self
  have e : zaR (ofB (bB b)) = (b.f0,b.f1,b.f2,0) := by rw [bB,if_pos hb,zav];exact zfA hb
  rw [List.map_cons,zbp,e,if_pos rfl,zdX (fun c hc => h c (List.mem_cons_of_mem _ hc))]
  rfl
theorem zc6 (s : Bs) (many most : Int) : (zag s many most).2.1.length ≤ s.length := by
 have key : ∀ (n : Nat) (s : Bs) (acc : List ByteArray),(zaS most n s acc).2.1.length ≤ s.length := by
  intro n
  induction n with
  | zero => intro s acc;exact Nat.le_refl _
  | succ n ih =>
   intro s acc
   rw [zaS]
   split
   ·rename_i h0
    have := zdf h0
    exact Nat.le_trans (ih _ _) (by omega)
   ·exact Nat.zero_le _
 have h := za8 s
 unfold zag zbT
 split
 ·split
  ·exact Nat.zero_le _
  ·exact Nat.le_trans (key _ _ _) h
 ·exact Nat.zero_le _
theorem zg8 (s : Bs) : (zak s).2.2.1.length ≤ s.length := by
 unfold zak
 rcases h : zb3 s with _ | ⟨a,s1⟩
 ·exact Nat.zero_le _
 ·simp only
  have h1 := ze6 h
  rcases h' : zb3 s1 with _ | ⟨b,s2⟩
  ·exact Nat.zero_le _
  ·have h2 := ze6 h'
   simp only;omega
def vA (s : Bs) : List ByteArray × Bs × Int := zag (zak s).2.2.1 4 65536
def vB (s : Bs) : List ByteArray × Bs × Int := zag (vA s).2.1 64 32
def vC (s : Bs) : Int × Int × Bs × Bool := zak (vB s).2.1
def okV (s : Bs) : Prop := (zak s).2.2.2 = true ∧ (vA s).2.2 = 0 ∧ (vB s).2.2 = 0 ∧ (vC s).2.2.2 = true ∧ (vC s).2.2.1 = []
instance decOkV (s : Bs) : Decidable (okV s) := by unfold okV;infer_instance
def zec (s : Bs) (n : Int) : VT := if okV s then ze7 (zak s).1 (zak s).2.1 (vB s).1 (vC s).1 (vC s).2.1 n (zbp (vA s).1) else zeh
theorem zfD {s : Bs} {n : Int} (h : okV s) : zec s n = ze7 (zak s).1 (zak s).2.1 (vB s).1 (vC s).1 (vC s).2.1 n (zbp (vA s).1) := if_pos h
theorem zhC {s : Bs} {n : Int} (h : ¬ okV s) : zec s n = zeh := if_neg h
theorem vA_small {s : Bs} (h : (vA s).2.2 = 0) : (vA s).1.length ≤ 4 ∧ ∀ t ∈ (vA s).1,t.size < 4611686018427387904 := by
 rcases hq : vA s with ⟨l,r,e⟩
 rw [hq] at h
 simp only at h ⊢
 subst h
 obtain ⟨_,h2,_,h4⟩ := zbZ hq
 exact ⟨by omega,fun t ht => by have := (h4 t ht).1;omega⟩
theorem zgc (n : Int) (l : List ByteArray) (a r : Int) (ps : List ByteArray) (x y : Int) (hl : l.length ≤ 4) (hs : ∀ t ∈ l,t.size < 4611686018427387904) (d : Nat) : ∀ (j : Nat) (acc : List S73),j + d = l.length → acc.length = j →
  Ev (fun k => zH.l0 k n l (l.length : Int) (j : Int) a r acc ps x y) (ze7 a r ps x y n ((zbp (l.drop j)).map (acc ++ ·))) := by
 induction d with
 | zero =>
  intro j acc hj ha
  refine Ev.step (fun k => by rw [zH.l0]) ?_
  rw [List.drop_eq_nil_of_le (by omega)]
  refine zF (by omega) (zaf (show zao.f a r acc ps x y n = some (zbr a r acc ps x y n) from rfl) ?_)
  show Ev _ (ze7 a r ps x y n (some (acc ++ [])))
  rw [List.append_nil,ze7]
  by_cases h : zbr a r acc ps x y n = true
  ·exact zac (zn h (Ev.now _)) (by rw [if_pos h])
  ·exact zac (zF h (Ev.now _)) (by rw [if_neg h];rfl)
 | succ d ih =>
  intro j acc hj ha
  have hj' : j < l.length := by omega
  refine Ev.step (fun k => by rw [zH.l0]) ?_
  refine zn (by omega) (zn (by omega) (zn (by omega) ?_))
  rw [zd4 l j hj',List.drop_eq_getElem_cons hj']
  refine Ev.bind (zhJ _ (hs _ (List.getElem_mem hj'))) ?_
  rw [zbp]
  by_cases h : (zaR (ofB l[j])).2.2.2 = 0
  ·rw [if_pos h]
   refine zn h (zn (by omega) ?_)
   rw [z9 (by omega) (by omega)]
   refine zac (ih (j + 1) _ (by omega) (by rw [List.length_append,ha];rfl)) ?_
   congr 1
   rcases zbp (l.drop (j + 1)) with _ | bs
   ·rfl
   ·simp
  ·rw [if_neg h]
   exact zF h (Ev.now _)
theorem zdE (s : ByteArray) (hs : s.size < 4611686018427387904) : z8.f s = some ((zak (ofB s)).1,(zak (ofB s)).2.1,toB (zak (ofB s)).2.2.1,(zak (ofB s)).2.2.2) := if_pos hs
theorem zhl (s : ByteArray) (n : Int) (hs : s.size < 4611686018427387904) : Ev (fun k => zH.f k s n) (zec (ofB s) n) := by
 have l0 : (ofB s).length < 4611686018427387904 := by rw [zae];exact hs
 have l1 := zg8 (ofB s)
 have l2 : (vA (ofB s)).2.1.length ≤ _ := zc6 (zak (ofB s)).2.2.1 4 65536
 have l3 : (vB (ofB s)).2.1.length ≤ _ := zc6 (vA (ofB s)).2.1 64 32
 refine zaf (zdE s hs) ?_
 simp only
 refine zaf (zcM _ 4 65536 (by decide) (by decide) (by rw [zP];omega) (.inr (by omega))) ?_
 simp only [zdc,zav]
 refine zaf (zcM _ 64 32 (by decide) (by decide) (by rw [zP];exact Nat.lt_of_le_of_lt (Nat.le_trans l2 l1) l0) (.inr (by omega))) ?_
 simp only [zdc,zav]
 refine zaf (zdE _ (by rw [zP];exact Nat.lt_of_le_of_lt (Nat.le_trans l3 (Nat.le_trans l2 l1)) l0)) ?_
 simp only [zav]
 have key : ∀ b : Bool,(b = true ↔ ¬ okV (ofB s)) → Ev (fun k => zH.j0 k n (vA (ofB s)).1 (vB (ofB s)).1 b (zak (ofB s)).1 (zak (ofB s)).2.1 (vC (ofB s)).1 (vC (ofB s)).2.1) (zec (ofB s) n) := by
  intro b hb
  refine Ev.step (fun k => by rw [zH.j0]) ?_
  by_cases h : okV (ofB s)
  ·rw [zfD h]
   obtain ⟨h1,h2⟩ := vA_small h.2.1
   refine zF (fun hh => hb.1 hh h) (zac (zgc n (vA (ofB s)).1 _ _ _ _ _ h1 h2 (vA (ofB s)).1.length 0 [] (by omega) rfl) ?_)
   rw [List.drop_zero]
   rcases zbp (vA (ofB s)).1 with _ | bs <;> rfl
  ·rw [zhC h]
   exact zn (hb.2 h) (Ev.now _)
 show Ev (fun k => if (zak (ofB s)).2.2.2 = true then (if (vA (ofB s)).2.2 = 0 then (if (vB (ofB s)).2.2 = 0 then (if (vC (ofB s)).2.2.2 = true then zH.j0 k n (vA (ofB s)).1 (vB (ofB s)).1 ((toB (vC (ofB s)).2.2.1).toList != ([] : List UInt8)) (zak (ofB s)).1 (zak (ofB s)).2.1 (vC (ofB s)).1 (vC (ofB s)).2.1 else _) else _) else _) else _) _
 by_cases h1 : (zak (ofB s)).2.2.2 = true
 ·refine zn h1 ?_
  by_cases h2 : (vA (ofB s)).2.2 = 0
  ·refine zn h2 ?_
   by_cases h3 : (vB (ofB s)).2.2 = 0
   ·refine zn h3 ?_
    by_cases h4 : (vC (ofB s)).2.2.2 = true
    ·refine zn h4 (key _ ?_)
     rw [zbJ,zav,bne_iff_ne]
     exact ⟨fun hh hv => hh hv.2.2.2.2,fun hh hv => hh ⟨h1,h2,h3,h4,hv⟩⟩
    ·exact zF h4 (key true ⟨fun _ hv => h4 hv.2.2.2.1,fun _ => rfl⟩)
   ·exact zF h3 (key true ⟨fun _ hv => h3 hv.2.2.1,fun _ => rfl⟩)
  ·exact zF h2 (key true ⟨fun _ hv => h2 hv.2.1,fun _ => rfl⟩)
 ·exact zF h1 (key true ⟨fun _ hv => h1 hv.1,fun _ => rfl⟩)
theorem zfK {s : Bs} (h : (zak s).2.2.2 = true) : ∃ a b : Nat,(zak s).1 = a ∧ (zak s).2.1 = b ∧ a ≤ 1048576 ∧ b ≤ 1048576 ∧ s = zbD a ++ (zbD b ++ (zak s).2.2.1) := by
 unfold zak at h ⊢
 rcases h1 : zb3 s with _ | ⟨a,s1⟩
 ·rw [h1] at h;cases h
 ·rw [h1] at h
  simp only at h ⊢
  rcases h2 : zb3 s1 with _ | ⟨b,s2⟩
  ·rw [h2] at h;cases h
  ·obtain ⟨e1,k1⟩ := zfy h1
   obtain ⟨e2,k2⟩ := zfy h2
   exact ⟨a,b,rfl,rfl,k1,k2,by rw [e1,e2]⟩
theorem zfb {a b : Nat} (ha : a ≤ 1048576) (hb : b ≤ 1048576) (r : Bs) : zak (zbD a ++ (zbD b ++ r)) = ((a : Int),(b : Int),r,true) := by
 rw [zak,zgV ha]
 simp only
 rw [zgV hb]
theorem ziq (a r : Int) (ps : List ByteArray) (x y n : Int) (o : Option (List S73)) : ze7 a r ps x y n o = zeh ∨ ∃ bs,o = some bs ∧ zbr a r bs ps x y n = true ∧ ze7 a r ps x y n o = (a,r,bs,ps,x,y,0) := by
 rcases o with _ | bs
 ·exact .inl rfl
 ·by_cases h : zbr a r bs ps x y n = true
  ·exact .inr ⟨bs,rfl,h,if_pos h⟩
  ·exact .inl (if_neg h)
theorem zgY (s : Bs) (n : Int) : zec s n = zeh ∨ ∃ a r bs ps x y,zec s n = (a,r,bs,ps,x,y,0) ∧ zbr a r bs ps x y n = true ∧ s = zaE a r bs ps x y := by
 by_cases h : okV s
 ·rw [zfD h]
  rcases ziq (zak s).1 (zak s).2.1 (vB s).1 (vC s).1 (vC s).2.1 n (zbp (vA s).1) with h0 | ⟨bs,h1,h2,h3⟩
  ·exact .inl h0
  ·refine .inr ⟨_,_,_,_,_,_,h3,h2,?_⟩
   obtain ⟨k1,k2,k3,k4,k5⟩ := h
   obtain ⟨a,b,e1,e2,_,_,e3⟩ := zfK k1
   obtain ⟨c,d,e4,e5,_,_,e6⟩ := zfK k4
   obtain ⟨e7,_⟩ := zei h1
   have r1 : (zak s).2.2.1 = zbI (vA s).1 ++ (vA s).2.1 := (zbZ (many := 4) (most := 65536) (show zag (zak s).2.2.1 4 65536 = ((vA s).1,(vA s).2.1,0) by rw [← k2];rfl)).1
   have r2 : (vA s).2.1 = zbI (vB s).1 ++ (vB s).2.1 := (zbZ (many := 64) (most := 32) (show zag (vA s).2.1 64 32 = ((vB s).1,(vB s).2.1,0) by rw [← k3];rfl)).1
   have e6' : (vB s).2.1 = zbD c ++ (zbD d ++ (vC s).2.2.1) := e6
   have e4' : (vC s).1 = c := e4
   have e5' : (vC s).2.1 = d := e5
   rw [k5,List.append_nil] at e6'
   rw [zaE,e1,e2,e4',e5',Int.toNat_natCast,Int.toNat_natCast,Int.toNat_natCast,Int.toNat_natCast,← e7]
   rw [e6'] at r2
   rw [r2] at r1
   rw [r1] at e3
   simp only [List.append_assoc]
   exact e3
 ·exact .inl (zhC h)
theorem zie {a r : Int} {bs : List S73} {ps : List ByteArray} {x y n : Int} (h : zbr a r bs ps x y n = true) : zec (zaE a r bs ps x y) n = (a,r,bs,ps,x,y,0) := by
 obtain ⟨h0,h1,h2,h3,h4,h5,h6,h7,h8,h9⟩ := (zcv ..).1 h
 obtain ⟨k1,k2,k3⟩ := (zcu n).1 h0
 obtain ⟨x1,x2,y1,y2⟩ := (zdp x y).1 h7
 have hp := zbE h0 h9
 obtain ⟨a',rfl⟩ := Int.eq_ofNat_of_zero_le (show 0 ≤ a by omega)
 obtain ⟨r',rfl⟩ := Int.eq_ofNat_of_zero_le (show 0 ≤ r by omega)
 obtain ⟨x',rfl⟩ := Int.eq_ofNat_of_zero_le x1
 obtain ⟨y',rfl⟩ := Int.eq_ofNat_of_zero_le y1
 have e1 : zak (zaE a' r' bs ps x' y') = ((a' : Int),(r' : Int),zbI (bs.map bB) ++ (zbI ps ++ (zbD x' ++ zbD y')),true) := by
  rw [zaE,Int.toNat_natCast,Int.toNat_natCast,Int.toNat_natCast,Int.toNat_natCast]
  simp only [List.append_assoc]
  exact zfb (by omega) (by omega) _
 have e2 : vA (zaE a' r' bs ps x' y') = (bs.map bB,zbI ps ++ (zbD x' ++ zbD y'),0) := by
  rw [vA,e1]
  exact zcR (by rw [List.length_map];omega) (by rw [List.length_map];omega) (fun t ht => by
   obtain ⟨b,_,rfl⟩ := List.mem_map.1 ht
   have := zgf b;omega) _
 have e3 : vB (zaE a' r' bs ps x' y') = (ps,zbD x' ++ zbD y',0) := by
  rw [vB,e2]
  exact zcR (by have := hp.1;omega) (by have := hp.1;omega) (fun t ht => by have := hp.2 t ht;omega) _
 have e4 : vC (zaE a' r' bs ps x' y') = ((x' : Int),(y' : Int),[],true) := by
  rw [vC,e3]
  have := zfb (a := x') (b := y') (by omega) (by omega) []
  rwa [List.append_nil] at this
 have hv : okV (zaE a' r' bs ps x' y') := by
  unfold okV
  rw [e1,e2,e3,e4]
  exact ⟨rfl,rfl,rfl,rfl,rfl⟩
 rw [zfD hv,e1,e2,e3,e4,zdX (fun b hb => (zhG h6 b hb).1),ze7,if_pos h]
end Go.Proofs.YtfhbeonhnhjikaaGreat.Px