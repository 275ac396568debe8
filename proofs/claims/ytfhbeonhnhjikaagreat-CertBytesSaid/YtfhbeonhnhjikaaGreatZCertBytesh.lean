/- Part 34 of 35 of the proof of the law CertBytes: what is proved is the statement at the end of the last part; its conditions are those of the given row. -/
import Derived.Test.YtfhbeonhnhjikaaGreatZCertBytesg
namespace Go.Proofs.YtfhbeonhnhjikaaGreat.Px
open Go.RowKit Go.Proofs.YtfhbeonhnhjikaaGreatW.PrintWords Go.Proofs.YtfhbeonhnhjikaaGreatW.PrintLast Go.Proofs.YtfhbeonhnhjikaaGreatW.PrintMore
attribute [local go_sem] zz zB zI zJ zp zq zA zC
set_option linter.unusedVariables false
set_option linter.unusedSimpArgs false
abbrev PT := Int × Int × List S73 × List ByteArray × Int × Int × Int × Int
def zg4 : PT := (0,0,[],[],0,0,0,3)
def pA (s : Bs) : Bs × Bs × Int := zaH s 65536
def pB (s : Bs) : Nat × Bs × Int := zl (pA s).2.1
def pV (s : Bs) (n : Int) : VT := zec (pA s).1 n
def pFit (s : Bs) (n : Int) : Int := zcV (pV s n).1 (pV s n).2.1 (pV s n).2.2.1 (pV s n).2.2.2.1 (pV s n).2.2.2.2.1 (pV s n).2.2.2.2.2.1 (pB s).1 n
def okP (s : Bs) (n : Int) : Prop := (pA s).2.2 = 0 ∧ (pB s).2.2 = 0 ∧ (pV s n).2.2.2.2.2.2 = 0 ∧ (pB s).2.1 = [] ∧ pFit s n = 0
instance decOkP (s : Bs) (n : Int) : Decidable (okP s n) := by unfold okP;infer_instance
def zeP (s : Bs) (n : Int) : PT := if okP s n then ((pV s n).1,(pV s n).2.1,(pV s n).2.2.1,(pV s n).2.2.2.1,(pV s n).2.2.2.2.1,(pV s n).2.2.2.2.2.1,((pB s).1 : Int),0) else zg4
theorem zfC {s : Bs} {n : Int} (h : okP s n) : zeP s n = ((pV s n).1,(pV s n).2.1,(pV s n).2.2.1,(pV s n).2.2.2.1,(pV s n).2.2.2.2.1,(pV s n).2.2.2.2.2.1,((pB s).1 : Int),0) := if_pos h
theorem zfB {s : Bs} {n : Int} (h : ¬ okP s n) : zeP s n = zg4 := if_neg h
theorem zev (s : Bs) (most : Int) : (zaH s most).1.length ≤ s.length ∧ (zaH s most).2.1.length ≤ s.length := by
 have hl := za8 s
 unfold zaH zcE
 split
 ·unfold zbj
  split
  ·exact ⟨Nat.zero_le _,Nat.zero_le _⟩
  ·split
   ·exact ⟨Nat.zero_le _,Nat.zero_le _⟩
   ·simp only [List.length_take,List.length_drop];omega
 ·exact ⟨Nat.zero_le _,Nat.zero_le _⟩
theorem zim (s : ByteArray) (n : Int) (hs : s.size < 4611686018427387904) : Ev (fun k => zdN.f k s n) (zeP (ofB s) n) := by
 have l0 : (ofB s).length < 4611686018427387904 := by rw [zae];exact hs
 obtain ⟨l1,l2⟩ := zev (ofB s) 65536
 have t1 := zfU s 65536 hs (by decide)
 have t2 := zc0 (toB (pA (ofB s)).2.1) (by rw [zP];exact Nat.lt_of_le_of_lt l2 l0)
 have t3 := zhl (toB (pA (ofB s)).1) n (by rw [zP];exact Nat.lt_of_le_of_lt l1 l0)
 simp only [zbL,zav] at t2 t3
 refine Ev.bind t1 (Ev.bind t2 (Ev.bind t3 ?_))
 have bad : ¬ okP (ofB s) n → zeP (ofB s) n = zg4 := zfB
 show Ev (fun k => if (pA (ofB s)).2.2 = 0 then (if (pB (ofB s)).2.2 = 0 then (if (pV (ofB s) n).2.2.2.2.2.2 = 0 then (if (toB (pB (ofB s)).2.1).toList = ([] : List UInt8) then ((zaV.f (pV (ofB s) n).1 (pV (ofB s) n).2.1 (pV (ofB s) n).2.2.1 (pV (ofB s) n).2.2.2.1 (pV (ofB s) n).2.2.2.2.1 (pV (ofB s) n).2.2.2.2.2.1 ((pB (ofB s)).1 : Int) n).bind fun t => if t = 0 then some ((pV (ofB s) n).1,(pV (ofB s) n).2.1,(pV (ofB s) n).2.2.1,(pV (ofB s) n).2.2.2.1,(pV (ofB s) n).2.2.2.2.1,(pV (ofB s) n).2.2.2.2.2.1,((pB (ofB s)).1 : Int),0) else some zg4) else some zg4) else some zg4) else some zg4) else some zg4) _
 by_cases h1 : (pA (ofB s)).2.2 = 0
 ·refine zn h1 ?_
  by_cases h2 : (pB (ofB s)).2.2 = 0
  ·refine zn h2 ?_
   by_cases h3 : (pV (ofB s) n).2.2.2.2.2.2 = 0
   ·refine zn h3 ?_
    by_cases h4 : (pB (ofB s)).2.1 = []
    ·refine zn (by rw [zbJ,zav];exact h4) (zaf (zdZ _ _ _ _ _ _ _ (zaZ _) _) ?_)
     by_cases h5 : pFit (ofB s) n = 0
     ·exact zn h5 (zac (Ev.now _) (zfC ⟨h1,h2,h3,h4,h5⟩).symm)
     ·exact zF h5 (zac (Ev.now _) (bad (fun hh => h5 hh.2.2.2.2)).symm)
    ·exact zF (by rw [zbJ,zav];exact h4) (zac (Ev.now _) (bad (fun hh => h4 hh.2.2.2.1)).symm)
   ·exact zF h3 (zac (Ev.now _) (bad (fun hh => h3 hh.2.2.1)).symm)
  ·exact zF h2 (zac (Ev.now _) (bad (fun hh => h2 hh.2.1)).symm)
 ·exact zF h1 (zac (Ev.now _) (bad (fun hh => h1 hh.1)).symm)
theorem zgJ (s : ByteArray) (n : Int) (hs : s.size < 4611686018427387904) : Ev (fun k => z4.f k s n) (zeP (ofB s) n) := by
 have l0 : (ofB s).length < 4611686018427387904 := by rw [zae];exact hs
 obtain ⟨l1,l2⟩ := zev (ofB s) 65536
 have t1 := zes s 65536 hs (by decide)
 have t2 := zby (toB (pA (ofB s)).2.1) (by rw [zP];exact Nat.lt_of_le_of_lt l2 l0)
 have t3 := ziF (toB (pA (ofB s)).1) n (by rw [zP];exact Nat.lt_of_le_of_lt l1 l0)
 simp only [zbL,zav,refV_eq] at t2 t3
 have bad : ¬ okP (ofB s) n → zeP (ofB s) n = zg4 := zfB
 have hsm : (pV (ofB s) n).2.2.1.length < 4611686018427387904 ∧ (∀ b ∈ (pV (ofB s) n).2.2.1,b.f2.length < 4611686018427387904) ∧ (pV (ofB s) n).2.2.2.1.length < 4611686018427387904 := zfV _ _
 have hps : ∀ t ∈ (pV (ofB s) n).2.2.2.1,t.size < 4611686018427387904 := by
  rcases zgY (pA (ofB s)).1 n with h | ⟨a,r,bs,ps,x,y,h,hm,_⟩
  ·rw [show pV (ofB s) n = zeh from h];exact fun t ht => absurd ht (by simp [zeh])
  ·rw [show pV (ofB s) n = (a,r,bs,ps,x,y,0) from h]
   obtain ⟨h0,_,_,_,_,_,_,_,_,h9⟩ := (zcv ..).1 hm
   exact fun t ht => by have := (zbE h0 h9).2 t ht;omega
 have badJ : Ev (fun k => z4.j0 k n (toB (pA (ofB s)).1) ((pB (ofB s)).1 : Int) true) zg4 := by
  refine Ev.step (fun k => by rw [z4.j0]) ?_
  exact zn rfl (Ev.now _)
 refine Ev.bind t1 ?_
 by_cases h1 : (pA (ofB s)).2.2 = 0
 ·refine zn h1 (Ev.bind t2 ?_)
  by_cases h2 : (pB (ofB s)).2.2 = 0
  ·refine zn h2 ?_
   by_cases h4 : (pB (ofB s)).2.1 = []
   ·have e4 : decide (((toB (pB (ofB s)).2.1).size : Int) > 0) = false := decide_eq_false (by rw [zP,h4];simp)
    show Ev (fun k => z4.j0 k n (toB (pA (ofB s)).1) ((pB (ofB s)).1 : Int) (decide (((toB (pB (ofB s)).2.1).size : Int) > 0))) _
    rw [e4]
    refine Ev.step (fun k => by rw [z4.j0]) (zF (by simp) (Ev.bind t3 ?_))
    by_cases h3 : (pV (ofB s) n).2.2.2.2.2.2 = 0
    ·refine zn h3 (Ev.bind (zgK _ _ _ _ _ _ _ (zaZ _) n hsm.1 hsm.2.1 hsm.2.2 hps) ?_)
     by_cases h5 : pFit (ofB s) n = 0
     ·exact zn h5 (zac (Ev.now _) (zfC ⟨h1,h2,h3,h4,h5⟩).symm)
     ·exact zF h5 (zac (Ev.now _) (bad (fun hh => h5 hh.2.2.2.2)).symm)
    ·exact zF h3 (zac (Ev.now _) (bad (fun hh => h3 hh.2.2.1)).symm)
   ·have e4 : decide (((toB (pB (ofB s)).2.1).size : Int) > 0) = true := decide_eq_true (by
     rw [zP]
     have : (pB (ofB s)).2.1.length ≠ 0 := fun hh => h4 (List.eq_nil_of_length_eq_zero hh)
     omega)
    show Ev (fun k => z4.j0 k n (toB (pA (ofB s)).1) ((pB (ofB s)).1 : Int) (decide (((toB (pB (ofB s)).2.1).size : Int) > 0))) _
    rw [e4,bad (fun hh => h4 hh.2.2.2.1)]
    exact badJ
  ·rw [bad (fun hh => h2 hh.2.1)]
   exact zF h2 badJ
 ·rw [bad (fun hh => h1 hh.1)]
  exact zF h1 (Ev.now _)
def zeB (a r : Int) (bs : List S73) (ps : List ByteArray) (x y z a' r' : Int) (bs' : List S73) (ps' : List ByteArray) (x' y' z' : Int) : Bool := zdv a r bs ps x y a' r' bs' ps' x' y' && (z == z')
theorem zea (a r : Int) (bs : List S73) (ps : List ByteArray) (x y z a' r' : Int) (bs' : List S73) (ps' : List ByteArray) (x' y' z' : Int) (hb : bs.length < 4611686018427387904) (hs : ∀ b ∈ bs,b.f2.length < 4611686018427387904) (hp : ps.length < 4611686018427387904) :
  Ev (fun k => zbi.f k a r bs ps x y z a' r' bs' ps' x' y' z') (zeB a r bs ps x y z a' r' bs' ps' x' y' z') := by
 refine Ev.bind (zfu a r bs ps x y a' r' bs' ps' x' y' hb hs hp) ?_
 unfold zeB
 by_cases h : zdv a r bs ps x y a' r' bs' ps' x' y' = true
 ·exact zn h (zac (Ev.now _) (by rw [h];simp))
 ·rw [Bool.not_eq_true] at h
  exact zF (by rw [h];simp) (zac (Ev.now _) (by rw [h];simp))
theorem sha_Sum_of {s : ByteArray} (h : s.size ≤ 10000) : zc5.f s = some (zgT s) := by rw [zc5.f,if_pos (by omega)]
theorem refSum_of {s : ByteArray} (h : s.size ≤ 10000) : zaY.f s = some (zgT s) := by rw [zaY.f,if_pos (by omega)]
theorem ziz (b : UInt8) (s : ByteArray) : ((⟨#[b]⟩ : ByteArray) ++ s).size = 1 + s.size := by rw [ByteArray.size_append];rfl
theorem zfj {a r : Int} {bs : List S73} {ps : List ByteArray} {x y n : Int} (h : zbr a r bs ps x y n = true) : (toB (zaE a r bs ps x y)).size ≤ 5000 := by
 obtain ⟨h0,h1,h2,h3,h4,h5,h6,h7,h8,h9⟩ := (zcv ..).1 h
 obtain ⟨k1,k2,k3⟩ := (zcu n).1 h0
 obtain ⟨x1,x2,y1,y2⟩ := (zdp x y).1 h7
 have r1 := zh7 (bs := bs) (by omega)
 have r2 := zh8 (zbE h0 h9)
 have r3 := zaL (v := a.toNat) (by omega)
 have r4 := zaL (v := r.toNat) (by omega)
 have r5 := zaL (v := x.toNat) (by omega)
 have r6 := zaL (v := y.toNat) (by omega)
 rw [zP,zaE]
 simp only [List.length_append]
 omega
def zcp (a r : Int) (bs : List S73) (ps : List ByteArray) (x y n : Int) : ByteArray × Int := if zbr a r bs ps x y n = true then (zgT ((⟨#[118]⟩ : ByteArray) ++ toB (zaE a r bs ps x y)),0) else ((⟨#[]⟩ : ByteArray),1)
theorem zfE (a r : Int) (bs : List S73) (ps : List ByteArray) (x y n : Int) : zbA.f a r bs ps x y n = some (zcp a r bs ps x y n) := by
 unfold zbA.f zcp
 rw [zed]
 simp only [Option.bind_some]
 by_cases h : zbr a r bs ps x y n = true
 ·have hs := zfj h
  rw [if_pos h,if_pos h,if_pos rfl,if_pos (by show 1 + (toB (zaE a r bs ps x y)).size ≤ _;omega)]
  show (zc5.f ((⟨#[118]⟩ : ByteArray) ++ toB (zaE a r bs ps x y))).bind _ = _
  rw [sha_Sum_of (by rw [ziz];omega)]
  rfl
 ·rw [if_neg h,if_neg h,if_neg (by simp)]
theorem ze2 (a r : Int) (bs : List S73) (ps : List ByteArray) (x y n : Int) (hb : bs.length < 4611686018427387904) (hbs : ∀ b ∈ bs,b.f2.length < 4611686018427387904) (hl : ps.length < 4611686018427387904) (hp : ∀ t ∈ ps,t.size < 4611686018427387904) :
  Ev (fun k => za5.f k a r bs ps x y n) (zcp a r bs ps x y n) := by
 unfold za5.f
 refine Ev.bind (zdC a r bs ps x y n hb hbs hl hp) ?_
 unfold zgn zcp
 by_cases h : zbr a r bs ps x y n = true
 ·have hs := zfj h
  rw [if_pos h,if_pos h]
  refine zn rfl (zn (by show 1 + (toB (zaE a r bs ps x y)).size ≤ _;omega) ?_)
  refine zaf (refSum_of (s := (⟨#[118]⟩ : ByteArray) ++ toB (zaE a r bs ps x y)) (by rw [ziz];omega)) ?_
  exact Ev.now _
 ·rw [if_neg h,if_neg h]
  exact zF (by simp) (Ev.now _)
theorem ze4 : ∀ (d id s : Nat) (x : Int),x ∈ zbP d id s ↔ ∃ j,j < d ∧ s.testBit j = true ∧ x = ((id + j : Nat) : Int)
 | 0,id,s,x => by simp [zbP]
 | d + 1,id,s,x => by
  have ih := ze4 d (id + 1) (s / 2) x
  have t0 : s.testBit 0 = decide (s % 2 = 1) := Nat.testBit_zero s
  have ts : ∀ j,s.testBit (j + 1) = (s / 2).testBit j := fun j => Nat.testBit_succ s j
  constructor
  ·intro h
   have h' : (s % 2 = 1 ∧ x = (id : Int)) ∨ x ∈ zbP d (id + 1) (s / 2) := by
    rw [zbP] at h
    split at h
    ·rename_i h1
     rcases List.mem_cons.1 h with h2 | h2
     ·exact .inl ⟨h1,h2⟩
     ·exact .inr h2
    ·exact .inr h
   rcases h' with ⟨h1,h2⟩ | h2
   ·exact ⟨0,by omega,by rw [t0];simp [h1],by rw [h2];rfl⟩
   ·obtain ⟨j,hj,h3,h4⟩ := ih.1 h2
    exact ⟨j + 1,by omega,by rw [ts];exact h3,by rw [h4];congr 1;omega⟩
  ·rintro ⟨j,hj,h3,h4⟩
   rw [zbP]
   rcases j with _ | j
   ·rw [t0] at h3
    rw [if_pos (of_decide_eq_true h3)]
    exact List.mem_cons.2 (.inl h4)
   ·have : x ∈ zbP d (id + 1) (s / 2) := ih.2 ⟨j,by omega,by rw [← ts];exact h3,by rw [h4];congr 1;omega⟩
    split
    ·exact List.mem_cons.2 (.inr this)
    ·exact this
def zgR (i : Int) (t : ByteArray) (b : List S45) : Bool := b.any fun x => decide (x.f0 = i ∧ x.f1 = t)
def zgD (s : Nat) (i : Int) : Nat := if 1 ≤ i ∧ i ≤ 64 then s ||| 2 ^ (i.toNat - 1) else s
def byN (t : ByteArray) : List S45 → Nat → Nat
 | [],s => s
 | x :: b,s => byN t b (if x.f1 = t then zgD s x.f0 else s)
theorem putN_lt {s : Nat} (h : s < 18446744073709551616) (i : Int) : zgD s i < 18446744073709551616 := by
 unfold zgD
 split
 ·have h1 : s < 2 ^ 64 := h
  have h2 : 2 ^ (i.toNat - 1) < 2 ^ 64 := Nat.pow_lt_pow_right (by decide) (by omega)
  exact Nat.or_lt_two_pow h1 h2
 ·exact h
theorem byN_lt (t : ByteArray) : ∀ (b : List S45) (s : Nat),s < 18446744073709551616 → byN t b s < 18446744073709551616
 | [],_,h => h
 | x :: b,s,h => by
  rw [byN]
  refine byN_lt t b _ ?_
  split
  ·exact putN_lt h _
  ·exact h
theorem putN_bit (s : Nat) (i : Int) (j : Nat) : (zgD s i).testBit j = true ↔ s.testBit j = true ∨ (i = ((j + 1 : Nat) : Int) ∧ j < 64) := by
 unfold zgD
 split
 ·rename_i h
  rw [Nat.testBit_or,Nat.testBit_two_pow,Bool.or_eq_true,decide_eq_true_eq]
  constructor
  ·rintro (h1 | h1)
   ·exact .inl h1
   ·exact .inr ⟨by omega,by omega⟩
  ·rintro (h1 | h1)
   ·exact .inl h1
   ·exact .inr (by omega)
 ·rename_i h
  constructor
  ·exact fun h1 => .inl h1
  ·rintro (h1 | h1)
   ·exact h1
   ·exact absurd ⟨by omega,by omega⟩ h
theorem zhN (t : ByteArray) : ∀ (b : List S45) (s j : Nat),(byN t b s).testBit j = true ↔ s.testBit j = true ∨ (zgR ((j + 1 : Nat) : Int) t b = true ∧ j < 64)
 | [],s,j => by simp [byN,zgR]
 | x :: b,s,j => by
  rw [byN,zhN t b]
  rw [show zgR ((j + 1 : Nat) : Int) t (x :: b) = (decide (x.f0 = ((j + 1 : Nat) : Int) ∧ x.f1 = t) || zgR ((j + 1 : Nat) : Int) t b) from rfl,Bool.or_eq_true,decide_eq_true_eq]
  split
  ·rename_i h
   rw [putN_bit]
   constructor
   ·rintro ((h1 | ⟨h1,h2⟩) | ⟨h1,h2⟩)
    ·exact .inl h1
    ·exact .inr ⟨.inl ⟨h1,h⟩,h2⟩
    ·exact .inr ⟨.inr h1,h2⟩
   ·rintro (h1 | ⟨h1 | h1,h2⟩)
    ·exact .inl (.inl h1)
    ·exact .inl (.inr ⟨h1.1,h2⟩)
    ·exact .inr ⟨h1,h2⟩
  ·rename_i h
   constructor
   ·rintro (h1 | ⟨h1,h2⟩)
    ·exact .inl h1
    ·exact .inr ⟨.inr h1,h2⟩
   ·rintro (h1 | ⟨h1 | h1,h2⟩)
    ·exact .inl h1
    ·exact absurd h1.2 h
    ·exact .inr ⟨h1,h2⟩
def zhF (b : List S45) (s : Nat) (t : ByteArray) : Bool := (zbP 64 1 s).all fun id => zgR id t b
theorem allS_iff {b : List S45} {s : Nat} {t : ByteArray} : zhF b s t = true ↔ ∀ j,j < 64 → s.testBit j = true → zgR ((j + 1 : Nat) : Int) t b = true := by
 rw [zhF,List.all_eq_true]
 constructor
 ·intro h j hj hs
  exact h _ ((ze4 64 1 s _).2 ⟨j,hj,hs,by rw [Nat.add_comm]⟩)
 ·intro h x hx
  obtain ⟨j,hj,hs,rfl⟩ := (ze4 64 1 s x).1 hx
  have := h j hj hs
  rwa [Nat.add_comm] at this
theorem zih (s m : Nat) (hs : s < 18446744073709551616) (hm : m < 18446744073709551616) : Go.bits .andNot .u64 (s : Int) (m : Int) = 0 ↔ ∀ j,j < 64 → s.testBit j = true → m.testBit j = true := by
 rw [u64_andNot_nat s m hs hm]
 have e : ((s &&& (18446744073709551615 - m) : Nat) : Int) = 0 ↔ (s &&& (18446744073709551615 - m)) = 0 := by omega
 have tb : ∀ j,(18446744073709551615 - m).testBit j = (decide (j < 64) && !m.testBit j) := fun j => by
  have := Nat.testBit_two_pow_sub_succ (x := m) (n := 64) hm j
  rwa [show 2 ^ 64 - (m + 1) = 18446744073709551615 - m by omega] at this
 rw [e]
 constructor
 ·intro h j hj h1
  have h2 : (s &&& (18446744073709551615 - m)).testBit j = false := by rw [h];exact Nat.zero_testBit j
  rw [Nat.testBit_and,tb,h1,decide_eq_true hj] at h2
  simpa using h2
 ·intro h
  apply Nat.eq_of_testBit_eq
  intro j
  rw [Nat.zero_testBit,Nat.testBit_and,tb]
  by_cases hj : j < 64
  ·cases h1 : s.testBit j
   ·simp
   ·rw [h j hj h1];simp
  ·simp [hj]
theorem all_by (b : List S45) (s : Nat) (hs : s < 18446744073709551616) (t : ByteArray) : decide (Go.bits .andNot .u64 (s : Int) ((byN t b 0 : Nat) : Int) = 0) = zhF b s t := by
 rw [Bool.eq_iff_iff,decide_eq_true_eq,zih s _ hs (byN_lt t b 0 (by decide)),allS_iff]
 constructor
 ·intro h j hj h1
  have := (zhN t b 0 j).1 (h j hj h1)
  rcases this with h2 | h2
  ·rw [Nat.zero_testBit] at h2;cases h2
  ·exact h2.1
 ·intro h j hj h1
  exact (zhN t b 0 j).2 (.inr ⟨h j hj h1,hj⟩)
theorem rd_Seal_at (l : List S45) (j : Nat) (h : j < l.length) : zcC l (j : Int) = l[j] := by
 rw [zcC,Int.toNat_natCast,List.getD_eq_getElem?_getD,List.getElem?_eq_getElem h];rfl
theorem zh9 (s : Nat) (hs : s < 18446744073709551616) (i : Int) : zcH.f (s : Int) i = some (if 1 ≤ i ∧ i ≤ 64 then (((zgD s i : Nat) : Int),0) else (0,1)) := by
 by_cases hh : 1 ≤ i ∧ i ≤ 64
 ·have es : zb2.f i = some true := by unfold zb2.f;rw [if_pos hh.1,decide_eq_true hh.2]
  have e1 : wrap64 (i - 1) = ((i.toNat - 1 : Nat) : Int) := by rw [z9 (by omega) (by omega)];omega
  have h3' : 2 ^ (i.toNat - 1) < 2 ^ 64 := Nat.pow_lt_pow_right (by decide) (by omega)
  have h3 : 2 ^ (i.toNat - 1) < 18446744073709551616 := h3'
  have e2 : shl .u64 1 ((i.toNat - 1 : Nat) : Int) = ((2 ^ (i.toNat - 1) : Nat) : Int) := by
   unfold shl
   rw [Int.toNat_natCast,Nat.min_eq_left (by show i.toNat - 1 ≤ 64;omega),Int.one_mul]
   have h4 : ((2 : Int) ^ (i.toNat - 1)) = ((2 ^ (i.toNat - 1) : Nat) : Int) := by rw [Int.natCast_pow];rfl
   rw [h4]
   generalize 2 ^ (i.toNat - 1) = p at h3 ⊢
   exact zaA (Int.natCast_nonneg _) (by omega)
  unfold zcH.f
  rw [es,show (if 1 ≤ i ∧ i ≤ 64 then (((zgD s i : Nat) : Int),(0 : Int)) else (0,1)) = (((zgD s i : Nat) : Int),0) from if_pos hh,Option.bind_some,if_pos rfl,e1,if_pos (Int.natCast_nonneg _),e2,u64_or_nat _ _ hs h3,zgD,if_pos hh]
 ·have es : zb2.f i = some false := by
   unfold zb2.f
   by_cases h1 : i ≥ 1
   ·rw [if_pos h1,decide_eq_false (fun h => hh ⟨h1,h⟩)]
   ·rw [if_neg h1]
  unfold zcH.f
  rw [es,show (if 1 ≤ i ∧ i ≤ 64 then (((zgD s i : Nat) : Int),(0 : Int)) else (0,1)) = (0,1) from if_neg hh]
  rfl
theorem by_l0 (t : ByteArray) (b : List S45) (hb : b.length < 4611686018427387904) (d : Nat) : ∀ (j s : Nat),j + d = b.length → s < 18446744073709551616 → Ev (fun k => zbN.l0 k t (s : Int) b (b.length : Int) (j : Int)) ((byN t (b.drop j) s : Nat) : Int) := by
 induction d with
 | zero =>
  intro j s hj hs
  refine Ev.step (fun k => by rw [zbN.l0]) ?_
  rw [List.drop_of_length_le (by omega)]
  exact zF (by omega) (Ev.now _)
 | succ d ih =>
  intro j s hj hs
  refine Ev.step (fun k => by rw [zbN.l0]) ?_
  have hlt : j < b.length := by omega
  rw [rd_Seal_at b j hlt,List.drop_eq_getElem_cons hlt,byN,z9 (by omega) (by omega)]
  refine zn (by omega) (zn (by omega) (zn (by omega) ?_))
  by_cases h : b[j].f1 = t
  ·rw [if_pos h]
   refine zn (by rw [h]) (zaf (zh9 s hs b[j].f0) ?_)
   by_cases h1 : 1 ≤ b[j].f0 ∧ b[j].f0 ≤ 64
   ·rw [if_pos h1]
    exact zn rfl (ih (j + 1) _ (by omega) (putN_lt hs _))
   ·rw [if_neg h1]
    refine zF (by simp) ?_
    rw [zgD,if_neg h1]
    exact ih (j + 1) s (by omega) hs
  ·rw [if_neg h]
   refine zF (fun hh => h ((zdJ _ _).1 hh)) (ih (j + 1) s (by omega) hs)
theorem zii (b : List S45) (hb : b.length < 4611686018427387904) (s : Nat) (hs : s < 18446744073709551616) (t : ByteArray) : Ev (fun k => zcs.f k b (s : Int) t) (zhF b s t) := by
 refine Ev.bind (by_l0 t b hb b.length 0 0 (by omega) (by decide)) (zac (Ev.now _) ?_)
 rw [List.drop_zero,← all_by b s hs t]
 rfl
def ziP (d : ByteArray) : ByteArray := (⟨#[121]⟩ : ByteArray) ++ d
def zgr (n : Int) (b : List S45) (a r : Int) (bs : List S73) (ps : List ByteArray) (x y : Int) (s : Nat) : Int :=
 if zcV a r bs ps x y s n = 0 then (if zhF b s (ziP (zcp a r bs ps x y n).1) = true then 0 else 10) else zcV a r bs ps x y s n
theorem zfi (a r : Int) (bs : List S73) (ps : List ByteArray) (x y n : Int) : (zcp a r bs ps x y n).1.size ≤ 32 := by
 unfold zcp
 split
 ·exact Nat.le_of_eq (shaB_size _)
 ·exact Nat.zero_le _
theorem zeL (n : Int) (b : List S45) (hb : b.length < 4611686018427387904) (a r : Int) (bs : List S73) (ps : List ByteArray) (x y : Int) (s : Nat) (hs : s < 18446744073709551616) :
  Ev (fun k => zbg.f k n b a r bs ps x y (s : Int)) (zgr n b a r bs ps x y s) := by
 unfold zbg.f zgr
 refine zaf (zdZ a r bs ps x y s hs n) ?_
 refine zgu (fun _ => ?_) (fun _ => Ev.now _)
 refine zaf (zfE ..) ?_
 have hz := zfi a r bs ps x y n
 refine zaf (show zbl.f (zcp a r bs ps x y n).1 = some (ziP (zcp a r bs ps x y n).1) from if_pos (by omega)) ?_
 refine Ev.bind (zii b hb s hs _) ?_
 exact zgu (fun _ => Ev.now _) (fun _ => Ev.now _)
theorem zin {n : Int} {b : List S45} {a r : Int} {bs : List S73} {ps : List ByteArray} {x y : Int} {s : Nat} : zgr n b a r bs ps x y s = 0 ↔ zcV a r bs ps x y s n = 0 ∧ zhF b s (ziP (zcp a r bs ps x y n).1) = true := by
 unfold zgr
 by_cases h : zcV a r bs ps x y s n = 0
 ·rw [if_pos h]
  by_cases h2 : zhF b s (ziP (zcp a r bs ps x y n).1) = true
  ·rw [if_pos h2];simp [h,h2]
  ·rw [if_neg h2];simp [h2]
 ·rw [if_neg h];simp [h]
theorem zfQ : zbr 1 1 [] [] 0 0 4 = true := by
 rw [zcv]
 simp [zcu,zdp,zcw]
theorem zhe : zcV 1 1 [] [] 0 0 7 4 = 0 := by
 rw [zeY]
 exact ⟨zfQ,by decide +kernel,by decide +kernel⟩
theorem zhd : zcV 1 1 [] [] 0 0 3 4 = 2 := by
 unfold zcV
 rw [if_pos zfQ,if_pos (by decide +kernel),if_pos (by decide +kernel)]
theorem zhf : zbP 64 1 7 = [1,2,3] := by decide +kernel
theorem ziL (t : ByteArray) : zhF [(⟨1,t⟩ : S45),⟨2,t⟩,⟨3,t⟩] 7 t = true := by
 rw [zhF,zhf]
 simp [zgR]
theorem shown10_ev : Ev (fun k => zbu.f k) true := by
 unfold zbu.f
 refine Ev.bind (ze2 1 1 [] [] 0 0 4 (by decide) (by simp) (by decide) (by simp)) ?_
 have hz := zfi 1 1 [] [] 0 0 4
 refine zn (by omega) ?_
 refine zaf rfl ?_
 refine Ev.bind (zeL 4 _ (by decide) 1 1 [] [] 0 0 7 (by decide)) ?_
 refine Ev.bind (zeL 4 _ (by decide) 1 1 [] [] 0 0 3 (by decide)) ?_
 refine zaf (show zbl.f (zcp 1 1 [] [] 0 0 4).1 = some (ziP (zcp 1 1 [] [] 0 0 4).1) from if_pos (by omega)) ?_
 refine zn rfl ?_
 refine zn ?_ (zac (Ev.now _) ?_)
 ·rw [zin]
  exact ⟨zhe,ziL _⟩
 ·unfold zgr
  rw [zhd];rfl
theorem zhk (a r : Int) (bs : List S73) (ps : List ByteArray) (x y a' r' : Int) (bs' : List S73) (ps' : List ByteArray) (x' y' : Int) (hs : ze5 bs = true) (hp : ps.length < 4611686018427387904) :
  Ev (fun k => zcJ.f k a r bs ps x y a' r' bs' ps' x' y') (zdv a r bs ps x y a' r' bs' ps' x' y') := by
 unfold zdv
 by_cases h1 : a = a'
 ·refine zn h1 ?_
  by_cases h2 : r = r'
  ·refine zn h2 ?_
   by_cases h3 : (x == x' && (y == y')) = true
   ·refine zn h3 (Ev.bind (zir ps ps' hp) ?_)
    rw [Bool.and_eq_true,beq_iff_eq,beq_iff_eq] at h3
    by_cases h4 : ps = ps'
    ·refine zn (decide_eq_true h4) (zaf (if_pos hs) (zac (Ev.now _) ?_))
     simp [h1,h2,h3.1,h3.2,h4]
    ·exact zF (by simpa using h4) (zac (Ev.now _) (by simp [h4]))
   ·refine zF h3 (zac (Ev.now _) ?_)
    rw [Bool.and_eq_true,beq_iff_eq,beq_iff_eq] at h3
    symm
    rw [decide_eq_false_iff_not]
    exact fun hh => h3 ⟨hh.2.2.2.2.1,hh.2.2.2.2.2⟩
  ·exact zF h2 (zac (Ev.now _) (by simp [h2]))
 ·exact zF h1 (zac (Ev.now _) (by simp [h1]))
theorem zil (a r : Int) (bs : List S73) (ps : List ByteArray) (x y z a' r' : Int) (bs' : List S73) (ps' : List ByteArray) (x' y' z' : Int) (hs : ze5 bs = true) (hp : ps.length < 4611686018427387904) :
  Ev (fun k => zdM.f k a r bs ps x y z a' r' bs' ps' x' y' z') (zeB a r bs ps x y z a' r' bs' ps' x' y' z') := by
 unfold zeB
 by_cases h : z = z'
 ·exact zn h (Ev.bind (zhk a r bs ps x y a' r' bs' ps' x' y' hs hp) (zac (Ev.now _) (by simp [h])))
 ·exact zF h (zac (Ev.now _) (by simp [h]))
structure zcj (w w8 W : World) (g3 : Nat) (o3 : Obj) (g12 : Nat) (o12 : Obj) : Prop where
 b : Below w.heap.size w W
 b8 : Below w8.heap.size w8 W
 c3 : W.heap[g3]? = some o3
 c12 : W.heap[g12]? = some o12
theorem zcj.step {w w8 W W' : World} {g3 g12 : Nat} {o3 o12 : Obj} (h : zcj w w8 W g3 o3 g12 o12) (hb : Below W.heap.size W W') : zcj w w8 W' g3 o3 g12 o12 := ⟨zd h.b hb,zd h.b8 hb,zx h.c3 hb,zx h.c12 hb⟩
theorem zcj.drew {w w8 W : World} {g3 g12 : Nat} {o3 o12 : Obj} (h : zcj w w8 W g3 o3 g12 o12) : zcj w w8 W.drew g3 o3 g12 o12 := ⟨zm h.b,zm h.b8,zbq h.c3,zbq h.c12⟩
set_option maxHeartbeats 16000000 in
set_option maxRecDepth 100000 in
theorem zaQ.walk (s : ByteArray) (n : Int) (w : World) (k0 k2 k3 k4 k5 k6 k7 : Nat) (a r : Int) (A2 : Option Addr) (c2 : Nat) (bs : List S73) (A3 : Option Addr) (c3 : Nat) (ps : List ByteArray) (x y z a' r' : Int) (bs' : List S73) (ps' : List ByteArray) (x' y' z' : Int) (t : ByteArray) (e1 e2 : Int) (q : Bool)
  (hr2 : Kd.C k73 w A2 bs.length bs) (hc2 : bs.length ≤ c2) (hr3 : Kd.C Kd.string w A3 ps.length ps) (hc3 : ps.length ≤ c3)
  (h0 : zbu.f k0 = some true) (h1 : zbf.f a r bs ps x y z n = some (t,e1)) (h2 : zan.f k2 a r bs ps x y z n = some (t,e1)) (h3 : zdN.f k3 s n = some (a',r',bs',ps',x',y',z',e2)) (h4 : z4.f k4 s n = some (a',r',bs',ps',x',y',z',e2))
  (h5 : zbi.f k5 a' r' bs' ps' x' y' z' a' r' bs' ps' x' y' z' = some true) (h6 : zdM.f k6 a r bs ps x y z a' r' bs' ps' x' y' z' = some q) (h7 : zbi.f k7 a r bs ps x y z a' r' bs' ps' x' y' z' = some q) :
  Calls Tryz.prog 3 #[.agg #[.int .i64 a,.int .i64 r,.slice A2 bs.length c2,.slice A3 ps.length c3,.int .i64 x,.int .i64 y,.int .u64 z],.string s,.int .i64 n] w fun e w' => e = .returned (.bool true) ∧ Below w.heap.size w w' := by
 have R2 := za.mk hr2
 have M2 := za.mk hc2
 have R3 := za.mk hr3
 have M3 := za.mk hc3
 have H0 := za.mk h0
 have H1 := za.mk h1
 have H2 := za.mk h2
 have H3 := za.mk h3
 have H4 := za.mk h4
 have H5 := za.mk h5
 have H6 := za.mk h6
 have H7 := za.mk h7
 clear hr2 hc2 hr3 hc3 h0 h1 h2 h3 h4 h5 h6 h7
 go_enter Tryz.func3,Tryz.ntmps3
 go_wp2_with (first
  | ((with_reducible refine zy (N := 3) rfl ?_);refine zo ?hg (N := 3) ?hd (cs := #[.int .i64 a,.int .i64 r,.slice A2 bs.length c2,.slice A3 ps.length c3,.int .i64 x,.int .i64 y,.int .u64 z]) (t := 30) ?hr ?_;(case hd => rfl);(case hg => rfl);(case hr => first | (go_simp;done) | (go_simp;rfl));intro g3 hg u3 hbox hb;have B3 := za.mk hbox;have HB3 := za.mk hb;clear hb hbox hg)
  | (go_at_call 4;(with_reducible refine (zbu.calls k0 true _ H0.out).mono ?_);rintro e w0 ⟨rfl,hb⟩;have HB := za.mk (zd HB3.out hb);have B4 := za.mk (zx B3.out hb);clear hb HB3 B3;have z4_0 := (zb B4.out 0).trans rfl;have z4_1 := (zb B4.out 1).trans rfl;have z4_2 := (zb B4.out 2).trans rfl;have z4_3 := (zb B4.out 3).trans rfl;have z4_4 := (zb B4.out 4).trans rfl;have z4_5 := (zb B4.out 5).trans rfl;have z4_6 := (zb B4.out 6).trans rfl)
  | (go_at_call 5;(with_reducible refine (zbf.calls a r _ _ bs _ _ ps x y z n t e1 _ (Kd.C_below R2.out HB.out) M2.out (Kd.C_below R3.out HB.out) M3.out H1.out).mono ?_);rintro e w1 ⟨rfl,hb⟩;have HB5 := za.mk (zd HB.out hb);have B5 := za.mk (zx B4.out hb);clear hb;clear z4_0 z4_1 z4_2 z4_3 z4_4 z4_5 z4_6;have z5_0 := (zb B5.out 0).trans rfl;have z5_1 := (zb B5.out 1).trans rfl;have z5_2 := (zb B5.out 2).trans rfl;have z5_3 := (zb B5.out 3).trans rfl;have z5_4 := (zb B5.out 4).trans rfl;have z5_5 := (zb B5.out 5).trans rfl;have z5_6 := (zb B5.out 6).trans rfl)
  | (go_at_call 6;(with_reducible refine (zan.calls k2 a r _ _ bs _ _ ps x y z n t e1 _ (Kd.C_below R2.out HB5.out) M2.out (Kd.C_below R3.out HB5.out) M3.out H2.out).mono ?_);rintro e w2 ⟨rfl,hb⟩;have HB6 := za.mk (zd HB5.out hb);have B6 := za.mk (zx B5.out hb);clear hb;clear z5_0 z5_1 z5_2 z5_3 z5_4 z5_5 z5_6)
  | (go_at_call 7;(with_reducible refine (zdN.calls k3 s n _ _ _ _ _ _ _ _ _ H3.out).mono ?_);rintro e w3 ⟨v2,v3,rfl,hS2,hS3,hb⟩;have HB7 := za.mk (zd HB6.out hb);have B7 := za.mk (zx B6.out hb);obtain ⟨A4,c4,rfl⟩ := Kd.S_slice hS2;obtain ⟨A5,c5,rfl⟩ := Kd.R_slice hS3;have R4 := za.mk (Kd.S_reads' hS2).2.2;have M4 := za.mk (Kd.S_reads' hS2).2.1;have R5 := za.mk (Kd.R_reads' hS3).2.2;have M5 := za.mk (Kd.R_reads' hS3).2.1;clear hS2 hS3;clear hb)
  | (go_at_call 8;(with_reducible refine (z4.calls k4 s n _ _ _ _ _ _ _ _ _ H4.out).mono ?_);rintro e w4 ⟨v2,v3,rfl,hS2,hS3,hb⟩;have HB8 := za.mk (zd (zk HB7.out _) hb);have B8 := za.mk (zx (zbb B7.out _) hb);have L3 := za.mk (zd (zk (Below.refl w3.heap.size w3) _) hb);have B12 := za.mk (zx (zgg w3 _) hb);obtain ⟨A6,c6,rfl⟩ := Kd.S_slice hS2;obtain ⟨A7,c7,rfl⟩ := Kd.R_slice hS3;have R6 := za.mk (Kd.S_reads' hS2).2.2;have M6 := za.mk (Kd.S_reads' hS2).2.1;have R7 := za.mk (Kd.R_reads' hS3).2.2;have M7 := za.mk (Kd.R_reads' hS3).2.1;clear hS2 hS3;clear hb;have y12 := fun o => (zb (zbb B12.out o) 0).trans rfl;have y12_1 := fun o => (zb (zbb B12.out o) 1).trans rfl;have y12_2 := fun o => (zb (zbb B12.out o) 2).trans rfl;have y12_3 := fun o => (zb (zbb B12.out o) 3).trans rfl;have y12_4 := fun o => (zb (zbb B12.out o) 4).trans rfl;have y12_5 := fun o => (zb (zbb B12.out o) 5).trans rfl;have y12_6 := fun o => (zb (zbb B12.out o) 6).trans rfl)
  | (go_at_call 9;(with_reducible refine (zbi.calls k5 a' r' _ _ bs' _ _ ps' x' y' z' a' r' _ _ bs' _ _ ps' x' y' z' true _ (Kd.C_below R4.out (zk L3.out _)) M4.out (Kd.C_below R5.out (zk L3.out _)) M5.out (Kd.C_below R6.out (zk (Below.refl _ _) _)) M6.out (Kd.C_below R7.out (zk (Below.refl _ _) _)) M7.out H5.out).mono ?_);rintro e w5 ⟨rfl,hb⟩;have M0 : za (zcj w w3 w5 g3 _ _ _) := ⟨⟨zd (zk HB8.out _) hb,zd (zk L3.out _) hb,zx (zbb B8.out _) hb,zx (zbb B12.out _) hb⟩⟩;clear hb y12 y12_1 y12_2 y12_3 y12_4 y12_5 y12_6))
 have mk : ∀ w' : World,zcj w w3 w' g3 (.cells #[.int .i64 a,.int .i64 r,.slice A2 bs.length c2,.slice A3 ps.length c3,.int .i64 x,.int .i64 y,.int .u64 z] 30 (0,0)) w3.heap.size (.cells #[.int .i64 a',.int .i64 r',.slice A4 bs'.length c4,.slice A5 ps'.length c5,.int .i64 x',.int .i64 y',.int .u64 z'] 30 (0,0)) → w'.cell? ⟨g3,0,none⟩ = some (.int .i64 a) ∧ w'.cell? ⟨g3,1,none⟩ = some (.int .i64 r) ∧ w'.cell? ⟨g3,2,none⟩ = some (.slice A2 bs.length c2) ∧ w'.cell? ⟨g3,3,none⟩ = some (.slice A3 ps.length c3) ∧ w'.cell? ⟨g3,4,none⟩ = some (.int .i64 x) ∧ w'.cell? ⟨g3,5,none⟩ = some (.int .i64 y) ∧ w'.cell? ⟨g3,6,none⟩ = some (.int .u64 z) ∧ w'.cell? ⟨w3.heap.size,0,none⟩ = some (.int .i64 a') ∧ w'.cell? ⟨w3.heap.size,1,none⟩ = some (.int .i64 r') ∧ w'.cell? ⟨w3.heap.size,2,none⟩ = some (.slice A4 bs'.length c4) ∧ w'.cell? ⟨w3.heap.size,3,none⟩ = some (.slice A5 ps'.length c5) ∧ w'.cell? ⟨w3.heap.size,4,none⟩ = some (.int .i64 x') ∧ w'.cell? ⟨w3.heap.size,5,none⟩ = some (.int .i64 y') ∧ w'.cell? ⟨w3.heap.size,6,none⟩ = some (.int .u64 z') ∧ zcj w w3 w' g3 (.cells #[.int .i64 a,.int .i64 r,.slice A2 bs.length c2,.slice A3 ps.length c3,.int .i64 x,.int .i64 y,.int .u64 z] 30 (0,0)) w3.heap.size (.cells #[.int .i64 a',.int .i64 r',.slice A4 bs'.length c4,.slice A5 ps'.length c5,.int .i64 x',.int .i64 y',.int .u64 z'] 30 (0,0)) := fun w' h => ⟨(zb h.c3 0).trans rfl,(zb h.c3 1).trans rfl,(zb h.c3 2).trans rfl,(zb h.c3 3).trans rfl,(zb h.c3 4).trans rfl,(zb h.c3 5).trans rfl,(zb h.c3 6).trans rfl,(zb h.c12 0).trans rfl,(zb h.c12 1).trans rfl,(zb h.c12 2).trans rfl,(zb h.c12 3).trans rfl,(zb h.c12 4).trans rfl,(zb h.c12 5).trans rfl,(zb h.c12 6).trans rfl,h⟩
 have MK := za.mk mk
 have LM : ∀ w' : World,(w'.cell? ⟨g3,0,none⟩ = some (.int .i64 a) ∧ w'.cell? ⟨g3,1,none⟩ = some (.int .i64 r) ∧ w'.cell? ⟨g3,2,none⟩ = some (.slice A2 bs.length c2) ∧ w'.cell? ⟨g3,3,none⟩ = some (.slice A3 ps.length c3) ∧ w'.cell? ⟨g3,4,none⟩ = some (.int .i64 x) ∧ w'.cell? ⟨g3,5,none⟩ = some (.int .i64 y) ∧ w'.cell? ⟨g3,6,none⟩ = some (.int .u64 z) ∧ w'.cell? ⟨w3.heap.size,0,none⟩ = some (.int .i64 a') ∧ w'.cell? ⟨w3.heap.size,1,none⟩ = some (.int .i64 r') ∧ w'.cell? ⟨w3.heap.size,2,none⟩ = some (.slice A4 bs'.length c4) ∧ w'.cell? ⟨w3.heap.size,3,none⟩ = some (.slice A5 ps'.length c5) ∧ w'.cell? ⟨w3.heap.size,4,none⟩ = some (.int .i64 x') ∧ w'.cell? ⟨w3.heap.size,5,none⟩ = some (.int .i64 y') ∧ w'.cell? ⟨w3.heap.size,6,none⟩ = some (.int .u64 z') ∧ zcj w w3 w' g3 (.cells #[.int .i64 a,.int .i64 r,.slice A2 bs.length c2,.slice A3 ps.length c3,.int .i64 x,.int .i64 y,.int .u64 z] 30 (0,0)) w3.heap.size (.cells #[.int .i64 a',.int .i64 r',.slice A4 bs'.length c4,.slice A5 ps'.length c5,.int .i64 x',.int .i64 y',.int .u64 z'] 30 (0,0))) → zcj w w3 w' g3 (.cells #[.int .i64 a,.int .i64 r,.slice A2 bs.length c2,.slice A3 ps.length c3,.int .i64 x,.int .i64 y,.int .u64 z] 30 (0,0)) w3.heap.size (.cells #[.int .i64 a',.int .i64 r',.slice A4 bs'.length c4,.slice A5 ps'.length c5,.int .i64 x',.int .i64 y',.int .u64 z'] 30 (0,0)) := fun w' h => h.2.2.2.2.2.2.2.2.2.2.2.2.2.2
 clear mk
 go_region_held3 (fun w' => w'.cell? ⟨g3,0,none⟩ = some (.int .i64 a) ∧ w'.cell? ⟨g3,1,none⟩ = some (.int .i64 r) ∧ w'.cell? ⟨g3,2,none⟩ = some (.slice A2 bs.length c2) ∧ w'.cell? ⟨g3,3,none⟩ = some (.slice A3 ps.length c3) ∧ w'.cell? ⟨g3,4,none⟩ = some (.int .i64 x) ∧ w'.cell? ⟨g3,5,none⟩ = some (.int .i64 y) ∧ w'.cell? ⟨g3,6,none⟩ = some (.int .u64 z) ∧ w'.cell? ⟨w3.heap.size,0,none⟩ = some (.int .i64 a') ∧ w'.cell? ⟨w3.heap.size,1,none⟩ = some (.int .i64 r') ∧ w'.cell? ⟨w3.heap.size,2,none⟩ = some (.slice A4 bs'.length c4) ∧ w'.cell? ⟨w3.heap.size,3,none⟩ = some (.slice A5 ps'.length c5) ∧ w'.cell? ⟨w3.heap.size,4,none⟩ = some (.int .i64 x') ∧ w'.cell? ⟨w3.heap.size,5,none⟩ = some (.int .i64 y') ∧ w'.cell? ⟨w3.heap.size,6,none⟩ = some (.int .u64 z') ∧ zcj w w3 w' g3 (.cells #[.int .i64 a,.int .i64 r,.slice A2 bs.length c2,.slice A3 ps.length c3,.int .i64 x,.int .i64 y,.int .u64 z] 30 (0,0)) w3.heap.size (.cells #[.int .i64 a',.int .i64 r',.slice A4 bs'.length c4,.slice A5 ps'.length c5,.int .i64 x',.int .i64 y',.int .u64 z'] 30 (0,0))) ((first | exact MK.out _ M0.out.drew | exact MK.out _ M0.out | (exact MK.out _ ((show zcj w w3 _ g3 _ _ _ from (‹_ ∧ _ ∧ _ ∧ _ ∧ _ ∧ _ ∧ _ ∧ _ ∧ _ ∧ _ ∧ _ ∧ _ ∧ _ ∧ _ ∧ zcj w w3 _ g3 _ _ _›).2.2.2.2.2.2.2.2.2.2.2.2.2.2).step hbw)) | assumption)) ((first | (go_at_call 10;(with_reducible refine (zdM.calls k6 a r _ _ bs _ _ ps x y z a' r' _ _ bs' _ _ ps' x' y' z' q _ (Kd.C_below R2.out (LM _ ‹_›).b) M2.out (Kd.C_below R3.out (LM _ ‹_›).b) M3.out (Kd.C_below R4.out (LM _ ‹_›).b8) M4.out (Kd.C_below R5.out (LM _ ‹_›).b8) M5.out H6.out).mono ?_);rintro e w1 ⟨rfl,hbw⟩) | (go_at_call 9;(with_reducible refine (zbi.calls k7 a r _ _ bs _ _ ps x y z a' r' _ _ bs' _ _ ps' x' y' z' q _ (Kd.C_below R2.out (LM _ ‹_›).b) M2.out (Kd.C_below R3.out (LM _ ‹_›).b) M3.out (Kd.C_below R4.out (LM _ ‹_›).b8) M4.out (Kd.C_below R5.out (LM _ ‹_›).b8) M5.out H7.out).mono ?_);rintro e w1 ⟨rfl,hbw⟩) | (fail "no arm")))
 all_goals
  have HZ := za.mk (LM _ ‹_›).b
  go_wp2
  go_ret
  exact ⟨by first | rfl | (simp;done),HZ.out⟩
def zaQ.f (a r : Int) (bs : List S73) (ps : List ByteArray) (x y z : Int) (s : ByteArray) (n : Int) : Option Bool :=
 if s.size < 4611686018427387904 ∧ bs.length < 4611686018427387904 ∧ ze5 bs = true ∧ ps.length < 4611686018427387904 ∧ (ps.all fun t => decide (t.size < 4611686018427387904)) = true ∧ 0 ≤ z ∧ z < 18446744073709551616 then some true else none
theorem zaQ.calls (a0_0 : Int) (a0_1 : Int) (A0_2 : Option Addr) (c0_2 : Nat) (l0_2 : List (S73)) (A0_3 : Option Addr) (c0_3 : Nat) (l0_3 : List ByteArray) (a0_4 : Int) (a0_5 : Int) (a0_6 : Int) (s : ByteArray) (n : Int) (res : Bool) (w : World) (hr0_2 : Kd.C k73 w A0_2 l0_2.length l0_2) (hc0_2 : l0_2.length ≤ c0_2) (hr0_3 : Kd.C Kd.string w A0_3 l0_3.length l0_3) (hc0_3 : l0_3.length ≤ c0_3) (h : zaQ.f a0_0 a0_1 l0_2 l0_3 a0_4 a0_5 a0_6 s n = some res) :
  Calls Tryz.prog 3 #[.agg #[.int .i64 a0_0,.int .i64 a0_1,.slice A0_2 l0_2.length c0_2,.slice A0_3 l0_3.length c0_3,.int .i64 a0_4,.int .i64 a0_5,.int .u64 a0_6],.string s,.int .i64 n] w fun e w' => e = .returned (.bool res) ∧ Below w.heap.size w w' := by
 unfold zaQ.f at h
 split at h
 ·rename_i hh
  obtain rfl := Option.some.inj h
  obtain ⟨hs,hb,hbs,hp,hps,z0,z1⟩ := hh
  obtain ⟨z,rfl⟩ := Int.eq_ofNat_of_zero_le z0
  have hz : z < 18446744073709551616 := by omega
  have hbs' : ∀ b ∈ l0_2,b.f2.length < 4611686018427387904 := fun b hb => of_decide_eq_true (List.all_eq_true.1 hbs b hb)
  have hps' : ∀ t ∈ l0_3,t.size < 4611686018427387904 := fun t ht => of_decide_eq_true (List.all_eq_true.1 hps t ht)
  obtain ⟨k0,e0⟩ := (shown10_ev).rounds
  have e1 := zg6 a0_0 a0_1 l0_2 l0_3 a0_4 a0_5 z hz n
  obtain ⟨k2,e2⟩ := (zft a0_0 a0_1 l0_2 l0_3 a0_4 a0_5 z hz n hb hbs' hp hps').rounds
  obtain ⟨k3,e3⟩ := (zim s n hs).rounds
  obtain ⟨k4,e4⟩ := (zgJ s n hs).rounds
  have sm : (zeP (ofB s) n).2.2.1.length < 4611686018427387904 ∧ (∀ b ∈ (zeP (ofB s) n).2.2.1,b.f2.length < 4611686018427387904) ∧ (zeP (ofB s) n).2.2.2.1.length < 4611686018427387904 := by
   by_cases ho : okP (ofB s) n
   ·rw [zfC ho];exact zfV _ _
   ·rw [zfB ho];exact ⟨by decide,fun b hb => (List.not_mem_nil hb).elim,by decide⟩
  generalize zgC a0_0 a0_1 l0_2 l0_3 a0_4 a0_5 z n = pr at *
  obtain ⟨t,e⟩ := pr
  generalize zeP (ofB s) n = pt at *
  obtain ⟨a',r',bs',ps',x',y',z',g⟩ := pt
  obtain ⟨k5,e5⟩ := (zea a' r' bs' ps' x' y' z' a' r' bs' ps' x' y' z' sm.1 sm.2.1 sm.2.2).rounds
  obtain ⟨k6,e6⟩ := (zil a0_0 a0_1 l0_2 l0_3 a0_4 a0_5 z a' r' bs' ps' x' y' z' hbs hp).rounds
  obtain ⟨k7,e7⟩ := (zea a0_0 a0_1 l0_2 l0_3 a0_4 a0_5 z a' r' bs' ps' x' y' z' hb hbs' hp).rounds
  exact zaQ.walk s n w k0 k2 k3 k4 k5 k6 k7 _ _ _ _ _ _ _ _ _ _ _ _ _ _ _ _ _ _ _ _ _ _ hr0_2 hc0_2 hr0_3 hc0_3 e0 e1 e2 e3 e4 (e5.trans (show some (zeB _ _ _ _ _ _ _ _ _ _ _ _ _ _) = some true by simp [zeB,zdv])) e6 e7
 ·cases h
end Go.Proofs.YtfhbeonhnhjikaaGreat.Px