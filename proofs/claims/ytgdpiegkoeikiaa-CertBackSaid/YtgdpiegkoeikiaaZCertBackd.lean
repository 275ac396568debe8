/- Part 30 of 30 of the proof of the law CertBack: what is proved is the statement at the end of the last part; its conditions are those of the given row. -/
import Derived.ProofKit
import Derived.OpenShut
import Derived.ShutString
import Derived.ChangeOld
import Derived.JoinedCond
import Derived.Carry
import Derived.WideShapes
import Derived.Test.YtgdpiegkoeikiaaZCertBackc
namespace Go.Proofs.Ytgdpiegkoeikiaa.Px
open Go.RowKit Go.Proofs.YtgdpiegkoeikiaaW.PrintWords Go.Proofs.YtgdpiegkoeikiaaW.PrintLast Go.Proofs.YtgdpiegkoeikiaaW.PrintMore
attribute [local go_sem] zx zz zJ zK zn zo zy zA
set_option linter.unusedVariables false
set_option linter.unusedSimpArgs false
abbrev PT := Int × Int × List zW × List ByteArray × Int × Int × Int × Int
def zeQ : PT := (0,0,[],[],0,0,0,3)
def pA (s : Bs) : Bs × Bs × Int := zaB s 65536
def pB (s : Bs) : Nat × Bs × Int := zR (pA s).2.1
def pV (s : Bs) (n : Int) : VT := zeM (pA s).1 n
def pFit (s : Bs) (n : Int) : Int := zco (pV s n).1 (pV s n).2.1 (pV s n).2.2.1 (pV s n).2.2.2.1 (pV s n).2.2.2.2.1 (pV s n).2.2.2.2.2.1 (pB s).1 n
def okP (s : Bs) (n : Int) : Prop := (pA s).2.2 = 0 ∧ (pB s).2.2 = 0 ∧ (pV s n).2.2.2.2.2.2 = 0 ∧ (pB s).2.1 = [] ∧ pFit s n = 0
instance decOkP (s : Bs) (n : Int) : Decidable (okP s n) := by unfold okP;infer_instance
def zdY (s : Bs) (n : Int) : PT := if okP s n then ((pV s n).1,(pV s n).2.1,(pV s n).2.2.1,(pV s n).2.2.2.1,(pV s n).2.2.2.2.1,(pV s n).2.2.2.2.2.1,((pB s).1 : Int),0) else zeQ
theorem ze5 {s : Bs} {n : Int} (h : okP s n) : zdY s n = ((pV s n).1,(pV s n).2.1,(pV s n).2.2.1,(pV s n).2.2.2.1,(pV s n).2.2.2.2.1,(pV s n).2.2.2.2.2.1,((pB s).1 : Int),0) := if_pos h
theorem zgU {s : Bs} {n : Int} (h : ¬ okP s n) : zdY s n = zeQ := if_neg h
theorem takeP_ok (s : Bs) (n : Int) : zdY s n = zeQ ∨ ∃ a r bs ps x y,∃ z : Nat,zdY s n = (a,r,bs,ps,x,y,(z : Int),0) ∧ zco a r bs ps x y z n = 0 ∧ z < 18446744073709551616 ∧ s = zbY a r bs ps x y z := by
 by_cases h : okP s n
 ·refine .inr ⟨_,_,_,_,_,_,_,ze5 h,h.2.2.2.2,?_,?_⟩
  ·exact zb2 _
  ·obtain ⟨h1,h2,h3,h4,h5⟩ := h
   obtain ⟨e1,_,_⟩ := zeK (s := s) (t := (pA s).1) (r := (pA s).2.1) (most := 65536) (by rw [← h1];rfl)
   obtain ⟨e2,_⟩ := zbK (s := (pA s).2.1) (v := (pB s).1) (r := (pB s).2.1) (by rw [← h2];rfl)
   rcases takeV_ok (pA s).1 n with h6 | ⟨a,r,bs,ps,x,y,h6,hm,h7⟩
   ·exfalso
    rw [show zeM (pA s).1 n = pV s n from rfl] at h6
    rw [h6] at h3;exact absurd h3 (by decide)
   ·have h6' : pV s n = (a,r,bs,ps,x,y,0) := h6
    rw [h6']
    simp only
    rw [h4,List.append_nil] at e2
    rw [zbY,← h7,← e2,← e1]
 ·exact .inl (zgU h)
theorem zhX {a r : Int} {bs : List zW} {ps : List ByteArray} {x y n : Int} {z : Nat} (h : zco a r bs ps x y z n = 0) (hz : z < 18446744073709551616) : zdY (zbY a r bs ps x y z) n = (a,r,bs,ps,x,y,(z : Int),0) := by
 have hm := (zcA.1 h).1
 have hl : (zaC a r bs ps x y).length ≤ 65536 := by
  obtain ⟨h0,h1,h2,h3,h4,h5,h6,h7,h8,h9⟩ := (zbX ..).1 hm
  obtain ⟨k1,k2,k3⟩ := (zbQ n).1 h0
  obtain ⟨x1,x2,y1,y2⟩ := (zcq x y).1 h7
  have r1 := zfJ h5
  have r2 := zfK (za7 h0 h9)
  have l3 := zam (v := a.toNat) (by omega)
  have l4 := zam (v := r.toNat) (by omega)
  have l5 := zam (v := x.toNat) (by omega)
  have l6 := zam (v := y.toNat) (by omega)
  rw [zaC]
  simp only [List.length_append]
  omega
 have e1 : pA (zbY a r bs ps x y z) = (zaC a r bs ps x y,zbx z,0) := by
  have := zdZ (t := toB (zaC a r bs ps x y)) (most := 65536) (by rw [zX];omega) (by rw [zX];omega) (zbx z)
  rw [zat] at this
  exact this
 have e2 : pB (zbY a r bs ps x y z) = (z,[],0) := by
  rw [pB,e1]
  have := zbA hz []
  rwa [List.append_nil] at this
 have e3 : pV (zbY a r bs ps x y z) n = (a,r,bs,ps,x,y,0) := by
  rw [pV,e1];exact zht hm
 have ho : okP (zbY a r bs ps x y z) n := by
  unfold okP pFit
  rw [e1,e2,e3]
  exact ⟨rfl,rfl,rfl,rfl,h⟩
 rw [ze5 ho,e2,e3]
theorem zei {a r : Int} {bs : List zW} {ps : List ByteArray} {x y n a' r' : Int} {bs' : List zW} {ps' : List ByteArray} {x' y' n' : Int} {z z' : Nat} (h : za6 a r bs ps x y n = true) (hz : z < 18446744073709551616) (h' : za6 a' r' bs' ps' x' y' n' = true) (hz' : z' < 18446744073709551616) {s t : Bs} (e : zbY a r bs ps x y z ++ s = zbY a' r' bs' ps' x' y' z' ++ t) :
  a = a' ∧ r = r' ∧ bs = bs' ∧ ps = ps' ∧ x = x' ∧ y = y' ∧ z = z' ∧ s = t := by
 have l1 := zd2 h
 have l2 := zd2 h'
 rw [zbY,zbY,zbV,zbV] at e
 simp only [List.append_assoc] at e
 obtain ⟨e1,e⟩ := zbv (by omega) (by omega) e
 obtain ⟨e2,e⟩ := List.append_inj e e1
 obtain ⟨e3,e4⟩ := zbv hz hz' e
 obtain ⟨k1,k2,k3,k4,k5,k6,_⟩ := zgi h h' (s := []) (t := []) (by rw [e2])
 exact ⟨k1,k2,k3,k4,k5,k6,e3,e4⟩
theorem zgf {s : Bs} {n : Int} (h : ∀ a r bs ps x y,∀ z : Nat,zco a r bs ps x y z n = 0 → z < 18446744073709551616 → s ≠ zbY a r bs ps x y z) : zdY s n = zeQ := by
 rcases takeP_ok s n with h0 | ⟨a,r,bs,ps,x,y,z,_,hm,hz,he⟩
 ·exact h0
 ·exact absurd he (h a r bs ps x y z hm hz)
def refNn (s : Bs) : Nat × Bs × Int := zR (zR s).2.1
def refAa (s : Bs) : List ByteArray × Bs × Int := zaq (refNn s).2.1 4 400
def refBb (s : Bs) : List ByteArray × Bs × Int := zaq (refAa s).2.1 64 32
def refC3 (s : Bs) : Nat × Bs × Int := zR (refBb s).2.1
def refC4 (s : Bs) : Nat × Bs × Int := zR (refC3 s).2.1
def okR (s : Bs) : Prop := (zR s).2.2 = 0 ∧ (refNn s).2.2 = 0 ∧ (zR s).1 ≤ 64 ∧ (refNn s).1 ≤ 1048576 ∧ (refAa s).2.2 = 0 ∧ (refBb s).2.2 = 0 ∧ (refC3 s).2.2 = 0 ∧ (refC3 s).1 ≤ 10006 ∧ (refC4 s).2.2 = 0 ∧ (refC4 s).1 ≤ 10006 ∧ (refC4 s).2.1 = []
instance decOkR (s : Bs) : Decidable (okR s) := by unfold okR;infer_instance
theorem zgg (s : Bs) (most : Int) : (zaB s most).1.length ≤ s.length ∧ (zaB s most).2.1.length ≤ s.length := by
 have hl := zb1 s
 unfold zaB zcH
 split
 ·unfold zbF
  split
  ·exact ⟨Nat.zero_le _,Nat.zero_le _⟩
  ·split
   ·exact ⟨Nat.zero_le _,Nat.zero_le _⟩
   ·simp only [List.length_take,List.length_drop];omega
 ·exact ⟨Nat.zero_le _,Nat.zero_le _⟩
theorem zdL (s : ByteArray) (n : Int) (hs : s.size < 4611686018427387904) : Ev (fun k => zaW.f k s n) (zdY (ofB s) n) := by
 have l0 : (ofB s).length < 4611686018427387904 := by rw [zab];exact hs
 obtain ⟨l1,l2⟩ := zgg (ofB s) 65536
 have t1 := zfl s 65536 hs (by decide)
 have t2 := zcF (toB (pA (ofB s)).2.1) (by rw [zX];exact Nat.lt_of_le_of_lt l2 l0)
 have t3 := zgC (toB (pA (ofB s)).1) n (by rw [zX];exact Nat.lt_of_le_of_lt l1 l0)
 simp only [zca,zat] at t2 t3
 refine Ev.bind t1 (Ev.bind t2 (Ev.bind t3 ?_))
 have bad : ¬ okP (ofB s) n → zdY (ofB s) n = zeQ := zgU
 show Ev (fun k => if (pA (ofB s)).2.2 = 0 then (if (pB (ofB s)).2.2 = 0 then (if (pV (ofB s) n).2.2.2.2.2.2 = 0 then (if (toB (pB (ofB s)).2.1).toList = ([] : List UInt8) then ((zaM.f (pV (ofB s) n).1 (pV (ofB s) n).2.1 (pV (ofB s) n).2.2.1 (pV (ofB s) n).2.2.2.1 (pV (ofB s) n).2.2.2.2.1 (pV (ofB s) n).2.2.2.2.2.1 ((pB (ofB s)).1 : Int) n).bind fun t => if t = 0 then some ((pV (ofB s) n).1,(pV (ofB s) n).2.1,(pV (ofB s) n).2.2.1,(pV (ofB s) n).2.2.2.1,(pV (ofB s) n).2.2.2.2.1,(pV (ofB s) n).2.2.2.2.2.1,((pB (ofB s)).1 : Int),0) else some zeQ) else some zeQ) else some zeQ) else some zeQ) else some zeQ) _
 by_cases h1 : (pA (ofB s)).2.2 = 0
 ·refine zF h1 ?_
  by_cases h2 : (pB (ofB s)).2.2 = 0
  ·refine zF h2 ?_
   by_cases h3 : (pV (ofB s) n).2.2.2.2.2.2 = 0
   ·refine zF h3 ?_
    by_cases h4 : (pB (ofB s)).2.1 = []
    ·refine zF (by rw [zbo,zat];exact h4) (zac (zdq _ _ _ _ _ _ _ (zb2 _) _) ?_)
     by_cases h5 : pFit (ofB s) n = 0
     ·exact zF h5 (zap (Ev.now _) (ze5 ⟨h1,h2,h3,h4,h5⟩).symm)
     ·exact zU h5 (zap (Ev.now _) (bad (fun hh => h5 hh.2.2.2.2)).symm)
    ·exact zU (by rw [zbo,zat];exact h4) (zap (Ev.now _) (bad (fun hh => h4 hh.2.2.2.1)).symm)
   ·exact zU h3 (zap (Ev.now _) (bad (fun hh => h3 hh.2.2.1)).symm)
  ·exact zU h2 (zap (Ev.now _) (bad (fun hh => h2 hh.2.1)).symm)
 ·exact zU h1 (zap (Ev.now _) (bad (fun hh => h1 hh.1)).symm)
def zhh (a r : Int) (bs : List zW) (ps : List ByteArray) (x y z a' r' : Int) (bs' : List zW) (ps' : List ByteArray) (x' y' z' : Int) : Bool := zd1 a r bs ps x y a' r' bs' ps' x' y' && (z == z')
theorem zfv (a r : Int) (bs : List zW) (ps : List ByteArray) (x y z a' r' : Int) (bs' : List zW) (ps' : List ByteArray) (x' y' z' : Int) (hb : bs.length < 4611686018427387904) (hs : ∀ b ∈ bs,b.f2.length < 4611686018427387904) (hp : ps.length < 4611686018427387904) :
  Ev (fun k => zaK.f k a r bs ps x y z a' r' bs' ps' x' y' z') (zhh a r bs ps x y z a' r' bs' ps' x' y' z') := by
 refine Ev.bind (zeY a r bs ps x y a' r' bs' ps' x' y' hb hs hp) ?_
 unfold zhh
 by_cases h : zd1 a r bs ps x y a' r' bs' ps' x' y' = true
 ·exact zF h (zap (Ev.now _) (by rw [h];simp))
 ·rw [Bool.not_eq_true] at h
  exact zU (by rw [h];simp) (zap (Ev.now _) (by rw [h];simp))
theorem zcC {x : Int} (h0 : 0 ≤ x) (h1 : x < 9223372036854775808) : Ev (fun k => zr.f k (IntKind.u64.wrap x)) (zbt x.toNat) := by
 obtain ⟨n,rfl⟩ := Int.eq_ofNat_of_zero_le h0
 rw [za4 (by omega) (by omega),Int.toNat_natCast]
 exact zeX n (by omega)
def zg0 (o q : Int) (l : List ByteArray) : ByteArray × Int := if zcB o q l = true then (toB (zce o q l),0) else ((⟨#[]⟩ : ByteArray),1)
theorem zeW (o q : Int) (l : List ByteArray) (hl : l.length < 4611686018427387904) : Ev (fun k => zah.f k o q l) (zg0 o q l) := by
 refine Ev.bind (zgP _ _ _ hl) ?_
 unfold zg0
 by_cases h : zcB o q l = true
 ·rw [if_pos h]
  obtain ⟨h1,h2,h3,h4,h5,h6,h7⟩ := (zcN o q l).1 h
  have r1 := zc5 l 48 (by omega) (fun t ht => (h7 t ht).2)
  have r2 := zam (v := l.length) (by omega)
  have r3 : (zbq l).length ≤ 300 := by rw [zbq,List.length_append];omega
  have n1 := zaX (v := o.toNat) (by omega)
  have n2 := zaX (v := q.toNat) (by omega)
  have r4 : zS.f l = some (toB (zbq l)) := if_pos (by omega)
  refine zF h (Ev.bind (zcC (by omega) (by omega)) (Ev.bind (zcC (by omega) (by omega)) (zF (by omega) (zac r4 (zF (by rw [ByteArray.size_append,zX];omega) (zap (Ev.now _) ?_))))))
  rw [zce,za9,za9];rfl
 ·rw [if_neg h];exact zU h (Ev.now _)
theorem zh4 (b : zW) : (zg0 b.f0 b.f1 b.f2).1 = bB b := by
 unfold zg0 bB;split <;> rfl
def zhx (a r : Int) (bs : List zW) (ps : List ByteArray) (x y n : Int) : ByteArray × Int := if za6 a r bs ps x y n = true then (toB (zaC a r bs ps x y),0) else ((⟨#[]⟩ : ByteArray),1)
theorem zhl {a r : Int} {bs : List zW} {ps : List ByteArray} {x y n : Int} (h : za6 a r bs ps x y n = true) (d : Nat) : ∀ j,j + d = bs.length →
  Ev (fun k => zv.l0 k ((bs.take j).map bB) (j : Int) a r bs ps x y) (toB (zaC a r bs ps x y),0) := by
 obtain ⟨h0,h1,h2,h3,h4,h5,h6,h7,h8,h9⟩ := (zbX ..).1 h
 obtain ⟨k1,k2,k3⟩ := (zbQ n).1 h0
 obtain ⟨x1,x2,y1,y2⟩ := (zcq x y).1 h7
 induction d with
 | zero =>
  intro j hj
  refine Ev.step (fun k => by rw [zv.l0]) ?_
  rw [List.take_of_length_le (by omega)]
  have s0 := zaX (v := a.toNat) (by omega)
  have s1 := zaX (v := r.toNat) (by omega)
  have s2 := zaX (v := x.toNat) (by omega)
  have s3 := zaX (v := y.toNat) (by omega)
  have r1 := zfJ h5
  have r2 := zfK (za7 h0 h9)
  have d1 : zS.f (bs.map bB) = some (toB (zbq (bs.map bB))) := if_pos (by omega)
  have d2 : zS.f ps = some (toB (zbq ps)) := if_pos (by omega)
  refine zU (by omega) (Ev.bind (zcC (by omega) (by omega)) (Ev.bind (zcC (by omega) (by omega)) (zF (by omega) (zac d1 (zF (by simp only [ByteArray.size_append,zX];omega) (zac d2 (zF (by simp only [ByteArray.size_append,zX];omega)
   (Ev.bind (zcC (by omega) (by omega)) (zF (by simp only [ByteArray.size_append,zX];omega) (Ev.bind (zcC (by omega) (by omega)) (zF (by simp only [ByteArray.size_append,zX];omega) (zap (Ev.now _) ?_))))))))))))
  simp only [zaC,zbt,za9]
 | succ d ih =>
  intro j hj
  have hj' : j < bs.length := by omega
  refine Ev.step (fun k => by rw [zv.l0]) ?_
  refine zF (by omega) (zF (by omega) ?_)
  rw [zda bs j hj',zak (by omega) (by omega)]
  have hl := (zh9 h).2.1 _ (List.getElem_mem hj')
  refine Ev.bind (zeW _ _ _ hl) (zF (by rw [List.length_map,List.length_take];omega) ?_)
  rw [zh4]
  have e : (bs.take j).map bB ++ [bB bs[j]] = (bs.take (j + 1)).map bB := by
   rw [List.take_succ_eq_append_getElem hj',List.map_append];rfl
  rw [e]
  exact ih (j + 1) (by omega)
theorem zeH (a r : Int) (bs : List zW) (ps : List ByteArray) (x y n : Int) (hb : bs.length < 4611686018427387904) (hbs : ∀ b ∈ bs,b.f2.length < 4611686018427387904) (hl : ps.length < 4611686018427387904) (hp : ∀ t ∈ ps,t.size < 4611686018427387904) :
  Ev (fun k => zv.f k a r bs ps x y n) (zhx a r bs ps x y n) := by
 refine Ev.bind (zim a r bs ps x y n hb hbs hl hp) ?_
 unfold zhx
 by_cases h : za6 a r bs ps x y n = true
 ·rw [if_pos h]
  exact zF h (zap (zhl h bs.length 0 (by omega)) rfl)
 ·rw [if_neg h];exact zU h (Ev.now _)
theorem ziq {s : ByteArray} (h : s.size ≤ 10000) : zcL.f s = some (zgc s) := by rw [zcL.f,if_pos (by omega)]
theorem ziQ {s : ByteArray} (h : s.size ≤ 10000) : zaP.f s = some (zgc s) := by rw [zaP.f,if_pos (by omega)]
theorem zhM (b : UInt8) (s : ByteArray) : ((⟨#[b]⟩ : ByteArray) ++ s).size = 1 + s.size := by rw [ByteArray.size_append];rfl
theorem zdz {a r : Int} {bs : List zW} {ps : List ByteArray} {x y n : Int} (h : za6 a r bs ps x y n = true) : (toB (zaC a r bs ps x y)).size ≤ 5000 := by
 obtain ⟨h0,h1,h2,h3,h4,h5,h6,h7,h8,h9⟩ := (zbX ..).1 h
 obtain ⟨k1,k2,k3⟩ := (zbQ n).1 h0
 obtain ⟨x1,x2,y1,y2⟩ := (zcq x y).1 h7
 have r1 := zfJ (bs := bs) (by omega)
 have r2 := zfK (za7 h0 h9)
 have r3 := zam (v := a.toNat) (by omega)
 have r4 := zam (v := r.toNat) (by omega)
 have r5 := zam (v := x.toNat) (by omega)
 have r6 := zam (v := y.toNat) (by omega)
 rw [zX,zaC]
 simp only [List.length_append]
 omega
def zb3 (a r : Int) (bs : List zW) (ps : List ByteArray) (x y n : Int) : ByteArray × Int := if za6 a r bs ps x y n = true then (zgc ((⟨#[118]⟩ : ByteArray) ++ toB (zaC a r bs ps x y)),0) else ((⟨#[]⟩ : ByteArray),1)
theorem ze7 (a r : Int) (bs : List zW) (ps : List ByteArray) (x y n : Int) : zbf.f a r bs ps x y n = some (zb3 a r bs ps x y n) := by
 unfold zbf.f zb3
 rw [zdG]
 simp only [Option.bind_some]
 by_cases h : za6 a r bs ps x y n = true
 ·have hs := zdz h
  rw [if_pos h,if_pos h,if_pos rfl,if_pos (by show 1 + (toB (zaC a r bs ps x y)).size ≤ _;omega)]
  show (zcL.f ((⟨#[118]⟩ : ByteArray) ++ toB (zaC a r bs ps x y))).bind _ = _
  rw [ziq (by rw [zhM];omega)]
  rfl
 ·rw [if_neg h,if_neg h,if_neg (by simp)]
theorem zeu (a r : Int) (bs : List zW) (ps : List ByteArray) (x y n : Int) (hb : bs.length < 4611686018427387904) (hbs : ∀ b ∈ bs,b.f2.length < 4611686018427387904) (hl : ps.length < 4611686018427387904) (hp : ∀ t ∈ ps,t.size < 4611686018427387904) :
  Ev (fun k => zaT.f k a r bs ps x y n) (zb3 a r bs ps x y n) := by
 unfold zaT.f
 refine Ev.bind (zeH a r bs ps x y n hb hbs hl hp) ?_
 unfold zhx zb3
 by_cases h : za6 a r bs ps x y n = true
 ·have hs := zdz h
  rw [if_pos h,if_pos h]
  refine zF rfl (zF (by show 1 + (toB (zaC a r bs ps x y)).size ≤ _;omega) ?_)
  refine zac (ziQ (s := (⟨#[118]⟩ : ByteArray) ++ toB (zaC a r bs ps x y)) (by rw [zhM];omega)) ?_
  exact Ev.now _
 ·rw [if_neg h,if_neg h]
  exact zU (by simp) (Ev.now _)
theorem zew : ∀ (d id s : Nat) (x : Int),x ∈ zdx d id s ↔ ∃ j,j < d ∧ s.testBit j = true ∧ x = ((id + j : Nat) : Int)
 | 0,id,s,x => by simp [zdx]
 | d + 1,id,s,x => by
  have ih := zew d (id + 1) (s / 2) x
  have t0 : s.testBit 0 = decide (s % 2 = 1) := Nat.testBit_zero s
  have ts : ∀ j,s.testBit (j + 1) = (s / 2).testBit j := fun j => Nat.testBit_succ s j
  constructor
  ·intro h
   have h' : (s % 2 = 1 ∧ x = (id : Int)) ∨ x ∈ zdx d (id + 1) (s / 2) := by
    rw [zdx] at h
    split at h
    ·rename_i h1
     rcases List.mem_cons.1 h with h2 | h2
     ·exact .inl ⟨h1,h2⟩
     ·exact .inr h2
    ·exact .inr h
   rcases h' with ⟨h1,h2⟩ | h2
   ·exact ⟨0,by omega,by rw [t0];simp [h1],by rw [h2];rfl⟩
   ·obtain ⟨j,hj,h3,h4⟩ := ih.1 h2
    exact ⟨j + 1,by omega,by rw [ts];exact h3,by rw [h4];congr 1;omega⟩
  ·rintro ⟨j,hj,h3,h4⟩
   rw [zdx]
   rcases j with _ | j
   ·rw [t0] at h3
    rw [if_pos (of_decide_eq_true h3)]
    exact List.mem_cons.2 (.inl h4)
   ·have : x ∈ zdx d (id + 1) (s / 2) := ih.2 ⟨j,by omega,by rw [← ts];exact h3,by rw [h4];congr 1;omega⟩
    split
    ·exact List.mem_cons.2 (.inr this)
    ·exact this
def zga (i : Int) (t : ByteArray) (b : List S86) : Bool := b.any fun x => decide (x.f0 = i ∧ x.f1 = t)
def zf1 (s : Nat) (i : Int) : Nat := if 1 ≤ i ∧ i ≤ 64 then s ||| 2 ^ (i.toNat - 1) else s
def byN (t : ByteArray) : List S86 → Nat → Nat
 | [],s => s
 | x :: b,s => byN t b (if x.f1 = t then zf1 s x.f0 else s)
theorem ziC {s : Nat} (h : s < 18446744073709551616) (i : Int) : zf1 s i < 18446744073709551616 := by
 unfold zf1
 split
 ·have h1 : s < 2 ^ 64 := h
  have h2 : 2 ^ (i.toNat - 1) < 2 ^ 64 := Nat.pow_lt_pow_right (by decide) (by omega)
  exact Nat.or_lt_two_pow h1 h2
 ·exact h
theorem byN_lt (t : ByteArray) : ∀ (b : List S86) (s : Nat),s < 18446744073709551616 → byN t b s < 18446744073709551616
 | [],_,h => h
 | x :: b,s,h => by
  rw [byN]
  refine byN_lt t b _ ?_
  split
  ·exact ziC h _
  ·exact h
theorem putN_bit (s : Nat) (i : Int) (j : Nat) : (zf1 s i).testBit j = true ↔ s.testBit j = true ∨ (i = ((j + 1 : Nat) : Int) ∧ j < 64) := by
 unfold zf1
 split
 ·rename_i h
  rw [Nat.testBit_or,Nat.testBit_two_pow,Bool.or_eq_true,decide_eq_true_eq]
  constructor
  ·rintro (h1 | h1)
   ·exact .inl h1
   ·exact .inr ⟨by omega,by omega⟩
  ·rintro (h1 | h1)
   ·exact .inl h1
   ·exact .inr (by omega)
 ·rename_i h
  constructor
  ·exact fun h1 => .inl h1
  ·rintro (h1 | h1)
   ·exact h1
   ·exact absurd ⟨by omega,by omega⟩ h
theorem zg5 (t : ByteArray) : ∀ (b : List S86) (s j : Nat),(byN t b s).testBit j = true ↔ s.testBit j = true ∨ (zga ((j + 1 : Nat) : Int) t b = true ∧ j < 64)
 | [],s,j => by simp [byN,zga]
 | x :: b,s,j => by
  rw [byN,zg5 t b]
  rw [show zga ((j + 1 : Nat) : Int) t (x :: b) = (decide (x.f0 = ((j + 1 : Nat) : Int) ∧ x.f1 = t) || zga ((j + 1 : Nat) : Int) t b) from rfl,Bool.or_eq_true,decide_eq_true_eq]
  split
  ·rename_i h
   rw [putN_bit]
   constructor
   ·rintro ((h1 | ⟨h1,h2⟩) | ⟨h1,h2⟩)
    ·exact .inl h1
    ·exact .inr ⟨.inl ⟨h1,h⟩,h2⟩
    ·exact .inr ⟨.inr h1,h2⟩
   ·rintro (h1 | ⟨h1 | h1,h2⟩)
    ·exact .inl (.inl h1)
    ·exact .inl (.inr ⟨h1.1,h2⟩)
    ·exact .inr ⟨h1,h2⟩
  ·rename_i h
   constructor
   ·rintro (h1 | ⟨h1,h2⟩)
    ·exact .inl h1
    ·exact .inr ⟨.inr h1,h2⟩
   ·rintro (h1 | ⟨h1 | h1,h2⟩)
    ·exact .inl h1
    ·exact absurd h1.2 h
    ·exact .inr ⟨h1,h2⟩
def zgY (b : List S86) (s : Nat) (t : ByteArray) : Bool := (zdx 64 1 s).all fun id => zga id t b
theorem allS_iff {b : List S86} {s : Nat} {t : ByteArray} : zgY b s t = true ↔ ∀ j,j < 64 → s.testBit j = true → zga ((j + 1 : Nat) : Int) t b = true := by
 rw [zgY,List.all_eq_true]
 constructor
 ·intro h j hj hs
  exact h _ ((zew 64 1 s _).2 ⟨j,hj,hs,by rw [Nat.add_comm]⟩)
 ·intro h x hx
  obtain ⟨j,hj,hs,rfl⟩ := (zew 64 1 s x).1 hx
  have := h j hj hs
  rwa [Nat.add_comm] at this
theorem zhy (s m : Nat) (hs : s < 18446744073709551616) (hm : m < 18446744073709551616) : Go.bits .andNot .u64 (s : Int) (m : Int) = 0 ↔ ∀ j,j < 64 → s.testBit j = true → m.testBit j = true := by
 rw [u64_andNot_nat s m hs hm]
 have e : ((s &&& (18446744073709551615 - m) : Nat) : Int) = 0 ↔ (s &&& (18446744073709551615 - m)) = 0 := by omega
 have tb : ∀ j,(18446744073709551615 - m).testBit j = (decide (j < 64) && !m.testBit j) := fun j => by
  have := Nat.testBit_two_pow_sub_succ (x := m) (n := 64) hm j
  rwa [show 2 ^ 64 - (m + 1) = 18446744073709551615 - m by omega] at this
 rw [e]
 constructor
 ·intro h j hj h1
  have h2 : (s &&& (18446744073709551615 - m)).testBit j = false := by rw [h];exact Nat.zero_testBit j
  rw [Nat.testBit_and,tb,h1,decide_eq_true hj] at h2
  simpa using h2
 ·intro h
  apply Nat.eq_of_testBit_eq
  intro j
  rw [Nat.zero_testBit,Nat.testBit_and,tb]
  by_cases hj : j < 64
  ·cases h1 : s.testBit j
   ·simp
   ·rw [h j hj h1];simp
  ·simp [hj]
theorem all_by (b : List S86) (s : Nat) (hs : s < 18446744073709551616) (t : ByteArray) : decide (Go.bits .andNot .u64 (s : Int) ((byN t b 0 : Nat) : Int) = 0) = zgY b s t := by
 rw [Bool.eq_iff_iff,decide_eq_true_eq,zhy s _ hs (byN_lt t b 0 (by decide)),allS_iff]
 constructor
 ·intro h j hj h1
  have := (zg5 t b 0 j).1 (h j hj h1)
  rcases this with h2 | h2
  ·rw [Nat.zero_testBit] at h2;cases h2
  ·exact h2.1
 ·intro h j hj h1
  exact (zg5 t b 0 j).2 (.inr ⟨h j hj h1,hj⟩)
theorem zif (l : List S86) (j : Nat) (h : j < l.length) : zcf l (j : Int) = l[j] := by
 rw [zcf,Int.toNat_natCast,List.getD_eq_getElem?_getD,List.getElem?_eq_getElem h];rfl
theorem zhn (s : Nat) (hs : s < 18446744073709551616) (i : Int) : zcj.f (s : Int) i = some (if 1 ≤ i ∧ i ≤ 64 then (((zf1 s i : Nat) : Int),0) else (0,1)) := by
 by_cases hh : 1 ≤ i ∧ i ≤ 64
 ·have es : zbD.f i = some true := by unfold zbD.f;rw [if_pos hh.1,decide_eq_true hh.2]
  have e1 : wrap64 (i - 1) = ((i.toNat - 1 : Nat) : Int) := by rw [zak (by omega) (by omega)];omega
  have h3' : 2 ^ (i.toNat - 1) < 2 ^ 64 := Nat.pow_lt_pow_right (by decide) (by omega)
  have h3 : 2 ^ (i.toNat - 1) < 18446744073709551616 := h3'
  have e2 : shl .u64 1 ((i.toNat - 1 : Nat) : Int) = ((2 ^ (i.toNat - 1) : Nat) : Int) := by
   unfold shl
   rw [Int.toNat_natCast,Nat.min_eq_left (by show i.toNat - 1 ≤ 64;omega),Int.one_mul]
   have h4 : ((2 : Int) ^ (i.toNat - 1)) = ((2 ^ (i.toNat - 1) : Nat) : Int) := by rw [Int.natCast_pow];rfl
   rw [h4]
   generalize 2 ^ (i.toNat - 1) = p at h3 ⊢
   exact za4 (Int.natCast_nonneg _) (by omega)
  unfold zcj.f
  rw [es,show (if 1 ≤ i ∧ i ≤ 64 then (((zf1 s i : Nat) : Int),(0 : Int)) else (0,1)) = (((zf1 s i : Nat) : Int),0) from if_pos hh,Option.bind_some,if_pos rfl,e1,if_pos (Int.natCast_nonneg _),e2,u64_or_nat _ _ hs h3,zf1,if_pos hh]
 ·have es : zbD.f i = some false := by
   unfold zbD.f
   by_cases h1 : i ≥ 1
   ·rw [if_pos h1,decide_eq_false (fun h => hh ⟨h1,h⟩)]
   ·rw [if_neg h1]
  unfold zcj.f
  rw [es,show (if 1 ≤ i ∧ i ≤ 64 then (((zf1 s i : Nat) : Int),(0 : Int)) else (0,1)) = (0,1) from if_neg hh]
  rfl
theorem by_l0 (t : ByteArray) (b : List S86) (hb : b.length < 4611686018427387904) (d : Nat) : ∀ (j s : Nat),j + d = b.length → s < 18446744073709551616 → Ev (fun k => zbs.l0 k t (s : Int) b (b.length : Int) (j : Int)) ((byN t (b.drop j) s : Nat) : Int) := by
 induction d with
 | zero =>
  intro j s hj hs
  refine Ev.step (fun k => by rw [zbs.l0]) ?_
  rw [List.drop_of_length_le (by omega)]
  exact zU (by omega) (Ev.now _)
 | succ d ih =>
  intro j s hj hs
  refine Ev.step (fun k => by rw [zbs.l0]) ?_
  have hlt : j < b.length := by omega
  rw [zif b j hlt,List.drop_eq_getElem_cons hlt,byN,zak (by omega) (by omega)]
  refine zF (by omega) (zF (by omega) (zF (by omega) ?_))
  by_cases h : b[j].f1 = t
  ·rw [if_pos h]
   refine zF (by rw [h]) (zac (zhn s hs b[j].f0) ?_)
   by_cases h1 : 1 ≤ b[j].f0 ∧ b[j].f0 ≤ 64
   ·rw [if_pos h1]
    exact zF rfl (ih (j + 1) _ (by omega) (ziC hs _))
   ·rw [if_neg h1]
    refine zU (by simp) ?_
    rw [zf1,if_neg h1]
    exact ih (j + 1) s (by omega) hs
  ·rw [if_neg h]
   refine zU (fun hh => h ((zen _ _).1 hh)) (ih (j + 1) s (by omega) hs)
theorem zhz (b : List S86) (hb : b.length < 4611686018427387904) (s : Nat) (hs : s < 18446744073709551616) (t : ByteArray) : Ev (fun k => zb7.f k b (s : Int) t) (zgY b s t) := by
 refine Ev.bind (by_l0 t b hb b.length 0 0 (by omega) (by decide)) (zap (Ev.now _) ?_)
 rw [List.drop_zero,← all_by b s hs t]
 rfl
def zh1 (d : ByteArray) : ByteArray := (⟨#[121]⟩ : ByteArray) ++ d
def zfP (n : Int) (b : List S86) (a r : Int) (bs : List zW) (ps : List ByteArray) (x y : Int) (s : Nat) : Int :=
 if zco a r bs ps x y s n = 0 then (if zgY b s (zh1 (zb3 a r bs ps x y n).1) = true then 0 else 10) else zco a r bs ps x y s n
theorem zeN (a r : Int) (bs : List zW) (ps : List ByteArray) (x y n : Int) : (zb3 a r bs ps x y n).1.size ≤ 32 := by
 unfold zb3
 split
 ·exact Nat.le_of_eq (ziT _)
 ·exact Nat.zero_le _
theorem zef (n : Int) (b : List S86) (hb : b.length < 4611686018427387904) (a r : Int) (bs : List zW) (ps : List ByteArray) (x y : Int) (s : Nat) (hs : s < 18446744073709551616) :
  Ev (fun k => za1.f k n b a r bs ps x y (s : Int)) (zfP n b a r bs ps x y s) := by
 unfold za1.f zfP
 refine zac (zdq a r bs ps x y s hs n) ?_
 refine ev_ite (fun _ => ?_) (fun _ => Ev.now _)
 refine zac (ze7 ..) ?_
 have hz := zeN a r bs ps x y n
 refine zac (show za3.f (zb3 a r bs ps x y n).1 = some (zh1 (zb3 a r bs ps x y n).1) from if_pos (by omega)) ?_
 refine Ev.bind (zhz b hb s hs _) ?_
 exact ev_ite (fun _ => Ev.now _) (fun _ => Ev.now _)
theorem zhC {n : Int} {b : List S86} {a r : Int} {bs : List zW} {ps : List ByteArray} {x y : Int} {s : Nat} : zfP n b a r bs ps x y s = 0 ↔ zco a r bs ps x y s n = 0 ∧ zgY b s (zh1 (zb3 a r bs ps x y n).1) = true := by
 unfold zfP
 by_cases h : zco a r bs ps x y s n = 0
 ·rw [if_pos h]
  by_cases h2 : zgY b s (zh1 (zb3 a r bs ps x y n).1) = true
  ·rw [if_pos h2];simp [h,h2]
  ·rw [if_neg h2];simp [h2]
 ·rw [if_neg h];simp [h]
theorem zfi : za6 1 1 [] [] 0 0 4 = true := by
 rw [zbX]
 simp [zbQ,zcq,zb9]
theorem zgw : zco 1 1 [] [] 0 0 7 4 = 0 := by
 rw [zcA]
 exact ⟨zfi,by decide +kernel,by decide +kernel⟩
theorem zgv : zco 1 1 [] [] 0 0 3 4 = 2 := by
 unfold zco
 rw [if_pos zfi,if_pos (by decide +kernel),if_pos (by decide +kernel)]
theorem zgx : zdx 64 1 7 = [1,2,3] := by decide +kernel
theorem zhU (t : ByteArray) : zgY [(⟨1,t⟩ : S86),⟨2,t⟩,⟨3,t⟩] 7 t = true := by
 rw [zgY,zgx]
 simp [zga]
theorem zir : Ev (fun k => zaE.f k) true := by
 unfold zaE.f
 refine Ev.bind (zeu 1 1 [] [] 0 0 4 (by decide) (by simp) (by decide) (by simp)) ?_
 have hz := zeN 1 1 [] [] 0 0 4
 refine zF (by omega) ?_
 refine zac rfl ?_
 refine Ev.bind (zef 4 _ (by decide) 1 1 [] [] 0 0 7 (by decide)) ?_
 refine Ev.bind (zef 4 _ (by decide) 1 1 [] [] 0 0 3 (by decide)) ?_
 refine zac (show za3.f (zb3 1 1 [] [] 0 0 4).1 = some (zh1 (zb3 1 1 [] [] 0 0 4).1) from if_pos (by omega)) ?_
 refine zF rfl ?_
 refine zF ?_ (zap (Ev.now _) ?_)
 ·rw [zhC]
  exact ⟨zgw,zhU _⟩
 ·unfold zfP
  rw [zgv];rfl
end Go.Proofs.Ytgdpiegkoeikiaa.Px
namespace Go.Proofs.Ytgdpiegkoeikiaa.Pure
open Go.RowKit Go.Proofs.Ytgdpiegkoeikiaa.Px Go.Proofs.YtgdpiegkoeikiaaW.PrintWords Go.Proofs.YtgdpiegkoeikiaaW.PrintLast Go.Proofs.YtgdpiegkoeikiaaW.PrintMore
theorem CertBack : zcT := by
 rintro ⟨⟨a,r,bs,ps,⟨x,y⟩⟩,s⟩ n cut ⟨_,hs⟩ _ _ ⟨⟨_,_,⟨v1,v2⟩,⟨p1,p2⟩,_⟩,_⟩ _ _
 obtain ⟨s0,s1⟩ := u64_wf hs
 obtain ⟨s,rfl⟩ := Int.eq_ofNat_of_zero_le s0
 have hz : s < 18446744073709551616 := by have h : (s : Int) < 18446744073709551616 := s1;omega
 have k1 : bs.length < 4611686018427387904 := by have : bs.length * 40 ≤ 140737488351232 := v1;omega
 have k2 : ∀ b ∈ bs,b.f2.length < 4611686018427387904 := fun b hb => by
  obtain ⟨_,_,l1,_⟩ := v2 b hb
  have l1' : b.f2.length * 16 ≤ 140737488351232 := l1
  omega
 have k3 : ps.length < 4611686018427387904 := by have : ps.length * 16 ≤ 140737488351232 := p1;omega
 refine Ev.rounds (Ev.bind zir (zac (zgp a r bs ps x y s hz n) ?_))
 unfold zie
 by_cases h : zco a r bs ps x y s n = 0
 ·rw [if_pos h]
  have hm := (zcA.1 h).1
  have hl : (zbY a r bs ps x y s).length ≤ 100000 := by
   have hv := zdz hm
   rw [zX] at hv
   have l1 := zam (v := (zaC a r bs ps x y).length) (by omega)
   have l2 := zam hz
   rw [zbY,zbV]
   simp only [List.length_append]
   omega
  have t1 := zhX h hz
  generalize hV : zbY a r bs ps x y s = V at *
  have c1 : zdY (ofB (toB V)) n = (a,r,bs,ps,x,y,(s : Int),0) := by rw [zat];exact t1
  have z1 : (toB V).size = V.length := zX V
  refine zF rfl (Ev.bind (zdL _ _ (by rw [zX];omega)) ?_)
  rw [c1]
  refine Ev.bind (zfv _ _ _ _ _ _ _ _ _ _ _ _ _ _ k1 k2 k3) (zF (by rw [zX];omega) ?_)
  refine Ev.bind (zdL _ _ (by rw [ByteArray.size_append,zX];show _ + 1 < _;omega)) ?_
  have e0 : zdY (ofB (toB V ++ (⟨#[0]⟩ : ByteArray))) n = zeQ := by
   rw [zfY,zat]
   refine zgf (fun a' r' bs' ps' x' y' z' hm' hz' he => ?_)
   obtain ⟨_,_,_,_,_,_,_,h9⟩ := zei hm hz (zcA.1 hm').1 hz' (s := [0]) (t := []) (by rw [List.append_nil,hV];exact he)
   cases h9
  rw [e0]
  refine zF (by simp [zhh,zd1]) (zF rfl (Ev.step (fun k => by rw [zu.j0]) ?_))
  refine zU (by simp [zeQ]) ?_
  by_cases c2 : cut < 0
  ·exact zF c2 (Ev.now _)
  refine zU c2 ?_
  by_cases c3 : cut ≥ ((toB V).size : Int)
  ·exact zF c3 (Ev.now _)
  refine zU c3 (zF (by omega) (zF (show cut ≤ ((toB V).size : Int) by omega) ?_))
  rw [zX] at c3
  have ex : (toB V).extract 0 cut.toNat = toB (V.take cut.toNat) := by rw [zdN,List.drop_zero,Nat.sub_zero]
  rw [ex]
  refine Ev.bind (zdL _ _ (by rw [zX,List.length_take];omega)) (zF rfl (zap (Ev.now _) ?_))
  have e1 : zdY (ofB (toB (V.take cut.toNat))) n = zeQ := by
   rw [zat]
   refine zgf (fun a' r' bs' ps' x' y' z' hm' hz' he => ?_)
   obtain ⟨_,_,_,_,_,_,_,h9⟩ := zei hm hz (zcA.1 hm').1 hz' (s := []) (t := V.drop cut.toNat) (by rw [List.append_nil,← he,List.take_append_drop,hV])
   have := congrArg List.length h9
   rw [List.length_drop,List.length_nil] at this
   omega
  rw [e1];rfl
 ·rw [if_neg h]
  refine zU h (zF rfl (zap (Ev.now _) ?_))
  show ((⟨#[]⟩ : ByteArray).toList == ([] : List UInt8)) = true
  rw [show (⟨#[]⟩ : ByteArray).toList = ([] : List UInt8) from by decide +kernel]
  rfl
end Go.Proofs.Ytgdpiegkoeikiaa.Pure
namespace Go.Proofs.Ytgdpiegkoeikiaa.certBack
open Go.ChangeShapes Go.WideShapes Go.ChangeAt Go.RowKit
open Go.ChangeMaps (open_string shut_string)
open Go.RowKit Go.Proofs.Ytgdpiegkoeikiaa.Px Go.Proofs.YtgdpiegkoeikiaaW.PrintWords Go.Proofs.YtgdpiegkoeikiaaW.PrintLast Go.Proofs.YtgdpiegkoeikiaaW.PrintMore
set_option linter.unusedVariables false
theorem own : ownKnob Try.prog.godebug = none := by kernel_rfl
theorem laidOut : laidOutB Try.prog = true := by kernel_rfl
set_option maxRecDepth 100000 in
theorem contract (H : Type) (enc : TypeId × Value → H) (W : World) (base : Nat) (args : Array Value) (ds gs : List (DataW H)) (before : List MemPlace)
  (hval0 : ∀ (j : Nat) t v,Try.f4.params[j]? = some t → args[j]? = some v → Value.okWide Try.prog W .any base t v)
  (hW : DataW.Whole enc Try.prog Try.f4.params.toList Rows.certBackSpec.vars false W args.toList ds gs before)
  (hsz0 : (DataW.weightsEach Try.prog (Try.f4.params.toList ++ Rows.certBackSpec.plain.varTypes Try.prog) (ds ++ gs)).all (· ≤ reachBytes) = true) :
  Calls Try.prog 4 args W fun e W' => ∃ v,e = .returned v ∧ Rows.certBackSpec.post enc Try.prog Try.f4 false true false false W args v W' := by
 have hval : ∀ (j : Nat) t v,Try.f4.params[j]? = some t → args[j]? = some v → Value.okWide Try.prog W .any base t v := hval0
 have hW' := hW
 obtain ⟨p,q,hA0,hV,rfl,hfz,hnd⟩ := hW
 have hA : DataW.TrodAll enc Try.prog W 0 (fun _ => true) true Try.f4.params.toList args.toList ds p := hA0
 have hsz := hsz0
 rw [Try.params4] at hA hval hsz
 obtain ⟨v0,vs0,d0,ds0,p0,q0,hargs,rfl,rfl,h0,r0⟩ := trodAll_cons hA
 obtain ⟨v1,vs1,d1,ds1,p1,q1,rfl,rfl,rfl,h1,r1⟩ := trodAll_cons r0
 obtain ⟨v2,vs2,d2,ds2,p2,q2,rfl,rfl,rfl,h2,r2⟩ := trodAll_cons r1
 obtain ⟨rfl,rfl,rfl⟩ := trodAll_nil r2
 obtain rfl : args = #[v0,v1,v2] := by cases args;simp_all
 obtain ⟨rfl,rfl⟩ := trodVars_none hV
 have t0 := h0
 have lt0 : ∀ x ∈ p0,x.block < W.heap.size := by obtain ⟨m,hm⟩ := t0;exact DataW.trod_lt m _ _ _ hm
 have t1 := h1
 have lt1 : ∀ x ∈ p1,x.block < W.heap.size := by obtain ⟨m,hm⟩ := t1;exact DataW.trod_lt m _ _ _ hm
 have t2 := h2
 have lt2 : ∀ x ∈ p2,x.block < W.heap.size := by obtain ⟨m,hm⟩ := t2;exact DataW.trod_lt m _ _ _ hm
 obtain ⟨a0,K0,ok0,wt0,bk0⟩ := zg8 fit36 h0
 have wq0 := wt0 (fun n hn => of_decide_eq_true (List.all_eq_true.1 hsz n (DataW.weights_mem_each (j := 0) (t := rd36.t) (d := d0) rfl rfl n hn)))
 obtain ⟨cs0,rfl,sz0⟩ := okWide_struct Try.underlying36 (hval 0 36 v0 rfl rfl)
 obtain ⟨A0_0_2,c0_0_2,A0_0_3,c0_0_3,e0,l0_0_2,g0_0_2,l0_0_3,g0_0_3⟩ := k36_open (show k36.K W a0 _ from K0)
 obtain rfl : cs0 = #[.int .i64 a0.f0.f0,.int .i64 a0.f0.f1,.slice A0_0_2 a0.f0.f2.length c0_0_2,.slice A0_0_3 a0.f0.f3.length c0_0_3,.int .i64 a0.f0.f4.f0,.int .i64 a0.f0.f4.f1,.int .u64 a0.f1] := by have := congrArg List.toArray e0;simpa [Value.cells] using this
 obtain ⟨a1,K1,ok1,wt1,bk1⟩ := zg8 (zcY Try.underlying3) h1
 have wq1 := wt1 (fun n hn => of_decide_eq_true (List.all_eq_true.1 hsz n (DataW.weights_mem_each (j := 1) (t := (zaN 3 .i64).t) (d := d1) rfl rfl n hn)))
 obtain ⟨a1',rfl,rfl,rfl,y1⟩ := open_int Try.underlying3 (hval 1 3 v1 rfl rfl) h1
 have e1 : a1' = a1 := by have := K1;simpa [zaN,rdBool,zaH,Kd.int,Kd.bool,Kd.string,Kd.scalar,Value.cells] using this
 subst e1
 obtain ⟨a2,K2,ok2,wt2,bk2⟩ := zg8 (zcY Try.underlying3) h2
 have wq2 := wt2 (fun n hn => of_decide_eq_true (List.all_eq_true.1 hsz n (DataW.weights_mem_each (j := 2) (t := (zaN 3 .i64).t) (d := d2) rfl rfl n hn)))
 obtain ⟨a2',rfl,rfl,rfl,y2⟩ := open_int Try.underlying3 (hval 2 3 v2 rfl rfl) h2
 have e2 : a2' = a2 := by have := K2;simpa [zaN,rdBool,zaH,Kd.int,Kd.bool,Kd.string,Kd.scalar,Value.cells] using this
 subst e2
 obtain ⟨kk,hkk⟩ := Pure.CertBack a0 a1' a2' ok0 ok1 ok2 wq0 wq1 wq2
 refine (zu.calls kk (a0.f0.f0) (a0.f0.f1) A0_0_2 c0_0_2 (a0.f0.f2) A0_0_3 c0_0_3 (a0.f0.f3) (a0.f0.f4.f0) (a0.f0.f4.f1) (a0.f1) a1' a2' true W g0_0_2 l0_0_2 g0_0_3 l0_0_3 hkk).mono fun e W' ⟨he,bel0⟩ => ?_
 have bel := bel0
 subst he
 exact ⟨_,rfl,_,_,_,[],_,[],hW',trodAll_mk1 (shut_bool Try.underlying4 _),(trodAll_cons_mk (Below.trod laidOut (by kernel_rfl) (of_decide_eq_true (by kernel_rfl)) t0 bel lt0) (trodAll_cons_mk (Below.trod laidOut (by kernel_rfl) (of_decide_eq_true (by kernel_rfl)) t1 bel lt1) (trodAll_cons_mk (Below.trod laidOut (by kernel_rfl) (of_decide_eq_true (by kernel_rfl)) t2 bel lt2) trodAll_mk0))),rfl,bel.frame _,fun h => by cases h⟩
set_option maxRecDepth 100000 in
theorem lifted (os : Os) (started : os.Started) (H : Type) (enc : TypeId × Value → H) :
  ReturnsInHanded {} Try.checked os 4 .any (Rows.certBackSpec.pre6 enc Try.prog Try.f4 Rows.certBackRow.domain false) (Rows.certBackSpec.post enc Try.prog Try.f4 false true false false) := by
 refine returnsInHanded_of_change_sized (C := Try.checked) own started (by kernel_rfl) Try.func4
  (ChangeSpec.witness6 (enc := enc) (C := Try.checked) false ⟨#[],#[.agg #[.int .i64 0,.int .i64 0,.slice none 0 0,.slice none 0 0,.int .i64 0,.int .i64 0,.int .u64 0],.int .i64 0,.int .i64 0],[]⟩ 8 (by kernel_rfl) (by kernel_rfl) (by kernel_rfl) (by kernel_rfl)) ?_
 intro W base args ds gs before hval hW _ hsz _
 exact contract H enc W base args ds gs before hval hW hsz
theorem proved : Rows.CertBackSaid :=
 OpenClaim.holds_of_wide 4 Try.f4 rfl rfl rfl rfl rfl rfl rfl ⟨rfl,rfl,rfl,rfl,rfl⟩ rfl rfl rfl rfl rfl (by kernel_rfl) Try.func4 (by kernel_rfl)
  (of_decide_eq_true (by kernel_rfl)) (by unfold Func.isWrapper;first | (rw [if_pos (by decide +kernel)];kernel_rfl) | (rw [if_neg (by decide +kernel)];exact ⟨rfl,rfl⟩))
  (fun os started H enc _ => lifted os started H enc)
#print axioms proved
end Go.Proofs.Ytgdpiegkoeikiaa.certBack
namespace Go.Proofs.Ytgdpiegkoeikiaa
theorem certBack_holds : Rows.CertBackSaid := certBack.proved
end Go.Proofs.Ytgdpiegkoeikiaa