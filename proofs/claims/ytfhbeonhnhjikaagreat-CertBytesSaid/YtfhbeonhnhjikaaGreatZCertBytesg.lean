/- Part 33 of 35 of the proof of the law CertBytes: what is proved is the statement at the end of the last part; its conditions are those of the given row. -/
import Derived.Test.YtfhbeonhnhjikaaGreatZCertBytesf
namespace Go.Proofs.YtfhbeonhnhjikaaGreat.Px
open Go.RowKit Go.Proofs.YtfhbeonhnhjikaaGreatW.PrintWords Go.Proofs.YtfhbeonhnhjikaaGreatW.PrintLast Go.Proofs.YtfhbeonhnhjikaaGreatW.PrintMore
attribute [local go_sem] zz zB zI zJ zp zq zA zC
set_option linter.unusedVariables false
set_option linter.unusedSimpArgs false
def zbs (s : Bs) : Nat × Bs × Int := zl (zl s).2.1
def zbW (s : Bs) : List ByteArray × Bs × Int := zag (zbs s).2.1 4 400
def zb6 (s : Bs) : List ByteArray × Bs × Int := zag (zbW s).2.1 64 32
def zbU (s : Bs) : Nat × Bs × Int := zl (zb6 s).2.1
def zcd (s : Bs) : Nat × Bs × Int := zl (zbU s).2.1
def okR (s : Bs) : Prop := (zl s).2.2 = 0 ∧ (zbs s).2.2 = 0 ∧ (zl s).1 ≤ 64 ∧ (zbs s).1 ≤ 1048576 ∧ (zbW s).2.2 = 0 ∧ (zb6 s).2.2 = 0 ∧ (zbU s).2.2 = 0 ∧ (zbU s).1 ≤ 10006 ∧ (zcd s).2.2 = 0 ∧ (zcd s).1 ≤ 10006 ∧ (zcd s).2.1 = []
instance decOkR (s : Bs) : Decidable (okR s) := by unfold okR;infer_instance
def zhc (s : Bs) (n : Int) : VT := if okR s then ze7 (zl s).1 (zbs s).1 (zb6 s).1 (zbU s).1 (zcd s).1 n (zbp (zbW s).1) else zeh
theorem zgO {s : Bs} {n : Int} (h : okR s) : zhc s n = ze7 (zl s).1 (zbs s).1 (zb6 s).1 (zbU s).1 (zcd s).1 n (zbp (zbW s).1) := if_pos h
theorem ziG {s : Bs} {n : Int} (h : ¬ okR s) : zhc s n = zeh := if_neg h
theorem refV_ok (s : Bs) (n : Int) : zhc s n = zeh ∨ ∃ a r bs ps x y,zhc s n = (a,r,bs,ps,x,y,0) ∧ zbr a r bs ps x y n = true ∧ s = zaE a r bs ps x y := by
 by_cases h : okR s
 ·rw [zgO h]
  rcases ziq (zl s).1 (zbs s).1 (zb6 s).1 (zbU s).1 (zcd s).1 n (zbp (zbW s).1) with h0 | ⟨bs,h1,h2,h3⟩
  ·exact .inl h0
  ·refine .inr ⟨_,_,_,_,_,_,h3,h2,?_⟩
   obtain ⟨k1,k2,_,_,k5,k6,k7,_,k9,_,k11⟩ := h
   obtain ⟨e7,_⟩ := zei h1
   have q1 := (zbG (s := s) (v := (zl s).1) (r := (zl s).2.1) (by rw [← k1])).1
   have q2 := (zbG (s := (zl s).2.1) (v := (zbs s).1) (r := (zbs s).2.1) (by rw [← k2];rfl)).1
   have q3 := (zbZ (s := (zbs s).2.1) (l := (zbW s).1) (r := (zbW s).2.1) (many := 4) (most := 400) (by rw [← k5];rfl)).1
   have q4 := (zbZ (s := (zbW s).2.1) (l := (zb6 s).1) (r := (zb6 s).2.1) (many := 64) (most := 32) (by rw [← k6];rfl)).1
   have q5 := (zbG (s := (zb6 s).2.1) (v := (zbU s).1) (r := (zbU s).2.1) (by rw [← k7];rfl)).1
   have q6 := (zbG (s := (zbU s).2.1) (v := (zcd s).1) (r := (zcd s).2.1) (by rw [← k9];rfl)).1
   rw [k11,List.append_nil] at q6
   rw [q6] at q5
   rw [q5] at q4
   rw [q4] at q3
   rw [q3] at q2
   rw [q2] at q1
   rw [zaE,Int.toNat_natCast,Int.toNat_natCast,Int.toNat_natCast,Int.toNat_natCast,← e7]
   simp only [List.append_assoc]
   exact q1
 ·exact .inl (ziG h)
theorem ziH {a r : Int} {bs : List S73} {ps : List ByteArray} {x y n : Int} (h : zbr a r bs ps x y n = true) : zhc (zaE a r bs ps x y) n = (a,r,bs,ps,x,y,0) := by
 obtain ⟨h0,h1,h2,h3,h4,h5,h6,h7,h8,h9⟩ := (zcv ..).1 h
 obtain ⟨k1,k2,k3⟩ := (zcu n).1 h0
 obtain ⟨x1,x2,y1,y2⟩ := (zdp x y).1 h7
 have hp := zbE h0 h9
 obtain ⟨a',rfl⟩ := Int.eq_ofNat_of_zero_le (show 0 ≤ a by omega)
 obtain ⟨r',rfl⟩ := Int.eq_ofNat_of_zero_le (show 0 ≤ r by omega)
 obtain ⟨x',rfl⟩ := Int.eq_ofNat_of_zero_le x1
 obtain ⟨y',rfl⟩ := Int.eq_ofNat_of_zero_le y1
 have e0 : zl (zaE a' r' bs ps x' y') = (a',zbD r' ++ (zbI (bs.map bB) ++ (zbI ps ++ (zbD x' ++ zbD y'))),0) := by
  rw [zaE,Int.toNat_natCast,Int.toNat_natCast,Int.toNat_natCast,Int.toNat_natCast]
  simp only [List.append_assoc]
  exact zbQ (by omega) _
 have e1 : zbs (zaE a' r' bs ps x' y') = (r',zbI (bs.map bB) ++ (zbI ps ++ (zbD x' ++ zbD y')),0) := by
  rw [zbs,e0];exact zbQ (by omega) _
 have e2 : zbW (zaE a' r' bs ps x' y') = (bs.map bB,zbI ps ++ (zbD x' ++ zbD y'),0) := by
  rw [zbW,e1]
  exact zcR (by rw [List.length_map];omega) (by rw [List.length_map];omega) (fun t ht => by
   obtain ⟨b,_,rfl⟩ := List.mem_map.1 ht
   have := zgf b;omega) _
 have e3 : zb6 (zaE a' r' bs ps x' y') = (ps,zbD x' ++ zbD y',0) := by
  rw [zb6,e2]
  exact zcR (by have := hp.1;omega) (by have := hp.1;omega) (fun t ht => by have := hp.2 t ht;omega) _
 have e4 : zbU (zaE a' r' bs ps x' y') = (x',zbD y',0) := by
  rw [zbU,e3];exact zbQ (by omega) _
 have e5 : zcd (zaE a' r' bs ps x' y') = (y',[],0) := by
  rw [zcd,e4]
  have := zbQ (v := y') (by omega) []
  rwa [List.append_nil] at this
 have hv : okR (zaE a' r' bs ps x' y') := by
  unfold okR
  rw [e0,e1,e2,e3,e4,e5]
  refine ⟨rfl,rfl,?_,?_,rfl,rfl,rfl,?_,rfl,?_,rfl⟩ <;> simp only <;> omega
 rw [zgO hv,e0,e1,e2,e3,e4,e5,zdX (fun b hb => (zhG h6 b hb).1),ze7,if_pos h]
theorem refV_eq (s : Bs) (n : Int) : zhc s n = zec s n := by
 rcases zgY s n with h | ⟨a,r,bs,ps,x,y,h,hm,rfl⟩
 ·rcases refV_ok s n with h' | ⟨a,r,bs,ps,x,y,h',hm,rfl⟩
  ·rw [h,h']
  ·rw [zie hm] at h
   simp [zeh] at h
 ·rw [h,ziH hm]
theorem zh3 (n : Int) (l : List ByteArray) (a r : Int) (ps : List ByteArray) (x y : Int) (hl : l.length ≤ 4) (hs : ∀ t ∈ l,t.size < 4611686018427387904) (hp : ps.length < 4611686018427387904) (hps : ∀ t ∈ ps,t.size < 4611686018427387904) (d : Nat) : ∀ (j : Nat) (acc : List S73),j + d = l.length → acc.length = j → (∀ b ∈ acc,b.f2.length < 4611686018427387904) →
  Ev (fun k => zh.l0 k n l (j : Int) a r acc ps x y) (ze7 a r ps x y n ((zbp (l.drop j)).map (acc ++ ·))) := by
 induction d with
 | zero =>
  intro j acc hj ha hacc
  refine Ev.step (fun k => by rw [zh.l0]) ?_
  rw [List.drop_eq_nil_of_le (by omega)]
  refine zF (by omega) (Ev.bind (ze1 a r acc ps x y n (by omega) hacc hp hps) ?_)
  show Ev _ (ze7 a r ps x y n (some (acc ++ [])))
  rw [List.append_nil,ze7]
  by_cases h : zbr a r acc ps x y n = true
  ·exact zac (zn h (Ev.now _)) (by rw [if_pos h])
  ·exact zac (zF h (Ev.now _)) (by rw [if_neg h];rfl)
 | succ d ih =>
  intro j acc hj ha hacc
  have hj' : j < l.length := by omega
  refine Ev.step (fun k => by rw [zh.l0]) ?_
  refine zn (by omega) (zn (by omega) ?_)
  rw [zd4 l j hj',List.drop_eq_getElem_cons hj']
  refine Ev.bind (zf6 _ (hs _ (List.getElem_mem hj'))) ?_
  rw [zbp]
  by_cases h : (zaR (ofB l[j])).2.2.2 = 0
  ·rw [if_pos h]
   refine zn h (zn (by omega) ?_)
   rw [z9 (by omega) (by omega)]
   refine zac (ih (j + 1) _ (by omega) (by rw [List.length_append,ha];rfl) ?_) ?_
   ·intro b hb
    rcases List.mem_append.1 hb with hb | hb
    ·exact hacc b hb
    ·obtain rfl := List.mem_singleton.1 hb
     exact zgW _
   ·congr 1
    rcases zbp (l.drop (j + 1)) with _ | bs
    ·rfl
    ·simp
  ·rw [if_neg h]
   exact zF h (Ev.now _)
theorem rA_small {s : Bs} (h : (zbW s).2.2 = 0) : (zbW s).1.length ≤ 4 ∧ ∀ t ∈ (zbW s).1,t.size < 4611686018427387904 := by
 obtain ⟨_,h2,_,h4⟩ := zbZ (s := (zbs s).2.1) (l := (zbW s).1) (r := (zbW s).2.1) (many := 4) (most := 400) (by rw [← h];rfl)
 exact ⟨by omega,fun t ht => by have := (h4 t ht).1;omega⟩
theorem rB_small {s : Bs} (h : (zb6 s).2.2 = 0) : (zb6 s).1.length < 4611686018427387904 ∧ ∀ t ∈ (zb6 s).1,t.size < 4611686018427387904 := by
 obtain ⟨_,h2,_,h4⟩ := zbZ (s := (zbW s).2.1) (l := (zb6 s).1) (r := (zb6 s).2.1) (many := 64) (most := 32) (by rw [← h];rfl)
 exact ⟨by omega,fun t ht => by have := (h4 t ht).1;omega⟩
theorem ziF (s : ByteArray) (n : Int) (hs : s.size < 4611686018427387904) : Ev (fun k => zh.f k s n) (zhc (ofB s) n) := by
 generalize hS : ofB s = S
 have l0 : S.length < 4611686018427387904 := by rw [← hS,zae];exact hs
 have l1 : (zl S).2.1.length ≤ _ := za8 S
 have l2 : (zbs S).2.1.length ≤ _ := za8 (zl S).2.1
 have l3 : (zbW S).2.1.length ≤ _ := zc6 (zbs S).2.1 4 400
 have l4 : (zb6 S).2.1.length ≤ _ := zc6 (zbW S).2.1 64 32
 have l5 : (zbU S).2.1.length ≤ _ := za8 (zb6 S).2.1
 have v1 := zaZ S
 have v2 : (zbs S).1 < _ := zaZ (zl S).2.1
 have v3 : (zbU S).1 < _ := zaZ (zb6 S).2.1
 have v4 : (zcd S).1 < _ := zaZ (zbU S).2.1
 have t1 := zby s hs
 have t2 := zby (toB (zl S).2.1) (by rw [zP];omega)
 have t3 := zdF (toB (zbs S).2.1) 4 400 (by decide) (by decide) (by rw [zP];omega) (.inr (by omega))
 have t4 := zdF (toB (zbW S).2.1) 64 32 (by decide) (by decide) (by rw [zP];omega) (.inr (by omega))
 have t5 := zby (toB (zb6 S).2.1) (by rw [zP];omega)
 have t6 := zby (toB (zbU S).2.1) (by rw [zP];omega)
 simp only [zbL,zdc,zav,hS] at t1 t2 t3 t4 t5 t6
 have badJ2 : Ev (fun k => zh.j2 k n ((zl S).1 : Int) ((zbs S).1 : Int) (zbW S).1 (zb6 S).1 ((zbU S).1 : Int) ((zcd S).1 : Int) true) zeh := by refine Ev.step (fun k => by rw [zh.j2]) ?_;exact zn rfl (Ev.now _)
 have goodJ2 : okR S → Ev (fun k => zh.j2 k n ((zl S).1 : Int) ((zbs S).1 : Int) (zbW S).1 (zb6 S).1 ((zbU S).1 : Int) ((zcd S).1 : Int) false) (zhc S n) := by
  intro h
  obtain ⟨_,_,h3,h4,h5,h6,_,h8,_,h10,_⟩ := id h
  refine Ev.step (fun k => by rw [zh.j2]) ?_;refine zF (by simp) ?_
  rw [z9 (by omega) (by omega),z9 (by omega) (by omega),z9 (by omega) (by omega),z9 (by omega) (by omega),zgO h]
  obtain ⟨a1,a2⟩ := rA_small h5
  obtain ⟨b1,b2⟩ := rB_small h6
  refine zac (zh3 n (zbW S).1 _ _ _ _ _ a1 a2 b1 b2 (zbW S).1.length 0 [] (by omega) rfl (fun b hb => absurd hb (by simp))) ?_
  rw [List.drop_zero]
  rcases zbp (zbW S).1 with _ | bs <;> rfl
 have hbad : ¬ okR S → zhc S n = zeh := fun h => ziG h
 refine Ev.bind t1 (Ev.bind t2 ?_)
 have badJ0 : Ev (fun k => zh.j0 k n ((zl S).1 : Int) ((zbs S).1 : Int) (toB (zbs S).2.1) true) zeh := by refine Ev.step (fun k => by rw [zh.j0]) ?_;exact zn rfl (Ev.now _)
 have goodJ0 : (zl S).2.2 = 0 → (zbs S).2.2 = 0 → (zl S).1 ≤ 64 → (zbs S).1 ≤ 1048576 → Ev (fun k => zh.j0 k n ((zl S).1 : Int) ((zbs S).1 : Int) (toB (zbs S).2.1) false) (zhc S n) := by
  intro h1 h2 h3 h4
  refine Ev.step (fun k => by rw [zh.j0]) ?_;refine zF (by simp) (Ev.bind t3 ?_)
  by_cases h5 : (zbW S).2.2 = 0
  ·refine zn h5 (Ev.bind t4 ?_)
   by_cases h6 : (zb6 S).2.2 = 0
   ·refine zn h6 (Ev.bind t5 ?_)
    have badJ1 : Ev (fun k => zh.j1 k n ((zl S).1 : Int) ((zbs S).1 : Int) (zbW S).1 (zb6 S).1 ((zbU S).1 : Int) (toB (zbU S).2.1) true) zeh := by refine Ev.step (fun k => by rw [zh.j1]) ?_;exact zn rfl (Ev.now _)
    by_cases h7 : (zbU S).2.2 = 0
    ·refine zn h7 ?_
     by_cases h8 : (zbU S).1 ≤ 10006
     ·have e8 : decide (((zbU S).1 : Int) > 10006) = false := decide_eq_false (by omega)
      show Ev (fun k => zh.j1 k n ((zl S).1 : Int) ((zbs S).1 : Int) (zbW S).1 (zb6 S).1 ((zbU S).1 : Int) (toB (zbU S).2.1) (decide (((zbU S).1 : Int) > 10006))) _
      rw [e8]
      refine Ev.step (fun k => by rw [zh.j1]) ?_;refine zF (by simp) (Ev.bind t6 ?_)
      by_cases h9 : (zcd S).2.2 = 0
      ·refine zn h9 ?_
       by_cases h10 : (zcd S).1 ≤ 10006
       ·refine zF (by show ¬ ((zcd S).1 : Int) > 10006;omega) ?_
        by_cases h11 : (zcd S).2.1 = []
        ·have e11 : decide (((toB (zcd S).2.1).size : Int) > 0) = false := decide_eq_false (by rw [zP,h11];simp)
         show Ev (fun k => zh.j2 k n ((zl S).1 : Int) ((zbs S).1 : Int) (zbW S).1 (zb6 S).1 ((zbU S).1 : Int) ((zcd S).1 : Int) (decide (((toB (zcd S).2.1).size : Int) > 0))) _
         rw [e11]
         exact goodJ2 ⟨h1,h2,h3,h4,h5,h6,h7,h8,h9,h10,h11⟩
        ·have e11 : decide (((toB (zcd S).2.1).size : Int) > 0) = true := decide_eq_true (by
          rw [zP]
          have : (zcd S).2.1.length ≠ 0 := fun hh => h11 (List.eq_nil_of_length_eq_zero hh)
          omega)
         show Ev (fun k => zh.j2 k n ((zl S).1 : Int) ((zbs S).1 : Int) (zbW S).1 (zb6 S).1 ((zbU S).1 : Int) ((zcd S).1 : Int) (decide (((toB (zcd S).2.1).size : Int) > 0))) _
         rw [e11,hbad (fun hh => h11 hh.2.2.2.2.2.2.2.2.2.2)]
         exact badJ2
       ·rw [hbad (fun hh => h10 hh.2.2.2.2.2.2.2.2.2.1)]
        exact zn (by show ((zcd S).1 : Int) > 10006;omega) badJ2
      ·rw [hbad (fun hh => h9 hh.2.2.2.2.2.2.2.2.1)]
       exact zF h9 badJ2
     ·have e8 : decide (((zbU S).1 : Int) > 10006) = true := decide_eq_true (by omega)
      show Ev (fun k => zh.j1 k n ((zl S).1 : Int) ((zbs S).1 : Int) (zbW S).1 (zb6 S).1 ((zbU S).1 : Int) (toB (zbU S).2.1) (decide (((zbU S).1 : Int) > 10006))) _
      rw [e8,hbad (fun hh => h8 hh.2.2.2.2.2.2.2.1)]
      exact badJ1
    ·rw [hbad (fun hh => h7 hh.2.2.2.2.2.2.1)]
     exact zF h7 badJ1
   ·rw [hbad (fun hh => h6 hh.2.2.2.2.2.1)]
    exact zF h6 (Ev.now _)
  ·rw [hbad (fun hh => h5 hh.2.2.2.2.1)]
   exact zF h5 (Ev.now _)
 by_cases h1 : (zl S).2.2 = 0
 ·refine zn h1 ?_
  by_cases h2 : (zbs S).2.2 = 0
  ·refine zn h2 ?_
   by_cases h3 : (zl S).1 ≤ 64
   ·refine zF (by omega) ?_
    by_cases h4 : (zbs S).1 ≤ 1048576
    ·have e4 : decide (((zbs S).1 : Int) > 1048576) = false := decide_eq_false (by omega)
     show Ev (fun k => zh.j0 k n ((zl S).1 : Int) ((zbs S).1 : Int) (toB (zbs S).2.1) (decide (((zbs S).1 : Int) > 1048576))) _
     rw [e4]
     exact goodJ0 h1 h2 h3 h4
    ·have e4 : decide (((zbs S).1 : Int) > 1048576) = true := decide_eq_true (by omega)
     show Ev (fun k => zh.j0 k n ((zl S).1 : Int) ((zbs S).1 : Int) (toB (zbs S).2.1) (decide (((zbs S).1 : Int) > 1048576))) _
     rw [e4,hbad (fun hh => h4 hh.2.2.2.1)]
     exact badJ0
   ·rw [hbad (fun hh => h3 hh.2.2.1)]
    exact zn (by omega) badJ0
  ·rw [hbad (fun hh => h2 hh.2.1)]
   exact zF h2 badJ0
 ·rw [hbad (fun hh => h1 hh.1)]
  exact zF h1 badJ0
theorem zfV (s : Bs) (n : Int) : (zec s n).2.2.1.length < 4611686018427387904 ∧ (∀ b ∈ (zec s n).2.2.1,b.f2.length < 4611686018427387904) ∧ (zec s n).2.2.2.1.length < 4611686018427387904 := by
 rcases zgY s n with h | ⟨a,r,bs,ps,x,y,h,hm,_⟩
 ·rw [h];exact ⟨by decide,fun b hb => absurd hb (by simp [zeh]),by decide⟩
 ·rw [h];exact zgz hm
theorem zfX {a r : Int} {bs : List S73} {ps : List ByteArray} {x y n : Int} (h : zbr a r bs ps x y n = true) : (zaE a r bs ps x y).length ≤ 1000000 := by
 obtain ⟨h0,h1,h2,h3,h4,h5,h6,h7,h8,h9⟩ := (zcv ..).1 h
 obtain ⟨k1,k2,k3⟩ := (zcu n).1 h0
 obtain ⟨x1,x2,y1,y2⟩ := (zdp x y).1 h7
 obtain ⟨p1,p2⟩ := zbE h0 h9
 have r1 := zdr (bs.map bB) 400 (by omega) (fun t ht => by
  obtain ⟨b,_,rfl⟩ := List.mem_map.1 ht
  exact zgf b)
 have r2 := zdr ps 32 (by omega) (fun t ht => by have := p2 t ht;omega)
 have l1 := zaL (v := (bs.map bB).length) (by rw [List.length_map];omega)
 have l2 := zaL (v := ps.length) (by omega)
 have l3 := zaL (v := a.toNat) (by omega)
 have l4 := zaL (v := r.toNat) (by omega)
 have l5 := zaL (v := x.toNat) (by omega)
 have l6 := zaL (v := y.toNat) (by omega)
 have l7 : (bs.map bB).length = bs.length := List.length_map ..
 rw [zaE,zbI,zbI]
 simp only [List.length_append]
 have m1 : (bs.map bB).length * (400 + 9) ≤ 4 * 409 := Nat.mul_le_mul (by omega) (by omega)
 have m2 : ps.length * (32 + 9) ≤ 64 * 41 := Nat.mul_le_mul (by omega) (by omega)
 omega
def zbV : Nat → Nat → Nat
 | 0,_ => 0
 | d + 1,s => s % 2 + zbV d (s / 2)
theorem zc3 : ∀ (d s : Nat),zbV d s ≤ d
 | 0,_ => Nat.le_refl _
 | d + 1,s => by have := zc3 d (s / 2);rw [zbV];omega
theorem zc9 : ∀ (d e b r : Nat),b < 2 ^ d → zbV (d + e) (b + 2 ^ d * r) = zbV d b + zbV e r
 | 0,e,b,r,h => by
  obtain rfl : b = 0 := by simpa using h
  rw [Nat.zero_add,Nat.zero_add,Nat.pow_zero,Nat.one_mul];simp [zbV]
 | d + 1,e,b,r,h => by
  rw [Nat.pow_succ] at h
  have e1 : (b + 2 ^ (d + 1) * r) / 2 = b / 2 + 2 ^ d * r := by
   rw [Nat.pow_succ,Nat.mul_assoc,Nat.mul_left_comm,Nat.add_mul_div_left _ _ (by omega)]
  have e2 : (b + 2 ^ (d + 1) * r) % 2 = b % 2 := by
   rw [Nat.pow_succ,Nat.mul_assoc,Nat.mul_left_comm,Nat.add_mul_mod_self_left]
  rw [show d + 1 + e = (d + e) + 1 by omega,zbV,zbV,e1,e2,zc9 d e (b / 2) r (by omega)]
  omega
def zaO : List Nat → Nat
 | [] => 0
 | b :: l => b + 256 * zaO l
theorem zeg (a b c d : Nat) (hb : b < 256) (hd : d < 256) : (b + 256 * a) &&& (d + 256 * c) = (b &&& d) + 256 * (a &&& c) := by
 have hx : b &&& d < 2 ^ 8 := Nat.and_lt_two_pow _ (by omega)
 apply Nat.eq_of_testBit_eq
 intro i
 rw [Nat.testBit_and,Nat.add_comm b,Nat.add_comm d,Nat.add_comm (b &&& d)]
 rw [show (256 : Nat) = 2 ^ 8 from rfl,Nat.testBit_two_pow_mul_add _ (by omega),Nat.testBit_two_pow_mul_add _ (by omega),Nat.testBit_two_pow_mul_add _ hx]
 split <;> rw [Nat.testBit_and]
theorem low_1 : ∀ (b : Fin 256) (t : Fin 2),(b.val / 2 + 128 * t.val) &&& 85 = b.val / 2 &&& 85 := by decide +kernel
theorem low_2 : ∀ (b : Fin 256) (t : Fin 4),(b.val / 4 + 64 * t.val) &&& 51 = b.val / 4 &&& 51 := by decide +kernel
def zeI (b : Nat) : Nat := (b / 2 &&& 85) + (b &&& 85)
def zf4 (b : Nat) : Nat := (b / 4 &&& 51) + (b &&& 51)
def pop3 (b : Nat) : Nat := b % 16 + b / 16
theorem zgB : ∀ b : Fin 256,zeI b.val < 256 ∧ zf4 (zeI b.val) < 256 ∧ zf4 (zeI b.val) % 16 ≤ 4 ∧ zf4 (zeI b.val) / 16 ≤ 4 ∧ pop3 (zf4 (zeI b.val)) = zbV 8 b.val := by decide +kernel
theorem join_1 : ∀ l : List Nat,(∀ b ∈ l,b < 256) → (zaO l / 2 &&& zaO (List.replicate l.length 85)) + (zaO l &&& zaO (List.replicate l.length 85)) = zaO (l.map zeI)
 | [],_ => rfl
 | b :: l,h => by
  have hb := h b List.mem_cons_self
  have ih := join_1 l (fun c hc => h c (List.mem_cons_of_mem _ hc))
  have k := low_1 ⟨b,hb⟩ ⟨zaO l % 2,Nat.mod_lt _ (by omega)⟩
  simp only at k
  rw [List.length_cons,List.replicate_succ,zaO,zaO,List.map_cons,zaO,← ih]
  rw [show (b + 256 * zaO l) / 2 = (b / 2 + 128 * (zaO l % 2)) + 256 * (zaO l / 2) by omega,zeg _ _ _ _ (by omega) (by omega),zeg _ _ _ _ hb (by omega),k,zeI]
  omega
theorem join_2 : ∀ l : List Nat,(∀ b ∈ l,b < 256) → (zaO l / 4 &&& zaO (List.replicate l.length 51)) + (zaO l &&& zaO (List.replicate l.length 51)) = zaO (l.map zf4)
 | [],_ => rfl
 | b :: l,h => by
  have hb := h b List.mem_cons_self
  have ih := join_2 l (fun c hc => h c (List.mem_cons_of_mem _ hc))
  have k := low_2 ⟨b,hb⟩ ⟨zaO l % 4,Nat.mod_lt _ (by omega)⟩
  simp only at k
  rw [List.length_cons,List.replicate_succ,zaO,zaO,List.map_cons,zaO,← ih]
  rw [show (b + 256 * zaO l) / 4 = (b / 4 + 64 * (zaO l % 4)) + 256 * (zaO l / 4) by omega,zeg _ _ _ _ (by omega) (by omega),zeg _ _ _ _ hb (by omega),k,zf4]
  omega
theorem join_low (l : List Nat) (h : ∀ b ∈ l,b % 16 ≤ 4 ∧ b / 16 ≤ 4) : zaO l % 16 ≤ 4 := by
 cases l with
 | nil => simp [zaO]
 | cons b l => have := (h b List.mem_cons_self).1;rw [zaO];omega
theorem join_3 : ∀ l : List Nat,(∀ b ∈ l,b % 16 ≤ 4 ∧ b / 16 ≤ 4) → ((zaO l / 16 + zaO l) &&& zaO (List.replicate l.length 15)) = zaO (l.map pop3)
 | [],_ => rfl
 | b :: l,h => by
  obtain ⟨h1,h2⟩ := h b List.mem_cons_self
  have hl := fun c hc => h c (List.mem_cons_of_mem b hc)
  have ih := join_3 l hl
  have k := join_low l hl
  rw [List.length_cons,List.replicate_succ,zaO,zaO,List.map_cons,zaO,← ih]
  rw [show (b + 256 * zaO l) / 16 + (b + 256 * zaO l) = (b / 16 + 16 * (zaO l % 16) + b) + 256 * (zaO l / 16 + zaO l) by omega,zeg _ _ _ _ (by omega) (by omega)]
  rw [show (15 : Nat) = 2 ^ 4 - 1 from rfl,Nat.and_two_pow_sub_one_eq_mod,pop3]
  omega
theorem zhS : ∀ l : List Nat,(∀ b ∈ l,b < 256) → zaO l < 256 ^ l.length
 | [],_ => by simp [zaO]
 | b :: l,h => by
  have := zhS l (fun c hc => h c (List.mem_cons_of_mem _ hc))
  have hb := h b List.mem_cons_self
  rw [zaO,List.length_cons,Nat.pow_succ];omega
set_option maxRecDepth 10000 in
theorem join_le (m : Nat) : ∀ l : List Nat,(∀ b ∈ l,b ≤ m) → zaO l * 255 + m ≤ m * 256 ^ l.length
 | [],_ => by simp [zaO]
 | b :: l,h => by
  have := join_le m l (fun c hc => h c (List.mem_cons_of_mem _ hc))
  have hb := h b List.mem_cons_self
  rw [zaO,List.length_cons,Nat.pow_succ,← Nat.mul_assoc]
  generalize m * 256 ^ l.length = X at *
  omega
theorem zeF (a b : Nat) (h : a + b < 18446744073709551616) : IntKind.u64.wrap ((a : Int) + (b : Int)) = ((a + b : Nat) : Int) := by
 rw [zaA (by omega) (by omega)];omega
theorem pop_e2 {q0 q1 q2 r1 r2 r3 z : Nat} (g0 : q0 ≤ 8) (g1 : q1 ≤ 8) (g2 : q2 ≤ 8) (e0 : z = q0 + 256 * r1) (e1 : r1 = q1 + 256 * r2) (e2 : r2 = q2 + 256 * r3) : z / 256 = r1 ∧ (z + r1) / 65536 = r2 + r3 := by
 constructor <;> omega
theorem pop_e3 {q0 q1 q2 q3 q4 q5 q6 q7 r1 r2 r3 r4 r5 r6 z : Nat} (g0 : q0 ≤ 8) (g1 : q1 ≤ 8) (g2 : q2 ≤ 8) (g3 : q3 ≤ 8) (g4 : q4 ≤ 8) (g5 : q5 ≤ 8) (g6 : q6 ≤ 8) (e0 : z = q0 + 256 * q1 + 65536 * q2 + 16777216 * q3 + 4294967296 * r4) (e1 : r1 = q1 + 256 * q2 + 65536 * q3 + 16777216 * q4 + 4294967296 * r5) (e2 : r2 = q2 + 256 * q3 + 65536 * q4 + 16777216 * q5 + 4294967296 * r6) (e3 : r3 = q3 + 256 * q4 + 65536 * q5 + 16777216 * q6 + 4294967296 * q7) :
  (z + r1 + (r2 + r3)) / 4294967296 = r4 + r5 + r6 + q7 := by
 generalize hx : q0 + 256 * q1 + 65536 * q2 + 16777216 * q3 = x at *
 have lx : x ≤ 134744072 := by omega
 generalize hy : q1 + 256 * q2 + 65536 * q3 + 16777216 * q4 = y at *
 have ly : y ≤ 134744072 := by omega
 generalize hu : q2 + 256 * q3 + 65536 * q4 + 16777216 * q5 = u at *
 have lu : u ≤ 134744072 := by omega
 generalize hv : q3 + 256 * q4 + 65536 * q5 + 16777216 * q6 = v at *
 have lv : v ≤ 134744072 := by omega
 clear hx hy hu hv g0 g1 g2 g3 g4 g5 g6
 omega
theorem pop_end (q0 q1 q2 q3 q4 q5 q6 q7 z z1 z2 z3 : Nat) (g0 : q0 ≤ 8) (g1 : q1 ≤ 8) (g2 : q2 ≤ 8) (g3 : q3 ≤ 8) (g4 : q4 ≤ 8) (g5 : q5 ≤ 8) (g6 : q6 ≤ 8) (g7 : q7 ≤ 8)
  (hz : z = q0 + 256 * (q1 + 256 * (q2 + 256 * (q3 + 256 * (q4 + 256 * (q5 + 256 * (q6 + 256 * q7))))))) (h1 : z1 = z + z / 256) (h2 : z2 = z1 + z1 / 65536) (h3 : z3 = z2 + z2 / 4294967296) :
  z3 % 128 = q0 + (q1 + (q2 + (q3 + (q4 + (q5 + (q6 + q7)))))) := by
 obtain ⟨r6,e6⟩ : ∃ r,r = q6 + 256 * q7 := ⟨_,rfl⟩
 obtain ⟨r5,e5⟩ : ∃ r,r = q5 + 256 * r6 := ⟨_,rfl⟩
 obtain ⟨r4,e4⟩ : ∃ r,r = q4 + 256 * r5 := ⟨_,rfl⟩
 obtain ⟨r3,e3⟩ : ∃ r,r = q3 + 256 * r4 := ⟨_,rfl⟩
 obtain ⟨r2,e2⟩ : ∃ r,r = q2 + 256 * r3 := ⟨_,rfl⟩
 obtain ⟨r1,e1⟩ : ∃ r,r = q1 + 256 * r2 := ⟨_,rfl⟩
 rw [← e6,← e5,← e4,← e3,← e2,← e1] at hz
 obtain ⟨a1,a2⟩ := pop_e2 g0 g1 g2 hz e1 e2
 rw [a1] at h1
 rw [h1,a2] at h2
 have a3 := pop_e3 (z := z) (q7 := q7) (r1 := r1) (r2 := r2) (r3 := r3) (r4 := r4) (r5 := r5) (r6 := r6) g0 g1 g2 g3 g4 g5 g6 (by rw [hz,e1,e2,e3];omega) (by rw [e1,e2,e3,e4];omega) (by rw [e2,e3,e4,e5];omega) (by rw [e3,e4,e5,e6];omega)
 rw [h2,a3] at h3
 clear a1 a2 a3 h1 h2
 omega
set_option maxHeartbeats 1000000 in
theorem zeH (x : Nat) (hx : x < 18446744073709551616) : zbw.f (x : Int) = some ((zbV 64 x : Nat) : Int) := by
 obtain ⟨b0,b1,b2,b3,b4,b5,b6,b7,h0,h1,h2,h3,h4,h5,h6,h7,e⟩ : ∃ b0 b1 b2 b3 b4 b5 b6 b7 : Nat,b0 < 256 ∧ b1 < 256 ∧ b2 < 256 ∧ b3 < 256 ∧ b4 < 256 ∧ b5 < 256 ∧ b6 < 256 ∧ b7 < 256 ∧ x = zaO [b0,b1,b2,b3,b4,b5,b6,b7] :=
  ⟨x % 256,x / 256 % 256,x / 65536 % 256,x / 16777216 % 256,x / 4294967296 % 256,x / 1099511627776 % 256,x / 281474976710656 % 256,x / 72057594037927936,by omega,by omega,by omega,by omega,by omega,by omega,by omega,by omega,by simp only [zaO];omega⟩
 generalize hl : [b0,b1,b2,b3,b4,b5,b6,b7] = l at e
 have hlen : l.length = 8 := by rw [← hl];rfl
 have hb : ∀ b ∈ l,b < 256 := by rw [← hl];simp only [List.mem_cons,List.not_mem_nil,or_false];rintro b (rfl | rfl | rfl | rfl | rfl | rfl | rfl | rfl) <;> assumption
 have q1 := join_1 l hb
 have hb1 : ∀ b ∈ l.map zeI,b < 256 := fun b hm => by obtain ⟨c,hc,rfl⟩ := List.mem_map.1 hm;exact (zgB ⟨c,hb c hc⟩).1
 have q2 := join_2 (l.map zeI) hb1
 have hb2 : ∀ b ∈ (l.map zeI).map zf4,b % 16 ≤ 4 ∧ b / 16 ≤ 4 := fun b hm => by
  obtain ⟨c,hc,rfl⟩ := List.mem_map.1 hm
  obtain ⟨d,hd,rfl⟩ := List.mem_map.1 hc
  have := zgB ⟨d,hb d hd⟩
  exact ⟨this.2.2.1,this.2.2.2.1⟩
 have q3 := join_3 ((l.map zeI).map zf4) hb2
 have e4 : ((l.map zeI).map zf4).map pop3 = l.map (zbV 8) := by
  rw [List.map_map,List.map_map]
  refine List.map_congr_left (fun c hc => ?_)
  exact (zgB ⟨c,hb c hc⟩).2.2.2.2
 rw [e4] at q3
 rw [List.length_map] at q2
 rw [List.length_map,List.length_map] at q3
 rw [hlen] at q1 q2 q3
 have p8 : (256 : Nat) ^ 8 = 18446744073709551616 := by decide
 have l1 := zhS _ hb1
 rw [List.length_map,hlen,p8] at l1
 have l2 := zhS ((l.map zeI).map zf4) (fun b hm => by have := hb2 b hm;omega)
 rw [List.length_map,List.length_map,hlen,p8] at l2
 have l2' := join_le 68 ((l.map zeI).map zf4) (fun b hm => by have := hb2 b hm;omega)
 rw [List.length_map,List.length_map,hlen,p8] at l2'
 rw [show zaO (List.replicate 8 85) = 6148914691236517205 from rfl,← e] at q1
 rw [show zaO (List.replicate 8 51) = 3689348814741910323 from rfl] at q2
 rw [show zaO (List.replicate 8 15) = 1085102592571150095 from rfl] at q3
 generalize zaO (l.map zeI) = y1 at *
 generalize zaO ((l.map zeI).map zf4) = y2 at *
 have hz : zaO (l.map (zbV 8)) = zbV 8 b0 + 256 * (zbV 8 b1 + 256 * (zbV 8 b2 + 256 * (zbV 8 b3 + 256 * (zbV 8 b4 + 256 * (zbV 8 b5 + 256 * (zbV 8 b6 + 256 * zbV 8 b7)))))) := by rw [← hl];simp only [List.map,zaO,Nat.mul_zero,Nat.add_zero]
 have hp : zbV 64 x = zbV 8 b0 + (zbV 8 b1 + (zbV 8 b2 + (zbV 8 b3 + (zbV 8 b4 + (zbV 8 b5 + (zbV 8 b6 + zbV 8 b7)))))) := by
  rw [e,← hl]
  simp only [zaO,Nat.mul_zero,Nat.add_zero]
  rw [show (64 : Nat) = 8 + 56 from rfl,show (256 : Nat) = 2 ^ 8 from rfl,zc9 _ _ _ _ h0,show (56 : Nat) = 8 + 48 from rfl,zc9 _ _ _ _ h1,show (48 : Nat) = 8 + 40 from rfl,zc9 _ _ _ _ h2,show (40 : Nat) = 8 + 32 from rfl,zc9 _ _ _ _ h3,show (32 : Nat) = 8 + 24 from rfl,zc9 _ _ _ _ h4,show (24 : Nat) = 8 + 16 from rfl,zc9 _ _ _ _ h5,show (16 : Nat) = 8 + 8 from rfl,zc9 _ _ _ _ h6]
 have g0 := zc3 8 b0
 have g1 := zc3 8 b1
 have g2 := zc3 8 b2
 have g3 := zc3 8 b3
 have g4 := zc3 8 b4
 have g5 := zc3 8 b5
 have g6 := zc3 8 b6
 have g7 := zc3 8 b7
 generalize zaO (l.map (zbV 8)) = z at *
 have d2 : (x : Int) / 2 = ((x / 2 : Nat) : Int) := by omega
 have d4 : (y1 : Int) / 4 = ((y1 / 4 : Nat) : Int) := by omega
 have d16 : (y2 : Int) / 16 = ((y2 / 16 : Nat) : Int) := by omega
 have i1 : IntKind.u64.wrap (Go.bits .and .u64 ((x : Int) / 2) 6148914691236517205 + Go.bits .and .u64 (x : Int) 6148914691236517205) = (y1 : Int) := by
  have k1 : Go.bits .and .u64 ((x / 2 : Nat) : Int) 6148914691236517205 = ((x / 2 &&& 6148914691236517205 : Nat) : Int) := u64_and_nat (x / 2) 6148914691236517205 (by omega) (by omega)
  have k2 : Go.bits .and .u64 (x : Int) 6148914691236517205 = ((x &&& 6148914691236517205 : Nat) : Int) := u64_and_nat x 6148914691236517205 hx (by omega)
  rw [d2,k1,k2,zeF _ _ (by rw [q1];exact l1),q1]
 have i2 : IntKind.u64.wrap (Go.bits .and .u64 ((y1 : Int) / 4) 3689348814741910323 + Go.bits .and .u64 (y1 : Int) 3689348814741910323) = (y2 : Int) := by
  have k1 : Go.bits .and .u64 ((y1 / 4 : Nat) : Int) 3689348814741910323 = ((y1 / 4 &&& 3689348814741910323 : Nat) : Int) := u64_and_nat (y1 / 4) 3689348814741910323 (by omega) (by omega)
  have k2 : Go.bits .and .u64 (y1 : Int) 3689348814741910323 = ((y1 &&& 3689348814741910323 : Nat) : Int) := u64_and_nat y1 3689348814741910323 l1 (by omega)
  rw [d4,k1,k2,zeF _ _ (by rw [q2];exact l2),q2]
 have l3 : y2 / 16 + y2 < 18446744073709551616 := by omega
 have i3 : Go.bits .and .u64 (IntKind.u64.wrap ((y2 : Int) / 16 + (y2 : Int))) 1085102592571150095 = (z : Int) := by
  have k1 : Go.bits .and .u64 ((y2 / 16 + y2 : Nat) : Int) 1085102592571150095 = ((y2 / 16 + y2 &&& 1085102592571150095 : Nat) : Int) := u64_and_nat (y2 / 16 + y2) 1085102592571150095 l3 (by omega)
  rw [d16,zeF _ _ l3,k1,q3]
 unfold zbw.f
 rw [i1,i2,i3]
 have i4 : IntKind.u64.wrap ((z : Int) + (z : Int) / 256) = ((z + z / 256 : Nat) : Int) := by
  rw [show (z : Int) / 256 = ((z / 256 : Nat) : Int) by omega];exact zeF _ _ (by omega)
 rw [i4]
 generalize hz1 : z + z / 256 = z1
 have i5 : IntKind.u64.wrap ((z1 : Int) + (z1 : Int) / 65536) = ((z1 + z1 / 65536 : Nat) : Int) := by
  rw [show (z1 : Int) / 65536 = ((z1 / 65536 : Nat) : Int) by omega];exact zeF _ _ (by omega)
 rw [i5]
 generalize hz2 : z1 + z1 / 65536 = z2
 have i6 : IntKind.u64.wrap ((z2 : Int) + (z2 : Int) / 4294967296) = ((z2 + z2 / 4294967296 : Nat) : Int) := by
  rw [show (z2 : Int) / 4294967296 = ((z2 / 4294967296 : Nat) : Int) by omega];exact zeF _ _ (by omega)
 rw [i6]
 generalize hz3 : z2 + z2 / 4294967296 = z3
 have l4 : z3 < 9223372036854775808 := by omega
 have i7 : Go.bits .and .i64 (wrap64 (z3 : Int)) 127 = ((z3 % 128 : Nat) : Int) := by
  rw [z9 (by omega) (by omega)]
  have := bits_mask .i64 63 (by decide) (fun n h0 h1 => by rw [IntKind.wrap_i64];omega) 7 (by decide) (z3 : Int) (by omega) (by omega)
  rw [show ((2 : Int) ^ 7 - 1) = 127 from rfl] at this
  rw [this];omega
 rw [i7,hp]
 have hq : z3 % 128 = zbV 8 b0 + (zbV 8 b1 + (zbV 8 b2 + (zbV 8 b3 + (zbV 8 b4 + (zbV 8 b5 + (zbV 8 b6 + zbV 8 b7)))))) := pop_end _ _ _ _ _ _ _ _ _ _ _ _ g0 g1 g2 g3 g4 g5 g6 g7 hz hz1.symm hz2.symm hz3.symm
 rw [hq]
theorem zcY {x : Int} (h0 : 0 ≤ x) (h1 : x < 9223372036854775808) : Ev (fun k => zr.f k (IntKind.u64.wrap x)) (zbO x.toNat) := by
 obtain ⟨n,rfl⟩ := Int.eq_ofNat_of_zero_le h0
 rw [zaA (by omega) (by omega),Int.toNat_natCast]
 exact zeC n (by omega)
def zhH (o q : Int) (l : List ByteArray) : ByteArray × Int := if zc8 o q l = true then (toB (zdn o q l),0) else ((⟨#[]⟩ : ByteArray),1)
theorem zfr (o q : Int) (l : List ByteArray) (hl : l.length < 4611686018427387904) : Ev (fun k => zam.f k o q l) (zhH o q l) := by
 refine Ev.bind (zfs _ _ _ hl) ?_
 unfold zhH
 by_cases h : zc8 o q l = true
 ·rw [if_pos h]
  obtain ⟨h1,h2,h3,h4,h5,h6,h7⟩ := (zdP o q l).1 h
  have r1 := zdr l 48 (by omega) (fun t ht => (h7 t ht).2)
  have r2 := zaL (v := l.length) (by omega)
  have r3 : (zbI l).length ≤ 300 := by rw [zbI,List.length_append];omega
  have n1 := za0 (v := o.toNat) (by omega)
  have n2 := za0 (v := q.toNat) (by omega)
  have r4 : zU.f l = some (toB (zbI l)) := if_pos (by omega)
  refine zn h (Ev.bind (zcY (by omega) (by omega)) (Ev.bind (zcY (by omega) (by omega)) (zn (by omega) (zaf r4 (zn (by rw [ByteArray.size_append,zP];omega) (zac (Ev.now _) ?_))))))
  rw [zdn,zbk,zbk];rfl
 ·rw [if_neg h];exact zF h (Ev.now _)
theorem ziS (b : S73) : (zhH b.f0 b.f1 b.f2).1 = bB b := by
 unfold zhH bB;split <;> rfl
def zgn (a r : Int) (bs : List S73) (ps : List ByteArray) (x y n : Int) : ByteArray × Int := if zbr a r bs ps x y n = true then (toB (zaE a r bs ps x y),0) else ((⟨#[]⟩ : ByteArray),1)
theorem zh4 {a r : Int} {bs : List S73} {ps : List ByteArray} {x y n : Int} (h : zbr a r bs ps x y n = true) (d : Nat) : ∀ j,j + d = bs.length →
  Ev (fun k => zv.l0 k ((bs.take j).map bB) (j : Int) a r bs ps x y) (toB (zaE a r bs ps x y),0) := by
 obtain ⟨h0,h1,h2,h3,h4,h5,h6,h7,h8,h9⟩ := (zcv ..).1 h
 obtain ⟨k1,k2,k3⟩ := (zcu n).1 h0
 obtain ⟨x1,x2,y1,y2⟩ := (zdp x y).1 h7
 induction d with
 | zero =>
  intro j hj
  refine Ev.step (fun k => by rw [zv.l0]) ?_
  rw [List.take_of_length_le (by omega)]
  have s0 := za0 (v := a.toNat) (by omega)
  have s1 := za0 (v := r.toNat) (by omega)
  have s2 := za0 (v := x.toNat) (by omega)
  have s3 := za0 (v := y.toNat) (by omega)
  have r1 := zh7 h5
  have r2 := zh8 (zbE h0 h9)
  have d1 : zU.f (bs.map bB) = some (toB (zbI (bs.map bB))) := if_pos (by omega)
  have d2 : zU.f ps = some (toB (zbI ps)) := if_pos (by omega)
  refine zF (by omega) (Ev.bind (zcY (by omega) (by omega)) (Ev.bind (zcY (by omega) (by omega)) (zn (by omega) (zaf d1 (zn (by simp only [ByteArray.size_append,zP];omega) (zaf d2 (zn (by simp only [ByteArray.size_append,zP];omega)
   (Ev.bind (zcY (by omega) (by omega)) (zn (by simp only [ByteArray.size_append,zP];omega) (Ev.bind (zcY (by omega) (by omega)) (zn (by simp only [ByteArray.size_append,zP];omega) (zac (Ev.now _) ?_))))))))))))
  simp only [zaE,zbO,zbk]
 | succ d ih =>
  intro j hj
  have hj' : j < bs.length := by omega
  refine Ev.step (fun k => by rw [zv.l0]) ?_
  refine zn (by omega) (zn (by omega) ?_)
  rw [zdA bs j hj',z9 (by omega) (by omega)]
  have hl := (zgz h).2.1 _ (List.getElem_mem hj')
  refine Ev.bind (zfr _ _ _ hl) (zn (by rw [List.length_map,List.length_take];omega) ?_)
  rw [ziS]
  have e : (bs.take j).map bB ++ [bB bs[j]] = (bs.take (j + 1)).map bB := by
   rw [List.take_succ_eq_append_getElem hj',List.map_append];rfl
  rw [e]
  exact ih (j + 1) (by omega)
theorem zdC (a r : Int) (bs : List S73) (ps : List ByteArray) (x y n : Int) (hb : bs.length < 4611686018427387904) (hbs : ∀ b ∈ bs,b.f2.length < 4611686018427387904) (hl : ps.length < 4611686018427387904) (hp : ∀ t ∈ ps,t.size < 4611686018427387904) :
  Ev (fun k => zv.f k a r bs ps x y n) (zgn a r bs ps x y n) := by
 refine Ev.bind (ze1 a r bs ps x y n hb hbs hl hp) ?_
 unfold zgn
 by_cases h : zbr a r bs ps x y n = true
 ·rw [if_pos h]
  exact zn h (zac (zh4 h bs.length 0 (by omega)) rfl)
 ·rw [if_neg h];exact zF h (Ev.now _)
def zcb (s : Nat) (n : Int) : Bool := decide (0 ≤ n) && decide (n ≤ 64) && decide (s < 2 ^ n.toNat)
theorem zb1 (s : Nat) (n : Int) : zcb s n = true ↔ 0 ≤ n ∧ n ≤ 64 ∧ s < 2 ^ n.toNat := by
 unfold zcb;simp [and_assoc]
theorem zhP (s p : Nat) (hp : 0 < p) : s / p = 0 ↔ s < p := by
 rw [Nat.div_eq_zero_iff];omega
theorem zgb (s : Nat) (n : Int) : zbz.f (s : Int) n = some (zcb s n) := by
 unfold zbz.f
 by_cases h1 : n < 0
 ·rw [if_pos h1]
  have : zcb s n = false := by rw [← Bool.not_eq_true,zb1];omega
  rw [this]
 rw [if_neg h1]
 by_cases h2 : n > 64
 ·rw [if_pos h2]
  have : zcb s n = false := by rw [← Bool.not_eq_true,zb1];omega
  rw [this]
 rw [if_neg h2,z9 (by omega) (by omega)]
 by_cases h3 : n > 0
 ·obtain ⟨m,rfl⟩ : ∃ m : Nat,n = ((m + 1 : Nat) : Int) := ⟨(n - 1).toNat,by omega⟩
  have hm : mx (((m + 1 : Nat) : Int) - 1) 0 = (m : Int) := by unfold mx;split <;> omega
  have hs : shr .u64 ((s : Int) / 2) (m : Int) = ((s / 2 / 2 ^ m : Nat) : Int) := by
   unfold shr
   rw [Int.toNat_natCast,Nat.min_eq_left (by show m ≤ 64;omega),show (s : Int) / 2 = ((s / 2 : Nat) : Int) by omega]
   norm_cast
  have he : s / 2 / 2 ^ m = s / 2 ^ (m + 1) := by rw [Nat.div_div_eq_div_mul,Nat.pow_succ,Nat.mul_comm]
  rw [hm,hs,he]
  have key := zhP s (2 ^ (m + 1)) (Nat.two_pow_pos _)
  by_cases h4 : s / 2 ^ (m + 1) = 0
  ·rw [if_pos (by omega),if_pos h3]
   have : zcb s ((m + 1 : Nat) : Int) = true := by rw [zb1];exact ⟨by omega,by omega,key.1 h4⟩
   rw [this]
  ·rw [if_neg (by omega)]
   have : zcb s ((m + 1 : Nat) : Int) = false := by
    rw [← Bool.not_eq_true,zb1]
    exact fun hh => h4 (key.2 hh.2.2)
   rw [this]
 ·obtain rfl : n = 0 := by omega
  have hm : mx ((0 : Int) - 1) 0 = 0 := by decide
  have hs : shr .u64 ((s : Int) / 2) 0 = (s : Int) / 2 := by unfold shr;simp
  have hw : zcb s 0 = decide (s = 0) := by
   rw [Bool.eq_iff_iff,zb1];simp
  rw [hm,hs,hw]
  by_cases h4 : s = 0
  ·subst h4;rfl
  ·by_cases h5 : (s : Int) / 2 = 0
   ·rw [if_pos h5,if_neg (by omega)]
    congr 1
    rw [Bool.eq_iff_iff];simp
   ·rw [if_neg h5];simp [h4]
theorem zgS (s : Nat) (hs : s < 18446744073709551616) : zbF.f (s : Int) = some ((zbV 64 s : Nat) : Int) := by
 unfold zbF.f
 rw [zeH s hs];rfl
def zbP : Nat → Nat → Nat → List Int
 | 0,_,_ => []
 | d + 1,id,s => (if s % 2 = 1 then [(id : Int)] else []) ++ zbP d (id + 1) (s / 2)
theorem zdH : ∀ d id s,(zbP d id s).length = zbV d s
 | 0,_,_ => rfl
 | d + 1,id,s => by
  rw [zbP,zbV,List.length_append,zdH d]
  split
  ·rename_i h;rw [h];rfl
  ·rename_i h;have : s % 2 = 0 := by omega
   rw [this];rfl
theorem refList_l0 (d : Nat) : ∀ (id s : Nat) (acc : List Int),id + d = 65 → acc.length ≤ id → s < 18446744073709551616 → Ev (fun k => zZ.l0 k (s : Int) acc (id : Int)) (acc ++ zbP d id s) := by
 induction d with
 | zero =>
  intro id s acc h ha hs
  refine Ev.step (fun k => by rw [zZ.l0]) ?_
  exact zF (by omega) (zac (Ev.now _) (by simp [zbP]))
 | succ d ih =>
  intro id s acc h ha hs
  refine Ev.step (fun k => by rw [zZ.l0]) ?_
  refine zn (by omega) ?_
  have e1 : IntKind.u64.wrap (Int.tdiv (s : Int) 2) = ((s / 2 : Nat) : Int) := by
   rw [Int.tdiv_eq_ediv_of_nonneg (by omega),zaA (by omega) (by omega)];omega
  have e2 : wrap64 ((id : Int) + 1) = ((id + 1 : Nat) : Int) := by rw [z9 (by omega) (by omega)];omega
  have e3 : Int.tmod (s : Int) 2 = ((s % 2 : Nat) : Int) := by rw [Int.tmod_eq_emod_of_nonneg (by omega)];omega
  rw [e1,e2,e3]
  by_cases hb : s % 2 = 1
  ·refine zn (by omega) (zn (by omega) (zac (ih (id + 1) (s / 2) (acc ++ [(id : Int)]) (by omega) (by rw [List.length_append];simp;omega) (by omega)) ?_))
   rw [zbP,if_pos hb,List.append_assoc]
  ·refine zF (by omega) (zac (ih (id + 1) (s / 2) acc (by omega) (by omega) (by omega)) ?_)
   rw [zbP,if_neg hb,List.nil_append]
theorem zgL (s : Nat) (hs : s < 18446744073709551616) : Ev (fun k => zZ.f k (s : Int)) (zbP 64 1 s) :=
 refList_l0 64 1 s [] (by omega) (by simp) hs
theorem ziC (s : Nat) (hs : s < 18446744073709551616) : Ev (fun k => zaI.f k (s : Int)) ((zbV 64 s : Nat) : Int) :=
 Ev.bind (zgL s hs) (zac (Ev.now _) (by rw [zdH]))
theorem zeu : ∀ d id,zbP d id 0 = []
 | 0,_ => rfl
 | d + 1,id => by rw [zbP,zeu d];rfl
theorem zfP : ∀ d id s,s < 2 ^ d → 0 < s → ∃ t : Nat,(zbP d id s).getLast? = some ((id + t : Nat) : Int) ∧ 2 ^ t ≤ s ∧ s < 2 ^ (t + 1)
 | 0,_,s,h,h0 => by simp at h;omega
 | d + 1,id,s,h,h0 => by
  rw [Nat.pow_succ] at h
  rcases Nat.eq_zero_or_pos (s / 2) with hz | hz
  ·refine ⟨0,?_,by show 1 ≤ s;omega,by simp;omega⟩
   rw [zbP,hz,zeu,List.append_nil,if_pos (by omega)];rfl
  ·obtain ⟨t,h1,h2,h3⟩ := zfP d (id + 1) (s / 2) (by omega) hz
   refine ⟨t + 1,?_,by rw [Nat.pow_succ];omega,by rw [Nat.pow_succ];omega⟩
   rw [zbP,List.getLast?_append,h1]
   simp only [Option.some_or]
   congr 2;omega
theorem zh5 (s : Nat) (hs : s < 18446744073709551616) (n : Int) : Ev (fun k => zaM.f k (s : Int) n) (zcb s n) := by
 by_cases h1 : n < 0
 ·have : zcb s n = false := by rw [← Bool.not_eq_true,zb1];omega
  rw [this];exact zn h1 (Ev.now _)
 refine zF h1 ?_
 by_cases h2 : n > 64
 ·have : zcb s n = false := by rw [← Bool.not_eq_true,zb1];omega
  rw [this];exact zn h2 (Ev.now _)
 refine zF h2 (Ev.bind (zgL s hs) ?_)
 have h64 : s < 2 ^ 64 := hs
 rcases Nat.eq_zero_or_pos s with h0 | h0
 ·subst h0
  rw [zeu]
  have : zcb 0 n = true := by rw [zb1];exact ⟨by omega,by omega,Nat.two_pow_pos _⟩
  rw [this];exact zn rfl (Ev.now _)
 ·obtain ⟨t,k1,k2,k3⟩ := zfP 64 1 s h64 h0
  have hne : zbP 64 1 s ≠ [] := fun hh => by rw [hh] at k1;cases k1
  have hl := zdH 64 1 s
  have hp := zc3 64 s
  have hlp : 0 < (zbP 64 1 s).length := List.length_pos_iff.2 hne
  generalize zbP 64 1 s = L at *
  have e1 : wrap64 ((L.length : Int) - 1) = ((L.length - 1 : Nat) : Int) := by rw [z9 (by omega) (by omega)];omega
  refine zF (by omega) ?_
  rw [e1]
  refine zn (by omega) (zn (by omega) (zac (Ev.now _) ?_))
  have e2 : rd L ((L.length - 1 : Nat) : Int) = ((1 + t : Nat) : Int) := by
   rw [List.getLast?_eq_getElem?] at k1
   unfold rd
   rw [Int.toNat_natCast,List.getD_eq_getElem?_getD,k1];rfl
  rw [e2,Bool.eq_iff_iff,decide_eq_true_iff,zb1]
  constructor
  ·intro hh
   exact ⟨by omega,by omega,Nat.lt_of_lt_of_le k3 (Nat.pow_le_pow_right (by omega) (by omega))⟩
  ·rintro ⟨_,_,hh⟩
   have : t < n.toNat := (Nat.pow_lt_pow_iff_right (by omega : 1 < 2)).1 (Nat.lt_of_le_of_lt k2 hh)
   omega
def zcV (a r : Int) (bs : List S73) (ps : List ByteArray) (x y : Int) (s : Nat) (n : Int) : Int :=
 if zbr a r bs ps x y n = true then if zcb s n = true then if ((zbV 64 s : Nat) : Int) < zbX n then 2 else 0 else 4 else 1
theorem zdZ (a r : Int) (bs : List S73) (ps : List ByteArray) (x y : Int) (s : Nat) (hs : s < 18446744073709551616) (n : Int) : zaV.f a r bs ps x y (s : Int) n = some (zcV a r bs ps x y s n) := by
 unfold zaV.f zcV
 rw [show zao.f a r bs ps x y n = some (zbr a r bs ps x y n) from rfl,zgb,zgS s hs,zeb]
 simp only [Option.bind_some]
 split
 ·split
  ·split <;> rfl
  ·rfl
 ·rfl
theorem zgK (a r : Int) (bs : List S73) (ps : List ByteArray) (x y : Int) (s : Nat) (hs : s < 18446744073709551616) (n : Int) (hb : bs.length < 4611686018427387904) (hbs : ∀ b ∈ bs,b.f2.length < 4611686018427387904) (hl : ps.length < 4611686018427387904) (hp : ∀ t ∈ ps,t.size < 4611686018427387904) :
  Ev (fun k => zay.f k a r bs ps x y (s : Int) n) (zcV a r bs ps x y s n) := by
 refine Ev.bind (ze1 a r bs ps x y n hb hbs hl hp) ?_
 unfold zcV
 refine zgu (fun _ => Ev.bind (zh5 s hs n) (zgu (fun _ => Ev.bind (ziC s hs) (zaf (zd9 n) (zgu (fun _ => Ev.now _) (fun _ => Ev.now _)))) (fun _ => Ev.now _))) (fun _ => Ev.now _)
theorem zeY {a r : Int} {bs : List S73} {ps : List ByteArray} {x y : Int} {s : Nat} {n : Int} : zcV a r bs ps x y s n = 0 ↔ zbr a r bs ps x y n = true ∧ zcb s n = true ∧ zbX n ≤ ((zbV 64 s : Nat) : Int) := by
 unfold zcV
 by_cases h1 : zbr a r bs ps x y n = true
 ·rw [if_pos h1]
  by_cases h2 : zcb s n = true
  ·rw [if_pos h2]
   by_cases h3 : ((zbV 64 s : Nat) : Int) < zbX n
   ·rw [if_pos h3];simp;omega
   ·rw [if_neg h3];simp [h1,h2];omega
  ·rw [if_neg h2];simp [h2]
 ·rw [if_neg h1];simp [h1]
def proofL (a r : Int) (bs : List S73) (ps : List ByteArray) (x y : Int) (s : Nat) : Bs := zdu (zaE a r bs ps x y) ++ zbD s
def zgC (a r : Int) (bs : List S73) (ps : List ByteArray) (x y : Int) (s : Nat) (n : Int) : ByteArray × Int :=
 if zcV a r bs ps x y s n = 0 then (toB (proofL a r bs ps x y s),0) else ((⟨#[]⟩ : ByteArray),zcV a r bs ps x y s n)
theorem zhD (l : Bs) : zdU (toB l) = toB (zdu l) := by rw [ziN,zav]
theorem zg6 (a r : Int) (bs : List S73) (ps : List ByteArray) (x y : Int) (s : Nat) (hs : s < 18446744073709551616) (n : Int) : zbf.f a r bs ps x y (s : Int) n = some (zgC a r bs ps x y s n) := by
 unfold zbf.f zgC
 rw [zdZ _ _ _ _ _ _ _ hs]
 simp only [Option.bind_some]
 by_cases h : zcV a r bs ps x y s n = 0
 ·rw [if_pos h,if_pos h]
  have hm := (zeY.1 h).1
  have hl := zfX hm
  rw [zed,if_pos hm]
  simp only [Option.bind_some]
  have n1 := za0 (v := s) hs
  have n2 := za0 (v := (zaE a r bs ps x y).length) (by omega)
  rw [zej _ (by rw [zP];omega),zc2 s hs]
  simp only [Option.bind_some]
  rw [if_pos (by rw [zdU,ByteArray.size_append,zP];omega),zhD,proofL,zbk];rfl
 ·rw [if_neg h,if_neg h]
theorem zft (a r : Int) (bs : List S73) (ps : List ByteArray) (x y : Int) (s : Nat) (hs : s < 18446744073709551616) (n : Int) (hb : bs.length < 4611686018427387904) (hbs : ∀ b ∈ bs,b.f2.length < 4611686018427387904) (hp0 : ps.length < 4611686018427387904) (hp : ∀ t ∈ ps,t.size < 4611686018427387904) :
  Ev (fun k => zan.f k a r bs ps x y (s : Int) n) (zgC a r bs ps x y s n) := by
 refine Ev.bind (zgK a r bs ps x y s hs n hb hbs hp0 hp) ?_
 unfold zgC
 by_cases h : zcV a r bs ps x y s n = 0
 ·rw [if_pos h]
  refine zn h (Ev.bind (zdC a r bs ps x y n hb hbs hp0 hp) ?_)
  have hm := (zeY.1 h).1
  have hl := zfX hm
  have n1 := za0 (v := s) hs
  have n2 := za0 (v := (zaE a r bs ps x y).length) (by omega)
  rw [zgn,if_pos hm]
  refine zaf (zcX _ (by rw [zP];omega)) (Ev.bind (zeC s hs) (zn (by rw [zdU,ByteArray.size_append,zP];omega) (zac (Ev.now _) ?_)))
  rw [zhD,proofL,zbk];rfl
 ·rw [if_neg h];exact zF h (Ev.now _)
end Go.Proofs.YtfhbeonhnhjikaaGreat.Px