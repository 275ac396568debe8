/- Part 27 of 35 of the proof of the law PostTakes: what is proved is the statement at the end of the last part; its conditions are those of the given row. -/
import Derived.Test.YtgdpiegkoeikiaaZPostTakesT
import Derived.Test.YtgdpiegkoeikiaaZPostTakesX
import Derived.Test.YtgdpiegkoeikiaaZPostTakesZ
namespace Go.Proofs.Ytgdpiegkoeikiaa.Px
open Go.RowKit Go.Proofs.YtgdpiegkoeikiaaW.PrintWords Go.Proofs.YtgdpiegkoeikiaaW.PrintLast Go.Proofs.YtgdpiegkoeikiaaW.PrintMore
attribute [local go_sem] zF zH zQ zR zy zz zG zI
set_option linter.unusedVariables false
set_option linter.unusedSimpArgs false
def zbc (s : Bs) : Nat × Bs × Int := zv (zv s).2.1
def zbz (s : Bs) : List ByteArray × Bs × Int := zai (zbc s).2.1 4 400
def zbN (s : Bs) : List ByteArray × Bs × Int := zai (zbz s).2.1 64 32
def zbw (s : Bs) : Nat × Bs × Int := zv (zbN s).2.1
def zbR (s : Bs) : Nat × Bs × Int := zv (zbw s).2.1
def okR (s : Bs) : Prop := (zv s).2.2 = 0 ∧ (zbc s).2.2 = 0 ∧ (zv s).1 ≤ 64 ∧ (zbc s).1 ≤ 1048576 ∧ (zbz s).2.2 = 0 ∧ (zbN s).2.2 = 0 ∧ (zbw s).2.2 = 0 ∧ (zbw s).1 ≤ 10006 ∧ (zbR s).2.2 = 0 ∧ (zbR s).1 ≤ 10006 ∧ (zbR s).2.1 = []
instance decOkR (s : Bs) : Decidable (okR s) := by unfold okR;infer_instance
def zfj (s : Bs) (n : Int) : VT := if okR s then zdI (zv s).1 (zbc s).1 (zbN s).1 (zbw s).1 (zbR s).1 n (zba (zbz s).1) else zcm
theorem ze5 {s : Bs} {n : Int} (h : okR s) : zfj s n = zdI (zv s).1 (zbc s).1 (zbN s).1 (zbw s).1 (zbR s).1 n (zba (zbz s).1) := if_pos h
theorem zgj {s : Bs} {n : Int} (h : ¬ okR s) : zfj s n = zcm := if_neg h
theorem zhM (s : Bs) (n : Int) : zfj s n = zcm ∨ ∃ a r bs ps x y,zfj s n = (a,r,bs,ps,x,y,0) ∧ zbv a r bs ps x y n = true ∧ s = zbp a r bs ps x y := by
 by_cases h : okR s
 ·rw [ze5 h]
  rcases zf2 (zv s).1 (zbc s).1 (zbN s).1 (zbw s).1 (zbR s).1 n (zba (zbz s).1) with h0 | ⟨bs,h1,h2,h3⟩
  ·exact .inl h0
  ·refine .inr ⟨_,_,_,_,_,_,h3,h2,?_⟩
   obtain ⟨k1,k2,_,_,k5,k6,k7,_,k9,_,k11⟩ := h
   obtain ⟨e7,_⟩ := zda h1
   have q1 := (zbf (s := s) (v := (zv s).1) (r := (zv s).2.1) (by rw [← k1])).1
   have q2 := (zbf (s := (zv s).2.1) (v := (zbc s).1) (r := (zbc s).2.1) (by rw [← k2];rfl)).1
   have q3 := (zbE (s := (zbc s).2.1) (l := (zbz s).1) (r := (zbz s).2.1) (many := 4) (most := 400) (by rw [← k5];rfl)).1
   have q4 := (zbE (s := (zbz s).2.1) (l := (zbN s).1) (r := (zbN s).2.1) (many := 64) (most := 32) (by rw [← k6];rfl)).1
   have q5 := (zbf (s := (zbN s).2.1) (v := (zbw s).1) (r := (zbw s).2.1) (by rw [← k7];rfl)).1
   have q6 := (zbf (s := (zbw s).2.1) (v := (zbR s).1) (r := (zbR s).2.1) (by rw [← k9];rfl)).1
   rw [k11,List.append_nil] at q6
   rw [q6] at q5
   rw [q5] at q4
   rw [q4] at q3
   rw [q3] at q2
   rw [q2] at q1
   rw [zbp,Int.toNat_natCast,Int.toNat_natCast,Int.toNat_natCast,Int.toNat_natCast,← e7]
   simp only [List.append_assoc]
   exact q1
 ·exact .inl (zgj h)
theorem zgk {a r : Int} {bs : List zY} {ps : List ByteArray} {x y n : Int} (h : zbv a r bs ps x y n = true) : zfj (zbp a r bs ps x y) n = (a,r,bs,ps,x,y,0) := by
 obtain ⟨h0,h1,h2,h3,h4,h5,h6,h7,h8,h9⟩ := (zdf ..).1 h
 obtain ⟨k1,k2,k3⟩ := (zde n).1 h0
 obtain ⟨x1,x2,y1,y2⟩ := (zgc x y).1 h7
 have hp := zce h0 h9
 obtain ⟨a',rfl⟩ := Int.eq_ofNat_of_zero_le (show 0 ≤ a by omega)
 obtain ⟨r',rfl⟩ := Int.eq_ofNat_of_zero_le (show 0 ≤ r by omega)
 obtain ⟨x',rfl⟩ := Int.eq_ofNat_of_zero_le x1
 obtain ⟨y',rfl⟩ := Int.eq_ofNat_of_zero_le y1
 have e0 : zv (zbp a' r' bs ps x' y') = (a',zbb r' ++ (zcM (bs.map bB) ++ (zcM ps ++ (zbb x' ++ zbb y'))),0) := by
  rw [zbp,Int.toNat_natCast,Int.toNat_natCast,Int.toNat_natCast,Int.toNat_natCast]
  simp only [List.append_assoc]
  exact zbt (by omega) _
 have e1 : zbc (zbp a' r' bs ps x' y') = (r',zcM (bs.map bB) ++ (zcM ps ++ (zbb x' ++ zbb y')),0) := by
  rw [zbc,e0];exact zbt (by omega) _
 have e2 : zbz (zbp a' r' bs ps x' y') = (bs.map bB,zcM ps ++ (zbb x' ++ zbb y'),0) := by
  rw [zbz,e1]
  exact zcf (by rw [List.length_map];omega) (by rw [List.length_map];omega) (fun t ht => by
   obtain ⟨b,_,rfl⟩ := List.mem_map.1 ht
   have := zgF b;omega) _
 have e3 : zbN (zbp a' r' bs ps x' y') = (ps,zbb x' ++ zbb y',0) := by
  rw [zbN,e2]
  exact zcf (by have := hp.1;omega) (by have := hp.1;omega) (fun t ht => by have := hp.2 t ht;omega) _
 have e4 : zbw (zbp a' r' bs ps x' y') = (x',zbb y',0) := by
  rw [zbw,e3];exact zbt (by omega) _
 have e5 : zbR (zbp a' r' bs ps x' y') = (y',[],0) := by
  rw [zbR,e4]
  have := zbt (v := y') (by omega) []
  rwa [List.append_nil] at this
 have hv : okR (zbp a' r' bs ps x' y') := by
  unfold okR
  rw [e0,e1,e2,e3,e4,e5]
  refine ⟨rfl,rfl,?_,?_,rfl,rfl,rfl,?_,rfl,?_,rfl⟩ <;> simp only <;> omega
 rw [ze5 hv,e0,e1,e2,e3,e4,e5,zc1 (fun b hb => (zfB h6 b hb).1),zdI,if_pos h]
theorem zgN (s : Bs) (n : Int) : zfj s n = zcQ s n := by
 rcases zdm s n with h | ⟨a,r,bs,ps,x,y,h,hm,rfl⟩
 ·rcases zhM s n with h' | ⟨a,r,bs,ps,x,y,h',hm,rfl⟩
  ·rw [h,h']
  ·rw [zfW hm] at h
   simp [zcm] at h
 ·rw [h,zgk hm]
theorem zfR (n : Int) (l : List ByteArray) (a r : Int) (ps : List ByteArray) (x y : Int) (hl : l.length ≤ 4) (hs : ∀ t ∈ l,t.size < 4611686018427387904) (hp : ps.length < 4611686018427387904) (hps : ∀ t ∈ ps,t.size < 4611686018427387904) (d : Nat) : ∀ (j : Nat) (acc : List zY),j + d = l.length → acc.length = j → (∀ b ∈ acc,b.f2.length < 4611686018427387904) →
  Ev (fun k => zn.l0 k n l (j : Int) a r acc ps x y) (zdI a r ps x y n ((zba (l.drop j)).map (acc ++ ·))) := by
 induction d with
 | zero =>
  intro j acc hj ha hacc
  refine Ev.step (fun k => by rw [zn.l0]) ?_
  rw [List.drop_eq_nil_of_le (by omega)]
  refine zO (by omega) (Ev.bind (ze4 a r acc ps x y n (by omega) hacc hp hps) ?_)
  show Ev _ (zdI a r ps x y n (some (acc ++ [])))
  rw [List.append_nil,zdI]
  by_cases h : zbv a r acc ps x y n = true
  ·exact zao (zw h (Ev.now _)) (by rw [if_pos h])
  ·exact zao (zO h (Ev.now _)) (by rw [if_neg h];rfl)
 | succ d ih =>
  intro j acc hj ha hacc
  have hj' : j < l.length := by omega
  refine Ev.step (fun k => by rw [zn.l0]) ?_
  refine zw (by omega) (zw (by omega) ?_)
  rw [zdQ l j hj',List.drop_eq_getElem_cons hj']
  refine Ev.bind (zet _ (hs _ (List.getElem_mem hj'))) ?_
  rw [zba]
  by_cases h : (zaL (ofB l[j])).2.2.2 = 0
  ·rw [if_pos h]
   refine zw h (zw (by omega) ?_)
   rw [zag (by omega) (by omega)]
   refine zao (ih (j + 1) _ (by omega) (by rw [List.length_append,ha];rfl) ?_) ?_
   ·intro b hb
    rcases List.mem_append.1 hb with hb | hb
    ·exact hacc b hb
    ·obtain rfl := List.mem_singleton.1 hb
     exact ze9 _
   ·congr 1
    rcases zba (l.drop (j + 1)) with _ | bs
    ·rfl
    ·simp
  ·rw [if_neg h]
   exact zO h (Ev.now _)
theorem zhm {s : Bs} (h : (zbz s).2.2 = 0) : (zbz s).1.length ≤ 4 ∧ ∀ t ∈ (zbz s).1,t.size < 4611686018427387904 := by
 obtain ⟨_,h2,_,h4⟩ := zbE (s := (zbc s).2.1) (l := (zbz s).1) (r := (zbz s).2.1) (many := 4) (most := 400) (by rw [← h];rfl)
 exact ⟨by omega,fun t ht => by have := (h4 t ht).1;omega⟩
theorem zhn {s : Bs} (h : (zbN s).2.2 = 0) : (zbN s).1.length < 4611686018427387904 ∧ ∀ t ∈ (zbN s).1,t.size < 4611686018427387904 := by
 obtain ⟨_,h2,_,h4⟩ := zbE (s := (zbz s).2.1) (l := (zbN s).1) (r := (zbN s).2.1) (many := 64) (most := 32) (by rw [← h];rfl)
 exact ⟨by omega,fun t ht => by have := (h4 t ht).1;omega⟩
theorem zei (s : ByteArray) (n : Int) (hs : s.size < 4611686018427387904) : Ev (fun k => zn.f k s n) (zfj (ofB s) n) := by
 generalize hS : ofB s = S
 have l0 : S.length < 4611686018427387904 := by rw [← hS,zah];exact hs
 have l1 : (zv S).2.1.length ≤ _ := zaW S
 have l2 : (zbc S).2.1.length ≤ _ := zaW (zv S).2.1
 have l3 : (zbz S).2.1.length ≤ _ := zck (zbc S).2.1 4 400
 have l4 : (zbN S).2.1.length ≤ _ := zck (zbz S).2.1 64 32
 have l5 : (zbw S).2.1.length ≤ _ := zaW (zbN S).2.1
 have v1 := zaQ S
 have v2 : (zbc S).1 < _ := zaQ (zv S).2.1
 have v3 : (zbw S).1 < _ := zaQ (zbN S).2.1
 have v4 : (zbR S).1 < _ := zaQ (zbw S).2.1
 have t1 := za9 s hs
 have t2 := za9 (toB (zv S).2.1) (by rw [zV];omega)
 have t3 := zcS (toB (zbc S).2.1) 4 400 (by decide) (by decide) (by rw [zV];omega) (.inr (by omega))
 have t4 := zcS (toB (zbz S).2.1) 64 32 (by decide) (by decide) (by rw [zV];omega) (.inr (by omega))
 have t5 := za9 (toB (zbN S).2.1) (by rw [zV];omega)
 have t6 := za9 (toB (zbw S).2.1) (by rw [zV];omega)
 simp only [zbd,zcv,zae,hS] at t1 t2 t3 t4 t5 t6
 have badJ2 : Ev (fun k => zn.j2 k n ((zv S).1 : Int) ((zbc S).1 : Int) (zbz S).1 (zbN S).1 ((zbw S).1 : Int) ((zbR S).1 : Int) true) zcm := by refine Ev.step (fun k => by rw [zn.j2]) ?_;exact zw rfl (Ev.now _)
 have goodJ2 : okR S → Ev (fun k => zn.j2 k n ((zv S).1 : Int) ((zbc S).1 : Int) (zbz S).1 (zbN S).1 ((zbw S).1 : Int) ((zbR S).1 : Int) false) (zfj S n) := by
  intro h
  obtain ⟨_,_,h3,h4,h5,h6,_,h8,_,h10,_⟩ := id h
  refine Ev.step (fun k => by rw [zn.j2]) ?_;refine zO (by simp) ?_
  rw [zag (by omega) (by omega),zag (by omega) (by omega),zag (by omega) (by omega),zag (by omega) (by omega),ze5 h]
  obtain ⟨a1,a2⟩ := zhm h5
  obtain ⟨b1,b2⟩ := zhn h6
  refine zao (zfR n (zbz S).1 _ _ _ _ _ a1 a2 b1 b2 (zbz S).1.length 0 [] (by omega) rfl (fun b hb => absurd hb (by simp))) ?_
  rw [List.drop_zero]
  rcases zba (zbz S).1 with _ | bs <;> rfl
 have hbad : ¬ okR S → zfj S n = zcm := fun h => zgj h
 refine Ev.bind t1 (Ev.bind t2 ?_)
 have badJ0 : Ev (fun k => zn.j0 k n ((zv S).1 : Int) ((zbc S).1 : Int) (toB (zbc S).2.1) true) zcm := by refine Ev.step (fun k => by rw [zn.j0]) ?_;exact zw rfl (Ev.now _)
 have goodJ0 : (zv S).2.2 = 0 → (zbc S).2.2 = 0 → (zv S).1 ≤ 64 → (zbc S).1 ≤ 1048576 → Ev (fun k => zn.j0 k n ((zv S).1 : Int) ((zbc S).1 : Int) (toB (zbc S).2.1) false) (zfj S n) := by
  intro h1 h2 h3 h4
  refine Ev.step (fun k => by rw [zn.j0]) ?_;refine zO (by simp) (Ev.bind t3 ?_)
  by_cases h5 : (zbz S).2.2 = 0
  ·refine zw h5 (Ev.bind t4 ?_)
   by_cases h6 : (zbN S).2.2 = 0
   ·refine zw h6 (Ev.bind t5 ?_)
    have badJ1 : Ev (fun k => zn.j1 k n ((zv S).1 : Int) ((zbc S).1 : Int) (zbz S).1 (zbN S).1 ((zbw S).1 : Int) (toB (zbw S).2.1) true) zcm := by refine Ev.step (fun k => by rw [zn.j1]) ?_;exact zw rfl (Ev.now _)
    by_cases h7 : (zbw S).2.2 = 0
    ·refine zw h7 ?_
     by_cases h8 : (zbw S).1 ≤ 10006
     ·have e8 : decide (((zbw S).1 : Int) > 10006) = false := decide_eq_false (by omega)
      show Ev (fun k => zn.j1 k n ((zv S).1 : Int) ((zbc S).1 : Int) (zbz S).1 (zbN S).1 ((zbw S).1 : Int) (toB (zbw S).2.1) (decide (((zbw S).1 : Int) > 10006))) _
      rw [e8]
      refine Ev.step (fun k => by rw [zn.j1]) ?_;refine zO (by simp) (Ev.bind t6 ?_)
      by_cases h9 : (zbR S).2.2 = 0
      ·refine zw h9 ?_
       by_cases h10 : (zbR S).1 ≤ 10006
       ·refine zO (by show ¬ ((zbR S).1 : Int) > 10006;omega) ?_
        by_cases h11 : (zbR S).2.1 = []
        ·have e11 : decide (((toB (zbR S).2.1).size : Int) > 0) = false := decide_eq_false (by rw [zV,h11];simp)
         show Ev (fun k => zn.j2 k n ((zv S).1 : Int) ((zbc S).1 : Int) (zbz S).1 (zbN S).1 ((zbw S).1 : Int) ((zbR S).1 : Int) (decide (((toB (zbR S).2.1).size : Int) > 0))) _
         rw [e11]
         exact goodJ2 ⟨h1,h2,h3,h4,h5,h6,h7,h8,h9,h10,h11⟩
        ·have e11 : decide (((toB (zbR S).2.1).size : Int) > 0) = true := decide_eq_true (by
          rw [zV]
          have : (zbR S).2.1.length ≠ 0 := fun hh => h11 (List.eq_nil_of_length_eq_zero hh)
          omega)
         show Ev (fun k => zn.j2 k n ((zv S).1 : Int) ((zbc S).1 : Int) (zbz S).1 (zbN S).1 ((zbw S).1 : Int) ((zbR S).1 : Int) (decide (((toB (zbR S).2.1).size : Int) > 0))) _
         rw [e11,hbad (fun hh => h11 hh.2.2.2.2.2.2.2.2.2.2)]
         exact badJ2
       ·rw [hbad (fun hh => h10 hh.2.2.2.2.2.2.2.2.2.1)]
        exact zw (by show ((zbR S).1 : Int) > 10006;omega) badJ2
      ·rw [hbad (fun hh => h9 hh.2.2.2.2.2.2.2.2.1)]
       exact zO h9 badJ2
     ·have e8 : decide (((zbw S).1 : Int) > 10006) = true := decide_eq_true (by omega)
      show Ev (fun k => zn.j1 k n ((zv S).1 : Int) ((zbc S).1 : Int) (zbz S).1 (zbN S).1 ((zbw S).1 : Int) (toB (zbw S).2.1) (decide (((zbw S).1 : Int) > 10006))) _
      rw [e8,hbad (fun hh => h8 hh.2.2.2.2.2.2.2.1)]
      exact badJ1
    ·rw [hbad (fun hh => h7 hh.2.2.2.2.2.2.1)]
     exact zO h7 badJ1
   ·rw [hbad (fun hh => h6 hh.2.2.2.2.2.1)]
    exact zO h6 (Ev.now _)
  ·rw [hbad (fun hh => h5 hh.2.2.2.2.1)]
   exact zO h5 (Ev.now _)
 by_cases h1 : (zv S).2.2 = 0
 ·refine zw h1 ?_
  by_cases h2 : (zbc S).2.2 = 0
  ·refine zw h2 ?_
   by_cases h3 : (zv S).1 ≤ 64
   ·refine zO (by omega) ?_
    by_cases h4 : (zbc S).1 ≤ 1048576
    ·have e4 : decide (((zbc S).1 : Int) > 1048576) = false := decide_eq_false (by omega)
     show Ev (fun k => zn.j0 k n ((zv S).1 : Int) ((zbc S).1 : Int) (toB (zbc S).2.1) (decide (((zbc S).1 : Int) > 1048576))) _
     rw [e4]
     exact goodJ0 h1 h2 h3 h4
    ·have e4 : decide (((zbc S).1 : Int) > 1048576) = true := decide_eq_true (by omega)
     show Ev (fun k => zn.j0 k n ((zv S).1 : Int) ((zbc S).1 : Int) (toB (zbc S).2.1) (decide (((zbc S).1 : Int) > 1048576))) _
     rw [e4,hbad (fun hh => h4 hh.2.2.2.1)]
     exact badJ0
   ·rw [hbad (fun hh => h3 hh.2.2.1)]
    exact zw (by omega) badJ0
  ·rw [hbad (fun hh => h2 hh.2.1)]
   exact zO h2 badJ0
 ·rw [hbad (fun hh => h1 hh.1)]
  exact zO h1 badJ0
theorem zem (s : Bs) (n : Int) : (zcQ s n).2.2.1.length < 4611686018427387904 ∧ (∀ b ∈ (zcQ s n).2.2.1,b.f2.length < 4611686018427387904) ∧ (zcQ s n).2.2.2.1.length < 4611686018427387904 := by
 rcases zdm s n with h | ⟨a,r,bs,ps,x,y,h,hm,_⟩
 ·rw [h];exact ⟨by decide,fun b hb => absurd hb (by simp [zcm]),by decide⟩
 ·rw [h];exact zeO hm
theorem zdl (s : Bs) (most : Int) : (zaB s most).1.length ≤ s.length ∧ (zaB s most).2.1.length ≤ s.length := by
 have hl := zaW s
 unfold zaB zb4
 split
 ·unfold za3
  split
  ·exact ⟨Nat.zero_le _,Nat.zero_le _⟩
  ·split
   ·exact ⟨Nat.zero_le _,Nat.zero_le _⟩
   ·simp only [List.length_take,List.length_drop];omega
 ·exact ⟨Nat.zero_le _,Nat.zero_le _⟩
theorem zfX (s : ByteArray) (n : Int) (hs : s.size < 4611686018427387904) : Ev (fun k => zbJ.f k s n) (zdT (ofB s) n) := by
 have l0 : (ofB s).length < 4611686018427387904 := by rw [zah];exact hs
 obtain ⟨l1,l2⟩ := zdl (ofB s) 65536
 have t1 := zel s 65536 hs (by decide)
 have t2 := zbU (toB (pA (ofB s)).2.1) (by rw [zV];exact Nat.lt_of_le_of_lt l2 l0)
 have t3 := zdA (toB (pA (ofB s)).1) n (by rw [zV];exact Nat.lt_of_le_of_lt l1 l0)
 simp only [zbd,zae] at t2 t3
 refine Ev.bind t1 (Ev.bind t2 (Ev.bind t3 ?_))
 have bad : ¬ okP (ofB s) n → zdT (ofB s) n = zcV := zd9
 show Ev (fun k => if (pA (ofB s)).2.2 = 0 then (if (pB (ofB s)).2.2 = 0 then (if (pV (ofB s) n).2.2.2.2.2.2 = 0 then (if (toB (pB (ofB s)).2.1).toList = ([] : List UInt8) then ((zbB.f (pV (ofB s) n).1 (pV (ofB s) n).2.1 (pV (ofB s) n).2.2.1 (pV (ofB s) n).2.2.2.1 (pV (ofB s) n).2.2.2.2.1 (pV (ofB s) n).2.2.2.2.2.1 ((pB (ofB s)).1 : Int) n).bind fun t => if t = 0 then some ((pV (ofB s) n).1,(pV (ofB s) n).2.1,(pV (ofB s) n).2.2.1,(pV (ofB s) n).2.2.2.1,(pV (ofB s) n).2.2.2.2.1,(pV (ofB s) n).2.2.2.2.2.1,((pB (ofB s)).1 : Int),0) else some zcV) else some zcV) else some zcV) else some zcV) else some zcV) _
 by_cases h1 : (pA (ofB s)).2.2 = 0
 ·refine zw h1 ?_
  by_cases h2 : (pB (ofB s)).2.2 = 0
  ·refine zw h2 ?_
   by_cases h3 : (pV (ofB s) n).2.2.2.2.2.2 = 0
   ·refine zw h3 ?_
    by_cases h4 : (pB (ofB s)).2.1 = []
    ·refine zw (by rw [zaT,zae];exact h4) (zad (zfG _ _ _ _ _ _ _ (zaQ _) _) ?_)
     by_cases h5 : zh1 (ofB s) n = 0
     ·exact zw h5 (zao (Ev.now _) (zea ⟨h1,h2,h3,h4,h5⟩).symm)
     ·exact zO h5 (zao (Ev.now _) (bad (fun hh => h5 hh.2.2.2.2)).symm)
    ·exact zO (by rw [zaT,zae];exact h4) (zao (Ev.now _) (bad (fun hh => h4 hh.2.2.2.1)).symm)
   ·exact zO h3 (zao (Ev.now _) (bad (fun hh => h3 hh.2.2.1)).symm)
  ·exact zO h2 (zao (Ev.now _) (bad (fun hh => h2 hh.2.1)).symm)
 ·exact zO h1 (zao (Ev.now _) (bad (fun hh => h1 hh.1)).symm)
theorem ze1 (s : ByteArray) (n : Int) (hs : s.size < 4611686018427387904) : Ev (fun k => z5.f k s n) (zdT (ofB s) n) := by
 have l0 : (ofB s).length < 4611686018427387904 := by rw [zah];exact hs
 obtain ⟨l1,l2⟩ := zdl (ofB s) 65536
 have t1 := zdi s 65536 hs (by decide)
 have t2 := za9 (toB (pA (ofB s)).2.1) (by rw [zV];exact Nat.lt_of_le_of_lt l2 l0)
 have t3 := zei (toB (pA (ofB s)).1) n (by rw [zV];exact Nat.lt_of_le_of_lt l1 l0)
 simp only [zbd,zae,zgN] at t2 t3
 have bad : ¬ okP (ofB s) n → zdT (ofB s) n = zcV := zd9
 have hsm : (pV (ofB s) n).2.2.1.length < 4611686018427387904 ∧ (∀ b ∈ (pV (ofB s) n).2.2.1,b.f2.length < 4611686018427387904) ∧ (pV (ofB s) n).2.2.2.1.length < 4611686018427387904 := zem _ _
 have hps : ∀ t ∈ (pV (ofB s) n).2.2.2.1,t.size < 4611686018427387904 := by
  rcases zdm (pA (ofB s)).1 n with h | ⟨a,r,bs,ps,x,y,h,hm,_⟩
  ·rw [show pV (ofB s) n = zcm from h];exact fun t ht => absurd ht (by simp [zcm])
  ·rw [show pV (ofB s) n = (a,r,bs,ps,x,y,0) from h]
   obtain ⟨h0,_,_,_,_,_,_,_,_,h9⟩ := (zdf ..).1 hm
   exact fun t ht => by have := (zce h0 h9).2 t ht;omega
 have badJ : Ev (fun k => z5.j0 k n (toB (pA (ofB s)).1) ((pB (ofB s)).1 : Int) true) zcV := by
  refine Ev.step (fun k => by rw [z5.j0]) ?_
  exact zw rfl (Ev.now _)
 refine Ev.bind t1 ?_
 by_cases h1 : (pA (ofB s)).2.2 = 0
 ·refine zw h1 (Ev.bind t2 ?_)
  by_cases h2 : (pB (ofB s)).2.2 = 0
  ·refine zw h2 ?_
   by_cases h4 : (pB (ofB s)).2.1 = []
   ·have e4 : decide (((toB (pB (ofB s)).2.1).size : Int) > 0) = false := decide_eq_false (by rw [zV,h4];simp)
    show Ev (fun k => z5.j0 k n (toB (pA (ofB s)).1) ((pB (ofB s)).1 : Int) (decide (((toB (pB (ofB s)).2.1).size : Int) > 0))) _
    rw [e4]
    refine Ev.step (fun k => by rw [z5.j0]) (zO (by simp) (Ev.bind t3 ?_))
    by_cases h3 : (pV (ofB s) n).2.2.2.2.2.2 = 0
    ·refine zw h3 (Ev.bind (zgx _ _ _ _ _ _ _ (zaQ _) n hsm.1 hsm.2.1 hsm.2.2 hps) ?_)
     by_cases h5 : zh1 (ofB s) n = 0
     ·exact zw h5 (zao (Ev.now _) (zea ⟨h1,h2,h3,h4,h5⟩).symm)
     ·exact zO h5 (zao (Ev.now _) (bad (fun hh => h5 hh.2.2.2.2)).symm)
    ·exact zO h3 (zao (Ev.now _) (bad (fun hh => h3 hh.2.2.1)).symm)
   ·have e4 : decide (((toB (pB (ofB s)).2.1).size : Int) > 0) = true := decide_eq_true (by
     rw [zV]
     have : (pB (ofB s)).2.1.length ≠ 0 := fun hh => h4 (List.eq_nil_of_length_eq_zero hh)
     omega)
    show Ev (fun k => z5.j0 k n (toB (pA (ofB s)).1) ((pB (ofB s)).1 : Int) (decide (((toB (pB (ofB s)).2.1).size : Int) > 0))) _
    rw [e4,bad (fun hh => h4 hh.2.2.2.1)]
    exact badJ
  ·rw [bad (fun hh => h2 hh.2.1)]
   exact zO h2 badJ
 ·rw [bad (fun hh => h1 hh.1)]
  exact zO h1 (Ev.now _)
def zeE (a r : Int) (bs : List zY) (ps : List ByteArray) (x y z a' r' : Int) (bs' : List zY) (ps' : List ByteArray) (x' y' z' : Int) : Bool := zcJ a r bs ps x y a' r' bs' ps' x' y' && (z == z')
theorem zeu (a r : Int) (bs : List zY) (ps : List ByteArray) (x y z a' r' : Int) (bs' : List zY) (ps' : List ByteArray) (x' y' z' : Int) (hb : bs.length < 4611686018427387904) (hs : ∀ b ∈ bs,b.f2.length < 4611686018427387904) (hp : ps.length < 4611686018427387904) :
  Ev (fun k => zbx.f k a r bs ps x y z a' r' bs' ps' x' y' z') (zeE a r bs ps x y z a' r' bs' ps' x' y' z') := by
 refine Ev.bind (zcX a r bs ps x y a' r' bs' ps' x' y' hb hs hp) ?_
 unfold zeE
 by_cases h : zcJ a r bs ps x y a' r' bs' ps' x' y' = true
 ·exact zw h (zao (Ev.now _) (by rw [h];simp))
 ·rw [Bool.not_eq_true] at h
  exact zO (by rw [h];simp) (zao (Ev.now _) (by rw [h];simp))
end Go.Proofs.Ytgdpiegkoeikiaa.Px