/- Part 17 of 35 of the proof of the law PostTakes: what is proved is the statement at the end of the last part; its conditions are those of the given row. -/
import Derived.Test.YtgdpiegkoeikiaaZPostTakesL
import Derived.Test.YtgdpiegkoeikiaaZPostTakesO
import Derived.Test.YtgdpiegkoeikiaaZPostTakesP
namespace Go.Proofs.Ytgdpiegkoeikiaa.Px
open Go.RowKit Go.Proofs.YtgdpiegkoeikiaaW.PrintWords Go.Proofs.YtgdpiegkoeikiaaW.PrintLast Go.Proofs.YtgdpiegkoeikiaaW.PrintMore
attribute [local go_sem] zF zH zQ zR zy zz zG zI
set_option linter.unusedVariables false
set_option linter.unusedSimpArgs false
def zbp (a r : Int) (bs : List zY) (ps : List ByteArray) (x y : Int) : Bs :=
 zbb a.toNat ++ zbb r.toNat ++ zcM (bs.map bB) ++ zcM ps ++ zbb x.toNat ++ zbb y.toNat
theorem zdf (a r : Int) (bs : List zY) (ps : List ByteArray) (x y n : Int) : zbv a r bs ps x y n = true ↔ zdd n = true ∧ 1 ≤ a ∧ a ≤ n ∧ 1 ≤ r ∧ r ≤ 1048576 ∧ bs.length ≤ 4 ∧ bs.any (zcL n) = false ∧ zeo x y = true ∧ (zcU r = true ∨ x = 0 ∧ y = 0) ∧ zcd ps r n = true := by
 unfold zbv
 simp [and_assoc]
theorem zgn (l : List ByteArray) (d : Nat) : ∀ j,zbr l d j = true → ∀ i,j ≤ i → i < j + d → (l.getD i ByteArray.empty).size = 32 := by
 induction d with
 | zero => intro j _ i h1 h2;omega
 | succ d ih =>
  intro j h i h1 h2
  rw [zbr,Bool.and_eq_true] at h
  rcases Nat.lt_or_ge j i with h3 | h3
  ·exact ih (j + 1) h.2 i (by omega) (by omega)
  ·obtain rfl : i = j := by omega
   have := h.1
   rw [zfo,Bool.and_eq_true] at this
   exact of_decide_eq_true this.1
theorem zce {l : List ByteArray} {r n : Int} (hn : zdd n = true) (h : zcd l r n = true) : l.length ≤ 64 ∧ ∀ t ∈ l,t.size = 32 := by
 unfold zcd at h
 split at h
 ·have h0 := of_decide_eq_true h
  obtain rfl := List.eq_nil_of_length_eq_zero h0
  simp
 ·obtain ⟨_,h2,_⟩ := (zde n).1 hn
  rw [Bool.and_eq_true,Bool.and_eq_true] at h
  have h3 := of_decide_eq_true h.2
  refine ⟨by omega,fun t ht => ?_⟩
  obtain ⟨i,hi,rfl⟩ := List.mem_iff_getElem.1 ht
  have := zgn l l.length 0 h.1.1 i (by omega) (by omega)
  rwa [List.getD_eq_getElem?_getD,List.getElem?_eq_getElem hi] at this
theorem zgF (b : zY) : (bB b).size ≤ 400 := by
 unfold bB
 split
 ·rename_i h
  obtain ⟨h1,h2,h3,h4,h5,h6,h7⟩ := (zdL _ _ _).1 h
  have r1 := zhq b.f2 48 (by omega) (fun t ht => (h7 t ht).2)
  have r2 := zco (v := b.f2.length) (by omega)
  have r4 := zco (v := b.f0.toNat) (by omega)
  have r5 := zco (v := b.f1.toNat) (by omega)
  rw [zV,zdC,List.length_append,List.length_append,zcM,List.length_append];omega
 ·show 0 ≤ 400;omega
theorem zfB {n : Int} {bs : List zY} (h : bs.any (zcL n) = false) : ∀ b ∈ bs,zcK b.f0 b.f1 b.f2 = true ∧ b.f0 ≤ n := by
 intro b hb
 rw [List.any_eq_false] at h
 have := h b hb
 rw [zcL] at this
 simp at this
 exact ⟨this.1,by omega⟩
instance decBatch : DecidableEq zY := fun a b => decidable_of_iff (a.f0 = b.f0 ∧ a.f1 = b.f1 ∧ a.f2 = b.f2) ⟨fun ⟨h0,h1,h2⟩ => by obtain ⟨a0,a1,a2⟩ := a;obtain ⟨b0,b1,b2⟩ := b;simp only at h0 h1 h2;rw [h0,h1,h2],fun h => by rw [h];exact ⟨rfl,rfl,rfl⟩⟩
theorem zdg (l : List zY) (j : Nat) (h : j < l.length) : zX l (j : Int) = l[j] := by
 rw [zX,Int.toNat_natCast,List.getD_eq_getElem?_getD,List.getElem?_eq_getElem h];rfl
theorem zev (a b : List zY) (hl : a.length = b.length) (hb : a.length < 4611686018427387904) (hs : ∀ x ∈ a,x.f2.length < 4611686018427387904) (d : Nat) : ∀ j,j + d = a.length →
  Ev (fun k => zL.l0 k a b (j : Int)) (decide (a.drop j = b.drop j)) := by
 induction d with
 | zero =>
  intro j hj
  refine Ev.step (fun k => by rw [zL.l0]) ?_
  refine zO (by omega) (zao (Ev.now _) ?_)
  rw [List.drop_eq_nil_of_le (by omega),List.drop_eq_nil_of_le (by omega)];rfl
 | succ d ih =>
  intro j hj
  have ha : j < a.length := by omega
  have hb' : j < b.length := by omega
  refine Ev.step (fun k => by rw [zL.l0]) ?_
  refine zw (by omega) (zw (by omega) (zw (by omega) ?_))
  rw [zdg a j ha,zdg b j hb']
  refine Ev.bind (zes _ _ _ _ _ _ (hs _ (List.getElem_mem ha))) ?_
  rw [zag (by omega) (by omega),List.drop_eq_getElem_cons ha,List.drop_eq_getElem_cons hb']
  by_cases e : a[j] = b[j]
  ·refine zw (by rw [e];simp [zfC]) (zao (ih (j + 1) (by omega)) ?_)
   rw [e];exact decide_eq_decide.2 ⟨fun h => by rw [h],fun h => (List.cons.inj h).2⟩
  ·refine zO ?_ (zao (Ev.now _) ?_)
   ·intro hh
    apply e
    obtain ⟨h0,h1,h2⟩ := of_decide_eq_true hh
    generalize a[j] = p at *
    generalize b[j] = q at *
    obtain ⟨p0,p1,p2⟩ := p;obtain ⟨q0,q1,q2⟩ := q
    simp only at h0 h1 h2;rw [h0,h1,h2]
   ·exact (decide_eq_false (fun h => e (List.cons.inj h).1)).symm
theorem zfh (a b : List zY) (hb : a.length < 4611686018427387904) (hs : ∀ x ∈ a,x.f2.length < 4611686018427387904) : Ev (fun k => zL.f k a b) (decide (a = b)) := by
 by_cases h : a.length = b.length
 ·exact zw (by omega) (zev a b h hb hs a.length 0 (by omega))
 ·refine zO (by omega) (zao (Ev.now _) ?_)
  have : ¬ a = b := fun e => h (by rw [e])
  simp [this]
def zcJ (a r : Int) (bs : List zY) (ps : List ByteArray) (x y a' r' : Int) (bs' : List zY) (ps' : List ByteArray) (x' y' : Int) : Bool := decide (a = a' ∧ r = r' ∧ bs = bs' ∧ ps = ps' ∧ x = x' ∧ y = y')
theorem zcX (a r : Int) (bs : List zY) (ps : List ByteArray) (x y a' r' : Int) (bs' : List zY) (ps' : List ByteArray) (x' y' : Int) (hb : bs.length < 4611686018427387904) (hs : ∀ b ∈ bs,b.f2.length < 4611686018427387904) (hp : ps.length < 4611686018427387904) :
  Ev (fun k => zaP.f k a r bs ps x y a' r' bs' ps' x' y') (zcJ a r bs ps x y a' r' bs' ps' x' y') := by
 refine Ev.bind (ze3 _ _ hp) (Ev.bind (zfh _ _ hb hs) ?_)
 unfold zcJ
 by_cases h1 : ps = ps'
 ·refine zw (by simp [h1]) ?_
  by_cases h2 : bs = bs'
  ·refine zw (by simp [h2]) ?_
   by_cases h3 : a = a'
   ·refine zw h3 ?_
    by_cases h4 : r = r'
    ·refine zw h4 (zao (Ev.now _) ?_)
     by_cases h5 : x = x' <;> by_cases h6 : y = y' <;> simp [h1,h2,h3,h4,h5,h6]
    ·exact zO h4 (zao (Ev.now _) (by simp [h4]))
   ·exact zO h3 (zao (Ev.now _) (by simp [h3]))
  ·exact zO (by simp [h2]) (zao (Ev.now _) (by simp [h2]))
 ·exact zO (by simp [h1]) (zao (Ev.now _) (by simp [h1]))
theorem zeO {a r : Int} {bs : List zY} {ps : List ByteArray} {x y n : Int} (h : zbv a r bs ps x y n = true) : bs.length < 4611686018427387904 ∧ (∀ b ∈ bs,b.f2.length < 4611686018427387904) ∧ ps.length < 4611686018427387904 := by
 obtain ⟨h0,_,_,_,_,h5,h6,_,_,h9⟩ := (zdf ..).1 h
 refine ⟨by omega,fun b hb => ?_,by have := (zce h0 h9).1;omega⟩
 obtain ⟨_,_,_,_,_,k,_⟩ := (zdL _ _ _).1 (zfB h6 b hb).1
 omega
abbrev VT := Int × Int × List zY × List ByteArray × Int × Int × Int
def zcm : VT := (0,0,[],[],0,0,3)
def zba : List ByteArray → Option (List zY)
 | [] => some []
 | t :: l => if (zaL (ofB t)).2.2.2 = 0 then (zba l).map (fun bs => ⟨(zaL (ofB t)).1,(zaL (ofB t)).2.1,(zaL (ofB t)).2.2.1⟩ :: bs) else none
def zdI (a r : Int) (ps : List ByteArray) (x y n : Int) : Option (List zY) → VT
 | none => zcm
 | some bs => if zbv a r bs ps x y n = true then (a,r,bs,ps,x,y,0) else zcm
theorem zda : ∀ {l : List ByteArray} {bs : List zY},zba l = some bs → l = bs.map bB ∧ ∀ b ∈ bs,zcK b.f0 b.f1 b.f2 = true
 | [],bs,h => by
  have : bs = [] := (Option.some.inj h).symm
  subst this;exact ⟨rfl,fun b hb => absurd hb (by simp)⟩
 | t :: l,bs,h => by
  rw [zba] at h
  split at h
  ·rename_i h0
   obtain ⟨cs,hc,rfl⟩ := Option.map_eq_some_iff.1 h
   obtain ⟨h1,h2⟩ := zda hc
   rcases hq : zaL (ofB t) with ⟨o,q,l',e⟩
   rw [hq] at h0
   simp only at h0
   subst h0
   obtain ⟨h3,h4⟩ := zfk hq
   refine ⟨?_,?_⟩
   ·rw [List.map_cons,← h1,bB]
    simp only
    rw [if_pos h4,← h3,zcl]
   ·intro b hb
    rcases List.mem_cons.1 hb with rfl | hb
    ·exact h4
    ·exact h2 b hb
  ·cases h
theorem zc1 : ∀ {bs : List zY},(∀ b ∈ bs,zcK b.f0 b.f1 b.f2 = true) → zba (bs.map bB) = some bs
 | [],_ => rfl
 | b :: bs,h => by
  have hb := h b List.mem_cons_self
  have e : zaL (ofB (bB b)) = (b.f0,b.f1,b.f2,0) := by rw [bB,if_pos hb,zae];exact zd8 hb
  rw [List.map_cons,zba,e,if_pos rfl,zc1 (fun c hc => h c (List.mem_cons_of_mem _ hc))]
  rfl
theorem zck (s : Bs) (many most : Int) : (zai s many most).2.1.length ≤ s.length := by
 have key : ∀ (n : Nat) (s : Bs) (acc : List ByteArray),(zaM most n s acc).2.1.length ≤ s.length := by
  intro n
  induction n with
  | zero => intro s acc;exact Nat.le_refl _
  | succ n ih =>
   intro s acc
   rw [zaM]
   split
   ·rename_i h0
    have := zcy h0
    exact Nat.le_trans (ih _ _) (by omega)
   ·exact Nat.zero_le _
 have h := zaW s
 unfold zai zbu
 split
 ·split
  ·exact Nat.zero_le _
  ·exact Nat.le_trans (key _ _ _) h
 ·exact Nat.zero_le _
theorem zff (s : Bs) : (zam s).2.2.1.length ≤ s.length := by
 unfold zam
 rcases h : zas s with _ | ⟨a,s1⟩
 ·exact Nat.zero_le _
 ·simp only
  have h1 := zbs h
  rcases h' : zas s1 with _ | ⟨b,s2⟩
  ·exact Nat.zero_le _
  ·have h2 := zbs h'
   simp only;omega
def vA (s : Bs) : List ByteArray × Bs × Int := zai (zam s).2.2.1 4 65536
def vB (s : Bs) : List ByteArray × Bs × Int := zai (vA s).2.1 64 32
def vC (s : Bs) : Int × Int × Bs × Bool := zam (vB s).2.1
def okV (s : Bs) : Prop := (zam s).2.2.2 = true ∧ (vA s).2.2 = 0 ∧ (vB s).2.2 = 0 ∧ (vC s).2.2.2 = true ∧ (vC s).2.2.1 = []
instance decOkV (s : Bs) : Decidable (okV s) := by unfold okV;infer_instance
def zcQ (s : Bs) (n : Int) : VT := if okV s then zdI (zam s).1 (zam s).2.1 (vB s).1 (vC s).1 (vC s).2.1 n (zba (vA s).1) else zcm
theorem zeb {s : Bs} {n : Int} (h : okV s) : zcQ s n = zdI (zam s).1 (zam s).2.1 (vB s).1 (vC s).1 (vC s).2.1 n (zba (vA s).1) := if_pos h
theorem zfz {s : Bs} {n : Int} (h : ¬ okV s) : zcQ s n = zcm := if_neg h
theorem zhu {s : Bs} (h : (vA s).2.2 = 0) : (vA s).1.length ≤ 4 ∧ ∀ t ∈ (vA s).1,t.size < 4611686018427387904 := by
 rcases hq : vA s with ⟨l,r,e⟩
 rw [hq] at h
 simp only at h ⊢
 subst h
 obtain ⟨_,h2,_,h4⟩ := zbE hq
 exact ⟨by omega,fun t ht => by have := (h4 t ht).1;omega⟩
theorem zeA (n : Int) (l : List ByteArray) (a r : Int) (ps : List ByteArray) (x y : Int) (hl : l.length ≤ 4) (hs : ∀ t ∈ l,t.size < 4611686018427387904) (d : Nat) : ∀ (j : Nat) (acc : List zY),j + d = l.length → acc.length = j →
  Ev (fun k => zE.l0 k n l (l.length : Int) (j : Int) a r acc ps x y) (zdI a r ps x y n ((zba (l.drop j)).map (acc ++ ·))) := by
 induction d with
 | zero =>
  intro j acc hj ha
  refine Ev.step (fun k => by rw [zE.l0]) ?_
  rw [List.drop_eq_nil_of_le (by omega)]
  refine zO (by omega) (zad (show zaw.f a r acc ps x y n = some (zbv a r acc ps x y n) from rfl) ?_)
  show Ev _ (zdI a r ps x y n (some (acc ++ [])))
  rw [List.append_nil,zdI]
  by_cases h : zbv a r acc ps x y n = true
  ·exact zao (zw h (Ev.now _)) (by rw [if_pos h])
  ·exact zao (zO h (Ev.now _)) (by rw [if_neg h];rfl)
 | succ d ih =>
  intro j acc hj ha
  have hj' : j < l.length := by omega
  refine Ev.step (fun k => by rw [zE.l0]) ?_
  refine zw (by omega) (zw (by omega) (zw (by omega) ?_))
  rw [zdQ l j hj',List.drop_eq_getElem_cons hj']
  refine Ev.bind (zfD _ (hs _ (List.getElem_mem hj'))) ?_
  rw [zba]
  by_cases h : (zaL (ofB l[j])).2.2.2 = 0
  ·rw [if_pos h]
   refine zw h (zw (by omega) ?_)
   rw [zag (by omega) (by omega)]
   refine zao (ih (j + 1) _ (by omega) (by rw [List.length_append,ha];rfl)) ?_
   congr 1
   rcases zba (l.drop (j + 1)) with _ | bs
   ·rfl
   ·simp
  ·rw [if_neg h]
   exact zO h (Ev.now _)
theorem zcR (s : ByteArray) (hs : s.size < 4611686018427387904) : zac.f s = some ((zam (ofB s)).1,(zam (ofB s)).2.1,toB (zam (ofB s)).2.2.1,(zam (ofB s)).2.2.2) := if_pos hs
theorem zdA (s : ByteArray) (n : Int) (hs : s.size < 4611686018427387904) : Ev (fun k => zE.f k s n) (zcQ (ofB s) n) := by
 have l0 : (ofB s).length < 4611686018427387904 := by rw [zah];exact hs
 have l1 := zff (ofB s)
 have l2 : (vA (ofB s)).2.1.length ≤ _ := zck (zam (ofB s)).2.2.1 4 65536
 have l3 : (vB (ofB s)).2.1.length ≤ _ := zck (vA (ofB s)).2.1 64 32
 refine zad (zcR s hs) ?_
 simp only
 refine zad (zcb _ 4 65536 (by decide) (by decide) (by rw [zV];omega) (.inr (by omega))) ?_
 simp only [zcv,zae]
 refine zad (zcb _ 64 32 (by decide) (by decide) (by rw [zV];exact Nat.lt_of_le_of_lt (Nat.le_trans l2 l1) l0) (.inr (by omega))) ?_
 simp only [zcv,zae]
 refine zad (zcR _ (by rw [zV];exact Nat.lt_of_le_of_lt (Nat.le_trans l3 (Nat.le_trans l2 l1)) l0)) ?_
 simp only [zae]
 have key : ∀ b : Bool,(b = true ↔ ¬ okV (ofB s)) → Ev (fun k => zE.j0 k n (vA (ofB s)).1 (vB (ofB s)).1 b (zam (ofB s)).1 (zam (ofB s)).2.1 (vC (ofB s)).1 (vC (ofB s)).2.1) (zcQ (ofB s) n) := by
  intro b hb
  refine Ev.step (fun k => by rw [zE.j0]) ?_
  by_cases h : okV (ofB s)
  ·rw [zeb h]
   obtain ⟨h1,h2⟩ := zhu h.2.1
   refine zO (fun hh => hb.1 hh h) (zao (zeA n (vA (ofB s)).1 _ _ _ _ _ h1 h2 (vA (ofB s)).1.length 0 [] (by omega) rfl) ?_)
   rw [List.drop_zero]
   rcases zba (vA (ofB s)).1 with _ | bs <;> rfl
  ·rw [zfz h]
   exact zw (hb.2 h) (Ev.now _)
 show Ev (fun k => if (zam (ofB s)).2.2.2 = true then (if (vA (ofB s)).2.2 = 0 then (if (vB (ofB s)).2.2 = 0 then (if (vC (ofB s)).2.2.2 = true then zE.j0 k n (vA (ofB s)).1 (vB (ofB s)).1 ((toB (vC (ofB s)).2.2.1).toList != ([] : List UInt8)) (zam (ofB s)).1 (zam (ofB s)).2.1 (vC (ofB s)).1 (vC (ofB s)).2.1 else _) else _) else _) else _) _
 by_cases h1 : (zam (ofB s)).2.2.2 = true
 ·refine zw h1 ?_
  by_cases h2 : (vA (ofB s)).2.2 = 0
  ·refine zw h2 ?_
   by_cases h3 : (vB (ofB s)).2.2 = 0
   ·refine zw h3 ?_
    by_cases h4 : (vC (ofB s)).2.2.2 = true
    ·refine zw h4 (key _ ?_)
     rw [zaT,zae,bne_iff_ne]
     exact ⟨fun hh hv => hh hv.2.2.2.2,fun hh hv => hh ⟨h1,h2,h3,h4,hv⟩⟩
    ·exact zO h4 (key true ⟨fun _ hv => h4 hv.2.2.2.1,fun _ => rfl⟩)
   ·exact zO h3 (key true ⟨fun _ hv => h3 hv.2.2.1,fun _ => rfl⟩)
  ·exact zO h2 (key true ⟨fun _ hv => h2 hv.2.1,fun _ => rfl⟩)
 ·exact zO h1 (key true ⟨fun _ hv => h1 hv.1,fun _ => rfl⟩)
theorem zeg {s : Bs} (h : (zam s).2.2.2 = true) : ∃ a b : Nat,(zam s).1 = a ∧ (zam s).2.1 = b ∧ a ≤ 1048576 ∧ b ≤ 1048576 ∧ s = zbb a ++ (zbb b ++ (zam s).2.2.1) := by
 unfold zam at h ⊢
 rcases h1 : zas s with _ | ⟨a,s1⟩
 ·rw [h1] at h;cases h
 ·rw [h1] at h
  simp only at h ⊢
  rcases h2 : zas s1 with _ | ⟨b,s2⟩
  ·rw [h2] at h;cases h
  ·obtain ⟨e1,k1⟩ := zd7 h1
   obtain ⟨e2,k2⟩ := zd7 h2
   exact ⟨a,b,rfl,rfl,k1,k2,by rw [e1,e2]⟩
theorem zdM {a b : Nat} (ha : a ≤ 1048576) (hb : b ≤ 1048576) (r : Bs) : zam (zbb a ++ (zbb b ++ r)) = ((a : Int),(b : Int),r,true) := by
 rw [zam,ze8 ha]
 simp only
 rw [ze8 hb]
theorem zf2 (a r : Int) (ps : List ByteArray) (x y n : Int) (o : Option (List zY)) : zdI a r ps x y n o = zcm ∨ ∃ bs,o = some bs ∧ zbv a r bs ps x y n = true ∧ zdI a r ps x y n o = (a,r,bs,ps,x,y,0) := by
 rcases o with _ | bs
 ·exact .inl rfl
 ·by_cases h : zbv a r bs ps x y n = true
  ·exact .inr ⟨bs,rfl,h,if_pos h⟩
  ·exact .inl (if_neg h)
theorem zdm (s : Bs) (n : Int) : zcQ s n = zcm ∨ ∃ a r bs ps x y,zcQ s n = (a,r,bs,ps,x,y,0) ∧ zbv a r bs ps x y n = true ∧ s = zbp a r bs ps x y := by
 by_cases h : okV s
 ·rw [zeb h]
  rcases zf2 (zam s).1 (zam s).2.1 (vB s).1 (vC s).1 (vC s).2.1 n (zba (vA s).1) with h0 | ⟨bs,h1,h2,h3⟩
  ·exact .inl h0
  ·refine .inr ⟨_,_,_,_,_,_,h3,h2,?_⟩
   obtain ⟨k1,k2,k3,k4,k5⟩ := h
   obtain ⟨a,b,e1,e2,_,_,e3⟩ := zeg k1
   obtain ⟨c,d,e4,e5,_,_,e6⟩ := zeg k4
   obtain ⟨e7,_⟩ := zda h1
   have r1 : (zam s).2.2.1 = zcM (vA s).1 ++ (vA s).2.1 := (zbE (many := 4) (most := 65536) (show zai (zam s).2.2.1 4 65536 = ((vA s).1,(vA s).2.1,0) by rw [← k2];rfl)).1
   have r2 : (vA s).2.1 = zcM (vB s).1 ++ (vB s).2.1 := (zbE (many := 64) (most := 32) (show zai (vA s).2.1 64 32 = ((vB s).1,(vB s).2.1,0) by rw [← k3];rfl)).1
   have e6' : (vB s).2.1 = zbb c ++ (zbb d ++ (vC s).2.2.1) := e6
   have e4' : (vC s).1 = c := e4
   have e5' : (vC s).2.1 = d := e5
   rw [k5,List.append_nil] at e6'
   rw [zbp,e1,e2,e4',e5',Int.toNat_natCast,Int.toNat_natCast,Int.toNat_natCast,Int.toNat_natCast,← e7]
   rw [e6'] at r2
   rw [r2] at r1
   rw [r1] at e3
   simp only [List.append_assoc]
   exact e3
 ·exact .inl (zfz h)
theorem zfW {a r : Int} {bs : List zY} {ps : List ByteArray} {x y n : Int} (h : zbv a r bs ps x y n = true) : zcQ (zbp a r bs ps x y) n = (a,r,bs,ps,x,y,0) := by
 obtain ⟨h0,h1,h2,h3,h4,h5,h6,h7,h8,h9⟩ := (zdf ..).1 h
 obtain ⟨k1,k2,k3⟩ := (zde n).1 h0
 obtain ⟨x1,x2,y1,y2⟩ := (zgc x y).1 h7
 have hp := zce h0 h9
 obtain ⟨a',rfl⟩ := Int.eq_ofNat_of_zero_le (show 0 ≤ a by omega)
 obtain ⟨r',rfl⟩ := Int.eq_ofNat_of_zero_le (show 0 ≤ r by omega)
 obtain ⟨x',rfl⟩ := Int.eq_ofNat_of_zero_le x1
 obtain ⟨y',rfl⟩ := Int.eq_ofNat_of_zero_le y1
 have e1 : zam (zbp a' r' bs ps x' y') = ((a' : Int),(r' : Int),zcM (bs.map bB) ++ (zcM ps ++ (zbb x' ++ zbb y')),true) := by
  rw [zbp,Int.toNat_natCast,Int.toNat_natCast,Int.toNat_natCast,Int.toNat_natCast]
  simp only [List.append_assoc]
  exact zdM (by omega) (by omega) _
 have e2 : vA (zbp a' r' bs ps x' y') = (bs.map bB,zcM ps ++ (zbb x' ++ zbb y'),0) := by
  rw [vA,e1]
  exact zcf (by rw [List.length_map];omega) (by rw [List.length_map];omega) (fun t ht => by
   obtain ⟨b,_,rfl⟩ := List.mem_map.1 ht
   have := zgF b;omega) _
 have e3 : vB (zbp a' r' bs ps x' y') = (ps,zbb x' ++ zbb y',0) := by
  rw [vB,e2]
  exact zcf (by have := hp.1;omega) (by have := hp.1;omega) (fun t ht => by have := hp.2 t ht;omega) _
 have e4 : vC (zbp a' r' bs ps x' y') = ((x' : Int),(y' : Int),[],true) := by
  rw [vC,e3]
  have := zdM (a := x') (b := y') (by omega) (by omega) []
  rwa [List.append_nil] at this
 have hv : okV (zbp a' r' bs ps x' y') := by
  unfold okV
  rw [e1,e2,e3,e4]
  exact ⟨rfl,rfl,rfl,rfl,rfl⟩
 rw [zeb hv,e1,e2,e3,e4,zc1 (fun b hb => (zfB h6 b hb).1),zdI,if_pos h]
end Go.Proofs.Ytgdpiegkoeikiaa.Px