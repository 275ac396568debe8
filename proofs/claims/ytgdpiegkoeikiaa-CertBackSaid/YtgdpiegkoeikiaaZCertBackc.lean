/- Part 29 of 30 of the proof of the law CertBack: what is proved is the statement at the end of the last part; its conditions are those of the given row. -/
import Derived.Test.YtgdpiegkoeikiaaZCertBackb
namespace Go.Proofs.Ytgdpiegkoeikiaa.Px
open Go.RowKit Go.Proofs.YtgdpiegkoeikiaaW.PrintWords Go.Proofs.YtgdpiegkoeikiaaW.PrintLast Go.Proofs.YtgdpiegkoeikiaaW.PrintMore
attribute [local go_sem] zx zz zJ zK zn zo zy zA
set_option linter.unusedVariables false
set_option linter.unusedSimpArgs false
theorem zeG (n : Int) : zav.f n = some (zdP n) := by
 unfold zav.f zdP
 by_cases h4 : n = 4
 ·subst h4;rfl
 ·rw [if_neg h4]
  by_cases h : n > 4
  ·rw [if_pos h]
   by_cases h1 : n ≤ 64
   ·rw [if_pos h1,zak (by omega) (by omega),Int.tmod_eq_emod_of_nonneg (by omega)]
    by_cases h2 : n % 3 = 1
    ·have : (n - 1) % 3 = 0 := by omega
     simp [h1,h2,this];omega
    ·have : ¬ (n - 1) % 3 = 0 := by omega
     simp [h2,this]
   ·rw [if_neg h1];simp [h1]
  ·rw [if_neg h]
   have : ¬ 4 ≤ n := by omega
   simp [this]
theorem zft (n : Int) : zan.f n = some (zby n) := by
 unfold zan.f zby
 rw [zeG]
 simp only [Option.bind_some]
 by_cases h : zdP n = true
 ·rw [if_pos h,if_pos h]
  obtain ⟨h1,h2,h3⟩ := (zbQ n).1 h
  rw [zak (x := n - 1) (by omega) (by omega),Int.tdiv_eq_ediv_of_nonneg (by omega),zak (x := (n - 1) / 3) (by omega) (by omega),zak (by omega) (by omega)]
 ·rw [if_neg h,if_neg h]
theorem zhj (a b : Int) : zau.f a b = some (zfq a b) := by
 unfold zau.f zfq
 by_cases h1 : 0 ≤ a <;> by_cases h2 : a < 10007 <;> by_cases h3 : 0 ≤ b <;> simp [h1,h2,h3]
theorem zf5 (r : Int) : zae.f r = some (zdh r) := by
 unfold zae.f zdh
 by_cases h : r > 0
 ·rw [if_pos h,Int.tmod_eq_emod_of_nonneg (by omega)]
  by_cases h2 : r % 3 = 0
  ·have : 3 ≤ r := by omega
   simp [h2,this]
  ·simp [h2]
 ·rw [if_neg h]
  have : ¬ 3 ≤ r := by omega
  simp [this]
def ze1 (r x y : Int) : Bool := zfq x y && (zdh r || (decide (x = 0) && decide (y = 0)))
theorem zio (a r : Int) (bs : List zW) (ps : List ByteArray) (x y : Int) (hl : ps.length < 4611686018427387904) (hp : ∀ t ∈ ps,t.size < 4611686018427387904) (d : Nat) : ∀ j,j + d = ps.length →
  Ev (fun k => zi.l1 k (j : Int) a r bs ps x y) (zbj ps d j && ze1 r x y) := by
 induction d with
 | zero =>
  intro j hj
  refine Ev.step (fun k => by rw [zi.l1]) ?_
  refine zU (by omega) (zac (zhj x y) (zac (zf5 r) ?_))
  unfold ze1
  by_cases h1 : zfq x y = true
  ·refine zF h1 ?_
   by_cases h2 : zdh r = true
   ·exact zF h2 (zap (Ev.now _) (by simp [zbj,h1,h2]))
   ·refine zU h2 ?_
    by_cases h3 : x = 0
    ·refine zF h3 (zap (Ev.now _) ?_)
     rw [Bool.not_eq_true] at h2
     subst h3
     by_cases h4 : y = 0
     ·subst h4;simp [zbj,h1,h2]
     ·simp [zbj,h1,h2,h4]
    ·rw [Bool.not_eq_true] at h2
     exact zU h3 (zap (Ev.now _) (by simp [zbj,h2,h3]))
  ·rw [Bool.not_eq_true] at h1
   exact zU (by rw [h1];simp) (zap (Ev.now _) (by simp [zbj,h1]))
 | succ d ih =>
  intro j hj
  have hj' : j < ps.length := by omega
  refine Ev.step (fun k => by rw [zi.l1]) ?_
  refine zF (by omega) (zF (by omega) ?_)
  have e1 : zH ByteArray.empty ps (j : Int) = ps.getD j ByteArray.empty := by rw [zH,Int.toNat_natCast]
  rw [e1]
  by_cases h : (ps.getD j ByteArray.empty).size = 32
  ·refine zF (by omega) ?_
   rw [zak (x := (j : Int) + 1) (by omega) (by omega)]
   by_cases h0 : j = 0
   ·subst h0
    refine zU (by omega) (zap (ih 1 (by omega)) ?_)
    simp only [zbj,zgA,h];simp
   ·refine zF (by omega) ?_
    have e2 : wrap64 ((j : Int) - 1) = ((j - 1 : Nat) : Int) := by rw [zak (by omega) (by omega)];omega
    rw [e2]
    refine zF (by omega) (zF (by omega) ?_)
    have e3 : zH ByteArray.empty ps ((j - 1 : Nat) : Int) = ps.getD (j - 1) ByteArray.empty := by rw [zH,Int.toNat_natCast]
    rw [e3]
    have hsz : (ps.getD (j - 1) ByteArray.empty).size < 4611686018427387904 := by
     rw [List.getD_eq_getElem?_getD,List.getElem?_eq_getElem (show j - 1 < ps.length by omega)]
     exact hp _ (List.getElem_mem _)
    refine Ev.bind (less_ev _ _ hsz) ?_
    by_cases h2 : zdO (ofB (ps.getD (j - 1) ByteArray.empty)) (ofB (ps.getD j ByteArray.empty)) = true
    ·refine zF h2 (zap (ih (j + 1) (by omega)) ?_)
     simp only [zbj,zgA,h,h2];simp
    ·refine zU h2 (zap (Ev.now _) ?_)
     rw [Bool.not_eq_true] at h2
     simp only [zbj,zgA,h,h0,h2];simp
  ·refine zU (by omega) (zap (Ev.now _) ?_)
   simp only [zbj,zgA,h];simp
def zfI (r : Int) (ps : List ByteArray) (x y n : Int) : Bool :=
 !(decide (r = 1) && decide (0 < ps.length)) && !(decide (1 < r) && (decide ((ps.length : Int) < zby n) || decide (n < ps.length))) && (zbj ps ps.length 0 && ze1 r x y)
theorem zin (a r : Int) (bs : List zW) (ps : List ByteArray) (x y n : Int) (hb : bs.length < 4611686018427387904) (hbs : ∀ b ∈ bs,b.f2.length < 4611686018427387904) (hl : ps.length < 4611686018427387904) (hp : ∀ t ∈ ps,t.size < 4611686018427387904) (d : Nat) : ∀ j,j + d = bs.length →
  Ev (fun k => zi.l0 k n (j : Int) a r bs ps x y) (!(bs.drop j).any (zcZ n) && zfI r ps x y n) := by
 induction d with
 | zero =>
  intro j hj
  refine Ev.step (fun k => by rw [zi.l0]) ?_
  rw [List.drop_eq_nil_of_le (by omega)]
  refine zU (by omega) ?_
  have J3 : ∀ b : Bool,Ev (fun k => zi.j3 k b a r bs ps x y) (!b && (zbj ps ps.length 0 && ze1 r x y)) := by
   intro b
   refine Ev.step (fun k => by rw [zi.j3]) ?_
   rcases b with _ | _
   ·exact zU (by simp) (zap (zio a r bs ps x y hl hp ps.length 0 (by omega)) (by simp))
   ·exact zF rfl (zap (Ev.now _) (by simp))
  have J2 : ∀ b : Bool,Ev (fun k => zi.j2 k n b a r bs ps x y) (!b && (!(decide (1 < r) && (decide ((ps.length : Int) < zby n) || decide (n < ps.length))) && (zbj ps ps.length 0 && ze1 r x y))) := by
   intro b
   refine Ev.step (fun k => by rw [zi.j2]) ?_
   rcases b with _ | _
   ·refine zU (by simp) ?_
    by_cases h : r > 1
    ·have h' : 1 < r := h
     refine zF h (zac (zft n) ?_)
     by_cases h2 : (ps.length : Int) < zby n
     ·exact zF h2 (zap (J3 true) (by simp [h',h2]))
     ·exact zU h2 (zap (J3 _) (by simp [h',h2]))
    ·have h' : ¬ 1 < r := h
     exact zU h (zap (J3 false) (by simp [h']))
   ·exact zF rfl (zap (Ev.now _) (by simp))
  unfold zfI
  by_cases h : r = 1
  ·refine zF h (zap (J2 _) ?_)
   subst h
   by_cases h0 : 0 < ps.length
   ·have : decide ((ps.length : Int) > 0) = true := decide_eq_true (by omega)
    simp [this,h0]
   ·have : decide ((ps.length : Int) > 0) = false := decide_eq_false (by omega)
    simp [this,h0]
  ·exact zU h (zap (J2 false) (by simp [h]))
 | succ d ih =>
  intro j hj
  have hj' : j < bs.length := by omega
  refine Ev.step (fun k => by rw [zi.l0]) ?_
  refine zF (by omega) (zF (by omega) ?_)
  rw [zda bs j hj',zak (by omega) (by omega),List.drop_eq_getElem_cons hj',List.any_cons]
  refine Ev.bind (zgP _ _ _ (hbs _ (List.getElem_mem hj'))) ?_
  by_cases h : zcB bs[j].f0 bs[j].f1 bs[j].f2 = true
  ·refine zF h ?_
   by_cases h2 : bs[j].f0 > n
   ·have h3 : n < bs[j].f0 := h2
    exact zF h2 (zap (Ev.now _) (by simp [zcZ,h3]))
   ·have h3 : ¬ n < bs[j].f0 := h2
    refine zU h2 (zap (ih (j + 1) (by omega)) ?_)
    have : zcZ n bs[j] = false := by simp [zcZ,h,h3]
    rw [this,Bool.false_or]
  ·refine zU h (zap (Ev.now _) ?_)
   rw [Bool.not_eq_true] at h
   simp [zcZ,h]
theorem mayV_ref (a r : Int) (bs : List zW) (ps : List ByteArray) (x y n : Int) (h0 : zdP n = true) (h1 : 1 ≤ a) (h2 : a ≤ n) (h3 : 1 ≤ r) (h4 : r ≤ 1048576) (h5 : bs.length ≤ 4) :
  za6 a r bs ps x y n = (!bs.any (zcZ n) && zfI r ps x y n) := by
 unfold za6 zfI zb9 ze1
 simp only [h0,h1,h2,h3,h4,h5]
 by_cases e : r = 1
 ·subst e
  rcases ps with _ | ⟨p,ps⟩
  ·simp [zbj,Bool.and_assoc]
  ·simp
 ·have h6 : 1 < r := by omega
  simp only [if_neg e,e,h6]
  have q1 : decide ((ps.length : Int) < zby n) = !decide (zby n ≤ (ps.length : Int)) := by
   by_cases q : zby n ≤ (ps.length : Int) <;> simp [q] <;> omega
  have q2 : decide (n < (ps.length : Int)) = !decide ((ps.length : Int) ≤ n) := by
   by_cases q : (ps.length : Int) ≤ n <;> simp [q] <;> omega
  rw [q1,q2]
  cases bs.any (zcZ n) <;> cases zfq x y <;> cases zdh r <;> cases zbj ps ps.length 0 <;> cases decide (zby n ≤ (ps.length : Int)) <;> cases decide ((ps.length : Int) ≤ n) <;> simp
theorem zim (a r : Int) (bs : List zW) (ps : List ByteArray) (x y n : Int) (hb : bs.length < 4611686018427387904) (hbs : ∀ b ∈ bs,b.f2.length < 4611686018427387904) (hl : ps.length < 4611686018427387904) (hp : ∀ t ∈ ps,t.size < 4611686018427387904) :
  Ev (fun k => zi.f k a r bs ps x y n) (za6 a r bs ps x y n) := by
 have key : ∀ b : Bool,(b = true ↔ ¬ (zdP n = true ∧ 1 ≤ a ∧ a ≤ n ∧ 1 ≤ r ∧ r ≤ 1048576 ∧ bs.length ≤ 4)) → Ev (fun k => zi.j0 k n b a r bs ps x y) (za6 a r bs ps x y n) := by
  intro b hb'
  refine Ev.step (fun k => by rw [zi.j0]) ?_
  by_cases h : zdP n = true ∧ 1 ≤ a ∧ a ≤ n ∧ 1 ≤ r ∧ r ≤ 1048576 ∧ bs.length ≤ 4
  ·refine zU (fun hh => hb'.1 hh h) (zap (zin a r bs ps x y n hb hbs hl hp bs.length 0 (by omega)) ?_)
   obtain ⟨h0,h1,h2,h3,h4,h5⟩ := h
   rw [mayV_ref a r bs ps x y n h0 h1 h2 h3 h4 h5,List.drop_zero]
  ·refine zF (hb'.2 h) (zap (Ev.now _) ?_)
   symm
   rw [← Bool.not_eq_true,zbX]
   exact fun ⟨h0,h1,h2,h3,h4,h5,_⟩ => h ⟨h0,h1,h2,h3,h4,h5⟩
 refine zac (zeG n) ?_
 by_cases h0 : zdP n = true
 ·refine zF h0 ?_
  by_cases h1 : a < 1
  ·exact zF h1 (key true (by simp;omega))
  refine zU h1 ?_
  by_cases h2 : a > n
  ·exact zF h2 (key true (by simp;omega))
  refine zU h2 ?_
  by_cases h3 : r < 1
  ·exact zF h3 (key true (by simp;omega))
  refine zU h3 ?_
  by_cases h4 : r > 1048576
  ·exact zF h4 (key true (by simp;omega))
  exact zU h4 (key _ (by simp [h0];omega))
 ·exact zU h0 (key true (by simp [h0]))
abbrev VT := Int × Int × List zW × List ByteArray × Int × Int × Int
def ziG : VT := (0,0,[],[],0,0,3)
def zbO : List ByteArray → Option (List zW)
 | [] => some []
 | t :: l => if (zbn (ofB t)).2.2.2 = 0 then (zbO l).map (fun bs => ⟨(zbn (ofB t)).1,(zbn (ofB t)).2.1,(zbn (ofB t)).2.2.1⟩ :: bs) else none
def zhE (a r : Int) (ps : List ByteArray) (x y n : Int) : Option (List zW) → VT
 | none => ziG
 | some bs => if za6 a r bs ps x y n = true then (a,r,bs,ps,x,y,0) else ziG
theorem ze8 : ∀ {l : List ByteArray} {bs : List zW},zbO l = some bs → l = bs.map bB ∧ ∀ b ∈ bs,zcB b.f0 b.f1 b.f2 = true
 | [],bs,h => by
  have : bs = [] := (Option.some.inj h).symm
  subst this;exact ⟨rfl,fun b hb => absurd hb (by simp)⟩
 | t :: l,bs,h => by
  rw [zbO] at h
  split at h
  ·rename_i h0
   obtain ⟨cs,hc,rfl⟩ := Option.map_eq_some_iff.1 h
   obtain ⟨h1,h2⟩ := ze8 hc
   rcases hq : zbn (ofB t) with ⟨o,q,l',e⟩
   rw [hq] at h0
   simp only at h0
   subst h0
   obtain ⟨h3,h4⟩ := zgy hq
   refine ⟨?_,?_⟩
   ·rw [List.map_cons,← h1,bB]
    simp only
    rw [if_pos h4,← h3,zct]
   ·intro b hb
    rcases List.mem_cons.1 hb with rfl | hb
    ·exact h4
    ·exact h2 b hb
  ·cases h
theorem zey : ∀ {bs : List zW},(∀ b ∈ bs,zcB b.f0 b.f1 b.f2 = true) → zbO (bs.map bB) = some bs
 | [],_ => rfl
 | b :: bs,h => by
  have hb := h b List.mem_cons_self
  have e : zbn (ofB (bB b)) = (b.f0,b.f1,b.f2,0) := by rw [bB,if_pos hb,zat];exact ze4 hb
  rw [List.map_cons,zbO,e,if_pos rfl,zey (fun c hc => h c (List.mem_cons_of_mem _ hc))]
  rfl
theorem zel (s : Bs) (many most : Int) : (zaq s many most).2.1.length ≤ s.length := by
 have key : ∀ (n : Nat) (s : Bs) (acc : List ByteArray),(zbd most n s acc).2.1.length ≤ s.length := by
  intro n
  induction n with
  | zero => intro s acc;exact Nat.le_refl _
  | succ n ih =>
   intro s acc
   rw [zbd]
   split
   ·rename_i h0
    have := zdE h0
    exact Nat.le_trans (ih _ _) (by omega)
   ·exact Nat.zero_le _
 have h := zb1 s
 unfold zaq zcG
 split
 ·split
  ·exact Nat.zero_le _
  ·exact Nat.le_trans (key _ _ _) h
 ·exact Nat.zero_le _
theorem zgr (s : Bs) : (zaf s).2.2.1.length ≤ s.length := by
 unfold zaf
 rcases h : zbE s with _ | ⟨a,s1⟩
 ·exact Nat.zero_le _
 ·simp only
  have h1 := zex h
  rcases h' : zbE s1 with _ | ⟨b,s2⟩
  ·exact Nat.zero_le _
  ·have h2 := zex h'
   simp only;omega
def vA (s : Bs) : List ByteArray × Bs × Int := zaq (zaf s).2.2.1 4 65536
def vB (s : Bs) : List ByteArray × Bs × Int := zaq (vA s).2.1 64 32
def vC (s : Bs) : Int × Int × Bs × Bool := zaf (vB s).2.1
def okV (s : Bs) : Prop := (zaf s).2.2.2 = true ∧ (vA s).2.2 = 0 ∧ (vB s).2.2 = 0 ∧ (vC s).2.2.2 = true ∧ (vC s).2.2.1 = []
instance decOkV (s : Bs) : Decidable (okV s) := by unfold okV;infer_instance
def zeM (s : Bs) (n : Int) : VT := if okV s then zhE (zaf s).1 (zaf s).2.1 (vB s).1 (vC s).1 (vC s).2.1 n (zbO (vA s).1) else ziG
theorem ze6 {s : Bs} {n : Int} (h : okV s) : zeM s n = zhE (zaf s).1 (zaf s).2.1 (vB s).1 (vC s).1 (vC s).2.1 n (zbO (vA s).1) := if_pos h
theorem zgV {s : Bs} {n : Int} (h : ¬ okV s) : zeM s n = ziG := if_neg h
theorem vA_small {s : Bs} (h : (vA s).2.2 = 0) : (vA s).1.length ≤ 4 ∧ ∀ t ∈ (vA s).1,t.size < 4611686018427387904 := by
 rcases hq : vA s with ⟨l,r,e⟩
 rw [hq] at h
 simp only at h ⊢
 subst h
 obtain ⟨_,h2,_,h4⟩ := zdd hq
 exact ⟨by omega,fun t ht => by have := (h4 t ht).1;omega⟩
theorem zfz (n : Int) (l : List ByteArray) (a r : Int) (ps : List ByteArray) (x y : Int) (hl : l.length ≤ 4) (hs : ∀ t ∈ l,t.size < 4611686018427387904) (d : Nat) : ∀ (j : Nat) (acc : List zW),j + d = l.length → acc.length = j →
  Ev (fun k => zG.l0 k n l (l.length : Int) (j : Int) a r acc ps x y) (zhE a r ps x y n ((zbO (l.drop j)).map (acc ++ ·))) := by
 induction d with
 | zero =>
  intro j acc hj ha
  refine Ev.step (fun k => by rw [zG.l0]) ?_
  rw [List.drop_eq_nil_of_le (by omega)]
  refine zU (by omega) (zac (show zaj.f a r acc ps x y n = some (za6 a r acc ps x y n) from rfl) ?_)
  show Ev _ (zhE a r ps x y n (some (acc ++ [])))
  rw [List.append_nil,zhE]
  by_cases h : za6 a r acc ps x y n = true
  ·exact zap (zF h (Ev.now _)) (by rw [if_pos h])
  ·exact zap (zU h (Ev.now _)) (by rw [if_neg h];rfl)
 | succ d ih =>
  intro j acc hj ha
  have hj' : j < l.length := by omega
  refine Ev.step (fun k => by rw [zG.l0]) ?_
  refine zF (by omega) (zF (by omega) (zF (by omega) ?_))
  rw [zfH l j hj',List.drop_eq_getElem_cons hj']
  refine Ev.bind (zg1 _ (hs _ (List.getElem_mem hj'))) ?_
  rw [zbO]
  by_cases h : (zbn (ofB l[j])).2.2.2 = 0
  ·rw [if_pos h]
   refine zF h (zF (by omega) ?_)
   rw [zak (by omega) (by omega)]
   refine zap (ih (j + 1) _ (by omega) (by rw [List.length_append,ha];rfl)) ?_
   congr 1
   rcases zbO (l.drop (j + 1)) with _ | bs
   ·rfl
   ·simp
  ·rw [if_neg h]
   exact zU h (Ev.now _)
theorem zde (s : ByteArray) (hs : s.size < 4611686018427387904) : zZ.f s = some ((zaf (ofB s)).1,(zaf (ofB s)).2.1,toB (zaf (ofB s)).2.2.1,(zaf (ofB s)).2.2.2) := if_pos hs
theorem zgC (s : ByteArray) (n : Int) (hs : s.size < 4611686018427387904) : Ev (fun k => zG.f k s n) (zeM (ofB s) n) := by
 have l0 : (ofB s).length < 4611686018427387904 := by rw [zab];exact hs
 have l1 := zgr (ofB s)
 have l2 : (vA (ofB s)).2.1.length ≤ _ := zel (zaf (ofB s)).2.2.1 4 65536
 have l3 : (vB (ofB s)).2.1.length ≤ _ := zel (vA (ofB s)).2.1 64 32
 refine zac (zde s hs) ?_
 simp only
 refine zac (zcn _ 4 65536 (by decide) (by decide) (by rw [zX];omega) (.inr (by omega))) ?_
 simp only [zeJ,zat]
 refine zac (zcn _ 64 32 (by decide) (by decide) (by rw [zX];exact Nat.lt_of_le_of_lt (Nat.le_trans l2 l1) l0) (.inr (by omega))) ?_
 simp only [zeJ,zat]
 refine zac (zde _ (by rw [zX];exact Nat.lt_of_le_of_lt (Nat.le_trans l3 (Nat.le_trans l2 l1)) l0)) ?_
 simp only [zat]
 have key : ∀ b : Bool,(b = true ↔ ¬ okV (ofB s)) → Ev (fun k => zG.j0 k n (vA (ofB s)).1 (vB (ofB s)).1 b (zaf (ofB s)).1 (zaf (ofB s)).2.1 (vC (ofB s)).1 (vC (ofB s)).2.1) (zeM (ofB s) n) := by
  intro b hb
  refine Ev.step (fun k => by rw [zG.j0]) ?_
  by_cases h : okV (ofB s)
  ·rw [ze6 h]
   obtain ⟨h1,h2⟩ := vA_small h.2.1
   refine zU (fun hh => hb.1 hh h) (zap (zfz n (vA (ofB s)).1 _ _ _ _ _ h1 h2 (vA (ofB s)).1.length 0 [] (by omega) rfl) ?_)
   rw [List.drop_zero]
   rcases zbO (vA (ofB s)).1 with _ | bs <;> rfl
  ·rw [zgV h]
   exact zF (hb.2 h) (Ev.now _)
 show Ev (fun k => if (zaf (ofB s)).2.2.2 = true then (if (vA (ofB s)).2.2 = 0 then (if (vB (ofB s)).2.2 = 0 then (if (vC (ofB s)).2.2.2 = true then zG.j0 k n (vA (ofB s)).1 (vB (ofB s)).1 ((toB (vC (ofB s)).2.2.1).toList != ([] : List UInt8)) (zaf (ofB s)).1 (zaf (ofB s)).2.1 (vC (ofB s)).1 (vC (ofB s)).2.1 else _) else _) else _) else _) _
 by_cases h1 : (zaf (ofB s)).2.2.2 = true
 ·refine zF h1 ?_
  by_cases h2 : (vA (ofB s)).2.2 = 0
  ·refine zF h2 ?_
   by_cases h3 : (vB (ofB s)).2.2 = 0
   ·refine zF h3 ?_
    by_cases h4 : (vC (ofB s)).2.2.2 = true
    ·refine zF h4 (key _ ?_)
     rw [zbo,zat,bne_iff_ne]
     exact ⟨fun hh hv => hh hv.2.2.2.2,fun hh hv => hh ⟨h1,h2,h3,h4,hv⟩⟩
    ·exact zU h4 (key true ⟨fun _ hv => h4 hv.2.2.2.1,fun _ => rfl⟩)
   ·exact zU h3 (key true ⟨fun _ hv => h3 hv.2.2.1,fun _ => rfl⟩)
  ·exact zU h2 (key true ⟨fun _ hv => h2 hv.2.1,fun _ => rfl⟩)
 ·exact zU h1 (key true ⟨fun _ hv => h1 hv.1,fun _ => rfl⟩)
theorem zfe {s : Bs} (h : (zaf s).2.2.2 = true) : ∃ a b : Nat,(zaf s).1 = a ∧ (zaf s).2.1 = b ∧ a ≤ 1048576 ∧ b ≤ 1048576 ∧ s = zbx a ++ (zbx b ++ (zaf s).2.2.1) := by
 unfold zaf at h ⊢
 rcases h1 : zbE s with _ | ⟨a,s1⟩
 ·rw [h1] at h;cases h
 ·rw [h1] at h
  simp only at h ⊢
  rcases h2 : zbE s1 with _ | ⟨b,s2⟩
  ·rw [h2] at h;cases h
  ·obtain ⟨e1,k1⟩ := ze2 h1
   obtain ⟨e2,k2⟩ := ze2 h2
   exact ⟨a,b,rfl,rfl,k1,k2,by rw [e1,e2]⟩
theorem zeD {a b : Nat} (ha : a ≤ 1048576) (hb : b ≤ 1048576) (r : Bs) : zaf (zbx a ++ (zbx b ++ r)) = ((a : Int),(b : Int),r,true) := by
 rw [zaf,zge ha]
 simp only
 rw [zge hb]
theorem endV_err (a r : Int) (ps : List ByteArray) (x y n : Int) (o : Option (List zW)) : zhE a r ps x y n o = ziG ∨ ∃ bs,o = some bs ∧ za6 a r bs ps x y n = true ∧ zhE a r ps x y n o = (a,r,bs,ps,x,y,0) := by
 rcases o with _ | bs
 ·exact .inl rfl
 ·by_cases h : za6 a r bs ps x y n = true
  ·exact .inr ⟨bs,rfl,h,if_pos h⟩
  ·exact .inl (if_neg h)
theorem takeV_ok (s : Bs) (n : Int) : zeM s n = ziG ∨ ∃ a r bs ps x y,zeM s n = (a,r,bs,ps,x,y,0) ∧ za6 a r bs ps x y n = true ∧ s = zaC a r bs ps x y := by
 by_cases h : okV s
 ·rw [ze6 h]
  rcases endV_err (zaf s).1 (zaf s).2.1 (vB s).1 (vC s).1 (vC s).2.1 n (zbO (vA s).1) with h0 | ⟨bs,h1,h2,h3⟩
  ·exact .inl h0
  ·refine .inr ⟨_,_,_,_,_,_,h3,h2,?_⟩
   obtain ⟨k1,k2,k3,k4,k5⟩ := h
   obtain ⟨a,b,e1,e2,_,_,e3⟩ := zfe k1
   obtain ⟨c,d,e4,e5,_,_,e6⟩ := zfe k4
   obtain ⟨e7,_⟩ := ze8 h1
   have r1 : (zaf s).2.2.1 = zbq (vA s).1 ++ (vA s).2.1 := (zdd (many := 4) (most := 65536) (show zaq (zaf s).2.2.1 4 65536 = ((vA s).1,(vA s).2.1,0) by rw [← k2];rfl)).1
   have r2 : (vA s).2.1 = zbq (vB s).1 ++ (vB s).2.1 := (zdd (many := 64) (most := 32) (show zaq (vA s).2.1 64 32 = ((vB s).1,(vB s).2.1,0) by rw [← k3];rfl)).1
   have e6' : (vB s).2.1 = zbx c ++ (zbx d ++ (vC s).2.2.1) := e6
   have e4' : (vC s).1 = c := e4
   have e5' : (vC s).2.1 = d := e5
   rw [k5,List.append_nil] at e6'
   rw [zaC,e1,e2,e4',e5',Int.toNat_natCast,Int.toNat_natCast,Int.toNat_natCast,Int.toNat_natCast,← e7]
   rw [e6'] at r2
   rw [r2] at r1
   rw [r1] at e3
   simp only [List.append_assoc]
   exact e3
 ·exact .inl (zgV h)
theorem zht {a r : Int} {bs : List zW} {ps : List ByteArray} {x y n : Int} (h : za6 a r bs ps x y n = true) : zeM (zaC a r bs ps x y) n = (a,r,bs,ps,x,y,0) := by
 obtain ⟨h0,h1,h2,h3,h4,h5,h6,h7,h8,h9⟩ := (zbX ..).1 h
 obtain ⟨k1,k2,k3⟩ := (zbQ n).1 h0
 obtain ⟨x1,x2,y1,y2⟩ := (zcq x y).1 h7
 have hp := za7 h0 h9
 obtain ⟨a',rfl⟩ := Int.eq_ofNat_of_zero_le (show 0 ≤ a by omega)
 obtain ⟨r',rfl⟩ := Int.eq_ofNat_of_zero_le (show 0 ≤ r by omega)
 obtain ⟨x',rfl⟩ := Int.eq_ofNat_of_zero_le x1
 obtain ⟨y',rfl⟩ := Int.eq_ofNat_of_zero_le y1
 have e1 : zaf (zaC a' r' bs ps x' y') = ((a' : Int),(r' : Int),zbq (bs.map bB) ++ (zbq ps ++ (zbx x' ++ zbx y')),true) := by
  rw [zaC,Int.toNat_natCast,Int.toNat_natCast,Int.toNat_natCast,Int.toNat_natCast]
  simp only [List.append_assoc]
  exact zeD (by omega) (by omega) _
 have e2 : vA (zaC a' r' bs ps x' y') = (bs.map bB,zbq ps ++ (zbx x' ++ zbx y'),0) := by
  rw [vA,e1]
  exact zdy (by rw [List.length_map];omega) (by rw [List.length_map];omega) (fun t ht => by
   obtain ⟨b,_,rfl⟩ := List.mem_map.1 ht
   have := zfD b;omega) _
 have e3 : vB (zaC a' r' bs ps x' y') = (ps,zbx x' ++ zbx y',0) := by
  rw [vB,e2]
  exact zdy (by have := hp.1;omega) (by have := hp.1;omega) (fun t ht => by have := hp.2 t ht;omega) _
 have e4 : vC (zaC a' r' bs ps x' y') = ((x' : Int),(y' : Int),[],true) := by
  rw [vC,e3]
  have := zeD (a := x') (b := y') (by omega) (by omega) []
  rwa [List.append_nil] at this
 have hv : okV (zaC a' r' bs ps x' y') := by
  unfold okV
  rw [e1,e2,e3,e4]
  exact ⟨rfl,rfl,rfl,rfl,rfl⟩
 rw [ze6 hv,e1,e2,e3,e4,zey (fun b hb => (zfC h6 b hb).1),zhE,if_pos h]
theorem zd2 {a r : Int} {bs : List zW} {ps : List ByteArray} {x y n : Int} (h : za6 a r bs ps x y n = true) : (zaC a r bs ps x y).length ≤ 1000000 := by
 obtain ⟨h0,h1,h2,h3,h4,h5,h6,h7,h8,h9⟩ := (zbX ..).1 h
 obtain ⟨k1,k2,k3⟩ := (zbQ n).1 h0
 obtain ⟨x1,x2,y1,y2⟩ := (zcq x y).1 h7
 obtain ⟨p1,p2⟩ := za7 h0 h9
 have r1 := zc5 (bs.map bB) 400 (by omega) (fun t ht => by
  obtain ⟨b,_,rfl⟩ := List.mem_map.1 ht
  exact zfD b)
 have r2 := zc5 ps 32 (by omega) (fun t ht => by have := p2 t ht;omega)
 have l1 := zam (v := (bs.map bB).length) (by rw [List.length_map];omega)
 have l2 := zam (v := ps.length) (by omega)
 have l3 := zam (v := a.toNat) (by omega)
 have l4 := zam (v := r.toNat) (by omega)
 have l5 := zam (v := x.toNat) (by omega)
 have l6 := zam (v := y.toNat) (by omega)
 have l7 : (bs.map bB).length = bs.length := List.length_map ..
 rw [zaC,zbq,zbq]
 simp only [List.length_append]
 have m1 : (bs.map bB).length * (400 + 9) ≤ 4 * 409 := Nat.mul_le_mul (by omega) (by omega)
 have m2 : ps.length * (32 + 9) ≤ 64 * 41 := Nat.mul_le_mul (by omega) (by omega)
 omega
def zbC : Nat → Nat → Nat
 | 0,_ => 0
 | d + 1,s => s % 2 + zbC d (s / 2)
theorem zc0 : ∀ (d s : Nat),zbC d s ≤ d
 | 0,_ => Nat.le_refl _
 | d + 1,s => by have := zc0 d (s / 2);rw [zbC];omega
theorem zcO : ∀ (d e b r : Nat),b < 2 ^ d → zbC (d + e) (b + 2 ^ d * r) = zbC d b + zbC e r
 | 0,e,b,r,h => by
  obtain rfl : b = 0 := by simpa using h
  rw [Nat.zero_add,Nat.zero_add,Nat.pow_zero,Nat.one_mul];simp [zbC]
 | d + 1,e,b,r,h => by
  rw [Nat.pow_succ] at h
  have e1 : (b + 2 ^ (d + 1) * r) / 2 = b / 2 + 2 ^ d * r := by
   rw [Nat.pow_succ,Nat.mul_assoc,Nat.mul_left_comm,Nat.add_mul_div_left _ _ (by omega)]
  have e2 : (b + 2 ^ (d + 1) * r) % 2 = b % 2 := by
   rw [Nat.pow_succ,Nat.mul_assoc,Nat.mul_left_comm,Nat.add_mul_mod_self_left]
  rw [show d + 1 + e = (d + e) + 1 by omega,zbC,zbC,e1,e2,zcO d e (b / 2) r (by omega)]
  omega
def zaD : List Nat → Nat
 | [] => 0
 | b :: l => b + 256 * zaD l
theorem zdK (a b c d : Nat) (hb : b < 256) (hd : d < 256) : (b + 256 * a) &&& (d + 256 * c) = (b &&& d) + 256 * (a &&& c) := by
 have hx : b &&& d < 2 ^ 8 := Nat.and_lt_two_pow _ (by omega)
 apply Nat.eq_of_testBit_eq
 intro i
 rw [Nat.testBit_and,Nat.add_comm b,Nat.add_comm d,Nat.add_comm (b &&& d)]
 rw [show (256 : Nat) = 2 ^ 8 from rfl,Nat.testBit_two_pow_mul_add _ (by omega),Nat.testBit_two_pow_mul_add _ (by omega),Nat.testBit_two_pow_mul_add _ hx]
 split <;> rw [Nat.testBit_and]
theorem low_1 : ∀ (b : Fin 256) (t : Fin 2),(b.val / 2 + 128 * t.val) &&& 85 = b.val / 2 &&& 85 := by decide +kernel
theorem low_2 : ∀ (b : Fin 256) (t : Fin 4),(b.val / 4 + 64 * t.val) &&& 51 = b.val / 4 &&& 51 := by decide +kernel
def zec (b : Nat) : Nat := (b / 2 &&& 85) + (b &&& 85)
def zfs (b : Nat) : Nat := (b / 4 &&& 51) + (b &&& 51)
def pop3 (b : Nat) : Nat := b % 16 + b / 16
theorem zf0 : ∀ b : Fin 256,zec b.val < 256 ∧ zfs (zec b.val) < 256 ∧ zfs (zec b.val) % 16 ≤ 4 ∧ zfs (zec b.val) / 16 ≤ 4 ∧ pop3 (zfs (zec b.val)) = zbC 8 b.val := by decide +kernel
theorem join_1 : ∀ l : List Nat,(∀ b ∈ l,b < 256) → (zaD l / 2 &&& zaD (List.replicate l.length 85)) + (zaD l &&& zaD (List.replicate l.length 85)) = zaD (l.map zec)
 | [],_ => rfl
 | b :: l,h => by
  have hb := h b List.mem_cons_self
  have ih := join_1 l (fun c hc => h c (List.mem_cons_of_mem _ hc))
  have k := low_1 ⟨b,hb⟩ ⟨zaD l % 2,Nat.mod_lt _ (by omega)⟩
  simp only at k
  rw [List.length_cons,List.replicate_succ,zaD,zaD,List.map_cons,zaD,← ih]
  rw [show (b + 256 * zaD l) / 2 = (b / 2 + 128 * (zaD l % 2)) + 256 * (zaD l / 2) by omega,zdK _ _ _ _ (by omega) (by omega),zdK _ _ _ _ hb (by omega),k,zec]
  omega
theorem join_2 : ∀ l : List Nat,(∀ b ∈ l,b < 256) → (zaD l / 4 &&& zaD (List.replicate l.length 51)) + (zaD l &&& zaD (List.replicate l.length 51)) = zaD (l.map zfs)
 | [],_ => rfl
 | b :: l,h => by
  have hb := h b List.mem_cons_self
  have ih := join_2 l (fun c hc => h c (List.mem_cons_of_mem _ hc))
  have k := low_2 ⟨b,hb⟩ ⟨zaD l % 4,Nat.mod_lt _ (by omega)⟩
  simp only at k
  rw [List.length_cons,List.replicate_succ,zaD,zaD,List.map_cons,zaD,← ih]
  rw [show (b + 256 * zaD l) / 4 = (b / 4 + 64 * (zaD l % 4)) + 256 * (zaD l / 4) by omega,zdK _ _ _ _ (by omega) (by omega),zdK _ _ _ _ hb (by omega),k,zfs]
  omega
theorem join_low (l : List Nat) (h : ∀ b ∈ l,b % 16 ≤ 4 ∧ b / 16 ≤ 4) : zaD l % 16 ≤ 4 := by
 cases l with
 | nil => simp [zaD]
 | cons b l => have := (h b List.mem_cons_self).1;rw [zaD];omega
theorem join_3 : ∀ l : List Nat,(∀ b ∈ l,b % 16 ≤ 4 ∧ b / 16 ≤ 4) → ((zaD l / 16 + zaD l) &&& zaD (List.replicate l.length 15)) = zaD (l.map pop3)
 | [],_ => rfl
 | b :: l,h => by
  obtain ⟨h1,h2⟩ := h b List.mem_cons_self
  have hl := fun c hc => h c (List.mem_cons_of_mem b hc)
  have ih := join_3 l hl
  have k := join_low l hl
  rw [List.length_cons,List.replicate_succ,zaD,zaD,List.map_cons,zaD,← ih]
  rw [show (b + 256 * zaD l) / 16 + (b + 256 * zaD l) = (b / 16 + 16 * (zaD l % 16) + b) + 256 * (zaD l / 16 + zaD l) by omega,zdK _ _ _ _ (by omega) (by omega)]
  rw [show (15 : Nat) = 2 ^ 4 - 1 from rfl,Nat.and_two_pow_sub_one_eq_mod,pop3]
  omega
theorem zg9 : ∀ l : List Nat,(∀ b ∈ l,b < 256) → zaD l < 256 ^ l.length
 | [],_ => by simp [zaD]
 | b :: l,h => by
  have := zg9 l (fun c hc => h c (List.mem_cons_of_mem _ hc))
  have hb := h b List.mem_cons_self
  rw [zaD,List.length_cons,Nat.pow_succ];omega
set_option maxRecDepth 10000 in
theorem ziy (m : Nat) : ∀ l : List Nat,(∀ b ∈ l,b ≤ m) → zaD l * 255 + m ≤ m * 256 ^ l.length
 | [],_ => by simp [zaD]
 | b :: l,h => by
  have := ziy m l (fun c hc => h c (List.mem_cons_of_mem _ hc))
  have hb := h b List.mem_cons_self
  rw [zaD,List.length_cons,Nat.pow_succ,← Nat.mul_assoc]
  generalize m * 256 ^ l.length = X at *
  omega
theorem zd9 (a b : Nat) (h : a + b < 18446744073709551616) : IntKind.u64.wrap ((a : Int) + (b : Int)) = ((a + b : Nat) : Int) := by
 rw [za4 (by omega) (by omega)];omega
theorem pop_e2 {q0 q1 q2 r1 r2 r3 z : Nat} (g0 : q0 ≤ 8) (g1 : q1 ≤ 8) (g2 : q2 ≤ 8) (e0 : z = q0 + 256 * r1) (e1 : r1 = q1 + 256 * r2) (e2 : r2 = q2 + 256 * r3) : z / 256 = r1 ∧ (z + r1) / 65536 = r2 + r3 := by
 constructor <;> omega
theorem pop_e3 {q0 q1 q2 q3 q4 q5 q6 q7 r1 r2 r3 r4 r5 r6 z : Nat} (g0 : q0 ≤ 8) (g1 : q1 ≤ 8) (g2 : q2 ≤ 8) (g3 : q3 ≤ 8) (g4 : q4 ≤ 8) (g5 : q5 ≤ 8) (g6 : q6 ≤ 8) (e0 : z = q0 + 256 * q1 + 65536 * q2 + 16777216 * q3 + 4294967296 * r4) (e1 : r1 = q1 + 256 * q2 + 65536 * q3 + 16777216 * q4 + 4294967296 * r5) (e2 : r2 = q2 + 256 * q3 + 65536 * q4 + 16777216 * q5 + 4294967296 * r6) (e3 : r3 = q3 + 256 * q4 + 65536 * q5 + 16777216 * q6 + 4294967296 * q7) :
  (z + r1 + (r2 + r3)) / 4294967296 = r4 + r5 + r6 + q7 := by
 generalize hx : q0 + 256 * q1 + 65536 * q2 + 16777216 * q3 = x at *
 have lx : x ≤ 134744072 := by omega
 generalize hy : q1 + 256 * q2 + 65536 * q3 + 16777216 * q4 = y at *
 have ly : y ≤ 134744072 := by omega
 generalize hu : q2 + 256 * q3 + 65536 * q4 + 16777216 * q5 = u at *
 have lu : u ≤ 134744072 := by omega
 generalize hv : q3 + 256 * q4 + 65536 * q5 + 16777216 * q6 = v at *
 have lv : v ≤ 134744072 := by omega
 clear hx hy hu hv g0 g1 g2 g3 g4 g5 g6
 omega
theorem pop_end (q0 q1 q2 q3 q4 q5 q6 q7 z z1 z2 z3 : Nat) (g0 : q0 ≤ 8) (g1 : q1 ≤ 8) (g2 : q2 ≤ 8) (g3 : q3 ≤ 8) (g4 : q4 ≤ 8) (g5 : q5 ≤ 8) (g6 : q6 ≤ 8) (g7 : q7 ≤ 8)
  (hz : z = q0 + 256 * (q1 + 256 * (q2 + 256 * (q3 + 256 * (q4 + 256 * (q5 + 256 * (q6 + 256 * q7))))))) (h1 : z1 = z + z / 256) (h2 : z2 = z1 + z1 / 65536) (h3 : z3 = z2 + z2 / 4294967296) :
  z3 % 128 = q0 + (q1 + (q2 + (q3 + (q4 + (q5 + (q6 + q7)))))) := by
 obtain ⟨r6,e6⟩ : ∃ r,r = q6 + 256 * q7 := ⟨_,rfl⟩
 obtain ⟨r5,e5⟩ : ∃ r,r = q5 + 256 * r6 := ⟨_,rfl⟩
 obtain ⟨r4,e4⟩ : ∃ r,r = q4 + 256 * r5 := ⟨_,rfl⟩
 obtain ⟨r3,e3⟩ : ∃ r,r = q3 + 256 * r4 := ⟨_,rfl⟩
 obtain ⟨r2,e2⟩ : ∃ r,r = q2 + 256 * r3 := ⟨_,rfl⟩
 obtain ⟨r1,e1⟩ : ∃ r,r = q1 + 256 * r2 := ⟨_,rfl⟩
 rw [← e6,← e5,← e4,← e3,← e2,← e1] at hz
 obtain ⟨a1,a2⟩ := pop_e2 g0 g1 g2 hz e1 e2
 rw [a1] at h1
 rw [h1,a2] at h2
 have a3 := pop_e3 (z := z) (q7 := q7) (r1 := r1) (r2 := r2) (r3 := r3) (r4 := r4) (r5 := r5) (r6 := r6) g0 g1 g2 g3 g4 g5 g6 (by rw [hz,e1,e2,e3];omega) (by rw [e1,e2,e3,e4];omega) (by rw [e2,e3,e4,e5];omega) (by rw [e3,e4,e5,e6];omega)
 rw [h2,a3] at h3
 clear a1 a2 a3 h1 h2
 omega
set_option maxHeartbeats 1000000 in
theorem zeb (x : Nat) (hx : x < 18446744073709551616) : zba.f (x : Int) = some ((zbC 64 x : Nat) : Int) := by
 obtain ⟨b0,b1,b2,b3,b4,b5,b6,b7,h0,h1,h2,h3,h4,h5,h6,h7,e⟩ : ∃ b0 b1 b2 b3 b4 b5 b6 b7 : Nat,b0 < 256 ∧ b1 < 256 ∧ b2 < 256 ∧ b3 < 256 ∧ b4 < 256 ∧ b5 < 256 ∧ b6 < 256 ∧ b7 < 256 ∧ x = zaD [b0,b1,b2,b3,b4,b5,b6,b7] :=
  ⟨x % 256,x / 256 % 256,x / 65536 % 256,x / 16777216 % 256,x / 4294967296 % 256,x / 1099511627776 % 256,x / 281474976710656 % 256,x / 72057594037927936,by omega,by omega,by omega,by omega,by omega,by omega,by omega,by omega,by simp only [zaD];omega⟩
 generalize hl : [b0,b1,b2,b3,b4,b5,b6,b7] = l at e
 have hlen : l.length = 8 := by rw [← hl];rfl
 have hb : ∀ b ∈ l,b < 256 := by rw [← hl];simp only [List.mem_cons,List.not_mem_nil,or_false];rintro b (rfl | rfl | rfl | rfl | rfl | rfl | rfl | rfl) <;> assumption
 have q1 := join_1 l hb
 have hb1 : ∀ b ∈ l.map zec,b < 256 := fun b hm => by obtain ⟨c,hc,rfl⟩ := List.mem_map.1 hm;exact (zf0 ⟨c,hb c hc⟩).1
 have q2 := join_2 (l.map zec) hb1
 have hb2 : ∀ b ∈ (l.map zec).map zfs,b % 16 ≤ 4 ∧ b / 16 ≤ 4 := fun b hm => by
  obtain ⟨c,hc,rfl⟩ := List.mem_map.1 hm
  obtain ⟨d,hd,rfl⟩ := List.mem_map.1 hc
  have := zf0 ⟨d,hb d hd⟩
  exact ⟨this.2.2.1,this.2.2.2.1⟩
 have q3 := join_3 ((l.map zec).map zfs) hb2
 have e4 : ((l.map zec).map zfs).map pop3 = l.map (zbC 8) := by
  rw [List.map_map,List.map_map]
  refine List.map_congr_left (fun c hc => ?_)
  exact (zf0 ⟨c,hb c hc⟩).2.2.2.2
 rw [e4] at q3
 rw [List.length_map] at q2
 rw [List.length_map,List.length_map] at q3
 rw [hlen] at q1 q2 q3
 have p8 : (256 : Nat) ^ 8 = 18446744073709551616 := by decide
 have l1 := zg9 _ hb1
 rw [List.length_map,hlen,p8] at l1
 have l2 := zg9 ((l.map zec).map zfs) (fun b hm => by have := hb2 b hm;omega)
 rw [List.length_map,List.length_map,hlen,p8] at l2
 have l2' := ziy 68 ((l.map zec).map zfs) (fun b hm => by have := hb2 b hm;omega)
 rw [List.length_map,List.length_map,hlen,p8] at l2'
 rw [show zaD (List.replicate 8 85) = 6148914691236517205 from rfl,← e] at q1
 rw [show zaD (List.replicate 8 51) = 3689348814741910323 from rfl] at q2
 rw [show zaD (List.replicate 8 15) = 1085102592571150095 from rfl] at q3
 generalize zaD (l.map zec) = y1 at *
 generalize zaD ((l.map zec).map zfs) = y2 at *
 have hz : zaD (l.map (zbC 8)) = zbC 8 b0 + 256 * (zbC 8 b1 + 256 * (zbC 8 b2 + 256 * (zbC 8 b3 + 256 * (zbC 8 b4 + 256 * (zbC 8 b5 + 256 * (zbC 8 b6 + 256 * zbC 8 b7)))))) := by rw [← hl];simp only [List.map,zaD,Nat.mul_zero,Nat.add_zero]
 have hp : zbC 64 x = zbC 8 b0 + (zbC 8 b1 + (zbC 8 b2 + (zbC 8 b3 + (zbC 8 b4 + (zbC 8 b5 + (zbC 8 b6 + zbC 8 b7)))))) := by
  rw [e,← hl]
  simp only [zaD,Nat.mul_zero,Nat.add_zero]
  rw [show (64 : Nat) = 8 + 56 from rfl,show (256 : Nat) = 2 ^ 8 from rfl,zcO _ _ _ _ h0,show (56 : Nat) = 8 + 48 from rfl,zcO _ _ _ _ h1,show (48 : Nat) = 8 + 40 from rfl,zcO _ _ _ _ h2,show (40 : Nat) = 8 + 32 from rfl,zcO _ _ _ _ h3,show (32 : Nat) = 8 + 24 from rfl,zcO _ _ _ _ h4,show (24 : Nat) = 8 + 16 from rfl,zcO _ _ _ _ h5,show (16 : Nat) = 8 + 8 from rfl,zcO _ _ _ _ h6]
 have g0 := zc0 8 b0
 have g1 := zc0 8 b1
 have g2 := zc0 8 b2
 have g3 := zc0 8 b3
 have g4 := zc0 8 b4
 have g5 := zc0 8 b5
 have g6 := zc0 8 b6
 have g7 := zc0 8 b7
 generalize zaD (l.map (zbC 8)) = z at *
 have d2 : (x : Int) / 2 = ((x / 2 : Nat) : Int) := by omega
 have d4 : (y1 : Int) / 4 = ((y1 / 4 : Nat) : Int) := by omega
 have d16 : (y2 : Int) / 16 = ((y2 / 16 : Nat) : Int) := by omega
 have i1 : IntKind.u64.wrap (Go.bits .and .u64 ((x : Int) / 2) 6148914691236517205 + Go.bits .and .u64 (x : Int) 6148914691236517205) = (y1 : Int) := by
  have k1 : Go.bits .and .u64 ((x / 2 : Nat) : Int) 6148914691236517205 = ((x / 2 &&& 6148914691236517205 : Nat) : Int) := u64_and_nat (x / 2) 6148914691236517205 (by omega) (by omega)
  have k2 : Go.bits .and .u64 (x : Int) 6148914691236517205 = ((x &&& 6148914691236517205 : Nat) : Int) := u64_and_nat x 6148914691236517205 hx (by omega)
  rw [d2,k1,k2,zd9 _ _ (by rw [q1];exact l1),q1]
 have i2 : IntKind.u64.wrap (Go.bits .and .u64 ((y1 : Int) / 4) 3689348814741910323 + Go.bits .and .u64 (y1 : Int) 3689348814741910323) = (y2 : Int) := by
  have k1 : Go.bits .and .u64 ((y1 / 4 : Nat) : Int) 3689348814741910323 = ((y1 / 4 &&& 3689348814741910323 : Nat) : Int) := u64_and_nat (y1 / 4) 3689348814741910323 (by omega) (by omega)
  have k2 : Go.bits .and .u64 (y1 : Int) 3689348814741910323 = ((y1 &&& 3689348814741910323 : Nat) : Int) := u64_and_nat y1 3689348814741910323 l1 (by omega)
  rw [d4,k1,k2,zd9 _ _ (by rw [q2];exact l2),q2]
 have l3 : y2 / 16 + y2 < 18446744073709551616 := by omega
 have i3 : Go.bits .and .u64 (IntKind.u64.wrap ((y2 : Int) / 16 + (y2 : Int))) 1085102592571150095 = (z : Int) := by
  have k1 : Go.bits .and .u64 ((y2 / 16 + y2 : Nat) : Int) 1085102592571150095 = ((y2 / 16 + y2 &&& 1085102592571150095 : Nat) : Int) := u64_and_nat (y2 / 16 + y2) 1085102592571150095 l3 (by omega)
  rw [d16,zd9 _ _ l3,k1,q3]
 unfold zba.f
 rw [i1,i2,i3]
 have i4 : IntKind.u64.wrap ((z : Int) + (z : Int) / 256) = ((z + z / 256 : Nat) : Int) := by
  rw [show (z : Int) / 256 = ((z / 256 : Nat) : Int) by omega];exact zd9 _ _ (by omega)
 rw [i4]
 generalize hz1 : z + z / 256 = z1
 have i5 : IntKind.u64.wrap ((z1 : Int) + (z1 : Int) / 65536) = ((z1 + z1 / 65536 : Nat) : Int) := by
  rw [show (z1 : Int) / 65536 = ((z1 / 65536 : Nat) : Int) by omega];exact zd9 _ _ (by omega)
 rw [i5]
 generalize hz2 : z1 + z1 / 65536 = z2
 have i6 : IntKind.u64.wrap ((z2 : Int) + (z2 : Int) / 4294967296) = ((z2 + z2 / 4294967296 : Nat) : Int) := by
  rw [show (z2 : Int) / 4294967296 = ((z2 / 4294967296 : Nat) : Int) by omega];exact zd9 _ _ (by omega)
 rw [i6]
 generalize hz3 : z2 + z2 / 4294967296 = z3
 have l4 : z3 < 9223372036854775808 := by omega
 have i7 : Go.bits .and .i64 (wrap64 (z3 : Int)) 127 = ((z3 % 128 : Nat) : Int) := by
  rw [zak (by omega) (by omega)]
  have := bits_mask .i64 63 (by decide) (fun n h0 h1 => by rw [IntKind.wrap_i64];omega) 7 (by decide) (z3 : Int) (by omega) (by omega)
  rw [show ((2 : Int) ^ 7 - 1) = 127 from rfl] at this
  rw [this];omega
 rw [i7,hp]
 have hq : z3 % 128 = zbC 8 b0 + (zbC 8 b1 + (zbC 8 b2 + (zbC 8 b3 + (zbC 8 b4 + (zbC 8 b5 + (zbC 8 b6 + zbC 8 b7)))))) := pop_end _ _ _ _ _ _ _ _ _ _ _ _ g0 g1 g2 g3 g4 g5 g6 g7 hz hz1.symm hz2.symm hz3.symm
 rw [hq]
def zcv (s : Nat) (n : Int) : Bool := decide (0 ≤ n) && decide (n ≤ 64) && decide (s < 2 ^ n.toNat)
theorem zcR (s : Nat) (n : Int) : zcv s n = true ↔ 0 ≤ n ∧ n ≤ 64 ∧ s < 2 ^ n.toNat := by
 unfold zcv;simp [and_assoc]
theorem zg7 (s p : Nat) (hp : 0 < p) : s / p = 0 ↔ s < p := by
 rw [Nat.div_eq_zero_iff];omega
theorem zfy (s : Nat) (n : Int) : zbe.f (s : Int) n = some (zcv s n) := by
 unfold zbe.f
 by_cases h1 : n < 0
 ·rw [if_pos h1]
  have : zcv s n = false := by rw [← Bool.not_eq_true,zcR];omega
  rw [this]
 rw [if_neg h1]
 by_cases h2 : n > 64
 ·rw [if_pos h2]
  have : zcv s n = false := by rw [← Bool.not_eq_true,zcR];omega
  rw [this]
 rw [if_neg h2,zak (by omega) (by omega)]
 by_cases h3 : n > 0
 ·obtain ⟨m,rfl⟩ : ∃ m : Nat,n = ((m + 1 : Nat) : Int) := ⟨(n - 1).toNat,by omega⟩
  have hm : mx (((m + 1 : Nat) : Int) - 1) 0 = (m : Int) := by unfold mx;split <;> omega
  have hs : shr .u64 ((s : Int) / 2) (m : Int) = ((s / 2 / 2 ^ m : Nat) : Int) := by
   unfold shr
   rw [Int.toNat_natCast,Nat.min_eq_left (by show m ≤ 64;omega),show (s : Int) / 2 = ((s / 2 : Nat) : Int) by omega]
   norm_cast
  have he : s / 2 / 2 ^ m = s / 2 ^ (m + 1) := by rw [Nat.div_div_eq_div_mul,Nat.pow_succ,Nat.mul_comm]
  rw [hm,hs,he]
  have key := zg7 s (2 ^ (m + 1)) (Nat.two_pow_pos _)
  by_cases h4 : s / 2 ^ (m + 1) = 0
  ·rw [if_pos (by omega),if_pos h3]
   have : zcv s ((m + 1 : Nat) : Int) = true := by rw [zcR];exact ⟨by omega,by omega,key.1 h4⟩
   rw [this]
  ·rw [if_neg (by omega)]
   have : zcv s ((m + 1 : Nat) : Int) = false := by
    rw [← Bool.not_eq_true,zcR]
    exact fun hh => h4 (key.2 hh.2.2)
   rw [this]
 ·obtain rfl : n = 0 := by omega
  have hm : mx ((0 : Int) - 1) 0 = 0 := by decide
  have hs : shr .u64 ((s : Int) / 2) 0 = (s : Int) / 2 := by unfold shr;simp
  have hw : zcv s 0 = decide (s = 0) := by
   rw [Bool.eq_iff_iff,zcR];simp
  rw [hm,hs,hw]
  by_cases h4 : s = 0
  ·subst h4;rfl
  ·by_cases h5 : (s : Int) / 2 = 0
   ·rw [if_pos h5,if_neg (by omega)]
    congr 1
    rw [Bool.eq_iff_iff];simp
   ·rw [if_neg h5];simp [h4]
theorem zgb (s : Nat) (hs : s < 18446744073709551616) : zbi.f (s : Int) = some ((zbC 64 s : Nat) : Int) := by
 unfold zbi.f
 rw [zeb s hs];rfl
def zdx : Nat → Nat → Nat → List Int
 | 0,_,_ => []
 | d + 1,id,s => (if s % 2 = 1 then [(id : Int)] else []) ++ zdx d (id + 1) (s / 2)
def zco (a r : Int) (bs : List zW) (ps : List ByteArray) (x y : Int) (s : Nat) (n : Int) : Int :=
 if za6 a r bs ps x y n = true then if zcv s n = true then if ((zbC 64 s : Nat) : Int) < zby n then 2 else 0 else 4 else 1
theorem zdq (a r : Int) (bs : List zW) (ps : List ByteArray) (x y : Int) (s : Nat) (hs : s < 18446744073709551616) (n : Int) : zaM.f a r bs ps x y (s : Int) n = some (zco a r bs ps x y s n) := by
 unfold zaM.f zco
 rw [show zaj.f a r bs ps x y n = some (za6 a r bs ps x y n) from rfl,zfy,zgb s hs,zdC]
 simp only [Option.bind_some]
 split
 ·split
  ·split <;> rfl
  ·rfl
 ·rfl
theorem zcA {a r : Int} {bs : List zW} {ps : List ByteArray} {x y : Int} {s : Nat} {n : Int} : zco a r bs ps x y s n = 0 ↔ za6 a r bs ps x y n = true ∧ zcv s n = true ∧ zby n ≤ ((zbC 64 s : Nat) : Int) := by
 unfold zco
 by_cases h1 : za6 a r bs ps x y n = true
 ·rw [if_pos h1]
  by_cases h2 : zcv s n = true
  ·rw [if_pos h2]
   by_cases h3 : ((zbC 64 s : Nat) : Int) < zby n
   ·rw [if_pos h3];simp;omega
   ·rw [if_neg h3];simp [h1,h2];omega
  ·rw [if_neg h2];simp [h2]
 ·rw [if_neg h1];simp [h1]
def zbY (a r : Int) (bs : List zW) (ps : List ByteArray) (x y : Int) (s : Nat) : Bs := zbV (zaC a r bs ps x y) ++ zbx s
def zie (a r : Int) (bs : List zW) (ps : List ByteArray) (x y : Int) (s : Nat) (n : Int) : ByteArray × Int :=
 if zco a r bs ps x y s n = 0 then (toB (zbY a r bs ps x y s),0) else ((⟨#[]⟩ : ByteArray),zco a r bs ps x y s n)
theorem textB_toB (l : Bs) : zdF (toB l) = toB (zbV l) := by rw [zhY,zat]
theorem zgp (a r : Int) (bs : List zW) (ps : List ByteArray) (x y : Int) (s : Nat) (hs : s < 18446744073709551616) (n : Int) : zaO.f a r bs ps x y (s : Int) n = some (zie a r bs ps x y s n) := by
 unfold zaO.f zie
 rw [zdq _ _ _ _ _ _ _ hs]
 simp only [Option.bind_some]
 by_cases h : zco a r bs ps x y s n = 0
 ·rw [if_pos h,if_pos h]
  have hm := (zcA.1 h).1
  have hl := zd2 hm
  rw [zdG,if_pos hm]
  simp only [Option.bind_some]
  have n1 := zaX (v := s) hs
  have n2 := zaX (v := (zaC a r bs ps x y).length) (by omega)
  rw [zdM _ (by rw [zX];omega),zcJ s hs]
  simp only [Option.bind_some]
  rw [if_pos (by rw [zdF,ByteArray.size_append,zX];omega),textB_toB,zbY,za9];rfl
 ·rw [if_neg h,if_neg h]
end Go.Proofs.Ytgdpiegkoeikiaa.Px