/- Part 30 of 30 of the proof of the law DagPasts: what is proved is the statement at the end of the last part; its conditions are those of the given row. -/
import Derived.ProofKit
import Derived.OpenShut
import Derived.ShutString
import Derived.ChangeOld
import Derived.JoinedCond
import Derived.Carry
import Derived.WideShapes
import Derived.Test.YtndjfdakflaggaaZDagPastsc
namespace Go.Proofs.Ytndjfdakflaggaa.Px
open Go.RowKit Go.Proofs.YtndjfdakflaggaaW.PrintWords Go.Proofs.YtndjfdakflaggaaW.PrintLast Go.Proofs.YtndjfdakflaggaaW.PrintMore
attribute [local go_sem] zt zv zA zB zq zr zu zw
set_option linter.unusedVariables false
set_option linter.unusedSimpArgs false
def zdj (L : List Ent) (i k : Nat) : Bool := decide ((L.getD k z34).f1.f1 = wrap64 ((L.getD i z34).f1.f1 - 1)) && (L.getD i z34).f1.f3.any fun p => decide (p = (L.getD k z34).f0)
def zed (L : List Ent) (i : Nat) (s : List Bool × Bool) (k : Nat) : List Bool × Bool := if s.1.getD k false = false ∧ zdj L i k = true then (s.1.set k true,true) else s
def zhq (L : List Ent) (i : Nat) : Nat → Nat → List Bool × Bool → List Bool × Bool
 | 0,_,s => s
 | d + 1,k,s => zhq L i d (k + 1) (zed L i s k)
def ziJ (L : List Ent) (s : List Bool × Bool) (i : Nat) : List Bool × Bool := if s.1.getD i false = true then zhq L i L.length 0 s else s
def zeG (L : List Ent) : Nat → Nat → List Bool × Bool → List Bool × Bool
 | 0,_,s => s
 | d + 1,i,s => zeG L d (i + 1) (ziJ L s i)
structure zcJ (L : List Ent) (s t : List Bool × Bool) : Prop where
 len : t.1.length = s.1.length
 mono : ∀ i,s.1.getD i false = true → t.1.getD i false = true
 flag : t.2 = false → s.2 = false ∧ t.1 = s.1
 more : t.2 = true → s.2 = true ∨ ∃ i,i < s.1.length ∧ s.1.getD i false = false ∧ t.1.getD i false = true
 sound : ∀ Q : Nat → Prop,(∀ i k,Q i → zdj L i k = true → Q k) → (∀ i,s.1.getD i false = true → Q i) → ∀ i,t.1.getD i false = true → Q i
theorem zcJ.refl (L : List Ent) (s : List Bool × Bool) : zcJ L s s := ⟨rfl,fun _ h => h,fun h => ⟨h,rfl⟩,fun h => .inl h,fun _ _ h => h⟩
theorem zcJ.trans {L : List Ent} {s t u : List Bool × Bool} (h : zcJ L s t) (g : zcJ L t u) : zcJ L s u := by
 refine ⟨g.len.trans h.len,fun i hi => g.mono i (h.mono i hi),fun hu => ?_,fun hu => ?_,fun Q hQ hs => g.sound Q hQ (h.sound Q hQ hs)⟩
 ·obtain ⟨h1,h2⟩ := g.flag hu
  obtain ⟨h3,h4⟩ := h.flag h1
  exact ⟨h3,h2.trans h4⟩
 ·rcases g.more hu with h1 | ⟨i,h1,h2,h3⟩
  ·rcases h.more h1 with h2 | ⟨i,h2,h3,h4⟩
   ·exact .inl h2
   ·exact .inr ⟨i,h2,h3,g.mono i h4⟩
  ·refine .inr ⟨i,by rw [← h.len];exact h1,?_,h3⟩
   rw [← Bool.not_eq_true]
   intro hc
   rw [h.mono i hc] at h2
   cases h2
theorem zdg {R : List Bool} {i k : Nat} (h : i ≠ k) : (R.set k true).getD i false = R.getD i false := by
 rw [List.getD_eq_getElem?_getD,List.getD_eq_getElem?_getD,List.getElem?_set_ne (Ne.symm h)]
theorem zdf {R : List Bool} {k : Nat} (h : k < R.length) : (R.set k true).getD k false = true := by
 rw [List.getD_eq_getElem?_getD,List.getElem?_set_self h];rfl
theorem zdY (L : List Ent) (i k : Nat) (s : List Bool × Bool) (hk : k < s.1.length) (hi : s.1.getD i false = true) : zcJ L s (zed L i s k) := by
 unfold zed
 split
 ·next h =>
  refine ⟨by simp,fun j hj => ?_,fun hc => (by cases hc),fun _ => .inr ⟨k,hk,h.1,zdf hk⟩,fun Q hQ hs j hj => ?_⟩
  ·by_cases he : j = k
   ·subst he;exact zdf hk
   ·show (s.1.set k true).getD j false = true
    rw [zdg he];exact hj
  ·by_cases he : j = k
   ·subst he;exact hQ i j (hs i hi) h.2
   ·have hj' : (s.1.set k true).getD j false = true := hj
    rw [zdg he] at hj'
    exact hs j hj'
 ·exact zcJ.refl L s
theorem zex (L : List Ent) (i : Nat) : ∀ (d k : Nat) (s : List Bool × Bool),k + d ≤ s.1.length → s.1.getD i false = true → zcJ L s (zhq L i d k s)
 | 0,_,s,_,_ => zcJ.refl L s
 | d + 1,k,s,hk,hi => by
  have h1 := zdY L i k s (by omega) hi
  exact h1.trans (zex L i d (k + 1) _ (by rw [h1.len];omega) (h1.mono i hi))
theorem zew (L : List Ent) (s : List Bool × Bool) (i : Nat) (hl : s.1.length = L.length) : zcJ L s (ziJ L s i) := by
 unfold ziJ
 split
 ·next h => exact zex L i L.length 0 s (by omega) h
 ·exact zcJ.refl L s
theorem zdW (L : List Ent) : ∀ (d i : Nat) (s : List Bool × Bool),s.1.length = L.length → zcJ L s (zeG L d i s)
 | 0,_,s,_ => zcJ.refl L s
 | d + 1,i,s,hl => by
  have h1 := zew L s i hl
  exact h1.trans (zdW L d (i + 1) _ (h1.len.trans hl))
theorem zfH (L : List Ent) (i : Nat) : ∀ (d k : Nat) (s : List Bool × Bool),k + d ≤ s.1.length → s.1.getD i false = true → (zhq L i d k s).2 = false → ∀ j,k ≤ j → j < k + d → zdj L i j = true → s.1.getD j false = true
 | 0,_,_,_,_,_,j,h1,h2,_ => absurd h2 (by omega)
 | d + 1,k,s,hk,hi,hf,j,h1,h2,hl => by
  have g1 := zdY L i k s (by omega) hi
  have g2 := zex L i d (k + 1) _ (by rw [g1.len];omega) (g1.mono i hi)
  obtain ⟨f1,_⟩ := g2.flag hf
  by_cases he : j = k
  ·subst he
   rcases hc : s.1.getD j false with _ | _
   ·rw [zed,if_pos ⟨hc,hl⟩] at f1;cases f1
   ·rfl
  ·have := zfH L i d (k + 1) _ (by rw [g1.len];omega) (g1.mono i hi) hf j (by omega) (by omega) hl
   rwa [(g1.flag f1).2] at this
theorem zeH (L : List Ent) : ∀ (d i : Nat) (s : List Bool × Bool),s.1.length = L.length → (zeG L d i s).2 = false → ∀ j k,i ≤ j → j < i + d → k < L.length → s.1.getD j false = true → zdj L j k = true → s.1.getD k false = true
 | 0,_,_,_,_,_,_,h1,h2,_,_,_ => absurd h2 (by omega)
 | d + 1,i,s,hl,hf,j,k,h1,h2,hk,hj,hlk => by
  have g1 := zew L s i hl
  have g2 := zdW L d (i + 1) _ (g1.len.trans hl)
  obtain ⟨f1,_⟩ := g2.flag hf
  by_cases he : j = i
  ·subst he
   rw [ziJ,if_pos hj] at f1
   exact zfH L j L.length 0 s (by omega) hj f1 k (by omega) (by omega) hlk
  ·have e1 := (g1.flag f1).2
   have := zeH L d (i + 1) _ (g1.len.trans hl) hf j k (by omega) (by omega) hk (by rw [e1];exact hj) hlk
   rwa [e1] at this
def zft (R : List Bool) : Nat := R.countP fun b => !b
theorem offR_lt : ∀ {R T : List Bool},T.length = R.length → (∀ i,R.getD i false = true → T.getD i false = true) → (∃ i,i < R.length ∧ R.getD i false = false ∧ T.getD i false = true) → zft T < zft R := by
 have le : ∀ {R T : List Bool},T.length = R.length → (∀ i,R.getD i false = true → T.getD i false = true) → zft T ≤ zft R := by
  intro R
  induction R with
  | nil => intro T h _;have : T = [] := List.length_eq_zero_iff.1 h;rw [this];exact Nat.le_refl _
  | cons b R ih =>
   intro T h hm
   rcases T with _ | ⟨t,T⟩
   ·cases h
   ·have := ih (T := T) (by simpa using h) (fun i hi => by have := hm (i + 1) (by simpa using hi);simpa using this)
    have h0 := hm 0
    unfold zft at this ⊢
    rw [List.countP_cons,List.countP_cons]
    cases b <;> cases t <;> simp at h0 ⊢ <;> omega
 intro R
 induction R with
 | nil => rintro T _ _ ⟨i,hi,_⟩;exact absurd hi (Nat.not_lt_zero _)
 | cons b R ih =>
  rintro T h hm ⟨i,hi,h1,h2⟩
  rcases T with _ | ⟨t,T⟩
  ·cases h
  ·have hm' : ∀ i,R.getD i false = true → T.getD i false = true := fun i hi => by have := hm (i + 1) (by simpa using hi);simpa using this
   have h0 := hm 0
   rcases i with _ | i
   ·have := le (R := R) (T := T) (by simpa using h) hm'
    simp at h1 h2
    subst h1;subst h2
    unfold zft at this ⊢
    rw [List.countP_cons,List.countP_cons]
    simp;omega
   ·have := ih (T := T) (by simpa using h) hm' ⟨i,by simpa using hi,by simpa using h1,by simpa using h2⟩
    unfold zft at this ⊢
    rw [List.countP_cons,List.countP_cons]
    cases b <;> cases t <;> simp at h0 ⊢ <;> omega
theorem zdC (R : List Bool) (j : Nat) : zz false R (j : Int) = R.getD j false := by rw [zz,Int.toNat_natCast]
def zfj (L : List Ent) (i k p : Nat) : Bool := ((L.getD i z34).f1.f3.drop p).any fun t => decide (t = (L.getD k z34).f0)
theorem zcf (L : List Ent) (i : Nat) (h : i < L.length) : L.getD i z34 = L[i] := by rw [List.getD_eq_getElem?_getD,List.getElem?_eq_getElem h];rfl
theorem reach_l4 (n lo : Int) (L : List Ent) (hL : L.length < 1466015503701) (i k : Nat) (hi : i < L.length) (hk : k < L.length) (hps : L[i].f1.f3.length ≤ 8796093022208) (V : List Bool) (d : Nat) : ∀ (p : Nat) (R : List Bool) (more : Bool),p + d = L[i].f1.f3.length → R.length = L.length →
  Ev (fun q => zf.l3 q (if zfj L i k p = true then (R.set k true,true) else (R,more)).1 (if zfj L i k p = true then (R.set k true,true) else (R,more)).2 (i : Int) ((k + 1 : Nat) : Int) n lo L) V →
  Ev (fun q => zf.l4 q R more (i : Int) (k : Int) (p : Int) n lo L) V := by
 induction d with
 | zero =>
  intro p R more hp hR hc
  refine Ev.step (fun q => by rw [zf.l4]) ?_
  rw [zaX L i hi,zak (x := (k : Int) + 1) (by omega) (by omega)]
  refine zF (by omega) (zF (by omega) (zU (by omega) ?_))
  have h0 : zfj L i k p = false := by unfold zfj;rw [zcf L i hi,List.drop_eq_nil_of_le (by omega)];rfl
  rw [h0] at hc
  simpa using hc
 | succ d ih =>
  intro p R more hp hR hc
  have hp' : p < L[i].f1.f3.length := by omega
  have hh : zfj L i k p = (decide (L[i].f1.f3[p] = L[k].f0) || zfj L i k (p + 1)) := by
   unfold zfj;rw [zcf L i hi,zcf L k hk,List.drop_eq_getElem_cons hp',List.any_cons]
  refine Ev.step (fun q => by rw [zf.l4]) ?_
  rw [zaX L i hi,zaX L k hk,zea _ p hp',zak (x := (p : Int) + 1) (by omega) (by omega),Int.toNat_natCast]
  refine zF (by omega) (zF (by omega) (zF (by omega) (zF (by omega) (zF (by omega) (zF (by omega) ?_)))))
  by_cases he : L[i].f1.f3[p] = L[k].f0
  ·refine zF ((zax _ _).2 he) (zF (by omega) (ih (p + 1) (R.set k true) true (by omega) (by rw [List.length_set];exact hR) ?_))
   rw [hh,decide_eq_true he,Bool.true_or] at hc
   have e : (if zfj L i k (p + 1) = true then ((R.set k true).set k true,true) else (R.set k true,true)) = (R.set k true,true) := by
    split
    ·rw [List.set_set]
    ·rfl
   rw [e]
   simpa using hc
  ·refine zU (fun h => he ((zax _ _).1 h)) (ih (p + 1) R more (by omega) hR ?_)
   rw [hh,decide_eq_false he,Bool.false_or] at hc
   exact hc
theorem reach_l3 (n lo : Int) (L : List Ent) (hL : L.length < 1466015503701) (hps : ∀ x ∈ L,x.f1.f3.length ≤ 8796093022208) (i : Nat) (hi : i < L.length) (V : List Bool) (d : Nat) : ∀ (k : Nat) (R : List Bool) (more : Bool),k + d = L.length → R.length = L.length →
  Ev (fun q => zf.l2 q (if R.getD i false = true then zhq L i d k (R,more) else (R,more)).1 (if R.getD i false = true then zhq L i d k (R,more) else (R,more)).2 ((i + 1 : Nat) : Int) n lo L) V →
  Ev (fun q => zf.l3 q R more (i : Int) (k : Int) n lo L) V := by
 induction d with
 | zero =>
  intro k R more hk hR hc
  refine Ev.step (fun q => by rw [zf.l3]) (zU (by omega) ?_)
  refine Ev.step (fun q => by rw [zf.j4]) ?_
  rw [zak (x := (i : Int) + 1) (by omega) (by omega)]
  refine zU (by simp) ?_
  have e : (if R.getD i false = true then zhq L i 0 k (R,more) else (R,more)) = (R,more) := by split <;> rfl
  rw [e] at hc
  exact hc
 | succ d ih =>
  intro k R more hk hR hc
  have hk' : k < L.length := by omega
  refine Ev.step (fun q => by rw [zf.l3]) (zF (by omega) (zF (by omega) (zF (by omega) ?_)))
  refine Ev.step (fun q => by rw [zf.j4]) ?_
  rw [zdC,zdC]
  by_cases hRi : R.getD i false = true
  ·rw [if_pos hRi,zhq] at hc
   refine zF hRi (zF (by omega) (zF (by omega) ?_))
   have hgo : ∀ (R' : List Bool) (m' : Bool),zed L i (R,more) k = (R',m') → Ev (fun q => zf.l3 q R' m' (i : Int) ((k + 1 : Nat) : Int) n lo L) V := by
    intro R' m' hs
    have g := zdY L i k (R,more) (by show k < R.length;omega) hRi
    rw [hs] at g hc
    have hR'i : R'.getD i false = true := g.mono i hRi
    refine ih (k + 1) R' m' (by omega) (g.len.trans hR) ?_
    rw [if_pos hR'i]
    exact hc
   have J5 : ∀ b : Bool,(b = true → zed L i (R,more) k = (R,more)) → (b = false → R.getD k false = false ∧ L[k].f1.f1 = wrap64 (L[i].f1.f1 - 1)) → Ev (fun q => zf.j5 q R more (i : Int) (k : Int) b n lo L) V := by
    intro b h1 h2
    refine Ev.step (fun q => by rw [zf.j5]) ?_
    rcases b with _ | _
    ·obtain ⟨hk0,hr⟩ := h2 rfl
     refine zU (by simp) (reach_l4 n lo L hL i k hi hk' (hps _ (List.getElem_mem hi)) V L[i].f1.f3.length 0 R more (by omega) hR (hgo _ _ ?_))
     unfold zed
     have hl : zdj L i k = zfj L i k 0 := by
      unfold zdj zfj
      rw [zcf L i hi,zcf L k hk',decide_eq_true hr,Bool.true_and,List.drop_zero]
     by_cases hh : zfj L i k 0 = true
     ·rw [if_pos ⟨hk0,hl.trans hh⟩,if_pos hh]
     ·rw [if_neg (fun h => hh (hl.symm.trans h.2)),if_neg hh]
    ·rw [zak (x := (k : Int) + 1) (by omega) (by omega)]
     exact zF rfl (hgo _ _ (h1 rfl))
   by_cases hRk : R.getD k false = true
   ·exact zF hRk (J5 true (fun _ => by unfold zed;rw [if_neg (fun h => by have := h.1;rw [hRk] at this;cases this)]) (fun h => by cases h))
   ·refine zU hRk (zF (by omega) (zF (by omega) (zF (by omega) ?_)))
    rw [zaX L i hi,zaX L k hk']
    refine J5 _ (fun h => ?_) (fun h => ⟨by rwa [Bool.not_eq_true] at hRk,by simpa using h⟩)
    unfold zed
    rw [if_neg]
    rintro ⟨_,h2⟩
    unfold zdj at h2
    rw [zcf L i hi,zcf L k hk',Bool.and_eq_true,decide_eq_true_eq] at h2
    rw [h2.1] at h
    simp at h
  ·rw [if_neg hRi] at hc
   rw [zak (x := (i : Int) + 1) (by omega) (by omega)]
   exact zU hRi hc
theorem zhm (n lo : Int) (L : List Ent) (hL : L.length < 1466015503701) (hps : ∀ x ∈ L,x.f1.f3.length ≤ 8796093022208) (V : List Bool) (d : Nat) : ∀ (i : Nat) (R : List Bool) (more : Bool),i + d = L.length → R.length = L.length →
  Ev (fun q => zf.l1 q (zeG L d i (R,more)).1 (zeG L d i (R,more)).2 n lo L) V → Ev (fun q => zf.l2 q R more (i : Int) n lo L) V := by
 induction d with
 | zero =>
  intro i R more hi hR hc
  refine Ev.step (fun q => by rw [zf.l2]) ?_
  exact zU (by omega) hc
 | succ d ih =>
  intro i R more hi hR hc
  have hi' : i < L.length := by omega
  refine Ev.step (fun q => by rw [zf.l2]) ?_
  refine zF (by omega) ?_
  refine reach_l3 n lo L hL hps i hi' V L.length 0 R more (by omega) hR ?_
  have g := zew L (R,more) i hR
  exact ih (i + 1) (ziJ L (R,more) i).1 (ziJ L (R,more) i).2 (by omega) (g.len.trans hR) hc
structure zgk (L : List Ent) (R T : List Bool) : Prop where
 len : T.length = L.length
 mono : ∀ i,R.getD i false = true → T.getD i false = true
 sound : ∀ Q : Nat → Prop,(∀ i k,Q i → zdj L i k = true → Q k) → (∀ i,R.getD i false = true → Q i) → ∀ i,T.getD i false = true → Q i
 shut : ∀ j k,j < L.length → k < L.length → T.getD j false = true → zdj L j k = true → T.getD k false = true
theorem zhl (n lo : Int) (L : List Ent) (hL : L.length < 1466015503701) (hps : ∀ x ∈ L,x.f1.f3.length ≤ 8796093022208) : ∀ (m : Nat) (R : List Bool),zft R < m → R.length = L.length → ∃ T,Ev (fun q => zf.l1 q R true n lo L) T ∧ zgk L R T
 | 0,_,h,_ => absurd h (Nat.not_lt_zero _)
 | m + 1,R,hm,hR => by
  have g := zdW L L.length 0 (R,false) hR
  rcases hp : (zeG L L.length 0 (R,false)).2 with _ | _
  ·obtain ⟨_,e⟩ := g.flag hp
   refine ⟨R,?_,hR,fun _ h => h,fun _ _ h => h,fun j k hj hk h1 h2 => zeH L L.length 0 (R,false) hR hp j k (by omega) (by omega) hk h1 h2⟩
   refine Ev.step (fun q => by rw [zf.l1]) ?_
   refine zF rfl (zhm n lo L hL hps R L.length 0 R false (by omega) hR ?_)
   rw [hp,e]
   refine Ev.step (fun q => by rw [zf.l1]) ?_
   exact zU (by simp) (Ev.now _)
  ·have hlt : zft (zeG L L.length 0 (R,false)).1 < zft R := offR_lt g.len g.mono (by
    rcases g.more hp with h | h
    ·cases h
    ·exact h)
   obtain ⟨T,hT,r⟩ := zhl n lo L hL hps m (zeG L L.length 0 (R,false)).1 (by omega) (g.len.trans hR)
   refine ⟨T,?_,r.len,fun i h => r.mono i (g.mono i h),fun Q hQ hs => r.sound Q hQ (g.sound Q hQ hs),r.shut⟩
   refine Ev.step (fun q => by rw [zf.l1]) ?_
   exact zF rfl (zhm n lo L hL hps T L.length 0 R false (by omega) hR (by rw [hp];exact hT))
def zdd (L : List Ent) (g : ByteArray) (b : Int) : Nat → Int
 | 0 => b
 | d + 1 => zdd L g (if (L.getD d z34).f0 = g then (d : Int) else b) d
theorem zf5 (L : List Ent) (g : ByteArray) : ∀ (d : Nat) (b : Int),(zdd L g b d = b ∧ ∀ i,i < d → (L.getD i z34).f0 ≠ g) ∨ ∃ f,f < d ∧ zdd L g b d = (f : Int) ∧ (L.getD f z34).f0 = g ∧ ∀ i,i < f → (L.getD i z34).f0 ≠ g
 | 0,b => .inl ⟨rfl,fun i hi => absurd hi (Nat.not_lt_zero _)⟩
 | d + 1,b => by
  rw [zdd]
  rcases zf5 L g d (if (L.getD d z34).f0 = g then (d : Int) else b) with ⟨h1,h2⟩ | ⟨f,h1,h2,h3,h4⟩
  ·by_cases he : (L.getD d z34).f0 = g
   ·rw [if_pos he] at h1 ⊢
    exact .inr ⟨d,Nat.lt_succ_self d,h1,he,h2⟩
   ·rw [if_neg he] at h1 ⊢
    refine .inl ⟨h1,fun i hi => ?_⟩
    rcases Nat.lt_succ_iff_lt_or_eq.1 hi with h | h
    ·exact h2 i h
    ·rw [h];exact he
  ·exact .inr ⟨f,Nat.lt_succ_of_lt h1,h2,h3,h4⟩
theorem zeb (n lo : Int) (L : List Ent) (hL : L.length < 1466015503701) (g : ByteArray) (R V : List Bool) : ∀ (d : Nat) (b : Int),d ≤ L.length →
  Ev (fun q => if zdd L g b d < 0 then (some R) else (if 0 ≤ zdd L g b d then (if zdd L g b d < (R.length : Int) then (zf.l1 q (R.set (zdd L g b d).toNat true) true n lo L) else none) else none)) V →
  Ev (fun q => zf.l0 q g R b ((d : Int) - 1) n lo L) V
 | 0,b,_,hc => by
  refine Ev.step (fun q => by rw [zf.l0]) ?_
  exact zU (by omega) hc
 | d + 1,b,hd,hc => by
  have hd' : d < L.length := by omega
  refine Ev.step (fun q => by rw [zf.l0]) ?_
  rw [show ((d + 1 : Nat) : Int) - 1 = (d : Int) by omega,zaX L d hd',zak (x := (d : Int) - 1) (by omega) (by omega)]
  refine zF (by omega) (zF (by omega) (zF (by omega) ?_))
  rw [zdd,zcf L d hd'] at hc
  by_cases he : L[d].f0 = g
  ·rw [if_pos he] at hc
   exact zF ((zax _ _).2 he) (zeb n lo L hL g R V d _ (by omega) hc)
  ·rw [if_neg he] at hc
   exact zU (fun h => he ((zax _ _).1 h)) (zeb n lo L hL g R V d b (by omega) hc)
theorem zhn (n lo : Int) (L : List Ent) (hL : L.length < 1466015503701) (hps : ∀ x ∈ L,x.f1.f3.length ≤ 8796093022208) (g : ByteArray) :
  ((∀ i,i < L.length → (L.getD i z34).f0 ≠ g) ∧ Ev (fun q => zf.f q n lo L g) (List.replicate L.length false)) ∨
  ∃ f T,f < L.length ∧ (L.getD f z34).f0 = g ∧ (∀ i,i < f → (L.getD i z34).f0 ≠ g) ∧ Ev (fun q => zf.f q n lo L g) T ∧ zgk L ((List.replicate L.length false).set f true) T := by
 have hw : wrap64 ((L.length : Int) - 1) = (L.length : Int) - 1 := zak (by omega) (by omega)
 have start : ∀ V,Ev (fun q => zf.l0 q g (List.replicate L.length false) (-1) ((L.length : Int) - 1) n lo L) V → Ev (fun q => zf.f q n lo L g) V := fun V h => by
  unfold zf.f
  rw [hw,Int.toNat_natCast]
  exact zF (by omega) (zF (by omega) h)
 rcases zf5 L g L.length (-1) with ⟨h1,h2⟩ | ⟨f,h1,h2,h3,h4⟩
 ·refine .inl ⟨h2,start _ (zeb n lo L hL g _ _ L.length (-1) (Nat.le_refl _) ?_)⟩
  rw [h1]
  exact zF (by decide) (Ev.now _)
 ·obtain ⟨T,hT,r⟩ := zhl n lo L hL hps (zft ((List.replicate L.length false).set f true) + 1) ((List.replicate L.length false).set f true) (Nat.lt_succ_self _) (by simp)
  refine .inr ⟨f,T,h1,h3,h4,start _ (zeb n lo L hL g _ _ L.length (-1) (Nat.le_refl _) ?_),r⟩
  rw [h2,Int.toNat_natCast]
  exact zU (by omega) (zF (by omega) (zF (by simp;omega) hT))
def zdK (L : List Ent) (T : List Bool) (low : Int) : Nat → Nat → List Ent
 | 0,_ => []
 | d + 1,i => if T.getD i false = true ∧ low < (L.getD i z34).f1.f1 then L.getD i z34 :: zdK L T low d (i + 1) else zdK L T low d (i + 1)
theorem zgF (n lo low : Int) (L : List Ent) (hL : L.length < 1466015503701) (T : List Bool) (hT : T.length = L.length) (d : Nat) : ∀ (i : Nat) (acc : List Ent),i + d = L.length → acc.length ≤ i →
  Ev (fun q => zD.l0 q low T acc (i : Int) n lo L) (acc ++ zdK L T low d i) := by
 induction d with
 | zero =>
  intro i acc hi _
  refine Ev.step (fun q => by rw [zD.l0]) ?_
  exact zU (by omega) (zah (Ev.now _) (by simp [zdK]))
 | succ d ih =>
  intro i acc hi ha
  have hi' : i < L.length := by omega
  refine Ev.step (fun q => by rw [zD.l0]) ?_
  rw [zaX L i hi',zdC,zak (x := (i : Int) + 1) (by omega) (by omega),zdK,zcf L i hi']
  refine zF (by omega) (zF (by omega) (zF (by omega) ?_))
  by_cases h1 : T.getD i false = true
  ·refine zF h1 ?_
   by_cases h2 : L[i].f1.f1 > low
   ·refine zF h2 (zF (by omega) (zah (ih (i + 1) _ (by omega) (by simp;omega)) ?_))
    rw [if_pos ⟨h1,h2⟩,List.append_assoc];rfl
   ·refine zU h2 (zah (ih (i + 1) acc (by omega) (by omega)) ?_)
    rw [if_neg (fun h => h2 h.2)]
  ·refine zU h1 (zah (ih (i + 1) acc (by omega) (by omega)) ?_)
   rw [if_neg (fun h => h1 h.1)]
theorem zfC (n lo low : Int) (L : List Ent) (hL : L.length < 1466015503701) (g : ByteArray) (T : List Bool) (hT : T.length = L.length) (hr : Ev (fun q => zf.f q n lo L g) T) : Ev (fun q => zD.f q n lo L g low) (zdK L T low L.length 0) :=
 Ev.bind hr (zah (zgF n lo low L hL T hT L.length 0 [] (by omega) (by simp)) (by simp))
theorem zgG (n lo : Int) (L : List Ent) (hL : L.length < 1466015503701) (t : ByteArray) (T : List Bool) (hT : T.length = L.length) (d : Nat) : ∀ i : Nat,i + d = L.length →
  Ev (fun q => zE.l0 q t T (i : Int) n lo L) ((List.range' i d).any fun j => T.getD j false && decide ((L.getD j z34).f0 = t)) := by
 induction d with
 | zero =>
  intro i hi
  refine Ev.step (fun q => by rw [zE.l0]) ?_
  exact zU (by omega) (zah (Ev.now _) (by simp))
 | succ d ih =>
  intro i hi
  have hi' : i < L.length := by omega
  refine Ev.step (fun q => by rw [zE.l0]) ?_
  rw [zaX L i hi',zdC,zak (x := (i : Int) + 1) (by omega) (by omega),List.range'_succ,List.any_cons,zcf L i hi']
  refine zF (by omega) (zF (by omega) (zF (by omega) ?_))
  by_cases h1 : T.getD i false = true
  ·refine zF h1 ?_
   by_cases h2 : L[i].f0 = t
   ·exact zF ((zax _ _).2 h2) (zah (Ev.now _) (by rw [h1,decide_eq_true h2];rfl))
   ·exact zU (fun h => h2 ((zax _ _).1 h)) (zah (ih (i + 1) (by omega)) (by rw [decide_eq_false h2];simp))
  ·exact zU h1 (zah (ih (i + 1) (by omega)) (by rw [Bool.not_eq_true] at h1;rw [h1];simp))
theorem zfD (n lo : Int) (L : List Ent) (hL : L.length < 1466015503701) (g t : ByteArray) (T : List Bool) (hT : T.length = L.length) (hr : Ev (fun q => zf.f q n lo L g) T) : Ev (fun q => zE.f q n lo L g t) ((List.range' 0 L.length).any fun j => T.getD j false && decide ((L.getD j z34).f0 = t)) :=
 Ev.bind hr (zgG n lo L hL t T hT L.length 0 (by omega))
theorem zde {L : List Ent} {i : Nat} {x : Ent} (h : L[i]? = some x) : L.getD i z34 = x := by rw [List.getD_eq_getElem?_getD,h];rfl
theorem zg8 {L : List Ent} {i k : Nat} {x y : Ent} (hx : L[i]? = some x) (hy : L[k]? = some y) : zdj L i k = true ↔ y.f1.f1 = wrap64 (x.f1.f1 - 1) ∧ y.f0 ∈ x.f1.f3 := by
 unfold zdj
 rw [zde hx,zde hy]
 simp
theorem zhJ {L : List Ent} {i : Nat} (h : i < L.length) : ∃ x,L[i]? = some x := ⟨_,List.getElem?_eq_getElem h⟩
theorem zdr {L : List Ent} {t : Ent} {f : Nat} (hu : zcO L) (hf : L[f]? = some t) {T : List Bool} (hR : zgk L ((List.replicate L.length false).set f true) T) {i : Nat} {x : Ent} (hx : L[i]? = some x) : T.getD i false = true ↔ ∃ k,Rch L t k x := by
 have hfl : f < L.length := (List.getElem?_eq_some_iff.1 hf).1
 constructor
 ·intro h
  have := hR.sound (fun i => ∀ x,L[i]? = some x → ∃ k,Rch L t k x) ?_ ?_ i h
  ·exact this x hx
  ·intro i k hi hl y hy
   rcases Nat.lt_or_ge i L.length with h1 | h1
   ·obtain ⟨z,hz⟩ := zhJ h1
    obtain ⟨m,hm⟩ := hi z hz
    obtain ⟨l1,l2⟩ := (zg8 hz hy).1 hl
    refine ⟨m + 1,List.mem_of_getElem? hy,?_,z,hm,l2⟩
    rw [l1,hm.mem.2];rfl
   ·unfold zdj at hl
    rw [List.getD_eq_getElem?_getD (i := i),List.getElem?_eq_none h1] at hl
    simp [z34] at hl
    have h2 := hl.2
    cases h2
  ·intro i hi y hy
   have hif : i = f := by
    by_cases e : i = f
    ·exact e
    ·rw [zdg e,List.getD_eq_getElem?_getD] at hi
     rw [List.getElem?_replicate] at hi
     split at hi <;> cases hi
   subst hif
   rw [hf] at hy
   injection hy with hy
   subst hy
   exact ⟨0,List.mem_of_getElem? hf,rfl,rfl⟩
 ·rintro ⟨k,hk⟩
  revert i x
  induction k with
  | zero =>
   intro i x hx hk
   obtain rfl := zej hu hx hf hk.2.2
   exact hR.mono _ (zdf (by simpa using hfl))
  | succ k ih =>
   intro i x hx hk
   obtain ⟨hxl,hr,z,hz,hzp⟩ := hk
   obtain ⟨j,hj⟩ := List.mem_iff_getElem?.1 hz.mem.1
   refine hR.shut j i (List.getElem?_eq_some_iff.1 hj).1 (List.getElem?_eq_some_iff.1 hx).1 (ih hj hz) ((zg8 hj hx).2 ⟨?_,hzp⟩)
   rw [hr,hz.mem.2];rfl
theorem zhh {L : List Ent} {t : Ent} {f : Nat} (hu : zcO L) (hf : L[f]? = some t) {T : List Bool} (hR : zgk L ((List.replicate L.length false).set f true) T) (hL : L.length < 1466015503701) (low : Int) : ∀ d i,i + d = L.length → zdK L T low d i = (L.drop i).filter (zd7 (inP L t) low)
 | 0,i,h => by rw [List.drop_eq_nil_of_le (by omega)];rfl
 | d + 1,i,h => by
  have hi : i < L.length := by omega
  have hx : L[i]? = some L[i] := List.getElem?_eq_getElem hi
  rw [zdK,List.drop_eq_getElem_cons hi,List.filter_cons,zde hx,zhh hu hf hR hL low d (i + 1) (by omega)]
  have e1 := zdr hu hf hR hx
  have e2 := outB_iff hu hL (t := t) (lo := low) (List.mem_of_getElem? hx)
  by_cases h : zd7 (inP L t) low L[i] = true
  ·rw [if_pos h,if_pos ⟨e1.2 (e2.1 h).1,(e2.1 h).2⟩]
  ·rw [if_neg h,if_neg (fun hh => h (e2.2 ⟨e1.1 hh.1,hh.2⟩))]
theorem pathT_is {L : List Ent} {t : Ent} {f : Nat} (hu : zcO L) (hf : L[f]? = some t) {T : List Bool} (hR : zgk L ((List.replicate L.length false).set f true) T) (hL : L.length < 1466015503701) (g2 : ByteArray) : ((List.range' 0 L.length).any fun j => T.getD j false && decide ((L.getD j z34).f0 = g2)) = (inP L t g2).isSome := by
 rw [Bool.eq_iff_iff,path_iff hu hL,List.any_eq_true]
 constructor
 ·rintro ⟨j,hj,h⟩
  rw [Bool.and_eq_true,decide_eq_true_eq] at h
  have hjl : j < L.length := by have := List.mem_range'_1.1 hj;omega
  obtain ⟨x,hx⟩ := zhJ hjl
  rw [zde hx] at h
  obtain ⟨k,hk⟩ := (zdr hu hf hR hx).1 h.1
  exact ⟨k,x,hk,h.2⟩
 ·rintro ⟨k,x,hk,he⟩
  obtain ⟨j,hj⟩ := List.mem_iff_getElem?.1 hk.mem.1
  refine ⟨j,List.mem_range'_1.2 ⟨by omega,by have := (List.getElem?_eq_some_iff.1 hj).1;omega⟩,?_⟩
  rw [zde hj,Bool.and_eq_true,decide_eq_true_eq]
  exact ⟨(zdr hu hf hR hj).2 ⟨k,hk⟩,he⟩
theorem find_at {L : List Ent} {f : Nat} {g : ByteArray} {t : Ent} (ht : L[f]? = some t) (he : t.f0 = g) (hn : ∀ i,i < f → (L.getD i z34).f0 ≠ g) : zb7 L g = some t := by
 have hfl := (List.getElem?_eq_some_iff.1 ht).1
 have h2 := (List.getElem?_eq_some_iff.1 ht).2
 unfold zb7
 rw [List.find?_eq_some_iff_getElem]
 refine ⟨decide_eq_true he,f,hfl,h2,fun j hj => ?_⟩
 have := hn j hj
 rw [List.getD_eq_getElem?_getD,List.getElem?_eq_getElem (by omega)] at this
 simpa using this
theorem find_no {L : List Ent} {g : ByteArray} (hn : ∀ i,i < L.length → (L.getD i z34).f0 ≠ g) : zb7 L g = none := by
 unfold zb7
 rw [List.find?_eq_none]
 intro x hx
 obtain ⟨i,hi⟩ := List.mem_iff_getElem?.1 hx
 have := hn i (List.getElem?_eq_some_iff.1 hi).1
 rw [zde hi] at this
 simpa using this
theorem zfw (L : List Ent) (low : Int) : ∀ d i,zdK L (List.replicate L.length false) low d i = []
 | 0,_ => rfl
 | d + 1,i => by
  rw [zdK,if_neg,zfw L low d (i + 1)]
  rintro ⟨h,_⟩
  rw [List.getD_eq_getElem?_getD,List.getElem?_replicate] at h
  split at h <;> cases h
theorem zhS (n j : Nat) : (List.replicate n false).getD j false = false := by
 rw [List.getD_eq_getElem?_getD,List.getElem?_replicate]
 split <;> rfl
theorem pasts_ev (n lo low : Int) (L : List Ent) (hL : L.length < 1466015503701) (hps : ∀ x ∈ L,x.f1.f3.length ≤ 8796093022208) (hu : zcO L) (g g2 : ByteArray) :
  Ev (fun q => zD.f q n lo L g low) (zc2 L g low) ∧ Ev (fun q => zE.f q n lo L g g2) (zd8 L g g2) := by
 rcases zhn n lo L hL hps g with ⟨hn,he⟩ | ⟨f,T,hfl,hfg,hfn,he,hR⟩
 ·have e := find_no hn
  refine ⟨zah (zfC n lo low L hL g _ (by simp) he) ?_,zah (zfD n lo L hL g g2 _ (by simp) he) ?_⟩
  ·unfold zc2;rw [e,zfw]
  ·unfold zd8;rw [e]
   show _ = false
   rw [List.any_eq_false]
   intro j _
   rw [zhS,Bool.false_and]
   exact Bool.false_ne_true
 ·obtain ⟨t,ht⟩ := zhJ hfl
  rw [zde ht] at hfg
  have e := find_at ht hfg hfn
  refine ⟨zah (zfC n lo low L hL g _ hR.len he) ?_,zah (zfD n lo L hL g g2 _ hR.len he) ?_⟩
  ·unfold zc2;rw [e,zhh hu ht hR hL low L.length 0 (by omega),List.drop_zero]
  ·unfold zd8;rw [e,pathT_is hu ht hR hL g2]
end Go.Proofs.Ytndjfdakflaggaa.Px
namespace Go.Proofs.Ytndjfdakflaggaa.Pure
open Go.RowKit Go.Proofs.Ytndjfdakflaggaa.Px Go.Proofs.YtndjfdakflaggaaW.PrintWords Go.Proofs.YtndjfdakflaggaaW.PrintLast Go.Proofs.YtndjfdakflaggaaW.PrintMore
theorem zhF (n lo : Int) (L : List Ent) (n' lo' : Int) (M : List Ent) (hs : ∀ x ∈ L,zhz x) : zbe.f n lo L n' lo' M = some (decide (L = M ∧ n = n' ∧ lo = lo')) := by
 have h0 : L.all zeL = true := List.all_eq_true.2 fun x hx => by
  have h := hs x hx
  unfold zeL zey
  rw [Bool.and_eq_true,List.all_eq_true]
  exact ⟨fun b hb => decide_eq_true (h.tx b hb),decide_eq_true (by have := h.ps;omega)⟩
 unfold zbe.f zaB.f
 rw [if_pos h0]
 by_cases h1 : n = n'
 ·rw [if_pos h1]
  by_cases h2 : lo = lo'
  ·rw [if_pos h2]
   simp [h1,h2]
  ·rw [if_neg h2];simp [h2]
 ·rw [if_neg h1];simp [h1]
theorem zgf (n lo : Int) (L : List Ent) (g g2 : ByteArray) (low n' lo' : Int) (M : List Ent) (hL : L.length < 1466015503701) (hs : ∀ x ∈ L,zhz x) (hu : zcO L) :
  Ev (fun k => (zbd.f n lo L g low).bind fun t368 => ((zD.f k n lo L g low).bind fun t371 => ((zk.f k t368 t371).bind fun t374 => (if t374 = true then ((zaA.f n lo L g g2).bind fun t375 => ((zE.f k n lo L g g2).bind fun t376 => (if (t375 == t376) = true then ((zbe.f n lo L n' lo' M).bind fun t377 => ((zV.f k n lo L n' lo' M).bind fun t378 => (some (t377 == t378)))) else (some false)))) else (some false))))) true := by
 obtain ⟨e1,e2⟩ := pasts_ev n lo low L hL (fun x hx => (hs x hx).ps) hu g g2
 have hsub : ∀ x ∈ zc2 L g low,x ∈ L := by
  intro x hx
  unfold zc2 at hx
  split at hx
  ·exact (List.mem_filter.1 hx).1
  ·cases hx
 have hlen : (zc2 L g low).length ≤ L.length := by
  unfold zc2
  split
  ·exact List.length_filter_le _ _
  ·exact Nat.zero_le _
 refine za6 (show zbd.f n lo L g low = some (zc2 L g low) from if_pos hL) (Ev.bind e1 (Ev.bind (zdL _ _ (by omega) (fun x hx => hs x (hsub x hx))) (zF (by simp) ?_)))
 refine za6 (show zaA.f n lo L g g2 = some (zd8 L g g2) from if_pos hL) (Ev.bind e2 (zF (by simp) ?_))
 refine za6 (zhF n lo L n' lo' M hs) (Ev.bind (zfW n lo L n' lo' M (by omega) hs) (zah (Ev.now _) ?_))
 simp
theorem zgR (n lo : Int) (L : List Ent) (g g2 : ByteArray) (low n' lo' : Int) (M : List Ent) (hL : L.length < 1466015503701) (i : Nat) (hi : i < L.length)
  (hc : (∀ k,k < i → ∀ x y,L[i]? = some x → L[k]? = some y → y.f0 ≠ x.f0) → Ev (fun k => zg.l0 k g g2 low true ((i + 1 : Nat) : Int) n lo L n' lo' M) true) (d : Nat) : ∀ j : Nat,j + d = i → (∀ k,k < j → ∀ x y,L[i]? = some x → L[k]? = some y → y.f0 ≠ x.f0) →
  Ev (fun k => zg.l1 k g g2 low true (i : Int) (j : Int) n lo L n' lo' M) true := by
 induction d with
 | zero =>
  intro j hj hb
  obtain rfl : j = i := by omega
  refine Ev.step (fun k => by rw [zg.l1]) (zU (by omega) ?_)
  rw [zak (x := (j : Int) + 1) (by omega) (by omega)]
  have := hc hb
  simpa using this
 | succ d ih =>
  intro j hj hb
  have hjl : j < L.length := by omega
  refine Ev.step (fun k => by rw [zg.l1]) (zF (by omega) (zF (by omega) (zF (by omega) (zF (by omega) (zF (by omega) ?_)))))
  rw [zaX L i hi,zaX L j hjl,zak (x := (j : Int) + 1) (by omega) (by omega)]
  by_cases he : L[i].f0 = L[j].f0
  ·exact zF ((zax _ _).2 he) (Ev.now _)
  ·refine zU (fun e => he ((zax _ _).1 e)) (ih (j + 1) (by omega) (fun k hk x y hx hy => ?_))
   rcases Nat.lt_succ_iff_lt_or_eq.1 hk with h | h
   ·exact hb k h x y hx hy
   ·subst h
    rw [List.getElem?_eq_getElem hi] at hx
    rw [List.getElem?_eq_getElem hjl] at hy
    injection hx with hx
    injection hy with hy
    rw [← hx,← hy]
    exact fun e => he e.symm
theorem zgQ (n lo : Int) (L : List Ent) (g g2 : ByteArray) (low n' lo' : Int) (M : List Ent) (hL : L.length < 1466015503701) (hs : ∀ x ∈ L,zhz x) (d : Nat) : ∀ i : Nat,i + d = L.length → (∀ j k,j < i → k < j → ∀ x y,L[j]? = some x → L[k]? = some y → y.f0 ≠ x.f0) →
  Ev (fun k => zg.l0 k g g2 low true (i : Int) n lo L n' lo' M) true := by
 induction d with
 | zero =>
  intro i hi hb
  refine Ev.step (fun k => by rw [zg.l0]) (zU (by omega) ?_)
  refine zgf n lo L g g2 low n' lo' M hL hs ?_
  unfold zcO
  rw [List.pairwise_iff_getElem]
  intro a b ha hb' hab
  exact hb b a (by omega) hab _ _ (List.getElem?_eq_getElem hb') (List.getElem?_eq_getElem ha)
 | succ d ih =>
  intro i hi hb
  refine Ev.step (fun k => by rw [zg.l0]) (zF (by omega) ?_)
  refine zgR n lo L g g2 low n' lo' M hL i (by omega) (fun h => ih (i + 1) (by omega) (fun j k hj hk => ?_)) i 0 (by omega) (fun k hk => absurd hk (Nat.not_lt_zero _))
  rcases Nat.lt_succ_iff_lt_or_eq.1 hj with h' | h'
  ·exact hb j k h' hk
  ·subst h'
   exact h k hk
theorem DagPasts : zcq := by
 rintro ⟨⟨n,lo,L⟩,g,g2,low,⟨n',lo',M⟩⟩ _ ⟨⟨_,_,⟨l1,l2⟩⟩,_⟩
 have hL : L.length < 1466015503701 := by have : L.length * 96 ≤ 140737488351232 := l1;omega
 have hs : ∀ x ∈ L,zhz x := fun x hx => by
  obtain ⟨_,_,_,⟨v1,v2⟩,⟨p1,p2⟩,_⟩ := l2 x hx
  have v1' : x.f1.f2.length * 40 ≤ 140737488351232 := v1
  have p1' : x.f1.f3.length * 16 ≤ 140737488351232 := p1
  refine ⟨by omega,fun b hb => ?_,by omega,fun t ht => ?_⟩
  ·obtain ⟨_,_,q1,_⟩ := v2 b hb
   have q1' : b.f2.length * 16 ≤ 140737488351232 := q1
   omega
  ·have t1 : t.size ≤ 140737488351232 := p2 t ht
   omega
 show ∃ k,zg.f k n lo L g g2 low n' lo' M = some true
 refine Ev.rounds (za6 zhZ (za6 rfl (zF rfl ?_)))
 refine Ev.step (fun k => by rw [zg.j0]) ?_
 by_cases hf : (L.length : Int) ≤ 60
 ·exact zU (by simp [hf]) (zgQ n lo L g g2 low n' lo' M hL hs L.length 0 (by omega) (fun j k hj => absurd hj (Nat.not_lt_zero _)))
 ·exact zF (by simp [hf]) (Ev.now _)
end Go.Proofs.Ytndjfdakflaggaa.Pure
namespace Go.Proofs.Ytndjfdakflaggaa.dagPasts
open Go.ChangeShapes Go.WideShapes Go.ChangeAt Go.RowKit
open Go.ChangeMaps (open_string shut_string)
open Go.RowKit Go.Proofs.Ytndjfdakflaggaa.Px Go.Proofs.YtndjfdakflaggaaW.PrintWords Go.Proofs.YtndjfdakflaggaaW.PrintLast Go.Proofs.YtndjfdakflaggaaW.PrintMore
set_option linter.unusedVariables false
theorem own : ownKnob Try.prog.godebug = none := by kernel_rfl
theorem laidOut : laidOutB Try.prog = true := by kernel_rfl
set_option maxRecDepth 100000 in
theorem contract (H : Type) (enc : TypeId × Value → H) (W : World) (base : Nat) (args : Array Value) (ds gs : List (DataW H)) (before : List MemPlace)
  (hval0 : ∀ (j : Nat) t v,Try.f4.params[j]? = some t → args[j]? = some v → Value.okWide Try.prog W .any base t v)
  (hW : DataW.Whole enc Try.prog Try.f4.params.toList Rows.dagPastsSpec.vars false W args.toList ds gs before)
  (hsz0 : (DataW.weightsEach Try.prog (Try.f4.params.toList ++ Rows.dagPastsSpec.plain.varTypes Try.prog) (ds ++ gs)).all (· ≤ reachBytes) = true) :
  Calls Try.prog 4 args W fun e W' => ∃ v,e = .returned v ∧ Rows.dagPastsSpec.post enc Try.prog Try.f4 false true false false W args v W' := by
 have hval : ∀ (j : Nat) t v,Try.f4.params[j]? = some t → args[j]? = some v → Value.okWide Try.prog W .any base t v := hval0
 have hW' := hW
 obtain ⟨p,q,hA0,hV,rfl,hfz,hnd⟩ := hW
 have hA : DataW.TrodAll enc Try.prog W 0 (fun _ => true) true Try.f4.params.toList args.toList ds p := hA0
 have hsz := hsz0
 rw [Try.params4] at hA hval hsz
 obtain ⟨v0,vs0,d0,ds0,p0,q0,hargs,rfl,rfl,h0,r0⟩ := trodAll_cons hA
 obtain ⟨rfl,rfl,rfl⟩ := trodAll_nil r0
 obtain rfl : args = #[v0] := by cases args;simp_all
 obtain ⟨rfl,rfl⟩ := trodVars_none hV
 have t0 := h0
 have lt0 : ∀ x ∈ p0,x.block < W.heap.size := by obtain ⟨m,hm⟩ := t0;exact DataW.trod_lt m _ _ _ hm
 obtain ⟨a0,K0,ok0,wt0,bk0⟩ := fit_arg fit42 h0
 have wq0 := wt0 (fun n hn => of_decide_eq_true (List.all_eq_true.1 hsz n (DataW.weights_mem_each (j := 0) (t := rd42.t) (d := d0) rfl rfl n hn)))
 obtain ⟨cs0,rfl,sz0⟩ := okWide_struct Try.underlying42 (hval 0 42 v0 rfl rfl)
 obtain ⟨A0_0_2,c0_0_2,A0_4_2,c0_4_2,e0,l0_0_2,g0_0_2,l0_4_2,g0_4_2⟩ := k42_open (show k42.K W a0 _ from K0)
 obtain rfl : cs0 = #[.int .i64 a0.f0.f0,.int .i64 a0.f0.f1,.slice A0_0_2 a0.f0.f2.length c0_0_2,.string a0.f1,.string a0.f2,.int .i64 a0.f3,.int .i64 a0.f4.f0,.int .i64 a0.f4.f1,.slice A0_4_2 a0.f4.f2.length c0_4_2] := by have := congrArg List.toArray e0;simpa [Value.cells] using this
 obtain ⟨kk,hkk⟩ := Pure.DagPasts a0 ok0 wq0
 refine (zg.calls kk (a0.f0.f0) (a0.f0.f1) A0_0_2 c0_0_2 (a0.f0.f2) (a0.f1) (a0.f2) (a0.f3) (a0.f4.f0) (a0.f4.f1) A0_4_2 c0_4_2 (a0.f4.f2) true W g0_0_2 l0_0_2 g0_4_2 l0_4_2 hkk).mono fun e W' ⟨he,bel0⟩ => ?_
 have bel := bel0
 subst he
 exact ⟨_,rfl,_,_,_,[],_,[],hW',trodAll_mk1 (shut_bool Try.underlying4 _),(trodAll_cons_mk (Below.trod laidOut (by kernel_rfl) (of_decide_eq_true (by kernel_rfl)) t0 bel lt0) trodAll_mk0),rfl,bel.frame _,fun h => by cases h⟩
set_option maxRecDepth 100000 in
theorem lifted (os : Os) (started : os.Started) (H : Type) (enc : TypeId × Value → H) :
  ReturnsInHanded {} Try.checked os 4 .any (Rows.dagPastsSpec.pre6 enc Try.prog Try.f4 Rows.dagPastsRow.domain false) (Rows.dagPastsSpec.post enc Try.prog Try.f4 false true false false) := by
 refine returnsInHanded_of_change_sized (C := Try.checked) own started (by kernel_rfl) Try.func4
  (ChangeSpec.witness6 (enc := enc) (C := Try.checked) false ⟨#[],#[.agg #[.int .i64 0,.int .i64 0,.slice none 0 0,.string ByteArray.empty,.string ByteArray.empty,.int .i64 0,.int .i64 0,.int .i64 0,.slice none 0 0]],[]⟩ 8 (by kernel_rfl) (by kernel_rfl) (by kernel_rfl) (by kernel_rfl)) ?_
 intro W base args ds gs before hval hW _ hsz _
 exact contract H enc W base args ds gs before hval hW hsz
theorem proved : Rows.DagPastsSaid :=
 OpenClaim.holds_of_wide 4 Try.f4 rfl rfl rfl rfl rfl rfl rfl ⟨rfl,rfl,rfl,rfl,rfl⟩ rfl rfl rfl rfl rfl (by kernel_rfl) Try.func4 (by kernel_rfl)
  (of_decide_eq_true (by kernel_rfl)) (by unfold Func.isWrapper;first | (rw [if_pos (by decide +kernel)];kernel_rfl) | (rw [if_neg (by decide +kernel)];exact ⟨rfl,rfl⟩))
  (fun os started H enc _ => lifted os started H enc)
#print axioms proved
end Go.Proofs.Ytndjfdakflaggaa.dagPasts
namespace Go.Proofs.Ytndjfdakflaggaa
theorem dagPasts_holds : Rows.DagPastsSaid := dagPasts.proved
end Go.Proofs.Ytndjfdakflaggaa