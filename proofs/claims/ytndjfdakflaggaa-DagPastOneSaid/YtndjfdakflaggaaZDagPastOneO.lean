/- Part 15 of 15 of the proof of the law DagPastOne: what is proved is the statement at the end of the last part; its conditions are those of the given row. -/
import Derived.ProofKit
import Derived.OpenShut
import Derived.ShutString
import Derived.ChangeOld
import Derived.JoinedCond
import Derived.Carry
import Derived.WideShapes
import Derived.Test.YtndjfdakflaggaaZDagPastOneN
namespace Go.Proofs.Ytndjfdakflaggaa.Px
open Go.RowKit Go.Proofs.YtndjfdakflaggaaW.PrintWords Go.Proofs.YtndjfdakflaggaaW.PrintLast Go.Proofs.YtndjfdakflaggaaW.PrintMore
attribute [local go_sem] zC zE zI zJ zu zv zD zF
set_option linter.unusedVariables false
set_option linter.unusedSimpArgs false
def zey (L : List Ent) : Prop := L.Pairwise fun x y => x.f0 ≠ y.f0
theorem zgZ : ∀ {L : List Ent},zey L → ∀ {i j : Nat} {x y : Ent},L[i]? = some x → L[j]? = some y → x.f0 = y.f0 → i = j
 | [],_,i,j,x,y,hx,_,_ => by simp at hx
 | a :: L,h,i,j,x,y,hx,hy,he => by
  have h1 := List.pairwise_cons.1 h
  rcases i with _ | i <;> rcases j with _ | j
  ·rfl
  ·rw [List.getElem?_cons_zero] at hx
   rw [List.getElem?_cons_succ] at hy
   injection hx with hx;subst hx
   exact absurd he (h1.1 y (List.mem_of_getElem? hy))
  ·rw [List.getElem?_cons_succ] at hx
   rw [List.getElem?_cons_zero] at hy
   injection hy with hy;subst hy
   exact absurd he.symm (h1.1 x (List.mem_of_getElem? hx))
  ·rw [List.getElem?_cons_succ] at hx hy
   rw [zgZ h1.2 hx hy he]
theorem zhS {L : List Ent} (h : zey L) {x y : Ent} (hx : x ∈ L) (hy : y ∈ L) (he : x.f0 = y.f0) : x = y := by
 obtain ⟨i,hi⟩ := List.mem_iff_getElem?.1 hx
 obtain ⟨j,hj⟩ := List.mem_iff_getElem?.1 hy
 have := zgZ h hi hj he
 subst this
 rw [hi] at hj
 exact Option.some.inj hj
theorem zdb {L : List Ent} {r : Int} {k : Nat} {x : Ent} : x ∈ zb2 L r k ↔ x ∈ L ∧ x.f1.f1 = zcc r k := by
 unfold zb2 zcb
 rw [List.mem_filter,decide_eq_true_eq]
theorem zg3 {L : List Ent} (h : zey L) (r : Int) (k : Nat) : zey (zb2 L r k) := List.Pairwise.filter _ h
theorem okPt_cut (r0 : Int) (g : ByteArray) (r : Int) (W : ByteArray → Bool) (x z : Ent) (h : z.f0 ≠ x.f0) : zdc r0 g r (fun y => if y = x.f0 then false else W y) z = zdc r0 g r W z := by
 unfold zdc
 dsimp only
 rw [if_neg h]
theorem zgc (r0 : Int) (g : ByteArray) (r : Int) : ∀ (l : List Ent) (s : StP × (ByteArray → Bool)),zey l →
  (∀ y,(∃ x ∈ l,x.f0 = y ∧ zdc r0 g r s.1.2 x = true) → (l.foldl (zbB r0 g r) s).1.1 y = some r) ∧
  (∀ y,(¬ ∃ x ∈ l,x.f0 = y ∧ zdc r0 g r s.1.2 x = true) → (l.foldl (zbB r0 g r) s).1.1 y = s.1.1 y) ∧
  (∀ y,(l.foldl (zbB r0 g r) s).2 y = true ↔ s.2 y = true ∨ ∃ x ∈ l,zdc r0 g r s.1.2 x = true ∧ y ∈ x.f1.f3)
 | [],s,_ => ⟨fun y ⟨x,hx,_⟩ => (by cases hx),fun y _ => rfl,fun y => ⟨.inl,fun h => h.elim id (fun ⟨x,hx,_⟩ => (by cases hx))⟩⟩
 | a :: l,s,h => by
  have h1 := List.pairwise_cons.1 h
  rw [List.foldl_cons]
  obtain ⟨i1,i2,i3⟩ := zgc r0 g r l (zbB r0 g r s a) h1.2
  by_cases ha : zdc r0 g r s.1.2 a = true
  ·have e : zbB r0 g r s a = ((fun y => if y = a.f0 then some r else s.1.1 y,fun y => if y = a.f0 then false else s.1.2 y),fun y => s.2 y || a.f1.f3.any fun p => decide (p = y)) := if_pos ha
   have e2 : ∀ z ∈ l,zdc r0 g r (zbB r0 g r s a).1.2 z = zdc r0 g r s.1.2 z := fun z hz => by rw [e];exact okPt_cut _ _ _ _ _ _ (fun hc => h1.1 z hz hc.symm)
   refine ⟨fun y hy => ?_,fun y hy => ?_,fun y => ?_⟩
   ·obtain ⟨x,hx,hxy,hxo⟩ := hy
    rcases List.mem_cons.1 hx with rfl | hx
    ·rw [i2 y (fun ⟨z,hz,hzy,_⟩ => h1.1 z hz (hxy.trans hzy.symm)),e]
     exact if_pos hxy.symm
    ·exact i1 y ⟨x,hx,hxy,by rw [e2 x hx];exact hxo⟩
   ·rw [i2 y (fun ⟨z,hz,hzy,hzo⟩ => hy ⟨z,List.mem_cons_of_mem _ hz,hzy,by rw [← e2 z hz];exact hzo⟩),e]
    exact if_neg (fun hc => hy ⟨a,List.mem_cons_self,hc.symm,ha⟩)
   ·rw [i3 y,e]
    simp only [Bool.or_eq_true,List.any_eq_true,decide_eq_true_eq]
    constructor
    ·rintro ((hs | ⟨p,hp,rfl⟩) | ⟨x,hx,hxo,hxy⟩)
     ·exact .inl hs
     ·exact .inr ⟨a,List.mem_cons_self,ha,hp⟩
     ·exact .inr ⟨x,List.mem_cons_of_mem _ hx,by rw [← e2 x hx,e];exact hxo,hxy⟩
    ·rintro (hs | ⟨x,hx,hxo,hxy⟩)
     ·exact .inl (.inl hs)
     ·rcases List.mem_cons.1 hx with rfl | hx
      ·exact .inl (.inr ⟨y,hxy,rfl⟩)
      ·exact .inr ⟨x,hx,by rw [← e2 x hx,e] at hxo;exact hxo,hxy⟩
  ·have e : zbB r0 g r s a = s := if_neg ha
   rw [e] at i1 i2 i3 ⊢
   refine ⟨fun y hy => ?_,fun y hy => ?_,fun y => ?_⟩
   ·obtain ⟨x,hx,hxy,hxo⟩ := hy
    rcases List.mem_cons.1 hx with rfl | hx
    ·exact absurd hxo ha
    ·exact i1 y ⟨x,hx,hxy,hxo⟩
   ·exact i2 y (fun ⟨z,hz,hh⟩ => hy ⟨z,List.mem_cons_of_mem _ hz,hh⟩)
   ·rw [i3 y]
    constructor
    ·rintro (hs | ⟨x,hx,hh⟩)
     ·exact .inl hs
     ·exact .inr ⟨x,List.mem_cons_of_mem _ hx,hh⟩
    ·rintro (hs | ⟨x,hx,hxo,hxy⟩)
     ·exact .inl hs
     ·rcases List.mem_cons.1 hx with rfl | hx
      ·exact absurd hxo ha
      ·exact .inr ⟨x,hx,hxo,hxy⟩
def Rch (L : List Ent) (t : Ent) : Nat → Ent → Prop
 | 0,x => x ∈ L ∧ x.f1.f1 = t.f1.f1 ∧ x.f0 = t.f0
 | k + 1,x => x ∈ L ∧ x.f1.f1 = zcc t.f1.f1 (k + 1) ∧ ∃ z,Rch L t k z ∧ x.f0 ∈ z.f1.f3
theorem Rch.mem {L : List Ent} {t x : Ent} : ∀ {k : Nat},Rch L t k x → x ∈ L ∧ x.f1.f1 = zcc t.f1.f1 k
 | 0,h => ⟨h.1,h.2.1⟩
 | _ + 1,h => ⟨h.1,h.2.1⟩
theorem Rch.low {L : List Ent} {t x : Ent} : ∀ {k : Nat},Rch L t k x → ∀ j,j ≤ k → zb2 L t.f1.f1 j ≠ []
 | 0,h,j,hj => by
  obtain rfl : j = 0 := by omega
  exact List.ne_nil_of_mem (zdb.2 h.mem)
 | k + 1,h,j,hj => by
  by_cases he : j = k + 1
  ·subst he
   exact List.ne_nil_of_mem (zdb.2 h.mem)
  ·obtain ⟨_,_,z,hz,_⟩ := h
   exact hz.low j (by omega)
theorem Rch.lt {L : List Ent} {t x : Ent} {k : Nat} (h : Rch L t k x) (hL : L.length < 1466015503701) : k < zdu L t.f1.f1 := by
 have h2 := (zeo L t.f1.f1 hL).2
 rcases Nat.lt_or_ge k (zdu L t.f1.f1) with h3 | h3
 ·exact h3
 ·exact absurd h2 (h.low _ h3)
theorem topK_few {L : List Ent} {t : Ent} (hL : L.length < 1466015503701) : zdu L t.f1.f1 ≤ L.length := zh4 L t.f1.f1 _ (by
 have : zdu L t.f1.f1 ≤ L.length + 1 := by
  unfold zdu
  have key : ∀ d k,zh5 L t.f1.f1 d k ≤ k + d := by
   intro d
   induction d with
   | zero => intro k;exact Nat.le_refl _
   | succ d ih =>
    intro k
    unfold zh5
    split
    ·omega
    ·have := ih (k + 1);omega
  have := key (L.length + 1) 0
  omega
 omega) (zeo L t.f1.f1 hL).1
theorem ok_is {L : List Ent} {t : Ent} (hL : L.length < 1466015503701) {k : Nat} (hk : k < zdu L t.f1.f1) {x : Ent} : zdc t.f1.f1 t.f0 (zcc t.f1.f1 k) (zbv L t.f1.f1 t.f0 k).2 x = (zbv L t.f1.f1 t.f0 k).2 x.f0 := by
 unfold zdc
 rcases k with _ | k
 ·show (decide (x.f0 = t.f0) && !(decide (t.f1.f1 = t.f1.f1) && decide (x.f0 ≠ t.f0))) = decide (x.f0 = t.f0)
  by_cases h : x.f0 = t.f0 <;> simp [h]
 ·have := topK_few (t := t) hL
  have hne : ¬ zcc t.f1.f1 (k + 1) = t.f1.f1 := fun e => rndK_ne t.f1.f1 (i := 0) (j := k + 1) (by omega) (by omega) e.symm
  rw [decide_eq_false hne,Bool.false_and,Bool.not_false,Bool.and_true]
theorem zhP {L : List Ent} {t : Ent} (hu : zey L) (hL : L.length < 1466015503701) : ∀ {k : Nat},k < zdu L t.f1.f1 → ∀ x ∈ zb2 L t.f1.f1 k,((zbv L t.f1.f1 t.f0 k).2 x.f0 = true ↔ Rch L t k x)
 | 0,_,x,hx => by
  have hm := zdb.1 hx
  show decide (x.f0 = t.f0) = true ↔ _
  rw [decide_eq_true_eq]
  exact ⟨fun h => ⟨hm.1,hm.2,h⟩,fun h => h.2.2⟩
 | k + 1,hk,x,hx => by
  have hm := zdb.1 hx
  have hf := (zgc t.f1.f1 t.f0 (zcc t.f1.f1 k) (zb2 L t.f1.f1 k) (zbv L t.f1.f1 t.f0 k,fun _ => false) (zg3 hu _ _)).2.2 x.f0
  have ih := zhP hu hL (t := t) (k := k) (by omega)
  show ((zb2 L t.f1.f1 k).foldl (zbB t.f1.f1 t.f0 (zcc t.f1.f1 k)) (zbv L t.f1.f1 t.f0 k,fun _ => false)).2 x.f0 = true ↔ _
  rw [hf]
  constructor
  ·rintro (h | ⟨z,hz,hzo,hzp⟩)
   ·cases h
   ·rw [show zdc t.f1.f1 t.f0 (zcc t.f1.f1 k) (zbv L t.f1.f1 t.f0 k,fun _ => false).1.2 z = _ from ok_is hL (by omega)] at hzo
    exact ⟨hm.1,hm.2,z,(ih z hz).1 hzo,hzp⟩
  ·rintro ⟨_,_,z,hz,hzp⟩
   have hzl := zdb.2 hz.mem
   exact .inr ⟨z,hzl,by rw [show zdc t.f1.f1 t.f0 (zcc t.f1.f1 k) (zbv L t.f1.f1 t.f0 k,fun _ => false).1.2 z = _ from ok_is hL (by omega)];exact (ih z hzl).2 hz,hzp⟩
theorem in_step {L : List Ent} {t : Ent} (hu : zey L) (hL : L.length < 1466015503701) {k : Nat} (hk : k < zdu L t.f1.f1) (y : ByteArray) :
  ((∃ x,Rch L t k x ∧ x.f0 = y) → (zbv L t.f1.f1 t.f0 (k + 1)).1 y = some (zcc t.f1.f1 k)) ∧ ((¬ ∃ x,Rch L t k x ∧ x.f0 = y) → (zbv L t.f1.f1 t.f0 (k + 1)).1 y = (zbv L t.f1.f1 t.f0 k).1 y) := by
 obtain ⟨h1,h2,_⟩ := zgc t.f1.f1 t.f0 (zcc t.f1.f1 k) (zb2 L t.f1.f1 k) (zbv L t.f1.f1 t.f0 k,fun _ => false) (zg3 hu _ _)
 refine ⟨fun ⟨x,hx,hy⟩ => h1 y ⟨x,zdb.2 hx.mem,hy,?_⟩,fun h => h2 y (fun ⟨x,hx,hy,ho⟩ => h ⟨x,?_,hy⟩)⟩
 ·rw [show zdc t.f1.f1 t.f0 (zcc t.f1.f1 k) (zbv L t.f1.f1 t.f0 k,fun _ => false).1.2 x = _ from ok_is hL hk]
  exact (zhP hu hL hk x (zdb.2 hx.mem)).2 hx
 ·rw [show zdc t.f1.f1 t.f0 (zcc t.f1.f1 k) (zbv L t.f1.f1 t.f0 k,fun _ => false).1.2 x = _ from ok_is hL hk] at ho
  exact (zhP hu hL hk x hx).1 ho
theorem in_upto {L : List Ent} {t : Ent} (hu : zey L) (hL : L.length < 1466015503701) (y : ByteArray) (q : Int) : ∀ m,m ≤ zdu L t.f1.f1 → ((zbv L t.f1.f1 t.f0 m).1 y = some q ↔ ∃ k x,k < m ∧ Rch L t k x ∧ x.f0 = y ∧ q = x.f1.f1)
 | 0,_ => ⟨fun h => (by cases h),fun ⟨k,_,hk,_⟩ => (by omega)⟩
 | m + 1,hm => by
  have ih := in_upto hu hL (t := t) y q m (by omega)
  obtain ⟨s1,s2⟩ := in_step hu hL (t := t) (k := m) (by omega) y
  by_cases hx : ∃ x,Rch L t m x ∧ x.f0 = y
  ·rw [s1 hx]
   obtain ⟨x,hr,hy⟩ := hx
   constructor
   ·intro h
    injection h with h
    exact ⟨m,x,by omega,hr,hy,by rw [← h,hr.mem.2]⟩
   ·rintro ⟨k,z,hk,hz,hzy,rfl⟩
    have e := zhS hu hz.mem.1 hr.mem.1 (hzy.trans hy.symm)
    rw [e,hr.mem.2]
  ·rw [s2 hx,ih]
   constructor
   ·rintro ⟨k,z,hk,h⟩
    exact ⟨k,z,by omega,h⟩
   ·rintro ⟨k,z,hk,hz,hzy,hq⟩
    have : k ≠ m := fun e => by subst e;exact hx ⟨z,hz,hzy⟩
    exact ⟨k,z,by omega,hz,hzy,hq⟩
theorem inP_iff {L : List Ent} {t : Ent} (hu : zey L) (hL : L.length < 1466015503701) (y : ByteArray) (q : Int) : inP L t y = some q ↔ ∃ k x,Rch L t k x ∧ x.f0 = y ∧ q = x.f1.f1 := by
 unfold inP
 rw [in_upto hu hL y q _ (Nat.le_refl _)]
 constructor
 ·rintro ⟨k,x,_,h⟩;exact ⟨k,x,h⟩
 ·rintro ⟨k,x,h,h2⟩;exact ⟨k,x,h.lt hL,h,h2⟩
theorem zeR {L : List Ent} {t : Ent} (hu : zey L) (hL : L.length < 1466015503701) {lo : Int} {x : Ent} (hx : x ∈ L) : zeQ (inP L t) lo x = true ↔ (∃ k,Rch L t k x) ∧ lo < x.f1.f1 := by
 unfold zeQ
 constructor
 ·intro h
  rcases hq : inP L t x.f0 with _ | q
  ·rw [hq] at h;cases h
  ·rw [hq] at h
   obtain ⟨k,z,hz,hzy,rfl⟩ := (inP_iff hu hL _ _).1 hq
   have e := zhS hu hz.mem.1 hx hzy
   subst e
   simp only [Bool.and_eq_true,decide_eq_true_eq] at h
   exact ⟨⟨k,hz⟩,h.2⟩
 ·rintro ⟨⟨k,hk⟩,hlo⟩
  rw [(inP_iff hu hL x.f0 x.f1.f1).2 ⟨k,x,hk,rfl,rfl⟩]
  simp [hlo]
end Go.Proofs.Ytndjfdakflaggaa.Px
namespace Go.Proofs.Ytndjfdakflaggaa.Px
open Go.RowKit Go.Proofs.YtndjfdakflaggaaW.PrintWords Go.Proofs.YtndjfdakflaggaaW.PrintLast Go.Proofs.YtndjfdakflaggaaW.PrintMore
attribute [local go_sem] zC zE zI zJ zu zv zD zF
set_option linter.unusedVariables false
set_option linter.unusedSimpArgs false
theorem lackE_has {L : List Ent} {low r : Int} {ps : List ByteArray} (h : (zbM L low r ps).length = 0) (hr : ¬ wrap64 (r - 1) ≤ low) {p : ByteArray} (hp : p ∈ ps) : ∃ y ∈ L,y.f1.f1 = wrap64 (r - 1) ∧ y.f0 = p := by
 unfold zbM at h
 rw [if_neg hr] at h
 have h2 := List.eq_nil_of_length_eq_zero h
 rw [List.filter_eq_nil_iff] at h2
 have h3 := h2 p hp
 simpa using h3
theorem ziz {x y : Ent} (h0 : x.f0 = y.f0) (h1 : x.f1 = y.f1) : x = y := by
 obtain ⟨x0,x1⟩ := x;obtain ⟨y0,y1⟩ := y
 simp only at h0 h1
 rw [h0,h1]
theorem zfz {n lo : Int} {L : List Ent} (h : zbf n lo L = true) (hun : ∀ x y,x ∈ L → y ∈ L → x.f0 = y.f0 → x.f1 = y.f1) : zey L := by
 have hs := zeF h
 refine List.Pairwise.imp_of_mem (fun {x y} hx hy hxy he => ?_) hs
 have := zci.1 hxy
 rw [hun x y hx hy he] at this
 omega
theorem zgn {n lo1 lo2 low : Int} {A B : List Ent} {t : Ent} (hA : zbf n lo1 A = true) (hB : zbf n lo2 B = true) (hun : ∀ x y,x ∈ A → y ∈ B → x.f0 = y.f0 → x.f1 = y.f1) (ht : t ∈ B) (h1 : lo1 ≤ low) (h2 : lo2 ≤ low) :
  ∀ k x,Rch A t k x → low < x.f1.f1 → Rch B t k x
 | 0,x,h,_ => by
  obtain rfl : x = t := ziz h.2.2 (hun x t h.1 ht h.2.2)
  exact ⟨ht,rfl,rfl⟩
 | k + 1,x,h,hl => by
  obtain ⟨hx,hr,z,hz,hp⟩ := h
  have hz1 := ziW hA z hz.mem.1
  have h0 := (zek hA).2.1
  have hrz : x.f1.f1 = wrap64 (z.f1.f1 - 1) := by rw [hr,hz.mem.2];rfl
  have hle : x.f1.f1 ≤ z.f1.f1 - 1 := by rw [hrz];unfold wrap64;omega
  have hzB := zgn hA hB hun ht h1 h2 k z hz (by omega)
  obtain ⟨i,hi⟩ := List.mem_iff_getElem?.1 hzB.mem.1
  have hok := zhr.1 ((zek hB).2.2 i (List.getElem?_eq_some_iff.1 hi).1)
  rw [(List.getElem?_eq_some_iff.1 hi).2] at hok
  obtain ⟨y,hy,hyr,hyp⟩ := lackE_has hok.2.2.2.1 (by rw [← hrz];omega) hp
  obtain rfl : x = y := ziz hyp.symm (hun x y hx hy hyp.symm)
  exact ⟨hy,hr,z,hzB,hp⟩
theorem past_one {n lo1 lo2 low : Int} {A B : List Ent} (g : ByteArray) (hA : zbf n lo1 A = true) (hB : zbf n lo2 B = true) (hLA : A.length < 1466015503701) (hLB : B.length < 1466015503701)
  (hun : ∀ x y,x ∈ A ++ B → y ∈ A ++ B → x.f0 = y.f0 → x.f1 = y.f1) (h1 : lo1 ≤ low) (h2 : lo2 ≤ low) (ha : (zcY A g).isSome = true) (hb : (zcY B g).isSome = true) : zcz A g low = zcz B g low := by
 obtain ⟨t,hta⟩ := Option.isSome_iff_exists.1 ha
 obtain ⟨t',htb⟩ := Option.isSome_iff_exists.1 hb
 have mA := List.mem_of_find?_eq_some hta
 have mB := List.mem_of_find?_eq_some htb
 have gA : t.f0 = g := of_decide_eq_true (List.find?_some (p := fun x : Ent => decide (x.f0 = g)) hta)
 have gB : t'.f0 = g := of_decide_eq_true (List.find?_some (p := fun x : Ent => decide (x.f0 = g)) htb)
 obtain rfl : t = t' := ziz (gA.trans gB.symm) (hun _ _ (List.mem_append_left _ mA) (List.mem_append_right _ mB) (gA.trans gB.symm))
 have uA := zfz hA (fun x y hx hy => hun x y (List.mem_append_left _ hx) (List.mem_append_left _ hy))
 have uB := zfz hB (fun x y hx hy => hun x y (List.mem_append_right _ hx) (List.mem_append_right _ hy))
 have eA : zcz A g low = A.filter (zeQ (inP A t) low) := by unfold zcz;rw [hta]
 have eB : zcz B g low = B.filter (zeQ (inP B t) low) := by unfold zcz;rw [htb]
 rw [eA,eB]
 refine zhH (List.Pairwise.filter _ (zeF hA)) (List.Pairwise.filter _ (zeF hB)) (fun x => ?_)
 rw [List.mem_filter,List.mem_filter]
 constructor
 ·rintro ⟨hx,ho⟩
  obtain ⟨⟨k,hk⟩,hl⟩ := (zeR uA hLA hx).1 ho
  have := zgn hA hB (fun x y hx hy => hun x y (List.mem_append_left _ hx) (List.mem_append_right _ hy)) mB h1 h2 k x hk hl
  exact ⟨this.mem.1,(zeR uB hLB this.mem.1).2 ⟨⟨k,this⟩,hl⟩⟩
 ·rintro ⟨hx,ho⟩
  obtain ⟨⟨k,hk⟩,hl⟩ := (zeR uB hLB hx).1 ho
  have := zgn hB hA (fun x y hx hy => hun x y (List.mem_append_right _ hx) (List.mem_append_left _ hy)) mA h2 h1 k x hk hl
  exact ⟨this.mem.1,(zeR uA hLA this.mem.1).2 ⟨⟨k,this⟩,hl⟩⟩
theorem ziI {x y : Ent} (h : zdE x y = true) (he : x.f0 = y.f0) : x.f1 = y.f1 := by
 unfold zdE at h
 rw [decide_eq_true he,Bool.not_true,Bool.false_or,zcC] at h
 obtain ⟨x0,⟨p1,p2,p3,p4,⟨p5,p6⟩⟩⟩ := x
 obtain ⟨y0,⟨q1,q2,q3,q4,⟨q5,q6⟩⟩⟩ := y
 obtain ⟨h1,h2,h3,h4,h5,h6⟩ := h
 simp only at h1 h2 h3 h4 h5 h6
 rw [h1,h2,h3,h4,h5,h6]
theorem zhK {M : List Ent} (h : zc4 M = true) : ∀ x y : Ent,x ∈ M → y ∈ M → x.f0 = y.f0 → x.f1 = y.f1 := by
 intro x y hx hy he
 have get : ∀ (i : Nat) (z : Ent),M[i]? = some z → M.getD i z34 = z := fun i z hz => by rw [List.getD_eq_getElem?_getD,hz];rfl
 have key : ∀ (i j : Nat) (x y : Ent),M[i]? = some x → M[j]? = some y → j < i → x.f0 = y.f0 → x.f1 = y.f1 := fun i j x y hx hy hj he => by
  unfold zc4 at h
  have h1 := List.all_eq_true.1 h i (List.mem_range.2 (List.getElem?_eq_some_iff.1 hx).1)
  have h2 := List.all_eq_true.1 h1 j (List.mem_range.2 hj)
  rw [get i x hx,get j y hy] at h2
  exact ziI h2 he
 obtain ⟨i,hi⟩ := List.mem_iff_getElem?.1 hx
 obtain ⟨j,hj⟩ := List.mem_iff_getElem?.1 hy
 rcases Nat.lt_trichotomy i j with hh | hh | hh
 ·exact (key j i y x hj hi hh he.symm).symm
 ·subst hh
  rw [hi] at hj
  injection hj with hj
  rw [hj]
 ·exact key i j x y hi hj hh he
theorem unlike_ev (n lo : Int) (A : List Ent) (n' lo' : Int) (B : List Ent) (hA : A.length ≤ 60) (hB : B.length ≤ 60) (hs : ∀ x ∈ A,zhc x) (hs' : ∀ x ∈ B,zhc x) :
  ∃ u,zA.f n lo A n' lo' B = some u ∧ (u = true → ∀ x y : Ent,x ∈ A ++ B → y ∈ A ++ B → x.f0 = y.f0 → x.f1 = y.f1) := by
 refine ⟨zc4 (A ++ B),if_pos ⟨hA,hB,List.all_eq_true.2 fun x hx => ?_⟩,zhK⟩
 have h := (List.mem_append.1 hx).elim (hs x) (hs' x)
 unfold fitU
 rw [Bool.and_eq_true,Bool.and_eq_true,List.all_eq_true]
 exact ⟨⟨decide_eq_true h.bs,fun b hb => decide_eq_true (h.tx b hb)⟩,decide_eq_true h.ps⟩
end Go.Proofs.Ytndjfdakflaggaa.Px
namespace Go.Proofs.Ytndjfdakflaggaa.Pure
open Go.RowKit Go.Proofs.Ytndjfdakflaggaa.Px Go.Proofs.YtndjfdakflaggaaW.PrintWords Go.Proofs.YtndjfdakflaggaaW.PrintLast Go.Proofs.YtndjfdakflaggaaW.PrintMore
theorem zgH (n lo : Int) (A : List Ent) (n' lo' : Int) (B : List Ent) (g : ByteArray) (hA : A.length ≤ 60) (hB : B.length ≤ 60) (hs : ∀ x ∈ A,zhc x) (he : ∀ low,lo ≤ low → lo' ≤ low → zcz A g low = zcz B g low) : Ev (fun k => ze.j1 k g true false n lo A n' lo' B) true := by
 have hsub : ∀ low,∀ x ∈ zcz A g low,x ∈ A := by
  intro low x hx
  unfold zcz at hx
  split at hx
  ·exact (List.mem_filter.1 hx).1
  ·cases hx
 have hlen : ∀ low,(zcz A g low).length ≤ A.length := by
  intro low
  unfold zcz
  split
  ·exact List.length_filter_le _ _
  ·exact Nat.zero_le _
 have go : ∀ low,lo ≤ low → lo' ≤ low → Ev (fun k => (zaI.f n lo A g low).bind fun ya => ((zaI.f n' lo' B g low).bind fun yb => ((zo.f k ya yb).bind fun yc => (some yc)))) true := fun low h1 h2 => by
  refine zak (show zaI.f n lo A g low = some (zcz A g low) from if_pos (by omega)) (zak (show zaI.f n' lo' B g low = some (zcz B g low) from if_pos (by omega)) ?_)
  refine Ev.bind (zgN _ _ (by have := hlen low;omega) (fun x hx => hs x (hsub low x hx))) (z4 (Ev.now _) ?_)
  rw [he low h1 h2];simp
 refine Ev.step (fun k => by rw [ze.j1]) (zQ (by simp) ?_)
 by_cases h : lo' > lo
 ·exact zG h (go lo' (by omega) (by omega))
 ·exact zQ h (go lo (by omega) (by omega))
theorem DagPastOne : zcJ := by
 rintro ⟨n,lo,A⟩ ⟨n',lo',B⟩ g _ _ _ ⟨_,_,⟨l1,l2⟩⟩ ⟨_,_,⟨m1,m2⟩⟩ _
 have hs : ∀ x ∈ A,zhc x := fun x hx => by
  obtain ⟨_,_,_,⟨v1,v2⟩,⟨p1,p2⟩,_⟩ := l2 x hx
  have v1' : x.f1.f2.length * 40 ≤ 140737488351232 := v1
  have p1' : x.f1.f3.length * 16 ≤ 140737488351232 := p1
  refine ⟨by omega,fun b hb => ?_,by omega,fun t ht => ?_⟩
  ·obtain ⟨_,_,q1,_⟩ := v2 b hb
   have q1' : b.f2.length * 16 ≤ 140737488351232 := q1
   omega
  ·have t1 : t.size ≤ 140737488351232 := p2 t ht
   omega
 have hs' : ∀ x ∈ B,zhc x := fun x hx => by
  obtain ⟨_,_,_,⟨v1,v2⟩,⟨p1,p2⟩,_⟩ := m2 x hx
  have v1' : x.f1.f2.length * 40 ≤ 140737488351232 := v1
  have p1' : x.f1.f3.length * 16 ≤ 140737488351232 := p1
  refine ⟨by omega,fun b hb => ?_,by omega,fun t ht => ?_⟩
  ·obtain ⟨_,_,q1,_⟩ := v2 b hb
   have q1' : b.f2.length * 16 ≤ 140737488351232 := q1
   omega
  ·have t1 : t.size ≤ 140737488351232 := p2 t ht
   omega
 show ∃ k,ze.f k n lo A n' lo' B g = some true
 have out : ∀ (n lo : Int) (A : List Ent) (n' lo' : Int) (B : List Ent),Ev (fun k => ze.j0 k g true true n lo A n' lo' B) true := fun n lo A n' lo' B =>
  Ev.step (fun k => by rw [ze.j0]) (zG rfl (Ev.now _))
 have out1 : Ev (fun k => ze.j1 k g true true n lo A n' lo' B) true := Ev.step (fun k => by rw [ze.j1]) (zG rfl (Ev.now _))
 refine Ev.rounds (zak shown11_of (zak rfl (zak rfl (zG rfl ?_))))
 by_cases hA : (A.length : Int) ≤ 60
 ·refine zG (by simp [hA]) ?_
  by_cases hB : (B.length : Int) ≤ 60
  ·refine zG (by simp [hB]) ?_
   by_cases hn : n = n'
   ·subst hn
    rw [show (n != n) = false from by simp]
    obtain ⟨u,hu1,hu2⟩ := unlike_ev n lo A n lo' B (by omega) (by omega) hs hs'
    refine Ev.step (fun k => by rw [ze.j0]) (zQ (by simp) ?_)
    refine Ev.bind (zfx n lo A (by omega) hs) (Ev.bind (zfx n lo' B (by omega) hs') (zak rfl (zak rfl (zak hu1 ?_))))
    by_cases r1 : zbf n lo A = true
    ·refine zG r1 ?_
     by_cases r2 : zbf n lo' B = true
     ·refine zG r2 ?_
      by_cases f1 : (zcY A g).isSome = true
      ·refine zG (by obtain ⟨t,ht⟩ := Option.isSome_iff_exists.1 f1;rw [ht];rfl) ?_
       by_cases f2 : (zcY B g).isSome = true
       ·refine zG (by obtain ⟨t,ht⟩ := Option.isSome_iff_exists.1 f2;rw [ht];rfl) ?_
        rcases u with _ | _
        ·exact out1
        ·exact zgH n lo A n lo' B g (by omega) (by omega) hs (fun low h1 h2 => past_one g r1 r2 (by omega) (by omega) (hu2 rfl) h1 h2 f1 f2)
       ·exact zQ (by rw [Option.not_isSome_iff_eq_none.1 f2];simp [ze9,noE]) out1
      ·exact zQ (by rw [Option.not_isSome_iff_eq_none.1 f1];simp [ze9,noE]) out1
     ·exact zQ r2 out1
    ·exact zQ r1 out1
   ·rw [show (n != n') = true from by simp [hn]]
    exact out _ _ _ _ _ _
  ·exact zQ (by simp [hB]) (out _ _ _ _ _ _)
 ·exact zQ (by simp [hA]) (out _ _ _ _ _ _)
end Go.Proofs.Ytndjfdakflaggaa.Pure
namespace Go.Proofs.Ytndjfdakflaggaa.dagPastOne
open Go.ChangeShapes Go.WideShapes Go.ChangeAt Go.RowKit
open Go.ChangeMaps (open_string shut_string)
open Go.RowKit Go.Proofs.Ytndjfdakflaggaa.Px Go.Proofs.YtndjfdakflaggaaW.PrintWords Go.Proofs.YtndjfdakflaggaaW.PrintLast Go.Proofs.YtndjfdakflaggaaW.PrintMore
set_option linter.unusedVariables false
theorem own : ownKnob Try.prog.godebug = none := by kernel_rfl
theorem laidOut : laidOutB Try.prog = true := by kernel_rfl
set_option maxRecDepth 100000 in
theorem contract (H : Type) (enc : TypeId × Value → H) (W : World) (base : Nat) (args : Array Value) (ds gs : List (DataW H)) (before : List MemPlace)
  (hval0 : ∀ (j : Nat) t v,Try.f3.params[j]? = some t → args[j]? = some v → Value.okWide Try.prog W .any base t v)
  (hW : DataW.Whole enc Try.prog Try.f3.params.toList Rows.dagPastOneSpec.vars false W args.toList ds gs before)
  (hsz0 : (DataW.weightsEach Try.prog (Try.f3.params.toList ++ Rows.dagPastOneSpec.plain.varTypes Try.prog) (ds ++ gs)).all (· ≤ reachBytes) = true) :
  Calls Try.prog 3 args W fun e W' => ∃ v,e = .returned v ∧ Rows.dagPastOneSpec.post enc Try.prog Try.f3 false true false false W args v W' := by
 have hval : ∀ (j : Nat) t v,Try.f3.params[j]? = some t → args[j]? = some v → Value.okWide Try.prog W .any base t v := hval0
 have hW' := hW
 obtain ⟨p,q,hA0,hV,rfl,hfz,hnd⟩ := hW
 have hA : DataW.TrodAll enc Try.prog W 0 (fun _ => true) true Try.f3.params.toList args.toList ds p := hA0
 have hsz := hsz0
 rw [Try.params3] at hA hval hsz
 obtain ⟨v0,vs0,d0,ds0,p0,q0,hargs,rfl,rfl,h0,r0⟩ := trodAll_cons hA
 obtain ⟨v1,vs1,d1,ds1,p1,q1,rfl,rfl,rfl,h1,r1⟩ := trodAll_cons r0
 obtain ⟨v2,vs2,d2,ds2,p2,q2,rfl,rfl,rfl,h2,r2⟩ := trodAll_cons r1
 obtain ⟨rfl,rfl,rfl⟩ := trodAll_nil r2
 obtain rfl : args = #[v0,v1,v2] := by cases args;simp_all
 obtain ⟨rfl,rfl⟩ := trodVars_none hV
 have t0 := h0
 have lt0 : ∀ x ∈ p0,x.block < W.heap.size := by obtain ⟨m,hm⟩ := t0;exact DataW.trod_lt m _ _ _ hm
 have t1 := h1
 have lt1 : ∀ x ∈ p1,x.block < W.heap.size := by obtain ⟨m,hm⟩ := t1;exact DataW.trod_lt m _ _ _ hm
 have t2 := h2
 have lt2 : ∀ x ∈ p2,x.block < W.heap.size := by obtain ⟨m,hm⟩ := t2;exact DataW.trod_lt m _ _ _ hm
 obtain ⟨a0,K0,ok0,wt0,bk0⟩ := zhl fit24 h0
 have wq0 := wt0 (fun n hn => of_decide_eq_true (List.all_eq_true.1 hsz n (DataW.weights_mem_each (j := 0) (t := ziL.t) (d := d0) rfl rfl n hn)))
 obtain ⟨cs0,rfl,sz0⟩ := okWide_struct Try.underlying24 (hval 0 24 v0 rfl rfl)
 obtain ⟨A0_2,c0_2,e0,l0_2,g0_2⟩ := zh3 (show k24.K W a0 _ from K0)
 obtain rfl : cs0 = #[.int .i64 a0.f0,.int .i64 a0.f1,.slice A0_2 a0.f2.length c0_2] := by have := congrArg List.toArray e0;simpa [Value.cells] using this
 obtain ⟨a1,K1,ok1,wt1,bk1⟩ := zhl fit24 h1
 have wq1 := wt1 (fun n hn => of_decide_eq_true (List.all_eq_true.1 hsz n (DataW.weights_mem_each (j := 1) (t := ziL.t) (d := d1) rfl rfl n hn)))
 obtain ⟨cs1,rfl,sz1⟩ := okWide_struct Try.underlying24 (hval 1 24 v1 rfl rfl)
 obtain ⟨A1_2,c1_2,e1,l1_2,g1_2⟩ := zh3 (show k24.K W a1 _ from K1)
 obtain rfl : cs1 = #[.int .i64 a1.f0,.int .i64 a1.f1,.slice A1_2 a1.f2.length c1_2] := by have := congrArg List.toArray e1;simpa [Value.cells] using this
 obtain ⟨a2,K2,ok2,wt2,bk2⟩ := zhl (zdP Try.underlying9) h2
 have wq2 := wt2 (fun n hn => of_decide_eq_true (List.all_eq_true.1 hsz n (DataW.weights_mem_each (j := 2) (t := (zap 9).t) (d := d2) rfl rfl n hn)))
 obtain ⟨a2',rfl,rfl,rfl,y2⟩ := open_string Try.underlying9 (hval 2 9 v2 rfl rfl) h2
 have e2 : a2' = a2 := by have := K2;simpa [zaQ,rdBool,zap,Kd.int,Kd.bool,Kd.string,Kd.scalar,Value.cells] using this
 subst e2
 obtain ⟨kk,hkk⟩ := Pure.DagPastOne a0 a1 a2' ok0 ok1 ok2 wq0 wq1 wq2
 refine (ze.calls kk (a0.f0) (a0.f1) A0_2 c0_2 (a0.f2) (a1.f0) (a1.f1) A1_2 c1_2 (a1.f2) a2' true W g0_2 l0_2 g1_2 l1_2 hkk).mono fun e W' ⟨he,bel0⟩ => ?_
 have bel := bel0
 subst he
 exact ⟨_,rfl,_,_,_,[],_,[],hW',trodAll_mk1 (shut_bool Try.underlying4 _),(trodAll_cons_mk (Below.trod laidOut (by kernel_rfl) (of_decide_eq_true (by kernel_rfl)) t0 bel lt0) (trodAll_cons_mk (Below.trod laidOut (by kernel_rfl) (of_decide_eq_true (by kernel_rfl)) t1 bel lt1) (trodAll_cons_mk (Below.trod laidOut (by kernel_rfl) (of_decide_eq_true (by kernel_rfl)) t2 bel lt2) trodAll_mk0))),rfl,bel.frame _,fun h => by cases h⟩
set_option maxRecDepth 100000 in
theorem lifted (os : Os) (started : os.Started) (H : Type) (enc : TypeId × Value → H) :
  ReturnsInHanded {} Try.checked os 3 .any (Rows.dagPastOneSpec.pre6 enc Try.prog Try.f3 Rows.dagPastOneRow.domain false) (Rows.dagPastOneSpec.post enc Try.prog Try.f3 false true false false) := by
 refine returnsInHanded_of_change_sized (C := Try.checked) own started (by kernel_rfl) Try.func3
  (ChangeSpec.witness6 (enc := enc) (C := Try.checked) false ⟨#[],#[.agg #[.int .i64 0,.int .i64 0,.slice none 0 0],.agg #[.int .i64 0,.int .i64 0,.slice none 0 0],.string ByteArray.empty],[]⟩ 8 (by kernel_rfl) (by kernel_rfl) (by kernel_rfl) (by kernel_rfl)) ?_
 intro W base args ds gs before hval hW _ hsz _
 exact contract H enc W base args ds gs before hval hW hsz
theorem proved : Rows.DagPastOneSaid :=
 OpenClaim.holds_of_wide 3 Try.f3 rfl rfl rfl rfl rfl rfl rfl ⟨rfl,rfl,rfl,rfl,rfl⟩ rfl rfl rfl rfl rfl (by kernel_rfl) Try.func3 (by kernel_rfl)
  (of_decide_eq_true (by kernel_rfl)) (by unfold Func.isWrapper;first | (rw [if_pos (by decide +kernel)];kernel_rfl) | (rw [if_neg (by decide +kernel)];exact ⟨rfl,rfl⟩))
  (fun os started H enc _ => lifted os started H enc)
#print axioms proved
end Go.Proofs.Ytndjfdakflaggaa.dagPastOne
namespace Go.Proofs.Ytndjfdakflaggaa
theorem dagPastOne_holds : Rows.DagPastOneSaid := dagPastOne.proved
end Go.Proofs.Ytndjfdakflaggaa