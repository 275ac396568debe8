/- Part 30 of 36 of the proof of the law DagAdds: what is proved is the statement at the end of the last part; its conditions are those of the given row. -/
import Derived.Test.YtlkfelmbhldgfaaGreatZDagAddsR
namespace Go.Proofs.YtlkfelmbhldgfaaGreat.Px
open Go.RowKit Go.Proofs.YtlkfelmbhldgfaaGreatW.PrintWords Go.Proofs.YtlkfelmbhldgfaaGreatW.PrintLast Go.Proofs.YtlkfelmbhldgfaaGreatW.PrintMore
attribute [local go_sem] zA zC zH zI zv zw zB zD
set_option linter.unusedVariables false
set_option linter.unusedSimpArgs false
def ahd (x y : Ent) : Prop := zbd x.f1.f0 x.f1.f1 y.f1.f0 y.f1.f1 = true
theorem zc1 {x y : Ent} : ahd x y ↔ x.f1.f1 < y.f1.f1 ∨ x.f1.f1 = y.f1.f1 ∧ x.f1.f0 < y.f1.f0 := decide_eq_true_iff
def zgq (L : List Ent) : Prop := L.Pairwise ahd
theorem zcW {x y : Ent} : ∀ {L : List Ent},y ∈ zdb L x ↔ y = x ∨ y ∈ L
 | [] => by simp [zdb]
 | z :: L => by
  rw [zdb]
  split
  ·simp
  ·rw [List.mem_cons,zcW,List.mem_cons]
   constructor
   ·rintro (h | h | h)
    ·exact .inr (.inl h)
    ·exact .inl h
    ·exact .inr (.inr h)
   ·rintro (h | h | h)
    ·exact .inr (.inl h)
    ·exact .inl h
    ·exact .inr (.inr h)
theorem zfc {x : Ent} : ∀ {L : List Ent},(zdb L x).length = L.length + 1
 | [] => rfl
 | z :: L => by
  rw [zdb]
  split
  ·rfl
  ·rw [List.length_cons,zfc,List.length_cons]
theorem zfV {x : Ent} : ∀ {L : List Ent},zgq L → (∀ y ∈ L,¬ (y.f1.f0 = x.f1.f0 ∧ y.f1.f1 = x.f1.f1)) → zgq (zdb L x)
 | [],_,_ => List.pairwise_singleton _ _
 | z :: L,h,hn => by
  rw [zdb]
  have hz := hn z (List.mem_cons_self ..)
  rw [zgq,List.pairwise_cons] at h
  split
  ·next hx =>
   have hx' := (zc1 (x := x) (y := z)).1 hx
   rw [zgq,List.pairwise_cons]
   refine ⟨fun y hy => ?_,List.pairwise_cons.2 h⟩
   rcases List.mem_cons.1 hy with rfl | hy
   ·exact hx
   ·have := (zc1).1 (h.1 y hy)
    exact zc1.2 (by omega)
  ·next hx =>
   have hx' : ¬ (x.f1.f1 < z.f1.f1 ∨ x.f1.f1 = z.f1.f1 ∧ x.f1.f0 < z.f1.f0) := fun hc => hx ((zc1 (x := x) (y := z)).2 hc)
   rw [zgq,List.pairwise_cons]
   refine ⟨fun y hy => ?_,zfV h.2 fun y hy => hn y (List.mem_cons_of_mem _ hy)⟩
   rcases zcW.1 hy with rfl | hy
   ·exact zc1.2 (by omega)
   ·exact h.1 y hy
theorem ziK : ∀ {L M : List Ent},zgq L → zgq M → (∀ x,x ∈ L ↔ x ∈ M) → L = M
 | [],[],_,_,_ => rfl
 | [],y :: M,_,_,h => absurd ((h y).2 (List.mem_cons_self ..)) List.not_mem_nil
 | x :: L,[],_,_,h => absurd ((h x).1 (List.mem_cons_self ..)) List.not_mem_nil
 | x :: L,y :: M,h1,h2,h => by
  rw [zgq,List.pairwise_cons] at h1 h2
  have irr : ∀ z : Ent,¬ ahd z z := fun z hz => by have := zc1.1 hz;omega
  have asym : ∀ a b : Ent,ahd a b → ¬ ahd b a := fun a b p q => by have := zc1.1 p;have := zc1.1 q;omega
  have hxy : x = y := by
   rcases List.mem_cons.1 ((h x).1 (List.mem_cons_self ..)) with e | e
   ·exact e
   ·rcases List.mem_cons.1 ((h y).2 (List.mem_cons_self ..)) with e2 | e2
    ·exact e2.symm
    ·exact absurd (h1.1 y e2) (asym _ _ (h2.1 x e))
  subst hxy
  rw [ziK h1.2 h2.2 fun z => ⟨fun hz => ?_,fun hz => ?_⟩]
  ·rcases List.mem_cons.1 ((h z).1 (List.mem_cons_of_mem _ hz)) with e | e
   ·subst e;exact absurd (h1.1 z hz) (irr z)
   ·exact e
  ·rcases List.mem_cons.1 ((h z).2 (List.mem_cons_of_mem _ hz)) with e | e
   ·subst e;exact absurd (h2.1 z hz) (irr z)
   ·exact e
def zev (n : Int) (v : Vtx) : Ent := ⟨(zaa v.f0 v.f1 v.f2 v.f3 v.f4.f0 v.f4.f1 n).1,v⟩
def whyV (n low : Int) (L : List Ent) (v : Vtx) : Int := zd9 n low L v.f0 v.f1 v.f2 v.f3 v.f4.f0 v.f4.f1
def ziP (n low : Int) (L : List Ent) (v : Vtx) : List Ent := zes n low L v.f0 v.f1 v.f2 v.f3 v.f4.f0 v.f4.f1
theorem zcR {n low : Int} {L : List Ent} {v : Vtx} : whyV n low L v = 0 ↔ (zaa v.f0 v.f1 v.f2 v.f3 v.f4.f0 v.f4.f1 n).2 = 0 ∧ low < v.f1 ∧ (∀ x ∈ L,x.f0 ≠ (zev n v).f0) ∧ (∀ x ∈ L,¬ (x.f1.f0 = v.f0 ∧ x.f1.f1 = v.f1)) ∧ (zbQ L low v.f1 v.f3).length = 0 := by
 unfold whyV zd9
 by_cases h1 : (zaa v.f0 v.f1 v.f2 v.f3 v.f4.f0 v.f4.f1 n).2 = 0
 ·rw [if_neg (by simp [h1])]
  by_cases h2 : v.f1 ≤ low
  ·rw [if_pos h2];exact ⟨fun h => absurd h (by decide),fun h => absurd h.2.1 (by omega)⟩
  rw [if_neg h2]
  by_cases h3 : (zcB L (zaa v.f0 v.f1 v.f2 v.f3 v.f4.f0 v.f4.f1 n).1).isSome = true
  ·rw [if_pos h3]
   refine ⟨fun h => absurd h (by decide),fun h => ?_⟩
   rw [zcB,List.find?_isSome] at h3
   obtain ⟨x,hx,h3⟩ := h3
   exact absurd (of_decide_eq_true h3) (h.2.2.1 x hx)
  rw [if_neg h3]
  by_cases h4 : (byE L v.f0 v.f1).isSome = true
  ·rw [if_pos h4]
   refine ⟨fun h => absurd h (by decide),fun h => ?_⟩
   rw [byE,List.find?_isSome] at h4
   obtain ⟨x,hx,h4⟩ := h4
   exact absurd (of_decide_eq_true h4) (h.2.2.2.1 x hx)
  rw [if_neg h4]
  by_cases h5 : 0 < (zbQ L low v.f1 v.f3).length
  ·rw [if_pos h5];exact ⟨fun h => absurd h (by decide),fun h => absurd h.2.2.2.2 (by omega)⟩
  rw [if_neg h5]
  refine ⟨fun _ => ⟨h1,by omega,fun x hx he => h3 ?_,fun x hx he => h4 ?_,by omega⟩,fun _ => rfl⟩
  ·rw [zcB,List.find?_isSome];exact ⟨x,hx,decide_eq_true he⟩
  ·rw [byE,List.find?_isSome];exact ⟨x,hx,decide_eq_true he⟩
 ·rw [if_pos (by simp [h1])]
  exact ⟨fun h => absurd h h1,fun h => absurd h.1 h1⟩
theorem zfF {n low : Int} {L : List Ent} {v : Vtx} (h : whyV n low L v = 0) : ziP n low L v = zdb L (zev n v) := if_pos h
theorem addV_no {n low : Int} {L : List Ent} {v : Vtx} (h : whyV n low L v ≠ 0) : ziP n low L v = L := if_neg h
theorem lackE_sub {L M : List Ent} {low r : Int} {ps : List ByteArray} (h : (zbQ L low r ps).length = 0) (hs : ∀ x ∈ L,x ∈ M) : (zbQ M low r ps).length = 0 := by
 unfold zbQ at h ⊢
 split
 ·rfl
 ·next hl =>
  rw [if_neg hl,List.length_eq_zero_iff,List.filter_eq_nil_iff] at h
  rw [List.length_eq_zero_iff,List.filter_eq_nil_iff]
  intro p hp
  have := h p hp
  simp only [Bool.not_eq_true',Bool.not_eq_false,List.any_eq_true] at this ⊢
  obtain ⟨x,hx,h2⟩ := this
  exact ⟨x,hs x hx,h2⟩
structure zc8 (n : Int) (l : List Vtx) (A : Nat → List Ent) : Prop where
 zero : A 0 = []
 why : ∀ i (h : i < l.length),whyV n 0 (A i) l[i] = 0
 next : ∀ i (h : i < l.length),A (i + 1) = ziP n 0 (A i) l[i]
theorem zc8.mem {n : Int} {l : List Vtx} {A : Nat → List Ent} (h : zc8 n l A) : ∀ i,i ≤ l.length → ∀ x,x ∈ A i ↔ ∃ (j : Nat) (hj : j < l.length),j < i ∧ x = zev n l[j]
 | 0,_,x => by
  rw [h.zero]
  exact ⟨fun hx => absurd hx List.not_mem_nil,fun ⟨_,_,hj,_⟩ => absurd hj (Nat.not_lt_zero _)⟩
 | i + 1,hi,x => by
  rw [h.next i hi,zfF (h.why i hi),zcW,h.mem i (by omega) x]
  constructor
  ·rintro (rfl | ⟨j,hj,h1,h2⟩)
   ·exact ⟨i,hi,by omega,rfl⟩
   ·exact ⟨j,hj,by omega,h2⟩
  ·rintro ⟨j,hj,h1,h2⟩
   rcases Nat.lt_succ_iff_lt_or_eq.1 h1 with h1 | h1
   ·exact .inr ⟨j,hj,h1,h2⟩
   ·subst h1;exact .inl h2
theorem zc8.srt {n : Int} {l : List Vtx} {A : Nat → List Ent} (h : zc8 n l A) : ∀ i,i ≤ l.length → zgq (A i)
 | 0,_ => by rw [h.zero];exact List.Pairwise.nil
 | i + 1,hi => by
  rw [h.next i hi,zfF (h.why i hi)]
  exact zfV (h.srt i (by omega)) (zcR.1 (h.why i hi)).2.2.2.1
theorem zc8.apart {n : Int} {l : List Vtx} {A : Nat → List Ent} (h : zc8 n l A) (i j : Nat) (hi : i < l.length) (hj : j < i) : (zev n l[j]).f0 ≠ (zev n l[i]).f0 ∧ ¬ (l[j].f0 = l[i].f0 ∧ l[j].f1 = l[i].f1) := by
 obtain ⟨_,_,h3,h4,_⟩ := zcR.1 (h.why i hi)
 have hm := (h.mem i (by omega) (zev n l[j])).2 ⟨j,by omega,hj,rfl⟩
 exact ⟨h3 _ hm,h4 _ hm⟩
theorem zc8.one {n : Int} {l : List Vtx} {A : Nat → List Ent} (h : zc8 n l A) (i j : Nat) (hi : i < l.length) (hj : j < l.length) (he : (zev n l[j]).f0 = (zev n l[i]).f0 ∨ (l[j].f0 = l[i].f0 ∧ l[j].f1 = l[i].f1)) : i = j := by
 rcases Nat.lt_trichotomy i j with hl | hl | hl
 ·have := h.apart j i hj hl
  rcases he with he | he
  ·exact absurd he.symm this.1
  ·exact absurd ⟨he.1.symm,he.2.symm⟩ this.2
 ·exact hl
 ·have := h.apart i j hi hl
  rcases he with he | he
  ·exact absurd he this.1
  ·exact absurd he this.2
structure zhm (n : Int) (l : List Vtx) (B : List Ent) : Prop where
 srt : zgq B
 mem : ∀ x ∈ B,∃ (j : Nat) (hj : j < l.length),x = zev n l[j]
theorem zhm.step {n : Int} {l : List Vtx} {A : Nat → List Ent} {B : List Ent} (h : zc8 n l A) (hB : zhm n l B) (i : Nat) (hi : i < l.length) : zhm n l (ziP n 0 B l[i]) ∧ (∀ x ∈ B,x ∈ ziP n 0 B l[i]) ∧ ((∀ (j : Nat) (hj : j < l.length),j < i → zev n l[j] ∈ B) → zev n l[i] ∈ ziP n 0 B l[i]) := by
 by_cases hw : whyV n 0 B l[i] = 0
 ·rw [zfF hw]
  refine ⟨⟨zfV hB.srt (zcR.1 hw).2.2.2.1,fun x hx => ?_⟩,fun x hx => zcW.2 (.inr hx),fun _ => zcW.2 (.inl rfl)⟩
  rcases zcW.1 hx with rfl | hx
  ·exact ⟨i,hi,rfl⟩
  ·exact hB.mem x hx
 ·rw [addV_no hw]
  refine ⟨hB,fun x hx => hx,fun hj => ?_⟩
  by_cases hin : zev n l[i] ∈ B
  ·exact hin
  ·exfalso
   refine hw (zcR.2 ?_)
   obtain ⟨h1,h2,_,_,h5⟩ := zcR.1 (h.why i hi)
   refine ⟨h1,h2,fun x hx he => ?_,fun x hx he => ?_,lackE_sub h5 fun x hx => ?_⟩
   ·obtain ⟨j,hj',rfl⟩ := hB.mem x hx
    have := h.one i j hi hj' (.inl he)
    subst this
    exact hin hx
   ·obtain ⟨j,hj',rfl⟩ := hB.mem x hx
    have := h.one i j hi hj' (.inr he)
    subst this
    exact hin hx
   ·obtain ⟨j,hj',hji,rfl⟩ := (h.mem i (by omega) x).1 hx
    exact hj j hj' hji
theorem zhm.all {n : Int} {l : List Vtx} {A : Nat → List Ent} {B : List Ent} (h : zc8 n l A) (hB : zhm n l B) (hm : ∀ (j : Nat) (hj : j < l.length),zev n l[j] ∈ B) : A l.length = B :=
 ziK (h.srt _ (Nat.le_refl _)) hB.srt fun x => ⟨fun hx => by obtain ⟨j,hj,_,rfl⟩ := (h.mem _ (Nat.le_refl _) x).1 hx;exact hm j hj,fun hx => by obtain ⟨j,hj,rfl⟩ := hB.mem x hx;exact (h.mem _ (Nat.le_refl _) _).2 ⟨j,hj,hj,rfl⟩⟩
def zdA (L : List Ent) (r : Int) : List Ent := L.filter fun x => decide (x.f1.f1 = r)
end Go.Proofs.YtlkfelmbhldgfaaGreat.Px