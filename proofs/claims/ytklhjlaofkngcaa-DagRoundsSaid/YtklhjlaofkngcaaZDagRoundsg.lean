/- Part 33 of 33 of the proof of the law DagRounds: what is proved is the statement at the end of the last part; its conditions are those of the given row. -/
import Derived.ProofKit
import Derived.OpenShut
import Derived.ShutString
import Derived.ChangeOld
import Derived.JoinedCond
import Derived.Carry
import Derived.WideShapes
import Derived.Test.YtklhjlaofkngcaaZDagRoundsf
namespace Go.Proofs.Ytklhjlaofkngcaa.Px
open Go.RowKit Go.Proofs.YtklhjlaofkngcaaW.PrintWords Go.Proofs.YtklhjlaofkngcaaW.PrintLast Go.Proofs.YtklhjlaofkngcaaW.PrintMore
attribute [local go_sem] zG zI zM zN zB zC zH zJ
set_option linter.unusedVariables false
set_option linter.unusedSimpArgs false
def ahd (x y : Ent) : Prop := za7 x.f1.f0 x.f1.f1 y.f1.f0 y.f1.f1 = true
theorem zbO {x y : Ent} : ahd x y ↔ x.f1.f1 < y.f1.f1 ∨ x.f1.f1 = y.f1.f1 ∧ x.f1.f0 < y.f1.f0 := decide_eq_true_iff
def zdK (L : List Ent) : Prop := L.Pairwise ahd
theorem zdc {x y : Ent} : ∀ {L : List Ent},y ∈ zeD L x ↔ y = x ∨ y ∈ L
 | [] => by simp [zeD]
 | z :: L => by
  rw [zeD]
  split
  ·simp
  ·rw [List.mem_cons,zdc,List.mem_cons]
   constructor
   ·rintro (h | h | h)
    ·exact .inr (.inl h)
    ·exact .inl h
    ·exact .inr (.inr h)
   ·rintro (h | h | h)
    ·exact .inr (.inl h)
    ·exact .inl h
    ·exact .inr (.inr h)
theorem zfD {x : Ent} : ∀ {L : List Ent},zdK L → (∀ y ∈ L,¬ (y.f1.f0 = x.f1.f0 ∧ y.f1.f1 = x.f1.f1)) → zdK (zeD L x)
 | [],_,_ => List.pairwise_singleton _ _
 | z :: L,h,hn => by
  rw [zeD]
  have hz := hn z (List.mem_cons_self ..)
  rw [zdK,List.pairwise_cons] at h
  split
  ·next hx =>
   have hx' := (zbO (x := x) (y := z)).1 hx
   rw [zdK,List.pairwise_cons]
   refine ⟨fun y hy => ?_,List.pairwise_cons.2 h⟩
   rcases List.mem_cons.1 hy with rfl | hy
   ·exact hx
   ·have := (zbO).1 (h.1 y hy)
    exact zbO.2 (by omega)
  ·next hx =>
   have hx' : ¬ (x.f1.f1 < z.f1.f1 ∨ x.f1.f1 = z.f1.f1 ∧ x.f1.f0 < z.f1.f0) := fun hc => hx ((zbO (x := x) (y := z)).2 hc)
   rw [zdK,List.pairwise_cons]
   refine ⟨fun y hy => ?_,zfD h.2 fun y hy => hn y (List.mem_cons_of_mem _ hy)⟩
   rcases zdc.1 hy with rfl | hy
   ·exact zbO.2 (by omega)
   ·exact h.1 y hy
theorem zid : ∀ {L M : List Ent},zdK L → zdK M → (∀ x,x ∈ L ↔ x ∈ M) → L = M
 | [],[],_,_,_ => rfl
 | [],y :: M,_,_,h => absurd ((h y).2 (List.mem_cons_self ..)) List.not_mem_nil
 | x :: L,[],_,_,h => absurd ((h x).1 (List.mem_cons_self ..)) List.not_mem_nil
 | x :: L,y :: M,h1,h2,h => by
  rw [zdK,List.pairwise_cons] at h1 h2
  have irr : ∀ z : Ent,¬ ahd z z := fun z hz => by have := zbO.1 hz;omega
  have asym : ∀ a b : Ent,ahd a b → ¬ ahd b a := fun a b p q => by have := zbO.1 p;have := zbO.1 q;omega
  have hxy : x = y := by
   rcases List.mem_cons.1 ((h x).1 (List.mem_cons_self ..)) with e | e
   ·exact e
   ·rcases List.mem_cons.1 ((h y).2 (List.mem_cons_self ..)) with e2 | e2
    ·exact e2.symm
    ·exact absurd (h1.1 y e2) (asym _ _ (h2.1 x e))
  subst hxy
  rw [zid h1.2 h2.2 fun z => ⟨fun hz => ?_,fun hz => ?_⟩]
  ·rcases List.mem_cons.1 ((h z).1 (List.mem_cons_of_mem _ hz)) with e | e
   ·subst e;exact absurd (h1.1 z hz) (irr z)
   ·exact e
  ·rcases List.mem_cons.1 ((h z).2 (List.mem_cons_of_mem _ hz)) with e | e
   ·subst e;exact absurd (h2.1 z hz) (irr z)
   ·exact e
def zez (n : Int) (v : Vtx) : Ent := ⟨(zab v.f0 v.f1 v.f2 v.f3 v.f4.f0 v.f4.f1 n).1,v⟩
def ziP (n low : Int) (L : List Ent) (v : Vtx) : Int := zfa n low L v.f0 v.f1 v.f2 v.f3 v.f4.f0 v.f4.f1
def zik (n low : Int) (L : List Ent) (v : Vtx) : List Ent := zij n low L v.f0 v.f1 v.f2 v.f3 v.f4.f0 v.f4.f1
theorem zdg {n low : Int} {L : List Ent} {v : Vtx} : ziP n low L v = 0 ↔ (zab v.f0 v.f1 v.f2 v.f3 v.f4.f0 v.f4.f1 n).2 = 0 ∧ low < v.f1 ∧ (∀ x ∈ L,x.f0 ≠ (zez n v).f0) ∧ (∀ x ∈ L,¬ (x.f1.f0 = v.f0 ∧ x.f1.f1 = v.f1)) ∧ (zbF L low v.f1 v.f3).length = 0 := by
 unfold ziP zfa
 by_cases h1 : (zab v.f0 v.f1 v.f2 v.f3 v.f4.f0 v.f4.f1 n).2 = 0
 ·rw [if_neg (by simp [h1])]
  by_cases h2 : v.f1 ≤ low
  ·rw [if_pos h2];exact ⟨fun h => absurd h (by decide),fun h => absurd h.2.1 (by omega)⟩
  rw [if_neg h2]
  by_cases h3 : (zdW L (zab v.f0 v.f1 v.f2 v.f3 v.f4.f0 v.f4.f1 n).1).isSome = true
  ·rw [if_pos h3]
   refine ⟨fun h => absurd h (by decide),fun h => ?_⟩
   rw [zdW,List.find?_isSome] at h3
   obtain ⟨x,hx,h3⟩ := h3
   exact absurd (of_decide_eq_true h3) (h.2.2.1 x hx)
  rw [if_neg h3]
  by_cases h4 : (byE L v.f0 v.f1).isSome = true
  ·rw [if_pos h4]
   refine ⟨fun h => absurd h (by decide),fun h => ?_⟩
   rw [byE,List.find?_isSome] at h4
   obtain ⟨x,hx,h4⟩ := h4
   exact absurd (of_decide_eq_true h4) (h.2.2.2.1 x hx)
  rw [if_neg h4]
  by_cases h5 : 0 < (zbF L low v.f1 v.f3).length
  ·rw [if_pos h5];exact ⟨fun h => absurd h (by decide),fun h => absurd h.2.2.2.2 (by omega)⟩
  rw [if_neg h5]
  refine ⟨fun _ => ⟨h1,by omega,fun x hx he => h3 ?_,fun x hx he => h4 ?_,by omega⟩,fun _ => rfl⟩
  ·rw [zdW,List.find?_isSome];exact ⟨x,hx,decide_eq_true he⟩
  ·rw [byE,List.find?_isSome];exact ⟨x,hx,decide_eq_true he⟩
 ·rw [if_pos (by simp [h1])]
  exact ⟨fun h => absurd h h1,fun h => absurd h.1 h1⟩
theorem zfo {n low : Int} {L : List Ent} {v : Vtx} (h : ziP n low L v = 0) : zik n low L v = zeD L (zez n v) := if_pos h
theorem addV_no {n low : Int} {L : List Ent} {v : Vtx} (h : ziP n low L v ≠ 0) : zik n low L v = L := if_neg h
theorem zit {L M : List Ent} {low r : Int} {ps : List ByteArray} (h : (zbF L low r ps).length = 0) (hs : ∀ x ∈ L,x ∈ M) : (zbF M low r ps).length = 0 := by
 unfold zbF at h ⊢
 split
 ·rfl
 ·next hl =>
  rw [if_neg hl,List.length_eq_zero_iff,List.filter_eq_nil_iff] at h
  rw [List.length_eq_zero_iff,List.filter_eq_nil_iff]
  intro p hp
  have := h p hp
  simp only [Bool.not_eq_true',Bool.not_eq_false,List.any_eq_true] at this ⊢
  obtain ⟨x,hx,h2⟩ := this
  exact ⟨x,hs x hx,h2⟩
structure zcV (n : Int) (l : List Vtx) (A : Nat → List Ent) : Prop where
 zero : A 0 = []
 why : ∀ i (h : i < l.length),ziP n 0 (A i) l[i] = 0
 next : ∀ i (h : i < l.length),A (i + 1) = zik n 0 (A i) l[i]
theorem zcV.mem {n : Int} {l : List Vtx} {A : Nat → List Ent} (h : zcV n l A) : ∀ i,i ≤ l.length → ∀ x,x ∈ A i ↔ ∃ (j : Nat) (hj : j < l.length),j < i ∧ x = zez n l[j]
 | 0,_,x => by
  rw [h.zero]
  exact ⟨fun hx => absurd hx List.not_mem_nil,fun ⟨_,_,hj,_⟩ => absurd hj (Nat.not_lt_zero _)⟩
 | i + 1,hi,x => by
  rw [h.next i hi,zfo (h.why i hi),zdc,h.mem i (by omega) x]
  constructor
  ·rintro (rfl | ⟨j,hj,h1,h2⟩)
   ·exact ⟨i,hi,by omega,rfl⟩
   ·exact ⟨j,hj,by omega,h2⟩
  ·rintro ⟨j,hj,h1,h2⟩
   rcases Nat.lt_succ_iff_lt_or_eq.1 h1 with h1 | h1
   ·exact .inr ⟨j,hj,h1,h2⟩
   ·subst h1;exact .inl h2
theorem zcV.srt {n : Int} {l : List Vtx} {A : Nat → List Ent} (h : zcV n l A) : ∀ i,i ≤ l.length → zdK (A i)
 | 0,_ => by rw [h.zero];exact List.Pairwise.nil
 | i + 1,hi => by
  rw [h.next i hi,zfo (h.why i hi)]
  exact zfD (h.srt i (by omega)) (zdg.1 (h.why i hi)).2.2.2.1
theorem zcV.apart {n : Int} {l : List Vtx} {A : Nat → List Ent} (h : zcV n l A) (i j : Nat) (hi : i < l.length) (hj : j < i) : (zez n l[j]).f0 ≠ (zez n l[i]).f0 ∧ ¬ (l[j].f0 = l[i].f0 ∧ l[j].f1 = l[i].f1) := by
 obtain ⟨_,_,h3,h4,_⟩ := zdg.1 (h.why i hi)
 have hm := (h.mem i (by omega) (zez n l[j])).2 ⟨j,by omega,hj,rfl⟩
 exact ⟨h3 _ hm,h4 _ hm⟩
theorem zcV.one {n : Int} {l : List Vtx} {A : Nat → List Ent} (h : zcV n l A) (i j : Nat) (hi : i < l.length) (hj : j < l.length) (he : (zez n l[j]).f0 = (zez n l[i]).f0 ∨ (l[j].f0 = l[i].f0 ∧ l[j].f1 = l[i].f1)) : i = j := by
 rcases Nat.lt_trichotomy i j with hl | hl | hl
 ·have := h.apart j i hj hl
  rcases he with he | he
  ·exact absurd he.symm this.1
  ·exact absurd ⟨he.1.symm,he.2.symm⟩ this.2
 ·exact hl
 ·have := h.apart i j hi hl
  rcases he with he | he
  ·exact absurd he this.1
  ·exact absurd he this.2
structure zgX (n : Int) (l : List Vtx) (B : List Ent) : Prop where
 srt : zdK B
 mem : ∀ x ∈ B,∃ (j : Nat) (hj : j < l.length),x = zez n l[j]
theorem zgX.step {n : Int} {l : List Vtx} {A : Nat → List Ent} {B : List Ent} (h : zcV n l A) (hB : zgX n l B) (i : Nat) (hi : i < l.length) : zgX n l (zik n 0 B l[i]) ∧ (∀ x ∈ B,x ∈ zik n 0 B l[i]) ∧ ((∀ (j : Nat) (hj : j < l.length),j < i → zez n l[j] ∈ B) → zez n l[i] ∈ zik n 0 B l[i]) := by
 by_cases hw : ziP n 0 B l[i] = 0
 ·rw [zfo hw]
  refine ⟨⟨zfD hB.srt (zdg.1 hw).2.2.2.1,fun x hx => ?_⟩,fun x hx => zdc.2 (.inr hx),fun _ => zdc.2 (.inl rfl)⟩
  rcases zdc.1 hx with rfl | hx
  ·exact ⟨i,hi,rfl⟩
  ·exact hB.mem x hx
 ·rw [addV_no hw]
  refine ⟨hB,fun x hx => hx,fun hj => ?_⟩
  by_cases hin : zez n l[i] ∈ B
  ·exact hin
  ·exfalso
   refine hw (zdg.2 ?_)
   obtain ⟨h1,h2,_,_,h5⟩ := zdg.1 (h.why i hi)
   refine ⟨h1,h2,fun x hx he => ?_,fun x hx he => ?_,zit h5 fun x hx => ?_⟩
   ·obtain ⟨j,hj',rfl⟩ := hB.mem x hx
    have := h.one i j hi hj' (.inl he)
    subst this
    exact hin hx
   ·obtain ⟨j,hj',rfl⟩ := hB.mem x hx
    have := h.one i j hi hj' (.inr he)
    subst this
    exact hin hx
   ·obtain ⟨j,hj',hji,rfl⟩ := (h.mem i (by omega) x).1 hx
    exact hj j hj' hji
theorem zgX.all {n : Int} {l : List Vtx} {A : Nat → List Ent} {B : List Ent} (h : zcV n l A) (hB : zgX n l B) (hm : ∀ (j : Nat) (hj : j < l.length),zez n l[j] ∈ B) : A l.length = B :=
 zid (h.srt _ (Nat.le_refl _)) hB.srt fun x => ⟨fun hx => by obtain ⟨j,hj,_,rfl⟩ := (h.mem _ (Nat.le_refl _) x).1 hx;exact hm j hj,fun hx => by obtain ⟨j,hj,rfl⟩ := hB.mem x hx;exact (h.mem _ (Nat.le_refl _) _).2 ⟨j,hj,hj,rfl⟩⟩
theorem zeI {n low : Int} {L : List Ent} (h : zbs n low L = true) : zcB n = true ∧ 0 ≤ low ∧ ∀ (i : Nat) (hi : i < L.length),okE n low L i L[i] = true := by
 unfold zbs at h
 simp only [Bool.and_eq_true,decide_eq_true_eq,List.all_eq_true,List.mem_range] at h
 exact ⟨h.1.1,h.1.2,fun i hi => by have := h.2 i hi;rwa [List.getD_eq_getElem?_getD,List.getElem?_eq_getElem hi] at this⟩
theorem zgD {n low : Int} {L : List Ent} {i : Nat} {x : Ent} : okE n low L i x = true ↔ (zab x.f1.f0 x.f1.f1 x.f1.f2 x.f1.f3 x.f1.f4.f0 x.f1.f4.f1 n).2 = 0 ∧ (zab x.f1.f0 x.f1.f1 x.f1.f2 x.f1.f3 x.f1.f4.f0 x.f1.f4.f1 n).1 = x.f0 ∧ low < x.f1.f1 ∧ (zbF L low x.f1.f1 x.f1.f3).length = 0 ∧ (i = 0 ∨ za7 (L.getD (i - 1) z36).f1.f0 (L.getD (i - 1) z36).f1.f1 x.f1.f0 x.f1.f1 = true) := by
 unfold okE
 simp only [Bool.and_eq_true,Bool.or_eq_true,decide_eq_true_eq,and_assoc]
theorem zil {x y z : Ent} (h1 : ahd x y) (h2 : ahd y z) : ahd x z := by
 have := zbO.1 h1;have := zbO.1 h2;exact zbO.2 (by omega)
theorem zen : ∀ {L : List Ent},(∀ (i : Nat) (hi : i + 1 < L.length),ahd L[i] L[i + 1]) → zdK L
 | [],_ => List.Pairwise.nil
 | [x],_ => List.pairwise_singleton _ _
 | x :: y :: L,h => by
  have ih : zdK (y :: L) := zen fun i hi => by have := h (i + 1) (by simp at hi ⊢;omega);simpa using this
  have h0 : ahd x y := h 0 (by simp)
  refine List.pairwise_cons.2 ⟨fun z hz => ?_,ih⟩
  rcases List.mem_cons.1 hz with rfl | hz
  ·exact h0
  ·exact zil h0 ((List.pairwise_cons.1 ih).1 z hz)
theorem zfN {n low : Int} {L : List Ent} (h : zbs n low L = true) : zdK L := by
 obtain ⟨_,_,h⟩ := zeI h
 refine zen fun i hi => ?_
 rcases (zgD.1 (h (i + 1) hi)).2.2.2.2 with h0 | h0
 ·omega
 ·rwa [Nat.add_sub_cancel,List.getD_eq_getElem?_getD,List.getElem?_eq_getElem (by omega)] at h0
theorem zhR {n low : Int} {L : List Ent} (h : zbs n low L = true) : ∀ x ∈ L,low < x.f1.f1 := fun x hx => by
 obtain ⟨i,hi,rfl⟩ := List.mem_iff_getElem.1 hx
 exact (zgD.1 ((zeI h).2.2 i hi)).2.2.1
theorem ziK {L : List Ent} (h : zdK L) (x : Ent) (hx : x ∈ L) : x.f1.f1 ≤ (L.getD (L.length - 1) z36).f1.f1 := by
 obtain ⟨i,hi,rfl⟩ := List.mem_iff_getElem.1 hx
 rw [List.getD_eq_getElem?_getD,List.getElem?_eq_getElem (by omega)]
 show L[i].f1.f1 ≤ L[L.length - 1].f1.f1
 by_cases he : i = L.length - 1
 ·subst he;exact Int.le_refl _
 ·have := zbO.1 (List.pairwise_iff_getElem.1 h i (L.length - 1) hi (by omega) (by omega))
  omega
def zcL (L : List Ent) (r : Int) : List Ent := L.filter fun x => decide (x.f1.f1 = r)
def upE (L : List Ent) (r : Int) : List Ent := L.filter fun x => decide (x.f1.f1 ≤ r)
theorem upE_next {L : List Ent} {r : Int} (h : zdK L) : upE L r ++ zcL L (r + 1) = upE L (r + 1) := by
 induction L with
 | nil => rfl
 | cons x L ih =>
  rw [zdK,List.pairwise_cons] at h
  have ih := ih h.2
  unfold upE zcL at ih ⊢
  rw [List.filter_cons,List.filter_cons,List.filter_cons]
  by_cases h1 : x.f1.f1 ≤ r
  ·rw [if_pos (decide_eq_true h1),if_neg (by simp;omega),if_pos (by simp;omega),List.cons_append,ih]
  ·have he : L.filter (fun x => decide (x.f1.f1 ≤ r)) = [] := by
    rw [List.filter_eq_nil_iff]
    intro y hy
    have := zbO.1 (h.1 y hy)
    simp;omega
   rw [he,List.nil_append] at ih
   rw [if_neg (by simpa using h1),he,List.nil_append]
   by_cases h2 : x.f1.f1 = r + 1
   ·rw [if_pos (decide_eq_true h2),if_pos (by simp;omega),ih]
   ·rw [if_neg (by simpa using h2),if_neg (by simp;omega),ih]
theorem upE_none {L : List Ent} {r : Int} (h : ∀ x ∈ L,r < x.f1.f1) : upE L r = [] := List.filter_eq_nil_iff.2 fun x hx => by have := h x hx;simp;omega
theorem upE_all {L : List Ent} {r : Int} (h : ∀ x ∈ L,x.f1.f1 ≤ r) : upE L r = L := List.filter_eq_self.2 fun x hx => decide_eq_true (h x hx)
theorem zcj (l : List Ent) (j : Nat) (h : j < l.length) : zd l (j : Int) = l[j] := by
 rw [zd,Int.toNat_natCast,List.getD_eq_getElem?_getD,List.getElem?_eq_getElem h];rfl
structure zig (x : Ent) : Prop where
 bs : x.f1.f2.length < 4611686018427387904
 tx : ∀ b ∈ x.f1.f2,b.f2.length < 4611686018427387904
 ps : x.f1.f3.length ≤ 8796093022208
 t : ∀ t ∈ x.f1.f3,t.size < 4611686018427387904
instance decEnt : DecidableEq Ent := fun a b => decidable_of_iff (a.f0 = b.f0 ∧ zde a.f1.f0 a.f1.f1 a.f1.f2 a.f1.f3 a.f1.f4.f0 a.f1.f4.f1 b.f1.f0 b.f1.f1 b.f1.f2 b.f1.f3 b.f1.f4.f0 b.f1.f4.f1 = true) ⟨fun ⟨h0,h1⟩ => by
  rw [zcF] at h1
  obtain ⟨a0,⟨a1,a2,a3,a4,⟨a5,a6⟩⟩⟩ := a;obtain ⟨b0,⟨b1,b2,b3,b4,⟨b5,b6⟩⟩⟩ := b
  simp only at h0 h1
  obtain ⟨rfl,rfl,rfl,rfl,rfl,rfl⟩ := h1
  rw [h0],fun h => by rw [h,zcF];exact ⟨rfl,rfl,rfl,rfl,rfl,rfl,rfl⟩⟩
theorem ze4 (a b : List Ent) (hl : a.length = b.length) (ha : a.length < 4611686018427387904) (hs : ∀ x ∈ a,zig x) (d : Nat) : ∀ j,j + d = a.length →
  Ev (fun k => zq.l0 k a b (j : Int)) (decide (a.drop j = b.drop j)) := by
 induction d with
 | zero =>
  intro j hj
  refine Ev.step (fun k => by rw [zq.l0]) ?_
  refine zT (by omega) (z6 (Ev.now _) ?_)
  rw [List.drop_eq_nil_of_le (by omega),List.drop_eq_nil_of_le (by omega)];rfl
 | succ d ih =>
  intro j hj
  refine Ev.step (fun k => by rw [zq.l0]) ?_
  have h1 : j < a.length := by omega
  have h2 : j < b.length := by omega
  refine zF (by omega) (zF (by omega) (zF (by omega) ?_))
  have hf := hs _ (List.getElem_mem h1)
  have hps := hf.ps
  rw [zcj a j h1,zcj b j h2,List.drop_eq_getElem_cons h1,List.drop_eq_getElem_cons h2,zZ (by omega) (by omega)]
  refine Ev.bind (zeH _ _ _ _ _ _ _ _ _ _ _ _ hf.bs hf.tx (by omega)) ?_
  by_cases h : a[j] = b[j]
  ·refine zF (by rw [h,zcF];exact ⟨rfl,rfl,rfl,rfl,rfl,rfl⟩) (zF (by rw [h]) (z6 (ih (j + 1) (by omega)) ?_))
   rw [h];exact decide_eq_decide.2 ⟨fun h => by rw [h],fun h => (List.cons.inj h).2⟩
  ·have hno : decide (a[j] :: a.drop (j + 1) = b[j] :: b.drop (j + 1)) = false := decide_eq_false (fun e => h (List.cons.inj e).1)
   rw [hno]
   by_cases hv : zde a[j].f1.f0 a[j].f1.f1 a[j].f1.f2 a[j].f1.f3 a[j].f1.f4.f0 a[j].f1.f4.f1 b[j].f1.f0 b[j].f1.f1 b[j].f1.f2 b[j].f1.f3 b[j].f1.f4.f0 b[j].f1.f4.f1 = true
   ·refine zF hv (zT (fun e => h ?_) (Ev.now _))
    rw [zbW] at e
    rw [zcF] at hv
    generalize a[j] = p at *
    generalize b[j] = q at *
    obtain ⟨a0,⟨a1,a2,a3,a4,⟨a5,a6⟩⟩⟩ := p;obtain ⟨b0,⟨b1,b2,b3,b4,⟨b5,b6⟩⟩⟩ := q
    simp only at e hv
    obtain ⟨rfl,rfl,rfl,rfl,rfl,rfl⟩ := hv
    rw [e]
   ·exact zT hv (Ev.now _)
theorem zdZ (a b : List Ent) (ha : a.length < 4611686018427387904) (hs : ∀ x ∈ a,zig x) : Ev (fun k => zq.f k a b) (decide (a = b)) := by
 by_cases h : a.length = b.length
 ·exact zF (by omega) (ze4 a b h ha hs a.length 0 (by omega))
 ·refine zT (by omega) (z6 (Ev.now _) ?_)
  have : ¬ a = b := fun e => h (by rw [e])
  simp [this]
theorem zf4 (n lo r : Int) (L : List Ent) (hL : L.length < 1466015503701) (d : Nat) : ∀ (j : Nat) (acc : List Ent),j + d = L.length → acc.length ≤ j →
  Ev (fun k => zU.l0 k r acc (j : Int) n lo L) (acc ++ zcL (L.drop j) r) := by
 induction d with
 | zero =>
  intro j acc hj _
  refine Ev.step (fun k => by rw [zU.l0]) ?_
  refine zT (by omega) (z6 (Ev.now _) ?_)
  rw [List.drop_eq_nil_of_le (by omega)];simp [zcL]
 | succ d ih =>
  intro j acc hj ha
  refine Ev.step (fun k => by rw [zU.l0]) ?_
  have h1 : j < L.length := by omega
  refine zF (by omega) (zF (by omega) ?_)
  rw [zcj L j h1,zZ (by omega) (by omega),List.drop_eq_getElem_cons h1]
  by_cases h : L[j].f1.f1 = r
  ·refine zF h (zF (by omega) (z6 (ih (j + 1) _ (by omega) (by simp;omega)) ?_))
   rw [zcL,zcL,show (L[j] :: L.drop (j + 1)).filter (fun x => decide (x.f1.f1 = r)) = L[j] :: (L.drop (j + 1)).filter (fun x => decide (x.f1.f1 = r)) from List.filter_cons_of_pos (by simpa using h),List.append_assoc];rfl
  ·refine zT h (z6 (ih (j + 1) _ (by omega) (by omega)) ?_)
   rw [zcL,zcL,List.filter_cons_of_neg (by simpa using h)]
theorem zhh (n lo r : Int) (L : List Ent) (hL : L.length < 1466015503701) : Ev (fun k => zU.f k n lo L r) (zcL L r) :=
 z6 (zf4 n lo r L hL L.length 0 [] (by omega) (by simp)) (by simp)
theorem zhI (a r : Int) (bs : List S72) (ps : List ByteArray) (x y : Int) (R : List Ent) (hR : R.length < 4611686018427387904) (hp : ps.length ≤ 8796093022208) (i : Nat) (hi : i < ps.length) (out : List ByteArray) (ho : out.length ≤ i) (V : List ByteArray)
  (hN : Ev (fun k => zA.l0 k R (if R.any (fun e => decide (e.f0 = ps[i])) = true then out else out ++ [ps[i]]) ((i + 1 : Nat) : Int) a r bs ps x y) V) (d : Nat) : ∀ (j : Nat) (has : Bool),j + d = R.length → (has || (R.drop j).any (fun e => decide (e.f0 = ps[i]))) = R.any (fun e => decide (e.f0 = ps[i])) →
  Ev (fun k => zA.l1 k R out (i : Int) has (j : Int) a r bs ps x y) V := by
 induction d with
 | zero =>
  intro j has hj hh
  refine Ev.step (fun k => by rw [zA.l1]) ?_
  refine zT (by omega) ?_
  rw [List.drop_eq_nil_of_le (by omega),List.any_nil,Bool.or_false] at hh
  rw [← hh] at hN
  rcases has with _ | _
  ·rw [zel ps i hi,zZ (by omega) (by omega)]
   exact zT (by simp) (zF (by omega) (zF (by omega) (zF (by omega) (by simpa using hN))))
  ·rw [zZ (by omega) (by omega)]
   exact zF rfl (by simpa using hN)
 | succ d ih =>
  intro j has hj hh
  refine Ev.step (fun k => by rw [zA.l1]) ?_
  have h1 : j < R.length := by omega
  refine zF (by omega) ?_
  rw [zcj R j h1,zZ (x := (j : Int) + 1) (by omega) (by omega)]
  rw [List.drop_eq_getElem_cons h1,List.any_cons] at hh
  rcases has with _ | _
  ·rw [zel ps i hi]
   refine zT (by simp) (zF (by omega) (zF (by omega) (zF (by omega) (ih (j + 1) _ (by omega) ?_))))
   rw [← hh,zdh];simp
  ·exact zF rfl (ih (j + 1) true (by omega) (by simpa using hh))
theorem zhe (a r : Int) (bs : List S72) (ps : List ByteArray) (x y : Int) (R : List Ent) (hR : R.length < 4611686018427387904) (hp : ps.length ≤ 8796093022208) (d : Nat) : ∀ (i : Nat) (out : List ByteArray),i + d = ps.length → out.length ≤ i →
  Ev (fun k => zA.l0 k R out (i : Int) a r bs ps x y) (out ++ (ps.drop i).filter fun p => !R.any fun e => decide (e.f0 = p)) := by
 induction d with
 | zero =>
  intro i out hi ho
  refine Ev.step (fun k => by rw [zA.l0]) ?_
  refine zT (by omega) (z6 (Ev.now _) ?_)
  rw [List.drop_eq_nil_of_le (by omega)];simp
 | succ d ih =>
  intro i out hi ho
  refine Ev.step (fun k => by rw [zA.l0]) ?_
  have h1 : i < ps.length := by omega
  refine zF (by omega) (zhI a r bs ps x y R hR hp i h1 out ho _ (z6 (ih (i + 1) _ (by omega) ?_) ?_) R.length 0 false (by omega) (by simp))
  ·split
   ·omega
   ·simp only [List.length_append,List.length_singleton];omega
  ·rw [List.drop_eq_getElem_cons h1,List.filter_cons]
   by_cases h : R.any (fun e => decide (e.f0 = ps[i])) = true
   ·rw [if_pos h,if_neg (by rw [h];simp)]
   ·rw [if_neg h,if_pos (by rw [Bool.not_eq_true] at h;rw [h];rfl),List.append_assoc];rfl
theorem zf2 (n lo : Int) (L : List Ent) (a r : Int) (bs : List S72) (ps : List ByteArray) (x y : Int) (hL : L.length < 1466015503701) (hp : ps.length ≤ 8796093022208) :
  Ev (fun k => zA.f k n lo L a r bs ps x y) (zbF L lo r ps) := by
 unfold zbF
 by_cases h : wrap64 (r - 1) ≤ lo
 ·rw [if_pos h];exact zF h (Ev.now _)
 ·rw [if_neg h]
  have hR : (zcL L (wrap64 (r - 1))).length ≤ L.length := List.length_filter_le _ _
  refine zT h (Ev.bind (zhh n lo _ L hL) (z6 (zhe a r bs ps x y _ (by omega) hp ps.length 0 [] (by omega) (by simp)) ?_))
  rw [List.drop_zero,List.nil_append]
  congr 1
  funext p
  rw [zcL,List.any_filter]
  congr 1
  refine congrArg (fun q => L.any q) (funext fun e => ?_)
  by_cases h1 : e.f1.f1 = wrap64 (r - 1) <;> by_cases h2 : e.f0 = p <;> simp [h1,h2]
def zdD (n lo : Int) (L : List Ent) : Nat → Nat → Bool
 | 0,_ => true
 | d + 1,j => okE n lo L j (L.getD j z36) && zdD n lo L d (j + 1)
theorem zfA (n lo : Int) (L : List Ent) : ∀ d j : Nat,zdD n lo L d j = (List.range' j d).all fun i => okE n lo L i (L.getD i z36)
 | 0,_ => rfl
 | d + 1,j => by rw [zdD,zfA n lo L d (j + 1),List.range'_succ,List.all_cons]
theorem zeU (n lo : Int) (L : List Ent) : zbs n lo L = (zcB n && decide (0 ≤ lo) && zdD n lo L L.length 0) := by
 rw [zbs,zfA,List.range_eq_range']
theorem zhc (a r : Int) (bs : List S72) (ps : List ByteArray) (x y a' r' : Int) (bs' : List S72) (ps' : List ByteArray) (x' y' : Int) : zax.f a r bs ps x y a' r' bs' ps' x' y' = some (za7 a r a' r') := by
 unfold zax.f za7
 by_cases h : r = r'
 ·rw [if_pos h]
  exact congrArg some (decide_eq_decide.2 (by omega))
 ·rw [if_neg h]
  exact congrArg some (decide_eq_decide.2 (by omega))
theorem zf3 (n lo : Int) (L : List Ent) (hL : L.length < 1466015503701) (hs : ∀ x ∈ L,zig x) (d : Nat) : ∀ j : Nat,j + d = L.length →
  Ev (fun k => zj.l0 k (j : Int) n lo L) (zdD n lo L d j) := by
 induction d with
 | zero =>
  intro j hj
  refine Ev.step (fun k => by rw [zj.l0]) ?_
  exact zT (by omega) (Ev.now _)
 | succ d ih =>
  intro j hj
  refine Ev.step (fun k => by rw [zj.l0]) ?_
  have h1 : j < L.length := by omega
  refine zF (by omega) (zF (by omega) ?_)
  have hf := hs _ (List.getElem_mem h1)
  have hps := hf.ps
  have hg : L.getD j z36 = L[j] := by rw [List.getD_eq_getElem?_getD,List.getElem?_eq_getElem h1];rfl
  have ih := ih (j + 1) (by omega)
  rw [zcj L j h1,zdD,hg]
  have J2 : ∀ b : Bool,Ev (fun k => zj.j2 k (j : Int) b n lo L L[j].f0 L[j].f1.f0 L[j].f1.f1 L[j].f1.f2 L[j].f1.f3 L[j].f1.f4.f0 L[j].f1.f4.f1) (!b && ((decide (j = 0) || za7 (L.getD (j - 1) z36).f1.f0 (L.getD (j - 1) z36).f1.f1 L[j].f1.f0 L[j].f1.f1) && zdD n lo L d (j + 1))) := by
   intro b
   refine Ev.step (fun k => by rw [zj.j2]) ?_
   rcases b with _ | _
   ·refine zT (by simp) ?_
    rw [zZ (x := (j : Int) + 1) (by omega) (by omega)]
    by_cases h0 : j = 0
    ·exact zT (by omega) (z6 ih (by simp [h0]))
    ·have e2 : wrap64 ((j : Int) - 1) = ((j - 1 : Nat) : Int) := by rw [zZ (by omega) (by omega)];omega
     have h2 : j - 1 < L.length := by omega
     have hg2 : L.getD (j - 1) z36 = L[j - 1] := by rw [List.getD_eq_getElem?_getD,List.getElem?_eq_getElem h2];rfl
     rw [e2,zcj L (j - 1) h2,hg2]
     refine zF (by omega) (zF (by omega) (zF (by omega) (zaB (zhc ..) ?_)))
     by_cases h3 : za7 L[j - 1].f1.f0 L[j - 1].f1.f1 L[j].f1.f0 L[j].f1.f1 = true
     ·exact zF h3 (z6 ih (by simp [h3]))
     ·exact zT h3 (z6 (Ev.now _) (by simp [h0,h3]))
   ·exact zF rfl (z6 (Ev.now _) (by simp))
  refine Ev.bind (zd9 _ _ _ _ _ _ _ hf.bs hf.tx (by omega) hf.t) (Ev.bind (zf2 n lo L _ _ _ _ _ _ hL hf.ps) ?_)
  unfold okE
  by_cases c1 : (zab L[j].f1.f0 L[j].f1.f1 L[j].f1.f2 L[j].f1.f3 L[j].f1.f4.f0 L[j].f1.f4.f1 n).2 = 0
  ·refine zF c1 ?_
   by_cases c2 : (zab L[j].f1.f0 L[j].f1.f1 L[j].f1.f2 L[j].f1.f3 L[j].f1.f4.f0 L[j].f1.f4.f1 n).1 = L[j].f0
   ·refine zF ((zbW _ _).2 c2) ?_
    by_cases c3 : L[j].f1.f1 ≤ lo
    ·refine zF c3 (z6 (J2 true) ?_)
     simp [show ¬ lo < L[j].f1.f1 by omega]
    ·refine zT c3 (z6 (J2 _) ?_)
     by_cases c4 : (zbF L lo L[j].f1.f1 L[j].f1.f3).length = 0
     ·simp [c1,c2,c4,show lo < L[j].f1.f1 by omega]
     ·have c5 : ((zbF L lo L[j].f1.f1 L[j].f1.f3).length : Int) > 0 := by omega
      simp only [decide_eq_true c5,decide_eq_false c4];simp
   ·exact zT (fun e => c2 ((zbW _ _).1 e)) (z6 (J2 true) (by simp [c2]))
  ·exact zT c1 (z6 (J2 true) (by simp [c1]))
theorem zhg (n lo : Int) (L : List Ent) (hL : L.length < 1466015503701) (hs : ∀ x ∈ L,zig x) : Ev (fun k => zj.f k n lo L) (zbs n lo L) := by
 rw [zeU]
 have J0 : ∀ b : Bool,Ev (fun k => zj.j0 k b n lo L) (!b && zdD n lo L L.length 0) := by
  intro b
  refine Ev.step (fun k => by rw [zj.j0]) ?_
  rcases b with _ | _
  ·exact zT (by simp) (z6 (zf3 n lo L hL hs L.length 0 (by omega)) (by simp))
  ·exact zF rfl (z6 (Ev.now _) (by simp))
 refine zaB (zdm n) ?_
 by_cases h0 : zcB n = true
 ·refine zF h0 (z6 (J0 _) ?_)
  by_cases h : lo < 0
  ·simp [h,show ¬ 0 ≤ lo by omega]
  ·simp [h,h0,show 0 ≤ lo by omega]
 ·exact zT h0 (z6 (J0 true) (by simp [h0]))
theorem zdJ : (zab 2 1 [] [] 0 0 4).2 = 0 := by
 rw [zab,if_pos]
 rw [zcd]
 simp [zcu,zei,zbV]
theorem zgT {a r : Int} {bs : List S72} {ps : List ByteArray} {x y n : Int} (h : (zab a r bs ps x y n).2 = 0) : (zab a r bs ps x y n).1.size = 32 := by
 unfold zab at h ⊢
 split
 ·exact ziH _
 ·next hm => rw [if_neg hm] at h;cases h
theorem zhW : zaJ.f = some true := by
 have hz := zgT zdJ
 have hv := zdJ
 have w1 : wrap64 (1 - 1) ≤ 0 := by rw [zZ (by decide) (by decide)];decide
 have l1 : ∀ L : List Ent,zbF L 0 1 [] = [] := fun L => if_pos w1
 have y1 : zfa 4 0 [] 2 1 [] [] 0 0 = 0 := by
  unfold zfa
  rw [if_neg (by simp [hv]),if_neg (by decide),if_neg (by simp [zdW]),if_neg (by simp [byE]),l1,if_neg (by simp)]
 have a1 : zaz.f 4 0 ([] : List Ent) 2 1 [] [] 0 0 = some (4,0,[⟨(zab 2 1 [] [] 0 0 4).1,⟨2,1,[],[],⟨0,0⟩⟩⟩],0) := by
  unfold zaz.f
  rw [if_pos (by simp),y1,zij,if_pos y1];rfl
 have y2 : zfa 4 0 [⟨(zab 2 1 [] [] 0 0 4).1,⟨2,1,[],[],⟨0,0⟩⟩⟩] 2 1 [] [] 0 0 = 8 := by
  unfold zfa
  rw [if_neg (by simp [hv]),if_neg (by decide),if_pos (by simp [zdW])]
 have a2 : zaz.f 4 0 [⟨(zab 2 1 [] [] 0 0 4).1,⟨2,1,[],[],⟨0,0⟩⟩⟩] 2 1 [] [] 0 0 = some (4,0,[⟨(zab 2 1 [] [] 0 0 4).1,⟨2,1,[],[],⟨0,0⟩⟩⟩],8) := by
  unfold zaz.f
  rw [if_pos (by simp),y2,zij,if_neg (by rw [y2];decide)]
 have r1 : zbs 4 0 [⟨(zab 2 1 [] [] 0 0 4).1,⟨2,1,[],[],⟨0,0⟩⟩⟩] = true := by
  rw [zeU]
  show (zcB 4 && decide ((0 : Int) ≤ 0) && (okE 4 0 _ 0 _ && true)) = true
  unfold okE
  simp [hv,l1,zcu,List.getD]
 unfold zaJ.f
 rw [a1]
 simp only [Option.bind_some]
 rw [a2]
 simp only [Option.bind_some,if_true,List.length_cons,List.length_nil]
 have e0 : zd [(⟨(zab 2 1 [] [] 0 0 4).1,⟨2,1,[],[],⟨0,0⟩⟩⟩ : Ent)] 0 = ⟨(zab 2 1 [] [] 0 0 4).1,⟨2,1,[],[],⟨0,0⟩⟩⟩ := rfl
 rw [e0]
 rw [if_pos (by decide),if_pos (by decide),if_pos (by show ((zab 2 1 [] [] 0 0 4).1.size : Int) = 32;omega)]
 unfold zaE.f
 rw [if_pos (by simp),r1];rfl
end Go.Proofs.Ytklhjlaofkngcaa.Px
namespace Go.Proofs.Ytklhjlaofkngcaa.Pure
open Go.RowKit Go.Proofs.Ytklhjlaofkngcaa.Px Go.Proofs.YtklhjlaofkngcaaW.PrintWords Go.Proofs.YtklhjlaofkngcaaW.PrintLast Go.Proofs.YtklhjlaofkngcaaW.PrintMore
theorem zfl (n lo : Int) (L : List Ent) (hL : L.length < 1466015503701) (hs : ∀ x ∈ L,zig x) (h0 : 0 ≤ lo) (hlo : lo < 1048576) (hr : zdK L) (last : Int) (hl : ∀ x ∈ L,x.f1.f1 ≤ last) (hlast : last < 4611686018427387904) (d : Nat) : ∀ i : Nat,1 ≤ i → i + d = 100 →
  Ev (fun k => zl.l0 k (upE L (lo + i - 1)) last (lo + i) n lo L) true := by
 have fin : ∀ i : Int,last < lo + i → Ev (fun k => if wrap64 (last - lo) ≥ 100 then (some true) else (zq.f k (upE L (lo + i - 1)) L).bind fun t => some t) true := fun i hi => by
  refine ev_ite (a := true) (b := true) (fun _ => Ev.now _) (fun _ => ?_) |> fun h => z6 h (by simp)
  rw [upE_all fun x hx => by have := hl x hx;omega]
  exact Ev.bind (zdZ L L (by omega) hs) (z6 (Ev.now _) (by simp))
 induction d with
 | zero =>
  intro i h1 hi
  obtain rfl : i = 100 := by omega
  refine Ev.step (fun k => by rw [zl.l0]) ?_
  by_cases h : lo + ((100 : Nat) : Int) ≤ last
  ·refine zF h ?_
   rw [zZ (x := lo + ((100 : Nat) : Int) - lo) (by omega) (by omega)]
   refine zT (by omega) (zF ?_ (Ev.now _))
   rw [zZ (by omega) (by omega)];omega
  ·exact zT h (fin _ (by omega))
 | succ d ih =>
  intro i h1 hi
  refine Ev.step (fun k => by rw [zl.l0]) ?_
  by_cases h : lo + (i : Int) ≤ last
  ·refine zF h ?_
   rw [zZ (x := lo + (i : Int) - lo) (by omega) (by omega)]
   refine zF (by omega) (Ev.bind (zdw n lo L _ hL) ?_)
   have e : upE L (lo + i - 1) ++ zb0 L (lo + i) = upE L (lo + i) := by
    have := upE_next (L := L) (r := lo + i - 1) hr
    rwa [show lo + (i : Int) - 1 + 1 = lo + i by omega] at this
   have hle : (upE L (lo + i)).length ≤ L.length := List.length_filter_le _ _
   rw [e,zZ (x := lo + (i : Int) + 1) (by omega) (by omega)]
   refine zF ?_ ?_
   ·rw [← List.length_append,e];omega
   ·have := ih (i + 1) (by omega) (by omega)
    rwa [show lo + ((i + 1 : Nat) : Int) - 1 = lo + i by omega,show lo + ((i + 1 : Nat) : Int) = lo + i + 1 by omega] at this
  ·exact zT h (fin _ (by omega))
theorem zfk (n lo : Int) (d : Nat) : ∀ i : Nat,1 ≤ i → i + d = 100 →
  Ev (fun k => zl.l0 k [] lo (wrap64 (lo + i)) n lo []) true := by
 have fin : Ev (fun k => if wrap64 (lo - lo) ≥ 100 then (some true) else (zq.f k ([] : List Ent) []).bind fun t => some t) true := by
  refine ev_ite (a := true) (b := true) (fun _ => Ev.now _) (fun _ => ?_) |> fun h => z6 h (by simp)
  exact Ev.bind (zdZ [] [] (by simp) (by simp)) (z6 (Ev.now _) (by simp))
 induction d with
 | zero =>
  intro i h1 hi
  obtain rfl : i = 100 := by omega
  refine Ev.step (fun k => by rw [zl.l0]) ?_
  by_cases h : wrap64 (lo + ((100 : Nat) : Int)) ≤ lo
  ·refine zF h (zT ?_ fin)
   have : wrap64 (wrap64 (lo + ((100 : Nat) : Int)) - lo) = 100 := by unfold wrap64;omega
   omega
  ·exact zT h fin
 | succ d ih =>
  intro i h1 hi
  refine Ev.step (fun k => by rw [zl.l0]) ?_
  by_cases h : wrap64 (lo + (i : Int)) ≤ lo
  ·refine zF h (zF ?_ (Ev.bind (zdw n lo [] _ (by simp)) (zF (by simp [zb0]) ?_)))
   ·have : wrap64 (wrap64 (lo + (i : Int)) - lo) = i := by unfold wrap64;omega
    omega
   ·have := ih (i + 1) (by omega) (by omega)
    rw [show wrap64 (wrap64 (lo + (i : Int)) + 1) = wrap64 (lo + ((i + 1 : Nat) : Int)) by unfold wrap64;omega]
    exact this
  ·exact zT h fin
theorem DagRounds : zcv := by
 rintro ⟨n,lo,L⟩ _ ⟨_,_,⟨l1,l2⟩⟩
 have hL : L.length < 1466015503701 := by have : L.length * 96 ≤ 140737488351232 := l1;omega
 have hs : ∀ x ∈ L,zig x := fun x hx => by
  obtain ⟨_,_,_,⟨v1,v2⟩,⟨p1,p2⟩,_⟩ := l2 x hx
  have v1' : x.f1.f2.length * 40 ≤ 140737488351232 := v1
  have p1' : x.f1.f3.length * 16 ≤ 140737488351232 := p1
  refine ⟨by omega,fun b hb => ?_,by omega,fun t ht => ?_⟩
  ·obtain ⟨_,_,q1,_⟩ := v2 b hb
   have q1' : b.f2.length * 16 ≤ 140737488351232 := q1
   omega
  ·have t1 : t.size ≤ 140737488351232 := p2 t ht
   omega
 show ∃ k,zl.f k n lo L = some true
 refine Ev.rounds (zaB zhW (zaB rfl (zF rfl ?_)))
 refine Ev.step (fun k => by rw [zl.j0]) ?_
 by_cases hf : (L.length : Int) ≤ 60
 ·refine zT (by simp [hf]) (Ev.bind (zhg n lo L hL hs) ?_)
  by_cases hr : zbs n lo L = true
  ·refine zF hr ?_
   obtain ⟨_,h0,hok⟩ := zeI hr
   by_cases hp : (L.length : Int) > 0
   ·refine zF hp ?_
    have e : wrap64 ((L.length : Int) - 1) = ((L.length - 1 : Nat) : Int) := by rw [zZ (by omega) (by omega)];omega
    have hi : L.length - 1 < L.length := by omega
    rw [e,zcj L _ hi]
    refine zF (by omega) (zF (by omega) ?_)
    refine Ev.step (fun k => by rw [zl.j1]) ?_
    have hlow := zhR hr
    have hround : ∀ x ∈ L,x.f1.f1 ≤ 1048576 := fun x hx => by
     obtain ⟨i,hi,rfl⟩ := List.mem_iff_getElem.1 hx
     have hv := (zgD.1 (hok i hi)).1
     unfold zab at hv
     split at hv
     ·next hm => exact ((zcd ..).1 hm).2.2.2.2.1
     ·cases hv
    have hm := List.getElem_mem hi
    have hlo : lo < 1048576 := by have := hlow _ hm;have := hround _ hm;omega
    have hlast : ∀ x ∈ L,x.f1.f1 ≤ L[L.length - 1].f1.f1 := fun x hx => by
     have := ziK (zfN hr) x hx
     rwa [List.getD_eq_getElem?_getD,List.getElem?_eq_getElem hi] at this
    have := zfl n lo L hL hs h0 hlo (zfN hr) L[L.length - 1].f1.f1 hlast (by have := hround _ hm;omega) 99 1 (by omega) (by omega)
    rw [upE_none fun x hx => by have := hlow x hx;omega] at this
    rw [zZ (by omega) (by omega)]
    exact this
   ·refine zT hp ?_
    obtain rfl : L = [] := List.length_eq_zero_iff.1 (by omega)
    refine Ev.step (fun k => by rw [zl.j1]) ?_
    exact zfk n lo 99 1 (by omega) (by omega)
  ·exact zT hr (Ev.now _)
 ·exact zF (by simp [hf]) (Ev.now _)
end Go.Proofs.Ytklhjlaofkngcaa.Pure
namespace Go.Proofs.Ytklhjlaofkngcaa.dagRounds
open Go.ChangeShapes Go.WideShapes Go.ChangeAt Go.RowKit
open Go.ChangeMaps (open_string shut_string)
open Go.RowKit Go.Proofs.Ytklhjlaofkngcaa.Px Go.Proofs.YtklhjlaofkngcaaW.PrintWords Go.Proofs.YtklhjlaofkngcaaW.PrintLast Go.Proofs.YtklhjlaofkngcaaW.PrintMore
set_option linter.unusedVariables false
theorem own : ownKnob Try.prog.godebug = none := by kernel_rfl
theorem laidOut : laidOutB Try.prog = true := by kernel_rfl
set_option maxRecDepth 100000 in
theorem contract (H : Type) (enc : TypeId × Value → H) (W : World) (base : Nat) (args : Array Value) (ds gs : List (DataW H)) (before : List MemPlace)
  (hval0 : ∀ (j : Nat) t v,Try.f5.params[j]? = some t → args[j]? = some v → Value.okWide Try.prog W .any base t v)
  (hW : DataW.Whole enc Try.prog Try.f5.params.toList Rows.dagRoundsSpec.vars false W args.toList ds gs before)
  (hsz0 : (DataW.weightsEach Try.prog (Try.f5.params.toList ++ Rows.dagRoundsSpec.plain.varTypes Try.prog) (ds ++ gs)).all (· ≤ reachBytes) = true) :
  Calls Try.prog 5 args W fun e W' => ∃ v,e = .returned v ∧ Rows.dagRoundsSpec.post enc Try.prog Try.f5 false true false false W args v W' := by
 have hval : ∀ (j : Nat) t v,Try.f5.params[j]? = some t → args[j]? = some v → Value.okWide Try.prog W .any base t v := hval0
 have hW' := hW
 obtain ⟨p,q,hA0,hV,rfl,hfz,hnd⟩ := hW
 have hA : DataW.TrodAll enc Try.prog W 0 (fun _ => true) true Try.f5.params.toList args.toList ds p := hA0
 have hsz := hsz0
 rw [Try.params5] at hA hval hsz
 obtain ⟨v0,vs0,d0,ds0,p0,q0,hargs,rfl,rfl,h0,r0⟩ := trodAll_cons hA
 obtain ⟨rfl,rfl,rfl⟩ := trodAll_nil r0
 obtain rfl : args = #[v0] := by cases args;simp_all
 obtain ⟨rfl,rfl⟩ := trodVars_none hV
 have t0 := h0
 have lt0 : ∀ x ∈ p0,x.block < W.heap.size := by obtain ⟨m,hm⟩ := t0;exact DataW.trod_lt m _ _ _ hm
 obtain ⟨a0,K0,ok0,wt0,bk0⟩ := fit_arg fit24 h0
 have wq0 := wt0 (fun n hn => of_decide_eq_true (List.all_eq_true.1 hsz n (DataW.weights_mem_each (j := 0) (t := rd24.t) (d := d0) rfl rfl n hn)))
 obtain ⟨cs0,rfl,sz0⟩ := okWide_struct Try.underlying24 (hval 0 24 v0 rfl rfl)
 obtain ⟨A0_2,c0_2,e0,l0_2,g0_2⟩ := k24_open (show k24.K W a0 _ from K0)
 obtain rfl : cs0 = #[.int .i64 a0.f0,.int .i64 a0.f1,.slice A0_2 a0.f2.length c0_2] := by have := congrArg List.toArray e0;simpa [Value.cells] using this
 obtain ⟨kk,hkk⟩ := Pure.DagRounds a0 ok0 wq0
 refine (zl.calls kk (a0.f0) (a0.f1) A0_2 c0_2 (a0.f2) true W g0_2 l0_2 hkk).mono fun e W' ⟨he,bel0⟩ => ?_
 have bel := bel0
 subst he
 exact ⟨_,rfl,_,_,_,[],_,[],hW',trodAll_mk1 (shut_bool Try.underlying4 _),(trodAll_cons_mk (Below.trod laidOut (by kernel_rfl) (of_decide_eq_true (by kernel_rfl)) t0 bel lt0) trodAll_mk0),rfl,bel.frame _,fun h => by cases h⟩
set_option maxRecDepth 100000 in
theorem lifted (os : Os) (started : os.Started) (H : Type) (enc : TypeId × Value → H) :
  ReturnsInHanded {} Try.checked os 5 .any (Rows.dagRoundsSpec.pre6 enc Try.prog Try.f5 Rows.dagRoundsRow.domain false) (Rows.dagRoundsSpec.post enc Try.prog Try.f5 false true false false) := by
 refine returnsInHanded_of_change_sized (C := Try.checked) own started (by kernel_rfl) Try.func5
  (ChangeSpec.witness6 (enc := enc) (C := Try.checked) false ⟨#[],#[.agg #[.int .i64 0,.int .i64 0,.slice none 0 0]],[]⟩ 8 (by kernel_rfl) (by kernel_rfl) (by kernel_rfl) (by kernel_rfl)) ?_
 intro W base args ds gs before hval hW _ hsz _
 exact contract H enc W base args ds gs before hval hW hsz
theorem proved : Rows.DagRoundsSaid :=
 OpenClaim.holds_of_wide 5 Try.f5 rfl rfl rfl rfl rfl rfl rfl ⟨rfl,rfl,rfl,rfl,rfl⟩ rfl rfl rfl rfl rfl (by kernel_rfl) Try.func5 (by kernel_rfl)
  (of_decide_eq_true (by kernel_rfl)) (by unfold Func.isWrapper;first | (rw [if_pos (by decide +kernel)];kernel_rfl) | (rw [if_neg (by decide +kernel)];exact ⟨rfl,rfl⟩))
  (fun os started H enc _ => lifted os started H enc)
#print axioms proved
end Go.Proofs.Ytklhjlaofkngcaa.dagRounds
namespace Go.Proofs.Ytklhjlaofkngcaa
theorem dagRounds_holds : Rows.DagRoundsSaid := dagRounds.proved
end Go.Proofs.Ytklhjlaofkngcaa