/- Part 31 of 33 of the proof of the law DagAsks: what is proved is the statement at the end of the last part; its conditions are those of the given row. -/
import Derived.Test.YtklhjlaofkngcaaZDagAsksY
import Derived.Test.YtklhjlaofkngcaaZDagAsksZ
import Derived.Test.YtklhjlaofkngcaaZDagAsksa
import Derived.Test.YtklhjlaofkngcaaZDagAsksd
namespace Go.Proofs.Ytklhjlaofkngcaa.Px
open Go.RowKit Go.Proofs.YtklhjlaofkngcaaW.PrintWords Go.Proofs.YtklhjlaofkngcaaW.PrintLast Go.Proofs.YtklhjlaofkngcaaW.PrintMore
attribute [local go_sem] zF zH zM zN zB zC zG zI
set_option linter.unusedVariables false
set_option linter.unusedSimpArgs false
def ahd (x y : Ent) : Prop := zbg x.f1.f0 x.f1.f1 y.f1.f0 y.f1.f1 = true
theorem zcU {x y : Ent} : ahd x y ↔ x.f1.f1 < y.f1.f1 ∨ x.f1.f1 = y.f1.f1 ∧ x.f1.f0 < y.f1.f0 := decide_eq_true_iff
def zf5 (L : List Ent) : Prop := L.Pairwise ahd
theorem zdj {x y : Ent} : ∀ {L : List Ent},y ∈ zeH L x ↔ y = x ∨ y ∈ L
 | [] => by simp [zeH]
 | z :: L => by
  rw [zeH]
  split
  ·simp
  ·rw [List.mem_cons,zdj,List.mem_cons]
   constructor
   ·rintro (h | h | h)
    ·exact .inr (.inl h)
    ·exact .inl h
    ·exact .inr (.inr h)
   ·rintro (h | h | h)
    ·exact .inr (.inl h)
    ·exact .inl h
    ·exact .inr (.inr h)
theorem zfF {x : Ent} : ∀ {L : List Ent},zf5 L → (∀ y ∈ L,¬ (y.f1.f0 = x.f1.f0 ∧ y.f1.f1 = x.f1.f1)) → zf5 (zeH L x)
 | [],_,_ => List.pairwise_singleton _ _
 | z :: L,h,hn => by
  rw [zeH]
  have hz := hn z (List.mem_cons_self ..)
  rw [zf5,List.pairwise_cons] at h
  split
  ·next hx =>
   have hx' := (zcU (x := x) (y := z)).1 hx
   rw [zf5,List.pairwise_cons]
   refine ⟨fun y hy => ?_,List.pairwise_cons.2 h⟩
   rcases List.mem_cons.1 hy with rfl | hy
   ·exact hx
   ·have := (zcU).1 (h.1 y hy)
    exact zcU.2 (by omega)
  ·next hx =>
   have hx' : ¬ (x.f1.f1 < z.f1.f1 ∨ x.f1.f1 = z.f1.f1 ∧ x.f1.f0 < z.f1.f0) := fun hc => hx ((zcU (x := x) (y := z)).2 hc)
   rw [zf5,List.pairwise_cons]
   refine ⟨fun y hy => ?_,zfF h.2 fun y hy => hn y (List.mem_cons_of_mem _ hy)⟩
   rcases zdj.1 hy with rfl | hy
   ·exact zcU.2 (by omega)
   ·exact h.1 y hy
theorem zii : ∀ {L M : List Ent},zf5 L → zf5 M → (∀ x,x ∈ L ↔ x ∈ M) → L = M
 | [],[],_,_,_ => rfl
 | [],y :: M,_,_,h => absurd ((h y).2 (List.mem_cons_self ..)) List.not_mem_nil
 | x :: L,[],_,_,h => absurd ((h x).1 (List.mem_cons_self ..)) List.not_mem_nil
 | x :: L,y :: M,h1,h2,h => by
  rw [zf5,List.pairwise_cons] at h1 h2
  have irr : ∀ z : Ent,¬ ahd z z := fun z hz => by have := zcU.1 hz;omega
  have asym : ∀ a b : Ent,ahd a b → ¬ ahd b a := fun a b p q => by have := zcU.1 p;have := zcU.1 q;omega
  have hxy : x = y := by
   rcases List.mem_cons.1 ((h x).1 (List.mem_cons_self ..)) with e | e
   ·exact e
   ·rcases List.mem_cons.1 ((h y).2 (List.mem_cons_self ..)) with e2 | e2
    ·exact e2.symm
    ·exact absurd (h1.1 y e2) (asym _ _ (h2.1 x e))
  subst hxy
  rw [zii h1.2 h2.2 fun z => ⟨fun hz => ?_,fun hz => ?_⟩]
  ·rcases List.mem_cons.1 ((h z).1 (List.mem_cons_of_mem _ hz)) with e | e
   ·subst e;exact absurd (h1.1 z hz) (irr z)
   ·exact e
  ·rcases List.mem_cons.1 ((h z).2 (List.mem_cons_of_mem _ hz)) with e | e
   ·subst e;exact absurd (h2.1 z hz) (irr z)
   ·exact e
def zeC (n : Int) (v : Vtx) : Ent := ⟨(zai v.f0 v.f1 v.f2 v.f3 v.f4.f0 v.f4.f1 n).1,v⟩
def ziQ (n low : Int) (L : List Ent) (v : Vtx) : Int := zff n low L v.f0 v.f1 v.f2 v.f3 v.f4.f0 v.f4.f1
def zio (n low : Int) (L : List Ent) (v : Vtx) : List Ent := zin n low L v.f0 v.f1 v.f2 v.f3 v.f4.f0 v.f4.f1
theorem zdm {n low : Int} {L : List Ent} {v : Vtx} : ziQ n low L v = 0 ↔ (zai v.f0 v.f1 v.f2 v.f3 v.f4.f0 v.f4.f1 n).2 = 0 ∧ low < v.f1 ∧ (∀ x ∈ L,x.f0 ≠ (zeC n v).f0) ∧ (∀ x ∈ L,¬ (x.f1.f0 = v.f0 ∧ x.f1.f1 = v.f1)) ∧ (zbt L low v.f1 v.f3).length = 0 := by
 unfold ziQ zff
 by_cases h1 : (zai v.f0 v.f1 v.f2 v.f3 v.f4.f0 v.f4.f1 n).2 = 0
 ·rw [if_neg (by simp [h1])]
  by_cases h2 : v.f1 ≤ low
  ·rw [if_pos h2];exact ⟨fun h => absurd h (by decide),fun h => absurd h.2.1 (by omega)⟩
  rw [if_neg h2]
  by_cases h3 : (zcG L (zai v.f0 v.f1 v.f2 v.f3 v.f4.f0 v.f4.f1 n).1).isSome = true
  ·rw [if_pos h3]
   refine ⟨fun h => absurd h (by decide),fun h => ?_⟩
   rw [zcG,List.find?_isSome] at h3
   obtain ⟨x,hx,h3⟩ := h3
   exact absurd (of_decide_eq_true h3) (h.2.2.1 x hx)
  rw [if_neg h3]
  by_cases h4 : (byE L v.f0 v.f1).isSome = true
  ·rw [if_pos h4]
   refine ⟨fun h => absurd h (by decide),fun h => ?_⟩
   rw [byE,List.find?_isSome] at h4
   obtain ⟨x,hx,h4⟩ := h4
   exact absurd (of_decide_eq_true h4) (h.2.2.2.1 x hx)
  rw [if_neg h4]
  by_cases h5 : 0 < (zbt L low v.f1 v.f3).length
  ·rw [if_pos h5];exact ⟨fun h => absurd h (by decide),fun h => absurd h.2.2.2.2 (by omega)⟩
  rw [if_neg h5]
  refine ⟨fun _ => ⟨h1,by omega,fun x hx he => h3 ?_,fun x hx he => h4 ?_,by omega⟩,fun _ => rfl⟩
  ·rw [zcG,List.find?_isSome];exact ⟨x,hx,decide_eq_true he⟩
  ·rw [byE,List.find?_isSome];exact ⟨x,hx,decide_eq_true he⟩
 ·rw [if_pos (by simp [h1])]
  exact ⟨fun h => absurd h h1,fun h => absurd h.1 h1⟩
theorem zfq {n low : Int} {L : List Ent} {v : Vtx} (h : ziQ n low L v = 0) : zio n low L v = zeH L (zeC n v) := if_pos h
theorem addV_no {n low : Int} {L : List Ent} {v : Vtx} (h : ziQ n low L v ≠ 0) : zio n low L v = L := if_neg h
theorem ziw {L M : List Ent} {low r : Int} {ps : List ByteArray} (h : (zbt L low r ps).length = 0) (hs : ∀ x ∈ L,x ∈ M) : (zbt M low r ps).length = 0 := by
 unfold zbt at h ⊢
 split
 ·rfl
 ·next hl =>
  rw [if_neg hl,List.length_eq_zero_iff,List.filter_eq_nil_iff] at h
  rw [List.length_eq_zero_iff,List.filter_eq_nil_iff]
  intro p hp
  have := h p hp
  simp only [Bool.not_eq_true',Bool.not_eq_false,List.any_eq_true] at this ⊢
  obtain ⟨x,hx,h2⟩ := this
  exact ⟨x,hs x hx,h2⟩
structure zc1 (n : Int) (l : List Vtx) (A : Nat → List Ent) : Prop where
 zero : A 0 = []
 why : ∀ i (h : i < l.length),ziQ n 0 (A i) l[i] = 0
 next : ∀ i (h : i < l.length),A (i + 1) = zio n 0 (A i) l[i]
theorem zc1.mem {n : Int} {l : List Vtx} {A : Nat → List Ent} (h : zc1 n l A) : ∀ i,i ≤ l.length → ∀ x,x ∈ A i ↔ ∃ (j : Nat) (hj : j < l.length),j < i ∧ x = zeC n l[j]
 | 0,_,x => by
  rw [h.zero]
  exact ⟨fun hx => absurd hx List.not_mem_nil,fun ⟨_,_,hj,_⟩ => absurd hj (Nat.not_lt_zero _)⟩
 | i + 1,hi,x => by
  rw [h.next i hi,zfq (h.why i hi),zdj,h.mem i (by omega) x]
  constructor
  ·rintro (rfl | ⟨j,hj,h1,h2⟩)
   ·exact ⟨i,hi,by omega,rfl⟩
   ·exact ⟨j,hj,by omega,h2⟩
  ·rintro ⟨j,hj,h1,h2⟩
   rcases Nat.lt_succ_iff_lt_or_eq.1 h1 with h1 | h1
   ·exact .inr ⟨j,hj,h1,h2⟩
   ·subst h1;exact .inl h2
theorem zc1.srt {n : Int} {l : List Vtx} {A : Nat → List Ent} (h : zc1 n l A) : ∀ i,i ≤ l.length → zf5 (A i)
 | 0,_ => by rw [h.zero];exact List.Pairwise.nil
 | i + 1,hi => by
  rw [h.next i hi,zfq (h.why i hi)]
  exact zfF (h.srt i (by omega)) (zdm.1 (h.why i hi)).2.2.2.1
theorem zc1.apart {n : Int} {l : List Vtx} {A : Nat → List Ent} (h : zc1 n l A) (i j : Nat) (hi : i < l.length) (hj : j < i) : (zeC n l[j]).f0 ≠ (zeC n l[i]).f0 ∧ ¬ (l[j].f0 = l[i].f0 ∧ l[j].f1 = l[i].f1) := by
 obtain ⟨_,_,h3,h4,_⟩ := zdm.1 (h.why i hi)
 have hm := (h.mem i (by omega) (zeC n l[j])).2 ⟨j,by omega,hj,rfl⟩
 exact ⟨h3 _ hm,h4 _ hm⟩
theorem zc1.one {n : Int} {l : List Vtx} {A : Nat → List Ent} (h : zc1 n l A) (i j : Nat) (hi : i < l.length) (hj : j < l.length) (he : (zeC n l[j]).f0 = (zeC n l[i]).f0 ∨ (l[j].f0 = l[i].f0 ∧ l[j].f1 = l[i].f1)) : i = j := by
 rcases Nat.lt_trichotomy i j with hl | hl | hl
 ·have := h.apart j i hj hl
  rcases he with he | he
  ·exact absurd he.symm this.1
  ·exact absurd ⟨he.1.symm,he.2.symm⟩ this.2
 ·exact hl
 ·have := h.apart i j hi hl
  rcases he with he | he
  ·exact absurd he this.1
  ·exact absurd he this.2
structure zgW (n : Int) (l : List Vtx) (B : List Ent) : Prop where
 srt : zf5 B
 mem : ∀ x ∈ B,∃ (j : Nat) (hj : j < l.length),x = zeC n l[j]
theorem zgW.step {n : Int} {l : List Vtx} {A : Nat → List Ent} {B : List Ent} (h : zc1 n l A) (hB : zgW n l B) (i : Nat) (hi : i < l.length) : zgW n l (zio n 0 B l[i]) ∧ (∀ x ∈ B,x ∈ zio n 0 B l[i]) ∧ ((∀ (j : Nat) (hj : j < l.length),j < i → zeC n l[j] ∈ B) → zeC n l[i] ∈ zio n 0 B l[i]) := by
 by_cases hw : ziQ n 0 B l[i] = 0
 ·rw [zfq hw]
  refine ⟨⟨zfF hB.srt (zdm.1 hw).2.2.2.1,fun x hx => ?_⟩,fun x hx => zdj.2 (.inr hx),fun _ => zdj.2 (.inl rfl)⟩
  rcases zdj.1 hx with rfl | hx
  ·exact ⟨i,hi,rfl⟩
  ·exact hB.mem x hx
 ·rw [addV_no hw]
  refine ⟨hB,fun x hx => hx,fun hj => ?_⟩
  by_cases hin : zeC n l[i] ∈ B
  ·exact hin
  ·exfalso
   refine hw (zdm.2 ?_)
   obtain ⟨h1,h2,_,_,h5⟩ := zdm.1 (h.why i hi)
   refine ⟨h1,h2,fun x hx he => ?_,fun x hx he => ?_,ziw h5 fun x hx => ?_⟩
   ·obtain ⟨j,hj',rfl⟩ := hB.mem x hx
    have := h.one i j hi hj' (.inl he)
    subst this
    exact hin hx
   ·obtain ⟨j,hj',rfl⟩ := hB.mem x hx
    have := h.one i j hi hj' (.inr he)
    subst this
    exact hin hx
   ·obtain ⟨j,hj',hji,rfl⟩ := (h.mem i (by omega) x).1 hx
    exact hj j hj' hji
theorem zgW.all {n : Int} {l : List Vtx} {A : Nat → List Ent} {B : List Ent} (h : zc1 n l A) (hB : zgW n l B) (hm : ∀ (j : Nat) (hj : j < l.length),zeC n l[j] ∈ B) : A l.length = B :=
 zii (h.srt _ (Nat.le_refl _)) hB.srt fun x => ⟨fun hx => by obtain ⟨j,hj,_,rfl⟩ := (h.mem _ (Nat.le_refl _) x).1 hx;exact hm j hj,fun hx => by obtain ⟨j,hj,rfl⟩ := hB.mem x hx;exact (h.mem _ (Nat.le_refl _) _).2 ⟨j,hj,hj,rfl⟩⟩
def zdt (L : List Ent) (r : Int) : List Ent := L.filter fun x => decide (x.f1.f1 = r)
theorem zcd (l : List Ent) (j : Nat) (h : j < l.length) : zd l (j : Int) = l[j] := by
 rw [zd,Int.toNat_natCast,List.getD_eq_getElem?_getD,List.getElem?_eq_getElem h];rfl
structure zgo (x : Ent) : Prop where
 bs : x.f1.f2.length < 4611686018427387904
 tx : ∀ b ∈ x.f1.f2,b.f2.length < 4611686018427387904
 ps : x.f1.f3.length ≤ 8796093022208
 t : ∀ t ∈ x.f1.f3,t.size < 4611686018427387904
instance decEnt : DecidableEq Ent := fun a b => decidable_of_iff (a.f0 = b.f0 ∧ zdk a.f1.f0 a.f1.f1 a.f1.f2 a.f1.f3 a.f1.f4.f0 a.f1.f4.f1 b.f1.f0 b.f1.f1 b.f1.f2 b.f1.f3 b.f1.f4.f0 b.f1.f4.f1 = true) ⟨fun ⟨h0,h1⟩ => by
  rw [zcM] at h1
  obtain ⟨a0,⟨a1,a2,a3,a4,⟨a5,a6⟩⟩⟩ := a;obtain ⟨b0,⟨b1,b2,b3,b4,⟨b5,b6⟩⟩⟩ := b
  simp only at h0 h1
  obtain ⟨rfl,rfl,rfl,rfl,rfl,rfl⟩ := h1
  rw [h0],fun h => by rw [h,zcM];exact ⟨rfl,rfl,rfl,rfl,rfl,rfl,rfl⟩⟩
theorem ze9 (a b : List Ent) (hl : a.length = b.length) (ha : a.length < 4611686018427387904) (hs : ∀ x ∈ a,zgo x) (d : Nat) : ∀ j,j + d = a.length →
  Ev (fun k => zr.l0 k a b (j : Int)) (decide (a.drop j = b.drop j)) := by
 induction d with
 | zero =>
  intro j hj
  refine Ev.step (fun k => by rw [zr.l0]) ?_
  refine zU (by omega) (z9 (Ev.now _) ?_)
  rw [List.drop_eq_nil_of_le (by omega),List.drop_eq_nil_of_le (by omega)];rfl
 | succ d ih =>
  intro j hj
  refine Ev.step (fun k => by rw [zr.l0]) ?_
  have h1 : j < a.length := by omega
  have h2 : j < b.length := by omega
  refine zJ (by omega) (zJ (by omega) (zJ (by omega) ?_))
  have hf := hs _ (List.getElem_mem h1)
  have hps := hf.ps
  rw [zcd a j h1,zcd b j h2,List.drop_eq_getElem_cons h1,List.drop_eq_getElem_cons h2,zad (by omega) (by omega)]
  refine Ev.bind (zeL _ _ _ _ _ _ _ _ _ _ _ _ hf.bs hf.tx (by omega)) ?_
  by_cases h : a[j] = b[j]
  ·refine zJ (by rw [h,zcM];exact ⟨rfl,rfl,rfl,rfl,rfl,rfl⟩) (zJ (by rw [h]) (z9 (ih (j + 1) (by omega)) ?_))
   rw [h];exact decide_eq_decide.2 ⟨fun h => by rw [h],fun h => (List.cons.inj h).2⟩
  ·have hno : decide (a[j] :: a.drop (j + 1) = b[j] :: b.drop (j + 1)) = false := decide_eq_false (fun e => h (List.cons.inj e).1)
   rw [hno]
   by_cases hv : zdk a[j].f1.f0 a[j].f1.f1 a[j].f1.f2 a[j].f1.f3 a[j].f1.f4.f0 a[j].f1.f4.f1 b[j].f1.f0 b[j].f1.f1 b[j].f1.f2 b[j].f1.f3 b[j].f1.f4.f0 b[j].f1.f4.f1 = true
   ·refine zJ hv (zU (fun e => h ?_) (Ev.now _))
    rw [zbx] at e
    rw [zcM] at hv
    generalize a[j] = p at *
    generalize b[j] = q at *
    obtain ⟨a0,⟨a1,a2,a3,a4,⟨a5,a6⟩⟩⟩ := p;obtain ⟨b0,⟨b1,b2,b3,b4,⟨b5,b6⟩⟩⟩ := q
    simp only at e hv
    obtain ⟨rfl,rfl,rfl,rfl,rfl,rfl⟩ := hv
    rw [e]
   ·exact zU hv (Ev.now _)
theorem zd0 (a b : List Ent) (ha : a.length < 4611686018427387904) (hs : ∀ x ∈ a,zgo x) : Ev (fun k => zr.f k a b) (decide (a = b)) := by
 by_cases h : a.length = b.length
 ·exact zJ (by omega) (ze9 a b h ha hs a.length 0 (by omega))
 ·refine zU (by omega) (z9 (Ev.now _) ?_)
  have : ¬ a = b := fun e => h (by rw [e])
  simp [this]
theorem zf2 (n lo r : Int) (L : List Ent) (hL : L.length < 1466015503701) (d : Nat) : ∀ (j : Nat) (acc : List Ent),j + d = L.length → acc.length ≤ j →
  Ev (fun k => zS.l0 k r acc (j : Int) n lo L) (acc ++ zdt (L.drop j) r) := by
 induction d with
 | zero =>
  intro j acc hj _
  refine Ev.step (fun k => by rw [zS.l0]) ?_
  refine zU (by omega) (z9 (Ev.now _) ?_)
  rw [List.drop_eq_nil_of_le (by omega)];simp [zdt]
 | succ d ih =>
  intro j acc hj ha
  refine Ev.step (fun k => by rw [zS.l0]) ?_
  have h1 : j < L.length := by omega
  refine zJ (by omega) (zJ (by omega) ?_)
  rw [zcd L j h1,zad (by omega) (by omega),List.drop_eq_getElem_cons h1]
  by_cases h : L[j].f1.f1 = r
  ·refine zJ h (zJ (by omega) (z9 (ih (j + 1) _ (by omega) (by simp;omega)) ?_))
   rw [zdt,zdt,show (L[j] :: L.drop (j + 1)).filter (fun x => decide (x.f1.f1 = r)) = L[j] :: (L.drop (j + 1)).filter (fun x => decide (x.f1.f1 = r)) from List.filter_cons_of_pos (by simpa using h),List.append_assoc];rfl
  ·refine zU h (z9 (ih (j + 1) _ (by omega) (by omega)) ?_)
   rw [zdt,zdt,List.filter_cons_of_neg (by simpa using h)]
theorem zeY (n lo r : Int) (L : List Ent) (hL : L.length < 1466015503701) : Ev (fun k => zS.f k n lo L r) (zdt L r) :=
 z9 (zf2 n lo r L hL L.length 0 [] (by omega) (by simp)) (by simp)
theorem zgJ (n lo : Int) (g : ByteArray) (L : List Ent) (hL : L.length < 4611686018427387904) (d : Nat) : ∀ j : Nat,j + d = L.length →
  Ev (fun k => zaa.l0 k g (j : Int) n lo L) (zcy (zcG (L.drop j) g)) := by
 induction d with
 | zero =>
  intro j hj
  refine Ev.step (fun k => by rw [zaa.l0]) ?_
  refine zU (by omega) (z9 (Ev.now _) ?_)
  rw [List.drop_eq_nil_of_le (by omega)];rfl
 | succ d ih =>
  intro j hj
  refine Ev.step (fun k => by rw [zaa.l0]) ?_
  have h1 : j < L.length := by omega
  refine zJ (by omega) (zJ (by omega) ?_)
  rw [zcd L j h1,zad (by omega) (by omega),List.drop_eq_getElem_cons h1,zcG]
  by_cases h : L[j].f0 = g
  ·rw [show (L[j] :: L.drop (j + 1)).find? (fun x => decide (x.f0 = g)) = some L[j] from List.find?_cons_of_pos (by simpa using h)]
   exact zJ ((zbx _ _).2 h) (Ev.now _)
  ·rw [List.find?_cons_of_neg (by simpa using h)]
   exact zU (fun e => h ((zbx _ _).1 e)) (ih (j + 1) (by omega))
theorem zhL (n lo : Int) (L : List Ent) (g : ByteArray) (hL : L.length < 4611686018427387904) : Ev (fun k => zaa.f k n lo L g) (zcy (zcG L g)) := zgJ n lo g L hL L.length 0 (by omega)
theorem zhK (n lo a r : Int) (L : List Ent) (hL : L.length < 4611686018427387904) (d : Nat) : ∀ j : Nat,j + d = L.length →
  Ev (fun k => zag.l0 k a r (j : Int) n lo L) (zcy (byE (L.drop j) a r)) := by
 induction d with
 | zero =>
  intro j hj
  refine Ev.step (fun k => by rw [zag.l0]) ?_
  refine zU (by omega) (z9 (Ev.now _) ?_)
  rw [List.drop_eq_nil_of_le (by omega)];rfl
 | succ d ih =>
  intro j hj
  refine Ev.step (fun k => by rw [zag.l0]) ?_
  have h1 : j < L.length := by omega
  refine zJ (by omega) (zJ (by omega) ?_)
  rw [zcd L j h1,zad (by omega) (by omega),List.drop_eq_getElem_cons h1,byE]
  by_cases h : L[j].f1.f0 = a
  ·refine zJ h ?_
   by_cases h2 : L[j].f1.f1 = r
   ·rw [show (L[j] :: L.drop (j + 1)).find? (fun x => decide (x.f1.f0 = a ∧ x.f1.f1 = r)) = some L[j] from List.find?_cons_of_pos (by simp [h,h2])]
    exact zJ h2 (Ev.now _)
   ·rw [List.find?_cons_of_neg (by simp [h2])]
    exact zU h2 (ih (j + 1) (by omega))
  ·rw [List.find?_cons_of_neg (by simp [h])]
   exact zU h (ih (j + 1) (by omega))
theorem refBy_ev (n lo : Int) (L : List Ent) (a r : Int) (hL : L.length < 4611686018427387904) : Ev (fun k => zag.f k n lo L a r) (zcy (byE L a r)) := zhK n lo a r L hL L.length 0 (by omega)
theorem zhM (a r : Int) (bs : List S72) (ps : List ByteArray) (x y : Int) (R : List Ent) (hR : R.length < 4611686018427387904) (hp : ps.length ≤ 8796093022208) (i : Nat) (hi : i < ps.length) (out : List ByteArray) (ho : out.length ≤ i) (V : List ByteArray)
  (hN : Ev (fun k => zx.l0 k R (if R.any (fun e => decide (e.f0 = ps[i])) = true then out else out ++ [ps[i]]) ((i + 1 : Nat) : Int) a r bs ps x y) V) (d : Nat) : ∀ (j : Nat) (has : Bool),j + d = R.length → (has || (R.drop j).any (fun e => decide (e.f0 = ps[i]))) = R.any (fun e => decide (e.f0 = ps[i])) →
  Ev (fun k => zx.l1 k R out (i : Int) has (j : Int) a r bs ps x y) V := by
 induction d with
 | zero =>
  intro j has hj hh
  refine Ev.step (fun k => by rw [zx.l1]) ?_
  refine zU (by omega) ?_
  rw [List.drop_eq_nil_of_le (by omega),List.any_nil,Bool.or_false] at hh
  rw [← hh] at hN
  rcases has with _ | _
  ·rw [zeq ps i hi,zad (by omega) (by omega)]
   exact zU (by simp) (zJ (by omega) (zJ (by omega) (zJ (by omega) (by simpa using hN))))
  ·rw [zad (by omega) (by omega)]
   exact zJ rfl (by simpa using hN)
 | succ d ih =>
  intro j has hj hh
  refine Ev.step (fun k => by rw [zx.l1]) ?_
  have h1 : j < R.length := by omega
  refine zJ (by omega) ?_
  rw [zcd R j h1,zad (x := (j : Int) + 1) (by omega) (by omega)]
  rw [List.drop_eq_getElem_cons h1,List.any_cons] at hh
  rcases has with _ | _
  ·rw [zeq ps i hi]
   refine zU (by simp) (zJ (by omega) (zJ (by omega) (zJ (by omega) (ih (j + 1) _ (by omega) ?_))))
   rw [← hh,zdn];simp
  ·exact zJ rfl (ih (j + 1) true (by omega) (by simpa using hh))
theorem zhf (a r : Int) (bs : List S72) (ps : List ByteArray) (x y : Int) (R : List Ent) (hR : R.length < 4611686018427387904) (hp : ps.length ≤ 8796093022208) (d : Nat) : ∀ (i : Nat) (out : List ByteArray),i + d = ps.length → out.length ≤ i →
  Ev (fun k => zx.l0 k R out (i : Int) a r bs ps x y) (out ++ (ps.drop i).filter fun p => !R.any fun e => decide (e.f0 = p)) := by
 induction d with
 | zero =>
  intro i out hi ho
  refine Ev.step (fun k => by rw [zx.l0]) ?_
  refine zU (by omega) (z9 (Ev.now _) ?_)
  rw [List.drop_eq_nil_of_le (by omega)];simp
 | succ d ih =>
  intro i out hi ho
  refine Ev.step (fun k => by rw [zx.l0]) ?_
  have h1 : i < ps.length := by omega
  refine zJ (by omega) (zhM a r bs ps x y R hR hp i h1 out ho _ (z9 (ih (i + 1) _ (by omega) ?_) ?_) R.length 0 false (by omega) (by simp))
  ·split
   ·omega
   ·simp only [List.length_append,List.length_singleton];omega
  ·rw [List.drop_eq_getElem_cons h1,List.filter_cons]
   by_cases h : R.any (fun e => decide (e.f0 = ps[i])) = true
   ·rw [if_pos h,if_neg (by rw [h];simp)]
   ·rw [if_neg h,if_pos (by rw [Bool.not_eq_true] at h;rw [h];rfl),List.append_assoc];rfl
theorem zd1 (n lo : Int) (L : List Ent) (a r : Int) (bs : List S72) (ps : List ByteArray) (x y : Int) (hL : L.length < 1466015503701) (hp : ps.length ≤ 8796093022208) :
  Ev (fun k => zx.f k n lo L a r bs ps x y) (zbt L lo r ps) := by
 unfold zbt
 by_cases h : wrap64 (r - 1) ≤ lo
 ·rw [if_pos h];exact zJ h (Ev.now _)
 ·rw [if_neg h]
  have hR : (zdt L (wrap64 (r - 1))).length ≤ L.length := List.length_filter_le _ _
  refine zU h (Ev.bind (zeY n lo _ L hL) (z9 (zhf a r bs ps x y _ (by omega) hp ps.length 0 [] (by omega) (by simp)) ?_))
  rw [List.drop_zero,List.nil_append]
  congr 1
  funext p
  rw [zdt,List.any_filter]
  congr 1
  refine congrArg (fun q => L.any q) (funext fun e => ?_)
  by_cases h1 : e.f1.f1 = wrap64 (r - 1) <;> by_cases h2 : e.f0 = p <;> simp [h1,h2]
def zdH (n lo : Int) (L : List Ent) : Nat → Nat → Bool
 | 0,_ => true
 | d + 1,j => okE n lo L j (L.getD j z36) && zdH n lo L d (j + 1)
theorem zfC (n lo : Int) (L : List Ent) : ∀ d j : Nat,zdH n lo L d j = (List.range' j d).all fun i => okE n lo L i (L.getD i z36)
 | 0,_ => rfl
 | d + 1,j => by rw [zdH,zfC n lo L d (j + 1),List.range'_succ,List.all_cons]
theorem zeZ (n lo : Int) (L : List Ent) : zbQ n lo L = (zcO n && decide (0 ≤ lo) && zdH n lo L L.length 0) := by
 rw [zbQ,zfC,List.range_eq_range']
theorem zhd (a r : Int) (bs : List S72) (ps : List ByteArray) (x y a' r' : Int) (bs' : List S72) (ps' : List ByteArray) (x' y' : Int) : zaA.f a r bs ps x y a' r' bs' ps' x' y' = some (zbg a r a' r') := by
 unfold zaA.f zbg
 by_cases h : r = r'
 ·rw [if_pos h]
  exact congrArg some (decide_eq_decide.2 (by omega))
 ·rw [if_neg h]
  exact congrArg some (decide_eq_decide.2 (by omega))
theorem zf1 (n lo : Int) (L : List Ent) (hL : L.length < 1466015503701) (hs : ∀ x ∈ L,zgo x) (d : Nat) : ∀ j : Nat,j + d = L.length →
  Ev (fun k => zj.l0 k (j : Int) n lo L) (zdH n lo L d j) := by
 induction d with
 | zero =>
  intro j hj
  refine Ev.step (fun k => by rw [zj.l0]) ?_
  exact zU (by omega) (Ev.now _)
 | succ d ih =>
  intro j hj
  refine Ev.step (fun k => by rw [zj.l0]) ?_
  have h1 : j < L.length := by omega
  refine zJ (by omega) (zJ (by omega) ?_)
  have hf := hs _ (List.getElem_mem h1)
  have hps := hf.ps
  have hg : L.getD j z36 = L[j] := by rw [List.getD_eq_getElem?_getD,List.getElem?_eq_getElem h1];rfl
  have ih := ih (j + 1) (by omega)
  rw [zcd L j h1,zdH,hg]
  have J2 : ∀ b : Bool,Ev (fun k => zj.j2 k (j : Int) b n lo L L[j].f0 L[j].f1.f0 L[j].f1.f1 L[j].f1.f2 L[j].f1.f3 L[j].f1.f4.f0 L[j].f1.f4.f1) (!b && ((decide (j = 0) || zbg (L.getD (j - 1) z36).f1.f0 (L.getD (j - 1) z36).f1.f1 L[j].f1.f0 L[j].f1.f1) && zdH n lo L d (j + 1))) := by
   intro b
   refine Ev.step (fun k => by rw [zj.j2]) ?_
   rcases b with _ | _
   ·refine zU (by simp) ?_
    rw [zad (x := (j : Int) + 1) (by omega) (by omega)]
    by_cases h0 : j = 0
    ·exact zU (by omega) (z9 ih (by simp [h0]))
    ·have e2 : wrap64 ((j : Int) - 1) = ((j - 1 : Nat) : Int) := by rw [zad (by omega) (by omega)];omega
     have h2 : j - 1 < L.length := by omega
     have hg2 : L.getD (j - 1) z36 = L[j - 1] := by rw [List.getD_eq_getElem?_getD,List.getElem?_eq_getElem h2];rfl
     rw [e2,zcd L (j - 1) h2,hg2]
     refine zJ (by omega) (zJ (by omega) (zJ (by omega) (zaX (zhd ..) ?_)))
     by_cases h3 : zbg L[j - 1].f1.f0 L[j - 1].f1.f1 L[j].f1.f0 L[j].f1.f1 = true
     ·exact zJ h3 (z9 ih (by simp [h3]))
     ·exact zU h3 (z9 (Ev.now _) (by simp [h0,h3]))
   ·exact zJ rfl (z9 (Ev.now _) (by simp))
  refine Ev.bind (zec _ _ _ _ _ _ _ hf.bs hf.tx (by omega) hf.t) (Ev.bind (zd1 n lo L _ _ _ _ _ _ hL hf.ps) ?_)
  unfold okE
  by_cases c1 : (zai L[j].f1.f0 L[j].f1.f1 L[j].f1.f2 L[j].f1.f3 L[j].f1.f4.f0 L[j].f1.f4.f1 n).2 = 0
  ·refine zJ c1 ?_
   by_cases c2 : (zai L[j].f1.f0 L[j].f1.f1 L[j].f1.f2 L[j].f1.f3 L[j].f1.f4.f0 L[j].f1.f4.f1 n).1 = L[j].f0
   ·refine zJ ((zbx _ _).2 c2) ?_
    by_cases c3 : L[j].f1.f1 ≤ lo
    ·refine zJ c3 (z9 (J2 true) ?_)
     simp [show ¬ lo < L[j].f1.f1 by omega]
    ·refine zU c3 (z9 (J2 _) ?_)
     by_cases c4 : (zbt L lo L[j].f1.f1 L[j].f1.f3).length = 0
     ·simp [c1,c2,c4,show lo < L[j].f1.f1 by omega]
     ·have c5 : ((zbt L lo L[j].f1.f1 L[j].f1.f3).length : Int) > 0 := by omega
      simp only [decide_eq_true c5,decide_eq_false c4];simp
   ·exact zU (fun e => c2 ((zbx _ _).1 e)) (z9 (J2 true) (by simp [c2]))
  ·exact zU c1 (z9 (J2 true) (by simp [c1]))
theorem zhh (n lo : Int) (L : List Ent) (hL : L.length < 1466015503701) (hs : ∀ x ∈ L,zgo x) : Ev (fun k => zj.f k n lo L) (zbQ n lo L) := by
 rw [zeZ]
 have J0 : ∀ b : Bool,Ev (fun k => zj.j0 k b n lo L) (!b && zdH n lo L L.length 0) := by
  intro b
  refine Ev.step (fun k => by rw [zj.j0]) ?_
  rcases b with _ | _
  ·exact zU (by simp) (z9 (zf1 n lo L hL hs L.length 0 (by omega)) (by simp))
  ·exact zJ rfl (z9 (Ev.now _) (by simp))
 refine zaX (zds n) ?_
 by_cases h0 : zcO n = true
 ·refine zJ h0 (z9 (J0 _) ?_)
  by_cases h : lo < 0
  ·simp [h,show ¬ 0 ≤ lo by omega]
  ·simp [h,h0,show 0 ≤ lo by omega]
 ·exact zU h0 (z9 (J0 true) (by simp [h0]))
theorem zdN : (zai 2 1 [] [] 0 0 4).2 = 0 := by
 rw [zai,if_pos]
 rw [zcC]
 simp [zcB,zen,zb1]
theorem zgS {a r : Int} {bs : List S72} {ps : List ByteArray} {x y n : Int} (h : (zai a r bs ps x y n).2 = 0) : (zai a r bs ps x y n).1.size = 32 := by
 unfold zai at h ⊢
 split
 ·exact ziJ _
 ·next hm => rw [if_neg hm] at h;cases h
theorem zhZ : zaQ.f = some true := by
 have hz := zgS zdN
 have hv := zdN
 have w1 : wrap64 (1 - 1) ≤ 0 := by rw [zad (by decide) (by decide)];decide
 have l1 : ∀ L : List Ent,zbt L 0 1 [] = [] := fun L => if_pos w1
 have y1 : zff 4 0 [] 2 1 [] [] 0 0 = 0 := by
  unfold zff
  rw [if_neg (by simp [hv]),if_neg (by decide),if_neg (by simp [zcG]),if_neg (by simp [byE]),l1,if_neg (by simp)]
 have a1 : zaC.f 4 0 ([] : List Ent) 2 1 [] [] 0 0 = some (4,0,[⟨(zai 2 1 [] [] 0 0 4).1,⟨2,1,[],[],⟨0,0⟩⟩⟩],0) := by
  unfold zaC.f
  rw [if_pos (by simp),y1,zin,if_pos y1];rfl
 have y2 : zff 4 0 [⟨(zai 2 1 [] [] 0 0 4).1,⟨2,1,[],[],⟨0,0⟩⟩⟩] 2 1 [] [] 0 0 = 8 := by
  unfold zff
  rw [if_neg (by simp [hv]),if_neg (by decide),if_pos (by simp [zcG])]
 have a2 : zaC.f 4 0 [⟨(zai 2 1 [] [] 0 0 4).1,⟨2,1,[],[],⟨0,0⟩⟩⟩] 2 1 [] [] 0 0 = some (4,0,[⟨(zai 2 1 [] [] 0 0 4).1,⟨2,1,[],[],⟨0,0⟩⟩⟩],8) := by
  unfold zaC.f
  rw [if_pos (by simp),y2,zin,if_neg (by rw [y2];decide)]
 have r1 : zbQ 4 0 [⟨(zai 2 1 [] [] 0 0 4).1,⟨2,1,[],[],⟨0,0⟩⟩⟩] = true := by
  rw [zeZ]
  show (zcO 4 && decide ((0 : Int) ≤ 0) && (okE 4 0 _ 0 _ && true)) = true
  unfold okE
  simp [hv,l1,zcB,List.getD]
 unfold zaQ.f
 rw [a1]
 simp only [Option.bind_some]
 rw [a2]
 simp only [Option.bind_some,if_true,List.length_cons,List.length_nil]
 have e0 : zd [(⟨(zai 2 1 [] [] 0 0 4).1,⟨2,1,[],[],⟨0,0⟩⟩⟩ : Ent)] 0 = ⟨(zai 2 1 [] [] 0 0 4).1,⟨2,1,[],[],⟨0,0⟩⟩⟩ := rfl
 rw [e0]
 rw [if_pos (by decide),if_pos (by decide),if_pos (by show ((zai 2 1 [] [] 0 0 4).1.size : Int) = 32;omega)]
 unfold zaB.f
 rw [if_pos (by simp),r1];rfl
end Go.Proofs.Ytklhjlaofkngcaa.Px