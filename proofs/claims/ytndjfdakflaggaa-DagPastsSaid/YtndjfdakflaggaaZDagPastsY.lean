/- Part 25 of 30 of the proof of the law DagPasts: what is proved is the statement at the end of the last part; its conditions are those of the given row. -/
import Derived.Test.YtndjfdakflaggaaZDagPastsW
import Derived.Test.YtndjfdakflaggaaZDagPastsX
namespace Go.Proofs.Ytndjfdakflaggaa.Px
open Go.RowKit Go.Proofs.YtndjfdakflaggaaW.PrintWords Go.Proofs.YtndjfdakflaggaaW.PrintLast Go.Proofs.YtndjfdakflaggaaW.PrintMore
attribute [local go_sem] zt zv zA zB zq zr zu zw
set_option linter.unusedVariables false
set_option linter.unusedSimpArgs false
def selvedgeref11_Right.B12 : List Nat := [0,1,3,7,15,7,39,127,255,511,7,1031,4095,8191,16383]
def zV.f (k : Nat) (a0_0 : Int) (a0_1 : Int) (l0_2 : List (S34)) (a1_0 : Int) (a1_1 : Int) (l1_2 : List (S34)) : Option (Bool) := (zk.f k l0_2 l1_2).bind fun t360 => (if t360 = true then (if a0_0 = a1_0 then (some (a0_1 == a1_1)) else (some false)) else (some false))
set_option maxHeartbeats 8000000 in
set_option maxRecDepth 100000 in
theorem zV.calls (k : Nat) (a0_0 : Int) (a0_1 : Int) (A0_2 : Option Addr) (c0_2 : Nat) (l0_2 : List (S34)) (a1_0 : Int) (a1_1 : Int) (A1_2 : Option Addr) (c1_2 : Nat) (l1_2 : List (S34)) (r : Bool) (w : World) (hr0_2 : Kd.C k34 w A0_2 l0_2.length l0_2) (hc0_2 : l0_2.length ≤ c0_2) (hr1_2 : Kd.C k34 w A1_2 l1_2.length l1_2) (hc1_2 : l1_2.length ≤ c1_2) (h : zV.f k a0_0 a0_1 l0_2 a1_0 a1_1 l1_2 = some r) :
  Calls Try.prog 16 #[.agg #[.int .i64 a0_0,.int .i64 a0_1,.slice A0_2 l0_2.length c0_2],.agg #[.int .i64 a1_0,.int .i64 a1_1,.slice A1_2 l1_2.length c1_2]] w fun e w' => e = .returned (.bool r) ∧ Below w.heap.size w w' := by
 have hu24 := Try.underlying24
 have HR0_2 := za.mk hr0_2
 have HC0_2 := za.mk hc0_2
 clear hr0_2 hc0_2
 have HR1_2 := za.mk hr1_2
 have HC1_2 := za.mk hc1_2
 clear hr1_2 hc1_2
 have HB := za.mk (Below.refl w.heap.size w)
 have H : ((zk.f k l0_2 l1_2).bind fun t360 => (if t360 = true then (if a0_0 = a1_0 then (some (a0_1 == a1_1)) else (some false)) else (some false))) = some r := h
 clear h
 replace H := Option.bind_eq_some_iff.mp H
 obtain ⟨t360,A30,H⟩ := H
 replace H : (if t360 = true then (if a0_0 = a1_0 then (some (a0_1 == a1_1)) else (some false)) else (some false)) = some r := H
 have A3 := za.mk A30
 clear A30
 by_cases c4 : t360 = true
 focus
  subst c4
  have H1 : (if a0_0 = a1_0 then (some (a0_1 == a1_1)) else (some false)) = some r := by rw [if_pos rfl] at H;exact H
  clear H
  have H := H1
  clear H1
  by_cases c5 : a0_0 = a1_0
  focus
   rw [if_pos c5] at H
   have c5b0 : (a0_0 == a1_0) = true := beq_iff_eq.mpr c5
   have c5b1 : (a0_0 != a1_0) = false := bne_eq_false_iff_eq.mpr c5
   clear c5
   obtain rfl := Option.some.inj H
   have EQ0 := True.intro
  rotate_left
  focus
   rw [if_neg c5] at H
   have c5b0 : (a0_0 == a1_0) = false := beq_eq_false_iff_ne.mpr c5
   have c5b1 : (a0_0 != a1_0) = true := bne_iff_ne.mpr c5
   obtain rfl := Option.some.inj H
   have EQ0 := True.intro
 rotate_left 2
 focus
  replace c4 := Bool.eq_false_iff.mpr c4
  subst c4
  have H1 : (some false) = some r := by rw [if_neg (show ¬ (false = true) by decide)] at H;exact H
  clear H
  have H := H1
  clear H1
  obtain rfl := Option.some.inj H
  have EQ1 := True.intro
 all_goals
  go_enter Try.func16,Try.ntmps16
  go_wp2_with (first | ((with_reducible refine zp (N := 2) rfl ?_);refine zn rfl (N := 2) rfl (cs := #[.int .i64 a0_0,.int .i64 a0_1,.slice A0_2 l0_2.length c0_2]) (t := 24) hrq ?_;intro gb358 hg wQN22 hbox hb;have n_ := haq (zh hBq hb) <| haq (hbox) <| haq ((by rw [hg];exact (zj hBq) : w.heap.size ≤ gb358)) <| haq ((by rw [hg];exact (zj hBq) : w.heap.size ≤ gb358)) <| trivial;clear HB;obtain ⟨HB,BK358,GW358,GE358,_⟩ := n_;clear hb hbox hg) | ((with_reducible refine zp (N := 3) rfl ?_);refine zn rfl (N := 3) rfl (cs := #[.int .i64 a1_0,.int .i64 a1_1,.slice A1_2 l1_2.length c1_2]) (t := 24) hrq ?_;intro gb359 hg wQN32 hbox hb;have n_ := haq (hbq BK358.out hb) <| haq (zh hCq hb) <| haq (hbox) <| haq ((by rw [hg];exact (zj hCq) : w.heap.size ≤ gb359)) <| haq ((by rw [hg];exact (zj hCq) : w.heap.size ≤ gb359)) <| haq (hnq hg BK358.out) <| haq (hmq hg BK358.out) <| trivial;clear BK358 HB;obtain ⟨BK358,HB,BK359,GW359,GE359,NBQN37,NBQN38,_⟩ := n_;clear hb hbox hg;have hnbQN39 := NBQN37.out;have hncQN310 := NBQN38.out;obtain ⟨hczQN311,hczQN312,hczQN313,hfzQN314,hfzQN315,hfzQN316⟩ := hcq3 BK358.out;obtain ⟨hczQN317,hczQN318,hczQN319,hfzQN320,hfzQN321,hfzQN322⟩ := hcq3 BK359.out) | (have _ := EQ0;((with_reducible refine zN (f := 10) rfl ?_);refine zaG (some 10) rfl rfl Try.func10 (by kernel_rfl) rfl #[.slice A0_2 l0_2.length c0_2,.slice A1_2 l1_2.length c1_2] rfl hMq ?_;(with_reducible refine (zk.calls k _ _ l0_2 _ _ l1_2 true _ ?side1 ?side2 ?side3 ?side4 A3.out).mono ?_);(case side1 => exact hKq (Kd.C_below HR0_2.out HB.out));(case side2 => exact HC0_2.out);(case side3 => exact hKq (Kd.C_below HR1_2.out HB.out));(case side4 => exact HC1_2.out);rintro e wQF10A31 ⟨rfl,hb⟩;refine ⟨_,rfl,?_⟩;have n_ := haq (hbq BK358.out hb) <| haq (hbq BK359.out hb) <| haq (zh hCq hb) <| trivial;clear BK358 BK359 HB;obtain ⟨BK358,BK359,HB,_⟩ := n_;(try clear hb);(try clear hb2);(try clear hk);(try clear hi);obtain ⟨hczQF10A34,hczQF10A35,hczQF10A36,hfzQF10A37,hfzQF10A38,hfzQF10A39⟩ := hcq3 BK358.out;obtain ⟨hczQF10A310,hczQF10A311,hczQF10A312,hfzQF10A313,hfzQF10A314,hfzQF10A315⟩ := hcq3 BK359.out)) | (have _ := EQ1;((with_reducible refine zN (f := 10) rfl ?_);refine zaG (some 10) rfl rfl Try.func10 (by kernel_rfl) rfl #[.slice A0_2 l0_2.length c0_2,.slice A1_2 l1_2.length c1_2] rfl hMq ?_;(with_reducible refine (zk.calls k _ _ l0_2 _ _ l1_2 false _ ?side1 ?side2 ?side3 ?side4 A3.out).mono ?_);(case side1 => exact hKq (Kd.C_below HR0_2.out HB.out));(case side2 => exact HC0_2.out);(case side3 => exact hKq (Kd.C_below HR1_2.out HB.out));(case side4 => exact HC1_2.out);rintro e wQF10A31 ⟨rfl,hb⟩;refine ⟨_,rfl,?_⟩;have n_ := haq (hbq BK358.out hb) <| haq (hbq BK359.out hb) <| haq (zh hCq hb) <| trivial;clear BK358 BK359 HB;obtain ⟨BK358,BK359,HB,_⟩ := n_;(try clear hb);(try clear hb2);(try clear hk);(try clear hi))))
  go_ret
  exact ⟨hHq,hCq⟩
def ahd (x y : Ent) : Prop := za4 x.f1.f0 x.f1.f1 y.f1.f0 y.f1.f1 = true
theorem zcK {x y : Ent} : ahd x y ↔ x.f1.f1 < y.f1.f1 ∨ x.f1.f1 = y.f1.f1 ∧ x.f1.f0 < y.f1.f0 := decide_eq_true_iff
def zfZ (L : List Ent) : Prop := L.Pairwise ahd
theorem zc3 {x y : Ent} : ∀ {L : List Ent},y ∈ zet L x ↔ y = x ∨ y ∈ L
 | [] => by simp [zet]
 | z :: L => by
  rw [zet]
  split
  ·simp
  ·rw [List.mem_cons,zc3,List.mem_cons]
   constructor
   ·rintro (h | h | h)
    ·exact .inr (.inl h)
    ·exact .inl h
    ·exact .inr (.inr h)
   ·rintro (h | h | h)
    ·exact .inr (.inl h)
    ·exact .inl h
    ·exact .inr (.inr h)
theorem zfx {x : Ent} : ∀ {L : List Ent},zfZ L → (∀ y ∈ L,¬ (y.f1.f0 = x.f1.f0 ∧ y.f1.f1 = x.f1.f1)) → zfZ (zet L x)
 | [],_,_ => List.pairwise_singleton _ _
 | z :: L,h,hn => by
  rw [zet]
  have hz := hn z (List.mem_cons_self ..)
  rw [zfZ,List.pairwise_cons] at h
  split
  ·next hx =>
   have hx' := (zcK (x := x) (y := z)).1 hx
   rw [zfZ,List.pairwise_cons]
   refine ⟨fun y hy => ?_,List.pairwise_cons.2 h⟩
   rcases List.mem_cons.1 hy with rfl | hy
   ·exact hx
   ·have := (zcK).1 (h.1 y hy)
    exact zcK.2 (by omega)
  ·next hx =>
   have hx' : ¬ (x.f1.f1 < z.f1.f1 ∨ x.f1.f1 = z.f1.f1 ∧ x.f1.f0 < z.f1.f0) := fun hc => hx ((zcK (x := x) (y := z)).2 hc)
   rw [zfZ,List.pairwise_cons]
   refine ⟨fun y hy => ?_,zfx h.2 fun y hy => hn y (List.mem_cons_of_mem _ hy)⟩
   rcases zc3.1 hy with rfl | hy
   ·exact zcK.2 (by omega)
   ·exact h.1 y hy
theorem zii : ∀ {L M : List Ent},zfZ L → zfZ M → (∀ x,x ∈ L ↔ x ∈ M) → L = M
 | [],[],_,_,_ => rfl
 | [],y :: M,_,_,h => absurd ((h y).2 (List.mem_cons_self ..)) List.not_mem_nil
 | x :: L,[],_,_,h => absurd ((h x).1 (List.mem_cons_self ..)) List.not_mem_nil
 | x :: L,y :: M,h1,h2,h => by
  rw [zfZ,List.pairwise_cons] at h1 h2
  have irr : ∀ z : Ent,¬ ahd z z := fun z hz => by have := zcK.1 hz;omega
  have asym : ∀ a b : Ent,ahd a b → ¬ ahd b a := fun a b p q => by have := zcK.1 p;have := zcK.1 q;omega
  have hxy : x = y := by
   rcases List.mem_cons.1 ((h x).1 (List.mem_cons_self ..)) with e | e
   ·exact e
   ·rcases List.mem_cons.1 ((h y).2 (List.mem_cons_self ..)) with e2 | e2
    ·exact e2.symm
    ·exact absurd (h1.1 y e2) (asym _ _ (h2.1 x e))
  subst hxy
  rw [zii h1.2 h2.2 fun z => ⟨fun hz => ?_,fun hz => ?_⟩]
  ·rcases List.mem_cons.1 ((h z).1 (List.mem_cons_of_mem _ hz)) with e | e
   ·subst e;exact absurd (h1.1 z hz) (irr z)
   ·exact e
  ·rcases List.mem_cons.1 ((h z).2 (List.mem_cons_of_mem _ hz)) with e | e
   ·subst e;exact absurd (h2.1 z hz) (irr z)
   ·exact e
def zen (n : Int) (v : Vtx) : Ent := ⟨(zY v.f0 v.f1 v.f2 v.f3 v.f4.f0 v.f4.f1 n).1,v⟩
def ziU (n low : Int) (L : List Ent) (v : Vtx) : Int := zeW n low L v.f0 v.f1 v.f2 v.f3 v.f4.f0 v.f4.f1
def zin (n low : Int) (L : List Ent) (v : Vtx) : List Ent := zim n low L v.f0 v.f1 v.f2 v.f3 v.f4.f0 v.f4.f1
theorem zc7 {n low : Int} {L : List Ent} {v : Vtx} : ziU n low L v = 0 ↔ (zY v.f0 v.f1 v.f2 v.f3 v.f4.f0 v.f4.f1 n).2 = 0 ∧ low < v.f1 ∧ (∀ x ∈ L,x.f0 ≠ (zen n v).f0) ∧ (∀ x ∈ L,¬ (x.f1.f0 = v.f0 ∧ x.f1.f1 = v.f1)) ∧ (zbV L low v.f1 v.f3).length = 0 := by
 unfold ziU zeW
 by_cases h1 : (zY v.f0 v.f1 v.f2 v.f3 v.f4.f0 v.f4.f1 n).2 = 0
 ·rw [if_neg (by simp [h1])]
  by_cases h2 : v.f1 ≤ low
  ·rw [if_pos h2];exact ⟨fun h => absurd h (by decide),fun h => absurd h.2.1 (by omega)⟩
  rw [if_neg h2]
  by_cases h3 : (zb7 L (zY v.f0 v.f1 v.f2 v.f3 v.f4.f0 v.f4.f1 n).1).isSome = true
  ·rw [if_pos h3]
   refine ⟨fun h => absurd h (by decide),fun h => ?_⟩
   rw [zb7,List.find?_isSome] at h3
   obtain ⟨x,hx,h3⟩ := h3
   exact absurd (of_decide_eq_true h3) (h.2.2.1 x hx)
  rw [if_neg h3]
  by_cases h4 : (byE L v.f0 v.f1).isSome = true
  ·rw [if_pos h4]
   refine ⟨fun h => absurd h (by decide),fun h => ?_⟩
   rw [byE,List.find?_isSome] at h4
   obtain ⟨x,hx,h4⟩ := h4
   exact absurd (of_decide_eq_true h4) (h.2.2.2.1 x hx)
  rw [if_neg h4]
  by_cases h5 : 0 < (zbV L low v.f1 v.f3).length
  ·rw [if_pos h5];exact ⟨fun h => absurd h (by decide),fun h => absurd h.2.2.2.2 (by omega)⟩
  rw [if_neg h5]
  refine ⟨fun _ => ⟨h1,by omega,fun x hx he => h3 ?_,fun x hx he => h4 ?_,by omega⟩,fun _ => rfl⟩
  ·rw [zb7,List.find?_isSome];exact ⟨x,hx,decide_eq_true he⟩
  ·rw [byE,List.find?_isSome];exact ⟨x,hx,decide_eq_true he⟩
 ·rw [if_pos (by simp [h1])]
  exact ⟨fun h => absurd h h1,fun h => absurd h.1 h1⟩
theorem ze6 {n low : Int} {L : List Ent} {v : Vtx} (h : ziU n low L v = 0) : zin n low L v = zet L (zen n v) := if_pos h
theorem addV_no {n low : Int} {L : List Ent} {v : Vtx} (h : ziU n low L v ≠ 0) : zin n low L v = L := if_neg h
theorem ziy {L M : List Ent} {low r : Int} {ps : List ByteArray} (h : (zbV L low r ps).length = 0) (hs : ∀ x ∈ L,x ∈ M) : (zbV M low r ps).length = 0 := by
 unfold zbV at h ⊢
 split
 ·rfl
 ·next hl =>
  rw [if_neg hl,List.length_eq_zero_iff,List.filter_eq_nil_iff] at h
  rw [List.length_eq_zero_iff,List.filter_eq_nil_iff]
  intro p hp
  have := h p hp
  simp only [Bool.not_eq_true',Bool.not_eq_false,List.any_eq_true] at this ⊢
  obtain ⟨x,hx,h2⟩ := this
  exact ⟨x,hs x hx,h2⟩
structure zcP (n : Int) (l : List Vtx) (A : Nat → List Ent) : Prop where
 zero : A 0 = []
 why : ∀ i (h : i < l.length),ziU n 0 (A i) l[i] = 0
 next : ∀ i (h : i < l.length),A (i + 1) = zin n 0 (A i) l[i]
theorem zcP.mem {n : Int} {l : List Vtx} {A : Nat → List Ent} (h : zcP n l A) : ∀ i,i ≤ l.length → ∀ x,x ∈ A i ↔ ∃ (j : Nat) (hj : j < l.length),j < i ∧ x = zen n l[j]
 | 0,_,x => by
  rw [h.zero]
  exact ⟨fun hx => absurd hx List.not_mem_nil,fun ⟨_,_,hj,_⟩ => absurd hj (Nat.not_lt_zero _)⟩
 | i + 1,hi,x => by
  rw [h.next i hi,ze6 (h.why i hi),zc3,h.mem i (by omega) x]
  constructor
  ·rintro (rfl | ⟨j,hj,h1,h2⟩)
   ·exact ⟨i,hi,by omega,rfl⟩
   ·exact ⟨j,hj,by omega,h2⟩
  ·rintro ⟨j,hj,h1,h2⟩
   rcases Nat.lt_succ_iff_lt_or_eq.1 h1 with h1 | h1
   ·exact .inr ⟨j,hj,h1,h2⟩
   ·subst h1;exact .inl h2
theorem zcP.srt {n : Int} {l : List Vtx} {A : Nat → List Ent} (h : zcP n l A) : ∀ i,i ≤ l.length → zfZ (A i)
 | 0,_ => by rw [h.zero];exact List.Pairwise.nil
 | i + 1,hi => by
  rw [h.next i hi,ze6 (h.why i hi)]
  exact zfx (h.srt i (by omega)) (zc7.1 (h.why i hi)).2.2.2.1
theorem zcP.apart {n : Int} {l : List Vtx} {A : Nat → List Ent} (h : zcP n l A) (i j : Nat) (hi : i < l.length) (hj : j < i) : (zen n l[j]).f0 ≠ (zen n l[i]).f0 ∧ ¬ (l[j].f0 = l[i].f0 ∧ l[j].f1 = l[i].f1) := by
 obtain ⟨_,_,h3,h4,_⟩ := zc7.1 (h.why i hi)
 have hm := (h.mem i (by omega) (zen n l[j])).2 ⟨j,by omega,hj,rfl⟩
 exact ⟨h3 _ hm,h4 _ hm⟩
theorem zcP.one {n : Int} {l : List Vtx} {A : Nat → List Ent} (h : zcP n l A) (i j : Nat) (hi : i < l.length) (hj : j < l.length) (he : (zen n l[j]).f0 = (zen n l[i]).f0 ∨ (l[j].f0 = l[i].f0 ∧ l[j].f1 = l[i].f1)) : i = j := by
 rcases Nat.lt_trichotomy i j with hl | hl | hl
 ·have := h.apart j i hj hl
  rcases he with he | he
  ·exact absurd he.symm this.1
  ·exact absurd ⟨he.1.symm,he.2.symm⟩ this.2
 ·exact hl
 ·have := h.apart i j hi hl
  rcases he with he | he
  ·exact absurd he this.1
  ·exact absurd he this.2
structure zgT (n : Int) (l : List Vtx) (B : List Ent) : Prop where
 srt : zfZ B
 mem : ∀ x ∈ B,∃ (j : Nat) (hj : j < l.length),x = zen n l[j]
theorem zgT.step {n : Int} {l : List Vtx} {A : Nat → List Ent} {B : List Ent} (h : zcP n l A) (hB : zgT n l B) (i : Nat) (hi : i < l.length) : zgT n l (zin n 0 B l[i]) ∧ (∀ x ∈ B,x ∈ zin n 0 B l[i]) ∧ ((∀ (j : Nat) (hj : j < l.length),j < i → zen n l[j] ∈ B) → zen n l[i] ∈ zin n 0 B l[i]) := by
 by_cases hw : ziU n 0 B l[i] = 0
 ·rw [ze6 hw]
  refine ⟨⟨zfx hB.srt (zc7.1 hw).2.2.2.1,fun x hx => ?_⟩,fun x hx => zc3.2 (.inr hx),fun _ => zc3.2 (.inl rfl)⟩
  rcases zc3.1 hx with rfl | hx
  ·exact ⟨i,hi,rfl⟩
  ·exact hB.mem x hx
 ·rw [addV_no hw]
  refine ⟨hB,fun x hx => hx,fun hj => ?_⟩
  by_cases hin : zen n l[i] ∈ B
  ·exact hin
  ·exfalso
   refine hw (zc7.2 ?_)
   obtain ⟨h1,h2,_,_,h5⟩ := zc7.1 (h.why i hi)
   refine ⟨h1,h2,fun x hx he => ?_,fun x hx he => ?_,ziy h5 fun x hx => ?_⟩
   ·obtain ⟨j,hj',rfl⟩ := hB.mem x hx
    have := h.one i j hi hj' (.inl he)
    subst this
    exact hin hx
   ·obtain ⟨j,hj',rfl⟩ := hB.mem x hx
    have := h.one i j hi hj' (.inr he)
    subst this
    exact hin hx
   ·obtain ⟨j,hj',hji,rfl⟩ := (h.mem i (by omega) x).1 hx
    exact hj j hj' hji
theorem zgT.all {n : Int} {l : List Vtx} {A : Nat → List Ent} {B : List Ent} (h : zcP n l A) (hB : zgT n l B) (hm : ∀ (j : Nat) (hj : j < l.length),zen n l[j] ∈ B) : A l.length = B :=
 zii (h.srt _ (Nat.le_refl _)) hB.srt fun x => ⟨fun hx => by obtain ⟨j,hj,_,rfl⟩ := (h.mem _ (Nat.le_refl _) x).1 hx;exact hm j hj,fun hx => by obtain ⟨j,hj,rfl⟩ := hB.mem x hx;exact (h.mem _ (Nat.le_refl _) _).2 ⟨j,hj,hj,rfl⟩⟩
theorem zaX (l : List Ent) (j : Nat) (h : j < l.length) : zd l (j : Int) = l[j] := by
 rw [zd,Int.toNat_natCast,List.getD_eq_getElem?_getD,List.getElem?_eq_getElem h];rfl
structure zhz (x : Ent) : Prop where
 bs : x.f1.f2.length < 4611686018427387904
 tx : ∀ b ∈ x.f1.f2,b.f2.length < 4611686018427387904
 ps : x.f1.f3.length ≤ 8796093022208
 t : ∀ t ∈ x.f1.f3,t.size < 4611686018427387904
instance decEnt : DecidableEq Ent := fun a b => decidable_of_iff (a.f0 = b.f0 ∧ zbt a.f1.f0 a.f1.f1 a.f1.f2 a.f1.f3 a.f1.f4.f0 a.f1.f4.f1 b.f1.f0 b.f1.f1 b.f1.f2 b.f1.f3 b.f1.f4.f0 b.f1.f4.f1 = true) ⟨fun ⟨h0,h1⟩ => by
  rw [zb3] at h1
  obtain ⟨a0,⟨a1,a2,a3,a4,⟨a5,a6⟩⟩⟩ := a;obtain ⟨b0,⟨b1,b2,b3,b4,⟨b5,b6⟩⟩⟩ := b
  simp only at h0 h1
  obtain ⟨rfl,rfl,rfl,rfl,rfl,rfl⟩ := h1
  rw [h0],fun h => by rw [h,zb3];exact ⟨rfl,rfl,rfl,rfl,rfl,rfl,rfl⟩⟩
theorem zeQ (a b : List Ent) (hl : a.length = b.length) (ha : a.length < 4611686018427387904) (hs : ∀ x ∈ a,zhz x) (d : Nat) : ∀ j,j + d = a.length →
  Ev (fun k => zk.l0 k a b (j : Int)) (decide (a.drop j = b.drop j)) := by
 induction d with
 | zero =>
  intro j hj
  refine Ev.step (fun k => by rw [zk.l0]) ?_
  refine zU (by omega) (zah (Ev.now _) ?_)
  rw [List.drop_eq_nil_of_le (by omega),List.drop_eq_nil_of_le (by omega)];rfl
 | succ d ih =>
  intro j hj
  refine Ev.step (fun k => by rw [zk.l0]) ?_
  have h1 : j < a.length := by omega
  have h2 : j < b.length := by omega
  refine zF (by omega) (zF (by omega) (zF (by omega) ?_))
  have hf := hs _ (List.getElem_mem h1)
  have hps := hf.ps
  rw [zaX a j h1,zaX b j h2,List.drop_eq_getElem_cons h1,List.drop_eq_getElem_cons h2,zak (by omega) (by omega)]
  refine Ev.bind (zev _ _ _ _ _ _ _ _ _ _ _ _ hf.bs hf.tx (by omega)) ?_
  by_cases h : a[j] = b[j]
  ·refine zF (by rw [h,zb3];exact ⟨rfl,rfl,rfl,rfl,rfl,rfl⟩) (zF (by rw [h]) (zah (ih (j + 1) (by omega)) ?_))
   rw [h];exact decide_eq_decide.2 ⟨fun h => by rw [h],fun h => (List.cons.inj h).2⟩
  ·have hno : decide (a[j] :: a.drop (j + 1) = b[j] :: b.drop (j + 1)) = false := decide_eq_false (fun e => h (List.cons.inj e).1)
   rw [hno]
   by_cases hv : zbt a[j].f1.f0 a[j].f1.f1 a[j].f1.f2 a[j].f1.f3 a[j].f1.f4.f0 a[j].f1.f4.f1 b[j].f1.f0 b[j].f1.f1 b[j].f1.f2 b[j].f1.f3 b[j].f1.f4.f0 b[j].f1.f4.f1 = true
   ·refine zF hv (zU (fun e => h ?_) (Ev.now _))
    rw [zax] at e
    rw [zb3] at hv
    generalize a[j] = p at *
    generalize b[j] = q at *
    obtain ⟨a0,⟨a1,a2,a3,a4,⟨a5,a6⟩⟩⟩ := p;obtain ⟨b0,⟨b1,b2,b3,b4,⟨b5,b6⟩⟩⟩ := q
    simp only at e hv
    obtain ⟨rfl,rfl,rfl,rfl,rfl,rfl⟩ := hv
    rw [e]
   ·exact zU hv (Ev.now _)
theorem zdL (a b : List Ent) (ha : a.length < 4611686018427387904) (hs : ∀ x ∈ a,zhz x) : Ev (fun k => zk.f k a b) (decide (a = b)) := by
 by_cases h : a.length = b.length
 ·exact zF (by omega) (zeQ a b h ha hs a.length 0 (by omega))
 ·refine zU (by omega) (zah (Ev.now _) ?_)
  have : ¬ a = b := fun e => h (by rw [e])
  simp [this]
theorem zfW (n lo : Int) (L : List Ent) (n' lo' : Int) (M : List Ent) (ha : L.length < 4611686018427387904) (hs : ∀ x ∈ L,zhz x) : Ev (fun k => zV.f k n lo L n' lo' M) (decide (L = M ∧ n = n' ∧ lo = lo')) := by
 refine Ev.bind (zdL L M ha hs) ?_
 by_cases h1 : L = M
 ·refine zF (decide_eq_true h1) ?_
  by_cases h2 : n = n'
  ·refine zF h2 (zah (Ev.now _) ?_)
   by_cases h3 : lo = lo' <;> simp [h1,h2,h3]
  ·exact zU h2 (zah (Ev.now _) (by simp [h2]))
 ·exact zU (by simp [h1]) (zah (Ev.now _) (by simp [h1]))
def zgx (n lo : Int) (L : List Ent) : Nat → Nat → Bool
 | 0,_ => true
 | d + 1,j => okE n lo L j (L.getD j z34) && zgx n lo L d (j + 1)
theorem zfu (n lo : Int) (L : List Ent) : ∀ d j : Nat,zgx n lo L d j = (List.range' j d).all fun i => okE n lo L i (L.getD i z34)
 | 0,_ => rfl
 | d + 1,j => by rw [zgx,zfu n lo L d (j + 1),List.range'_succ,List.all_cons]
theorem zhp (n lo : Int) (L : List Ent) : zb0 n lo L = (zdU n && decide (0 ≤ lo) && zgx n lo L L.length 0) := by
 rw [zb0,zfu,List.range_eq_range']
theorem zds : (zY 2 1 [] [] 0 0 4).2 = 0 := by
 rw [zY,if_pos]
 rw [zdo]
 simp [zcZ,zfp,zbX]
theorem zgM {a r : Int} {bs : List S78} {ps : List ByteArray} {x y n : Int} (h : (zY a r bs ps x y n).2 = 0) : (zY a r bs ps x y n).1.size = 32 := by
 unfold zY at h ⊢
 split
 ·exact ziM _
 ·next hm => rw [if_neg hm] at h;cases h
theorem zhZ : zaC.f = some true := by
 have hz := zgM zds
 have hv := zds
 have w1 : wrap64 (1 - 1) ≤ 0 := by rw [zak (by decide) (by decide)];decide
 have l1 : ∀ L : List Ent,zbV L 0 1 [] = [] := fun L => if_pos w1
 have y1 : zeW 4 0 [] 2 1 [] [] 0 0 = 0 := by
  unfold zeW
  rw [if_neg (by simp [hv]),if_neg (by decide),if_neg (by simp [zb7]),if_neg (by simp [byE]),l1,if_neg (by simp)]
 have a1 : zan.f 4 0 ([] : List Ent) 2 1 [] [] 0 0 = some (4,0,[⟨(zY 2 1 [] [] 0 0 4).1,⟨2,1,[],[],⟨0,0⟩⟩⟩],0) := by
  unfold zan.f
  rw [if_pos (by simp),y1,zim,if_pos y1];rfl
 have y2 : zeW 4 0 [⟨(zY 2 1 [] [] 0 0 4).1,⟨2,1,[],[],⟨0,0⟩⟩⟩] 2 1 [] [] 0 0 = 8 := by
  unfold zeW
  rw [if_neg (by simp [hv]),if_neg (by decide),if_pos (by simp [zb7])]
 have a2 : zan.f 4 0 [⟨(zY 2 1 [] [] 0 0 4).1,⟨2,1,[],[],⟨0,0⟩⟩⟩] 2 1 [] [] 0 0 = some (4,0,[⟨(zY 2 1 [] [] 0 0 4).1,⟨2,1,[],[],⟨0,0⟩⟩⟩],8) := by
  unfold zan.f
  rw [if_pos (by simp),y2,zim,if_neg (by rw [y2];decide)]
 have r1 : zb0 4 0 [⟨(zY 2 1 [] [] 0 0 4).1,⟨2,1,[],[],⟨0,0⟩⟩⟩] = true := by
  rw [zhp]
  show (zdU 4 && decide ((0 : Int) ≤ 0) && (okE 4 0 _ 0 _ && true)) = true
  unfold okE
  simp [hv,l1,zcZ,List.getD]
 unfold zaC.f
 rw [a1]
 simp only [Option.bind_some]
 rw [a2]
 simp only [Option.bind_some,if_true,List.length_cons,List.length_nil]
 have e0 : zd [(⟨(zY 2 1 [] [] 0 0 4).1,⟨2,1,[],[],⟨0,0⟩⟩⟩ : Ent)] 0 = ⟨(zY 2 1 [] [] 0 0 4).1,⟨2,1,[],[],⟨0,0⟩⟩⟩ := rfl
 rw [e0]
 rw [if_pos (by decide),if_pos (by decide),if_pos (by show ((zY 2 1 [] [] 0 0 4).1.size : Int) = 32;omega)]
 unfold zau.f
 rw [if_pos (by simp),r1];rfl
theorem vSame_ev (a r : Int) (bs : List S78) (ps : List ByteArray) (x y a' r' : Int) (bs' : List S78) (ps' : List ByteArray) (x' y' : Int) (hs : zey bs = true) (hp : ps.length < 4611686018427387904) :
  Ev (fun k => zcN.f k a r bs ps x y a' r' bs' ps' x' y') (zbt a r bs ps x y a' r' bs' ps' x' y') := by
 unfold zbt
 by_cases h1 : a = a'
 ·refine zF h1 ?_
  by_cases h2 : r = r'
  ·refine zF h2 ?_
   by_cases h3 : (x == x' && (y == y')) = true
   ·refine zF h3 (Ev.bind (zg0 ps ps' hp) ?_)
    rw [Bool.and_eq_true,beq_iff_eq,beq_iff_eq] at h3
    by_cases h4 : ps = ps'
    ·refine zF (decide_eq_true h4) (za6 (if_pos hs) (zah (Ev.now _) ?_))
     simp [h1,h2,h3.1,h3.2,h4]
    ·exact zU (by simpa using h4) (zah (Ev.now _) (by simp [h4]))
   ·refine zU h3 (zah (Ev.now _) ?_)
    rw [Bool.and_eq_true,beq_iff_eq,beq_iff_eq] at h3
    symm
    rw [decide_eq_false_iff_not]
    exact fun hh => h3 ⟨hh.2.2.2.2.1,hh.2.2.2.2.2⟩
  ·exact zU h2 (zah (Ev.now _) (by simp [h2]))
 ·exact zU h1 (zah (Ev.now _) (by simp [h1]))
def zeL (x : S34) : Bool := zey x.f1.f2 && decide (x.f1.f3.length < 4611686018427387904)
theorem sameE_at {l : List S34} (h : l.all zeL = true) {k : Nat} (hk : k < l.length) : zeL (zd l (k : Int)) = true := by
 rw [zd,Int.toNat_natCast,List.getD_eq_getElem?_getD,List.getElem?_eq_getElem hk]
 exact List.all_eq_true.1 h l[k] (List.getElem_mem hk)
theorem rdN_at (l : List S34) {k : Nat} (hk : k < l.length) : l[k]? = some (zd l (k : Int)) := by
 rw [zd,Int.toNat_natCast,List.getD_eq_getElem?_getD,List.getElem?_eq_getElem hk];rfl
set_option maxHeartbeats 4000000 in
set_option maxRecDepth 100000 in
theorem zaB.one (s0 : ByteArray) (s1 s2 : Int) (s3 : List S78) (s4 : List ByteArray) (s5 s6 : Int) (t0 : ByteArray) (t1 t2 : Int) (t3 : List S78) (t4 : List ByteArray) (t5 t6 : Int) (A3 : Option Addr) (c3 : Nat) (A4 : Option Addr) (c4 : Nat) (B3 : Option Addr) (d3 : Nat) (B4 : Option Addr) (d4 : Nat) (w : World) (hs : zeL (⟨s0,⟨s1,s2,s3,s4,⟨s5,s6⟩⟩⟩ : S34) = true) (hQ1 : Kd.C k78 w A3 s3.length s3) (hQ2 : s3.length ≤ c3) (hQ3 : Kd.C Kd.string w A4 s4.length s4) (hQ4 : s4.length ≤ c4) (hQ5 : Kd.C k78 w B3 t3.length t3) (hQ6 : t3.length ≤ d3) (hQ7 : Kd.C Kd.string w B4 t4.length t4) (hQ8 : t4.length ≤ d4) :
  Calls Try.prog 29 #[.agg #[.string s0,.int .i64 s1,.int .i64 s2,.slice A3 s3.length c3,.slice A4 s4.length c4,.int .i64 s5,.int .i64 s6],.agg #[.string t0,.int .i64 t1,.int .i64 t2,.slice B3 t3.length d3,.slice B4 t4.length d4,.int .i64 t5,.int .i64 t6]] w fun e w' => e = .returned (.bool (decide (s0 = t0) && zbt s1 s2 s3 s4 s5 s6 t1 t2 t3 t4 t5 t6)) ∧ Below w.heap.size w w' := by
 unfold zeL at hs
 rw [Bool.and_eq_true,decide_eq_true_eq] at hs
 obtain ⟨kv,hv⟩ := (vSame_ev s1 s2 s3 s4 s5 s6 t1 t2 t3 t4 t5 t6 hs.1 hs.2).rounds
 have HV := za.mk hv
 have Q1 := za.mk hQ1
 have Q2 := za.mk hQ2
 have Q3 := za.mk hQ3
 have Q4 := za.mk hQ4
 have Q5 := za.mk hQ5
 have Q6 := za.mk hQ6
 have Q7 := za.mk hQ7
 have Q8 := za.mk hQ8
 clear hs hv hQ1 hQ2 hQ3 hQ4 hQ5 hQ6 hQ7 hQ8
 have Hw := za.mk (Below.refl w.heap.size w)
 rcases hd : decide (s0 = t0) with _ | _
 ·have d1 : (s0.toList == t0.toList) = false := by rw [zbG];exact hd
  clear hd
  go_enter Try.func29,Try.ntmps29
  go_wp2_with (first
   | ((with_reducible refine zp (N := 2) rfl ?_);refine zn rfl (N := 2) rfl (cs := #[.string s0,.int .i64 s1,.int .i64 s2,.slice A3 s3.length c3,.slice A4 s4.length c4,.int .i64 s5,.int .i64 s6]) (t := 34) hrq ?_;intro g2 hg u1 hbox hb;have Gw_g2 := za.mk (adg Hw.out hg);replace Hw := za.mk (adl Hw.out hb);have Bg2 := za.mk hbox;clear hbox hb hg;obtain ⟨zg2_0,zg2_1,zg2_2,zg2_3,zg2_4,zg2_5,zg2_6,fg2_0,fg2_1,fg2_2,fg2_3,fg2_4,fg2_5,fg2_6⟩ := hcq7 Bg2.out)
   | ((with_reducible refine zp (N := 3) rfl ?_);refine zn rfl (N := 3) rfl (cs := #[.string t0,.int .i64 t1,.int .i64 t2,.slice B3 t3.length d3,.slice B4 t4.length d4,.int .i64 t5,.int .i64 t6]) (t := 34) hrq ?_;intro g3 hg u2 hbox hb;have Gw_g3 := za.mk (adg Hw.out hg);have Ng2_g3 := za.mk (adn hg Bg2.out);clear zg2_0 zg2_1 zg2_2 zg2_3 zg2_4 zg2_5 zg2_6 fg2_0 fg2_1 fg2_2 fg2_3 fg2_4 fg2_5 fg2_6;replace Bg2 := za.mk (adb Bg2.out hb);replace Hw := za.mk (adl Hw.out hb);have Bg3 := za.mk hbox;clear hbox hb hg;obtain ⟨zg2_0,zg2_1,zg2_2,zg2_3,zg2_4,zg2_5,zg2_6,fg2_0,fg2_1,fg2_2,fg2_3,fg2_4,fg2_5,fg2_6⟩ := hcq7 Bg2.out;obtain ⟨zg3_0,zg3_1,zg3_2,zg3_3,zg3_4,zg3_5,zg3_6,fg3_0,fg3_1,fg3_2,fg3_3,fg3_4,fg3_5,fg3_6⟩ := hcq7 Bg3.out))
  go_ret
  exact ⟨by rw [Bool.false_and];rfl,Hw.out⟩
 ·have d1 : (s0.toList == t0.toList) = true := by rw [zbG];exact hd
  clear hd
  go_enter Try.func29,Try.ntmps29
  go_wp2_with (first
   | ((with_reducible refine zp (N := 2) rfl ?_);refine zn rfl (N := 2) rfl (cs := #[.string s0,.int .i64 s1,.int .i64 s2,.slice A3 s3.length c3,.slice A4 s4.length c4,.int .i64 s5,.int .i64 s6]) (t := 34) hrq ?_;intro g2 hg u1 hbox hb;have Gw_g2 := za.mk (adg Hw.out hg);replace Hw := za.mk (adl Hw.out hb);have Bg2 := za.mk hbox;clear hbox hb hg;obtain ⟨zg2_0,zg2_1,zg2_2,zg2_3,zg2_4,zg2_5,zg2_6,fg2_0,fg2_1,fg2_2,fg2_3,fg2_4,fg2_5,fg2_6⟩ := hcq7 Bg2.out)
   | ((with_reducible refine zp (N := 3) rfl ?_);refine zn rfl (N := 3) rfl (cs := #[.string t0,.int .i64 t1,.int .i64 t2,.slice B3 t3.length d3,.slice B4 t4.length d4,.int .i64 t5,.int .i64 t6]) (t := 34) hrq ?_;intro g3 hg u2 hbox hb;have Gw_g3 := za.mk (adg Hw.out hg);have Ng2_g3 := za.mk (adn hg Bg2.out);clear zg2_0 zg2_1 zg2_2 zg2_3 zg2_4 zg2_5 zg2_6 fg2_0 fg2_1 fg2_2 fg2_3 fg2_4 fg2_5 fg2_6;replace Bg2 := za.mk (adb Bg2.out hb);replace Hw := za.mk (adl Hw.out hb);have Bg3 := za.mk hbox;clear hbox hb hg;obtain ⟨zg2_0,zg2_1,zg2_2,zg2_3,zg2_4,zg2_5,zg2_6,fg2_0,fg2_1,fg2_2,fg2_3,fg2_4,fg2_5,fg2_6⟩ := hcq7 Bg2.out;obtain ⟨zg3_0,zg3_1,zg3_2,zg3_3,zg3_4,zg3_5,zg3_6,fg3_0,fg3_1,fg3_2,fg3_3,fg3_4,fg3_5,fg3_6⟩ := hcq7 Bg3.out)
   | (go_at_call 30;refine (zcN.calls kv s1 s2 _ _ s3 _ _ s4 s5 s6 t1 t2 _ _ t3 _ _ t4 t5 t6 _ _ (Kd.C_below Q1.out (adw Hw.out)) Q2.out (Kd.C_below Q3.out (adw Hw.out)) Q4.out (Kd.C_below Q5.out (adw Hw.out)) Q6.out (Kd.C_below Q7.out (adw Hw.out)) Q8.out HV.out).mono ?_;rintro e u3 ⟨rfl,hb⟩;clear zg2_0 zg2_1 zg2_2 zg2_3 zg2_4 zg2_5 zg2_6 fg2_0 fg2_1 fg2_2 fg2_3 fg2_4 fg2_5 fg2_6 zg3_0 zg3_1 zg3_2 zg3_3 zg3_4 zg3_5 zg3_6 fg3_0 fg3_1 fg3_2 fg3_3 fg3_4 fg3_5 fg3_6;replace Bg2 := za.mk (adb Bg2.out hb);replace Bg3 := za.mk (adb Bg3.out hb);replace Hw := za.mk (adl Hw.out hb);clear hb))
  go_ret
  exact ⟨by rw [Bool.true_and];rfl,Hw.out⟩
theorem zaB.iff (s0 : ByteArray) (s1 s2 : Int) (s3 : List S78) (s4 : List ByteArray) (s5 s6 : Int) (t0 : ByteArray) (t1 t2 : Int) (t3 : List S78) (t4 : List ByteArray) (t5 t6 : Int) : (decide (s0 = t0) && zbt s1 s2 s3 s4 s5 s6 t1 t2 t3 t4 t5 t6) = true ↔ (⟨s0,⟨s1,s2,s3,s4,⟨s5,s6⟩⟩⟩ : S34) = (⟨t0,⟨t1,t2,t3,t4,⟨t5,t6⟩⟩⟩ : S34) := by
 rw [Bool.and_eq_true,decide_eq_true_eq,zb3]
 constructor
 ·rintro ⟨rfl,rfl,rfl,rfl,rfl,rfl,rfl⟩;rfl
 ·intro h;injection h with h0 h1;injection h1 with a b c d e;injection e with f g;exact ⟨h0,a,b,c,d,f,g⟩
set_option maxHeartbeats 8000000 in
set_option maxRecDepth 100000 in
theorem zaB.walk (A : Option Addr) (c : Nat) (l : List S34) (A' : Option Addr) (c' : Nat) (l' : List S34) (w : World) (hr : Kd.C k34 w A l.length l) (hr' : Kd.C k34 w A' l'.length l') (hs : l.all zeL = true) (hlen : l.length = l'.length) :
  Calls Try.prog 28 #[.slice A l.length c,.slice A' l'.length c',.func (.func 29) #[] #[]] w fun e w' => e = .returned (.bool (decide (l = l'))) ∧ Below w.heap.size w w' := by
 have hm := hr.2.1
 have HR := za.mk hr
 have HR' := za.mk hr'
 have HS := za.mk hs
 have HL := za.mk hlen
 clear hr hr' hs
 rw [← hlen]
 clear hlen
 go_enter Try.func28,Try.ntmps28
 go_wp2_with fail
 have HB0 := za.mk (Below.refl w.heap.size w)
 go_loopw [17] (fun v17 wr => ∃ k : Nat,v17 = .int .i64 k ∧ k ≤ l.length ∧ za (∀ j : Nat,j < k → l[j]? = l'[j]?) ∧ za (Below w.heap.size w wr)) (fun v17 _ => l.length - (intOf v17).toNat)
 case atStart => exact ⟨0,rfl,Nat.zero_le _,⟨fun j hj => absurd hj (Nat.not_lt_zero _)⟩,HB0⟩
 case round =>
  clear HB0
  obtain ⟨k,rfl,hk,HE,HB⟩ := hrel
  by_cases hlt : k < l.length
  ·have hlt' : k < l'.length := by have := HL.out;omega
   obtain ⟨ad,A3,c3,A4,c4,rfl,hx0,hx1,hx2,hx3,hx4,hx5,hx6,q1,q2,q3,q4⟩ := zai HR.out (k : Int) (by omega) (by omega)
   obtain ⟨ad',B3,d3,B4,d4,rfl,hy0,hy1,hy2,hy3,hy4,hy5,hy6,r1,r2,r3,r4⟩ := zai HR'.out (k : Int) (by omega) (by omega)
   replace hx0 := (HB.out.cell (World.block_lt_of_cell? w _ hx0)).trans hx0
   replace hx1 := (HB.out.cell (World.block_lt_of_cell? w _ hx1)).trans hx1
   replace hx2 := (HB.out.cell (World.block_lt_of_cell? w _ hx2)).trans hx2
   replace hx3 := (HB.out.cell (World.block_lt_of_cell? w _ hx3)).trans hx3
   replace hx4 := (HB.out.cell (World.block_lt_of_cell? w _ hx4)).trans hx4
   replace hx5 := (HB.out.cell (World.block_lt_of_cell? w _ hx5)).trans hx5
   replace hx6 := (HB.out.cell (World.block_lt_of_cell? w _ hx6)).trans hx6
   replace hy0 := fun o => ((zi HB.out o).cell (World.block_lt_of_cell? w _ hy0)).trans hy0
   replace hy1 := fun o => ((zi HB.out o).cell (World.block_lt_of_cell? w _ hy1)).trans hy1
   replace hy2 := fun o => ((zi HB.out o).cell (World.block_lt_of_cell? w _ hy2)).trans hy2
   replace hy3 := fun o => ((zi HB.out o).cell (World.block_lt_of_cell? w _ hy3)).trans hy3
   replace hy4 := fun o => ((zi HB.out o).cell (World.block_lt_of_cell? w _ hy4)).trans hy4
   replace hy5 := fun o => ((zi HB.out o).cell (World.block_lt_of_cell? w _ hy5)).trans hy5
   replace hy6 := fun o => ((zi HB.out o).cell (World.block_lt_of_cell? w _ hy6)).trans hy6
   rw [Int.toNat_natCast] at hx0 hx1 hx2 hx3 hx4 hx5 hx6
   simp only [Int.toNat_natCast] at hy0 hy1 hy2 hy3 hy4 hy5 hy6
   have hb : decide (k < l.length) = true := decide_eq_true hlt
   have HSK := za.mk (sameE_at HS.out hlt)
   have HX := za.mk (rdN_at l hlt)
   have HY := za.mk (rdN_at l' hlt')
   have Q1 := za.mk (Kd.C_below q2 HB.out)
   have Q2 := za.mk q1
   have Q3 := za.mk (Kd.C_below q4 HB.out)
   have Q4 := za.mk q3
   have Q5 := za.mk (Kd.C_below r2 HB.out)
   have Q6 := za.mk r1
   have Q7 := za.mk (Kd.C_below r4 HB.out)
   have Q8 := za.mk r3
   clear q1 q2 q3 q4 r1 r2 r3 r4 hlt'
   generalize zd l (k : Int) = s at *
   generalize zd l' (k : Int) = t at *
   obtain ⟨s0,⟨s1,s2,s3,s4,⟨s5,s6⟩⟩⟩ := s
   obtain ⟨t0,⟨t1,t2,t3,t4,⟨t5,t6⟩⟩⟩ := t
   rcases ho : (decide (s0 = t0) && zbt s1 s2 s3 s4 s5 s6 t1 t2 t3 t4 t5 t6) with _ | _
   all_goals
    have HO := za.mk ho
    clear ho
    go_wp2_with (go_at_call 29;(with_reducible refine (zaB.one s0 s1 s2 s3 s4 s5 s6 t0 t1 t2 t3 t4 t5 t6 _ _ _ _ _ _ _ _ _ HSK.out (Kd.C_below Q1.out (zi (zi (Below.refl _ _) _) _)) Q2.out (Kd.C_below Q3.out (zi (zi (Below.refl _ _) _) _)) Q4.out (Kd.C_below Q5.out (zi (zi (Below.refl _ _) _) _)) Q6.out (Kd.C_below Q7.out (zi (zi (Below.refl _ _) _) _)) Q8.out).mono ?_);rintro e w1 ⟨rfl,hb1⟩;rw [HO.out];have HB1 := za.mk (zh (zi (zi HB.out _) _) hb1);clear hb1)
   ·go_ret
    have hne : ¬ l = l' := fun he => by
     have h1 := HX.out
     rw [he,HY.out] at h1
     have h2 := (zaB.iff s0 s1 s2 s3 s4 s5 s6 t0 t1 t2 t3 t4 t5 t6).2 (Option.some.inj h1).symm
     rw [HO.out] at h2
     cases h2
    exact ⟨by rw [decide_eq_false hne];rfl,HB1.out⟩
   ·go_roundw
    case rel =>
     refine ⟨k + 1,by go_num,by omega,⟨fun j hj => ?_⟩,HB1⟩
     rcases Nat.lt_succ_iff_lt_or_eq.1 hj with h | h
     ·exact HE.out j h
     ·subst h
      rw [HX.out,HY.out,(zaB.iff s0 s1 s2 s3 s4 s5 s6 t0 t1 t2 t3 t4 t5 t6).1 HO.out]
    case measure => simp [intOf];omega
  ·obtain rfl : k = l.length := by omega
   go_wp2_with fail
   go_ret
   have heq : l = l' := List.ext_getElem? fun j => by
    by_cases hj : j < l.length
    ·exact HE.out j hj
    ·rw [List.getElem?_eq_none (by omega),List.getElem?_eq_none (by have := HL.out;omega)]
   exact ⟨by rw [decide_eq_true heq];rfl,HB.out⟩
set_option maxHeartbeats 4000000 in
set_option maxRecDepth 100000 in
theorem zaB.walk0 (A : Option Addr) (c : Nat) (l : List S34) (A' : Option Addr) (c' : Nat) (l' : List S34) (w : World) (hlen : l.length ≠ l'.length) :
  Calls Try.prog 28 #[.slice A l.length c,.slice A' l'.length c',.func (.func 29) #[] #[]] w fun e w' => e = .returned (.bool (decide (l = l'))) ∧ Below w.heap.size w w' := by
 have hd : decide (l = l') = false := decide_eq_false (fun h => hlen (by rw [h]))
 rw [hd]
 clear hd
 have h1 : ((l.length : Int) != (l'.length : Int)) = true := bne_iff_ne.mpr (by omega)
 have h2 : (l.length != l'.length) = true := bne_iff_ne.mpr hlen
 clear hlen
 go_enter Try.func28,Try.ntmps28
 go_wp2_with fail
 go_ret
 exact ⟨rfl,Below.refl _ _⟩
def zaB.f (l0 l1 : List S34) : Option Bool := if l0.all zeL = true then some (decide (l0 = l1)) else none
theorem zaB.calls (A0 : Option Addr) (c0 : Nat) (l0 : List (S34)) (A1 : Option Addr) (c1 : Nat) (l1 : List (S34)) (r : Bool) (w : World) (hr0 : Kd.C k34 w A0 l0.length l0) (hc0 : l0.length ≤ c0) (hr1 : Kd.C k34 w A1 l1.length l1) (hc1 : l1.length ≤ c1) (h : zaB.f l0 l1 = some r) :
  Calls Try.prog 28 #[.slice A0 l0.length c0,.slice A1 l1.length c1,.func (.func 29) #[] #[]] w fun e w' => e = .returned (.bool r) ∧ Below w.heap.size w w' := by
 unfold zaB.f at h
 split at h
 ·rename_i hs
  obtain rfl := Option.some.inj h
  by_cases hl : l0.length = l1.length
  ·exact zaB.walk A0 c0 l0 A1 c1 l1 w hr0 hr1 hs hl
  ·exact zaB.walk0 A0 c0 l0 A1 c1 l1 w hl
 ·cases h
def zbe.f (a0_0 : Int) (a0_1 : Int) (l0_2 : List (S34)) (a1_0 : Int) (a1_1 : Int) (l1_2 : List (S34)) : Option (Bool) := if a0_0 = a1_0 then (if a0_1 = a1_1 then ((zaB.f l0_2 l1_2).bind fun t357 => (some t357)) else (some false)) else (some false)
set_option maxHeartbeats 8000000 in
set_option maxRecDepth 100000 in
theorem zbe.calls (a0_0 : Int) (a0_1 : Int) (A0_2 : Option Addr) (c0_2 : Nat) (l0_2 : List (S34)) (a1_0 : Int) (a1_1 : Int) (A1_2 : Option Addr) (c1_2 : Nat) (l1_2 : List (S34)) (r : Bool) (w : World) (hr0_2 : Kd.C k34 w A0_2 l0_2.length l0_2) (hc0_2 : l0_2.length ≤ c0_2) (hr1_2 : Kd.C k34 w A1_2 l1_2.length l1_2) (hc1_2 : l1_2.length ≤ c1_2) (h : zbe.f a0_0 a0_1 l0_2 a1_0 a1_1 l1_2 = some r) :
  Calls Try.prog 15 #[.agg #[.int .i64 a0_0,.int .i64 a0_1,.slice A0_2 l0_2.length c0_2],.agg #[.int .i64 a1_0,.int .i64 a1_1,.slice A1_2 l1_2.length c1_2]] w fun e w' => e = .returned (.bool r) ∧ Below w.heap.size w w' := by
 have hu24 := Try.underlying24
 have HR0_2 := za.mk hr0_2
 have HC0_2 := za.mk hc0_2
 clear hr0_2 hc0_2
 have HR1_2 := za.mk hr1_2
 have HC1_2 := za.mk hc1_2
 clear hr1_2 hc1_2
 have HB := za.mk (Below.refl w.heap.size w)
 have H : (if a0_0 = a1_0 then (if a0_1 = a1_1 then ((zaB.f l0_2 l1_2).bind fun t357 => (some t357)) else (some false)) else (some false)) = some r := h
 clear h
 by_cases c3 : a0_0 = a1_0
 focus
  rw [if_pos c3] at H
  have c3b0 : (a0_0 == a1_0) = true := beq_iff_eq.mpr c3
  have c3b1 : (a0_0 != a1_0) = false := bne_eq_false_iff_eq.mpr c3
  clear c3
  by_cases c4 : a0_1 = a1_1
  focus
   rw [if_pos c4] at H
   have c4b0 : (a0_1 == a1_1) = true := beq_iff_eq.mpr c4
   have c4b1 : (a0_1 != a1_1) = false := bne_eq_false_iff_eq.mpr c4
   clear c4
   replace H := Option.bind_eq_some_iff.mp H
   obtain ⟨t357,A50,H⟩ := H
   replace H : (some t357) = some r := H
   have A5 := za.mk A50
   clear A50
   obtain rfl := Option.some.inj H
   have EQ0 := True.intro
  rotate_left
  focus
   rw [if_neg c4] at H
   have c4b0 : (a0_1 == a1_1) = false := beq_eq_false_iff_ne.mpr c4
   have c4b1 : (a0_1 != a1_1) = true := bne_iff_ne.mpr c4
   obtain rfl := Option.some.inj H
 rotate_left 2
 focus
  rw [if_neg c3] at H
  have c3b0 : (a0_0 == a1_0) = false := beq_eq_false_iff_ne.mpr c3
  have c3b1 : (a0_0 != a1_0) = true := bne_iff_ne.mpr c3
  obtain rfl := Option.some.inj H
 all_goals
  go_enter Try.func15,Try.ntmps15
  go_wp2_with (first | ((with_reducible refine zp (N := 2) rfl ?_);refine zn rfl (N := 2) rfl (cs := #[.int .i64 a0_0,.int .i64 a0_1,.slice A0_2 l0_2.length c0_2]) (t := 24) hrq ?_;intro gb355 hg wQN22 hbox hb;have n_ := haq (zh hBq hb) <| haq (hbox) <| haq ((by rw [hg];exact (zj hBq) : w.heap.size ≤ gb355)) <| haq ((by rw [hg];exact (zj hBq) : w.heap.size ≤ gb355)) <| trivial;clear HB;obtain ⟨HB,BK355,GW355,GE355,_⟩ := n_;clear hb hbox hg) | ((with_reducible refine zp (N := 3) rfl ?_);refine zn rfl (N := 3) rfl (cs := #[.int .i64 a1_0,.int .i64 a1_1,.slice A1_2 l1_2.length c1_2]) (t := 24) hrq ?_;intro gb356 hg wQN32 hbox hb;have n_ := haq (hbq BK355.out hb) <| haq (zh hCq hb) <| haq (hbox) <| haq ((by rw [hg];exact (zj hCq) : w.heap.size ≤ gb356)) <| haq ((by rw [hg];exact (zj hCq) : w.heap.size ≤ gb356)) <| haq (hnq hg BK355.out) <| haq (hmq hg BK355.out) <| trivial;clear BK355 HB;obtain ⟨BK355,HB,BK356,GW356,GE356,NBQN37,NBQN38,_⟩ := n_;clear hb hbox hg;have hnbQN39 := NBQN37.out;have hncQN310 := NBQN38.out;obtain ⟨hczQN311,hczQN312,hczQN313,hfzQN314,hfzQN315,hfzQN316⟩ := hcq3 BK355.out;obtain ⟨hczQN317,hczQN318,hczQN319,hfzQN320,hfzQN321,hfzQN322⟩ := hcq3 BK356.out) | (have _ := EQ0;(go_at_call 28;(with_reducible refine (zaB.calls _ _ l0_2 _ _ l1_2 t357 _ ?side1 ?side2 ?side3 ?side4 A5.out).mono ?_);(case side1 => exact hKq (Kd.C_below HR0_2.out HB.out));(case side2 => exact HC0_2.out);(case side3 => exact hKq (Kd.C_below HR1_2.out HB.out));(case side4 => exact HC1_2.out);rintro e wQC28A51 ⟨rfl,hb⟩;have n_ := haq (hbq BK355.out hb) <| haq (hbq BK356.out hb) <| haq (zh hCq hb) <| trivial;clear BK355 BK356 HB;obtain ⟨BK355,BK356,HB,_⟩ := n_;(try clear hb);(try clear hb2);(try clear hk);(try clear hi))))
  go_ret
  exact ⟨hHq,hCq⟩
def zaM.f (a0_0 : Int) (a0_1 : Int) (l0_2 : List (S34)) : Option (Bool) := some (decide ((l0_2.length : Int) ≤ 60))
set_option maxHeartbeats 8000000 in
set_option maxRecDepth 100000 in
theorem zaM.calls (a0_0 : Int) (a0_1 : Int) (A0_2 : Option Addr) (c0_2 : Nat) (l0_2 : List (S34)) (r : Bool) (w : World) (hr0_2 : Kd.C k34 w A0_2 l0_2.length l0_2) (hc0_2 : l0_2.length ≤ c0_2) (h : zaM.f a0_0 a0_1 l0_2 = some r) :
  Calls Try.prog 6 #[.agg #[.int .i64 a0_0,.int .i64 a0_1,.slice A0_2 l0_2.length c0_2]] w fun e w' => e = .returned (.bool r) ∧ Below w.heap.size w w' := by
 have hu24 := Try.underlying24
 have HR0_2 := za.mk hr0_2
 have HC0_2 := za.mk hc0_2
 clear hr0_2 hc0_2
 have HB := za.mk (Below.refl w.heap.size w)
 have H : (some (decide ((l0_2.length : Int) ≤ 60))) = some r := h
 clear h
 obtain rfl := Option.some.inj H
 go_enter Try.func6,Try.ntmps6
 go_wp2_with (first | ((with_reducible refine zp (N := 1) rfl ?_);refine zn rfl (N := 1) rfl (cs := #[.int .i64 a0_0,.int .i64 a0_1,.slice A0_2 l0_2.length c0_2]) (t := 24) hrq ?_;intro gb157 hg w2 hbox hb;have n_ := haq (zh hBq hb) <| haq (hbox) <| haq ((by rw [hg];exact (zj hBq) : w.heap.size ≤ gb157)) <| haq ((by rw [hg];exact (zj hBq) : w.heap.size ≤ gb157)) <| trivial;clear HB;obtain ⟨HB,BK157,GW157,GE157,_⟩ := n_;clear hb hbox hg;obtain ⟨hcz3_0,hcz3_1,hcz3_2,hfz3_0,hfz3_1,hfz3_2⟩ := hcq3 BK157.out))
 go_ret
 exact ⟨hHq,hCq⟩
end Go.Proofs.Ytndjfdakflaggaa.Px