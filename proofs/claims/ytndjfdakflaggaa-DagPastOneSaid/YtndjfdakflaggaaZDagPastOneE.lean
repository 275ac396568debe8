/- Part 5 of 15 of the proof of the law DagPastOne: what is proved is the statement at the end of the last part; its conditions are those of the given row. -/
import Derived.Laws.AppendOwn
import Derived.Test.YtndjfdakflaggaaZDagPastOneD
namespace Go.Proofs.Ytndjfdakflaggaa.Px
open Go.RowKit Go.Proofs.YtndjfdakflaggaaW.PrintWords Go.Proofs.YtndjfdakflaggaaW.PrintLast Go.Proofs.YtndjfdakflaggaaW.PrintMore
attribute [local go_sem] zC zE zI zJ zu zv zD zF
set_option linter.unusedVariables false
set_option linter.unusedSimpArgs false
def zhG (md : Region.Mode) (ops : Array Oper) (n : Nat) : Bool :=
 (List.range n).all fun i => decide (i < 1) || (List.range (n + 1)).any fun j => decide (i < j) && Region.waitsFor md ops j i
def zg4 (md : Region.Mode) (ops : Array Oper) (n : Nat) : Bool :=
 Region.noSelect ops && decide (0 < n) && decide (n < ops.size) && zhG md ops n && Region.chainB md ops n &&
  (Region.ready md ops (Array.replicate ops.size false)).contains 0 && Region.free md ops (Array.replicate ops.size false) 0 &&
  Region.lexHead md ops (ops.size - n) (n - 1) 1 ((Array.replicate ops.size false).setIfInBounds 0 true)
theorem zfA {md : Region.Mode} {ops : Array Oper} {n : Nat} {listed : Array Bool} (hs : zhG md ops n = true) (hc : Region.chainB md ops n = true) (hn : n < ops.size) (inv : HeadInv md ops n listed) :
  ∀ (d i : Nat),n - i = d → 1 ≤ i → i < n → listed.getD i true = false → ∀ t,n ≤ t → t ∉ Region.ready md ops listed := by
 intro d
 induction d using Nat.strongRecOn with
 | _ d ih =>
  intro i hd hi1 hi hun t ht hr
  obtain ⟨_,ot,hot,hall⟩ := mem_ready.1 hr
  have htlt : t < ops.size := (Array.getElem?_eq_some_iff.1 hot).1
  by_cases htn : t = n
  ·subst htn
   have h1 := List.all_eq_true.1 hs i (List.mem_range.2 hi)
   rw [Bool.or_eq_true] at h1
   have h1 := h1.resolve_left (by simp;omega)
   obtain ⟨j,hj,hj2⟩ := List.any_eq_true.1 h1
   simp only [Bool.and_eq_true,decide_eq_true_eq] at hj2
   obtain ⟨oj,hoj,e,he,hb,hon⟩ := Region.waitsFor_spec hj2.2
   have hjle : j ≤ t := by have := List.mem_range.1 hj;omega
   by_cases hjt : j = t
   ·subst hjt
    have : oj = ot := Option.some.inj (hoj.symm.trans hot)
    subst this
    have h2 := hall e he hb
    rw [hon,getD_both hun] at h2
    cases h2
   ·cases hl : listed.getD j false with
    | true =>
     have h2 := inv.closed j oj hoj hl e he hb
     rw [hon,getD_both hun] at h2
     cases h2
    | false =>
     have hjs : j < listed.size := by rw [inv.size];omega
     exact ih (t - j) (by omega) j rfl (by omega) (by omega) (getD_in hjs hl) t (Nat.le_refl _) hr
  ·have h1 := List.all_eq_true.1 hc t (List.mem_range.2 htlt)
   simp only [Bool.or_eq_true,decide_eq_true_eq] at h1
   rcases h1 with h1 | h1
   ·omega
   ·obtain ⟨o',ho',e,he,hb,hon⟩ := Region.waitsFor_spec h1
    have : o' = ot := Option.some.inj (ho'.symm.trans hot)
    subst this
    have h2 := hall e he hb
    rw [hon,getD_both (inv.tail (t - 1) (by omega) (by omega))] at h2
    cases h2
theorem zgV {P : Program} {md : Region.Mode} {ops : Array Oper} {w : World} {n i : Nat} {oi : Oper} {v : Value} {L : Array Bool → Act → Prop} (hi : ops[i]? = some oi) (hsel : ∀ (j : Nat) (o : Oper) cs b,ops[j]? = some o → o.op ≠ .select cs b)
  (hs : zhG md ops n = true) (hc : Region.chainB md ops n = true) (hn : n < ops.size) (hi1 : 1 ≤ i) (hin : i < n)
  (hdone : ∀ listed a,L listed a → ∀ j ∈ Region.ready md ops listed,n ≤ j) :
  ∀ (f : Nat) (listed : Array Bool) (a : Act),HeadInv md ops n listed →
   (∀ j oj,ops[j]? = some oj → j ≠ i → listed.getD j true = false → (∀ e ∈ oj.after,Region.binds md e = true → e.on ≠ i) → oi.apart ops oj = true) →
   i ∈ Region.ready md ops listed → YieldsAt P ops w oi v a →
   wpAnyL P md ops w n L f (listed.setIfInBounds i true) (a.put oi.dst v) → wpAnyL P md ops w n L (f + 1) listed a := by
 intro f
 induction f with
 | zero =>
  intro listed a inv _ hr hy H
  have hun := (mem_ready.1 hr).1
  refine ⟨fun h => (by rw [h] at hr;cases hr),fun j hj => ?_⟩
  have hjn : j < n := by
   rcases Nat.lt_or_ge j n with h | h
   ·exact h
   ·exact absurd hj (zfA hs hc hn inv _ i rfl hi1 hin hun j h)
  refine ⟨hjn,?_⟩
  by_cases hji : j = i
  ·subst hji;exact hy.stOp hi H
  ·have := hdone _ _ H j (ready_mono hj hji)
   omega
 | succ f ih =>
  intro listed a inv hfree hr hy H
  have hun := (mem_ready.1 hr).1
  refine ⟨fun h => (by rw [h] at hr;cases hr),fun j hj => ?_⟩
  have hjn : j < n := by
   rcases Nat.lt_or_ge j n with h | h
   ·exact h
   ·exact absurd hj (zfA hs hc hn inv _ i rfl hi1 hin hun j h)
  refine ⟨hjn,?_⟩
  by_cases hji : j = i
  ·subst hji;exact hy.stOp hi H
  ·have h1 := (H.2 j (ready_mono hj hji)).2
   obtain ⟨hjun,oj,hoj,hall⟩ := mem_ready.1 hj
   have hnot : ∀ e ∈ oj.after,Region.binds md e = true → e.on ≠ i := fun e he hb heq => by
    have h1 := hall e he hb
    rw [heq,getD_both hun] at h1
    cases h1
   have h2 := stOp_put hoj (hfree j oj hoj hji hjun hnot) (fun cs b => hsel i oi cs b hi) (fun cs b => hsel j oj cs b hoj) hy h1
   have hfree' : ∀ k ok,ops[k]? = some ok → k ≠ i → (listed.setIfInBounds j true).getD k true = false →
     (∀ e ∈ ok.after,Region.binds md e = true → e.on ≠ i) → oi.apart ops ok = true := fun k ok hk hki hun hno => by
    refine hfree k ok hk hki ?_ hno
    by_cases hjk : j = k
    ·subst hjk;exact hjun
    ·rw [getD_set_ne true hjk] at hun;exact hun
   refine stOp_mono (fun a' h3 => ih (listed.setIfInBounds j true) a' (inv.set hj hjn) hfree' (ready_mono hr (Ne.symm hji)) h3.1 ?_) h2
   rw [Array.setIfInBounds_comm _ _ hji]
   exact h3.2
theorem zfC {P : Program} {md : Region.Mode} {ops : Array Oper} {w : World} {n g : Nat} {Lq : Act → Prop} (hsel : Region.noSelect ops = true) (hs : zhG md ops n = true) (hc : Region.chainB md ops n = true) (hn : n < ops.size) :
  ∀ (l : List Oper) (k : Nat) (listed : Array Bool) (a : Act),1 ≤ k → (∀ j,j < l.length → l[j]? = ops[k + j]?) → k + l.length = n → HeadInv md ops n listed →
  Region.lexHead md ops g l.length k listed = true → wpStill P ops w Lq l a →
  wpAnyL P md ops w n (fun listed' a' => Region.seqB md ops g n listed' = true ∧ Lq a') l.length listed a
 | [],k,listed,a,_,_,hk,_,hB,h => by
  have : k = n := by simpa using hk
  subst this
  exact ⟨by simpa [Region.lexHead] using hB,h⟩
 | o :: l,k,listed,a,hk1,hl,hk,inv,hB,h => by
  have h0 : ops[k]? = some o := by simpa using (hl 0 (by simp)).symm
  simp only [List.length_cons,Region.lexHead,Bool.and_eq_true] at hB
  obtain ⟨⟨hr,hf⟩,hB'⟩ := hB
  have hkn : k < n := by simp only [List.length_cons] at hk;omega
  have hr' : k ∈ Region.ready md ops listed := by simpa using hr
  have hst : stOp P ops w k (wpStill P ops w Lq l) a := by unfold stOp;simp only [h0];exact h
  obtain ⟨v,hy,hK⟩ := yieldsAt_of_stOp h0 hst
  exact zgV h0 (Region.noSelect_spec hsel) hs hc hn hk1 hkn (fun listed' a' hL => seqB_ready hL.1) l.length listed a inv (Region.free_spec h0 hf) hr' hy
   (zfC hsel hs hc hn l (k + 1) _ _ (by omega) (fun j hj => by have := hl (j + 1) (by simp;omega);simpa [Nat.add_assoc,Nat.add_comm 1 j] using this) (by simp only [List.length_cons] at hk;omega) (inv.set hr' hkn) hB' hK)
theorem zbW {P : Program} {id : Nat} {Q : Exit → Act → World → Prop} {a : Act} {w : World} {o : Oper} {l : List Oper} (v : Value) (n : Nat) (hm : P.follows .mixedOrders = true) (hB : zg4 .any (o :: l).toArray (n + 1) = true)
  (hQ : ∀ c a w,Q (.panic c) (a.put o.dst v) w → Q (.panic c) a w) (hy : Yields P (o :: l).toArray o v a)
  (h : wpStill P (o :: l).toArray { w with drawn := w.drawn + 1 } (fun a' => wpList P (o :: l).toArray Q (l.drop n) a' { w with drawn := w.drawn + 1 }) (l.take n) (a.put o.dst v)) : (Code.region id (o :: l).toArray true).wp P Q a w := by
 simp only [zg4,Bool.and_eq_true,decide_eq_true_eq] at hB
 obtain ⟨⟨⟨⟨⟨⟨⟨hsel,hn0⟩,hn⟩,hs⟩,hc⟩,hr0⟩,hf0⟩,hlex⟩ := hB
 have hn' : n + 1 < l.length + 1 := by simpa using hn
 have htl : (l.take n).length = n := by simp;omega
 have hdl : (l.drop n).length = (o :: l).toArray.size - (n + 1) := by simp
 have inv0 : HeadInv .any (o :: l).toArray (n + 1) (Array.replicate (o :: l).toArray.size false) :=
  ⟨by simp,fun j oj _ hl => (by rw [getD_replicate_false] at hl;cases hl),fun t _ ht => getD_in (by simpa using ht) (getD_replicate_false _ _)⟩
 have hr0' : 0 ∈ Region.ready .any (o :: l).toArray (Array.replicate (o :: l).toArray.size false) := by simpa using hr0
 have inv1 := inv0.set hr0' (by omega)
 have H := zfC (md := .any) (g := (o :: l).toArray.size - (n + 1)) hsel hs hc hn (l.take n) 1 _ (a.put o.dst v) (by omega) (fun j hj => by
  have hj' : j < n := by rw [htl] at hj;exact hj
  simp [hj',Nat.add_comm 1 j]) (by rw [htl];omega) inv1 (by rw [htl];exact hlex) h
 refine wp_region_any hm ?_
 have := wpAny_of_head (Q' := Q) (g := (o :: l).toArray.size - (n + 1)) (fun listed a' hL => by
  have := wpAny_of_seq (md := .any) (Q' := Q) (l.drop n) (n + 1) listed a' { w with drawn := w.drawn + 1 } (fun j => by simp [List.getElem?_drop,Nat.add_right_comm]) (by rw [hdl];exact hL.1) hL.2
  rwa [hdl] at this) _ _ _ H
 rw [htl,show n + ((o :: l).toArray.size - (n + 1)) = l.length by simp;omega] at this
 have ht := wpAny_take (P := P) (md := .any) (ops := (o :: l).toArray) (Q := Q) (i := 0) (oi := o) (v := v) (fuel := l.length) (listed := Array.replicate (o :: l).toArray.size false) (a := a) (w := { w with drawn := w.drawn + 1 }) rfl hsel hf0 hr0 hQ hy this
 simpa using ht
def zfV (md : Region.Mode) (ops : Array Oper) (n : Nat) : Bool :=
 (List.range ops.size).all fun t => decide (t ≤ n) || (List.range t).any fun j => decide (n ≤ j) && Region.waitsFor md ops t j
def zdj : Nat → Nat → Array Bool → Array Bool
 | 0,_,l => l
 | f + 1,k,l => zdj f (k + 1) (l.setIfInBounds k true)
def zdz (md : Region.Mode) (ops : Array Oper) : Nat → Nat → Array Bool → Bool
 | 0,k,listed => (Region.ready md ops listed).all fun j => decide (k ≤ j)
 | f + 1,k,listed => (Region.ready md ops listed).contains k && Region.free md ops listed k && zdz md ops f (k + 1) (listed.setIfInBounds k true)
def seqS (md : Region.Mode) (ops : Array Oper) : Nat → Nat → Array Bool → Bool
 | 0,_,_ => true
 | m + 1,k,listed => decide (Region.ready md ops listed = [k]) && seqS md ops m (k + 1) (listed.setIfInBounds k true)
def zhI (P : Program) (ops : Array Oper) (Q : Exit → Act → World → Prop) (g : Nat) (listed : Array Bool) : Exit → Act → World → Prop
 | .normal,a,w => wpAny P .any ops Q g listed a w
 | e,a,w => Q e a w
theorem zeN {md : Region.Mode} {ops : Array Oper} : ∀ (f k : Nat) (listed : Array Bool),zdz md ops f k listed = true → ∀ j ∈ Region.ready md ops (zdj f k listed),k + f ≤ j
 | 0,k,listed,h,j,hj => by
  have := List.all_eq_true.1 h j hj
  simpa using this
 | f + 1,k,listed,h,j,hj => by
  simp only [zdz,Bool.and_eq_true] at h
  have := zeN f (k + 1) _ h.2 j hj
  omega
theorem zfB {md : Region.Mode} {ops : Array Oper} {n : Nat} {listed : Array Bool} (hs : Region.sinkB md ops n = true) (hc : zfV md ops n = true) (hn : n < ops.size) (inv : HeadInv md ops n listed) :
  ∀ (d i : Nat),n - i = d → i < n → listed.getD i true = false → ∀ t,n ≤ t → t ∉ Region.ready md ops listed := by
 intro d
 induction d using Nat.strongRecOn with
 | _ d ih =>
  intro i hd hi hun t ht hr
  obtain ⟨_,ot,hot,hall⟩ := mem_ready.1 hr
  have htlt : t < ops.size := (Array.getElem?_eq_some_iff.1 hot).1
  by_cases htn : t = n
  ·subst htn
   have h1 := List.all_eq_true.1 hs i (List.mem_range.2 hi)
   obtain ⟨j,hj,hj2⟩ := List.any_eq_true.1 h1
   simp only [Bool.and_eq_true,decide_eq_true_eq] at hj2
   obtain ⟨oj,hoj,e,he,hb,hon⟩ := Region.waitsFor_spec hj2.2
   have hjle : j ≤ t := by have := List.mem_range.1 hj;omega
   by_cases hjt : j = t
   ·subst hjt
    have : oj = ot := Option.some.inj (hoj.symm.trans hot)
    subst this
    have h2 := hall e he hb
    rw [hon,getD_both hun] at h2
    cases h2
   ·cases hl : listed.getD j false with
    | true =>
     have h2 := inv.closed j oj hoj hl e he hb
     rw [hon,getD_both hun] at h2
     cases h2
    | false =>
     have hjs : j < listed.size := by rw [inv.size];omega
     exact ih (t - j) (by omega) j rfl (by omega) (getD_in hjs hl) t (Nat.le_refl _) hr
  ·have h1 := List.all_eq_true.1 hc t (List.mem_range.2 htlt)
   rw [Bool.or_eq_true] at h1
   have h1 := h1.resolve_left (by simp;omega)
   obtain ⟨j,hj,hj2⟩ := List.any_eq_true.1 h1
   simp only [Bool.and_eq_true,decide_eq_true_eq] at hj2
   obtain ⟨o',ho',e,he,hb,hon⟩ := Region.waitsFor_spec hj2.2
   have : o' = ot := Option.some.inj (ho'.symm.trans hot)
   subst this
   have hjt := List.mem_range.1 hj
   have h2 := hall e he hb
   rw [hon,getD_both (inv.tail j hj2.1 (by omega))] at h2
   cases h2
theorem zgW {P : Program} {md : Region.Mode} {ops : Array Oper} {w : World} {n i : Nat} {oi : Oper} {v : Value} {L : Array Bool → Act → Prop} (hi : ops[i]? = some oi) (hsel : ∀ (j : Nat) (o : Oper) cs b,ops[j]? = some o → o.op ≠ .select cs b)
  (hs : Region.sinkB md ops n = true) (hc : zfV md ops n = true) (hn : n < ops.size) (hin : i < n)
  (hdone : ∀ listed a,L listed a → ∀ j ∈ Region.ready md ops listed,n ≤ j) :
  ∀ (f : Nat) (listed : Array Bool) (a : Act),HeadInv md ops n listed →
   (∀ j oj,ops[j]? = some oj → j ≠ i → listed.getD j true = false → (∀ e ∈ oj.after,Region.binds md e = true → e.on ≠ i) → oi.apart ops oj = true) →
   i ∈ Region.ready md ops listed → YieldsAt P ops w oi v a →
   wpAnyL P md ops w n L f (listed.setIfInBounds i true) (a.put oi.dst v) → wpAnyL P md ops w n L (f + 1) listed a := by
 intro f
 induction f with
 | zero =>
  intro listed a inv _ hr hy H
  have hun := (mem_ready.1 hr).1
  refine ⟨fun h => (by rw [h] at hr;cases hr),fun j hj => ?_⟩
  have hjn : j < n := by
   rcases Nat.lt_or_ge j n with h | h
   ·exact h
   ·exact absurd hj (zfB hs hc hn inv _ i rfl hin hun j h)
  refine ⟨hjn,?_⟩
  by_cases hji : j = i
  ·subst hji;exact hy.stOp hi H
  ·have := hdone _ _ H j (ready_mono hj hji)
   omega
 | succ f ih =>
  intro listed a inv hfree hr hy H
  have hun := (mem_ready.1 hr).1
  refine ⟨fun h => (by rw [h] at hr;cases hr),fun j hj => ?_⟩
  have hjn : j < n := by
   rcases Nat.lt_or_ge j n with h | h
   ·exact h
   ·exact absurd hj (zfB hs hc hn inv _ i rfl hin hun j h)
  refine ⟨hjn,?_⟩
  by_cases hji : j = i
  ·subst hji;exact hy.stOp hi H
  ·have h1 := (H.2 j (ready_mono hj hji)).2
   obtain ⟨hjun,oj,hoj,hall⟩ := mem_ready.1 hj
   have hnot : ∀ e ∈ oj.after,Region.binds md e = true → e.on ≠ i := fun e he hb heq => by
    have h1 := hall e he hb
    rw [heq,getD_both hun] at h1
    cases h1
   have h2 := stOp_put hoj (hfree j oj hoj hji hjun hnot) (fun cs b => hsel i oi cs b hi) (fun cs b => hsel j oj cs b hoj) hy h1
   have hfree' : ∀ k ok,ops[k]? = some ok → k ≠ i → (listed.setIfInBounds j true).getD k true = false →
     (∀ e ∈ ok.after,Region.binds md e = true → e.on ≠ i) → oi.apart ops ok = true := fun k ok hk hki hun hno => by
    refine hfree k ok hk hki ?_ hno
    by_cases hjk : j = k
    ·subst hjk;exact hjun
    ·rw [getD_set_ne true hjk] at hun;exact hun
   refine stOp_mono (fun a' h3 => ih (listed.setIfInBounds j true) a' (inv.set hj hjn) hfree' (ready_mono hr (Ne.symm hji)) h3.1 ?_) h2
   rw [Array.setIfInBounds_comm _ _ hji]
   exact h3.2
theorem zfD {P : Program} {md : Region.Mode} {ops : Array Oper} {w : World} {n : Nat} {Lq : Act → Prop} (hsel : Region.noSelect ops = true) (hs : Region.sinkB md ops n = true) (hc : zfV md ops n = true) (hn : n < ops.size) :
  ∀ (l : List Oper) (k : Nat) (listed : Array Bool) (a : Act),(∀ j,j < l.length → l[j]? = ops[k + j]?) → k + l.length = n → HeadInv md ops n listed →
  zdz md ops l.length k listed = true → wpStill P ops w Lq l a →
  wpAnyL P md ops w n (fun listed' a' => listed' = zdj l.length k listed ∧ Lq a') l.length listed a
 | [],k,listed,a,_,_,_,_,h => ⟨rfl,h⟩
 | o :: l,k,listed,a,hl,hk,inv,hB,h => by
  have h0 : ops[k]? = some o := by simpa using (hl 0 (by simp)).symm
  simp only [List.length_cons,zdz,Bool.and_eq_true] at hB
  obtain ⟨⟨hr,hf⟩,hB'⟩ := hB
  have hkn : k < n := by simp only [List.length_cons] at hk;omega
  have hr' : k ∈ Region.ready md ops listed := by simpa using hr
  have hst : stOp P ops w k (wpStill P ops w Lq l) a := by unfold stOp;simp only [h0];exact h
  obtain ⟨v,hy,hK⟩ := yieldsAt_of_stOp h0 hst
  exact zgW h0 (Region.noSelect_spec hsel) hs hc hn hkn (fun listed' a' hL j hj => by
    rw [hL.1] at hj
    have := zeN l.length (k + 1) _ hB' j hj
    simp only [List.length_cons] at hk
    omega) l.length listed a inv (Region.free_spec h0 hf) hr' hy
   (zfD hsel hs hc hn l (k + 1) _ _ (fun j hj => by have := hl (j + 1) (by simp;omega);simpa [Nat.add_assoc,Nat.add_comm 1 j] using this) (by simp only [List.length_cons] at hk;omega) (inv.set hr' hkn) hB' hK)
theorem zdw {P : Program} {ops : Array Oper} {Q : Exit → Act → World → Prop} {g : Nat} : ∀ (l : List Oper) (k : Nat) (listed : Array Bool) (a : Act) (w : World),(∀ j,j < l.length → l[j]? = ops[k + j]?) →
  seqS .any ops l.length k listed = true → wpList P ops (zhI P ops Q g (zdj l.length k listed)) l a w → wpAny P .any ops Q (l.length + g) listed a w
 | [],_,_,_,_,_,_,h => by rw [List.length_nil,Nat.zero_add];exact h
 | o :: l,k,listed,a,w,hl,hB,h => by
  have h0 : ops[k]? = some o := by simpa using (hl 0 (by simp)).symm
  simp only [List.length_cons,seqS,Bool.and_eq_true,decide_eq_true_eq] at hB
  rw [List.length_cons,show l.length + 1 + g = (l.length + g) + 1 by omega]
  refine ⟨fun h1 => (by rw [hB.1] at h1;cases h1),fun i hi => ?_⟩
  rw [hB.1] at hi
  have hik : i = k := by simpa using hi
  subst hik
  have hw : wpOp P ops Q i (wpList P ops (zhI P ops Q g (zdj (o :: l).length i listed)) l) a w := by unfold wpOp;simp only [h0];exact h
  exact wpOp_mono (fun a' w' h' => zdw l (i + 1) _ a' w' (fun j hj => by have := hl (j + 1) (by simp;omega);simpa [Nat.add_assoc,Nat.add_comm 1 j] using this) hB.2 h') hw
def lexAnyB (ops : Array Oper) (n m : Nat) : Bool :=
 Region.noSelect ops && decide (n + m ≤ ops.size) && decide (n < ops.size) && Region.sinkB .any ops n && zfV .any ops n && zdz .any ops n 0 (Array.replicate ops.size false) && seqS .any ops m n (zdj n 0 (Array.replicate ops.size false))
theorem zeq {P : Program} {id : Nat} {Q : Exit → Act → World → Prop} {a : Act} {w : World} {l : List Oper} (n m : Nat) (hm : P.follows .mixedOrders = true) (hB : lexAnyB l.toArray n m = true)
  (h : wpStill P l.toArray { w with drawn := w.drawn + 1 } (fun a' => wpList P l.toArray (zhI P l.toArray Q (l.length - n - m) (zdj m n (zdj n 0 (Array.replicate l.length false)))) ((l.drop n).take m) a' { w with drawn := w.drawn + 1 }) (l.take n) a) : (Code.region id l.toArray true).wp P Q a w := by
 simp only [lexAnyB,Bool.and_eq_true,decide_eq_true_eq] at hB
 obtain ⟨⟨⟨⟨⟨⟨hsel,hnm⟩,hn⟩,hs⟩,hc⟩,hlex⟩,hseq⟩ := hB
 have hsz : l.toArray.size = l.length := by simp
 rw [hsz] at hlex hseq hnm
 have hn' : n < l.length := by simpa using hn
 have htl : (l.take n).length = n := by simp;omega
 have hdl : ((l.drop n).take m).length = m := by simp;omega
 have inv0 : HeadInv .any l.toArray n (Array.replicate l.length false) :=
  ⟨by simp,fun j oj _ hl => (by rw [getD_replicate_false] at hl;cases hl),fun t _ ht => getD_in (by simpa using ht) (getD_replicate_false _ _)⟩
 have H := zfD (md := .any) hsel hs hc hn (l.take n) 0 _ a (fun j hj => by
  have hj' : j < n := by rw [htl] at hj;exact hj
  simp [hj']) (by simpa using htl) inv0 (by rw [htl];exact hlex) h
 refine wp_region_any hm ?_
 have := wpAny_of_head (Q' := Q) (g := m + (l.length - n - m)) (fun listed a' hL => by
  obtain ⟨rfl,hL⟩ := hL
  rw [htl]
  have := zdw (P := P) (ops := l.toArray) (Q := Q) (g := l.length - n - m) ((l.drop n).take m) n _ a' { w with drawn := w.drawn + 1 } (fun j hj => by
   have hj' : j < m := by rw [hdl] at hj;exact hj
   simp [List.getElem?_take,List.getElem?_drop,hj']) (by rw [hdl];exact hseq) (by rw [hdl];exact hL)
  rwa [hdl] at this) _ _ _ H
 rw [htl,show n + (m + (l.length - n - m)) = l.length by omega] at this
 rw [hsz]
 exact this
theorem wpAny_last {P : Program} {ops : Array Oper} {Q : Exit → Act → World → Prop} (i : Nat) {o : Oper} {listed : Array Bool} {a : Act} {w : World} (h0 : ops[i]? = some o) (hr : Region.ready .any ops listed = [i]) (hn : Region.ready .any ops (listed.setIfInBounds i true) = [])
  (h : wpList P ops Q [o] a w) : wpAny P .any ops Q 1 listed a w := by
 refine zdw (g := 0) [o] i listed a w (fun j hj => ?_) (by simp [seqS,hr]) ?_
 ·obtain rfl : j = 0 := by simpa using hj
  rw [Nat.add_zero,h0];rfl
 ·unfold wpList at h ⊢
  split
  ·rename_i hw
   rw [if_pos hw] at h
   refine h.imp (fun h1 => ?_) (fun h1 => h1)
   exact Oper.wp_mono (fun a' w' h2 => ⟨hn,h2⟩) h1
  ·rename_i hw
   rw [if_neg hw] at h
   exact ⟨hn,h⟩
theorem zgL {P : Program} {w : World} (base : Nat) (t ty e : TypeId) (i : TypeInfo) (ht : P.underlying t = some (.slice e)) (hi : P.info? e = some i) (hz : i.zero = some (.int .u8 0))
  (hsize : i.size = 1) (hby : i.bytes = 1) (v : Value) (l : Bs) (hown : zaN w base e v l) (ad : Addr) (b : UInt8) (hcell : w.cell? ad = some (.int .u8 (b.toNat : Int))) (hbytes : l.length + 1 ≤ 140737488355328) (hbase : base ≤ w.heap.size) :
  ∃ v' w',(Builtin.append_ #[t,t] ty #[v,.slice (some ad) 1 1]).run P w = .ok v' w' ∧ zaN w' base e v' (l ++ [b]) ∧ Below base w w' := by
 obtain ⟨g,cap,cur,fz,rfl,hbg,hg,hfz,hnc,hcm,hcs,htake⟩ := hown
 have hsmall : l.length + 1 ≤ maxLen := by unfold maxLen;omega
 have hlen : (l ++ [b]).length = l.length + 1 := by rw [List.length_append];rfl
 have hcells : Lib.byteCells (l ++ [b]) = Lib.byteCells l ++ [.int .u8 (b.toNat : Int)] := by simp [Lib.byteCells]
 have hcl : (Lib.byteCells l ++ [Value.int .u8 (b.toNat : Int)]).length = l.length + 1 := by rw [List.length_append,Lib.byteCells_length];rfl
 have hnews : ∀ j u,[Value.int .u8 (b.toNat : Int)][j]? = some u → w.cell? (ad.add j) = some u := by
  intro j u hu
  rcases j with _ | j
  ·simp at hu;subst hu;exact hcell
  ·simp at hu
 by_cases hroom : l.length + 1 ≤ cap
 ·have hf := run_firstCells_some (P := P) w 1 1 ad 1 1 [Value.int .u8 (b.toNat : Int)] rfl hnews
  have hst := zcn P g l.length e fz [Value.int .u8 (b.toNat : Int)] 0 cur w hg (by omega) (by simp;omega) (by simp;rfl)
  simp only [Nat.add_zero,List.length_cons,List.length_nil,Nat.zero_add] at hst
  refine ⟨.slice (some ⟨g,0,none⟩) (l.length + 1) cap,w.setRow g (cur.toList.take l.length ++ [Value.int .u8 (b.toNat : Int)] ++ cur.toList.drop (l.length + 1)).toArray,?_,?_,?_⟩
  ·simp [Builtin.append_,run_underlying ht,sizeOf,typeInfo,hi,hsize,Builtin.lenOf,hroom,hf,Addr.add_lit]
   simp only [List.append_assoc,List.cons_append,List.nil_append] at hst
   simp [hst]
  ·refine ⟨g,cap,_,fz,by rw [hlen],hbg,setRow_heap w g cur _ e _ hg,by rw [hlen];omega,by rw [hlen];exact hroom,hcm,?_,?_⟩
   ·simp only [List.size_toArray,List.length_append,List.length_take,List.length_drop,Array.length_toList,List.length_cons,List.length_nil]
    omega
   ·rw [htake,hlen,hcells,← hcl]
    exact List.take_left
  ·exact ⟨rfl,rfl,rfl,by simp,fun k hk => setRow_other w g k _ (by omega)⟩
 ·have holds : ∀ j u,(Lib.byteCells l)[j]? = some u → w.cell? ((⟨g,0,none⟩ : Addr).add j) = some u := by
   intro j u hu
   rw [← htake,List.getElem?_take] at hu
   split at hu
   ·rw [zbI]
    simp [World.cell?,hg]
    simpa using hu
   ·cases hu
  have hr := run_append_grow (P := P) w t ty e i (.int .u8 0) ht hi hz ⟨g,0,none⟩ l.length cap (Lib.byteCells l) (by rw [hsize,Lib.byteCells_length];omega) holds ad 1 1 [Value.int .u8 (b.toNat : Int)] (by rw [hsize];rfl) hnews (by omega) (by omega) (by rw [hby];exact growslice_fits (by omega) (by omega))
  have hge := grownCap_ge w (l.length + 1) cap e
  have hcm2 : grownCap w (l.length + 1) cap e ≤ maxLen := grownCap_le_maxLen w (l.length + 1) cap e hsmall
  refine ⟨_,_,hr,⟨w.heap.size,_,_,(0,0),by rw [hlen],hbase,heap_alloc_new w.drew _,.inl (Nat.zero_le _),by rw [hlen];exact hge,hcm2,?_,?_⟩,⟨rfl,rfl,rfl,by simp,fun k hk => Lib.alloc_old w.drew _ k (Nat.lt_of_lt_of_le hk hbase)⟩⟩
  ·have hz1 : (Value.int IntKind.u8 0).cells.size = 1 := rfl
   simp only [Array.size_append,List.size_toArray,size_zeroCells,hz1,Lib.byteCells_length,List.length_cons,List.length_nil]
   omega
  ·simp only [Array.toList_append,List.append_assoc]
   rw [← List.append_assoc,hlen,hcells,← hcl]
   exact List.take_left
theorem zdZ {P : Program} {W w0 : World} {ops : Array Oper} {rest : List Oper} {o : Oper} {a : Act} {Q : Exit → Act → World → Prop} (hgd : o.guard = none) (sl x : Operand) (t : TypeId)
  (ho : o.op = .call { callee := .builtin .append,args := #[sl,x],argTypes := #[t,t] })
  (base : Nat) (e : TypeId) (ht : P.underlying t = some (.slice e)) (hinfo : (P.info? e).map (fun i => (i.zero,i.size,i.bytes)) = some (some (.int .u8 0),1,1))
  (v : Value) (l : Bs) (hs : a.eval sl = v) (hown : zaN W base e v l) (b : UInt8) (y : Int) (hy : y = (b.toNat : Int)) (hx : a.eval x = .slice (some ⟨W.heap.size,0,none⟩) 1 1) (HB : Below base w0 W) (hbytes : l.length + 1 ≤ 140737488355328) (hbase : base ≤ W.heap.size)
  (h : ∀ v' w',zaN w' base e v' (l ++ [b]) → Below base w0 w' → wpList P ops Q rest (a.put o.dst v') w') : wpList P ops Q (o :: rest) a (W.alloc (.cells #[.int .u8 y] e)) := by
 subst hy
 obtain ⟨i0,hi,hzz⟩ := Option.map_eq_some_iff.1 hinfo
 simp only [Prod.mk.injEq] at hzz
 obtain ⟨hz0,hz1,hz2⟩ := hzz
 refine wpList_plain hgd fun K hK => ?_
 have hc : (W.alloc (.cells #[.int .u8 (b.toNat : Int)] e)).cell? ⟨W.heap.size,0,none⟩ = some (.int .u8 (b.toNat : Int)) := (zb (heap_alloc_new W _) 0).trans rfl
 have hb1 : Below W.heap.size W (W.alloc (.cells #[.int .u8 (b.toNat : Int)] e)) := (Below.refl _ _).alloc (Nat.le_refl _) _
 obtain ⟨v',w',hr,h2,h3⟩ := zgL (P := P) base t o.type e i0 ht hi hz0 hz1 hz2 v l (hown.below hb1) _ b hc hbytes (by simp;omega)
 unfold Oper.wp execOp
 simp only [ho,resolve,invoke,builtin,Sem.run_bind,Sem.run_pure,Result.andThen_ok,List.map_toArray,List.map_cons,List.map_nil,hs,hx,hr]
 exact hK _ _ (h v' w' h2 ((HB.alloc hbase _).trans h3))
theorem zhJ : (Try.prog.info? 5).map (fun i => (i.zero,i.size,i.bytes)) = some (some (.int .u8 0),1,1) := by kernel_rfl
def zev (n : Nat) : Nat → List Int
 | 0 => []
 | k + 1 => ((n / 256 ^ k % 256 : Nat) : Int) :: zev n k
theorem zfn (n : Nat) : ∀ k,(zev n k).length = k
 | 0 => rfl
 | k + 1 => by rw [zev,List.length_cons,zfn n k]
theorem tailX_str (n : Nat) : strOfNums (zev n 8) = toB (zez n) := by
 rw [zbU]
 congr 1
 simp only [zev,zez,List.map_cons,List.map_nil]
 simp only [Int.toNat_natCast,Nat.reducePow,Nat.div_one]
structure Rpb (w W : World) (v : Value) (l : Bs) : Prop where
 o : zaN W w.heap.size 5 v l
 b : Below w.heap.size w W
structure Rpt (w1 W : World) (t : Value) (xs : List Int) : Prop where
 t : W.ownsRow w1.heap.size 5 1 t xs.length (zbL .u8 xs)
 c : Below w1.heap.size w1 W
theorem zfI {w : World} {base n : Nat} {e : TypeId} {k : IntKind} {v : Value} {xs : List Int} (h : w.ownsRow base e 1 v n (zbL k xs)) : ∃ A c,v = .slice A n c ∧ ∀ W,Below w.heap.size w W → zbd W k A n xs := by
 obtain ⟨A,c,rfl,_⟩ := zfd h
 refine ⟨A,c,rfl,fun W hb => ?_⟩
 obtain ⟨A',c',e,h2⟩ := zfd (zb7 h hb)
 cases e
 exact h2
set_option maxHeartbeats 4000000 in
set_option maxRecDepth 100000 in
theorem rpad.walk (s : ByteArray) (w : World) (hsz : s.size ≤ 70368744177664) :
  Calls Try.prog 60 #[.string s] w fun e w' => e = .returned (.string (toB (zd8 (ofB s)))) ∧ Below w.heap.size w w' := by
 have HSZ := za.mk hsz
 clear hsz
 have kb := fun (W : World) (s : ByteArray) => Lib.run_convert_string_bytes (P := Try.prog) W 9 91 5 s Try.underlying9 Try.underlying91 Try.underlying5
 go_enter Try.func60,Try.ntmps60
 have H0 : za (Rpb w (Lib.bytesWorld w 5 s) (.slice (some ⟨w.heap.size,0,none⟩) s.size (grownCap w s.size 0 5)) (ofB s)) := ⟨⟨zaN.start w w.heap.size 5 s (Nat.le_refl _) (by have := HSZ.out;unfold maxLen;omega),zfo (Below.refl _ _) (Nat.le_refl _) 5 _⟩⟩
 go_wp2_with (at_builtin;refine zdZ rfl _ _ 91 rfl w.heap.size 5 Try.underlying91 zhJ _ _ rfl H0.out.o 128 _ rfl rfl H0.out.b (by rw [zat];have := HSZ.out;omega) H0.out.b.size ?_;intro v1 w1 ho1 hb1;have H1 : za (Rpb w w1 v1 (ofB s ++ 128 :: List.replicate 0 0)) := ⟨⟨ho1,hb1⟩⟩;clear ho1 hb1 H0)
 go_loopw [3] (fun v3 wr => ∃ j : Nat,j ≤ zcE s.size ∧ za (Rpb w wr v3 (ofB s ++ 128 :: List.replicate j 0))) (fun v3 _ => 200 + s.size - (match v3 with | .slice _ n _ => n | _ => 0))
 case atStart => exact ⟨0,by omega,H1⟩
 case round =>
  obtain ⟨j,hj,HM⟩ := hrel
  have hlen : (ofB s ++ 128 :: List.replicate j 0).length = s.size + 1 + j := by rw [List.length_append,List.length_cons,List.length_replicate,zat];omega
  obtain ⟨g,cap,cur,fz,rfl,hrest⟩ := HM.out.o
  rw [hlen]
  obtain ⟨N,eN⟩ : ∃ N : Nat,N = s.size + 1 + j := ⟨_,rfl⟩
  rw [← eN] at hlen ⊢
  have HO : za (zaN wr w.heap.size 5 (.slice (some ⟨g,0,none⟩) N cap) (ofB s ++ 128 :: List.replicate j 0)) := ⟨⟨g,cap,cur,fz,by rw [hlen],hrest⟩⟩
  have HL := za.mk hlen
  have EN := za.mk eN
  have HB := za.mk HM.out.b
  clear hrest HM hlen
  have hsz := HSZ.out
  by_cases hlt : j < zcE s.size
  ·have hmod : ¬ N % 64 = 56 := by unfold zcE at hlt hj;omega
   have c1 : (N % 64 == 56) = false := beq_eq_false_iff_ne.2 hmod
   have c2 : (((N : Int) % 64) == 56) = false := beq_eq_false_iff_ne.2 (by omega)
   have c3 : ((Int.tmod (N : Int) 64) == 56) = false := beq_eq_false_iff_ne.2 (by rw [Int.tmod_eq_emod_of_nonneg (by omega)];omega)
   have c4 : ((Int.tmod (N : Int) 64) != 56) = true := by rw [bne,c3];rfl
   have hp64 : zcE s.size < 64 := by unfold zcE;omega
   have HP : za (N + 1 ≤ 140737488355328) := ⟨by omega⟩
   clear eN hsz hmod
   go_wp2_with (at_builtin;refine zdZ rfl _ _ 91 rfl w.heap.size 5 Try.underlying91 zhJ _ _ rfl HO.out 0 _ rfl rfl HB.out (by rw [HL.out];exact HP.out) HB.out.size ?_;intro v1 w1 ho1 hb1;have HM1 : za (Rpb w w1 v1 (ofB s ++ 128 :: List.replicate (j + 1) 0)) := ⟨⟨by rw [List.replicate_succ',← List.cons_append,← List.append_assoc];exact ho1,hb1⟩⟩;clear ho1 hb1)
   go_roundw
   case rel => exact ⟨j + 1,by omega,HM1⟩
   case measure =>
    obtain ⟨g2,cap2,cur2,fz2,rfl,_⟩ := HM1.out.o
    have e1 : (ofB s ++ 128 :: List.replicate (j + 1) 0).length = N + 1 := by have := EN.out;rw [List.length_append,List.length_cons,List.length_replicate,zat];omega
    rw [e1]
    have := EN.out
    show 200 + s.size - (N + 1) < 200 + s.size - N
    omega
  ·obtain rfl : j = zcE s.size := by omega
   have hmod : N % 64 = 56 := by unfold zcE at eN;omega
   have c1 : (N % 64 == 56) = true := beq_iff_eq.2 hmod
   have c2 : (((N : Int) % 64) == 56) = true := beq_iff_eq.2 (by omega)
   have c3 : ((Int.tmod (N : Int) 64) == 56) = true := beq_iff_eq.2 (by rw [Int.tmod_eq_emod_of_nonneg (by omega)];omega)
   have c4 : ((Int.tmod (N : Int) 64) != 56) = false := by rw [bne,c3];rfl
   clear hlt hj eN hmod hsz
   go_wp2
   obtain ⟨n0,en0⟩ : ∃ n0 : Nat,n0 = s.size * 8 := ⟨_,rfl⟩
   have hw : IntKind.u64.wrap (IntKind.u64.wrap (s.size : Int) * 8) = (n0 : Int) := by
    have := HSZ.out
    rw [IntKind.wrap_u64,IntKind.wrap_u64];omega
   have EN0 := za.mk en0
   clear en0
   have c5 : ((N : Int) % 64 != 56) = false := by rw [bne,c2];rfl
   rw [hw,c5]
   have T0 : za (∃ wb,zaN wb w.heap.size 5 (.slice (some ⟨g,0,none⟩) N cap) (ofB s ++ 128 :: List.replicate (zcE s.size) 0) ∧ Below w.heap.size w wb ∧ Rpt wb wr (.slice none 0 0) (zev (n0) 0)) := ⟨wr,HO.out,HB.out,zfY _ _ _ _,Below.refl _ _⟩
   clear hw H1 HO HB
   obtain ⟨wb,hO,hB,hT⟩ := T0.out
   have HO := za.mk hO
   have HB := za.mk hB
   have HT := za.mk hT
   clear T0 hO hB hT
   go_loopw [4,5,6] (fun v4 v5 v6 wq => ∃ k : Nat,v6 = .int .i64 k ∧ k ≤ 8 ∧ v4 = .int .u64 ((n0 / 256 ^ k : Nat) : Int) ∧ za (Rpt wb wq v5 (zev (n0) k))) (fun _ _ v6 _ => 8 - (intOf v6).toNat)
   case atStart => exact ⟨0,rfl,by omega,by rw [Nat.pow_zero,Nat.div_one],HT⟩
   case round =>
    clear HT
    obtain ⟨k,rfl,hk,rfl,HT⟩ := hrel
    obtain ⟨A,c,rfl,HR⟩ := zfI HT.out.t
    rw [zfn] at HR ⊢
    obtain ⟨M,eM⟩ : ∃ M : Nat,M = n0 / 256 ^ k := ⟨_,rfl⟩
    rw [← eM]
    have hM : n0 ≤ 562949953421312 := by have := HSZ.out;have := EN0.out;omega
    have hM2 : M ≤ n0 := by rw [eM];exact Nat.div_le_self _ _
    by_cases hlt : k < 8
    ·have k1 : decide (k < 8) = true := decide_eq_true hlt
     have k2 : decide ((k : Int) < 8) = true := decide_eq_true (by omega)
     have z1 : IntKind.i64.wrap ((k : Int) + 1) = ((k + 1 : Nat) : Int) := by rw [IntKind.wrap_i64];omega
     have HRR := za.mk HR
     have EM := za.mk eM
     have HM2 : za (M ≤ 562949953421312) := ⟨by omega⟩
     clear HR eM hM hM2
     go_wp2_with (at_builtin;refine zdG wb.heap.size rfl _ _ 91 5 .u8 1 rfl Try.underlying91 zhJ (by decide) _ [(M : Int) % 256] (zev (n0) k) _ _ _ rfl rfl (own_lit wr wb.heap.size 5 .u8 [(M : Int) % 256] HT.out.c.size (by simp)) (HRR.out _ ((Below.refl _ _).alloc (Nat.le_refl _) _)) (HT.out.c.alloc HT.out.c.size _) (Nat.le_trans HT.out.c.size (zh ((Below.refl _ _).alloc (Nat.le_refl _) _))) (by simp;omega) ?_;intro v5 w5 ho5 hb5 hx1 hx2;clear hx1 hx2;have HT5 : za (Rpt wb w5 v5 (zev (n0) (k + 1))) := ⟨⟨by rw [zev,← EM.out];exact ho5,hb5⟩⟩;clear ho5 hb5)
     go_roundw
     case rel =>
      refine ⟨k + 1,rfl,by omega,?_,HT5⟩
      have h2 := HM2.out
      have e2 : n0 / 256 ^ (k + 1) = M / 256 := by rw [Nat.pow_succ,← Nat.div_div_eq_div_mul,← EM.out]
      rw [e2,IntKind.wrap_u64]
      congr 1
      omega
     case measure => show 8 - ((k : Int) + 1).toNat < 8 - (k : Int).toNat;omega
    ·obtain rfl : k = 8 := by omega
     have k1 : decide ((8 : Int) < 8) = false := rfl
     have hs2 := (zaN.below HO.out HT.out.c).string Try.underlying91 Try.underlying5 9 Try.underlying9
     have ht := HT.out.t
     rw [zfn] at ht
     have ht2 := zdR (P := Try.prog) Try.underlying91 Try.underlying5 Try.underlying9 ht
     rw [tailX_str] at ht2
     obtain ⟨X,eX⟩ : ∃ X,X = toB (ofB s ++ 128 :: List.replicate (zcE s.size) 0) := ⟨_,rfl⟩
     obtain ⟨Y,eY⟩ : ∃ Y,Y = toB (zez (n0)) := ⟨_,rfl⟩
     rw [← eX] at hs2
     rw [← eY] at ht2
     have q1 : (9223372036854775807 < X.size + Y.size) = False := eq_false (by
      have h1 : Y.size = 8 := by rw [eY,zay];rfl
      have h2 : X.size = N := by rw [eX,zay,HL.out]
      have h3 := EN.out
      have h5 := HSZ.out
      have h4 : zcE s.size < 64 := by unfold zcE;omega
      omega)
     have EX := za.mk eX
     have EY := za.mk eY
     clear eX eY eM hM hM2 hlt hk ht
     go_wp2
     go_ret
     refine ⟨?_,zf HB.out HT.out.c⟩
     rw [EX.out,EY.out,← zbc,zd8,zat,EN0.out]
     congr 3
     simp
theorem zeu (n : Nat) (h0 : 1 ≤ n) (h1 : n ≤ 31) (x : Int) (hx : zbr x) (w : World) : Calls Try.prog 83 #[.int .u32 x,.int .i64 (n : Int)] w fun e w' => e = .returned (.int .u32 (zaq n x)) ∧ Below w.heap.size w w' := by
 obtain ⟨k,hk⟩ := (ziQ n h0 h1 hx).rounds
 refine (zP.calls k _ _ _ w hk).mono ?_
 rintro e w1 ⟨rfl,⟨nd,rfl⟩⟩
 exact ⟨rfl,zj (Below.refl _ _) nd⟩
theorem rover (n : Nat) (h1 : n ≤ 31) (x : Int) (hx : zbr x) (w : World) : Calls Try.prog 84 #[.int .u32 x,.int .i64 (n : Int)] w fun e w' => e = .returned (.int .u32 (x / 2 ^ n)) ∧ Below w.heap.size w w' := by
 obtain ⟨k,hk⟩ := (ziO n h1 hx).rounds
 refine (zad.calls k _ _ _ w hk).mono ?_
 rintro e w1 ⟨rfl,⟨nd,rfl⟩⟩
 exact ⟨rfl,zj (Below.refl _ _) nd⟩
theorem rturn2 (x : Int) (hx : zbr x) (w : World) : Calls Try.prog 83 #[.int .u32 x,.int .i64 2] w fun e w' => e = .returned (.int .u32 (zaq 2 x)) ∧ Below w.heap.size w w' := zeu 2 (by decide) (by decide) x hx w
theorem rturn6 (x : Int) (hx : zbr x) (w : World) : Calls Try.prog 83 #[.int .u32 x,.int .i64 6] w fun e w' => e = .returned (.int .u32 (zaq 6 x)) ∧ Below w.heap.size w w' := zeu 6 (by decide) (by decide) x hx w
theorem rturn7 (x : Int) (hx : zbr x) (w : World) : Calls Try.prog 83 #[.int .u32 x,.int .i64 7] w fun e w' => e = .returned (.int .u32 (zaq 7 x)) ∧ Below w.heap.size w w' := zeu 7 (by decide) (by decide) x hx w
theorem rturn11 (x : Int) (hx : zbr x) (w : World) : Calls Try.prog 83 #[.int .u32 x,.int .i64 11] w fun e w' => e = .returned (.int .u32 (zaq 11 x)) ∧ Below w.heap.size w w' := zeu 11 (by decide) (by decide) x hx w
theorem rturn13 (x : Int) (hx : zbr x) (w : World) : Calls Try.prog 83 #[.int .u32 x,.int .i64 13] w fun e w' => e = .returned (.int .u32 (zaq 13 x)) ∧ Below w.heap.size w w' := zeu 13 (by decide) (by decide) x hx w
theorem rturn17 (x : Int) (hx : zbr x) (w : World) : Calls Try.prog 83 #[.int .u32 x,.int .i64 17] w fun e w' => e = .returned (.int .u32 (zaq 17 x)) ∧ Below w.heap.size w w' := zeu 17 (by decide) (by decide) x hx w
theorem rturn18 (x : Int) (hx : zbr x) (w : World) : Calls Try.prog 83 #[.int .u32 x,.int .i64 18] w fun e w' => e = .returned (.int .u32 (zaq 18 x)) ∧ Below w.heap.size w w' := zeu 18 (by decide) (by decide) x hx w
theorem rturn19 (x : Int) (hx : zbr x) (w : World) : Calls Try.prog 83 #[.int .u32 x,.int .i64 19] w fun e w' => e = .returned (.int .u32 (zaq 19 x)) ∧ Below w.heap.size w w' := zeu 19 (by decide) (by decide) x hx w
theorem rturn22 (x : Int) (hx : zbr x) (w : World) : Calls Try.prog 83 #[.int .u32 x,.int .i64 22] w fun e w' => e = .returned (.int .u32 (zaq 22 x)) ∧ Below w.heap.size w w' := zeu 22 (by decide) (by decide) x hx w
theorem rturn25 (x : Int) (hx : zbr x) (w : World) : Calls Try.prog 83 #[.int .u32 x,.int .i64 25] w fun e w' => e = .returned (.int .u32 (zaq 25 x)) ∧ Below w.heap.size w w' := zeu 25 (by decide) (by decide) x hx w
theorem rover3 (x : Int) (hx : zbr x) (w : World) : Calls Try.prog 84 #[.int .u32 x,.int .i64 3] w fun e w' => e = .returned (.int .u32 (x / 8)) ∧ Below w.heap.size w w' := rover 3 (by decide) x hx w
theorem rover10 (x : Int) (hx : zbr x) (w : World) : Calls Try.prog 84 #[.int .u32 x,.int .i64 10] w fun e w' => e = .returned (.int .u32 (x / 1024)) ∧ Below w.heap.size w w' := rover 10 (by decide) x hx w
theorem u32Info : (Try.prog.info? 86).map (fun i => (i.zero,i.size,i.bytes)) = some (some (.int .u32 0),1,4) := by kernel_rfl
theorem sum4 {a b c d : Int} (ha : 0 ≤ a ∧ a ≤ 255) (hb : 0 ≤ b ∧ b ≤ 255) (hc : 0 ≤ c ∧ c ≤ 255) (hd : 0 ≤ d ∧ d ≤ 255) :
  ((((a % 4294967296 * 16777216 % 4294967296 + b % 4294967296 * 65536 % 4294967296) % 4294967296 + c % 4294967296 * 256 % 4294967296) % 4294967296 + d % 4294967296) % 4294967296) = a * 16777216 + b * 65536 + c * 256 + d := by omega
theorem rsched (a s c t : Int) : (((a + s) % 4294967296 + c) % 4294967296 + t) % 4294967296 = zcF (zcF (zcF (a + s) + c) + t) := by
 simp only [zb0]
structure Rw (w1 W : World) (v : Value) (xs : List Int) : Prop where
 o : W.ownsRow w1.heap.size 86 1 v xs.length (zbL .u32 xs)
 c : Below w1.heap.size w1 W
theorem Rw.below {w1 W W' : World} {v : Value} {xs : List Int} (h : Rw w1 W v xs) (hb : Below W.heap.size W W') : Rw w1 W' v xs := ⟨zb7 h.o hb,zf h.c hb⟩
structure Rh (w W : World) (g2 g4 : Nat) (H : List Int) : Prop where
 b : Below w.heap.size w W
 h : W.heap[g2]? = some (.cells (zL H) 87 (0,0))
 r : W.heap[g4]? = some (.cells (zL [0,0,0,0,0,0,0,0]) 87 (0,0))
set_option maxHeartbeats 4000000 in
set_option maxRecDepth 100000 in
theorem rfirst.walk (w : World) : Calls Try.prog 59 #[] w fun e w' => e = .returned (.agg (zL hL)) ∧ Below w.heap.size w w' := by
 go_enter Try.func59,Try.ntmps59
 go_wp2
 refine bodyPost_ret (results_cell_row rfl _ _ w.heap.size 87 (zL hL) (0,0) _ rfl (zbO _ _) Try.underlying87 rfl (by kernel_rfl)) rfl ?_
 exact ⟨rfl,(Below.refl _ _).alloc (Nat.le_refl _) _⟩
set_option maxHeartbeats 4000000 in
set_option maxRecDepth 100000 in
theorem rwords.walk (w : World) : Calls Try.prog 85 #[] w fun e w' => e = .returned (.agg (zL kL)) ∧ Below w.heap.size w w' := by
 go_enter Try.func85,Try.ntmps85
 refine wp_seq ?_
 refine wp_region_lit ?_
 refine zn ?hg (N := 0) ?hd (cs := zL (zbV [])) (t := 99) ?hr ?_
 case hd => rfl
 case hg => rfl
 case hr => first | (go_simp;done) | (go_simp;rfl)
 intro g0 hg w1 hbox hb
 refine wpList_nil ?_
 refine wp_seq ?_
 refine wp_region_lit ?_
 refine wpList_build rfl 99 _ rfl (by kernel_rfl) ?_
 refine wpList_store_row rfl 99 (.tmp 0) (.tmp 1) rfl g0 (zL kL) (by kernel_rfl) ?_ 99 (zL (zbV [])) hbox (by kernel_rfl) (by kernel_rfl) zhn ?_
 ·kernel_rfl
 refine wpList_nil ?_
 refine wp_ret ?_
 refine bodyPost_ret (results_cell_row rfl _ _ g0 99 (zL kL) (0,0) _ (by kernel_rfl) (setRow_heap _ _ _ _ _ _ hbox) Try.underlying99 rfl (by kernel_rfl)) rfl ?_
 exact ⟨rfl,zbl hb (Nat.le_of_eq hg.symm)⟩
theorem zhu {W W' : World} {base e n g c : Nat} {size : Nat} {xs : List Value} (h : W.ownsRow base e size (.slice (some ⟨g,0,none⟩) n c) n xs) (hb : W'.heap[g]? = W.heap[g]?) : W'.ownsRow base e size (.slice (some ⟨g,0,none⟩) n c) n xs := by
 refine ⟨h.1,?_⟩
 rcases h.2 with h1 | ⟨g',cap,cur,e1,h2,h3,h4⟩
 ·exact .inl h1
 ·cases e1
  exact .inr ⟨g,c,cur,rfl,h2,hb.trans h3,h4⟩
structure Rq (w W : World) (B g2 g4 g c : Nat) (H Wl : List Int) : Prop where
 b : Below w.heap.size w W
 h : W.heap[g2]? = some (.cells (zL H) 87 (0,0))
 r : W.heap[g4]? = some (.cells (zL [0,0,0,0,0,0,0,0]) 87 (0,0))
 o : W.ownsRow B 86 1 (.slice (some ⟨g,0,none⟩) 64 c) 64 (zbL .u32 Wl)
theorem Rq.below {w W W' : World} {B g2 g4 g c : Nat} {H Wl : List Int} (h : Rq w W B g2 g4 g c H Wl) (hb : Below W.heap.size W W') : Rq w W' B g2 g4 g c H Wl := ⟨zf h.b hb,zr h.h hb,zr h.r hb,zb7 h.o hb⟩
theorem Rq.row {w W : World} {B g2 g4 g c g13 : Nat} {cs : Array Value} {H Wl : List Int} (h : Rq w W B g2 g4 g c H Wl) (G : w.heap.size ≤ g13) (n2 : g13 ≠ g2) (n4 : g13 ≠ g4) (n : g13 ≠ g) : Rq w (W.setRow g13 cs) B g2 g4 g c H Wl :=
 ⟨zbl h.b G,(setRow_other _ _ _ _ (Ne.symm n2)).trans h.h,(setRow_other _ _ _ _ (Ne.symm n4)).trans h.r,zhu h.o (setRow_other _ _ _ _ (Ne.symm n))⟩
theorem Rq.cell {w W : World} {B g2 g4 g c : Nat} {H Wl : List Int} (h : Rq w W B g2 g4 g c H Wl) (hl : Wl.length = 64) (j : Nat) (hj : j < 64) : W.cell? ⟨g,j,none⟩ = some (.int .u32 (Wl.getD j 0)) := by
 have h := h.o.cells (g := g) rfl j (.int .u32 (Wl.getD j 0)) (by simp [zbL,List.getElem?_eq_getElem (show j < Wl.length by omega),List.getD_eq_getElem?_getD])
 rwa [zbI] at h
structure Rr (w W : World) (B g2 g4 g13 g c : Nat) (H Wl : List Int) : Prop where
 q : Rq w W B g2 g4 g c H Wl
 k : W.heap[g13]? = some (.cells (zL kL) 99 (0,0))
theorem Rr.below {w W W' : World} {B g2 g4 g13 g c : Nat} {H Wl : List Int} (h : Rr w W B g2 g4 g13 g c H Wl) (hb : Below W.heap.size W W') : Rr w W' B g2 g4 g13 g c H Wl := ⟨h.q.below hb,zr h.k hb⟩
set_option maxHeartbeats 16000000 in
set_option maxRecDepth 100000 in
theorem rblock.walk (H : List Int) (b : ByteArray) (w : World) (hH : H.length = 8) (oH : okL H) (hb : b.size = 64) :
  Calls Try.prog 61 #[.agg (zL H),.string b] w fun e w' => e = .returned (.tuple #[.agg (zL (zeC H kL b)),.int .i64 0]) ∧ Below w.heap.size w w' := by
 have HH := za.mk hH
 have OH := za.mk oH
 have HBs := za.mk hb
 have sH : (zL H).size = 8 := by rw [zaX,HH.out]
 have e64 : ((b.size : Int) != 64) = false := by rw [hb];rfl
 have e64n : (b.size != 64) = false := by rw [hb];rfl
 clear hH oH
 go_enter Try.func61,Try.ntmps61
 go_wp2_with (first
  | ((with_reducible refine zq (N := 2) rfl ?_);refine zn rfl (N := 2) rfl (cs := zL H) (t := 87) hrq ?_;intro g2 hg w1 hbox hb;have G2 : za (w.heap.size ≤ g2) := ⟨by rw [hg];exact Nat.le_refl _⟩;have B2 := za.mk hbox;have HB1 := za.mk hb;clear hb hbox hg)
  | ((with_reducible refine zq (N := 4) rfl ?_);refine zn rfl (N := 4) rfl (cs := zL [0,0,0,0,0,0,0,0]) (t := 87) hrq ?_;intro g4 hg w2 hbox hb;have G4 : za (w.heap.size ≤ g4) := ⟨by rw [hg];exact zh HB1.out⟩;have N42 : za (g4 ≠ g2) := ⟨by rw [hg];exact Nat.ne_of_gt (zaF B2.out)⟩;have M0 : za (Rh w w2 g2 g4 H) := ⟨⟨zf HB1.out hb,zr B2.out hb,hbox⟩⟩;clear hb hbox hg))
 clear HB1 B2
 have R0 : za (Rw w2 w2 (.slice none 0 0) (zcQ b 0)) := ⟨⟨zfY _ _ _ _,Below.refl _ _⟩⟩
 go_loopw [6,7] (fun v6 v7 wr => ∃ k : Nat,v7 = .int .i64 k ∧ k ≤ 16 ∧ za (Rw w2 wr v6 (zcQ b k))) (fun _ v7 _ => 16 - (intOf v7).toNat)
 case atStart => exact ⟨0,rfl,by omega,R0⟩
 case round =>
  clear R0
  obtain ⟨k,rfl,hk,HM⟩ := hrel
  obtain ⟨A,c,rfl⟩ := zfe HM.out.o
  rw [zct]
  have HM' : za (wr.ownsRow w2.heap.size 86 1 (.slice A k c) (zcQ b k).length (zbL .u32 (zcQ b k)) ∧ Below w2.heap.size w2 wr) := ⟨by have := HM.out.o;rw [zct] at this ⊢;exact this,HM.out.c⟩
  clear HM
  by_cases hlt : k < 16
  ·have hb1 : decide (k < 16) = true := decide_eq_true hlt
   have hbi : decide ((k : Int) < 16) = true := decide_eq_true (by omega)
   obtain ⟨i0,e0⟩ : ∃ i : Int,i = 4 * (k : Int) := ⟨_,rfl⟩
   obtain ⟨i1,e1⟩ : ∃ i : Int,i = i0 + 1 := ⟨_,rfl⟩
   obtain ⟨i2,e2⟩ : ∃ i : Int,i = i0 + 2 := ⟨_,rfl⟩
   obtain ⟨i3,e3⟩ : ∃ i : Int,i = i0 + 3 := ⟨_,rfl⟩
   have z0 : IntKind.i64.wrap (4 * (k : Int)) = i0 := by rw [IntKind.wrap_i64];omega
   have z1 : IntKind.i64.wrap (i0 + 1) = i1 := by rw [IntKind.wrap_i64];omega
   have z2 : IntKind.i64.wrap (i0 + 2) = i2 := by rw [IntKind.wrap_i64];omega
   have z3 : IntKind.i64.wrap (i0 + 3) = i3 := by rw [IntKind.wrap_i64];omega
   have hs := HBs.out
   have p0 : (0 ≤ i0) = True := eq_true (by omega)
   have p1 : (0 ≤ i1) = True := eq_true (by omega)
   have p2 : (0 ≤ i2) = True := eq_true (by omega)
   have p3 : (0 ≤ i3) = True := eq_true (by omega)
   have y0 : (i0 < (b.size : Int)) = True := eq_true (by omega)
   have y1 : (i1 < (b.size : Int)) = True := eq_true (by omega)
   have y2 : (i2 < (b.size : Int)) = True := eq_true (by omega)
   have y3 : (i3 < (b.size : Int)) = True := eq_true (by omega)
   have x0 := zdh b i0
   have x1 := zdh b i1
   have x2 := zdh b i2
   have x3 := zdh b i3
   have E0 := za.mk e0
   have E1 := za.mk e1
   have E2 := za.mk e2
   have E3 := za.mk e3
   have KK := za.mk hlt
   clear hs e0 e1 e2 e3 hb e64 e64n
   go_wp2
   refine zbW (.slice A k c) 29 (by kernel_rfl) (by kernel_rfl) (fun _ _ _ h => h) (Or.inl ⟨by rfl,fun w => by go_simp⟩) ?_
   simp only [List.take_succ_cons,List.take_zero,List.drop_succ_cons,List.drop_zero]
   repeat still_step
   refine wpStill_nil ?_
   change wpList _ _ _ _ _ wr.drew
   generalize hwd : wr.drew = wd
   have HM2 : za (wd.ownsRow w2.heap.size 86 1 (.slice A k c) (zcQ b k).length (zbL .u32 (zcQ b k)) ∧ Below w2.heap.size w2 wd) := ⟨by rw [← hwd];exact ⟨HM'.out.1,zp HM'.out.2⟩⟩
   clear hwd HM'
   have hv : za (bt b i0 * 16777216 + bt b i1 * 65536 + bt b i2 * 256 + bt b i3 = zgC b k) := ⟨by
    have := E0.out;have := E1.out;have := E2.out;have := E3.out
    rw [zgC,show i0 = ((4 * k : Nat) : Int) by omega,show i1 = ((4 * k + 1 : Nat) : Int) by omega,show i2 = ((4 * k + 2 : Nat) : Int) by omega,show i3 = ((4 * k + 3 : Nat) : Int) by omega]⟩
   go_wp2_with (at_builtin;go_loud (refine zdF w2.heap.size rfl (.tmp 36) (.tmp 66) 108 86 .u32 4 rfl Try.underlying108 u32Info (by decide) (.slice A k c) (zcQ b k) _ rfl rfl HM2.out.1 HM2.out.2 HM2.out.2.size (by rw [zct];omega) ?_;intro v1 w3 ho1 hb1 hx1 hx2;clear hx1 hx2;have HM1 : za (Rw w2 w3 v1 (zcQ b (k + 1))) := ⟨⟨by rw [zcQ,← hv.out,← sum4 (zbR b i0) (zbR b i1) (zbR b i2) (zbR b i3)];exact ho1,hb1⟩⟩;clear ho1 hb1))
   go_roundw
   case rel =>
    exact ⟨k + 1,rfl,by omega,HM1⟩
   case measure => show 16 - ((k : Int) + 1).toNat < 16 - (k : Int).toNat;omega
  ·obtain rfl : k = 16 := by omega
   have R1 : za (Rw w2 wr (.slice A 16 c) (zK b 0)) := ⟨⟨HM'.out.1,HM'.out.2⟩⟩
   clear hlt hk HM' hb e64 e64n
   go_wp2
   go_loopw [6,8,9,10,11,12] (fun v6 v8 _ _ _ _ wr => ∃ n : Nat,v8 = .int .i64 ((16 + n : Nat) : Int) ∧ n ≤ 48 ∧ za (Rw w2 wr v6 (zK b n))) (fun _ v8 _ _ _ _ _ => 64 - (intOf v8).toNat)
   case atStart => exact ⟨0,rfl,by omega,R1⟩
   case round =>
    clear R1
    obtain ⟨n,rfl,hn,HM⟩ := hrel
    obtain ⟨m,em⟩ : ∃ m : Nat,m = 16 + n := ⟨_,rfl⟩
    rw [← em]
    obtain ⟨g,c,rfl,hg1,hg2⟩ := HM.out.o.form (by rw [za5];omega)
    rw [za5,← em]
    have HM' : za (Rw w2 wr (.slice (some ⟨g,0,none⟩) m c) (zK b n)) := ⟨by have := HM.out;rw [za5,← em] at this;exact this⟩
    clear HM hg1 hg2
    by_cases hlt : m < 64
    ·have hb1 : decide (m < 64) = true := decide_eq_true hlt
     have hbi : decide ((m : Int) < 64) = true := decide_eq_true (by omega)
     obtain ⟨m15,e15⟩ : ∃ j : Nat,j = m - 15 := ⟨_,rfl⟩
     obtain ⟨m2,e2⟩ : ∃ j : Nat,j = m - 2 := ⟨_,rfl⟩
     obtain ⟨m16,e16⟩ : ∃ j : Nat,j = m - 16 := ⟨_,rfl⟩
     obtain ⟨m7,e7⟩ : ∃ j : Nat,j = m - 7 := ⟨_,rfl⟩
     have z15 : IntKind.i64.wrap ((m : Int) - 15) = (m15 : Int) := by rw [IntKind.wrap_i64];omega
     have z2 : IntKind.i64.wrap ((m : Int) - 2) = (m2 : Int) := by rw [IntKind.wrap_i64];omega
     have z16 : IntKind.i64.wrap ((m : Int) - 16) = (m16 : Int) := by rw [IntKind.wrap_i64];omega
     have z7 : IntKind.i64.wrap ((m : Int) - 7) = (m7 : Int) := by rw [IntKind.wrap_i64];omega
     have l15 : (m15 < m) = True := eq_true (by omega)
     have b15 : ((m15 : Int) < (m : Int)) = True := eq_true (by omega)
     have l2 : (m2 < m) = True := eq_true (by omega)
     have b2 : ((m2 : Int) < (m : Int)) = True := eq_true (by omega)
     have l16 : (m16 < m) = True := eq_true (by omega)
     have b16 : ((m16 : Int) < (m : Int)) = True := eq_true (by omega)
     have l7 : (m7 < m) = True := eq_true (by omega)
     have b7 : ((m7 : Int) < (m : Int)) = True := eq_true (by omega)
     have oW := zfk b n
     have lW : (zK b n).length = m := by rw [za5,em]
     have cell : ∀ (wx : World),Rw w2 wx (.slice (some ⟨g,0,none⟩) m c) (zK b n) → ∀ j,j < m → wx.cell? ⟨g,j,none⟩ = some (.int .u32 ((zK b n).getD j 0)) := fun wx hx j hj => by
      have h := hx.o.cells (g := g) rfl j (.int .u32 ((zK b n).getD j 0)) (by simp [zbL,List.getElem?_eq_getElem (show j < (zK b n).length by omega),List.getD_eq_getElem?_getD])
      rwa [zbI] at h
     have c15 := cell wr HM'.out m15 (by omega)
     have c2 := cell wr HM'.out m2 (by omega)
     have CELL := za.mk cell
     have L16 : za (m16 < m) := ⟨by omega⟩
     have L7 : za (m7 < m) := ⟨by omega⟩
     have hval : za (zdV (zK b n) (16 + n) = zdV (zK b n) m) := ⟨by rw [em]⟩
     have EM := za.mk em
     have E15 := za.mk e15
     have E2 := za.mk e2
     have E16 := za.mk e16
     have E7 := za.mk e7
     have O15 := za.mk (oW m15)
     have O2 := za.mk (oW m2)
     generalize hX : (zK b n).getD m15 0 = X at c15 O15
     generalize hY : (zK b n).getD m2 0 = Y at c2 O2
     have HX := za.mk hX
     have HY := za.mk hY
     clear cell em e15 e2 e16 e7 oW lW hX hY
     go_wp2_with (first
      | (go_at_call 83;(with_reducible refine (rturn7 X O15.out _).mono ?_);rintro e w3 ⟨rfl,hbw⟩;replace HM' : za (Rw w2 w3 (.slice (some ⟨g,0,none⟩) m c) (zK b n)) := ⟨HM'.out.below hbw⟩;clear hbw)
      | (go_at_call 83;(with_reducible refine (rturn18 X O15.out _).mono ?_);rintro e w3 ⟨rfl,hbw⟩;replace HM' : za (Rw w2 w3 (.slice (some ⟨g,0,none⟩) m c) (zK b n)) := ⟨HM'.out.below hbw⟩;clear hbw)
      | (go_at_call 84;(with_reducible refine (rover3 X O15.out _).mono ?_);rintro e w3 ⟨rfl,hbw⟩;replace HM' : za (Rw w2 w3 (.slice (some ⟨g,0,none⟩) m c) (zK b n)) := ⟨HM'.out.below hbw⟩;clear hbw)
      | (go_at_call 83;(with_reducible refine (rturn17 Y O2.out _).mono ?_);rintro e w3 ⟨rfl,hbw⟩;replace HM' : za (Rw w2 w3 (.slice (some ⟨g,0,none⟩) m c) (zK b n)) := ⟨HM'.out.below hbw⟩;clear hbw)
      | (go_at_call 83;(with_reducible refine (rturn19 Y O2.out _).mono ?_);rintro e w3 ⟨rfl,hbw⟩;replace HM' : za (Rw w2 w3 (.slice (some ⟨g,0,none⟩) m c) (zK b n)) := ⟨HM'.out.below hbw⟩;clear hbw)
      | (go_at_call 84;(with_reducible refine (rover10 Y O2.out _).mono ?_);rintro e w3 ⟨rfl,hbw⟩;replace HM' : za (Rw w2 w3 (.slice (some ⟨g,0,none⟩) m c) (zK b n)) := ⟨HM'.out.below hbw⟩;clear hbw))
     have c16 := CELL.out w3.drew ⟨HM'.out.o,zp HM'.out.c⟩ m16 L16.out
     have c7 := CELL.out w3.drew ⟨HM'.out.o,zp HM'.out.c⟩ m7 L7.out
     refine zbW (.slice (some ⟨g,0,none⟩) m c) 15 (by kernel_rfl) (by kernel_rfl) (fun _ _ _ h => h) (Or.inl ⟨by rfl,fun w => by go_simp⟩) ?_
     simp only [List.take_succ_cons,List.take_zero,List.drop_succ_cons,List.drop_zero]
     repeat still_step
     refine wpStill_nil ?_
     change wpList _ _ _ _ _ w3.drew
     have HM2 : za (Rw w2 w3.drew (.slice (some ⟨g,0,none⟩) m c) (zK b n)) := ⟨⟨HM'.out.o,zp HM'.out.c⟩⟩
     generalize w3.drew = wd at HM2 c16 c7 ⊢
     have hE : za (((((zK b n)[m16]?.getD 0 + Go.bits .xor .u32 (Go.bits .xor .u32 (zaq 7 X) (zaq 18 X)) (X / 8)) % 4294967296 + (zK b n)[m7]?.getD 0) % 4294967296 + Go.bits .xor .u32 (Go.bits .xor .u32 (zaq 17 Y) (zaq 19 Y)) (Y / 1024)) % 4294967296 = zdV (zK b n) (16 + n)) := ⟨by
      rw [← EM.out,zdV,← E16.out,← E15.out,← E7.out,← E2.out,HX.out,HY.out,← List.getD_eq_getElem?_getD,← List.getD_eq_getElem?_getD,rsched]
      rfl⟩
     have LW : za ((zK b n).length = m) := ⟨by rw [za5,EM.out]⟩
     clear HM'
     go_wp2_with (at_builtin;go_loud (refine zdF w2.heap.size rfl (.tmp 98) (.tmp 114) 108 86 .u32 4 rfl Try.underlying108 u32Info (by decide) (.slice (some ⟨g,0,none⟩) m c) (zK b n) _ rfl rfl (by have := HM2.out.o;rw [LW.out] at this ⊢;exact this) HM2.out.c HM2.out.c.size (by rw [LW.out];omega) ?_;intro v1 w4 ho1 hb1 hx1 hx2;clear hx1 hx2;have HM1 : za (Rw w2 w4 v1 (zK b (n + 1))) := ⟨⟨by rw [zK,← hE.out];exact ho1,hb1⟩⟩;clear ho1 hb1))
     go_roundw
     case rel =>
      (repeat apply Exists.intro)
      refine ⟨?_,rfl⟩
      have hm := EM.out
      refine ⟨n + 1,by rw [hm];rfl,by omega,HM1⟩
     case measure => have := EM.out;show 64 - ((m : Int) + 1).toNat < 64 - (m : Int).toNat;omega
    ·obtain rfl : m = 64 := by omega
     obtain rfl : n = 48 := by omega
     have LW : za ((zK b 48).length = 64) := ⟨za5 b 48⟩
     have Q0 : za (Rq w wr w2.heap.size g2 g4 g c H (zK b 48)) := ⟨⟨zf M0.out.b HM'.out.c,zr M0.out.h HM'.out.c,zr M0.out.r HM'.out.c,by have := HM'.out.o;rw [LW.out] at this;exact this⟩⟩
     clear em hlt hn HM'
     obtain ⟨B,eB⟩ : ∃ B,B = w2.heap.size := ⟨_,rfl⟩
     rw [← eB] at Q0
     clear eB M0
     go_wp2_with (first
      | (go_at_call 85;(with_reducible refine (rwords.walk _).mono ?_);rintro e w5 ⟨rfl,hbw⟩;have Q5 : za (Rq w w5 B g2 g4 g c H (zK b 48)) := ⟨Q0.out.below hbw⟩;clear hbw Q0)
      | ((with_reducible refine zq (N := 13) rfl ?_);refine zn rfl (N := 13) rfl (cs := zL (zbV [])) (t := 99) hrq ?_;intro g13 hg w6 hbox hb;have G13 : za (w.heap.size ≤ g13) := ⟨by rw [hg];exact zh Q5.out.b⟩;have ya : za (g13 ≠ g2) := ⟨by rw [hg];exact Nat.ne_of_gt (zaF Q5.out.h)⟩;have yb : za (g13 ≠ g4) := ⟨by rw [hg];exact Nat.ne_of_gt (zaF Q5.out.r)⟩;have N13g : za (g13 ≠ g) := ⟨by rw [hg];exact Nat.ne_of_gt (zgl Q5.out.o g rfl)⟩;have Q6 : za (Rq w w6 B g2 g4 g c H (zK b 48)) := ⟨Q5.out.below hb⟩;have B13 := za.mk hbox;clear hb hbox hg Q5;refine wpList_store_row rfl 99 (.tmp 13) (.tmp 116) rfl g13 (zL kL) (by kernel_rfl) (by kernel_rfl) 99 _ B13.out (by kernel_rfl) (by kernel_rfl) zhn ?_;have R7 : za (Rr w (w6.setRow g13 (zL kL)) B g2 g4 g13 g c H (zK b 48)) := ⟨⟨Q6.out.row G13.out ya.out yb.out N13g.out,setRow_heap _ _ _ _ _ _ B13.out⟩⟩;generalize World.setRow w6 _ _ = w7 at R7 ⊢;clear Q6 B13;have ch0 : w7.cell? ⟨g2,0,none⟩ = some (.int .u32 (H.getD 0 0)) := (zb R7.out.q.h 0).trans (zT H 0 (by rw [HH.out];omega));have ch1 : w7.cell? ⟨g2,1,none⟩ = some (.int .u32 (H.getD 1 0)) := (zb R7.out.q.h 1).trans (zT H 1 (by rw [HH.out];omega));have ch2 : w7.cell? ⟨g2,2,none⟩ = some (.int .u32 (H.getD 2 0)) := (zb R7.out.q.h 2).trans (zT H 2 (by rw [HH.out];omega));have ch3 : w7.cell? ⟨g2,3,none⟩ = some (.int .u32 (H.getD 3 0)) := (zb R7.out.q.h 3).trans (zT H 3 (by rw [HH.out];omega));have ch4 : w7.cell? ⟨g2,4,none⟩ = some (.int .u32 (H.getD 4 0)) := (zb R7.out.q.h 4).trans (zT H 4 (by rw [HH.out];omega));have ch5 : w7.cell? ⟨g2,5,none⟩ = some (.int .u32 (H.getD 5 0)) := (zb R7.out.q.h 5).trans (zT H 5 (by rw [HH.out];omega));have ch6 : w7.cell? ⟨g2,6,none⟩ = some (.int .u32 (H.getD 6 0)) := (zb R7.out.q.h 6).trans (zT H 6 (by rw [HH.out];omega));have ch7 : w7.cell? ⟨g2,7,none⟩ = some (.int .u32 (H.getD 7 0)) := (zb R7.out.q.h 7).trans (zT H 7 (by rw [HH.out];omega))))
     clear ch0 ch1 ch2 ch3 ch4 ch5 ch6 ch7
     go_loopw [14,15,16,17,18,19,20,21,22,23,24,25,26,27] (fun v14 v15 v16 v17 v18 v19 v20 v21 v22 _ _ _ _ _ wr => ∃ k : Nat,v22 = .int .i64 k ∧ k ≤ 64 ∧ v14 = .int .u32 ((za2 H kL (zK b 48) k).getD 0 0) ∧ v15 = .int .u32 ((za2 H kL (zK b 48) k).getD 1 0) ∧ v16 = .int .u32 ((za2 H kL (zK b 48) k).getD 2 0) ∧ v17 = .int .u32 ((za2 H kL (zK b 48) k).getD 3 0) ∧ v18 = .int .u32 ((za2 H kL (zK b 48) k).getD 4 0) ∧ v19 = .int .u32 ((za2 H kL (zK b 48) k).getD 5 0) ∧ v20 = .int .u32 ((za2 H kL (zK b 48) k).getD 6 0) ∧ v21 = .int .u32 ((za2 H kL (zK b 48) k).getD 7 0) ∧ za (Rr w wr B g2 g4 g13 g c H (zK b 48))) (fun _ _ _ _ _ _ _ _ v22 _ _ _ _ _ _ => 64 - (intOf v22).toNat)
     case atStart => exact ⟨0,rfl,by omega,rfl,rfl,rfl,rfl,rfl,rfl,rfl,rfl,R7⟩
     case round =>
      clear R7
      obtain ⟨k,rfl,hk,rfl,rfl,rfl,rfl,rfl,rfl,rfl,rfl,HR⟩ := hrel
      by_cases hlt : k < 64
      ·have hb1 : decide (k < 64) = true := decide_eq_true hlt
       have hbi : decide ((k : Int) < 64) = true := decide_eq_true (by omega)
       have bk : ((k : Int) < 64) = True := eq_true (by omega)
       have bk2 : (k < 64) = True := eq_true hlt
       have oS := zdU OH.out kL (zK b 48) k
       have hnext : za (za2 H kL (zK b 48) (k + 1) = zfj (za2 H kL (zK b 48) k) (kL.getD k 0) ((zK b 48).getD k 0)) := ⟨rfl⟩
       generalize za2 H kL (zK b 48) k = S at hnext oS ⊢
       have hroundL : za (zfj S (kL.getD k 0) ((zK b 48).getD k 0) = zgy (S.getD 0 0) (S.getD 1 0) (S.getD 2 0) (S.getD 3 0) (S.getD 4 0) (S.getD 5 0) (S.getD 6 0) (S.getD 7 0) (kL.getD k 0) ((zK b 48).getD k 0)) := ⟨rfl⟩
       have o0 := oS 0;have o4 := oS 4
       obtain ⟨s0,hs0⟩ : ∃ x,x = S.getD 0 0 := ⟨_,rfl⟩
       obtain ⟨s1,hs1⟩ : ∃ x,x = S.getD 1 0 := ⟨_,rfl⟩
       obtain ⟨s2,hs2⟩ : ∃ x,x = S.getD 2 0 := ⟨_,rfl⟩
       obtain ⟨s3,hs3⟩ : ∃ x,x = S.getD 3 0 := ⟨_,rfl⟩
       obtain ⟨s4,hs4⟩ : ∃ x,x = S.getD 4 0 := ⟨_,rfl⟩
       obtain ⟨s5,hs5⟩ : ∃ x,x = S.getD 5 0 := ⟨_,rfl⟩
       obtain ⟨s6,hs6⟩ : ∃ x,x = S.getD 6 0 := ⟨_,rfl⟩
       obtain ⟨s7,hs7⟩ : ∃ x,x = S.getD 7 0 := ⟨_,rfl⟩
       rw [← hs0,← hs1,← hs2,← hs3,← hs4,← hs5,← hs6,← hs7] at hroundL
       rw [← hs0,← hs1,← hs2,← hs3,← hs4,← hs5,← hs6,← hs7]
       rw [← hs0] at o0
       rw [← hs4] at o4
       obtain ⟨kk,hkk⟩ : ∃ x,x = kL.getD k 0 := ⟨_,rfl⟩
       obtain ⟨ww,hww⟩ : ∃ x,x = (zK b 48).getD k 0 := ⟨_,rfl⟩
       rw [← hkk,← hww] at hroundL hnext
       have cK : ∀ wx,Rr w wx B g2 g4 g13 g c H (zK b 48) → wx.cell? ⟨g13,k,none⟩ = some (.int .u32 kk) := fun wx hx => by rw [hkk];exact (zb hx.k k).trans (zT kL k hlt)
       have cW : ∀ wx,Rr w wx B g2 g4 g13 g c H (zK b 48) → wx.cell? ⟨g,k,none⟩ = some (.int .u32 ww) := fun wx hx => by rw [hww];exact hx.q.cell (za5 b 48) k hlt
       have CK := za.mk cK
       have CW := za.mk cW
       have O0 := za.mk o0
       have O4 := za.mk o4
       clear cK cW o0 o4 oS hs0 hs1 hs2 hs3 hs4 hs5 hs6 hs7 hkk hww
       go_wp2_with (first
        | (go_at_call 83;(with_reducible refine (rturn6 s4 O4.out _).mono ?_);rintro e w8 ⟨rfl,hbw⟩;replace HR : za (Rr w w8 B g2 g4 g13 g c H (zK b 48)) := ⟨HR.out.below hbw⟩;clear hbw)
        | (go_at_call 83;(with_reducible refine (rturn11 s4 O4.out _).mono ?_);rintro e w8 ⟨rfl,hbw⟩;replace HR : za (Rr w w8 B g2 g4 g13 g c H (zK b 48)) := ⟨HR.out.below hbw⟩;clear hbw)
        | (go_at_call 83;(with_reducible refine (rturn25 s4 O4.out _).mono ?_);rintro e w8 ⟨rfl,hbw⟩;replace HR : za (Rr w w8 B g2 g4 g13 g c H (zK b 48)) := ⟨HR.out.below hbw⟩;clear hbw))
       have e42 : (4294967295 - s4) % 4294967296 = 4294967295 - s4 := by have h1 := O4.out.1;have h2 := O4.out.2;omega
       rw [e42]
       clear e42
       have HR8 : za (Rr w w8.drew B g2 g4 g13 g c H (zK b 48)) := ⟨⟨⟨zp HR.out.q.b,HR.out.q.h,HR.out.q.r,HR.out.q.o⟩,HR.out.k⟩⟩
       have dK := CK.out w8.drew HR8.out
       have dW := CW.out w8.drew HR8.out
       refine wp_region_still_lit (by kernel_rfl) (by kernel_rfl) ?_
       repeat still_step
       refine wpStill_nil ?_
       change Exit.then _ _ Exit.normal _ w8.drew
       clear HR
       have HR := HR8
       clear HR8
       generalize w8.drew = wd at HR dK dW ⊢
       clear dK dW
       go_wp2_with (first
        | (go_at_call 83;(with_reducible refine (rturn2 s0 O0.out _).mono ?_);rintro e w9 ⟨rfl,hbw⟩;replace HR : za (Rr w w9 B g2 g4 g13 g c H (zK b 48)) := ⟨HR.out.below hbw⟩;clear hbw)
        | (go_at_call 83;(with_reducible refine (rturn13 s0 O0.out _).mono ?_);rintro e w9 ⟨rfl,hbw⟩;replace HR : za (Rr w w9 B g2 g4 g13 g c H (zK b 48)) := ⟨HR.out.below hbw⟩;clear hbw)
        | (go_at_call 83;(with_reducible refine (rturn22 s0 O0.out _).mono ?_);rintro e w9 ⟨rfl,hbw⟩;replace HR : za (Rr w w9 B g2 g4 g13 g c H (zK b 48)) := ⟨HR.out.below hbw⟩;clear hbw))
       refine ⟨⟨k + 1,rfl,by omega,?_,?_,?_,?_,?_,?_,?_,?_,HR⟩,by show 64 - ((k : Int) + 1).toNat < 64 - (k : Int).toNat;omega⟩
       all_goals (rw [hnext.out,hroundL.out];(first | rfl | (simp only [zgy,zb0,zcu,zdW];rfl)))
      ·obtain rfl : k = 64 := by omega
       have oS := zdU OH.out kL (zK b 48) 64
       have lS := zea HH.out kL (zK b 48) 64
       have hfin : za (zcZ (za2 H kL (zK b 48) 64) H 8 = zeC H kL b) := ⟨rfl⟩
       generalize za2 H kL (zK b 48) 64 = R at hfin oS lS ⊢
       obtain ⟨r0,hr0⟩ : ∃ x,x = R.getD 0 0 := ⟨_,rfl⟩
       obtain ⟨r1,hr1⟩ : ∃ x,x = R.getD 1 0 := ⟨_,rfl⟩
       obtain ⟨r2,hr2⟩ : ∃ x,x = R.getD 2 0 := ⟨_,rfl⟩
       obtain ⟨r3,hr3⟩ : ∃ x,x = R.getD 3 0 := ⟨_,rfl⟩
       obtain ⟨r4,hr4⟩ : ∃ x,x = R.getD 4 0 := ⟨_,rfl⟩
       obtain ⟨r5,hr5⟩ : ∃ x,x = R.getD 5 0 := ⟨_,rfl⟩
       obtain ⟨r6,hr6⟩ : ∃ x,x = R.getD 6 0 := ⟨_,rfl⟩
       obtain ⟨r7,hr7⟩ : ∃ x,x = R.getD 7 0 := ⟨_,rfl⟩
       obtain ⟨h0,hh0⟩ : ∃ x,x = H.getD 0 0 := ⟨_,rfl⟩
       obtain ⟨h1,hh1⟩ : ∃ x,x = H.getD 1 0 := ⟨_,rfl⟩
       obtain ⟨h2,hh2⟩ : ∃ x,x = H.getD 2 0 := ⟨_,rfl⟩
       obtain ⟨h3,hh3⟩ : ∃ x,x = H.getD 3 0 := ⟨_,rfl⟩
       obtain ⟨h4,hh4⟩ : ∃ x,x = H.getD 4 0 := ⟨_,rfl⟩
       obtain ⟨h5,hh5⟩ : ∃ x,x = H.getD 5 0 := ⟨_,rfl⟩
       obtain ⟨h6,hh6⟩ : ∃ x,x = H.getD 6 0 := ⟨_,rfl⟩
       obtain ⟨h7,hh7⟩ : ∃ x,x = H.getD 7 0 := ⟨_,rfl⟩
       rw [← hr0,← hr1,← hr2,← hr3,← hr4,← hr5,← hr6,← hr7]
       have ch0 : wr.cell? ⟨g2,0,none⟩ = some (.int .u32 h0) := by rw [hh0];exact (zb HR.out.q.h 0).trans (zT H 0 (by rw [HH.out];omega))
       have ch1 : wr.cell? ⟨g2,1,none⟩ = some (.int .u32 h1) := by rw [hh1];exact (zb HR.out.q.h 1).trans (zT H 1 (by rw [HH.out];omega))
       have ch2 : wr.cell? ⟨g2,2,none⟩ = some (.int .u32 h2) := by rw [hh2];exact (zb HR.out.q.h 2).trans (zT H 2 (by rw [HH.out];omega))
       have ch3 : wr.cell? ⟨g2,3,none⟩ = some (.int .u32 h3) := by rw [hh3];exact (zb HR.out.q.h 3).trans (zT H 3 (by rw [HH.out];omega))
       have ch4 : wr.cell? ⟨g2,4,none⟩ = some (.int .u32 h4) := by rw [hh4];exact (zb HR.out.q.h 4).trans (zT H 4 (by rw [HH.out];omega))
       have ch5 : wr.cell? ⟨g2,5,none⟩ = some (.int .u32 h5) := by rw [hh5];exact (zb HR.out.q.h 5).trans (zT H 5 (by rw [HH.out];omega))
       have ch6 : wr.cell? ⟨g2,6,none⟩ = some (.int .u32 h6) := by rw [hh6];exact (zb HR.out.q.h 6).trans (zT H 6 (by rw [HH.out];omega))
       have ch7 : wr.cell? ⟨g2,7,none⟩ = some (.int .u32 h7) := by rw [hh7];exact (zb HR.out.q.h 7).trans (zT H 7 (by rw [HH.out];omega))
       have F : za (zeC H kL b = [(h0 + r0) % 4294967296,(h1 + r1) % 4294967296,(h2 + r2) % 4294967296,(h3 + r3) % 4294967296,(h4 + r4) % 4294967296,(h5 + r5) % 4294967296,(h6 + r6) % 4294967296,(h7 + r7) % 4294967296]) := ⟨by
        rw [← hfin.out]
        refine zgd (zcK _ _ _) rfl (fun j hj => ?_)
        rw [zc6 _ _ _ _ hj,if_pos hj]
        have : j = 0 ∨ j = 1 ∨ j = 2 ∨ j = 3 ∨ j = 4 ∨ j = 5 ∨ j = 6 ∨ j = 7 := by omega
        rcases this with rfl | rfl | rfl | rfl | rfl | rfl | rfl | rfl
        ·rw [← hr0,← hh0,Int.add_comm,zb0];rfl
        ·rw [← hr1,← hh1,Int.add_comm,zb0];rfl
        ·rw [← hr2,← hh2,Int.add_comm,zb0];rfl
        ·rw [← hr3,← hh3,Int.add_comm,zb0];rfl
        ·rw [← hr4,← hh4,Int.add_comm,zb0];rfl
        ·rw [← hr5,← hh5,Int.add_comm,zb0];rfl
        ·rw [← hr6,← hh6,Int.add_comm,zb0];rfl
        ·rw [← hr7,← hh7,Int.add_comm,zb0];rfl
        ⟩
       clear hr0 hr1 hr2 hr3 hr4 hr5 hr6 hr7 hh0 hh1 hh2 hh3 hh4 hh5 hh6 hh7 hfin oS lS hlt hk
       go_wp2_with (first
        | ((with_reducible refine zq (N := 232) rfl ?_);refine wpList_build rfl 87 _ rfl (by kernel_rfl) ?_;refine wpList_store_row rfl 87 (.tmp 4) (.tmp 232) rfl g4 (zL [(h0 + r0) % 4294967296,(h1 + r1) % 4294967296,(h2 + r2) % 4294967296,(h3 + r3) % 4294967296,(h4 + r4) % 4294967296,(h5 + r5) % 4294967296,(h6 + r6) % 4294967296,(h7 + r7) % 4294967296]) (by kernel_rfl) (by kernel_rfl) 87 _ HR.out.q.r (by kernel_rfl) (by kernel_rfl) (by kernel_rfl) ?_;have HF : za (Below w.heap.size w (wr.setRow g4 (zL [(h0 + r0) % 4294967296,(h1 + r1) % 4294967296,(h2 + r2) % 4294967296,(h3 + r3) % 4294967296,(h4 + r4) % 4294967296,(h5 + r5) % 4294967296,(h6 + r6) % 4294967296,(h7 + r7) % 4294967296])) ∧ (wr.setRow g4 (zL [(h0 + r0) % 4294967296,(h1 + r1) % 4294967296,(h2 + r2) % 4294967296,(h3 + r3) % 4294967296,(h4 + r4) % 4294967296,(h5 + r5) % 4294967296,(h6 + r6) % 4294967296,(h7 + r7) % 4294967296])).heap[g4]? = some (.cells (zL [(h0 + r0) % 4294967296,(h1 + r1) % 4294967296,(h2 + r2) % 4294967296,(h3 + r3) % 4294967296,(h4 + r4) % 4294967296,(h5 + r5) % 4294967296,(h6 + r6) % 4294967296,(h7 + r7) % 4294967296]) 87 (0,0))) := ⟨zbl HR.out.q.b G4.out,setRow_heap _ _ _ _ _ _ HR.out.q.r⟩;generalize World.setRow wr _ _ = wf at HF ⊢))
       refine bodyPost_ret (zbi rfl _ _ g4 87 (zL [(h0 + r0) % 4294967296,(h1 + r1) % 4294967296,(h2 + r2) % 4294967296,(h3 + r3) % 4294967296,(h4 + r4) % 4294967296,(h5 + r5) % 4294967296,(h6 + r6) % 4294967296,(h7 + r7) % 4294967296]) (0,0) _ (by kernel_rfl) HF.out.2 Try.underlying87 rfl (by kernel_rfl)) rfl ?_
       refine ⟨?_,HF.out.1⟩
       rw [F.out]
       rfl
structure Rs (w W : World) (g3 : Nat) (L : List Int) : Prop where
 b : Below w.heap.size w W
 h : W.heap[g3]? = some (.cells (zL L) 87 (0,0))
theorem Rs.below {w W W' : World} {g3 : Nat} {L : List Int} (h : Rs w W g3 L) (hb : Below W.heap.size W W') : Rs w W' g3 L := ⟨zf h.b hb,zr h.h hb⟩
theorem lit_reads (W : World) (e : TypeId) (k : IntKind) (xs : List Int) (hm : xs.length ≤ 9223372036854775807) : zbd (W.alloc (.cells (zbL k xs).toArray e)) k (some ⟨W.heap.size,0,none⟩) xs.length xs := by
 obtain ⟨A,c,e,h⟩ := zfd (own_lit W 0 e k xs (Nat.zero_le _) hm)
 cases e
 exact h
def zeD (L : List Int) : Nat → List Int
 | 0 => []
 | n + 1 => zeD L n ++ [L.getD n 0 / 16777216 % 256,L.getD n 0 / 65536 % 256,L.getD n 0 / 256 % 256,L.getD n 0 % 256]
theorem zd7 (L : List Int) : ∀ n,(zeD L n).length = 4 * n
 | 0 => rfl
 | n + 1 => by rw [zeD,List.length_append,zd7 L n];show 4 * n + 4 = _;omega
theorem word_ints {x : Int} (hx : zbr x) : [x / 16777216 % 256,x / 65536 % 256,x / 256 % 256,x % 256].map (fun n : Int => UInt8.ofNat n.toNat) = zcU x := by
 obtain ⟨n,rfl⟩ := Int.eq_ofNat_of_zero_le hx.1
 rfl
theorem outX_map (L : List Int) (ok : okL L) (n : Nat) (hn : n ≤ L.length) : (zeD L n).map (fun n : Int => UInt8.ofNat n.toNat) = (L.take n).flatMap zcU := by
 induction n with
 | zero => rfl
 | succ n ih =>
  have hx : L[n]? = some (L.getD n 0) := by rw [List.getD_eq_getElem?_getD,List.getElem?_eq_getElem (by omega)];rfl
  rw [zeD,List.map_append,ih (by omega),word_ints (ok n),List.take_add_one,hx,List.flatMap_append]
  simp
theorem outX_str (L : List Int) (ok : okL L) (h : L.length = 8) : strOfNums (zeD L 8) = toB (L.flatMap zcU) := by
 rw [zbU,outX_map L ok 8 (by omega),List.take_of_length_le (by omega)]
theorem word_vals {x : Int} (hx : zbr x) : [x.tdiv 16777216 % 4294967296 % 256,(x.tdiv 65536 % 4294967296).tmod 256 % 256,(x.tdiv 256 % 4294967296).tmod 256 % 256,x.tmod 256 % 256] = [x / 16777216 % 256,x / 65536 % 256,x / 256 % 256,x % 256] := by
 have h0 := hx.1
 have h1 := hx.2
 have d1 : 0 ≤ x / 65536 % 4294967296 := Int.emod_nonneg _ (by decide)
 have d2 : 0 ≤ x / 256 % 4294967296 := Int.emod_nonneg _ (by decide)
 rw [Int.tdiv_eq_ediv_of_nonneg h0,Int.tdiv_eq_ediv_of_nonneg h0,Int.tdiv_eq_ediv_of_nonneg h0,Int.tmod_eq_emod_of_nonneg d1,Int.tmod_eq_emod_of_nonneg d2,Int.tmod_eq_emod_of_nonneg h0]
 rw [show x / 16777216 % 4294967296 = x / 16777216 by omega,show x / 65536 % 4294967296 = x / 65536 by omega,show x / 256 % 4294967296 = x / 256 by omega,Int.emod_emod_of_dvd _ (Int.dvd_refl 256),Int.emod_emod_of_dvd _ (Int.dvd_refl 256),Int.emod_emod_of_dvd _ (Int.dvd_refl 256)]
structure Ro (wb W : World) (L : List Int) (v : Value) (n : Nat) : Prop where
 o : W.ownsRow wb.heap.size 5 1 v (zeD L n).length (zbL .u8 (zeD L n))
 c : Below wb.heap.size wb W
theorem zhU (L : List Int) : (zL L).all (·.oneCell') = true := by simp [zL,Value.oneCell']
set_option maxHeartbeats 8000000 in
set_option maxRecDepth 100000 in
theorem rsum.walk (s : ByteArray) (w : World) (hsz : s.size ≤ 70368744177664) :
  Calls Try.prog 41 #[.string s] w fun e w' => e = .returned (.string (zgz s)) ∧ Below w.heap.size w w' := by
 have HSZ := za.mk hsz
 clear hsz
 go_enter Try.func41,Try.ntmps41
 go_wp2_with (first
  | (go_at_call 60;(with_reducible refine (rpad.walk _ _ HSZ.out).mono ?_);rintro e w6 ⟨rfl,hb⟩;have M1 : za (Rs w w6 g3 hL) := ⟨M0.out.below hb⟩;clear M0 hb)
  | (go_at_call 59;(with_reducible refine (rfirst.walk _).mono ?_);rintro e w1 ⟨rfl,hb⟩;have HB1 := za.mk hb;clear hb)
  | ((with_reducible refine zq (N := 3) rfl ?_);refine zn rfl (N := 3) rfl (cs := zL [0,0,0,0,0,0,0,0]) (t := 87) hrq ?_;intro g3 hg w3 hbox hb;have G3 : za (w.heap.size ≤ g3) := ⟨by rw [hg];exact zh HB1.out⟩;have B3 := za.mk hbox;have HB3 := za.mk (zf HB1.out hb);clear hb hbox hg;refine wpList_store_row rfl 87 (.tmp 3) (.tmp 8) rfl g3 (zL hL) (by kernel_rfl) (by kernel_rfl) 87 _ B3.out (by kernel_rfl) (by kernel_rfl) hL_one ?_;have M0 : za (Rs w (w3.setRow g3 (zL hL)) g3 hL) := ⟨⟨zbl HB3.out G3.out,setRow_heap _ _ _ _ _ _ B3.out⟩⟩;generalize World.setRow w3 _ _ = W5 at M0 ⊢;clear HB1 HB3 B3))
 obtain ⟨m,hm⟩ := zic (ofB s)
 obtain ⟨p,ep⟩ : ∃ p,p = toB (zd8 (ofB s)) := ⟨_,rfl⟩
 have hps : p.size = 64 * m := by rw [ep,zay,hm]
 have hpl : 64 * m < 9223372036854775800 := by
  rw [← hm,zd8];simp only [List.length_append,List.length_cons,List.length_replicate,zat,zez,List.length_nil];have := HSZ.out;have : zcE s.size < 64 := by unfold zcE;omega
  omega
 rw [← ep]
 have EP := za.mk ep
 have HM := za.mk hm
 have HP := za.mk hps
 have HL := za.mk hpl
 clear ep hm hps hpl
 go_loopw [5] (fun v5 wr => ∃ k : Nat,v5 = .int .i64 ((64 * k : Nat) : Int) ∧ k ≤ m ∧ za (Rs w wr g3 (zaW p k))) (fun v5 _ => p.size - (intOf v5).toNat)
 case atStart => exact ⟨0,rfl,by omega,M1⟩
 case round =>
  clear M1
  obtain ⟨k,rfl,hk,MK⟩ := hrel
  by_cases hlt : k < m
  ·have hps := HP.out
   have hpl := HL.out
   obtain ⟨i,ei⟩ : ∃ i : Nat,i = 64 * k := ⟨_,rfl⟩
   rw [← ei]
   have c0 : decide (i < p.size) = true := decide_eq_true (by omega)
   have c1 : decide ((i : Int) < (p.size : Int)) = true := decide_eq_true (by omega)
   obtain ⟨j,ej⟩ : ∃ j : Nat,j = i + 64 := ⟨_,rfl⟩
   have c2 : IntKind.i64.wrap ((i : Int) + 64) = (j : Int) := by rw [IntKind.wrap_i64];omega
   have c3 : ((j : Int) ≤ (p.size : Int)) = True := eq_true (by omega)
   have c4 : ((i : Int) ≤ (j : Int)) = True := eq_true (by omega)
   have c5 : (j ≤ p.size) = True := eq_true (by omega)
   have c6 : (i ≤ j) = True := eq_true (by omega)
   have c7 : (0 ≤ (j : Int)) = True := eq_true (by omega)
   have c8 : (0 ≤ (i : Int)) = True := eq_true (by omega)
   have EJ := za.mk ej
   have E64 : za (p.size % 64 = 0 ∧ j ≤ p.size) := ⟨by omega,by omega⟩
   have EI := za.mk ei
   clear ei ej hps hpl
   go_wp2
   refine zeq 6 2 (by kernel_rfl) (by kernel_rfl) ?_
   simp only [List.take_succ_cons,List.take_zero,List.drop_succ_cons,List.drop_zero]
   refine zcM 87 (.tmp 3) rfl (by kernel_rfl) g3 (by kernel_rfl) 87 (zL (zaW p k)) (0,0) _ MK.out.h Try.underlying87 rfl (by rw [zaX,zbn];kernel_rfl) ?_
   repeat still_step
   refine wpStill_nil ?_
   change wpList _ _ _ _ _ wr.drew
   have MD : za (Rs w wr.drew g3 (zaW p k)) := ⟨⟨zp MK.out.b,MK.out.h⟩⟩
   generalize wr.drew = wd at MD ⊢
   have hbk : za ((p.extract i j).size = 64) := ⟨by have := EJ.out;have := E64.out;rw [ByteArray.size_extract];omega⟩
   go_wp2_with (first
    | (go_at_call 61;(with_reducible refine (rblock.walk _ _ _ (zbn p k) (zdM p k) hbk.out).mono ?_);rintro e w7 ⟨rfl,hb⟩;have M7 : za (Rs w w7 g3 (zaW p k)) := ⟨MD.out.below hb⟩;clear MD hb))
   change wpAny _ .any _ _ 3 #[true,true,true,true,true,true,true,true,false,false,false] _ _
   refine wpAny_take (i := 8) (v := .agg (zL (zeC (zaW p k) kL (p.extract i j)))) rfl (by kernel_rfl) (by kernel_rfl) (by kernel_rfl) (fun _ _ _ h => h) (Or.inl ⟨by rfl,fun w => by go_simp⟩) ?_
   refine wpAny_take (i := 9) (v := .int .i64 0) rfl (by kernel_rfl) (by kernel_rfl) (by kernel_rfl) (fun _ _ _ h => h) (Or.inl ⟨by rfl,fun w => by go_simp⟩) ?_
   refine wpAny_last 10 rfl (by kernel_rfl) (by kernel_rfl) ?_
   refine wpList_store_row rfl 87 (.tmp 3) (.tmp 25) rfl g3 (zL (zeC (zaW p k) kL (p.extract i j))) (by kernel_rfl) (by kernel_rfl) 87 _ M7.out.h (by rw [zaX,zdB];kernel_rfl) (by rw [zaX,zaX,zbn,zdB]) (zhU _) ?_
   have M8 : za (Rs w (w7.setRow g3 (zL (zeC (zaW p k) kL (p.extract i j)))) g3 (zaW p (k + 1))) := ⟨⟨zbl M7.out.b G3.out,by rw [zaW,← EI.out,← EJ.out];exact setRow_heap _ _ _ _ _ _ M7.out.h⟩⟩
   generalize World.setRow w7 _ _ = w8 at M8 ⊢
   clear M7
   refine wpList_nil ?_
   go_simp
   go_wp2
   refine ⟨⟨k + 1,?_,by omega,M8⟩,?_⟩
   ·rw [EJ.out,EI.out,Nat.mul_add]
   ·have h1 := EJ.out;have h2 := E64.out.2
    show p.size - (j : Int).toNat < p.size - (i : Int).toNat
    omega
  ·obtain rfl : k = m := by omega
   have hps := HP.out
   have c0 : decide (64 * k < p.size) = false := decide_eq_false (by omega)
   have c1 : decide (((64 * k : Nat) : Int) < (p.size : Int)) = false := decide_eq_false (by omega)
   rw [← hps]
   have hpm := HM.out
   clear hlt hk hps c0 c1
   go_wp2
   obtain ⟨L,eL⟩ : ∃ L,L = zaW p k := ⟨_,rfl⟩
   have hl8 : L.length = 8 := by rw [eL,zbn]
   have hok : okL L := by rw [eL];exact zdM p k
   rw [← eL] at MK
   have EL := za.mk eL
   have L8 := za.mk hl8
   have OK := za.mk hok
   have PM := za.mk hpm
   clear eL hl8 hok hpm
   obtain ⟨wb,MB,hR⟩ : ∃ wb,za (Rs w wb g3 L) ∧ Ro wb wr L (.slice none 0 0) 0 := ⟨wr,MK,zfY _ _ _ _,Below.refl _ _⟩
   have R0 := za.mk hR
   clear hR MK
   go_loopw [6,7] (fun v6 v7 wr => ∃ n : Nat,v7 = .int .i64 n ∧ n ≤ 8 ∧ za (Ro wb wr L v6 n)) (fun _ v7 _ => 8 - (intOf v7).toNat)
   case atStart => exact ⟨0,rfl,by omega,R0⟩
   case round =>
    clear R0
    obtain ⟨n,rfl,hn,HM⟩ := hrel
    obtain ⟨A,c,rfl⟩ := zfe HM.out.o
    rw [zd7]
    obtain ⟨q,eq⟩ : ∃ q,q = 4 * n := ⟨_,rfl⟩
    rw [← eq]
    have HN : za (wr.ownsRow wb.heap.size 5 1 (.slice A q c) (zeD L n).length (zbL .u8 (zeD L n)) ∧ Below wb.heap.size wb wr) := ⟨by have := HM.out.o;rw [zd7,← eq] at this ⊢;exact this,HM.out.c⟩
    have EQ := za.mk eq
    clear HM eq
    by_cases hlt : n < 8
    ·have b1 : decide (n < 8) = true := decide_eq_true hlt
     have b2 : decide ((n : Int) < 8) = true := decide_eq_true (by omega)
     have b3 : ((n : Int) < 8) = True := eq_true (by omega)
     have b4 : (n < 8) = True := eq_true hlt
     obtain ⟨x,ex⟩ : ∃ x,x = L.getD n 0 := ⟨_,rfl⟩
     have hok := OK.out n
     rw [← ex] at hok
     have EX := za.mk ex
     have cx : wr.drew.cell? ⟨g3,n,none⟩ = some (.int .u32 x) := by
      rw [ex]
      exact (zb (w := wr.drew) (zr MB.out.h (zp HN.out.2)) n).trans (zT L n (by rw [L8.out];exact hlt))
     have OX := za.mk hok
     clear ex hok
     go_wp2
     refine zbW (.slice A q c) 22 (by kernel_rfl) (by kernel_rfl) (fun _ _ _ h => h) (Or.inl ⟨by rfl,fun w => by go_simp⟩) ?_
     simp only [List.take_succ_cons,List.take_zero,List.drop_succ_cons,List.drop_zero]
     repeat still_step
     refine wpStill_nil ?_
     change wpList _ _ _ _ _ wr.drew
     have HN2 : za (wr.drew.ownsRow wb.heap.size 5 1 (.slice A q c) (zeD L n).length (zbL .u8 (zeD L n)) ∧ Below wb.heap.size wb wr.drew) := ⟨HN.out.1,zp HN.out.2⟩
     generalize wr.drew = wd at HN2 cx ⊢
     clear HN cx
     go_wp2_with (at_builtin;go_loud (refine zdG wb.heap.size rfl (.tmp 31) (.tmp 54) 91 5 .u8 1 rfl Try.underlying91 zhJ (by decide) (.slice A q c) (zeD L n) [x.tdiv 16777216 % 4294967296 % 256,(x.tdiv 65536 % 4294967296).tmod 256 % 256,(x.tdiv 256 % 4294967296).tmod 256 % 256,x.tmod 256 % 256] _ 4 4 rfl rfl (HN2.out.1.alloc _) (lit_reads wd 5 .u8 _ (by simp)) (HN2.out.2.alloc HN2.out.2.size _) (Nat.le_trans HN2.out.2.size (zh ((Below.refl _ _).alloc (Nat.le_refl _) _))) (by rw [zd7];omega) ?_;intro v1 w4 ho1 hb1 hx1 hx2;clear hx1 hx2;have HM1 : za (Ro wb w4 L v1 (n + 1)) := ⟨⟨by rw [zeD,← EX.out,← word_vals OX.out];exact ho1,hb1⟩⟩;clear ho1 hb1))
     go_roundw
     case rel => exact ⟨n + 1,rfl,by omega,HM1⟩
     case measure => show 8 - ((n : Int) + 1).toNat < 8 - (n : Int).toNat;omega
    ·obtain rfl : n = 8 := by omega
     obtain rfl : q = 32 := EQ.out
     have ho : wr.ownsRow wb.heap.size 5 1 (.slice A 32 c) 32 (zbL .u8 (zeD L 8)) := by have := HN.out.1;rw [zd7] at this;exact this
     have hC := zdR (P := Try.prog) Try.underlying91 Try.underlying5 Try.underlying9 ho
     rw [outX_str L OK.out L8.out] at hC
     clear hlt hn ho
     go_wp2
     go_ret
     refine ⟨?_,zf MB.out.b HN.out.2⟩
     show Ending.returned (.string (toB (L.flatMap zcU))) = _
     have hm : (zd8 (ofB s)).length / 64 = k := by rw [PM.out];omega
     rw [zgz,hm,← EP.out,← EL.out]
def zaK.f (a0 : ByteArray) : Option ByteArray := if a0.size ≤ 70368744177664 then some (zgz a0) else none
theorem zaK.calls (a0 : ByteArray) (r : ByteArray) (w : World) (h : zaK.f a0 = some r) :
  Calls Try.prog 41 #[.string a0] w fun e w' => e = .returned (.string r) ∧ Below w.heap.size w w' := by
 unfold zaK.f at h
 split at h
 ·next hsz =>
  obtain rfl := Option.some.inj h
  exact rsum.walk a0 w hsz
 ·exact absurd h (by simp)
theorem rrInfo5 : (Try.prog.info? 5).map (fun i => (i.zero,i.size,i.bytes)) = some (some (.int .u8 0),1,1) := by kernel_rfl
def zM.Rel (l : List ByteArray) (k : Nat) (w0 wr : World) (v : Value) : Prop := zaN wr w0.heap.size 5 v (zdq l.length ++ zbw (l.take k)) ∧ Below w0.heap.size w0 wr
set_option maxRecDepth 100000 in
theorem zM.walk (A : Option Addr) (c : Nat) (l : List ByteArray) (w : World) (hr : Kd.C Kd.string w A l.length l) (hc : l.length ≤ c) (hs : (zcm l).length ≤ 140737488355328) :
  Calls Try.prog 58 #[.slice A l.length c] w fun e w' => e = .returned (.string (toB (zcm l))) ∧ Below w.heap.size w w' := by
 have hm := hr.2.1
 have hll := zik l
 have hsum : (zcm l).length = (zdq l.length).length + (zbw l).length := by rw [zcm,List.length_append]
 have hlen : l.length ≤ 140737488355328 := by omega
 obtain ⟨k0,hk0⟩ := (zfi l.length (by omega)).rounds
 have HN := za.mk hk0
 have HR := za.mk hr
 have HS := za.mk hs
 have HU := za.mk hsum
 have kb := fun (W : World) (s : ByteArray) => Lib.run_convert_string_bytes (P := Try.prog) W 9 91 5 s Try.underlying9 Try.underlying91 Try.underlying5
 clear hr hs hll hsum hk0
 go_enter Try.func58,Try.ntmps58
 go_wp2_with (go_at_call 57;(with_reducible refine (zt.calls _ _ _ _ HN.out).mono ?_);rintro e w1 ⟨rfl,hb1⟩)
 have hw1 : Below w.heap.size w w1 := by assumption
 have HL : za (zM.Rel l 0 w (Lib.bytesWorld w1 5 (zbm l.length)) (.slice (some ⟨w1.heap.size,0,none⟩) (zbm l.length).size (grownCap w1 (zbm l.length).size 0 5))) := ⟨by
  have h := zaN.start w1 w.heap.size 5 (zbm l.length) hw1.size (by have := za6 (v := l.length) (by omega);unfold maxLen;omega)
  rw [List.take_zero,show zbw [] = [] from rfl,List.append_nil]
  rw [zbm,zdl] at h
  exact h,zfo hw1 hw1.size 5 _⟩
 generalize Lib.bytesWorld w1 5 (zbm l.length) = wb at *
 generalize Value.slice (some ⟨w1.heap.size,0,none⟩) (zbm l.length).size (grownCap w1 (zbm l.length).size 0 5) = vb at *
 clear hw1
 go_loopw [3,4] (fun v3 v4 wr => ∃ k : Nat,v4 = .int .i64 k ∧ k ≤ l.length ∧ za (zM.Rel l k w wr v3)) (fun _ v4 _ => l.length - (match v4 with | .int _ q => q | _ => 0).toNat)
 case atStart => exact ⟨0,rfl,Nat.zero_le _,HL⟩
 case round =>
  obtain ⟨k,rfl,hk,HK⟩ := hrel
  by_cases hlt : k < l.length
  ·obtain ⟨ad,rfl,hcell⟩ := Kd.at_string (Kd.C_below HR.out HK.out.2) (k : Int) (by omega) (by omega)
   rw [Int.toNat_natCast] at hcell
   have hb : decide (k < l.length) = true := decide_eq_true hlt
   have hx : l[k]? = some (zB ByteArray.empty l (k : Int)) := by
    rw [zB,Int.toNat_natCast,List.getD_eq_getElem?_getD,List.getElem?_eq_getElem hlt];rfl
   have HX := za.mk hx
   clear hx
   generalize zB ByteArray.empty l (k : Int) = s at *
   have hs := zeP l k s HX.out
   have HT := za.mk (zd1 s (by have := HS.out;have := HU.out;omega))
   have h2 := zeG l k s HX.out
   have h3 := zds l (k + 1)
   rw [h2,List.length_append,zat] at h3
   have H2 := za.mk h2
   have H3 : za ((zdq l.length ++ zbw (l.take k)).length + (zew s).size ≤ 140737488355328) := ⟨by rw [List.length_append];have := HS.out;have := HU.out;omega⟩
   clear h2 h3 hs
   go_wp2_with (first | (go_at_call 82;(with_reducible refine (zba.calls _ _ _ HT.out).mono ?_);rintro e w3 ⟨rfl,hb3⟩;have HO := za.mk (zaN.below HK.out.1 hb3);have HB := za.mk (zf HK.out.2 hb3);clear hb3) | (at_builtin;refine zeZ rfl _ _ 91 9 rfl w.heap.size 5 Try.underlying91 Try.underlying9 rrInfo5 _ _ rfl HO.out _ rfl HB.out H3.out HB.out.size ?_;intro v5 w5 ho5 hb5;have HL5 : za (zM.Rel l (k + 1) w w5 v5) := ⟨by rw [H2.out,← List.append_assoc];exact ho5,hb5⟩;clear ho5 hb5))
   go_roundw
   case rel => exact ⟨k + 1,by go_num,by omega,HL5⟩
   case measure => simp;omega
  ·obtain rfl : k = l.length := by omega
   have hs2 := HK.out.1.string Try.underlying91 Try.underlying5 9 Try.underlying9
   rw [List.take_of_length_le (Nat.le_refl _)] at hs2
   go_wp2
   go_ret
   exact ⟨rfl,HK.out.2⟩
def zM.f (l0 : List ByteArray) : Option (ByteArray) := if (zcm l0).length ≤ 140737488355328 then (some (toB (zcm l0))) else (none)
theorem zM.calls (A0 : Option Addr) (c0 : Nat) (l0 : List ByteArray) (r : ByteArray) (w : World) (hr0 : Kd.C Kd.string w A0 l0.length l0) (hc0 : l0.length ≤ c0) (h : zM.f l0 = some r) :
  Calls Try.prog 58 #[.slice A0 l0.length c0] w fun e w' => e = .returned (.string r) ∧ Below w.heap.size w w' := by
 unfold zM.f at h
 split at h
 ·rename_i hs
  obtain rfl := Option.some.inj h
  exact zM.walk A0 c0 l0 w hr0 hc0 hs
 ·cases h
mutual
def zw.j0 : Nat → Bool → Int → Int → List ByteArray → Option (Bool)
 | 0,_,_,_,_ => none
 | k + 1,x33,yh,yi,yd => if x33 = true then (some false) else (zw.l0 k 0 yh yi yd)
def zw.l0 : Nat → Int → Int → Int → List ByteArray → Option (Bool)
 | 0,_,_,_,_ => none
 | k + 1,x3,yh,yi,yd => if x3 < (yd.length : Int) then (if 0 ≤ x3 then (if ((zB ByteArray.empty yd x3).size : Int) < 1 then (some false) else (if ((zB ByteArray.empty yd x3).size : Int) > 48 then (some false) else (zw.l0 k (wrap64 (x3 + 1)) yh yi yd))) else (none)) else (some true)
end
def zw.f (k : Nat) (a0_0 : Int) (a0_1 : Int) (l0_2 : List ByteArray) : Option (Bool) := if a0_0 < 1 then (zw.j0 k true a0_0 a0_1 l0_2) else (if a0_0 > 64 then (zw.j0 k true a0_0 a0_1 l0_2) else (if a0_1 < 1 then (zw.j0 k true a0_0 a0_1 l0_2) else (if a0_1 > 1073741824 then (zw.j0 k true a0_0 a0_1 l0_2) else (if (l0_2.length : Int) < 1 then (zw.j0 k true a0_0 a0_1 l0_2) else (zw.j0 k (decide ((l0_2.length : Int) > 4)) a0_0 a0_1 l0_2)))))
set_option maxHeartbeats 8000000 in
set_option maxRecDepth 100000 in
theorem zw.calls (k : Nat) (a0_0 : Int) (a0_1 : Int) (A0_2 : Option Addr) (c0_2 : Nat) (l0_2 : List ByteArray) (r : Bool) (w : World) (hr0_2 : Kd.C Kd.string w A0_2 l0_2.length l0_2) (hc0_2 : l0_2.length ≤ c0_2) (h : zw.f k a0_0 a0_1 l0_2 = some r) :
  Calls Try.prog 77 #[.agg #[.int .i64 a0_0,.int .i64 a0_1,.slice A0_2 l0_2.length c0_2]] w fun e w' => e = .returned (.bool r) ∧ Below w.heap.size w w' := by
 have hu78 := Try.underlying78
 have HR0_2 := za.mk hr0_2
 have HC0_2 := za.mk hc0_2
 clear hr0_2 hc0_2
 have HB := za.mk (Below.refl w.heap.size w)
 have H : (if a0_0 < 1 then (zw.j0 k true a0_0 a0_1 l0_2) else (if a0_0 > 64 then (zw.j0 k true a0_0 a0_1 l0_2) else (if a0_1 < 1 then (zw.j0 k true a0_0 a0_1 l0_2) else (if a0_1 > 1073741824 then (zw.j0 k true a0_0 a0_1 l0_2) else (if (l0_2.length : Int) < 1 then (zw.j0 k true a0_0 a0_1 l0_2) else (zw.j0 k (decide ((l0_2.length : Int) > 4)) a0_0 a0_1 l0_2)))))) = some r := h
 clear h
 have HC2 := za.mk H
 clear H
 go_enter Try.func77,Try.ntmps77
 go_upto_region 1 with (first | ((with_reducible refine zq (N := 1) rfl ?_);(try (refine zbP (by rfl) ?_;dsimp only));refine zn rfl (N := 1) rfl (cs := #[.int .i64 a0_0,.int .i64 a0_1,.slice A0_2 l0_2.length c0_2]) (t := 78) hrq ?_;intro ym hg w3 hbox hb;have n_ := haq (zf hBq hb) <| haq (hbox) <| haq ((by rw [hg];exact (zh hBq) : w.heap.size ≤ ym)) <| haq ((by rw [hg];exact (zh hBq) : w.heap.size ≤ ym)) <| trivial;clear HB;obtain ⟨HB,ya,yq,ye,_⟩ := n_;clear hb hbox hg))
 (try simp only [Act.put,List.setIfInBounds_toArray,List.set_cons_zero,List.set_cons_succ])
 go_cut [33] (fun v33 wc => ∃ (kq : Nat) (x33_1 : Bool),v33 = .bool x33_1 ∧ za (zw.j0 kq x33_1 a0_0 a0_1 l0_2 = some r) ∧ za (kq ≤ k) ∧ za (wc.heap[ym]? = some (.cells #[.int .i64 a0_0,.int .i64 a0_1,(.slice A0_2 l0_2.length c0_2)] 78 (0,0))) ∧ za (Below w.heap.size w wc))
 case first =>
  have H := HC2.out
  clear HC2
  by_cases c4 : a0_0 < 1
  ·rw [if_pos c4] at H
   have c4b0 : decide (a0_0 < 1) = true := decide_eq_true c4
   clear c4
   (first | rw [c4b0] | (simp only [zah,zaj];rw [c4b0]) | skip)
   have H' := za.mk H
   clear H
   obtain ⟨hcz5_0,hcz5_1,hcz5_2,hfz5_0,hfz5_1,hfz5_2⟩ := hcq3 ya.out
   go_wp2
   go_meet
   case rel => exact ⟨_,(true),(hDq),H',⟨by first | omega | exact Nat.le_refl _⟩,⟨hGq ya.out⟩,⟨by repeat (first | (with_reducible first | exact HB.out | apply zm | apply zj | apply zp | refine zl ?_ ye.out) | exact HB.out)⟩⟩
  ·rw [if_neg c4] at H
   have c4b0 : decide (a0_0 < 1) = false := decide_eq_false c4
   clear c4
   (first | rw [c4b0] | (simp only [zah,zaj];rw [c4b0]) | skip)
   by_cases c6 : a0_0 > 64
   ·rw [if_pos c6] at H
    have c6b0 : decide (64 < a0_0) = true := decide_eq_true c6
    clear c6
    have H' := za.mk H
    clear H
    obtain ⟨hcz7_0,hcz7_1,hcz7_2,hfz7_0,hfz7_1,hfz7_2⟩ := hcq3 ya.out
    go_wp2
    go_meet
    case rel => exact ⟨_,(true),(hDq),H',⟨by first | omega | exact Nat.le_refl _⟩,⟨hGq ya.out⟩,⟨by repeat (first | (with_reducible first | exact HB.out | apply zm | apply zj | apply zp | refine zl ?_ ye.out) | exact HB.out)⟩⟩
   ·rw [if_neg c6] at H
    have c6b0 : decide (64 < a0_0) = false := decide_eq_false c6
    clear c6
    by_cases c8 : a0_1 < 1
    ·rw [if_pos c8] at H
     have c8b0 : decide (a0_1 < 1) = true := decide_eq_true c8
     clear c8
     have H' := za.mk H
     clear H
     obtain ⟨hcz9_0,hcz9_1,hcz9_2,hfz9_0,hfz9_1,hfz9_2⟩ := hcq3 ya.out
     go_wp2
     go_meet
     case rel => exact ⟨_,(true),(hDq),H',⟨by first | omega | exact Nat.le_refl _⟩,⟨hGq ya.out⟩,⟨by repeat (first | (with_reducible first | exact HB.out | apply zm | apply zj | apply zp | refine zl ?_ ye.out) | exact HB.out)⟩⟩
    ·rw [if_neg c8] at H
     have c8b0 : decide (a0_1 < 1) = false := decide_eq_false c8
     clear c8
     by_cases c10 : a0_1 > 1073741824
     ·rw [if_pos c10] at H
      have c10b0 : decide (1073741824 < a0_1) = true := decide_eq_true c10
      clear c10
      have H' := za.mk H
      clear H
      obtain ⟨hcz11_0,hcz11_1,hcz11_2,hfz11_0,hfz11_1,hfz11_2⟩ := hcq3 ya.out
      go_wp2
      go_meet
      case rel => exact ⟨_,(true),(hDq),H',⟨by first | omega | exact Nat.le_refl _⟩,⟨hGq ya.out⟩,⟨by repeat (first | (with_reducible first | exact HB.out | apply zm | apply zj | apply zp | refine zl ?_ ye.out) | exact HB.out)⟩⟩
     ·rw [if_neg c10] at H
      have c10b0 : decide (1073741824 < a0_1) = false := decide_eq_false c10
      clear c10
      by_cases c12 : (l0_2.length : Int) < 1
      ·rw [if_pos c12] at H
       have c12b0 : decide ((l0_2.length : Int) < 1) = true := decide_eq_true c12
       have c12b1 : decide (l0_2.length < 1) = true := decide_eq_true (by omega)
       clear c12
       have H' := za.mk H
       clear H
       obtain ⟨hcz13_0,hcz13_1,hcz13_2,hfz13_0,hfz13_1,hfz13_2⟩ := hcq3 ya.out
       go_wp2
       go_meet
       case rel => exact ⟨_,(true),(hDq),H',⟨by first | omega | exact Nat.le_refl _⟩,⟨hGq ya.out⟩,⟨by repeat (first | (with_reducible first | exact HB.out | apply zm | apply zj | apply zp | refine zl ?_ ye.out) | exact HB.out)⟩⟩
      ·rw [if_neg c12] at H
       have c12b0 : decide ((l0_2.length : Int) < 1) = false := decide_eq_false c12
       have c12b1 : decide (l0_2.length < 1) = false := decide_eq_false (by omega)
       clear c12
       have H' := za.mk H
       clear H
       obtain ⟨hcz14_0,hcz14_1,hcz14_2,hfz14_0,hfz14_1,hfz14_2⟩ := hcq3 ya.out
       go_wp2
       go_meet
       case rel => exact ⟨_,(decide ((l0_2.length : Int) > 4)),(hDq),H',⟨by first | omega | exact Nat.le_refl _⟩,⟨hGq ya.out⟩,⟨by repeat (first | (with_reducible first | exact HB.out | apply zm | apply zj | apply zp | refine zl ?_ ye.out) | exact HB.out)⟩⟩
 case rest =>
  clear HC2
  try clear c1;try clear p2;try clear c4;try clear c4b0;try clear c6;try clear c6b0;try clear c7;try clear c8;try clear c8b0;try clear c10;try clear c10b0;try clear c12;try clear c12b0;try clear c12b1;try clear hcz11_0;try clear hcz11_1;try clear hcz11_2;try clear hcz13_0;try clear hcz13_1;try clear hcz13_2;try clear hcz14_0;try clear hcz14_1;try clear hcz14_2;try clear hcz5_0;try clear hcz5_1;try clear hcz5_2;try clear hcz7_0;try clear hcz7_1;try clear hcz7_2;try clear hcz9_0;try clear hcz9_1;try clear hcz9_2;try clear hfz11_0;try clear hfz11_1;try clear hfz11_2;try clear hfz13_0;try clear hfz13_1;try clear hfz13_2;try clear hfz14_0;try clear hfz14_1;try clear hfz14_2;try clear hfz5_0;try clear hfz5_1;try clear hfz5_2;try clear hfz7_0;try clear hfz7_1;try clear hfz7_2;try clear hfz9_0;try clear hfz9_1;try clear hfz9_2
  obtain ⟨kq,x33_1,rfl,HA,HJ1,ya,HB⟩ := hcut
  cases kq with
  | zero => exact absurd HA.out (by simp [zw.j0])
  | succ kj1 =>
   have H := HA.out
   clear HA
   simp only [zw.j0] at H
   by_cases c15 : x33_1 = true
   ·subst c15
    have H1 : (some false) = some r := by rw [if_pos rfl] at H;exact H
    clear H
    have H := H1
    clear H1
    obtain rfl := Option.some.inj H
    go_wp2
    go_ret
    exact ⟨hHq,hCq⟩
   ·replace c15 := Bool.eq_false_iff.mpr c15
    subst c15
    have H1 : (zw.l0 kj1 0 a0_0 a0_1 l0_2) = some r := by rw [if_neg (show ¬ (false = true) by decide)] at H;exact H
    clear H
    have H := H1
    clear H1
    have H' := za.mk H
    clear H
    go_wp2
    go_loopg [3] kj1 (fun kq v3 w' => ∃ (x3_2 : Int),v3 = .int .i64 x3_2 ∧ za (zw.l0 kq x3_2 a0_0 a0_1 l0_2 = some r) ∧ za (kq ≤ kj1) ∧ za (w'.heap[ym]? = some (.cells #[.int .i64 a0_0,.int .i64 a0_1,(.slice A0_2 l0_2.length c0_2)] 78 (0,0))) ∧ za (Below w.heap.size w w'))
    case atStart => exact ⟨(0),(hDq),H',⟨Nat.le_refl _⟩,⟨hGq ya.out⟩,⟨by repeat (first | (with_reducible first | exact HB.out | apply zm | apply zj | apply zp | refine zl ?_ ye.out) | exact HB.out)⟩⟩
    case round =>
     clear H'
     try clear c1;try clear p2;try clear c4;try clear c4b0;try clear c6;try clear c6b0;try clear c7;try clear c8;try clear c8b0;try clear c10;try clear c10b0;try clear c12;try clear c12b0;try clear c12b1;try clear c15;try clear hcz11_0;try clear hcz11_1;try clear hcz11_2;try clear hcz13_0;try clear hcz13_1;try clear hcz13_2;try clear hcz14_0;try clear hcz14_1;try clear hcz14_2;try clear hcz5_0;try clear hcz5_1;try clear hcz5_2;try clear hcz7_0;try clear hcz7_1;try clear hcz7_2;try clear hcz9_0;try clear hcz9_1;try clear hcz9_2;try clear hfz11_0;try clear hfz11_1;try clear hfz11_2;try clear hfz13_0;try clear hfz13_1;try clear hfz13_2;try clear hfz14_0;try clear hfz14_1;try clear hfz14_2;try clear hfz5_0;try clear hfz5_1;try clear hfz5_2;try clear hfz7_0;try clear hfz7_1;try clear hfz7_2;try clear hfz9_0;try clear hfz9_1;try clear hfz9_2;try clear p2
     obtain ⟨x3_2,rfl,HA,HK2,ya,HB⟩ := hrel
     cases gk with
     | zero => exact absurd HA.out (by simp [zw.l0])
     | succ k2 =>
      have H := HA.out
      clear HA
      simp only [zw.l0] at H
      by_cases c16 : x3_2 < (l0_2.length : Int)
      ·rw [if_pos c16] at H
       have c16b0 : decide (x3_2 < (l0_2.length : Int)) = true := decide_eq_true c16
       clear c16
       by_cases c17 : 0 ≤ x3_2
       ·rw [if_pos c17] at H
        have c17b0 : decide (0 ≤ x3_2) = true := decide_eq_true c17
        clear c17
        by_cases c18 : ((zB ByteArray.empty l0_2 x3_2).size : Int) < 1
        ·rw [if_pos c18] at H
         have c18b0 : decide (((zB ByteArray.empty l0_2 x3_2).size : Int) < 1) = true := decide_eq_true c18
         have c18b1 : decide ((zB ByteArray.empty l0_2 x3_2).size < 1) = true := decide_eq_true (by omega)
         clear c18
         obtain rfl := Option.some.inj H
         obtain ⟨hcz19_0,hcz19_1,hcz19_2,hfz19_0,hfz19_1,hfz19_2⟩ := hcq3 ya.out
         have yf : 0 ≤ (x3_2 : Int) := hFq
         have yg : x3_2 < (l0_2.length : Int) := hFq
         obtain ⟨yl,yo,yb⟩ := Kd.at_string HR0_2.out x3_2 yf yg
         cases yo
         replace yb := (HB.out.cell (World.block_lt_of_cell? w _ yb)).trans yb
         replace yf := eq_true yf
         replace yg := eq_true yg
         go_wp2
         go_ret
         exact ⟨hHq,hCq⟩
        ·rw [if_neg c18] at H
         have c18b0 : decide (((zB ByteArray.empty l0_2 x3_2).size : Int) < 1) = false := decide_eq_false c18
         have c18b1 : decide ((zB ByteArray.empty l0_2 x3_2).size < 1) = false := decide_eq_false (by omega)
         clear c18
         by_cases c20 : ((zB ByteArray.empty l0_2 x3_2).size : Int) > 48
         ·rw [if_pos c20] at H
          have c20b0 : decide (48 < ((zB ByteArray.empty l0_2 x3_2).size : Int)) = true := decide_eq_true c20
          have c20b1 : decide (48 < (zB ByteArray.empty l0_2 x3_2).size) = true := decide_eq_true (by omega)
          clear c20
          obtain rfl := Option.some.inj H
          obtain ⟨hcz21_0,hcz21_1,hcz21_2,hfz21_0,hfz21_1,hfz21_2⟩ := hcq3 ya.out
          have yf : 0 ≤ (x3_2 : Int) := hFq
          have yg : x3_2 < (l0_2.length : Int) := hFq
          obtain ⟨yl,yo,yb⟩ := Kd.at_string HR0_2.out x3_2 yf yg
          cases yo
          replace yb := (HB.out.cell (World.block_lt_of_cell? w _ yb)).trans yb
          replace yf := eq_true yf
          replace yg := eq_true yg
          have yj : 0 ≤ (x3_2 : Int) := hFq
          have yk : x3_2 < (l0_2.length : Int) := hFq
          obtain ⟨yn,yp,yc⟩ := Kd.at_string HR0_2.out x3_2 yj yk
          obtain rfl : yl = yn := (by injection yp)
          replace yc := (HB.out.cell (World.block_lt_of_cell? w _ yc)).trans yc
          replace yj := eq_true yj
          replace yk := eq_true yk
          go_wp2
          go_ret
          exact ⟨hHq,hCq⟩
         ·rw [if_neg c20] at H
          have c20b0 : decide (48 < ((zB ByteArray.empty l0_2 x3_2).size : Int)) = false := decide_eq_false c20
          have c20b1 : decide (48 < (zB ByteArray.empty l0_2 x3_2).size) = false := decide_eq_false (by omega)
          clear c20
          have H' := za.mk H
          clear H
          obtain ⟨hcz22_0,hcz22_1,hcz22_2,hfz22_0,hfz22_1,hfz22_2⟩ := hcq3 ya.out
          have yf : 0 ≤ (x3_2 : Int) := hFq
          have yg : x3_2 < (l0_2.length : Int) := hFq
          obtain ⟨yl,yo,yb⟩ := Kd.at_string HR0_2.out x3_2 yf yg
          cases yo
          replace yb := (HB.out.cell (World.block_lt_of_cell? w _ yb)).trans yb
          replace yf := eq_true yf
          replace yg := eq_true yg
          have yj : 0 ≤ (x3_2 : Int) := hFq
          have yk : x3_2 < (l0_2.length : Int) := hFq
          obtain ⟨yn,yp,yc⟩ := Kd.at_string HR0_2.out x3_2 yj yk
          obtain rfl : yl = yn := (by injection yp)
          replace yc := (HB.out.cell (World.block_lt_of_cell? w _ yc)).trans yc
          replace yj := eq_true yj
          replace yk := eq_true yk
          go_wp2
          go_roundg k2
          case measure => have := HJ1.out;have := HK2.out;omega
          case rel => exact ⟨(wrap64 (x3_2 + 1)),(hDq),H',⟨by have := HJ1.out;have := HK2.out;omega⟩,⟨hGq ya.out⟩,⟨by repeat (first | (with_reducible first | exact HB.out | apply zm | apply zj | apply zp | refine zl ?_ ye.out) | exact HB.out)⟩⟩
       ·rw [if_neg c17] at H
        exact absurd H (by simp)
      ·rw [if_neg c16] at H
       have c16b0 : decide (x3_2 < (l0_2.length : Int)) = false := decide_eq_false c16
       clear c16
       obtain rfl := Option.some.inj H
       obtain ⟨hcz23_0,hcz23_1,hcz23_2,hfz23_0,hfz23_1,hfz23_2⟩ := hcq3 ya.out
       go_wp2
       go_ret
       exact ⟨hHq,hCq⟩
def z9.f (k : Nat) (a0_0 : Int) (a0_1 : Int) (l0_2 : List ByteArray) : Option (ByteArray × Int) := (zw.f k a0_0 a0_1 l0_2).bind fun yf => (if yf = true then ((zt.f k (IntKind.u64.wrap (a0_0))).bind fun yc => ((zt.f k (IntKind.u64.wrap (a0_1))).bind fun yb => (if yc.size + yb.size ≤ 9223372036854775807 then ((zM.f l0_2).bind fun yd => (if (yc ++ yb).size + yd.size ≤ 9223372036854775807 then (some ((yc ++ yb) ++ yd,0)) else (none))) else (none)))) else (some ((⟨#[]⟩ : ByteArray),1)))
def z9.T4 : Bool × List (List Nat × List Nat) := (true,[([],[]),([0],[0]),([1],[1]),([2],[2]),([],[]),([4],[4]),([5],[5]),([6,3],[6]),([3,7],[3,7]),([],[]),([9],[9]),([10,7],[10]),([8,11],[8,11]),([12,11,0,1,2,3,4,5,6,7,8,9,10,11,12],[12]),([13,0,1,2,3,4,5,6,7,8,9,10,11,12,13],[])])
def z9.B4 : List Nat := [0,1,3,7,0,16,48,127,255,0,512,1791,4095,8191,16383]
theorem z9.tab4 : zb3 .any (zdC Try.f56 4) = z9.T4 := by kernel_rfl
theorem z9.bits4 : zbD z9.T4.2 z9.B4 = true := by kernel_rfl
set_option maxHeartbeats 8000000 in
set_option maxRecDepth 100000 in
theorem z9.calls (k : Nat) (a0_0 : Int) (a0_1 : Int) (A0_2 : Option Addr) (c0_2 : Nat) (l0_2 : List ByteArray) (r1 : ByteArray) (r2 : Int) (w : World) (hr0_2 : Kd.C Kd.string w A0_2 l0_2.length l0_2) (hc0_2 : l0_2.length ≤ c0_2) (h : z9.f k a0_0 a0_1 l0_2 = some (r1,r2)) :
  Calls Try.prog 56 #[.agg #[.int .i64 a0_0,.int .i64 a0_1,.slice A0_2 l0_2.length c0_2]] w fun e w' => e = .returned (.tuple #[.string r1,.int .i64 r2]) ∧ Below w.heap.size w w' := by
 have hu78 := Try.underlying78
 have HR0_2 := za.mk hr0_2
 have HC0_2 := za.mk hc0_2
 clear hr0_2 hc0_2
 have HB := za.mk (Below.refl w.heap.size w)
 have H : ((zw.f k a0_0 a0_1 l0_2).bind fun yf => (if yf = true then ((zt.f k (IntKind.u64.wrap (a0_0))).bind fun yc => ((zt.f k (IntKind.u64.wrap (a0_1))).bind fun yb => (if yc.size + yb.size ≤ 9223372036854775807 then ((zM.f l0_2).bind fun yd => (if (yc ++ yb).size + yd.size ≤ 9223372036854775807 then (some ((yc ++ yb) ++ yd,0)) else (none))) else (none)))) else (some ((⟨#[]⟩ : ByteArray),1)))) = some (r1,r2) := h
 clear h
 replace H := Option.bind_eq_some_iff.mp H
 obtain ⟨yf,A20,H⟩ := H
 replace H : (if yf = true then ((zt.f k (IntKind.u64.wrap (a0_0))).bind fun yc => ((zt.f k (IntKind.u64.wrap (a0_1))).bind fun yb => (if yc.size + yb.size ≤ 9223372036854775807 then ((zM.f l0_2).bind fun yd => (if (yc ++ yb).size + yd.size ≤ 9223372036854775807 then (some ((yc ++ yb) ++ yd,0)) else (none))) else (none)))) else (some ((⟨#[]⟩ : ByteArray),1))) = some (r1,r2) := H
 have A2 := za.mk A20
 clear A20
 by_cases c3 : yf = true
 ·subst c3
  have H1 : ((zt.f k (IntKind.u64.wrap (a0_0))).bind fun yc => ((zt.f k (IntKind.u64.wrap (a0_1))).bind fun yb => (if yc.size + yb.size ≤ 9223372036854775807 then ((zM.f l0_2).bind fun yd => (if (yc ++ yb).size + yd.size ≤ 9223372036854775807 then (some ((yc ++ yb) ++ yd,0)) else (none))) else (none)))) = some (r1,r2) := by rw [if_pos rfl] at H;exact H
  clear H
  have H := H1
  clear H1
  replace H := Option.bind_eq_some_iff.mp H
  obtain ⟨yc,A40,H⟩ := H
  replace H : ((zt.f k (IntKind.u64.wrap (a0_1))).bind fun yb => (if yc.size + yb.size ≤ 9223372036854775807 then ((zM.f l0_2).bind fun yd => (if (yc ++ yb).size + yd.size ≤ 9223372036854775807 then (some ((yc ++ yb) ++ yd,0)) else (none))) else (none))) = some (r1,r2) := H
  have A4 := za.mk A40
  clear A40
  replace H := Option.bind_eq_some_iff.mp H
  obtain ⟨yb,A50,H⟩ := H
  replace H : (if yc.size + yb.size ≤ 9223372036854775807 then ((zM.f l0_2).bind fun yd => (if (yc ++ yb).size + yd.size ≤ 9223372036854775807 then (some ((yc ++ yb) ++ yd,0)) else (none))) else (none)) = some (r1,r2) := H
  have A5 := za.mk A50
  clear A50
  by_cases c6 : yc.size + yb.size ≤ 9223372036854775807
  ·rw [if_pos c6] at H
   have c6b0 := eq_true c6
   have c6b1 : decide (yc.size + yb.size ≤ 9223372036854775807) = true := decide_eq_true c6
   try have c6b2 : (9223372036854775807 < yc.size + yb.size) = False := eq_false (Nat.not_lt.2 c6)
   replace H := Option.bind_eq_some_iff.mp H
   obtain ⟨yd,A70,H⟩ := H
   replace H : (if (yc ++ yb).size + yd.size ≤ 9223372036854775807 then (some ((yc ++ yb) ++ yd,0)) else (none)) = some (r1,r2) := H
   have A7 := za.mk A70
   clear A70
   by_cases c8 : (yc ++ yb).size + yd.size ≤ 9223372036854775807
   ·rw [if_pos c8] at H
    have c8b0 := eq_true c8
    have c8b1 : decide ((yc ++ yb).size + yd.size ≤ 9223372036854775807) = true := decide_eq_true c8
    try have c8b2 : (9223372036854775807 < (yc ++ yb).size + yd.size) = False := eq_false (Nat.not_lt.2 c8)
    try (have c8b3 := c8;simp [ByteArray.size_append] at c8b3;have c8b4 := eq_false (Nat.not_lt.2 c8b3);clear c8b3)
    simp only [Option.some.injEq,Prod.mk.injEq] at H
    obtain ⟨rfl,rfl⟩ := H
    go_enter Try.func56,Try.ntmps56
    try go_wp2_with (first | ((with_reducible refine zq (N := 1) rfl ?_);refine zn rfl (N := 1) rfl (cs := #[.int .i64 a0_0,.int .i64 a0_1,.slice A0_2 l0_2.length c0_2]) (t := 78) hrq ?_;intro ye hg w9 hbox hb;have n_ := haq (zf hBq hb) <| haq (hbox) <| haq ((by rw [hg];exact (zh hBq) : w.heap.size ≤ ye)) <| haq ((by rw [hg];exact (zh hBq) : w.heap.size ≤ ye)) <| trivial;clear HB;obtain ⟨HB,ya,yh,yg,_⟩ := n_;clear hb hbox hg;obtain ⟨hcz10_0,hcz10_1,hcz10_2,hfz10_0,hfz10_1,hfz10_2⟩ := hcq3 ya.out) | ((with_reducible refine zN (f := 77) rfl ?_);refine zax (some 6) rfl rfl Try.func77 (by kernel_rfl) rfl #[.agg #[.int .i64 a0_0,.int .i64 a0_1,.slice A0_2 l0_2.length c0_2]] rfl hMq ?_;(with_reducible refine (zw.calls k a0_0 a0_1 _ _ l0_2 true _ ?side1 ?side2 A2.out).mono ?_);(case side1 => exact hKq (Kd.C_below HR0_2.out HB.out));(case side2 => exact HC0_2.out);rintro e w11 ⟨rfl,hb⟩;refine ⟨_,rfl,?_⟩;have n_ := haq (hbq ya.out hb) <| haq (zf hCq hb) <| trivial;clear ya HB;obtain ⟨ya,HB,_⟩ := n_;(try clear hb);(try clear hb2);(try clear hk);(try clear hi)))
    have n0_ := za.mk (zaa ya.out)
    have n1_ := za.mk (zp HB.out)
    clear ya
    clear HB
    have ya := n0_
    have HB := n1_
    clear n0_ n1_
    refine zbx (n := 15) (S := fun w' => w'.cell? ⟨ye,0,none⟩ = some (.int .i64 a0_0) ∧ w'.cell? ⟨ye,1,none⟩ = some (.int .i64 a0_1) ∧ w'.cell? ⟨ye,2,none⟩ = some (.slice A0_2 l0_2.length c0_2)) (ds := []) (uQ 15 0) (by kernel_rfl) rfl rfl ⟨(zb ya.out 0).trans rfl,(zb ya.out 1).trans rfl,(zb ya.out 2).trans rfl⟩ (fun hHeld => ?_);refine zaG z9.tab4 z9.bits4 (fun HT_ HW_ => ?_)
    generalize w11.drew = w12 at ya HB hHeld ⊢
    refine puq (i := 0) (N := some 9) HT_.out (uQ 15 1) ?_
    refine puq (i := 4) (N := some 13) HT_.out #[true,false,false,false,true,false,false,false,false,false,false,false,false,false,false] ?_
    refine puq (i := 9) (N := some 18) HT_.out #[true,false,false,false,true,false,false,false,false,true,false,false,false,false,false] ?_
    refine take_ (i := 1) (N := some 10) #[true,true,false,false,true,false,false,false,false,true,false,false,false,false,false] rfl rfl (zU HT_.out HW_.out (by kernel_rfl)) (fun _ _ _ h => h) (Or.inl ⟨by rfl,by rintro w' ⟨s0,s1,s2⟩;go_simp;with_reducible rfl⟩) hHeld hPq ?_
    refine puq (i := 2) (N := some 11) HT_.out #[true,true,true,false,true,false,false,false,false,true,false,false,false,false,false] ?_
    refine take_ (i := 5) (N := some 14) #[true,true,true,false,true,true,false,false,false,true,false,false,false,false,false] rfl rfl (zU HT_.out HW_.out (by kernel_rfl)) (fun _ _ _ h => h) (Or.inl ⟨by rfl,by rintro w' ⟨s0,s1,s2⟩;go_simp;with_reducible rfl⟩) hHeld hPq ?_
    refine puq (i := 6) (N := some 15) HT_.out #[true,true,true,false,true,true,true,false,false,true,false,false,false,false,false] ?_
    refine take_ (i := 10) (N := some 19) #[true,true,true,false,true,true,true,false,false,true,true,false,false,false,false] rfl rfl (zU HT_.out HW_.out (by kernel_rfl)) (fun _ _ _ h => h) (Or.inl ⟨by rfl,by rintro w' ⟨s0,s1,s2⟩;go_simp;with_reducible rfl⟩) hHeld hPq ?_
    refine zcl (i := 3) (N := some 12) #[true,true,true,true,true,true,true,false,false,true,true,false,false,false,false] rfl rfl (zaY HT_.out (by kernel_rfl)) (by decide) (fun K hK => ?_)
    refine zbs Try.func57 (by kernel_rfl) rfl #[.int .u64 (IntKind.u64.wrap (a0_0))] (by rfl) rfl rfl hMq ?_
    with_reducible refine (zt.calls k (IntKind.u64.wrap (a0_0)) yc _ A4.out).mono ?_
    rintro e w13 ⟨rfl,hb⟩
    refine ⟨_,rfl,?_⟩
    have n0_ := za.mk (hbq ya.out hb)
    have n1_ := za.mk (zf hCq hb)
    clear ya
    clear HB
    have ya := n0_
    have HB := n1_
    clear n0_ n1_
    (try clear hb)
    (try clear hb2)
    (try clear hk)
    (try clear hi)
    refine hK.out _ _ ⟨(zb ya.out 0).trans rfl,(zb ya.out 1).trans rfl,(zb ya.out 2).trans rfl⟩ (fun hHeld => ?_)
    clear hK K
    refine zbu (a' := ?_) ?_ ?_
    rotate_left
    ·show Act.put _ (some 12) _ = _
     simp only [Act.put,List.setIfInBounds_toArray,List.set_cons_zero,List.set_cons_succ,zah,zaj]
     rfl
    refine zcl (i := 7) (N := some 16) #[true,true,true,true,true,true,true,true,false,true,true,false,false,false,false] rfl rfl (zaY HT_.out (by kernel_rfl)) (by decide) (fun K hK => ?_)
    refine zbs Try.func57 (by kernel_rfl) rfl #[.int .u64 (IntKind.u64.wrap (a0_1))] (by rfl) rfl rfl hMq ?_
    with_reducible refine (zt.calls k (IntKind.u64.wrap (a0_1)) yb _ A5.out).mono ?_
    rintro e w14 ⟨rfl,hb⟩
    refine ⟨_,rfl,?_⟩
    have n0_ := za.mk (hbq ya.out hb)
    have n1_ := za.mk (zf hCq hb)
    clear ya
    clear HB
    have ya := n0_
    have HB := n1_
    clear n0_ n1_
    (try clear hb)
    (try clear hb2)
    (try clear hk)
    (try clear hi)
    refine hK.out _ _ ⟨(zb ya.out 0).trans rfl,(zb ya.out 1).trans rfl,(zb ya.out 2).trans rfl⟩ (fun hHeld => ?_)
    clear hK K
    refine zbu (a' := ?_) ?_ ?_
    rotate_left
    ·show Act.put _ (some 16) _ = _
     simp only [Act.put,List.setIfInBounds_toArray,List.set_cons_zero,List.set_cons_succ,zah,zaj]
     rfl
    refine puq (i := 8) (N := some 17) HT_.out (uQ 15 11) ?_
    refine zcl (i := 11) (N := some 20) (uQ 15 12) rfl rfl (zaY HT_.out (by kernel_rfl)) (by decide) (fun K hK => ?_)
    refine zbs Try.func58 (by kernel_rfl) rfl #[.slice A0_2 l0_2.length c0_2] (by rfl) rfl rfl hMq ?_
    with_reducible refine (zM.calls _ _ l0_2 yd _ ?side1 ?side2 A7.out).mono ?_
    (case side1 => exact hKq (Kd.C_below HR0_2.out HB.out))
    (case side2 => exact HC0_2.out)
    rintro e w15 ⟨rfl,hb⟩
    refine ⟨_,rfl,?_⟩
    have n0_ := za.mk (hbq ya.out hb)
    have n1_ := za.mk (zf hCq hb)
    clear ya
    clear HB
    have ya := n0_
    have HB := n1_
    clear n0_ n1_
    (try clear hb)
    (try clear hb2)
    (try clear hk)
    (try clear hi)
    refine hK.out _ _ ⟨(zb ya.out 0).trans rfl,(zb ya.out 1).trans rfl,(zb ya.out 2).trans rfl⟩ (fun hHeld => ?_)
    clear hK K
    refine zbu (a' := ?_) ?_ ?_
    rotate_left
    ·show Act.put _ (some 20) _ = _
     simp only [Act.put,List.setIfInBounds_toArray,List.set_cons_zero,List.set_cons_succ,zah,zaj]
     rfl
    refine puq (i := 12) (N := some 21) HT_.out (uQ 15 13) ?_
    refine puq (i := 13) (N := some 2) HT_.out (uQ 15 14) ?_
    refine puq (i := 14) (N := some 3) HT_.out (uQ 15 15) ?_
    refine zbG (zaM HT_.out (by kernel_rfl)) ?_
    try go_wp2
    go_ret2
    exact ⟨hHq,hCq⟩
   ·rw [if_neg c8] at H
    exact absurd H (by simp)
  ·rw [if_neg c6] at H
   exact absurd H (by simp)
 ·replace c3 := Bool.eq_false_iff.mpr c3
  subst c3
  have H1 : (some ((⟨#[]⟩ : ByteArray),1)) = some (r1,r2) := by rw [if_neg (show ¬ (false = true) by decide)] at H;exact H
  clear H
  have H := H1
  clear H1
  simp only [Option.some.injEq,Prod.mk.injEq] at H
  obtain ⟨rfl,rfl⟩ := H
  go_enter Try.func56,Try.ntmps56
  go_wp2_with (first | ((with_reducible refine zq (N := 1) rfl ?_);refine zn rfl (N := 1) rfl (cs := #[.int .i64 a0_0,.int .i64 a0_1,.slice A0_2 l0_2.length c0_2]) (t := 78) hrq ?_;intro ye hg w16 hbox hb;have n_ := haq (zf hBq hb) <| haq (hbox) <| haq ((by rw [hg];exact (zh hBq) : w.heap.size ≤ ye)) <| haq ((by rw [hg];exact (zh hBq) : w.heap.size ≤ ye)) <| trivial;clear HB;obtain ⟨HB,ya,yh,yg,_⟩ := n_;clear hb hbox hg;obtain ⟨hcz17_0,hcz17_1,hcz17_2,hfz17_0,hfz17_1,hfz17_2⟩ := hcq3 ya.out) | ((with_reducible refine zN (f := 77) rfl ?_);refine zax (some 6) rfl rfl Try.func77 (by kernel_rfl) rfl #[.agg #[.int .i64 a0_0,.int .i64 a0_1,.slice A0_2 l0_2.length c0_2]] rfl hMq ?_;(with_reducible refine (zw.calls k a0_0 a0_1 _ _ l0_2 false _ ?side1 ?side2 A2.out).mono ?_);(case side1 => exact hKq (Kd.C_below HR0_2.out HB.out));(case side2 => exact HC0_2.out);rintro e w18 ⟨rfl,hb⟩;refine ⟨_,rfl,?_⟩;have n_ := haq (hbq ya.out hb) <| haq (zf hCq hb) <| trivial;clear ya HB;obtain ⟨ya,HB,_⟩ := n_;(try clear hb);(try clear hb2);(try clear hk);(try clear hi)))
  go_ret2
  exact ⟨hHq,hCq⟩
def zan.f (a0_0 : Int) (a0_1 : Int) : Option (Bool) := if a0_0 ≥ 0 then (if a0_0 < 10007 then (if a0_1 ≥ 0 then (some (decide (a0_1 < 10007))) else (some false)) else (some false)) else (some false)
set_option maxHeartbeats 8000000 in
set_option maxRecDepth 100000 in
theorem zan.calls (a0_0 : Int) (a0_1 : Int) (r : Bool) (w : World) (h : zan.f a0_0 a0_1 = some r) :
  Calls Try.prog 80 #[.agg #[.int .i64 a0_0,.int .i64 a0_1]] w fun e w' => e = .returned (.bool r) ∧ Below w.heap.size w w' := by
 have hu30 := Try.underlying30
 have HB := za.mk (Below.refl w.heap.size w)
 have H : (if a0_0 ≥ 0 then (if a0_0 < 10007 then (if a0_1 ≥ 0 then (some (decide (a0_1 < 10007))) else (some false)) else (some false)) else (some false)) = some r := h
 clear h
 by_cases c2 : a0_0 ≥ 0
 ·rw [if_pos c2] at H
  have c2b0 : decide (0 ≤ a0_0) = true := decide_eq_true c2
  clear c2
  by_cases c3 : a0_0 < 10007
  ·rw [if_pos c3] at H
   have c3b0 : decide (a0_0 < 10007) = true := decide_eq_true c3
   clear c3
   by_cases c4 : a0_1 ≥ 0
   ·rw [if_pos c4] at H
    have c4b0 : decide (0 ≤ a0_1) = true := decide_eq_true c4
    clear c4
    obtain rfl := Option.some.inj H
    go_enter Try.func80,Try.ntmps80
    go_wp2_with (first | ((with_reducible refine zq (N := 1) rfl ?_);refine zn rfl (N := 1) rfl (cs := #[.int .i64 a0_0,.int .i64 a0_1]) (t := 30) hrq ?_;intro ya hg w5 hbox hb;have n_ := haq (zf hBq hb) <| haq (hbox) <| haq ((by rw [hg];exact (zh hBq) : w.heap.size ≤ ya)) <| haq ((by rw [hg];exact (zh hBq) : w.heap.size ≤ ya)) <| trivial;clear HB;obtain ⟨HB,yb,yd,yc,_⟩ := n_;clear hb hbox hg;obtain ⟨hcz6_0,hcz6_1,hfz6_0,hfz6_1⟩ := hcq2 yb.out))
    go_ret
    exact ⟨hHq,hCq⟩
   ·rw [if_neg c4] at H
    have c4b0 : decide (0 ≤ a0_1) = false := decide_eq_false c4
    clear c4
    obtain rfl := Option.some.inj H
    go_enter Try.func80,Try.ntmps80
    go_wp2_with (first | ((with_reducible refine zq (N := 1) rfl ?_);refine zn rfl (N := 1) rfl (cs := #[.int .i64 a0_0,.int .i64 a0_1]) (t := 30) hrq ?_;intro ya hg w7 hbox hb;have n_ := haq (zf hBq hb) <| haq (hbox) <| haq ((by rw [hg];exact (zh hBq) : w.heap.size ≤ ya)) <| haq ((by rw [hg];exact (zh hBq) : w.heap.size ≤ ya)) <| trivial;clear HB;obtain ⟨HB,yb,yd,yc,_⟩ := n_;clear hb hbox hg;obtain ⟨hcz8_0,hcz8_1,hfz8_0,hfz8_1⟩ := hcq2 yb.out))
    go_ret
    exact ⟨hHq,hCq⟩
  ·rw [if_neg c3] at H
   have c3b0 : decide (a0_0 < 10007) = false := decide_eq_false c3
   clear c3
   obtain rfl := Option.some.inj H
   go_enter Try.func80,Try.ntmps80
   go_wp2_with (first | ((with_reducible refine zq (N := 1) rfl ?_);refine zn rfl (N := 1) rfl (cs := #[.int .i64 a0_0,.int .i64 a0_1]) (t := 30) hrq ?_;intro ya hg w9 hbox hb;have n_ := haq (zf hBq hb) <| haq (hbox) <| haq ((by rw [hg];exact (zh hBq) : w.heap.size ≤ ya)) <| haq ((by rw [hg];exact (zh hBq) : w.heap.size ≤ ya)) <| trivial;clear HB;obtain ⟨HB,yb,yd,yc,_⟩ := n_;clear hb hbox hg;obtain ⟨hcz10_0,hcz10_1,hfz10_0,hfz10_1⟩ := hcq2 yb.out))
   go_ret
   exact ⟨hHq,hCq⟩
 ·rw [if_neg c2] at H
  have c2b0 : decide (0 ≤ a0_0) = false := decide_eq_false c2
  clear c2
  obtain rfl := Option.some.inj H
  go_enter Try.func80,Try.ntmps80
  go_wp2_with (first | ((with_reducible refine zq (N := 1) rfl ?_);refine zn rfl (N := 1) rfl (cs := #[.int .i64 a0_0,.int .i64 a0_1]) (t := 30) hrq ?_;intro ya hg w11 hbox hb;have n_ := haq (zf hBq hb) <| haq (hbox) <| haq ((by rw [hg];exact (zh hBq) : w.heap.size ≤ ya)) <| haq ((by rw [hg];exact (zh hBq) : w.heap.size ≤ ya)) <| trivial;clear HB;obtain ⟨HB,yb,yd,yc,_⟩ := n_;clear hb hbox hg;obtain ⟨hcz12_0,hcz12_1,hfz12_0,hfz12_1⟩ := hcq2 yb.out))
  go_ret
  exact ⟨hHq,hCq⟩
def z8.f (a0 : Int) : Option (Bool) := if a0 = 4 then (some true) else (if a0 > 4 then (if a0 ≤ 64 then (some ((Int.tmod (wrap64 (a0 - 1)) 3) == 0)) else (some false)) else (some false))
set_option maxHeartbeats 8000000 in
set_option maxRecDepth 100000 in
theorem z8.calls (a0 : Int) (r : Bool) (w : World) (h : z8.f a0 = some r) :
  Calls Try.prog 19 #[.int .i64 a0] w fun e w' => e = .returned (.bool r) ∧ za3 w w' := by
 have H : (if a0 = 4 then (some true) else (if a0 > 4 then (if a0 ≤ 64 then (some ((Int.tmod (wrap64 (a0 - 1)) 3) == 0)) else (some false)) else (some false))) = some r := h
 clear h
 by_cases c2 : a0 = 4
 ·rw [if_pos c2] at H
  have c2b0 : (a0 == 4) = true := beq_iff_eq.mpr c2
  have c2b1 : (a0 != 4) = false := bne_eq_false_iff_eq.mpr c2
  clear c2
  obtain rfl := Option.some.inj H
  go_enter Try.func19,Try.ntmps19
  go_wp2
  go_ret
  exact ⟨hDq,hEq⟩
 ·rw [if_neg c2] at H
  have c2b0 : (a0 == 4) = false := beq_eq_false_iff_ne.mpr c2
  have c2b1 : (a0 != 4) = true := bne_iff_ne.mpr c2
  by_cases c3 : a0 > 4
  ·rw [if_pos c3] at H
   have c3b0 : decide (4 < a0) = true := decide_eq_true c3
   clear c3
   by_cases c4 : a0 ≤ 64
   ·rw [if_pos c4] at H
    have c4b0 : decide (a0 ≤ 64) = true := decide_eq_true c4
    clear c4
    obtain rfl := Option.some.inj H
    go_enter Try.func19,Try.ntmps19
    go_wp2
    go_ret
    exact ⟨hDq,hEq⟩
   ·rw [if_neg c4] at H
    have c4b0 : decide (a0 ≤ 64) = false := decide_eq_false c4
    clear c4
    obtain rfl := Option.some.inj H
    go_enter Try.func19,Try.ntmps19
    go_wp2
    go_ret
    exact ⟨hDq,hEq⟩
  ·rw [if_neg c3] at H
   have c3b0 : decide (4 < a0) = false := decide_eq_false c3
   clear c3
   obtain rfl := Option.some.inj H
   go_enter Try.func19,Try.ntmps19
   go_wp2
   go_ret
   exact ⟨hDq,hEq⟩
end Go.Proofs.Ytndjfdakflaggaa.Px