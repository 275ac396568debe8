/- Part 15 of 24 of the proof of the law CertGrows: what is proved is the statement at the end of the last part; its conditions are those of the given row. -/
import Derived.StillTailTactics
import Derived.Test.YtcncoepijagadaaZCertGrowsH
namespace Go.Proofs.Ytcncoepijagadaa.Px
open Go.RowKit Go.Proofs.YtcncoepijagadaaW.PrintWords Go.Proofs.YtcncoepijagadaaW.PrintLast Go.Proofs.YtcncoepijagadaaW.PrintMore
attribute [local go_sem] zp zr zy zz zl zm zq zs
set_option linter.unusedVariables false
set_option linter.unusedSimpArgs false
def zgi (md : Region.Mode) (ops : Array Oper) (n : Nat) : Bool :=
 (List.range n).all fun i => decide (i < 1) || (List.range (n + 1)).any fun j => decide (i < j) && Region.waitsFor md ops j i
def zfH (md : Region.Mode) (ops : Array Oper) (n : Nat) : Bool :=
 Region.noSelect ops && decide (0 < n) && decide (n < ops.size) && zgi md ops n && Region.chainB md ops n &&
  (Region.ready md ops (Array.replicate ops.size false)).contains 0 && Region.free md ops (Array.replicate ops.size false) 0 &&
  Region.lexHead md ops (ops.size - n) (n - 1) 1 ((Array.replicate ops.size false).setIfInBounds 0 true)
theorem zet {md : Region.Mode} {ops : Array Oper} {n : Nat} {listed : Array Bool} (hs : zgi md ops n = true) (hc : Region.chainB md ops n = true) (hn : n < ops.size) (inv : HeadInv md ops n listed) :
  ∀ (d i : Nat),n - i = d → 1 ≤ i → i < n → listed.getD i true = false → ∀ t,n ≤ t → t ∉ Region.ready md ops listed := by
 intro d
 induction d using Nat.strongRecOn with
 | _ d ih =>
  intro i hd hi1 hi hun t ht hr
  obtain ⟨_,ot,hot,hall⟩ := mem_ready.1 hr
  have htlt : t < ops.size := (Array.getElem?_eq_some_iff.1 hot).1
  by_cases htn : t = n
  ·subst htn
   have h1 := List.all_eq_true.1 hs i (List.mem_range.2 hi)
   rw [Bool.or_eq_true] at h1
   have h1 := h1.resolve_left (by simp;omega)
   obtain ⟨j,hj,hj2⟩ := List.any_eq_true.1 h1
   simp only [Bool.and_eq_true,decide_eq_true_eq] at hj2
   obtain ⟨oj,hoj,e,he,hb,hon⟩ := Region.waitsFor_spec hj2.2
   have hjle : j ≤ t := by have := List.mem_range.1 hj;omega
   by_cases hjt : j = t
   ·subst hjt
    have : oj = ot := Option.some.inj (hoj.symm.trans hot)
    subst this
    have h2 := hall e he hb
    rw [hon,getD_both hun] at h2
    cases h2
   ·cases hl : listed.getD j false with
    | true =>
     have h2 := inv.closed j oj hoj hl e he hb
     rw [hon,getD_both hun] at h2
     cases h2
    | false =>
     have hjs : j < listed.size := by rw [inv.size];omega
     exact ih (t - j) (by omega) j rfl (by omega) (by omega) (getD_in hjs hl) t (Nat.le_refl _) hr
  ·have h1 := List.all_eq_true.1 hc t (List.mem_range.2 htlt)
   simp only [Bool.or_eq_true,decide_eq_true_eq] at h1
   rcases h1 with h1 | h1
   ·omega
   ·obtain ⟨o',ho',e,he,hb,hon⟩ := Region.waitsFor_spec h1
    have : o' = ot := Option.some.inj (ho'.symm.trans hot)
    subst this
    have h2 := hall e he hb
    rw [hon,getD_both (inv.tail (t - 1) (by omega) (by omega))] at h2
    cases h2
theorem zfB {P : Program} {md : Region.Mode} {ops : Array Oper} {w : World} {n i : Nat} {oi : Oper} {v : Value} {L : Array Bool → Act → Prop} (hi : ops[i]? = some oi) (hsel : ∀ (j : Nat) (o : Oper) cs b,ops[j]? = some o → o.op ≠ .select cs b)
  (hs : zgi md ops n = true) (hc : Region.chainB md ops n = true) (hn : n < ops.size) (hi1 : 1 ≤ i) (hin : i < n)
  (hdone : ∀ listed a,L listed a → ∀ j ∈ Region.ready md ops listed,n ≤ j) :
  ∀ (f : Nat) (listed : Array Bool) (a : Act),HeadInv md ops n listed →
   (∀ j oj,ops[j]? = some oj → j ≠ i → listed.getD j true = false → (∀ e ∈ oj.after,Region.binds md e = true → e.on ≠ i) → oi.apart ops oj = true) →
   i ∈ Region.ready md ops listed → YieldsAt P ops w oi v a →
   wpAnyL P md ops w n L f (listed.setIfInBounds i true) (a.put oi.dst v) → wpAnyL P md ops w n L (f + 1) listed a := by
 intro f
 induction f with
 | zero =>
  intro listed a inv _ hr hy H
  have hun := (mem_ready.1 hr).1
  refine ⟨fun h => (by rw [h] at hr;cases hr),fun j hj => ?_⟩
  have hjn : j < n := by
   rcases Nat.lt_or_ge j n with h | h
   ·exact h
   ·exact absurd hj (zet hs hc hn inv _ i rfl hi1 hin hun j h)
  refine ⟨hjn,?_⟩
  by_cases hji : j = i
  ·subst hji;exact hy.stOp hi H
  ·have := hdone _ _ H j (ready_mono hj hji)
   omega
 | succ f ih =>
  intro listed a inv hfree hr hy H
  have hun := (mem_ready.1 hr).1
  refine ⟨fun h => (by rw [h] at hr;cases hr),fun j hj => ?_⟩
  have hjn : j < n := by
   rcases Nat.lt_or_ge j n with h | h
   ·exact h
   ·exact absurd hj (zet hs hc hn inv _ i rfl hi1 hin hun j h)
  refine ⟨hjn,?_⟩
  by_cases hji : j = i
  ·subst hji;exact hy.stOp hi H
  ·have h1 := (H.2 j (ready_mono hj hji)).2
   obtain ⟨hjun,oj,hoj,hall⟩ := mem_ready.1 hj
   have hnot : ∀ e ∈ oj.after,Region.binds md e = true → e.on ≠ i := fun e he hb heq => by
    have h1 := hall e he hb
    rw [heq,getD_both hun] at h1
    cases h1
   have h2 := stOp_put hoj (hfree j oj hoj hji hjun hnot) (fun cs b => hsel i oi cs b hi) (fun cs b => hsel j oj cs b hoj) hy h1
   have hfree' : ∀ k ok,ops[k]? = some ok → k ≠ i → (listed.setIfInBounds j true).getD k true = false →
     (∀ e ∈ ok.after,Region.binds md e = true → e.on ≠ i) → oi.apart ops ok = true := fun k ok hk hki hun hno => by
    refine hfree k ok hk hki ?_ hno
    by_cases hjk : j = k
    ·subst hjk;exact hjun
    ·rw [getD_set_ne true hjk] at hun;exact hun
   refine stOp_mono (fun a' h3 => ih (listed.setIfInBounds j true) a' (inv.set hj hjn) hfree' (ready_mono hr (Ne.symm hji)) h3.1 ?_) h2
   rw [Array.setIfInBounds_comm _ _ hji]
   exact h3.2
theorem zev {P : Program} {md : Region.Mode} {ops : Array Oper} {w : World} {n g : Nat} {Lq : Act → Prop} (hsel : Region.noSelect ops = true) (hs : zgi md ops n = true) (hc : Region.chainB md ops n = true) (hn : n < ops.size) :
  ∀ (l : List Oper) (k : Nat) (listed : Array Bool) (a : Act),1 ≤ k → (∀ j,j < l.length → l[j]? = ops[k + j]?) → k + l.length = n → HeadInv md ops n listed →
  Region.lexHead md ops g l.length k listed = true → wpStill P ops w Lq l a →
  wpAnyL P md ops w n (fun listed' a' => Region.seqB md ops g n listed' = true ∧ Lq a') l.length listed a
 | [],k,listed,a,_,_,hk,_,hB,h => by
  have : k = n := by simpa using hk
  subst this
  exact ⟨by simpa [Region.lexHead] using hB,h⟩
 | o :: l,k,listed,a,hk1,hl,hk,inv,hB,h => by
  have h0 : ops[k]? = some o := by simpa using (hl 0 (by simp)).symm
  simp only [List.length_cons,Region.lexHead,Bool.and_eq_true] at hB
  obtain ⟨⟨hr,hf⟩,hB'⟩ := hB
  have hkn : k < n := by simp only [List.length_cons] at hk;omega
  have hr' : k ∈ Region.ready md ops listed := by simpa using hr
  have hst : stOp P ops w k (wpStill P ops w Lq l) a := by unfold stOp;simp only [h0];exact h
  obtain ⟨v,hy,hK⟩ := yieldsAt_of_stOp h0 hst
  exact zfB h0 (Region.noSelect_spec hsel) hs hc hn hk1 hkn (fun listed' a' hL => seqB_ready hL.1) l.length listed a inv (Region.free_spec h0 hf) hr' hy
   (zev hsel hs hc hn l (k + 1) _ _ (by omega) (fun j hj => by have := hl (j + 1) (by simp;omega);simpa [Nat.add_assoc,Nat.add_comm 1 j] using this) (by simp only [List.length_cons] at hk;omega) (inv.set hr' hkn) hB' hK)
theorem zbq {P : Program} {id : Nat} {Q : Exit → Act → World → Prop} {a : Act} {w : World} {o : Oper} {l : List Oper} (v : Value) (n : Nat) (hm : P.follows .mixedOrders = true) (hB : zfH .any (o :: l).toArray (n + 1) = true)
  (hQ : ∀ c a w,Q (.panic c) (a.put o.dst v) w → Q (.panic c) a w) (hy : Yields P (o :: l).toArray o v a)
  (h : wpStill P (o :: l).toArray { w with drawn := w.drawn + 1 } (fun a' => wpList P (o :: l).toArray Q (l.drop n) a' { w with drawn := w.drawn + 1 }) (l.take n) (a.put o.dst v)) : (Code.region id (o :: l).toArray true).wp P Q a w := by
 simp only [zfH,Bool.and_eq_true,decide_eq_true_eq] at hB
 obtain ⟨⟨⟨⟨⟨⟨⟨hsel,hn0⟩,hn⟩,hs⟩,hc⟩,hr0⟩,hf0⟩,hlex⟩ := hB
 have hn' : n + 1 < l.length + 1 := by simpa using hn
 have htl : (l.take n).length = n := by simp;omega
 have hdl : (l.drop n).length = (o :: l).toArray.size - (n + 1) := by simp
 have inv0 : HeadInv .any (o :: l).toArray (n + 1) (Array.replicate (o :: l).toArray.size false) :=
  ⟨by simp,fun j oj _ hl => (by rw [getD_replicate_false] at hl;cases hl),fun t _ ht => getD_in (by simpa using ht) (getD_replicate_false _ _)⟩
 have hr0' : 0 ∈ Region.ready .any (o :: l).toArray (Array.replicate (o :: l).toArray.size false) := by simpa using hr0
 have inv1 := inv0.set hr0' (by omega)
 have H := zev (md := .any) (g := (o :: l).toArray.size - (n + 1)) hsel hs hc hn (l.take n) 1 _ (a.put o.dst v) (by omega) (fun j hj => by
  have hj' : j < n := by rw [htl] at hj;exact hj
  simp [hj',Nat.add_comm 1 j]) (by rw [htl];omega) inv1 (by rw [htl];exact hlex) h
 refine wp_region_any hm ?_
 have := wpAny_of_head (Q' := Q) (g := (o :: l).toArray.size - (n + 1)) (fun listed a' hL => by
  have := wpAny_of_seq (md := .any) (Q' := Q) (l.drop n) (n + 1) listed a' { w with drawn := w.drawn + 1 } (fun j => by simp [List.getElem?_drop,Nat.add_right_comm]) (by rw [hdl];exact hL.1) hL.2
  rwa [hdl] at this) _ _ _ H
 rw [htl,show n + ((o :: l).toArray.size - (n + 1)) = l.length by simp;omega] at this
 have ht := wpAny_take (P := P) (md := .any) (ops := (o :: l).toArray) (Q := Q) (i := 0) (oi := o) (v := v) (fuel := l.length) (listed := Array.replicate (o :: l).toArray.size false) (a := a) (w := { w with drawn := w.drawn + 1 }) rfl hsel hf0 hr0 hQ hy this
 simpa using ht
def zeJ (md : Region.Mode) (ops : Array Oper) (n : Nat) : Bool :=
 (List.range ops.size).all fun t => decide (t ≤ n) || (List.range t).any fun j => decide (n ≤ j) && Region.waitsFor md ops t j
def zcv : Nat → Nat → Array Bool → Array Bool
 | 0,_,l => l
 | f + 1,k,l => zcv f (k + 1) (l.setIfInBounds k true)
def zcH (md : Region.Mode) (ops : Array Oper) : Nat → Nat → Array Bool → Bool
 | 0,k,listed => (Region.ready md ops listed).all fun j => decide (k ≤ j)
 | f + 1,k,listed => (Region.ready md ops listed).contains k && Region.free md ops listed k && zcH md ops f (k + 1) (listed.setIfInBounds k true)
def ziA (md : Region.Mode) (ops : Array Oper) : Nat → Nat → Array Bool → Bool
 | 0,_,_ => true
 | m + 1,k,listed => decide (Region.ready md ops listed = [k]) && ziA md ops m (k + 1) (listed.setIfInBounds k true)
def zgj (P : Program) (ops : Array Oper) (Q : Exit → Act → World → Prop) (g : Nat) (listed : Array Bool) : Exit → Act → World → Prop
 | .normal,a,w => wpAny P .any ops Q g listed a w
 | e,a,w => Q e a w
theorem zdX {md : Region.Mode} {ops : Array Oper} : ∀ (f k : Nat) (listed : Array Bool),zcH md ops f k listed = true → ∀ j ∈ Region.ready md ops (zcv f k listed),k + f ≤ j
 | 0,k,listed,h,j,hj => by
  have := List.all_eq_true.1 h j hj
  simpa using this
 | f + 1,k,listed,h,j,hj => by
  simp only [zcH,Bool.and_eq_true] at h
  have := zdX f (k + 1) _ h.2 j hj
  omega
theorem zeu {md : Region.Mode} {ops : Array Oper} {n : Nat} {listed : Array Bool} (hs : Region.sinkB md ops n = true) (hc : zeJ md ops n = true) (hn : n < ops.size) (inv : HeadInv md ops n listed) :
  ∀ (d i : Nat),n - i = d → i < n → listed.getD i true = false → ∀ t,n ≤ t → t ∉ Region.ready md ops listed := by
 intro d
 induction d using Nat.strongRecOn with
 | _ d ih =>
  intro i hd hi hun t ht hr
  obtain ⟨_,ot,hot,hall⟩ := mem_ready.1 hr
  have htlt : t < ops.size := (Array.getElem?_eq_some_iff.1 hot).1
  by_cases htn : t = n
  ·subst htn
   have h1 := List.all_eq_true.1 hs i (List.mem_range.2 hi)
   obtain ⟨j,hj,hj2⟩ := List.any_eq_true.1 h1
   simp only [Bool.and_eq_true,decide_eq_true_eq] at hj2
   obtain ⟨oj,hoj,e,he,hb,hon⟩ := Region.waitsFor_spec hj2.2
   have hjle : j ≤ t := by have := List.mem_range.1 hj;omega
   by_cases hjt : j = t
   ·subst hjt
    have : oj = ot := Option.some.inj (hoj.symm.trans hot)
    subst this
    have h2 := hall e he hb
    rw [hon,getD_both hun] at h2
    cases h2
   ·cases hl : listed.getD j false with
    | true =>
     have h2 := inv.closed j oj hoj hl e he hb
     rw [hon,getD_both hun] at h2
     cases h2
    | false =>
     have hjs : j < listed.size := by rw [inv.size];omega
     exact ih (t - j) (by omega) j rfl (by omega) (getD_in hjs hl) t (Nat.le_refl _) hr
  ·have h1 := List.all_eq_true.1 hc t (List.mem_range.2 htlt)
   rw [Bool.or_eq_true] at h1
   have h1 := h1.resolve_left (by simp;omega)
   obtain ⟨j,hj,hj2⟩ := List.any_eq_true.1 h1
   simp only [Bool.and_eq_true,decide_eq_true_eq] at hj2
   obtain ⟨o',ho',e,he,hb,hon⟩ := Region.waitsFor_spec hj2.2
   have : o' = ot := Option.some.inj (ho'.symm.trans hot)
   subst this
   have hjt := List.mem_range.1 hj
   have h2 := hall e he hb
   rw [hon,getD_both (inv.tail j hj2.1 (by omega))] at h2
   cases h2
theorem zfC {P : Program} {md : Region.Mode} {ops : Array Oper} {w : World} {n i : Nat} {oi : Oper} {v : Value} {L : Array Bool → Act → Prop} (hi : ops[i]? = some oi) (hsel : ∀ (j : Nat) (o : Oper) cs b,ops[j]? = some o → o.op ≠ .select cs b)
  (hs : Region.sinkB md ops n = true) (hc : zeJ md ops n = true) (hn : n < ops.size) (hin : i < n)
  (hdone : ∀ listed a,L listed a → ∀ j ∈ Region.ready md ops listed,n ≤ j) :
  ∀ (f : Nat) (listed : Array Bool) (a : Act),HeadInv md ops n listed →
   (∀ j oj,ops[j]? = some oj → j ≠ i → listed.getD j true = false → (∀ e ∈ oj.after,Region.binds md e = true → e.on ≠ i) → oi.apart ops oj = true) →
   i ∈ Region.ready md ops listed → YieldsAt P ops w oi v a →
   wpAnyL P md ops w n L f (listed.setIfInBounds i true) (a.put oi.dst v) → wpAnyL P md ops w n L (f + 1) listed a := by
 intro f
 induction f with
 | zero =>
  intro listed a inv _ hr hy H
  have hun := (mem_ready.1 hr).1
  refine ⟨fun h => (by rw [h] at hr;cases hr),fun j hj => ?_⟩
  have hjn : j < n := by
   rcases Nat.lt_or_ge j n with h | h
   ·exact h
   ·exact absurd hj (zeu hs hc hn inv _ i rfl hin hun j h)
  refine ⟨hjn,?_⟩
  by_cases hji : j = i
  ·subst hji;exact hy.stOp hi H
  ·have := hdone _ _ H j (ready_mono hj hji)
   omega
 | succ f ih =>
  intro listed a inv hfree hr hy H
  have hun := (mem_ready.1 hr).1
  refine ⟨fun h => (by rw [h] at hr;cases hr),fun j hj => ?_⟩
  have hjn : j < n := by
   rcases Nat.lt_or_ge j n with h | h
   ·exact h
   ·exact absurd hj (zeu hs hc hn inv _ i rfl hin hun j h)
  refine ⟨hjn,?_⟩
  by_cases hji : j = i
  ·subst hji;exact hy.stOp hi H
  ·have h1 := (H.2 j (ready_mono hj hji)).2
   obtain ⟨hjun,oj,hoj,hall⟩ := mem_ready.1 hj
   have hnot : ∀ e ∈ oj.after,Region.binds md e = true → e.on ≠ i := fun e he hb heq => by
    have h1 := hall e he hb
    rw [heq,getD_both hun] at h1
    cases h1
   have h2 := stOp_put hoj (hfree j oj hoj hji hjun hnot) (fun cs b => hsel i oi cs b hi) (fun cs b => hsel j oj cs b hoj) hy h1
   have hfree' : ∀ k ok,ops[k]? = some ok → k ≠ i → (listed.setIfInBounds j true).getD k true = false →
     (∀ e ∈ ok.after,Region.binds md e = true → e.on ≠ i) → oi.apart ops ok = true := fun k ok hk hki hun hno => by
    refine hfree k ok hk hki ?_ hno
    by_cases hjk : j = k
    ·subst hjk;exact hjun
    ·rw [getD_set_ne true hjk] at hun;exact hun
   refine stOp_mono (fun a' h3 => ih (listed.setIfInBounds j true) a' (inv.set hj hjn) hfree' (ready_mono hr (Ne.symm hji)) h3.1 ?_) h2
   rw [Array.setIfInBounds_comm _ _ hji]
   exact h3.2
theorem zew {P : Program} {md : Region.Mode} {ops : Array Oper} {w : World} {n : Nat} {Lq : Act → Prop} (hsel : Region.noSelect ops = true) (hs : Region.sinkB md ops n = true) (hc : zeJ md ops n = true) (hn : n < ops.size) :
  ∀ (l : List Oper) (k : Nat) (listed : Array Bool) (a : Act),(∀ j,j < l.length → l[j]? = ops[k + j]?) → k + l.length = n → HeadInv md ops n listed →
  zcH md ops l.length k listed = true → wpStill P ops w Lq l a →
  wpAnyL P md ops w n (fun listed' a' => listed' = zcv l.length k listed ∧ Lq a') l.length listed a
 | [],k,listed,a,_,_,_,_,h => ⟨rfl,h⟩
 | o :: l,k,listed,a,hl,hk,inv,hB,h => by
  have h0 : ops[k]? = some o := by simpa using (hl 0 (by simp)).symm
  simp only [List.length_cons,zcH,Bool.and_eq_true] at hB
  obtain ⟨⟨hr,hf⟩,hB'⟩ := hB
  have hkn : k < n := by simp only [List.length_cons] at hk;omega
  have hr' : k ∈ Region.ready md ops listed := by simpa using hr
  have hst : stOp P ops w k (wpStill P ops w Lq l) a := by unfold stOp;simp only [h0];exact h
  obtain ⟨v,hy,hK⟩ := yieldsAt_of_stOp h0 hst
  exact zfC h0 (Region.noSelect_spec hsel) hs hc hn hkn (fun listed' a' hL j hj => by
    rw [hL.1] at hj
    have := zdX l.length (k + 1) _ hB' j hj
    simp only [List.length_cons] at hk
    omega) l.length listed a inv (Region.free_spec h0 hf) hr' hy
   (zew hsel hs hc hn l (k + 1) _ _ (fun j hj => by have := hl (j + 1) (by simp;omega);simpa [Nat.add_assoc,Nat.add_comm 1 j] using this) (by simp only [List.length_cons] at hk;omega) (inv.set hr' hkn) hB' hK)
theorem zcE {P : Program} {ops : Array Oper} {Q : Exit → Act → World → Prop} {g : Nat} : ∀ (l : List Oper) (k : Nat) (listed : Array Bool) (a : Act) (w : World),(∀ j,j < l.length → l[j]? = ops[k + j]?) →
  ziA .any ops l.length k listed = true → wpList P ops (zgj P ops Q g (zcv l.length k listed)) l a w → wpAny P .any ops Q (l.length + g) listed a w
 | [],_,_,_,_,_,_,h => by rw [List.length_nil,Nat.zero_add];exact h
 | o :: l,k,listed,a,w,hl,hB,h => by
  have h0 : ops[k]? = some o := by simpa using (hl 0 (by simp)).symm
  simp only [List.length_cons,ziA,Bool.and_eq_true,decide_eq_true_eq] at hB
  rw [List.length_cons,show l.length + 1 + g = (l.length + g) + 1 by omega]
  refine ⟨fun h1 => (by rw [hB.1] at h1;cases h1),fun i hi => ?_⟩
  rw [hB.1] at hi
  have hik : i = k := by simpa using hi
  subst hik
  have hw : wpOp P ops Q i (wpList P ops (zgj P ops Q g (zcv (o :: l).length i listed)) l) a w := by unfold wpOp;simp only [h0];exact h
  exact wpOp_mono (fun a' w' h' => zcE l (i + 1) _ a' w' (fun j hj => by have := hl (j + 1) (by simp;omega);simpa [Nat.add_assoc,Nat.add_comm 1 j] using this) hB.2 h') hw
def zhr (ops : Array Oper) (n m : Nat) : Bool :=
 Region.noSelect ops && decide (n + m ≤ ops.size) && decide (n < ops.size) && Region.sinkB .any ops n && zeJ .any ops n && zcH .any ops n 0 (Array.replicate ops.size false) && ziA .any ops m n (zcv n 0 (Array.replicate ops.size false))
theorem zdz {P : Program} {id : Nat} {Q : Exit → Act → World → Prop} {a : Act} {w : World} {l : List Oper} (n m : Nat) (hm : P.follows .mixedOrders = true) (hB : zhr l.toArray n m = true)
  (h : wpStill P l.toArray { w with drawn := w.drawn + 1 } (fun a' => wpList P l.toArray (zgj P l.toArray Q (l.length - n - m) (zcv m n (zcv n 0 (Array.replicate l.length false)))) ((l.drop n).take m) a' { w with drawn := w.drawn + 1 }) (l.take n) a) : (Code.region id l.toArray true).wp P Q a w := by
 simp only [zhr,Bool.and_eq_true,decide_eq_true_eq] at hB
 obtain ⟨⟨⟨⟨⟨⟨hsel,hnm⟩,hn⟩,hs⟩,hc⟩,hlex⟩,hseq⟩ := hB
 have hsz : l.toArray.size = l.length := by simp
 rw [hsz] at hlex hseq hnm
 have hn' : n < l.length := by simpa using hn
 have htl : (l.take n).length = n := by simp;omega
 have hdl : ((l.drop n).take m).length = m := by simp;omega
 have inv0 : HeadInv .any l.toArray n (Array.replicate l.length false) :=
  ⟨by simp,fun j oj _ hl => (by rw [getD_replicate_false] at hl;cases hl),fun t _ ht => getD_in (by simpa using ht) (getD_replicate_false _ _)⟩
 have H := zew (md := .any) hsel hs hc hn (l.take n) 0 _ a (fun j hj => by
  have hj' : j < n := by rw [htl] at hj;exact hj
  simp [hj']) (by simpa using htl) inv0 (by rw [htl];exact hlex) h
 refine wp_region_any hm ?_
 have := wpAny_of_head (Q' := Q) (g := m + (l.length - n - m)) (fun listed a' hL => by
  obtain ⟨rfl,hL⟩ := hL
  rw [htl]
  have := zcE (P := P) (ops := l.toArray) (Q := Q) (g := l.length - n - m) ((l.drop n).take m) n _ a' { w with drawn := w.drawn + 1 } (fun j hj => by
   have hj' : j < m := by rw [hdl] at hj;exact hj
   simp [List.getElem?_take,List.getElem?_drop,hj']) (by rw [hdl];exact hseq) (by rw [hdl];exact hL)
  rwa [hdl] at this) _ _ _ H
 rw [htl,show n + (m + (l.length - n - m)) = l.length by omega] at this
 rw [hsz]
 exact this
theorem zhj {P : Program} {ops : Array Oper} {Q : Exit → Act → World → Prop} (i : Nat) {o : Oper} {listed : Array Bool} {a : Act} {w : World} (h0 : ops[i]? = some o) (hr : Region.ready .any ops listed = [i]) (hn : Region.ready .any ops (listed.setIfInBounds i true) = [])
  (h : wpList P ops Q [o] a w) : wpAny P .any ops Q 1 listed a w := by
 refine zcE (g := 0) [o] i listed a w (fun j hj => ?_) (by simp [ziA,hr]) ?_
 ·obtain rfl : j = 0 := by simpa using hj
  rw [Nat.add_zero,h0];rfl
 ·unfold wpList at h ⊢
  split
  ·rename_i hw
   rw [if_pos hw] at h
   refine h.imp (fun h1 => ?_) (fun h1 => h1)
   exact Oper.wp_mono (fun a' w' h2 => ⟨hn,h2⟩) h1
  ·rename_i hw
   rw [if_neg hw] at h
   exact ⟨hn,h⟩
end Go.Proofs.Ytcncoepijagadaa.Px