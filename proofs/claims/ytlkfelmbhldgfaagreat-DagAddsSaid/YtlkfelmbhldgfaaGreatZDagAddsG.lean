/- Part 7 of 36 of the proof of the law DagAdds: what is proved is the statement at the end of the last part; its conditions are those of the given row. -/
import Derived.Lib.Builder
import Derived.Lib.UnsafeStr
import Derived.Lib.Strings
import Derived.Lib.Slices
import Derived.Lib.Walk
import Derived.StillTailTactics
import Derived.Test.YtlkfelmbhldgfaaGreatZDagAddsE
namespace Go.Proofs.YtlkfelmbhldgfaaGreat.Px
open Go.RowKit Go.Proofs.YtlkfelmbhldgfaaGreatW.PrintWords Go.Proofs.YtlkfelmbhldgfaaGreatW.PrintLast Go.Proofs.YtlkfelmbhldgfaaGreatW.PrintMore
attribute [local go_sem] zA zC zH zI zv zw zB zD
set_option linter.unusedVariables false
set_option linter.unusedSimpArgs false
def zaP (w : World) (base : Nat) (e : TypeId) (v : Value) (l : Bs) : Prop :=
 ∃ g cap cur fz,v = .slice (some ⟨g,0,none⟩) l.length cap ∧ base ≤ g ∧ w.heap[g]? = some (.cells cur e fz) ∧ (fz.2 ≤ l.length ∨ cap ≤ fz.1) ∧ l.length ≤ cap ∧ cap ≤ maxLen ∧ cur.size = cap ∧ cur.toList.take l.length = Lib.byteCells l
theorem zaP.below {w w' : World} {base : Nat} {e : TypeId} {v : Value} {l : Bs} (h : zaP w base e v l) (hb : Below w.heap.size w w') : zaP w' base e v l := by
 obtain ⟨g,cap,cur,fz,rfl,hg,hh,r⟩ := h
 exact ⟨g,cap,cur,fz,rfl,hg,(hb.block g (Array.getElem?_eq_some_iff.1 hh).1).trans hh,r⟩
theorem zaP.start (W : World) (base : Nat) (e : TypeId) (s : ByteArray) (hb : base ≤ W.heap.size) (hs : s.size ≤ maxLen) : zaP (Lib.bytesWorld W e s) base e (.slice (some ⟨W.heap.size,0,none⟩) s.size (grownCap W s.size 0 e)) (ofB s) := by
 have hc := grownCap_ge W s.size 0 e
 have hd : s.data.size = s.size := rfl
 have hz : (Lib.bytesCells W e s).size = grownCap W s.size 0 e := by
  rw [Lib.bytesCells,Array.size_append,Array.size_map,Array.size_replicate,hd];omega
 refine ⟨W.heap.size,grownCap W s.size 0 e,Lib.bytesCells W e s,_,by rw [zat],hb,Lib.bytesWorld_at_new W e s,.inr (by rw [hz];exact Nat.le_refl _),by rw [zat];exact hc,grownCap_le_maxLen W s.size 0 e hs,hz,?_⟩
 rw [Lib.bytesCells,Array.toList_append,List.take_left' (by rw [Array.length_toList,Array.size_map,hd,zat])]
 simp [Lib.byteCells,ofB]
theorem zca (P : Program) (g o : Nat) (t : TypeId) (fz : Nat × Nat) : ∀ (vs : List Value) (i : Nat) (cur : Array Value) (w : World),w.heap[g]? = some (.cells cur t fz) → (fz.2 ≤ o + i ∨ cur.size ≤ fz.1) → o + i + vs.length ≤ cur.size → (∀ v ∈ vs,v.oneCell' = true) →
  (storeCells ⟨g,o,none⟩ vs i).run P w = .ok () (w.setRow g (cur.toList.take (o + i) ++ vs ++ cur.toList.drop (o + i + vs.length)).toArray)
 | [],i,cur,w,hg,_,_,_ => by
  simp only [storeCells,List.append_nil,List.length_nil,Nat.add_zero,List.take_append_drop,Array.toArray_toList]
  rw [setRow_self w g cur t fz hg]
  rfl
 | v :: rest,i,cur,w,hg,hfz,hl,h1 => by
  have hi : o + i < cur.size := by simp at hl;omega
  have hadd : (⟨g,o,none⟩ : Addr).add i = ⟨g,o + i,none⟩ := by unfold Addr.add;split <;> simp_all
  have hcell : w.cell? ⟨g,o + i,none⟩ = some cur[o + i] := by simp [World.cell?,hg,hi]
  have hfro : w.frozen? ⟨g,o + i,none⟩ = false := by
   obtain ⟨lo,hi'⟩ := fz
   simp only [World.frozen?,hg,Bool.and_eq_false_iff,decide_eq_false_iff_not]
   simp only at hfz
   omega
  have hst : (store ((⟨g,o,none⟩ : Addr).add i) v).run P w = .ok () (w.setRow g (cur.setIfInBounds (o + i) v)) := by
   rw [hadd,run_store P w _ v _ (h1 v (by simp)),hcell]
   simp [hfro,setCell_eq_setRow w g (o + i) cur t fz v hg]
  have ih := zca P g o t fz rest (i + 1) (cur.setIfInBounds (o + i) v) (w.setRow g (cur.setIfInBounds (o + i) v)) (setRow_heap w g cur _ t _ hg) (by rw [Array.size_setIfInBounds];omega) (by simp at hl ⊢;omega) (fun x hx => h1 x (by simp [hx]))
  simp only [storeCells,Sem.run_bind,hst,Result.andThen_ok,ih,setRow_setRow]
  congr 3
  have e := list_seg_step cur.toList (o + i) v rest (by simp at hl ⊢;omega)
  simpa [Array.toList_setIfInBounds,Nat.add_assoc] using e
theorem zeD {P : Program} {w : World} (base : Nat) (t u ty e : TypeId) (i : TypeInfo) (ht : P.underlying t = some (.slice e)) (hu : P.underlying u = some .string) (hi : P.info? e = some i) (hz : i.zero = some (.int .u8 0))
  (hsize : i.size = 1) (hby : i.bytes = 1) (v : Value) (l : Bs) (hown : zaP w base e v l) (s : ByteArray) (hbytes : l.length + s.size ≤ 140737488355328) (hbase : base ≤ w.heap.size) :
  ∃ v' w',(Builtin.append_ #[t,u] ty #[v,.string s]).run P w = .ok v' w' ∧ zaP w' base e v' (l ++ ofB s) ∧ Below base w w' := by
 obtain ⟨g,cap,cur,fz,rfl,hbg,hg,hfz,hnc,hcm,hcs,htake⟩ := hown
 have hsmall : l.length + s.size ≤ maxLen := by unfold maxLen;omega
 have hlen : (l ++ ofB s).length = l.length + s.size := by rw [List.length_append,zat]
 have hcells : Lib.byteCells (l ++ ofB s) = Lib.byteCells l ++ Lib.strCells s := by rw [Lib.strCells_eq];simp [Lib.byteCells,ofB]
 have hcl : (Lib.byteCells l ++ Lib.strCells s).length = l.length + s.size := by rw [List.length_append,Lib.byteCells_length,Lib.strCells_length]
 by_cases hroom : l.length + s.size ≤ cap
 ·have hf := Lib.run_firstCells_string (P := P) w 1 s
  have hst := zca P g l.length e fz (Lib.strCells s) 0 cur w hg (by omega) (by rw [Lib.strCells_length];omega) (Lib.strCells_oneCell s)
  simp only [Nat.add_zero,Lib.strCells_length] at hst
  refine ⟨.slice (some ⟨g,0,none⟩) (l.length + s.size) cap,w.setRow g (cur.toList.take l.length ++ Lib.strCells s ++ cur.toList.drop (l.length + s.size)).toArray,?_,?_,?_⟩
  ·simp [Builtin.append_,run_underlying ht,run_underlying hu,sizeOf,typeInfo,hi,hsize,Builtin.lenOf,hroom,hf,Addr.add_lit,hst]
  ·refine ⟨g,cap,_,fz,by rw [hlen],hbg,setRow_heap w g cur _ e _ hg,by rw [hlen];omega,by rw [hlen];exact hroom,hcm,?_,?_⟩
   ·simp only [List.size_toArray,List.length_append,List.length_take,List.length_drop,Array.length_toList,Lib.strCells_length]
    omega
   ·rw [htake,hlen,hcells,← hcl]
    exact List.take_left
  ·exact ⟨rfl,rfl,rfl,by simp,fun k hk => setRow_other w g k _ (by omega)⟩
 ·have holds : ∀ j u,(Lib.byteCells l)[j]? = some u → w.cell? ((⟨g,0,none⟩ : Addr).add j) = some u := by
   intro j u hu
   rw [← htake,List.getElem?_take] at hu
   split at hu
   ·rw [zbz]
    simp [World.cell?,hg]
    simpa using hu
   ·cases hu
  have hr := Lib.run_append_grow_string (P := P) w t u ty e i (.int .u8 0) ht hu hi hz ⟨g,0,none⟩ l.length cap (Lib.byteCells l) (by rw [hsize,Lib.byteCells_length];omega) holds s (by omega) (by omega) (by rw [hby];exact growslice_fits (by omega) (by omega))
  have hge := grownCap_ge w (l.length + s.size) cap e
  have hcm2 : grownCap w (l.length + s.size) cap e ≤ maxLen := grownCap_le_maxLen w (l.length + s.size) cap e hsmall
  refine ⟨_,_,hr,⟨w.heap.size,_,_,(0,0),by rw [hlen],hbase,heap_alloc_new w.drew _,.inl (Nat.zero_le _),by rw [hlen];exact hge,hcm2,?_,?_⟩,⟨rfl,rfl,rfl,by simp,fun k hk => Lib.alloc_old w.drew _ k (Nat.lt_of_lt_of_le hk hbase)⟩⟩
  ·have hz1 : (Value.int IntKind.u8 0).cells.size = 1 := rfl
   simp only [Array.size_append,List.size_toArray,size_zeroCells,hz1,Lib.byteCells_length,Lib.strCells_length]
   omega
  ·simp only [Array.toList_append,List.append_assoc]
   rw [← List.append_assoc,hlen,hcells,← hcl]
   exact List.take_left
theorem zeN {P : Program} {w w0 : World} {ops : Array Oper} {rest : List Oper} {o : Oper} {a : Act} {Q : Exit → Act → World → Prop} (hgd : o.guard = none) (sl x : Operand) (t u : TypeId)
  (ho : o.op = .call { callee := .builtin .append,args := #[sl,x],argTypes := #[t,u] })
  (base : Nat) (e : TypeId) (ht : P.underlying t = some (.slice e)) (hu : P.underlying u = some .string) (hinfo : (P.info? e).map (fun i => (i.zero,i.size,i.bytes)) = some (some (.int .u8 0),1,1))
  (v : Value) (l : Bs) (hs : a.eval sl = v) (hown : zaP w base e v l) (s : ByteArray) (hx : a.eval x = .string s) (HB : Below base w0 w) (hbytes : l.length + s.size ≤ 140737488355328) (hbase : base ≤ w.heap.size)
  (h : ∀ v' w',zaP w' base e v' (l ++ ofB s) → Below base w0 w' → wpList P ops Q rest (a.put o.dst v') w') : wpList P ops Q (o :: rest) a w := by
 obtain ⟨i0,hi,hzz⟩ := Option.map_eq_some_iff.1 hinfo
 simp only [Prod.mk.injEq] at hzz
 obtain ⟨hz0,hz1,hz2⟩ := hzz
 refine wpList_plain hgd fun K hK => ?_
 obtain ⟨v',w',hr,h2,h3⟩ := zeD (P := P) base t u o.type e i0 ht hu hi hz0 hz1 hz2 v l hown s hbytes hbase
 unfold Oper.wp execOp
 simp only [ho,resolve,invoke,builtin,Sem.run_bind,Sem.run_pure,Result.andThen_ok,List.map_toArray,List.map_cons,List.map_nil,hs,hx,hr]
 exact hK _ _ (h v' w' h2 (HB.trans h3))
theorem zaP.string {P : Program} {w : World} {base : Nat} {e src : TypeId} {v : Value} {l : Bs} (hown : zaP w base e v l) (hs : P.underlying src = some (.slice e)) (he : P.underlying e = some (.int .u8)) :
  ∀ dst,P.underlying dst = some .string → (convert src dst v).run P w = .ok (.string (toB l)) w := by
 obtain ⟨g,cap,cur,fz,rfl,hbg,hg,hfz,hnc,hcm,hcs,htake⟩ := hown
 intro dst hd
 have h := run_convert_bytes_arg (P := P) w src e hs he g 0 l.length cap (l.map fun b => (b.toNat : Int)) (by simp) (fun i hi => by
  have h1 : (Lib.byteCells l)[i]? = some (.int .u8 ((l.map fun b => (b.toNat : Int)).getD i 0)) := by
   simp [Lib.byteCells,List.getElem?_eq_getElem hi]
  rw [← htake,List.getElem?_take,if_pos hi] at h1
  rw [Nat.zero_add]
  simp [World.cell?,hg]
  simpa using h1) dst hd
 rw [h]
 congr 3
 rw [zbN,List.map_map]
 congr 1
 rw [List.map_congr_left (g := id) (fun b _ => by simp),List.map_id]
def zhe (md : Region.Mode) (ops : Array Oper) (n : Nat) : Bool :=
 (List.range n).all fun i => decide (i < 1) || (List.range (n + 1)).any fun j => decide (i < j) && Region.waitsFor md ops j i
def zgC (md : Region.Mode) (ops : Array Oper) (n : Nat) : Bool :=
 Region.noSelect ops && decide (0 < n) && decide (n < ops.size) && zhe md ops n && Region.chainB md ops n &&
  (Region.ready md ops (Array.replicate ops.size false)).contains 0 && Region.free md ops (Array.replicate ops.size false) 0 &&
  Region.lexHead md ops (ops.size - n) (n - 1) 1 ((Array.replicate ops.size false).setIfInBounds 0 true)
theorem zfe {md : Region.Mode} {ops : Array Oper} {n : Nat} {listed : Array Bool} (hs : zhe md ops n = true) (hc : Region.chainB md ops n = true) (hn : n < ops.size) (inv : HeadInv md ops n listed) :
  ∀ (d i : Nat),n - i = d → 1 ≤ i → i < n → listed.getD i true = false → ∀ t,n ≤ t → t ∉ Region.ready md ops listed := by
 intro d
 induction d using Nat.strongRecOn with
 | _ d ih =>
  intro i hd hi1 hi hun t ht hr
  obtain ⟨_,ot,hot,hall⟩ := mem_ready.1 hr
  have htlt : t < ops.size := (Array.getElem?_eq_some_iff.1 hot).1
  by_cases htn : t = n
  ·subst htn
   have h1 := List.all_eq_true.1 hs i (List.mem_range.2 hi)
   rw [Bool.or_eq_true] at h1
   have h1 := h1.resolve_left (by simp;omega)
   obtain ⟨j,hj,hj2⟩ := List.any_eq_true.1 h1
   simp only [Bool.and_eq_true,decide_eq_true_eq] at hj2
   obtain ⟨oj,hoj,e,he,hb,hon⟩ := Region.waitsFor_spec hj2.2
   have hjle : j ≤ t := by have := List.mem_range.1 hj;omega
   by_cases hjt : j = t
   ·subst hjt
    have : oj = ot := Option.some.inj (hoj.symm.trans hot)
    subst this
    have h2 := hall e he hb
    rw [hon,getD_both hun] at h2
    cases h2
   ·cases hl : listed.getD j false with
    | true =>
     have h2 := inv.closed j oj hoj hl e he hb
     rw [hon,getD_both hun] at h2
     cases h2
    | false =>
     have hjs : j < listed.size := by rw [inv.size];omega
     exact ih (t - j) (by omega) j rfl (by omega) (by omega) (getD_in hjs hl) t (Nat.le_refl _) hr
  ·have h1 := List.all_eq_true.1 hc t (List.mem_range.2 htlt)
   simp only [Bool.or_eq_true,decide_eq_true_eq] at h1
   rcases h1 with h1 | h1
   ·omega
   ·obtain ⟨o',ho',e,he,hb,hon⟩ := Region.waitsFor_spec h1
    have : o' = ot := Option.some.inj (ho'.symm.trans hot)
    subst this
    have h2 := hall e he hb
    rw [hon,getD_both (inv.tail (t - 1) (by omega) (by omega))] at h2
    cases h2
theorem zgs {P : Program} {md : Region.Mode} {ops : Array Oper} {w : World} {n i : Nat} {oi : Oper} {v : Value} {L : Array Bool → Act → Prop} (hi : ops[i]? = some oi) (hsel : ∀ (j : Nat) (o : Oper) cs b,ops[j]? = some o → o.op ≠ .select cs b)
  (hs : zhe md ops n = true) (hc : Region.chainB md ops n = true) (hn : n < ops.size) (hi1 : 1 ≤ i) (hin : i < n)
  (hdone : ∀ listed a,L listed a → ∀ j ∈ Region.ready md ops listed,n ≤ j) :
  ∀ (f : Nat) (listed : Array Bool) (a : Act),HeadInv md ops n listed →
   (∀ j oj,ops[j]? = some oj → j ≠ i → listed.getD j true = false → (∀ e ∈ oj.after,Region.binds md e = true → e.on ≠ i) → oi.apart ops oj = true) →
   i ∈ Region.ready md ops listed → YieldsAt P ops w oi v a →
   wpAnyL P md ops w n L f (listed.setIfInBounds i true) (a.put oi.dst v) → wpAnyL P md ops w n L (f + 1) listed a := by
 intro f
 induction f with
 | zero =>
  intro listed a inv _ hr hy H
  have hun := (mem_ready.1 hr).1
  refine ⟨fun h => (by rw [h] at hr;cases hr),fun j hj => ?_⟩
  have hjn : j < n := by
   rcases Nat.lt_or_ge j n with h | h
   ·exact h
   ·exact absurd hj (zfe hs hc hn inv _ i rfl hi1 hin hun j h)
  refine ⟨hjn,?_⟩
  by_cases hji : j = i
  ·subst hji;exact hy.stOp hi H
  ·have := hdone _ _ H j (ready_mono hj hji)
   omega
 | succ f ih =>
  intro listed a inv hfree hr hy H
  have hun := (mem_ready.1 hr).1
  refine ⟨fun h => (by rw [h] at hr;cases hr),fun j hj => ?_⟩
  have hjn : j < n := by
   rcases Nat.lt_or_ge j n with h | h
   ·exact h
   ·exact absurd hj (zfe hs hc hn inv _ i rfl hi1 hin hun j h)
  refine ⟨hjn,?_⟩
  by_cases hji : j = i
  ·subst hji;exact hy.stOp hi H
  ·have h1 := (H.2 j (ready_mono hj hji)).2
   obtain ⟨hjun,oj,hoj,hall⟩ := mem_ready.1 hj
   have hnot : ∀ e ∈ oj.after,Region.binds md e = true → e.on ≠ i := fun e he hb heq => by
    have h1 := hall e he hb
    rw [heq,getD_both hun] at h1
    cases h1
   have h2 := stOp_put hoj (hfree j oj hoj hji hjun hnot) (fun cs b => hsel i oi cs b hi) (fun cs b => hsel j oj cs b hoj) hy h1
   have hfree' : ∀ k ok,ops[k]? = some ok → k ≠ i → (listed.setIfInBounds j true).getD k true = false →
     (∀ e ∈ ok.after,Region.binds md e = true → e.on ≠ i) → oi.apart ops ok = true := fun k ok hk hki hun hno => by
    refine hfree k ok hk hki ?_ hno
    by_cases hjk : j = k
    ·subst hjk;exact hjun
    ·rw [getD_set_ne true hjk] at hun;exact hun
   refine stOp_mono (fun a' h3 => ih (listed.setIfInBounds j true) a' (inv.set hj hjn) hfree' (ready_mono hr (Ne.symm hji)) h3.1 ?_) h2
   rw [Array.setIfInBounds_comm _ _ hji]
   exact h3.2
theorem zfg {P : Program} {md : Region.Mode} {ops : Array Oper} {w : World} {n g : Nat} {Lq : Act → Prop} (hsel : Region.noSelect ops = true) (hs : zhe md ops n = true) (hc : Region.chainB md ops n = true) (hn : n < ops.size) :
  ∀ (l : List Oper) (k : Nat) (listed : Array Bool) (a : Act),1 ≤ k → (∀ j,j < l.length → l[j]? = ops[k + j]?) → k + l.length = n → HeadInv md ops n listed →
  Region.lexHead md ops g l.length k listed = true → wpStill P ops w Lq l a →
  wpAnyL P md ops w n (fun listed' a' => Region.seqB md ops g n listed' = true ∧ Lq a') l.length listed a
 | [],k,listed,a,_,_,hk,_,hB,h => by
  have : k = n := by simpa using hk
  subst this
  exact ⟨by simpa [Region.lexHead] using hB,h⟩
 | o :: l,k,listed,a,hk1,hl,hk,inv,hB,h => by
  have h0 : ops[k]? = some o := by simpa using (hl 0 (by simp)).symm
  simp only [List.length_cons,Region.lexHead,Bool.and_eq_true] at hB
  obtain ⟨⟨hr,hf⟩,hB'⟩ := hB
  have hkn : k < n := by simp only [List.length_cons] at hk;omega
  have hr' : k ∈ Region.ready md ops listed := by simpa using hr
  have hst : stOp P ops w k (wpStill P ops w Lq l) a := by unfold stOp;simp only [h0];exact h
  obtain ⟨v,hy,hK⟩ := yieldsAt_of_stOp h0 hst
  exact zgs h0 (Region.noSelect_spec hsel) hs hc hn hk1 hkn (fun listed' a' hL => seqB_ready hL.1) l.length listed a inv (Region.free_spec h0 hf) hr' hy
   (zfg hsel hs hc hn l (k + 1) _ _ (by omega) (fun j hj => by have := hl (j + 1) (by simp;omega);simpa [Nat.add_assoc,Nat.add_comm 1 j] using this) (by simp only [List.length_cons] at hk;omega) (inv.set hr' hkn) hB' hK)
theorem zbP {P : Program} {id : Nat} {Q : Exit → Act → World → Prop} {a : Act} {w : World} {o : Oper} {l : List Oper} (v : Value) (n : Nat) (hm : P.follows .mixedOrders = true) (hB : zgC .any (o :: l).toArray (n + 1) = true)
  (hQ : ∀ c a w,Q (.panic c) (a.put o.dst v) w → Q (.panic c) a w) (hy : Yields P (o :: l).toArray o v a)
  (h : wpStill P (o :: l).toArray { w with drawn := w.drawn + 1 } (fun a' => wpList P (o :: l).toArray Q (l.drop n) a' { w with drawn := w.drawn + 1 }) (l.take n) (a.put o.dst v)) : (Code.region id (o :: l).toArray true).wp P Q a w := by
 simp only [zgC,Bool.and_eq_true,decide_eq_true_eq] at hB
 obtain ⟨⟨⟨⟨⟨⟨⟨hsel,hn0⟩,hn⟩,hs⟩,hc⟩,hr0⟩,hf0⟩,hlex⟩ := hB
 have hn' : n + 1 < l.length + 1 := by simpa using hn
 have htl : (l.take n).length = n := by simp;omega
 have hdl : (l.drop n).length = (o :: l).toArray.size - (n + 1) := by simp
 have inv0 : HeadInv .any (o :: l).toArray (n + 1) (Array.replicate (o :: l).toArray.size false) :=
  ⟨by simp,fun j oj _ hl => (by rw [getD_replicate_false] at hl;cases hl),fun t _ ht => getD_in (by simpa using ht) (getD_replicate_false _ _)⟩
 have hr0' : 0 ∈ Region.ready .any (o :: l).toArray (Array.replicate (o :: l).toArray.size false) := by simpa using hr0
 have inv1 := inv0.set hr0' (by omega)
 have H := zfg (md := .any) (g := (o :: l).toArray.size - (n + 1)) hsel hs hc hn (l.take n) 1 _ (a.put o.dst v) (by omega) (fun j hj => by
  have hj' : j < n := by rw [htl] at hj;exact hj
  simp [hj',Nat.add_comm 1 j]) (by rw [htl];omega) inv1 (by rw [htl];exact hlex) h
 refine wp_region_any hm ?_
 have := wpAny_of_head (Q' := Q) (g := (o :: l).toArray.size - (n + 1)) (fun listed a' hL => by
  have := wpAny_of_seq (md := .any) (Q' := Q) (l.drop n) (n + 1) listed a' { w with drawn := w.drawn + 1 } (fun j => by simp [List.getElem?_drop,Nat.add_right_comm]) (by rw [hdl];exact hL.1) hL.2
  rwa [hdl] at this) _ _ _ H
 rw [htl,show n + ((o :: l).toArray.size - (n + 1)) = l.length by simp;omega] at this
 have ht := wpAny_take (P := P) (md := .any) (ops := (o :: l).toArray) (Q := Q) (i := 0) (oi := o) (v := v) (fuel := l.length) (listed := Array.replicate (o :: l).toArray.size false) (a := a) (w := { w with drawn := w.drawn + 1 }) rfl hsel hf0 hr0 hQ hy this
 simpa using ht
def zfv (md : Region.Mode) (ops : Array Oper) (n : Nat) : Bool :=
 (List.range ops.size).all fun t => decide (t ≤ n) || (List.range t).any fun j => decide (n ≤ j) && Region.waitsFor md ops t j
def zc3 : Nat → Nat → Array Bool → Array Bool
 | 0,_,l => l
 | f + 1,k,l => zc3 f (k + 1) (l.setIfInBounds k true)
def zdj (md : Region.Mode) (ops : Array Oper) : Nat → Nat → Array Bool → Bool
 | 0,k,listed => (Region.ready md ops listed).all fun j => decide (k ≤ j)
 | f + 1,k,listed => (Region.ready md ops listed).contains k && Region.free md ops listed k && zdj md ops f (k + 1) (listed.setIfInBounds k true)
def seqS (md : Region.Mode) (ops : Array Oper) : Nat → Nat → Array Bool → Bool
 | 0,_,_ => true
 | m + 1,k,listed => decide (Region.ready md ops listed = [k]) && seqS md ops m (k + 1) (listed.setIfInBounds k true)
def zhf (P : Program) (ops : Array Oper) (Q : Exit → Act → World → Prop) (g : Nat) (listed : Array Bool) : Exit → Act → World → Prop
 | .normal,a,w => wpAny P .any ops Q g listed a w
 | e,a,w => Q e a w
theorem zez {md : Region.Mode} {ops : Array Oper} : ∀ (f k : Nat) (listed : Array Bool),zdj md ops f k listed = true → ∀ j ∈ Region.ready md ops (zc3 f k listed),k + f ≤ j
 | 0,k,listed,h,j,hj => by
  have := List.all_eq_true.1 h j hj
  simpa using this
 | f + 1,k,listed,h,j,hj => by
  simp only [zdj,Bool.and_eq_true] at h
  have := zez f (k + 1) _ h.2 j hj
  omega
theorem zff {md : Region.Mode} {ops : Array Oper} {n : Nat} {listed : Array Bool} (hs : Region.sinkB md ops n = true) (hc : zfv md ops n = true) (hn : n < ops.size) (inv : HeadInv md ops n listed) :
  ∀ (d i : Nat),n - i = d → i < n → listed.getD i true = false → ∀ t,n ≤ t → t ∉ Region.ready md ops listed := by
 intro d
 induction d using Nat.strongRecOn with
 | _ d ih =>
  intro i hd hi hun t ht hr
  obtain ⟨_,ot,hot,hall⟩ := mem_ready.1 hr
  have htlt : t < ops.size := (Array.getElem?_eq_some_iff.1 hot).1
  by_cases htn : t = n
  ·subst htn
   have h1 := List.all_eq_true.1 hs i (List.mem_range.2 hi)
   obtain ⟨j,hj,hj2⟩ := List.any_eq_true.1 h1
   simp only [Bool.and_eq_true,decide_eq_true_eq] at hj2
   obtain ⟨oj,hoj,e,he,hb,hon⟩ := Region.waitsFor_spec hj2.2
   have hjle : j ≤ t := by have := List.mem_range.1 hj;omega
   by_cases hjt : j = t
   ·subst hjt
    have : oj = ot := Option.some.inj (hoj.symm.trans hot)
    subst this
    have h2 := hall e he hb
    rw [hon,getD_both hun] at h2
    cases h2
   ·cases hl : listed.getD j false with
    | true =>
     have h2 := inv.closed j oj hoj hl e he hb
     rw [hon,getD_both hun] at h2
     cases h2
    | false =>
     have hjs : j < listed.size := by rw [inv.size];omega
     exact ih (t - j) (by omega) j rfl (by omega) (getD_in hjs hl) t (Nat.le_refl _) hr
  ·have h1 := List.all_eq_true.1 hc t (List.mem_range.2 htlt)
   rw [Bool.or_eq_true] at h1
   have h1 := h1.resolve_left (by simp;omega)
   obtain ⟨j,hj,hj2⟩ := List.any_eq_true.1 h1
   simp only [Bool.and_eq_true,decide_eq_true_eq] at hj2
   obtain ⟨o',ho',e,he,hb,hon⟩ := Region.waitsFor_spec hj2.2
   have : o' = ot := Option.some.inj (ho'.symm.trans hot)
   subst this
   have hjt := List.mem_range.1 hj
   have h2 := hall e he hb
   rw [hon,getD_both (inv.tail j hj2.1 (by omega))] at h2
   cases h2
theorem zgt {P : Program} {md : Region.Mode} {ops : Array Oper} {w : World} {n i : Nat} {oi : Oper} {v : Value} {L : Array Bool → Act → Prop} (hi : ops[i]? = some oi) (hsel : ∀ (j : Nat) (o : Oper) cs b,ops[j]? = some o → o.op ≠ .select cs b)
  (hs : Region.sinkB md ops n = true) (hc : zfv md ops n = true) (hn : n < ops.size) (hin : i < n)
  (hdone : ∀ listed a,L listed a → ∀ j ∈ Region.ready md ops listed,n ≤ j) :
  ∀ (f : Nat) (listed : Array Bool) (a : Act),HeadInv md ops n listed →
   (∀ j oj,ops[j]? = some oj → j ≠ i → listed.getD j true = false → (∀ e ∈ oj.after,Region.binds md e = true → e.on ≠ i) → oi.apart ops oj = true) →
   i ∈ Region.ready md ops listed → YieldsAt P ops w oi v a →
   wpAnyL P md ops w n L f (listed.setIfInBounds i true) (a.put oi.dst v) → wpAnyL P md ops w n L (f + 1) listed a := by
 intro f
 induction f with
 | zero =>
  intro listed a inv _ hr hy H
  have hun := (mem_ready.1 hr).1
  refine ⟨fun h => (by rw [h] at hr;cases hr),fun j hj => ?_⟩
  have hjn : j < n := by
   rcases Nat.lt_or_ge j n with h | h
   ·exact h
   ·exact absurd hj (zff hs hc hn inv _ i rfl hin hun j h)
  refine ⟨hjn,?_⟩
  by_cases hji : j = i
  ·subst hji;exact hy.stOp hi H
  ·have := hdone _ _ H j (ready_mono hj hji)
   omega
 | succ f ih =>
  intro listed a inv hfree hr hy H
  have hun := (mem_ready.1 hr).1
  refine ⟨fun h => (by rw [h] at hr;cases hr),fun j hj => ?_⟩
  have hjn : j < n := by
   rcases Nat.lt_or_ge j n with h | h
   ·exact h
   ·exact absurd hj (zff hs hc hn inv _ i rfl hin hun j h)
  refine ⟨hjn,?_⟩
  by_cases hji : j = i
  ·subst hji;exact hy.stOp hi H
  ·have h1 := (H.2 j (ready_mono hj hji)).2
   obtain ⟨hjun,oj,hoj,hall⟩ := mem_ready.1 hj
   have hnot : ∀ e ∈ oj.after,Region.binds md e = true → e.on ≠ i := fun e he hb heq => by
    have h1 := hall e he hb
    rw [heq,getD_both hun] at h1
    cases h1
   have h2 := stOp_put hoj (hfree j oj hoj hji hjun hnot) (fun cs b => hsel i oi cs b hi) (fun cs b => hsel j oj cs b hoj) hy h1
   have hfree' : ∀ k ok,ops[k]? = some ok → k ≠ i → (listed.setIfInBounds j true).getD k true = false →
     (∀ e ∈ ok.after,Region.binds md e = true → e.on ≠ i) → oi.apart ops ok = true := fun k ok hk hki hun hno => by
    refine hfree k ok hk hki ?_ hno
    by_cases hjk : j = k
    ·subst hjk;exact hjun
    ·rw [getD_set_ne true hjk] at hun;exact hun
   refine stOp_mono (fun a' h3 => ih (listed.setIfInBounds j true) a' (inv.set hj hjn) hfree' (ready_mono hr (Ne.symm hji)) h3.1 ?_) h2
   rw [Array.setIfInBounds_comm _ _ hji]
   exact h3.2
theorem zfh {P : Program} {md : Region.Mode} {ops : Array Oper} {w : World} {n : Nat} {Lq : Act → Prop} (hsel : Region.noSelect ops = true) (hs : Region.sinkB md ops n = true) (hc : zfv md ops n = true) (hn : n < ops.size) :
  ∀ (l : List Oper) (k : Nat) (listed : Array Bool) (a : Act),(∀ j,j < l.length → l[j]? = ops[k + j]?) → k + l.length = n → HeadInv md ops n listed →
  zdj md ops l.length k listed = true → wpStill P ops w Lq l a →
  wpAnyL P md ops w n (fun listed' a' => listed' = zc3 l.length k listed ∧ Lq a') l.length listed a
 | [],k,listed,a,_,_,_,_,h => ⟨rfl,h⟩
 | o :: l,k,listed,a,hl,hk,inv,hB,h => by
  have h0 : ops[k]? = some o := by simpa using (hl 0 (by simp)).symm
  simp only [List.length_cons,zdj,Bool.and_eq_true] at hB
  obtain ⟨⟨hr,hf⟩,hB'⟩ := hB
  have hkn : k < n := by simp only [List.length_cons] at hk;omega
  have hr' : k ∈ Region.ready md ops listed := by simpa using hr
  have hst : stOp P ops w k (wpStill P ops w Lq l) a := by unfold stOp;simp only [h0];exact h
  obtain ⟨v,hy,hK⟩ := yieldsAt_of_stOp h0 hst
  exact zgt h0 (Region.noSelect_spec hsel) hs hc hn hkn (fun listed' a' hL j hj => by
    rw [hL.1] at hj
    have := zez l.length (k + 1) _ hB' j hj
    simp only [List.length_cons] at hk
    omega) l.length listed a inv (Region.free_spec h0 hf) hr' hy
   (zfh hsel hs hc hn l (k + 1) _ _ (fun j hj => by have := hl (j + 1) (by simp;omega);simpa [Nat.add_assoc,Nat.add_comm 1 j] using this) (by simp only [List.length_cons] at hk;omega) (inv.set hr' hkn) hB' hK)
theorem zdf {P : Program} {ops : Array Oper} {Q : Exit → Act → World → Prop} {g : Nat} : ∀ (l : List Oper) (k : Nat) (listed : Array Bool) (a : Act) (w : World),(∀ j,j < l.length → l[j]? = ops[k + j]?) →
  seqS .any ops l.length k listed = true → wpList P ops (zhf P ops Q g (zc3 l.length k listed)) l a w → wpAny P .any ops Q (l.length + g) listed a w
 | [],_,_,_,_,_,_,h => by rw [List.length_nil,Nat.zero_add];exact h
 | o :: l,k,listed,a,w,hl,hB,h => by
  have h0 : ops[k]? = some o := by simpa using (hl 0 (by simp)).symm
  simp only [List.length_cons,seqS,Bool.and_eq_true,decide_eq_true_eq] at hB
  rw [List.length_cons,show l.length + 1 + g = (l.length + g) + 1 by omega]
  refine ⟨fun h1 => (by rw [hB.1] at h1;cases h1),fun i hi => ?_⟩
  rw [hB.1] at hi
  have hik : i = k := by simpa using hi
  subst hik
  have hw : wpOp P ops Q i (wpList P ops (zhf P ops Q g (zc3 (o :: l).length i listed)) l) a w := by unfold wpOp;simp only [h0];exact h
  exact wpOp_mono (fun a' w' h' => zdf l (i + 1) _ a' w' (fun j hj => by have := hl (j + 1) (by simp;omega);simpa [Nat.add_assoc,Nat.add_comm 1 j] using this) hB.2 h') hw
def ziF (ops : Array Oper) (n m : Nat) : Bool :=
 Region.noSelect ops && decide (n + m ≤ ops.size) && decide (n < ops.size) && Region.sinkB .any ops n && zfv .any ops n && zdj .any ops n 0 (Array.replicate ops.size false) && seqS .any ops m n (zc3 n 0 (Array.replicate ops.size false))
theorem zea {P : Program} {id : Nat} {Q : Exit → Act → World → Prop} {a : Act} {w : World} {l : List Oper} (n m : Nat) (hm : P.follows .mixedOrders = true) (hB : ziF l.toArray n m = true)
  (h : wpStill P l.toArray { w with drawn := w.drawn + 1 } (fun a' => wpList P l.toArray (zhf P l.toArray Q (l.length - n - m) (zc3 m n (zc3 n 0 (Array.replicate l.length false)))) ((l.drop n).take m) a' { w with drawn := w.drawn + 1 }) (l.take n) a) : (Code.region id l.toArray true).wp P Q a w := by
 simp only [ziF,Bool.and_eq_true,decide_eq_true_eq] at hB
 obtain ⟨⟨⟨⟨⟨⟨hsel,hnm⟩,hn⟩,hs⟩,hc⟩,hlex⟩,hseq⟩ := hB
 have hsz : l.toArray.size = l.length := by simp
 rw [hsz] at hlex hseq hnm
 have hn' : n < l.length := by simpa using hn
 have htl : (l.take n).length = n := by simp;omega
 have hdl : ((l.drop n).take m).length = m := by simp;omega
 have inv0 : HeadInv .any l.toArray n (Array.replicate l.length false) :=
  ⟨by simp,fun j oj _ hl => (by rw [getD_replicate_false] at hl;cases hl),fun t _ ht => getD_in (by simpa using ht) (getD_replicate_false _ _)⟩
 have H := zfh (md := .any) hsel hs hc hn (l.take n) 0 _ a (fun j hj => by
  have hj' : j < n := by rw [htl] at hj;exact hj
  simp [hj']) (by simpa using htl) inv0 (by rw [htl];exact hlex) h
 refine wp_region_any hm ?_
 have := wpAny_of_head (Q' := Q) (g := m + (l.length - n - m)) (fun listed a' hL => by
  obtain ⟨rfl,hL⟩ := hL
  rw [htl]
  have := zdf (P := P) (ops := l.toArray) (Q := Q) (g := l.length - n - m) ((l.drop n).take m) n _ a' { w with drawn := w.drawn + 1 } (fun j hj => by
   have hj' : j < m := by rw [hdl] at hj;exact hj
   simp [List.getElem?_take,List.getElem?_drop,hj']) (by rw [hdl];exact hseq) (by rw [hdl];exact hL)
  rwa [hdl] at this) _ _ _ H
 rw [htl,show n + (m + (l.length - n - m)) = l.length by omega] at this
 rw [hsz]
 exact this
theorem ziv {P : Program} {ops : Array Oper} {Q : Exit → Act → World → Prop} (i : Nat) {o : Oper} {listed : Array Bool} {a : Act} {w : World} (h0 : ops[i]? = some o) (hr : Region.ready .any ops listed = [i]) (hn : Region.ready .any ops (listed.setIfInBounds i true) = [])
  (h : wpList P ops Q [o] a w) : wpAny P .any ops Q 1 listed a w := by
 refine zdf (g := 0) [o] i listed a w (fun j hj => ?_) (by simp [seqS,hr]) ?_
 ·obtain rfl : j = 0 := by simpa using hj
  rw [Nat.add_zero,h0];rfl
 ·unfold wpList at h ⊢
  split
  ·rename_i hw
   rw [if_pos hw] at h
   refine h.imp (fun h1 => ?_) (fun h1 => h1)
   exact Oper.wp_mono (fun a' w' h2 => ⟨hn,h2⟩) h1
  ·rename_i hw
   rw [if_neg hw] at h
   exact ⟨hn,h⟩
end Go.Proofs.YtlkfelmbhldgfaaGreat.Px