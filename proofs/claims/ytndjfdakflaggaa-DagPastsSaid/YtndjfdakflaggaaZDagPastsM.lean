/- Part 13 of 30 of the proof of the law DagPasts: what is proved is the statement at the end of the last part; its conditions are those of the given row. -/
import Derived.MapKept
import Derived.Laws.NewBlocks
import Derived.Maps.OwnOps
import Derived.Test.YtndjfdakflaggaaZDagPastsD
namespace Go.Proofs.Ytndjfdakflaggaa.Px
open Go.RowKit Go.Proofs.YtndjfdakflaggaaW.PrintWords Go.Proofs.YtndjfdakflaggaaW.PrintLast Go.Proofs.YtndjfdakflaggaaW.PrintMore
attribute [local go_sem] zt zv zA zB zq zr zu zw
set_option linter.unusedVariables false
set_option linter.unusedSimpArgs false
def zbW : List (ByteArray × Value) → ByteArray → Nat → Option (Nat × Value)
 | [],_,_ => none
 | p :: l,k,i => if p.1 = k then some (i,p.2) else zbW l k (i + 1)
def zcy (l : List (ByteArray × Value)) (k : ByteArray) : Option Value := (zbW l k 0).map (·.2)
theorem zcL : ∀ (l : List (ByteArray × Value)) (k : ByteArray) (i : Nat),zbW l k i = (zbW l k 0).map fun p => (p.1 + i,p.2)
 | [],_,_ => rfl
 | p :: l,k,i => by
  rw [zbW,zbW]
  split
  ·simp
  ·rw [zcL l k (i + 1),zcL l k (0 + 1),Option.map_map]
   congr 1
   funext q
   simp only [Function.comp]
   rw [Nat.zero_add,Nat.add_assoc,Nat.add_comm 1 i]
theorem za7 (p : ByteArray × Value) (l : List (ByteArray × Value)) (k : ByteArray) : zcy (p :: l) k = if p.1 = k then some p.2 else zcy l k := by
 unfold zcy
 rw [zbW]
 split
 ·rfl
 ·rw [zcL l k (0 + 1),Option.map_map];rfl
theorem zfm {l : List (ByteArray × Value)} {k : ByteArray} : ∀ {i : Nat},zbW l k i = none ↔ ∀ p ∈ l,p.1 ≠ k := by
 induction l with
 | nil => simp [zbW]
 | cons p l ih =>
  intro i
  rw [zbW]
  split
  ·rename_i h;simp [h]
  ·rename_i h;rw [ih];simp [h]
theorem zfn {l : List (ByteArray × Value)} {k : ByteArray} {i : Nat} {v : Value} (h : zbW l k 0 = some (i,v)) : l[i]? = some (k,v) := by
 induction l generalizing i with
 | nil => simp [zbW] at h
 | cons p l ih =>
  rw [zbW] at h
  split at h
  ·rename_i hk
   injection h with h
   injection h with h1 h2
   subst h1;subst h2;subst hk;rfl
  ·rw [zcL,Option.map_eq_some_iff] at h
   obtain ⟨⟨j,u⟩,hj,e⟩ := h
   injection e with e1 e2
   subst e1;subst e2
   exact ih hj
def entM (e : MapEntry) : Value × Value := (e.key,e.val)
def strM (p : ByteArray × Value) : Value × Value := (.string p.1,p.2)
theorem zck (k : ByteArray) : ∀ (es : List MapEntry) (l : List (ByteArray × Value)) (i : Nat),es.map entM = l.map strM → Instr.findNow .string (.string k) es i = some (zbW l k i)
 | [],[],_,_ => rfl
 | [],_ :: _,_,h => by simp at h
 | _ :: _,[],_,h => by simp at h
 | e :: es,p :: l,i,h => by
  rw [List.map_cons,List.map_cons,List.cons.injEq] at h
  obtain ⟨h1,h2⟩ := h
  have ek : e.key = .string p.1 := congrArg Prod.fst h1
  have ev : e.val = p.2 := congrArg Prod.snd h1
  rw [Instr.findNow,ek,Instr.sameNow,zbW]
  by_cases hk : p.1 = k
  ·rw [if_pos hk,show (k == p.1) = true from (Go.MapKept.bytes_beq _ _).2 hk.symm]
   simp only [ev]
  ·rw [if_neg hk,show (k == p.1) = false from Bool.eq_false_iff.2 (fun e => hk ((Go.MapKept.bytes_beq _ _).1 e).symm)]
   exact zck k es l (i + 1) h2
def zaU (W : World) (g : Nat) (F : ByteArray → Option Value) : Prop :=
 ∃ (es : Array MapEntry) (c : Nat) (l : List (ByteArray × Value)),W.heap[g]? = some (.map es c) ∧ es.toList.map entM = l.map strM ∧ (l.map (·.1)).Nodup ∧ ∀ k,zcy l k = F k
theorem zhb (W : World) : zaU (W.alloc (.map #[] 0)) W.heap.size (fun _ => none) := ⟨#[],0,[],heap_alloc_new W _,rfl,by simp,fun _ => rfl⟩
theorem zeo {W W' : World} {g : Nat} {F : ByteArray → Option Value} (h : zaU W g F) (hm : W'.heap[g]? = W.heap[g]?) : zaU W' g F := by
 obtain ⟨es,c,l,h1,h2⟩ := h
 exact ⟨es,c,l,hm.trans h1,h2⟩
theorem zaP {W : World} {g : Nat} {F : ByteArray → Option Value} (h : zaU W g F) : g < W.heap.size := by
 obtain ⟨es,c,l,h1,_⟩ := h
 exact (Array.getElem?_eq_some_iff.1 h1).1
theorem zaw {W W' : World} {g : Nat} {F : ByteArray → Option Value} (h : zaU W g F) (hb : Below W.heap.size W W') : zaU W' g F := zeo h (hb.block g (zaP h))
theorem zhK {W : World} {g : Nat} {F : ByteArray → Option Value} (h : zaU W g F) (o : Obj) : zaU (W.alloc o) g F := zaw h (Below.alloc (Below.refl _ _) (Nat.le_refl _) o)
theorem zfo {W W' : World} {g : Nat} {F : ByteArray → Option Value} (h : zaU W g F) {row : Option Nat} (hg : W.grownBy W' row) (hr : some g ≠ row) : zaU W' g F := zeo h (hg.block g (zaP h) hr)
theorem zbq {W : World} {g : Nat} {F F' : ByteArray → Option Value} (h : zaU W g F) (e : ∀ k,F k = F' k) : zaU W g F' := by
 obtain ⟨es,c,l,h1,h2,h3,h4⟩ := h
 exact ⟨es,c,l,h1,h2,h3,fun k => (h4 k).trans (e k)⟩
section
variable {P : Program} {w : World} {t k e : TypeId} {g : Nat} {F : ByteArray → Option Value}
theorem zbv (s : ByteArray) : Go.MapKept.IsKey .string (.string s) := by simp [Go.MapKept.IsKey]
theorem ziA (h : zaU w g F) (ht : P.underlying t = some (.map k e)) (hk : P.underlying k = some .string) {z : Value} (hz : (zeroValue e).run P w = .ok z w) (s : ByteArray) :
  (Instr.lookup t (.map (some g)) (.string s) false).run P w = .ok ((F s).getD z) w := by
 obtain ⟨es,c,l,h1,h2,h3,h4⟩ := h
 have hf := zck s es.toList l 0 h2
 rw [← h4 s]
 unfold zcy
 rcases hl : zbW l s 0 with _ | ⟨i,v⟩
 ·rw [hl] at hf
  simp [Instr.lookup,run_underlying ht,Go.MapKept.run_getObj_map h1,Go.MapKept.run_checkKey hk (zbv s),Go.MapKept.run_findKey hk hf,hz,Result.andThen]
 ·rw [hl] at hf
  simp [Instr.lookup,run_underlying ht,Go.MapKept.run_getObj_map h1,Go.MapKept.run_checkKey hk (zbv s),Go.MapKept.run_findKey hk hf,hz,Result.andThen]
theorem zhL (h : zaU w g F) (ht : P.underlying t = some (.map k e)) (hk : P.underlying k = some .string) {z : Value} (hz : (zeroValue e).run P w = .ok z w) (s : ByteArray) :
  (Instr.lookup t (.map (some g)) (.string s) true).run P w = .ok (.tuple #[(F s).getD z,.bool (F s).isSome]) w := by
 obtain ⟨es,c,l,h1,h2,h3,h4⟩ := h
 have hf := zck s es.toList l 0 h2
 rw [← h4 s]
 unfold zcy
 rcases hl : zbW l s 0 with _ | ⟨i,v⟩
 ·rw [hl] at hf
  simp [Instr.lookup,run_underlying ht,Go.MapKept.run_getObj_map h1,Go.MapKept.run_checkKey hk (zbv s),Go.MapKept.run_findKey hk hf,hz,Result.andThen]
 ·rw [hl] at hf
  simp [Instr.lookup,run_underlying ht,Go.MapKept.run_getObj_map h1,Go.MapKept.run_checkKey hk (zbv s),Go.MapKept.run_findKey hk hf,hz,Result.andThen]
theorem zdy {w : World} {g : Nat} {o : Obj} (hb : w.heap[g]? = some o) (o' : Obj) : w.grownBy { w with heap := w.heap.setIfInBounds g o' } (some g) :=
 ⟨rfl,rfl,rfl,by simp,fun i _ hi => (Go.MapKept.heap_set (o' := o') hb).2 i (fun e => hi (by rw [e]))⟩
theorem zgs (l : List (ByteArray × Value)) (s : ByteArray) (v : Value) (hn : ∀ p ∈ l,p.1 ≠ s) (x : ByteArray) : zcy (l ++ [(s,v)]) x = if x = s then some v else zcy l x := by
 induction l with
 | nil =>
  rw [List.nil_append,za7]
  by_cases h : s = x
  ·rw [if_pos h,if_pos h.symm]
  ·rw [if_neg h,if_neg (fun e => h e.symm)]
 | cons p l ih =>
  rw [List.cons_append,za7,za7,ih (fun q hq => hn q (List.mem_cons_of_mem _ hq))]
  by_cases h : p.1 = x
  ·have : x ≠ s := fun e => hn p List.mem_cons_self (h.trans e)
   rw [if_pos h,if_neg this,if_pos h]
  ·rw [if_neg h,if_neg h]
theorem ziz (l : List (ByteArray × Value)) (hd : (l.map (·.1)).Nodup) (i : Nat) (s : ByteArray) (v0 v : Value) (hi : l[i]? = some (s,v0)) (x : ByteArray) : zcy (l.set i (s,v)) x = if x = s then some v else zcy l x := by
 induction l generalizing i with
 | nil => simp at hi
 | cons p l ih =>
  rw [List.map_cons,List.nodup_cons] at hd
  cases i with
  | zero =>
   rw [List.getElem?_cons_zero] at hi
   injection hi with hi
   subst hi
   rw [List.set_cons_zero,za7,za7]
   by_cases h : s = x
   ·rw [if_pos h,if_pos h.symm]
   ·rw [if_neg h,if_neg (fun e => h e.symm),if_neg h]
  | succ i =>
   rw [List.getElem?_cons_succ] at hi
   rw [List.set_cons_succ,za7,za7,ih hd.2 i hi]
   by_cases h : p.1 = x
   ·have : x ≠ s := fun e => hd.1 (List.mem_map.2 ⟨(s,v0),List.mem_of_getElem? hi,(h.trans e).symm⟩)
    rw [if_pos h,if_neg this,if_pos h]
   ·rw [if_neg h,if_neg h]
theorem zha (l : List (ByteArray × Value)) (hd : (l.map (·.1)).Nodup) (i : Nat) (s : ByteArray) (v0 : Value) (hi : l[i]? = some (s,v0)) (x : ByteArray) : zcy (l.eraseIdx i) x = if x = s then none else zcy l x := by
 induction l generalizing i with
 | nil => simp at hi
 | cons p l ih =>
  rw [List.map_cons,List.nodup_cons] at hd
  cases i with
  | zero =>
   rw [List.getElem?_cons_zero] at hi
   injection hi with hi
   subst hi
   rw [List.eraseIdx_cons_zero,za7]
   by_cases h : x = s
   ·subst h
    rw [if_pos rfl]
    unfold zcy
    rw [zfm.2 (fun q hq e => hd.1 (List.mem_map.2 ⟨q,hq,e⟩))];rfl
   ·rw [if_neg h,if_neg (fun e => h e.symm)]
  | succ i =>
   rw [List.getElem?_cons_succ] at hi
   rw [List.eraseIdx_cons_succ,za7,za7,ih hd.2 i hi]
   by_cases h : p.1 = x
   ·have : x ≠ s := fun e => hd.1 (List.mem_map.2 ⟨(s,v0),List.mem_of_getElem? hi,(h.trans e).symm⟩)
    rw [if_pos h,if_neg this,if_pos h]
   ·rw [if_neg h,if_neg h]
theorem zdz {α β : Type} (f : α → β) : ∀ (l : List α) (i : Nat),(l.eraseIdx i).map f = (l.map f).eraseIdx i
 | [],_ => by simp
 | _ :: _,0 => rfl
 | a :: l,i + 1 => by rw [List.eraseIdx_cons_succ,List.map_cons,List.map_cons,List.eraseIdx_cons_succ,zdz f l i]
theorem zfr {l : List (ByteArray × Value)} (hd : (l.map (·.1)).Nodup) {i : Nat} {s : ByteArray} {v0 v : Value} (hi : l[i]? = some (s,v0)) : ((l.set i (s,v)).map (·.1)).Nodup := by
 have : (l.set i (s,v)).map (·.1) = l.map (·.1) := by
  rw [List.map_set]
  apply List.ext_getElem?
  intro j
  rw [List.getElem?_set]
  split
  ·rename_i e
   subst e
   rw [List.getElem?_map,hi]
   split
   ·rfl
   ·rename_i h
    have := (List.getElem?_eq_some_iff.1 hi).1
    simp at h;omega
  ·rfl
 rw [this];exact hd
theorem zhc (h : zaU w g F) (ht : P.underlying t = some (.map k e)) (hk : P.underlying k = some .string) (s : ByteArray) (v : Value) :
  ∃ w',(Instr.mapUpdate t (.map (some g)) (.string s) v).run P w = .ok () w' ∧ zaU w' g (fun x => if x = s then some v else F x) ∧ w.grownBy w' (some g) := by
 obtain ⟨es,c,l,h1,h2,h3,h4⟩ := h
 have hf := zck s es.toList l 0 h2
 rcases hl : zbW l s 0 with _ | ⟨i,v0⟩
 ·rw [hl] at hf
  have hn := zfm.1 hl
  refine ⟨_,by simp [Instr.mapUpdate,run_underlying ht,Go.MapKept.run_getObj_map h1,Go.MapKept.run_checkKey hk (zbv s),Go.MapKept.run_findKey hk hf,Go.MapKept.run_setObj_map _ h1,Result.andThen];rfl,⟨_,_,l ++ [(s,v)],(Go.MapKept.heap_set h1).1,?_,?_,fun x => ?_⟩,zdy h1 _⟩
  ·rw [Array.toList_push,List.map_append,List.map_append,h2];rfl
  ·rw [List.map_append,List.nodup_append]
   refine ⟨h3,by simp,?_⟩
   intro a ha b hb
   obtain ⟨q,hq,rfl⟩ := List.mem_map.1 ha
   simp at hb
   subst hb
   exact hn q hq
  ·rw [zgs l s v hn x,h4]
 ·rw [hl] at hf
  have hi := zfn hl
  have hie : es.toList[i]? = some (es.toList[i]?.getD default) ∧ entM (es.toList[i]?.getD default) = strM (s,v0) := by
   have hm : (es.toList.map entM)[i]? = (l.map strM)[i]? := by rw [h2]
   rw [List.getElem?_map,List.getElem?_map,hi] at hm
   rcases he : es.toList[i]? with _ | e0
   ·rw [he] at hm;cases hm
   ·rw [he] at hm;exact ⟨rfl,by simpa using hm⟩
  obtain ⟨he,hv⟩ := hie
  generalize es.toList[i]?.getD default = e0 at he hv
  have he' : es[i]? = some e0 := by rw [← Array.getElem?_toList];exact he
  have hkey : e0.key = .string s := congrArg Prod.fst hv
  refine ⟨_,by simp [Instr.mapUpdate,run_underlying ht,Go.MapKept.run_getObj_map h1,Go.MapKept.run_checkKey hk (zbv s),Go.MapKept.run_findKey hk hf,he',hkey,Go.MapKept.run_keyThatStays (zbv s),Go.MapKept.run_setObj_map _ h1,Result.andThen];rfl,⟨_,_,l.set i (s,v),(Go.MapKept.heap_set h1).1,?_,zfr h3 hi,fun x => ?_⟩,zdy h1 _⟩
  ·apply List.ext_getElem?
   intro j
   rw [List.getElem?_map,Array.getElem?_toList,Array.getElem?_modify,List.getElem?_map,List.getElem?_set]
   have hm : (es.toList.map entM)[j]? = (l.map strM)[j]? := by rw [h2]
   rw [List.getElem?_map,List.getElem?_map,Array.getElem?_toList] at hm
   by_cases hij : i = j
   ·subst hij
    rw [he',if_pos rfl,if_pos rfl,if_pos (List.getElem?_eq_some_iff.1 hi).1];rfl
   ·rw [if_neg hij,if_neg hij];exact hm
  ·rw [ziz l h3 i s v0 v hi x,h4]
theorem mapF_del (h : zaU w g F) (ht : P.underlying t = some (.map k e)) (hk : P.underlying k = some .string) (ty : TypeId) (s : ByteArray) :
  ∃ w',(Builtin.delete_ #[t,k] ty #[.map (some g),.string s]).run P w = .ok (.tuple #[]) w' ∧ zaU w' g (fun x => if x = s then none else F x) ∧ w.grownBy w' (some g) := by
 obtain ⟨es,c,l,h1,h2,h3,h4⟩ := h
 have hf := zck s es.toList l 0 h2
 rcases hl : zbW l s 0 with _ | ⟨i,v0⟩
 ·rw [hl] at hf
  refine ⟨_,by simp [Builtin.delete_,run_underlying ht,Go.MapKept.run_getObj_map h1,Go.MapKept.run_checkKey hk (zbv s),Go.MapKept.run_findKey hk hf,Go.MapKept.run_setObj_map _ h1,Result.andThen];rfl,⟨_,_,l,(Go.MapKept.heap_set h1).1,h2,h3,fun x => ?_⟩,zdy h1 _⟩
  show zcy l x = if x = s then none else F x
  by_cases hx : x = s
  ·subst hx
   rw [if_pos rfl];unfold zcy;rw [hl];rfl
  ·rw [if_neg hx,h4]
 ·rw [hl] at hf
  have hi := zfn hl
  refine ⟨_,by simp [Builtin.delete_,run_underlying ht,Go.MapKept.run_getObj_map h1,Go.MapKept.run_checkKey hk (zbv s),Go.MapKept.run_findKey hk hf,Go.MapKept.run_setObj_map _ h1,Result.andThen];rfl,⟨_,_,l.eraseIdx i,(Go.MapKept.heap_set h1).1,?_,?_,fun x => ?_⟩,zdy h1 _⟩
  ·rw [Array.toList_eraseIdxIfInBounds,zdz,h2,zdz]
  ·rw [zdz];exact List.Sublist.nodup (List.eraseIdx_sublist _ _) h3
  ·rw [zha l h3 i s v0 hi x,h4]
end
theorem zbx {P : Program} (w : World) {ops : Array Oper} {rest : List Oper} {o : Oper} {a : Act} {Q : Exit → Act → World → Prop}
  (hg : o.guard = none) (m x : Operand) (t : TypeId) (hop : o.op = Op.lookup t m x false) {k e : TypeId} {g : Nat} {F : ByteArray → Option Value} (h : zaU w g F) (ht : P.underlying t = some (.map k e)) (hk : P.underlying k = some .string) {z : Value} (hz : (zeroValue e).run P w = .ok z w)
  (s : ByteArray) (hm : a.eval m = .map (some g)) (hx : a.eval x = .string s) (hK : wpList P ops Q rest (a.put o.dst ((F s).getD z)) w) : wpList P ops Q (o :: rest) a w := by
 refine wpList_plain hg fun K' hK' => ?_
 unfold Oper.wp
 simp [execOp,hop,hm,hx,ziA h ht hk hz s,Result.andThen]
 exact hK' _ _ hK
theorem zbD {P : Program} (w : World) {ops : Array Oper} {rest : List Oper} {o : Oper} {a : Act} {Q : Exit → Act → World → Prop}
  (hg : o.guard = none) (m x : Operand) (t : TypeId) (hop : o.op = Op.lookup t m x true) {k e : TypeId} {g : Nat} {F : ByteArray → Option Value} (h : zaU w g F) (ht : P.underlying t = some (.map k e)) (hk : P.underlying k = some .string) {z : Value} (hz : (zeroValue e).run P w = .ok z w)
  (s : ByteArray) (hm : a.eval m = .map (some g)) (hx : a.eval x = .string s) (hK : wpList P ops Q rest (a.put o.dst (.tuple #[(F s).getD z,.bool (F s).isSome])) w) : wpList P ops Q (o :: rest) a w := by
 refine wpList_plain hg fun K' hK' => ?_
 unfold Oper.wp
 simp [execOp,hop,hm,hx,zhL h ht hk hz s,Result.andThen]
 exact hK' _ _ hK
theorem zcn {P : Program} (w : World) {ops : Array Oper} {rest : List Oper} {o : Oper} {a : Act} {Q : Exit → Act → World → Prop}
  (hg : o.guard = none) (m x v : Operand) (t : TypeId) (hop : o.op = Op.mapUpdate t m x v) {k e : TypeId} {g : Nat} {F : ByteArray → Option Value} (h : zaU w g F) (ht : P.underlying t = some (.map k e)) (hk : P.underlying k = some .string)
  (s : ByteArray) (u : Value) (hm : a.eval m = .map (some g)) (hx : a.eval x = .string s) (hv : a.eval v = u) (hK : ∀ w',zaU w' g (fun y => if y = s then some u else F y) → w.grownBy w' (some g) → wpList P ops Q rest (a.put o.dst undef) w') : wpList P ops Q (o :: rest) a w := by
 refine wpList_plain hg fun K' hK' => ?_
 obtain ⟨w',hrun,r1,r2⟩ := zhc h ht hk s u
 unfold Oper.wp
 simp [execOp,hop,hm,hx,hv,hrun,Result.andThen]
 exact hK' _ _ (hK w' r1 r2)
end Go.Proofs.Ytndjfdakflaggaa.Px
namespace Go.Proofs.Ytndjfdakflaggaa.Px
open Go.RowKit Go.Proofs.YtndjfdakflaggaaW.PrintWords Go.Proofs.YtndjfdakflaggaaW.PrintLast Go.Proofs.YtndjfdakflaggaaW.PrintMore
attribute [local go_sem] zt zv zA zB zq zr zu zw
set_option linter.unusedVariables false
set_option linter.unusedSimpArgs false
theorem adb {w0 w w1 : World} {g : Nat} {o : Obj} (x_ : w0.heap[g]? = some o) (hb_ : Below w.heap.size w w1) (h_ : w0.heap[g]? = some o → w.heap[g]? = some o := by intro x_;(with_reducible repeat (first | refine zL ?_ _ | refine zG ?_ | refine ze ?_ _));exact x_) : w1.heap[g]? = some o := zo (h_ x_) hb_
theorem adl {w w0 w1 w2 : World} (x_ : Below w.heap.size w w0) (hb_ : Below w1.heap.size w1 w2) (h_ : Below w.heap.size w w0 → Below w.heap.size w w1 := by intro x_;(repeat (with_reducible first | exact x_ | apply zi | apply zl | apply zx))) : Below w.heap.size w w2 := zh (h_ x_) hb_
theorem adw {w w0 w1 : World} (x_ : Below w.heap.size w w0) (h_ : Below w.heap.size w w0 → Below w.heap.size w w1 := by intro x_;(repeat (with_reducible first | exact x_ | apply zi | apply zl | apply zx))) : Below w.heap.size w w1 := h_ x_
theorem adg {w w0 w1 : World} {g : Nat} (x_ : Below w.heap.size w w0) (hg_ : g = w1.heap.size) (h_ : Below w.heap.size w w0 → Below w.heap.size w w1 := by intro x_;(repeat (with_reducible first | exact x_ | apply zi | apply zl | apply zx))) : w.heap.size ≤ g := by rw [hg_];exact zj (h_ x_)
theorem adn {w0 w : World} {g q : Nat} {o : Obj} (hg_ : q = w.heap.size) (x_ : w0.heap[g]? = some o) (h_ : w0.heap[g]? = some o → w.heap[g]? = some o := by intro x_;(with_reducible repeat (first | refine zL ?_ _ | refine zG ?_ | refine ze ?_ _));exact x_) : g ≠ q := by rw [hg_];exact Nat.ne_of_lt (zam (h_ x_))
theorem adf {w1 W W' : World} {g q : Nat} {o : Obj} (hw_ : W' = W) (n_ : g ≠ q) (x_ : w1.heap[g]? = some o) (h_ : g ≠ q → w1.heap[g]? = some o → W.heap[g]? = some o := by intro n_ x_;(repeat (first | (with_reducible exact x_) | (with_reducible refine zL ?_ _) | (with_reducible refine zG ?_) | (with_reducible refine ze ?_ _) | refine zbS ?_ n_ _))) : W'.heap[g]? = some o := by rw [hw_];exact h_ n_ x_
theorem adp {w1 W W' : World} {g : Nat} {o o' : Obj} (hw_ : W' = W) (x_ : w1.heap[g]? = some o) (h_ : w1.heap[g]? = some o → W.heap[g]? = some o' := by intro x_;(repeat (first | (with_reducible exact x_) | (with_reducible refine zL ?_ _) | (with_reducible refine zG ?_) | (with_reducible refine ze ?_ _) | apply zaZ));all_goals first | (with_reducible rfl) | (simp only [List.setIfInBounds_toArray,List.set_cons_zero,List.set_cons_succ];done) | rfl) : W'.heap[g]? = some o' := by rw [hw_];exact h_ x_
theorem ads {w w0 W W' : World} {g : Nat} (hw_ : W' = W) (n_ : w.heap.size ≤ g) (x_ : Below w.heap.size w w0) (h_ : w.heap.size ≤ g → Below w.heap.size w w0 → Below w.heap.size w W := by intro n_ x_;(repeat (with_reducible first | exact x_ | apply zi | apply zl | apply zx | refine zm ?_ n_))) : Below w.heap.size w W' := by rw [hw_];exact h_ n_ x_
section
variable {P : Program} {ops : Array Oper} {rest : List Oper} {o : Oper} {a : Act} {Q : Exit → Act → World → Prop}
end
end Go.Proofs.Ytndjfdakflaggaa.Px