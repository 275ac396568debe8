/- Part 22 of 33 of the proof of the law DagRounds: what is proved is the statement at the end of the last part; its conditions are those of the given row. -/
import Derived.MapKept
import Derived.Laws.NewBlocks
import Derived.Maps.OwnOps
import Derived.Test.YtklhjlaofkngcaaZDagRoundsT
namespace Go.Proofs.Ytklhjlaofkngcaa.Px
open Go.RowKit Go.Proofs.YtklhjlaofkngcaaW.PrintWords Go.Proofs.YtklhjlaofkngcaaW.PrintLast Go.Proofs.YtklhjlaofkngcaaW.PrintMore
attribute [local go_sem] zG zI zM zN zB zC zH zJ
set_option linter.unusedVariables false
set_option linter.unusedSimpArgs false
def zct : List (ByteArray × Value) → ByteArray → Nat → Option (Nat × Value)
 | [],_,_ => none
 | p :: l,k,i => if p.1 = k then some (i,p.2) else zct l k (i + 1)
def zeh (l : List (ByteArray × Value)) (k : ByteArray) : Option Value := (zct l k 0).map (·.2)
theorem zcR : ∀ (l : List (ByteArray × Value)) (k : ByteArray) (i : Nat),zct l k i = (zct l k 0).map fun p => (p.1 + i,p.2)
 | [],_,_ => rfl
 | p :: l,k,i => by
  rw [zct,zct]
  split
  ·simp
  ·rw [zcR l k (i + 1),zcR l k (0 + 1),Option.map_map]
   congr 1
   funext q
   simp only [Function.comp]
   rw [Nat.zero_add,Nat.add_assoc,Nat.add_comm 1 i]
theorem zb1 (p : ByteArray × Value) (l : List (ByteArray × Value)) (k : ByteArray) : zeh (p :: l) k = if p.1 = k then some p.2 else zeh l k := by
 unfold zeh
 rw [zct]
 split
 ·rfl
 ·rw [zcR l k (0 + 1),Option.map_map];rfl
theorem zhx {l : List (ByteArray × Value)} {k : ByteArray} : ∀ {i : Nat},zct l k i = none ↔ ∀ p ∈ l,p.1 ≠ k := by
 induction l with
 | nil => simp [zct]
 | cons p l ih =>
  intro i
  rw [zct]
  split
  ·rename_i h;simp [h]
  ·rename_i h;rw [ih];simp [h]
theorem zhy {l : List (ByteArray × Value)} {k : ByteArray} {i : Nat} {v : Value} (h : zct l k 0 = some (i,v)) : l[i]? = some (k,v) := by
 induction l generalizing i with
 | nil => simp [zct] at h
 | cons p l ih =>
  rw [zct] at h
  split at h
  ·rename_i hk
   injection h with h
   injection h with h1 h2
   subst h1;subst h2;subst hk;rfl
  ·rw [zcR,Option.map_eq_some_iff] at h
   obtain ⟨⟨j,u⟩,hj,e⟩ := h
   injection e with e1 e2
   subst e1;subst e2
   exact ih hj
def entM (e : MapEntry) : Value × Value := (e.key,e.val)
def strM (p : ByteArray × Value) : Value × Value := (.string p.1,p.2)
theorem zdx (k : ByteArray) : ∀ (es : List MapEntry) (l : List (ByteArray × Value)) (i : Nat),es.map entM = l.map strM → Instr.findNow .string (.string k) es i = some (zct l k i)
 | [],[],_,_ => rfl
 | [],_ :: _,_,h => by simp at h
 | _ :: _,[],_,h => by simp at h
 | e :: es,p :: l,i,h => by
  rw [List.map_cons,List.map_cons,List.cons.injEq] at h
  obtain ⟨h1,h2⟩ := h
  have ek : e.key = .string p.1 := congrArg Prod.fst h1
  have ev : e.val = p.2 := congrArg Prod.snd h1
  rw [Instr.findNow,ek,Instr.sameNow,zct]
  by_cases hk : p.1 = k
  ·rw [if_pos hk,show (k == p.1) = true from (Go.MapKept.bytes_beq _ _).2 hk.symm]
   simp only [ev]
  ·rw [if_neg hk,show (k == p.1) = false from Bool.eq_false_iff.2 (fun e => hk ((Go.MapKept.bytes_beq _ _).1 e).symm)]
   exact zdx k es l (i + 1) h2
def zc7 (W : World) (g : Nat) (F : ByteArray → Option Value) : Prop :=
 ∃ (es : Array MapEntry) (c : Nat) (l : List (ByteArray × Value)),W.heap[g]? = some (.map es c) ∧ es.toList.map entM = l.map strM ∧ (l.map (·.1)).Nodup ∧ ∀ k,zeh l k = F k
theorem mapF_new (W : World) : zc7 (W.alloc (.map #[] 0)) W.heap.size (fun _ => none) := ⟨#[],0,[],heap_alloc_new W _,rfl,by simp,fun _ => rfl⟩
theorem zgh {W W' : World} {g : Nat} {F : ByteArray → Option Value} (h : zc7 W g F) (hm : W'.heap[g]? = W.heap[g]?) : zc7 W' g F := by
 obtain ⟨es,c,l,h1,h2⟩ := h
 exact ⟨es,c,l,hm.trans h1,h2⟩
theorem zfg {W : World} {g : Nat} {F : ByteArray → Option Value} (h : zc7 W g F) : g < W.heap.size := by
 obtain ⟨es,c,l,h1,_⟩ := h
 exact (Array.getElem?_eq_some_iff.1 h1).1
theorem zfx {W W' : World} {g : Nat} {F : ByteArray → Option Value} (h : zc7 W g F) (hb : Below W.heap.size W W') : zc7 W' g F := zgh h (hb.block g (zfg h))
theorem zhz {W : World} {g : Nat} {F : ByteArray → Option Value} (h : zc7 W g F) (o : Obj) : zc7 (W.alloc o) g F := zfx h (Below.alloc (Below.refl _ _) (Nat.le_refl _) o)
theorem zhA {W W' : World} {g : Nat} {F : ByteArray → Option Value} (h : zc7 W g F) {row : Option Nat} (hg : W.grownBy W' row) (hr : some g ≠ row) : zc7 W' g F := zgh h (hg.block g (zfg h) hr)
theorem zh8 {W : World} {g : Nat} {F F' : ByteArray → Option Value} (h : zc7 W g F) (e : ∀ k,F k = F' k) : zc7 W g F' := by
 obtain ⟨es,c,l,h1,h2,h3,h4⟩ := h
 exact ⟨es,c,l,h1,h2,h3,fun k => (h4 k).trans (e k)⟩
section
variable {P : Program} {w : World} {t k e : TypeId} {g : Nat} {F : ByteArray → Option Value}
theorem zc4 (s : ByteArray) : Go.MapKept.IsKey .string (.string s) := by simp [Go.MapKept.IsKey]
theorem zix (h : zc7 w g F) (ht : P.underlying t = some (.map k e)) (hk : P.underlying k = some .string) {z : Value} (hz : (zeroValue e).run P w = .ok z w) (s : ByteArray) :
  (Instr.lookup t (.map (some g)) (.string s) false).run P w = .ok ((F s).getD z) w := by
 obtain ⟨es,c,l,h1,h2,h3,h4⟩ := h
 have hf := zdx s es.toList l 0 h2
 rw [← h4 s]
 unfold zeh
 rcases hl : zct l s 0 with _ | ⟨i,v⟩
 ·rw [hl] at hf
  simp [Instr.lookup,run_underlying ht,Go.MapKept.run_getObj_map h1,Go.MapKept.run_checkKey hk (zc4 s),Go.MapKept.run_findKey hk hf,hz,Result.andThen]
 ·rw [hl] at hf
  simp [Instr.lookup,run_underlying ht,Go.MapKept.run_getObj_map h1,Go.MapKept.run_checkKey hk (zc4 s),Go.MapKept.run_findKey hk hf,hz,Result.andThen]
theorem zge {w : World} {g : Nat} {o : Obj} (hb : w.heap[g]? = some o) (o' : Obj) : w.grownBy { w with heap := w.heap.setIfInBounds g o' } (some g) :=
 ⟨rfl,rfl,rfl,by simp,fun i _ hi => (Go.MapKept.heap_set (o' := o') hb).2 i (fun e => hi (by rw [e]))⟩
theorem zgB (l : List (ByteArray × Value)) (s : ByteArray) (v : Value) (hn : ∀ p ∈ l,p.1 ≠ s) (x : ByteArray) : zeh (l ++ [(s,v)]) x = if x = s then some v else zeh l x := by
 induction l with
 | nil =>
  rw [List.nil_append,zb1]
  by_cases h : s = x
  ·rw [if_pos h,if_pos h.symm]
  ·rw [if_neg h,if_neg (fun e => h e.symm)]
 | cons p l ih =>
  rw [List.cons_append,zb1,zb1,ih (fun q hq => hn q (List.mem_cons_of_mem _ hq))]
  by_cases h : p.1 = x
  ·have : x ≠ s := fun e => hn p List.mem_cons_self (h.trans e)
   rw [if_pos h,if_neg this,if_pos h]
  ·rw [if_neg h,if_neg h]
theorem ziw (l : List (ByteArray × Value)) (hd : (l.map (·.1)).Nodup) (i : Nat) (s : ByteArray) (v0 v : Value) (hi : l[i]? = some (s,v0)) (x : ByteArray) : zeh (l.set i (s,v)) x = if x = s then some v else zeh l x := by
 induction l generalizing i with
 | nil => simp at hi
 | cons p l ih =>
  rw [List.map_cons,List.nodup_cons] at hd
  cases i with
  | zero =>
   rw [List.getElem?_cons_zero] at hi
   injection hi with hi
   subst hi
   rw [List.set_cons_zero,zb1,zb1]
   by_cases h : s = x
   ·rw [if_pos h,if_pos h.symm]
   ·rw [if_neg h,if_neg (fun e => h e.symm),if_neg h]
  | succ i =>
   rw [List.getElem?_cons_succ] at hi
   rw [List.set_cons_succ,zb1,zb1,ih hd.2 i hi]
   by_cases h : p.1 = x
   ·have : x ≠ s := fun e => hd.1 (List.mem_map.2 ⟨(s,v0),List.mem_of_getElem? hi,(h.trans e).symm⟩)
    rw [if_pos h,if_neg this,if_pos h]
   ·rw [if_neg h,if_neg h]
theorem zfy {l : List (ByteArray × Value)} (hd : (l.map (·.1)).Nodup) {i : Nat} {s : ByteArray} {v0 v : Value} (hi : l[i]? = some (s,v0)) : ((l.set i (s,v)).map (·.1)).Nodup := by
 have : (l.set i (s,v)).map (·.1) = l.map (·.1) := by
  rw [List.map_set]
  apply List.ext_getElem?
  intro j
  rw [List.getElem?_set]
  split
  ·rename_i e
   subst e
   rw [List.getElem?_map,hi]
   split
   ·rfl
   ·rename_i h
    have := (List.getElem?_eq_some_iff.1 hi).1
    simp at h;omega
  ·rfl
 rw [this];exact hd
theorem mapF_put (h : zc7 w g F) (ht : P.underlying t = some (.map k e)) (hk : P.underlying k = some .string) (s : ByteArray) (v : Value) :
  ∃ w',(Instr.mapUpdate t (.map (some g)) (.string s) v).run P w = .ok () w' ∧ zc7 w' g (fun x => if x = s then some v else F x) ∧ w.grownBy w' (some g) := by
 obtain ⟨es,c,l,h1,h2,h3,h4⟩ := h
 have hf := zdx s es.toList l 0 h2
 rcases hl : zct l s 0 with _ | ⟨i,v0⟩
 ·rw [hl] at hf
  have hn := zhx.1 hl
  refine ⟨_,by simp [Instr.mapUpdate,run_underlying ht,Go.MapKept.run_getObj_map h1,Go.MapKept.run_checkKey hk (zc4 s),Go.MapKept.run_findKey hk hf,Go.MapKept.run_setObj_map _ h1,Result.andThen];rfl,⟨_,_,l ++ [(s,v)],(Go.MapKept.heap_set h1).1,?_,?_,fun x => ?_⟩,zge h1 _⟩
  ·rw [Array.toList_push,List.map_append,List.map_append,h2];rfl
  ·rw [List.map_append,List.nodup_append]
   refine ⟨h3,by simp,?_⟩
   intro a ha b hb
   obtain ⟨q,hq,rfl⟩ := List.mem_map.1 ha
   simp at hb
   subst hb
   exact hn q hq
  ·rw [zgB l s v hn x,h4]
 ·rw [hl] at hf
  have hi := zhy hl
  have hie : es.toList[i]? = some (es.toList[i]?.getD default) ∧ entM (es.toList[i]?.getD default) = strM (s,v0) := by
   have hm : (es.toList.map entM)[i]? = (l.map strM)[i]? := by rw [h2]
   rw [List.getElem?_map,List.getElem?_map,hi] at hm
   rcases he : es.toList[i]? with _ | e0
   ·rw [he] at hm;cases hm
   ·rw [he] at hm;exact ⟨rfl,by simpa using hm⟩
  obtain ⟨he,hv⟩ := hie
  generalize es.toList[i]?.getD default = e0 at he hv
  have he' : es[i]? = some e0 := by rw [← Array.getElem?_toList];exact he
  have hkey : e0.key = .string s := congrArg Prod.fst hv
  refine ⟨_,by simp [Instr.mapUpdate,run_underlying ht,Go.MapKept.run_getObj_map h1,Go.MapKept.run_checkKey hk (zc4 s),Go.MapKept.run_findKey hk hf,he',hkey,Go.MapKept.run_keyThatStays (zc4 s),Go.MapKept.run_setObj_map _ h1,Result.andThen];rfl,⟨_,_,l.set i (s,v),(Go.MapKept.heap_set h1).1,?_,zfy h3 hi,fun x => ?_⟩,zge h1 _⟩
  ·apply List.ext_getElem?
   intro j
   rw [List.getElem?_map,Array.getElem?_toList,Array.getElem?_modify,List.getElem?_map,List.getElem?_set]
   have hm : (es.toList.map entM)[j]? = (l.map strM)[j]? := by rw [h2]
   rw [List.getElem?_map,List.getElem?_map,Array.getElem?_toList] at hm
   by_cases hij : i = j
   ·subst hij
    rw [he',if_pos rfl,if_pos rfl,if_pos (List.getElem?_eq_some_iff.1 hi).1];rfl
   ·rw [if_neg hij,if_neg hij];exact hm
  ·rw [ziw l h3 i s v0 v hi x,h4]
end
theorem zep {P : Program} (w : World) {ops : Array Oper} {rest : List Oper} {o : Oper} {a : Act} {Q : Exit → Act → World → Prop}
  (hg : o.guard = none) (m x : Operand) (t : TypeId) (hop : o.op = Op.lookup t m x false) {k e : TypeId} {g : Nat} {F : ByteArray → Option Value} (h : zc7 w g F) (ht : P.underlying t = some (.map k e)) (hk : P.underlying k = some .string) {z : Value} (hz : (zeroValue e).run P w = .ok z w)
  (s : ByteArray) (hm : a.eval m = .map (some g)) (hx : a.eval x = .string s) (hK : wpList P ops Q rest (a.put o.dst ((F s).getD z)) w) : wpList P ops Q (o :: rest) a w := by
 refine wpList_plain hg fun K' hK' => ?_
 unfold Oper.wp
 simp [execOp,hop,hm,hx,zix h ht hk hz s,Result.andThen]
 exact hK' _ _ hK
theorem zhn {P : Program} (w : World) {ops : Array Oper} {rest : List Oper} {o : Oper} {a : Act} {Q : Exit → Act → World → Prop}
  (hg : o.guard = none) (m x v : Operand) (t : TypeId) (hop : o.op = Op.mapUpdate t m x v) {k e : TypeId} {g : Nat} {F : ByteArray → Option Value} (h : zc7 w g F) (ht : P.underlying t = some (.map k e)) (hk : P.underlying k = some .string)
  (s : ByteArray) (u : Value) (hm : a.eval m = .map (some g)) (hx : a.eval x = .string s) (hv : a.eval v = u) (hK : ∀ w',zc7 w' g (fun y => if y = s then some u else F y) → w.grownBy w' (some g) → wpList P ops Q rest (a.put o.dst undef) w') : wpList P ops Q (o :: rest) a w := by
 refine wpList_plain hg fun K' hK' => ?_
 obtain ⟨w',hrun,r1,r2⟩ := mapF_put h ht hk s u
 unfold Oper.wp
 simp [execOp,hop,hm,hx,hv,hrun,Result.andThen]
 exact hK' _ _ (hK w' r1 r2)
end Go.Proofs.Ytklhjlaofkngcaa.Px
namespace Go.Proofs.Ytklhjlaofkngcaa.Px
open Go.RowKit Go.Proofs.YtklhjlaofkngcaaW.PrintWords Go.Proofs.YtklhjlaofkngcaaW.PrintLast Go.Proofs.YtklhjlaofkngcaaW.PrintMore
attribute [local go_sem] zG zI zM zN zB zC zH zJ
set_option linter.unusedVariables false
set_option linter.unusedSimpArgs false
def zb0 (L : List Ent) (r : Int) : List Ent := L.filter fun x => decide (x.f1.f1 = r)
theorem zeR (x : Ent) (L : List Ent) (r : Int) : zb0 (x :: L) r = if x.f1.f1 = r then x :: zb0 L r else zb0 L r := by
 unfold zb0;rw [List.filter_cons];simp
theorem rdE_at (L : List Ent) (j : Nat) (h : j < L.length) : zd L (j : Int) = L[j] := by
 rw [zd,Int.toNat_natCast,List.getD_eq_getElem?_getD,List.getElem?_eq_getElem h];rfl
theorem zg1 (L : List Ent) (r : Int) (hl : L.length < 1466015503701) (d : Nat) : ∀ (j : Nat) (acc : List Ent),j + d = L.length → acc.length ≤ j → Ev (fun k => zaL.l0 k r acc L (L.length : Int) (j : Int)) (acc ++ zb0 (L.drop j) r) := by
 induction d with
 | zero =>
  intro j acc h ha
  refine Ev.step (fun k => by rw [zaL.l0]) ?_
  rw [List.drop_of_length_le (by omega)]
  exact zT (by omega) (z6 (Ev.now _) (by simp [zb0]))
 | succ d ih =>
  intro j acc h ha
  refine Ev.step (fun k => by rw [zaL.l0]) ?_
  have hlt : j < L.length := by omega
  have e2 : wrap64 ((j : Int) + 1) = ((j + 1 : Nat) : Int) := by rw [zZ (by omega) (by omega)];omega
  rw [rdE_at L j hlt,e2,List.drop_eq_getElem_cons hlt]
  refine zF (by omega) (zF (by omega) (zF (by omega) ?_))
  by_cases hb : L[j].f1.f1 = r
  ·refine zF hb (zF (by omega) (z6 (ih (j + 1) (acc ++ [L[j]]) (by omega) (by rw [List.length_append];simp;omega)) ?_))
   rw [zeR,if_pos hb,List.append_assoc];rfl
  ·refine zT hb (z6 (ih (j + 1) acc (by omega) (by omega)) ?_)
   rw [zeR,if_neg hb]
theorem zdw (n low : Int) (L : List Ent) (r : Int) (hl : L.length < 1466015503701) : Ev (fun k => zaL.f k n low L r) (zb0 L r) := by
 have := zg1 L r hl L.length 0 [] (by omega) (by simp)
 rwa [List.drop_zero,List.nil_append] at this
theorem zfZ (L : List Ent) (r : Int) : (zb0 L r).length ≤ L.length := List.length_filter_le _ _
def zgy (R : List Ent) (k : Nat) (s : ByteArray) : Option Value := if (R.take k).any (fun x => decide (x.f0 = s)) = true then some (.bool true) else none
theorem zis (R : List Ent) (s : ByteArray) : none = zgy R 0 s := by simp [zgy]
theorem zir (R : List Ent) (k : Nat) (x : Ent) (hx : R[k]? = some x) (s : ByteArray) : (if s = x.f0 then some (Value.bool true) else zgy R k s) = zgy R (k + 1) s := by
 unfold zgy
 rw [List.take_add_one,hx,List.any_append]
 by_cases h : s = x.f0
 ·subst h;simp
 ·have : ¬ x.f0 = s := fun e => h e.symm
  simp [h,this]
theorem zh4 (R : List Ent) (s : ByteArray) : (zgy R R.length s).getD (.bool false) = .bool (R.any fun x => decide (x.f0 = s)) := by
 unfold zgy
 rw [List.take_length]
 cases h : R.any fun x => decide (x.f0 = s) <;> simp
def zc6 (R : List Ent) (ps : List ByteArray) : List ByteArray := ps.filter fun p => !(R.any fun x => decide (x.f0 = p))
theorem lostL_eq (L : List Ent) (low r : Int) (ps : List ByteArray) (h : ¬ wrap64 (r - 1) ≤ low) : zc6 (zb0 L (wrap64 (r - 1))) ps = zbF L low r ps := by
 unfold zc6 zbF zb0
 rw [if_neg h]
 congr 1
 funext p
 rw [List.any_filter]
 congr 2
 funext x
 simp
theorem zal.infoS : (Try.prog.info? 9).map (fun i => (i.zero,i.size,i.bytes)) = some (some (.string ⟨#[]⟩),1,16) := by kernel_rfl
theorem zal.zeroB : ∀ w : World,(zeroValue 4).run Try.prog w = .ok (.bool false) w := fun _ => by kernel_rfl
set_option maxHeartbeats 8000000 in
set_option maxRecDepth 100000 in
theorem zal.walk0 (a0_0 : Int) (a0_1 : Int) (A0_2 : Option Addr) (n0_2 c0_2 : Nat) (a1_0 : Int) (a1_1 : Int) (A1_2 : Option Addr) (n1_2 c1_2 : Nat) (A1_3 : Option Addr) (n1_3 c1_3 : Nat) (a1_4 : Int) (a1_5 : Int) (w : World) (h : wrap64 (a1_1 - 1) ≤ a0_1) :
  Calls Try.prog 18 #[.agg #[.int .i64 a0_0,.int .i64 a0_1,.slice A0_2 n0_2 c0_2],.agg #[.int .i64 a1_0,.int .i64 a1_1,.slice A1_2 n1_2 c1_2,.slice A1_3 n1_3 c1_3,.int .i64 a1_4,.int .i64 a1_5]] w fun e w' => e = .returned (.slice none 0 0) ∧ Below w.heap.size w w' := by
 have hd : decide (wrap64 (a1_1 - 1) ≤ a0_1) = true := decide_eq_true h
 clear h
 go_enter Try.func18,Try.ntmps18
 go_wp2_with fail
 go_ret
 exact ⟨rfl,zk (zk (Below.refl _ _) _) _⟩
set_option maxHeartbeats 8000000 in
set_option maxRecDepth 100000 in
theorem zal.walk (a0_0 : Int) (a0_1 : Int) (A0_2 : Option Addr) (c0_2 : Nat) (l0_2 : List (S36)) (a1_0 : Int) (a1_1 : Int) (A1_2 : Option Addr) (n1_2 c1_2 : Nat) (A1_3 : Option Addr) (c1_3 : Nat) (l1_3 : List ByteArray) (a1_4 : Int) (a1_5 : Int) (w : World) (hr0_2 : Kd.C k36 w A0_2 l0_2.length l0_2) (hc0_2 : l0_2.length ≤ c0_2) (hr1_3 : Kd.C Kd.string w A1_3 l1_3.length l1_3) (hc1_3 : l1_3.length ≤ c1_3)
  (h : ¬ wrap64 (a1_1 - 1) ≤ a0_1) (hl : l0_2.length < 1466015503701) (hp : l1_3.length ≤ 8796093022208) :
  Calls Try.prog 18 #[.agg #[.int .i64 a0_0,.int .i64 a0_1,.slice A0_2 l0_2.length c0_2],.agg #[.int .i64 a1_0,.int .i64 a1_1,.slice A1_2 n1_2 c1_2,.slice A1_3 l1_3.length c1_3,.int .i64 a1_4,.int .i64 a1_5]] w fun e w' => ∃ v0_ : Value,e = .returned (v0_) ∧ Kd.R Kd.string 9 w' w.heap.size (fun _ => True) v0_ (zc6 (zb0 l0_2 (wrap64 (a1_1 - 1))) l1_3) ∧ Below w.heap.size w w' := by
 obtain ⟨kr,hkr⟩ := (zdw a0_0 a0_1 l0_2 (wrap64 (a1_1 - 1)) hl).rounds
 have HK := za.mk hkr
 have HRL : za ((zb0 l0_2 (wrap64 (a1_1 - 1))).length < 1466015503701) := ⟨Nat.lt_of_le_of_lt (zfZ _ _) hl⟩
 have HR := za.mk hr0_2
 have HC := za.mk hc0_2
 have HRP := za.mk hr1_3
 have HCP := za.mk hc1_3
 have HP := za.mk hp
 have hd : decide (wrap64 (a1_1 - 1) ≤ a0_1) = false := decide_eq_false h
 clear hkr hr0_2 hc0_2 hr1_3 hc1_3 h hl hp
 have HF : za (Kd.F k36 w (fun k_ => k_ < w.heap.size) A0_2 l0_2.length l0_2) := ⟨Kd.C_F zdy HR.out⟩
 generalize zb0 l0_2 (wrap64 (a1_1 - 1)) = R at *
 have hmm := @run_makeMap Try.prog
 go_enter Try.func18,Try.ntmps18
 go_wp2_with (first
  | ((with_reducible refine zv (N := 2) rfl ?_);refine zr ?hg (N := 2) ?hd (cs := #[.int .i64 a0_0,.int .i64 a0_1,.slice A0_2 l0_2.length c0_2]) (t := 24) ?hr ?_;(case hd => rfl);(case hg => rfl);(case hr => first | (go_simp;done) | (go_simp;rfl));intro g2 hg w2 hbox hb;have B2 := za.mk hbox;have HB2 := za.mk hb;clear hb hbox hg)
  | ((with_reducible refine zv (N := 3) rfl ?_);refine zr ?hg (N := 3) ?hd (cs := #[.int .i64 a1_0,.int .i64 a1_1,.slice A1_2 n1_2 c1_2,.slice A1_3 l1_3.length c1_3,.int .i64 a1_4,.int .i64 a1_5]) (t := 30) ?hr ?_;(case hd => rfl);(case hg => rfl);(case hr => first | (go_simp;done) | (go_simp;rfl));intro g3 hg w3 hbox hb;have B3 := za.mk hbox;have C2 := za.mk (zu B2.out hb);have HB3 := za.mk (ze HB2.out hb);clear hb hbox hg B2;have x2_0 := (zb C2.out 0).trans rfl;have x2_1 := (zb C2.out 1).trans rfl;have x2_2 := (zb C2.out 2).trans rfl;have x3_1 := (zb B3.out 1).trans rfl;have y2_0 := fun o => (zb (zf C2.out o) 0).trans rfl;have y2_1 := fun o => (zb (zf C2.out o) 1).trans rfl;have y2_2 := fun o => (zb (zf C2.out o) 2).trans rfl;have y3_1 := fun o => (zb (zf B3.out o) 1).trans rfl)
  | (go_at_call 15;(with_reducible refine (zaL.calls kr a0_0 a0_1 (fun k_ => k_ < w.heap.size) A0_2 c0_2 l0_2 _ R _ (Kd.V_mk HC.out (Kd.F_below HF.out (zk HB3.out _))) HK.out).mono ?_);rintro e w5 ⟨v22,rfl,hN,hb⟩;obtain ⟨A22,c22,rfl⟩ := Kd.N_slice hN;have HV := za.mk (Kd.N_F hN);have HB5 := za.mk (ze (zk HB3.out _) hb);have C3 := za.mk (zu (zf B3.out _) hb);have HM := za.mk (zfx (mapF_new w3) hb);have HG0 : za (w.heap.size ≤ w3.heap.size) := ⟨zh HB3.out⟩;have HLT : za (w3.heap.size < w5.heap.size) := ⟨zfg HM.out⟩;clear hb hN))
 clear hmm x2_0 x2_1 x2_2 x3_1 y2_0 y2_1 y2_2 y3_1 hd
 have HG := za.mk (World.grownBy.refl w5 (some w3.heap.size))
 have HM0 := za.mk (zh8 HM.out (zis R))
 go_loopw [24] (fun v24 wr => ∃ k : Nat,v24 = .int .i64 k ∧ k ≤ R.length ∧ za (zc7 wr w3.heap.size (zgy R k)) ∧ za (w5.grownBy wr (some w3.heap.size))) (fun v24 _ => R.length - (intOf v24).toNat)
 case atStart => exact ⟨0,rfl,Nat.zero_le _,HM0,HG⟩
 case round =>
  clear HG HM0 HM
  obtain ⟨k,rfl,hk,HM,HG⟩ := hrel
  have HRI := HRL.out
  have HV1 : za (Kd.F k36 wr _ A22 R.length R) := ⟨Kd.F_grown HV.out HG.out (fun k_ hk_ he => by injection he with he;subst he;rcases hk_ with hk_ | hk_ <;> have := HG0.out <;> (try simp at hk_) <;> omega)⟩
  by_cases hlt : k < R.length
  ·obtain ⟨ad,A3,c3,A4,c4,rfl,hx0,hx1,hx2,hx3,hx4,hx5,hx6,_,_,_,_⟩ := zaW (Kd.F_now HV1.out) (k : Int) (by omega) (by omega)
   rw [Int.toNat_natCast] at hx0 hx1 hx2 hx3 hx4 hx5 hx6
   have hb : decide (k < R.length) = true := decide_eq_true hlt
   have HX : za (R[k]? = some (zd R (k : Int))) := ⟨by rw [zd,Int.toNat_natCast,List.getD_eq_getElem?_getD,List.getElem?_eq_getElem hlt];rfl⟩
   clear HV1
   generalize zd R (k : Int) = s at *
   obtain ⟨s0,⟨s1,s2,s3,s4,⟨s5,s6⟩⟩⟩ := s
   go_wp2_with (at_mapUpdate;refine zhn _ rfl _ _ _ 57 rfl (zhz HM.out _) Try.underlying57 Try.underlying9 s0 (.bool true) rfl rfl rfl ?_;intro w7 hm7 hg7;have HM7 := za.mk (zh8 hm7 (zir R k _ HX.out));have HG7 := za.mk (HG.out.trans ((World.grownBy_alloc wr _ _).trans hg7));clear hm7 hg7)
   go_roundw
   case rel => exact ⟨k + 1,by go_num,by omega,HM7,HG7⟩
   case measure => simp [intOf];omega
  ·obtain rfl : k = R.length := by omega
   have hb : decide (R.length < R.length) = false := decide_eq_false hlt
   have HNE : za (some g3 ≠ some w3.heap.size) := ⟨fun he => by injection he with he;have := za1 B3.out;omega⟩
   have B3r := za.mk (zaI C3.out HG.out HNE.out)
   have HBr : za (Below w.heap.size w wr) := ⟨zcK HB5.out (some w3.heap.size) (zh HB5.out) HG.out (fun k_ e_ => by injection e_ with e_;subst e_;exact HG0.out)⟩
   have z3_3 := (zb B3r.out 3).trans rfl
   have hm3 := HRP.out.2.1
   clear HV1
   go_wp2_with fail
   clear z3_3
   go_loopw [8,35] (fun v8 v35 wq => ∃ j : Nat,v35 = .int .i64 j ∧ j ≤ l1_3.length ∧ za (Kd.R Kd.string 9 wq w.heap.size (fun k_ => k_ ≠ w3.heap.size) v8 (zc6 R (l1_3.take j))) ∧ za (zc7 wq w3.heap.size (zgy R R.length)) ∧ za (Below w.heap.size w wq)) (fun _ v35 _ => l1_3.length - (intOf v35).toNat)
   case atStart => exact ⟨0,rfl,Nat.zero_le _,⟨Kd.R_nil _ _ _ _ _⟩,HM,HBr⟩
   case round =>
    clear HM HBr B3r HG
    obtain ⟨j,rfl,hj,HO,HM,HB⟩ := hrel
    by_cases hlt2 : j < l1_3.length
    ·obtain ⟨ad,rfl,hcell⟩ := Kd.at_string HRP.out (j : Int) (by omega) (by omega)
     rw [Int.toNat_natCast] at hcell
     replace hcell := (HB.out.cell (World.block_lt_of_cell? w _ hcell)).trans hcell
     have hb2 : decide (j < l1_3.length) = true := decide_eq_true hlt2
     have HT : za (l1_3.take (j + 1) = l1_3.take j ++ [zE ByteArray.empty l1_3 (j : Int)]) := ⟨by
      rw [zE,Int.toNat_natCast,List.getD_eq_getElem?_getD,List.getElem?_eq_getElem hlt2,List.take_add_one,List.getElem?_eq_getElem hlt2];rfl⟩
     generalize zE ByteArray.empty l1_3 (j : Int) = s at *
     rcases hq : R.any (fun x => decide (x.f0 = s)) with _ | _
     ·have HQ := za.mk hq
      clear hq
      have HLN : za (((zc6 R (l1_3.take j)).length + 1) * 16 ≤ 140737488355328) := ⟨by
       have h1 : (zc6 R (l1_3.take j)).length ≤ (l1_3.take j).length := List.length_filter_le _ _
       rw [List.length_take] at h1
       have := HP.out
       omega⟩
      have HL : za (zc6 R (l1_3.take (j + 1)) = zc6 R (l1_3.take j) ++ [s]) := ⟨by
       rw [HT.out,zc6,List.filter_append]
       show _ ++ List.filter (fun p => !R.any fun x => decide (x.f0 = p)) [s] = _
       rw [List.filter_cons,HQ.out];rfl⟩
      go_wp2_with (first
       | (at_lookup;refine zep _ rfl _ _ 57 rfl HM.out Try.underlying57 Try.underlying9 (zal.zeroB _) s rfl rfl ?_;rw [zh4,HQ.out])
       | (at_builtin;refine Kd.R_append Kd.string (w0 := w) w.heap.size rfl (.tmp 43) (.tmp 45) 26 9 (.string ⟨#[]⟩) 16 rfl Try.underlying26 zal.infoS rfl (by decide) (by omega) _ (zc6 R (l1_3.take j)) s [.string s] (fun k_ => k_ ≠ w3.heap.size) (fun _ => False) rfl rfl ?aP (fun _ hk => hk.elim) ?aF ?aO ?aB ?aS ?aL ?_;(case aP => exact rfl);(case aF => exact (fun k_ hk he => by subst he;have := zfg HM.out;omega));(case aO => exact HO.out);(case aB => exact HB.out);(case aS => exact (zh HB.out));(case aL => exact HLN.out);intro v3 w8 ho hb hg hat;have HO3 := za.mk ho;have HB3' := za.mk hb;have HM3 := za.mk (zhA HM.out hg (Kd.R_away HO.out (fun _ hk => hk)));clear ho hb hg hat))
      go_roundw
      case rel => exact ⟨j + 1,by go_num,by omega,⟨by rw [HL.out];exact HO3.out⟩,HM3,HB3'⟩
      case measure => simp [intOf];omega
     ·have HQ := za.mk hq
      clear hq
      have HL : za (zc6 R (l1_3.take (j + 1)) = zc6 R (l1_3.take j)) := ⟨by
       rw [HT.out,zc6,List.filter_append]
       show _ ++ List.filter (fun p => !R.any fun x => decide (x.f0 = p)) [s] = _
       rw [List.filter_cons,HQ.out];simp;rfl⟩
      go_wp2_with (at_lookup;refine zep _ rfl _ _ 57 rfl HM.out Try.underlying57 Try.underlying9 (zal.zeroB _) s rfl rfl ?_;rw [zh4,HQ.out])
      go_roundw
      case rel => exact ⟨j + 1,by go_num,by omega,⟨by rw [HL.out];exact HO.out⟩,HM,HB⟩
      case measure => simp [intOf];omega
    ·obtain rfl : j = l1_3.length := by omega
     have hb2 : decide (l1_3.length < l1_3.length) = false := decide_eq_false hlt2
     go_wp2_with fail
     go_ret
     exact ⟨_,rfl,by have h_ := Kd.R_mono HO.out (fun _ _ => trivial);rwa [List.take_length] at h_,HB.out⟩
def zal.f (a0_0 : Int) (a0_1 : Int) (l0_2 : List (S36)) (a1_0 : Int) (a1_1 : Int) (l1_2 : List (S72)) (l1_3 : List ByteArray) (a1_4 : Int) (a1_5 : Int) : Option (List ByteArray) := if l0_2.length < 1466015503701 ∧ l1_3.length ≤ 8796093022208 then some (zbF l0_2 a0_1 a1_1 l1_3) else none
theorem zal.calls (a0_0 : Int) (a0_1 : Int) (A0_2 : Option Addr) (c0_2 : Nat) (l0_2 : List (S36)) (a1_0 : Int) (a1_1 : Int) (A1_2 : Option Addr) (c1_2 : Nat) (l1_2 : List (S72)) (A1_3 : Option Addr) (c1_3 : Nat) (l1_3 : List ByteArray) (a1_4 : Int) (a1_5 : Int) (r : List ByteArray) (w : World) (hr0_2 : Kd.C k36 w A0_2 l0_2.length l0_2) (hc0_2 : l0_2.length ≤ c0_2) (hr1_2 : Kd.C k72 w A1_2 l1_2.length l1_2) (hc1_2 : l1_2.length ≤ c1_2) (hr1_3 : Kd.C Kd.string w A1_3 l1_3.length l1_3) (hc1_3 : l1_3.length ≤ c1_3) (h : zal.f a0_0 a0_1 l0_2 a1_0 a1_1 l1_2 l1_3 a1_4 a1_5 = some r) :
  Calls Try.prog 18 #[.agg #[.int .i64 a0_0,.int .i64 a0_1,.slice A0_2 l0_2.length c0_2],.agg #[.int .i64 a1_0,.int .i64 a1_1,.slice A1_2 l1_2.length c1_2,.slice A1_3 l1_3.length c1_3,.int .i64 a1_4,.int .i64 a1_5]] w fun e w' => ∃ v0_ : Value,e = .returned (v0_) ∧ Kd.R Kd.string 9 w' w.heap.size (fun _ => True) v0_ r ∧ Below w.heap.size w w' := by
 unfold zal.f at h
 split at h
 ·rename_i hh
  obtain rfl := Option.some.inj h
  by_cases hw : wrap64 (a1_1 - 1) ≤ a0_1
  ·refine (zal.walk0 a0_0 a0_1 A0_2 _ c0_2 a1_0 a1_1 A1_2 _ c1_2 A1_3 _ c1_3 a1_4 a1_5 w hw).mono ?_
   rintro e w' ⟨rfl,hb⟩
   rw [zbF,if_pos hw]
   exact ⟨_,rfl,Kd.R_nil _ _ _ _ _,hb⟩
  ·rw [← lostL_eq _ _ _ _ hw]
   exact zal.walk a0_0 a0_1 A0_2 c0_2 l0_2 a1_0 a1_1 A1_2 _ c1_2 A1_3 c1_3 l1_3 a1_4 a1_5 w hr0_2 hc0_2 hr1_3 hc1_3 hw hh.1 hh.2
 ·cases h
end Go.Proofs.Ytklhjlaofkngcaa.Px