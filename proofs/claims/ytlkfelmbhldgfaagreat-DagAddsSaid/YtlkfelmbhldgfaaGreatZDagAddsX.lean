/- Part 24 of 36 of the proof of the law DagAdds: what is proved is the statement at the end of the last part; its conditions are those of the given row. -/
import Derived.Test.YtlkfelmbhldgfaaGreatZDagAddsW
namespace Go.Proofs.YtlkfelmbhldgfaaGreat.Px
open Go.RowKit Go.Proofs.YtlkfelmbhldgfaaGreatW.PrintWords Go.Proofs.YtlkfelmbhldgfaaGreatW.PrintLast Go.Proofs.YtlkfelmbhldgfaaGreatW.PrintMore
attribute [local go_sem] zA zC zH zI zv zw zB zD
set_option linter.unusedVariables false
set_option linter.unusedSimpArgs false
def zU.p (low : Int) (x : S42) : Bool := decide (x.f1.f1 ≤ low)
set_option maxHeartbeats 4000000 in
set_option maxRecDepth 100000 in
theorem zU.odd (low : Int) (x0 : ByteArray) (x1 x2 : Int) (A3 : Option Addr) (n3 c3 : Nat) (A4 : Option Addr) (n4 c4 : Nat) (x5 x6 : Int) (g : Nat) (w : World) (hg : w.heap[g]? = some (.cells #[.int .i64 low] 3 (0,0))) :
  Calls Tryz.prog 28 #[.agg #[.string x0,.int .i64 x1,.int .i64 x2,.slice A3 n3 c3,.slice A4 n4 c4,.int .i64 x5,.int .i64 x6],.pointer (some ⟨g,0,none⟩)] w fun e w' => e = .returned (.bool (decide (x2 ≤ low))) ∧ Below w.heap.size w w' := by
 have Hg := za.mk hg
 clear hg
 go_enter Tryz.func28,Tryz.ntmps28
 go_wp2_with ((with_reducible refine zn (N := 2) rfl ?_);refine zl rfl (N := 2) rfl (cs := #[.string x0,.int .i64 x1,.int .i64 x2,.slice A3 n3 c3,.slice A4 n4 c4,.int .i64 x5,.int .i64 x6]) (t := 42) hrq ?_;intro gb hg w2 hbox hb;have BK := za.mk hbox;have HB := za.mk hb;have Ng := za.mk (zm Hg.out hb);have z_0 := (zb BK.out 0).trans rfl;have zf_0 := zc BK.out 0;have z_1 := (zb BK.out 1).trans rfl;have zf_1 := zc BK.out 1;have z_2 := (zb BK.out 2).trans rfl;have zf_2 := zc BK.out 2;have z_3 := (zb BK.out 3).trans rfl;have zf_3 := zc BK.out 3;have z_4 := (zb BK.out 4).trans rfl;have zf_4 := zc BK.out 4;have z_5 := (zb BK.out 5).trans rfl;have zf_5 := zc BK.out 5;have z_6 := (zb BK.out 6).trans rfl;have zf_6 := zc BK.out 6;have zg_0 := (zb Ng.out 0).trans rfl;have zgf_0 := zc Ng.out 0;clear hb hbox hg)
 go_ret
 exact ⟨rfl,HB.out⟩
set_option maxHeartbeats 4000000 in
set_option maxRecDepth 100000 in
theorem zU.idx (low : Int) (g : Nat) (A : Option Addr) (c : Nat) (l : List S42) (w : World) (hr : Kd.C k42 w A l.length l) (hg : w.heap[g]? = some (.cells #[.int .i64 low] 3 (0,0))) :
  Calls Tryz.prog 16 #[.slice A l.length c,.func (.func 28) #[] #[.pointer (some ⟨g,0,none⟩)]] w fun e w' => e = .returned (.int .i64 (zcD (zU.p low) l)) ∧ Below w.heap.size w w' := by
 have hm := hr.2.1
 have HR := za.mk hr
 have Hg := za.mk hg
 clear hr hg
 go_enter Tryz.func16,Tryz.ntmps16
 go_wp2_with fail
 have HB0 := za.mk (Below.refl w.heap.size w)
 go_loopw [5,8] (fun v5 v8 wr => ∃ k : Nat,v8 = .int .i64 k ∧ k ≤ l.length ∧ za (∀ (j : Nat) (y : S42),j < k → l[j]? = some y → zU.p low y = false) ∧ za (Below w.heap.size w wr)) (fun _ v8 _ => l.length - (match v8 with | .int _ q => q | _ => 0).toNat)
 case atStart => exact ⟨0,rfl,Nat.zero_le _,⟨fun j y hj => absurd hj (Nat.not_lt_zero _)⟩,⟨by repeat (first | (with_reducible first | exact HB0.out | apply zk | apply zi | apply zo) | exact HB0.out)⟩⟩
 case round =>
  obtain ⟨k,rfl,hk,HF,HB⟩ := hrel
  by_cases hlt : k < l.length
  ·obtain ⟨ad,A3,c3,A4,c4,rfl,hx0,hx1,hx2,hx3,hx4,hx5,hx6,_,_,_,_⟩ := zaG HR.out (k : Int) (by omega) (by omega)
   replace hx0 := (HB.out.cell (World.block_lt_of_cell? w _ hx0)).trans hx0
   replace hx1 := (HB.out.cell (World.block_lt_of_cell? w _ hx1)).trans hx1
   replace hx2 := (HB.out.cell (World.block_lt_of_cell? w _ hx2)).trans hx2
   replace hx3 := (HB.out.cell (World.block_lt_of_cell? w _ hx3)).trans hx3
   replace hx4 := (HB.out.cell (World.block_lt_of_cell? w _ hx4)).trans hx4
   replace hx5 := (HB.out.cell (World.block_lt_of_cell? w _ hx5)).trans hx5
   replace hx6 := (HB.out.cell (World.block_lt_of_cell? w _ hx6)).trans hx6
   rw [Int.toNat_natCast] at hx0 hx1 hx2 hx3 hx4 hx5 hx6
   have hb : decide (k < l.length) = true := decide_eq_true hlt
   have hx : l[k]? = some (zd l (k : Int)) := by
    rw [zd,Int.toNat_natCast,List.getD_eq_getElem?_getD,List.getElem?_eq_getElem hlt];rfl
   have HX := za.mk hx
   have Ng := za.mk (zm Hg.out HB.out)
   clear hx
   generalize zd l (k : Int) = s at *
   obtain ⟨s0,⟨s1,s2,s3,s4,⟨s5,s6⟩⟩⟩ := s
   rcases ho : zU.p low ⟨s0,⟨s1,s2,s3,s4,⟨s5,s6⟩⟩⟩ with _ | _
   ·have HO := za.mk ho
    clear ho
    go_wp2_with (go_at_call 28;(with_reducible refine (zU.odd low s0 s1 s2 _ _ _ _ _ _ s5 s6 g _ Ng.out).mono ?_);rintro e w1 ⟨rfl,hb1⟩;rw [show (decide (s2 ≤ low)) = _ from HO.out];have HB1 := za.mk (ze HB.out hb1);clear hb1)
    go_roundw
    case rel =>
     refine ⟨k + 1,by go_num,by omega,⟨fun j y hj hy => ?_⟩,HB1⟩
     rcases Nat.lt_succ_iff_lt_or_eq.1 hj with h | h
     ·exact HF.out j y h hy
     ·subst h
      rw [HX.out] at hy
      injection hy with hy
      subst hy
      exact HO.out
    case measure => simp;omega
   ·have HO := za.mk ho
    clear ho
    go_wp2_with (go_at_call 28;(with_reducible refine (zU.odd low s0 s1 s2 _ _ _ _ _ _ s5 s6 g _ Ng.out).mono ?_);rintro e w1 ⟨rfl,hb1⟩;rw [show (decide (s2 ≤ low)) = _ from HO.out];have HB1 := za.mk (ze HB.out hb1);clear hb1)
    go_ret
    exact ⟨by rw [zcE HX.out HO.out HF.out];rfl,HB1.out⟩
  ·obtain rfl : k = l.length := by omega
   go_wp2_with fail
   go_ret
   exact ⟨by rw [zcs (fun j y hy => HF.out j y (List.getElem?_eq_some_iff.1 hy).1 hy)];rfl,HB.out⟩
theorem zhr (L : List Ent) (low : Int) : zcA L low = L.filter fun x => !zU.p low x := by
 unfold zcA
 congr 1
 funext x
 unfold zU.p
 by_cases h : low < x.f1.f1
 ·rw [decide_eq_true h,decide_eq_false (by omega)];rfl
 ·rw [decide_eq_false h,decide_eq_true (by omega)];rfl
theorem ziy {w0 W : World} {P : Nat → Prop} {base g n cap : Nat} {M : List Ent} (h : zcl w0 P W base (.slice (some ⟨g,0,none⟩) n cap) M) (j : Nat) (x : Ent) (hx : M[j]? = some x) :
  ∃ A3 c3 A4 c4,RE w0 P x [.string x.f0,.int .i64 x.f1.f0,.int .i64 x.f1.f1,.slice A3 x.f1.f2.length c3,.slice A4 x.f1.f3.length c4,.int .i64 x.f1.f4.f0,.int .i64 x.f1.f4.f1] ∧ W.cell? ⟨g,j * 7,none⟩ = some (.string x.f0) ∧ W.cell? ⟨g,j * 7 + 1,none⟩ = some (.int .i64 x.f1.f0) ∧ W.cell? ⟨g,j * 7 + 2,none⟩ = some (.int .i64 x.f1.f1) ∧ W.cell? ⟨g,j * 7 + 3,none⟩ = some (.slice A3 x.f1.f2.length c3) ∧ W.cell? ⟨g,j * 7 + 4,none⟩ = some (.slice A4 x.f1.f3.length c4) ∧ W.cell? ⟨g,j * 7 + 5,none⟩ = some (.int .i64 x.f1.f4.f0) ∧ W.cell? ⟨g,j * 7 + 6,none⟩ = some (.int .i64 x.f1.f4.f1) := by
 obtain ⟨A,c,he,_,hrd⟩ := za6.reads h
 injection he with h1 _ _
 subst h1
 have hj : 0 < M.length := by have := (List.getElem?_eq_some_iff.1 hx).1;omega
 obtain ⟨ad,he,hc⟩ := hrd.2.2 hj
 injection he with he
 subst he
 obtain ⟨cs,hl,hR,hcell⟩ := hc j x hx
 obtain ⟨A3,c3,A4,c4,rfl,l3,g3,l4,g4⟩ := zaF hR
 have hk : ∀ i u,[Value.string x.f0,.int .i64 x.f1.f0,.int .i64 x.f1.f1,.slice A3 x.f1.f2.length c3,.slice A4 x.f1.f3.length c4,.int .i64 x.f1.f4.f0,.int .i64 x.f1.f4.f1][i]? = some u → W.cell? ⟨g,j * 7 + i,none⟩ = some u := fun i u hu => by have := hcell i u hu;rwa [zbz] at this
 exact ⟨A3,c3,A4,c4,hR,hk 0 _ rfl,hk 1 _ rfl,hk 2 _ rfl,hk 3 _ rfl,hk 4 _ rfl,hk 5 _ rfl,hk 6 _ rfl⟩
theorem zfB {w0 W : World} {P : Nat → Prop} {base : Nat} {A : Option Addr} {n cap : Nat} {M : List Ent} (h : zcl w0 P W base (.slice A n cap) M) : n = M.length := by
 obtain ⟨A,c,he,_,_⟩ := za6.reads h
 injection he
theorem zhT {w0 W : World} {P : Nat → Prop} {base g n cap : Nat} {M : List Ent} (h : zcl w0 P W base (.slice (some ⟨g,0,none⟩) n cap) M) (i : Nat) (hi : i < M.length) (x : Ent) (cs : List Value) (hx : RE w0 P x cs) :
  zcl w0 P (W.setCells g (i * 7) cs) base (.slice (some ⟨g,0,none⟩) n cap) (M.set i x) := by
 have hn := zfB h
 obtain ⟨inner,ho,hr⟩ := h
 have hlen := hr.1
 obtain ⟨g',cap',cur,he,hb,hc,hle,hcm,hsz,htk⟩ := zeE ho (by omega)
 injection he with h1 _ h3
 injection h1 with h1
 injection h1 with h1 _ _
 subst h1;subst h3
 have hcl := zfC hx
 have hfit : i * 7 + cs.length ≤ cur.size := by rw [hsz,hcl];omega
 obtain ⟨cur',h4,h5,h6⟩ := zeJ cs (i * 7) W cur hc hfit
 refine ⟨_,⟨?_,.inr ⟨g,cap,cur',by rw [List.length_set,hn],hb,h4,by rw [List.length_set];omega,hcm,by rw [h5,hsz],?_⟩⟩,Kd.reps_set hr hi hx hcl⟩
 ·simp only [List.length_append,List.length_take,List.length_drop,List.length_set,hlen,hcl];omega
 ·rw [h6,List.length_set]
  have e1 : cur.toList.take (i * 7) = inner.take (i * 7) := by
   rw [← htk,List.take_take,Nat.min_eq_left (by omega)]
  have e2 : (cur.toList.drop (i * 7 + cs.length)).take (M.length * 7 - (i * 7 + cs.length)) = inner.drop (i * 7 + cs.length) := by
   rw [← htk,List.drop_take]
  have l1 : (inner.take (i * 7) ++ cs).length = i * 7 + cs.length := by rw [List.length_append,List.length_take,hlen];omega
  rw [e1,List.take_append,l1,e2,List.take_of_length_le (by rw [l1,hcl];omega)]
theorem ziO {w0 W W' : World} {P : Nat → Prop} {base g n cap : Nat} {M : List Ent} (h : zcl w0 P W base (.slice (some ⟨g,0,none⟩) n cap) M) (i : Nat) (hi : i < n) (zs : List Value) (hz : zs.length = (n - i) * 7) (cur : Array Value) (hc : W.heap[g]? = some (.cells cur 42 (0,0))) (hW : W' = W.setRow g (cur.toList.take (i * 7) ++ zs ++ cur.toList.drop (i * 7 + zs.length)).toArray) :
  zcl w0 P W' base (.slice (some ⟨g,0,none⟩) i cap) (M.take i) := by
 have hn := zfB h
 obtain ⟨inner,ho,hr⟩ := h
 have hlen := hr.1
 obtain ⟨g',cap',cur',he,hb,hc',hle,hcm,hsz,htk⟩ := zeE ho (by omega)
 injection he with h1 _ h3
 injection h1 with h1
 injection h1 with h1 _ _
 subst h1;subst h3
 rw [hc] at hc'
 injection hc' with hc'
 injection hc' with hc' _ _
 subst hc'
 have hml : (M.take i).length = i := by rw [List.length_take];omega
 subst hW
 refine ⟨inner.take (i * 7),⟨by rw [List.length_take,hlen,hml];omega,.inr ⟨g,cap,_,by rw [hml],hb,setRow_heap W g _ _ _ _ hc,by rw [hml];omega,hcm,?_,?_⟩⟩,Kd.reps_take hr (by omega)⟩
 ·simp only [List.size_toArray,List.length_append,List.length_take,List.length_drop,Array.length_toList,hz,hsz];omega
 ·rw [hml,List.append_assoc,List.take_append_of_le_length (by rw [List.length_take,Array.length_toList];omega),List.take_take,Nat.min_self,← htk,List.take_take,Nat.min_eq_left (by omega)]
theorem zeO {P : Program} (w : World) {ops : Array Oper} {rest : List Oper} {o : Oper} {a : Act} {Q : Exit → Act → World → Prop}
  (hgd : o.guard = none) (x : Operand) (t : TypeId) (ho : o.op = .call { callee := .builtin .clear,args := #[x],argTypes := #[t] })
  (elem : TypeId) (z : Value) (hu : P.underlying t = some (.slice elem)) (hz : (zeroValue elem).run P w = .ok z w) (g off n c : Nat) (hx : a.eval x = .slice (some ⟨g,off,none⟩) n c) (cur : Array Value) (e : TypeId) (hg : w.heap[g]? = some (.cells cur e (0,0)))
  (hfit : off + (Builtin.zeroCells z.cells n).size ≤ cur.size) (h1 : ∀ v ∈ (Builtin.zeroCells z.cells n).toList,v.oneCell' = true) (hn : 0 < n)
  (h : ∀ w' : World,w' = w.setRow g (cur.toList.take off ++ (Builtin.zeroCells z.cells n).toList ++ cur.toList.drop (off + (Builtin.zeroCells z.cells n).size)).toArray → wpList P ops Q rest (a.put o.dst (.tuple #[])) w') : wpList P ops Q (o :: rest) a w := by
 refine wpList_plain hgd fun K' hK' => ?_
 have hrun := zip (P := P) w t o.type elem g off n c cur e z hu hz hg hfit h1 hn
 unfold Oper.wp
 simp [execOp,ho,resolve,invoke,builtin,hx,hrun,Result.andThen]
 exact hK' _ _ (h _ (by rw [List.append_assoc]))
set_option maxHeartbeats 4000000 in
set_option maxRecDepth 100000 in
theorem zU.del0 (w0 : World) (P : Nat → Prop) (w : World) (base : Nat) (low : Int) (g0 : Nat) (hb : Below w0.heap.size w0 w) (hbase : w0.heap.size ≤ base) (hg0 : w.heap[g0]? = some (.cells #[.int .i64 low] 3 (0,0))) (v : Value) (L : List Ent) (ho : zcl w0 P w base v L) (hn : ∀ (j : Nat) (y : Ent),L[j]? = some y → zU.p low y = false) :
  Calls Tryz.prog 27 #[v,.func (.func 28) #[] #[.pointer (some ⟨g0,0,none⟩)]] w fun e w' => e = .returned v ∧ Below w.heap.size w w' := by
 have hv := zgM (b := 0) (e := 0) ho hb hbase
 obtain ⟨A,c,rfl⟩ := Kd.V_slice hv
 have hC := (Kd.V_reads' hv).2.2
 have HI := za.mk (zcs hn)
 have HC := za.mk hC
 have HG0 := za.mk hg0
 clear hv hC hn ho hg0
 go_enter Tryz.func27,Tryz.ntmps27
 go_wp2_with (go_at_call 16;(with_reducible refine (zU.idx low g0 A c L _ HC.out HG0.out).mono ?_);rintro e w1 ⟨rfl,hb1⟩;rw [HI.out];have HB1 := za.mk hb1;clear hb1)
 go_ret
 exact ⟨rfl,HB1.out⟩
theorem zeros_one (z : Array Value) (hz : ∀ k,k < z.size → (z[k]!).oneCell' = true) (n : Nat) : ∀ v ∈ (Builtin.zeroCells z n).toList,v.oneCell' = true := by
 intro v hv
 rw [Array.mem_toList_iff] at hv
 obtain ⟨i,hi,rfl⟩ := Array.mem_map.1 (show v ∈ (Array.range (n * z.size)).map fun i => z[i % z.size]! from hv)
 rw [Array.mem_range] at hi
 exact hz _ (Nat.mod_lt _ (Nat.pos_of_ne_zero (fun h => by rw [h] at hi;simp at hi)))
theorem zU.zeroE : ∀ w : World,(zeroValue 42).run Tryz.prog w = .ok (.agg #[.string ⟨#[]⟩,.int .i64 0,.int .i64 0,.slice none 0 0,.slice none 0 0,.int .i64 0,.int .i64 0]) w := fun _ => by kernel_rfl
theorem zfM (w : World) (g o : Nat) (cs : List Value) : w.grownBy (w.setCells g o cs) (some g) := by
 obtain ⟨h1,h2,h3,h4⟩ := zef g cs o w
 exact ⟨h1,h2,h3,by rw [h4];exact Nat.le_refl _,fun k _ hk => zeI cs o k (fun e => hk (by rw [e]))⟩
theorem zhS {w0 W : World} {P : Nat → Prop} {base g n cap : Nat} {M : List Ent} (h : zcl w0 P W base (.slice (some ⟨g,0,none⟩) n cap) M) (hn : 0 < M.length) : ∃ cur : Array Value,W.heap[g]? = some (.cells cur 42 (0,0)) ∧ cur.size = cap * 7 := by
 obtain ⟨inner,ho,hr⟩ := h
 obtain ⟨g',cap',cur,he,hb,hc,hle,hcm,hsz,htk⟩ := zeE ho hn
 injection he with h1 _ h3
 injection h1 with h1
 injection h1 with h1 _ _
 subst h1;subst h3
 exact ⟨cur,hc,hsz⟩
theorem zhl {w0 W : World} {P : Nat → Prop} {base g n cap : Nat} {M : List Ent} (h : zcl w0 P W base (.slice (some ⟨g,0,none⟩) n cap) M) : ∀ q,0 < q + 1 → W.frozen? ⟨g,q,none⟩ = false := fun q _ => by
 obtain ⟨inner,ho,hr⟩ := h
 rcases ho.2 with ⟨he,_⟩ | ⟨g',_,cur,he,_,hc,_⟩
 ·cases he
 ·injection he with h1 _ _
  injection h1 with h1
  injection h1 with h1 _ _
  subst h1
  exact zc hc q
theorem keep_take {L : List Ent} {low : Int} {k : Nat} {x : Ent} (hx : L[k]? = some x) (hn : ∀ (j : Nat) (y : Ent),j < k → L[j]? = some y → zU.p low y = false) (hp : zU.p low x = true) : L.take k = (L.take (k + 1)).filter (fun x => !zU.p low x) := by
 rw [List.take_add_one,hx,List.filter_append]
 have h1 : (L.take k).filter (fun x => !zU.p low x) = L.take k := List.filter_eq_self.2 fun y hy => by
  obtain ⟨j,hj,rfl⟩ := List.mem_take_iff_getElem.1 hy
  have := hn j L[j] (by omega) (List.getElem?_eq_getElem _)
  simp [this]
 rw [h1];simp [hp]
theorem zgB {L : List Ent} {low : Int} {j : Nat} {x : Ent} (hx : L[j]? = some x) : (L.take (j + 1)).filter (fun x => !zU.p low x) = (L.take j).filter (fun x => !zU.p low x) ++ (if zU.p low x = true then [] else [x]) := by
 rw [List.take_add_one,hx,List.filter_append]
 cases h : zU.p low x <;> simp [h]
set_option maxHeartbeats 16000000 in
set_option maxRecDepth 100000 in
theorem zU.del1 (w0 : World) (P : Nat → Prop) (w : World) (base : Nat) (low : Int) (g0 : Nat) (hb : Below w0.heap.size w0 w) (hbase : w0.heap.size ≤ base) (hg0 : w.heap[g0]? = some (.cells #[.int .i64 low] 3 (0,0))) (g n cap : Nat) (L : List Ent) (ho : zcl w0 P w base (.slice (some ⟨g,0,none⟩) n cap) L) (hl : L.length < 1466015503701) (hne : g0 < base) (k0 : Nat) (x0 : Ent) (hx0 : L[k0]? = some x0) (hp0 : zU.p low x0 = true) (hn0 : ∀ (j : Nat) (y : Ent),j < k0 → L[j]? = some y → zU.p low y = false) :
  Calls Tryz.prog 27 #[.slice (some ⟨g,0,none⟩) n cap,.func (.func 28) #[] #[.pointer (some ⟨g0,0,none⟩)]] w fun e w' => ∃ v' : Value,e = .returned v' ∧ zcl w0 P w' base v' (zcA L low) ∧ w.grownBy w' (some g) := by
 obtain rfl : n = L.length := zfB ho
 have hC := (Kd.V_reads' (zgM (b := 0) (e := 0) ho hb hbase)).2.2
 have HI := za.mk (zcE hx0 hp0 hn0)
 have HC := za.mk hC
 have HG0 := za.mk hg0
 have hgb : base ≤ g := zdZ ho g rfl
 have HO := za.mk ho
 have hcap : L.length ≤ cap := by
  obtain ⟨_,_,he,hle,_⟩ := za6.reads ho
  injection he with _ _ he;omega
 have hk0 : k0 < L.length := (List.getElem?_eq_some_iff.1 hx0).1
 have HK := za.mk (keep_take hx0 hn0 hp0)
 have HB := za.mk hb
 have HBS := za.mk hbase
 have c1 : ((k0 : Int) == -1) = false := beq_eq_false_iff_ne.2 (by omega)
 obtain ⟨i0,hi0,hz0,hsz,hby⟩ := info_parts zb0
 have HIN := za.mk hi0
 have HSZ := za.mk hsz
 clear hC hx0 hp0 hn0 ho hg0 hb hbase hi0 hsz hz0 hby
 go_enter Tryz.func27,Tryz.ntmps27
 go_wp2_with (go_at_call 16;(with_reducible refine (zU.idx low g0 _ cap L _ HC.out HG0.out).mono ?_);rintro e w1 ⟨rfl,hb1⟩;rw [HI.out];have HB1 := za.mk hb1;clear hb1)
 have HG1 : za (w.grownBy w1 (some g)) := ⟨zcg HB1.out _⟩
 have HO1 := za.mk (zdu HO.out HB1.out)
 clear c1
 go_loopw [5,6] (fun v5 v6 wr => ∃ (i j : Nat) (M : List Ent),v5 = .int .i64 i ∧ v6 = .int .i64 j ∧ i < j ∧ j ≤ L.length ∧ M.length = L.length ∧ za (zcl w0 P wr base (.slice (some ⟨g,0,none⟩) L.length cap) M) ∧ za (M.take i = (L.take j).filter (fun x => !zU.p low x)) ∧ za (∀ q,j ≤ q → M[q]? = L[q]?) ∧ za (w.grownBy wr (some g))) (fun _ v6 _ => L.length - (intOf v6).toNat)
 case atStart => exact ⟨k0,k0 + 1,L,rfl,by go_num,Nat.lt_succ_self _,by omega,rfl,HO1,HK,⟨fun _ _ => rfl⟩,HG1⟩
 case round =>
  obtain ⟨i,j,M,rfl,rfl,hij,hj,hML,HM,HT,HD,HG⟩ := hrel
  have HN0 : za (wr.heap[g0]? = some (.cells #[.int .i64 low] 3 (0,0))) := ⟨zaE HG0.out HG.out (fun he => by injection he with he;omega)⟩
  by_cases hlt : j < L.length
  ·obtain ⟨x,hx⟩ : ∃ x,L[j]? = some x := ⟨_,List.getElem?_eq_getElem hlt⟩
   have hmx : M[j]? = some x := (HD.out j (Nat.le_refl _)).trans hx
   obtain ⟨y,hmy⟩ : ∃ y,M[i]? = some y := ⟨_,List.getElem?_eq_getElem (by omega)⟩
   obtain ⟨A3,c3,A4,c4,hR,hx0,hx1,hx2,hx3,hx4,hx5,hx6⟩ := ziy HM.out j x hmx
   have HX := za.mk hx
   have HMY := za.mk hmy
   have HR := za.mk hR
   have hb : decide (j < L.length) = true := decide_eq_true hlt
   have hib : decide (i < L.length) = true := decide_eq_true (by omega)
   clear hx hmx hmy hR
   obtain ⟨s0,⟨s1,s2,s3,s4,⟨s5,s6⟩⟩⟩ := x
   rcases hp : zU.p low ⟨s0,⟨s1,s2,s3,s4,⟨s5,s6⟩⟩⟩ with _ | _
   all_goals
    have HP := za.mk hp
    clear hp
    go_wp2_with (go_at_call 28;(with_reducible refine (zU.odd low s0 s1 s2 _ _ _ _ _ _ s5 s6 g0 _ (zf HN0.out _)).mono ?_);rintro e w2 ⟨rfl,hb1⟩;rw [show (decide (s2 ≤ low)) = _ from HP.out];have HG2 : za (w.grownBy w2 (some g)) := ⟨HG.out.trans ((World.grownBy_alloc wr _ _).trans (zcg hb1 _))⟩;have HM2 := za.mk (zdu HM.out (ze (zk (Below.refl _ _) _) hb1));have BX := za.mk (zm (zbp wr _) hb1);clear hb1;have z_0 := (zb BX.out 0).trans rfl;have zf_0 := zc BX.out 0;have z_1 := (zb BX.out 1).trans rfl;have zf_1 := zc BX.out 1;have z_2 := (zb BX.out 2).trans rfl;have zf_2 := zc BX.out 2;have z_3 := (zb BX.out 3).trans rfl;have zf_3 := zc BX.out 3;have z_4 := (zb BX.out 4).trans rfl;have zf_4 := zc BX.out 4;have z_5 := (zb BX.out 5).trans rfl;have zf_5 := zc BX.out 5;have z_6 := (zb BX.out 6).trans rfl;have zf_6 := zc BX.out 6;obtain ⟨D3,d3,D4,d4,_,k0_,k1_,k2_,k3_,k4_,k5_,k6_⟩ := ziy HM2.out i y HMY.out;have FZ := za.mk (zhl HM2.out);have fz0 := FZ.out (i * 7) (by omega);have fz1 := FZ.out (i * 7 + 1) (by omega);have fz2 := FZ.out (i * 7 + 2) (by omega);have fz3 := FZ.out (i * 7 + 3) (by omega);have fz4 := FZ.out (i * 7 + 4) (by omega);have fz5 := FZ.out (i * 7 + 5) (by omega);have fz6 := FZ.out (i * 7 + 6) (by omega))
   ·go_roundw
    case rel =>
     refine ⟨i + 1,j + 1,M.set i ⟨s0,⟨s1,s2,s3,s4,⟨s5,s6⟩⟩⟩,by go_num,by go_num,by omega,by omega,by rw [List.length_set];exact hML,⟨zhT HM2.out i (by omega) ⟨s0,⟨s1,s2,s3,s4,⟨s5,s6⟩⟩⟩ [.string s0,.int .i64 s1,.int .i64 s2,.slice A3 s3.length c3,.slice A4 s4.length c4,.int .i64 s5,.int .i64 s6] HR.out⟩,⟨?_⟩,⟨fun q hq => ?_⟩,⟨HG2.out.trans (zfM w2 g (i * 7) [.string s0,.int .i64 s1,.int .i64 s2,.slice A3 s3.length c3,.slice A4 s4.length c4,.int .i64 s5,.int .i64 s6])⟩⟩
     ·rw [zgB HX.out,HP.out,← HT.out,List.take_add_one,List.getElem?_set_self (by omega)]
      rw [List.take_set_of_le (Nat.le_refl _)];rfl
     ·rw [List.getElem?_set_ne (by omega)];exact HD.out q (by omega)
    case measure => simp [intOf];omega
   ·go_roundw
    case rel => exact ⟨i,j + 1,M,rfl,by go_num,by omega,by omega,hML,HM2,⟨by rw [zgB HX.out,HP.out,HT.out];simp⟩,⟨fun q hq => HD.out q (by omega)⟩,HG2⟩
    case measure => simp [intOf];omega
  ·obtain rfl : j = L.length := by omega
   have hb : decide (L.length < L.length) = false := decide_eq_false (Nat.lt_irrefl _)
   obtain ⟨cur,hg,hcz⟩ := zhS HM.out (by omega)
   have HCUR := za.mk hg
   have HCZ := za.mk hcz
   have hcutA := zel (P := Tryz.prog) 22 42 .i64 Tryz.underlying22 HIN.out 7 HSZ.out g L.length cap i (i : Int) rfl (by omega) (by omega)
   have hcutB := zgT (P := Tryz.prog) 22 42 .i64 Tryz.underlying22 HIN.out (some ⟨g,0,none⟩) L.length cap (i : Int) (by omega) (by omega) hcap
   rw [Int.toNat_natCast] at hcutB
   have p1 : ((i : Int) ≤ (L.length : Int)) = True := eq_true (by omega)
   have p2 : ((i : Int) ≤ (cap : Int)) = True := eq_true (by omega)
   clear hg hcz
   go_wp2_with (refine zeO _ rfl (.tmp 38) 22 rfl 42 (.agg #[.string ⟨#[]⟩,.int .i64 0,.int .i64 0,.slice none 0 0,.slice none 0 0,.int .i64 0,.int .i64 0]) Tryz.underlying22 (zU.zeroE _) g (i * 7) (L.length - i) (cap - i) rfl cur 42 HCUR.out ?d1 (zeros_one _ (by decide) _) (by omega) ?_;(case d1 => (rw [size_zeroCells,HCZ.out];show i * 7 + (L.length - i) * 7 ≤ cap * 7;omega));intro w3 hw3;have HW3 := za.mk hw3;clear hw3)
   go_ret
   refine ⟨_,rfl,?_,HG.out.trans (by rw [HW3.out];exact zcj wr g _)⟩
   have h9 := ziO (W' := w3) HM.out i (by omega) (Builtin.zeroCells (Value.cells (.agg #[.string ⟨#[]⟩,.int .i64 0,.int .i64 0,.slice none 0 0,.slice none 0 0,.int .i64 0,.int .i64 0])) (L.length - i)).toList (by rw [Array.length_toList,size_zeroCells] <;> rfl) cur HCUR.out (by rw [Array.length_toList];exact HW3.out)
   rw [HT.out,List.take_length,← zhr] at h9
   exact h9
theorem ziU {α : Type} (p : α → Bool) (L : List α) (h : ∃ k,k < L.length ∧ ∃ x,L[k]? = some x ∧ p x = true) : ∃ k x,L[k]? = some x ∧ p x = true ∧ ∀ (j : Nat) (y : α),j < k → L[j]? = some y → p y = false := by
 obtain ⟨k,hk,x,hx,hp⟩ := h
 induction k using Nat.strongRecOn generalizing x with
 | ind k ih =>
  by_cases hc : ∃ j,j < k ∧ ∃ y,L[j]? = some y ∧ p y = true
  ·obtain ⟨j,hj,y,hy,hpy⟩ := hc
   exact ih j hj (by omega) y hy hpy
  ·refine ⟨k,x,hx,hp,fun j y hj hy => ?_⟩
   rcases h : p y with _ | _
   ·rfl
   ·exact absurd ⟨j,hj,y,hy,h⟩ hc
theorem zU.del (w0 : World) (P : Nat → Prop) (w : World) (base : Nat) (low : Int) (g0 : Nat) (hb : Below w0.heap.size w0 w) (hbase : w0.heap.size ≤ base) (hg0 : w.heap[g0]? = some (.cells #[.int .i64 low] 3 (0,0))) (v : Value) (L : List Ent) (ho : zcl w0 P w base v L) (hl : L.length < 1466015503701) (hne : g0 < base) :
  Calls Tryz.prog 27 #[v,.func (.func 28) #[] #[.pointer (some ⟨g0,0,none⟩)]] w fun e w' => ∃ v' : Value,e = .returned v' ∧ zcl w0 P w' base v' (zcA L low) ∧ w.grownBy w' v.ownBlock := by
 by_cases hn : ∀ (j : Nat) (y : Ent),L[j]? = some y → zU.p low y = false
 ·refine (zU.del0 w0 P w base low g0 hb hbase hg0 v L ho hn).mono ?_
  rintro e w' ⟨rfl,hb'⟩
  have hd : zcA L low = L := by
   rw [zhr]
   refine List.filter_eq_self.2 fun y hy => ?_
   obtain ⟨j,hj⟩ := List.mem_iff_getElem?.1 hy
   rw [hn j y hj];rfl
  rw [hd]
  exact ⟨v,rfl,zdu ho hb',zcg hb' _⟩
 ·have hex : ∃ k,k < L.length ∧ ∃ x,L[k]? = some x ∧ zU.p low x = true := by
   refine Classical.byContradiction fun hc => hn fun j y hy => ?_
   rcases hp : zU.p low y with _ | _
   ·rfl
   ·exact absurd ⟨j,(List.getElem?_eq_some_iff.1 hy).1,y,hy,hp⟩ hc
  obtain ⟨k0,x0,hx0,hp0,hn0⟩ : ∃ k0 x0,L[k0]? = some x0 ∧ zU.p low x0 = true ∧ ∀ (j : Nat) (y : Ent),j < k0 → L[j]? = some y → zU.p low y = false := by
   exact ziU (zU.p low) L hex
  rcases ho with ⟨inner,ho,hr⟩
  obtain ⟨A,cap,rfl⟩ := zd3 ho
  obtain ⟨g,cap',cur,he,_⟩ := zeE ho (by have := (List.getElem?_eq_some_iff.1 hx0).1;omega)
  injection he with he _ _
  subst he
  exact zU.del1 w0 P w base low g0 hb hbase hg0 g _ cap L ⟨inner,ho,hr⟩ hl hne k0 x0 hx0 hp0 hn0
set_option maxHeartbeats 16000000 in
set_option maxRecDepth 100000 in
theorem zU.not (a0_0 : Int) (a0_1 : Int) (P0_2_ : Nat → Prop) (A0_2 : Option Addr) (c0_2 : Nat) (l0_2 : List (S42)) (a1 : Int) (w : World) (hc : a1 ≤ a0_1) :
  Calls Tryz.prog 9 #[.agg #[.int .i64 a0_0,.int .i64 a0_1,.slice A0_2 l0_2.length c0_2],.int .i64 a1] w fun e w' => e = .returned (.agg #[.int .i64 a0_0,.int .i64 a0_1,.slice A0_2 l0_2.length c0_2]) ∧ Below w.heap.size w w' := by
 have d1 : decide (a1 ≤ a0_1) = true := decide_eq_true hc
 clear hc
 go_enter Tryz.func9,Tryz.ntmps9
 go_wp2_with (first
  | ((with_reducible refine zn (N := 2) rfl ?_);refine zl rfl (N := 2) rfl (cs := #[.int .i64 a0_0,.int .i64 a0_1,.slice A0_2 l0_2.length c0_2]) (t := 24) hrq ?_;intro g2 hg w2 hbox hb;have B2 := za.mk hbox;have HB2 := za.mk hb;have GE2 : za (w.heap.size ≤ g2) := ⟨by rw [hg];exact Nat.le_refl _⟩;clear hb hbox hg)
  | ((with_reducible refine zn (N := 3) rfl ?_);refine zl rfl (N := 3) rfl (cs := #[.int .i64 a1]) (t := 3) hrq ?_;intro g3 hg w3 hbox hb;have M3 : za (Below w.heap.size w w3 ∧ w3.heap[g2]? = some (.cells #[.int .i64 a0_0,.int .i64 a0_1,.slice A0_2 l0_2.length c0_2] 24 (0,0)) ∧ w3.heap[g3]? = some (.cells #[.int .i64 a1] 3 (0,0)) ∧ g2 < g3) := ⟨ze HB2.out hb,zm B2.out hb,hbox,by rw [hg];exact zaJ B2.out⟩;have HLE : za (w.heap.size ≤ w3.heap.size) := ⟨zg M3.out.1⟩;have p3_0 := fun o => (zb (zf M3.out.2.1 o) 0).trans rfl;have pf_0 := fun o => zc (zf M3.out.2.1 o) 0;have p3_1 := fun o => (zb (zf M3.out.2.1 o) 1).trans rfl;have pf_1 := fun o => zc (zf M3.out.2.1 o) 1;have p3_2 := fun o => (zb (zf M3.out.2.1 o) 2).trans rfl;have pf_2 := fun o => zc (zf M3.out.2.1 o) 2;have q3_0 := fun o => (zb (zf M3.out.2.2.1 o) 0).trans rfl;have hh := 0;clear hh;clear hb hbox hg))
 refine bodyPost_ret (zdT rfl (.cell w3.heap.size 24 _ (0,0) _ rfl (zbp w3 _) Tryz.underlying24 rfl (by kernel_rfl) .nil)) rfl ?_
 exact ⟨rfl,zk M3.out.1 _⟩
set_option maxHeartbeats 16000000 in
set_option maxRecDepth 100000 in
theorem zU.yes (a0_0 : Int) (a0_1 : Int) (P0_2_ : Nat → Prop) (A0_2 : Option Addr) (c0_2 : Nat) (l0_2 : List (S42)) (a1 : Int) (w : World) (hs0_2 : Kd.V k42 42 w w.heap.size (fun k_ => P0_2_ k_) (.slice A0_2 l0_2.length c0_2) l0_2) (hc : ¬ a1 ≤ a0_1) (hl : l0_2.length < 1466015503701) :
  Calls Tryz.prog 9 #[.agg #[.int .i64 a0_0,.int .i64 a0_1,.slice A0_2 l0_2.length c0_2],.int .i64 a1] w fun e w' => ∃ v2_ : Value,e = .returned (.agg #[.int .i64 a0_0,.int .i64 a1,v2_]) ∧ Kd.V k42 42 w' w.heap.size (fun k_ => P0_2_ k_ ∨ w.heap.size ≤ k_) v2_ (zcA l0_2 a1) ∧ Below w.heap.size w w' := by
 have d1 : decide (a1 ≤ a0_1) = false := decide_eq_false hc
 have HFL := za.mk (Kd.V_at hs0_2).2.2
 have HL := za.mk hl
 clear hc hs0_2 hl
 go_enter Tryz.func9,Tryz.ntmps9
 go_wp2_with (first
  | ((with_reducible refine zn (N := 2) rfl ?_);refine zl rfl (N := 2) rfl (cs := #[.int .i64 a0_0,.int .i64 a0_1,.slice A0_2 l0_2.length c0_2]) (t := 24) hrq ?_;intro g2 hg w2 hbox hb;have B2 := za.mk hbox;have HB2 := za.mk hb;have GE2 : za (w.heap.size ≤ g2) := ⟨by rw [hg];exact Nat.le_refl _⟩;clear hb hbox hg)
  | ((with_reducible refine zn (N := 3) rfl ?_);refine zl rfl (N := 3) rfl (cs := #[.int .i64 a1]) (t := 3) hrq ?_;intro g3 hg w3 hbox hb;have M3 : za (Below w.heap.size w w3 ∧ w3.heap[g2]? = some (.cells #[.int .i64 a0_0,.int .i64 a0_1,.slice A0_2 l0_2.length c0_2] 24 (0,0)) ∧ w3.heap[g3]? = some (.cells #[.int .i64 a1] 3 (0,0)) ∧ g2 < g3) := ⟨ze HB2.out hb,zm B2.out hb,hbox,by rw [hg];exact zaJ B2.out⟩;have HLE : za (w.heap.size ≤ w3.heap.size) := ⟨zg M3.out.1⟩;have p3_0 := fun o => (zb (zf M3.out.2.1 o) 0).trans rfl;have pf_0 := fun o => zc (zf M3.out.2.1 o) 0;have p3_1 := fun o => (zb (zf M3.out.2.1 o) 1).trans rfl;have pf_1 := fun o => zc (zf M3.out.2.1 o) 1;have p3_2 := fun o => (zb (zf M3.out.2.1 o) 2).trans rfl;have pf_2 := fun o => zc (zf M3.out.2.1 o) 2;have q3_0 := fun o => (zb (zf M3.out.2.2.1 o) 0).trans rfl;have hh := 0;clear hh;clear hb hbox hg)
  | (go_at_call 20;(with_reducible refine (zfK w P0_2_ _ A0_2 c0_2 l0_2 HFL.out (zj (zk M3.out.1 _) GE2.out) HL.out).mono ?_);rintro e w5 ⟨v5,rfl,hO,hb⟩;obtain ⟨bs,hO,HBE⟩ : ∃ bs,zcl w P0_2_ w5 bs v5 l0_2 ∧ za (bs = w3.heap.size + 1) := ⟨_,hO,⟨by simp⟩⟩;have M4 : za (∃ w8 : World,w8.heap.size = w3.heap.size + 1 ∧ zbl w w8 g2 g3 w3.heap.size (.cells #[.int .i64 a0_0,.int .i64 a1,.slice A0_2 l0_2.length c0_2] 24 (0,0)) (.cells #[.int .i64 a1] 3 (0,0)) (.cells #[.int .i64 0,.int .i64 0,.slice none 0 0] 24 (0,0))) := ⟨_,by simp,⟨zj (zk M3.out.1 _) GE2.out,zX (zf M3.out.2.1 _) 1 _,zbE (zf M3.out.2.2.1 _) (show g3 ≠ g2 from Nat.ne_of_gt M3.out.2.2.2) _,zbE (zbp w3 _) (show w3.heap.size ≠ g2 from Nat.ne_of_gt (zaJ M3.out.2.1)) _⟩⟩;have M5 : za (zbl w w5 g2 g3 w3.heap.size (.cells #[.int .i64 a0_0,.int .i64 a1,.slice A0_2 l0_2.length c0_2] 24 (0,0)) (.cells #[.int .i64 a1] 3 (0,0)) (.cells #[.int .i64 0,.int .i64 0,.slice none 0 0] 24 (0,0))) := ⟨⟨ze (zj (zk M3.out.1 _) GE2.out) hb,zm (zX (zf M3.out.2.1 _) 1 _) hb,zm (zbE (zf M3.out.2.2.1 _) (show g3 ≠ g2 from Nat.ne_of_gt M3.out.2.2.2) _) hb,zm (zbE (zbp w3 _) (show w3.heap.size ≠ g2 from Nat.ne_of_gt (zaJ M3.out.2.1)) _) hb⟩⟩;have HO := za.mk hO;clear hO hb)
  | (go_at_call 27;(with_reducible refine (zU.del w P0_2_ _ bs a1 g3 M5.out.b ?ib M5.out.c3 v5 l0_2 HO.out HL.out ?ig).mono ?_);(case ib => have h1 := HBE.out;have h2 := HLE.out;omega);(case ig => have h1 := HBE.out;have h2 := zaJ M3.out.2.2.1;omega);rintro e w6 ⟨v6,rfl,hO,hg⟩;obtain ⟨A6,c6,rfl,_,_⟩ := za6.reads hO;generalize hn6 : (zcA l0_2 a1).length = n6 at hO ⊢;have HBS := za.mk (zdZ HO.out);have M6 : za (zbl w w6 g2 g3 w3.heap.size (.cells #[.int .i64 a0_0,.int .i64 a1,.slice A0_2 l0_2.length c0_2] 24 (0,0)) (.cells #[.int .i64 a1] 3 (0,0)) (.cells #[.int .i64 0,.int .i64 0,.slice none 0 0] 24 (0,0))) := ⟨by obtain ⟨w8,hs8,h8⟩ := M4.out;exact zbl.grown h8 M5.out hg (fun k hk => by have h1 := zdZ HO.out k hk;have h2 := HBE.out;omega)⟩;have HO6 := za.mk hO;clear hO hg;have p6_0 := (zb M6.out.c2 0).trans rfl;have p6_1 := (zb M6.out.c2 1).trans rfl;have p6_2 := (zb M6.out.c2 2).trans rfl;have n24 : g2 ≠ w3.heap.size := (fun he => by have := zaJ M3.out.2.1;omega);have n42 := Ne.symm n24;have f6_2 := zc M6.out.c2 2;have s6_0 := (zb M6.out.c4 0).trans rfl;have s6_1 := (zb M6.out.c4 1).trans rfl;have s6_2 := (zb M6.out.c4 2).trans rfl;have t6_0 := zc M6.out.c4 0;have t6_1 := zc M6.out.c4 1;have t6_2 := zc M6.out.c4 2))
 have b2 : g2 < bs := by have := zaJ M3.out.2.1;have := HBE.out;omega
 have b9 : w.heap.size ≤ bs := by have h1 := HLE.out;have h2 := HBE.out;omega
 have b4 : w3.heap.size < bs := by have := HBE.out;omega
 refine bodyPost_ret (zdT rfl (.cell w3.heap.size 24 _ (0,0) _ rfl (zX (zX (zX (zbE M6.out.c4 n42 _) 0 _) 1 _) 2 _) Tryz.underlying24 rfl (by kernel_rfl) .nil)) rfl ?_
 subst hn6
 exact ⟨_,rfl,zgM (zcz (zcz (zcz (zcz HO6.out (p := ⟨g2,2,none⟩) b2 _) (p := ⟨w3.heap.size,0,none⟩) b4 _) (p := ⟨w3.heap.size,1,none⟩) b4 _) (p := ⟨w3.heap.size,2,none⟩) b4 _) (zj (zj (zj (zj M6.out.b GE2.out) HLE.out) HLE.out) HLE.out) b9,zj (zj (zj (zj M6.out.b GE2.out) HLE.out) HLE.out) HLE.out⟩
def zU.f (a0_0 : Int) (a0_1 : Int) (l0_2 : List (S42)) (a1 : Int) : Option (Int × Int × List (S42)) := if l0_2.length < 1466015503701 then some (if a1 ≤ a0_1 then (a0_0,a0_1,l0_2) else (a0_0,a1,zcA l0_2 a1)) else none
theorem zU.calls (a0_0 : Int) (a0_1 : Int) (P0_2_ : Nat → Prop) (A0_2 : Option Addr) (c0_2 : Nat) (l0_2 : List (S42)) (a1 : Int) (r1 : Int) (r2 : Int) (r3 : List (S42)) (w : World) (hs0_2 : Kd.V k42 42 w w.heap.size (fun k_ => P0_2_ k_) (.slice A0_2 l0_2.length c0_2) l0_2) (h : zU.f a0_0 a0_1 l0_2 a1 = some (r1,r2,r3)) :
  Calls Tryz.prog 9 #[.agg #[.int .i64 a0_0,.int .i64 a0_1,.slice A0_2 l0_2.length c0_2],.int .i64 a1] w fun e w' => ∃ v2_ : Value,e = .returned (.agg #[.int .i64 r1,.int .i64 r2,v2_]) ∧ Kd.V k42 42 w' w.heap.size (fun k_ => (P0_2_ k_ ∨ w.heap.size ≤ k_)) v2_ r3 ∧ Below w.heap.size w w' := by
 unfold zU.f at h
 split at h
 ·rename_i hl
  split at h
  ·rename_i hc
   simp only [Option.some.injEq,Prod.mk.injEq] at h
   obtain ⟨rfl,rfl,rfl⟩ := h
   refine (zU.not a0_0 a0_1 P0_2_ A0_2 c0_2 l0_2 a1 w hc).mono ?_
   rintro e w' ⟨rfl,hb⟩
   exact ⟨_,rfl,Kd.V_mono (Kd.V_below hs0_2 hb) (fun _ hk => .inl hk),hb⟩
  ·rename_i hc
   simp only [Option.some.injEq,Prod.mk.injEq] at h
   obtain ⟨rfl,rfl,rfl⟩ := h
   exact zU.yes a0_0 a0_1 P0_2_ A0_2 c0_2 l0_2 a1 w hs0_2 hc hl
 ·cases h
def zai (n k : Nat) : Array Bool := (List.replicate k true ++ List.replicate (n - k) false).toArray
def zck (a : Act) : List (Nat × Tmp) → Act
 | [] => a
 | p :: is => zck (a.put (some p.2) undef) is
def ziI (T : Bool × List (List Nat × List Nat)) (l' : List Bool) : List Bool → List (Nat × Tmp) → Bool
 | l,[] => l == l'
 | l,p :: is => T.1 && zgx T.2 l p.1 && zcN T.2 l p.1 && ziI T l' (l.set p.1 true) is
def zh6 (ops : Array Oper) : Act → List (Nat × Tmp) → Bool
 | _,[] => true
 | a,p :: is => (match ops[p.1]? with | some o => (o.dst == some p.2) && !Region.wanted o (yielded ops a.tmps) | none => false) && zh6 ops (a.put (some p.2) undef) is
theorem zdF {P : Program} {ops : Array Oper} {Q : Exit → Act → World → Prop} {S : World → Prop} {ds : List Nat} {T : Bool × List (List Nat × List Nat)} {w : World} (hQ : ∀ c a d v w,Q (.panic c) (Act.put a (some d) v) w → Q (.panic c) a w) (hT : zbX .any ops = T) : ∀ (is : List (Nat × Tmp)) (fuel : Nat) {n : Nat} (_ : fuel + is.length = n) {l : Array Bool} (l' : Array Bool) {a : Act} (_ : ziI T l'.toList l.toList is = true) (_ : zh6 ops a is = true) {a' : Act} (_ : zck a is = a') (_ : zad P .any ops Q S ds fuel l' a' w),zad P .any ops Q S ds n l a w := by
 intro is
 induction is with
 | nil =>
  intro fuel n hn l l' a hc _ a' ha h
  subst hn;subst ha
  simp only [ziI,beq_iff_eq] at hc
  have : l = l' := by rw [← Array.toArray_toList (xs := l),hc]
  subst this
  exact h
 | cons p is ih =>
  intro fuel n hn l l' a hc ho a' ha h
  subst hn
  simp only [ziI,Bool.and_eq_true] at hc
  obtain ⟨⟨⟨h1,h2⟩,h3⟩,h4⟩ := hc
  simp only [zh6,Bool.and_eq_true] at ho
  obtain ⟨ho,h5⟩ := ho
  rcases hi : ops[p.1]? with _ | o
  ·rw [hi] at ho;cases ho
  ·rw [hi] at ho
   simp only [Bool.and_eq_true,beq_iff_eq,Bool.not_eq_true'] at ho
   refine zdq (fuel := fuel + is.length) (l.setIfInBounds p.1 true) hi ho.1 (zcp hT ?_) (fun c a w => by rw [ho.1];exact hQ c a _ _ w) (Or.inr ⟨ho.2,rfl⟩) rfl (ih fuel rfl l' ?_ h5 ha h)
   ·simp only [anyT,h1,h2,h3,Bool.true_and]
    simp
   ·rw [Array.toList_setIfInBounds];exact h4
end Go.Proofs.YtlkfelmbhldgfaaGreat.Px