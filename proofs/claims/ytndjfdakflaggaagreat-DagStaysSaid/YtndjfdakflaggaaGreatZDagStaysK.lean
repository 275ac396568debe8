/- Part 11 of 15 of the proof of the law DagStays: what is proved is the statement at the end of the last part; its conditions are those of the given row. -/
import Derived.RangeFuncNested
import Derived.RangeFuncLeaves
import Derived.TacticsIn
import Derived.LoopIn
import Derived.TacticsInMore
import Derived.OwnWalkIn
import Derived.Test.YtndjfdakflaggaaGreatZDagStaysJ
namespace Go.Proofs.YtndjfdakflaggaaGreat.Px
open Go.RowKit Go.Proofs.YtndjfdakflaggaaGreatW.PrintWords Go.Proofs.YtndjfdakflaggaaGreatW.PrintLast Go.Proofs.YtndjfdakflaggaaGreatW.PrintMore
attribute [local go_sem] zA zC zH zI zv zw zB zD
set_option linter.unusedVariables false
set_option linter.unusedSimpArgs false
def zY.p (low : Int) (x : S39) : Bool := decide (x.f1.f1 ≤ low)
set_option maxHeartbeats 4000000 in
set_option maxRecDepth 100000 in
theorem zY.odd (low : Int) (x0 : ByteArray) (x1 x2 : Int) (A3 : Option Addr) (n3 c3 : Nat) (A4 : Option Addr) (n4 c4 : Nat) (x5 x6 : Int) (g : Nat) (w : World) (hg : w.heap[g]? = some (.cells #[.int .i64 low] 3 (0,0))) :
  Calls Tryz.prog 27 #[.agg #[.string x0,.int .i64 x1,.int .i64 x2,.slice A3 n3 c3,.slice A4 n4 c4,.int .i64 x5,.int .i64 x6],.pointer (some ⟨g,0,none⟩)] w fun e w' => e = .returned (.bool (decide (x2 ≤ low))) ∧ Below w.heap.size w w' := by
 have Hg := za.mk hg
 clear hg
 go_enter Tryz.func27,Tryz.ntmps27
 go_wp2_with ((with_reducible refine zq (N := 2) rfl ?_);refine zn rfl (N := 2) rfl (cs := #[.string x0,.int .i64 x1,.int .i64 x2,.slice A3 n3 c3,.slice A4 n4 c4,.int .i64 x5,.int .i64 x6]) (t := 39) hrq ?_;intro gb hg w2 hbox hb;have BK := za.mk hbox;have HB := za.mk hb;have Ng := za.mk (zo Hg.out hb);have z_0 := (zb BK.out 0).trans rfl;have zf_0 := zc BK.out 0;have z_1 := (zb BK.out 1).trans rfl;have zf_1 := zc BK.out 1;have z_2 := (zb BK.out 2).trans rfl;have zf_2 := zc BK.out 2;have z_3 := (zb BK.out 3).trans rfl;have zf_3 := zc BK.out 3;have z_4 := (zb BK.out 4).trans rfl;have zf_4 := zc BK.out 4;have z_5 := (zb BK.out 5).trans rfl;have zf_5 := zc BK.out 5;have z_6 := (zb BK.out 6).trans rfl;have zf_6 := zc BK.out 6;have zg_0 := (zb Ng.out 0).trans rfl;have zgf_0 := zc Ng.out 0;clear hb hbox hg)
 go_ret
 exact ⟨rfl,HB.out⟩
set_option maxHeartbeats 4000000 in
set_option maxRecDepth 100000 in
theorem zY.idx (low : Int) (g : Nat) (A : Option Addr) (c : Nat) (l : List S39) (w : World) (hr : Kd.C k39 w A l.length l) (hg : w.heap[g]? = some (.cells #[.int .i64 low] 3 (0,0))) :
  Calls Tryz.prog 15 #[.slice A l.length c,.func (.func 27) #[] #[.pointer (some ⟨g,0,none⟩)]] w fun e w' => e = .returned (.int .i64 (zcT (zY.p low) l)) ∧ Below w.heap.size w w' := by
 have hm := hr.2.1
 have HR := za.mk hr
 have Hg := za.mk hg
 clear hr hg
 go_enter Tryz.func15,Tryz.ntmps15
 go_wp2_with fail
 have HB0 := za.mk (Below.refl w.heap.size w)
 go_loopw [5,8] (fun v5 v8 wr => ∃ k : Nat,v8 = .int .i64 k ∧ k ≤ l.length ∧ za (∀ (j : Nat) (y : S39),j < k → l[j]? = some y → zY.p low y = false) ∧ za (Below w.heap.size w wr)) (fun _ v8 _ => l.length - (match v8 with | .int _ q => q | _ => 0).toNat)
 case atStart => exact ⟨0,rfl,Nat.zero_le _,⟨fun j y hj => absurd hj (Nat.not_lt_zero _)⟩,⟨by repeat (first | (with_reducible first | exact HB0.out | apply zl | apply zi | apply zp) | exact HB0.out)⟩⟩
 case round =>
  obtain ⟨k,rfl,hk,HF,HB⟩ := hrel
  by_cases hlt : k < l.length
  ·obtain ⟨ad,A3,c3,A4,c4,rfl,hx0,hx1,hx2,hx3,hx4,hx5,hx6,_,_,_,_⟩ := zbe HR.out (k : Int) (by omega) (by omega)
   replace hx0 := (HB.out.cell (World.block_lt_of_cell? w _ hx0)).trans hx0
   replace hx1 := (HB.out.cell (World.block_lt_of_cell? w _ hx1)).trans hx1
   replace hx2 := (HB.out.cell (World.block_lt_of_cell? w _ hx2)).trans hx2
   replace hx3 := (HB.out.cell (World.block_lt_of_cell? w _ hx3)).trans hx3
   replace hx4 := (HB.out.cell (World.block_lt_of_cell? w _ hx4)).trans hx4
   replace hx5 := (HB.out.cell (World.block_lt_of_cell? w _ hx5)).trans hx5
   replace hx6 := (HB.out.cell (World.block_lt_of_cell? w _ hx6)).trans hx6
   rw [Int.toNat_natCast] at hx0 hx1 hx2 hx3 hx4 hx5 hx6
   have hb : decide (k < l.length) = true := decide_eq_true hlt
   have hx : l[k]? = some (zd l (k : Int)) := by
    rw [zd,Int.toNat_natCast,List.getD_eq_getElem?_getD,List.getElem?_eq_getElem hlt];rfl
   have HX := za.mk hx
   have Ng := za.mk (zo Hg.out HB.out)
   clear hx
   generalize zd l (k : Int) = s at *
   obtain ⟨s0,⟨s1,s2,s3,s4,⟨s5,s6⟩⟩⟩ := s
   rcases ho : zY.p low ⟨s0,⟨s1,s2,s3,s4,⟨s5,s6⟩⟩⟩ with _ | _
   ·have HO := za.mk ho
    clear ho
    go_wp2_with (go_at_call 27;(with_reducible refine (zY.odd low s0 s1 s2 _ _ _ _ _ _ s5 s6 g _ Ng.out).mono ?_);rintro e w1 ⟨rfl,hb1⟩;rw [show (decide (s2 ≤ low)) = _ from HO.out];have HB1 := za.mk (ze HB.out hb1);clear hb1)
    go_roundw
    case rel =>
     refine ⟨k + 1,by go_num,by omega,⟨fun j y hj hy => ?_⟩,HB1⟩
     rcases Nat.lt_succ_iff_lt_or_eq.1 hj with h | h
     ·exact HF.out j y h hy
     ·subst h
      rw [HX.out] at hy
      injection hy with hy
      subst hy
      exact HO.out
    case measure => simp;omega
   ·have HO := za.mk ho
    clear ho
    go_wp2_with (go_at_call 27;(with_reducible refine (zY.odd low s0 s1 s2 _ _ _ _ _ _ s5 s6 g _ Ng.out).mono ?_);rintro e w1 ⟨rfl,hb1⟩;rw [show (decide (s2 ≤ low)) = _ from HO.out];have HB1 := za.mk (ze HB.out hb1);clear hb1)
    go_ret
    exact ⟨by rw [zcU HX.out HO.out HF.out];rfl,HB1.out⟩
  ·obtain rfl : k = l.length := by omega
   go_wp2_with fail
   go_ret
   exact ⟨by rw [zcJ (fun j y hy => HF.out j y (List.getElem?_eq_some_iff.1 hy).1 hy)];rfl,HB.out⟩
theorem zic (L : List Ent) (low : Int) : zc9 L low = L.filter fun x => !zY.p low x := by
 unfold zc9
 congr 1
 funext x
 unfold zY.p
 by_cases h : low < x.f1.f1
 ·rw [decide_eq_true h,decide_eq_false (by omega)];rfl
 ·rw [decide_eq_false h,decide_eq_true (by omega)];rfl
theorem OwnE_at {w0 W : World} {P : Nat → Prop} {base g n cap : Nat} {M : List Ent} (h : zcD w0 P W base (.slice (some ⟨g,0,none⟩) n cap) M) (j : Nat) (x : Ent) (hx : M[j]? = some x) :
  ∃ A3 c3 A4 c4,RE w0 P x [.string x.f0,.int .i64 x.f1.f0,.int .i64 x.f1.f1,.slice A3 x.f1.f2.length c3,.slice A4 x.f1.f3.length c4,.int .i64 x.f1.f4.f0,.int .i64 x.f1.f4.f1] ∧ W.cell? ⟨g,j * 7,none⟩ = some (.string x.f0) ∧ W.cell? ⟨g,j * 7 + 1,none⟩ = some (.int .i64 x.f1.f0) ∧ W.cell? ⟨g,j * 7 + 2,none⟩ = some (.int .i64 x.f1.f1) ∧ W.cell? ⟨g,j * 7 + 3,none⟩ = some (.slice A3 x.f1.f2.length c3) ∧ W.cell? ⟨g,j * 7 + 4,none⟩ = some (.slice A4 x.f1.f3.length c4) ∧ W.cell? ⟨g,j * 7 + 5,none⟩ = some (.int .i64 x.f1.f4.f0) ∧ W.cell? ⟨g,j * 7 + 6,none⟩ = some (.int .i64 x.f1.f4.f1) := by
 obtain ⟨A,c,he,_,hrd⟩ := za2.reads h
 injection he with h1 _ _
 subst h1
 have hj : 0 < M.length := by have := (List.getElem?_eq_some_iff.1 hx).1;omega
 obtain ⟨ad,he,hc⟩ := hrd.2.2 hj
 injection he with he
 subst he
 obtain ⟨cs,hl,hR,hcell⟩ := hc j x hx
 obtain ⟨A3,c3,A4,c4,rfl,l3,g3,l4,g4⟩ := zaN hR
 have hk : ∀ i u,[Value.string x.f0,.int .i64 x.f1.f0,.int .i64 x.f1.f1,.slice A3 x.f1.f2.length c3,.slice A4 x.f1.f3.length c4,.int .i64 x.f1.f4.f0,.int .i64 x.f1.f4.f1][i]? = some u → W.cell? ⟨g,j * 7 + i,none⟩ = some u := fun i u hu => by have := hcell i u hu;rwa [zbv] at this
 exact ⟨A3,c3,A4,c4,hR,hk 0 _ rfl,hk 1 _ rfl,hk 2 _ rfl,hk 3 _ rfl,hk 4 _ rfl,hk 5 _ rfl,hk 6 _ rfl⟩
theorem zga {w0 W : World} {P : Nat → Prop} {base : Nat} {A : Option Addr} {n cap : Nat} {M : List Ent} (h : zcD w0 P W base (.slice A n cap) M) : n = M.length := by
 obtain ⟨A,c,he,_,_⟩ := za2.reads h
 injection he
theorem ziK {w0 W : World} {P : Nat → Prop} {base g n cap : Nat} {M : List Ent} (h : zcD w0 P W base (.slice (some ⟨g,0,none⟩) n cap) M) (i : Nat) (hi : i < M.length) (x : Ent) (cs : List Value) (hx : RE w0 P x cs) :
  zcD w0 P (W.setCells g (i * 7) cs) base (.slice (some ⟨g,0,none⟩) n cap) (M.set i x) := by
 have hn := zga h
 obtain ⟨inner,ho,hr⟩ := h
 have hlen := hr.1
 obtain ⟨g',cap',cur,he,hb,hc,hle,hcm,hsz,htk⟩ := ze3 ho (by omega)
 injection he with h1 _ h3
 injection h1 with h1
 injection h1 with h1 _ _
 subst h1;subst h3
 have hcl := zgb hx
 have hfit : i * 7 + cs.length ≤ cur.size := by rw [hsz,hcl];omega
 obtain ⟨cur',h4,h5,h6⟩ := ze9 cs (i * 7) W cur hc hfit
 refine ⟨_,⟨?_,.inr ⟨g,cap,cur',by rw [List.length_set,hn],hb,h4,by rw [List.length_set];omega,hcm,by rw [h5,hsz],?_⟩⟩,Kd.reps_set hr hi hx hcl⟩
 ·simp only [List.length_append,List.length_take,List.length_drop,List.length_set,hlen,hcl];omega
 ·rw [h6,List.length_set]
  have e1 : cur.toList.take (i * 7) = inner.take (i * 7) := by
   rw [← htk,List.take_take,Nat.min_eq_left (by omega)]
  have e2 : (cur.toList.drop (i * 7 + cs.length)).take (M.length * 7 - (i * 7 + cs.length)) = inner.drop (i * 7 + cs.length) := by
   rw [← htk,List.drop_take]
  have l1 : (inner.take (i * 7) ++ cs).length = i * 7 + cs.length := by rw [List.length_append,List.length_take,hlen];omega
  rw [e1,List.take_append,l1,e2,List.take_of_length_le (by rw [l1,hcl];omega)]
theorem OwnE_head {w0 W W' : World} {P : Nat → Prop} {base g n cap : Nat} {M : List Ent} (h : zcD w0 P W base (.slice (some ⟨g,0,none⟩) n cap) M) (i : Nat) (hi : i < n) (zs : List Value) (hz : zs.length = (n - i) * 7) (cur : Array Value) (hc : W.heap[g]? = some (.cells cur 39 (0,0))) (hW : W' = W.setRow g (cur.toList.take (i * 7) ++ zs ++ cur.toList.drop (i * 7 + zs.length)).toArray) :
  zcD w0 P W' base (.slice (some ⟨g,0,none⟩) i cap) (M.take i) := by
 have hn := zga h
 obtain ⟨inner,ho,hr⟩ := h
 have hlen := hr.1
 obtain ⟨g',cap',cur',he,hb,hc',hle,hcm,hsz,htk⟩ := ze3 ho (by omega)
 injection he with h1 _ h3
 injection h1 with h1
 injection h1 with h1 _ _
 subst h1;subst h3
 rw [hc] at hc'
 injection hc' with hc'
 injection hc' with hc' _ _
 subst hc'
 have hml : (M.take i).length = i := by rw [List.length_take];omega
 subst hW
 refine ⟨inner.take (i * 7),⟨by rw [List.length_take,hlen,hml];omega,.inr ⟨g,cap,_,by rw [hml],hb,setRow_heap W g _ _ _ _ hc,by rw [hml];omega,hcm,?_,?_⟩⟩,Kd.reps_take hr (by omega)⟩
 ·simp only [List.size_toArray,List.length_append,List.length_take,List.length_drop,Array.length_toList,hz,hsz];omega
 ·rw [hml,List.append_assoc,List.take_append_of_le_length (by rw [List.length_take,Array.length_toList];omega),List.take_take,Nat.min_self,← htk,List.take_take,Nat.min_eq_left (by omega)]
theorem zfe {P : Program} (w : World) {ops : Array Oper} {rest : List Oper} {o : Oper} {a : Act} {Q : Exit → Act → World → Prop}
  (hgd : o.guard = none) (x : Operand) (t : TypeId) (ho : o.op = .call { callee := .builtin .clear,args := #[x],argTypes := #[t] })
  (elem : TypeId) (z : Value) (hu : P.underlying t = some (.slice elem)) (hz : (zeroValue elem).run P w = .ok z w) (g off n c : Nat) (hx : a.eval x = .slice (some ⟨g,off,none⟩) n c) (cur : Array Value) (e : TypeId) (hg : w.heap[g]? = some (.cells cur e (0,0)))
  (hfit : off + (Builtin.zeroCells z.cells n).size ≤ cur.size) (h1 : ∀ v ∈ (Builtin.zeroCells z.cells n).toList,v.oneCell' = true) (hn : 0 < n)
  (h : ∀ w' : World,w' = w.setRow g (cur.toList.take off ++ (Builtin.zeroCells z.cells n).toList ++ cur.toList.drop (off + (Builtin.zeroCells z.cells n).size)).toArray → wpList P ops Q rest (a.put o.dst (.tuple #[])) w') : wpList P ops Q (o :: rest) a w := by
 refine wpList_plain hgd fun K' hK' => ?_
 have hrun := rows_clear (P := P) w t o.type elem g off n c cur e z hu hz hg hfit h1 hn
 unfold Oper.wp
 simp [execOp,ho,resolve,invoke,builtin,hx,hrun,Result.andThen]
 exact hK' _ _ (h _ (by rw [List.append_assoc]))
set_option maxHeartbeats 4000000 in
set_option maxRecDepth 100000 in
theorem zY.del0 (w0 : World) (P : Nat → Prop) (w : World) (base : Nat) (low : Int) (g0 : Nat) (hb : Below w0.heap.size w0 w) (hbase : w0.heap.size ≤ base) (hg0 : w.heap[g0]? = some (.cells #[.int .i64 low] 3 (0,0))) (v : Value) (L : List Ent) (ho : zcD w0 P w base v L) (hn : ∀ (j : Nat) (y : Ent),L[j]? = some y → zY.p low y = false) :
  Calls Tryz.prog 26 #[v,.func (.func 27) #[] #[.pointer (some ⟨g0,0,none⟩)]] w fun e w' => e = .returned v ∧ Below w.heap.size w w' := by
 have hv := zhn (b := 0) (e := 0) ho hb hbase
 obtain ⟨A,c,rfl⟩ := Kd.V_slice hv
 have hC := (Kd.V_reads' hv).2.2
 have HI := za.mk (zcJ hn)
 have HC := za.mk hC
 have HG0 := za.mk hg0
 clear hv hC hn ho hg0
 go_enter Tryz.func26,Tryz.ntmps26
 go_wp2_with (go_at_call 15;(with_reducible refine (zY.idx low g0 A c L _ HC.out HG0.out).mono ?_);rintro e w1 ⟨rfl,hb1⟩;rw [HI.out];have HB1 := za.mk hb1;clear hb1)
 go_ret
 exact ⟨rfl,HB1.out⟩
theorem zeros_one (z : Array Value) (hz : ∀ k,k < z.size → (z[k]!).oneCell' = true) (n : Nat) : ∀ v ∈ (Builtin.zeroCells z n).toList,v.oneCell' = true := by
 intro v hv
 rw [Array.mem_toList_iff] at hv
 obtain ⟨i,hi,rfl⟩ := Array.mem_map.1 (show v ∈ (Array.range (n * z.size)).map fun i => z[i % z.size]! from hv)
 rw [Array.mem_range] at hi
 exact hz _ (Nat.mod_lt _ (Nat.pos_of_ne_zero (fun h => by rw [h] at hi;simp at hi)))
theorem zY.zeroE : ∀ w : World,(zeroValue 39).run Tryz.prog w = .ok (.agg #[.string ⟨#[]⟩,.int .i64 0,.int .i64 0,.slice none 0 0,.slice none 0 0,.int .i64 0,.int .i64 0]) w := fun _ => by kernel_rfl
theorem zgm (w : World) (g o : Nat) (cs : List Value) : w.grownBy (w.setCells g o cs) (some g) := by
 obtain ⟨h1,h2,h3,h4⟩ := zeE g cs o w
 exact ⟨h1,h2,h3,by rw [h4];exact Nat.le_refl _,fun k _ hk => ze8 cs o k (fun e => hk (by rw [e]))⟩
theorem ziJ {w0 W : World} {P : Nat → Prop} {base g n cap : Nat} {M : List Ent} (h : zcD w0 P W base (.slice (some ⟨g,0,none⟩) n cap) M) (hn : 0 < M.length) : ∃ cur : Array Value,W.heap[g]? = some (.cells cur 39 (0,0)) ∧ cur.size = cap * 7 := by
 obtain ⟨inner,ho,hr⟩ := h
 obtain ⟨g',cap',cur,he,hb,hc,hle,hcm,hsz,htk⟩ := ze3 ho hn
 injection he with h1 _ h3
 injection h1 with h1
 injection h1 with h1 _ _
 subst h1;subst h3
 exact ⟨cur,hc,hsz⟩
theorem zh5 {w0 W : World} {P : Nat → Prop} {base g n cap : Nat} {M : List Ent} (h : zcD w0 P W base (.slice (some ⟨g,0,none⟩) n cap) M) : ∀ q,0 < q + 1 → W.frozen? ⟨g,q,none⟩ = false := fun q _ => by
 obtain ⟨inner,ho,hr⟩ := h
 rcases ho.2 with ⟨he,_⟩ | ⟨g',_,cur,he,_,hc,_⟩
 ·cases he
 ·injection he with h1 _ _
  injection h1 with h1
  injection h1 with h1 _ _
  subst h1
  exact zc hc q
theorem keep_take {L : List Ent} {low : Int} {k : Nat} {x : Ent} (hx : L[k]? = some x) (hn : ∀ (j : Nat) (y : Ent),j < k → L[j]? = some y → zY.p low y = false) (hp : zY.p low x = true) : L.take k = (L.take (k + 1)).filter (fun x => !zY.p low x) := by
 rw [List.take_add_one,hx,List.filter_append]
 have h1 : (L.take k).filter (fun x => !zY.p low x) = L.take k := List.filter_eq_self.2 fun y hy => by
  obtain ⟨j,hj,rfl⟩ := List.mem_take_iff_getElem.1 hy
  have := hn j L[j] (by omega) (List.getElem?_eq_getElem _)
  simp [this]
 rw [h1];simp [hp]
theorem zha {L : List Ent} {low : Int} {j : Nat} {x : Ent} (hx : L[j]? = some x) : (L.take (j + 1)).filter (fun x => !zY.p low x) = (L.take j).filter (fun x => !zY.p low x) ++ (if zY.p low x = true then [] else [x]) := by
 rw [List.take_add_one,hx,List.filter_append]
 cases h : zY.p low x <;> simp [h]
set_option maxHeartbeats 16000000 in
set_option maxRecDepth 100000 in
theorem zY.del1 (w0 : World) (P : Nat → Prop) (w : World) (base : Nat) (low : Int) (g0 : Nat) (hb : Below w0.heap.size w0 w) (hbase : w0.heap.size ≤ base) (hg0 : w.heap[g0]? = some (.cells #[.int .i64 low] 3 (0,0))) (g n cap : Nat) (L : List Ent) (ho : zcD w0 P w base (.slice (some ⟨g,0,none⟩) n cap) L) (hl : L.length < 1466015503701) (hne : g0 < base) (k0 : Nat) (x0 : Ent) (hx0 : L[k0]? = some x0) (hp0 : zY.p low x0 = true) (hn0 : ∀ (j : Nat) (y : Ent),j < k0 → L[j]? = some y → zY.p low y = false) :
  Calls Tryz.prog 26 #[.slice (some ⟨g,0,none⟩) n cap,.func (.func 27) #[] #[.pointer (some ⟨g0,0,none⟩)]] w fun e w' => ∃ v' : Value,e = .returned v' ∧ zcD w0 P w' base v' (zc9 L low) ∧ w.grownBy w' (some g) := by
 obtain rfl : n = L.length := zga ho
 have hC := (Kd.V_reads' (zhn (b := 0) (e := 0) ho hb hbase)).2.2
 have HI := za.mk (zcU hx0 hp0 hn0)
 have HC := za.mk hC
 have HG0 := za.mk hg0
 have hgb : base ≤ g := zel ho g rfl
 have HO := za.mk ho
 have hcap : L.length ≤ cap := by
  obtain ⟨_,_,he,hle,_⟩ := za2.reads ho
  injection he with _ _ he;omega
 have hk0 : k0 < L.length := (List.getElem?_eq_some_iff.1 hx0).1
 have HK := za.mk (keep_take hx0 hn0 hp0)
 have HB := za.mk hb
 have HBS := za.mk hbase
 have c1 : ((k0 : Int) == -1) = false := beq_eq_false_iff_ne.2 (by omega)
 obtain ⟨i0,hi0,hz0,hsz,hby⟩ := info_parts zdL
 have HIN := za.mk hi0
 have HSZ := za.mk hsz
 clear hC hx0 hp0 hn0 ho hg0 hb hbase hi0 hsz hz0 hby
 go_enter Tryz.func26,Tryz.ntmps26
 go_wp2_with (go_at_call 15;(with_reducible refine (zY.idx low g0 _ cap L _ HC.out HG0.out).mono ?_);rintro e w1 ⟨rfl,hb1⟩;rw [HI.out];have HB1 := za.mk hb1;clear hb1)
 have HG1 : za (w.grownBy w1 (some g)) := ⟨zcw HB1.out _⟩
 have HO1 := za.mk (zdH HO.out HB1.out)
 clear c1
 go_loopw [5,6] (fun v5 v6 wr => ∃ (i j : Nat) (M : List Ent),v5 = .int .i64 i ∧ v6 = .int .i64 j ∧ i < j ∧ j ≤ L.length ∧ M.length = L.length ∧ za (zcD w0 P wr base (.slice (some ⟨g,0,none⟩) L.length cap) M) ∧ za (M.take i = (L.take j).filter (fun x => !zY.p low x)) ∧ za (∀ q,j ≤ q → M[q]? = L[q]?) ∧ za (w.grownBy wr (some g))) (fun _ v6 _ => L.length - (intOf v6).toNat)
 case atStart => exact ⟨k0,k0 + 1,L,rfl,by go_num,Nat.lt_succ_self _,by omega,rfl,HO1,HK,⟨fun _ _ => rfl⟩,HG1⟩
 case round =>
  obtain ⟨i,j,M,rfl,rfl,hij,hj,hML,HM,HT,HD,HG⟩ := hrel
  have HN0 : za (wr.heap[g0]? = some (.cells #[.int .i64 low] 3 (0,0))) := ⟨zaL HG0.out HG.out (fun he => by injection he with he;omega)⟩
  by_cases hlt : j < L.length
  ·obtain ⟨x,hx⟩ : ∃ x,L[j]? = some x := ⟨_,List.getElem?_eq_getElem hlt⟩
   have hmx : M[j]? = some x := (HD.out j (Nat.le_refl _)).trans hx
   obtain ⟨y,hmy⟩ : ∃ y,M[i]? = some y := ⟨_,List.getElem?_eq_getElem (by omega)⟩
   obtain ⟨A3,c3,A4,c4,hR,hx0,hx1,hx2,hx3,hx4,hx5,hx6⟩ := OwnE_at HM.out j x hmx
   have HX := za.mk hx
   have HMY := za.mk hmy
   have HR := za.mk hR
   have hb : decide (j < L.length) = true := decide_eq_true hlt
   have hib : decide (i < L.length) = true := decide_eq_true (by omega)
   clear hx hmx hmy hR
   obtain ⟨s0,⟨s1,s2,s3,s4,⟨s5,s6⟩⟩⟩ := x
   rcases hp : zY.p low ⟨s0,⟨s1,s2,s3,s4,⟨s5,s6⟩⟩⟩ with _ | _
   all_goals
    have HP := za.mk hp
    clear hp
    go_wp2_with (go_at_call 27;(with_reducible refine (zY.odd low s0 s1 s2 _ _ _ _ _ _ s5 s6 g0 _ (zf HN0.out _)).mono ?_);rintro e w2 ⟨rfl,hb1⟩;rw [show (decide (s2 ≤ low)) = _ from HP.out];have HG2 : za (w.grownBy w2 (some g)) := ⟨HG.out.trans ((World.grownBy_alloc wr _ _).trans (zcw hb1 _))⟩;have HM2 := za.mk (zdH HM.out (ze (zl (Below.refl _ _) _) hb1));have BX := za.mk (zo (zbg wr _) hb1);clear hb1;have z_0 := (zb BX.out 0).trans rfl;have zf_0 := zc BX.out 0;have z_1 := (zb BX.out 1).trans rfl;have zf_1 := zc BX.out 1;have z_2 := (zb BX.out 2).trans rfl;have zf_2 := zc BX.out 2;have z_3 := (zb BX.out 3).trans rfl;have zf_3 := zc BX.out 3;have z_4 := (zb BX.out 4).trans rfl;have zf_4 := zc BX.out 4;have z_5 := (zb BX.out 5).trans rfl;have zf_5 := zc BX.out 5;have z_6 := (zb BX.out 6).trans rfl;have zf_6 := zc BX.out 6;obtain ⟨D3,d3,D4,d4,_,k0_,k1_,k2_,k3_,k4_,k5_,k6_⟩ := OwnE_at HM2.out i y HMY.out;have FZ := za.mk (zh5 HM2.out);have fz0 := FZ.out (i * 7) (by omega);have fz1 := FZ.out (i * 7 + 1) (by omega);have fz2 := FZ.out (i * 7 + 2) (by omega);have fz3 := FZ.out (i * 7 + 3) (by omega);have fz4 := FZ.out (i * 7 + 4) (by omega);have fz5 := FZ.out (i * 7 + 5) (by omega);have fz6 := FZ.out (i * 7 + 6) (by omega))
   ·go_roundw
    case rel =>
     refine ⟨i + 1,j + 1,M.set i ⟨s0,⟨s1,s2,s3,s4,⟨s5,s6⟩⟩⟩,by go_num,by go_num,by omega,by omega,by rw [List.length_set];exact hML,⟨ziK HM2.out i (by omega) ⟨s0,⟨s1,s2,s3,s4,⟨s5,s6⟩⟩⟩ [.string s0,.int .i64 s1,.int .i64 s2,.slice A3 s3.length c3,.slice A4 s4.length c4,.int .i64 s5,.int .i64 s6] HR.out⟩,⟨?_⟩,⟨fun q hq => ?_⟩,⟨HG2.out.trans (zgm w2 g (i * 7) [.string s0,.int .i64 s1,.int .i64 s2,.slice A3 s3.length c3,.slice A4 s4.length c4,.int .i64 s5,.int .i64 s6])⟩⟩
     ·rw [zha HX.out,HP.out,← HT.out,List.take_add_one,List.getElem?_set_self (by omega)]
      rw [List.take_set_of_le (Nat.le_refl _)];rfl
     ·rw [List.getElem?_set_ne (by omega)];exact HD.out q (by omega)
    case measure => simp [intOf];omega
   ·go_roundw
    case rel => exact ⟨i,j + 1,M,rfl,by go_num,by omega,by omega,hML,HM2,⟨by rw [zha HX.out,HP.out,HT.out];simp⟩,⟨fun q hq => HD.out q (by omega)⟩,HG2⟩
    case measure => simp [intOf];omega
  ·obtain rfl : j = L.length := by omega
   have hb : decide (L.length < L.length) = false := decide_eq_false (Nat.lt_irrefl _)
   obtain ⟨cur,hg,hcz⟩ := ziJ HM.out (by omega)
   have HCUR := za.mk hg
   have HCZ := za.mk hcz
   have hcutA := zeL (P := Tryz.prog) 24 39 .i64 Tryz.underlying24 HIN.out 7 HSZ.out g L.length cap i (i : Int) rfl (by omega) (by omega)
   have hcutB := cut_to (P := Tryz.prog) 24 39 .i64 Tryz.underlying24 HIN.out (some ⟨g,0,none⟩) L.length cap (i : Int) (by omega) (by omega) hcap
   rw [Int.toNat_natCast] at hcutB
   have p1 : ((i : Int) ≤ (L.length : Int)) = True := eq_true (by omega)
   have p2 : ((i : Int) ≤ (cap : Int)) = True := eq_true (by omega)
   clear hg hcz
   go_wp2_with (refine zfe _ rfl (.tmp 38) 24 rfl 39 (.agg #[.string ⟨#[]⟩,.int .i64 0,.int .i64 0,.slice none 0 0,.slice none 0 0,.int .i64 0,.int .i64 0]) Tryz.underlying24 (zY.zeroE _) g (i * 7) (L.length - i) (cap - i) rfl cur 39 HCUR.out ?d1 (zeros_one _ (by decide) _) (by omega) ?_;(case d1 => (rw [size_zeroCells,HCZ.out];show i * 7 + (L.length - i) * 7 ≤ cap * 7;omega));intro w3 hw3;have HW3 := za.mk hw3;clear hw3)
   go_ret
   refine ⟨_,rfl,?_,HG.out.trans (by rw [HW3.out];exact zcA wr g _)⟩
   have h9 := OwnE_head (W' := w3) HM.out i (by omega) (Builtin.zeroCells (Value.cells (.agg #[.string ⟨#[]⟩,.int .i64 0,.int .i64 0,.slice none 0 0,.slice none 0 0,.int .i64 0,.int .i64 0])) (L.length - i)).toList (by rw [Array.length_toList,size_zeroCells] <;> rfl) cur HCUR.out (by rw [Array.length_toList];exact HW3.out)
   rw [HT.out,List.take_length,← zic] at h9
   exact h9
theorem first_hit {α : Type} (p : α → Bool) (L : List α) (h : ∃ k,k < L.length ∧ ∃ x,L[k]? = some x ∧ p x = true) : ∃ k x,L[k]? = some x ∧ p x = true ∧ ∀ (j : Nat) (y : α),j < k → L[j]? = some y → p y = false := by
 obtain ⟨k,hk,x,hx,hp⟩ := h
 induction k using Nat.strongRecOn generalizing x with
 | ind k ih =>
  by_cases hc : ∃ j,j < k ∧ ∃ y,L[j]? = some y ∧ p y = true
  ·obtain ⟨j,hj,y,hy,hpy⟩ := hc
   exact ih j hj (by omega) y hy hpy
  ·refine ⟨k,x,hx,hp,fun j y hj hy => ?_⟩
   rcases h : p y with _ | _
   ·rfl
   ·exact absurd ⟨j,hj,y,hy,h⟩ hc
theorem zY.del (w0 : World) (P : Nat → Prop) (w : World) (base : Nat) (low : Int) (g0 : Nat) (hb : Below w0.heap.size w0 w) (hbase : w0.heap.size ≤ base) (hg0 : w.heap[g0]? = some (.cells #[.int .i64 low] 3 (0,0))) (v : Value) (L : List Ent) (ho : zcD w0 P w base v L) (hl : L.length < 1466015503701) (hne : g0 < base) :
  Calls Tryz.prog 26 #[v,.func (.func 27) #[] #[.pointer (some ⟨g0,0,none⟩)]] w fun e w' => ∃ v' : Value,e = .returned v' ∧ zcD w0 P w' base v' (zc9 L low) ∧ w.grownBy w' v.ownBlock := by
 by_cases hn : ∀ (j : Nat) (y : Ent),L[j]? = some y → zY.p low y = false
 ·refine (zY.del0 w0 P w base low g0 hb hbase hg0 v L ho hn).mono ?_
  rintro e w' ⟨rfl,hb'⟩
  have hd : zc9 L low = L := by
   rw [zic]
   refine List.filter_eq_self.2 fun y hy => ?_
   obtain ⟨j,hj⟩ := List.mem_iff_getElem?.1 hy
   rw [hn j y hj];rfl
  rw [hd]
  exact ⟨v,rfl,zdH ho hb',zcw hb' _⟩
 ·have hex : ∃ k,k < L.length ∧ ∃ x,L[k]? = some x ∧ zY.p low x = true := by
   refine Classical.byContradiction fun hc => hn fun j y hy => ?_
   rcases hp : zY.p low y with _ | _
   ·rfl
   ·exact absurd ⟨j,(List.getElem?_eq_some_iff.1 hy).1,y,hy,hp⟩ hc
  obtain ⟨k0,x0,hx0,hp0,hn0⟩ : ∃ k0 x0,L[k0]? = some x0 ∧ zY.p low x0 = true ∧ ∀ (j : Nat) (y : Ent),j < k0 → L[j]? = some y → zY.p low y = false := by
   exact first_hit (zY.p low) L hex
  rcases ho with ⟨inner,ho,hr⟩
  obtain ⟨A,cap,rfl⟩ := zer ho
  obtain ⟨g,cap',cur,he,_⟩ := ze3 ho (by have := (List.getElem?_eq_some_iff.1 hx0).1;omega)
  injection he with he _ _
  subst he
  exact zY.del1 w0 P w base low g0 hb hbase hg0 g _ cap L ⟨inner,ho,hr⟩ hl hne k0 x0 hx0 hp0 hn0
set_option maxHeartbeats 16000000 in
set_option maxRecDepth 100000 in
theorem zY.not (a0_0 : Int) (a0_1 : Int) (P0_2_ : Nat → Prop) (A0_2 : Option Addr) (c0_2 : Nat) (l0_2 : List (S39)) (a1 : Int) (w : World) (hc : a1 ≤ a0_1) :
  Calls Tryz.prog 9 #[.agg #[.int .i64 a0_0,.int .i64 a0_1,.slice A0_2 l0_2.length c0_2],.int .i64 a1] w fun e w' => e = .returned (.agg #[.int .i64 a0_0,.int .i64 a0_1,.slice A0_2 l0_2.length c0_2]) ∧ Below w.heap.size w w' := by
 have d1 : decide (a1 ≤ a0_1) = true := decide_eq_true hc
 clear hc
 go_enter Tryz.func9,Tryz.ntmps9
 go_wp2_with (first
  | ((with_reducible refine zq (N := 2) rfl ?_);refine zn rfl (N := 2) rfl (cs := #[.int .i64 a0_0,.int .i64 a0_1,.slice A0_2 l0_2.length c0_2]) (t := 26) hrq ?_;intro g2 hg w2 hbox hb;have B2 := za.mk hbox;have HB2 := za.mk hb;have GE2 : za (w.heap.size ≤ g2) := ⟨by rw [hg];exact Nat.le_refl _⟩;clear hb hbox hg)
  | ((with_reducible refine zq (N := 3) rfl ?_);refine zn rfl (N := 3) rfl (cs := #[.int .i64 a1]) (t := 3) hrq ?_;intro g3 hg w3 hbox hb;have M3 : za (Below w.heap.size w w3 ∧ w3.heap[g2]? = some (.cells #[.int .i64 a0_0,.int .i64 a0_1,.slice A0_2 l0_2.length c0_2] 26 (0,0)) ∧ w3.heap[g3]? = some (.cells #[.int .i64 a1] 3 (0,0)) ∧ g2 < g3) := ⟨ze HB2.out hb,zo B2.out hb,hbox,by rw [hg];exact zav B2.out⟩;have HLE : za (w.heap.size ≤ w3.heap.size) := ⟨zh M3.out.1⟩;have p3_0 := fun o => (zb (zf M3.out.2.1 o) 0).trans rfl;have pf_0 := fun o => zc (zf M3.out.2.1 o) 0;have p3_1 := fun o => (zb (zf M3.out.2.1 o) 1).trans rfl;have pf_1 := fun o => zc (zf M3.out.2.1 o) 1;have p3_2 := fun o => (zb (zf M3.out.2.1 o) 2).trans rfl;have pf_2 := fun o => zc (zf M3.out.2.1 o) 2;have q3_0 := fun o => (zb (zf M3.out.2.2.1 o) 0).trans rfl;have hh := 0;clear hh;clear hb hbox hg))
 refine bodyPost_ret (zee rfl (.cell w3.heap.size 26 _ (0,0) _ rfl (zbg w3 _) Tryz.underlying26 rfl (by kernel_rfl) .nil)) rfl ?_
 exact ⟨rfl,zl M3.out.1 _⟩
set_option maxHeartbeats 16000000 in
set_option maxRecDepth 100000 in
theorem zY.yes (a0_0 : Int) (a0_1 : Int) (P0_2_ : Nat → Prop) (A0_2 : Option Addr) (c0_2 : Nat) (l0_2 : List (S39)) (a1 : Int) (w : World) (hs0_2 : Kd.V k39 39 w w.heap.size (fun k_ => P0_2_ k_) (.slice A0_2 l0_2.length c0_2) l0_2) (hc : ¬ a1 ≤ a0_1) (hl : l0_2.length < 1466015503701) :
  Calls Tryz.prog 9 #[.agg #[.int .i64 a0_0,.int .i64 a0_1,.slice A0_2 l0_2.length c0_2],.int .i64 a1] w fun e w' => ∃ v2_ : Value,e = .returned (.agg #[.int .i64 a0_0,.int .i64 a1,v2_]) ∧ Kd.V k39 39 w' w.heap.size (fun k_ => P0_2_ k_ ∨ w.heap.size ≤ k_) v2_ (zc9 l0_2 a1) ∧ Below w.heap.size w w' := by
 have d1 : decide (a1 ≤ a0_1) = false := decide_eq_false hc
 have HFL := za.mk (Kd.V_at hs0_2).2.2
 have HL := za.mk hl
 clear hc hs0_2 hl
 go_enter Tryz.func9,Tryz.ntmps9
 go_wp2_with (first
  | ((with_reducible refine zq (N := 2) rfl ?_);refine zn rfl (N := 2) rfl (cs := #[.int .i64 a0_0,.int .i64 a0_1,.slice A0_2 l0_2.length c0_2]) (t := 26) hrq ?_;intro g2 hg w2 hbox hb;have B2 := za.mk hbox;have HB2 := za.mk hb;have GE2 : za (w.heap.size ≤ g2) := ⟨by rw [hg];exact Nat.le_refl _⟩;clear hb hbox hg)
  | ((with_reducible refine zq (N := 3) rfl ?_);refine zn rfl (N := 3) rfl (cs := #[.int .i64 a1]) (t := 3) hrq ?_;intro g3 hg w3 hbox hb;have M3 : za (Below w.heap.size w w3 ∧ w3.heap[g2]? = some (.cells #[.int .i64 a0_0,.int .i64 a0_1,.slice A0_2 l0_2.length c0_2] 26 (0,0)) ∧ w3.heap[g3]? = some (.cells #[.int .i64 a1] 3 (0,0)) ∧ g2 < g3) := ⟨ze HB2.out hb,zo B2.out hb,hbox,by rw [hg];exact zav B2.out⟩;have HLE : za (w.heap.size ≤ w3.heap.size) := ⟨zh M3.out.1⟩;have p3_0 := fun o => (zb (zf M3.out.2.1 o) 0).trans rfl;have pf_0 := fun o => zc (zf M3.out.2.1 o) 0;have p3_1 := fun o => (zb (zf M3.out.2.1 o) 1).trans rfl;have pf_1 := fun o => zc (zf M3.out.2.1 o) 1;have p3_2 := fun o => (zb (zf M3.out.2.1 o) 2).trans rfl;have pf_2 := fun o => zc (zf M3.out.2.1 o) 2;have q3_0 := fun o => (zb (zf M3.out.2.2.1 o) 0).trans rfl;have hh := 0;clear hh;clear hb hbox hg)
  | (go_at_call 19;(with_reducible refine (zgh w P0_2_ _ A0_2 c0_2 l0_2 HFL.out (zm (zl M3.out.1 _) GE2.out) HL.out).mono ?_);rintro e w5 ⟨v5,rfl,hO,hb⟩;obtain ⟨bs,hO,HBE⟩ : ∃ bs,zcD w P0_2_ w5 bs v5 l0_2 ∧ za (bs = w3.heap.size + 1) := ⟨_,hO,⟨by simp⟩⟩;have M4 : za (∃ w8 : World,w8.heap.size = w3.heap.size + 1 ∧ zcs w w8 g2 g3 w3.heap.size (.cells #[.int .i64 a0_0,.int .i64 a1,.slice A0_2 l0_2.length c0_2] 26 (0,0)) (.cells #[.int .i64 a1] 3 (0,0)) (.cells #[.int .i64 0,.int .i64 0,.slice none 0 0] 26 (0,0))) := ⟨_,by simp,⟨zm (zl M3.out.1 _) GE2.out,zX (zf M3.out.2.1 _) 1 _,zbw (zf M3.out.2.2.1 _) (show g3 ≠ g2 from Nat.ne_of_gt M3.out.2.2.2) _,zbw (zbg w3 _) (show w3.heap.size ≠ g2 from Nat.ne_of_gt (zav M3.out.2.1)) _⟩⟩;have M5 : za (zcs w w5 g2 g3 w3.heap.size (.cells #[.int .i64 a0_0,.int .i64 a1,.slice A0_2 l0_2.length c0_2] 26 (0,0)) (.cells #[.int .i64 a1] 3 (0,0)) (.cells #[.int .i64 0,.int .i64 0,.slice none 0 0] 26 (0,0))) := ⟨⟨ze (zm (zl M3.out.1 _) GE2.out) hb,zo (zX (zf M3.out.2.1 _) 1 _) hb,zo (zbw (zf M3.out.2.2.1 _) (show g3 ≠ g2 from Nat.ne_of_gt M3.out.2.2.2) _) hb,zo (zbw (zbg w3 _) (show w3.heap.size ≠ g2 from Nat.ne_of_gt (zav M3.out.2.1)) _) hb⟩⟩;have HO := za.mk hO;clear hO hb)
  | (go_at_call 26;(with_reducible refine (zY.del w P0_2_ _ bs a1 g3 M5.out.b ?ib M5.out.c3 v5 l0_2 HO.out HL.out ?ig).mono ?_);(case ib => have h1 := HBE.out;have h2 := HLE.out;omega);(case ig => have h1 := HBE.out;have h2 := zav M3.out.2.2.1;omega);rintro e w6 ⟨v6,rfl,hO,hg⟩;obtain ⟨A6,c6,rfl,_,_⟩ := za2.reads hO;generalize hn6 : (zc9 l0_2 a1).length = n6 at hO ⊢;have HBS := za.mk (zel HO.out);have M6 : za (zcs w w6 g2 g3 w3.heap.size (.cells #[.int .i64 a0_0,.int .i64 a1,.slice A0_2 l0_2.length c0_2] 26 (0,0)) (.cells #[.int .i64 a1] 3 (0,0)) (.cells #[.int .i64 0,.int .i64 0,.slice none 0 0] 26 (0,0))) := ⟨by obtain ⟨w8,hs8,h8⟩ := M4.out;exact zcs.grown h8 M5.out hg (fun k hk => by have h1 := zel HO.out k hk;have h2 := HBE.out;omega)⟩;have HO6 := za.mk hO;clear hO hg;have p6_0 := (zb M6.out.c2 0).trans rfl;have p6_1 := (zb M6.out.c2 1).trans rfl;have p6_2 := (zb M6.out.c2 2).trans rfl;have n24 : g2 ≠ w3.heap.size := (fun he => by have := zav M3.out.2.1;omega);have n42 := Ne.symm n24;have f6_2 := zc M6.out.c2 2;have s6_0 := (zb M6.out.c4 0).trans rfl;have s6_1 := (zb M6.out.c4 1).trans rfl;have s6_2 := (zb M6.out.c4 2).trans rfl;have t6_0 := zc M6.out.c4 0;have t6_1 := zc M6.out.c4 1;have t6_2 := zc M6.out.c4 2))
 have b2 : g2 < bs := by have := zav M3.out.2.1;have := HBE.out;omega
 have b9 : w.heap.size ≤ bs := by have h1 := HLE.out;have h2 := HBE.out;omega
 have b4 : w3.heap.size < bs := by have := HBE.out;omega
 refine bodyPost_ret (zee rfl (.cell w3.heap.size 26 _ (0,0) _ rfl (zX (zX (zX (zbw M6.out.c4 n42 _) 0 _) 1 _) 2 _) Tryz.underlying26 rfl (by kernel_rfl) .nil)) rfl ?_
 subst hn6
 exact ⟨_,rfl,zhn (zcQ (zcQ (zcQ (zcQ HO6.out (p := ⟨g2,2,none⟩) b2 _) (p := ⟨w3.heap.size,0,none⟩) b4 _) (p := ⟨w3.heap.size,1,none⟩) b4 _) (p := ⟨w3.heap.size,2,none⟩) b4 _) (zm (zm (zm (zm M6.out.b GE2.out) HLE.out) HLE.out) HLE.out) b9,zm (zm (zm (zm M6.out.b GE2.out) HLE.out) HLE.out) HLE.out⟩
def zY.f (a0_0 : Int) (a0_1 : Int) (l0_2 : List (S39)) (a1 : Int) : Option (Int × Int × List (S39)) := if l0_2.length < 1466015503701 then some (if a1 ≤ a0_1 then (a0_0,a0_1,l0_2) else (a0_0,a1,zc9 l0_2 a1)) else none
theorem zY.calls (a0_0 : Int) (a0_1 : Int) (P0_2_ : Nat → Prop) (A0_2 : Option Addr) (c0_2 : Nat) (l0_2 : List (S39)) (a1 : Int) (r1 : Int) (r2 : Int) (r3 : List (S39)) (w : World) (hs0_2 : Kd.V k39 39 w w.heap.size (fun k_ => P0_2_ k_) (.slice A0_2 l0_2.length c0_2) l0_2) (h : zY.f a0_0 a0_1 l0_2 a1 = some (r1,r2,r3)) :
  Calls Tryz.prog 9 #[.agg #[.int .i64 a0_0,.int .i64 a0_1,.slice A0_2 l0_2.length c0_2],.int .i64 a1] w fun e w' => ∃ v2_ : Value,e = .returned (.agg #[.int .i64 r1,.int .i64 r2,v2_]) ∧ Kd.V k39 39 w' w.heap.size (fun k_ => (P0_2_ k_ ∨ w.heap.size ≤ k_)) v2_ r3 ∧ Below w.heap.size w w' := by
 unfold zY.f at h
 split at h
 ·rename_i hl
  split at h
  ·rename_i hc
   simp only [Option.some.injEq,Prod.mk.injEq] at h
   obtain ⟨rfl,rfl,rfl⟩ := h
   refine (zY.not a0_0 a0_1 P0_2_ A0_2 c0_2 l0_2 a1 w hc).mono ?_
   rintro e w' ⟨rfl,hb⟩
   exact ⟨_,rfl,Kd.V_mono (Kd.V_below hs0_2 hb) (fun _ hk => .inl hk),hb⟩
  ·rename_i hc
   simp only [Option.some.injEq,Prod.mk.injEq] at h
   obtain ⟨rfl,rfl,rfl⟩ := h
   exact zY.yes a0_0 a0_1 P0_2_ A0_2 c0_2 l0_2 a1 w hs0_2 hc hl
 ·cases h
theorem adb {w0 w w1 : World} {g : Nat} {o : Obj} (x_ : w0.heap[g]? = some o) (hb_ : Below w.heap.size w w1) (h_ : w0.heap[g]? = some o → w.heap[g]? = some o := by intro x_;(with_reducible repeat (first | refine zai ?_ _ | refine zaf ?_ | refine zf ?_ _));exact x_) : w1.heap[g]? = some o := zo (h_ x_) hb_
theorem adl {w w0 w1 w2 : World} (x_ : Below w.heap.size w w0) (hb_ : Below w1.heap.size w1 w2) (h_ : Below w.heap.size w w0 → Below w.heap.size w w1 := by intro x_;(repeat (with_reducible first | exact x_ | apply zl | apply zi | apply zp))) : Below w.heap.size w w2 := ze (h_ x_) hb_
theorem adg {w w0 w1 : World} {g : Nat} (x_ : Below w.heap.size w w0) (hg_ : g = w1.heap.size) (h_ : Below w.heap.size w w0 → Below w.heap.size w w1 := by intro x_;(repeat (with_reducible first | exact x_ | apply zl | apply zi | apply zp))) : w.heap.size ≤ g := by rw [hg_];exact zh (h_ x_)
theorem adn {w0 w : World} {g q : Nat} {o : Obj} (hg_ : q = w.heap.size) (x_ : w0.heap[g]? = some o) (h_ : w0.heap[g]? = some o → w.heap[g]? = some o := by intro x_;(with_reducible repeat (first | refine zai ?_ _ | refine zaf ?_ | refine zf ?_ _));exact x_) : g ≠ q := by rw [hg_];exact Nat.ne_of_lt (zav (h_ x_))
theorem adf {w1 W W' : World} {g q : Nat} {o : Obj} (hw_ : W' = W) (n_ : g ≠ q) (x_ : w1.heap[g]? = some o) (h_ : g ≠ q → w1.heap[g]? = some o → W.heap[g]? = some o := by intro n_ x_;(repeat (first | (with_reducible exact x_) | (with_reducible refine zai ?_ _) | (with_reducible refine zaf ?_) | (with_reducible refine zf ?_ _) | refine zbw ?_ n_ _))) : W'.heap[g]? = some o := by rw [hw_];exact h_ n_ x_
theorem adp {w1 W W' : World} {g : Nat} {o o' : Obj} (hw_ : W' = W) (x_ : w1.heap[g]? = some o) (h_ : w1.heap[g]? = some o → W.heap[g]? = some o' := by intro x_;(repeat (first | (with_reducible exact x_) | (with_reducible refine zai ?_ _) | (with_reducible refine zaf ?_) | (with_reducible refine zf ?_ _) | apply zbt));all_goals first | (with_reducible rfl) | (simp only [List.setIfInBounds_toArray,List.set_cons_zero,List.set_cons_succ];done) | rfl) : W'.heap[g]? = some o' := by rw [hw_];exact h_ x_
theorem ads {w w0 W W' : World} {g : Nat} (hw_ : W' = W) (n_ : w.heap.size ≤ g) (x_ : Below w.heap.size w w0) (h_ : w.heap.size ≤ g → Below w.heap.size w w0 → Below w.heap.size w W := by intro n_ x_;(repeat (with_reducible first | exact x_ | apply zl | apply zi | apply zp | refine zm ?_ n_))) : Below w.heap.size w W' := by rw [hw_];exact h_ n_ x_
section
variable {P : Program} {ops : Array Oper} {rest : List Oper} {o : Oper} {a : Act} {Q : Exit → Act → World → Prop}
end
end Go.Proofs.YtndjfdakflaggaaGreat.Px
namespace Go.Proofs.YtndjfdakflaggaaGreat.Px
open Go.RowKit Go.Proofs.YtndjfdakflaggaaGreatW.PrintWords Go.Proofs.YtndjfdakflaggaaGreatW.PrintLast Go.Proofs.YtndjfdakflaggaaGreatW.PrintMore
attribute [local go_sem] zA zC zH zI zv zw zB zD
set_option linter.unusedVariables false
set_option linter.unusedSimpArgs false
theorem zhQ {n : Nat} {P : Program} {row : String} {args : Array Value} {w : World} {R : Value → World → Prop} (h : Rows P row args w R) : RowsIn Fence.wide n P row args w R :=
 fun c cs _ => let ⟨v,w',r,s⟩ := h c cs;⟨v,w',r,stepsIn_wide.2 s⟩
theorem zcm {P : Program} {ops : Array Oper} {Q : Exit → Act → World → Prop} (hQ : ¬ LetsOut Q) (l n : Nat) : ∀ (L : List Oper) (a : Act) (w : World),(∀ o ∈ L,∀ c,o.op ≠ .defer c) → wpList P ops Q L a w → wpListIn (Fence.wide.inRound l) n P ops Q L a w
 | [],_,_,_,h => h
 | o :: rest,a,w,hd,h => by
  have ih := fun a w => zcm (P := P) (ops := ops) hQ l n rest a w (fun o' ho => hd o' (List.mem_cons_of_mem _ ho))
  unfold wpList at h
  unfold wpListIn
  split at h
  ·rename_i hw
   rw [if_pos hw]
   rcases h with h | ⟨_,h⟩
   ·refine ⟨fun _ _ => trivial,?_⟩
    rw [Fence.inRound_round,Oper.semAt_some l _ _ (hd o List.mem_cons_self)]
    unfold Oper.wp at h
    cases hr : (execOp a.eval o).run P w with
    | halt x w' =>
     rw [hr] at h
     cases x <;> first | exact h | exact h.elim
    | ok x w' =>
     rw [hr] at h
     cases x with
     | value v => exact ih _ _ h
     | skip => exact ih _ _ h
     | defer d => exact ih _ _ h
     | enter f args =>
      refine ⟨fun hh => absurd hh (by simp [Fence.wide]),?_⟩
      refine (show CallsIn (Fence.wide.inRound l) _ P f args w' _ from (callsIn_wide (n := n - 1)).2 (h.mono ?_))
      intro e w'' he
      cases e with
      | returned v => exact ih _ _ he
      | panicked c => exact he
      | outgrown => exact he
     | row r args =>
      refine ⟨fun hh => absurd hh (by simp [Fence.wide]),?_⟩
      exact (show RowsIn (Fence.wide.inRound l) _ P r args w' _ from zhQ (n := n - 1) (Rows.mono h (fun v w'' he => ih _ _ he)))
     | round l' f tmps assign body => exact h.elim
     | _ => exact h.elim
   ·exact absurd h hQ
  ·rename_i hw
   rw [if_neg hw]
   exact ⟨fun _ _ => trivial,ih _ _ h⟩
def SeqN {α : Type} (P : Program) (gf : Nat) (lb : Array Value) (zfO : Nat → α → Array Value) (G : Nat → α → World → World → Prop) (D : World → Prop) (K B : Nat) : Prop :=
 ∀ (l : Nat) (J : Nat → World → Prop) (W : World),B ≤ W.heap.size →
  (∀ k A C,J k A → Below A.heap.size A C → J k C) → (∀ k A,J k A → D A) → (∀ k A,J k A → B ≤ A.heap.size) →
  (∀ n k x W0 W1,k < K → J k W0 → Below W0.heap.size W0 W1 → J k W1 → G k x W0 W1 → YieldAt Fence.wide n P l (zfO k x) W1 fun e W' => e = .returned (.bool true) ∧ J (k + 1) W') →
  J 0 W → Calls P gf (#[.func (.yield l) #[] #[]] ++ lb) W fun e W' => (∃ v,e = .returned v) ∧ J K W'
def postN (I : World → Prop) (B : Nat) (W : World) : Exit → Act → World → Prop
 | .normal,_,W' => W.heap.size ≤ W'.heap.size ∧ W'.heap[B]? = W.heap[B]? ∧ W'.heap[B + 1]? = W.heap[B + 1]? ∧ I W'
 | .ret,_,_ => False
 | .exit _,_,_ => False
 | .goto _,_,_ => False
 | .panic _,_,_ => False
 | .outgrown,_,_ => False
theorem zgN {α : Type} {P : Program} {g : Operand} {ps : Array Tmp} {assign body : Code} {Q : Exit → Act → World → Prop} {a : Act} {w : World}
  {gf : Nat} {lb : Array Value} (hg : a.eval g = .func (.func gf) #[] lb) (eg : ∀ args w,(callFunc gf args).run P w = .ok (.enter gf args) w)
  {zfO : Nat → α → Array Value} {G : Nat → α → World → World → Prop} {D : World → Prop} {K : Nat} (hseq : SeqN P gf lb zfO G D K (w.heap.size + 2)) (hps : ∀ k x,(zfO k x).size = ps.size)
  (I : Nat → World → Prop) (hIb : ∀ k A C,I k A → Below A.heap.size A C → I k C)
  (hIp : ∀ k A l o o',I k A → (l = w.heap.size ∨ l = w.heap.size + 1) → A.heap[l]? = some o → o.isCells = false → o.isWalk = false → I k (A.putObj l o'))
  (hGp : ∀ k x W0 A o',w.heap.size + 2 ≤ W0.heap.size → G k x W0 A → G k x W0 (A.putObj (w.heap.size + 1) o'))
  (hID : ∀ k A,I k A → D A) (h0 : I 0 w) (a₁ : Nat → α → Act)
  (hassign : ∀ (l n k : Nat) (x : α) (W : World) (Kq : Act → World → Prop),Kq (a₁ k x) W →
   assign.wpIn (Fence.wide.inRound l) n P (Exit.then Kq (fun _ _ _ => False)) { tmps := (ps.zip (zfO k x)).foldl (fun t (p,v) => t.setIfInBounds p v) a.tmps,defers := [] } W)
  (hbody : ∀ (n k : Nat) (x : α) (W0 W : World),k < K → w.heap.size + 2 ≤ W0.heap.size → W0.heap.size ≤ W.heap.size → I k W0 → (∀ j,j < W0.heap.size → j ≠ w.heap.size + 1 → W.heap[j]? = W0.heap[j]?) → I k W → G k x W0 W → body.wpIn (Fence.wide.inRound (w.heap.size + 1)) n P (postN (I (k + 1)) w.heap.size W) (a₁ k x) W)
  (hdone : ∀ (W : World),w.heap.size + 2 ≤ W.heap.size → I K W → W.heap[w.heap.size]? = some (.deferred (some [])) → Q .normal { a with defers := { target := .collected w.heap.size,args := #[] } :: a.defers } W) :
  (Code.rangeFunc g ps assign body).wp P Q a w := by
 refine (wpIn_wide (n := 0)).1 (wpIn_rangeFunc ?_)
 intro fn hfn
 rw [Fence.wide_round]
 obtain ⟨rec,hrec⟩ : ∃ rec : LoopState → Option Code → Loop,rec = fun st pe => { state := st,pending := pe,fn,tmps := a.tmps,params := ps,assign,body,defers := w.heap.size } := ⟨_,rfl⟩
 obtain ⟨W1,hW1⟩ : ∃ W1,(w.alloc (.deferred (some []))).alloc (.loop (rec .ready none)) = W1 := ⟨_,rfl⟩
 have hL1 : W1.heap[w.heap.size + 1]? = some (.loop (rec .ready none)) := by
  rw [← hW1];have := World.alloc_heap_new (w.alloc (.deferred (some []))) (.loop (rec .ready none));rwa [World.size_alloc] at this
 have hK1 : W1.heap[w.heap.size]? = some (.deferred (some [])) := by
  rw [← hW1];exact (Below.heap_alloc _ _ _ (by simp)).trans (World.alloc_heap_new w _)
 have hb1 : Below w.heap.size w W1 := by
  rw [← hW1];exact ((Below.refl _ w).alloc (Nat.le_refl _) _).alloc (by simp) _
 have hs1 : W1.heap.size = w.heap.size + 2 := by rw [← hW1];simp
 have hI1 : I 0 W1 := hIb _ _ _ h0 hb1
 refine ⟨w.heap.size + 1,[{ target := .collected w.heap.size,args := #[] }],W1,{ target := .fn (.func gf) lb,args := #[.func (.yield (w.heap.size + 1)) #[] #[]] },W1,gf,
  #[.func (.yield (w.heap.size + 1)) #[] #[]] ++ lb,W1,?_,?_,?_,?_,fun h => absurd h (by simp [Fence.wide]),?_⟩
 ·rw [← hW1,hrec];exact run_enterLoop_outer _ _ _ _ _
 ·simp only [resolve,hg]
  simp [go_sem]
 ·intro f' hf';trivial
 ·simp [invoke,go_sem,eg]
 ·refine callsIn_wide.2 ((hseq (w.heap.size + 1)
   (fun k W => I k W ∧ w.heap.size + 2 ≤ W.heap.size ∧ W.heap[w.heap.size + 1]? = some (.loop (rec .ready none)) ∧ W.heap[w.heap.size]? = some (.deferred (some [])))
   W1 (Nat.le_of_eq hs1.symm) (fun k A C h hb => ⟨hIb _ _ _ h.1 hb,Nat.le_trans h.2.1 hb.size,(hb.block _ (by omega)).trans h.2.2.1,(hb.block _ (by omega)).trans h.2.2.2⟩)
   (fun k A h => hID _ _ h.1) (fun k A h => h.2.1) ?_ ⟨hI1,Nat.le_of_eq hs1.symm,hL1,hK1⟩).mono ?_)
  ·rintro n k x W0 W hk ⟨hi0,hsz0,_,_⟩ hb0 ⟨hi,hsz,hl,hd⟩ hgx
   have hy := run_yield (P := P) (args := zfO k x) hl (by rw [hrec];exact hps k x)
   rw [hrec] at hy
   refine ⟨fn,_,assign,body,hy,roundIn_of_wpIn hfn (hassign _ _ k x W _ ⟨_,run_beginRound hl (by rw [hrec]),?_⟩)⟩
   have hl2 : (W.putObj (w.heap.size + 1) (.loop { rec .ready none with state := .busy })).heap[w.heap.size + 1]? = some (.loop { rec .ready none with state := .busy }) := World.putObj_heap_same (by omega)
   have hk2 : (W.putObj (w.heap.size + 1) (.loop { rec .ready none with state := .busy })).heap[w.heap.size]? = some (.deferred (some [])) := (World.putObj_heap_other (by omega)).trans hd
   refine wpIn_mono (hbody _ k x W0 _ hk hsz0 (by rw [World.putObj_size];exact hb0.size) hi0 (fun j hj hne => (World.putObj_heap_other hne).trans (hb0.block j hj)) (hIp _ _ _ _ _ hi (.inr rfl) hl rfl rfl) (hGp _ _ _ _ _ hsz0 hgx)) ?_
   rintro e a3 W3 hp
   cases e with
   | normal =>
    obtain ⟨hs3,hd3,hl3,hi3⟩ := hp
    rw [World.putObj_size] at hs3
    replace hl3 := hl3.trans hl2
    replace hd3 := hd3.trans hk2
    have hr := run_endRound (P := P) none hl3
    rw [hrec] at hr
    refine ⟨_,_,hr,rfl,hIp _ _ _ _ _ hi3 (.inr rfl) hl3 rfl rfl,by rw [World.putObj_size];omega,?_,(World.putObj_heap_other (by omega)).trans hd3⟩
    rw [hrec];exact World.putObj_heap_same (by omega)
   | ret => exact hp.elim
   | exit id => exact hp.elim
   | goto t => exact hp.elim
   | panic ch => exact hp.elim
   | outgrown => exact hp.elim
  ·rintro e W2 ⟨⟨v,rfl⟩,hi,hs2,hl,hd⟩
   exact ⟨none,_,by have := run_endLoop (P := P) hl (by rw [hrec];simp);rw [hrec] at this;exact this,hdone _ (by rw [World.putObj_size];exact hs2) (hIp _ _ _ _ _ hi (.inr rfl) hl rfl rfl) ((World.putObj_heap_other (by omega)).trans hd)⟩
theorem zeK {P : Program} {f : FuncId} {fn : Func} {c : Code} {args : Array Value} {w : World} {R : Ending → World → Prop}
  (hf : P.funcs[f]? = some fn) (hb : fn.body = some c)
  (h : c.wp P (bodyPostM Fence.wide 0 P fn R) { tmps := args ++ Array.replicate (fn.ntmps - args.size) undef,defers := [] } w) : Calls P f args w R :=
 callsIn_wide.1 (callsIn_of_wp_marks (n := 0) hf hb trivial (wpIn_wide.2 h))
theorem gate_wide {P : Program} {Q : Exit → Act → World → Prop} {id : Nat} {ops : Array Oper} {dr : Bool} {a : Act} {w : World} (h : (Code.region id ops dr).wpIn Fence.wide 1 P Q a w) : (Code.region id ops dr).wp P Q a w := wpIn_wide.1 h
section
variable {P : Program} {ops : Array Oper} {rest : List Oper} {o : Oper} {a : Act} {Q : Exit → Act → World → Prop}
theorem ziI (w : World) (hg : o.guard = none) (m x v : Operand) (t : TypeId) (hop : o.op = Op.insert t m x v) {k e : TypeId} {g : Nat} {F : ByteArray → Option Value} (h : zbs w g F) (ht : P.underlying t = some (.map k e)) (hk : P.underlying k = some .string)
  (s : ByteArray) (u : Value) (hm : a.eval m = .map (some g)) (hx : a.eval x = .string s) (hv : a.eval v = u) (hK : ∀ w',zbs w' g (fun y => if y = s then some u else F y) → w.grownBy w' (some g) → wpList P ops Q rest (a.put o.dst undef) w') : wpList P ops Q (o :: rest) a w := by
 refine wpList_plain hg fun K' hK' => ?_
 obtain ⟨w',hrun,r1,r2⟩ := zio h ht hk s u
 unfold Oper.wp
 simp [execOp,hop,hm,hx,hv,hrun,Result.andThen]
 exact hK' _ _ (hK w' r1 r2)
theorem zfM (w : World) (hg : o.guard = none) (m x : Operand) (t k : TypeId) (hop : o.op = Op.call { callee := Callee.builtin Builtin.delete,args := #[m,x],argTypes := #[t,k] }) {e : TypeId} {g : Nat} {F : ByteArray → Option Value} (h : zbs w g F) (ht : P.underlying t = some (.map k e)) (hk : P.underlying k = some .string)
  (s : ByteArray) (hm : a.eval m = .map (some g)) (hx : a.eval x = .string s) (hK : ∀ w',zbs w' g (fun y => if y = s then none else F y) → w.grownBy w' (some g) → wpList P ops Q rest (a.put o.dst (.tuple #[])) w') : wpList P ops Q (o :: rest) a w := by
 refine wpList_plain hg fun K' hK' => ?_
 obtain ⟨w',hrun,r1,r2⟩ := mapF_del h ht hk o.type s
 unfold Oper.wp
 simp [execOp,hop,resolve,invoke,builtin,hm,hx,hrun,Result.andThen]
 exact hK' _ _ (hK w' r1 r2)
end
structure Trod (S : Nat → Prop) (A C : World) : Prop where
 os : C.os = A.os
 tape : C.tape = A.tape
 output : C.output = A.output
 size : A.heap.size ≤ C.heap.size
 block : ∀ j,j < A.heap.size → ¬ S j → C.heap[j]? = A.heap[j]?
theorem Trod.refl (S : Nat → Prop) (A : World) : Trod S A A := ⟨rfl,rfl,rfl,Nat.le_refl _,fun _ _ _ => rfl⟩
theorem Trod.trans {S : Nat → Prop} {A C E : World} (h : Trod S A C) (k : Trod S C E) : Trod S A E :=
 ⟨k.os.trans h.os,k.tape.trans h.tape,k.output.trans h.output,Nat.le_trans h.size k.size,fun j hj hn => (k.block j (Nat.lt_of_lt_of_le hj h.size) hn).trans (h.block j hj hn)⟩
theorem Trod.wide {S S' : Nat → Prop} {A C : World} (h : Trod S A C) (hs : ∀ j,S j → S' j) : Trod S' A C := ⟨h.os,h.tape,h.output,h.size,fun j hj hn => h.block j hj (fun hs' => hn (hs j hs'))⟩
theorem Trod.below {S : Nat → Prop} {A C E : World} (h : Trod S A C) (k : Below C.heap.size C E) : Trod S A E := h.trans ⟨k.os,k.tape,k.output,k.size,fun j hj _ => k.block j hj⟩
theorem Trod.grown {S : Nat → Prop} {A C E : World} (h : Trod S A C) {g : Nat} (k : C.grownBy E (some g)) (hg : S g ∨ A.heap.size ≤ g) : Trod S A E :=
 ⟨k.os.trans h.os,k.tape.trans h.tape,k.output.trans h.output,Nat.le_trans h.size k.size,fun j hj hn => (k.block j (Nat.lt_of_lt_of_le hj h.size) (fun e => by injection e with e;subst e;exact hg.elim hn (fun h => by omega))).trans (h.block j hj hn)⟩
theorem Trod.to_below {S : Nat → Prop} {A C : World} (h : Trod S A C) {B : Nat} (hB : B ≤ A.heap.size) (hs : ∀ j,S j → B ≤ j) : Below B A C := ⟨h.os,h.tape,h.output,h.size,fun j hj => h.block j (Nat.lt_of_lt_of_le hj hB) (fun hj' => by have := hs j hj';omega)⟩
theorem zat {S : Nat → Prop} {A C : World} {g : Nat} {o : Obj} (h : Trod S A C) (hb : A.heap[g]? = some o) (hg : ¬ S g) : C.heap[g]? = some o := (h.block g (zav hb) hg).trans hb
theorem zbj {S : Nat → Prop} {A C : World} {g : Nat} {F : ByteArray → Option Value} (h : Trod S A C) (hb : zbs A g F) (hg : ¬ S g) : zbs C g F := zfk hb (h.block g (zbz hb) hg)
def zhC (L : List Oper) : Bool := L.all fun o => match o.op with | .defer _ => false | _ => true
theorem zgs {L : List Oper} (h : zhC L = true) : ∀ o ∈ L,∀ c,o.op ≠ .defer c := by
 intro o ho c hc
 have := List.all_eq_true.1 h o ho
 rw [hc] at this
 cases this
theorem zbS {P : Program} {ops : Array Oper} {Q : Exit → Act → World → Prop} {l n : Nat} {o : Oper} {rest : List Oper} {a : Act} {w : World} {N : Tmp} (_hN : o.dst = some N) (hQ : ¬ LetsOut Q) (hd : zhC (o :: rest) = true) (h : wpList P ops Q (o :: rest) a w) : wpListIn (Fence.wide.inRound l) n P ops Q (o :: rest) a w := zcm hQ l n _ a w (zgs hd) h
section
variable {P : Program} {ops : Array Oper} {rest : List Oper} {o : Oper} {a : Act} {Q : Exit → Act → World → Prop} {W : World}
theorem gate_ins {t : TypeId} {m x v : Operand} (_ho : o.op = .insert t m x v) (h : wpList P ops Q (o :: rest) a W) : wpList P ops Q (o :: rest) a W := h
theorem zif {m x : Operand} {t k : TypeId} (_ho : o.op = .call { callee := .builtin .delete,args := #[m,x],argTypes := #[t,k] }) (h : wpList P ops Q (o :: rest) a W) : wpList P ops Q (o :: rest) a W := h
end
section
variable {P : Program} {ops : Array Oper} {rest : List Oper} {o : Oper} {a : Act} {Q : Exit → Act → World → Prop}
theorem zfl {W : World} (hgd : o.guard = none) {N : Tmp} (_hd : o.dst = some N)
  (hrun : (execOp a.eval o).run P W = .ok (.value (.map (some W.heap.size))) (W.alloc (.map #[] 0)))
  (h : ∀ g,g = W.heap.size → ∀ w1,zbs w1 g (fun _ => none) → Below W.heap.size W w1 → wpList P ops Q rest (a.put o.dst (.map (some g))) w1) : wpList P ops Q (o :: rest) a W :=
 Kd.event_run hgd hrun (h _ rfl _ (zin W) (zl (Below.refl _ _) _))
end
theorem far1 {W : World} {g q i : Nat} {v : Value} {o : Obj} (x : W.heap[g]? = some o) (n : g ≠ q) : (W.setCell ⟨q,i,none⟩ v).heap[g]? = some o := (Below.heap_setCell _ _ _ _ n).trans x
theorem adm {w1 W W' : World} {g q : Nat} {F : ByteArray → Option Value} (hw_ : W' = W) (n_ : g ≠ q) (x_ : zbs w1 g F) (h_ : g ≠ q → ∀ o,w1.heap[g]? = some o → W.heap[g]? = some o := by intro n_ o_ x_;(repeat (first | (with_reducible exact x_) | (with_reducible refine far1 ?_ n_)))) : zbs W' g F := by
 rw [hw_]
 obtain ⟨es,c,l,h1,h2⟩ := x_
 exact ⟨es,c,l,h_ n_ _ h1,h2⟩
theorem Trod.setS {S : Nat → Prop} {A C : World} (h : Trod S A C) {g : Nat} (hg : S g ∨ A.heap.size ≤ g) (i : Nat) (v : Value) : Trod S A (C.setCell ⟨g,i,none⟩ v) :=
 ⟨h.os,h.tape,h.output,Nat.le_trans h.size (by simp [World.setCell]),fun j hj hn => (Below.heap_setCell _ _ _ _ (by show j ≠ g;rintro rfl;exact hg.elim hn (fun h_ => by omega))).trans (h.block j hj hn)⟩
theorem Trod.set {S : Nat → Prop} {A C : World} (h : Trod S A C) {g : Nat} (hg : A.heap.size ≤ g) (i : Nat) (v : Value) : Trod S A (C.setCell ⟨g,i,none⟩ v) := h.setS (.inr hg) i v
theorem adt {S : Nat → Prop} {A w1 W W' : World} {g : Nat} (hw_ : W' = W) (n_ : A.heap.size ≤ g) (x_ : Trod S A w1) (h_ : A.heap.size ≤ g → Trod S A w1 → Trod S A W := by intro n_ x_;(repeat (with_reducible first | exact x_ | refine Trod.set ?_ n_ _ _))) : Trod S A W' := by rw [hw_];exact h_ n_ x_
theorem zfa (A : World) (l : Nat) (o' : Obj) : Trod (fun j => j = l) A (A.putObj l o') := ⟨rfl,rfl,rfl,by rw [World.putObj_size];exact Nat.le_refl _,fun _ _ hn => World.putObj_heap_other hn⟩
theorem Trod.of_below {A C : World} (h : Below A.heap.size A C) (S : Nat → Prop) : Trod S A C := (Trod.refl S A).below h
theorem zei {α : Type} {d : Kd α} {S ok : Nat → Prop} {A C : World} {ad : Option Addr} {m : Nat} {xs : List α} (h : Trod S A C) (hf : Kd.F d A ok ad m xs) (hs : ∀ j,ok j → ¬ S j) : Kd.F d C ok ad m xs := Kd.F_step hf (fun j hj hlt => h.block j hlt (hs j hj))
theorem zgk {P : Program} {ops : Array Oper} {Q : Exit → Act → World → Prop} {l n : Nat} {o : Oper} {rest : List Oper} {a : Act} {w : World} {t : TypeId} {m x v : Operand} (_ho : o.op = .mapUpdate t m x v) (hQ : ¬ LetsOut Q) (hd : zhC (o :: rest) = true) (h : wpList P ops Q (o :: rest) a w) : wpListIn (Fence.wide.inRound l) n P ops Q (o :: rest) a w := zcm hQ l n _ a w (zgs hd) h
theorem Trod.join {S S' : Nat → Prop} {A C E : World} (h : Trod S A C) (k : Trod S' C E) (hs : ∀ j,S' j → S j ∨ A.heap.size ≤ j) : Trod S A E :=
 ⟨k.os.trans h.os,k.tape.trans h.tape,k.output.trans h.output,Nat.le_trans h.size k.size,fun j hj hn => (k.block j (Nat.lt_of_lt_of_le hj h.size) (fun hc => (hs j hc).elim hn (fun h_ => by omega))).trans (h.block j hj hn)⟩
end Go.Proofs.YtndjfdakflaggaaGreat.Px
namespace Go.Proofs.YtndjfdakflaggaaGreat.Px
open Go.RowKit Go.Proofs.YtndjfdakflaggaaGreatW.PrintWords Go.Proofs.YtndjfdakflaggaaGreatW.PrintLast Go.Proofs.YtndjfdakflaggaaGreatW.PrintMore
attribute [local go_sem] zA zC zH zI zv zw zB zD
set_option linter.unusedVariables false
set_option linter.unusedSimpArgs false
def zcf (r : Int) : Nat → Int
 | 0 => r
 | k + 1 => wrap64 (zcf r k - 1)
def zb3 (L : List Ent) (r : Int) (k : Nat) : List Ent := zce L (zcf r k)
set_option maxHeartbeats 4000000 in
theorem zhu (n low r : Int) (A0 : Option Addr) (m c0 : Nat) (w : World) :
  Calls Tryz.prog 42 #[.agg #[.int .i64 n,.int .i64 low,.slice A0 m c0],.int .i64 r] w fun e w' => ∃ gd gf,e = .returned (.func (.func 64) #[] #[.pointer (some ⟨gf,0,none⟩),.pointer (some ⟨gd,0,none⟩)]) ∧ w.heap.size ≤ gd ∧ w.heap.size ≤ gf ∧ w'.heap[gd]? = some (.cells #[.int .i64 n,.int .i64 low,.slice A0 m c0] 26 (0,0)) ∧ w'.heap[gf]? = some (.cells #[.int .i64 r] 3 (0,0)) ∧ Below w.heap.size w w' := by
 have Hw := za.mk (Below.refl w.heap.size w)
 go_enter Tryz.func42,Tryz.ntmps42
 go_wp2_with (first
  | ((with_reducible refine zq (N := 2) rfl ?_);refine zn rfl (N := 2) rfl (cs := #[.int .i64 n,.int .i64 low,.slice A0 m c0]) (t := 26) hrq ?_;intro gd hg w2 hbox hb;have Gw_gd := za.mk (adg Hw.out hg);replace Hw := za.mk (adl Hw.out hb);have Bgd := za.mk hbox;clear hbox hb hg)
  | ((with_reducible refine zq (N := 3) rfl ?_);refine zn rfl (N := 3) rfl (cs := #[.int .i64 r]) (t := 3) hrq ?_;intro gf hg w3 hbox hb;have Gw_gf := za.mk (adg Hw.out hg);have Ngd_gf := za.mk (adn hg Bgd.out);replace Bgd := za.mk (adb Bgd.out hb);replace Hw := za.mk (adl Hw.out hb);have Bgf := za.mk hbox;clear hbox hb hg))
 go_ret
 exact ⟨_,_,rfl,Gw_gd.out,Gw_gf.out,Bgd.out,Bgf.out,Hw.out⟩
set_option maxHeartbeats 4000000 in
theorem zia (n low r : Int) (A0 : Option Addr) (c0 : Nat) (L : List Ent) (gd gf n0 B K : Nat) (hl : L.length < 1466015503701) (hne : ∀ j,j < K → zb3 L r j ≠ []) (hK : zb3 L r K = []) :
  SeqN (α := Option Addr × Nat) Tryz.prog 64 #[.pointer (some ⟨gf,0,none⟩),.pointer (some ⟨gd,0,none⟩)] (fun k x => #[.int .i64 (zcf r k),.slice x.1 (zb3 L r k).length x.2])
   (fun k x W0 W => Kd.F k39 W (fun j => j < n0 ∨ W0.heap.size ≤ j) x.1 (zb3 L r k).length (zb3 L r k))
   (fun W => W.heap[gd]? = some (.cells #[.int .i64 n,.int .i64 low,.slice A0 L.length c0] 26 (0,0)) ∧ W.heap[gf]? = some (.cells #[.int .i64 r] 3 (0,0)) ∧ Kd.V k39 39 W W.heap.size (fun j => j < n0) (.slice A0 L.length c0) L) K B := by
 intro l J W hBW hJb hJD hJB hY h0
 show Calls _ _ #[.func (.yield l) #[] #[],.pointer (some ⟨gf,0,none⟩),.pointer (some ⟨gd,0,none⟩)] W _
 have HJb := za.mk hJb
 have HJD := za.mk hJD
 have HJB := za.mk hJB
 have HY := za.mk hY
 have HL := za.mk hl
 have HNE := za.mk hne
 have HKE := za.mk hK
 have H0 := za.mk h0
 have hx0 := (zb (hJD _ _ h0).2.1 0).trans rfl
 clear hJb hJD hJB hY hl hne hK h0
 go_enter Tryz.func64,Tryz.ntmps64
 go_wp2_with fail
 go_loopg [4] (K + 1) (fun kq v4 wr => ∃ k : Nat,v4 = .int .i64 (zcf r k) ∧ za (k + kq = K + 1) ∧ za (k ≤ K) ∧ za (J k wr))
 case atStart => exact ⟨0,rfl,⟨by omega⟩,⟨Nat.zero_le _⟩,H0⟩
 case round =>
  clear H0 hx0
  obtain ⟨k,rfl,HKQ,HK,HJ⟩ := hrel
  cases gk with
  | zero => have := HKQ.out;have := HK.out;omega
  | succ kq =>
  obtain ⟨hd,_,hv⟩ := HJD.out _ _ HJ.out
  have HV := za.mk hv
  have hd0 := (zb hd 0).trans rfl
  have hd1 := (zb hd 1).trans rfl
  have hd2 := (zb hd 2).trans rfl
  clear hd hv
  obtain ⟨kr,hkr⟩ := (zfA n low L (zcf r k) HL.out).rounds
  have HR : za (zaM.f kr n low L (zcf r k) = some (zb3 L r k)) := ⟨hkr⟩
  have HLL : za ((zb3 L r k).length ≤ L.length) := ⟨zeB _ _⟩
  clear hkr
  have hrn : zcf r (k + 1) = wrap64 (zcf r k - 1) := rfl
  have HRN := za.mk hrn
  clear hrn
  rcases Nat.lt_or_ge k K with hlt | hge
  ·have hz : (((zb3 L r k).length : Int) == 0) = false := beq_eq_false_iff_ne.2 (fun h => HNE.out k hlt (List.eq_nil_of_length_eq_zero (by omega)))
   have HLT := za.mk hlt
   clear hlt
   refine wp_seq_k (fun K1 hK1 => ?_)
   refine wp_block ?_
   refine wp_seq_k (fun K2 hK2 => ?_)
   have HK2 := za.mk hK2
   clear hK2
   go_wp2_with (go_at_call 34;(with_reducible refine (zaM.calls kr n low (fun j => j < n0) A0 c0 L (zcf r k) (zb3 L r k) _ (Kd.V_lower HV.out (Nat.le_refl _)) HR.out).mono ?_);rintro e w5 ⟨v22,rfl,hN,hb⟩;obtain ⟨A22,c22,rfl⟩ := Kd.N_slice hN;have HG := za.mk (Kd.N_F hN);have HB5 := za.mk hb;have HJ5 := za.mk (HJb.out _ _ _ HJ.out hb);clear hb hN;clear hd0 hd1 hd2)
   refine HK2.out _ _ ?_
   clear HK2
   refine wp_seq_k (fun K3 hK3 => ?_)
   refine gate_wide ?_
   obtain ⟨fn,tmps,assign,body,hy,hR⟩ := HY.out 0 k (A22,c22) wr w5 HLT.out HJ.out HB5.out HJ5.out HG.out
   dsimp only at hy
   gi_wp2
   refine hR.mono ?_
   rintro e w6 ⟨rfl,hJ6⟩
   have HJ6 := za.mk hJ6
   clear hJ6 hy hR
   gi_wp2
   go_wp2_with fail
   go_roundg kq
   case measure => omega
   case rel => exact ⟨k + 1,rfl,⟨by have := HKQ.out;omega⟩,⟨HLT.out⟩,HJ6⟩
  ·obtain rfl : k = K := Nat.le_antisymm HK.out hge
   have hz : (((zb3 L r k).length : Int) == 0) = true := beq_iff_eq.2 (by rw [HKE.out];rfl)
   go_wp2_with (go_at_call 34;(with_reducible refine (zaM.calls kr n low (fun j => j < n0) A0 c0 L (zcf r k) (zb3 L r k) _ (Kd.V_lower HV.out (Nat.le_refl _)) HR.out).mono ?_);rintro e w5 ⟨v22,rfl,hN,hb⟩;obtain ⟨A22,c22,rfl⟩ := Kd.N_slice hN;have HJ5 := za.mk (HJb.out _ _ _ HJ.out hb);clear hb hN;clear hd0 hd1 hd2)
   refine bodyPost_ret (results_none rfl _ _ _) rfl ?_
   exact ⟨⟨_,rfl⟩,HJ5.out⟩
attribute [local go_sem] Oper.semAt_some
abbrev StP := (ByteArray → Option Int) × (ByteArray → Bool)
def zdd (r0 : Int) (g : ByteArray) (r : Int) (W : ByteArray → Bool) (x : Ent) : Bool := W x.f0 && !(decide (r = r0) && decide (x.f0 ≠ g))
def zbC (r0 : Int) (g : ByteArray) (r : Int) (s : StP × (ByteArray → Bool)) (x : Ent) : StP × (ByteArray → Bool) :=
 if zdd r0 g r s.1.2 x = true then ((fun y => if y = x.f0 then some r else s.1.1 y,fun y => if y = x.f0 then false else s.1.2 y),fun y => s.2 y || x.f1.f3.any fun p => decide (p = y)) else s
def levP (r0 : Int) (g : ByteArray) (r : Int) (s : StP) (l : List Ent) : StP := ((l.foldl (zbC r0 g r) (s,fun _ => false)).1.1,(l.foldl (zbC r0 g r) (s,fun _ => false)).2)
def zbH (L : List Ent) (r0 : Int) (g : ByteArray) : Nat → StP
 | 0 => (fun _ => none,fun y => decide (y = g))
 | k + 1 => levP r0 g (zcf r0 k) (zbH L r0 g k) (zb3 L r0 k)
def inV (I : ByteArray → Option Int) (y : ByteArray) : Option Value := (I y).map (Value.int .i64)
def zcC (W : ByteArray → Bool) (y : ByteArray) : Option Value := cond (W y) (some (.bool true)) none
theorem zfc (W : ByteArray → Bool) (y : ByteArray) : (zcC W y).getD (.bool false) = .bool (W y) := by unfold zcC;cases W y <;> rfl
theorem ziG (W : ByteArray → Bool) (s : ByteArray) (y : ByteArray) : (if y = s then none else zcC W y) = zcC (fun y => if y = s then false else W y) y := by unfold zcC;by_cases h : y = s <;> simp [h]
theorem in_put (I : ByteArray → Option Int) (s : ByteArray) (r : Int) (y : ByteArray) : (if y = s then some (Value.int .i64 r) else inV I y) = inV (fun y => if y = s then some r else I y) y := by unfold inV;by_cases h : y = s <;> simp [h]
theorem ziH (N : ByteArray → Bool) (ps : List ByteArray) (j : Nat) (p : ByteArray) (hp : ps[j]? = some p) (y : ByteArray) : (if y = p then some (Value.bool true) else zcC (fun y => N y || (ps.take j).any fun p => decide (p = y)) y) = zcC (fun y => N y || (ps.take (j + 1)).any fun p => decide (p = y)) y := by
 have e : (ps.take (j + 1)).any (fun p => decide (p = y)) = ((ps.take j).any (fun p => decide (p = y)) || decide (p = y)) := by
  rw [List.take_add_one,hp,Option.toList_some,List.any_append,List.any_cons,List.any_nil,Bool.or_false]
 unfold zcC
 dsimp only
 rw [e]
 by_cases h : y = p
 ·subst h;simp
 ·have : ¬ p = y := fun e => h e.symm
  rw [if_neg h,decide_eq_false this,Bool.or_false]
theorem ent_F {W : World} {ok : Nat → Prop} {A : Option Addr} {L : List Ent} (h : Kd.F k39 W ok A L.length L) (i : Nat) (hi : i < L.length) (x : Ent) (hx : L[i]? = some x) :
  ∃ ad A3 c3 A4 c4,A = some ad ∧ W.cell? (ad.add (i * 7)) = some (.string x.f0) ∧ W.cell? ⟨(ad.add (i * 7)).block,(ad.add (i * 7)).off + 1,none⟩ = some (.int .i64 x.f1.f0) ∧ W.cell? ⟨(ad.add (i * 7)).block,(ad.add (i * 7)).off + 2,none⟩ = some (.int .i64 x.f1.f1) ∧ W.cell? ⟨(ad.add (i * 7)).block,(ad.add (i * 7)).off + 3,none⟩ = some (.slice A3 x.f1.f2.length c3) ∧
   W.cell? ⟨(ad.add (i * 7)).block,(ad.add (i * 7)).off + 4,none⟩ = some (.slice A4 x.f1.f3.length c4) ∧ W.cell? ⟨(ad.add (i * 7)).block,(ad.add (i * 7)).off + 5,none⟩ = some (.int .i64 x.f1.f4.f0) ∧ W.cell? ⟨(ad.add (i * 7)).block,(ad.add (i * 7)).off + 6,none⟩ = some (.int .i64 x.f1.f4.f1) ∧ Kd.F Kd.string W ok A4 x.f1.f3.length x.f1.f3 := by
 obtain ⟨ad,cs,rfl,_,hF,hc0,_⟩ := Kd.F_get h z39 (i : Int) (by omega) (by omega)
 rw [List.getD_eq_getElem?_getD,Int.toNat_natCast,hx] at hF
 have hc : ∀ j u,cs[j]? = some u → W.cell? (ad.add (i * 7 + j)) = some u := fun j u hj => by have := hc0 j u hj;rwa [Int.toNat_natCast] at this
 obtain ⟨A3,c3,A4,c4,rfl,l3,g3,l4,g4⟩ := zaN hF
 exact ⟨ad,A3,c3,A4,c4,rfl,hc 0 _ rfl,by rw [← zM _ _ 1 (by omega)];exact hc 1 _ rfl,by rw [← zM _ _ 2 (by omega)];exact hc 2 _ rfl,by rw [← zM _ _ 3 (by omega)];exact hc 3 _ rfl,by rw [← zM _ _ 4 (by omega)];exact hc 4 _ rfl,by rw [← zM _ _ 5 (by omega)];exact hc 5 _ rfl,by rw [← zM _ _ 6 (by omega)];exact hc 6 _ rfl,g4⟩
structure InvP (w : World) (o3 o5 od of : Obj) (base : Nat) (A0 : Option Addr) (c0 : Nat) (L : List Ent) (B gi g3 g5 g6 gd gf : Nat) (s : StP) (bw : Nat) (W : World) : Prop where
 mi : zbs W gi (inV s.1)
 mw : zbs W bw (zcC s.2)
 b3 : W.heap[g3]? = some o3
 b5 : W.heap[g5]? = some o5
 b6 : W.heap[g6]? = some (.cells #[.map (some bw)] 63 (0,0))
 bd : W.heap[gd]? = some od
 bf : W.heap[gf]? = some of
 hv : Kd.V k39 39 W W.heap.size (fun j => j < w.heap.size) (.slice A0 L.length c0) L
 hb : Below w.heap.size w W
 nb : bw ≠ B ∧ bw ≠ B + 1
 ni : bw ≠ gi
 lb : w.heap.size ≤ bw
theorem InvP.move {w : World} {o3 o5 od of : Obj} {base : Nat} {A0 : Option Addr} {c0 : Nat} {L : List Ent} {B gi g3 g5 g6 gd gf : Nat} {s : StP} {bw : Nat} {W C : World} (h : InvP w o3 o5 od of base A0 c0 L B gi g3 g5 g6 gd gf s bw W) {S : Nat → Prop} (t : Trod S W C)
  (hs : ∀ j,S j → j ≠ gi ∧ j ≠ bw ∧ j ≠ g3 ∧ j ≠ g5 ∧ j ≠ g6 ∧ j ≠ gd ∧ j ≠ gf ∧ w.heap.size ≤ j) : InvP w o3 o5 od of base A0 c0 L B gi g3 g5 g6 gd gf s bw C :=
 ⟨zbj t h.mi (fun h_ => (hs _ h_).1 rfl),zbj t h.mw (fun h_ => (hs _ h_).2.1 rfl),zat t h.b3 (fun h_ => (hs _ h_).2.2.1 rfl),zat t h.b5 (fun h_ => (hs _ h_).2.2.2.1 rfl),zat t h.b6 (fun h_ => (hs _ h_).2.2.2.2.1 rfl),zat t h.bd (fun h_ => (hs _ h_).2.2.2.2.2.1 rfl),zat t h.bf (fun h_ => (hs _ h_).2.2.2.2.2.2.1 rfl),
  Kd.V_map h.hv (fun _ hf => zei t hf (fun j hj h_ => by have := (hs _ h_).2.2.2.2.2.2.2;omega)),h.hb.trans (t.to_below h.hb.size (fun j h_ => (hs _ h_).2.2.2.2.2.2.2)),h.nb,h.ni,h.lb⟩
theorem zeO {W : World} {b q : Nat} {F : ByteArray → Option Value} {cs : Array Value} {t : TypeId} (h : zbs W b F) (hq : W.heap[q]? = some (.cells cs t (0,0))) : b ≠ q := by
 rintro rfl
 obtain ⟨es,c,l,h1,_⟩ := h
 rw [h1] at hq
 cases hq
set_option maxHeartbeats 8000000 in
set_option maxRecDepth 100000 in
theorem zhv (n low : Int) (A0 : Option Addr) (c0 : Nat) (L : List Ent) (g : ByteArray) (a1 r : Int) (A3 : Option Addr) (n3 c3 : Nat) (A4 : Option Addr) (n4 c4 : Nat) (b1 b2 : Int) (K : Nat) (w : World) (hv : Kd.V k39 39 w w.heap.size (fun j => j < w.heap.size) (.slice A0 L.length c0) L)
  (hl : L.length < 1466015503701) (hne : ∀ j,j < K → zb3 L r j ≠ []) (hK : zb3 L r K = []) :
  Calls Tryz.prog 25 #[.agg #[.int .i64 n,.int .i64 low,.slice A0 L.length c0],.agg #[.string g,.int .i64 a1,.int .i64 r,.slice A3 n3 c3,.slice A4 n4 c4,.int .i64 b1,.int .i64 b2]] w fun e w' => ∃ gm,e = .returned (.map (some gm)) ∧ zbs w' gm (inV (zbH L r g K).1) ∧ Below w.heap.size w w' := by
 have HKV := za.mk hv
 have HL := za.mk hl
 have HNE := za.mk hne
 have HKE := za.mk hK
 have Hw := za.mk (Below.refl w.heap.size w)
 clear hv hl hne hK
 have hmm := @run_makeMap Tryz.prog
 refine zeK Tryz.func25 rfl ?_
 simp only [Tryz.ntmps25,List.size_toArray,List.length_cons,List.length_nil,Nat.reduceAdd,Nat.reduceSub,Array.replicate_succ,Array.replicate_zero,List.push_toArray,List.append_toArray,List.nil_append,List.cons_append]
 go_wp2_with (first
  | ((with_reducible refine zq (N := 2) rfl ?_);refine zn rfl (N := 2) rfl (cs := #[.int .i64 n,.int .i64 low,.slice A0 L.length c0]) (t := 26) hrq ?_;intro g2 hg w2 hbox hb;have Gw_g2 := za.mk (adg Hw.out hg);replace Hw := za.mk (adl Hw.out hb);have Bg2 := za.mk hbox;clear hbox hb hg)
  | ((with_reducible refine zq (N := 3) rfl ?_);refine zn rfl (N := 3) rfl (cs := #[.string g,.int .i64 a1,.int .i64 r,.slice A3 n3 c3,.slice A4 n4 c4,.int .i64 b1,.int .i64 b2]) (t := 39) hrq ?_;intro g3 hg w3 hbox hb;have Gw_g3 := za.mk (adg Hw.out hg);have Ng2_g3 := za.mk (adn hg Bg2.out);replace Bg2 := za.mk (adb Bg2.out hb);replace Hw := za.mk (adl Hw.out hb);have Bg3 := za.mk hbox;clear hbox hb hg)
  | ((with_reducible refine zq (N := 14) rfl ?_);refine zfl ?hg (N := 14) ?hd ?hr ?_;(case hd => rfl);(case hg => rfl);(case hr => first | (go_simp;done) | (go_simp;rfl));intro gi hg w4 hm hb;have Gw_gi := za.mk (adg Hw.out hg);have Ng2_gi := za.mk (adn hg Bg2.out);have Ngi_g2 := za.mk (Ne.symm Ng2_gi.out);have Ng3_gi := za.mk (adn hg Bg3.out);have Ngi_g3 := za.mk (Ne.symm Ng3_gi.out);replace Bg2 := za.mk (adb Bg2.out hb);replace Bg3 := za.mk (adb Bg3.out hb);replace Hw := za.mk (adl Hw.out hb);have Mgi := za.mk hm;clear hm hb hg)
  | ((with_reducible refine zq (N := 5) rfl ?_);refine zn rfl (N := 5) rfl (cs := #[.map none]) (t := 58) hrq ?_;intro g5 hg w5 hbox hb;have Ngi_g5 := za.mk (show gi ≠ g5 from by rw [hg];exact Nat.ne_of_lt (zbz Mgi.out));have Ng5_gi := za.mk (Ne.symm Ngi_g5.out);have Gw_g5 := za.mk (adg Hw.out hg);have Ng2_g5 := za.mk (adn hg Bg2.out);have Ng3_g5 := za.mk (adn hg Bg3.out);replace Bg2 := za.mk (adb Bg2.out hb);replace Bg3 := za.mk (adb Bg3.out hb);replace Hw := za.mk (adl Hw.out hb);replace Mgi := za.mk (za8 Mgi.out hb);have Bg5 := za.mk hbox;clear hbox hb hg;obtain ⟨zg5_0,fg5_0⟩ := hcq1 Bg5.out)
  | ((with_reducible refine za7 (t := 58) (p := 5) rfl ?_);refine zaW (t := 58) (p := 5) (v := _) (w1 := (World.setCell w5 ⟨g5,0,none⟩ (.map (some gi)))) rfl rfl rfl hrq ?_;intro w6 hw;clear zg5_0 fg5_0;replace Bg2 := za.mk (adf hw Ng2_g5.out Bg2.out);replace Bg3 := za.mk (adf hw Ng3_g5.out Bg3.out);replace Bg5 : za (w6.heap[g5]? = some (.cells #[.map (some gi)] 58 (0,0))) := ⟨adp hw Bg5.out⟩;replace Hw := za.mk (ads hw Gw_g5.out Hw.out);replace Mgi := za.mk (adm hw Ngi_g5.out Mgi.out);clear hw)
  | ((with_reducible refine zq (N := 15) rfl ?_);refine zfl ?hg (N := 15) ?hd ?hr ?_;(case hd => rfl);(case hg => rfl);(case hr => first | (go_simp;done) | (go_simp;rfl));intro gw hg w7 hm hb;have Gw_gw := za.mk (adg Hw.out hg);have Ng2_gw := za.mk (adn hg Bg2.out);have Ngw_g2 := za.mk (Ne.symm Ng2_gw.out);have Ng3_gw := za.mk (adn hg Bg3.out);have Ngw_g3 := za.mk (Ne.symm Ng3_gw.out);have Ng5_gw := za.mk (adn hg Bg5.out);have Ngw_g5 := za.mk (Ne.symm Ng5_gw.out);have Ngi_gw := za.mk (show gi ≠ gw from by rw [hg];exact Nat.ne_of_lt (zbz Mgi.out));have Ngw_gi := za.mk (Ne.symm Ngi_gw.out);replace Bg2 := za.mk (adb Bg2.out hb);replace Bg3 := za.mk (adb Bg3.out hb);replace Bg5 := za.mk (adb Bg5.out hb);replace Hw := za.mk (adl Hw.out hb);replace Mgi := za.mk (za8 Mgi.out hb);have Mgw := za.mk hm;clear hm hb hg;obtain ⟨zg3_0,zg3_1,zg3_2,zg3_3,zg3_4,zg3_5,zg3_6,fg3_0,fg3_1,fg3_2,fg3_3,fg3_4,fg3_5,fg3_6⟩ := hcq7 Bg3.out)
  | ((with_reducible refine gate_ins (t := 63) rfl ?_);refine ziI _ rfl _ _ _ 63 rfl Mgw.out Tryz.underlying63 Tryz.underlying9 g (.bool true) rfl rfl rfl ?_;intro w8 hm8 hg8;have hT := Trod.grown (Trod.refl (fun j => j = gw) _) hg8 (.inl rfl);clear zg3_0 zg3_1 zg3_2 zg3_3 zg3_4 zg3_5 zg3_6 fg3_0 fg3_1 fg3_2 fg3_3 fg3_4 fg3_5 fg3_6;replace Bg2 := za.mk (zat hT Bg2.out Ng2_gw.out);replace Bg3 := za.mk (zat hT Bg3.out Ng3_gw.out);replace Bg5 := za.mk (zat hT Bg5.out Ng5_gw.out);replace Hw := za.mk (Hw.out.trans (hT.to_below (zh Hw.out) (fun j e => by rw [e];exact Gw_gw.out)));replace Mgi := za.mk (zbj hT Mgi.out Ngi_gw.out);replace Mgw := za.mk hm8;clear hT hm8 hg8)
  | ((with_reducible refine zq (N := 6) rfl ?_);refine zn rfl (N := 6) rfl (cs := #[.map none]) (t := 63) hrq ?_;intro g6 hg w9 hbox hb;have Ngi_g6 := za.mk (show gi ≠ g6 from by rw [hg];exact Nat.ne_of_lt (zbz Mgi.out));have Ng6_gi := za.mk (Ne.symm Ngi_g6.out);have Ngw_g6 := za.mk (show gw ≠ g6 from by rw [hg];exact Nat.ne_of_lt (zbz Mgw.out));have Ng6_gw := za.mk (Ne.symm Ngw_g6.out);have Gw_g6 := za.mk (adg Hw.out hg);have Ng2_g6 := za.mk (adn hg Bg2.out);have Ng3_g6 := za.mk (adn hg Bg3.out);have Ng5_g6 := za.mk (adn hg Bg5.out);replace Bg2 := za.mk (adb Bg2.out hb);replace Bg3 := za.mk (adb Bg3.out hb);replace Bg5 := za.mk (adb Bg5.out hb);replace Hw := za.mk (adl Hw.out hb);replace Mgi := za.mk (za8 Mgi.out hb);replace Mgw := za.mk (za8 Mgw.out hb);have Bg6 := za.mk hbox;clear hbox hb hg;obtain ⟨zg6_0,fg6_0⟩ := hcq1 Bg6.out)
  | ((with_reducible refine za7 (t := 63) (p := 6) rfl ?_);refine zaW (t := 63) (p := 6) (v := _) (w1 := (World.setCell w9 ⟨g6,0,none⟩ (.map (some gw)))) rfl rfl rfl hrq ?_;intro w10 hw;clear zg6_0 fg6_0;replace Bg2 := za.mk (adf hw Ng2_g6.out Bg2.out);replace Bg3 := za.mk (adf hw Ng3_g6.out Bg3.out);replace Bg5 := za.mk (adf hw Ng5_g6.out Bg5.out);replace Bg6 : za (w10.heap[g6]? = some (.cells #[.map (some gw)] 63 (0,0))) := ⟨adp hw Bg6.out⟩;replace Hw := za.mk (ads hw Gw_g6.out Hw.out);replace Mgi := za.mk (adm hw Ngi_g6.out Mgi.out);replace Mgw := za.mk (adm hw Ngw_g6.out Mgw.out);clear hw;obtain ⟨zg2_0,zg2_1,zg2_2,fg2_0,fg2_1,fg2_2⟩ := hcq3 Bg2.out;obtain ⟨zg3_0,zg3_1,zg3_2,zg3_3,zg3_4,zg3_5,zg3_6,fg3_0,fg3_1,fg3_2,fg3_3,fg3_4,fg3_5,fg3_6⟩ := hcq7 Bg3.out;have L6 := za.mk (zav Bg6.out))
  | (go_at_call 42;refine (zhu n low r A0 L.length c0 _).mono ?_;rintro e w11 ⟨gd,gf,rfl,hgd,hgf,hbd,hbf,hb⟩;clear zg2_0 zg2_1 zg2_2 fg2_0 fg2_1 fg2_2 zg3_0 zg3_1 zg3_2 zg3_3 zg3_4 zg3_5 zg3_6 fg3_0 fg3_1 fg3_2 fg3_3 fg3_4 fg3_5 fg3_6;replace Bg2 := za.mk (adb Bg2.out hb);replace Bg3 := za.mk (adb Bg3.out hb);replace Bg5 := za.mk (adb Bg5.out hb);replace Bg6 := za.mk (adb Bg6.out hb);replace Hw := za.mk (adl Hw.out hb);replace Mgi := za.mk (za8 Mgi.out hb);replace Mgw := za.mk (za8 Mgw.out hb);have HKW := za.mk (Kd.V_below HKV.out Hw.out);have BD := za.mk hbd;have BF := za.mk hbf;have LD := za.mk (Nat.le_trans (zh (Below.refl _ _)) hgd);have LF := za.mk hgf;have Ng6_gd := za.mk (show g6 ≠ gd from Nat.ne_of_lt (Nat.lt_of_lt_of_le L6.out hgd));have Ng6_gf := za.mk (show g6 ≠ gf from Nat.ne_of_lt (Nat.lt_of_lt_of_le L6.out hgf));clear hbd hbf hgd hgf;clear hb))
 clear hmm
 obtain ⟨l3,l5,l6⟩ : g3 < w11.heap.size ∧ g5 < w11.heap.size ∧ g6 < w11.heap.size := ⟨zav Bg3.out,zav Bg5.out,zav Bg6.out⟩
 obtain ⟨li,lw,ld,lf⟩ : gi < w11.heap.size ∧ gw < w11.heap.size ∧ gd < w11.heap.size ∧ gf < w11.heap.size := ⟨zbz Mgi.out,zbz Mgw.out,zav BD.out,zav BF.out⟩
 have hsz := zh Hw.out
 refine zgN (α := Option Addr × Nat) (gf := 64) (lb := #[.pointer (some ⟨gf,0,none⟩),.pointer (some ⟨gd,0,none⟩)]) rfl (enters_of Tryz.func64 (by kernel_rfl) rfl)
  (zia n low r A0 c0 L gd gf w.heap.size (w11.heap.size + 2) K HL.out HNE.out HKE.out) (fun _ _ => rfl)
  (fun k W => ∃ bw,InvP w (.cells #[.string g,.int .i64 a1,.int .i64 r,.slice A3 n3 c3,.slice A4 n4 c4,.int .i64 b1,.int .i64 b2] 39 (0,0)) (.cells #[.map (some gi)] 58 (0,0)) (.cells #[.int .i64 n,.int .i64 low,.slice A0 L.length c0] 26 (0,0)) (.cells #[.int .i64 r] 3 (0,0)) 0 A0 c0 L w11.heap.size gi g3 g5 g6 gd gf (zbH L r g k) bw W)
  (fun k A C h hb => by obtain ⟨bw,h⟩ := h;exact ⟨bw,h.move (Trod.of_below hb (fun _ => False)) (fun _ h_ => h_.elim)⟩)
  (fun k A l o o' h hl _ _ _ => by obtain ⟨bw,h⟩ := h;have hnb := h.nb;exact ⟨bw,h.move (zfa A l o') (fun j h_ => by subst h_;refine ⟨?_,?_,?_,?_,?_,?_,?_,?_⟩ <;> rcases hl with hl | hl <;> omega)⟩)
  (fun k x W0 A o' hs0 h => zei (zfa A _ o') h (fun j hj h_ => by rcases hj with hj | hj <;> omega))
  (fun k A h => by obtain ⟨bw,h⟩ := h;exact ⟨h.bd,h.bf,h.hv⟩)
  ⟨gw,⟨Mgi.out,zbY Mgw.out (fun y => by simp [zcC,zbH]),Bg3.out,Bg5.out,Bg6.out,BD.out,BF.out,HKW.out,Hw.out,⟨by omega,by omega⟩,Ngw_gi.out,Gw_gw.out⟩⟩
  (fun k x => { tmps := #[.agg #[.int .i64 n,.int .i64 low,.slice A0 L.length c0],.agg #[.string g,.int .i64 a1,.int .i64 r,.slice A3 n3 c3,.slice A4 n4 c4,.int .i64 b1,.int .i64 b2],.pointer (some ⟨g2,0,none⟩),.pointer (some ⟨g3,0,none⟩),.map none,.pointer (some ⟨g5,0,none⟩),.pointer (some ⟨g6,0,none⟩),.int .i64 (zcf r k),.slice x.1 (zb3 L r k).length x.2,undef,undef,undef,undef,undef,.map (some gi),.map (some gw),.pointer (some ⟨g3,0,none⟩),.string g,.map (some gw),.agg #[.int .i64 n,.int .i64 low,.slice A0 L.length c0],.pointer (some ⟨g3,1,none⟩),.pointer (some ⟨g3,2,none⟩),.int .i64 r,.func (.func 64) #[] #[.pointer (some ⟨gf,0,none⟩),.pointer (some ⟨gd,0,none⟩)],.int .i64 (zcf r k),.slice x.1 (zb3 L r k).length x.2,undef,undef,undef,undef,undef,undef,undef,undef,undef,undef,undef,undef,undef,undef,undef,undef,undef,undef,undef,undef,undef,undef,undef,undef,undef,undef,undef,undef,undef,undef,undef,undef,undef,undef,undef,undef,undef,undef,undef,undef,undef,undef,undef,undef,undef,undef,undef],defers := [] }) ?assign ?body ?done
 case assign =>
  intro l_ n_ k x W Kq hK
  gi_wp2
  exact hK
 case body =>
  rintro n_ k ⟨Ax,cx⟩ W0 W hk hs0 hs1 ⟨bw,h0⟩ hkeep ⟨bw',h1⟩ hF
  obtain rfl : bw = bw' := by
   have e := (hkeep g6 (by omega) (by omega)).symm.trans h1.b6
   rw [h0.b6] at e
   injection e with e
   injection e with e _
   simp at e
   exact e
  have lbw : bw < W0.heap.size := zbz h0.mw
  have nbw := h1.nb
  have hnext : zbH L r g (k + 1) = levP r g (zcf r k) (zbH L r g k) (zb3 L r k) := rfl
  have HF := za.mk (Kd.F_bound hF)
  have H1 := za.mk h1
  have HNX := za.mk hnext
  have q1 := Gw_gi.out
  have q2 := h1.lb
  have q3 := zav h1.b3
  have q5 := zav h1.b5
  have q6 := zav h1.b6
  have qi := zbz h1.mi
  have qw := zbz h1.mw
  have hlm := (Kd.F_now hF).2.1
  have Ng3_bw := za.mk (Ne.symm (zeO h1.mw h1.b3))
  have Ng5_bw := za.mk (Ne.symm (zeO h1.mw h1.b5))
  have Ng6_bw := za.mk (Ne.symm (zeO h1.mw h1.b6))
  have Nbw_gi := za.mk h1.ni
  have Nbw_gd := za.mk (zeO h1.mw h1.bd)
  have Nbw_gf := za.mk (zeO h1.mw h1.bf)
  have Ngi_gd := za.mk (zeO h1.mi h1.bd)
  have Ngi_gf := za.mk (zeO h1.mi h1.bf)
  have Ngi_bw := za.mk (Ne.symm h1.ni)
  clear hF hnext h0 h1 hkeep
  generalize zcf r k = rk at *
  generalize zb3 L r k = l at *
  generalize zbH L r g k = s at *
  gi_wp2_with ((with_reducible refine zbS (N := 26) rfl ?hQ ?hd ?_);(case hQ => rintro ⟨_,_,h_⟩;exact h_);(case hd => rfl))
  go_wp2_with ((with_reducible refine zq (N := 26) rfl ?_);refine zfl ?hg (N := 26) ?hd ?hr ?_;(case hd => rfl);(case hg => rfl);(case hr => first | (go_simp;done) | (go_simp;rfl));intro gn hg wa hm hb;have Mn := za.mk hm;have Tn := za.mk (Trod.of_below hb (fun j => j = gi ∨ j = bw));have GN := za.mk (Nat.le_of_eq hg.symm);have Mi := za.mk (za8 H1.out.mi hb);have Mw := za.mk (za8 H1.out.mw hb);clear hm hb hg)
  gi_wp2
  have gN := GN.out
  have Ng3_gn : za (g3 ≠ gn) := ⟨by omega⟩
  have Ng5_gn : za (g5 ≠ gn) := ⟨by omega⟩
  have Ng6_gn : za (g6 ≠ gn) := ⟨by omega⟩
  have Ngi_gn : za (gi ≠ gn) := ⟨by omega⟩
  have Nbw_gn : za (bw ≠ gn) := ⟨by omega⟩
  have Ngn_gi : za (gn ≠ gi) := ⟨by omega⟩
  have Ngn_bw : za (gn ≠ bw) := ⟨by omega⟩
  gi_loopw [29] (fun v29 wr => ∃ i : Nat,v29 = .int .i64 i ∧ i ≤ l.length ∧ za (Trod (fun j => j = gi ∨ j = bw) W wr) ∧ za (zbs wr gi (inV ((l.take i).foldl (zbC r g rk) (s,fun _ => false)).1.1)) ∧ za (zbs wr bw (zcC ((l.take i).foldl (zbC r g rk) (s,fun _ => false)).1.2)) ∧ za (zbs wr gn (zcC ((l.take i).foldl (zbC r g rk) (s,fun _ => false)).2))) (fun v29 _ => l.length - (intOf v29).toNat)
  case atStart => exact ⟨0,rfl,Nat.zero_le _,Tn,Mi,Mw,⟨zbY Mn.out (fun y => by simp [zcC])⟩⟩
  case round =>
   clear Tn Mi Mw Mn
   obtain ⟨i,rfl,hi,HT,HMi,HMw,HMn⟩ := hrel
   have HF1 := za.mk (zei HT.out HF.out (fun j hj h_ => by rcases hj with ⟨hj | hj,_⟩ <;> rcases h_ with h_ | h_ <;> omega))
   have Bg3 := za.mk (zat HT.out H1.out.b3 (fun h_ => h_.elim Ng3_gi.out Ng3_bw.out))
   have Bg5 := za.mk (zat HT.out H1.out.b5 (fun h_ => h_.elim Ng5_gi.out Ng5_bw.out))
   have Bg6 := za.mk (zat HT.out H1.out.b6 (fun h_ => h_.elim Ng6_gi.out Ng6_bw.out))
   by_cases hlt : i < l.length
   ·obtain ⟨x,hx⟩ : ∃ x,l[i]? = some x := ⟨_,List.getElem?_eq_getElem hlt⟩
    obtain ⟨adx,AX3,cx3,AX4,cx4,rfl,hx0,hx1,hx2,hx3,hx4,hx5,hx6,hps⟩ := ent_F HF1.out i hlt x hx
    have hst : (l.take (i + 1)).foldl (zbC r g rk) (s,fun _ => false) = zbC r g rk ((l.take i).foldl (zbC r g rk) (s,fun _ => false)) x := by rw [List.take_add_one,hx,Option.toList_some,List.foldl_append];rfl
    have HST := za.mk hst
    have hb : decide (i < l.length) = true := decide_eq_true hlt
    have HU := za.mk (Trod.refl (fun j => j = gi ∨ j = bw) wr)
    obtain ⟨x0,⟨x1,x2,x3,x4,⟨x5,x6⟩⟩⟩ := x
    have HPS := za.mk hps
    clear hst hps hx
    dsimp only at hx0 hx1 hx2 hx3 hx4 hx5 hx6
    generalize (l.take i).foldl (zbC r g rk) (s,fun _ => false) = q at *
    obtain ⟨⟨Iq,Wq⟩,Nq⟩ := q
    have Mgi : za (zbs wr gi (inV Iq)) := HMi
    have Mbw : za (zbs wr bw (zcC Wq)) := HMw
    have Mgn : za (zbs wr gn (zcC Nq)) := HMn
    gi_wp2_with ((with_reducible refine zbS (N := 31) rfl ?hQ ?hd ?_);(case hQ => rintro ⟨_,_,h_⟩;exact h_);(case hd => rfl))
    go_wp2_with (first
  | ((with_reducible refine zq (N := 11) rfl ?_);refine zn rfl (N := 11) rfl (cs := #[.string (⟨#[]⟩ : ByteArray),.int .i64 0,.int .i64 0,.slice none 0 0,.slice none 0 0,.int .i64 0,.int .i64 0]) (t := 39) hrq ?_;intro gx hg wx hbox hb;have GHT_gx := za.mk (show W.heap.size ≤ gx from by rw [hg];exact HT.out.size);have GHU_gx := za.mk (show wr.heap.size ≤ gx from by rw [hg];exact HU.out.size);have Ngi_gx := za.mk (show gi ≠ gx from by rw [hg];exact Nat.ne_of_lt (zbz Mgi.out));have Ngx_gi := za.mk (Ne.symm Ngi_gx.out);have Nbw_gx := za.mk (show bw ≠ gx from by rw [hg];exact Nat.ne_of_lt (zbz Mbw.out));have Ngx_bw := za.mk (Ne.symm Nbw_gx.out);have Ngn_gx := za.mk (show gn ≠ gx from by rw [hg];exact Nat.ne_of_lt (zbz Mgn.out));have Ngx_gn := za.mk (Ne.symm Ngn_gx.out);have Ng3_gx := za.mk (adn hg Bg3.out);have Ng5_gx := za.mk (adn hg Bg5.out);have Ng6_gx := za.mk (adn hg Bg6.out);replace Bg3 := za.mk (adb Bg3.out hb);replace Bg5 := za.mk (adb Bg5.out hb);replace Bg6 := za.mk (adb Bg6.out hb);replace Mgi := za.mk (za8 Mgi.out hb);replace Mbw := za.mk (za8 Mbw.out hb);replace Mgn := za.mk (za8 Mgn.out hb);replace HT := za.mk (HT.out.below hb);replace HU := za.mk (HU.out.below hb);have Bgx := za.mk hbox;clear hbox hb hg;have zgx_0 : wx.cell? ⟨gx,0,none⟩ = some (.string (⟨#[]⟩ : ByteArray)) := (zb Bgx.out 0).trans rfl;have zgx_1 : wx.cell? ⟨gx,1,none⟩ = some (.int .i64 0) := (zb Bgx.out 1).trans rfl;have zgx_2 : wx.cell? ⟨gx,2,none⟩ = some (.int .i64 0) := (zb Bgx.out 2).trans rfl;have zgx_3 : wx.cell? ⟨gx,3,none⟩ = some (.slice none 0 0) := (zb Bgx.out 3).trans rfl;have zgx_4 : wx.cell? ⟨gx,4,none⟩ = some (.slice none 0 0) := (zb Bgx.out 4).trans rfl;have zgx_5 : wx.cell? ⟨gx,5,none⟩ = some (.int .i64 0) := (zb Bgx.out 5).trans rfl;have zgx_6 : wx.cell? ⟨gx,6,none⟩ = some (.int .i64 0) := (zb Bgx.out 6).trans rfl;have fgx_0 := zc Bgx.out 0;have fgx_1 := zc Bgx.out 1;have fgx_2 := zc Bgx.out 2;have fgx_3 := zc Bgx.out 3;have fgx_4 := zc Bgx.out 4;have fgx_5 := zc Bgx.out 5;have fgx_6 := zc Bgx.out 6)
  | ((with_reducible refine za7 (t := 39) (p := 11) rfl ?_);refine zaW (t := 39) (p := 11) (v := _) (w1 := (World.setCell (World.setCell (World.setCell (World.setCell (World.setCell (World.setCell (World.setCell wx ⟨gx,0,none⟩ (.string x0)) ⟨gx,1,none⟩ (.int .i64 x1)) ⟨gx,2,none⟩ (.int .i64 x2)) ⟨gx,3,none⟩ (.slice AX3 x3.length cx3)) ⟨gx,4,none⟩ (.slice AX4 x4.length cx4)) ⟨gx,5,none⟩ (.int .i64 x5)) ⟨gx,6,none⟩ (.int .i64 x6))) rfl rfl rfl hrq ?_;intro wy hw;clear zgx_0 zgx_1 zgx_2 zgx_3 zgx_4 zgx_5 zgx_6 fgx_0 fgx_1 fgx_2 fgx_3 fgx_4 fgx_5 fgx_6;replace Bg3 := za.mk (adf hw Ng3_gx.out Bg3.out);replace Bg5 := za.mk (adf hw Ng5_gx.out Bg5.out);replace Bg6 := za.mk (adf hw Ng6_gx.out Bg6.out);replace Bgx : za (wy.heap[gx]? = some (.cells #[.string x0,.int .i64 x1,.int .i64 x2,.slice AX3 x3.length cx3,.slice AX4 x4.length cx4,.int .i64 x5,.int .i64 x6] 39 (0,0))) := ⟨adp hw Bgx.out⟩;replace Mgi := za.mk (adm hw Ngi_gx.out Mgi.out);replace Mbw := za.mk (adm hw Nbw_gx.out Mbw.out);replace Mgn := za.mk (adm hw Ngn_gx.out Mgn.out);replace HT := za.mk (adt hw GHT_gx.out HT.out);replace HU := za.mk (adt hw GHU_gx.out HU.out);clear hw;have zgx_0 : wy.cell? ⟨gx,0,none⟩ = some (.string x0) := (zb Bgx.out 0).trans rfl;have zgx_1 : wy.cell? ⟨gx,1,none⟩ = some (.int .i64 x1) := (zb Bgx.out 1).trans rfl;have zgx_2 : wy.cell? ⟨gx,2,none⟩ = some (.int .i64 x2) := (zb Bgx.out 2).trans rfl;have zgx_3 : wy.cell? ⟨gx,3,none⟩ = some (.slice AX3 x3.length cx3) := (zb Bgx.out 3).trans rfl;have zgx_4 : wy.cell? ⟨gx,4,none⟩ = some (.slice AX4 x4.length cx4) := (zb Bgx.out 4).trans rfl;have zgx_5 : wy.cell? ⟨gx,5,none⟩ = some (.int .i64 x5) := (zb Bgx.out 5).trans rfl;have zgx_6 : wy.cell? ⟨gx,6,none⟩ = some (.int .i64 x6) := (zb Bgx.out 6).trans rfl;have fgx_0 := zc Bgx.out 0;have fgx_1 := zc Bgx.out 1;have fgx_2 := zc Bgx.out 2;have fgx_3 := zc Bgx.out 3;have fgx_4 := zc Bgx.out 4;have fgx_5 := zc Bgx.out 5;have fgx_6 := zc Bgx.out 6;obtain ⟨zg6_0,fg6_0⟩ := hcq1 Bg6.out;obtain ⟨zg3_0,zg3_1,zg3_2,zg3_3,zg3_4,zg3_5,zg3_6,fg3_0,fg3_1,fg3_2,fg3_3,fg3_4,fg3_5,fg3_6⟩ := hcq7 Bg3.out;obtain ⟨zg5_0,fg5_0⟩ := hcq1 Bg5.out))
    clear hx0 hx1 hx2 hx3 hx4 hx5 hx6
    rcases hq : Wq x0 with _ | _
    ·have HQ := za.mk hq
     clear hq
     gi_wp2_with ((with_reducible refine zbS (N := 33) rfl ?hQ ?hd ?_);(case hQ => rintro ⟨_,_,h_⟩;exact h_);(case hd => rfl))
     go_wp2_with (at_lookup;refine zcb _ rfl _ _ 63 rfl Mbw.out Tryz.underlying63 Tryz.underlying9 (zag.zeroB _) x0 rfl rfl ?_;rw [zfc,HQ.out])
     clear zgx_0 zgx_1 zgx_2 zgx_3 zgx_4 zgx_5 zgx_6 fgx_0 fgx_1 fgx_2 fgx_3 fgx_4 fgx_5 fgx_6 zg6_0 fg6_0 zg3_0 zg3_1 zg3_2 zg3_3 zg3_4 zg3_5 zg3_6 fg3_0 fg3_1 fg3_2 fg3_3 fg3_4 fg3_5 fg3_6 zg5_0 fg5_0
     have hok : ¬ zdd r g rk Wq ⟨x0,⟨x1,x2,x3,x4,⟨x5,x6⟩⟩⟩ = true := by simp [zdd,HQ.out]
     have HOK := za.mk hok
     clear hok
     gi_wp2
     go_roundw
     case rel =>
      refine ⟨i + 1,by go_num,by omega,HT,?_,?_,?_⟩
      ·refine ⟨?_⟩;rw [HST.out,zbC,if_neg HOK.out];exact Mgi.out
      ·refine ⟨?_⟩;rw [HST.out,zbC,if_neg HOK.out];exact Mbw.out
      ·refine ⟨?_⟩;rw [HST.out,zbC,if_neg HOK.out];exact Mgn.out
     case measure => simp [intOf];omega
    ·have HQ := za.mk hq
     clear hq
     by_cases hr : rk = r
     ·by_cases hd : x0 = g
      ·have e1 : (rk == r) = true := beq_iff_eq.2 hr
       have e2 : (x0.toList == g.toList) = true := by rw [zb1];exact decide_eq_true hd
       have e3 : (x0.toList != g.toList) = false := by rw [bne,e2];rfl
       have HRD : za (rk = r ∧ x0 = g) := ⟨hr,hd⟩
       clear hr hd
       gi_wp2_with ((with_reducible refine zbS (N := 33) rfl ?hQ ?hd ?_);(case hQ => rintro ⟨_,_,h_⟩;exact h_);(case hd => rfl))
       go_wp2_with (at_lookup;refine zcb _ rfl _ _ 63 rfl Mbw.out Tryz.underlying63 Tryz.underlying9 (zag.zeroB _) x0 rfl rfl ?_;rw [zfc,HQ.out])
       gi_wp2_with ((with_reducible refine zbS (N := 52) rfl ?hQ ?hd ?_);(case hQ => rintro ⟨_,_,h_⟩;exact h_);(case hd => rfl))
       go_wp2_with ((with_reducible refine zif rfl ?_);refine zfM _ rfl _ _ 63 9 rfl Mbw.out Tryz.underlying63 Tryz.underlying9 x0 rfl rfl ?_;intro w12 hm12 hg12;have hT := Trod.grown (Trod.refl (fun j => j = bw) _) hg12 (.inl rfl);clear zgx_0 zgx_1 zgx_2 zgx_3 zgx_4 zgx_5 zgx_6 fgx_0 fgx_1 fgx_2 fgx_3 fgx_4 fgx_5 fgx_6 zg6_0 fg6_0 zg3_0 zg3_1 zg3_2 zg3_3 zg3_4 zg3_5 zg3_6 fg3_0 fg3_1 fg3_2 fg3_3 fg3_4 fg3_5 fg3_6 zg5_0 fg5_0;replace Bg3 := za.mk (zat hT Bg3.out Ng3_bw.out);replace Bg5 := za.mk (zat hT Bg5.out Ng5_bw.out);replace Bg6 := za.mk (zat hT Bg6.out Ng6_bw.out);replace Bgx := za.mk (zat hT Bgx.out Ngx_bw.out);replace Mgi := za.mk (zbj hT Mgi.out Ngi_bw.out);replace Mgn := za.mk (zbj hT Mgn.out Ngn_bw.out);replace Mbw := za.mk (zbY hm12 (ziG Wq x0));replace HT := za.mk (HT.out.grown hg12 (.inl (.inr rfl)));replace HU := za.mk (HU.out.grown hg12 (.inl (.inr rfl)));clear hT hm12 hg12;have zgx_0 : w12.cell? ⟨gx,0,none⟩ = some (.string x0) := (zb Bgx.out 0).trans rfl;have zgx_1 : w12.cell? ⟨gx,1,none⟩ = some (.int .i64 x1) := (zb Bgx.out 1).trans rfl;have zgx_2 : w12.cell? ⟨gx,2,none⟩ = some (.int .i64 x2) := (zb Bgx.out 2).trans rfl;have zgx_3 : w12.cell? ⟨gx,3,none⟩ = some (.slice AX3 x3.length cx3) := (zb Bgx.out 3).trans rfl;have zgx_4 : w12.cell? ⟨gx,4,none⟩ = some (.slice AX4 x4.length cx4) := (zb Bgx.out 4).trans rfl;have zgx_5 : w12.cell? ⟨gx,5,none⟩ = some (.int .i64 x5) := (zb Bgx.out 5).trans rfl;have zgx_6 : w12.cell? ⟨gx,6,none⟩ = some (.int .i64 x6) := (zb Bgx.out 6).trans rfl;have fgx_0 := zc Bgx.out 0;have fgx_1 := zc Bgx.out 1;have fgx_2 := zc Bgx.out 2;have fgx_3 := zc Bgx.out 3;have fgx_4 := zc Bgx.out 4;have fgx_5 := zc Bgx.out 5;have fgx_6 := zc Bgx.out 6;obtain ⟨zg5_0,fg5_0⟩ := hcq1 Bg5.out)
       gi_wp2_with ((with_reducible refine zbS (N := 55) rfl ?hQ ?hd ?_);(case hQ => rintro ⟨_,_,h_⟩;exact h_);(case hd => rfl))
       go_wp2_with (at_mapUpdate;refine zcY _ rfl _ _ _ 58 rfl Mgi.out Tryz.underlying58 Tryz.underlying9 x0 (.int .i64 rk) rfl rfl rfl ?_;intro w13 hm13 hg13;have hT := Trod.grown (Trod.refl (fun j => j = gi) _) hg13 (.inl rfl);clear zgx_0 zgx_1 zgx_2 zgx_3 zgx_4 zgx_5 zgx_6 fgx_0 fgx_1 fgx_2 fgx_3 fgx_4 fgx_5 fgx_6 zg5_0 fg5_0;replace Bg3 := za.mk (zat hT Bg3.out Ng3_gi.out);replace Bg5 := za.mk (zat hT Bg5.out Ng5_gi.out);replace Bg6 := za.mk (zat hT Bg6.out Ng6_gi.out);replace Bgx := za.mk (zat hT Bgx.out Ngx_gi.out);replace Mbw := za.mk (zbj hT Mbw.out Nbw_gi.out);replace Mgn := za.mk (zbj hT Mgn.out Ngn_gi.out);replace Mgi := za.mk (zbY hm13 (in_put Iq x0 rk));replace HT := za.mk (HT.out.grown hg13 (.inl (.inl rfl)));replace HU := za.mk (HU.out.grown hg13 (.inl (.inl rfl)));clear hT hm13 hg13;have zgx_0 : w13.cell? ⟨gx,0,none⟩ = some (.string x0) := (zb Bgx.out 0).trans rfl;have zgx_1 : w13.cell? ⟨gx,1,none⟩ = some (.int .i64 x1) := (zb Bgx.out 1).trans rfl;have zgx_2 : w13.cell? ⟨gx,2,none⟩ = some (.int .i64 x2) := (zb Bgx.out 2).trans rfl;have zgx_3 : w13.cell? ⟨gx,3,none⟩ = some (.slice AX3 x3.length cx3) := (zb Bgx.out 3).trans rfl;have zgx_4 : w13.cell? ⟨gx,4,none⟩ = some (.slice AX4 x4.length cx4) := (zb Bgx.out 4).trans rfl;have zgx_5 : w13.cell? ⟨gx,5,none⟩ = some (.int .i64 x5) := (zb Bgx.out 5).trans rfl;have zgx_6 : w13.cell? ⟨gx,6,none⟩ = some (.int .i64 x6) := (zb Bgx.out 6).trans rfl;have fgx_0 := zc Bgx.out 0;have fgx_1 := zc Bgx.out 1;have fgx_2 := zc Bgx.out 2;have fgx_3 := zc Bgx.out 3;have fgx_4 := zc Bgx.out 4;have fgx_5 := zc Bgx.out 5;have fgx_6 := zc Bgx.out 6)
       gi_wp2
       clear zgx_0 zgx_1 zgx_2 zgx_3 zgx_4 zgx_5 zgx_6 fgx_0 fgx_1 fgx_2 fgx_3 fgx_4 fgx_5 fgx_6
       have hpm := (Kd.F_now HPS.out).2.1
       have HN0 : za (zbs w13 gn (zcC (fun y => Nq y || (x4.take 0).any fun p => decide (p = y)))) := ⟨zbY Mgn.out (fun y => by simp)⟩
       gi_loopw [63] (fun v63 wq => ∃ j : Nat,v63 = .int .i64 j ∧ j ≤ x4.length ∧ za (Trod (fun b => b = gn) w13 wq) ∧ za (zbs wq gn (zcC (fun y => Nq y || (x4.take j).any fun p => decide (p = y))))) (fun v63 _ => x4.length - (intOf v63).toNat)
       case atStart => exact ⟨0,rfl,Nat.zero_le _,⟨Trod.refl _ _⟩,HN0⟩
       case round =>
        obtain ⟨j,rfl,hj,HV,HN⟩ := hrel
        by_cases hlt2 : j < x4.length
        ·have HPQ := za.mk (zei HV.out (zei HU.out HPS.out (fun j hj h_ => by rcases hj with ⟨hj | hj,_⟩ <;> rcases h_ with h_ | h_ <;> omega)) (fun j hj h_ => by have := hj.2;omega))
         obtain ⟨ad2,e2_,hcell⟩ := Kd.at_string (Kd.F_now HPQ.out) (j : Int) (by omega) (by omega)
         subst e2_
         rw [Int.toNat_natCast] at hcell
         have hb2 : decide (j < x4.length) = true := decide_eq_true hlt2
         have hp : x4[j]? = some (zz ByteArray.empty x4 (j : Int)) := by rw [zz,Int.toNat_natCast,List.getD_eq_getElem?_getD,List.getElem?_eq_getElem hlt2];rfl
         have HP := za.mk hp
         clear hp
         generalize zz ByteArray.empty x4 (j : Int) = p at *
         gi_wp2_with ((with_reducible refine zgk (t := 63) rfl ?hQ ?hd ?_);(case hQ => rintro ⟨_,_,h_⟩;exact h_);(case hd => rfl))
         go_wp2_with (at_mapUpdate;refine zcY _ rfl _ _ _ 63 rfl HN.out Tryz.underlying63 Tryz.underlying9 p (.bool true) rfl rfl rfl ?_;intro w14 hm14 hg14;have HN2 := za.mk (zbY hm14 (ziH Nq x4 j p HP.out));have HV2 := za.mk (HV.out.grown hg14 (.inl rfl));clear hm14 hg14)
         gi_wp2
         go_roundw
         case rel => exact ⟨j + 1,by go_num,by omega,HV2,HN2⟩
         case measure => simp [intOf];omega
        ·obtain rfl : j = x4.length := by omega
         have hb2 : decide (x4.length < x4.length) = false := decide_eq_false hlt2
         have hok : zdd r g rk Wq ⟨x0,⟨x1,x2,x3,x4,⟨x5,x6⟩⟩⟩ = true := by show (Wq x0 && !(decide (rk = r) && decide (x0 ≠ g))) = true;rw [HQ.out];simp [HRD.out.2]
         have HOK := za.mk hok
         clear hok
         gi_wp2
         go_roundw
         case rel =>
          refine ⟨i + 1,by go_num,by omega,⟨HT.out.join HV.out (fun j h_ => .inr (by rw [h_];exact GN.out))⟩,?_,?_,?_⟩
          ·refine ⟨?_⟩;rw [HST.out,zbC,if_pos HOK.out];exact zbj HV.out Mgi.out Ngi_gn.out
          ·refine ⟨?_⟩;rw [HST.out,zbC,if_pos HOK.out];exact zbj HV.out Mbw.out Nbw_gn.out
          ·refine ⟨?_⟩;rw [HST.out,zbC,if_pos HOK.out];exact zbY HN.out (fun y => by rw [List.take_length])
         case measure => simp [intOf];omega
      ·have e1 : (rk == r) = true := beq_iff_eq.2 hr
       have e2 : (x0.toList == g.toList) = false := by rw [zb1];exact decide_eq_false hd
       have e3 : (x0.toList != g.toList) = true := by rw [bne,e2];rfl
       have HRD : za (rk = r ∧ x0 ≠ g) := ⟨hr,hd⟩
       clear hr hd
       gi_wp2_with ((with_reducible refine zbS (N := 33) rfl ?hQ ?hd ?_);(case hQ => rintro ⟨_,_,h_⟩;exact h_);(case hd => rfl))
       go_wp2_with (at_lookup;refine zcb _ rfl _ _ 63 rfl Mbw.out Tryz.underlying63 Tryz.underlying9 (zag.zeroB _) x0 rfl rfl ?_;rw [zfc,HQ.out])
       clear zgx_0 zgx_1 zgx_2 zgx_3 zgx_4 zgx_5 zgx_6 fgx_0 fgx_1 fgx_2 fgx_3 fgx_4 fgx_5 fgx_6 zg6_0 fg6_0 zg3_0 zg3_1 zg3_2 zg3_3 zg3_4 zg3_5 zg3_6 fg3_0 fg3_1 fg3_2 fg3_3 fg3_4 fg3_5 fg3_6 zg5_0 fg5_0
       have hok : ¬ zdd r g rk Wq ⟨x0,⟨x1,x2,x3,x4,⟨x5,x6⟩⟩⟩ = true := by simp [zdd,HQ.out,HRD.out.1,HRD.out.2]
       have HOK := za.mk hok
       clear hok
       gi_wp2
       go_roundw
       case rel =>
        refine ⟨i + 1,by go_num,by omega,HT,?_,?_,?_⟩
        ·refine ⟨?_⟩;rw [HST.out,zbC,if_neg HOK.out];exact Mgi.out
        ·refine ⟨?_⟩;rw [HST.out,zbC,if_neg HOK.out];exact Mbw.out
        ·refine ⟨?_⟩;rw [HST.out,zbC,if_neg HOK.out];exact Mgn.out
       case measure => simp [intOf];omega
     ·have e1 : (rk == r) = false := beq_eq_false_iff_ne.2 hr
      have HRD : za (rk ≠ r) := ⟨hr⟩
      clear hr
      gi_wp2_with ((with_reducible refine zbS (N := 33) rfl ?hQ ?hd ?_);(case hQ => rintro ⟨_,_,h_⟩;exact h_);(case hd => rfl))
      go_wp2_with (at_lookup;refine zcb _ rfl _ _ 63 rfl Mbw.out Tryz.underlying63 Tryz.underlying9 (zag.zeroB _) x0 rfl rfl ?_;rw [zfc,HQ.out])
      gi_wp2_with ((with_reducible refine zbS (N := 52) rfl ?hQ ?hd ?_);(case hQ => rintro ⟨_,_,h_⟩;exact h_);(case hd => rfl))
      go_wp2_with ((with_reducible refine zif rfl ?_);refine zfM _ rfl _ _ 63 9 rfl Mbw.out Tryz.underlying63 Tryz.underlying9 x0 rfl rfl ?_;intro w12 hm12 hg12;have hT := Trod.grown (Trod.refl (fun j => j = bw) _) hg12 (.inl rfl);clear zgx_0 zgx_1 zgx_2 zgx_3 zgx_4 zgx_5 zgx_6 fgx_0 fgx_1 fgx_2 fgx_3 fgx_4 fgx_5 fgx_6 zg6_0 fg6_0 zg3_0 zg3_1 zg3_2 zg3_3 zg3_4 zg3_5 zg3_6 fg3_0 fg3_1 fg3_2 fg3_3 fg3_4 fg3_5 fg3_6 zg5_0 fg5_0;replace Bg3 := za.mk (zat hT Bg3.out Ng3_bw.out);replace Bg5 := za.mk (zat hT Bg5.out Ng5_bw.out);replace Bg6 := za.mk (zat hT Bg6.out Ng6_bw.out);replace Bgx := za.mk (zat hT Bgx.out Ngx_bw.out);replace Mgi := za.mk (zbj hT Mgi.out Ngi_bw.out);replace Mgn := za.mk (zbj hT Mgn.out Ngn_bw.out);replace Mbw := za.mk (zbY hm12 (ziG Wq x0));replace HT := za.mk (HT.out.grown hg12 (.inl (.inr rfl)));replace HU := za.mk (HU.out.grown hg12 (.inl (.inr rfl)));clear hT hm12 hg12;have zgx_0 : w12.cell? ⟨gx,0,none⟩ = some (.string x0) := (zb Bgx.out 0).trans rfl;have zgx_1 : w12.cell? ⟨gx,1,none⟩ = some (.int .i64 x1) := (zb Bgx.out 1).trans rfl;have zgx_2 : w12.cell? ⟨gx,2,none⟩ = some (.int .i64 x2) := (zb Bgx.out 2).trans rfl;have zgx_3 : w12.cell? ⟨gx,3,none⟩ = some (.slice AX3 x3.length cx3) := (zb Bgx.out 3).trans rfl;have zgx_4 : w12.cell? ⟨gx,4,none⟩ = some (.slice AX4 x4.length cx4) := (zb Bgx.out 4).trans rfl;have zgx_5 : w12.cell? ⟨gx,5,none⟩ = some (.int .i64 x5) := (zb Bgx.out 5).trans rfl;have zgx_6 : w12.cell? ⟨gx,6,none⟩ = some (.int .i64 x6) := (zb Bgx.out 6).trans rfl;have fgx_0 := zc Bgx.out 0;have fgx_1 := zc Bgx.out 1;have fgx_2 := zc Bgx.out 2;have fgx_3 := zc Bgx.out 3;have fgx_4 := zc Bgx.out 4;have fgx_5 := zc Bgx.out 5;have fgx_6 := zc Bgx.out 6;obtain ⟨zg5_0,fg5_0⟩ := hcq1 Bg5.out)
      gi_wp2_with ((with_reducible refine zbS (N := 55) rfl ?hQ ?hd ?_);(case hQ => rintro ⟨_,_,h_⟩;exact h_);(case hd => rfl))
      go_wp2_with (at_mapUpdate;refine zcY _ rfl _ _ _ 58 rfl Mgi.out Tryz.underlying58 Tryz.underlying9 x0 (.int .i64 rk) rfl rfl rfl ?_;intro w13 hm13 hg13;have hT := Trod.grown (Trod.refl (fun j => j = gi) _) hg13 (.inl rfl);clear zgx_0 zgx_1 zgx_2 zgx_3 zgx_4 zgx_5 zgx_6 fgx_0 fgx_1 fgx_2 fgx_3 fgx_4 fgx_5 fgx_6 zg5_0 fg5_0;replace Bg3 := za.mk (zat hT Bg3.out Ng3_gi.out);replace Bg5 := za.mk (zat hT Bg5.out Ng5_gi.out);replace Bg6 := za.mk (zat hT Bg6.out Ng6_gi.out);replace Bgx := za.mk (zat hT Bgx.out Ngx_gi.out);replace Mbw := za.mk (zbj hT Mbw.out Nbw_gi.out);replace Mgn := za.mk (zbj hT Mgn.out Ngn_gi.out);replace Mgi := za.mk (zbY hm13 (in_put Iq x0 rk));replace HT := za.mk (HT.out.grown hg13 (.inl (.inl rfl)));replace HU := za.mk (HU.out.grown hg13 (.inl (.inl rfl)));clear hT hm13 hg13;have zgx_0 : w13.cell? ⟨gx,0,none⟩ = some (.string x0) := (zb Bgx.out 0).trans rfl;have zgx_1 : w13.cell? ⟨gx,1,none⟩ = some (.int .i64 x1) := (zb Bgx.out 1).trans rfl;have zgx_2 : w13.cell? ⟨gx,2,none⟩ = some (.int .i64 x2) := (zb Bgx.out 2).trans rfl;have zgx_3 : w13.cell? ⟨gx,3,none⟩ = some (.slice AX3 x3.length cx3) := (zb Bgx.out 3).trans rfl;have zgx_4 : w13.cell? ⟨gx,4,none⟩ = some (.slice AX4 x4.length cx4) := (zb Bgx.out 4).trans rfl;have zgx_5 : w13.cell? ⟨gx,5,none⟩ = some (.int .i64 x5) := (zb Bgx.out 5).trans rfl;have zgx_6 : w13.cell? ⟨gx,6,none⟩ = some (.int .i64 x6) := (zb Bgx.out 6).trans rfl;have fgx_0 := zc Bgx.out 0;have fgx_1 := zc Bgx.out 1;have fgx_2 := zc Bgx.out 2;have fgx_3 := zc Bgx.out 3;have fgx_4 := zc Bgx.out 4;have fgx_5 := zc Bgx.out 5;have fgx_6 := zc Bgx.out 6)
      gi_wp2
      clear zgx_0 zgx_1 zgx_2 zgx_3 zgx_4 zgx_5 zgx_6 fgx_0 fgx_1 fgx_2 fgx_3 fgx_4 fgx_5 fgx_6
      have hpm := (Kd.F_now HPS.out).2.1
      have HN0 : za (zbs w13 gn (zcC (fun y => Nq y || (x4.take 0).any fun p => decide (p = y)))) := ⟨zbY Mgn.out (fun y => by simp)⟩
      gi_loopw [63] (fun v63 wq => ∃ j : Nat,v63 = .int .i64 j ∧ j ≤ x4.length ∧ za (Trod (fun b => b = gn) w13 wq) ∧ za (zbs wq gn (zcC (fun y => Nq y || (x4.take j).any fun p => decide (p = y))))) (fun v63 _ => x4.length - (intOf v63).toNat)
      case atStart => exact ⟨0,rfl,Nat.zero_le _,⟨Trod.refl _ _⟩,HN0⟩
      case round =>
       obtain ⟨j,rfl,hj,HV,HN⟩ := hrel
       by_cases hlt2 : j < x4.length
       ·have HPQ := za.mk (zei HV.out (zei HU.out HPS.out (fun j hj h_ => by rcases hj with ⟨hj | hj,_⟩ <;> rcases h_ with h_ | h_ <;> omega)) (fun j hj h_ => by have := hj.2;omega))
        obtain ⟨ad2,e2_,hcell⟩ := Kd.at_string (Kd.F_now HPQ.out) (j : Int) (by omega) (by omega)
        subst e2_
        rw [Int.toNat_natCast] at hcell
        have hb2 : decide (j < x4.length) = true := decide_eq_true hlt2
        have hp : x4[j]? = some (zz ByteArray.empty x4 (j : Int)) := by rw [zz,Int.toNat_natCast,List.getD_eq_getElem?_getD,List.getElem?_eq_getElem hlt2];rfl
        have HP := za.mk hp
        clear hp
        generalize zz ByteArray.empty x4 (j : Int) = p at *
        gi_wp2_with ((with_reducible refine zgk (t := 63) rfl ?hQ ?hd ?_);(case hQ => rintro ⟨_,_,h_⟩;exact h_);(case hd => rfl))
        go_wp2_with (at_mapUpdate;refine zcY _ rfl _ _ _ 63 rfl HN.out Tryz.underlying63 Tryz.underlying9 p (.bool true) rfl rfl rfl ?_;intro w14 hm14 hg14;have HN2 := za.mk (zbY hm14 (ziH Nq x4 j p HP.out));have HV2 := za.mk (HV.out.grown hg14 (.inl rfl));clear hm14 hg14)
        gi_wp2
        go_roundw
        case rel => exact ⟨j + 1,by go_num,by omega,HV2,HN2⟩
        case measure => simp [intOf];omega
       ·obtain rfl : j = x4.length := by omega
        have hb2 : decide (x4.length < x4.length) = false := decide_eq_false hlt2
        have hok : zdd r g rk Wq ⟨x0,⟨x1,x2,x3,x4,⟨x5,x6⟩⟩⟩ = true := by simp [zdd,HQ.out,HRD.out]
        have HOK := za.mk hok
        clear hok
        gi_wp2
        go_roundw
        case rel =>
         refine ⟨i + 1,by go_num,by omega,⟨HT.out.join HV.out (fun j h_ => .inr (by rw [h_];exact GN.out))⟩,?_,?_,?_⟩
         ·refine ⟨?_⟩;rw [HST.out,zbC,if_pos HOK.out];exact zbj HV.out Mgi.out Ngi_gn.out
         ·refine ⟨?_⟩;rw [HST.out,zbC,if_pos HOK.out];exact zbj HV.out Mbw.out Nbw_gn.out
         ·refine ⟨?_⟩;rw [HST.out,zbC,if_pos HOK.out];exact zbY HN.out (fun y => by rw [List.take_length])
        case measure => simp [intOf];omega
   ·obtain rfl : i = l.length := by omega
    have hb : decide (l.length < l.length) = false := decide_eq_false hlt
    obtain ⟨zg6_0,fg6_0⟩ := hcq1 Bg6.out
    gi_wp2
    have T3 : Trod (fun j => j = gi ∨ j = bw ∨ j = g6) W (wr.setCell ⟨g6,0,none⟩ (.map (some gn))) := (HT.out.wide (fun j h_ => h_.imp id .inl)).setS (.inl (.inr (.inr rfl))) _ _
    refine ⟨T3.size,T3.block _ (by omega) (by omega),T3.block _ (by omega) (by omega),gn,?_⟩
    show InvP w _ _ _ _ 0 A0 c0 L _ gi g3 g5 g6 gd gf (zbH L r g (k + 1)) gn _
    rw [HNX.out]
    have HMi2 := adm (W := wr.setCell ⟨g6,0,none⟩ (.map (some gn))) rfl Ngi_g6.out HMi.out
    have HMn2 := adm (W := wr.setCell ⟨g6,0,none⟩ (.map (some gn))) rfl (Ne.symm Ng6_gn.out) HMn.out
    rw [List.take_length] at HMi2 HMn2
    exact ⟨HMi2,HMn2,zat T3 H1.out.b3 (by have := Ng3_gi.out;have := Ng3_bw.out;have := Ng3_g6.out;omega),zat T3 H1.out.b5 (by have := Ng5_gi.out;have := Ng5_bw.out;have := Ng5_g6.out;omega),adp rfl Bg6.out,zat T3 H1.out.bd (by have := Ngi_gd.out;have := Nbw_gd.out;have := Ng6_gd.out;omega),zat T3 H1.out.bf (by have := Ngi_gf.out;have := Nbw_gf.out;have := Ng6_gf.out;omega),
     Kd.V_map H1.out.hv (fun _ hf => zei T3 hf (fun j hj h_ => by have := Gw_g6.out;omega)),H1.out.hb.trans (T3.to_below H1.out.hb.size (fun j h_ => by have := Gw_g6.out;omega)),⟨by omega,by omega⟩,Ngn_gi.out,by omega⟩
 case done =>
  rintro W hs ⟨bw,hi⟩ hd
  have HI := za.mk hi
  have HD := za.mk hd
  have z5 := (zb hi.b5 0).trans rfl
  clear hi hd
  go_wp2_with fail
  refine ⟨by simp,.inl ⟨_,_,rfl,run_takeDeferred HD.out,?_⟩⟩
  exact ⟨_,results_tmp rfl _ _ _,gi,rfl,zbj (zfa _ _ _) HI.out.mi (by omega),HI.out.hb.trans ((zfa _ _ _).to_below HI.out.hb.size (fun j h_ => by omega))⟩
end Go.Proofs.YtndjfdakflaggaaGreat.Px
namespace Go.Proofs.YtndjfdakflaggaaGreat.Px
open Go.RowKit Go.Proofs.YtndjfdakflaggaaGreatW.PrintWords Go.Proofs.YtndjfdakflaggaaGreatW.PrintLast Go.Proofs.YtndjfdakflaggaaGreatW.PrintMore
attribute [local go_sem] zA zC zH zI zv zw zB zD
set_option linter.unusedVariables false
set_option linter.unusedSimpArgs false
def zil (L : List Ent) (r : Int) : Nat → Nat → Nat
 | 0,k => k
 | d + 1,k => if (zb3 L r k).isEmpty = true then k else zil L r d (k + 1)
theorem levN_is (L : List Ent) (r : Int) : ∀ d k,(∀ j,j < k → zb3 L r j ≠ []) → (∀ j,j < zil L r d k → zb3 L r j ≠ []) ∧ (zil L r d k = k + d ∨ zb3 L r (zil L r d k) = [])
 | 0,k,h => ⟨h,.inl rfl⟩
 | d + 1,k,h => by
  unfold zil
  split
  ·next he => exact ⟨h,.inr (List.isEmpty_iff.1 he)⟩
  ·next he =>
   have hk : zb3 L r k ≠ [] := fun e => he (List.isEmpty_iff.2 e)
   obtain ⟨h1,h2⟩ := levN_is L r d (k + 1) (fun j hj => (Nat.lt_succ_iff_lt_or_eq.1 hj).elim (h j) (fun e => by rw [e];exact hk))
   exact ⟨h1,h2.imp (fun e => by omega) id⟩
theorem zhN (r : Int) : ∀ k : Nat,zcf r (k + 1) = wrap64 (r - ((k : Int) + 1))
 | 0 => by show wrap64 (r - 1) = _;rfl
 | k + 1 => by
  show wrap64 (zcf r (k + 1) - 1) = _
  rw [zhN r k]
  unfold wrap64
  omega
theorem rndK_ne (r : Int) {i j : Nat} (h : i < j) (hj : j < 18446744073709551616) : zcf r i ≠ zcf r j := by
 rcases j with _ | j
 ·omega
 rw [zhN]
 rcases i with _ | i
 ·show r ≠ _
  unfold wrap64
  omega
 ·rw [zhN]
  unfold wrap64
  omega
theorem zgn : ∀ (R S : List Int),R.Nodup → (∀ x ∈ R,x ∈ S) → R.length ≤ S.length
 | [],_,_,_ => Nat.zero_le _
 | x :: R,S,hn,hs => by
  rw [List.nodup_cons] at hn
  have hx := hs x List.mem_cons_self
  have := zgn R (S.erase x) hn.2 (fun y hy => (List.mem_erase_of_ne (fun e => hn.1 (by rw [← e];exact hy))).2 (hs y (List.mem_cons_of_mem _ hy)))
  rw [List.length_erase_of_mem hx] at this
  have h0 := List.length_pos_of_mem hx
  rw [List.length_cons]
  omega
theorem zik (L : List Ent) (r : Int) (m : Nat) (hm : m < 18446744073709551616) (h : ∀ j,j < m → zb3 L r j ≠ []) : m ≤ L.length := by
 have := zgn ((List.range m).map (zcf r)) (L.map fun x => x.f1.f1) ?_ ?_
 ·simpa using this
 ·rw [List.Nodup,List.pairwise_map]
  refine List.Pairwise.imp_of_mem ?_ (List.pairwise_lt_range (n := m))
  intro a b ha hb hab
  exact rndK_ne r hab (by have := List.mem_range.1 hb;omega)
 ·intro x hx
  obtain ⟨j,hj,rfl⟩ := List.mem_map.1 hx
  obtain ⟨y,hy⟩ := List.exists_mem_of_ne_nil _ (h j (List.mem_range.1 hj))
  unfold zb3 zce at hy
  rw [List.mem_filter] at hy
  exact List.mem_map.2 ⟨y,hy.1,of_decide_eq_true hy.2⟩
def zd1 (L : List Ent) (r : Int) : Nat := zil L r (L.length + 1) 0
theorem zf6 (L : List Ent) (r : Int) (hL : L.length < 1466015503701) : (∀ j,j < zd1 L r → zb3 L r j ≠ []) ∧ zb3 L r (zd1 L r) = [] := by
 obtain ⟨h1,h2⟩ := levN_is L r (L.length + 1) 0 (fun j hj => absurd hj (Nat.not_lt_zero _))
 refine ⟨h1,h2.resolve_left (fun e => ?_)⟩
 have := zik L r (L.length + 1) (by omega) (fun j hj => h1 j (by rw [e];omega))
 omega
def inP (L : List Ent) (t : Ent) : ByteArray → Option Int := (zbH L t.f1.f1 t.f0 (zd1 L t.f1.f1)).1
def zgy (L : List Ent) (g g2 : ByteArray) : Bool := match zda L g with
 | some t => (inP L t g2).isSome
 | none => false
theorem ent_F2 {W : World} {ok : Nat → Prop} {A : Option Addr} {L : List Ent} (h : Kd.F k39 W ok A L.length L) (i : Nat) (hi : i < L.length) (x : Ent) (hx : L[i]? = some x) :
  ∃ ad A3 c3 A4 c4,A = some ad ∧ W.cell? (ad.add (i * 7)) = some (.string x.f0) ∧ W.cell? ⟨(ad.add (i * 7)).block,(ad.add (i * 7)).off + 1,none⟩ = some (.int .i64 x.f1.f0) ∧ W.cell? ⟨(ad.add (i * 7)).block,(ad.add (i * 7)).off + 2,none⟩ = some (.int .i64 x.f1.f1) ∧ W.cell? ⟨(ad.add (i * 7)).block,(ad.add (i * 7)).off + 3,none⟩ = some (.slice A3 x.f1.f2.length c3) ∧
   W.cell? ⟨(ad.add (i * 7)).block,(ad.add (i * 7)).off + 4,none⟩ = some (.slice A4 x.f1.f3.length c4) ∧ W.cell? ⟨(ad.add (i * 7)).block,(ad.add (i * 7)).off + 5,none⟩ = some (.int .i64 x.f1.f4.f0) ∧ W.cell? ⟨(ad.add (i * 7)).block,(ad.add (i * 7)).off + 6,none⟩ = some (.int .i64 x.f1.f4.f1) ∧ x.f1.f2.length ≤ c3 ∧ Kd.F k75 W ok A3 x.f1.f2.length x.f1.f2 ∧ x.f1.f3.length ≤ c4 ∧ Kd.F Kd.string W ok A4 x.f1.f3.length x.f1.f3 := by
 obtain ⟨ad,cs,rfl,_,hF,hc0,_⟩ := Kd.F_get h z39 (i : Int) (by omega) (by omega)
 rw [List.getD_eq_getElem?_getD,Int.toNat_natCast,hx] at hF
 have hc : ∀ j u,cs[j]? = some u → W.cell? (ad.add (i * 7 + j)) = some u := fun j u hj => by have := hc0 j u hj;rwa [Int.toNat_natCast] at this
 obtain ⟨A3,c3,A4,c4,rfl,l3,g3,l4,g4⟩ := zaN hF
 exact ⟨ad,A3,c3,A4,c4,rfl,hc 0 _ rfl,by rw [← zM _ _ 1 (by omega)];exact hc 1 _ rfl,by rw [← zM _ _ 2 (by omega)];exact hc 2 _ rfl,by rw [← zM _ _ 3 (by omega)];exact hc 3 _ rfl,by rw [← zM _ _ 4 (by omega)];exact hc 4 _ rfl,by rw [← zM _ _ 5 (by omega)];exact hc 5 _ rfl,by rw [← zM _ _ 6 (by omega)];exact hc 6 _ rfl,l3,g3,l4,g4⟩
theorem zbx.zeroI : ∀ w : World,(zeroValue 3).run Tryz.prog w = .ok (.int .i64 0) w := fun _ => by kernel_rfl
set_option maxHeartbeats 8000000 in
set_option maxRecDepth 100000 in
theorem zbx.no (n low : Int) (P0 : Nat → Prop) (A0 : Option Addr) (c0 : Nat) (L : List Ent) (g : ByteArray) (h : ByteArray) (t0 : ByteArray) (t1 t2 : Int) (t3 : List S75) (t4 : List ByteArray) (t5 t6 : Int) (b : Bool) (w : World) (hs : Kd.V k39 39 w w.heap.size (fun k_ => P0 k_) (.slice A0 L.length c0) L) (hf : zaD.f n low L g = some (t0,t1,t2,t3,t4,t5,t6,b)) (hl : L.length < 1466015503701) (hb : b = false) :
  Calls Tryz.prog 8 #[.agg #[.int .i64 n,.int .i64 low,.slice A0 L.length c0],.string g,.string h] w fun e w' => e = .returned (.bool false) ∧ Below w.heap.size w w' := by
 have HV := za.mk hs
 have HF := za.mk hf
 have HL := za.mk hl
 have Hw := za.mk (Below.refl w.heap.size w)
 clear hs hf hl
 subst hb
 go_enter Tryz.func8,Tryz.ntmps8
 go_wp2_with (first
  | ((with_reducible refine zq (N := 3) rfl ?_);refine zn rfl (N := 3) rfl (cs := #[.int .i64 n,.int .i64 low,.slice A0 L.length c0]) (t := 26) hrq ?_;intro g3 hg w3 hbox hb;have Gw_g3 := za.mk (adg Hw.out hg);replace Hw := za.mk (adl Hw.out hb);have Bg3 := za.mk hbox;clear hbox hb hg;obtain ⟨zg3_0,zg3_1,zg3_2,fg3_0,fg3_1,fg3_2⟩ := hcq3 Bg3.out)
  | (go_at_call 12;refine (zaD.calls n low P0 A0 c0 L g t0 t1 t2 t3 t4 t5 t6 _ _ (Kd.V_map (Kd.V_below HV.out Hw.out) (fun _ hf_ => hf_)) HF.out).mono ?_;rintro e w4 ⟨v3,v4,rfl,hV3,hV4,hb⟩;clear zg3_0 zg3_1 zg3_2 fg3_0 fg3_1 fg3_2;replace Bg3 := za.mk (adb Bg3.out hb);replace Hw := za.mk (adl Hw.out hb);obtain ⟨A3,c3,rfl⟩ := Kd.V_slice hV3;obtain ⟨A4,c4,rfl⟩ := Kd.V_slice hV4;clear hV3 hV4;clear hb;obtain ⟨zg3_0,zg3_1,zg3_2,fg3_0,fg3_1,fg3_2⟩ := hcq3 Bg3.out)
  | ((with_reducible refine zq (N := 7) rfl ?_);refine zn rfl (N := 7) rfl (cs := #[.string (⟨#[]⟩ : ByteArray),.int .i64 0,.int .i64 0,.slice none 0 0,.slice none 0 0,.int .i64 0,.int .i64 0]) (t := 39) hrq ?_;intro g7 hg w5 hbox hb;have Gw_g7 := za.mk (adg Hw.out hg);have Ng3_g7 := za.mk (adn hg Bg3.out);clear zg3_0 zg3_1 zg3_2 fg3_0 fg3_1 fg3_2;replace Bg3 := za.mk (adb Bg3.out hb);replace Hw := za.mk (adl Hw.out hb);have Bg7 := za.mk hbox;clear hbox hb hg;obtain ⟨zg7_0,zg7_1,zg7_2,zg7_3,zg7_4,zg7_5,zg7_6,fg7_0,fg7_1,fg7_2,fg7_3,fg7_4,fg7_5,fg7_6⟩ := hcq7 Bg7.out)
  | ((with_reducible refine za7 (t := 39) (p := 7) rfl ?_);refine zaW (t := 39) (p := 7) (v := _) (w1 := (World.setCell (World.setCell (World.setCell (World.setCell (World.setCell (World.setCell (World.setCell w5 ⟨g7,0,none⟩ (.string t0)) ⟨g7,1,none⟩ (.int .i64 t1)) ⟨g7,2,none⟩ (.int .i64 t2)) ⟨g7,3,none⟩ (.slice A3 t3.length c3)) ⟨g7,4,none⟩ (.slice A4 t4.length c4)) ⟨g7,5,none⟩ (.int .i64 t5)) ⟨g7,6,none⟩ (.int .i64 t6))) rfl rfl rfl hrq ?_;intro w6 hw;clear zg7_0 zg7_1 zg7_2 zg7_3 zg7_4 zg7_5 zg7_6 fg7_0 fg7_1 fg7_2 fg7_3 fg7_4 fg7_5 fg7_6;replace Bg3 := za.mk (adf hw Ng3_g7.out Bg3.out);replace Bg7 : za (w6.heap[g7]? = some (.cells #[.string t0,.int .i64 t1,.int .i64 t2,.slice A3 t3.length c3,.slice A4 t4.length c4,.int .i64 t5,.int .i64 t6] 39 (0,0))) := ⟨adp hw Bg7.out⟩;replace Hw := za.mk (ads hw Gw_g7.out Hw.out);clear hw;obtain ⟨zg3_0,zg3_1,zg3_2,fg3_0,fg3_1,fg3_2⟩ := hcq3 Bg3.out;obtain ⟨zg7_0,zg7_1,zg7_2,zg7_3,zg7_4,zg7_5,zg7_6,fg7_0,fg7_1,fg7_2,fg7_3,fg7_4,fg7_5,fg7_6⟩ := hcq7 Bg7.out))
 go_ret
 exact ⟨rfl,Hw.out⟩
set_option maxHeartbeats 8000000 in
set_option maxRecDepth 100000 in
theorem zbx.yes (n low : Int) (P0 : Nat → Prop) (A0 : Option Addr) (c0 : Nat) (L : List Ent) (g : ByteArray) (h : ByteArray) (t0 : ByteArray) (t1 t2 : Int) (t3 : List S75) (t4 : List ByteArray) (t5 t6 : Int) (b : Bool) (w : World) (hs : Kd.V k39 39 w w.heap.size (fun k_ => P0 k_) (.slice A0 L.length c0) L) (hf : zaD.f n low L g = some (t0,t1,t2,t3,t4,t5,t6,b)) (hl : L.length < 1466015503701) (hb : b = true) :
  Calls Tryz.prog 8 #[.agg #[.int .i64 n,.int .i64 low,.slice A0 L.length c0],.string g,.string h] w fun e w' => e = .returned (.bool ((zbH L t2 t0 (zd1 L t2)).1 h).isSome) ∧ Below w.heap.size w w' := by
 have HV := za.mk hs
 have HF := za.mk hf
 have HL := za.mk hl
 have Hw := za.mk (Below.refl w.heap.size w)
 clear hs hf hl
 subst hb
 go_enter Tryz.func8,Tryz.ntmps8
 go_wp2_with (first
  | ((with_reducible refine zq (N := 3) rfl ?_);refine zn rfl (N := 3) rfl (cs := #[.int .i64 n,.int .i64 low,.slice A0 L.length c0]) (t := 26) hrq ?_;intro g3 hg w3 hbox hb;have Gw_g3 := za.mk (adg Hw.out hg);replace Hw := za.mk (adl Hw.out hb);have Bg3 := za.mk hbox;clear hbox hb hg;obtain ⟨zg3_0,zg3_1,zg3_2,fg3_0,fg3_1,fg3_2⟩ := hcq3 Bg3.out)
  | (go_at_call 12;refine (zaD.calls n low P0 A0 c0 L g t0 t1 t2 t3 t4 t5 t6 _ _ (Kd.V_map (Kd.V_below HV.out Hw.out) (fun _ hf_ => hf_)) HF.out).mono ?_;rintro e w4 ⟨v3,v4,rfl,hV3,hV4,hb⟩;clear zg3_0 zg3_1 zg3_2 fg3_0 fg3_1 fg3_2;replace Bg3 := za.mk (adb Bg3.out hb);replace Hw := za.mk (adl Hw.out hb);obtain ⟨A3,c3,rfl⟩ := Kd.V_slice hV3;obtain ⟨A4,c4,rfl⟩ := Kd.V_slice hV4;clear hV3 hV4;clear hb;obtain ⟨zg3_0,zg3_1,zg3_2,fg3_0,fg3_1,fg3_2⟩ := hcq3 Bg3.out)
  | ((with_reducible refine zq (N := 7) rfl ?_);refine zn rfl (N := 7) rfl (cs := #[.string (⟨#[]⟩ : ByteArray),.int .i64 0,.int .i64 0,.slice none 0 0,.slice none 0 0,.int .i64 0,.int .i64 0]) (t := 39) hrq ?_;intro g7 hg w5 hbox hb;have Gw_g7 := za.mk (adg Hw.out hg);have Ng3_g7 := za.mk (adn hg Bg3.out);clear zg3_0 zg3_1 zg3_2 fg3_0 fg3_1 fg3_2;replace Bg3 := za.mk (adb Bg3.out hb);replace Hw := za.mk (adl Hw.out hb);have Bg7 := za.mk hbox;clear hbox hb hg;obtain ⟨zg7_0,zg7_1,zg7_2,zg7_3,zg7_4,zg7_5,zg7_6,fg7_0,fg7_1,fg7_2,fg7_3,fg7_4,fg7_5,fg7_6⟩ := hcq7 Bg7.out)
  | ((with_reducible refine za7 (t := 39) (p := 7) rfl ?_);refine zaW (t := 39) (p := 7) (v := _) (w1 := (World.setCell (World.setCell (World.setCell (World.setCell (World.setCell (World.setCell (World.setCell w5 ⟨g7,0,none⟩ (.string t0)) ⟨g7,1,none⟩ (.int .i64 t1)) ⟨g7,2,none⟩ (.int .i64 t2)) ⟨g7,3,none⟩ (.slice A3 t3.length c3)) ⟨g7,4,none⟩ (.slice A4 t4.length c4)) ⟨g7,5,none⟩ (.int .i64 t5)) ⟨g7,6,none⟩ (.int .i64 t6))) rfl rfl rfl hrq ?_;intro w6 hw;clear zg7_0 zg7_1 zg7_2 zg7_3 zg7_4 zg7_5 zg7_6 fg7_0 fg7_1 fg7_2 fg7_3 fg7_4 fg7_5 fg7_6;replace Bg3 := za.mk (adf hw Ng3_g7.out Bg3.out);replace Bg7 : za (w6.heap[g7]? = some (.cells #[.string t0,.int .i64 t1,.int .i64 t2,.slice A3 t3.length c3,.slice A4 t4.length c4,.int .i64 t5,.int .i64 t6] 39 (0,0))) := ⟨adp hw Bg7.out⟩;replace Hw := za.mk (ads hw Gw_g7.out Hw.out);clear hw;obtain ⟨zg3_0,zg3_1,zg3_2,fg3_0,fg3_1,fg3_2⟩ := hcq3 Bg3.out;obtain ⟨zg7_0,zg7_1,zg7_2,zg7_3,zg7_4,zg7_5,zg7_6,fg7_0,fg7_1,fg7_2,fg7_3,fg7_4,fg7_5,fg7_6⟩ := hcq7 Bg7.out)
  | (go_at_call 25;refine (zhv n low A0 c0 L t0 t1 t2 A3 t3.length c3 A4 t4.length c4 t5 t6 (zd1 L t2) _ (Kd.V_map (Kd.V_below HV.out Hw.out) (fun _ hf_ => Kd.F_mono (Kd.F_bound hf_) (fun _ hk => hk.2))) HL.out (zf6 L t2 HL.out).1 (zf6 L t2 HL.out).2).mono ?_;rintro e w7 ⟨gm,rfl,hm,hb⟩;clear zg3_0 zg3_1 zg3_2 fg3_0 fg3_1 fg3_2 zg7_0 zg7_1 zg7_2 zg7_3 zg7_4 zg7_5 zg7_6 fg7_0 fg7_1 fg7_2 fg7_3 fg7_4 fg7_5 fg7_6;replace Bg3 := za.mk (adb Bg3.out hb);replace Bg7 := za.mk (adb Bg7.out hb);replace Hw := za.mk (adl Hw.out hb);have Mgm := za.mk hm;clear hm;clear hb)
  | (at_lookup;refine zg5 _ rfl _ _ 58 rfl Mgm.out Tryz.underlying58 Tryz.underlying9 (zbx.zeroI _) h rfl rfl ?_;rw [show (inV (zbH L t2 t0 (zd1 L t2)).1 h).isSome = ((zbH L t2 t0 (zd1 L t2)).1 h).isSome from Option.isSome_map];generalize (inV (zbH L t2 t0 (zd1 L t2)).1 h).getD _ = vl))
 go_ret
 exact ⟨rfl,Hw.out⟩
def zbx.f (a0_0 : Int) (a0_1 : Int) (l0_2 : List (S39)) (a1 : ByteArray) (a2 : ByteArray) : Option Bool := if l0_2.length < 1466015503701 then some (zgy l0_2 a1 a2) else none
theorem zbx.calls (a0_0 : Int) (a0_1 : Int) (P0_2_ : Nat → Prop) (A0_2 : Option Addr) (c0_2 : Nat) (l0_2 : List (S39)) (a1 : ByteArray) (a2 : ByteArray) (r : Bool) (w : World) (hs0_2 : Kd.V k39 39 w w.heap.size (fun k_ => P0_2_ k_) (.slice A0_2 l0_2.length c0_2) l0_2) (h : zbx.f a0_0 a0_1 l0_2 a1 a2 = some r) :
  Calls Tryz.prog 8 #[.agg #[.int .i64 a0_0,.int .i64 a0_1,.slice A0_2 l0_2.length c0_2],.string a1,.string a2] w fun e w' => e = .returned (.bool r) ∧ Below w.heap.size w w' := by
 unfold zbx.f at h
 split at h
 ·rename_i hl
  obtain rfl := Option.some.inj h
  rcases hf : zda l0_2 a1 with _ | t
  ·have e : zgy l0_2 a1 a2 = false := by unfold zgy;rw [hf]
   rw [e]
   exact zbx.no a0_0 a0_1 P0_2_ A0_2 c0_2 l0_2 a1 a2 _ _ _ _ _ _ _ false w hs0_2 (by unfold zaD.f;rw [hf];rfl) hl rfl
  ·have e : zgy l0_2 a1 a2 = ((zbH l0_2 t.f1.f1 t.f0 (zd1 l0_2 t.f1.f1)).1 a2).isSome := by unfold zgy;rw [hf];rfl
   rw [e]
   exact zbx.yes a0_0 a0_1 P0_2_ A0_2 c0_2 l0_2 a1 a2 t.f0 t.f1.f0 t.f1.f1 t.f1.f2 t.f1.f3 t.f1.f4.f0 t.f1.f4.f1 true w hs0_2 (by unfold zaD.f;rw [hf];rfl) hl rfl
 ·cases h
def zaa (n k : Nat) : Array Bool := (List.replicate k true ++ List.replicate (n - k) false).toArray
def zcB (a : Act) : List (Nat × Tmp) → Act
 | [] => a
 | p :: is => zcB (a.put (some p.2) undef) is
def offsT (T : Bool × List (List Nat × List Nat)) (l' : List Bool) : List Bool → List (Nat × Tmp) → Bool
 | l,[] => l == l'
 | l,p :: is => T.1 && zg8 T.2 l p.1 && zc4 T.2 l p.1 && offsT T l' (l.set p.1 true) is
def offsOk (ops : Array Oper) : Act → List (Nat × Tmp) → Bool
 | _,[] => true
 | a,p :: is => (match ops[p.1]? with | some o => (o.dst == some p.2) && !Region.wanted o (yielded ops a.tmps) | none => false) && offsOk ops (a.put (some p.2) undef) is
theorem zdV {P : Program} {ops : Array Oper} {Q : Exit → Act → World → Prop} {S : World → Prop} {ds : List Nat} {T : Bool × List (List Nat × List Nat)} {w : World} (hQ : ∀ c a d v w,Q (.panic c) (Act.put a (some d) v) w → Q (.panic c) a w) (hT : zb5 .any ops = T) : ∀ (is : List (Nat × Tmp)) (fuel : Nat) {n : Nat} (_ : fuel + is.length = n) {l : Array Bool} (l' : Array Bool) {a : Act} (_ : offsT T l'.toList l.toList is = true) (_ : offsOk ops a is = true) {a' : Act} (_ : zcB a is = a') (_ : z8 P .any ops Q S ds fuel l' a' w),z8 P .any ops Q S ds n l a w := by
 intro is
 induction is with
 | nil =>
  intro fuel n hn l l' a hc _ a' ha h
  subst hn;subst ha
  simp only [offsT,beq_iff_eq] at hc
  have : l = l' := by rw [← Array.toArray_toList (xs := l),hc]
  subst this
  exact h
 | cons p is ih =>
  intro fuel n hn l l' a hc ho a' ha h
  subst hn
  simp only [offsT,Bool.and_eq_true] at hc
  obtain ⟨⟨⟨h1,h2⟩,h3⟩,h4⟩ := hc
  simp only [offsOk,Bool.and_eq_true] at ho
  obtain ⟨ho,h5⟩ := ho
  rcases hi : ops[p.1]? with _ | o
  ·rw [hi] at ho;cases ho
  ·rw [hi] at ho
   simp only [Bool.and_eq_true,beq_iff_eq,Bool.not_eq_true'] at ho
   refine zdF (fuel := fuel + is.length) (l.setIfInBounds p.1 true) hi ho.1 (zcH hT ?_) (fun c a w => by rw [ho.1];exact hQ c a _ _ w) (Or.inr ⟨ho.2,rfl⟩) rfl (ih fuel rfl l' ?_ h5 ha h)
   ·simp only [anyT,h1,h2,h3,Bool.true_and]
    simp
   ·rw [Array.toList_setIfInBounds];exact h4
end Go.Proofs.YtndjfdakflaggaaGreat.Px