/- Part 18 of 24 of the proof of the law DagDrops: what is proved is the statement at the end of the last part; its conditions are those of the given row. -/
import Derived.Test.YtklhjlaofkngcaaZDagDropsQ
namespace Go.Proofs.Ytklhjlaofkngcaa.Px
open Go.RowKit Go.Proofs.YtklhjlaofkngcaaW.PrintWords Go.Proofs.YtklhjlaofkngcaaW.PrintLast Go.Proofs.YtklhjlaofkngcaaW.PrintMore
attribute [local go_sem] zx zz zC zD zq zr zy zA
set_option linter.unusedVariables false
set_option linter.unusedSimpArgs false
def zG.p (low : Int) (x : S36) : Bool := decide (x.f1.f1 ≤ low)
set_option maxHeartbeats 4000000 in
set_option maxRecDepth 100000 in
theorem zG.odd (low : Int) (x0 : ByteArray) (x1 x2 : Int) (A3 : Option Addr) (n3 c3 : Nat) (A4 : Option Addr) (n4 c4 : Nat) (x5 x6 : Int) (g : Nat) (w : World) (hg : w.heap[g]? = some (.cells #[.int .i64 low] 3 (0,0))) :
  Calls Try.prog 40 #[.agg #[.string x0,.int .i64 x1,.int .i64 x2,.slice A3 n3 c3,.slice A4 n4 c4,.int .i64 x5,.int .i64 x6],.pointer (some ⟨g,0,none⟩)] w fun e w' => e = .returned (.bool (decide (x2 ≤ low))) ∧ Below w.heap.size w w' := by
 have Hg := zb.mk hg
 clear hg
 go_enter Try.func40,Try.ntmps40
 go_wp2_with ((with_reducible refine zw (N := 2) rfl ?_);refine zt ?hg (N := 2) ?hd (cs := #[.string x0,.int .i64 x1,.int .i64 x2,.slice A3 n3 c3,.slice A4 n4 c4,.int .i64 x5,.int .i64 x6]) (t := 36) ?hr ?_;(case hd => rfl);(case hg => rfl);(case hr => first | (go_simp;done) | (go_simp;rfl));intro gb hg w2 hbox hb;have BK := zb.mk hbox;have HB := zb.mk hb;have Ng := zb.mk (zi Hg.out hb);have z_0 := (za BK.out 0).trans rfl;have zf_0 := zc BK.out 0;have z_1 := (za BK.out 1).trans rfl;have zf_1 := zc BK.out 1;have z_2 := (za BK.out 2).trans rfl;have zf_2 := zc BK.out 2;have z_3 := (za BK.out 3).trans rfl;have zf_3 := zc BK.out 3;have z_4 := (za BK.out 4).trans rfl;have zf_4 := zc BK.out 4;have z_5 := (za BK.out 5).trans rfl;have zf_5 := zc BK.out 5;have z_6 := (za BK.out 6).trans rfl;have zf_6 := zc BK.out 6;have zg_0 := (za Ng.out 0).trans rfl;have zgf_0 := zc Ng.out 0;clear hb hbox hg)
 go_ret
 exact ⟨rfl,HB.out⟩
set_option maxHeartbeats 4000000 in
set_option maxRecDepth 100000 in
theorem zG.idx (low : Int) (g : Nat) (A : Option Addr) (c : Nat) (l : List S36) (w : World) (hr : Kd.C k36 w A l.length l) (hg : w.heap[g]? = some (.cells #[.int .i64 low] 3 (0,0))) :
  Calls Try.prog 35 #[.slice A l.length c,.func (.func 40) #[] #[.pointer (some ⟨g,0,none⟩)]] w fun e w' => e = .returned (.int .i64 (zbL (zG.p low) l)) ∧ Below w.heap.size w w' := by
 have hm := hr.2.1
 have HR := zb.mk hr
 have Hg := zb.mk hg
 clear hr hg
 go_enter Try.func35,Try.ntmps35
 go_wp2_with fail
 have HB0 := zb.mk (Below.refl w.heap.size w)
 go_loopw [5,8] (fun v5 v8 wr => ∃ k : Nat,v8 = .int .i64 k ∧ k ≤ l.length ∧ zb (∀ (j : Nat) (y : S36),j < k → l[j]? = some y → zG.p low y = false) ∧ zb (Below w.heap.size w wr)) (fun _ v8 _ => l.length - (match v8 with | .int _ q => q | _ => 0).toNat)
 case atStart => exact ⟨0,rfl,Nat.zero_le _,⟨fun j y hj => absurd hj (Nat.not_lt_zero _)⟩,⟨by repeat (first | (with_reducible first | exact HB0.out | apply zn | apply zp | apply zE) | exact HB0.out)⟩⟩
 case round =>
  obtain ⟨k,rfl,hk,HF,HB⟩ := hrel
  by_cases hlt : k < l.length
  ·obtain ⟨ad,A3,c3,A4,c4,rfl,hx0,hx1,hx2,hx3,hx4,hx5,hx6,_,_,_,_⟩ := zaD HR.out (k : Int) (by omega) (by omega)
   replace hx0 := (HB.out.cell (World.block_lt_of_cell? w _ hx0)).trans hx0
   replace hx1 := (HB.out.cell (World.block_lt_of_cell? w _ hx1)).trans hx1
   replace hx2 := (HB.out.cell (World.block_lt_of_cell? w _ hx2)).trans hx2
   replace hx3 := (HB.out.cell (World.block_lt_of_cell? w _ hx3)).trans hx3
   replace hx4 := (HB.out.cell (World.block_lt_of_cell? w _ hx4)).trans hx4
   replace hx5 := (HB.out.cell (World.block_lt_of_cell? w _ hx5)).trans hx5
   replace hx6 := (HB.out.cell (World.block_lt_of_cell? w _ hx6)).trans hx6
   rw [Int.toNat_natCast] at hx0 hx1 hx2 hx3 hx4 hx5 hx6
   have hb : decide (k < l.length) = true := decide_eq_true hlt
   have hx : l[k]? = some (ze l (k : Int)) := by
    rw [ze,Int.toNat_natCast,List.getD_eq_getElem?_getD,List.getElem?_eq_getElem hlt];rfl
   have HX := zb.mk hx
   have Ng := zb.mk (zi Hg.out HB.out)
   clear hx
   generalize ze l (k : Int) = s at *
   obtain ⟨s0,⟨s1,s2,s3,s4,⟨s5,s6⟩⟩⟩ := s
   rcases ho : zG.p low ⟨s0,⟨s1,s2,s3,s4,⟨s5,s6⟩⟩⟩ with _ | _
   ·have HO := zb.mk ho
    clear ho
    go_wp2_with (go_at_call 40;(with_reducible refine (zG.odd low s0 s1 s2 _ _ _ _ _ _ s5 s6 g _ Ng.out).mono ?_);rintro e w1 ⟨rfl,hb1⟩;rw [show (decide (s2 ≤ low)) = _ from HO.out];have HB1 := zb.mk (zg HB.out hb1);clear hb1)
    go_roundw
    case rel =>
     refine ⟨k + 1,by go_num,by omega,⟨fun j y hj hy => ?_⟩,HB1⟩
     rcases Nat.lt_succ_iff_lt_or_eq.1 hj with h | h
     ·exact HF.out j y h hy
     ·subst h
      rw [HX.out] at hy
      injection hy with hy
      subst hy
      exact HO.out
    case measure => simp;omega
   ·have HO := zb.mk ho
    clear ho
    go_wp2_with (go_at_call 40;(with_reducible refine (zG.odd low s0 s1 s2 _ _ _ _ _ _ s5 s6 g _ Ng.out).mono ?_);rintro e w1 ⟨rfl,hb1⟩;rw [show (decide (s2 ≤ low)) = _ from HO.out];have HB1 := zb.mk (zg HB.out hb1);clear hb1)
    go_ret
    exact ⟨by rw [zbM HX.out HO.out HF.out];rfl,HB1.out⟩
  ·obtain rfl : k = l.length := by omega
   go_wp2_with fail
   go_ret
   exact ⟨by rw [zbD (fun j y hy => HF.out j y (List.getElem?_eq_some_iff.1 hy).1 hy)];rfl,HB.out⟩
theorem zfB (L : List Ent) (low : Int) : zaQ L low = L.filter fun x => !zG.p low x := by
 unfold zaQ
 congr 1
 funext x
 unfold zG.p
 by_cases h : low < x.f1.f1
 ·rw [decide_eq_true h,decide_eq_false (by omega)];rfl
 ·rw [decide_eq_false h,decide_eq_true (by omega)];rfl
theorem zgt {w0 W : World} {P : Nat → Prop} {base g n cap : Nat} {M : List Ent} (h : zbA w0 P W base (.slice (some ⟨g,0,none⟩) n cap) M) (j : Nat) (x : Ent) (hx : M[j]? = some x) :
  ∃ A3 c3 A4 c4,RE w0 P x [.string x.f0,.int .i64 x.f1.f0,.int .i64 x.f1.f1,.slice A3 x.f1.f2.length c3,.slice A4 x.f1.f3.length c4,.int .i64 x.f1.f4.f0,.int .i64 x.f1.f4.f1] ∧ W.cell? ⟨g,j * 7,none⟩ = some (.string x.f0) ∧ W.cell? ⟨g,j * 7 + 1,none⟩ = some (.int .i64 x.f1.f0) ∧ W.cell? ⟨g,j * 7 + 2,none⟩ = some (.int .i64 x.f1.f1) ∧ W.cell? ⟨g,j * 7 + 3,none⟩ = some (.slice A3 x.f1.f2.length c3) ∧ W.cell? ⟨g,j * 7 + 4,none⟩ = some (.slice A4 x.f1.f3.length c4) ∧ W.cell? ⟨g,j * 7 + 5,none⟩ = some (.int .i64 x.f1.f4.f0) ∧ W.cell? ⟨g,j * 7 + 6,none⟩ = some (.int .i64 x.f1.f4.f1) := by
 obtain ⟨A,c,he,_,hrd⟩ := zat.reads h
 injection he with h1 _ _
 subst h1
 have hj : 0 < M.length := by have := (List.getElem?_eq_some_iff.1 hx).1;omega
 obtain ⟨ad,he,hc⟩ := hrd.2.2 hj
 injection he with he
 subst he
 obtain ⟨cs,hl,hR,hcell⟩ := hc j x hx
 obtain ⟨A3,c3,A4,c4,rfl,l3,g3,l4,g4⟩ := zbY hR
 have hk : ∀ i u,[Value.string x.f0,.int .i64 x.f1.f0,.int .i64 x.f1.f1,.slice A3 x.f1.f2.length c3,.slice A4 x.f1.f3.length c4,.int .i64 x.f1.f4.f0,.int .i64 x.f1.f4.f1][i]? = some u → W.cell? ⟨g,j * 7 + i,none⟩ = some u := fun i u hu => by have := hcell i u hu;rwa [zbf] at this
 exact ⟨A3,c3,A4,c4,hR,hk 0 _ rfl,hk 1 _ rfl,hk 2 _ rfl,hk 3 _ rfl,hk 4 _ rfl,hk 5 _ rfl,hk 6 _ rfl⟩
theorem zdW {w0 W : World} {P : Nat → Prop} {base : Nat} {A : Option Addr} {n cap : Nat} {M : List Ent} (h : zbA w0 P W base (.slice A n cap) M) : n = M.length := by
 obtain ⟨A,c,he,_,_⟩ := zat.reads h
 injection he
theorem zfZ {w0 W : World} {P : Nat → Prop} {base g n cap : Nat} {M : List Ent} (h : zbA w0 P W base (.slice (some ⟨g,0,none⟩) n cap) M) (i : Nat) (hi : i < M.length) (x : Ent) (cs : List Value) (hx : RE w0 P x cs) :
  zbA w0 P (W.setCells g (i * 7) cs) base (.slice (some ⟨g,0,none⟩) n cap) (M.set i x) := by
 have hn := zdW h
 obtain ⟨inner,ho,hr⟩ := h
 have hlen := hr.1
 obtain ⟨g',cap',cur,he,hb,hc,hle,hcm,hsz,htk⟩ := zdc ho (by omega)
 injection he with h1 _ h3
 injection h1 with h1
 injection h1 with h1 _ _
 subst h1;subst h3
 have hcl := zdX hx
 have hfit : i * 7 + cs.length ≤ cur.size := by rw [hsz,hcl];omega
 obtain ⟨cur',h4,h5,h6⟩ := zdg cs (i * 7) W cur hc hfit
 refine ⟨_,⟨?_,.inr ⟨g,cap,cur',by rw [List.length_set,hn],hb,h4,by rw [List.length_set];omega,hcm,by rw [h5,hsz],?_⟩⟩,Kd.reps_set hr hi hx hcl⟩
 ·simp only [List.length_append,List.length_take,List.length_drop,List.length_set,hlen,hcl];omega
 ·rw [h6,List.length_set]
  have e1 : cur.toList.take (i * 7) = inner.take (i * 7) := by
   rw [← htk,List.take_take,Nat.min_eq_left (by omega)]
  have e2 : (cur.toList.drop (i * 7 + cs.length)).take (M.length * 7 - (i * 7 + cs.length)) = inner.drop (i * 7 + cs.length) := by
   rw [← htk,List.drop_take]
  have l1 : (inner.take (i * 7) ++ cs).length = i * 7 + cs.length := by rw [List.length_append,List.length_take,hlen];omega
  rw [e1,List.take_append,l1,e2,List.take_of_length_le (by rw [l1,hcl];omega)]
theorem zgK {w0 W W' : World} {P : Nat → Prop} {base g n cap : Nat} {M : List Ent} (h : zbA w0 P W base (.slice (some ⟨g,0,none⟩) n cap) M) (i : Nat) (hi : i < n) (zs : List Value) (hz : zs.length = (n - i) * 7) (cur : Array Value) (hc : W.heap[g]? = some (.cells cur 36 (0,0))) (hW : W' = W.setRow g (cur.toList.take (i * 7) ++ zs ++ cur.toList.drop (i * 7 + zs.length)).toArray) :
  zbA w0 P W' base (.slice (some ⟨g,0,none⟩) i cap) (M.take i) := by
 have hn := zdW h
 obtain ⟨inner,ho,hr⟩ := h
 have hlen := hr.1
 obtain ⟨g',cap',cur',he,hb,hc',hle,hcm,hsz,htk⟩ := zdc ho (by omega)
 injection he with h1 _ h3
 injection h1 with h1
 injection h1 with h1 _ _
 subst h1;subst h3
 rw [hc] at hc'
 injection hc' with hc'
 injection hc' with hc' _ _
 subst hc'
 have hml : (M.take i).length = i := by rw [List.length_take];omega
 subst hW
 refine ⟨inner.take (i * 7),⟨by rw [List.length_take,hlen,hml];omega,.inr ⟨g,cap,_,by rw [hml],hb,setRow_heap W g _ _ _ _ hc,by rw [hml];omega,hcm,?_,?_⟩⟩,Kd.reps_take hr (by omega)⟩
 ·simp only [List.size_toArray,List.length_append,List.length_take,List.length_drop,Array.length_toList,hz,hsz];omega
 ·rw [hml,List.append_assoc,List.take_append_of_le_length (by rw [List.length_take,Array.length_toList];omega),List.take_take,Nat.min_self,← htk,List.take_take,Nat.min_eq_left (by omega)]
theorem zdi {P : Program} (w : World) {ops : Array Oper} {rest : List Oper} {o : Oper} {a : Act} {Q : Exit → Act → World → Prop}
  (hgd : o.guard = none) (x : Operand) (t : TypeId) (ho : o.op = .call { callee := .builtin .clear,args := #[x],argTypes := #[t] })
  (elem : TypeId) (z : Value) (hu : P.underlying t = some (.slice elem)) (hz : (zeroValue elem).run P w = .ok z w) (g off n c : Nat) (hx : a.eval x = .slice (some ⟨g,off,none⟩) n c) (cur : Array Value) (e : TypeId) (hg : w.heap[g]? = some (.cells cur e (0,0)))
  (hfit : off + (Builtin.zeroCells z.cells n).size ≤ cur.size) (h1 : ∀ v ∈ (Builtin.zeroCells z.cells n).toList,v.oneCell' = true) (hn : 0 < n)
  (h : ∀ w' : World,w' = w.setRow g (cur.toList.take off ++ (Builtin.zeroCells z.cells n).toList ++ cur.toList.drop (off + (Builtin.zeroCells z.cells n).size)).toArray → wpList P ops Q rest (a.put o.dst (.tuple #[])) w') : wpList P ops Q (o :: rest) a w := by
 refine wpList_plain hgd fun K' hK' => ?_
 have hrun := zgl (P := P) w t o.type elem g off n c cur e z hu hz hg hfit h1 hn
 unfold Oper.wp
 simp [execOp,ho,resolve,invoke,builtin,hx,hrun,Result.andThen]
 exact hK' _ _ (h _ (by rw [List.append_assoc]))
set_option maxHeartbeats 4000000 in
set_option maxRecDepth 100000 in
theorem zG.del0 (w0 : World) (P : Nat → Prop) (w : World) (base : Nat) (low : Int) (g0 : Nat) (hb : Below w0.heap.size w0 w) (hbase : w0.heap.size ≤ base) (hg0 : w.heap[g0]? = some (.cells #[.int .i64 low] 3 (0,0))) (v : Value) (L : List Ent) (ho : zbA w0 P w base v L) (hn : ∀ (j : Nat) (y : Ent),L[j]? = some y → zG.p low y = false) :
  Calls Try.prog 39 #[v,.func (.func 40) #[] #[.pointer (some ⟨g0,0,none⟩)]] w fun e w' => e = .returned v ∧ Below w.heap.size w w' := by
 have hv := ze3 (b := 0) (e := 0) ho hb hbase
 obtain ⟨A,c,rfl⟩ := Kd.V_slice hv
 have hC := (Kd.V_reads' hv).2.2
 have HI := zb.mk (zbD hn)
 have HC := zb.mk hC
 have HG0 := zb.mk hg0
 clear hv hC hn ho hg0
 go_enter Try.func39,Try.ntmps39
 go_wp2_with (go_at_call 35;(with_reducible refine (zG.idx low g0 A c L _ HC.out HG0.out).mono ?_);rintro e w1 ⟨rfl,hb1⟩;rw [HI.out];have HB1 := zb.mk hb1;clear hb1)
 go_ret
 exact ⟨rfl,HB1.out⟩
theorem zhf (z : Array Value) (hz : ∀ k,k < z.size → (z[k]!).oneCell' = true) (n : Nat) : ∀ v ∈ (Builtin.zeroCells z n).toList,v.oneCell' = true := by
 intro v hv
 rw [Array.mem_toList_iff] at hv
 obtain ⟨i,hi,rfl⟩ := Array.mem_map.1 (show v ∈ (Array.range (n * z.size)).map fun i => z[i % z.size]! from hv)
 rw [Array.mem_range] at hi
 exact hz _ (Nat.mod_lt _ (Nat.pos_of_ne_zero (fun h => by rw [h] at hi;simp at hi)))
theorem zG.zeroE : ∀ w : World,(zeroValue 36).run Try.prog w = .ok (.agg #[.string ⟨#[]⟩,.int .i64 0,.int .i64 0,.slice none 0 0,.slice none 0 0,.int .i64 0,.int .i64 0]) w := fun _ => by kernel_rfl
theorem zea (w : World) (g o : Nat) (cs : List Value) : w.grownBy (w.setCells g o cs) (some g) := by
 obtain ⟨h1,h2,h3,h4⟩ := zcZ g cs o w
 exact ⟨h1,h2,h3,by rw [h4];exact Nat.le_refl _,fun k _ hk => zdf cs o k (fun e => hk (by rw [e]))⟩
theorem zfY {w0 W : World} {P : Nat → Prop} {base g n cap : Nat} {M : List Ent} (h : zbA w0 P W base (.slice (some ⟨g,0,none⟩) n cap) M) (hn : 0 < M.length) : ∃ cur : Array Value,W.heap[g]? = some (.cells cur 36 (0,0)) ∧ cur.size = cap * 7 := by
 obtain ⟨inner,ho,hr⟩ := h
 obtain ⟨g',cap',cur,he,hb,hc,hle,hcm,hsz,htk⟩ := zdc ho hn
 injection he with h1 _ h3
 injection h1 with h1
 injection h1 with h1 _ _
 subst h1;subst h3
 exact ⟨cur,hc,hsz⟩
theorem zfv {w0 W : World} {P : Nat → Prop} {base g n cap : Nat} {M : List Ent} (h : zbA w0 P W base (.slice (some ⟨g,0,none⟩) n cap) M) : ∀ q,0 < q + 1 → W.frozen? ⟨g,q,none⟩ = false := fun q _ => by
 obtain ⟨inner,ho,hr⟩ := h
 rcases ho.2 with ⟨he,_⟩ | ⟨g',_,cur,he,_,hc,_⟩
 ·cases he
 ·injection he with h1 _ _
  injection h1 with h1
  injection h1 with h1 _ _
  subst h1
  exact zc hc q
theorem zgV {L : List Ent} {low : Int} {k : Nat} {x : Ent} (hx : L[k]? = some x) (hn : ∀ (j : Nat) (y : Ent),j < k → L[j]? = some y → zG.p low y = false) (hp : zG.p low x = true) : L.take k = (L.take (k + 1)).filter (fun x => !zG.p low x) := by
 rw [List.take_add_one,hx,List.filter_append]
 have h1 : (L.take k).filter (fun x => !zG.p low x) = L.take k := List.filter_eq_self.2 fun y hy => by
  obtain ⟨j,hj,rfl⟩ := List.mem_take_iff_getElem.1 hy
  have := hn j L[j] (by omega) (List.getElem?_eq_getElem _)
  simp [this]
 rw [h1];simp [hp]
theorem zeT {L : List Ent} {low : Int} {j : Nat} {x : Ent} (hx : L[j]? = some x) : (L.take (j + 1)).filter (fun x => !zG.p low x) = (L.take j).filter (fun x => !zG.p low x) ++ (if zG.p low x = true then [] else [x]) := by
 rw [List.take_add_one,hx,List.filter_append]
 cases h : zG.p low x <;> simp [h]
set_option maxHeartbeats 16000000 in
set_option maxRecDepth 100000 in
theorem zG.del1 (w0 : World) (P : Nat → Prop) (w : World) (base : Nat) (low : Int) (g0 : Nat) (hb : Below w0.heap.size w0 w) (hbase : w0.heap.size ≤ base) (hg0 : w.heap[g0]? = some (.cells #[.int .i64 low] 3 (0,0))) (g n cap : Nat) (L : List Ent) (ho : zbA w0 P w base (.slice (some ⟨g,0,none⟩) n cap) L) (hl : L.length < 1466015503701) (hne : g0 < base) (k0 : Nat) (x0 : Ent) (hx0 : L[k0]? = some x0) (hp0 : zG.p low x0 = true) (hn0 : ∀ (j : Nat) (y : Ent),j < k0 → L[j]? = some y → zG.p low y = false) :
  Calls Try.prog 39 #[.slice (some ⟨g,0,none⟩) n cap,.func (.func 40) #[] #[.pointer (some ⟨g0,0,none⟩)]] w fun e w' => ∃ v' : Value,e = .returned v' ∧ zbA w0 P w' base v' (zaQ L low) ∧ w.grownBy w' (some g) := by
 obtain rfl : n = L.length := zdW ho
 have hC := (Kd.V_reads' (ze3 (b := 0) (e := 0) ho hb hbase)).2.2
 have HI := zb.mk (zbM hx0 hp0 hn0)
 have HC := zb.mk hC
 have HG0 := zb.mk hg0
 have hgb : base ≤ g := zcL ho g rfl
 have HO := zb.mk ho
 have hcap : L.length ≤ cap := by
  obtain ⟨_,_,he,hle,_⟩ := zat.reads ho
  injection he with _ _ he;omega
 have hk0 : k0 < L.length := (List.getElem?_eq_some_iff.1 hx0).1
 have HK := zb.mk (zgV hx0 hn0 hp0)
 have HB := zb.mk hb
 have HBS := zb.mk hbase
 have c1 : ((k0 : Int) == -1) = false := beq_eq_false_iff_ne.2 (by omega)
 obtain ⟨i0,hi0,hz0,hsz,hby⟩ := info_parts zdp
 have HIN := zb.mk hi0
 have HSZ := zb.mk hsz
 clear hC hx0 hp0 hn0 ho hg0 hb hbase hi0 hsz hz0 hby
 go_enter Try.func39,Try.ntmps39
 go_wp2_with (go_at_call 35;(with_reducible refine (zG.idx low g0 _ cap L _ HC.out HG0.out).mono ?_);rintro e w1 ⟨rfl,hb1⟩;rw [HI.out];have HB1 := zb.mk hb1;clear hb1)
 have HG1 : zb (w.grownBy w1 (some g)) := ⟨zbo HB1.out _⟩
 have HO1 := zb.mk (zcw HO.out HB1.out)
 clear c1
 go_loopw [5,6] (fun v5 v6 wr => ∃ (i j : Nat) (M : List Ent),v5 = .int .i64 i ∧ v6 = .int .i64 j ∧ i < j ∧ j ≤ L.length ∧ M.length = L.length ∧ zb (zbA w0 P wr base (.slice (some ⟨g,0,none⟩) L.length cap) M) ∧ zb (M.take i = (L.take j).filter (fun x => !zG.p low x)) ∧ zb (∀ q,j ≤ q → M[q]? = L[q]?) ∧ zb (w.grownBy wr (some g))) (fun _ v6 _ => L.length - (intOf v6).toNat)
 case atStart => exact ⟨k0,k0 + 1,L,rfl,by go_num,Nat.lt_succ_self _,by omega,rfl,HO1,HK,⟨fun _ _ => rfl⟩,HG1⟩
 case round =>
  obtain ⟨i,j,M,rfl,rfl,hij,hj,hML,HM,HT,HD,HG⟩ := hrel
  have HN0 : zb (wr.heap[g0]? = some (.cells #[.int .i64 low] 3 (0,0))) := ⟨zaP HG0.out HG.out (fun he => by injection he with he;omega)⟩
  by_cases hlt : j < L.length
  ·obtain ⟨x,hx⟩ : ∃ x,L[j]? = some x := ⟨_,List.getElem?_eq_getElem hlt⟩
   have hmx : M[j]? = some x := (HD.out j (Nat.le_refl _)).trans hx
   obtain ⟨y,hmy⟩ : ∃ y,M[i]? = some y := ⟨_,List.getElem?_eq_getElem (by omega)⟩
   obtain ⟨A3,c3,A4,c4,hR,hx0,hx1,hx2,hx3,hx4,hx5,hx6⟩ := zgt HM.out j x hmx
   have HX := zb.mk hx
   have HMY := zb.mk hmy
   have HR := zb.mk hR
   have hb : decide (j < L.length) = true := decide_eq_true hlt
   have hib : decide (i < L.length) = true := decide_eq_true (by omega)
   clear hx hmx hmy hR
   obtain ⟨s0,⟨s1,s2,s3,s4,⟨s5,s6⟩⟩⟩ := x
   rcases hp : zG.p low ⟨s0,⟨s1,s2,s3,s4,⟨s5,s6⟩⟩⟩ with _ | _
   all_goals
    have HP := zb.mk hp
    clear hp
    go_wp2_with (go_at_call 40;(with_reducible refine (zG.odd low s0 s1 s2 _ _ _ _ _ _ s5 s6 g0 _ (zd HN0.out _)).mono ?_);rintro e w2 ⟨rfl,hb1⟩;rw [show (decide (s2 ≤ low)) = _ from HP.out];have HG2 : zb (w.grownBy w2 (some g)) := ⟨HG.out.trans ((World.grownBy_alloc wr _ _).trans (zbo hb1 _))⟩;have HM2 := zb.mk (zcw HM.out (zg (zn (Below.refl _ _) _) hb1));have BX := zb.mk (zi (zaG wr _) hb1);clear hb1;have z_0 := (za BX.out 0).trans rfl;have zf_0 := zc BX.out 0;have z_1 := (za BX.out 1).trans rfl;have zf_1 := zc BX.out 1;have z_2 := (za BX.out 2).trans rfl;have zf_2 := zc BX.out 2;have z_3 := (za BX.out 3).trans rfl;have zf_3 := zc BX.out 3;have z_4 := (za BX.out 4).trans rfl;have zf_4 := zc BX.out 4;have z_5 := (za BX.out 5).trans rfl;have zf_5 := zc BX.out 5;have z_6 := (za BX.out 6).trans rfl;have zf_6 := zc BX.out 6;obtain ⟨D3,d3,D4,d4,_,k0_,k1_,k2_,k3_,k4_,k5_,k6_⟩ := zgt HM2.out i y HMY.out;have FZ := zb.mk (zfv HM2.out);have fz0 := FZ.out (i * 7) (by omega);have fz1 := FZ.out (i * 7 + 1) (by omega);have fz2 := FZ.out (i * 7 + 2) (by omega);have fz3 := FZ.out (i * 7 + 3) (by omega);have fz4 := FZ.out (i * 7 + 4) (by omega);have fz5 := FZ.out (i * 7 + 5) (by omega);have fz6 := FZ.out (i * 7 + 6) (by omega))
   ·go_roundw
    case rel =>
     refine ⟨i + 1,j + 1,M.set i ⟨s0,⟨s1,s2,s3,s4,⟨s5,s6⟩⟩⟩,by go_num,by go_num,by omega,by omega,by rw [List.length_set];exact hML,⟨zfZ HM2.out i (by omega) ⟨s0,⟨s1,s2,s3,s4,⟨s5,s6⟩⟩⟩ [.string s0,.int .i64 s1,.int .i64 s2,.slice A3 s3.length c3,.slice A4 s4.length c4,.int .i64 s5,.int .i64 s6] HR.out⟩,⟨?_⟩,⟨fun q hq => ?_⟩,⟨HG2.out.trans (zea w2 g (i * 7) [.string s0,.int .i64 s1,.int .i64 s2,.slice A3 s3.length c3,.slice A4 s4.length c4,.int .i64 s5,.int .i64 s6])⟩⟩
     ·rw [zeT HX.out,HP.out,← HT.out,List.take_add_one,List.getElem?_set_self (by omega)]
      rw [List.take_set_of_le (Nat.le_refl _)];rfl
     ·rw [List.getElem?_set_ne (by omega)];exact HD.out q (by omega)
    case measure => simp [intOf];omega
   ·go_roundw
    case rel => exact ⟨i,j + 1,M,rfl,by go_num,by omega,by omega,hML,HM2,⟨by rw [zeT HX.out,HP.out,HT.out];simp⟩,⟨fun q hq => HD.out q (by omega)⟩,HG2⟩
    case measure => simp [intOf];omega
  ·obtain rfl : j = L.length := by omega
   have hb : decide (L.length < L.length) = false := decide_eq_false (Nat.lt_irrefl _)
   obtain ⟨cur,hg,hcz⟩ := zfY HM.out (by omega)
   have HCUR := zb.mk hg
   have HCZ := zb.mk hcz
   have hcutA := zc4 (P := Try.prog) 22 36 .i64 Try.underlying22 HIN.out 7 HSZ.out g L.length cap i (i : Int) rfl (by omega) (by omega)
   have hcutB := zhm (P := Try.prog) 22 36 .i64 Try.underlying22 HIN.out (some ⟨g,0,none⟩) L.length cap (i : Int) (by omega) (by omega) hcap
   rw [Int.toNat_natCast] at hcutB
   have p1 : ((i : Int) ≤ (L.length : Int)) = True := eq_true (by omega)
   have p2 : ((i : Int) ≤ (cap : Int)) = True := eq_true (by omega)
   clear hg hcz
   go_wp2_with (refine zdi _ rfl (.tmp 38) 22 rfl 36 (.agg #[.string ⟨#[]⟩,.int .i64 0,.int .i64 0,.slice none 0 0,.slice none 0 0,.int .i64 0,.int .i64 0]) Try.underlying22 (zG.zeroE _) g (i * 7) (L.length - i) (cap - i) rfl cur 36 HCUR.out ?d1 (zhf _ (by decide) _) (by omega) ?_;(case d1 => (rw [size_zeroCells,HCZ.out];show i * 7 + (L.length - i) * 7 ≤ cap * 7;omega));intro w3 hw3;have HW3 := zb.mk hw3;clear hw3)
   go_ret
   refine ⟨_,rfl,?_,HG.out.trans (by rw [HW3.out];exact zbw wr g _)⟩
   have h9 := zgK (W' := w3) HM.out i (by omega) (Builtin.zeroCells (Value.cells (.agg #[.string ⟨#[]⟩,.int .i64 0,.int .i64 0,.slice none 0 0,.slice none 0 0,.int .i64 0,.int .i64 0])) (L.length - i)).toList (by rw [Array.length_toList,size_zeroCells] <;> rfl) cur HCUR.out (by rw [Array.length_toList];exact HW3.out)
   rw [HT.out,List.take_length,← zfB] at h9
   exact h9
theorem zgR {α : Type} (p : α → Bool) (L : List α) (h : ∃ k,k < L.length ∧ ∃ x,L[k]? = some x ∧ p x = true) : ∃ k x,L[k]? = some x ∧ p x = true ∧ ∀ (j : Nat) (y : α),j < k → L[j]? = some y → p y = false := by
 obtain ⟨k,hk,x,hx,hp⟩ := h
 induction k using Nat.strongRecOn generalizing x with
 | ind k ih =>
  by_cases hc : ∃ j,j < k ∧ ∃ y,L[j]? = some y ∧ p y = true
  ·obtain ⟨j,hj,y,hy,hpy⟩ := hc
   exact ih j hj (by omega) y hy hpy
  ·refine ⟨k,x,hx,hp,fun j y hj hy => ?_⟩
   rcases h : p y with _ | _
   ·rfl
   ·exact absurd ⟨j,hj,y,hy,h⟩ hc
theorem zG.del (w0 : World) (P : Nat → Prop) (w : World) (base : Nat) (low : Int) (g0 : Nat) (hb : Below w0.heap.size w0 w) (hbase : w0.heap.size ≤ base) (hg0 : w.heap[g0]? = some (.cells #[.int .i64 low] 3 (0,0))) (v : Value) (L : List Ent) (ho : zbA w0 P w base v L) (hl : L.length < 1466015503701) (hne : g0 < base) :
  Calls Try.prog 39 #[v,.func (.func 40) #[] #[.pointer (some ⟨g0,0,none⟩)]] w fun e w' => ∃ v' : Value,e = .returned v' ∧ zbA w0 P w' base v' (zaQ L low) ∧ w.grownBy w' v.ownBlock := by
 by_cases hn : ∀ (j : Nat) (y : Ent),L[j]? = some y → zG.p low y = false
 ·refine (zG.del0 w0 P w base low g0 hb hbase hg0 v L ho hn).mono ?_
  rintro e w' ⟨rfl,hb'⟩
  have hd : zaQ L low = L := by
   rw [zfB]
   refine List.filter_eq_self.2 fun y hy => ?_
   obtain ⟨j,hj⟩ := List.mem_iff_getElem?.1 hy
   rw [hn j y hj];rfl
  rw [hd]
  exact ⟨v,rfl,zcw ho hb',zbo hb' _⟩
 ·have hex : ∃ k,k < L.length ∧ ∃ x,L[k]? = some x ∧ zG.p low x = true := by
   refine Classical.byContradiction fun hc => hn fun j y hy => ?_
   rcases hp : zG.p low y with _ | _
   ·rfl
   ·exact absurd ⟨j,(List.getElem?_eq_some_iff.1 hy).1,y,hy,hp⟩ hc
  obtain ⟨k0,x0,hx0,hp0,hn0⟩ : ∃ k0 x0,L[k0]? = some x0 ∧ zG.p low x0 = true ∧ ∀ (j : Nat) (y : Ent),j < k0 → L[j]? = some y → zG.p low y = false := by
   exact zgR (zG.p low) L hex
  rcases ho with ⟨inner,ho,hr⟩
  obtain ⟨A,cap,rfl⟩ := zeX ho
  obtain ⟨g,cap',cur,he,_⟩ := zdc ho (by have := (List.getElem?_eq_some_iff.1 hx0).1;omega)
  injection he with he _ _
  subst he
  exact zG.del1 w0 P w base low g0 hb hbase hg0 g _ cap L ⟨inner,ho,hr⟩ hl hne k0 x0 hx0 hp0 hn0
set_option maxHeartbeats 16000000 in
set_option maxRecDepth 100000 in
theorem zG.not (a0_0 : Int) (a0_1 : Int) (P0_2_ : Nat → Prop) (A0_2 : Option Addr) (c0_2 : Nat) (l0_2 : List (S36)) (a1 : Int) (w : World) (hc : a1 ≤ a0_1) :
  Calls Try.prog 24 #[.agg #[.int .i64 a0_0,.int .i64 a0_1,.slice A0_2 l0_2.length c0_2],.int .i64 a1] w fun e w' => e = .returned (.agg #[.int .i64 a0_0,.int .i64 a0_1,.slice A0_2 l0_2.length c0_2]) ∧ Below w.heap.size w w' := by
 have d1 : decide (a1 ≤ a0_1) = true := decide_eq_true hc
 clear hc
 go_enter Try.func24,Try.ntmps24
 go_wp2_with (first
  | ((with_reducible refine zw (N := 2) rfl ?_);refine zt ?hg (N := 2) ?hd (cs := #[.int .i64 a0_0,.int .i64 a0_1,.slice A0_2 l0_2.length c0_2]) (t := 24) ?hr ?_;(case hd => rfl);(case hg => rfl);(case hr => first | (go_simp;done) | (go_simp;rfl));intro g2 hg w2 hbox hb;have B2 := zb.mk hbox;have HB2 := zb.mk hb;have GE2 : zb (w.heap.size ≤ g2) := ⟨by rw [hg];exact Nat.le_refl _⟩;clear hb hbox hg)
  | ((with_reducible refine zw (N := 3) rfl ?_);refine zt ?hg (N := 3) ?hd (cs := #[.int .i64 a1]) (t := 3) ?hr ?_;(case hd => rfl);(case hg => rfl);(case hr => first | (go_simp;done) | (go_simp;rfl));intro g3 hg w3 hbox hb;have M3 : zb (Below w.heap.size w w3 ∧ w3.heap[g2]? = some (.cells #[.int .i64 a0_0,.int .i64 a0_1,.slice A0_2 l0_2.length c0_2] 24 (0,0)) ∧ w3.heap[g3]? = some (.cells #[.int .i64 a1] 3 (0,0)) ∧ g2 < g3) := ⟨zg HB2.out hb,zi B2.out hb,hbox,by rw [hg];exact zam B2.out⟩;have HLE : zb (w.heap.size ≤ w3.heap.size) := ⟨zo M3.out.1⟩;have p3_0 := fun o => (za (zd M3.out.2.1 o) 0).trans rfl;have pf_0 := fun o => zc (zd M3.out.2.1 o) 0;have p3_1 := fun o => (za (zd M3.out.2.1 o) 1).trans rfl;have pf_1 := fun o => zc (zd M3.out.2.1 o) 1;have p3_2 := fun o => (za (zd M3.out.2.1 o) 2).trans rfl;have pf_2 := fun o => zc (zd M3.out.2.1 o) 2;have q3_0 := fun o => (za (zd M3.out.2.2.1 o) 0).trans rfl;have hh := 0;clear hh;clear hb hbox hg))
 refine bodyPost_ret (zcH rfl (.cell w3.heap.size 24 _ (0,0) _ rfl (zaG w3 _) Try.underlying24 rfl (by kernel_rfl) .nil)) rfl ?_
 exact ⟨rfl,zn M3.out.1 _⟩
set_option maxHeartbeats 16000000 in
set_option maxRecDepth 100000 in
theorem zG.yes (a0_0 : Int) (a0_1 : Int) (P0_2_ : Nat → Prop) (A0_2 : Option Addr) (c0_2 : Nat) (l0_2 : List (S36)) (a1 : Int) (w : World) (hs0_2 : Kd.V k36 36 w w.heap.size (fun k_ => P0_2_ k_) (.slice A0_2 l0_2.length c0_2) l0_2) (hc : ¬ a1 ≤ a0_1) (hl : l0_2.length < 1466015503701) :
  Calls Try.prog 24 #[.agg #[.int .i64 a0_0,.int .i64 a0_1,.slice A0_2 l0_2.length c0_2],.int .i64 a1] w fun e w' => ∃ v2_ : Value,e = .returned (.agg #[.int .i64 a0_0,.int .i64 a1,v2_]) ∧ Kd.V k36 36 w' w.heap.size (fun k_ => P0_2_ k_ ∨ w.heap.size ≤ k_) v2_ (zaQ l0_2 a1) ∧ Below w.heap.size w w' := by
 have d1 : decide (a1 ≤ a0_1) = false := decide_eq_false hc
 have HFL := zb.mk (Kd.V_at hs0_2).2.2
 have HL := zb.mk hl
 clear hc hs0_2 hl
 go_enter Try.func24,Try.ntmps24
 go_wp2_with (first
  | ((with_reducible refine zw (N := 2) rfl ?_);refine zt ?hg (N := 2) ?hd (cs := #[.int .i64 a0_0,.int .i64 a0_1,.slice A0_2 l0_2.length c0_2]) (t := 24) ?hr ?_;(case hd => rfl);(case hg => rfl);(case hr => first | (go_simp;done) | (go_simp;rfl));intro g2 hg w2 hbox hb;have B2 := zb.mk hbox;have HB2 := zb.mk hb;have GE2 : zb (w.heap.size ≤ g2) := ⟨by rw [hg];exact Nat.le_refl _⟩;clear hb hbox hg)
  | ((with_reducible refine zw (N := 3) rfl ?_);refine zt ?hg (N := 3) ?hd (cs := #[.int .i64 a1]) (t := 3) ?hr ?_;(case hd => rfl);(case hg => rfl);(case hr => first | (go_simp;done) | (go_simp;rfl));intro g3 hg w3 hbox hb;have M3 : zb (Below w.heap.size w w3 ∧ w3.heap[g2]? = some (.cells #[.int .i64 a0_0,.int .i64 a0_1,.slice A0_2 l0_2.length c0_2] 24 (0,0)) ∧ w3.heap[g3]? = some (.cells #[.int .i64 a1] 3 (0,0)) ∧ g2 < g3) := ⟨zg HB2.out hb,zi B2.out hb,hbox,by rw [hg];exact zam B2.out⟩;have HLE : zb (w.heap.size ≤ w3.heap.size) := ⟨zo M3.out.1⟩;have p3_0 := fun o => (za (zd M3.out.2.1 o) 0).trans rfl;have pf_0 := fun o => zc (zd M3.out.2.1 o) 0;have p3_1 := fun o => (za (zd M3.out.2.1 o) 1).trans rfl;have pf_1 := fun o => zc (zd M3.out.2.1 o) 1;have p3_2 := fun o => (za (zd M3.out.2.1 o) 2).trans rfl;have pf_2 := fun o => zc (zd M3.out.2.1 o) 2;have q3_0 := fun o => (za (zd M3.out.2.2.1 o) 0).trans rfl;have hh := 0;clear hh;clear hb hbox hg)
  | (go_at_call 38;(with_reducible refine (zd7 w P0_2_ _ A0_2 c0_2 l0_2 HFL.out (zk (zn M3.out.1 _) GE2.out) HL.out).mono ?_);rintro e w5 ⟨v5,rfl,hO,hb⟩;obtain ⟨bs,hO,HBE⟩ : ∃ bs,zbA w P0_2_ w5 bs v5 l0_2 ∧ zb (bs = w3.heap.size + 1) := ⟨_,hO,⟨by simp⟩⟩;have M4 : zb (∃ w8 : World,w8.heap.size = w3.heap.size + 1 ∧ zbk w w8 g2 g3 w3.heap.size (.cells #[.int .i64 a0_0,.int .i64 a1,.slice A0_2 l0_2.length c0_2] 24 (0,0)) (.cells #[.int .i64 a1] 3 (0,0)) (.cells #[.int .i64 0,.int .i64 0,.slice none 0 0] 24 (0,0))) := ⟨_,by simp,⟨zk (zn M3.out.1 _) GE2.out,zH (zd M3.out.2.1 _) 1 _,zaV (zd M3.out.2.2.1 _) (show g3 ≠ g2 from Nat.ne_of_gt M3.out.2.2.2) _,zaV (zaG w3 _) (show w3.heap.size ≠ g2 from Nat.ne_of_gt (zam M3.out.2.1)) _⟩⟩;have M5 : zb (zbk w w5 g2 g3 w3.heap.size (.cells #[.int .i64 a0_0,.int .i64 a1,.slice A0_2 l0_2.length c0_2] 24 (0,0)) (.cells #[.int .i64 a1] 3 (0,0)) (.cells #[.int .i64 0,.int .i64 0,.slice none 0 0] 24 (0,0))) := ⟨⟨zg (zk (zn M3.out.1 _) GE2.out) hb,zi (zH (zd M3.out.2.1 _) 1 _) hb,zi (zaV (zd M3.out.2.2.1 _) (show g3 ≠ g2 from Nat.ne_of_gt M3.out.2.2.2) _) hb,zi (zaV (zaG w3 _) (show w3.heap.size ≠ g2 from Nat.ne_of_gt (zam M3.out.2.1)) _) hb⟩⟩;have HO := zb.mk hO;clear hO hb)
  | (go_at_call 39;(with_reducible refine (zG.del w P0_2_ _ bs a1 g3 M5.out.b ?ib M5.out.c3 v5 l0_2 HO.out HL.out ?ig).mono ?_);(case ib => have h1 := HBE.out;have h2 := HLE.out;omega);(case ig => have h1 := HBE.out;have h2 := zam M3.out.2.2.1;omega);rintro e w6 ⟨v6,rfl,hO,hg⟩;obtain ⟨A6,c6,rfl,_,_⟩ := zat.reads hO;generalize hn6 : (zaQ l0_2 a1).length = n6 at hO ⊢;have HBS := zb.mk (zcL HO.out);have M6 : zb (zbk w w6 g2 g3 w3.heap.size (.cells #[.int .i64 a0_0,.int .i64 a1,.slice A0_2 l0_2.length c0_2] 24 (0,0)) (.cells #[.int .i64 a1] 3 (0,0)) (.cells #[.int .i64 0,.int .i64 0,.slice none 0 0] 24 (0,0))) := ⟨by obtain ⟨w8,hs8,h8⟩ := M4.out;exact zbk.grown h8 M5.out hg (fun k hk => by have h1 := zcL HO.out k hk;have h2 := HBE.out;omega)⟩;have HO6 := zb.mk hO;clear hO hg;have p6_0 := (za M6.out.c2 0).trans rfl;have p6_1 := (za M6.out.c2 1).trans rfl;have p6_2 := (za M6.out.c2 2).trans rfl;have n24 : g2 ≠ w3.heap.size := (fun he => by have := zam M3.out.2.1;omega);have n42 := Ne.symm n24;have f6_2 := zc M6.out.c2 2;have s6_0 := (za M6.out.c4 0).trans rfl;have s6_1 := (za M6.out.c4 1).trans rfl;have s6_2 := (za M6.out.c4 2).trans rfl;have t6_0 := zc M6.out.c4 0;have t6_1 := zc M6.out.c4 1;have t6_2 := zc M6.out.c4 2))
 have b2 : g2 < bs := by have := zam M3.out.2.1;have := HBE.out;omega
 have b9 : w.heap.size ≤ bs := by have h1 := HLE.out;have h2 := HBE.out;omega
 have b4 : w3.heap.size < bs := by have := HBE.out;omega
 refine bodyPost_ret (zcH rfl (.cell w3.heap.size 24 _ (0,0) _ rfl (zH (zH (zH (zaV M6.out.c4 n42 _) 0 _) 1 _) 2 _) Try.underlying24 rfl (by kernel_rfl) .nil)) rfl ?_
 subst hn6
 exact ⟨_,rfl,ze3 (zbJ (zbJ (zbJ (zbJ HO6.out (p := ⟨g2,2,none⟩) b2 _) (p := ⟨w3.heap.size,0,none⟩) b4 _) (p := ⟨w3.heap.size,1,none⟩) b4 _) (p := ⟨w3.heap.size,2,none⟩) b4 _) (zk (zk (zk (zk M6.out.b GE2.out) HLE.out) HLE.out) HLE.out) b9,zk (zk (zk (zk M6.out.b GE2.out) HLE.out) HLE.out) HLE.out⟩
def zG.f (a0_0 : Int) (a0_1 : Int) (l0_2 : List (S36)) (a1 : Int) : Option (Int × Int × List (S36)) := if l0_2.length < 1466015503701 then some (if a1 ≤ a0_1 then (a0_0,a0_1,l0_2) else (a0_0,a1,zaQ l0_2 a1)) else none
theorem zG.calls (a0_0 : Int) (a0_1 : Int) (P0_2_ : Nat → Prop) (A0_2 : Option Addr) (c0_2 : Nat) (l0_2 : List (S36)) (a1 : Int) (r1 : Int) (r2 : Int) (r3 : List (S36)) (w : World) (hs0_2 : Kd.V k36 36 w w.heap.size (fun k_ => P0_2_ k_) (.slice A0_2 l0_2.length c0_2) l0_2) (h : zG.f a0_0 a0_1 l0_2 a1 = some (r1,r2,r3)) :
  Calls Try.prog 24 #[.agg #[.int .i64 a0_0,.int .i64 a0_1,.slice A0_2 l0_2.length c0_2],.int .i64 a1] w fun e w' => ∃ v2_ : Value,e = .returned (.agg #[.int .i64 r1,.int .i64 r2,v2_]) ∧ Kd.V k36 36 w' w.heap.size (fun k_ => (P0_2_ k_ ∨ w.heap.size ≤ k_)) v2_ r3 ∧ Below w.heap.size w w' := by
 unfold zG.f at h
 split at h
 ·rename_i hl
  split at h
  ·rename_i hc
   simp only [Option.some.injEq,Prod.mk.injEq] at h
   obtain ⟨rfl,rfl,rfl⟩ := h
   refine (zG.not a0_0 a0_1 P0_2_ A0_2 c0_2 l0_2 a1 w hc).mono ?_
   rintro e w' ⟨rfl,hb⟩
   exact ⟨_,rfl,Kd.V_mono (Kd.V_below hs0_2 hb) (fun _ hk => .inl hk),hb⟩
  ·rename_i hc
   simp only [Option.some.injEq,Prod.mk.injEq] at h
   obtain ⟨rfl,rfl,rfl⟩ := h
   exact zG.yes a0_0 a0_1 P0_2_ A0_2 c0_2 l0_2 a1 w hs0_2 hc hl
 ·cases h
def zZ (n k : Nat) : Array Bool := (List.replicate k true ++ List.replicate (n - k) false).toArray
def zbF (a : Act) : List (Nat × Tmp) → Act
 | [] => a
 | p :: is => zbF (a.put (some p.2) undef) is
def zgD (T : Bool × List (List Nat × List Nat)) (l' : List Bool) : List Bool → List (Nat × Tmp) → Bool
 | l,[] => l == l'
 | l,p :: is => T.1 && zeQ T.2 l p.1 && zbW T.2 l p.1 && zgD T l' (l.set p.1 true) is
def zge (ops : Array Oper) : Act → List (Nat × Tmp) → Bool
 | _,[] => true
 | a,p :: is => (match ops[p.1]? with | some o => (o.dst == some p.2) && !Region.wanted o (yielded ops a.tmps) | none => false) && zge ops (a.put (some p.2) undef) is
theorem zcF {P : Program} {ops : Array Oper} {Q : Exit → Act → World → Prop} {S : World → Prop} {ds : List Nat} {T : Bool × List (List Nat × List Nat)} {w : World} (hQ : ∀ c a d v w,Q (.panic c) (Act.put a (some d) v) w → Q (.panic c) a w) (hT : zbv .any ops = T) : ∀ (is : List (Nat × Tmp)) (fuel : Nat) {n : Nat} (_ : fuel + is.length = n) {l : Array Bool} (l' : Array Bool) {a : Act} (_ : zgD T l'.toList l.toList is = true) (_ : zge ops a is = true) {a' : Act} (_ : zbF a is = a') (_ : zR P .any ops Q S ds fuel l' a' w),zR P .any ops Q S ds n l a w := by
 intro is
 induction is with
 | nil =>
  intro fuel n hn l l' a hc _ a' ha h
  subst hn;subst ha
  simp only [zgD,beq_iff_eq] at hc
  have : l = l' := by rw [← Array.toArray_toList (xs := l),hc]
  subst this
  exact h
 | cons p is ih =>
  intro fuel n hn l l' a hc ho a' ha h
  subst hn
  simp only [zgD,Bool.and_eq_true] at hc
  obtain ⟨⟨⟨h1,h2⟩,h3⟩,h4⟩ := hc
  simp only [zge,Bool.and_eq_true] at ho
  obtain ⟨ho,h5⟩ := ho
  rcases hi : ops[p.1]? with _ | o
  ·rw [hi] at ho;cases ho
  ·rw [hi] at ho
   simp only [Bool.and_eq_true,beq_iff_eq,Bool.not_eq_true'] at ho
   refine zv (fuel := fuel + is.length) (l.setIfInBounds p.1 true) hi ho.1 (zj hT ?_) (fun c a w => by rw [ho.1];exact hQ c a _ _ w) (Or.inr ⟨ho.2,rfl⟩) rfl (ih fuel rfl l' ?_ h5 ha h)
   ·simp only [ziF,h1,h2,h3,Bool.true_and]
    simp
   ·rw [Array.toList_setIfInBounds];exact h4
end Go.Proofs.Ytklhjlaofkngcaa.Px