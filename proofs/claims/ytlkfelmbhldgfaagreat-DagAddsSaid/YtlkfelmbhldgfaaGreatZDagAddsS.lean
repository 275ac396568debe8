/- Part 19 of 36 of the proof of the law DagAdds: what is proved is the statement at the end of the last part; its conditions are those of the given row. -/
import Derived.Test.YtlkfelmbhldgfaaGreatZDagAddsR
namespace Go.Proofs.YtlkfelmbhldgfaaGreat.Px
open Go.RowKit Go.Proofs.YtlkfelmbhldgfaaGreatW.PrintWords Go.Proofs.YtlkfelmbhldgfaaGreatW.PrintLast Go.Proofs.YtlkfelmbhldgfaaGreatW.PrintMore
attribute [local go_sem] zA zC zH zI zv zw zB zD
set_option linter.unusedVariables false
set_option linter.unusedSimpArgs false
def zbC.p (a r : Int) (x : S42) : Bool := decide (x.f1.f0 = a ∧ x.f1.f1 = r)
set_option maxHeartbeats 4000000 in
set_option maxRecDepth 100000 in
theorem zbC.odd (a r : Int) (x0 : ByteArray) (x1 x2 : Int) (A3 : Option Addr) (n3 c3 : Nat) (A4 : Option Addr) (n4 c4 : Nat) (x5 x6 : Int) (g : Nat) (g' : Nat) (w : World) (hg : w.heap[g]? = some (.cells #[.int .i64 a] 3 (0,0))) (hg' : w.heap[g']? = some (.cells #[.int .i64 r] 3 (0,0))) :
  Calls Tryz.prog 34 #[.agg #[.string x0,.int .i64 x1,.int .i64 x2,.slice A3 n3 c3,.slice A4 n4 c4,.int .i64 x5,.int .i64 x6],.pointer (some ⟨g,0,none⟩),.pointer (some ⟨g',0,none⟩)] w fun e w' => e = .returned (.bool (decide (x1 = a ∧ x2 = r))) ∧ Below w.heap.size w w' := by
 have Hg := za.mk hg
 have Hg' := za.mk hg'
 clear hg hg'
 by_cases c1 : x1 = a
 ·have d1 : (x1 == a) = true := beq_iff_eq.2 c1
  by_cases c2 : x2 = r
  ·have d2 : (x2 == r) = true := beq_iff_eq.2 c2
   have HP : za (decide (x1 = a ∧ x2 = r) = true) := ⟨decide_eq_true ⟨c1,c2⟩⟩
   clear c1 c2
   go_enter Tryz.func34,Tryz.ntmps34
   go_wp2_with ((with_reducible refine zn (N := 3) rfl ?_);refine zl rfl (N := 3) rfl (cs := #[.string x0,.int .i64 x1,.int .i64 x2,.slice A3 n3 c3,.slice A4 n4 c4,.int .i64 x5,.int .i64 x6]) (t := 42) hrq ?_;intro gb hg w2 hbox hb;have BK := za.mk hbox;have HB := za.mk hb;have Ng := za.mk (zm Hg.out hb);have Ng' := za.mk (zm Hg'.out hb);have z_0 := (zb BK.out 0).trans rfl;have zf_0 := zc BK.out 0;have z_1 := (zb BK.out 1).trans rfl;have zf_1 := zc BK.out 1;have z_2 := (zb BK.out 2).trans rfl;have zf_2 := zc BK.out 2;have z_3 := (zb BK.out 3).trans rfl;have zf_3 := zc BK.out 3;have z_4 := (zb BK.out 4).trans rfl;have zf_4 := zc BK.out 4;have z_5 := (zb BK.out 5).trans rfl;have zf_5 := zc BK.out 5;have z_6 := (zb BK.out 6).trans rfl;have zf_6 := zc BK.out 6;have zg_0 := (zb Ng.out 0).trans rfl;have zgf_0 := zc Ng.out 0;have zg'_0 := (zb Ng'.out 0).trans rfl;have zg'f_0 := zc Ng'.out 0;clear hb hbox hg)
   go_ret
   exact ⟨by rw [HP.out];rfl,HB.out⟩
  ·have d2 : (x2 == r) = false := beq_eq_false_iff_ne.2 c2
   have HP : za (decide (x1 = a ∧ x2 = r) = false) := ⟨decide_eq_false (fun h => c2 h.2)⟩
   clear c1 c2
   go_enter Tryz.func34,Tryz.ntmps34
   go_wp2_with ((with_reducible refine zn (N := 3) rfl ?_);refine zl rfl (N := 3) rfl (cs := #[.string x0,.int .i64 x1,.int .i64 x2,.slice A3 n3 c3,.slice A4 n4 c4,.int .i64 x5,.int .i64 x6]) (t := 42) hrq ?_;intro gb hg w2 hbox hb;have BK := za.mk hbox;have HB := za.mk hb;have Ng := za.mk (zm Hg.out hb);have Ng' := za.mk (zm Hg'.out hb);have z_0 := (zb BK.out 0).trans rfl;have zf_0 := zc BK.out 0;have z_1 := (zb BK.out 1).trans rfl;have zf_1 := zc BK.out 1;have z_2 := (zb BK.out 2).trans rfl;have zf_2 := zc BK.out 2;have z_3 := (zb BK.out 3).trans rfl;have zf_3 := zc BK.out 3;have z_4 := (zb BK.out 4).trans rfl;have zf_4 := zc BK.out 4;have z_5 := (zb BK.out 5).trans rfl;have zf_5 := zc BK.out 5;have z_6 := (zb BK.out 6).trans rfl;have zf_6 := zc BK.out 6;have zg_0 := (zb Ng.out 0).trans rfl;have zgf_0 := zc Ng.out 0;have zg'_0 := (zb Ng'.out 0).trans rfl;have zg'f_0 := zc Ng'.out 0;clear hb hbox hg)
   go_ret
   exact ⟨by rw [HP.out];rfl,HB.out⟩
 ·have d1 : (x1 == a) = false := beq_eq_false_iff_ne.2 c1
  have HP : za (decide (x1 = a ∧ x2 = r) = false) := ⟨decide_eq_false (fun h => c1 h.1)⟩
  clear c1
  go_enter Tryz.func34,Tryz.ntmps34
  go_wp2_with ((with_reducible refine zn (N := 3) rfl ?_);refine zl rfl (N := 3) rfl (cs := #[.string x0,.int .i64 x1,.int .i64 x2,.slice A3 n3 c3,.slice A4 n4 c4,.int .i64 x5,.int .i64 x6]) (t := 42) hrq ?_;intro gb hg w2 hbox hb;have BK := za.mk hbox;have HB := za.mk hb;have Ng := za.mk (zm Hg.out hb);have Ng' := za.mk (zm Hg'.out hb);have z_0 := (zb BK.out 0).trans rfl;have zf_0 := zc BK.out 0;have z_1 := (zb BK.out 1).trans rfl;have zf_1 := zc BK.out 1;have z_2 := (zb BK.out 2).trans rfl;have zf_2 := zc BK.out 2;have z_3 := (zb BK.out 3).trans rfl;have zf_3 := zc BK.out 3;have z_4 := (zb BK.out 4).trans rfl;have zf_4 := zc BK.out 4;have z_5 := (zb BK.out 5).trans rfl;have zf_5 := zc BK.out 5;have z_6 := (zb BK.out 6).trans rfl;have zf_6 := zc BK.out 6;have zg_0 := (zb Ng.out 0).trans rfl;have zgf_0 := zc Ng.out 0;have zg'_0 := (zb Ng'.out 0).trans rfl;have zg'f_0 := zc Ng'.out 0;clear hb hbox hg)
  go_ret
  exact ⟨by rw [HP.out];rfl,HB.out⟩
set_option maxHeartbeats 4000000 in
set_option maxRecDepth 100000 in
theorem zbC.idx (a r : Int) (g : Nat) (g' : Nat) (A : Option Addr) (c : Nat) (l : List S42) (w : World) (hr : Kd.C k42 w A l.length l) (hg : w.heap[g]? = some (.cells #[.int .i64 a] 3 (0,0))) (hg' : w.heap[g']? = some (.cells #[.int .i64 r] 3 (0,0))) :
  Calls Tryz.prog 16 #[.slice A l.length c,.func (.func 34) #[] #[.pointer (some ⟨g,0,none⟩),.pointer (some ⟨g',0,none⟩)]] w fun e w' => e = .returned (.int .i64 (zcD (zbC.p a r) l)) ∧ Below w.heap.size w w' := by
 have hm := hr.2.1
 have HR := za.mk hr
 have Hg := za.mk hg
 have Hg' := za.mk hg'
 clear hr hg hg'
 go_enter Tryz.func16,Tryz.ntmps16
 go_wp2_with fail
 have HB0 := za.mk (Below.refl w.heap.size w)
 go_loopw [5,8] (fun v5 v8 wr => ∃ k : Nat,v8 = .int .i64 k ∧ k ≤ l.length ∧ za (∀ (j : Nat) (y : S42),j < k → l[j]? = some y → zbC.p a r y = false) ∧ za (Below w.heap.size w wr)) (fun _ v8 _ => l.length - (match v8 with | .int _ q => q | _ => 0).toNat)
 case atStart => exact ⟨0,rfl,Nat.zero_le _,⟨fun j y hj => absurd hj (Nat.not_lt_zero _)⟩,⟨by repeat (first | (with_reducible first | exact HB0.out | apply zk | apply zi | apply zo) | exact HB0.out)⟩⟩
 case round =>
  obtain ⟨k,rfl,hk,HF,HB⟩ := hrel
  by_cases hlt : k < l.length
  ·obtain ⟨ad,A3,c3,A4,c4,rfl,hx0,hx1,hx2,hx3,hx4,hx5,hx6,_,_,_,_⟩ := zaG HR.out (k : Int) (by omega) (by omega)
   replace hx0 := (HB.out.cell (World.block_lt_of_cell? w _ hx0)).trans hx0
   replace hx1 := (HB.out.cell (World.block_lt_of_cell? w _ hx1)).trans hx1
   replace hx2 := (HB.out.cell (World.block_lt_of_cell? w _ hx2)).trans hx2
   replace hx3 := (HB.out.cell (World.block_lt_of_cell? w _ hx3)).trans hx3
   replace hx4 := (HB.out.cell (World.block_lt_of_cell? w _ hx4)).trans hx4
   replace hx5 := (HB.out.cell (World.block_lt_of_cell? w _ hx5)).trans hx5
   replace hx6 := (HB.out.cell (World.block_lt_of_cell? w _ hx6)).trans hx6
   rw [Int.toNat_natCast] at hx0 hx1 hx2 hx3 hx4 hx5 hx6
   have hb : decide (k < l.length) = true := decide_eq_true hlt
   have hx : l[k]? = some (zd l (k : Int)) := by
    rw [zd,Int.toNat_natCast,List.getD_eq_getElem?_getD,List.getElem?_eq_getElem hlt];rfl
   have HX := za.mk hx
   have Ng := za.mk (zm Hg.out HB.out)
   have Ng' := za.mk (zm Hg'.out HB.out)
   clear hx
   generalize zd l (k : Int) = s at *
   obtain ⟨s0,⟨s1,s2,s3,s4,⟨s5,s6⟩⟩⟩ := s
   rcases ho : zbC.p a r ⟨s0,⟨s1,s2,s3,s4,⟨s5,s6⟩⟩⟩ with _ | _
   ·have HO := za.mk ho
    clear ho
    go_wp2_with (go_at_call 34;(with_reducible refine (zbC.odd a r s0 s1 s2 _ _ _ _ _ _ s5 s6 g g' _ Ng.out Ng'.out).mono ?_);rintro e w1 ⟨rfl,hb1⟩;rw [show (decide (s1 = a ∧ s2 = r)) = _ from HO.out];have HB1 := za.mk (ze HB.out hb1);clear hb1)
    go_roundw
    case rel =>
     refine ⟨k + 1,by go_num,by omega,⟨fun j y hj hy => ?_⟩,HB1⟩
     rcases Nat.lt_succ_iff_lt_or_eq.1 hj with h | h
     ·exact HF.out j y h hy
     ·subst h
      rw [HX.out] at hy
      injection hy with hy
      subst hy
      exact HO.out
    case measure => simp;omega
   ·have HO := za.mk ho
    clear ho
    go_wp2_with (go_at_call 34;(with_reducible refine (zbC.odd a r s0 s1 s2 _ _ _ _ _ _ s5 s6 g g' _ Ng.out Ng'.out).mono ?_);rintro e w1 ⟨rfl,hb1⟩;rw [show (decide (s1 = a ∧ s2 = r)) = _ from HO.out];have HB1 := za.mk (ze HB.out hb1);clear hb1)
    go_ret
    exact ⟨by rw [zcE HX.out HO.out HF.out];rfl,HB1.out⟩
  ·obtain rfl : k = l.length := by omega
   go_wp2_with fail
   go_ret
   exact ⟨by rw [zcs (fun j y hy => HF.out j y (List.getElem?_eq_some_iff.1 hy).1 hy)];rfl,HB.out⟩
set_option maxHeartbeats 4000000 in
set_option maxRecDepth 100000 in
theorem zbC.first (a r : Int) (g : Nat) (g' : Nat) (a0_0 : Int) (a0_1 : Int) (P0_2_ : Nat → Prop) (A0_2 : Option Addr) (c0_2 : Nat) (l0_2 : List (S42)) (r1 : ByteArray) (r2 : Int) (r3 : Int) (r4 : List (S67)) (r5 : List ByteArray) (r6 : Int) (r7 : Int) (r8 : Bool) (w : World) (hs0_2 : Kd.V k42 42 w w.heap.size (fun k_ => P0_2_ k_) (.slice A0_2 l0_2.length c0_2) l0_2) (hg : w.heap[g]? = some (.cells #[.int .i64 a] 3 (0,0))) (hg' : w.heap[g']? = some (.cells #[.int .i64 r] 3 (0,0))) (hres : zd8 (l0_2.find? (zbC.p a r)) = (r1,r2,r3,r4,r5,r6,r7,r8)) :
  Calls Tryz.prog 32 #[.agg #[.int .i64 a0_0,.int .i64 a0_1,.slice A0_2 l0_2.length c0_2],.func (.func 34) #[] #[.pointer (some ⟨g,0,none⟩),.pointer (some ⟨g',0,none⟩)]] w fun e w' => ∃ v3_ v4_ : Value,e = .returned (.tuple #[.agg #[.string r1,.int .i64 r2,.int .i64 r3,v3_,v4_,.int .i64 r6,.int .i64 r7],.bool r8]) ∧ Kd.V k67 67 w' w.heap.size (fun k_ => (P0_2_ k_ ∨ w.heap.size ≤ k_)) v3_ r4 ∧ Kd.V Kd.string 9 w' w.heap.size (fun k_ => (P0_2_ k_ ∨ w.heap.size ≤ k_)) v4_ r5 ∧ Below w.heap.size w w' := by
 have HS := za.mk hs0_2
 have Hg := za.mk hg
 have Hg' := za.mk hg'
 clear hs0_2 hg hg'
 rcases zgA (zbC.p a r) l0_2 with ⟨i,x,hi,hx,hf,hidx⟩ | ⟨hf,hidx⟩
 ·rw [hf] at hres
  obtain ⟨x0,⟨x1,x2,x3,x4,⟨x5,x6⟩⟩⟩ := x
  have HI := za.mk hidx
  obtain ⟨ad,A3,c3,A4,c4,rfl,hx0,hx1,hx2,hx3,hx4,hx5,hx6,hv3,hv4⟩ := ent_at HS.out i hi _ hx
  have HV3 := za.mk hv3
  have HV4 := za.mk hv4
  simp only [zd8,tupE,Prod.mk.injEq] at hres
  obtain ⟨rfl,rfl,rfl,rfl,rfl,rfl,rfl,rfl⟩ := hres
  have hib : decide (i < l0_2.length) = true := decide_eq_true hi
  have hi0 : decide ((i : Int) < 0) = false := decide_eq_false (by omega)
  clear hx hf hidx hv3 hv4
  go_enter Tryz.func32,Tryz.ntmps32
  go_wp2_with (first
   | ((with_reducible refine zn (N := 2) rfl ?_);refine zl rfl (N := 2) rfl (cs := #[.int .i64 a0_0,.int .i64 a0_1,.slice (some ad) l0_2.length c0_2]) (t := 24) hrq ?_;intro g2 hg w2 hbox hb;have B2 := za.mk hbox;have HB2 := za.mk hb;have Ng := za.mk (zm Hg.out hb);have Ng' := za.mk (zm Hg'.out hb);have z2_0 := fun o => (zb (zf B2.out o) 0).trans rfl;have z2_1 := fun o => (zb (zf B2.out o) 1).trans rfl;have z2_2 := fun o => (zb (zf B2.out o) 2).trans rfl;clear hb hbox hg)
   | (go_at_call 16;(with_reducible refine (zbC.idx a r g g' _ _ l0_2 _ (Kd.C_below (Kd.V_reads' HS.out).2.2 (zk HB2.out _)) (zf Ng.out _) (zf Ng'.out _)).mono ?_);rintro e w3 ⟨rfl,hb⟩;rw [HI.out];have HB3 := za.mk (ze (zk HB2.out _) hb);have B4 := za.mk (zm (zbp w2 _) hb);have B22 := za.mk (zm (zf B2.out _) hb);have HLE : za (w.heap.size ≤ w2.heap.size) := ⟨zg HB2.out⟩;clear hb;have y2_0 := (zb B22.out 0).trans rfl;have y2f_0 := zc B22.out 0;have y2_1 := (zb B22.out 1).trans rfl;have y2f_1 := zc B22.out 1;have y2_2 := (zb B22.out 2).trans rfl;have y2f_2 := zc B22.out 2;have y4_0 := (zb B4.out 0).trans rfl;have y4f_0 := zc B4.out 0;have y4_1 := (zb B4.out 1).trans rfl;have y4f_1 := zc B4.out 1;have y4_2 := (zb B4.out 2).trans rfl;have y4f_2 := zc B4.out 2;have y4_3 := (zb B4.out 3).trans rfl;have y4f_3 := zc B4.out 3;have y4_4 := (zb B4.out 4).trans rfl;have y4f_4 := zc B4.out 4;have y4_5 := (zb B4.out 5).trans rfl;have y4f_5 := zc B4.out 5;have y4_6 := (zb B4.out 6).trans rfl;have y4f_6 := zc B4.out 6;have q0 := (HB3.out.cell (World.block_lt_of_cell? w _ hx0)).trans hx0;have q1 := (HB3.out.cell (World.block_lt_of_cell? w _ hx1)).trans hx1;have q2 := (HB3.out.cell (World.block_lt_of_cell? w _ hx2)).trans hx2;have q3 := (HB3.out.cell (World.block_lt_of_cell? w _ hx3)).trans hx3;have q4 := (HB3.out.cell (World.block_lt_of_cell? w _ hx4)).trans hx4;have q5 := (HB3.out.cell (World.block_lt_of_cell? w _ hx5)).trans hx5;have q6 := (HB3.out.cell (World.block_lt_of_cell? w _ hx6)).trans hx6))
  refine bodyPost_ret (zaH rfl _ _ w2.heap.size 42 _ (0,0) _ rfl (zX (zX (zX (zX (zX (zX (zX B4.out 0 _) 1 _) 2 _) 3 _) 4 _) 5 _) 6 _) Tryz.underlying42 rfl (by kernel_rfl)) rfl ?_
  refine ⟨_,_,rfl,Kd.V_mono (Kd.V_below HV3.out ?e1) (fun _ hk => .inl hk),Kd.V_mono (Kd.V_below HV4.out ?e1) (fun _ hk => .inl hk),?e1⟩
  exact (zj (zj (zj (zj (zj (zj (zj HB3.out HLE.out) HLE.out) HLE.out) HLE.out) HLE.out) HLE.out) HLE.out)
 ·rw [hf] at hres
  have HI := za.mk hidx
  simp only [zd8,noE,Prod.mk.injEq] at hres
  obtain ⟨rfl,rfl,rfl,rfl,rfl,rfl,rfl,rfl⟩ := hres
  clear hf hidx
  go_enter Tryz.func32,Tryz.ntmps32
  go_wp2_with (first
   | ((with_reducible refine zn (N := 2) rfl ?_);refine zl rfl (N := 2) rfl (cs := #[.int .i64 a0_0,.int .i64 a0_1,.slice A0_2 l0_2.length c0_2]) (t := 24) hrq ?_;intro g2 hg w2 hbox hb;have B2 := za.mk hbox;have HB2 := za.mk hb;have Ng := za.mk (zm Hg.out hb);have Ng' := za.mk (zm Hg'.out hb);have z2_0 := fun o => (zb (zf B2.out o) 0).trans rfl;have z2_1 := fun o => (zb (zf B2.out o) 1).trans rfl;have z2_2 := fun o => (zb (zf B2.out o) 2).trans rfl;clear hb hbox hg)
   | (go_at_call 16;(with_reducible refine (zbC.idx a r g g' _ _ l0_2 _ (Kd.C_below (Kd.V_reads' HS.out).2.2 (zk HB2.out _)) (zf Ng.out _) (zf Ng'.out _)).mono ?_);rintro e w3 ⟨rfl,hb⟩;rw [HI.out];have HB3 := za.mk (ze (zk HB2.out _) hb);have B4 := za.mk (zm (zbp w2 _) hb);have B22 := za.mk (zm (zf B2.out _) hb);have HLE : za (w.heap.size ≤ w2.heap.size) := ⟨zg HB2.out⟩;clear hb;have y2_0 := (zb B22.out 0).trans rfl;have y2f_0 := zc B22.out 0;have y2_1 := (zb B22.out 1).trans rfl;have y2f_1 := zc B22.out 1;have y2_2 := (zb B22.out 2).trans rfl;have y2f_2 := zc B22.out 2;have y4_0 := (zb B4.out 0).trans rfl;have y4f_0 := zc B4.out 0;have y4_1 := (zb B4.out 1).trans rfl;have y4f_1 := zc B4.out 1;have y4_2 := (zb B4.out 2).trans rfl;have y4f_2 := zc B4.out 2;have y4_3 := (zb B4.out 3).trans rfl;have y4f_3 := zc B4.out 3;have y4_4 := (zb B4.out 4).trans rfl;have y4f_4 := zc B4.out 4;have y4_5 := (zb B4.out 5).trans rfl;have y4f_5 := zc B4.out 5;have y4_6 := (zb B4.out 6).trans rfl;have y4f_6 := zc B4.out 6))
  refine bodyPost_ret (zaH rfl _ _ w2.heap.size 42 _ (0,0) _ rfl (zX (zX (zX (zX (zX (zX (zX B4.out 0 _) 1 _) 2 _) 3 _) 4 _) 5 _) 6 _) Tryz.underlying42 rfl (by kernel_rfl)) rfl ?_
  exact ⟨_,_,rfl,Kd.V_nil _ _ _ _ _,Kd.V_nil _ _ _ _ _,(zj (zj (zj (zj (zj (zj (zj HB3.out HLE.out) HLE.out) HLE.out) HLE.out) HLE.out) HLE.out) HLE.out)⟩
def zbC.f (a0_0 : Int) (a0_1 : Int) (l0_2 : List (S42)) (a1 : Int) (a2 : Int) : Option TE := some (zd8 (byE l0_2 a1 a2))
set_option maxHeartbeats 4000000 in
set_option maxRecDepth 100000 in
theorem zbC.calls (a0_0 : Int) (a0_1 : Int) (P0_2_ : Nat → Prop) (A0_2 : Option Addr) (c0_2 : Nat) (l0_2 : List (S42)) (a1 : Int) (a2 : Int) (r1 : ByteArray) (r2 : Int) (r3 : Int) (r4 : List (S67)) (r5 : List ByteArray) (r6 : Int) (r7 : Int) (r8 : Bool) (w : World) (hs0_2 : Kd.V k42 42 w w.heap.size (fun k_ => P0_2_ k_) (.slice A0_2 l0_2.length c0_2) l0_2) (h : zbC.f a0_0 a0_1 l0_2 a1 a2 = some (r1,r2,r3,r4,r5,r6,r7,r8)) :
  Calls Tryz.prog 14 #[.agg #[.int .i64 a0_0,.int .i64 a0_1,.slice A0_2 l0_2.length c0_2],.int .i64 a1,.int .i64 a2] w fun e w' => ∃ v3_ v4_ : Value,e = .returned (.tuple #[.agg #[.string r1,.int .i64 r2,.int .i64 r3,v3_,v4_,.int .i64 r6,.int .i64 r7],.bool r8]) ∧ Kd.V k67 67 w' w.heap.size (fun k_ => (P0_2_ k_ ∨ w.heap.size ≤ k_)) v3_ r4 ∧ Kd.V Kd.string 9 w' w.heap.size (fun k_ => (P0_2_ k_ ∨ w.heap.size ≤ k_)) v4_ r5 ∧ Below w.heap.size w w' := by
 have HRS := za.mk (show zd8 (l0_2.find? (zbC.p a1 a2)) = (r1,r2,r3,r4,r5,r6,r7,r8) from Option.some.inj h)
 have HS := za.mk hs0_2
 clear hs0_2 h
 go_enter Tryz.func14,Tryz.ntmps14
 go_wp2_with (first
  | ((with_reducible refine zn (N := 3) rfl ?_);refine zl rfl (N := 3) rfl (cs := #[.int .i64 a0_0,.int .i64 a0_1,.slice A0_2 l0_2.length c0_2]) (t := 24) hrq ?_;intro g0 hg u0 hbox hb;have B0 := za.mk hbox;have HB0 := za.mk hb;clear hb hbox hg)
  | ((with_reducible refine zn (N := 4) rfl ?_);refine zl rfl (N := 4) rfl (cs := #[.int .i64 a1]) (t := 3) hrq ?_;intro g1 hg u1 hbox hb;have C0 := za.mk (zm B0.out hb);have HB1 := za.mk (ze HB0.out hb);have B1 := za.mk hbox;clear hb hbox hg)
  | ((with_reducible refine zn (N := 5) rfl ?_);refine zl rfl (N := 5) rfl (cs := #[.int .i64 a2]) (t := 3) hrq ?_;intro g2 hg u2 hbox hb;have C1 := za.mk (zm B1.out hb);have HB2 := za.mk (ze HB1.out hb);have D1_0 := za.mk (zm C0.out hb);have B2 := za.mk hbox;have z0_0 := fun o => (zb (zf D1_0.out o) 0).trans rfl;have z0_1 := fun o => (zb (zf D1_0.out o) 1).trans rfl;have z0_2 := fun o => (zb (zf D1_0.out o) 2).trans rfl;clear hb hbox hg)
  | (go_at_call 32;(with_reducible refine (zbC.first a1 a2 g1 g2 a0_0 a0_1 (fun k_ => P0_2_ k_ ∧ k_ < w.heap.size) A0_2 c0_2 l0_2 r1 r2 r3 r4 r5 r6 r7 r8 _ (Kd.V_map HS.out (fun _ hf => Kd.F_below (Kd.F_bound hf) (zk HB2.out _))) (zf C1.out _) (zf B2.out _) HRS.out).mono ?_);rintro e w5 ⟨v3,v4,rfl,hV3,hV4,hb⟩;obtain ⟨A3,c3,rfl⟩ := Kd.V_slice hV3;obtain ⟨A4,c4,rfl⟩ := Kd.V_slice hV4;have HV3 := za.mk hV3;have HV4 := za.mk hV4;have HBX := za.mk (ze (zk HB2.out _) hb);have BX := za.mk (zm (zbp u2 _) hb);have HLE : za (w.heap.size ≤ u2.heap.size) := ⟨zg HB2.out⟩;clear hb hV3 hV4;have y_0 := (zb BX.out 0).trans rfl;have yf_0 := zc BX.out 0;have y_1 := (zb BX.out 1).trans rfl;have yf_1 := zc BX.out 1;have y_2 := (zb BX.out 2).trans rfl;have yf_2 := zc BX.out 2;have y_3 := (zb BX.out 3).trans rfl;have yf_3 := zc BX.out 3;have y_4 := (zb BX.out 4).trans rfl;have yf_4 := zc BX.out 4;have y_5 := (zb BX.out 5).trans rfl;have yf_5 := zc BX.out 5;have y_6 := (zb BX.out 6).trans rfl;have yf_6 := zc BX.out 6))
 have far : za (∀ k_,((P0_2_ k_ ∧ k_ < w.heap.size) ∨ (u2.alloc (.cells #[.string (⟨#[]⟩ : ByteArray),.int .i64 0,.int .i64 0,.slice none 0 0,.slice none 0 0,.int .i64 0,.int .i64 0] 42 (0,0))).heap.size ≤ k_) → k_ ≠ u2.heap.size) := ⟨fun k_ hk he => by
  subst he
  rcases hk with hk | hk
  ·exact Nat.lt_irrefl _ (Nat.lt_of_lt_of_le hk.2 HLE.out)
  ·exact absurd hk (by simp)⟩
 have lift : ∀ k_,((P0_2_ k_ ∧ k_ < w.heap.size) ∨ (u2.alloc (.cells #[.string (⟨#[]⟩ : ByteArray),.int .i64 0,.int .i64 0,.slice none 0 0,.slice none 0 0,.int .i64 0,.int .i64 0] 42 (0,0))).heap.size ≤ k_) → (P0_2_ k_ ∨ w.heap.size ≤ k_) := fun k_ hk => by
  rcases hk with hk | hk
  ·exact .inl hk.1
  ·exact .inr (Nat.le_trans HLE.out (Nat.le_trans (by simp) hk))
 refine bodyPost_ret (zaH rfl _ _ u2.heap.size 42 _ (0,0) _ rfl (zX (zX (zX (zX (zX (zX (zX BX.out 0 _) 1 _) 2 _) 3 _) 4 _) 5 _) 6 _) Tryz.underlying42 rfl (by kernel_rfl)) rfl ?_
 exact ⟨_,_,rfl,Kd.V_mono (Kd.V_far (p := ⟨u2.heap.size,6,none⟩) (Kd.V_far (p := ⟨u2.heap.size,5,none⟩) (Kd.V_far (p := ⟨u2.heap.size,4,none⟩) (Kd.V_far (p := ⟨u2.heap.size,3,none⟩) (Kd.V_far (p := ⟨u2.heap.size,2,none⟩) (Kd.V_far (p := ⟨u2.heap.size,1,none⟩) (Kd.V_far (p := ⟨u2.heap.size,0,none⟩) HV3.out far.out _) far.out _) far.out _) far.out _) far.out _) far.out _) far.out _) lift,Kd.V_mono (Kd.V_far (p := ⟨u2.heap.size,6,none⟩) (Kd.V_far (p := ⟨u2.heap.size,5,none⟩) (Kd.V_far (p := ⟨u2.heap.size,4,none⟩) (Kd.V_far (p := ⟨u2.heap.size,3,none⟩) (Kd.V_far (p := ⟨u2.heap.size,2,none⟩) (Kd.V_far (p := ⟨u2.heap.size,1,none⟩) (Kd.V_far (p := ⟨u2.heap.size,0,none⟩) HV4.out far.out _) far.out _) far.out _) far.out _) far.out _) far.out _) far.out _) lift,(zj (zj (zj (zj (zj (zj (zj HBX.out HLE.out) HLE.out) HLE.out) HLE.out) HLE.out) HLE.out) HLE.out)⟩
def zaW.p (s : ByteArray) (x : S42) : Bool := decide (x.f0 = s)
set_option maxHeartbeats 4000000 in
set_option maxRecDepth 100000 in
theorem zaW.odd (s : ByteArray) (x0 : ByteArray) (x1 x2 : Int) (A3 : Option Addr) (n3 c3 : Nat) (A4 : Option Addr) (n4 c4 : Nat) (x5 x6 : Int) (g : Nat) (w : World) (hg : w.heap[g]? = some (.cells #[.string s] 9 (0,0))) :
  Calls Tryz.prog 33 #[.agg #[.string x0,.int .i64 x1,.int .i64 x2,.slice A3 n3 c3,.slice A4 n4 c4,.int .i64 x5,.int .i64 x6],.pointer (some ⟨g,0,none⟩)] w fun e w' => e = .returned (.bool (decide (x0 = s))) ∧ Below w.heap.size w w' := by
 have Hg := za.mk hg
 clear hg
 go_enter Tryz.func33,Tryz.ntmps33
 go_wp2_with ((with_reducible refine zn (N := 2) rfl ?_);refine zl rfl (N := 2) rfl (cs := #[.string x0,.int .i64 x1,.int .i64 x2,.slice A3 n3 c3,.slice A4 n4 c4,.int .i64 x5,.int .i64 x6]) (t := 42) hrq ?_;intro gb hg w2 hbox hb;have BK := za.mk hbox;have HB := za.mk hb;have Ng := za.mk (zm Hg.out hb);have z_0 := (zb BK.out 0).trans rfl;have zf_0 := zc BK.out 0;have z_1 := (zb BK.out 1).trans rfl;have zf_1 := zc BK.out 1;have z_2 := (zb BK.out 2).trans rfl;have zf_2 := zc BK.out 2;have z_3 := (zb BK.out 3).trans rfl;have zf_3 := zc BK.out 3;have z_4 := (zb BK.out 4).trans rfl;have zf_4 := zc BK.out 4;have z_5 := (zb BK.out 5).trans rfl;have zf_5 := zc BK.out 5;have z_6 := (zb BK.out 6).trans rfl;have zf_6 := zc BK.out 6;have zg_0 := (zb Ng.out 0).trans rfl;have zgf_0 := zc Ng.out 0;clear hb hbox hg)
 go_ret
 exact ⟨by rw [← zdv];rfl,HB.out⟩
set_option maxHeartbeats 4000000 in
set_option maxRecDepth 100000 in
theorem zaW.idx (s : ByteArray) (g : Nat) (A : Option Addr) (c : Nat) (l : List S42) (w : World) (hr : Kd.C k42 w A l.length l) (hg : w.heap[g]? = some (.cells #[.string s] 9 (0,0))) :
  Calls Tryz.prog 16 #[.slice A l.length c,.func (.func 33) #[] #[.pointer (some ⟨g,0,none⟩)]] w fun e w' => e = .returned (.int .i64 (zcD (zaW.p s) l)) ∧ Below w.heap.size w w' := by
 have hm := hr.2.1
 have HR := za.mk hr
 have Hg := za.mk hg
 clear hr hg
 go_enter Tryz.func16,Tryz.ntmps16
 go_wp2_with fail
 have HB0 := za.mk (Below.refl w.heap.size w)
 go_loopw [5,8] (fun v5 v8 wr => ∃ k : Nat,v8 = .int .i64 k ∧ k ≤ l.length ∧ za (∀ (j : Nat) (y : S42),j < k → l[j]? = some y → zaW.p s y = false) ∧ za (Below w.heap.size w wr)) (fun _ v8 _ => l.length - (match v8 with | .int _ q => q | _ => 0).toNat)
 case atStart => exact ⟨0,rfl,Nat.zero_le _,⟨fun j y hj => absurd hj (Nat.not_lt_zero _)⟩,⟨by repeat (first | (with_reducible first | exact HB0.out | apply zk | apply zi | apply zo) | exact HB0.out)⟩⟩
 case round =>
  obtain ⟨k,rfl,hk,HF,HB⟩ := hrel
  by_cases hlt : k < l.length
  ·obtain ⟨ad,A3,c3,A4,c4,rfl,hx0,hx1,hx2,hx3,hx4,hx5,hx6,_,_,_,_⟩ := zaG HR.out (k : Int) (by omega) (by omega)
   replace hx0 := (HB.out.cell (World.block_lt_of_cell? w _ hx0)).trans hx0
   replace hx1 := (HB.out.cell (World.block_lt_of_cell? w _ hx1)).trans hx1
   replace hx2 := (HB.out.cell (World.block_lt_of_cell? w _ hx2)).trans hx2
   replace hx3 := (HB.out.cell (World.block_lt_of_cell? w _ hx3)).trans hx3
   replace hx4 := (HB.out.cell (World.block_lt_of_cell? w _ hx4)).trans hx4
   replace hx5 := (HB.out.cell (World.block_lt_of_cell? w _ hx5)).trans hx5
   replace hx6 := (HB.out.cell (World.block_lt_of_cell? w _ hx6)).trans hx6
   rw [Int.toNat_natCast] at hx0 hx1 hx2 hx3 hx4 hx5 hx6
   have hb : decide (k < l.length) = true := decide_eq_true hlt
   have hx : l[k]? = some (zd l (k : Int)) := by
    rw [zd,Int.toNat_natCast,List.getD_eq_getElem?_getD,List.getElem?_eq_getElem hlt];rfl
   have HX := za.mk hx
   have Ng := za.mk (zm Hg.out HB.out)
   clear hx
   generalize zd l (k : Int) = s at *
   obtain ⟨s0,⟨s1,s2,s3,s4,⟨s5,s6⟩⟩⟩ := s
   rcases ho : zaW.p s ⟨s0,⟨s1,s2,s3,s4,⟨s5,s6⟩⟩⟩ with _ | _
   ·have HO := za.mk ho
    clear ho
    go_wp2_with (go_at_call 33;(with_reducible refine (zaW.odd s s0 s1 s2 _ _ _ _ _ _ s5 s6 g _ Ng.out).mono ?_);rintro e w1 ⟨rfl,hb1⟩;rw [show (decide (s0 = s)) = _ from HO.out];have HB1 := za.mk (ze HB.out hb1);clear hb1)
    go_roundw
    case rel =>
     refine ⟨k + 1,by go_num,by omega,⟨fun j y hj hy => ?_⟩,HB1⟩
     rcases Nat.lt_succ_iff_lt_or_eq.1 hj with h | h
     ·exact HF.out j y h hy
     ·subst h
      rw [HX.out] at hy
      injection hy with hy
      subst hy
      exact HO.out
    case measure => simp;omega
   ·have HO := za.mk ho
    clear ho
    go_wp2_with (go_at_call 33;(with_reducible refine (zaW.odd s s0 s1 s2 _ _ _ _ _ _ s5 s6 g _ Ng.out).mono ?_);rintro e w1 ⟨rfl,hb1⟩;rw [show (decide (s0 = s)) = _ from HO.out];have HB1 := za.mk (ze HB.out hb1);clear hb1)
    go_ret
    exact ⟨by rw [zcE HX.out HO.out HF.out];rfl,HB1.out⟩
  ·obtain rfl : k = l.length := by omega
   go_wp2_with fail
   go_ret
   exact ⟨by rw [zcs (fun j y hy => HF.out j y (List.getElem?_eq_some_iff.1 hy).1 hy)];rfl,HB.out⟩
set_option maxHeartbeats 4000000 in
set_option maxRecDepth 100000 in
theorem zaW.first (s : ByteArray) (g : Nat) (a0_0 : Int) (a0_1 : Int) (P0_2_ : Nat → Prop) (A0_2 : Option Addr) (c0_2 : Nat) (l0_2 : List (S42)) (r1 : ByteArray) (r2 : Int) (r3 : Int) (r4 : List (S67)) (r5 : List ByteArray) (r6 : Int) (r7 : Int) (r8 : Bool) (w : World) (hs0_2 : Kd.V k42 42 w w.heap.size (fun k_ => P0_2_ k_) (.slice A0_2 l0_2.length c0_2) l0_2) (hg : w.heap[g]? = some (.cells #[.string s] 9 (0,0))) (hres : zd8 (l0_2.find? (zaW.p s)) = (r1,r2,r3,r4,r5,r6,r7,r8)) :
  Calls Tryz.prog 32 #[.agg #[.int .i64 a0_0,.int .i64 a0_1,.slice A0_2 l0_2.length c0_2],.func (.func 33) #[] #[.pointer (some ⟨g,0,none⟩)]] w fun e w' => ∃ v3_ v4_ : Value,e = .returned (.tuple #[.agg #[.string r1,.int .i64 r2,.int .i64 r3,v3_,v4_,.int .i64 r6,.int .i64 r7],.bool r8]) ∧ Kd.V k67 67 w' w.heap.size (fun k_ => (P0_2_ k_ ∨ w.heap.size ≤ k_)) v3_ r4 ∧ Kd.V Kd.string 9 w' w.heap.size (fun k_ => (P0_2_ k_ ∨ w.heap.size ≤ k_)) v4_ r5 ∧ Below w.heap.size w w' := by
 have HS := za.mk hs0_2
 have Hg := za.mk hg
 clear hs0_2 hg
 rcases zgA (zaW.p s) l0_2 with ⟨i,x,hi,hx,hf,hidx⟩ | ⟨hf,hidx⟩
 ·rw [hf] at hres
  obtain ⟨x0,⟨x1,x2,x3,x4,⟨x5,x6⟩⟩⟩ := x
  have HI := za.mk hidx
  obtain ⟨ad,A3,c3,A4,c4,rfl,hx0,hx1,hx2,hx3,hx4,hx5,hx6,hv3,hv4⟩ := ent_at HS.out i hi _ hx
  have HV3 := za.mk hv3
  have HV4 := za.mk hv4
  simp only [zd8,tupE,Prod.mk.injEq] at hres
  obtain ⟨rfl,rfl,rfl,rfl,rfl,rfl,rfl,rfl⟩ := hres
  have hib : decide (i < l0_2.length) = true := decide_eq_true hi
  have hi0 : decide ((i : Int) < 0) = false := decide_eq_false (by omega)
  clear hx hf hidx hv3 hv4
  go_enter Tryz.func32,Tryz.ntmps32
  go_wp2_with (first
   | ((with_reducible refine zn (N := 2) rfl ?_);refine zl rfl (N := 2) rfl (cs := #[.int .i64 a0_0,.int .i64 a0_1,.slice (some ad) l0_2.length c0_2]) (t := 24) hrq ?_;intro g2 hg w2 hbox hb;have B2 := za.mk hbox;have HB2 := za.mk hb;have Ng := za.mk (zm Hg.out hb);have z2_0 := fun o => (zb (zf B2.out o) 0).trans rfl;have z2_1 := fun o => (zb (zf B2.out o) 1).trans rfl;have z2_2 := fun o => (zb (zf B2.out o) 2).trans rfl;clear hb hbox hg)
   | (go_at_call 16;(with_reducible refine (zaW.idx s g _ _ l0_2 _ (Kd.C_below (Kd.V_reads' HS.out).2.2 (zk HB2.out _)) (zf Ng.out _)).mono ?_);rintro e w3 ⟨rfl,hb⟩;rw [HI.out];have HB3 := za.mk (ze (zk HB2.out _) hb);have B4 := za.mk (zm (zbp w2 _) hb);have B22 := za.mk (zm (zf B2.out _) hb);have HLE : za (w.heap.size ≤ w2.heap.size) := ⟨zg HB2.out⟩;clear hb;have y2_0 := (zb B22.out 0).trans rfl;have y2f_0 := zc B22.out 0;have y2_1 := (zb B22.out 1).trans rfl;have y2f_1 := zc B22.out 1;have y2_2 := (zb B22.out 2).trans rfl;have y2f_2 := zc B22.out 2;have y4_0 := (zb B4.out 0).trans rfl;have y4f_0 := zc B4.out 0;have y4_1 := (zb B4.out 1).trans rfl;have y4f_1 := zc B4.out 1;have y4_2 := (zb B4.out 2).trans rfl;have y4f_2 := zc B4.out 2;have y4_3 := (zb B4.out 3).trans rfl;have y4f_3 := zc B4.out 3;have y4_4 := (zb B4.out 4).trans rfl;have y4f_4 := zc B4.out 4;have y4_5 := (zb B4.out 5).trans rfl;have y4f_5 := zc B4.out 5;have y4_6 := (zb B4.out 6).trans rfl;have y4f_6 := zc B4.out 6;have q0 := (HB3.out.cell (World.block_lt_of_cell? w _ hx0)).trans hx0;have q1 := (HB3.out.cell (World.block_lt_of_cell? w _ hx1)).trans hx1;have q2 := (HB3.out.cell (World.block_lt_of_cell? w _ hx2)).trans hx2;have q3 := (HB3.out.cell (World.block_lt_of_cell? w _ hx3)).trans hx3;have q4 := (HB3.out.cell (World.block_lt_of_cell? w _ hx4)).trans hx4;have q5 := (HB3.out.cell (World.block_lt_of_cell? w _ hx5)).trans hx5;have q6 := (HB3.out.cell (World.block_lt_of_cell? w _ hx6)).trans hx6))
  refine bodyPost_ret (zaH rfl _ _ w2.heap.size 42 _ (0,0) _ rfl (zX (zX (zX (zX (zX (zX (zX B4.out 0 _) 1 _) 2 _) 3 _) 4 _) 5 _) 6 _) Tryz.underlying42 rfl (by kernel_rfl)) rfl ?_
  refine ⟨_,_,rfl,Kd.V_mono (Kd.V_below HV3.out ?e1) (fun _ hk => .inl hk),Kd.V_mono (Kd.V_below HV4.out ?e1) (fun _ hk => .inl hk),?e1⟩
  exact (zj (zj (zj (zj (zj (zj (zj HB3.out HLE.out) HLE.out) HLE.out) HLE.out) HLE.out) HLE.out) HLE.out)
 ·rw [hf] at hres
  have HI := za.mk hidx
  simp only [zd8,noE,Prod.mk.injEq] at hres
  obtain ⟨rfl,rfl,rfl,rfl,rfl,rfl,rfl,rfl⟩ := hres
  clear hf hidx
  go_enter Tryz.func32,Tryz.ntmps32
  go_wp2_with (first
   | ((with_reducible refine zn (N := 2) rfl ?_);refine zl rfl (N := 2) rfl (cs := #[.int .i64 a0_0,.int .i64 a0_1,.slice A0_2 l0_2.length c0_2]) (t := 24) hrq ?_;intro g2 hg w2 hbox hb;have B2 := za.mk hbox;have HB2 := za.mk hb;have Ng := za.mk (zm Hg.out hb);have z2_0 := fun o => (zb (zf B2.out o) 0).trans rfl;have z2_1 := fun o => (zb (zf B2.out o) 1).trans rfl;have z2_2 := fun o => (zb (zf B2.out o) 2).trans rfl;clear hb hbox hg)
   | (go_at_call 16;(with_reducible refine (zaW.idx s g _ _ l0_2 _ (Kd.C_below (Kd.V_reads' HS.out).2.2 (zk HB2.out _)) (zf Ng.out _)).mono ?_);rintro e w3 ⟨rfl,hb⟩;rw [HI.out];have HB3 := za.mk (ze (zk HB2.out _) hb);have B4 := za.mk (zm (zbp w2 _) hb);have B22 := za.mk (zm (zf B2.out _) hb);have HLE : za (w.heap.size ≤ w2.heap.size) := ⟨zg HB2.out⟩;clear hb;have y2_0 := (zb B22.out 0).trans rfl;have y2f_0 := zc B22.out 0;have y2_1 := (zb B22.out 1).trans rfl;have y2f_1 := zc B22.out 1;have y2_2 := (zb B22.out 2).trans rfl;have y2f_2 := zc B22.out 2;have y4_0 := (zb B4.out 0).trans rfl;have y4f_0 := zc B4.out 0;have y4_1 := (zb B4.out 1).trans rfl;have y4f_1 := zc B4.out 1;have y4_2 := (zb B4.out 2).trans rfl;have y4f_2 := zc B4.out 2;have y4_3 := (zb B4.out 3).trans rfl;have y4f_3 := zc B4.out 3;have y4_4 := (zb B4.out 4).trans rfl;have y4f_4 := zc B4.out 4;have y4_5 := (zb B4.out 5).trans rfl;have y4f_5 := zc B4.out 5;have y4_6 := (zb B4.out 6).trans rfl;have y4f_6 := zc B4.out 6))
  refine bodyPost_ret (zaH rfl _ _ w2.heap.size 42 _ (0,0) _ rfl (zX (zX (zX (zX (zX (zX (zX B4.out 0 _) 1 _) 2 _) 3 _) 4 _) 5 _) 6 _) Tryz.underlying42 rfl (by kernel_rfl)) rfl ?_
  exact ⟨_,_,rfl,Kd.V_nil _ _ _ _ _,Kd.V_nil _ _ _ _ _,(zj (zj (zj (zj (zj (zj (zj HB3.out HLE.out) HLE.out) HLE.out) HLE.out) HLE.out) HLE.out) HLE.out)⟩
def zaW.f (a0_0 : Int) (a0_1 : Int) (l0_2 : List (S42)) (a1 : ByteArray) : Option TE := some (zd8 (zcB l0_2 a1))
set_option maxHeartbeats 4000000 in
set_option maxRecDepth 100000 in
theorem zaW.calls (a0_0 : Int) (a0_1 : Int) (P0_2_ : Nat → Prop) (A0_2 : Option Addr) (c0_2 : Nat) (l0_2 : List (S42)) (a1 : ByteArray) (r1 : ByteArray) (r2 : Int) (r3 : Int) (r4 : List (S67)) (r5 : List ByteArray) (r6 : Int) (r7 : Int) (r8 : Bool) (w : World) (hs0_2 : Kd.V k42 42 w w.heap.size (fun k_ => P0_2_ k_) (.slice A0_2 l0_2.length c0_2) l0_2) (h : zaW.f a0_0 a0_1 l0_2 a1 = some (r1,r2,r3,r4,r5,r6,r7,r8)) :
  Calls Tryz.prog 13 #[.agg #[.int .i64 a0_0,.int .i64 a0_1,.slice A0_2 l0_2.length c0_2],.string a1] w fun e w' => ∃ v3_ v4_ : Value,e = .returned (.tuple #[.agg #[.string r1,.int .i64 r2,.int .i64 r3,v3_,v4_,.int .i64 r6,.int .i64 r7],.bool r8]) ∧ Kd.V k67 67 w' w.heap.size (fun k_ => (P0_2_ k_ ∨ w.heap.size ≤ k_)) v3_ r4 ∧ Kd.V Kd.string 9 w' w.heap.size (fun k_ => (P0_2_ k_ ∨ w.heap.size ≤ k_)) v4_ r5 ∧ Below w.heap.size w w' := by
 have HRS := za.mk (show zd8 (l0_2.find? (zaW.p a1)) = (r1,r2,r3,r4,r5,r6,r7,r8) from Option.some.inj h)
 have HS := za.mk hs0_2
 clear hs0_2 h
 go_enter Tryz.func13,Tryz.ntmps13
 go_wp2_with (first
  | ((with_reducible refine zn (N := 2) rfl ?_);refine zl rfl (N := 2) rfl (cs := #[.int .i64 a0_0,.int .i64 a0_1,.slice A0_2 l0_2.length c0_2]) (t := 24) hrq ?_;intro g0 hg u0 hbox hb;have B0 := za.mk hbox;have HB0 := za.mk hb;clear hb hbox hg)
  | ((with_reducible refine zn (N := 3) rfl ?_);refine zl rfl (N := 3) rfl (cs := #[.string a1]) (t := 9) hrq ?_;intro g1 hg u1 hbox hb;have C0 := za.mk (zm B0.out hb);have HB1 := za.mk (ze HB0.out hb);have B1 := za.mk hbox;have z0_0 := fun o => (zb (zf C0.out o) 0).trans rfl;have z0_1 := fun o => (zb (zf C0.out o) 1).trans rfl;have z0_2 := fun o => (zb (zf C0.out o) 2).trans rfl;clear hb hbox hg)
  | (go_at_call 32;(with_reducible refine (zaW.first a1 g1 a0_0 a0_1 (fun k_ => P0_2_ k_ ∧ k_ < w.heap.size) A0_2 c0_2 l0_2 r1 r2 r3 r4 r5 r6 r7 r8 _ (Kd.V_map HS.out (fun _ hf => Kd.F_below (Kd.F_bound hf) (zk HB1.out _))) (zf B1.out _) HRS.out).mono ?_);rintro e w5 ⟨v3,v4,rfl,hV3,hV4,hb⟩;obtain ⟨A3,c3,rfl⟩ := Kd.V_slice hV3;obtain ⟨A4,c4,rfl⟩ := Kd.V_slice hV4;have HV3 := za.mk hV3;have HV4 := za.mk hV4;have HBX := za.mk (ze (zk HB1.out _) hb);have BX := za.mk (zm (zbp u1 _) hb);have HLE : za (w.heap.size ≤ u1.heap.size) := ⟨zg HB1.out⟩;clear hb hV3 hV4;have y_0 := (zb BX.out 0).trans rfl;have yf_0 := zc BX.out 0;have y_1 := (zb BX.out 1).trans rfl;have yf_1 := zc BX.out 1;have y_2 := (zb BX.out 2).trans rfl;have yf_2 := zc BX.out 2;have y_3 := (zb BX.out 3).trans rfl;have yf_3 := zc BX.out 3;have y_4 := (zb BX.out 4).trans rfl;have yf_4 := zc BX.out 4;have y_5 := (zb BX.out 5).trans rfl;have yf_5 := zc BX.out 5;have y_6 := (zb BX.out 6).trans rfl;have yf_6 := zc BX.out 6))
 have far : za (∀ k_,((P0_2_ k_ ∧ k_ < w.heap.size) ∨ (u1.alloc (.cells #[.string (⟨#[]⟩ : ByteArray),.int .i64 0,.int .i64 0,.slice none 0 0,.slice none 0 0,.int .i64 0,.int .i64 0] 42 (0,0))).heap.size ≤ k_) → k_ ≠ u1.heap.size) := ⟨fun k_ hk he => by
  subst he
  rcases hk with hk | hk
  ·exact Nat.lt_irrefl _ (Nat.lt_of_lt_of_le hk.2 HLE.out)
  ·exact absurd hk (by simp)⟩
 have lift : ∀ k_,((P0_2_ k_ ∧ k_ < w.heap.size) ∨ (u1.alloc (.cells #[.string (⟨#[]⟩ : ByteArray),.int .i64 0,.int .i64 0,.slice none 0 0,.slice none 0 0,.int .i64 0,.int .i64 0] 42 (0,0))).heap.size ≤ k_) → (P0_2_ k_ ∨ w.heap.size ≤ k_) := fun k_ hk => by
  rcases hk with hk | hk
  ·exact .inl hk.1
  ·exact .inr (Nat.le_trans HLE.out (Nat.le_trans (by simp) hk))
 refine bodyPost_ret (zaH rfl _ _ u1.heap.size 42 _ (0,0) _ rfl (zX (zX (zX (zX (zX (zX (zX BX.out 0 _) 1 _) 2 _) 3 _) 4 _) 5 _) 6 _) Tryz.underlying42 rfl (by kernel_rfl)) rfl ?_
 exact ⟨_,_,rfl,Kd.V_mono (Kd.V_far (p := ⟨u1.heap.size,6,none⟩) (Kd.V_far (p := ⟨u1.heap.size,5,none⟩) (Kd.V_far (p := ⟨u1.heap.size,4,none⟩) (Kd.V_far (p := ⟨u1.heap.size,3,none⟩) (Kd.V_far (p := ⟨u1.heap.size,2,none⟩) (Kd.V_far (p := ⟨u1.heap.size,1,none⟩) (Kd.V_far (p := ⟨u1.heap.size,0,none⟩) HV3.out far.out _) far.out _) far.out _) far.out _) far.out _) far.out _) far.out _) lift,Kd.V_mono (Kd.V_far (p := ⟨u1.heap.size,6,none⟩) (Kd.V_far (p := ⟨u1.heap.size,5,none⟩) (Kd.V_far (p := ⟨u1.heap.size,4,none⟩) (Kd.V_far (p := ⟨u1.heap.size,3,none⟩) (Kd.V_far (p := ⟨u1.heap.size,2,none⟩) (Kd.V_far (p := ⟨u1.heap.size,1,none⟩) (Kd.V_far (p := ⟨u1.heap.size,0,none⟩) HV4.out far.out _) far.out _) far.out _) far.out _) far.out _) far.out _) far.out _) lift,(zj (zj (zj (zj (zj (zj (zj HBX.out HLE.out) HLE.out) HLE.out) HLE.out) HLE.out) HLE.out) HLE.out)⟩
end Go.Proofs.YtlkfelmbhldgfaaGreat.Px