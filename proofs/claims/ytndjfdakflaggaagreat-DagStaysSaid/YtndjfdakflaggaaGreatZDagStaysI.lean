/- Part 9 of 15 of the proof of the law DagStays: what is proved is the statement at the end of the last part; its conditions are those of the given row. -/
import Derived.MapKept
import Derived.Laws.NewBlocks
import Derived.Maps.OwnOps
import Derived.Test.YtndjfdakflaggaaGreatZDagStaysH
namespace Go.Proofs.YtndjfdakflaggaaGreat.Px
open Go.RowKit Go.Proofs.YtndjfdakflaggaaGreatW.PrintWords Go.Proofs.YtndjfdakflaggaaGreatW.PrintLast Go.Proofs.YtndjfdakflaggaaGreatW.PrintMore
attribute [local go_sem] zA zC zH zI zv zw zB zD
set_option linter.unusedVariables false
set_option linter.unusedSimpArgs false
def zbE.p (a r : Int) (x : S39) : Bool := decide (x.f1.f0 = a ∧ x.f1.f1 = r)
set_option maxHeartbeats 4000000 in
set_option maxRecDepth 100000 in
theorem zbE.odd (a r : Int) (x0 : ByteArray) (x1 x2 : Int) (A3 : Option Addr) (n3 c3 : Nat) (A4 : Option Addr) (n4 c4 : Nat) (x5 x6 : Int) (g : Nat) (g' : Nat) (w : World) (hg : w.heap[g]? = some (.cells #[.int .i64 a] 3 (0,0))) (hg' : w.heap[g']? = some (.cells #[.int .i64 r] 3 (0,0))) :
  Calls Tryz.prog 33 #[.agg #[.string x0,.int .i64 x1,.int .i64 x2,.slice A3 n3 c3,.slice A4 n4 c4,.int .i64 x5,.int .i64 x6],.pointer (some ⟨g,0,none⟩),.pointer (some ⟨g',0,none⟩)] w fun e w' => e = .returned (.bool (decide (x1 = a ∧ x2 = r))) ∧ Below w.heap.size w w' := by
 have Hg := za.mk hg
 have Hg' := za.mk hg'
 clear hg hg'
 by_cases c1 : x1 = a
 ·have d1 : (x1 == a) = true := beq_iff_eq.2 c1
  by_cases c2 : x2 = r
  ·have d2 : (x2 == r) = true := beq_iff_eq.2 c2
   have HP : za (decide (x1 = a ∧ x2 = r) = true) := ⟨decide_eq_true ⟨c1,c2⟩⟩
   clear c1 c2
   go_enter Tryz.func33,Tryz.ntmps33
   go_wp2_with ((with_reducible refine zq (N := 3) rfl ?_);refine zn rfl (N := 3) rfl (cs := #[.string x0,.int .i64 x1,.int .i64 x2,.slice A3 n3 c3,.slice A4 n4 c4,.int .i64 x5,.int .i64 x6]) (t := 39) hrq ?_;intro gb hg w2 hbox hb;have BK := za.mk hbox;have HB := za.mk hb;have Ng := za.mk (zo Hg.out hb);have Ng' := za.mk (zo Hg'.out hb);have z_0 := (zb BK.out 0).trans rfl;have zf_0 := zc BK.out 0;have z_1 := (zb BK.out 1).trans rfl;have zf_1 := zc BK.out 1;have z_2 := (zb BK.out 2).trans rfl;have zf_2 := zc BK.out 2;have z_3 := (zb BK.out 3).trans rfl;have zf_3 := zc BK.out 3;have z_4 := (zb BK.out 4).trans rfl;have zf_4 := zc BK.out 4;have z_5 := (zb BK.out 5).trans rfl;have zf_5 := zc BK.out 5;have z_6 := (zb BK.out 6).trans rfl;have zf_6 := zc BK.out 6;have zg_0 := (zb Ng.out 0).trans rfl;have zgf_0 := zc Ng.out 0;have zg'_0 := (zb Ng'.out 0).trans rfl;have zg'f_0 := zc Ng'.out 0;clear hb hbox hg)
   go_ret
   exact ⟨by rw [HP.out];rfl,HB.out⟩
  ·have d2 : (x2 == r) = false := beq_eq_false_iff_ne.2 c2
   have HP : za (decide (x1 = a ∧ x2 = r) = false) := ⟨decide_eq_false (fun h => c2 h.2)⟩
   clear c1 c2
   go_enter Tryz.func33,Tryz.ntmps33
   go_wp2_with ((with_reducible refine zq (N := 3) rfl ?_);refine zn rfl (N := 3) rfl (cs := #[.string x0,.int .i64 x1,.int .i64 x2,.slice A3 n3 c3,.slice A4 n4 c4,.int .i64 x5,.int .i64 x6]) (t := 39) hrq ?_;intro gb hg w2 hbox hb;have BK := za.mk hbox;have HB := za.mk hb;have Ng := za.mk (zo Hg.out hb);have Ng' := za.mk (zo Hg'.out hb);have z_0 := (zb BK.out 0).trans rfl;have zf_0 := zc BK.out 0;have z_1 := (zb BK.out 1).trans rfl;have zf_1 := zc BK.out 1;have z_2 := (zb BK.out 2).trans rfl;have zf_2 := zc BK.out 2;have z_3 := (zb BK.out 3).trans rfl;have zf_3 := zc BK.out 3;have z_4 := (zb BK.out 4).trans rfl;have zf_4 := zc BK.out 4;have z_5 := (zb BK.out 5).trans rfl;have zf_5 := zc BK.out 5;have z_6 := (zb BK.out 6).trans rfl;have zf_6 := zc BK.out 6;have zg_0 := (zb Ng.out 0).trans rfl;have zgf_0 := zc Ng.out 0;have zg'_0 := (zb Ng'.out 0).trans rfl;have zg'f_0 := zc Ng'.out 0;clear hb hbox hg)
   go_ret
   exact ⟨by rw [HP.out];rfl,HB.out⟩
 ·have d1 : (x1 == a) = false := beq_eq_false_iff_ne.2 c1
  have HP : za (decide (x1 = a ∧ x2 = r) = false) := ⟨decide_eq_false (fun h => c1 h.1)⟩
  clear c1
  go_enter Tryz.func33,Tryz.ntmps33
  go_wp2_with ((with_reducible refine zq (N := 3) rfl ?_);refine zn rfl (N := 3) rfl (cs := #[.string x0,.int .i64 x1,.int .i64 x2,.slice A3 n3 c3,.slice A4 n4 c4,.int .i64 x5,.int .i64 x6]) (t := 39) hrq ?_;intro gb hg w2 hbox hb;have BK := za.mk hbox;have HB := za.mk hb;have Ng := za.mk (zo Hg.out hb);have Ng' := za.mk (zo Hg'.out hb);have z_0 := (zb BK.out 0).trans rfl;have zf_0 := zc BK.out 0;have z_1 := (zb BK.out 1).trans rfl;have zf_1 := zc BK.out 1;have z_2 := (zb BK.out 2).trans rfl;have zf_2 := zc BK.out 2;have z_3 := (zb BK.out 3).trans rfl;have zf_3 := zc BK.out 3;have z_4 := (zb BK.out 4).trans rfl;have zf_4 := zc BK.out 4;have z_5 := (zb BK.out 5).trans rfl;have zf_5 := zc BK.out 5;have z_6 := (zb BK.out 6).trans rfl;have zf_6 := zc BK.out 6;have zg_0 := (zb Ng.out 0).trans rfl;have zgf_0 := zc Ng.out 0;have zg'_0 := (zb Ng'.out 0).trans rfl;have zg'f_0 := zc Ng'.out 0;clear hb hbox hg)
  go_ret
  exact ⟨by rw [HP.out];rfl,HB.out⟩
set_option maxHeartbeats 4000000 in
set_option maxRecDepth 100000 in
theorem zbE.idx (a r : Int) (g : Nat) (g' : Nat) (A : Option Addr) (c : Nat) (l : List S39) (w : World) (hr : Kd.C k39 w A l.length l) (hg : w.heap[g]? = some (.cells #[.int .i64 a] 3 (0,0))) (hg' : w.heap[g']? = some (.cells #[.int .i64 r] 3 (0,0))) :
  Calls Tryz.prog 15 #[.slice A l.length c,.func (.func 33) #[] #[.pointer (some ⟨g,0,none⟩),.pointer (some ⟨g',0,none⟩)]] w fun e w' => e = .returned (.int .i64 (zcT (zbE.p a r) l)) ∧ Below w.heap.size w w' := by
 have hm := hr.2.1
 have HR := za.mk hr
 have Hg := za.mk hg
 have Hg' := za.mk hg'
 clear hr hg hg'
 go_enter Tryz.func15,Tryz.ntmps15
 go_wp2_with fail
 have HB0 := za.mk (Below.refl w.heap.size w)
 go_loopw [5,8] (fun v5 v8 wr => ∃ k : Nat,v8 = .int .i64 k ∧ k ≤ l.length ∧ za (∀ (j : Nat) (y : S39),j < k → l[j]? = some y → zbE.p a r y = false) ∧ za (Below w.heap.size w wr)) (fun _ v8 _ => l.length - (match v8 with | .int _ q => q | _ => 0).toNat)
 case atStart => exact ⟨0,rfl,Nat.zero_le _,⟨fun j y hj => absurd hj (Nat.not_lt_zero _)⟩,⟨by repeat (first | (with_reducible first | exact HB0.out | apply zl | apply zi | apply zp) | exact HB0.out)⟩⟩
 case round =>
  obtain ⟨k,rfl,hk,HF,HB⟩ := hrel
  by_cases hlt : k < l.length
  ·obtain ⟨ad,A3,c3,A4,c4,rfl,hx0,hx1,hx2,hx3,hx4,hx5,hx6,_,_,_,_⟩ := zbe HR.out (k : Int) (by omega) (by omega)
   replace hx0 := (HB.out.cell (World.block_lt_of_cell? w _ hx0)).trans hx0
   replace hx1 := (HB.out.cell (World.block_lt_of_cell? w _ hx1)).trans hx1
   replace hx2 := (HB.out.cell (World.block_lt_of_cell? w _ hx2)).trans hx2
   replace hx3 := (HB.out.cell (World.block_lt_of_cell? w _ hx3)).trans hx3
   replace hx4 := (HB.out.cell (World.block_lt_of_cell? w _ hx4)).trans hx4
   replace hx5 := (HB.out.cell (World.block_lt_of_cell? w _ hx5)).trans hx5
   replace hx6 := (HB.out.cell (World.block_lt_of_cell? w _ hx6)).trans hx6
   rw [Int.toNat_natCast] at hx0 hx1 hx2 hx3 hx4 hx5 hx6
   have hb : decide (k < l.length) = true := decide_eq_true hlt
   have hx : l[k]? = some (zd l (k : Int)) := by
    rw [zd,Int.toNat_natCast,List.getD_eq_getElem?_getD,List.getElem?_eq_getElem hlt];rfl
   have HX := za.mk hx
   have Ng := za.mk (zo Hg.out HB.out)
   have Ng' := za.mk (zo Hg'.out HB.out)
   clear hx
   generalize zd l (k : Int) = s at *
   obtain ⟨s0,⟨s1,s2,s3,s4,⟨s5,s6⟩⟩⟩ := s
   rcases ho : zbE.p a r ⟨s0,⟨s1,s2,s3,s4,⟨s5,s6⟩⟩⟩ with _ | _
   ·have HO := za.mk ho
    clear ho
    go_wp2_with (go_at_call 33;(with_reducible refine (zbE.odd a r s0 s1 s2 _ _ _ _ _ _ s5 s6 g g' _ Ng.out Ng'.out).mono ?_);rintro e w1 ⟨rfl,hb1⟩;rw [show (decide (s1 = a ∧ s2 = r)) = _ from HO.out];have HB1 := za.mk (ze HB.out hb1);clear hb1)
    go_roundw
    case rel =>
     refine ⟨k + 1,by go_num,by omega,⟨fun j y hj hy => ?_⟩,HB1⟩
     rcases Nat.lt_succ_iff_lt_or_eq.1 hj with h | h
     ·exact HF.out j y h hy
     ·subst h
      rw [HX.out] at hy
      injection hy with hy
      subst hy
      exact HO.out
    case measure => simp;omega
   ·have HO := za.mk ho
    clear ho
    go_wp2_with (go_at_call 33;(with_reducible refine (zbE.odd a r s0 s1 s2 _ _ _ _ _ _ s5 s6 g g' _ Ng.out Ng'.out).mono ?_);rintro e w1 ⟨rfl,hb1⟩;rw [show (decide (s1 = a ∧ s2 = r)) = _ from HO.out];have HB1 := za.mk (ze HB.out hb1);clear hb1)
    go_ret
    exact ⟨by rw [zcU HX.out HO.out HF.out];rfl,HB1.out⟩
  ·obtain rfl : k = l.length := by omega
   go_wp2_with fail
   go_ret
   exact ⟨by rw [zcJ (fun j y hy => HF.out j y (List.getElem?_eq_some_iff.1 hy).1 hy)];rfl,HB.out⟩
set_option maxHeartbeats 4000000 in
set_option maxRecDepth 100000 in
theorem zbE.first (a r : Int) (g : Nat) (g' : Nat) (a0_0 : Int) (a0_1 : Int) (P0_2_ : Nat → Prop) (A0_2 : Option Addr) (c0_2 : Nat) (l0_2 : List (S39)) (r1 : ByteArray) (r2 : Int) (r3 : Int) (r4 : List (S75)) (r5 : List ByteArray) (r6 : Int) (r7 : Int) (r8 : Bool) (w : World) (hs0_2 : Kd.V k39 39 w w.heap.size (fun k_ => P0_2_ k_) (.slice A0_2 l0_2.length c0_2) l0_2) (hg : w.heap[g]? = some (.cells #[.int .i64 a] 3 (0,0))) (hg' : w.heap[g']? = some (.cells #[.int .i64 r] 3 (0,0))) (hres : zgl (l0_2.find? (zbE.p a r)) = (r1,r2,r3,r4,r5,r6,r7,r8)) :
  Calls Tryz.prog 31 #[.agg #[.int .i64 a0_0,.int .i64 a0_1,.slice A0_2 l0_2.length c0_2],.func (.func 33) #[] #[.pointer (some ⟨g,0,none⟩),.pointer (some ⟨g',0,none⟩)]] w fun e w' => ∃ v3_ v4_ : Value,e = .returned (.tuple #[.agg #[.string r1,.int .i64 r2,.int .i64 r3,v3_,v4_,.int .i64 r6,.int .i64 r7],.bool r8]) ∧ Kd.V k75 75 w' w.heap.size (fun k_ => (P0_2_ k_ ∨ w.heap.size ≤ k_)) v3_ r4 ∧ Kd.V Kd.string 9 w' w.heap.size (fun k_ => (P0_2_ k_ ∨ w.heap.size ≤ k_)) v4_ r5 ∧ Below w.heap.size w w' := by
 have HS := za.mk hs0_2
 have Hg := za.mk hg
 have Hg' := za.mk hg'
 clear hs0_2 hg hg'
 rcases zg9 (zbE.p a r) l0_2 with ⟨i,x,hi,hx,hf,hidx⟩ | ⟨hf,hidx⟩
 ·rw [hf] at hres
  obtain ⟨x0,⟨x1,x2,x3,x4,⟨x5,x6⟩⟩⟩ := x
  have HI := za.mk hidx
  obtain ⟨ad,A3,c3,A4,c4,rfl,hx0,hx1,hx2,hx3,hx4,hx5,hx6,hv3,hv4⟩ := ent_at HS.out i hi _ hx
  have HV3 := za.mk hv3
  have HV4 := za.mk hv4
  simp only [zgl,tupE,Prod.mk.injEq] at hres
  obtain ⟨rfl,rfl,rfl,rfl,rfl,rfl,rfl,rfl⟩ := hres
  have hib : decide (i < l0_2.length) = true := decide_eq_true hi
  have hi0 : decide ((i : Int) < 0) = false := decide_eq_false (by omega)
  clear hx hf hidx hv3 hv4
  go_enter Tryz.func31,Tryz.ntmps31
  go_wp2_with (first
   | ((with_reducible refine zq (N := 2) rfl ?_);refine zn rfl (N := 2) rfl (cs := #[.int .i64 a0_0,.int .i64 a0_1,.slice (some ad) l0_2.length c0_2]) (t := 26) hrq ?_;intro g2 hg w2 hbox hb;have B2 := za.mk hbox;have HB2 := za.mk hb;have Ng := za.mk (zo Hg.out hb);have Ng' := za.mk (zo Hg'.out hb);have z2_0 := fun o => (zb (zf B2.out o) 0).trans rfl;have z2_1 := fun o => (zb (zf B2.out o) 1).trans rfl;have z2_2 := fun o => (zb (zf B2.out o) 2).trans rfl;clear hb hbox hg)
   | (go_at_call 15;(with_reducible refine (zbE.idx a r g g' _ _ l0_2 _ (Kd.C_below (Kd.V_reads' HS.out).2.2 (zl HB2.out _)) (zf Ng.out _) (zf Ng'.out _)).mono ?_);rintro e w3 ⟨rfl,hb⟩;rw [HI.out];have HB3 := za.mk (ze (zl HB2.out _) hb);have B4 := za.mk (zo (zbg w2 _) hb);have B22 := za.mk (zo (zf B2.out _) hb);have HLE : za (w.heap.size ≤ w2.heap.size) := ⟨zh HB2.out⟩;clear hb;have y2_0 := (zb B22.out 0).trans rfl;have y2f_0 := zc B22.out 0;have y2_1 := (zb B22.out 1).trans rfl;have y2f_1 := zc B22.out 1;have y2_2 := (zb B22.out 2).trans rfl;have y2f_2 := zc B22.out 2;have y4_0 := (zb B4.out 0).trans rfl;have y4f_0 := zc B4.out 0;have y4_1 := (zb B4.out 1).trans rfl;have y4f_1 := zc B4.out 1;have y4_2 := (zb B4.out 2).trans rfl;have y4f_2 := zc B4.out 2;have y4_3 := (zb B4.out 3).trans rfl;have y4f_3 := zc B4.out 3;have y4_4 := (zb B4.out 4).trans rfl;have y4f_4 := zc B4.out 4;have y4_5 := (zb B4.out 5).trans rfl;have y4f_5 := zc B4.out 5;have y4_6 := (zb B4.out 6).trans rfl;have y4f_6 := zc B4.out 6;have q0 := (HB3.out.cell (World.block_lt_of_cell? w _ hx0)).trans hx0;have q1 := (HB3.out.cell (World.block_lt_of_cell? w _ hx1)).trans hx1;have q2 := (HB3.out.cell (World.block_lt_of_cell? w _ hx2)).trans hx2;have q3 := (HB3.out.cell (World.block_lt_of_cell? w _ hx3)).trans hx3;have q4 := (HB3.out.cell (World.block_lt_of_cell? w _ hx4)).trans hx4;have q5 := (HB3.out.cell (World.block_lt_of_cell? w _ hx5)).trans hx5;have q6 := (HB3.out.cell (World.block_lt_of_cell? w _ hx6)).trans hx6))
  refine bodyPost_ret (zbh rfl _ _ w2.heap.size 39 _ (0,0) _ rfl (zX (zX (zX (zX (zX (zX (zX B4.out 0 _) 1 _) 2 _) 3 _) 4 _) 5 _) 6 _) Tryz.underlying39 rfl (by kernel_rfl)) rfl ?_
  refine ⟨_,_,rfl,Kd.V_mono (Kd.V_below HV3.out ?e1) (fun _ hk => .inl hk),Kd.V_mono (Kd.V_below HV4.out ?e1) (fun _ hk => .inl hk),?e1⟩
  exact (zm (zm (zm (zm (zm (zm (zm HB3.out HLE.out) HLE.out) HLE.out) HLE.out) HLE.out) HLE.out) HLE.out)
 ·rw [hf] at hres
  have HI := za.mk hidx
  simp only [zgl,noE,Prod.mk.injEq] at hres
  obtain ⟨rfl,rfl,rfl,rfl,rfl,rfl,rfl,rfl⟩ := hres
  clear hf hidx
  go_enter Tryz.func31,Tryz.ntmps31
  go_wp2_with (first
   | ((with_reducible refine zq (N := 2) rfl ?_);refine zn rfl (N := 2) rfl (cs := #[.int .i64 a0_0,.int .i64 a0_1,.slice A0_2 l0_2.length c0_2]) (t := 26) hrq ?_;intro g2 hg w2 hbox hb;have B2 := za.mk hbox;have HB2 := za.mk hb;have Ng := za.mk (zo Hg.out hb);have Ng' := za.mk (zo Hg'.out hb);have z2_0 := fun o => (zb (zf B2.out o) 0).trans rfl;have z2_1 := fun o => (zb (zf B2.out o) 1).trans rfl;have z2_2 := fun o => (zb (zf B2.out o) 2).trans rfl;clear hb hbox hg)
   | (go_at_call 15;(with_reducible refine (zbE.idx a r g g' _ _ l0_2 _ (Kd.C_below (Kd.V_reads' HS.out).2.2 (zl HB2.out _)) (zf Ng.out _) (zf Ng'.out _)).mono ?_);rintro e w3 ⟨rfl,hb⟩;rw [HI.out];have HB3 := za.mk (ze (zl HB2.out _) hb);have B4 := za.mk (zo (zbg w2 _) hb);have B22 := za.mk (zo (zf B2.out _) hb);have HLE : za (w.heap.size ≤ w2.heap.size) := ⟨zh HB2.out⟩;clear hb;have y2_0 := (zb B22.out 0).trans rfl;have y2f_0 := zc B22.out 0;have y2_1 := (zb B22.out 1).trans rfl;have y2f_1 := zc B22.out 1;have y2_2 := (zb B22.out 2).trans rfl;have y2f_2 := zc B22.out 2;have y4_0 := (zb B4.out 0).trans rfl;have y4f_0 := zc B4.out 0;have y4_1 := (zb B4.out 1).trans rfl;have y4f_1 := zc B4.out 1;have y4_2 := (zb B4.out 2).trans rfl;have y4f_2 := zc B4.out 2;have y4_3 := (zb B4.out 3).trans rfl;have y4f_3 := zc B4.out 3;have y4_4 := (zb B4.out 4).trans rfl;have y4f_4 := zc B4.out 4;have y4_5 := (zb B4.out 5).trans rfl;have y4f_5 := zc B4.out 5;have y4_6 := (zb B4.out 6).trans rfl;have y4f_6 := zc B4.out 6))
  refine bodyPost_ret (zbh rfl _ _ w2.heap.size 39 _ (0,0) _ rfl (zX (zX (zX (zX (zX (zX (zX B4.out 0 _) 1 _) 2 _) 3 _) 4 _) 5 _) 6 _) Tryz.underlying39 rfl (by kernel_rfl)) rfl ?_
  exact ⟨_,_,rfl,Kd.V_nil _ _ _ _ _,Kd.V_nil _ _ _ _ _,(zm (zm (zm (zm (zm (zm (zm HB3.out HLE.out) HLE.out) HLE.out) HLE.out) HLE.out) HLE.out) HLE.out)⟩
def zbE.f (a0_0 : Int) (a0_1 : Int) (l0_2 : List (S39)) (a1 : Int) (a2 : Int) : Option TE := some (zgl (byE l0_2 a1 a2))
set_option maxHeartbeats 4000000 in
set_option maxRecDepth 100000 in
theorem zbE.calls (a0_0 : Int) (a0_1 : Int) (P0_2_ : Nat → Prop) (A0_2 : Option Addr) (c0_2 : Nat) (l0_2 : List (S39)) (a1 : Int) (a2 : Int) (r1 : ByteArray) (r2 : Int) (r3 : Int) (r4 : List (S75)) (r5 : List ByteArray) (r6 : Int) (r7 : Int) (r8 : Bool) (w : World) (hs0_2 : Kd.V k39 39 w w.heap.size (fun k_ => P0_2_ k_) (.slice A0_2 l0_2.length c0_2) l0_2) (h : zbE.f a0_0 a0_1 l0_2 a1 a2 = some (r1,r2,r3,r4,r5,r6,r7,r8)) :
  Calls Tryz.prog 13 #[.agg #[.int .i64 a0_0,.int .i64 a0_1,.slice A0_2 l0_2.length c0_2],.int .i64 a1,.int .i64 a2] w fun e w' => ∃ v3_ v4_ : Value,e = .returned (.tuple #[.agg #[.string r1,.int .i64 r2,.int .i64 r3,v3_,v4_,.int .i64 r6,.int .i64 r7],.bool r8]) ∧ Kd.V k75 75 w' w.heap.size (fun k_ => (P0_2_ k_ ∨ w.heap.size ≤ k_)) v3_ r4 ∧ Kd.V Kd.string 9 w' w.heap.size (fun k_ => (P0_2_ k_ ∨ w.heap.size ≤ k_)) v4_ r5 ∧ Below w.heap.size w w' := by
 have HRS := za.mk (show zgl (l0_2.find? (zbE.p a1 a2)) = (r1,r2,r3,r4,r5,r6,r7,r8) from Option.some.inj h)
 have HS := za.mk hs0_2
 clear hs0_2 h
 go_enter Tryz.func13,Tryz.ntmps13
 go_wp2_with (first
  | ((with_reducible refine zq (N := 3) rfl ?_);refine zn rfl (N := 3) rfl (cs := #[.int .i64 a0_0,.int .i64 a0_1,.slice A0_2 l0_2.length c0_2]) (t := 26) hrq ?_;intro g0 hg u0 hbox hb;have B0 := za.mk hbox;have HB0 := za.mk hb;clear hb hbox hg)
  | ((with_reducible refine zq (N := 4) rfl ?_);refine zn rfl (N := 4) rfl (cs := #[.int .i64 a1]) (t := 3) hrq ?_;intro g1 hg u1 hbox hb;have C0 := za.mk (zo B0.out hb);have HB1 := za.mk (ze HB0.out hb);have B1 := za.mk hbox;clear hb hbox hg)
  | ((with_reducible refine zq (N := 5) rfl ?_);refine zn rfl (N := 5) rfl (cs := #[.int .i64 a2]) (t := 3) hrq ?_;intro g2 hg u2 hbox hb;have C1 := za.mk (zo B1.out hb);have HB2 := za.mk (ze HB1.out hb);have D1_0 := za.mk (zo C0.out hb);have B2 := za.mk hbox;have z0_0 := fun o => (zb (zf D1_0.out o) 0).trans rfl;have z0_1 := fun o => (zb (zf D1_0.out o) 1).trans rfl;have z0_2 := fun o => (zb (zf D1_0.out o) 2).trans rfl;clear hb hbox hg)
  | (go_at_call 31;(with_reducible refine (zbE.first a1 a2 g1 g2 a0_0 a0_1 (fun k_ => P0_2_ k_ ∧ k_ < w.heap.size) A0_2 c0_2 l0_2 r1 r2 r3 r4 r5 r6 r7 r8 _ (Kd.V_map HS.out (fun _ hf => Kd.F_below (Kd.F_bound hf) (zl HB2.out _))) (zf C1.out _) (zf B2.out _) HRS.out).mono ?_);rintro e w5 ⟨v3,v4,rfl,hV3,hV4,hb⟩;obtain ⟨A3,c3,rfl⟩ := Kd.V_slice hV3;obtain ⟨A4,c4,rfl⟩ := Kd.V_slice hV4;have HV3 := za.mk hV3;have HV4 := za.mk hV4;have HBX := za.mk (ze (zl HB2.out _) hb);have BX := za.mk (zo (zbg u2 _) hb);have HLE : za (w.heap.size ≤ u2.heap.size) := ⟨zh HB2.out⟩;clear hb hV3 hV4;have y_0 := (zb BX.out 0).trans rfl;have yf_0 := zc BX.out 0;have y_1 := (zb BX.out 1).trans rfl;have yf_1 := zc BX.out 1;have y_2 := (zb BX.out 2).trans rfl;have yf_2 := zc BX.out 2;have y_3 := (zb BX.out 3).trans rfl;have yf_3 := zc BX.out 3;have y_4 := (zb BX.out 4).trans rfl;have yf_4 := zc BX.out 4;have y_5 := (zb BX.out 5).trans rfl;have yf_5 := zc BX.out 5;have y_6 := (zb BX.out 6).trans rfl;have yf_6 := zc BX.out 6))
 have far : za (∀ k_,((P0_2_ k_ ∧ k_ < w.heap.size) ∨ (u2.alloc (.cells #[.string (⟨#[]⟩ : ByteArray),.int .i64 0,.int .i64 0,.slice none 0 0,.slice none 0 0,.int .i64 0,.int .i64 0] 39 (0,0))).heap.size ≤ k_) → k_ ≠ u2.heap.size) := ⟨fun k_ hk he => by
  subst he
  rcases hk with hk | hk
  ·exact Nat.lt_irrefl _ (Nat.lt_of_lt_of_le hk.2 HLE.out)
  ·exact absurd hk (by simp)⟩
 have lift : ∀ k_,((P0_2_ k_ ∧ k_ < w.heap.size) ∨ (u2.alloc (.cells #[.string (⟨#[]⟩ : ByteArray),.int .i64 0,.int .i64 0,.slice none 0 0,.slice none 0 0,.int .i64 0,.int .i64 0] 39 (0,0))).heap.size ≤ k_) → (P0_2_ k_ ∨ w.heap.size ≤ k_) := fun k_ hk => by
  rcases hk with hk | hk
  ·exact .inl hk.1
  ·exact .inr (Nat.le_trans HLE.out (Nat.le_trans (by simp) hk))
 refine bodyPost_ret (zbh rfl _ _ u2.heap.size 39 _ (0,0) _ rfl (zX (zX (zX (zX (zX (zX (zX BX.out 0 _) 1 _) 2 _) 3 _) 4 _) 5 _) 6 _) Tryz.underlying39 rfl (by kernel_rfl)) rfl ?_
 exact ⟨_,_,rfl,Kd.V_mono (Kd.V_far (p := ⟨u2.heap.size,6,none⟩) (Kd.V_far (p := ⟨u2.heap.size,5,none⟩) (Kd.V_far (p := ⟨u2.heap.size,4,none⟩) (Kd.V_far (p := ⟨u2.heap.size,3,none⟩) (Kd.V_far (p := ⟨u2.heap.size,2,none⟩) (Kd.V_far (p := ⟨u2.heap.size,1,none⟩) (Kd.V_far (p := ⟨u2.heap.size,0,none⟩) HV3.out far.out _) far.out _) far.out _) far.out _) far.out _) far.out _) far.out _) lift,Kd.V_mono (Kd.V_far (p := ⟨u2.heap.size,6,none⟩) (Kd.V_far (p := ⟨u2.heap.size,5,none⟩) (Kd.V_far (p := ⟨u2.heap.size,4,none⟩) (Kd.V_far (p := ⟨u2.heap.size,3,none⟩) (Kd.V_far (p := ⟨u2.heap.size,2,none⟩) (Kd.V_far (p := ⟨u2.heap.size,1,none⟩) (Kd.V_far (p := ⟨u2.heap.size,0,none⟩) HV4.out far.out _) far.out _) far.out _) far.out _) far.out _) far.out _) far.out _) lift,(zm (zm (zm (zm (zm (zm (zm HBX.out HLE.out) HLE.out) HLE.out) HLE.out) HLE.out) HLE.out) HLE.out)⟩
def zaD.p (s : ByteArray) (x : S39) : Bool := decide (x.f0 = s)
set_option maxHeartbeats 4000000 in
set_option maxRecDepth 100000 in
theorem zaD.odd (s : ByteArray) (x0 : ByteArray) (x1 x2 : Int) (A3 : Option Addr) (n3 c3 : Nat) (A4 : Option Addr) (n4 c4 : Nat) (x5 x6 : Int) (g : Nat) (w : World) (hg : w.heap[g]? = some (.cells #[.string s] 9 (0,0))) :
  Calls Tryz.prog 32 #[.agg #[.string x0,.int .i64 x1,.int .i64 x2,.slice A3 n3 c3,.slice A4 n4 c4,.int .i64 x5,.int .i64 x6],.pointer (some ⟨g,0,none⟩)] w fun e w' => e = .returned (.bool (decide (x0 = s))) ∧ Below w.heap.size w w' := by
 have Hg := za.mk hg
 clear hg
 go_enter Tryz.func32,Tryz.ntmps32
 go_wp2_with ((with_reducible refine zq (N := 2) rfl ?_);refine zn rfl (N := 2) rfl (cs := #[.string x0,.int .i64 x1,.int .i64 x2,.slice A3 n3 c3,.slice A4 n4 c4,.int .i64 x5,.int .i64 x6]) (t := 39) hrq ?_;intro gb hg w2 hbox hb;have BK := za.mk hbox;have HB := za.mk hb;have Ng := za.mk (zo Hg.out hb);have z_0 := (zb BK.out 0).trans rfl;have zf_0 := zc BK.out 0;have z_1 := (zb BK.out 1).trans rfl;have zf_1 := zc BK.out 1;have z_2 := (zb BK.out 2).trans rfl;have zf_2 := zc BK.out 2;have z_3 := (zb BK.out 3).trans rfl;have zf_3 := zc BK.out 3;have z_4 := (zb BK.out 4).trans rfl;have zf_4 := zc BK.out 4;have z_5 := (zb BK.out 5).trans rfl;have zf_5 := zc BK.out 5;have z_6 := (zb BK.out 6).trans rfl;have zf_6 := zc BK.out 6;have zg_0 := (zb Ng.out 0).trans rfl;have zgf_0 := zc Ng.out 0;clear hb hbox hg)
 go_ret
 exact ⟨by rw [← zb1];rfl,HB.out⟩
set_option maxHeartbeats 4000000 in
set_option maxRecDepth 100000 in
theorem zaD.idx (s : ByteArray) (g : Nat) (A : Option Addr) (c : Nat) (l : List S39) (w : World) (hr : Kd.C k39 w A l.length l) (hg : w.heap[g]? = some (.cells #[.string s] 9 (0,0))) :
  Calls Tryz.prog 15 #[.slice A l.length c,.func (.func 32) #[] #[.pointer (some ⟨g,0,none⟩)]] w fun e w' => e = .returned (.int .i64 (zcT (zaD.p s) l)) ∧ Below w.heap.size w w' := by
 have hm := hr.2.1
 have HR := za.mk hr
 have Hg := za.mk hg
 clear hr hg
 go_enter Tryz.func15,Tryz.ntmps15
 go_wp2_with fail
 have HB0 := za.mk (Below.refl w.heap.size w)
 go_loopw [5,8] (fun v5 v8 wr => ∃ k : Nat,v8 = .int .i64 k ∧ k ≤ l.length ∧ za (∀ (j : Nat) (y : S39),j < k → l[j]? = some y → zaD.p s y = false) ∧ za (Below w.heap.size w wr)) (fun _ v8 _ => l.length - (match v8 with | .int _ q => q | _ => 0).toNat)
 case atStart => exact ⟨0,rfl,Nat.zero_le _,⟨fun j y hj => absurd hj (Nat.not_lt_zero _)⟩,⟨by repeat (first | (with_reducible first | exact HB0.out | apply zl | apply zi | apply zp) | exact HB0.out)⟩⟩
 case round =>
  obtain ⟨k,rfl,hk,HF,HB⟩ := hrel
  by_cases hlt : k < l.length
  ·obtain ⟨ad,A3,c3,A4,c4,rfl,hx0,hx1,hx2,hx3,hx4,hx5,hx6,_,_,_,_⟩ := zbe HR.out (k : Int) (by omega) (by omega)
   replace hx0 := (HB.out.cell (World.block_lt_of_cell? w _ hx0)).trans hx0
   replace hx1 := (HB.out.cell (World.block_lt_of_cell? w _ hx1)).trans hx1
   replace hx2 := (HB.out.cell (World.block_lt_of_cell? w _ hx2)).trans hx2
   replace hx3 := (HB.out.cell (World.block_lt_of_cell? w _ hx3)).trans hx3
   replace hx4 := (HB.out.cell (World.block_lt_of_cell? w _ hx4)).trans hx4
   replace hx5 := (HB.out.cell (World.block_lt_of_cell? w _ hx5)).trans hx5
   replace hx6 := (HB.out.cell (World.block_lt_of_cell? w _ hx6)).trans hx6
   rw [Int.toNat_natCast] at hx0 hx1 hx2 hx3 hx4 hx5 hx6
   have hb : decide (k < l.length) = true := decide_eq_true hlt
   have hx : l[k]? = some (zd l (k : Int)) := by
    rw [zd,Int.toNat_natCast,List.getD_eq_getElem?_getD,List.getElem?_eq_getElem hlt];rfl
   have HX := za.mk hx
   have Ng := za.mk (zo Hg.out HB.out)
   clear hx
   generalize zd l (k : Int) = s at *
   obtain ⟨s0,⟨s1,s2,s3,s4,⟨s5,s6⟩⟩⟩ := s
   rcases ho : zaD.p s ⟨s0,⟨s1,s2,s3,s4,⟨s5,s6⟩⟩⟩ with _ | _
   ·have HO := za.mk ho
    clear ho
    go_wp2_with (go_at_call 32;(with_reducible refine (zaD.odd s s0 s1 s2 _ _ _ _ _ _ s5 s6 g _ Ng.out).mono ?_);rintro e w1 ⟨rfl,hb1⟩;rw [show (decide (s0 = s)) = _ from HO.out];have HB1 := za.mk (ze HB.out hb1);clear hb1)
    go_roundw
    case rel =>
     refine ⟨k + 1,by go_num,by omega,⟨fun j y hj hy => ?_⟩,HB1⟩
     rcases Nat.lt_succ_iff_lt_or_eq.1 hj with h | h
     ·exact HF.out j y h hy
     ·subst h
      rw [HX.out] at hy
      injection hy with hy
      subst hy
      exact HO.out
    case measure => simp;omega
   ·have HO := za.mk ho
    clear ho
    go_wp2_with (go_at_call 32;(with_reducible refine (zaD.odd s s0 s1 s2 _ _ _ _ _ _ s5 s6 g _ Ng.out).mono ?_);rintro e w1 ⟨rfl,hb1⟩;rw [show (decide (s0 = s)) = _ from HO.out];have HB1 := za.mk (ze HB.out hb1);clear hb1)
    go_ret
    exact ⟨by rw [zcU HX.out HO.out HF.out];rfl,HB1.out⟩
  ·obtain rfl : k = l.length := by omega
   go_wp2_with fail
   go_ret
   exact ⟨by rw [zcJ (fun j y hy => HF.out j y (List.getElem?_eq_some_iff.1 hy).1 hy)];rfl,HB.out⟩
set_option maxHeartbeats 4000000 in
set_option maxRecDepth 100000 in
theorem zaD.first (s : ByteArray) (g : Nat) (a0_0 : Int) (a0_1 : Int) (P0_2_ : Nat → Prop) (A0_2 : Option Addr) (c0_2 : Nat) (l0_2 : List (S39)) (r1 : ByteArray) (r2 : Int) (r3 : Int) (r4 : List (S75)) (r5 : List ByteArray) (r6 : Int) (r7 : Int) (r8 : Bool) (w : World) (hs0_2 : Kd.V k39 39 w w.heap.size (fun k_ => P0_2_ k_) (.slice A0_2 l0_2.length c0_2) l0_2) (hg : w.heap[g]? = some (.cells #[.string s] 9 (0,0))) (hres : zgl (l0_2.find? (zaD.p s)) = (r1,r2,r3,r4,r5,r6,r7,r8)) :
  Calls Tryz.prog 31 #[.agg #[.int .i64 a0_0,.int .i64 a0_1,.slice A0_2 l0_2.length c0_2],.func (.func 32) #[] #[.pointer (some ⟨g,0,none⟩)]] w fun e w' => ∃ v3_ v4_ : Value,e = .returned (.tuple #[.agg #[.string r1,.int .i64 r2,.int .i64 r3,v3_,v4_,.int .i64 r6,.int .i64 r7],.bool r8]) ∧ Kd.V k75 75 w' w.heap.size (fun k_ => (P0_2_ k_ ∨ w.heap.size ≤ k_)) v3_ r4 ∧ Kd.V Kd.string 9 w' w.heap.size (fun k_ => (P0_2_ k_ ∨ w.heap.size ≤ k_)) v4_ r5 ∧ Below w.heap.size w w' := by
 have HS := za.mk hs0_2
 have Hg := za.mk hg
 clear hs0_2 hg
 rcases zg9 (zaD.p s) l0_2 with ⟨i,x,hi,hx,hf,hidx⟩ | ⟨hf,hidx⟩
 ·rw [hf] at hres
  obtain ⟨x0,⟨x1,x2,x3,x4,⟨x5,x6⟩⟩⟩ := x
  have HI := za.mk hidx
  obtain ⟨ad,A3,c3,A4,c4,rfl,hx0,hx1,hx2,hx3,hx4,hx5,hx6,hv3,hv4⟩ := ent_at HS.out i hi _ hx
  have HV3 := za.mk hv3
  have HV4 := za.mk hv4
  simp only [zgl,tupE,Prod.mk.injEq] at hres
  obtain ⟨rfl,rfl,rfl,rfl,rfl,rfl,rfl,rfl⟩ := hres
  have hib : decide (i < l0_2.length) = true := decide_eq_true hi
  have hi0 : decide ((i : Int) < 0) = false := decide_eq_false (by omega)
  clear hx hf hidx hv3 hv4
  go_enter Tryz.func31,Tryz.ntmps31
  go_wp2_with (first
   | ((with_reducible refine zq (N := 2) rfl ?_);refine zn rfl (N := 2) rfl (cs := #[.int .i64 a0_0,.int .i64 a0_1,.slice (some ad) l0_2.length c0_2]) (t := 26) hrq ?_;intro g2 hg w2 hbox hb;have B2 := za.mk hbox;have HB2 := za.mk hb;have Ng := za.mk (zo Hg.out hb);have z2_0 := fun o => (zb (zf B2.out o) 0).trans rfl;have z2_1 := fun o => (zb (zf B2.out o) 1).trans rfl;have z2_2 := fun o => (zb (zf B2.out o) 2).trans rfl;clear hb hbox hg)
   | (go_at_call 15;(with_reducible refine (zaD.idx s g _ _ l0_2 _ (Kd.C_below (Kd.V_reads' HS.out).2.2 (zl HB2.out _)) (zf Ng.out _)).mono ?_);rintro e w3 ⟨rfl,hb⟩;rw [HI.out];have HB3 := za.mk (ze (zl HB2.out _) hb);have B4 := za.mk (zo (zbg w2 _) hb);have B22 := za.mk (zo (zf B2.out _) hb);have HLE : za (w.heap.size ≤ w2.heap.size) := ⟨zh HB2.out⟩;clear hb;have y2_0 := (zb B22.out 0).trans rfl;have y2f_0 := zc B22.out 0;have y2_1 := (zb B22.out 1).trans rfl;have y2f_1 := zc B22.out 1;have y2_2 := (zb B22.out 2).trans rfl;have y2f_2 := zc B22.out 2;have y4_0 := (zb B4.out 0).trans rfl;have y4f_0 := zc B4.out 0;have y4_1 := (zb B4.out 1).trans rfl;have y4f_1 := zc B4.out 1;have y4_2 := (zb B4.out 2).trans rfl;have y4f_2 := zc B4.out 2;have y4_3 := (zb B4.out 3).trans rfl;have y4f_3 := zc B4.out 3;have y4_4 := (zb B4.out 4).trans rfl;have y4f_4 := zc B4.out 4;have y4_5 := (zb B4.out 5).trans rfl;have y4f_5 := zc B4.out 5;have y4_6 := (zb B4.out 6).trans rfl;have y4f_6 := zc B4.out 6;have q0 := (HB3.out.cell (World.block_lt_of_cell? w _ hx0)).trans hx0;have q1 := (HB3.out.cell (World.block_lt_of_cell? w _ hx1)).trans hx1;have q2 := (HB3.out.cell (World.block_lt_of_cell? w _ hx2)).trans hx2;have q3 := (HB3.out.cell (World.block_lt_of_cell? w _ hx3)).trans hx3;have q4 := (HB3.out.cell (World.block_lt_of_cell? w _ hx4)).trans hx4;have q5 := (HB3.out.cell (World.block_lt_of_cell? w _ hx5)).trans hx5;have q6 := (HB3.out.cell (World.block_lt_of_cell? w _ hx6)).trans hx6))
  refine bodyPost_ret (zbh rfl _ _ w2.heap.size 39 _ (0,0) _ rfl (zX (zX (zX (zX (zX (zX (zX B4.out 0 _) 1 _) 2 _) 3 _) 4 _) 5 _) 6 _) Tryz.underlying39 rfl (by kernel_rfl)) rfl ?_
  refine ⟨_,_,rfl,Kd.V_mono (Kd.V_below HV3.out ?e1) (fun _ hk => .inl hk),Kd.V_mono (Kd.V_below HV4.out ?e1) (fun _ hk => .inl hk),?e1⟩
  exact (zm (zm (zm (zm (zm (zm (zm HB3.out HLE.out) HLE.out) HLE.out) HLE.out) HLE.out) HLE.out) HLE.out)
 ·rw [hf] at hres
  have HI := za.mk hidx
  simp only [zgl,noE,Prod.mk.injEq] at hres
  obtain ⟨rfl,rfl,rfl,rfl,rfl,rfl,rfl,rfl⟩ := hres
  clear hf hidx
  go_enter Tryz.func31,Tryz.ntmps31
  go_wp2_with (first
   | ((with_reducible refine zq (N := 2) rfl ?_);refine zn rfl (N := 2) rfl (cs := #[.int .i64 a0_0,.int .i64 a0_1,.slice A0_2 l0_2.length c0_2]) (t := 26) hrq ?_;intro g2 hg w2 hbox hb;have B2 := za.mk hbox;have HB2 := za.mk hb;have Ng := za.mk (zo Hg.out hb);have z2_0 := fun o => (zb (zf B2.out o) 0).trans rfl;have z2_1 := fun o => (zb (zf B2.out o) 1).trans rfl;have z2_2 := fun o => (zb (zf B2.out o) 2).trans rfl;clear hb hbox hg)
   | (go_at_call 15;(with_reducible refine (zaD.idx s g _ _ l0_2 _ (Kd.C_below (Kd.V_reads' HS.out).2.2 (zl HB2.out _)) (zf Ng.out _)).mono ?_);rintro e w3 ⟨rfl,hb⟩;rw [HI.out];have HB3 := za.mk (ze (zl HB2.out _) hb);have B4 := za.mk (zo (zbg w2 _) hb);have B22 := za.mk (zo (zf B2.out _) hb);have HLE : za (w.heap.size ≤ w2.heap.size) := ⟨zh HB2.out⟩;clear hb;have y2_0 := (zb B22.out 0).trans rfl;have y2f_0 := zc B22.out 0;have y2_1 := (zb B22.out 1).trans rfl;have y2f_1 := zc B22.out 1;have y2_2 := (zb B22.out 2).trans rfl;have y2f_2 := zc B22.out 2;have y4_0 := (zb B4.out 0).trans rfl;have y4f_0 := zc B4.out 0;have y4_1 := (zb B4.out 1).trans rfl;have y4f_1 := zc B4.out 1;have y4_2 := (zb B4.out 2).trans rfl;have y4f_2 := zc B4.out 2;have y4_3 := (zb B4.out 3).trans rfl;have y4f_3 := zc B4.out 3;have y4_4 := (zb B4.out 4).trans rfl;have y4f_4 := zc B4.out 4;have y4_5 := (zb B4.out 5).trans rfl;have y4f_5 := zc B4.out 5;have y4_6 := (zb B4.out 6).trans rfl;have y4f_6 := zc B4.out 6))
  refine bodyPost_ret (zbh rfl _ _ w2.heap.size 39 _ (0,0) _ rfl (zX (zX (zX (zX (zX (zX (zX B4.out 0 _) 1 _) 2 _) 3 _) 4 _) 5 _) 6 _) Tryz.underlying39 rfl (by kernel_rfl)) rfl ?_
  exact ⟨_,_,rfl,Kd.V_nil _ _ _ _ _,Kd.V_nil _ _ _ _ _,(zm (zm (zm (zm (zm (zm (zm HB3.out HLE.out) HLE.out) HLE.out) HLE.out) HLE.out) HLE.out) HLE.out)⟩
def zaD.f (a0_0 : Int) (a0_1 : Int) (l0_2 : List (S39)) (a1 : ByteArray) : Option TE := some (zgl (zda l0_2 a1))
set_option maxHeartbeats 4000000 in
set_option maxRecDepth 100000 in
theorem zaD.calls (a0_0 : Int) (a0_1 : Int) (P0_2_ : Nat → Prop) (A0_2 : Option Addr) (c0_2 : Nat) (l0_2 : List (S39)) (a1 : ByteArray) (r1 : ByteArray) (r2 : Int) (r3 : Int) (r4 : List (S75)) (r5 : List ByteArray) (r6 : Int) (r7 : Int) (r8 : Bool) (w : World) (hs0_2 : Kd.V k39 39 w w.heap.size (fun k_ => P0_2_ k_) (.slice A0_2 l0_2.length c0_2) l0_2) (h : zaD.f a0_0 a0_1 l0_2 a1 = some (r1,r2,r3,r4,r5,r6,r7,r8)) :
  Calls Tryz.prog 12 #[.agg #[.int .i64 a0_0,.int .i64 a0_1,.slice A0_2 l0_2.length c0_2],.string a1] w fun e w' => ∃ v3_ v4_ : Value,e = .returned (.tuple #[.agg #[.string r1,.int .i64 r2,.int .i64 r3,v3_,v4_,.int .i64 r6,.int .i64 r7],.bool r8]) ∧ Kd.V k75 75 w' w.heap.size (fun k_ => (P0_2_ k_ ∨ w.heap.size ≤ k_)) v3_ r4 ∧ Kd.V Kd.string 9 w' w.heap.size (fun k_ => (P0_2_ k_ ∨ w.heap.size ≤ k_)) v4_ r5 ∧ Below w.heap.size w w' := by
 have HRS := za.mk (show zgl (l0_2.find? (zaD.p a1)) = (r1,r2,r3,r4,r5,r6,r7,r8) from Option.some.inj h)
 have HS := za.mk hs0_2
 clear hs0_2 h
 go_enter Tryz.func12,Tryz.ntmps12
 go_wp2_with (first
  | ((with_reducible refine zq (N := 2) rfl ?_);refine zn rfl (N := 2) rfl (cs := #[.int .i64 a0_0,.int .i64 a0_1,.slice A0_2 l0_2.length c0_2]) (t := 26) hrq ?_;intro g0 hg u0 hbox hb;have B0 := za.mk hbox;have HB0 := za.mk hb;clear hb hbox hg)
  | ((with_reducible refine zq (N := 3) rfl ?_);refine zn rfl (N := 3) rfl (cs := #[.string a1]) (t := 9) hrq ?_;intro g1 hg u1 hbox hb;have C0 := za.mk (zo B0.out hb);have HB1 := za.mk (ze HB0.out hb);have B1 := za.mk hbox;have z0_0 := fun o => (zb (zf C0.out o) 0).trans rfl;have z0_1 := fun o => (zb (zf C0.out o) 1).trans rfl;have z0_2 := fun o => (zb (zf C0.out o) 2).trans rfl;clear hb hbox hg)
  | (go_at_call 31;(with_reducible refine (zaD.first a1 g1 a0_0 a0_1 (fun k_ => P0_2_ k_ ∧ k_ < w.heap.size) A0_2 c0_2 l0_2 r1 r2 r3 r4 r5 r6 r7 r8 _ (Kd.V_map HS.out (fun _ hf => Kd.F_below (Kd.F_bound hf) (zl HB1.out _))) (zf B1.out _) HRS.out).mono ?_);rintro e w5 ⟨v3,v4,rfl,hV3,hV4,hb⟩;obtain ⟨A3,c3,rfl⟩ := Kd.V_slice hV3;obtain ⟨A4,c4,rfl⟩ := Kd.V_slice hV4;have HV3 := za.mk hV3;have HV4 := za.mk hV4;have HBX := za.mk (ze (zl HB1.out _) hb);have BX := za.mk (zo (zbg u1 _) hb);have HLE : za (w.heap.size ≤ u1.heap.size) := ⟨zh HB1.out⟩;clear hb hV3 hV4;have y_0 := (zb BX.out 0).trans rfl;have yf_0 := zc BX.out 0;have y_1 := (zb BX.out 1).trans rfl;have yf_1 := zc BX.out 1;have y_2 := (zb BX.out 2).trans rfl;have yf_2 := zc BX.out 2;have y_3 := (zb BX.out 3).trans rfl;have yf_3 := zc BX.out 3;have y_4 := (zb BX.out 4).trans rfl;have yf_4 := zc BX.out 4;have y_5 := (zb BX.out 5).trans rfl;have yf_5 := zc BX.out 5;have y_6 := (zb BX.out 6).trans rfl;have yf_6 := zc BX.out 6))
 have far : za (∀ k_,((P0_2_ k_ ∧ k_ < w.heap.size) ∨ (u1.alloc (.cells #[.string (⟨#[]⟩ : ByteArray),.int .i64 0,.int .i64 0,.slice none 0 0,.slice none 0 0,.int .i64 0,.int .i64 0] 39 (0,0))).heap.size ≤ k_) → k_ ≠ u1.heap.size) := ⟨fun k_ hk he => by
  subst he
  rcases hk with hk | hk
  ·exact Nat.lt_irrefl _ (Nat.lt_of_lt_of_le hk.2 HLE.out)
  ·exact absurd hk (by simp)⟩
 have lift : ∀ k_,((P0_2_ k_ ∧ k_ < w.heap.size) ∨ (u1.alloc (.cells #[.string (⟨#[]⟩ : ByteArray),.int .i64 0,.int .i64 0,.slice none 0 0,.slice none 0 0,.int .i64 0,.int .i64 0] 39 (0,0))).heap.size ≤ k_) → (P0_2_ k_ ∨ w.heap.size ≤ k_) := fun k_ hk => by
  rcases hk with hk | hk
  ·exact .inl hk.1
  ·exact .inr (Nat.le_trans HLE.out (Nat.le_trans (by simp) hk))
 refine bodyPost_ret (zbh rfl _ _ u1.heap.size 39 _ (0,0) _ rfl (zX (zX (zX (zX (zX (zX (zX BX.out 0 _) 1 _) 2 _) 3 _) 4 _) 5 _) 6 _) Tryz.underlying39 rfl (by kernel_rfl)) rfl ?_
 exact ⟨_,_,rfl,Kd.V_mono (Kd.V_far (p := ⟨u1.heap.size,6,none⟩) (Kd.V_far (p := ⟨u1.heap.size,5,none⟩) (Kd.V_far (p := ⟨u1.heap.size,4,none⟩) (Kd.V_far (p := ⟨u1.heap.size,3,none⟩) (Kd.V_far (p := ⟨u1.heap.size,2,none⟩) (Kd.V_far (p := ⟨u1.heap.size,1,none⟩) (Kd.V_far (p := ⟨u1.heap.size,0,none⟩) HV3.out far.out _) far.out _) far.out _) far.out _) far.out _) far.out _) far.out _) lift,Kd.V_mono (Kd.V_far (p := ⟨u1.heap.size,6,none⟩) (Kd.V_far (p := ⟨u1.heap.size,5,none⟩) (Kd.V_far (p := ⟨u1.heap.size,4,none⟩) (Kd.V_far (p := ⟨u1.heap.size,3,none⟩) (Kd.V_far (p := ⟨u1.heap.size,2,none⟩) (Kd.V_far (p := ⟨u1.heap.size,1,none⟩) (Kd.V_far (p := ⟨u1.heap.size,0,none⟩) HV4.out far.out _) far.out _) far.out _) far.out _) far.out _) far.out _) far.out _) lift,(zm (zm (zm (zm (zm (zm (zm HBX.out HLE.out) HLE.out) HLE.out) HLE.out) HLE.out) HLE.out) HLE.out)⟩
def zaM.l0 : Nat → Int → List (S39) → List (S39) → Int → Int → Option ((List (S39)))
 | 0,_,_,_,_,_ => none
 | k + 1,x1,x5,x9,x10,x11 => if x11 < x10 then (if 0 ≤ x11 then (if x11 < (x9.length : Int) then (if ((zd x9 x11).f1.f1) = x1 then (if x5.length < 1466015503701 then (zaM.l0 k x1 (x5 ++ [(⟨(zd x9 x11).f0,(⟨(zd x9 x11).f1.f0,(zd x9 x11).f1.f1,(zd x9 x11).f1.f2,(zd x9 x11).f1.f3,(⟨(zd x9 x11).f1.f4.f0,(zd x9 x11).f1.f4.f1⟩ : S33)⟩ : S35)⟩ : S39)]) x9 x10 (wrap64 (x11 + 1))) else (none)) else (zaM.l0 k x1 x5 x9 x10 (wrap64 (x11 + 1)))) else (none)) else (none)) else (some x5)
def zaM.f (k : Nat) (a0_0 : Int) (a0_1 : Int) (l0_2 : List (S39)) (a1 : Int) : Option ((List (S39))) := zaM.l0 k a1 ([] : List (S39)) l0_2 (l0_2.length : Int) 0
set_option maxHeartbeats 8000000 in
set_option maxRecDepth 100000 in
theorem zaM.calls (k : Nat) (a0_0 : Int) (a0_1 : Int) (P0_2_ : Nat → Prop) (A0_2 : Option Addr) (c0_2 : Nat) (l0_2 : List (S39)) (a1 : Int) (r : List (S39)) (w : World) (hs0_2 : Kd.V k39 39 w w.heap.size (fun k_ => P0_2_ k_) (.slice A0_2 l0_2.length c0_2) l0_2) (h : zaM.f k a0_0 a0_1 l0_2 a1 = some r) :
  Calls Tryz.prog 34 #[.agg #[.int .i64 a0_0,.int .i64 a0_1,.slice A0_2 l0_2.length c0_2],.int .i64 a1] w fun e w' => ∃ v0_ : Value,e = .returned (v0_) ∧ Kd.N k39 39 w' w.heap.size (fun k_ => (P0_2_ k_ ∨ w.heap.size ≤ k_)) v0_ r ∧ Below w.heap.size w w' := by
 have hu26 := Tryz.underlying26
 have hu39 := Tryz.underlying39
 have HO0_2 := za.mk (show Kd.V k39 39 w w.heap.size (fun k_ => (P0_2_ k_ ∨ w.heap.size ≤ k_)) (.slice A0_2 l0_2.length c0_2) l0_2 from Kd.V_mono hs0_2 (fun k_ hk => .inl hk))
 have HB := za.mk (Below.refl w.heap.size w)
 have H : (zaM.l0 k a1 ([] : List (S39)) l0_2 (l0_2.length : Int) 0) = some r := h
 clear h
 have H' := za.mk H
 clear H
 go_enter Tryz.func34,Tryz.ntmps34
 go_wp2_with (first | ((with_reducible refine zq (N := 2) rfl ?_);refine zn rfl (N := 2) rfl (cs := #[.int .i64 a0_0,.int .i64 a0_1,.slice A0_2 l0_2.length c0_2]) (t := 26) hrq ?_;intro ye hg w3 hbox hb;have n_ := haq (Kd.V_below (Kd.V_elderB (by (with_reducible repeat (first | apply Kd.V_alloc | apply Kd.V_drewN | apply Kd.V_drew));exact HO0_2.out) ye (Nat.le_of_eq hg.symm)) hb) <| haq (ze hBq hb) <| haq (hbox) <| haq ((by rw [hg];exact (zh hBq) : w.heap.size ≤ ye)) <| haq ((by rw [hg];exact (zh hBq) : w.heap.size ≤ ye)) <| trivial;clear HO0_2 HB;obtain ⟨HO0_2,HB,yf,Ya,yJ,_⟩ := n_;clear hb hbox hg;obtain ⟨hcz4_0,hcz4_1,hcz4_2,hfz4_0,hfz4_1,hfz4_2⟩ := hcq3 yf.out))
 go_loopg [5,11] k (fun kq v5 v11 w' => ∃ (x5_1 : List (S39)) (x11_1 : Int),v11 = .int .i64 x11_1 ∧ za (zaM.l0 kq a1 x5_1 l0_2 (l0_2.length : Int) x11_1 = some r) ∧ za (kq ≤ k) ∧ za (Kd.N k39 39 w' w.heap.size (fun k_ => (P0_2_ k_ ∨ w.heap.size ≤ k_) ∧ k_ ≠ ye) v5 x5_1) ∧ za (Kd.V k39 39 w' w.heap.size (fun k_ => (P0_2_ k_ ∨ w.heap.size ≤ k_) ∧ some k_ ≠ (v5 : Value).ownBlock ∧ k_ ≠ ye) (.slice A0_2 l0_2.length c0_2) l0_2) ∧ za (Kd.V k39 39 w' w.heap.size (fun k_ => (P0_2_ k_ ∨ w.heap.size ≤ k_) ∧ some k_ ≠ (v5 : Value).ownBlock ∧ k_ ≠ ye) (.slice A0_2 l0_2.length c0_2) l0_2) ∧ za (w'.heap[ye]? = some (.cells #[.int .i64 a0_0,.int .i64 a0_1,(.slice A0_2 l0_2.length c0_2)] 26 (0,0))) ∧ za (Below w.heap.size w w'))
 case atStart => exact ⟨(([] : List (S39))),(0),(hDq),H',⟨Nat.le_refl _⟩,⟨by first | exact Kd.R_nil _ _ _ _ _ | exact Kd.N_nil _ _ _ _ _ | exact Kd.V_nil _ _ _ _ _ | exact Kd.Q_nil _ _ _ _ _ | exact Kd.S_nil _ _ _ _ _⟩,⟨by (with_reducible repeat (first | apply Kd.V_alloc | apply Kd.V_drewN | apply Kd.V_drew));exact Kd.V_mono HO0_2.out (fun _ hk => ⟨hk.1,⟨(by simp [Value.ownBlock]),hk.2⟩⟩)⟩,⟨by (with_reducible repeat (first | apply Kd.V_alloc | apply Kd.V_drewN | apply Kd.V_drew));exact Kd.V_mono HO0_2.out (fun _ hk => ⟨hk.1,⟨(by simp [Value.ownBlock]),hk.2⟩⟩)⟩,⟨hGq yf.out⟩,⟨by repeat (first | (with_reducible first | exact HB.out | apply zl | apply zi | apply zp | refine zm ?_ yJ.out) | exact HB.out)⟩⟩
 case round =>
  clear H'
  try clear p2;try clear c3;try clear hcz4_0;try clear hcz4_1;try clear hcz4_2;try clear hfz4_0;try clear hfz4_1;try clear hfz4_2
  obtain ⟨x5_1,x11_1,rfl,HA,HK1,HO_5,HO_9,yb,yf,HB⟩ := hrel
  cases gk with
  | zero => exact absurd HA.out (by simp [zaM.l0])
  | succ k1 =>
   have H := HA.out
   clear HA
   simp only [zaM.l0] at H
   by_cases c5 : x11_1 < (l0_2.length : Int)
   ·rw [if_pos c5] at H
    have c5b0 : decide (x11_1 < (l0_2.length : Int)) = true := decide_eq_true c5
    clear c5
    by_cases c6 : 0 ≤ x11_1
    ·rw [if_pos c6] at H
     have c6b0 : decide (0 ≤ x11_1) = true := decide_eq_true c6
     clear c6
     by_cases c7 : x11_1 < (l0_2.length : Int)
     ·rw [if_pos c7] at H
      have c7b0 : decide (x11_1 < (l0_2.length : Int)) = true := decide_eq_true c7
      clear c7
      by_cases c8 : ((zd l0_2 x11_1).f1.f1) = a1
      ·rw [if_pos c8] at H
       have c8b0 : (((zd l0_2 x11_1).f1.f1) == a1) = true := beq_iff_eq.mpr c8
       have c8b1 : (((zd l0_2 x11_1).f1.f1) != a1) = false := bne_eq_false_iff_eq.mpr c8
       clear c8
       by_cases c9 : x5_1.length < 1466015503701
       ·rw [if_pos c9] at H
        have LMc9 := za.mk c9
        clear c9
        obtain ⟨y9,yG⟩ : ∃ y_ : List (S39),y_ = (x5_1 ++ [(⟨(zd l0_2 x11_1).f0,(⟨(zd l0_2 x11_1).f1.f0,(zd l0_2 x11_1).f1.f1,(zd l0_2 x11_1).f1.f2,(zd l0_2 x11_1).f1.f3,(⟨(zd l0_2 x11_1).f1.f4.f0,(zd l0_2 x11_1).f1.f4.f1⟩ : S33)⟩ : S35)⟩ : S39)]) := ⟨_,rfl⟩
        replace H : (zaM.l0 k1 a1 y9 l0_2 (l0_2.length : Int) (wrap64 (x11_1 + 1))) = some r := by first | (rw [yG];with_reducible exact H) | (have H2_ := (Option.bind_some _ _).symm.trans H;rw [yG];with_reducible exact H2_) | (have H2_ := (Option.bind_some _ _).symm.trans H;with_reducible exact H2_) | with_reducible exact H | (rw [yG];exact H) | exact H
        have yZ := za.mk yG
        clear yG
        have H' := za.mk H
        clear H
        have yD : 0 ≤ (x11_1 : Int) := hFq
        have yE : x11_1 < (l0_2.length : Int) := hFq
        obtain ⟨yF,yg,yi,yh,yj,yW,yN,yO,yP,yB,yC,yQ,yR,yy,yw,yz,yx⟩ := zbe (Kd.V_reads' HO_9.out).2.2 x11_1 yD yE
        cases yW
        obtain ⟨y8,yI,yH,yv⟩ := Kd.V_get HO_9.out z39 x11_1 yD (by first | exact yE | exact hFq | (have e_ := (Kd.V_reads' HO_9.out).1;omega))
        obtain ⟨yS,yU,yT,yV,rfl,yr,yp,yt,yq⟩ := zaN yH
        have ym := yv 3 _ rfl
        rw [zM _ _ 3 (by omega)] at ym
        replace ym := Option.some.inj (ym.symm.trans yB)
        injection ym with hva_ hvn_ hvc_
        rw [hva_] at yp
        rw [hvc_] at yr
        have yc := za.mk (show Kd.V k75 75 _ w.heap.size _ _ ((zd l0_2 x11_1).f1.f2) from Kd.V_mk yr yp)
        clear hva_ hvn_ hvc_ yp yr
        have yn := yv 4 _ rfl
        rw [zM _ _ 4 (by omega)] at yn
        replace yn := Option.some.inj (yn.symm.trans yC)
        injection yn with hva_ hvn_ hvc_
        rw [hva_] at yq
        rw [hvc_] at yt
        have yd := za.mk (show Kd.V Kd.string 9 _ w.heap.size _ _ ((zd l0_2 x11_1).f1.f3) from Kd.V_mk yt yq)
        clear hva_ hvn_ hvc_ yq yt
        clear yv yI
        have yk := za.mk yw
        have yL := za.mk yy
        clear yw yy
        have yl := za.mk yx
        have yM := za.mk yz
        clear yx yz
        replace yD := eq_true yD
        replace yE := eq_true yE
        go_wp2_with (first | ((with_reducible refine zq (N := 7) rfl ?_);refine zn rfl (N := 7) rfl (cs := #[.string (⟨#[]⟩ : ByteArray),.int .i64 0,.int .i64 0,.slice none 0 0,.slice none 0 0,.int .i64 0,.int .i64 0]) (t := 39) hrq ?_;intro ya hg w10 hbox hb;have n_ := haq (Kd.N_below (Kd.N_elderB (by (with_reducible repeat (first | apply Kd.N_alloc | apply Kd.N_drewN | apply Kd.N_drew));exact HO_5.out) ya (Nat.le_of_eq hg.symm)) hb) <| haq (Kd.V_below (Kd.V_elderB (by (with_reducible repeat (first | apply Kd.V_alloc | apply Kd.V_drewN | apply Kd.V_drew));exact HO_9.out) ya (Nat.le_of_eq hg.symm)) hb) <| haq (Kd.V_below (Kd.V_elderB (by (with_reducible repeat (first | apply Kd.V_alloc | apply Kd.V_drewN | apply Kd.V_drew));exact yb.out) ya (Nat.le_of_eq hg.symm)) hb) <| haq (Kd.V_below (Kd.V_elderB (by (with_reducible repeat (first | apply Kd.V_alloc | apply Kd.V_drewN | apply Kd.V_drew));exact yc.out) ya (Nat.le_of_eq hg.symm)) hb) <| haq (Kd.V_below (Kd.V_elderB (by (with_reducible repeat (first | apply Kd.V_alloc | apply Kd.V_drewN | apply Kd.V_drew));exact yd.out) ya (Nat.le_of_eq hg.symm)) hb) <| haq (hbq yf.out hb) <| haq (Kd.C_below (by repeat (first | (with_reducible exact yk.out) | (with_reducible refine Kd.C_alloc ?_ _) | (with_reducible refine Kd.C_drewN ?_ _) | (with_reducible refine Kd.C_drew ?_) | exact yk.out)) hb) <| haq (Kd.C_below (by repeat (first | (with_reducible exact yl.out) | (with_reducible refine Kd.C_alloc ?_ _) | (with_reducible refine Kd.C_drewN ?_ _) | (with_reducible refine Kd.C_drew ?_) | exact yl.out)) hb) <| haq (ze hCq hb) <| haq (hbox) <| haq ((by rw [hg];exact (zh hCq) : w.heap.size ≤ ya)) <| haq ((by rw [hg];exact (zh hCq) : w.heap.size ≤ ya)) <| haq (hnq hg yf.out) <| haq (hmq hg yf.out) <| trivial;clear HO_5 HO_9 yb yc yd yf yk yl HB;obtain ⟨HO_5,HO_9,yb,yc,yd,yf,yk,yl,HB,yu,yX,yK,yo,yA,_⟩ := n_;clear hb hbox hg;have hnb11 := yA.out;have hnc11 := yo.out;obtain ⟨hcz12_0,hcz12_1,hcz12_2,hcz12_3,hcz12_4,hcz12_5,hcz12_6,hfz12_0,hfz12_1,hfz12_2,hfz12_3,hfz12_4,hfz12_5,hfz12_6⟩ := hcq7 yu.out) | ((with_reducible refine za7 (t := 39) (p := 7) rfl ?_);refine zaW (t := 39) (p := 7) (v := _) (w1 := (((((((w10.setCell ⟨ya,0,none⟩ (.string ((zd l0_2 x11_1).f0))).setCell ⟨ya,1,none⟩ (.int .i64 ((zd l0_2 x11_1).f1.f0))).setCell ⟨ya,2,none⟩ (.int .i64 ((zd l0_2 x11_1).f1.f1))).setCell ⟨ya,3,none⟩ (.slice yg ((zd l0_2 x11_1).f1.f2).length yi)).setCell ⟨ya,4,none⟩ (.slice yh ((zd l0_2 x11_1).f1.f3).length yj)).setCell ⟨ya,5,none⟩ (.int .i64 ((zd l0_2 x11_1).f1.f4.f0))).setCell ⟨ya,6,none⟩ (.int .i64 ((zd l0_2 x11_1).f1.f4.f1)))) rfl rfl rfl hrq ?_;intro w13 hw;have n_ := haq (((by rw [hw];exact (by (with_reducible repeat (first | apply Kd.N_alloc | apply Kd.N_drewN | apply Kd.N_drew));exact Kd.N_mono (Kd.N_far (p := ⟨ya,6,none⟩) (Kd.N_far (p := ⟨ya,5,none⟩) (Kd.N_far (p := ⟨ya,4,none⟩) (Kd.N_far (p := ⟨ya,3,none⟩) (Kd.N_far (p := ⟨ya,2,none⟩) (Kd.N_far (p := ⟨ya,1,none⟩) (Kd.N_far (p := ⟨ya,0,none⟩) (Kd.N_mono HO_5.out (fun k_ hk => (⟨hk,hk.2⟩ : _ ∧ k_ ≠ ya))) (fun _ hk => hk.2) (.string ((zd l0_2 x11_1).f0))) (fun _ hk => hk.2) (.int .i64 ((zd l0_2 x11_1).f1.f0))) (fun _ hk => hk.2) (.int .i64 ((zd l0_2 x11_1).f1.f1))) (fun _ hk => hk.2) (.slice yg ((zd l0_2 x11_1).f1.f2).length yi)) (fun _ hk => hk.2) (.slice yh ((zd l0_2 x11_1).f1.f3).length yj)) (fun _ hk => hk.2) (.int .i64 ((zd l0_2 x11_1).f1.f4.f0))) (fun _ hk => hk.2) (.int .i64 ((zd l0_2 x11_1).f1.f4.f1))) (fun _ hk => ⟨hk.1.1.1,⟨hk.1.1.2,hk.1.2⟩⟩))) : Kd.N k39 39 w13 w.heap.size (fun k_ => (P0_2_ k_ ∨ w.heap.size ≤ k_) ∧ k_ ≠ ye ∧ k_ ≠ ya) u5 x5_1)) <| haq (((by rw [hw];exact (by (with_reducible repeat (first | apply Kd.V_alloc | apply Kd.V_drewN | apply Kd.V_drew));exact Kd.V_mono (Kd.V_far (p := ⟨ya,6,none⟩) (Kd.V_far (p := ⟨ya,5,none⟩) (Kd.V_far (p := ⟨ya,4,none⟩) (Kd.V_far (p := ⟨ya,3,none⟩) (Kd.V_far (p := ⟨ya,2,none⟩) (Kd.V_far (p := ⟨ya,1,none⟩) (Kd.V_far (p := ⟨ya,0,none⟩) (Kd.V_mono HO_9.out (fun k_ hk => (⟨hk,hk.2⟩ : _ ∧ k_ ≠ ya))) (fun _ hk => hk.2) (.string ((zd l0_2 x11_1).f0))) (fun _ hk => hk.2) (.int .i64 ((zd l0_2 x11_1).f1.f0))) (fun _ hk => hk.2) (.int .i64 ((zd l0_2 x11_1).f1.f1))) (fun _ hk => hk.2) (.slice yg ((zd l0_2 x11_1).f1.f2).length yi)) (fun _ hk => hk.2) (.slice yh ((zd l0_2 x11_1).f1.f3).length yj)) (fun _ hk => hk.2) (.int .i64 ((zd l0_2 x11_1).f1.f4.f0))) (fun _ hk => hk.2) (.int .i64 ((zd l0_2 x11_1).f1.f4.f1))) (fun _ hk => ⟨hk.1.1.1,⟨hk.1.1.2.1,⟨hk.1.1.2.2,hk.1.2⟩⟩⟩))) : Kd.V k39 39 w13 w.heap.size (fun k_ => (P0_2_ k_ ∨ w.heap.size ≤ k_) ∧ some k_ ≠ (u5 : Value).ownBlock ∧ k_ ≠ ye ∧ k_ ≠ ya) (.slice (some yF) l0_2.length c0_2) l0_2)) <| haq (((by rw [hw];exact (by (with_reducible repeat (first | apply Kd.V_alloc | apply Kd.V_drewN | apply Kd.V_drew));exact Kd.V_mono (Kd.V_far (p := ⟨ya,6,none⟩) (Kd.V_far (p := ⟨ya,5,none⟩) (Kd.V_far (p := ⟨ya,4,none⟩) (Kd.V_far (p := ⟨ya,3,none⟩) (Kd.V_far (p := ⟨ya,2,none⟩) (Kd.V_far (p := ⟨ya,1,none⟩) (Kd.V_far (p := ⟨ya,0,none⟩) (Kd.V_mono yb.out (fun k_ hk => (⟨hk,hk.2⟩ : _ ∧ k_ ≠ ya))) (fun _ hk => hk.2) (.string ((zd l0_2 x11_1).f0))) (fun _ hk => hk.2) (.int .i64 ((zd l0_2 x11_1).f1.f0))) (fun _ hk => hk.2) (.int .i64 ((zd l0_2 x11_1).f1.f1))) (fun _ hk => hk.2) (.slice yg ((zd l0_2 x11_1).f1.f2).length yi)) (fun _ hk => hk.2) (.slice yh ((zd l0_2 x11_1).f1.f3).length yj)) (fun _ hk => hk.2) (.int .i64 ((zd l0_2 x11_1).f1.f4.f0))) (fun _ hk => hk.2) (.int .i64 ((zd l0_2 x11_1).f1.f4.f1))) (fun _ hk => ⟨hk.1.1.1,⟨hk.1.1.2.1,⟨hk.1.1.2.2,hk.1.2⟩⟩⟩))) : Kd.V k39 39 w13 w.heap.size (fun k_ => (P0_2_ k_ ∨ w.heap.size ≤ k_) ∧ some k_ ≠ (u5 : Value).ownBlock ∧ k_ ≠ ye ∧ k_ ≠ ya) (.slice (some yF) l0_2.length c0_2) l0_2)) <| haq (((by rw [hw];exact (by (with_reducible repeat (first | apply Kd.V_alloc | apply Kd.V_drewN | apply Kd.V_drew));exact Kd.V_mono (Kd.V_far (p := ⟨ya,6,none⟩) (Kd.V_far (p := ⟨ya,5,none⟩) (Kd.V_far (p := ⟨ya,4,none⟩) (Kd.V_far (p := ⟨ya,3,none⟩) (Kd.V_far (p := ⟨ya,2,none⟩) (Kd.V_far (p := ⟨ya,1,none⟩) (Kd.V_far (p := ⟨ya,0,none⟩) (Kd.V_mono yc.out (fun k_ hk => (⟨hk,hk.2⟩ : _ ∧ k_ ≠ ya))) (fun _ hk => hk.2) (.string ((zd l0_2 x11_1).f0))) (fun _ hk => hk.2) (.int .i64 ((zd l0_2 x11_1).f1.f0))) (fun _ hk => hk.2) (.int .i64 ((zd l0_2 x11_1).f1.f1))) (fun _ hk => hk.2) (.slice yg ((zd l0_2 x11_1).f1.f2).length yi)) (fun _ hk => hk.2) (.slice yh ((zd l0_2 x11_1).f1.f3).length yj)) (fun _ hk => hk.2) (.int .i64 ((zd l0_2 x11_1).f1.f4.f0))) (fun _ hk => hk.2) (.int .i64 ((zd l0_2 x11_1).f1.f4.f1))) (fun _ hk => ⟨hk.1.1.1,⟨hk.1.1.2.1,⟨hk.1.1.2.2,hk.1.2⟩⟩⟩))) : Kd.V k75 75 w13 w.heap.size (fun k_ => (P0_2_ k_ ∨ w.heap.size ≤ k_) ∧ some k_ ≠ (u5 : Value).ownBlock ∧ k_ ≠ ye ∧ k_ ≠ ya) (.slice yg ((zd l0_2 x11_1).f1.f2).length yi) ((zd l0_2 x11_1).f1.f2))) <| haq (((by rw [hw];exact (by (with_reducible repeat (first | apply Kd.V_alloc | apply Kd.V_drewN | apply Kd.V_drew));exact Kd.V_mono (Kd.V_far (p := ⟨ya,6,none⟩) (Kd.V_far (p := ⟨ya,5,none⟩) (Kd.V_far (p := ⟨ya,4,none⟩) (Kd.V_far (p := ⟨ya,3,none⟩) (Kd.V_far (p := ⟨ya,2,none⟩) (Kd.V_far (p := ⟨ya,1,none⟩) (Kd.V_far (p := ⟨ya,0,none⟩) (Kd.V_mono yd.out (fun k_ hk => (⟨hk,hk.2⟩ : _ ∧ k_ ≠ ya))) (fun _ hk => hk.2) (.string ((zd l0_2 x11_1).f0))) (fun _ hk => hk.2) (.int .i64 ((zd l0_2 x11_1).f1.f0))) (fun _ hk => hk.2) (.int .i64 ((zd l0_2 x11_1).f1.f1))) (fun _ hk => hk.2) (.slice yg ((zd l0_2 x11_1).f1.f2).length yi)) (fun _ hk => hk.2) (.slice yh ((zd l0_2 x11_1).f1.f3).length yj)) (fun _ hk => hk.2) (.int .i64 ((zd l0_2 x11_1).f1.f4.f0))) (fun _ hk => hk.2) (.int .i64 ((zd l0_2 x11_1).f1.f4.f1))) (fun _ hk => ⟨hk.1.1.1,⟨hk.1.1.2.1,⟨hk.1.1.2.2,hk.1.2⟩⟩⟩))) : Kd.V Kd.string 9 w13 w.heap.size (fun k_ => (P0_2_ k_ ∨ w.heap.size ≤ k_) ∧ some k_ ≠ (u5 : Value).ownBlock ∧ k_ ≠ ye ∧ k_ ≠ ya) (.slice yh ((zd l0_2 x11_1).f1.f3).length yj) ((zd l0_2 x11_1).f1.f3))) <| haq (hfq hw yo.out yf.out) <| haq (((by rw [hw];exact (hxq0p yu.out)) : w13.heap[ya]? = some (.cells #[.string ((zd l0_2 x11_1).f0),.int .i64 ((zd l0_2 x11_1).f1.f0),.int .i64 ((zd l0_2 x11_1).f1.f1),.slice yg ((zd l0_2 x11_1).f1.f2).length yi,.slice yh ((zd l0_2 x11_1).f1.f3).length yj,.int .i64 ((zd l0_2 x11_1).f1.f4.f0),.int .i64 ((zd l0_2 x11_1).f1.f4.f1)] 39 (0,0)))) <| haq (((by rw [hw];exact hCq) : Below w.heap.size w w13)) <| trivial;clear hw HO_5 HO_9 yb yc yd yf yu HB;obtain ⟨HO_5,HO_9,yb,yc,yd,yf,yu,HB,_⟩ := n_;obtain ⟨hcz14_0,hcz14_1,hcz14_2,hcz14_3,hcz14_4,hcz14_5,hcz14_6,hfz14_0,hfz14_1,hfz14_2,hfz14_3,hfz14_4,hfz14_5,hfz14_6⟩ := hcq7 yu.out) | ((with_reducible refine zby (b := .append) (xs := #[.tmp 20,.tmp 22]) rfl ?_);at_builtin;refine Kd.N_append k39 (w0 := w) w.heap.size rfl (.tmp 20) (.tmp 22) 24 39 (.agg #[(.string ⟨#[]⟩),(.int .i64 0),(.int .i64 0),(.slice none 0 0),(.slice none 0 0),(.int .i64 0),(.int .i64 0)]) 96 rfl Tryz.underlying24 zdL rfl (by decide) (by omega) u5 x5_1 (⟨(zd l0_2 x11_1).f0,(⟨(zd l0_2 x11_1).f1.f0,(zd l0_2 x11_1).f1.f1,(zd l0_2 x11_1).f1.f2,(zd l0_2 x11_1).f1.f3,(⟨(zd l0_2 x11_1).f1.f4.f0,(zd l0_2 x11_1).f1.f4.f1⟩ : S33)⟩ : S35)⟩ : S39) [.string ((zd l0_2 x11_1).f0),.int .i64 ((zd l0_2 x11_1).f1.f0),.int .i64 ((zd l0_2 x11_1).f1.f1),.slice yg ((zd l0_2 x11_1).f1.f2).length yi,.slice yh ((zd l0_2 x11_1).f1.f3).length yj,.int .i64 ((zd l0_2 x11_1).f1.f4.f0),.int .i64 ((zd l0_2 x11_1).f1.f4.f1)] (fun k_ => (P0_2_ k_ ∨ w.heap.size ≤ k_) ∧ k_ ≠ ye ∧ k_ ≠ ya) (fun k_ => ((fun k_ => (P0_2_ k_ ∨ w.heap.size ≤ k_) ∧ k_ ≠ ye ∧ k_ ≠ ya)) k_ ∧ some k_ ≠ (u5 : Value).ownBlock) rfl rfl ?aP (fun _ hk => hk) ?aF ?aO ?aB ?aS ?aL ?_;(case aP => exact (zhy _ _ (⟨(zd l0_2 x11_1).f0,(⟨(zd l0_2 x11_1).f1.f0,(zd l0_2 x11_1).f1.f1,(zd l0_2 x11_1).f1.f2,(zd l0_2 x11_1).f1.f3,(⟨(zd l0_2 x11_1).f1.f4.f0,(zd l0_2 x11_1).f1.f4.f1⟩ : S33)⟩ : S35)⟩ : S39) (Kd.V_reads' (Kd.V_mono (ok' := (fun k_ => ((fun k_ => (P0_2_ k_ ∨ w.heap.size ≤ k_) ∧ k_ ≠ ye ∧ k_ ≠ ya)) k_ ∧ some k_ ≠ (u5 : Value).ownBlock)) (yc.out) (fun k_ hk => ⟨⟨hk.1,⟨hk.2.2.1,hk.2.2.2⟩⟩,hk.2.1⟩))).2.1 (Kd.V_F (Kd.V_mono (ok' := (fun k_ => ((fun k_ => (P0_2_ k_ ∨ w.heap.size ≤ k_) ∧ k_ ≠ ye ∧ k_ ≠ ya)) k_ ∧ some k_ ≠ (u5 : Value).ownBlock)) (yc.out) (fun k_ hk => ⟨⟨hk.1,⟨hk.2.2.1,hk.2.2.2⟩⟩,hk.2.1⟩))) (Kd.V_reads' (Kd.V_mono (ok' := (fun k_ => ((fun k_ => (P0_2_ k_ ∨ w.heap.size ≤ k_) ∧ k_ ≠ ye ∧ k_ ≠ ya)) k_ ∧ some k_ ≠ (u5 : Value).ownBlock)) (yd.out) (fun k_ hk => ⟨⟨hk.1,⟨hk.2.2.1,hk.2.2.2⟩⟩,hk.2.1⟩))).2.1 (Kd.V_F (Kd.V_mono (ok' := (fun k_ => ((fun k_ => (P0_2_ k_ ∨ w.heap.size ≤ k_) ∧ k_ ≠ ye ∧ k_ ≠ ya)) k_ ∧ some k_ ≠ (u5 : Value).ownBlock)) (yd.out) (fun k_ hk => ⟨⟨hk.1,⟨hk.2.2.1,hk.2.2.2⟩⟩,hk.2.1⟩)))));(case aB => exact hCq);(case aF => exact (fun k_ hk => ⟨(.inr (Nat.le_trans (zh hCq) hk)),Kd.freshB (g := ye) (o := .cells #[.int .i64 a0_0,.int .i64 a0_1,.slice (some yF) l0_2.length c0_2] 26 (0,0)) (hGq yf.out) k_ hk,Kd.freshB (g := ya) (o := .cells #[.string ((zd l0_2 x11_1).f0),.int .i64 ((zd l0_2 x11_1).f1.f0),.int .i64 ((zd l0_2 x11_1).f1.f1),.slice yg ((zd l0_2 x11_1).f1.f2).length yi,.slice yh ((zd l0_2 x11_1).f1.f3).length yj,.int .i64 ((zd l0_2 x11_1).f1.f4.f0),.int .i64 ((zd l0_2 x11_1).f1.f4.f1)] 39 (0,0)) (hGq yu.out) k_ hk⟩));(case aO => exact (by (with_reducible repeat (first | apply Kd.N_alloc | apply Kd.N_drewN | apply Kd.N_drew));exact HO_5.out));(case aS => exact (zh hCq));(case aL => have := LMc9.out;omega);intro Yb w15 ho hb hg hat;rw [← yZ.out] at ho;have n_ := haq (Kd.V_afterv (ok := (fun k_ => (P0_2_ k_ ∨ w.heap.size ≤ k_) ∧ k_ ≠ ye ∧ k_ ≠ ya)) (by (with_reducible repeat (first | apply Kd.V_alloc | apply Kd.V_drewN | apply Kd.V_drew));exact Kd.V_mono HO_9.out (fun _ hk => ⟨⟨hk.1,⟨hk.2.2.1,hk.2.2.2⟩⟩,hk.2.1⟩)) hg hat) <| haq (Kd.V_afterv (ok := (fun k_ => (P0_2_ k_ ∨ w.heap.size ≤ k_) ∧ k_ ≠ ye ∧ k_ ≠ ya)) (by (with_reducible repeat (first | apply Kd.V_alloc | apply Kd.V_drewN | apply Kd.V_drew));exact Kd.V_mono yb.out (fun _ hk => ⟨⟨hk.1,⟨hk.2.2.1,hk.2.2.2⟩⟩,hk.2.1⟩)) hg hat) <| haq (zaL (g := ye) (o := .cells #[.int .i64 a0_0,.int .i64 a0_1,.slice (some yF) l0_2.length c0_2] 26 (0,0)) (hGq yf.out) hg (Kd.N_ne HO_5.out yf.out (by decide))) <| haq (Kd.V_afterv (ok := (fun k_ => (P0_2_ k_ ∨ w.heap.size ≤ k_) ∧ k_ ≠ ye ∧ k_ ≠ ya)) (by (with_reducible repeat (first | apply Kd.V_alloc | apply Kd.V_drewN | apply Kd.V_drew));exact Kd.V_mono yc.out (fun _ hk => ⟨⟨hk.1,⟨hk.2.2.1,hk.2.2.2⟩⟩,hk.2.1⟩)) hg hat) <| haq (Kd.V_afterv (ok := (fun k_ => (P0_2_ k_ ∨ w.heap.size ≤ k_) ∧ k_ ≠ ye ∧ k_ ≠ ya)) (by (with_reducible repeat (first | apply Kd.V_alloc | apply Kd.V_drewN | apply Kd.V_drew));exact Kd.V_mono yd.out (fun _ hk => ⟨⟨hk.1,⟨hk.2.2.1,hk.2.2.2⟩⟩,hk.2.1⟩)) hg hat) <| haq (zaL (g := ya) (o := .cells #[.string ((zd l0_2 x11_1).f0),.int .i64 ((zd l0_2 x11_1).f1.f0),.int .i64 ((zd l0_2 x11_1).f1.f1),.slice yg ((zd l0_2 x11_1).f1.f2).length yi,.slice yh ((zd l0_2 x11_1).f1.f3).length yj,.int .i64 ((zd l0_2 x11_1).f1.f4.f0),.int .i64 ((zd l0_2 x11_1).f1.f4.f1)] 39 (0,0)) (hGq yu.out) hg (Kd.N_away HO_5.out (fun _ hk => hk.2.2))) <| haq (hb) <| haq (ho) <| trivial;clear HO_9 yb yf yc yd yu HB HO_5;obtain ⟨HO_9,yb,yf,yc,yd,yu,HB,yY,_⟩ := n_;clear ho hb hg hat))
        go_roundg k1
        case measure => have := HK1.out;omega
        case rel => exact ⟨(y9),(wrap64 (x11_1 + 1)),(hDq),H',⟨by have := HK1.out;omega⟩,⟨by (with_reducible repeat (first | apply Kd.N_alloc | apply Kd.N_drewN | apply Kd.N_drew));exact Kd.N_mono yY.out (fun _ hk => ⟨hk.1,hk.2.1⟩)⟩,⟨by (with_reducible repeat (first | apply Kd.V_alloc | apply Kd.V_drewN | apply Kd.V_drew));exact Kd.V_mono HO_9.out (fun _ hk => ⟨hk.1.1,⟨hk.2,hk.1.2.1⟩⟩)⟩,⟨by (with_reducible repeat (first | apply Kd.V_alloc | apply Kd.V_drewN | apply Kd.V_drew));exact Kd.V_mono yb.out (fun _ hk => ⟨hk.1.1,⟨hk.2,hk.1.2.1⟩⟩)⟩,⟨hGq yf.out⟩,⟨by repeat (first | (with_reducible first | exact HB.out | apply zl | apply zi | apply zp | refine zm ?_ yJ.out | refine zm ?_ yK.out) | exact HB.out)⟩⟩
       ·rw [if_neg c9] at H
        exact absurd H (by simp)
      ·rw [if_neg c8] at H
       have c8b0 : (((zd l0_2 x11_1).f1.f1) == a1) = false := beq_eq_false_iff_ne.mpr c8
       have c8b1 : (((zd l0_2 x11_1).f1.f1) != a1) = true := bne_iff_ne.mpr c8
       have H' := za.mk H
       clear H
       have yD : 0 ≤ (x11_1 : Int) := hFq
       have yE : x11_1 < (l0_2.length : Int) := hFq
       obtain ⟨yF,yg,yi,yh,yj,yW,yN,yO,yP,yB,yC,yQ,yR,yy,yw,yz,yx⟩ := zbe (Kd.V_reads' HO_9.out).2.2 x11_1 yD yE
       cases yW
       obtain ⟨y8,yI,yH,yv⟩ := Kd.V_get HO_9.out z39 x11_1 yD (by first | exact yE | exact hFq | (have e_ := (Kd.V_reads' HO_9.out).1;omega))
       obtain ⟨yS,yU,yT,yV,rfl,yr,yp,yt,yq⟩ := zaN yH
       have ym := yv 3 _ rfl
       rw [zM _ _ 3 (by omega)] at ym
       replace ym := Option.some.inj (ym.symm.trans yB)
       injection ym with hva_ hvn_ hvc_
       rw [hva_] at yp
       rw [hvc_] at yr
       have yc := za.mk (show Kd.V k75 75 _ w.heap.size _ _ ((zd l0_2 x11_1).f1.f2) from Kd.V_mk yr yp)
       clear hva_ hvn_ hvc_ yp yr
       have yn := yv 4 _ rfl
       rw [zM _ _ 4 (by omega)] at yn
       replace yn := Option.some.inj (yn.symm.trans yC)
       injection yn with hva_ hvn_ hvc_
       rw [hva_] at yq
       rw [hvc_] at yt
       have yd := za.mk (show Kd.V Kd.string 9 _ w.heap.size _ _ ((zd l0_2 x11_1).f1.f3) from Kd.V_mk yt yq)
       clear hva_ hvn_ hvc_ yq yt
       clear yv yI
       have yk := za.mk yw
       have yL := za.mk yy
       clear yw yy
       have yl := za.mk yx
       have yM := za.mk yz
       clear yx yz
       replace yD := eq_true yD
       replace yE := eq_true yE
       go_wp2_with (first | ((with_reducible refine zq (N := 7) rfl ?_);refine zn rfl (N := 7) rfl (cs := #[.string (⟨#[]⟩ : ByteArray),.int .i64 0,.int .i64 0,.slice none 0 0,.slice none 0 0,.int .i64 0,.int .i64 0]) (t := 39) hrq ?_;intro ya hg w16 hbox hb;have n_ := haq (Kd.N_below (Kd.N_elderB (by (with_reducible repeat (first | apply Kd.N_alloc | apply Kd.N_drewN | apply Kd.N_drew));exact HO_5.out) ya (Nat.le_of_eq hg.symm)) hb) <| haq (Kd.V_below (Kd.V_elderB (by (with_reducible repeat (first | apply Kd.V_alloc | apply Kd.V_drewN | apply Kd.V_drew));exact HO_9.out) ya (Nat.le_of_eq hg.symm)) hb) <| haq (Kd.V_below (Kd.V_elderB (by (with_reducible repeat (first | apply Kd.V_alloc | apply Kd.V_drewN | apply Kd.V_drew));exact yb.out) ya (Nat.le_of_eq hg.symm)) hb) <| haq (Kd.V_below (Kd.V_elderB (by (with_reducible repeat (first | apply Kd.V_alloc | apply Kd.V_drewN | apply Kd.V_drew));exact yc.out) ya (Nat.le_of_eq hg.symm)) hb) <| haq (Kd.V_below (Kd.V_elderB (by (with_reducible repeat (first | apply Kd.V_alloc | apply Kd.V_drewN | apply Kd.V_drew));exact yd.out) ya (Nat.le_of_eq hg.symm)) hb) <| haq (hbq yf.out hb) <| haq (Kd.C_below (by repeat (first | (with_reducible exact yk.out) | (with_reducible refine Kd.C_alloc ?_ _) | (with_reducible refine Kd.C_drewN ?_ _) | (with_reducible refine Kd.C_drew ?_) | exact yk.out)) hb) <| haq (Kd.C_below (by repeat (first | (with_reducible exact yl.out) | (with_reducible refine Kd.C_alloc ?_ _) | (with_reducible refine Kd.C_drewN ?_ _) | (with_reducible refine Kd.C_drew ?_) | exact yl.out)) hb) <| haq (ze hCq hb) <| haq (hbox) <| haq ((by rw [hg];exact (zh hCq) : w.heap.size ≤ ya)) <| haq ((by rw [hg];exact (zh hCq) : w.heap.size ≤ ya)) <| haq (hnq hg yf.out) <| haq (hmq hg yf.out) <| trivial;clear HO_5 HO_9 yb yc yd yf yk yl HB;obtain ⟨HO_5,HO_9,yb,yc,yd,yf,yk,yl,HB,yu,yX,yK,yo,yA,_⟩ := n_;clear hb hbox hg;have hnb17 := yA.out;have hnc17 := yo.out;obtain ⟨hcz18_0,hcz18_1,hcz18_2,hcz18_3,hcz18_4,hcz18_5,hcz18_6,hfz18_0,hfz18_1,hfz18_2,hfz18_3,hfz18_4,hfz18_5,hfz18_6⟩ := hcq7 yu.out))
       go_roundg k1
       case measure => have := HK1.out;omega
       case rel => exact ⟨(x5_1),(wrap64 (x11_1 + 1)),(hDq),H',⟨by have := HK1.out;omega⟩,⟨by (with_reducible repeat (first | apply Kd.N_alloc | apply Kd.N_drewN | apply Kd.N_drew));exact Kd.N_mono (Kd.N_far (p := ⟨ya,6,none⟩) (Kd.N_far (p := ⟨ya,5,none⟩) (Kd.N_far (p := ⟨ya,4,none⟩) (Kd.N_far (p := ⟨ya,3,none⟩) (Kd.N_far (p := ⟨ya,2,none⟩) (Kd.N_far (p := ⟨ya,1,none⟩) (Kd.N_far (p := ⟨ya,0,none⟩) (Kd.N_mono HO_5.out (fun k_ hk => (⟨hk,hk.2⟩ : _ ∧ k_ ≠ ya))) (fun _ hk => hk.2) (.string ((zd l0_2 x11_1).f0))) (fun _ hk => hk.2) (.int .i64 ((zd l0_2 x11_1).f1.f0))) (fun _ hk => hk.2) (.int .i64 ((zd l0_2 x11_1).f1.f1))) (fun _ hk => hk.2) (.slice yg ((zd l0_2 x11_1).f1.f2).length yi)) (fun _ hk => hk.2) (.slice yh ((zd l0_2 x11_1).f1.f3).length yj)) (fun _ hk => hk.2) (.int .i64 ((zd l0_2 x11_1).f1.f4.f0))) (fun _ hk => hk.2) (.int .i64 ((zd l0_2 x11_1).f1.f4.f1))) (fun _ hk => ⟨hk.1.1.1,hk.1.1.2⟩)⟩,⟨by (with_reducible repeat (first | apply Kd.V_alloc | apply Kd.V_drewN | apply Kd.V_drew));exact Kd.V_mono (Kd.V_far (p := ⟨ya,6,none⟩) (Kd.V_far (p := ⟨ya,5,none⟩) (Kd.V_far (p := ⟨ya,4,none⟩) (Kd.V_far (p := ⟨ya,3,none⟩) (Kd.V_far (p := ⟨ya,2,none⟩) (Kd.V_far (p := ⟨ya,1,none⟩) (Kd.V_far (p := ⟨ya,0,none⟩) (Kd.V_mono HO_9.out (fun k_ hk => (⟨hk,hk.2⟩ : _ ∧ k_ ≠ ya))) (fun _ hk => hk.2) (.string ((zd l0_2 x11_1).f0))) (fun _ hk => hk.2) (.int .i64 ((zd l0_2 x11_1).f1.f0))) (fun _ hk => hk.2) (.int .i64 ((zd l0_2 x11_1).f1.f1))) (fun _ hk => hk.2) (.slice yg ((zd l0_2 x11_1).f1.f2).length yi)) (fun _ hk => hk.2) (.slice yh ((zd l0_2 x11_1).f1.f3).length yj)) (fun _ hk => hk.2) (.int .i64 ((zd l0_2 x11_1).f1.f4.f0))) (fun _ hk => hk.2) (.int .i64 ((zd l0_2 x11_1).f1.f4.f1))) (fun _ hk => ⟨hk.1.1.1,⟨hk.1.1.2.1,hk.1.1.2.2⟩⟩)⟩,⟨by (with_reducible repeat (first | apply Kd.V_alloc | apply Kd.V_drewN | apply Kd.V_drew));exact Kd.V_mono (Kd.V_far (p := ⟨ya,6,none⟩) (Kd.V_far (p := ⟨ya,5,none⟩) (Kd.V_far (p := ⟨ya,4,none⟩) (Kd.V_far (p := ⟨ya,3,none⟩) (Kd.V_far (p := ⟨ya,2,none⟩) (Kd.V_far (p := ⟨ya,1,none⟩) (Kd.V_far (p := ⟨ya,0,none⟩) (Kd.V_mono yb.out (fun k_ hk => (⟨hk,hk.2⟩ : _ ∧ k_ ≠ ya))) (fun _ hk => hk.2) (.string ((zd l0_2 x11_1).f0))) (fun _ hk => hk.2) (.int .i64 ((zd l0_2 x11_1).f1.f0))) (fun _ hk => hk.2) (.int .i64 ((zd l0_2 x11_1).f1.f1))) (fun _ hk => hk.2) (.slice yg ((zd l0_2 x11_1).f1.f2).length yi)) (fun _ hk => hk.2) (.slice yh ((zd l0_2 x11_1).f1.f3).length yj)) (fun _ hk => hk.2) (.int .i64 ((zd l0_2 x11_1).f1.f4.f0))) (fun _ hk => hk.2) (.int .i64 ((zd l0_2 x11_1).f1.f4.f1))) (fun _ hk => ⟨hk.1.1.1,⟨hk.1.1.2.1,hk.1.1.2.2⟩⟩)⟩,⟨hxq1 yo.out yf.out⟩,⟨by repeat (first | (with_reducible first | exact HB.out | apply zl | apply zi | apply zp | refine zm ?_ yJ.out | refine zm ?_ yK.out) | exact HB.out)⟩⟩
     ·rw [if_neg c7] at H
      exact absurd H (by simp)
    ·rw [if_neg c6] at H
     exact absurd H (by simp)
   ·rw [if_neg c5] at H
    have c5b0 : decide (x11_1 < (l0_2.length : Int)) = false := decide_eq_false c5
    clear c5
    obtain rfl := Option.some.inj H
    go_wp2
    go_ret
    exact ⟨_,hHq,by (with_reducible repeat (first | apply Kd.N_alloc | apply Kd.N_drewN | apply Kd.N_drew));exact Kd.N_mono HO_5.out (fun _ hk => hk.1),hCq⟩
def zcx : List (ByteArray × Value) → ByteArray → Nat → Option (Nat × Value)
 | [],_,_ => none
 | p :: l,k,i => if p.1 = k then some (i,p.2) else zcx l k (i + 1)
def zdb (l : List (ByteArray × Value)) (k : ByteArray) : Option Value := (zcx l k 0).map (·.2)
theorem zdm : ∀ (l : List (ByteArray × Value)) (k : ByteArray) (i : Nat),zcx l k i = (zcx l k 0).map fun p => (p.1 + i,p.2)
 | [],_,_ => rfl
 | p :: l,k,i => by
  rw [zcx,zcx]
  split
  ·simp
  ·rw [zdm l k (i + 1),zdm l k (0 + 1),Option.map_map]
   congr 1
   funext q
   simp only [Function.comp]
   rw [Nat.zero_add,Nat.add_assoc,Nat.add_comm 1 i]
theorem zbF (p : ByteArray × Value) (l : List (ByteArray × Value)) (k : ByteArray) : zdb (p :: l) k = if p.1 = k then some p.2 else zdb l k := by
 unfold zdb
 rw [zcx]
 split
 ·rfl
 ·rw [zdm l k (0 + 1),Option.map_map];rfl
theorem zgq {l : List (ByteArray × Value)} {k : ByteArray} : ∀ {i : Nat},zcx l k i = none ↔ ∀ p ∈ l,p.1 ≠ k := by
 induction l with
 | nil => simp [zcx]
 | cons p l ih =>
  intro i
  rw [zcx]
  split
  ·rename_i h;simp [h]
  ·rename_i h;rw [ih];simp [h]
theorem zgr {l : List (ByteArray × Value)} {k : ByteArray} {i : Nat} {v : Value} (h : zcx l k 0 = some (i,v)) : l[i]? = some (k,v) := by
 induction l generalizing i with
 | nil => simp [zcx] at h
 | cons p l ih =>
  rw [zcx] at h
  split at h
  ·rename_i hk
   injection h with h
   injection h with h1 h2
   subst h1;subst h2;subst hk;rfl
  ·rw [zdm,Option.map_eq_some_iff] at h
   obtain ⟨⟨j,u⟩,hj,e⟩ := h
   injection e with e1 e2
   subst e1;subst e2
   exact ih hj
def entM (e : MapEntry) : Value × Value := (e.key,e.val)
def strM (p : ByteArray × Value) : Value × Value := (.string p.1,p.2)
theorem zcR (k : ByteArray) : ∀ (es : List MapEntry) (l : List (ByteArray × Value)) (i : Nat),es.map entM = l.map strM → Instr.findNow .string (.string k) es i = some (zcx l k i)
 | [],[],_,_ => rfl
 | [],_ :: _,_,h => by simp at h
 | _ :: _,[],_,h => by simp at h
 | e :: es,p :: l,i,h => by
  rw [List.map_cons,List.map_cons,List.cons.injEq] at h
  obtain ⟨h1,h2⟩ := h
  have ek : e.key = .string p.1 := congrArg Prod.fst h1
  have ev : e.val = p.2 := congrArg Prod.snd h1
  rw [Instr.findNow,ek,Instr.sameNow,zcx]
  by_cases hk : p.1 = k
  ·rw [if_pos hk,show (k == p.1) = true from (Go.MapKept.bytes_beq _ _).2 hk.symm]
   simp only [ev]
  ·rw [if_neg hk,show (k == p.1) = false from Bool.eq_false_iff.2 (fun e => hk ((Go.MapKept.bytes_beq _ _).1 e).symm)]
   exact zcR k es l (i + 1) h2
def zbs (W : World) (g : Nat) (F : ByteArray → Option Value) : Prop :=
 ∃ (es : Array MapEntry) (c : Nat) (l : List (ByteArray × Value)),W.heap[g]? = some (.map es c) ∧ es.toList.map entM = l.map strM ∧ (l.map (·.1)).Nodup ∧ ∀ k,zdb l k = F k
theorem zin (W : World) : zbs (W.alloc (.map #[] 0)) W.heap.size (fun _ => none) := ⟨#[],0,[],heap_alloc_new W _,rfl,by simp,fun _ => rfl⟩
theorem zfk {W W' : World} {g : Nat} {F : ByteArray → Option Value} (h : zbs W g F) (hm : W'.heap[g]? = W.heap[g]?) : zbs W' g F := by
 obtain ⟨es,c,l,h1,h2⟩ := h
 exact ⟨es,c,l,hm.trans h1,h2⟩
theorem zbz {W : World} {g : Nat} {F : ByteArray → Option Value} (h : zbs W g F) : g < W.heap.size := by
 obtain ⟨es,c,l,h1,_⟩ := h
 exact (Array.getElem?_eq_some_iff.1 h1).1
theorem za8 {W W' : World} {g : Nat} {F : ByteArray → Option Value} (h : zbs W g F) (hb : Below W.heap.size W W') : zbs W' g F := zfk h (hb.block g (zbz h))
theorem ziW {W : World} {g : Nat} {F : ByteArray → Option Value} (h : zbs W g F) (o : Obj) : zbs (W.alloc o) g F := za8 h (Below.alloc (Below.refl _ _) (Nat.le_refl _) o)
theorem ziX {W W' : World} {g : Nat} {F : ByteArray → Option Value} (h : zbs W g F) {row : Option Nat} (hg : W.grownBy W' row) (hr : some g ≠ row) : zbs W' g F := zfk h (hg.block g (zbz h) hr)
theorem zbY {W : World} {g : Nat} {F F' : ByteArray → Option Value} (h : zbs W g F) (e : ∀ k,F k = F' k) : zbs W g F' := by
 obtain ⟨es,c,l,h1,h2,h3,h4⟩ := h
 exact ⟨es,c,l,h1,h2,h3,fun k => (h4 k).trans (e k)⟩
section
variable {P : Program} {w : World} {t k e : TypeId} {g : Nat} {F : ByteArray → Option Value}
theorem zb9 (s : ByteArray) : Go.MapKept.IsKey .string (.string s) := by simp [Go.MapKept.IsKey]
theorem mapF_look (h : zbs w g F) (ht : P.underlying t = some (.map k e)) (hk : P.underlying k = some .string) {z : Value} (hz : (zeroValue e).run P w = .ok z w) (s : ByteArray) :
  (Instr.lookup t (.map (some g)) (.string s) false).run P w = .ok ((F s).getD z) w := by
 obtain ⟨es,c,l,h1,h2,h3,h4⟩ := h
 have hf := zcR s es.toList l 0 h2
 rw [← h4 s]
 unfold zdb
 rcases hl : zcx l s 0 with _ | ⟨i,v⟩
 ·rw [hl] at hf
  simp [Instr.lookup,run_underlying ht,Go.MapKept.run_getObj_map h1,Go.MapKept.run_checkKey hk (zb9 s),Go.MapKept.run_findKey hk hf,hz,Result.andThen]
 ·rw [hl] at hf
  simp [Instr.lookup,run_underlying ht,Go.MapKept.run_getObj_map h1,Go.MapKept.run_checkKey hk (zb9 s),Go.MapKept.run_findKey hk hf,hz,Result.andThen]
theorem mapF_look2 (h : zbs w g F) (ht : P.underlying t = some (.map k e)) (hk : P.underlying k = some .string) {z : Value} (hz : (zeroValue e).run P w = .ok z w) (s : ByteArray) :
  (Instr.lookup t (.map (some g)) (.string s) true).run P w = .ok (.tuple #[(F s).getD z,.bool (F s).isSome]) w := by
 obtain ⟨es,c,l,h1,h2,h3,h4⟩ := h
 have hf := zcR s es.toList l 0 h2
 rw [← h4 s]
 unfold zdb
 rcases hl : zcx l s 0 with _ | ⟨i,v⟩
 ·rw [hl] at hf
  simp [Instr.lookup,run_underlying ht,Go.MapKept.run_getObj_map h1,Go.MapKept.run_checkKey hk (zb9 s),Go.MapKept.run_findKey hk hf,hz,Result.andThen]
 ·rw [hl] at hf
  simp [Instr.lookup,run_underlying ht,Go.MapKept.run_getObj_map h1,Go.MapKept.run_checkKey hk (zb9 s),Go.MapKept.run_findKey hk hf,hz,Result.andThen]
theorem zeo {w : World} {g : Nat} {o : Obj} (hb : w.heap[g]? = some o) (o' : Obj) : w.grownBy { w with heap := w.heap.setIfInBounds g o' } (some g) :=
 ⟨rfl,rfl,rfl,by simp,fun i _ hi => (Go.MapKept.heap_set (o' := o') hb).2 i (fun e => hi (by rw [e]))⟩
theorem zhA (l : List (ByteArray × Value)) (s : ByteArray) (v : Value) (hn : ∀ p ∈ l,p.1 ≠ s) (x : ByteArray) : zdb (l ++ [(s,v)]) x = if x = s then some v else zdb l x := by
 induction l with
 | nil =>
  rw [List.nil_append,zbF]
  by_cases h : s = x
  ·rw [if_pos h,if_pos h.symm]
  ·rw [if_neg h,if_neg (fun e => h e.symm)]
 | cons p l ih =>
  rw [List.cons_append,zbF,zbF,ih (fun q hq => hn q (List.mem_cons_of_mem _ hq))]
  by_cases h : p.1 = x
  ·have : x ≠ s := fun e => hn p List.mem_cons_self (h.trans e)
   rw [if_pos h,if_neg this,if_pos h]
  ·rw [if_neg h,if_neg h]
theorem lookL_set (l : List (ByteArray × Value)) (hd : (l.map (·.1)).Nodup) (i : Nat) (s : ByteArray) (v0 v : Value) (hi : l[i]? = some (s,v0)) (x : ByteArray) : zdb (l.set i (s,v)) x = if x = s then some v else zdb l x := by
 induction l generalizing i with
 | nil => simp at hi
 | cons p l ih =>
  rw [List.map_cons,List.nodup_cons] at hd
  cases i with
  | zero =>
   rw [List.getElem?_cons_zero] at hi
   injection hi with hi
   subst hi
   rw [List.set_cons_zero,zbF,zbF]
   by_cases h : s = x
   ·rw [if_pos h,if_pos h.symm]
   ·rw [if_neg h,if_neg (fun e => h e.symm),if_neg h]
  | succ i =>
   rw [List.getElem?_cons_succ] at hi
   rw [List.set_cons_succ,zbF,zbF,ih hd.2 i hi]
   by_cases h : p.1 = x
   ·have : x ≠ s := fun e => hd.1 (List.mem_map.2 ⟨(s,v0),List.mem_of_getElem? hi,(h.trans e).symm⟩)
    rw [if_pos h,if_neg this,if_pos h]
   ·rw [if_neg h,if_neg h]
theorem zim (l : List (ByteArray × Value)) (hd : (l.map (·.1)).Nodup) (i : Nat) (s : ByteArray) (v0 : Value) (hi : l[i]? = some (s,v0)) (x : ByteArray) : zdb (l.eraseIdx i) x = if x = s then none else zdb l x := by
 induction l generalizing i with
 | nil => simp at hi
 | cons p l ih =>
  rw [List.map_cons,List.nodup_cons] at hd
  cases i with
  | zero =>
   rw [List.getElem?_cons_zero] at hi
   injection hi with hi
   subst hi
   rw [List.eraseIdx_cons_zero,zbF]
   by_cases h : x = s
   ·subst h
    rw [if_pos rfl]
    unfold zdb
    rw [zgq.2 (fun q hq e => hd.1 (List.mem_map.2 ⟨q,hq,e⟩))];rfl
   ·rw [if_neg h,if_neg (fun e => h e.symm)]
  | succ i =>
   rw [List.getElem?_cons_succ] at hi
   rw [List.eraseIdx_cons_succ,zbF,zbF,ih hd.2 i hi]
   by_cases h : p.1 = x
   ·have : x ≠ s := fun e => hd.1 (List.mem_map.2 ⟨(s,v0),List.mem_of_getElem? hi,(h.trans e).symm⟩)
    rw [if_pos h,if_neg this,if_pos h]
   ·rw [if_neg h,if_neg h]
theorem zep {α β : Type} (f : α → β) : ∀ (l : List α) (i : Nat),(l.eraseIdx i).map f = (l.map f).eraseIdx i
 | [],_ => by simp
 | _ :: _,0 => rfl
 | a :: l,i + 1 => by rw [List.eraseIdx_cons_succ,List.map_cons,List.map_cons,List.eraseIdx_cons_succ,zep f l i]
theorem zgt {l : List (ByteArray × Value)} (hd : (l.map (·.1)).Nodup) {i : Nat} {s : ByteArray} {v0 v : Value} (hi : l[i]? = some (s,v0)) : ((l.set i (s,v)).map (·.1)).Nodup := by
 have : (l.set i (s,v)).map (·.1) = l.map (·.1) := by
  rw [List.map_set]
  apply List.ext_getElem?
  intro j
  rw [List.getElem?_set]
  split
  ·rename_i e
   subst e
   rw [List.getElem?_map,hi]
   split
   ·rfl
   ·rename_i h
    have := (List.getElem?_eq_some_iff.1 hi).1
    simp at h;omega
  ·rfl
 rw [this];exact hd
theorem zio (h : zbs w g F) (ht : P.underlying t = some (.map k e)) (hk : P.underlying k = some .string) (s : ByteArray) (v : Value) :
  ∃ w',(Instr.mapUpdate t (.map (some g)) (.string s) v).run P w = .ok () w' ∧ zbs w' g (fun x => if x = s then some v else F x) ∧ w.grownBy w' (some g) := by
 obtain ⟨es,c,l,h1,h2,h3,h4⟩ := h
 have hf := zcR s es.toList l 0 h2
 rcases hl : zcx l s 0 with _ | ⟨i,v0⟩
 ·rw [hl] at hf
  have hn := zgq.1 hl
  refine ⟨_,by simp [Instr.mapUpdate,run_underlying ht,Go.MapKept.run_getObj_map h1,Go.MapKept.run_checkKey hk (zb9 s),Go.MapKept.run_findKey hk hf,Go.MapKept.run_setObj_map _ h1,Result.andThen];rfl,⟨_,_,l ++ [(s,v)],(Go.MapKept.heap_set h1).1,?_,?_,fun x => ?_⟩,zeo h1 _⟩
  ·rw [Array.toList_push,List.map_append,List.map_append,h2];rfl
  ·rw [List.map_append,List.nodup_append]
   refine ⟨h3,by simp,?_⟩
   intro a ha b hb
   obtain ⟨q,hq,rfl⟩ := List.mem_map.1 ha
   simp at hb
   subst hb
   exact hn q hq
  ·rw [zhA l s v hn x,h4]
 ·rw [hl] at hf
  have hi := zgr hl
  have hie : es.toList[i]? = some (es.toList[i]?.getD default) ∧ entM (es.toList[i]?.getD default) = strM (s,v0) := by
   have hm : (es.toList.map entM)[i]? = (l.map strM)[i]? := by rw [h2]
   rw [List.getElem?_map,List.getElem?_map,hi] at hm
   rcases he : es.toList[i]? with _ | e0
   ·rw [he] at hm;cases hm
   ·rw [he] at hm;exact ⟨rfl,by simpa using hm⟩
  obtain ⟨he,hv⟩ := hie
  generalize es.toList[i]?.getD default = e0 at he hv
  have he' : es[i]? = some e0 := by rw [← Array.getElem?_toList];exact he
  have hkey : e0.key = .string s := congrArg Prod.fst hv
  refine ⟨_,by simp [Instr.mapUpdate,run_underlying ht,Go.MapKept.run_getObj_map h1,Go.MapKept.run_checkKey hk (zb9 s),Go.MapKept.run_findKey hk hf,he',hkey,Go.MapKept.run_keyThatStays (zb9 s),Go.MapKept.run_setObj_map _ h1,Result.andThen];rfl,⟨_,_,l.set i (s,v),(Go.MapKept.heap_set h1).1,?_,zgt h3 hi,fun x => ?_⟩,zeo h1 _⟩
  ·apply List.ext_getElem?
   intro j
   rw [List.getElem?_map,Array.getElem?_toList,Array.getElem?_modify,List.getElem?_map,List.getElem?_set]
   have hm : (es.toList.map entM)[j]? = (l.map strM)[j]? := by rw [h2]
   rw [List.getElem?_map,List.getElem?_map,Array.getElem?_toList] at hm
   by_cases hij : i = j
   ·subst hij
    rw [he',if_pos rfl,if_pos rfl,if_pos (List.getElem?_eq_some_iff.1 hi).1];rfl
   ·rw [if_neg hij,if_neg hij];exact hm
  ·rw [lookL_set l h3 i s v0 v hi x,h4]
theorem mapF_del (h : zbs w g F) (ht : P.underlying t = some (.map k e)) (hk : P.underlying k = some .string) (ty : TypeId) (s : ByteArray) :
  ∃ w',(Builtin.delete_ #[t,k] ty #[.map (some g),.string s]).run P w = .ok (.tuple #[]) w' ∧ zbs w' g (fun x => if x = s then none else F x) ∧ w.grownBy w' (some g) := by
 obtain ⟨es,c,l,h1,h2,h3,h4⟩ := h
 have hf := zcR s es.toList l 0 h2
 rcases hl : zcx l s 0 with _ | ⟨i,v0⟩
 ·rw [hl] at hf
  refine ⟨_,by simp [Builtin.delete_,run_underlying ht,Go.MapKept.run_getObj_map h1,Go.MapKept.run_checkKey hk (zb9 s),Go.MapKept.run_findKey hk hf,Go.MapKept.run_setObj_map _ h1,Result.andThen];rfl,⟨_,_,l,(Go.MapKept.heap_set h1).1,h2,h3,fun x => ?_⟩,zeo h1 _⟩
  show zdb l x = if x = s then none else F x
  by_cases hx : x = s
  ·subst hx
   rw [if_pos rfl];unfold zdb;rw [hl];rfl
  ·rw [if_neg hx,h4]
 ·rw [hl] at hf
  have hi := zgr hl
  refine ⟨_,by simp [Builtin.delete_,run_underlying ht,Go.MapKept.run_getObj_map h1,Go.MapKept.run_checkKey hk (zb9 s),Go.MapKept.run_findKey hk hf,Go.MapKept.run_setObj_map _ h1,Result.andThen];rfl,⟨_,_,l.eraseIdx i,(Go.MapKept.heap_set h1).1,?_,?_,fun x => ?_⟩,zeo h1 _⟩
  ·rw [Array.toList_eraseIdxIfInBounds,zep,h2,zep]
  ·rw [zep];exact List.Sublist.nodup (List.eraseIdx_sublist _ _) h3
  ·rw [zim l h3 i s v0 hi x,h4]
end
theorem zcb {P : Program} (w : World) {ops : Array Oper} {rest : List Oper} {o : Oper} {a : Act} {Q : Exit → Act → World → Prop}
  (hg : o.guard = none) (m x : Operand) (t : TypeId) (hop : o.op = Op.lookup t m x false) {k e : TypeId} {g : Nat} {F : ByteArray → Option Value} (h : zbs w g F) (ht : P.underlying t = some (.map k e)) (hk : P.underlying k = some .string) {z : Value} (hz : (zeroValue e).run P w = .ok z w)
  (s : ByteArray) (hm : a.eval m = .map (some g)) (hx : a.eval x = .string s) (hK : wpList P ops Q rest (a.put o.dst ((F s).getD z)) w) : wpList P ops Q (o :: rest) a w := by
 refine wpList_plain hg fun K' hK' => ?_
 unfold Oper.wp
 simp [execOp,hop,hm,hx,mapF_look h ht hk hz s,Result.andThen]
 exact hK' _ _ hK
theorem zg5 {P : Program} (w : World) {ops : Array Oper} {rest : List Oper} {o : Oper} {a : Act} {Q : Exit → Act → World → Prop}
  (hg : o.guard = none) (m x : Operand) (t : TypeId) (hop : o.op = Op.lookup t m x true) {k e : TypeId} {g : Nat} {F : ByteArray → Option Value} (h : zbs w g F) (ht : P.underlying t = some (.map k e)) (hk : P.underlying k = some .string) {z : Value} (hz : (zeroValue e).run P w = .ok z w)
  (s : ByteArray) (hm : a.eval m = .map (some g)) (hx : a.eval x = .string s) (hK : wpList P ops Q rest (a.put o.dst (.tuple #[(F s).getD z,.bool (F s).isSome])) w) : wpList P ops Q (o :: rest) a w := by
 refine wpList_plain hg fun K' hK' => ?_
 unfold Oper.wp
 simp [execOp,hop,hm,hx,mapF_look2 h ht hk hz s,Result.andThen]
 exact hK' _ _ hK
theorem zcY {P : Program} (w : World) {ops : Array Oper} {rest : List Oper} {o : Oper} {a : Act} {Q : Exit → Act → World → Prop}
  (hg : o.guard = none) (m x v : Operand) (t : TypeId) (hop : o.op = Op.mapUpdate t m x v) {k e : TypeId} {g : Nat} {F : ByteArray → Option Value} (h : zbs w g F) (ht : P.underlying t = some (.map k e)) (hk : P.underlying k = some .string)
  (s : ByteArray) (u : Value) (hm : a.eval m = .map (some g)) (hx : a.eval x = .string s) (hv : a.eval v = u) (hK : ∀ w',zbs w' g (fun y => if y = s then some u else F y) → w.grownBy w' (some g) → wpList P ops Q rest (a.put o.dst undef) w') : wpList P ops Q (o :: rest) a w := by
 refine wpList_plain hg fun K' hK' => ?_
 obtain ⟨w',hrun,r1,r2⟩ := zio h ht hk s u
 unfold Oper.wp
 simp [execOp,hop,hm,hx,hv,hrun,Result.andThen]
 exact hK' _ _ (hK w' r1 r2)
end Go.Proofs.YtndjfdakflaggaaGreat.Px
namespace Go.Proofs.YtndjfdakflaggaaGreat.Px
open Go.RowKit Go.Proofs.YtndjfdakflaggaaGreatW.PrintWords Go.Proofs.YtndjfdakflaggaaGreatW.PrintLast Go.Proofs.YtndjfdakflaggaaGreatW.PrintMore
attribute [local go_sem] zA zC zH zI zv zw zB zD
set_option linter.unusedVariables false
set_option linter.unusedSimpArgs false
def zce (L : List Ent) (r : Int) : List Ent := L.filter fun x => decide (x.f1.f1 = r)
theorem zfC (x : Ent) (L : List Ent) (r : Int) : zce (x :: L) r = if x.f1.f1 = r then x :: zce L r else zce L r := by
 unfold zce;rw [List.filter_cons];simp
theorem rdE_at (L : List Ent) (j : Nat) (h : j < L.length) : zd L (j : Int) = L[j] := by
 rw [zd,Int.toNat_natCast,List.getD_eq_getElem?_getD,List.getElem?_eq_getElem h];rfl
theorem zib (L : List Ent) (r : Int) (hl : L.length < 1466015503701) (d : Nat) : ∀ (j : Nat) (acc : List Ent),j + d = L.length → acc.length ≤ j → Ev (fun k => zaM.l0 k r acc L (L.length : Int) (j : Int)) (acc ++ zce (L.drop j) r) := by
 induction d with
 | zero =>
  intro j acc h ha
  refine Ev.step (fun k => by rw [zaM.l0]) ?_
  rw [List.drop_of_length_le (by omega)]
  exact zS (by omega) (zad (Ev.now _) (by simp [zce]))
 | succ d ih =>
  intro j acc h ha
  refine Ev.step (fun k => by rw [zaM.l0]) ?_
  have hlt : j < L.length := by omega
  have e2 : wrap64 ((j : Int) + 1) = ((j + 1 : Nat) : Int) := by rw [z4 (by omega) (by omega)];omega
  rw [rdE_at L j hlt,e2,List.drop_eq_getElem_cons hlt]
  refine zE (by omega) (zE (by omega) (zE (by omega) ?_))
  by_cases hb : L[j].f1.f1 = r
  ·refine zE hb (zE (by omega) (zad (ih (j + 1) (acc ++ [L[j]]) (by omega) (by rw [List.length_append];simp;omega)) ?_))
   rw [zfC,if_pos hb,List.append_assoc];rfl
  ·refine zS hb (zad (ih (j + 1) acc (by omega) (by omega)) ?_)
   rw [zfC,if_neg hb]
theorem zfA (n low : Int) (L : List Ent) (r : Int) (hl : L.length < 1466015503701) : Ev (fun k => zaM.f k n low L r) (zce L r) := by
 have := zib L r hl L.length 0 [] (by omega) (by simp)
 rwa [List.drop_zero,List.nil_append] at this
theorem zeB (L : List Ent) (r : Int) : (zce L r).length ≤ L.length := List.length_filter_le _ _
def zhx (R : List Ent) (k : Nat) (s : ByteArray) : Option Value := if (R.take k).any (fun x => decide (x.f0 = s)) = true then some (.bool true) else none
theorem hadF_zero (R : List Ent) (s : ByteArray) : none = zhx R 0 s := by simp [zhx]
theorem hadF_succ (R : List Ent) (k : Nat) (x : Ent) (hx : R[k]? = some x) (s : ByteArray) : (if s = x.f0 then some (Value.bool true) else zhx R k s) = zhx R (k + 1) s := by
 unfold zhx
 rw [List.take_add_one,hx,List.any_append]
 by_cases h : s = x.f0
 ·subst h;simp
 ·have : ¬ x.f0 = s := fun e => h e.symm
  simp [h,this]
theorem had_get (R : List Ent) (s : ByteArray) : (zhx R R.length s).getD (.bool false) = .bool (R.any fun x => decide (x.f0 = s)) := by
 unfold zhx
 rw [List.take_length]
 cases h : R.any fun x => decide (x.f0 = s) <;> simp
def zdz (R : List Ent) (ps : List ByteArray) : List ByteArray := ps.filter fun p => !(R.any fun x => decide (x.f0 = p))
theorem lostL_eq (L : List Ent) (low r : Int) (ps : List ByteArray) (h : ¬ wrap64 (r - 1) ≤ low) : zdz (zce L (wrap64 (r - 1))) ps = zbr L low r ps := by
 unfold zdz zbr zce
 rw [if_neg h]
 congr 1
 funext p
 rw [List.any_filter]
 congr 2
 funext x
 simp
theorem zag.infoS : (Tryz.prog.info? 9).map (fun i => (i.zero,i.size,i.bytes)) = some (some (.string ⟨#[]⟩),1,16) := by kernel_rfl
theorem zag.zeroB : ∀ w : World,(zeroValue 4).run Tryz.prog w = .ok (.bool false) w := fun _ => by kernel_rfl
set_option maxHeartbeats 8000000 in
set_option maxRecDepth 100000 in
theorem zag.walk0 (a0_0 : Int) (a0_1 : Int) (A0_2 : Option Addr) (n0_2 c0_2 : Nat) (a1_0 : Int) (a1_1 : Int) (A1_2 : Option Addr) (n1_2 c1_2 : Nat) (A1_3 : Option Addr) (n1_3 c1_3 : Nat) (a1_4 : Int) (a1_5 : Int) (w : World) (h : wrap64 (a1_1 - 1) ≤ a0_1) :
  Calls Tryz.prog 14 #[.agg #[.int .i64 a0_0,.int .i64 a0_1,.slice A0_2 n0_2 c0_2],.agg #[.int .i64 a1_0,.int .i64 a1_1,.slice A1_2 n1_2 c1_2,.slice A1_3 n1_3 c1_3,.int .i64 a1_4,.int .i64 a1_5]] w fun e w' => e = .returned (.slice none 0 0) ∧ Below w.heap.size w w' := by
 have hd : decide (wrap64 (a1_1 - 1) ≤ a0_1) = true := decide_eq_true h
 clear h
 go_enter Tryz.func14,Tryz.ntmps14
 go_wp2_with fail
 go_ret
 exact ⟨rfl,zl (zl (Below.refl _ _) _) _⟩
set_option maxHeartbeats 8000000 in
set_option maxRecDepth 100000 in
theorem zag.walk (a0_0 : Int) (a0_1 : Int) (A0_2 : Option Addr) (c0_2 : Nat) (l0_2 : List (S39)) (a1_0 : Int) (a1_1 : Int) (A1_2 : Option Addr) (n1_2 c1_2 : Nat) (A1_3 : Option Addr) (c1_3 : Nat) (l1_3 : List ByteArray) (a1_4 : Int) (a1_5 : Int) (w : World) (hr0_2 : Kd.C k39 w A0_2 l0_2.length l0_2) (hc0_2 : l0_2.length ≤ c0_2) (hr1_3 : Kd.C Kd.string w A1_3 l1_3.length l1_3) (hc1_3 : l1_3.length ≤ c1_3)
  (h : ¬ wrap64 (a1_1 - 1) ≤ a0_1) (hl : l0_2.length < 1466015503701) (hp : l1_3.length ≤ 8796093022208) :
  Calls Tryz.prog 14 #[.agg #[.int .i64 a0_0,.int .i64 a0_1,.slice A0_2 l0_2.length c0_2],.agg #[.int .i64 a1_0,.int .i64 a1_1,.slice A1_2 n1_2 c1_2,.slice A1_3 l1_3.length c1_3,.int .i64 a1_4,.int .i64 a1_5]] w fun e w' => ∃ v0_ : Value,e = .returned (v0_) ∧ Kd.R Kd.string 9 w' w.heap.size (fun _ => True) v0_ (zdz (zce l0_2 (wrap64 (a1_1 - 1))) l1_3) ∧ Below w.heap.size w w' := by
 obtain ⟨kr,hkr⟩ := (zfA a0_0 a0_1 l0_2 (wrap64 (a1_1 - 1)) hl).rounds
 have HK := za.mk hkr
 have HRL : za ((zce l0_2 (wrap64 (a1_1 - 1))).length < 1466015503701) := ⟨Nat.lt_of_le_of_lt (zeB _ _) hl⟩
 have HR := za.mk hr0_2
 have HC := za.mk hc0_2
 have HRP := za.mk hr1_3
 have HCP := za.mk hc1_3
 have HP := za.mk hp
 have hd : decide (wrap64 (a1_1 - 1) ≤ a0_1) = false := decide_eq_false h
 clear hkr hr0_2 hc0_2 hr1_3 hc1_3 h hl hp
 have HF : za (Kd.F k39 w (fun k_ => k_ < w.heap.size) A0_2 l0_2.length l0_2) := ⟨Kd.C_F zdx HR.out⟩
 generalize zce l0_2 (wrap64 (a1_1 - 1)) = R at *
 have hmm := @run_makeMap Tryz.prog
 go_enter Tryz.func14,Tryz.ntmps14
 go_wp2_with (first
  | ((with_reducible refine zq (N := 2) rfl ?_);refine zn rfl (N := 2) rfl (cs := #[.int .i64 a0_0,.int .i64 a0_1,.slice A0_2 l0_2.length c0_2]) (t := 26) hrq ?_;intro g2 hg w2 hbox hb;have B2 := za.mk hbox;have HB2 := za.mk hb;clear hb hbox hg)
  | ((with_reducible refine zq (N := 3) rfl ?_);refine zn rfl (N := 3) rfl (cs := #[.int .i64 a1_0,.int .i64 a1_1,.slice A1_2 n1_2 c1_2,.slice A1_3 l1_3.length c1_3,.int .i64 a1_4,.int .i64 a1_5]) (t := 35) hrq ?_;intro g3 hg w3 hbox hb;have B3 := za.mk hbox;have C2 := za.mk (zo B2.out hb);have HB3 := za.mk (ze HB2.out hb);clear hb hbox hg B2;have x2_0 := (zb C2.out 0).trans rfl;have x2_1 := (zb C2.out 1).trans rfl;have x2_2 := (zb C2.out 2).trans rfl;have x3_1 := (zb B3.out 1).trans rfl;have y2_0 := fun o => (zb (zf C2.out o) 0).trans rfl;have y2_1 := fun o => (zb (zf C2.out o) 1).trans rfl;have y2_2 := fun o => (zb (zf C2.out o) 2).trans rfl;have y3_1 := fun o => (zb (zf B3.out o) 1).trans rfl)
  | (go_at_call 34;(with_reducible refine (zaM.calls kr a0_0 a0_1 (fun k_ => k_ < w.heap.size) A0_2 c0_2 l0_2 _ R _ (Kd.V_mk HC.out (Kd.F_below HF.out (zl HB3.out _))) HK.out).mono ?_);rintro e w5 ⟨v22,rfl,hN,hb⟩;obtain ⟨A22,c22,rfl⟩ := Kd.N_slice hN;have HV := za.mk (Kd.N_F hN);have HB5 := za.mk (ze (zl HB3.out _) hb);have C3 := za.mk (zo (zf B3.out _) hb);have HM := za.mk (za8 (zin w3) hb);have HG0 : za (w.heap.size ≤ w3.heap.size) := ⟨zh HB3.out⟩;have HLT : za (w3.heap.size < w5.heap.size) := ⟨zbz HM.out⟩;clear hb hN))
 clear hmm x2_0 x2_1 x2_2 x3_1 y2_0 y2_1 y2_2 y3_1 hd
 have HG := za.mk (World.grownBy.refl w5 (some w3.heap.size))
 have HM0 := za.mk (zbY HM.out (hadF_zero R))
 go_loopw [24] (fun v24 wr => ∃ k : Nat,v24 = .int .i64 k ∧ k ≤ R.length ∧ za (zbs wr w3.heap.size (zhx R k)) ∧ za (w5.grownBy wr (some w3.heap.size))) (fun v24 _ => R.length - (intOf v24).toNat)
 case atStart => exact ⟨0,rfl,Nat.zero_le _,HM0,HG⟩
 case round =>
  clear HG HM0 HM
  obtain ⟨k,rfl,hk,HM,HG⟩ := hrel
  have HRI := HRL.out
  have HV1 : za (Kd.F k39 wr _ A22 R.length R) := ⟨Kd.F_grown HV.out HG.out (fun k_ hk_ he => by injection he with he;subst he;rcases hk_ with hk_ | hk_ <;> have := HG0.out <;> (try simp at hk_) <;> omega)⟩
  by_cases hlt : k < R.length
  ·obtain ⟨ad,A3,c3,A4,c4,rfl,hx0,hx1,hx2,hx3,hx4,hx5,hx6,_,_,_,_⟩ := zbe (Kd.F_now HV1.out) (k : Int) (by omega) (by omega)
   rw [Int.toNat_natCast] at hx0 hx1 hx2 hx3 hx4 hx5 hx6
   have hb : decide (k < R.length) = true := decide_eq_true hlt
   have HX : za (R[k]? = some (zd R (k : Int))) := ⟨by rw [zd,Int.toNat_natCast,List.getD_eq_getElem?_getD,List.getElem?_eq_getElem hlt];rfl⟩
   clear HV1
   generalize zd R (k : Int) = s at *
   obtain ⟨s0,⟨s1,s2,s3,s4,⟨s5,s6⟩⟩⟩ := s
   go_wp2_with (at_mapUpdate;refine zcY _ rfl _ _ _ 63 rfl (ziW HM.out _) Tryz.underlying63 Tryz.underlying9 s0 (.bool true) rfl rfl rfl ?_;intro w7 hm7 hg7;have HM7 := za.mk (zbY hm7 (hadF_succ R k _ HX.out));have HG7 := za.mk (HG.out.trans ((World.grownBy_alloc wr _ _).trans hg7));clear hm7 hg7)
   go_roundw
   case rel => exact ⟨k + 1,by go_num,by omega,HM7,HG7⟩
   case measure => simp [intOf];omega
  ·obtain rfl : k = R.length := by omega
   have hb : decide (R.length < R.length) = false := decide_eq_false hlt
   have HNE : za (some g3 ≠ some w3.heap.size) := ⟨fun he => by injection he with he;have := zav B3.out;omega⟩
   have B3r := za.mk (zaL C3.out HG.out HNE.out)
   have HBr : za (Below w.heap.size w wr) := ⟨zdf HB5.out (some w3.heap.size) (zh HB5.out) HG.out (fun k_ e_ => by injection e_ with e_;subst e_;exact HG0.out)⟩
   have z3_3 := (zb B3r.out 3).trans rfl
   have hm3 := HRP.out.2.1
   clear HV1
   go_wp2_with fail
   clear z3_3
   go_loopw [8,35] (fun v8 v35 wq => ∃ j : Nat,v35 = .int .i64 j ∧ j ≤ l1_3.length ∧ za (Kd.R Kd.string 9 wq w.heap.size (fun k_ => k_ ≠ w3.heap.size) v8 (zdz R (l1_3.take j))) ∧ za (zbs wq w3.heap.size (zhx R R.length)) ∧ za (Below w.heap.size w wq)) (fun _ v35 _ => l1_3.length - (intOf v35).toNat)
   case atStart => exact ⟨0,rfl,Nat.zero_le _,⟨Kd.R_nil _ _ _ _ _⟩,HM,HBr⟩
   case round =>
    clear HM HBr B3r HG
    obtain ⟨j,rfl,hj,HO,HM,HB⟩ := hrel
    by_cases hlt2 : j < l1_3.length
    ·obtain ⟨ad,rfl,hcell⟩ := Kd.at_string HRP.out (j : Int) (by omega) (by omega)
     rw [Int.toNat_natCast] at hcell
     replace hcell := (HB.out.cell (World.block_lt_of_cell? w _ hcell)).trans hcell
     have hb2 : decide (j < l1_3.length) = true := decide_eq_true hlt2
     have HT : za (l1_3.take (j + 1) = l1_3.take j ++ [zz ByteArray.empty l1_3 (j : Int)]) := ⟨by
      rw [zz,Int.toNat_natCast,List.getD_eq_getElem?_getD,List.getElem?_eq_getElem hlt2,List.take_add_one,List.getElem?_eq_getElem hlt2];rfl⟩
     generalize zz ByteArray.empty l1_3 (j : Int) = s at *
     rcases hq : R.any (fun x => decide (x.f0 = s)) with _ | _
     ·have HQ := za.mk hq
      clear hq
      have HLN : za (((zdz R (l1_3.take j)).length + 1) * 16 ≤ 140737488355328) := ⟨by
       have h1 : (zdz R (l1_3.take j)).length ≤ (l1_3.take j).length := List.length_filter_le _ _
       rw [List.length_take] at h1
       have := HP.out
       omega⟩
      have HL : za (zdz R (l1_3.take (j + 1)) = zdz R (l1_3.take j) ++ [s]) := ⟨by
       rw [HT.out,zdz,List.filter_append]
       show _ ++ List.filter (fun p => !R.any fun x => decide (x.f0 = p)) [s] = _
       rw [List.filter_cons,HQ.out];rfl⟩
      go_wp2_with (first
       | (at_lookup;refine zcb _ rfl _ _ 63 rfl HM.out Tryz.underlying63 Tryz.underlying9 (zag.zeroB _) s rfl rfl ?_;rw [had_get,HQ.out])
       | (at_builtin;refine Kd.R_append Kd.string (w0 := w) w.heap.size rfl (.tmp 43) (.tmp 45) 31 9 (.string ⟨#[]⟩) 16 rfl Tryz.underlying31 zag.infoS rfl (by decide) (by omega) _ (zdz R (l1_3.take j)) s [.string s] (fun k_ => k_ ≠ w3.heap.size) (fun _ => False) rfl rfl ?aP (fun _ hk => hk.elim) ?aF ?aO ?aB ?aS ?aL ?_;(case aP => exact rfl);(case aF => exact (fun k_ hk he => by subst he;have := zbz HM.out;omega));(case aO => exact HO.out);(case aB => exact HB.out);(case aS => exact (zh HB.out));(case aL => exact HLN.out);intro v3 w8 ho hb hg hat;have HO3 := za.mk ho;have HB3' := za.mk hb;have HM3 := za.mk (ziX HM.out hg (Kd.R_away HO.out (fun _ hk => hk)));clear ho hb hg hat))
      go_roundw
      case rel => exact ⟨j + 1,by go_num,by omega,⟨by rw [HL.out];exact HO3.out⟩,HM3,HB3'⟩
      case measure => simp [intOf];omega
     ·have HQ := za.mk hq
      clear hq
      have HL : za (zdz R (l1_3.take (j + 1)) = zdz R (l1_3.take j)) := ⟨by
       rw [HT.out,zdz,List.filter_append]
       show _ ++ List.filter (fun p => !R.any fun x => decide (x.f0 = p)) [s] = _
       rw [List.filter_cons,HQ.out];simp;rfl⟩
      go_wp2_with (at_lookup;refine zcb _ rfl _ _ 63 rfl HM.out Tryz.underlying63 Tryz.underlying9 (zag.zeroB _) s rfl rfl ?_;rw [had_get,HQ.out])
      go_roundw
      case rel => exact ⟨j + 1,by go_num,by omega,⟨by rw [HL.out];exact HO.out⟩,HM,HB⟩
      case measure => simp [intOf];omega
    ·obtain rfl : j = l1_3.length := by omega
     have hb2 : decide (l1_3.length < l1_3.length) = false := decide_eq_false hlt2
     go_wp2_with fail
     go_ret
     exact ⟨_,rfl,by have h_ := Kd.R_mono HO.out (fun _ _ => trivial);rwa [List.take_length] at h_,HB.out⟩
def zag.f (a0_0 : Int) (a0_1 : Int) (l0_2 : List (S39)) (a1_0 : Int) (a1_1 : Int) (l1_2 : List (S75)) (l1_3 : List ByteArray) (a1_4 : Int) (a1_5 : Int) : Option (List ByteArray) := if l0_2.length < 1466015503701 ∧ l1_3.length ≤ 8796093022208 then some (zbr l0_2 a0_1 a1_1 l1_3) else none
theorem zag.calls (a0_0 : Int) (a0_1 : Int) (A0_2 : Option Addr) (c0_2 : Nat) (l0_2 : List (S39)) (a1_0 : Int) (a1_1 : Int) (A1_2 : Option Addr) (c1_2 : Nat) (l1_2 : List (S75)) (A1_3 : Option Addr) (c1_3 : Nat) (l1_3 : List ByteArray) (a1_4 : Int) (a1_5 : Int) (r : List ByteArray) (w : World) (hr0_2 : Kd.C k39 w A0_2 l0_2.length l0_2) (hc0_2 : l0_2.length ≤ c0_2) (hr1_2 : Kd.C k75 w A1_2 l1_2.length l1_2) (hc1_2 : l1_2.length ≤ c1_2) (hr1_3 : Kd.C Kd.string w A1_3 l1_3.length l1_3) (hc1_3 : l1_3.length ≤ c1_3) (h : zag.f a0_0 a0_1 l0_2 a1_0 a1_1 l1_2 l1_3 a1_4 a1_5 = some r) :
  Calls Tryz.prog 14 #[.agg #[.int .i64 a0_0,.int .i64 a0_1,.slice A0_2 l0_2.length c0_2],.agg #[.int .i64 a1_0,.int .i64 a1_1,.slice A1_2 l1_2.length c1_2,.slice A1_3 l1_3.length c1_3,.int .i64 a1_4,.int .i64 a1_5]] w fun e w' => ∃ v0_ : Value,e = .returned (v0_) ∧ Kd.R Kd.string 9 w' w.heap.size (fun _ => True) v0_ r ∧ Below w.heap.size w w' := by
 unfold zag.f at h
 split at h
 ·rename_i hh
  obtain rfl := Option.some.inj h
  by_cases hw : wrap64 (a1_1 - 1) ≤ a0_1
  ·refine (zag.walk0 a0_0 a0_1 A0_2 _ c0_2 a1_0 a1_1 A1_2 _ c1_2 A1_3 _ c1_3 a1_4 a1_5 w hw).mono ?_
   rintro e w' ⟨rfl,hb⟩
   rw [zbr,if_pos hw]
   exact ⟨_,rfl,Kd.R_nil _ _ _ _ _,hb⟩
  ·rw [← lostL_eq _ _ _ _ hw]
   exact zag.walk a0_0 a0_1 A0_2 c0_2 l0_2 a1_0 a1_1 A1_2 _ c1_2 A1_3 c1_3 l1_3 a1_4 a1_5 w hr0_2 hc0_2 hr1_3 hc1_3 hw hh.1 hh.2
 ·cases h
end Go.Proofs.YtndjfdakflaggaaGreat.Px