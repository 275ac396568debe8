/- Part 21 of 30 of the proof of the law DagPasts: what is proved is the statement at the end of the last part; its conditions are those of the given row. -/
import Derived.Test.YtndjfdakflaggaaZDagPastsS
import Derived.Test.YtndjfdakflaggaaZDagPastsT
namespace Go.Proofs.Ytndjfdakflaggaa.Px
open Go.RowKit Go.Proofs.YtndjfdakflaggaaW.PrintWords Go.Proofs.YtndjfdakflaggaaW.PrintLast Go.Proofs.YtndjfdakflaggaaW.PrintMore
attribute [local go_sem] zt zv zA zB zq zr zu zw
set_option linter.unusedVariables false
set_option linter.unusedSimpArgs false
def zan.p (a r : Int) (B2 : Option Addr) (m2 d2 : Nat) (B3 : Option Addr) (m3 d3 : Nat) (sx sy : Int) (e : S34) : Bool := za4 a r e.f1.f0 e.f1.f1
set_option maxHeartbeats 4000000 in
set_option maxRecDepth 100000 in
theorem zan.odd (a r : Int) (B2 : Option Addr) (m2 d2 : Nat) (B3 : Option Addr) (m3 d3 : Nat) (sx sy : Int) (x0 : ByteArray) (x1 x2 : Int) (A3 : Option Addr) (n3 c3 : Nat) (A4 : Option Addr) (n4 c4 : Nat) (x5 x6 : Int) (g : Nat) (w : World) (hg : w.heap[g]? = some (.cells #[.int .i64 a,.int .i64 r,.slice B2 m2 d2,.slice B3 m3 d3,.int .i64 sx,.int .i64 sy] 32 (0,0))) :
  Calls Try.prog 35 #[.agg #[.string x0,.int .i64 x1,.int .i64 x2,.slice A3 n3 c3,.slice A4 n4 c4,.int .i64 x5,.int .i64 x6],.pointer (some ⟨g,0,none⟩)] w fun e w' => e = .returned (.bool (za4 a r x1 x2)) ∧ Below w.heap.size w w' := by
 have Hg := za.mk hg
 clear hg
 go_enter Try.func35,Try.ntmps35
 go_wp2_with (first
  | ((with_reducible refine zp (N := 2) rfl ?_);refine zn rfl (N := 2) rfl (cs := #[.string x0,.int .i64 x1,.int .i64 x2,.slice A3 n3 c3,.slice A4 n4 c4,.int .i64 x5,.int .i64 x6]) (t := 34) hrq ?_;intro gb hg w2 hbox hb;have BK := za.mk hbox;have HB := za.mk hb;have Ng := za.mk (zo Hg.out hb);have z_0 := (zb BK.out 0).trans rfl;have zf_0 := zc BK.out 0;have z_1 := (zb BK.out 1).trans rfl;have zf_1 := zc BK.out 1;have z_2 := (zb BK.out 2).trans rfl;have zf_2 := zc BK.out 2;have z_3 := (zb BK.out 3).trans rfl;have zf_3 := zc BK.out 3;have z_4 := (zb BK.out 4).trans rfl;have zf_4 := zc BK.out 4;have z_5 := (zb BK.out 5).trans rfl;have zf_5 := zc BK.out 5;have z_6 := (zb BK.out 6).trans rfl;have zf_6 := zc BK.out 6;have zg_0 := (zb Ng.out 0).trans rfl;have zgf_0 := zc Ng.out 0;have zg_1 := (zb Ng.out 1).trans rfl;have zgf_1 := zc Ng.out 1;have zg_2 := (zb Ng.out 2).trans rfl;have zgf_2 := zc Ng.out 2;have zg_3 := (zb Ng.out 3).trans rfl;have zgf_3 := zc Ng.out 3;have zg_4 := (zb Ng.out 4).trans rfl;have zgf_4 := zc Ng.out 4;have zg_5 := (zb Ng.out 5).trans rfl;have zgf_5 := zc Ng.out 5;clear hb hbox hg)
  | (go_at_call 36;(with_reducible refine (zem.walk a r _ _ _ _ _ _ sx sy x1 x2 _ _ _ _ _ _ x5 x6 _).mono ?_);rintro e w3 ⟨rfl,hb⟩;have HB3 := za.mk (zh HB.out hb);clear hb))
 go_ret
 exact ⟨rfl,HB3.out⟩
set_option maxHeartbeats 4000000 in
set_option maxRecDepth 100000 in
theorem zan.idx (a r : Int) (B2 : Option Addr) (m2 d2 : Nat) (B3 : Option Addr) (m3 d3 : Nat) (sx sy : Int) (g : Nat) (A : Option Addr) (c : Nat) (l : List S34) (w : World) (hr : Kd.C k34 w A l.length l) (hg : w.heap[g]? = some (.cells #[.int .i64 a,.int .i64 r,.slice B2 m2 d2,.slice B3 m3 d3,.int .i64 sx,.int .i64 sy] 32 (0,0))) :
  Calls Try.prog 34 #[.slice A l.length c,.func (.func 35) #[] #[.pointer (some ⟨g,0,none⟩)]] w fun e w' => e = .returned (.int .i64 (zcp (zan.p a r B2 m2 d2 B3 m3 d3 sx sy) l)) ∧ Below w.heap.size w w' := by
 have hm := hr.2.1
 have HR := za.mk hr
 have Hg := za.mk hg
 clear hr hg
 go_enter Try.func34,Try.ntmps34
 go_wp2_with fail
 have HB0 := za.mk (Below.refl w.heap.size w)
 go_loopw [5,8] (fun v5 v8 wr => ∃ k : Nat,v8 = .int .i64 k ∧ k ≤ l.length ∧ za (∀ (j : Nat) (y : S34),j < k → l[j]? = some y → zan.p a r B2 m2 d2 B3 m3 d3 sx sy y = false) ∧ za (Below w.heap.size w wr)) (fun _ v8 _ => l.length - (match v8 with | .int _ q => q | _ => 0).toNat)
 case atStart => exact ⟨0,rfl,Nat.zero_le _,⟨fun j y hj => absurd hj (Nat.not_lt_zero _)⟩,⟨by repeat (first | (with_reducible first | exact HB0.out | apply zi | apply zl | apply zx) | exact HB0.out)⟩⟩
 case round =>
  obtain ⟨k,rfl,hk,HF,HB⟩ := hrel
  by_cases hlt : k < l.length
  ·obtain ⟨ad,A3,c3,A4,c4,rfl,hx0,hx1,hx2,hx3,hx4,hx5,hx6,_,_,_,_⟩ := zai HR.out (k : Int) (by omega) (by omega)
   replace hx0 := (HB.out.cell (World.block_lt_of_cell? w _ hx0)).trans hx0
   replace hx1 := (HB.out.cell (World.block_lt_of_cell? w _ hx1)).trans hx1
   replace hx2 := (HB.out.cell (World.block_lt_of_cell? w _ hx2)).trans hx2
   replace hx3 := (HB.out.cell (World.block_lt_of_cell? w _ hx3)).trans hx3
   replace hx4 := (HB.out.cell (World.block_lt_of_cell? w _ hx4)).trans hx4
   replace hx5 := (HB.out.cell (World.block_lt_of_cell? w _ hx5)).trans hx5
   replace hx6 := (HB.out.cell (World.block_lt_of_cell? w _ hx6)).trans hx6
   rw [Int.toNat_natCast] at hx0 hx1 hx2 hx3 hx4 hx5 hx6
   have hb : decide (k < l.length) = true := decide_eq_true hlt
   have hx : l[k]? = some (zd l (k : Int)) := by
    rw [zd,Int.toNat_natCast,List.getD_eq_getElem?_getD,List.getElem?_eq_getElem hlt];rfl
   have HX := za.mk hx
   have Ng := za.mk (zo Hg.out HB.out)
   clear hx
   generalize zd l (k : Int) = s at *
   obtain ⟨s0,⟨s1,s2,s3,s4,⟨s5,s6⟩⟩⟩ := s
   rcases ho : zan.p a r B2 m2 d2 B3 m3 d3 sx sy ⟨s0,⟨s1,s2,s3,s4,⟨s5,s6⟩⟩⟩ with _ | _
   ·have HO := za.mk ho
    clear ho
    go_wp2_with (go_at_call 35;(with_reducible refine (zan.odd a r B2 m2 d2 B3 m3 d3 sx sy s0 s1 s2 _ _ _ _ _ _ s5 s6 g _ Ng.out).mono ?_);rintro e w1 ⟨rfl,hb1⟩;rw [show (za4 a r s1 s2) = _ from HO.out];have HB1 := za.mk (zh HB.out hb1);clear hb1)
    go_roundw
    case rel =>
     refine ⟨k + 1,by go_num,by omega,⟨fun j y hj hy => ?_⟩,HB1⟩
     rcases Nat.lt_succ_iff_lt_or_eq.1 hj with h | h
     ·exact HF.out j y h hy
     ·subst h
      rw [HX.out] at hy
      injection hy with hy
      subst hy
      exact HO.out
    case measure => simp;omega
   ·have HO := za.mk ho
    clear ho
    go_wp2_with (go_at_call 35;(with_reducible refine (zan.odd a r B2 m2 d2 B3 m3 d3 sx sy s0 s1 s2 _ _ _ _ _ _ s5 s6 g _ Ng.out).mono ?_);rintro e w1 ⟨rfl,hb1⟩;rw [show (za4 a r s1 s2) = _ from HO.out];have HB1 := za.mk (zh HB.out hb1);clear hb1)
    go_ret
    exact ⟨by rw [zcW HX.out HO.out HF.out];rfl,HB1.out⟩
  ·obtain rfl : k = l.length := by omega
   go_wp2_with fail
   go_ret
   exact ⟨by rw [zcX (fun j y hy => HF.out j y (List.getElem?_eq_some_iff.1 hy).1 hy)];rfl,HB.out⟩
theorem putE_idx (L : List Ent) (x : Ent) : (zcp (fun y : Ent => za4 x.f1.f0 x.f1.f1 y.f1.f0 y.f1.f1) L = -1 ∧ zet L x = L.take L.length ++ x :: L.drop L.length) ∨ ∃ i : Nat,i < L.length ∧ zcp (fun y : Ent => za4 x.f1.f0 x.f1.f1 y.f1.f0 y.f1.f1) L = i ∧ zet L x = L.take i ++ x :: L.drop i := by
 induction L with
 | nil => exact .inl ⟨rfl,rfl⟩
 | cons y L ih =>
  by_cases h : za4 x.f1.f0 x.f1.f1 y.f1.f0 y.f1.f1 = true
  ·refine .inr ⟨0,by simp,?_,?_⟩
   ·exact zcW (k := 0) (x := y) rfl h (fun j _ hj => absurd hj (Nat.not_lt_zero _))
   ·rw [zet,if_pos h];rfl
  ·have hi : zcp (fun y : Ent => za4 x.f1.f0 x.f1.f1 y.f1.f0 y.f1.f1) (y :: L) = if zcp (fun y : Ent => za4 x.f1.f0 x.f1.f1 y.f1.f0 y.f1.f1) L = -1 then -1 else zcp (fun y : Ent => za4 x.f1.f0 x.f1.f1 y.f1.f0 y.f1.f1) L + 1 := by
    unfold zcp
    rw [List.findIdx?_cons,if_neg h]
    rcases L.findIdx? (fun y : Ent => za4 x.f1.f0 x.f1.f1 y.f1.f0 y.f1.f1) with _ | i
    ·simp
    ·simp <;> omega
   rw [hi,zet,if_neg h]
   rcases ih with ⟨h1,h2⟩ | ⟨i,h1,h2,h3⟩
   ·left
    rw [if_pos h1,h2]
    exact ⟨rfl,by simp⟩
   ·right
    rw [if_neg (by omega),h2,h3]
    exact ⟨i + 1,by rw [List.length_cons];omega,by omega,rfl⟩
structure zch (w W : World) (g2 g3 g4 : Nat) (o2 o3 o4 : Obj) : Prop where
 b : Below w.heap.size w W
 c2 : W.heap[g2]? = some o2
 c3 : W.heap[g3]? = some o3
 c4 : W.heap[g4]? = some o4
theorem zch.step {w W W' : World} {g2 g3 g4 : Nat} {o2 o3 o4 : Obj} (h : zch w W g2 g3 g4 o2 o3 o4) (hb : Below W.heap.size W W') : zch w W' g2 g3 g4 o2 o3 o4 := ⟨zh h.b hb,zo h.c2 hb,zo h.c3 hb,zo h.c4 hb⟩
theorem zch.drew {w W : World} {g2 g3 g4 : Nat} {o2 o3 o4 : Obj} (h : zch w W g2 g3 g4 o2 o3 o4) : zch w W.drew g2 g3 g4 o2 o3 o4 := ⟨zx h.b,zG h.c2,zG h.c3,zG h.c4⟩
theorem zch.grown {w w8 W W' : World} {g2 g3 g4 : Nat} {o2 o3 o4 : Obj} (h8 : zch w w8 g2 g3 g4 o2 o3 o4) (h : zch w W g2 g3 g4 o2 o3 o4) {row : Option Nat} (hg : W.grownBy W' row) (hr : ∀ k,row = some k → w8.heap.size ≤ k) : zch w W' g2 g3 g4 o2 o3 o4 :=
 have n := fun {g : Nat} {o : Obj} (hc : w8.heap[g]? = some o) => show some g ≠ row from fun he => by have := hr g he.symm;have := zam hc;omega
 ⟨zcD h.b row (zj h.b) hg (fun k hk => Nat.le_trans (zj h8.b) (hr k hk)),zaJ h.c2 hg (n h8.c2),zaJ h.c3 hg (n h8.c3),zaJ h.c4 hg (n h8.c4)⟩
theorem zd0 {w0 W : World} {P : Nat → Prop} {base : Nat} {v : Value} {L : List Ent} (h : zeh w0 P W base v L) {p : Addr} (hp : p.block < base) (u : Value) : zeh w0 P (W.setCell p u) base v L := by
 obtain ⟨inner,ho,hr⟩ := h
 exact ⟨inner,zfv ho (fun k hk => Below.heap_setCell W p u k (fun e => by have := zcB ho k hk;omega)),hr⟩
theorem zil {w0 W : World} {P : Nat → Prop} {base : Nat} {v : Value} {L : List Ent} (h : zeh w0 P W base v L) : ∀ k,v.ownBlock = some k → base ≤ k := by
 obtain ⟨inner,ho,hr⟩ := h
 exact zcB ho
theorem OwnE_lt {w0 W : World} {P : Nat → Prop} {base : Nat} {v : Value} {L : List Ent} (h : zeh w0 P W base v L) : ∀ k,v.ownBlock = some k → k < W.heap.size := by
 obtain ⟨inner,ho,hr⟩ := h
 exact zgA ho
theorem zhB {w0 W W' : World} {P : Nat → Prop} {base : Nat} {v : Value} {L : List Ent} (h : zeh w0 P W base v L) (hb : Below W.heap.size W W') : zeh w0 P W' base v L := by
 obtain ⟨inner,ho,hr⟩ := h
 exact ⟨inner,zbZ ho hb,hr⟩
theorem zch.alloc {w W : World} {g2 g3 g4 : Nat} {o2 o3 o4 : Obj} (h : zch w W g2 g3 g4 o2 o3 o4) (o : Obj) : zch w (W.alloc o) g2 g3 g4 o2 o3 o4 := h.step (Below.alloc (Below.refl _ _) (Nat.le_refl _) o)
set_option maxHeartbeats 16000000 in
set_option maxRecDepth 100000 in
theorem zan.not (a0_0 : Int) (a0_1 : Int) (P0_2_ : Nat → Prop) (A0_2 : Option Addr) (c0_2 : Nat) (l0_2 : List (S34)) (a1_0 : Int) (a1_1 : Int) (P1_2_ : Nat → Prop) (A1_2 : Option Addr) (c1_2 : Nat) (l1_2 : List (S78)) (P1_3_ : Nat → Prop) (A1_3 : Option Addr) (c1_3 : Nat) (l1_3 : List ByteArray) (a1_4 : Int) (a1_5 : Int) (D : ByteArray) (e1 : Int) (fnd by_ : Bool) (lost : List ByteArray) (f1 : ByteArray) (f2 f3 : Int) (f4 : List S78) (f5 : List ByteArray) (f6 f7 : Int) (y1 : ByteArray) (y2 y3 : Int) (y4 : List S78) (y5 : List ByteArray) (y6 y7 : Int) (why : Int) (w : World) (hs0_2 : Kd.V k34 34 w w.heap.size (fun k_ => P0_2_ k_) (.slice A0_2 l0_2.length c0_2) l0_2) (hs1_2 : Kd.V k78 78 w w.heap.size (fun k_ => P1_2_ k_) (.slice A1_2 l1_2.length c1_2) l1_2) (hs1_3 : Kd.V Kd.string 9 w w.heap.size (fun k_ => P1_3_ k_) (.slice A1_3 l1_3.length c1_3) l1_3) (hD : zaL.f a1_0 a1_1 l1_2 l1_3 a1_4 a1_5 a0_0 = some (D,e1)) (hF : z9.f a0_0 a0_1 l0_2 D = some (f1,f2,f3,f4,f5,f6,f7,fnd)) (hY : za5.f a0_0 a0_1 l0_2 a1_0 a1_1 = some (y1,y2,y3,y4,y5,y6,y7,by_))
  (hM : (e1 != 0) = false → decide (a1_1 ≤ a0_1) = false → zS.f a0_0 a0_1 l0_2 a1_0 a1_1 l1_2 l1_3 a1_4 a1_5 = some lost)
  (hw : ((e1 != 0) = true ∧ why = e1) ∨ ((e1 != 0) = false ∧ decide (a1_1 ≤ a0_1) = true ∧ why = 9) ∨ ((e1 != 0) = false ∧ decide (a1_1 ≤ a0_1) = false ∧ fnd = true ∧ why = 8) ∨ ((e1 != 0) = false ∧ decide (a1_1 ≤ a0_1) = false ∧ fnd = false ∧ by_ = true ∧ why = 13) ∨ ((e1 != 0) = false ∧ decide (a1_1 ≤ a0_1) = false ∧ fnd = false ∧ by_ = false ∧ decide (0 < lost.length) = true ∧ decide ((0 : Int) < (lost.length : Int)) = true ∧ why = 11)) :
  Calls Try.prog 17 #[.agg #[.int .i64 a0_0,.int .i64 a0_1,.slice A0_2 l0_2.length c0_2],.agg #[.int .i64 a1_0,.int .i64 a1_1,.slice A1_2 l1_2.length c1_2,.slice A1_3 l1_3.length c1_3,.int .i64 a1_4,.int .i64 a1_5]] w fun e w' => e = .returned (.tuple #[.agg #[.int .i64 a0_0,.int .i64 a0_1,.slice A0_2 l0_2.length c0_2],.int .i64 why]) ∧ Below w.heap.size w w' := by
 have HS := za.mk hs0_2
 have HS2 := za.mk hs1_2
 have HS3 := za.mk hs1_3
 have HC := za.mk (Kd.V_reads' hs0_2).2.1
 have HC2 := za.mk (Kd.V_reads' hs1_2).2.1
 have HC3 := za.mk (Kd.V_reads' hs1_3).2.1
 have HD := za.mk hD
 have HF := za.mk hF
 have HY := za.mk hY
 clear hs0_2 hs1_2 hs1_3 hD hF hY
 have HM := za.mk hM
 clear hM
 rcases hw with ⟨d1,rfl⟩ | ⟨d1,d2,rfl⟩ | ⟨d1,d2,rfl,rfl⟩ | ⟨d1,d2,rfl,rfl,rfl⟩ | ⟨d1,d2,rfl,rfl,d5,d6,rfl⟩
 all_goals
  go_enter Try.func17,Try.ntmps17
  go_wp2_with (first
   | ((with_reducible refine zp (N := 2) rfl ?_);refine zn rfl (N := 2) rfl (cs := #[.int .i64 a0_0,.int .i64 a0_1,.slice A0_2 l0_2.length c0_2]) (t := 24) hrq ?_;intro g2 hg w2 hbox hb;have B2 := za.mk hbox;have HB2 := za.mk hb;have GE2 : za (w.heap.size ≤ g2) := ⟨by rw [hg];exact Nat.le_refl _⟩;clear hb hbox hg)
   | ((with_reducible refine zp (N := 3) rfl ?_);refine zn rfl (N := 3) rfl (cs := #[.int .i64 a1_0,.int .i64 a1_1,.slice A1_2 l1_2.length c1_2,.slice A1_3 l1_3.length c1_3,.int .i64 a1_4,.int .i64 a1_5]) (t := 32) hrq ?_;intro g3 hg w3 hbox hb;have M3 : za (Below w.heap.size w w3 ∧ w3.heap[g2]? = some (.cells #[.int .i64 a0_0,.int .i64 a0_1,.slice A0_2 l0_2.length c0_2] 24 (0,0)) ∧ w3.heap[g3]? = some (.cells #[.int .i64 a1_0,.int .i64 a1_1,.slice A1_2 l1_2.length c1_2,.slice A1_3 l1_3.length c1_3,.int .i64 a1_4,.int .i64 a1_5] 32 (0,0))) := ⟨zh HB2.out hb,zo B2.out hb,hbox⟩;have p0_0 := fun o => (zb (ze M3.out.2.1 o) 0).trans rfl;have p0_1 := fun o => (zb (ze M3.out.2.1 o) 1).trans rfl;have p0_2 := fun o => (zb (ze M3.out.2.1 o) 2).trans rfl;have q0_0 := fun o => (zb (ze M3.out.2.2 o) 0).trans rfl;have q0_1 := fun o => (zb (ze M3.out.2.2 o) 1).trans rfl;have q0_2 := fun o => (zb (ze M3.out.2.2 o) 2).trans rfl;have q0_3 := fun o => (zb (ze M3.out.2.2 o) 3).trans rfl;have q0_4 := fun o => (zb (ze M3.out.2.2 o) 4).trans rfl;have q0_5 := fun o => (zb (ze M3.out.2.2 o) 5).trans rfl;clear hb hbox hg)
   | (go_at_call 31;(with_reducible refine (zaL.calls a1_0 a1_1 _ _ l1_2 _ _ l1_3 a1_4 a1_5 a0_0 D _ _ (Kd.C_below (Kd.V_reads' HS2.out).2.2 (zi M3.out.1 _)) HC2.out (Kd.C_below (Kd.V_reads' HS3.out).2.2 (zi M3.out.1 _)) HC3.out HD.out).mono ?_);rintro e w5 ⟨rfl,hb⟩;clear p0_0 p0_1 p0_2 q0_0 q0_1 q0_2 q0_3 q0_4 q0_5;have M5 : za (zch w w5 g2 g3 w3.heap.size (.cells #[.int .i64 a0_0,.int .i64 a0_1,.slice A0_2 l0_2.length c0_2] 24 (0,0)) (.cells #[.int .i64 a1_0,.int .i64 a1_1,.slice A1_2 l1_2.length c1_2,.slice A1_3 l1_3.length c1_3,.int .i64 a1_4,.int .i64 a1_5] 32 (0,0)) (.cells #[.int .i64 0,.int .i64 0,.slice none 0 0] 24 (0,0))) := ⟨⟨zh (zi M3.out.1 _) hb,zo (ze M3.out.2.1 _) hb,zo (ze M3.out.2.2 _) hb,zo (zbp w3 _) hb⟩⟩;clear hb;have HLE : za (w.heap.size ≤ w3.heap.size) := ⟨zj M3.out.1⟩;have p5_0 := (zb M5.out.c2 0).trans rfl;have pA5_0 := fun o => (zb (ze M5.out.c2 o) 0).trans rfl;have p5_1 := (zb M5.out.c2 1).trans rfl;have pA5_1 := fun o => (zb (ze M5.out.c2 o) 1).trans rfl;have p5_2 := (zb M5.out.c2 2).trans rfl;have pA5_2 := fun o => (zb (ze M5.out.c2 o) 2).trans rfl;have q5_0 := (zb M5.out.c3 0).trans rfl;have qA5_0 := fun o => (zb (ze M5.out.c3 o) 0).trans rfl;have q5_1 := (zb M5.out.c3 1).trans rfl;have qA5_1 := fun o => (zb (ze M5.out.c3 o) 1).trans rfl;have q5_2 := (zb M5.out.c3 2).trans rfl;have qA5_2 := fun o => (zb (ze M5.out.c3 o) 2).trans rfl;have q5_3 := (zb M5.out.c3 3).trans rfl;have qA5_3 := fun o => (zb (ze M5.out.c3 o) 3).trans rfl;have q5_4 := (zb M5.out.c3 4).trans rfl;have qA5_4 := fun o => (zb (ze M5.out.c3 o) 4).trans rfl;have q5_5 := (zb M5.out.c3 5).trans rfl;have qA5_5 := fun o => (zb (ze M5.out.c3 o) 5).trans rfl;have s5_0 := (zb M5.out.c4 0).trans rfl;have sA5_0 := fun o => (zb (ze M5.out.c4 o) 0).trans rfl;have s5_1 := (zb M5.out.c4 1).trans rfl;have sA5_1 := fun o => (zb (ze M5.out.c4 o) 1).trans rfl;have s5_2 := (zb M5.out.c4 2).trans rfl;have sA5_2 := fun o => (zb (ze M5.out.c4 o) 2).trans rfl;have f5_0 := zc M5.out.c4 0;have fA5_0 := fun o => zc (ze M5.out.c4 o) 0;have f5_1 := zc M5.out.c4 1;have fA5_1 := fun o => zc (ze M5.out.c4 o) 1;have f5_2 := zc M5.out.c4 2;have fA5_2 := fun o => zc (ze M5.out.c4 o) 2)
   | (go_at_call 8;(with_reducible refine (z9.calls a0_0 a0_1 (fun k_ => P0_2_ k_ ∧ k_ < w.heap.size) A0_2 c0_2 l0_2 D _ _ _ _ _ _ _ _ _ (Kd.V_map HS.out (fun _ hf => Kd.F_below (Kd.F_bound hf) M5.out.b)) HF.out).mono ?_);rintro e w6 ⟨v3,v4,rfl,hV3,hV4,hb⟩;obtain ⟨A3,c3,rfl⟩ := Kd.V_slice hV3;obtain ⟨A4,c4,rfl⟩ := Kd.V_slice hV4;clear p5_0 pA5_0 p5_1 pA5_1 p5_2 pA5_2 q5_0 qA5_0 q5_1 qA5_1 q5_2 qA5_2 q5_3 qA5_3 q5_4 qA5_4 q5_5 qA5_5 s5_0 sA5_0 s5_1 sA5_1 s5_2 sA5_2 f5_0 fA5_0 f5_1 fA5_1 f5_2 fA5_2;have M6 := za.mk (M5.out.step hb);clear hb hV3 hV4;have p6_0 := (zb M6.out.c2 0).trans rfl;have pA6_0 := fun o => (zb (ze M6.out.c2 o) 0).trans rfl;have p6_1 := (zb M6.out.c2 1).trans rfl;have pA6_1 := fun o => (zb (ze M6.out.c2 o) 1).trans rfl;have p6_2 := (zb M6.out.c2 2).trans rfl;have pA6_2 := fun o => (zb (ze M6.out.c2 o) 2).trans rfl;have q6_0 := (zb M6.out.c3 0).trans rfl;have qA6_0 := fun o => (zb (ze M6.out.c3 o) 0).trans rfl;have q6_1 := (zb M6.out.c3 1).trans rfl;have qA6_1 := fun o => (zb (ze M6.out.c3 o) 1).trans rfl;have q6_2 := (zb M6.out.c3 2).trans rfl;have qA6_2 := fun o => (zb (ze M6.out.c3 o) 2).trans rfl;have q6_3 := (zb M6.out.c3 3).trans rfl;have qA6_3 := fun o => (zb (ze M6.out.c3 o) 3).trans rfl;have q6_4 := (zb M6.out.c3 4).trans rfl;have qA6_4 := fun o => (zb (ze M6.out.c3 o) 4).trans rfl;have q6_5 := (zb M6.out.c3 5).trans rfl;have qA6_5 := fun o => (zb (ze M6.out.c3 o) 5).trans rfl;have s6_0 := (zb M6.out.c4 0).trans rfl;have sA6_0 := fun o => (zb (ze M6.out.c4 o) 0).trans rfl;have s6_1 := (zb M6.out.c4 1).trans rfl;have sA6_1 := fun o => (zb (ze M6.out.c4 o) 1).trans rfl;have s6_2 := (zb M6.out.c4 2).trans rfl;have sA6_2 := fun o => (zb (ze M6.out.c4 o) 2).trans rfl;have f6_0 := zc M6.out.c4 0;have fA6_0 := fun o => zc (ze M6.out.c4 o) 0;have f6_1 := zc M6.out.c4 1;have fA6_1 := fun o => zc (ze M6.out.c4 o) 1;have f6_2 := zc M6.out.c4 2;have fA6_2 := fun o => zc (ze M6.out.c4 o) 2)
   | (go_at_call 32;(with_reducible refine (za5.calls a0_0 a0_1 (fun k_ => P0_2_ k_ ∧ k_ < w.heap.size) A0_2 c0_2 l0_2 a1_0 a1_1 _ _ _ _ _ _ _ _ _ (Kd.V_map HS.out (fun _ hf => Kd.F_below (Kd.F_bound hf) (zi M6.out.b _))) HY.out).mono ?_);rintro e w7 ⟨v3,v4,rfl,hV3,hV4,hb⟩;obtain ⟨A5,c5,rfl⟩ := Kd.V_slice hV3;obtain ⟨A6,c6,rfl⟩ := Kd.V_slice hV4;clear p6_0 pA6_0 p6_1 pA6_1 p6_2 pA6_2 q6_0 qA6_0 q6_1 qA6_1 q6_2 qA6_2 q6_3 qA6_3 q6_4 qA6_4 q6_5 qA6_5 s6_0 sA6_0 s6_1 sA6_1 s6_2 sA6_2 f6_0 fA6_0 f6_1 fA6_1 f6_2 fA6_2;have M7 := za.mk ((M6.out.alloc _).step hb);clear hb hV3 hV4;have p7_0 := (zb M7.out.c2 0).trans rfl;have pA7_0 := fun o => (zb (ze M7.out.c2 o) 0).trans rfl;have p7_1 := (zb M7.out.c2 1).trans rfl;have pA7_1 := fun o => (zb (ze M7.out.c2 o) 1).trans rfl;have p7_2 := (zb M7.out.c2 2).trans rfl;have pA7_2 := fun o => (zb (ze M7.out.c2 o) 2).trans rfl;have q7_0 := (zb M7.out.c3 0).trans rfl;have qA7_0 := fun o => (zb (ze M7.out.c3 o) 0).trans rfl;have q7_1 := (zb M7.out.c3 1).trans rfl;have qA7_1 := fun o => (zb (ze M7.out.c3 o) 1).trans rfl;have q7_2 := (zb M7.out.c3 2).trans rfl;have qA7_2 := fun o => (zb (ze M7.out.c3 o) 2).trans rfl;have q7_3 := (zb M7.out.c3 3).trans rfl;have qA7_3 := fun o => (zb (ze M7.out.c3 o) 3).trans rfl;have q7_4 := (zb M7.out.c3 4).trans rfl;have qA7_4 := fun o => (zb (ze M7.out.c3 o) 4).trans rfl;have q7_5 := (zb M7.out.c3 5).trans rfl;have qA7_5 := fun o => (zb (ze M7.out.c3 o) 5).trans rfl;have s7_0 := (zb M7.out.c4 0).trans rfl;have sA7_0 := fun o => (zb (ze M7.out.c4 o) 0).trans rfl;have s7_1 := (zb M7.out.c4 1).trans rfl;have sA7_1 := fun o => (zb (ze M7.out.c4 o) 1).trans rfl;have s7_2 := (zb M7.out.c4 2).trans rfl;have sA7_2 := fun o => (zb (ze M7.out.c4 o) 2).trans rfl;have f7_0 := zc M7.out.c4 0;have fA7_0 := fun o => zc (ze M7.out.c4 o) 0;have f7_1 := zc M7.out.c4 1;have fA7_1 := fun o => zc (ze M7.out.c4 o) 1;have f7_2 := zc M7.out.c4 2;have fA7_2 := fun o => zc (ze M7.out.c4 o) 2)
   | (go_at_call 33;(with_reducible refine (zS.calls a0_0 a0_1 _ _ l0_2 a1_0 a1_1 _ _ l1_2 _ _ l1_3 a1_4 a1_5 lost _ (Kd.C_below (Kd.V_reads' HS.out).2.2 (zi M7.out.b _)) HC.out (Kd.C_below (Kd.V_reads' HS2.out).2.2 (zi M7.out.b _)) HC2.out (Kd.C_below (Kd.V_reads' HS3.out).2.2 (zi M7.out.b _)) HC3.out (HM.out d1 d2)).mono ?_);rintro e w8 ⟨v0,rfl,hR,hb⟩;obtain ⟨A7,c7,rfl⟩ := Kd.R_slice hR;clear p7_0 pA7_0 p7_1 pA7_1 p7_2 pA7_2 q7_0 qA7_0 q7_1 qA7_1 q7_2 qA7_2 q7_3 qA7_3 q7_4 qA7_4 q7_5 qA7_5 s7_0 sA7_0 s7_1 sA7_1 s7_2 sA7_2 f7_0 fA7_0 f7_1 fA7_1 f7_2 fA7_2;have M8 := za.mk ((M7.out.alloc _).step hb);clear hb hR;have p8_0 := (zb M8.out.c2 0).trans rfl;have pA8_0 := fun o => (zb (ze M8.out.c2 o) 0).trans rfl;have p8_1 := (zb M8.out.c2 1).trans rfl;have pA8_1 := fun o => (zb (ze M8.out.c2 o) 1).trans rfl;have p8_2 := (zb M8.out.c2 2).trans rfl;have pA8_2 := fun o => (zb (ze M8.out.c2 o) 2).trans rfl;have q8_0 := (zb M8.out.c3 0).trans rfl;have qA8_0 := fun o => (zb (ze M8.out.c3 o) 0).trans rfl;have q8_1 := (zb M8.out.c3 1).trans rfl;have qA8_1 := fun o => (zb (ze M8.out.c3 o) 1).trans rfl;have q8_2 := (zb M8.out.c3 2).trans rfl;have qA8_2 := fun o => (zb (ze M8.out.c3 o) 2).trans rfl;have q8_3 := (zb M8.out.c3 3).trans rfl;have qA8_3 := fun o => (zb (ze M8.out.c3 o) 3).trans rfl;have q8_4 := (zb M8.out.c3 4).trans rfl;have qA8_4 := fun o => (zb (ze M8.out.c3 o) 4).trans rfl;have q8_5 := (zb M8.out.c3 5).trans rfl;have qA8_5 := fun o => (zb (ze M8.out.c3 o) 5).trans rfl;have s8_0 := (zb M8.out.c4 0).trans rfl;have sA8_0 := fun o => (zb (ze M8.out.c4 o) 0).trans rfl;have s8_1 := (zb M8.out.c4 1).trans rfl;have sA8_1 := fun o => (zb (ze M8.out.c4 o) 1).trans rfl;have s8_2 := (zb M8.out.c4 2).trans rfl;have sA8_2 := fun o => (zb (ze M8.out.c4 o) 2).trans rfl;have f8_0 := zc M8.out.c4 0;have fA8_0 := fun o => zc (ze M8.out.c4 o) 0;have f8_1 := zc M8.out.c4 1;have fA8_1 := fun o => zc (ze M8.out.c4 o) 1;have f8_2 := zc M8.out.c4 2;have fA8_2 := fun o => zc (ze M8.out.c4 o) 2))
  first
   | (refine bodyPost_ret (zaW rfl _ _ w3.heap.size 24 _ (0,0) _ rfl (zM (zM (zM M8.out.c4 0 _) 1 _) 2 _) Try.underlying24 rfl (by kernel_rfl)) rfl ?_;exact ⟨rfl,zm (zm (zm M8.out.b HLE.out) HLE.out) HLE.out⟩)
   | (refine bodyPost_ret (zaW rfl _ _ w3.heap.size 24 _ (0,0) _ rfl (zM (zM (zM (M7.out.alloc _).c4 0 _) 1 _) 2 _) Try.underlying24 rfl (by kernel_rfl)) rfl ?_;exact ⟨rfl,zm (zm (zm (M7.out.alloc _).b HLE.out) HLE.out) HLE.out⟩)
   | (refine bodyPost_ret (zaW rfl _ _ w3.heap.size 24 _ (0,0) _ rfl (zM (zM (zM (M6.out.alloc _).c4 0 _) 1 _) 2 _) Try.underlying24 rfl (by kernel_rfl)) rfl ?_;exact ⟨rfl,zm (zm (zm (M6.out.alloc _).b HLE.out) HLE.out) HLE.out⟩)
   | (refine bodyPost_ret (zaW rfl _ _ w3.heap.size 24 _ (0,0) _ rfl (zM (zM (zM M5.out.c4 0 _) 1 _) 2 _) Try.underlying24 rfl (by kernel_rfl)) rfl ?_;exact ⟨rfl,zm (zm (zm M5.out.b HLE.out) HLE.out) HLE.out⟩)
set_option maxHeartbeats 16000000 in
set_option maxRecDepth 100000 in
theorem zan.yes (a0_0 : Int) (a0_1 : Int) (P0_2_ : Nat → Prop) (A0_2 : Option Addr) (c0_2 : Nat) (l0_2 : List (S34)) (a1_0 : Int) (a1_1 : Int) (P1_2_ : Nat → Prop) (A1_2 : Option Addr) (c1_2 : Nat) (l1_2 : List (S78)) (P1_3_ : Nat → Prop) (A1_3 : Option Addr) (c1_3 : Nat) (l1_3 : List ByteArray) (a1_4 : Int) (a1_5 : Int) (D : ByteArray) (e1 : Int) (fnd by_ : Bool) (lost : List ByteArray) (f1 : ByteArray) (f2 f3 : Int) (f4 : List S78) (f5 : List ByteArray) (f6 f7 : Int) (y1 : ByteArray) (y2 y3 : Int) (y4 : List S78) (y5 : List ByteArray) (y6 y7 : Int) (i0 : Nat) (hi0 : i0 ≤ l0_2.length) (w : World) (hs0_2 : Kd.V k34 34 w w.heap.size (fun k_ => P0_2_ k_) (.slice A0_2 l0_2.length c0_2) l0_2) (hs1_2 : Kd.V k78 78 w w.heap.size (fun k_ => P1_2_ k_) (.slice A1_2 l1_2.length c1_2) l1_2) (hs1_3 : Kd.V Kd.string 9 w w.heap.size (fun k_ => P1_3_ k_) (.slice A1_3 l1_3.length c1_3) l1_3) (hD : zaL.f a1_0 a1_1 l1_2 l1_3 a1_4 a1_5 a0_0 = some (D,e1)) (hF : z9.f a0_0 a0_1 l0_2 D = some (f1,f2,f3,f4,f5,f6,f7,fnd)) (hY : za5.f a0_0 a0_1 l0_2 a1_0 a1_1 = some (y1,y2,y3,y4,y5,y6,y7,by_)) (hl : l0_2.length < 1466015503701)
  (hM : zS.f a0_0 a0_1 l0_2 a1_0 a1_1 l1_2 l1_3 a1_4 a1_5 = some lost) (d1 : (e1 != 0) = false) (d2 : decide (a1_1 ≤ a0_1) = false) (d3 : fnd = false) (d4 : by_ = false) (d5 : decide (0 < lost.length) = false) (d6 : decide ((0 : Int) < (lost.length : Int)) = false)
  (hI : zcp (zan.p a1_0 a1_1 A1_2 l1_2.length c1_2 A1_3 l1_3.length c1_3 a1_4 a1_5) l0_2 = -1 ∧ i0 = l0_2.length ∨ zcp (zan.p a1_0 a1_1 A1_2 l1_2.length c1_2 A1_3 l1_3.length c1_3 a1_4 a1_5) l0_2 = i0) :
  Calls Try.prog 17 #[.agg #[.int .i64 a0_0,.int .i64 a0_1,.slice A0_2 l0_2.length c0_2],.agg #[.int .i64 a1_0,.int .i64 a1_1,.slice A1_2 l1_2.length c1_2,.slice A1_3 l1_3.length c1_3,.int .i64 a1_4,.int .i64 a1_5]] w fun e w' => ∃ v2_ : Value,e = .returned (.tuple #[.agg #[.int .i64 a0_0,.int .i64 a0_1,v2_],.int .i64 0]) ∧ Kd.V k34 34 w' w.heap.size (fun k_ => ((P0_2_ k_ ∨ P1_2_ k_ ∨ P1_3_ k_) ∨ w.heap.size ≤ k_)) v2_ (l0_2.take i0 ++ ⟨D,⟨a1_0,a1_1,l1_2,l1_3,⟨a1_4,a1_5⟩⟩⟩ :: l0_2.drop i0) ∧ Below w.heap.size w w' := by
 subst d3 d4
 have HS := za.mk hs0_2
 have HS2 := za.mk hs1_2
 have HS3 := za.mk hs1_3
 have HC := za.mk (Kd.V_reads' hs0_2).2.1
 have HC2 := za.mk (Kd.V_reads' hs1_2).2.1
 have HC3 := za.mk (Kd.V_reads' hs1_3).2.1
 have HFL : za (Kd.F k34 w (fun k_ => P0_2_ k_ ∨ P1_2_ k_ ∨ P1_3_ k_) A0_2 l0_2.length l0_2) := ⟨Kd.F_mono (Kd.V_at hs0_2).2.2 (fun _ hk => .inl hk)⟩
 have HX : za (RE w (fun k_ => P0_2_ k_ ∨ P1_2_ k_ ∨ P1_3_ k_) ⟨D,⟨a1_0,a1_1,l1_2,l1_3,⟨a1_4,a1_5⟩⟩⟩ [.string D,.int .i64 a1_0,.int .i64 a1_1,.slice A1_2 l1_2.length c1_2,.slice A1_3 l1_3.length c1_3,.int .i64 a1_4,.int .i64 a1_5]) := ⟨ze1 w _ ⟨D,⟨a1_0,a1_1,l1_2,l1_3,⟨a1_4,a1_5⟩⟩⟩ (Kd.V_at hs1_2).2.1 (Kd.F_mono (Kd.V_at hs1_2).2.2 (fun _ hk => .inr (.inl hk))) (Kd.V_at hs1_3).2.1 (Kd.F_mono (Kd.V_at hs1_3).2.2 (fun _ hk => .inr (.inr hk)))⟩
 have HD := za.mk hD
 have HF := za.mk hF
 have HY := za.mk hY
 have HL := za.mk hl
 have HI0 := za.mk hi0
 have HM : za ((e1 != 0) = false → decide (a1_1 ≤ a0_1) = false → zS.f a0_0 a0_1 l0_2 a1_0 a1_1 l1_2 l1_3 a1_4 a1_5 = some lost) := ⟨fun _ _ => hM⟩
 clear hs0_2 hs1_2 hs1_3 hD hF hY hM hl hi0
 obtain ⟨z,hz⟩ : ∃ z,z = zcp (zan.p a1_0 a1_1 A1_2 l1_2.length c1_2 A1_3 l1_3.length c1_3 a1_4 a1_5) l0_2 := ⟨_,rfl⟩
 rw [← hz] at hI
 have HI := za.mk hz.symm
 have HZ := za.mk hI
 clear hz hI
 go_enter Try.func17,Try.ntmps17
 go_upto_if 62 with (first
  | ((with_reducible refine zp (N := 2) rfl ?_);refine zn rfl (N := 2) rfl (cs := #[.int .i64 a0_0,.int .i64 a0_1,.slice A0_2 l0_2.length c0_2]) (t := 24) hrq ?_;intro g2 hg w2 hbox hb;have B2 := za.mk hbox;have HB2 := za.mk hb;have GE2 : za (w.heap.size ≤ g2) := ⟨by rw [hg];exact Nat.le_refl _⟩;clear hb hbox hg)
  | ((with_reducible refine zp (N := 3) rfl ?_);refine zn rfl (N := 3) rfl (cs := #[.int .i64 a1_0,.int .i64 a1_1,.slice A1_2 l1_2.length c1_2,.slice A1_3 l1_3.length c1_3,.int .i64 a1_4,.int .i64 a1_5]) (t := 32) hrq ?_;intro g3 hg w3 hbox hb;have M3 : za (Below w.heap.size w w3 ∧ w3.heap[g2]? = some (.cells #[.int .i64 a0_0,.int .i64 a0_1,.slice A0_2 l0_2.length c0_2] 24 (0,0)) ∧ w3.heap[g3]? = some (.cells #[.int .i64 a1_0,.int .i64 a1_1,.slice A1_2 l1_2.length c1_2,.slice A1_3 l1_3.length c1_3,.int .i64 a1_4,.int .i64 a1_5] 32 (0,0))) := ⟨zh HB2.out hb,zo B2.out hb,hbox⟩;have p0_0 := fun o => (zb (ze M3.out.2.1 o) 0).trans rfl;have p0_1 := fun o => (zb (ze M3.out.2.1 o) 1).trans rfl;have p0_2 := fun o => (zb (ze M3.out.2.1 o) 2).trans rfl;have q0_0 := fun o => (zb (ze M3.out.2.2 o) 0).trans rfl;have q0_1 := fun o => (zb (ze M3.out.2.2 o) 1).trans rfl;have q0_2 := fun o => (zb (ze M3.out.2.2 o) 2).trans rfl;have q0_3 := fun o => (zb (ze M3.out.2.2 o) 3).trans rfl;have q0_4 := fun o => (zb (ze M3.out.2.2 o) 4).trans rfl;have q0_5 := fun o => (zb (ze M3.out.2.2 o) 5).trans rfl;clear hb hbox hg)
  | (go_at_call 31;(with_reducible refine (zaL.calls a1_0 a1_1 _ _ l1_2 _ _ l1_3 a1_4 a1_5 a0_0 D _ _ (Kd.C_below (Kd.V_reads' HS2.out).2.2 (zi M3.out.1 _)) HC2.out (Kd.C_below (Kd.V_reads' HS3.out).2.2 (zi M3.out.1 _)) HC3.out HD.out).mono ?_);rintro e w5 ⟨rfl,hb⟩;clear p0_0 p0_1 p0_2 q0_0 q0_1 q0_2 q0_3 q0_4 q0_5;have M5 : za (zch w w5 g2 g3 w3.heap.size (.cells #[.int .i64 a0_0,.int .i64 a0_1,.slice A0_2 l0_2.length c0_2] 24 (0,0)) (.cells #[.int .i64 a1_0,.int .i64 a1_1,.slice A1_2 l1_2.length c1_2,.slice A1_3 l1_3.length c1_3,.int .i64 a1_4,.int .i64 a1_5] 32 (0,0)) (.cells #[.int .i64 0,.int .i64 0,.slice none 0 0] 24 (0,0))) := ⟨⟨zh (zi M3.out.1 _) hb,zo (ze M3.out.2.1 _) hb,zo (ze M3.out.2.2 _) hb,zo (zbp w3 _) hb⟩⟩;clear hb;have HLE : za (w.heap.size ≤ w3.heap.size) := ⟨zj M3.out.1⟩;have p5_0 := (zb M5.out.c2 0).trans rfl;have pA5_0 := fun o => (zb (ze M5.out.c2 o) 0).trans rfl;have p5_1 := (zb M5.out.c2 1).trans rfl;have pA5_1 := fun o => (zb (ze M5.out.c2 o) 1).trans rfl;have p5_2 := (zb M5.out.c2 2).trans rfl;have pA5_2 := fun o => (zb (ze M5.out.c2 o) 2).trans rfl;have q5_0 := (zb M5.out.c3 0).trans rfl;have qA5_0 := fun o => (zb (ze M5.out.c3 o) 0).trans rfl;have q5_1 := (zb M5.out.c3 1).trans rfl;have qA5_1 := fun o => (zb (ze M5.out.c3 o) 1).trans rfl;have q5_2 := (zb M5.out.c3 2).trans rfl;have qA5_2 := fun o => (zb (ze M5.out.c3 o) 2).trans rfl;have q5_3 := (zb M5.out.c3 3).trans rfl;have qA5_3 := fun o => (zb (ze M5.out.c3 o) 3).trans rfl;have q5_4 := (zb M5.out.c3 4).trans rfl;have qA5_4 := fun o => (zb (ze M5.out.c3 o) 4).trans rfl;have q5_5 := (zb M5.out.c3 5).trans rfl;have qA5_5 := fun o => (zb (ze M5.out.c3 o) 5).trans rfl;have s5_0 := (zb M5.out.c4 0).trans rfl;have sA5_0 := fun o => (zb (ze M5.out.c4 o) 0).trans rfl;have s5_1 := (zb M5.out.c4 1).trans rfl;have sA5_1 := fun o => (zb (ze M5.out.c4 o) 1).trans rfl;have s5_2 := (zb M5.out.c4 2).trans rfl;have sA5_2 := fun o => (zb (ze M5.out.c4 o) 2).trans rfl;have f5_0 := zc M5.out.c4 0;have fA5_0 := fun o => zc (ze M5.out.c4 o) 0;have f5_1 := zc M5.out.c4 1;have fA5_1 := fun o => zc (ze M5.out.c4 o) 1;have f5_2 := zc M5.out.c4 2;have fA5_2 := fun o => zc (ze M5.out.c4 o) 2)
  | (go_at_call 8;(with_reducible refine (z9.calls a0_0 a0_1 (fun k_ => P0_2_ k_ ∧ k_ < w.heap.size) A0_2 c0_2 l0_2 D _ _ _ _ _ _ _ _ _ (Kd.V_map HS.out (fun _ hf => Kd.F_below (Kd.F_bound hf) M5.out.b)) HF.out).mono ?_);rintro e w6 ⟨v3,v4,rfl,hV3,hV4,hb⟩;obtain ⟨A3,c3,rfl⟩ := Kd.V_slice hV3;obtain ⟨A4,c4,rfl⟩ := Kd.V_slice hV4;clear p5_0 pA5_0 p5_1 pA5_1 p5_2 pA5_2 q5_0 qA5_0 q5_1 qA5_1 q5_2 qA5_2 q5_3 qA5_3 q5_4 qA5_4 q5_5 qA5_5 s5_0 sA5_0 s5_1 sA5_1 s5_2 sA5_2 f5_0 fA5_0 f5_1 fA5_1 f5_2 fA5_2;have M6 := za.mk (M5.out.step hb);clear hb hV3 hV4;have p6_0 := (zb M6.out.c2 0).trans rfl;have pA6_0 := fun o => (zb (ze M6.out.c2 o) 0).trans rfl;have p6_1 := (zb M6.out.c2 1).trans rfl;have pA6_1 := fun o => (zb (ze M6.out.c2 o) 1).trans rfl;have p6_2 := (zb M6.out.c2 2).trans rfl;have pA6_2 := fun o => (zb (ze M6.out.c2 o) 2).trans rfl;have q6_0 := (zb M6.out.c3 0).trans rfl;have qA6_0 := fun o => (zb (ze M6.out.c3 o) 0).trans rfl;have q6_1 := (zb M6.out.c3 1).trans rfl;have qA6_1 := fun o => (zb (ze M6.out.c3 o) 1).trans rfl;have q6_2 := (zb M6.out.c3 2).trans rfl;have qA6_2 := fun o => (zb (ze M6.out.c3 o) 2).trans rfl;have q6_3 := (zb M6.out.c3 3).trans rfl;have qA6_3 := fun o => (zb (ze M6.out.c3 o) 3).trans rfl;have q6_4 := (zb M6.out.c3 4).trans rfl;have qA6_4 := fun o => (zb (ze M6.out.c3 o) 4).trans rfl;have q6_5 := (zb M6.out.c3 5).trans rfl;have qA6_5 := fun o => (zb (ze M6.out.c3 o) 5).trans rfl;have s6_0 := (zb M6.out.c4 0).trans rfl;have sA6_0 := fun o => (zb (ze M6.out.c4 o) 0).trans rfl;have s6_1 := (zb M6.out.c4 1).trans rfl;have sA6_1 := fun o => (zb (ze M6.out.c4 o) 1).trans rfl;have s6_2 := (zb M6.out.c4 2).trans rfl;have sA6_2 := fun o => (zb (ze M6.out.c4 o) 2).trans rfl;have f6_0 := zc M6.out.c4 0;have fA6_0 := fun o => zc (ze M6.out.c4 o) 0;have f6_1 := zc M6.out.c4 1;have fA6_1 := fun o => zc (ze M6.out.c4 o) 1;have f6_2 := zc M6.out.c4 2;have fA6_2 := fun o => zc (ze M6.out.c4 o) 2)
  | (go_at_call 32;(with_reducible refine (za5.calls a0_0 a0_1 (fun k_ => P0_2_ k_ ∧ k_ < w.heap.size) A0_2 c0_2 l0_2 a1_0 a1_1 _ _ _ _ _ _ _ _ _ (Kd.V_map HS.out (fun _ hf => Kd.F_below (Kd.F_bound hf) (zi M6.out.b _))) HY.out).mono ?_);rintro e w7 ⟨v3,v4,rfl,hV3,hV4,hb⟩;obtain ⟨A5,c5,rfl⟩ := Kd.V_slice hV3;obtain ⟨A6,c6,rfl⟩ := Kd.V_slice hV4;clear p6_0 pA6_0 p6_1 pA6_1 p6_2 pA6_2 q6_0 qA6_0 q6_1 qA6_1 q6_2 qA6_2 q6_3 qA6_3 q6_4 qA6_4 q6_5 qA6_5 s6_0 sA6_0 s6_1 sA6_1 s6_2 sA6_2 f6_0 fA6_0 f6_1 fA6_1 f6_2 fA6_2;have M7 := za.mk ((M6.out.alloc _).step hb);clear hb hV3 hV4;have p7_0 := (zb M7.out.c2 0).trans rfl;have pA7_0 := fun o => (zb (ze M7.out.c2 o) 0).trans rfl;have p7_1 := (zb M7.out.c2 1).trans rfl;have pA7_1 := fun o => (zb (ze M7.out.c2 o) 1).trans rfl;have p7_2 := (zb M7.out.c2 2).trans rfl;have pA7_2 := fun o => (zb (ze M7.out.c2 o) 2).trans rfl;have q7_0 := (zb M7.out.c3 0).trans rfl;have qA7_0 := fun o => (zb (ze M7.out.c3 o) 0).trans rfl;have q7_1 := (zb M7.out.c3 1).trans rfl;have qA7_1 := fun o => (zb (ze M7.out.c3 o) 1).trans rfl;have q7_2 := (zb M7.out.c3 2).trans rfl;have qA7_2 := fun o => (zb (ze M7.out.c3 o) 2).trans rfl;have q7_3 := (zb M7.out.c3 3).trans rfl;have qA7_3 := fun o => (zb (ze M7.out.c3 o) 3).trans rfl;have q7_4 := (zb M7.out.c3 4).trans rfl;have qA7_4 := fun o => (zb (ze M7.out.c3 o) 4).trans rfl;have q7_5 := (zb M7.out.c3 5).trans rfl;have qA7_5 := fun o => (zb (ze M7.out.c3 o) 5).trans rfl;have s7_0 := (zb M7.out.c4 0).trans rfl;have sA7_0 := fun o => (zb (ze M7.out.c4 o) 0).trans rfl;have s7_1 := (zb M7.out.c4 1).trans rfl;have sA7_1 := fun o => (zb (ze M7.out.c4 o) 1).trans rfl;have s7_2 := (zb M7.out.c4 2).trans rfl;have sA7_2 := fun o => (zb (ze M7.out.c4 o) 2).trans rfl;have f7_0 := zc M7.out.c4 0;have fA7_0 := fun o => zc (ze M7.out.c4 o) 0;have f7_1 := zc M7.out.c4 1;have fA7_1 := fun o => zc (ze M7.out.c4 o) 1;have f7_2 := zc M7.out.c4 2;have fA7_2 := fun o => zc (ze M7.out.c4 o) 2)
  | (go_at_call 33;(with_reducible refine (zS.calls a0_0 a0_1 _ _ l0_2 a1_0 a1_1 _ _ l1_2 _ _ l1_3 a1_4 a1_5 lost _ (Kd.C_below (Kd.V_reads' HS.out).2.2 (zi M7.out.b _)) HC.out (Kd.C_below (Kd.V_reads' HS2.out).2.2 (zi M7.out.b _)) HC2.out (Kd.C_below (Kd.V_reads' HS3.out).2.2 (zi M7.out.b _)) HC3.out (HM.out d1 d2)).mono ?_);rintro e w8 ⟨v0,rfl,hR,hb⟩;obtain ⟨A7,c7,rfl⟩ := Kd.R_slice hR;clear p7_0 pA7_0 p7_1 pA7_1 p7_2 pA7_2 q7_0 qA7_0 q7_1 qA7_1 q7_2 qA7_2 q7_3 qA7_3 q7_4 qA7_4 q7_5 qA7_5 s7_0 sA7_0 s7_1 sA7_1 s7_2 sA7_2 f7_0 fA7_0 f7_1 fA7_1 f7_2 fA7_2;have M8 := za.mk ((M7.out.alloc _).step hb);clear hb hR;have p8_0 := (zb M8.out.c2 0).trans rfl;have pA8_0 := fun o => (zb (ze M8.out.c2 o) 0).trans rfl;have p8_1 := (zb M8.out.c2 1).trans rfl;have pA8_1 := fun o => (zb (ze M8.out.c2 o) 1).trans rfl;have p8_2 := (zb M8.out.c2 2).trans rfl;have pA8_2 := fun o => (zb (ze M8.out.c2 o) 2).trans rfl;have q8_0 := (zb M8.out.c3 0).trans rfl;have qA8_0 := fun o => (zb (ze M8.out.c3 o) 0).trans rfl;have q8_1 := (zb M8.out.c3 1).trans rfl;have qA8_1 := fun o => (zb (ze M8.out.c3 o) 1).trans rfl;have q8_2 := (zb M8.out.c3 2).trans rfl;have qA8_2 := fun o => (zb (ze M8.out.c3 o) 2).trans rfl;have q8_3 := (zb M8.out.c3 3).trans rfl;have qA8_3 := fun o => (zb (ze M8.out.c3 o) 3).trans rfl;have q8_4 := (zb M8.out.c3 4).trans rfl;have qA8_4 := fun o => (zb (ze M8.out.c3 o) 4).trans rfl;have q8_5 := (zb M8.out.c3 5).trans rfl;have qA8_5 := fun o => (zb (ze M8.out.c3 o) 5).trans rfl;have s8_0 := (zb M8.out.c4 0).trans rfl;have sA8_0 := fun o => (zb (ze M8.out.c4 o) 0).trans rfl;have s8_1 := (zb M8.out.c4 1).trans rfl;have sA8_1 := fun o => (zb (ze M8.out.c4 o) 1).trans rfl;have s8_2 := (zb M8.out.c4 2).trans rfl;have sA8_2 := fun o => (zb (ze M8.out.c4 o) 2).trans rfl;have f8_0 := zc M8.out.c4 0;have fA8_0 := fun o => zc (ze M8.out.c4 o) 0;have f8_1 := zc M8.out.c4 1;have fA8_1 := fun o => zc (ze M8.out.c4 o) 1;have f8_2 := zc M8.out.c4 2;have fA8_2 := fun o => zc (ze M8.out.c4 o) 2)
  | (go_at_call 34;(with_reducible refine (zan.idx a1_0 a1_1 A1_2 l1_2.length c1_2 A1_3 l1_3.length c1_3 a1_4 a1_5 g3 A0_2 c0_2 l0_2 _ (Kd.C_below (Kd.V_reads' HS.out).2.2 M8.out.b) M8.out.c3).mono ?_);rintro e w9 ⟨rfl,hb⟩;rw [HI.out];clear p8_0 pA8_0 p8_1 pA8_1 p8_2 pA8_2 q8_0 qA8_0 q8_1 qA8_1 q8_2 qA8_2 q8_3 qA8_3 q8_4 qA8_4 q8_5 qA8_5 s8_0 sA8_0 s8_1 sA8_1 s8_2 sA8_2 f8_0 fA8_0 f8_1 fA8_1 f8_2 fA8_2;have M9 := za.mk (M8.out.step hb);clear hb;have p9_0 := (zb M9.out.c2 0).trans rfl;have pA9_0 := fun o => (zb (ze M9.out.c2 o) 0).trans rfl;have p9_1 := (zb M9.out.c2 1).trans rfl;have pA9_1 := fun o => (zb (ze M9.out.c2 o) 1).trans rfl;have p9_2 := (zb M9.out.c2 2).trans rfl;have pA9_2 := fun o => (zb (ze M9.out.c2 o) 2).trans rfl;have q9_0 := (zb M9.out.c3 0).trans rfl;have qA9_0 := fun o => (zb (ze M9.out.c3 o) 0).trans rfl;have q9_1 := (zb M9.out.c3 1).trans rfl;have qA9_1 := fun o => (zb (ze M9.out.c3 o) 1).trans rfl;have q9_2 := (zb M9.out.c3 2).trans rfl;have qA9_2 := fun o => (zb (ze M9.out.c3 o) 2).trans rfl;have q9_3 := (zb M9.out.c3 3).trans rfl;have qA9_3 := fun o => (zb (ze M9.out.c3 o) 3).trans rfl;have q9_4 := (zb M9.out.c3 4).trans rfl;have qA9_4 := fun o => (zb (ze M9.out.c3 o) 4).trans rfl;have q9_5 := (zb M9.out.c3 5).trans rfl;have qA9_5 := fun o => (zb (ze M9.out.c3 o) 5).trans rfl;have s9_0 := (zb M9.out.c4 0).trans rfl;have sA9_0 := fun o => (zb (ze M9.out.c4 o) 0).trans rfl;have s9_1 := (zb M9.out.c4 1).trans rfl;have sA9_1 := fun o => (zb (ze M9.out.c4 o) 1).trans rfl;have s9_2 := (zb M9.out.c4 2).trans rfl;have sA9_2 := fun o => (zb (ze M9.out.c4 o) 2).trans rfl;have f9_0 := zc M9.out.c4 0;have fA9_0 := fun o => zc (ze M9.out.c4 o) 0;have f9_1 := zc M9.out.c4 1;have fA9_1 := fun o => zc (ze M9.out.c4 o) 1;have f9_2 := zc M9.out.c4 2;have fA9_2 := fun o => zc (ze M9.out.c4 o) 2))
 go_cut [12] (fun v12 wc => v12 = .int .i64 (i0 : Int) ∧ w9 = wc)
 case first =>
  rcases HZ.out with ⟨hz,hi⟩ | hz
  ·subst hz
   have hi' : (i0 : Int) = (l0_2.length : Int) := by omega
   clear hi
   go_wp2_with fail
   go_meet
   case rel => exact ⟨by rw [hi'],rfl⟩
  ·subst hz
   have hb0 : decide ((i0 : Int) < 0) = false := decide_eq_false (by omega)
   go_wp2_with fail
   go_meet
   case rel => exact ⟨rfl,rfl⟩
 case rest =>
  obtain ⟨rfl,hwc⟩ := hcut
  subst hwc
  go_wp2_with fail
  go_region_with (first
   | (go_at_call 38;(with_reducible refine (zhG w (fun k_ => P0_2_ k_ ∨ P1_2_ k_ ∨ P1_3_ k_) _ A0_2 c0_2 l0_2 HFL.out (zch.b (g2 := g2) (g3 := g3) (g4 := w3.heap.size) (o2 := .cells #[.int .i64 a0_0,.int .i64 a0_1,.slice A0_2 l0_2.length c0_2] 24 (0,0)) (o3 := .cells #[.int .i64 a1_0,.int .i64 a1_1,.slice A1_2 l1_2.length c1_2,.slice A1_3 l1_3.length c1_3,.int .i64 a1_4,.int .i64 a1_5] 32 (0,0)) (o4 := .cells #[.int .i64 0,.int .i64 0,.slice none 0 0] 24 (0,0)) ?hm) HL.out).mono ?_);(case hm => repeat (first | (with_reducible first | exact M9.out | apply zch.alloc | apply zch.drew) | exact M9.out));rintro e w10 ⟨v10,rfl,hO,hb⟩;have M10 : za (zch w w10 g2 g3 w3.heap.size (.cells #[.int .i64 a0_0,.int .i64 a0_1,.slice A0_2 l0_2.length c0_2] 24 (0,0)) (.cells #[.int .i64 a1_0,.int .i64 a1_1,.slice A1_2 l1_2.length c1_2,.slice A1_3 l1_3.length c1_3,.int .i64 a1_4,.int .i64 a1_5] 32 (0,0)) (.cells #[.int .i64 0,.int .i64 0,.slice none 0 0] 24 (0,0))) := ⟨zch.step (by repeat (first | (with_reducible first | exact M9.out | apply zch.alloc | apply zch.drew) | exact M9.out)) hb⟩;(first | (obtain ⟨bs,hO,HBE,HBL⟩ : ∃ bs,zeh w (fun k_ => P0_2_ k_ ∨ P1_2_ k_ ∨ P1_3_ k_) w10 bs v10 l0_2 ∧ za (bs = w9.heap.size) ∧ za (bs ≤ w10.heap.size) := ⟨_,hO,⟨rfl⟩,⟨hb.size⟩⟩) | (obtain ⟨bs,hO,HBE,HBL⟩ : ∃ bs,zeh w (fun k_ => P0_2_ k_ ∨ P1_2_ k_ ∨ P1_3_ k_) w10 bs v10 l0_2 ∧ za (bs = w9.heap.size + 1) ∧ za (bs ≤ w10.heap.size) := ⟨_,hO,⟨by simp⟩,⟨hb.size⟩⟩));have HBS2 := za.mk (zil hO);have HLT := za.mk (OwnE_lt hO);have HBS : za (∀ k,v10.ownBlock = some k → w9.heap.size ≤ k) := ⟨fun k hk => Nat.le_trans (by have h_ := HBE.out;omega) (HBS2.out k hk)⟩;have HO := za.mk hO;have HB10 := za.mk hb;clear hO hb;have p10_0 := (zb M10.out.c2 0).trans rfl;have pA10_0 := fun o => (zb (ze M10.out.c2 o) 0).trans rfl;have p10_1 := (zb M10.out.c2 1).trans rfl;have pA10_1 := fun o => (zb (ze M10.out.c2 o) 1).trans rfl;have p10_2 := (zb M10.out.c2 2).trans rfl;have pA10_2 := fun o => (zb (ze M10.out.c2 o) 2).trans rfl;have q10_0 := (zb M10.out.c3 0).trans rfl;have qA10_0 := fun o => (zb (ze M10.out.c3 o) 0).trans rfl;have q10_1 := (zb M10.out.c3 1).trans rfl;have qA10_1 := fun o => (zb (ze M10.out.c3 o) 1).trans rfl;have q10_2 := (zb M10.out.c3 2).trans rfl;have qA10_2 := fun o => (zb (ze M10.out.c3 o) 2).trans rfl;have q10_3 := (zb M10.out.c3 3).trans rfl;have qA10_3 := fun o => (zb (ze M10.out.c3 o) 3).trans rfl;have q10_4 := (zb M10.out.c3 4).trans rfl;have qA10_4 := fun o => (zb (ze M10.out.c3 o) 4).trans rfl;have q10_5 := (zb M10.out.c3 5).trans rfl;have qA10_5 := fun o => (zb (ze M10.out.c3 o) 5).trans rfl;have s10_0 := (zb M10.out.c4 0).trans rfl;have sA10_0 := fun o => (zb (ze M10.out.c4 o) 0).trans rfl;have s10_1 := (zb M10.out.c4 1).trans rfl;have sA10_1 := fun o => (zb (ze M10.out.c4 o) 1).trans rfl;have s10_2 := (zb M10.out.c4 2).trans rfl;have sA10_2 := fun o => (zb (ze M10.out.c4 o) 2).trans rfl;have f10_0 := zc M10.out.c4 0;have fA10_0 := fun o => zc (ze M10.out.c4 o) 0;have f10_1 := zc M10.out.c4 1;have fA10_1 := fun o => zc (ze M10.out.c4 o) 1;have f10_2 := zc M10.out.c4 2;have fA10_2 := fun o => zc (ze M10.out.c4 o) 2)
   | (go_at_call 37;(with_reducible refine (zgZ w (fun k_ => P0_2_ k_ ∨ P1_2_ k_ ∨ P1_3_ k_) _ bs v10 l0_2 _ HI0.out ⟨D,⟨a1_0,a1_1,l1_2,l1_3,⟨a1_4,a1_5⟩⟩⟩ _ [.string D,.int .i64 a1_0,.int .i64 a1_1,.slice A1_2 l1_2.length c1_2,.slice A1_3 l1_3.length c1_3,.int .i64 a1_4,.int .i64 a1_5] ?io ?ih HX.out ?ig ?ib HL.out).mono ?_);(case io => first | exact HO.out | exact zhB HO.out (zi (Below.refl _ _) _));(case ih => first | exact zbp w10 _ | exact zo (zG (zbp _ _)) HB10.out | exact zo (zbp _ _) HB10.out);(case ig => intro he;first | exact absurd (HLT.out _ he.symm) (Nat.lt_irrefl _) | (have h1_ := HBS2.out _ he.symm;have h2_ := HBE.out;(try simp at h1_);omega));(case ib => first | exact HBL.out | exact Nat.le_trans HBL.out (by simp));rintro e w11 ⟨v11,rfl,hO,hg⟩;obtain ⟨A11,c11,rfl,_,_⟩ := zaS.reads hO;generalize (l0_2.take i0 ++ ⟨D,⟨a1_0,a1_1,l1_2,l1_3,⟨a1_4,a1_5⟩⟩⟩ :: l0_2.drop i0).length = n11 at hO ⊢;have M11 : za (zch w w11 g2 g3 w3.heap.size (.cells #[.int .i64 a0_0,.int .i64 a0_1,.slice A0_2 l0_2.length c0_2] 24 (0,0)) (.cells #[.int .i64 a1_0,.int .i64 a1_1,.slice A1_2 l1_2.length c1_2,.slice A1_3 l1_3.length c1_3,.int .i64 a1_4,.int .i64 a1_5] 32 (0,0)) (.cells #[.int .i64 0,.int .i64 0,.slice none 0 0] 24 (0,0))) := ⟨zch.grown M9.out (by repeat (first | (with_reducible first | exact M10.out | apply zch.alloc | apply zch.drew) | exact M10.out)) hg (fun k hk => HBS.out k hk)⟩;have HO11 := za.mk hO;clear hO hg;clear p10_0 pA10_0 p10_1 pA10_1 p10_2 pA10_2 q10_0 qA10_0 q10_1 qA10_1 q10_2 qA10_2 q10_3 qA10_3 q10_4 qA10_4 q10_5 qA10_5 s10_0 sA10_0 s10_1 sA10_1 s10_2 sA10_2 f10_0 fA10_0 f10_1 fA10_1 f10_2 fA10_2;have p11_0 := (zb M11.out.c2 0).trans rfl;have pA11_0 := fun o => (zb (ze M11.out.c2 o) 0).trans rfl;have p11_1 := (zb M11.out.c2 1).trans rfl;have pA11_1 := fun o => (zb (ze M11.out.c2 o) 1).trans rfl;have p11_2 := (zb M11.out.c2 2).trans rfl;have pA11_2 := fun o => (zb (ze M11.out.c2 o) 2).trans rfl;have q11_0 := (zb M11.out.c3 0).trans rfl;have qA11_0 := fun o => (zb (ze M11.out.c3 o) 0).trans rfl;have q11_1 := (zb M11.out.c3 1).trans rfl;have qA11_1 := fun o => (zb (ze M11.out.c3 o) 1).trans rfl;have q11_2 := (zb M11.out.c3 2).trans rfl;have qA11_2 := fun o => (zb (ze M11.out.c3 o) 2).trans rfl;have q11_3 := (zb M11.out.c3 3).trans rfl;have qA11_3 := fun o => (zb (ze M11.out.c3 o) 3).trans rfl;have q11_4 := (zb M11.out.c3 4).trans rfl;have qA11_4 := fun o => (zb (ze M11.out.c3 o) 4).trans rfl;have q11_5 := (zb M11.out.c3 5).trans rfl;have qA11_5 := fun o => (zb (ze M11.out.c3 o) 5).trans rfl;have s11_0 := (zb M11.out.c4 0).trans rfl;have sA11_0 := fun o => (zb (ze M11.out.c4 o) 0).trans rfl;have s11_1 := (zb M11.out.c4 1).trans rfl;have sA11_1 := fun o => (zb (ze M11.out.c4 o) 1).trans rfl;have s11_2 := (zb M11.out.c4 2).trans rfl;have sA11_2 := fun o => (zb (ze M11.out.c4 o) 2).trans rfl;have f11_0 := zc M11.out.c4 0;have fA11_0 := fun o => zc (ze M11.out.c4 o) 0;have f11_1 := zc M11.out.c4 1;have fA11_1 := fun o => zc (ze M11.out.c4 o) 1;have f11_2 := zc M11.out.c4 2;have fA11_2 := fun o => zc (ze M11.out.c4 o) 2;have fz2 := zc M11.out.c2 2))
  all_goals
   have n24 : g2 ≠ w3.heap.size := fun he => by have := zam M3.out.2.1;omega
   have n42 := Ne.symm n24
   go_wp2_with fail
   have b2 : g2 < bs := by have := zam M3.out.2.1;have := zj M9.out.b;have := HBE.out;have := zam M9.out.c2;omega
   have b9 : w.heap.size ≤ bs := by have h1 := zj M9.out.b;have h2 := HBE.out;omega
   have b4 : w3.heap.size < bs := by have := zam M9.out.c4;have := HBE.out;omega
   refine bodyPost_ret (zaW rfl _ _ w3.heap.size 24 _ (0,0) _ rfl (zM (zM (zM (zbS M11.out.c4 n42 _) 0 _) 1 _) 2 _) Try.underlying24 rfl (by kernel_rfl)) rfl ?_
   exact ⟨_,rfl,OwnE_V (zd0 (zd0 (zd0 (zd0 HO11.out (p := ⟨g2,2,none⟩) b2 _) (p := ⟨w3.heap.size,0,none⟩) b4 _) (p := ⟨w3.heap.size,1,none⟩) b4 _) (p := ⟨w3.heap.size,2,none⟩) b4 _) (zm (zm (zm (zm M11.out.b GE2.out) HLE.out) HLE.out) HLE.out) b9,zm (zm (zm (zm M11.out.b GE2.out) HLE.out) HLE.out) HLE.out⟩
theorem zh7 (o : Option Ent) : ∃ f1 f2 f3 f4 f5 f6 f7,zfh o = (f1,f2,f3,f4,f5,f6,f7,o.isSome) := by
 rcases o with _ | x
 ·exact ⟨_,_,_,_,_,_,_,rfl⟩
 ·exact ⟨_,_,_,_,_,_,_,rfl⟩
theorem zgN {a r : Int} {bs : List S78} {ps : List ByteArray} {x y n : Int} (h : (zY a r bs ps x y n).2 = 0) : zbm a r bs ps x y n = true := by
 by_cases hm : zbm a r bs ps x y n = true
 ·exact hm
 ·rw [zY,if_neg hm] at h
  exact absurd h (by decide)
theorem zgt {a r : Int} {bs : List S78} {ps : List ByteArray} {x y n : Int} (h : zbm a r bs ps x y n = true) : ps.length ≤ 64 := by
 obtain ⟨h0,_,_,_,_,_,_,_,_,h9⟩ := (zdo ..).1 h
 exact (zbY h0 h9).1
def zan.f (a0_0 : Int) (a0_1 : Int) (l0_2 : List (S34)) (a1_0 : Int) (a1_1 : Int) (l1_2 : List (S78)) (l1_3 : List ByteArray) (a1_4 : Int) (a1_5 : Int) : Option (Int × Int × List (S34) × Int) := if l0_2.length < 1466015503701 then some (a0_0,a0_1,zim a0_0 a0_1 l0_2 a1_0 a1_1 l1_2 l1_3 a1_4 a1_5,zeW a0_0 a0_1 l0_2 a1_0 a1_1 l1_2 l1_3 a1_4 a1_5) else none
theorem zan.calls (a0_0 : Int) (a0_1 : Int) (P0_2_ : Nat → Prop) (A0_2 : Option Addr) (c0_2 : Nat) (l0_2 : List (S34)) (a1_0 : Int) (a1_1 : Int) (P1_2_ : Nat → Prop) (A1_2 : Option Addr) (c1_2 : Nat) (l1_2 : List (S78)) (P1_3_ : Nat → Prop) (A1_3 : Option Addr) (c1_3 : Nat) (l1_3 : List ByteArray) (a1_4 : Int) (a1_5 : Int) (r1 : Int) (r2 : Int) (r3 : List (S34)) (r4 : Int) (w : World) (hs0_2 : Kd.V k34 34 w w.heap.size (fun k_ => P0_2_ k_) (.slice A0_2 l0_2.length c0_2) l0_2) (hs1_2 : Kd.V k78 78 w w.heap.size (fun k_ => P1_2_ k_) (.slice A1_2 l1_2.length c1_2) l1_2) (hs1_3 : Kd.V Kd.string 9 w w.heap.size (fun k_ => P1_3_ k_) (.slice A1_3 l1_3.length c1_3) l1_3) (h : zan.f a0_0 a0_1 l0_2 a1_0 a1_1 l1_2 l1_3 a1_4 a1_5 = some (r1,r2,r3,r4)) :
  Calls Try.prog 17 #[.agg #[.int .i64 a0_0,.int .i64 a0_1,.slice A0_2 l0_2.length c0_2],.agg #[.int .i64 a1_0,.int .i64 a1_1,.slice A1_2 l1_2.length c1_2,.slice A1_3 l1_3.length c1_3,.int .i64 a1_4,.int .i64 a1_5]] w fun e w' => ∃ v2_ : Value,e = .returned (.tuple #[.agg #[.int .i64 r1,.int .i64 r2,v2_],.int .i64 r4]) ∧ Kd.V k34 34 w' w.heap.size (fun k_ => ((P0_2_ k_ ∨ P1_2_ k_ ∨ P1_3_ k_) ∨ w.heap.size ≤ k_)) v2_ r3 ∧ Below w.heap.size w w' := by
 unfold zan.f at h
 split at h
 ·rename_i hl
  simp only [Option.some.injEq,Prod.mk.injEq] at h
  obtain ⟨rfl,rfl,rfl,rfl⟩ := h
  have hD := zc6 a1_0 a1_1 l1_2 l1_3 a1_4 a1_5 a0_0
  obtain ⟨f1,f2,f3,f4,f5,f6,f7,hF⟩ := zh7 (zb7 l0_2 (zY a1_0 a1_1 l1_2 l1_3 a1_4 a1_5 a0_0).1)
  obtain ⟨y1,y2,y3,y4,y5,y6,y7,hY⟩ := zh7 (byE l0_2 a1_0 a1_1)
  have hF' := congrArg some hF
  have hY' := congrArg some hY
  have hM : (zY a1_0 a1_1 l1_2 l1_3 a1_4 a1_5 a0_0).2 = 0 → zS.f a0_0 a0_1 l0_2 a1_0 a1_1 l1_2 l1_3 a1_4 a1_5 = some (zbV l0_2 a0_1 a1_1 l1_3) := fun h0 => if_pos ⟨hl,by have := zgt (zgN h0);omega⟩
  by_cases hw : zeW a0_0 a0_1 l0_2 a1_0 a1_1 l1_2 l1_3 a1_4 a1_5 = 0
  ·have hwhy := hw
   unfold zeW at hw
   by_cases k1 : (zY a1_0 a1_1 l1_2 l1_3 a1_4 a1_5 a0_0).2 ≠ 0
   ·rw [if_pos k1] at hw;exact absurd hw k1
   rw [if_neg k1] at hw
   have k1' : (zY a1_0 a1_1 l1_2 l1_3 a1_4 a1_5 a0_0).2 = 0 := Decidable.not_not.1 k1
   by_cases k2 : a1_1 ≤ a0_1
   ·rw [if_pos k2] at hw;exact absurd hw (by decide)
   rw [if_neg k2] at hw
   by_cases k3 : (zb7 l0_2 (zY a1_0 a1_1 l1_2 l1_3 a1_4 a1_5 a0_0).1).isSome = true
   ·rw [if_pos k3] at hw;exact absurd hw (by decide)
   rw [if_neg k3] at hw
   by_cases k4 : (byE l0_2 a1_0 a1_1).isSome = true
   ·rw [if_pos k4] at hw;exact absurd hw (by decide)
   rw [if_neg k4] at hw
   by_cases k5 : 0 < (zbV l0_2 a0_1 a1_1 l1_3).length
   ·rw [if_pos k5] at hw;exact absurd hw (by decide)
   have key := putE_idx l0_2 ⟨(zY a1_0 a1_1 l1_2 l1_3 a1_4 a1_5 a0_0).1,⟨a1_0,a1_1,l1_2,l1_3,⟨a1_4,a1_5⟩⟩⟩
   obtain ⟨i0,hi0,hput,hI⟩ : ∃ i0,i0 ≤ l0_2.length ∧ zet l0_2 ⟨(zY a1_0 a1_1 l1_2 l1_3 a1_4 a1_5 a0_0).1,⟨a1_0,a1_1,l1_2,l1_3,⟨a1_4,a1_5⟩⟩⟩ = l0_2.take i0 ++ ⟨(zY a1_0 a1_1 l1_2 l1_3 a1_4 a1_5 a0_0).1,⟨a1_0,a1_1,l1_2,l1_3,⟨a1_4,a1_5⟩⟩⟩ :: l0_2.drop i0 ∧ (zcp (zan.p a1_0 a1_1 A1_2 l1_2.length c1_2 A1_3 l1_3.length c1_3 a1_4 a1_5) l0_2 = -1 ∧ i0 = l0_2.length ∨ zcp (zan.p a1_0 a1_1 A1_2 l1_2.length c1_2 A1_3 l1_3.length c1_3 a1_4 a1_5) l0_2 = i0) := by
    rcases key with ⟨h1,h2⟩ | ⟨i,h1,h2,h3⟩
    ·exact ⟨_,Nat.le_refl _,h2,.inl ⟨h1,rfl⟩⟩
    ·exact ⟨i,by omega,h3,.inr h2⟩
   rw [hwhy,zim,if_pos hwhy,hput]
   refine (zan.yes a0_0 a0_1 P0_2_ A0_2 c0_2 l0_2 a1_0 a1_1 P1_2_ A1_2 c1_2 l1_2 P1_3_ A1_3 c1_3 l1_3 a1_4 a1_5 _ _ _ _ _ _ _ _ _ _ _ _ _ _ _ _ _ _ _ i0 hi0 w hs0_2 hs1_2 hs1_3 hD hF' hY' hl (hM k1') (bne_eq_false_iff_eq.2 k1') (decide_eq_false k2) (Bool.eq_false_iff.2 k3) (Bool.eq_false_iff.2 k4) (decide_eq_false k5) (decide_eq_false (by omega)) hI).mono ?_
   rintro e w' h
   exact h
  ·rw [zim,if_neg hw]
   refine (zan.not a0_0 a0_1 P0_2_ A0_2 c0_2 l0_2 a1_0 a1_1 P1_2_ A1_2 c1_2 l1_2 P1_3_ A1_3 c1_3 l1_3 a1_4 a1_5 _ _ _ _ (zbV l0_2 a0_1 a1_1 l1_3) _ _ _ _ _ _ _ _ _ _ _ _ _ _ (zeW a0_0 a0_1 l0_2 a1_0 a1_1 l1_2 l1_3 a1_4 a1_5) w hs0_2 hs1_2 hs1_3 hD hF' hY' (fun k1 _ => hM (bne_eq_false_iff_eq.1 k1)) ?_).mono ?_
   ·unfold zeW at hw ⊢
    by_cases k1 : (zY a1_0 a1_1 l1_2 l1_3 a1_4 a1_5 a0_0).2 ≠ 0
    ·rw [if_pos k1];exact .inl ⟨bne_iff_ne.2 k1,rfl⟩
    rw [if_neg k1] at hw ⊢
    have k1' := bne_eq_false_iff_eq.2 (Decidable.not_not.1 k1)
    by_cases k2 : a1_1 ≤ a0_1
    ·rw [if_pos k2];exact .inr (.inl ⟨k1',decide_eq_true k2,rfl⟩)
    rw [if_neg k2] at hw ⊢
    by_cases k3 : (zb7 l0_2 (zY a1_0 a1_1 l1_2 l1_3 a1_4 a1_5 a0_0).1).isSome = true
    ·rw [if_pos k3];exact .inr (.inr (.inl ⟨k1',decide_eq_false k2,k3,rfl⟩))
    rw [if_neg k3] at hw ⊢
    by_cases k4 : (byE l0_2 a1_0 a1_1).isSome = true
    ·rw [if_pos k4];exact .inr (.inr (.inr (.inl ⟨k1',decide_eq_false k2,Bool.eq_false_iff.2 k3,k4,rfl⟩)))
    rw [if_neg k4] at hw ⊢
    by_cases k5 : 0 < (zbV l0_2 a0_1 a1_1 l1_3).length
    ·rw [if_pos k5];exact .inr (.inr (.inr (.inr ⟨k1',decide_eq_false k2,Bool.eq_false_iff.2 k3,Bool.eq_false_iff.2 k4,decide_eq_true k5,decide_eq_true (by omega),rfl⟩)))
    ·rw [if_neg k5] at hw;exact absurd rfl hw
   ·rintro e w' ⟨rfl,hb⟩
    exact ⟨_,rfl,Kd.V_map (Kd.V_below hs0_2 hb) (fun _ hf => Kd.F_mono hf (fun _ hk => .inl (.inl hk))),hb⟩
 ·cases h
end Go.Proofs.Ytndjfdakflaggaa.Px