/- Part 11 of 15 of the proof of the law DagPastOne: what is proved is the statement at the end of the last part; its conditions are those of the given row. -/
import Derived.Test.YtndjfdakflaggaaZDagPastOneJ
namespace Go.Proofs.Ytndjfdakflaggaa.Px
open Go.RowKit Go.Proofs.YtndjfdakflaggaaW.PrintWords Go.Proofs.YtndjfdakflaggaaW.PrintLast Go.Proofs.YtndjfdakflaggaaW.PrintMore
attribute [local go_sem] zC zE zI zJ zu zv zD zF
set_option linter.unusedVariables false
set_option linter.unusedSimpArgs false
def zaE.p (a r : Int) (B2 : Option Addr) (m2 d2 : Nat) (B3 : Option Addr) (m3 d3 : Nat) (sx sy : Int) (e : S34) : Bool := zbe a r e.f1.f0 e.f1.f1
set_option maxHeartbeats 4000000 in
set_option maxRecDepth 100000 in
theorem zaE.odd (a r : Int) (B2 : Option Addr) (m2 d2 : Nat) (B3 : Option Addr) (m3 d3 : Nat) (sx sy : Int) (x0 : ByteArray) (x1 x2 : Int) (A3 : Option Addr) (n3 c3 : Nat) (A4 : Option Addr) (n4 c4 : Nat) (x5 x6 : Int) (g : Nat) (w : World) (hg : w.heap[g]? = some (.cells #[.int .i64 a,.int .i64 r,.slice B2 m2 d2,.slice B3 m3 d3,.int .i64 sx,.int .i64 sy] 32 (0,0))) :
  Calls Try.prog 35 #[.agg #[.string x0,.int .i64 x1,.int .i64 x2,.slice A3 n3 c3,.slice A4 n4 c4,.int .i64 x5,.int .i64 x6],.pointer (some ⟨g,0,none⟩)] w fun e w' => e = .returned (.bool (zbe a r x1 x2)) ∧ Below w.heap.size w w' := by
 have Hg := za.mk hg
 clear hg
 go_enter Try.func35,Try.ntmps35
 go_wp2_with (first
  | ((with_reducible refine zq (N := 2) rfl ?_);refine zn rfl (N := 2) rfl (cs := #[.string x0,.int .i64 x1,.int .i64 x2,.slice A3 n3 c3,.slice A4 n4 c4,.int .i64 x5,.int .i64 x6]) (t := 34) hrq ?_;intro gb hg w2 hbox hb;have BK := za.mk hbox;have HB := za.mk hb;have Ng := za.mk (zr Hg.out hb);have z_0 := (zb BK.out 0).trans rfl;have zf_0 := zc BK.out 0;have z_1 := (zb BK.out 1).trans rfl;have zf_1 := zc BK.out 1;have z_2 := (zb BK.out 2).trans rfl;have zf_2 := zc BK.out 2;have z_3 := (zb BK.out 3).trans rfl;have zf_3 := zc BK.out 3;have z_4 := (zb BK.out 4).trans rfl;have zf_4 := zc BK.out 4;have z_5 := (zb BK.out 5).trans rfl;have zf_5 := zc BK.out 5;have z_6 := (zb BK.out 6).trans rfl;have zf_6 := zc BK.out 6;have zg_0 := (zb Ng.out 0).trans rfl;have zgf_0 := zc Ng.out 0;have zg_1 := (zb Ng.out 1).trans rfl;have zgf_1 := zc Ng.out 1;have zg_2 := (zb Ng.out 2).trans rfl;have zgf_2 := zc Ng.out 2;have zg_3 := (zb Ng.out 3).trans rfl;have zgf_3 := zc Ng.out 3;have zg_4 := (zb Ng.out 4).trans rfl;have zgf_4 := zc Ng.out 4;have zg_5 := (zb Ng.out 5).trans rfl;have zgf_5 := zc Ng.out 5;clear hb hbox hg)
  | (go_at_call 36;(with_reducible refine (ze6.walk a r _ _ _ _ _ _ sx sy x1 x2 _ _ _ _ _ _ x5 x6 _).mono ?_);rintro e w3 ⟨rfl,hb⟩;have HB3 := za.mk (zf HB.out hb);clear hb))
 go_ret
 exact ⟨rfl,HB3.out⟩
set_option maxHeartbeats 4000000 in
set_option maxRecDepth 100000 in
theorem zaE.idx (a r : Int) (B2 : Option Addr) (m2 d2 : Nat) (B3 : Option Addr) (m3 d3 : Nat) (sx sy : Int) (g : Nat) (A : Option Addr) (c : Nat) (l : List S34) (w : World) (hr : Kd.C k34 w A l.length l) (hg : w.heap[g]? = some (.cells #[.int .i64 a,.int .i64 r,.slice B2 m2 d2,.slice B3 m3 d3,.int .i64 sx,.int .i64 sy] 32 (0,0))) :
  Calls Try.prog 34 #[.slice A l.length c,.func (.func 35) #[] #[.pointer (some ⟨g,0,none⟩)]] w fun e w' => e = .returned (.int .i64 (zcX (zaE.p a r B2 m2 d2 B3 m3 d3 sx sy) l)) ∧ Below w.heap.size w w' := by
 have hm := hr.2.1
 have HR := za.mk hr
 have Hg := za.mk hg
 clear hr hg
 go_enter Try.func34,Try.ntmps34
 go_wp2_with fail
 have HB0 := za.mk (Below.refl w.heap.size w)
 go_loopw [5,8] (fun v5 v8 wr => ∃ k : Nat,v8 = .int .i64 k ∧ k ≤ l.length ∧ za (∀ (j : Nat) (y : S34),j < k → l[j]? = some y → zaE.p a r B2 m2 d2 B3 m3 d3 sx sy y = false) ∧ za (Below w.heap.size w wr)) (fun _ v8 _ => l.length - (match v8 with | .int _ q => q | _ => 0).toNat)
 case atStart => exact ⟨0,rfl,Nat.zero_le _,⟨fun j y hj => absurd hj (Nat.not_lt_zero _)⟩,⟨by repeat (first | (with_reducible first | exact HB0.out | apply zm | apply zj | apply zp) | exact HB0.out)⟩⟩
 case round =>
  obtain ⟨k,rfl,hk,HF,HB⟩ := hrel
  by_cases hlt : k < l.length
  ·obtain ⟨ad,A3,c3,A4,c4,rfl,hx0,hx1,hx2,hx3,hx4,hx5,hx6,_,_,_,_⟩ := za7 HR.out (k : Int) (by omega) (by omega)
   replace hx0 := (HB.out.cell (World.block_lt_of_cell? w _ hx0)).trans hx0
   replace hx1 := (HB.out.cell (World.block_lt_of_cell? w _ hx1)).trans hx1
   replace hx2 := (HB.out.cell (World.block_lt_of_cell? w _ hx2)).trans hx2
   replace hx3 := (HB.out.cell (World.block_lt_of_cell? w _ hx3)).trans hx3
   replace hx4 := (HB.out.cell (World.block_lt_of_cell? w _ hx4)).trans hx4
   replace hx5 := (HB.out.cell (World.block_lt_of_cell? w _ hx5)).trans hx5
   replace hx6 := (HB.out.cell (World.block_lt_of_cell? w _ hx6)).trans hx6
   rw [Int.toNat_natCast] at hx0 hx1 hx2 hx3 hx4 hx5 hx6
   have hb : decide (k < l.length) = true := decide_eq_true hlt
   have hx : l[k]? = some (zd l (k : Int)) := by
    rw [zd,Int.toNat_natCast,List.getD_eq_getElem?_getD,List.getElem?_eq_getElem hlt];rfl
   have HX := za.mk hx
   have Ng := za.mk (zr Hg.out HB.out)
   clear hx
   generalize zd l (k : Int) = s at *
   obtain ⟨s0,⟨s1,s2,s3,s4,⟨s5,s6⟩⟩⟩ := s
   rcases ho : zaE.p a r B2 m2 d2 B3 m3 d3 sx sy ⟨s0,⟨s1,s2,s3,s4,⟨s5,s6⟩⟩⟩ with _ | _
   ·have HO := za.mk ho
    clear ho
    go_wp2_with (go_at_call 35;(with_reducible refine (zaE.odd a r B2 m2 d2 B3 m3 d3 sx sy s0 s1 s2 _ _ _ _ _ _ s5 s6 g _ Ng.out).mono ?_);rintro e w1 ⟨rfl,hb1⟩;rw [show (zbe a r s1 s2) = _ from HO.out];have HB1 := za.mk (zf HB.out hb1);clear hb1)
    go_roundw
    case rel =>
     refine ⟨k + 1,by go_num,by omega,⟨fun j y hj hy => ?_⟩,HB1⟩
     rcases Nat.lt_succ_iff_lt_or_eq.1 hj with h | h
     ·exact HF.out j y h hy
     ·subst h
      rw [HX.out] at hy
      injection hy with hy
      subst hy
      exact HO.out
    case measure => simp;omega
   ·have HO := za.mk ho
    clear ho
    go_wp2_with (go_at_call 35;(with_reducible refine (zaE.odd a r B2 m2 d2 B3 m3 d3 sx sy s0 s1 s2 _ _ _ _ _ _ s5 s6 g _ Ng.out).mono ?_);rintro e w1 ⟨rfl,hb1⟩;rw [show (zbe a r s1 s2) = _ from HO.out];have HB1 := za.mk (zf HB.out hb1);clear hb1)
    go_ret
    exact ⟨by rw [zdx HX.out HO.out HF.out];rfl,HB1.out⟩
  ·obtain rfl : k = l.length := by omega
   go_wp2_with fail
   go_ret
   exact ⟨by rw [zdy (fun j y hy => HF.out j y (List.getElem?_eq_some_iff.1 hy).1 hy)];rfl,HB.out⟩
theorem putE_idx (L : List Ent) (x : Ent) : (zcX (fun y : Ent => zbe x.f1.f0 x.f1.f1 y.f1.f0 y.f1.f1) L = -1 ∧ zff L x = L.take L.length ++ x :: L.drop L.length) ∨ ∃ i : Nat,i < L.length ∧ zcX (fun y : Ent => zbe x.f1.f0 x.f1.f1 y.f1.f0 y.f1.f1) L = i ∧ zff L x = L.take i ++ x :: L.drop i := by
 induction L with
 | nil => exact .inl ⟨rfl,rfl⟩
 | cons y L ih =>
  by_cases h : zbe x.f1.f0 x.f1.f1 y.f1.f0 y.f1.f1 = true
  ·refine .inr ⟨0,by simp,?_,?_⟩
   ·exact zdx (k := 0) (x := y) rfl h (fun j _ hj => absurd hj (Nat.not_lt_zero _))
   ·rw [zff,if_pos h];rfl
  ·have hi : zcX (fun y : Ent => zbe x.f1.f0 x.f1.f1 y.f1.f0 y.f1.f1) (y :: L) = if zcX (fun y : Ent => zbe x.f1.f0 x.f1.f1 y.f1.f0 y.f1.f1) L = -1 then -1 else zcX (fun y : Ent => zbe x.f1.f0 x.f1.f1 y.f1.f0 y.f1.f1) L + 1 := by
    unfold zcX
    rw [List.findIdx?_cons,if_neg h]
    rcases L.findIdx? (fun y : Ent => zbe x.f1.f0 x.f1.f1 y.f1.f0 y.f1.f1) with _ | i
    ·simp
    ·simp <;> omega
   rw [hi,zff,if_neg h]
   rcases ih with ⟨h1,h2⟩ | ⟨i,h1,h2,h3⟩
   ·left
    rw [if_pos h1,h2]
    exact ⟨rfl,by simp⟩
   ·right
    rw [if_neg (by omega),h2,h3]
    exact ⟨i + 1,by rw [List.length_cons];omega,by omega,rfl⟩
structure zcO (w W : World) (g2 g3 g4 : Nat) (o2 o3 o4 : Obj) : Prop where
 b : Below w.heap.size w W
 c2 : W.heap[g2]? = some o2
 c3 : W.heap[g3]? = some o3
 c4 : W.heap[g4]? = some o4
theorem zcO.step {w W W' : World} {g2 g3 g4 : Nat} {o2 o3 o4 : Obj} (h : zcO w W g2 g3 g4 o2 o3 o4) (hb : Below W.heap.size W W') : zcO w W' g2 g3 g4 o2 o3 o4 := ⟨zf h.b hb,zr h.c2 hb,zr h.c3 hb,zr h.c4 hb⟩
theorem zcO.drew {w W : World} {g2 g3 g4 : Nat} {o2 o3 o4 : Obj} (h : zcO w W g2 g3 g4 o2 o3 o4) : zcO w W.drew g2 g3 g4 o2 o3 o4 := ⟨zp h.b,zaa h.c2,zaa h.c3,zaa h.c4⟩
theorem zcO.grown {w w8 W W' : World} {g2 g3 g4 : Nat} {o2 o3 o4 : Obj} (h8 : zcO w w8 g2 g3 g4 o2 o3 o4) (h : zcO w W g2 g3 g4 o2 o3 o4) {row : Option Nat} (hg : W.grownBy W' row) (hr : ∀ k,row = some k → w8.heap.size ≤ k) : zcO w W' g2 g3 g4 o2 o3 o4 :=
 have n := fun {g : Nat} {o : Obj} (hc : w8.heap[g]? = some o) => show some g ≠ row from fun he => by have := hr g he.symm;have := zaF hc;omega
 ⟨zde h.b row (zh h.b) hg (fun k hk => Nat.le_trans (zh h8.b) (hr k hk)),zaV h.c2 hg (n h8.c2),zaV h.c3 hg (n h8.c3),zaV h.c4 hg (n h8.c4)⟩
theorem zeI {w0 W : World} {P : Nat → Prop} {base : Nat} {v : Value} {L : List Ent} (h : ze2 w0 P W base v L) {p : Addr} (hp : p.block < base) (u : Value) : ze2 w0 P (W.setCell p u) base v L := by
 obtain ⟨inner,ho,hr⟩ := h
 exact ⟨inner,zgm ho (fun k hk => Below.heap_setCell W p u k (fun e => by have := zcd ho k hk;omega)),hr⟩
theorem OwnE_base {w0 W : World} {P : Nat → Prop} {base : Nat} {v : Value} {L : List Ent} (h : ze2 w0 P W base v L) : ∀ k,v.ownBlock = some k → base ≤ k := by
 obtain ⟨inner,ho,hr⟩ := h
 exact zcd ho
theorem OwnE_lt {w0 W : World} {P : Nat → Prop} {base : Nat} {v : Value} {L : List Ent} (h : ze2 w0 P W base v L) : ∀ k,v.ownBlock = some k → k < W.heap.size := by
 obtain ⟨inner,ho,hr⟩ := h
 exact zgl ho
theorem zit {w0 W W' : World} {P : Nat → Prop} {base : Nat} {v : Value} {L : List Ent} (h : ze2 w0 P W base v L) (hb : Below W.heap.size W W') : ze2 w0 P W' base v L := by
 obtain ⟨inner,ho,hr⟩ := h
 exact ⟨inner,zb7 ho hb,hr⟩
theorem zcO.alloc {w W : World} {g2 g3 g4 : Nat} {o2 o3 o4 : Obj} (h : zcO w W g2 g3 g4 o2 o3 o4) (o : Obj) : zcO w (W.alloc o) g2 g3 g4 o2 o3 o4 := h.step (Below.alloc (Below.refl _ _) (Nat.le_refl _) o)
set_option maxHeartbeats 16000000 in
set_option maxRecDepth 100000 in
theorem zaE.not (a0_0 : Int) (a0_1 : Int) (P0_2_ : Nat → Prop) (A0_2 : Option Addr) (c0_2 : Nat) (l0_2 : List (S34)) (a1_0 : Int) (a1_1 : Int) (P1_2_ : Nat → Prop) (A1_2 : Option Addr) (c1_2 : Nat) (l1_2 : List (S78)) (P1_3_ : Nat → Prop) (A1_3 : Option Addr) (c1_3 : Nat) (l1_3 : List ByteArray) (a1_4 : Int) (a1_5 : Int) (D : ByteArray) (e1 : Int) (fnd by_ : Bool) (lost : List ByteArray) (f1 : ByteArray) (f2 f3 : Int) (f4 : List S78) (f5 : List ByteArray) (f6 f7 : Int) (y1 : ByteArray) (y2 y3 : Int) (y4 : List S78) (y5 : List ByteArray) (y6 y7 : Int) (why : Int) (w : World) (hs0_2 : Kd.V k34 34 w w.heap.size (fun k_ => P0_2_ k_) (.slice A0_2 l0_2.length c0_2) l0_2) (hs1_2 : Kd.V k78 78 w w.heap.size (fun k_ => P1_2_ k_) (.slice A1_2 l1_2.length c1_2) l1_2) (hs1_3 : Kd.V Kd.string 9 w w.heap.size (fun k_ => P1_3_ k_) (.slice A1_3 l1_3.length c1_3) l1_3) (hD : za4.f a1_0 a1_1 l1_2 l1_3 a1_4 a1_5 a0_0 = some (D,e1)) (hF : z6.f a0_0 a0_1 l0_2 D = some (f1,f2,f3,f4,f5,f6,f7,fnd)) (hY : zbE.f a0_0 a0_1 l0_2 a1_0 a1_1 = some (y1,y2,y3,y4,y5,y6,y7,by_))
  (hM : (e1 != 0) = false → decide (a1_1 ≤ a0_1) = false → zaf.f a0_0 a0_1 l0_2 a1_0 a1_1 l1_2 l1_3 a1_4 a1_5 = some lost)
  (hw : ((e1 != 0) = true ∧ why = e1) ∨ ((e1 != 0) = false ∧ decide (a1_1 ≤ a0_1) = true ∧ why = 9) ∨ ((e1 != 0) = false ∧ decide (a1_1 ≤ a0_1) = false ∧ fnd = true ∧ why = 8) ∨ ((e1 != 0) = false ∧ decide (a1_1 ≤ a0_1) = false ∧ fnd = false ∧ by_ = true ∧ why = 13) ∨ ((e1 != 0) = false ∧ decide (a1_1 ≤ a0_1) = false ∧ fnd = false ∧ by_ = false ∧ decide (0 < lost.length) = true ∧ decide ((0 : Int) < (lost.length : Int)) = true ∧ why = 11)) :
  Calls Try.prog 17 #[.agg #[.int .i64 a0_0,.int .i64 a0_1,.slice A0_2 l0_2.length c0_2],.agg #[.int .i64 a1_0,.int .i64 a1_1,.slice A1_2 l1_2.length c1_2,.slice A1_3 l1_3.length c1_3,.int .i64 a1_4,.int .i64 a1_5]] w fun e w' => e = .returned (.tuple #[.agg #[.int .i64 a0_0,.int .i64 a0_1,.slice A0_2 l0_2.length c0_2],.int .i64 why]) ∧ Below w.heap.size w w' := by
 have HS := za.mk hs0_2
 have HS2 := za.mk hs1_2
 have HS3 := za.mk hs1_3
 have HC := za.mk (Kd.V_reads' hs0_2).2.1
 have HC2 := za.mk (Kd.V_reads' hs1_2).2.1
 have HC3 := za.mk (Kd.V_reads' hs1_3).2.1
 have HD := za.mk hD
 have HF := za.mk hF
 have HY := za.mk hY
 clear hs0_2 hs1_2 hs1_3 hD hF hY
 have HM := za.mk hM
 clear hM
 rcases hw with ⟨d1,rfl⟩ | ⟨d1,d2,rfl⟩ | ⟨d1,d2,rfl,rfl⟩ | ⟨d1,d2,rfl,rfl,rfl⟩ | ⟨d1,d2,rfl,rfl,d5,d6,rfl⟩
 all_goals
  go_enter Try.func17,Try.ntmps17
  go_wp2_with (first
   | ((with_reducible refine zq (N := 2) rfl ?_);refine zn rfl (N := 2) rfl (cs := #[.int .i64 a0_0,.int .i64 a0_1,.slice A0_2 l0_2.length c0_2]) (t := 24) hrq ?_;intro g2 hg w2 hbox hb;have B2 := za.mk hbox;have HB2 := za.mk hb;have GE2 : za (w.heap.size ≤ g2) := ⟨by rw [hg];exact Nat.le_refl _⟩;clear hb hbox hg)
   | ((with_reducible refine zq (N := 3) rfl ?_);refine zn rfl (N := 3) rfl (cs := #[.int .i64 a1_0,.int .i64 a1_1,.slice A1_2 l1_2.length c1_2,.slice A1_3 l1_3.length c1_3,.int .i64 a1_4,.int .i64 a1_5]) (t := 32) hrq ?_;intro g3 hg w3 hbox hb;have M3 : za (Below w.heap.size w w3 ∧ w3.heap[g2]? = some (.cells #[.int .i64 a0_0,.int .i64 a0_1,.slice A0_2 l0_2.length c0_2] 24 (0,0)) ∧ w3.heap[g3]? = some (.cells #[.int .i64 a1_0,.int .i64 a1_1,.slice A1_2 l1_2.length c1_2,.slice A1_3 l1_3.length c1_3,.int .i64 a1_4,.int .i64 a1_5] 32 (0,0))) := ⟨zf HB2.out hb,zr B2.out hb,hbox⟩;have p0_0 := fun o => (zb (zg M3.out.2.1 o) 0).trans rfl;have p0_1 := fun o => (zb (zg M3.out.2.1 o) 1).trans rfl;have p0_2 := fun o => (zb (zg M3.out.2.1 o) 2).trans rfl;have q0_0 := fun o => (zb (zg M3.out.2.2 o) 0).trans rfl;have q0_1 := fun o => (zb (zg M3.out.2.2 o) 1).trans rfl;have q0_2 := fun o => (zb (zg M3.out.2.2 o) 2).trans rfl;have q0_3 := fun o => (zb (zg M3.out.2.2 o) 3).trans rfl;have q0_4 := fun o => (zb (zg M3.out.2.2 o) 4).trans rfl;have q0_5 := fun o => (zb (zg M3.out.2.2 o) 5).trans rfl;clear hb hbox hg)
   | (go_at_call 31;(with_reducible refine (za4.calls a1_0 a1_1 _ _ l1_2 _ _ l1_3 a1_4 a1_5 a0_0 D _ _ (Kd.C_below (Kd.V_reads' HS2.out).2.2 (zm M3.out.1 _)) HC2.out (Kd.C_below (Kd.V_reads' HS3.out).2.2 (zm M3.out.1 _)) HC3.out HD.out).mono ?_);rintro e w5 ⟨rfl,hb⟩;clear p0_0 p0_1 p0_2 q0_0 q0_1 q0_2 q0_3 q0_4 q0_5;have M5 : za (zcO w w5 g2 g3 w3.heap.size (.cells #[.int .i64 a0_0,.int .i64 a0_1,.slice A0_2 l0_2.length c0_2] 24 (0,0)) (.cells #[.int .i64 a1_0,.int .i64 a1_1,.slice A1_2 l1_2.length c1_2,.slice A1_3 l1_3.length c1_3,.int .i64 a1_4,.int .i64 a1_5] 32 (0,0)) (.cells #[.int .i64 0,.int .i64 0,.slice none 0 0] 24 (0,0))) := ⟨⟨zf (zm M3.out.1 _) hb,zr (zg M3.out.2.1 _) hb,zr (zg M3.out.2.2 _) hb,zr (zbO w3 _) hb⟩⟩;clear hb;have HLE : za (w.heap.size ≤ w3.heap.size) := ⟨zh M3.out.1⟩;have p5_0 := (zb M5.out.c2 0).trans rfl;have pA5_0 := fun o => (zb (zg M5.out.c2 o) 0).trans rfl;have p5_1 := (zb M5.out.c2 1).trans rfl;have pA5_1 := fun o => (zb (zg M5.out.c2 o) 1).trans rfl;have p5_2 := (zb M5.out.c2 2).trans rfl;have pA5_2 := fun o => (zb (zg M5.out.c2 o) 2).trans rfl;have q5_0 := (zb M5.out.c3 0).trans rfl;have qA5_0 := fun o => (zb (zg M5.out.c3 o) 0).trans rfl;have q5_1 := (zb M5.out.c3 1).trans rfl;have qA5_1 := fun o => (zb (zg M5.out.c3 o) 1).trans rfl;have q5_2 := (zb M5.out.c3 2).trans rfl;have qA5_2 := fun o => (zb (zg M5.out.c3 o) 2).trans rfl;have q5_3 := (zb M5.out.c3 3).trans rfl;have qA5_3 := fun o => (zb (zg M5.out.c3 o) 3).trans rfl;have q5_4 := (zb M5.out.c3 4).trans rfl;have qA5_4 := fun o => (zb (zg M5.out.c3 o) 4).trans rfl;have q5_5 := (zb M5.out.c3 5).trans rfl;have qA5_5 := fun o => (zb (zg M5.out.c3 o) 5).trans rfl;have s5_0 := (zb M5.out.c4 0).trans rfl;have sA5_0 := fun o => (zb (zg M5.out.c4 o) 0).trans rfl;have s5_1 := (zb M5.out.c4 1).trans rfl;have sA5_1 := fun o => (zb (zg M5.out.c4 o) 1).trans rfl;have s5_2 := (zb M5.out.c4 2).trans rfl;have sA5_2 := fun o => (zb (zg M5.out.c4 o) 2).trans rfl;have f5_0 := zc M5.out.c4 0;have fA5_0 := fun o => zc (zg M5.out.c4 o) 0;have f5_1 := zc M5.out.c4 1;have fA5_1 := fun o => zc (zg M5.out.c4 o) 1;have f5_2 := zc M5.out.c4 2;have fA5_2 := fun o => zc (zg M5.out.c4 o) 2)
   | (go_at_call 8;(with_reducible refine (z6.calls a0_0 a0_1 (fun k_ => P0_2_ k_ ∧ k_ < w.heap.size) A0_2 c0_2 l0_2 D _ _ _ _ _ _ _ _ _ (Kd.V_map HS.out (fun _ hf => Kd.F_below (Kd.F_bound hf) M5.out.b)) HF.out).mono ?_);rintro e w6 ⟨v3,v4,rfl,hV3,hV4,hb⟩;obtain ⟨A3,c3,rfl⟩ := Kd.V_slice hV3;obtain ⟨A4,c4,rfl⟩ := Kd.V_slice hV4;clear p5_0 pA5_0 p5_1 pA5_1 p5_2 pA5_2 q5_0 qA5_0 q5_1 qA5_1 q5_2 qA5_2 q5_3 qA5_3 q5_4 qA5_4 q5_5 qA5_5 s5_0 sA5_0 s5_1 sA5_1 s5_2 sA5_2 f5_0 fA5_0 f5_1 fA5_1 f5_2 fA5_2;have M6 := za.mk (M5.out.step hb);clear hb hV3 hV4;have p6_0 := (zb M6.out.c2 0).trans rfl;have pA6_0 := fun o => (zb (zg M6.out.c2 o) 0).trans rfl;have p6_1 := (zb M6.out.c2 1).trans rfl;have pA6_1 := fun o => (zb (zg M6.out.c2 o) 1).trans rfl;have p6_2 := (zb M6.out.c2 2).trans rfl;have pA6_2 := fun o => (zb (zg M6.out.c2 o) 2).trans rfl;have q6_0 := (zb M6.out.c3 0).trans rfl;have qA6_0 := fun o => (zb (zg M6.out.c3 o) 0).trans rfl;have q6_1 := (zb M6.out.c3 1).trans rfl;have qA6_1 := fun o => (zb (zg M6.out.c3 o) 1).trans rfl;have q6_2 := (zb M6.out.c3 2).trans rfl;have qA6_2 := fun o => (zb (zg M6.out.c3 o) 2).trans rfl;have q6_3 := (zb M6.out.c3 3).trans rfl;have qA6_3 := fun o => (zb (zg M6.out.c3 o) 3).trans rfl;have q6_4 := (zb M6.out.c3 4).trans rfl;have qA6_4 := fun o => (zb (zg M6.out.c3 o) 4).trans rfl;have q6_5 := (zb M6.out.c3 5).trans rfl;have qA6_5 := fun o => (zb (zg M6.out.c3 o) 5).trans rfl;have s6_0 := (zb M6.out.c4 0).trans rfl;have sA6_0 := fun o => (zb (zg M6.out.c4 o) 0).trans rfl;have s6_1 := (zb M6.out.c4 1).trans rfl;have sA6_1 := fun o => (zb (zg M6.out.c4 o) 1).trans rfl;have s6_2 := (zb M6.out.c4 2).trans rfl;have sA6_2 := fun o => (zb (zg M6.out.c4 o) 2).trans rfl;have f6_0 := zc M6.out.c4 0;have fA6_0 := fun o => zc (zg M6.out.c4 o) 0;have f6_1 := zc M6.out.c4 1;have fA6_1 := fun o => zc (zg M6.out.c4 o) 1;have f6_2 := zc M6.out.c4 2;have fA6_2 := fun o => zc (zg M6.out.c4 o) 2)
   | (go_at_call 32;(with_reducible refine (zbE.calls a0_0 a0_1 (fun k_ => P0_2_ k_ ∧ k_ < w.heap.size) A0_2 c0_2 l0_2 a1_0 a1_1 _ _ _ _ _ _ _ _ _ (Kd.V_map HS.out (fun _ hf => Kd.F_below (Kd.F_bound hf) (zm M6.out.b _))) HY.out).mono ?_);rintro e w7 ⟨v3,v4,rfl,hV3,hV4,hb⟩;obtain ⟨A5,c5,rfl⟩ := Kd.V_slice hV3;obtain ⟨A6,c6,rfl⟩ := Kd.V_slice hV4;clear p6_0 pA6_0 p6_1 pA6_1 p6_2 pA6_2 q6_0 qA6_0 q6_1 qA6_1 q6_2 qA6_2 q6_3 qA6_3 q6_4 qA6_4 q6_5 qA6_5 s6_0 sA6_0 s6_1 sA6_1 s6_2 sA6_2 f6_0 fA6_0 f6_1 fA6_1 f6_2 fA6_2;have M7 := za.mk ((M6.out.alloc _).step hb);clear hb hV3 hV4;have p7_0 := (zb M7.out.c2 0).trans rfl;have pA7_0 := fun o => (zb (zg M7.out.c2 o) 0).trans rfl;have p7_1 := (zb M7.out.c2 1).trans rfl;have pA7_1 := fun o => (zb (zg M7.out.c2 o) 1).trans rfl;have p7_2 := (zb M7.out.c2 2).trans rfl;have pA7_2 := fun o => (zb (zg M7.out.c2 o) 2).trans rfl;have q7_0 := (zb M7.out.c3 0).trans rfl;have qA7_0 := fun o => (zb (zg M7.out.c3 o) 0).trans rfl;have q7_1 := (zb M7.out.c3 1).trans rfl;have qA7_1 := fun o => (zb (zg M7.out.c3 o) 1).trans rfl;have q7_2 := (zb M7.out.c3 2).trans rfl;have qA7_2 := fun o => (zb (zg M7.out.c3 o) 2).trans rfl;have q7_3 := (zb M7.out.c3 3).trans rfl;have qA7_3 := fun o => (zb (zg M7.out.c3 o) 3).trans rfl;have q7_4 := (zb M7.out.c3 4).trans rfl;have qA7_4 := fun o => (zb (zg M7.out.c3 o) 4).trans rfl;have q7_5 := (zb M7.out.c3 5).trans rfl;have qA7_5 := fun o => (zb (zg M7.out.c3 o) 5).trans rfl;have s7_0 := (zb M7.out.c4 0).trans rfl;have sA7_0 := fun o => (zb (zg M7.out.c4 o) 0).trans rfl;have s7_1 := (zb M7.out.c4 1).trans rfl;have sA7_1 := fun o => (zb (zg M7.out.c4 o) 1).trans rfl;have s7_2 := (zb M7.out.c4 2).trans rfl;have sA7_2 := fun o => (zb (zg M7.out.c4 o) 2).trans rfl;have f7_0 := zc M7.out.c4 0;have fA7_0 := fun o => zc (zg M7.out.c4 o) 0;have f7_1 := zc M7.out.c4 1;have fA7_1 := fun o => zc (zg M7.out.c4 o) 1;have f7_2 := zc M7.out.c4 2;have fA7_2 := fun o => zc (zg M7.out.c4 o) 2)
   | (go_at_call 33;(with_reducible refine (zaf.calls a0_0 a0_1 _ _ l0_2 a1_0 a1_1 _ _ l1_2 _ _ l1_3 a1_4 a1_5 lost _ (Kd.C_below (Kd.V_reads' HS.out).2.2 (zm M7.out.b _)) HC.out (Kd.C_below (Kd.V_reads' HS2.out).2.2 (zm M7.out.b _)) HC2.out (Kd.C_below (Kd.V_reads' HS3.out).2.2 (zm M7.out.b _)) HC3.out (HM.out d1 d2)).mono ?_);rintro e w8 ⟨v0,rfl,hR,hb⟩;obtain ⟨A7,c7,rfl⟩ := Kd.R_slice hR;clear p7_0 pA7_0 p7_1 pA7_1 p7_2 pA7_2 q7_0 qA7_0 q7_1 qA7_1 q7_2 qA7_2 q7_3 qA7_3 q7_4 qA7_4 q7_5 qA7_5 s7_0 sA7_0 s7_1 sA7_1 s7_2 sA7_2 f7_0 fA7_0 f7_1 fA7_1 f7_2 fA7_2;have M8 := za.mk ((M7.out.alloc _).step hb);clear hb hR;have p8_0 := (zb M8.out.c2 0).trans rfl;have pA8_0 := fun o => (zb (zg M8.out.c2 o) 0).trans rfl;have p8_1 := (zb M8.out.c2 1).trans rfl;have pA8_1 := fun o => (zb (zg M8.out.c2 o) 1).trans rfl;have p8_2 := (zb M8.out.c2 2).trans rfl;have pA8_2 := fun o => (zb (zg M8.out.c2 o) 2).trans rfl;have q8_0 := (zb M8.out.c3 0).trans rfl;have qA8_0 := fun o => (zb (zg M8.out.c3 o) 0).trans rfl;have q8_1 := (zb M8.out.c3 1).trans rfl;have qA8_1 := fun o => (zb (zg M8.out.c3 o) 1).trans rfl;have q8_2 := (zb M8.out.c3 2).trans rfl;have qA8_2 := fun o => (zb (zg M8.out.c3 o) 2).trans rfl;have q8_3 := (zb M8.out.c3 3).trans rfl;have qA8_3 := fun o => (zb (zg M8.out.c3 o) 3).trans rfl;have q8_4 := (zb M8.out.c3 4).trans rfl;have qA8_4 := fun o => (zb (zg M8.out.c3 o) 4).trans rfl;have q8_5 := (zb M8.out.c3 5).trans rfl;have qA8_5 := fun o => (zb (zg M8.out.c3 o) 5).trans rfl;have s8_0 := (zb M8.out.c4 0).trans rfl;have sA8_0 := fun o => (zb (zg M8.out.c4 o) 0).trans rfl;have s8_1 := (zb M8.out.c4 1).trans rfl;have sA8_1 := fun o => (zb (zg M8.out.c4 o) 1).trans rfl;have s8_2 := (zb M8.out.c4 2).trans rfl;have sA8_2 := fun o => (zb (zg M8.out.c4 o) 2).trans rfl;have f8_0 := zc M8.out.c4 0;have fA8_0 := fun o => zc (zg M8.out.c4 o) 0;have f8_1 := zc M8.out.c4 1;have fA8_1 := fun o => zc (zg M8.out.c4 o) 1;have f8_2 := zc M8.out.c4 2;have fA8_2 := fun o => zc (zg M8.out.c4 o) 2))
  first
   | (refine bodyPost_ret (zbi rfl _ _ w3.heap.size 24 _ (0,0) _ rfl (zX (zX (zX M8.out.c4 0 _) 1 _) 2 _) Try.underlying24 rfl (by kernel_rfl)) rfl ?_;exact ⟨rfl,zl (zl (zl M8.out.b HLE.out) HLE.out) HLE.out⟩)
   | (refine bodyPost_ret (zbi rfl _ _ w3.heap.size 24 _ (0,0) _ rfl (zX (zX (zX (M7.out.alloc _).c4 0 _) 1 _) 2 _) Try.underlying24 rfl (by kernel_rfl)) rfl ?_;exact ⟨rfl,zl (zl (zl (M7.out.alloc _).b HLE.out) HLE.out) HLE.out⟩)
   | (refine bodyPost_ret (zbi rfl _ _ w3.heap.size 24 _ (0,0) _ rfl (zX (zX (zX (M6.out.alloc _).c4 0 _) 1 _) 2 _) Try.underlying24 rfl (by kernel_rfl)) rfl ?_;exact ⟨rfl,zl (zl (zl (M6.out.alloc _).b HLE.out) HLE.out) HLE.out⟩)
   | (refine bodyPost_ret (zbi rfl _ _ w3.heap.size 24 _ (0,0) _ rfl (zX (zX (zX M5.out.c4 0 _) 1 _) 2 _) Try.underlying24 rfl (by kernel_rfl)) rfl ?_;exact ⟨rfl,zl (zl (zl M5.out.b HLE.out) HLE.out) HLE.out⟩)
set_option maxHeartbeats 16000000 in
set_option maxRecDepth 100000 in
theorem zaE.yes (a0_0 : Int) (a0_1 : Int) (P0_2_ : Nat → Prop) (A0_2 : Option Addr) (c0_2 : Nat) (l0_2 : List (S34)) (a1_0 : Int) (a1_1 : Int) (P1_2_ : Nat → Prop) (A1_2 : Option Addr) (c1_2 : Nat) (l1_2 : List (S78)) (P1_3_ : Nat → Prop) (A1_3 : Option Addr) (c1_3 : Nat) (l1_3 : List ByteArray) (a1_4 : Int) (a1_5 : Int) (D : ByteArray) (e1 : Int) (fnd by_ : Bool) (lost : List ByteArray) (f1 : ByteArray) (f2 f3 : Int) (f4 : List S78) (f5 : List ByteArray) (f6 f7 : Int) (y1 : ByteArray) (y2 y3 : Int) (y4 : List S78) (y5 : List ByteArray) (y6 y7 : Int) (i0 : Nat) (hi0 : i0 ≤ l0_2.length) (w : World) (hs0_2 : Kd.V k34 34 w w.heap.size (fun k_ => P0_2_ k_) (.slice A0_2 l0_2.length c0_2) l0_2) (hs1_2 : Kd.V k78 78 w w.heap.size (fun k_ => P1_2_ k_) (.slice A1_2 l1_2.length c1_2) l1_2) (hs1_3 : Kd.V Kd.string 9 w w.heap.size (fun k_ => P1_3_ k_) (.slice A1_3 l1_3.length c1_3) l1_3) (hD : za4.f a1_0 a1_1 l1_2 l1_3 a1_4 a1_5 a0_0 = some (D,e1)) (hF : z6.f a0_0 a0_1 l0_2 D = some (f1,f2,f3,f4,f5,f6,f7,fnd)) (hY : zbE.f a0_0 a0_1 l0_2 a1_0 a1_1 = some (y1,y2,y3,y4,y5,y6,y7,by_)) (hl : l0_2.length < 1466015503701)
  (hM : zaf.f a0_0 a0_1 l0_2 a1_0 a1_1 l1_2 l1_3 a1_4 a1_5 = some lost) (d1 : (e1 != 0) = false) (d2 : decide (a1_1 ≤ a0_1) = false) (d3 : fnd = false) (d4 : by_ = false) (d5 : decide (0 < lost.length) = false) (d6 : decide ((0 : Int) < (lost.length : Int)) = false)
  (hI : zcX (zaE.p a1_0 a1_1 A1_2 l1_2.length c1_2 A1_3 l1_3.length c1_3 a1_4 a1_5) l0_2 = -1 ∧ i0 = l0_2.length ∨ zcX (zaE.p a1_0 a1_1 A1_2 l1_2.length c1_2 A1_3 l1_3.length c1_3 a1_4 a1_5) l0_2 = i0) :
  Calls Try.prog 17 #[.agg #[.int .i64 a0_0,.int .i64 a0_1,.slice A0_2 l0_2.length c0_2],.agg #[.int .i64 a1_0,.int .i64 a1_1,.slice A1_2 l1_2.length c1_2,.slice A1_3 l1_3.length c1_3,.int .i64 a1_4,.int .i64 a1_5]] w fun e w' => ∃ v2_ : Value,e = .returned (.tuple #[.agg #[.int .i64 a0_0,.int .i64 a0_1,v2_],.int .i64 0]) ∧ Kd.V k34 34 w' w.heap.size (fun k_ => ((P0_2_ k_ ∨ P1_2_ k_ ∨ P1_3_ k_) ∨ w.heap.size ≤ k_)) v2_ (l0_2.take i0 ++ ⟨D,⟨a1_0,a1_1,l1_2,l1_3,⟨a1_4,a1_5⟩⟩⟩ :: l0_2.drop i0) ∧ Below w.heap.size w w' := by
 subst d3 d4
 have HS := za.mk hs0_2
 have HS2 := za.mk hs1_2
 have HS3 := za.mk hs1_3
 have HC := za.mk (Kd.V_reads' hs0_2).2.1
 have HC2 := za.mk (Kd.V_reads' hs1_2).2.1
 have HC3 := za.mk (Kd.V_reads' hs1_3).2.1
 have HFL : za (Kd.F k34 w (fun k_ => P0_2_ k_ ∨ P1_2_ k_ ∨ P1_3_ k_) A0_2 l0_2.length l0_2) := ⟨Kd.F_mono (Kd.V_at hs0_2).2.2 (fun _ hk => .inl hk)⟩
 have HX : za (RE w (fun k_ => P0_2_ k_ ∨ P1_2_ k_ ∨ P1_3_ k_) ⟨D,⟨a1_0,a1_1,l1_2,l1_3,⟨a1_4,a1_5⟩⟩⟩ [.string D,.int .i64 a1_0,.int .i64 a1_1,.slice A1_2 l1_2.length c1_2,.slice A1_3 l1_3.length c1_3,.int .i64 a1_4,.int .i64 a1_5]) := ⟨zfX w _ ⟨D,⟨a1_0,a1_1,l1_2,l1_3,⟨a1_4,a1_5⟩⟩⟩ (Kd.V_at hs1_2).2.1 (Kd.F_mono (Kd.V_at hs1_2).2.2 (fun _ hk => .inr (.inl hk))) (Kd.V_at hs1_3).2.1 (Kd.F_mono (Kd.V_at hs1_3).2.2 (fun _ hk => .inr (.inr hk)))⟩
 have HD := za.mk hD
 have HF := za.mk hF
 have HY := za.mk hY
 have HL := za.mk hl
 have HI0 := za.mk hi0
 have HM : za ((e1 != 0) = false → decide (a1_1 ≤ a0_1) = false → zaf.f a0_0 a0_1 l0_2 a1_0 a1_1 l1_2 l1_3 a1_4 a1_5 = some lost) := ⟨fun _ _ => hM⟩
 clear hs0_2 hs1_2 hs1_3 hD hF hY hM hl hi0
 obtain ⟨z,hz⟩ : ∃ z,z = zcX (zaE.p a1_0 a1_1 A1_2 l1_2.length c1_2 A1_3 l1_3.length c1_3 a1_4 a1_5) l0_2 := ⟨_,rfl⟩
 rw [← hz] at hI
 have HI := za.mk hz.symm
 have HZ := za.mk hI
 clear hz hI
 go_enter Try.func17,Try.ntmps17
 go_upto_if 62 with (first
  | ((with_reducible refine zq (N := 2) rfl ?_);refine zn rfl (N := 2) rfl (cs := #[.int .i64 a0_0,.int .i64 a0_1,.slice A0_2 l0_2.length c0_2]) (t := 24) hrq ?_;intro g2 hg w2 hbox hb;have B2 := za.mk hbox;have HB2 := za.mk hb;have GE2 : za (w.heap.size ≤ g2) := ⟨by rw [hg];exact Nat.le_refl _⟩;clear hb hbox hg)
  | ((with_reducible refine zq (N := 3) rfl ?_);refine zn rfl (N := 3) rfl (cs := #[.int .i64 a1_0,.int .i64 a1_1,.slice A1_2 l1_2.length c1_2,.slice A1_3 l1_3.length c1_3,.int .i64 a1_4,.int .i64 a1_5]) (t := 32) hrq ?_;intro g3 hg w3 hbox hb;have M3 : za (Below w.heap.size w w3 ∧ w3.heap[g2]? = some (.cells #[.int .i64 a0_0,.int .i64 a0_1,.slice A0_2 l0_2.length c0_2] 24 (0,0)) ∧ w3.heap[g3]? = some (.cells #[.int .i64 a1_0,.int .i64 a1_1,.slice A1_2 l1_2.length c1_2,.slice A1_3 l1_3.length c1_3,.int .i64 a1_4,.int .i64 a1_5] 32 (0,0))) := ⟨zf HB2.out hb,zr B2.out hb,hbox⟩;have p0_0 := fun o => (zb (zg M3.out.2.1 o) 0).trans rfl;have p0_1 := fun o => (zb (zg M3.out.2.1 o) 1).trans rfl;have p0_2 := fun o => (zb (zg M3.out.2.1 o) 2).trans rfl;have q0_0 := fun o => (zb (zg M3.out.2.2 o) 0).trans rfl;have q0_1 := fun o => (zb (zg M3.out.2.2 o) 1).trans rfl;have q0_2 := fun o => (zb (zg M3.out.2.2 o) 2).trans rfl;have q0_3 := fun o => (zb (zg M3.out.2.2 o) 3).trans rfl;have q0_4 := fun o => (zb (zg M3.out.2.2 o) 4).trans rfl;have q0_5 := fun o => (zb (zg M3.out.2.2 o) 5).trans rfl;clear hb hbox hg)
  | (go_at_call 31;(with_reducible refine (za4.calls a1_0 a1_1 _ _ l1_2 _ _ l1_3 a1_4 a1_5 a0_0 D _ _ (Kd.C_below (Kd.V_reads' HS2.out).2.2 (zm M3.out.1 _)) HC2.out (Kd.C_below (Kd.V_reads' HS3.out).2.2 (zm M3.out.1 _)) HC3.out HD.out).mono ?_);rintro e w5 ⟨rfl,hb⟩;clear p0_0 p0_1 p0_2 q0_0 q0_1 q0_2 q0_3 q0_4 q0_5;have M5 : za (zcO w w5 g2 g3 w3.heap.size (.cells #[.int .i64 a0_0,.int .i64 a0_1,.slice A0_2 l0_2.length c0_2] 24 (0,0)) (.cells #[.int .i64 a1_0,.int .i64 a1_1,.slice A1_2 l1_2.length c1_2,.slice A1_3 l1_3.length c1_3,.int .i64 a1_4,.int .i64 a1_5] 32 (0,0)) (.cells #[.int .i64 0,.int .i64 0,.slice none 0 0] 24 (0,0))) := ⟨⟨zf (zm M3.out.1 _) hb,zr (zg M3.out.2.1 _) hb,zr (zg M3.out.2.2 _) hb,zr (zbO w3 _) hb⟩⟩;clear hb;have HLE : za (w.heap.size ≤ w3.heap.size) := ⟨zh M3.out.1⟩;have p5_0 := (zb M5.out.c2 0).trans rfl;have pA5_0 := fun o => (zb (zg M5.out.c2 o) 0).trans rfl;have p5_1 := (zb M5.out.c2 1).trans rfl;have pA5_1 := fun o => (zb (zg M5.out.c2 o) 1).trans rfl;have p5_2 := (zb M5.out.c2 2).trans rfl;have pA5_2 := fun o => (zb (zg M5.out.c2 o) 2).trans rfl;have q5_0 := (zb M5.out.c3 0).trans rfl;have qA5_0 := fun o => (zb (zg M5.out.c3 o) 0).trans rfl;have q5_1 := (zb M5.out.c3 1).trans rfl;have qA5_1 := fun o => (zb (zg M5.out.c3 o) 1).trans rfl;have q5_2 := (zb M5.out.c3 2).trans rfl;have qA5_2 := fun o => (zb (zg M5.out.c3 o) 2).trans rfl;have q5_3 := (zb M5.out.c3 3).trans rfl;have qA5_3 := fun o => (zb (zg M5.out.c3 o) 3).trans rfl;have q5_4 := (zb M5.out.c3 4).trans rfl;have qA5_4 := fun o => (zb (zg M5.out.c3 o) 4).trans rfl;have q5_5 := (zb M5.out.c3 5).trans rfl;have qA5_5 := fun o => (zb (zg M5.out.c3 o) 5).trans rfl;have s5_0 := (zb M5.out.c4 0).trans rfl;have sA5_0 := fun o => (zb (zg M5.out.c4 o) 0).trans rfl;have s5_1 := (zb M5.out.c4 1).trans rfl;have sA5_1 := fun o => (zb (zg M5.out.c4 o) 1).trans rfl;have s5_2 := (zb M5.out.c4 2).trans rfl;have sA5_2 := fun o => (zb (zg M5.out.c4 o) 2).trans rfl;have f5_0 := zc M5.out.c4 0;have fA5_0 := fun o => zc (zg M5.out.c4 o) 0;have f5_1 := zc M5.out.c4 1;have fA5_1 := fun o => zc (zg M5.out.c4 o) 1;have f5_2 := zc M5.out.c4 2;have fA5_2 := fun o => zc (zg M5.out.c4 o) 2)
  | (go_at_call 8;(with_reducible refine (z6.calls a0_0 a0_1 (fun k_ => P0_2_ k_ ∧ k_ < w.heap.size) A0_2 c0_2 l0_2 D _ _ _ _ _ _ _ _ _ (Kd.V_map HS.out (fun _ hf => Kd.F_below (Kd.F_bound hf) M5.out.b)) HF.out).mono ?_);rintro e w6 ⟨v3,v4,rfl,hV3,hV4,hb⟩;obtain ⟨A3,c3,rfl⟩ := Kd.V_slice hV3;obtain ⟨A4,c4,rfl⟩ := Kd.V_slice hV4;clear p5_0 pA5_0 p5_1 pA5_1 p5_2 pA5_2 q5_0 qA5_0 q5_1 qA5_1 q5_2 qA5_2 q5_3 qA5_3 q5_4 qA5_4 q5_5 qA5_5 s5_0 sA5_0 s5_1 sA5_1 s5_2 sA5_2 f5_0 fA5_0 f5_1 fA5_1 f5_2 fA5_2;have M6 := za.mk (M5.out.step hb);clear hb hV3 hV4;have p6_0 := (zb M6.out.c2 0).trans rfl;have pA6_0 := fun o => (zb (zg M6.out.c2 o) 0).trans rfl;have p6_1 := (zb M6.out.c2 1).trans rfl;have pA6_1 := fun o => (zb (zg M6.out.c2 o) 1).trans rfl;have p6_2 := (zb M6.out.c2 2).trans rfl;have pA6_2 := fun o => (zb (zg M6.out.c2 o) 2).trans rfl;have q6_0 := (zb M6.out.c3 0).trans rfl;have qA6_0 := fun o => (zb (zg M6.out.c3 o) 0).trans rfl;have q6_1 := (zb M6.out.c3 1).trans rfl;have qA6_1 := fun o => (zb (zg M6.out.c3 o) 1).trans rfl;have q6_2 := (zb M6.out.c3 2).trans rfl;have qA6_2 := fun o => (zb (zg M6.out.c3 o) 2).trans rfl;have q6_3 := (zb M6.out.c3 3).trans rfl;have qA6_3 := fun o => (zb (zg M6.out.c3 o) 3).trans rfl;have q6_4 := (zb M6.out.c3 4).trans rfl;have qA6_4 := fun o => (zb (zg M6.out.c3 o) 4).trans rfl;have q6_5 := (zb M6.out.c3 5).trans rfl;have qA6_5 := fun o => (zb (zg M6.out.c3 o) 5).trans rfl;have s6_0 := (zb M6.out.c4 0).trans rfl;have sA6_0 := fun o => (zb (zg M6.out.c4 o) 0).trans rfl;have s6_1 := (zb M6.out.c4 1).trans rfl;have sA6_1 := fun o => (zb (zg M6.out.c4 o) 1).trans rfl;have s6_2 := (zb M6.out.c4 2).trans rfl;have sA6_2 := fun o => (zb (zg M6.out.c4 o) 2).trans rfl;have f6_0 := zc M6.out.c4 0;have fA6_0 := fun o => zc (zg M6.out.c4 o) 0;have f6_1 := zc M6.out.c4 1;have fA6_1 := fun o => zc (zg M6.out.c4 o) 1;have f6_2 := zc M6.out.c4 2;have fA6_2 := fun o => zc (zg M6.out.c4 o) 2)
  | (go_at_call 32;(with_reducible refine (zbE.calls a0_0 a0_1 (fun k_ => P0_2_ k_ ∧ k_ < w.heap.size) A0_2 c0_2 l0_2 a1_0 a1_1 _ _ _ _ _ _ _ _ _ (Kd.V_map HS.out (fun _ hf => Kd.F_below (Kd.F_bound hf) (zm M6.out.b _))) HY.out).mono ?_);rintro e w7 ⟨v3,v4,rfl,hV3,hV4,hb⟩;obtain ⟨A5,c5,rfl⟩ := Kd.V_slice hV3;obtain ⟨A6,c6,rfl⟩ := Kd.V_slice hV4;clear p6_0 pA6_0 p6_1 pA6_1 p6_2 pA6_2 q6_0 qA6_0 q6_1 qA6_1 q6_2 qA6_2 q6_3 qA6_3 q6_4 qA6_4 q6_5 qA6_5 s6_0 sA6_0 s6_1 sA6_1 s6_2 sA6_2 f6_0 fA6_0 f6_1 fA6_1 f6_2 fA6_2;have M7 := za.mk ((M6.out.alloc _).step hb);clear hb hV3 hV4;have p7_0 := (zb M7.out.c2 0).trans rfl;have pA7_0 := fun o => (zb (zg M7.out.c2 o) 0).trans rfl;have p7_1 := (zb M7.out.c2 1).trans rfl;have pA7_1 := fun o => (zb (zg M7.out.c2 o) 1).trans rfl;have p7_2 := (zb M7.out.c2 2).trans rfl;have pA7_2 := fun o => (zb (zg M7.out.c2 o) 2).trans rfl;have q7_0 := (zb M7.out.c3 0).trans rfl;have qA7_0 := fun o => (zb (zg M7.out.c3 o) 0).trans rfl;have q7_1 := (zb M7.out.c3 1).trans rfl;have qA7_1 := fun o => (zb (zg M7.out.c3 o) 1).trans rfl;have q7_2 := (zb M7.out.c3 2).trans rfl;have qA7_2 := fun o => (zb (zg M7.out.c3 o) 2).trans rfl;have q7_3 := (zb M7.out.c3 3).trans rfl;have qA7_3 := fun o => (zb (zg M7.out.c3 o) 3).trans rfl;have q7_4 := (zb M7.out.c3 4).trans rfl;have qA7_4 := fun o => (zb (zg M7.out.c3 o) 4).trans rfl;have q7_5 := (zb M7.out.c3 5).trans rfl;have qA7_5 := fun o => (zb (zg M7.out.c3 o) 5).trans rfl;have s7_0 := (zb M7.out.c4 0).trans rfl;have sA7_0 := fun o => (zb (zg M7.out.c4 o) 0).trans rfl;have s7_1 := (zb M7.out.c4 1).trans rfl;have sA7_1 := fun o => (zb (zg M7.out.c4 o) 1).trans rfl;have s7_2 := (zb M7.out.c4 2).trans rfl;have sA7_2 := fun o => (zb (zg M7.out.c4 o) 2).trans rfl;have f7_0 := zc M7.out.c4 0;have fA7_0 := fun o => zc (zg M7.out.c4 o) 0;have f7_1 := zc M7.out.c4 1;have fA7_1 := fun o => zc (zg M7.out.c4 o) 1;have f7_2 := zc M7.out.c4 2;have fA7_2 := fun o => zc (zg M7.out.c4 o) 2)
  | (go_at_call 33;(with_reducible refine (zaf.calls a0_0 a0_1 _ _ l0_2 a1_0 a1_1 _ _ l1_2 _ _ l1_3 a1_4 a1_5 lost _ (Kd.C_below (Kd.V_reads' HS.out).2.2 (zm M7.out.b _)) HC.out (Kd.C_below (Kd.V_reads' HS2.out).2.2 (zm M7.out.b _)) HC2.out (Kd.C_below (Kd.V_reads' HS3.out).2.2 (zm M7.out.b _)) HC3.out (HM.out d1 d2)).mono ?_);rintro e w8 ⟨v0,rfl,hR,hb⟩;obtain ⟨A7,c7,rfl⟩ := Kd.R_slice hR;clear p7_0 pA7_0 p7_1 pA7_1 p7_2 pA7_2 q7_0 qA7_0 q7_1 qA7_1 q7_2 qA7_2 q7_3 qA7_3 q7_4 qA7_4 q7_5 qA7_5 s7_0 sA7_0 s7_1 sA7_1 s7_2 sA7_2 f7_0 fA7_0 f7_1 fA7_1 f7_2 fA7_2;have M8 := za.mk ((M7.out.alloc _).step hb);clear hb hR;have p8_0 := (zb M8.out.c2 0).trans rfl;have pA8_0 := fun o => (zb (zg M8.out.c2 o) 0).trans rfl;have p8_1 := (zb M8.out.c2 1).trans rfl;have pA8_1 := fun o => (zb (zg M8.out.c2 o) 1).trans rfl;have p8_2 := (zb M8.out.c2 2).trans rfl;have pA8_2 := fun o => (zb (zg M8.out.c2 o) 2).trans rfl;have q8_0 := (zb M8.out.c3 0).trans rfl;have qA8_0 := fun o => (zb (zg M8.out.c3 o) 0).trans rfl;have q8_1 := (zb M8.out.c3 1).trans rfl;have qA8_1 := fun o => (zb (zg M8.out.c3 o) 1).trans rfl;have q8_2 := (zb M8.out.c3 2).trans rfl;have qA8_2 := fun o => (zb (zg M8.out.c3 o) 2).trans rfl;have q8_3 := (zb M8.out.c3 3).trans rfl;have qA8_3 := fun o => (zb (zg M8.out.c3 o) 3).trans rfl;have q8_4 := (zb M8.out.c3 4).trans rfl;have qA8_4 := fun o => (zb (zg M8.out.c3 o) 4).trans rfl;have q8_5 := (zb M8.out.c3 5).trans rfl;have qA8_5 := fun o => (zb (zg M8.out.c3 o) 5).trans rfl;have s8_0 := (zb M8.out.c4 0).trans rfl;have sA8_0 := fun o => (zb (zg M8.out.c4 o) 0).trans rfl;have s8_1 := (zb M8.out.c4 1).trans rfl;have sA8_1 := fun o => (zb (zg M8.out.c4 o) 1).trans rfl;have s8_2 := (zb M8.out.c4 2).trans rfl;have sA8_2 := fun o => (zb (zg M8.out.c4 o) 2).trans rfl;have f8_0 := zc M8.out.c4 0;have fA8_0 := fun o => zc (zg M8.out.c4 o) 0;have f8_1 := zc M8.out.c4 1;have fA8_1 := fun o => zc (zg M8.out.c4 o) 1;have f8_2 := zc M8.out.c4 2;have fA8_2 := fun o => zc (zg M8.out.c4 o) 2)
  | (go_at_call 34;(with_reducible refine (zaE.idx a1_0 a1_1 A1_2 l1_2.length c1_2 A1_3 l1_3.length c1_3 a1_4 a1_5 g3 A0_2 c0_2 l0_2 _ (Kd.C_below (Kd.V_reads' HS.out).2.2 M8.out.b) M8.out.c3).mono ?_);rintro e w9 ⟨rfl,hb⟩;rw [HI.out];clear p8_0 pA8_0 p8_1 pA8_1 p8_2 pA8_2 q8_0 qA8_0 q8_1 qA8_1 q8_2 qA8_2 q8_3 qA8_3 q8_4 qA8_4 q8_5 qA8_5 s8_0 sA8_0 s8_1 sA8_1 s8_2 sA8_2 f8_0 fA8_0 f8_1 fA8_1 f8_2 fA8_2;have M9 := za.mk (M8.out.step hb);clear hb;have p9_0 := (zb M9.out.c2 0).trans rfl;have pA9_0 := fun o => (zb (zg M9.out.c2 o) 0).trans rfl;have p9_1 := (zb M9.out.c2 1).trans rfl;have pA9_1 := fun o => (zb (zg M9.out.c2 o) 1).trans rfl;have p9_2 := (zb M9.out.c2 2).trans rfl;have pA9_2 := fun o => (zb (zg M9.out.c2 o) 2).trans rfl;have q9_0 := (zb M9.out.c3 0).trans rfl;have qA9_0 := fun o => (zb (zg M9.out.c3 o) 0).trans rfl;have q9_1 := (zb M9.out.c3 1).trans rfl;have qA9_1 := fun o => (zb (zg M9.out.c3 o) 1).trans rfl;have q9_2 := (zb M9.out.c3 2).trans rfl;have qA9_2 := fun o => (zb (zg M9.out.c3 o) 2).trans rfl;have q9_3 := (zb M9.out.c3 3).trans rfl;have qA9_3 := fun o => (zb (zg M9.out.c3 o) 3).trans rfl;have q9_4 := (zb M9.out.c3 4).trans rfl;have qA9_4 := fun o => (zb (zg M9.out.c3 o) 4).trans rfl;have q9_5 := (zb M9.out.c3 5).trans rfl;have qA9_5 := fun o => (zb (zg M9.out.c3 o) 5).trans rfl;have s9_0 := (zb M9.out.c4 0).trans rfl;have sA9_0 := fun o => (zb (zg M9.out.c4 o) 0).trans rfl;have s9_1 := (zb M9.out.c4 1).trans rfl;have sA9_1 := fun o => (zb (zg M9.out.c4 o) 1).trans rfl;have s9_2 := (zb M9.out.c4 2).trans rfl;have sA9_2 := fun o => (zb (zg M9.out.c4 o) 2).trans rfl;have f9_0 := zc M9.out.c4 0;have fA9_0 := fun o => zc (zg M9.out.c4 o) 0;have f9_1 := zc M9.out.c4 1;have fA9_1 := fun o => zc (zg M9.out.c4 o) 1;have f9_2 := zc M9.out.c4 2;have fA9_2 := fun o => zc (zg M9.out.c4 o) 2))
 go_cut [12] (fun v12 wc => v12 = .int .i64 (i0 : Int) ∧ w9 = wc)
 case first =>
  rcases HZ.out with ⟨hz,hi⟩ | hz
  ·subst hz
   have hi' : (i0 : Int) = (l0_2.length : Int) := by omega
   clear hi
   go_wp2_with fail
   go_meet
   case rel => exact ⟨by rw [hi'],rfl⟩
  ·subst hz
   have hb0 : decide ((i0 : Int) < 0) = false := decide_eq_false (by omega)
   go_wp2_with fail
   go_meet
   case rel => exact ⟨rfl,rfl⟩
 case rest =>
  obtain ⟨rfl,hwc⟩ := hcut
  subst hwc
  go_wp2_with fail
  go_region_with (first
   | (go_at_call 38;(with_reducible refine (ziA w (fun k_ => P0_2_ k_ ∨ P1_2_ k_ ∨ P1_3_ k_) _ A0_2 c0_2 l0_2 HFL.out (zcO.b (g2 := g2) (g3 := g3) (g4 := w3.heap.size) (o2 := .cells #[.int .i64 a0_0,.int .i64 a0_1,.slice A0_2 l0_2.length c0_2] 24 (0,0)) (o3 := .cells #[.int .i64 a1_0,.int .i64 a1_1,.slice A1_2 l1_2.length c1_2,.slice A1_3 l1_3.length c1_3,.int .i64 a1_4,.int .i64 a1_5] 32 (0,0)) (o4 := .cells #[.int .i64 0,.int .i64 0,.slice none 0 0] 24 (0,0)) ?hm) HL.out).mono ?_);(case hm => repeat (first | (with_reducible first | exact M9.out | apply zcO.alloc | apply zcO.drew) | exact M9.out));rintro e w10 ⟨v10,rfl,hO,hb⟩;have M10 : za (zcO w w10 g2 g3 w3.heap.size (.cells #[.int .i64 a0_0,.int .i64 a0_1,.slice A0_2 l0_2.length c0_2] 24 (0,0)) (.cells #[.int .i64 a1_0,.int .i64 a1_1,.slice A1_2 l1_2.length c1_2,.slice A1_3 l1_3.length c1_3,.int .i64 a1_4,.int .i64 a1_5] 32 (0,0)) (.cells #[.int .i64 0,.int .i64 0,.slice none 0 0] 24 (0,0))) := ⟨zcO.step (by repeat (first | (with_reducible first | exact M9.out | apply zcO.alloc | apply zcO.drew) | exact M9.out)) hb⟩;(first | (obtain ⟨bs,hO,HBE,HBL⟩ : ∃ bs,ze2 w (fun k_ => P0_2_ k_ ∨ P1_2_ k_ ∨ P1_3_ k_) w10 bs v10 l0_2 ∧ za (bs = w9.heap.size) ∧ za (bs ≤ w10.heap.size) := ⟨_,hO,⟨rfl⟩,⟨hb.size⟩⟩) | (obtain ⟨bs,hO,HBE,HBL⟩ : ∃ bs,ze2 w (fun k_ => P0_2_ k_ ∨ P1_2_ k_ ∨ P1_3_ k_) w10 bs v10 l0_2 ∧ za (bs = w9.heap.size + 1) ∧ za (bs ≤ w10.heap.size) := ⟨_,hO,⟨by simp⟩,⟨hb.size⟩⟩));have HBS2 := za.mk (OwnE_base hO);have HLT := za.mk (OwnE_lt hO);have HBS : za (∀ k,v10.ownBlock = some k → w9.heap.size ≤ k) := ⟨fun k hk => Nat.le_trans (by have h_ := HBE.out;omega) (HBS2.out k hk)⟩;have HO := za.mk hO;have HB10 := za.mk hb;clear hO hb;have p10_0 := (zb M10.out.c2 0).trans rfl;have pA10_0 := fun o => (zb (zg M10.out.c2 o) 0).trans rfl;have p10_1 := (zb M10.out.c2 1).trans rfl;have pA10_1 := fun o => (zb (zg M10.out.c2 o) 1).trans rfl;have p10_2 := (zb M10.out.c2 2).trans rfl;have pA10_2 := fun o => (zb (zg M10.out.c2 o) 2).trans rfl;have q10_0 := (zb M10.out.c3 0).trans rfl;have qA10_0 := fun o => (zb (zg M10.out.c3 o) 0).trans rfl;have q10_1 := (zb M10.out.c3 1).trans rfl;have qA10_1 := fun o => (zb (zg M10.out.c3 o) 1).trans rfl;have q10_2 := (zb M10.out.c3 2).trans rfl;have qA10_2 := fun o => (zb (zg M10.out.c3 o) 2).trans rfl;have q10_3 := (zb M10.out.c3 3).trans rfl;have qA10_3 := fun o => (zb (zg M10.out.c3 o) 3).trans rfl;have q10_4 := (zb M10.out.c3 4).trans rfl;have qA10_4 := fun o => (zb (zg M10.out.c3 o) 4).trans rfl;have q10_5 := (zb M10.out.c3 5).trans rfl;have qA10_5 := fun o => (zb (zg M10.out.c3 o) 5).trans rfl;have s10_0 := (zb M10.out.c4 0).trans rfl;have sA10_0 := fun o => (zb (zg M10.out.c4 o) 0).trans rfl;have s10_1 := (zb M10.out.c4 1).trans rfl;have sA10_1 := fun o => (zb (zg M10.out.c4 o) 1).trans rfl;have s10_2 := (zb M10.out.c4 2).trans rfl;have sA10_2 := fun o => (zb (zg M10.out.c4 o) 2).trans rfl;have f10_0 := zc M10.out.c4 0;have fA10_0 := fun o => zc (zg M10.out.c4 o) 0;have f10_1 := zc M10.out.c4 1;have fA10_1 := fun o => zc (zg M10.out.c4 o) 1;have f10_2 := zc M10.out.c4 2;have fA10_2 := fun o => zc (zg M10.out.c4 o) 2)
   | (go_at_call 37;(with_reducible refine (zhZ w (fun k_ => P0_2_ k_ ∨ P1_2_ k_ ∨ P1_3_ k_) _ bs v10 l0_2 _ HI0.out ⟨D,⟨a1_0,a1_1,l1_2,l1_3,⟨a1_4,a1_5⟩⟩⟩ _ [.string D,.int .i64 a1_0,.int .i64 a1_1,.slice A1_2 l1_2.length c1_2,.slice A1_3 l1_3.length c1_3,.int .i64 a1_4,.int .i64 a1_5] ?io ?ih HX.out ?ig ?ib HL.out).mono ?_);(case io => first | exact HO.out | exact zit HO.out (zm (Below.refl _ _) _));(case ih => first | exact zbO w10 _ | exact zr (zaa (zbO _ _)) HB10.out | exact zr (zbO _ _) HB10.out);(case ig => intro he;first | exact absurd (HLT.out _ he.symm) (Nat.lt_irrefl _) | (have h1_ := HBS2.out _ he.symm;have h2_ := HBE.out;(try simp at h1_);omega));(case ib => first | exact HBL.out | exact Nat.le_trans HBL.out (by simp));rintro e w11 ⟨v11,rfl,hO,hg⟩;obtain ⟨A11,c11,rfl,_,_⟩ := zbh.reads hO;generalize (l0_2.take i0 ++ ⟨D,⟨a1_0,a1_1,l1_2,l1_3,⟨a1_4,a1_5⟩⟩⟩ :: l0_2.drop i0).length = n11 at hO ⊢;have M11 : za (zcO w w11 g2 g3 w3.heap.size (.cells #[.int .i64 a0_0,.int .i64 a0_1,.slice A0_2 l0_2.length c0_2] 24 (0,0)) (.cells #[.int .i64 a1_0,.int .i64 a1_1,.slice A1_2 l1_2.length c1_2,.slice A1_3 l1_3.length c1_3,.int .i64 a1_4,.int .i64 a1_5] 32 (0,0)) (.cells #[.int .i64 0,.int .i64 0,.slice none 0 0] 24 (0,0))) := ⟨zcO.grown M9.out (by repeat (first | (with_reducible first | exact M10.out | apply zcO.alloc | apply zcO.drew) | exact M10.out)) hg (fun k hk => HBS.out k hk)⟩;have HO11 := za.mk hO;clear hO hg;clear p10_0 pA10_0 p10_1 pA10_1 p10_2 pA10_2 q10_0 qA10_0 q10_1 qA10_1 q10_2 qA10_2 q10_3 qA10_3 q10_4 qA10_4 q10_5 qA10_5 s10_0 sA10_0 s10_1 sA10_1 s10_2 sA10_2 f10_0 fA10_0 f10_1 fA10_1 f10_2 fA10_2;have p11_0 := (zb M11.out.c2 0).trans rfl;have pA11_0 := fun o => (zb (zg M11.out.c2 o) 0).trans rfl;have p11_1 := (zb M11.out.c2 1).trans rfl;have pA11_1 := fun o => (zb (zg M11.out.c2 o) 1).trans rfl;have p11_2 := (zb M11.out.c2 2).trans rfl;have pA11_2 := fun o => (zb (zg M11.out.c2 o) 2).trans rfl;have q11_0 := (zb M11.out.c3 0).trans rfl;have qA11_0 := fun o => (zb (zg M11.out.c3 o) 0).trans rfl;have q11_1 := (zb M11.out.c3 1).trans rfl;have qA11_1 := fun o => (zb (zg M11.out.c3 o) 1).trans rfl;have q11_2 := (zb M11.out.c3 2).trans rfl;have qA11_2 := fun o => (zb (zg M11.out.c3 o) 2).trans rfl;have q11_3 := (zb M11.out.c3 3).trans rfl;have qA11_3 := fun o => (zb (zg M11.out.c3 o) 3).trans rfl;have q11_4 := (zb M11.out.c3 4).trans rfl;have qA11_4 := fun o => (zb (zg M11.out.c3 o) 4).trans rfl;have q11_5 := (zb M11.out.c3 5).trans rfl;have qA11_5 := fun o => (zb (zg M11.out.c3 o) 5).trans rfl;have s11_0 := (zb M11.out.c4 0).trans rfl;have sA11_0 := fun o => (zb (zg M11.out.c4 o) 0).trans rfl;have s11_1 := (zb M11.out.c4 1).trans rfl;have sA11_1 := fun o => (zb (zg M11.out.c4 o) 1).trans rfl;have s11_2 := (zb M11.out.c4 2).trans rfl;have sA11_2 := fun o => (zb (zg M11.out.c4 o) 2).trans rfl;have f11_0 := zc M11.out.c4 0;have fA11_0 := fun o => zc (zg M11.out.c4 o) 0;have f11_1 := zc M11.out.c4 1;have fA11_1 := fun o => zc (zg M11.out.c4 o) 1;have f11_2 := zc M11.out.c4 2;have fA11_2 := fun o => zc (zg M11.out.c4 o) 2;have fz2 := zc M11.out.c2 2))
  all_goals
   have n24 : g2 ≠ w3.heap.size := fun he => by have := zaF M3.out.2.1;omega
   have n42 := Ne.symm n24
   go_wp2_with fail
   have b2 : g2 < bs := by have := zaF M3.out.2.1;have := zh M9.out.b;have := HBE.out;have := zaF M9.out.c2;omega
   have b9 : w.heap.size ≤ bs := by have h1 := zh M9.out.b;have h2 := HBE.out;omega
   have b4 : w3.heap.size < bs := by have := zaF M9.out.c4;have := HBE.out;omega
   refine bodyPost_ret (zbi rfl _ _ w3.heap.size 24 _ (0,0) _ rfl (zX (zX (zX (zcw M11.out.c4 n42 _) 0 _) 1 _) 2 _) Try.underlying24 rfl (by kernel_rfl)) rfl ?_
   exact ⟨_,rfl,OwnE_V (zeI (zeI (zeI (zeI HO11.out (p := ⟨g2,2,none⟩) b2 _) (p := ⟨w3.heap.size,0,none⟩) b4 _) (p := ⟨w3.heap.size,1,none⟩) b4 _) (p := ⟨w3.heap.size,2,none⟩) b4 _) (zl (zl (zl (zl M11.out.b GE2.out) HLE.out) HLE.out) HLE.out) b9,zl (zl (zl (zl M11.out.b GE2.out) HLE.out) HLE.out) HLE.out⟩
theorem getE_eq (o : Option Ent) : ∃ f1 f2 f3 f4 f5 f6 f7,ze9 o = (f1,f2,f3,f4,f5,f6,f7,o.isSome) := by
 rcases o with _ | x
 ·exact ⟨_,_,_,_,_,_,_,rfl⟩
 ·exact ⟨_,_,_,_,_,_,_,rfl⟩
theorem zhN {a r : Int} {bs : List S78} {ps : List ByteArray} {x y n : Int} (h : (zac a r bs ps x y n).2 = 0) : zbt a r bs ps x y n = true := by
 by_cases hm : zbt a r bs ps x y n = true
 ·exact hm
 ·rw [zac,if_neg hm] at h
  exact absurd h (by decide)
theorem zhp {a r : Int} {bs : List S78} {ps : List ByteArray} {x y n : Int} (h : zbt a r bs ps x y n = true) : ps.length ≤ 64 := by
 obtain ⟨h0,_,_,_,_,_,_,_,_,h9⟩ := (zcS ..).1 h
 exact (zbK h0 h9).1
def zaE.f (a0_0 : Int) (a0_1 : Int) (l0_2 : List (S34)) (a1_0 : Int) (a1_1 : Int) (l1_2 : List (S78)) (l1_3 : List ByteArray) (a1_4 : Int) (a1_5 : Int) : Option (Int × Int × List (S34) × Int) := if l0_2.length < 1466015503701 then some (a0_0,a0_1,addE a0_0 a0_1 l0_2 a1_0 a1_1 l1_2 l1_3 a1_4 a1_5,zfR a0_0 a0_1 l0_2 a1_0 a1_1 l1_2 l1_3 a1_4 a1_5) else none
theorem zaE.calls (a0_0 : Int) (a0_1 : Int) (P0_2_ : Nat → Prop) (A0_2 : Option Addr) (c0_2 : Nat) (l0_2 : List (S34)) (a1_0 : Int) (a1_1 : Int) (P1_2_ : Nat → Prop) (A1_2 : Option Addr) (c1_2 : Nat) (l1_2 : List (S78)) (P1_3_ : Nat → Prop) (A1_3 : Option Addr) (c1_3 : Nat) (l1_3 : List ByteArray) (a1_4 : Int) (a1_5 : Int) (r1 : Int) (r2 : Int) (r3 : List (S34)) (r4 : Int) (w : World) (hs0_2 : Kd.V k34 34 w w.heap.size (fun k_ => P0_2_ k_) (.slice A0_2 l0_2.length c0_2) l0_2) (hs1_2 : Kd.V k78 78 w w.heap.size (fun k_ => P1_2_ k_) (.slice A1_2 l1_2.length c1_2) l1_2) (hs1_3 : Kd.V Kd.string 9 w w.heap.size (fun k_ => P1_3_ k_) (.slice A1_3 l1_3.length c1_3) l1_3) (h : zaE.f a0_0 a0_1 l0_2 a1_0 a1_1 l1_2 l1_3 a1_4 a1_5 = some (r1,r2,r3,r4)) :
  Calls Try.prog 17 #[.agg #[.int .i64 a0_0,.int .i64 a0_1,.slice A0_2 l0_2.length c0_2],.agg #[.int .i64 a1_0,.int .i64 a1_1,.slice A1_2 l1_2.length c1_2,.slice A1_3 l1_3.length c1_3,.int .i64 a1_4,.int .i64 a1_5]] w fun e w' => ∃ v2_ : Value,e = .returned (.tuple #[.agg #[.int .i64 r1,.int .i64 r2,v2_],.int .i64 r4]) ∧ Kd.V k34 34 w' w.heap.size (fun k_ => ((P0_2_ k_ ∨ P1_2_ k_ ∨ P1_3_ k_) ∨ w.heap.size ≤ k_)) v2_ r3 ∧ Below w.heap.size w w' := by
 unfold zaE.f at h
 split at h
 ·rename_i hl
  simp only [Option.some.injEq,Prod.mk.injEq] at h
  obtain ⟨rfl,rfl,rfl,rfl⟩ := h
  have hD := zdK a1_0 a1_1 l1_2 l1_3 a1_4 a1_5 a0_0
  obtain ⟨f1,f2,f3,f4,f5,f6,f7,hF⟩ := getE_eq (zcY l0_2 (zac a1_0 a1_1 l1_2 l1_3 a1_4 a1_5 a0_0).1)
  obtain ⟨y1,y2,y3,y4,y5,y6,y7,hY⟩ := getE_eq (byE l0_2 a1_0 a1_1)
  have hF' := congrArg some hF
  have hY' := congrArg some hY
  have hM : (zac a1_0 a1_1 l1_2 l1_3 a1_4 a1_5 a0_0).2 = 0 → zaf.f a0_0 a0_1 l0_2 a1_0 a1_1 l1_2 l1_3 a1_4 a1_5 = some (zbM l0_2 a0_1 a1_1 l1_3) := fun h0 => if_pos ⟨hl,by have := zhp (zhN h0);omega⟩
  by_cases hw : zfR a0_0 a0_1 l0_2 a1_0 a1_1 l1_2 l1_3 a1_4 a1_5 = 0
  ·have hwhy := hw
   unfold zfR at hw
   by_cases k1 : (zac a1_0 a1_1 l1_2 l1_3 a1_4 a1_5 a0_0).2 ≠ 0
   ·rw [if_pos k1] at hw;exact absurd hw k1
   rw [if_neg k1] at hw
   have k1' : (zac a1_0 a1_1 l1_2 l1_3 a1_4 a1_5 a0_0).2 = 0 := Decidable.not_not.1 k1
   by_cases k2 : a1_1 ≤ a0_1
   ·rw [if_pos k2] at hw;exact absurd hw (by decide)
   rw [if_neg k2] at hw
   by_cases k3 : (zcY l0_2 (zac a1_0 a1_1 l1_2 l1_3 a1_4 a1_5 a0_0).1).isSome = true
   ·rw [if_pos k3] at hw;exact absurd hw (by decide)
   rw [if_neg k3] at hw
   by_cases k4 : (byE l0_2 a1_0 a1_1).isSome = true
   ·rw [if_pos k4] at hw;exact absurd hw (by decide)
   rw [if_neg k4] at hw
   by_cases k5 : 0 < (zbM l0_2 a0_1 a1_1 l1_3).length
   ·rw [if_pos k5] at hw;exact absurd hw (by decide)
   have key := putE_idx l0_2 ⟨(zac a1_0 a1_1 l1_2 l1_3 a1_4 a1_5 a0_0).1,⟨a1_0,a1_1,l1_2,l1_3,⟨a1_4,a1_5⟩⟩⟩
   obtain ⟨i0,hi0,hput,hI⟩ : ∃ i0,i0 ≤ l0_2.length ∧ zff l0_2 ⟨(zac a1_0 a1_1 l1_2 l1_3 a1_4 a1_5 a0_0).1,⟨a1_0,a1_1,l1_2,l1_3,⟨a1_4,a1_5⟩⟩⟩ = l0_2.take i0 ++ ⟨(zac a1_0 a1_1 l1_2 l1_3 a1_4 a1_5 a0_0).1,⟨a1_0,a1_1,l1_2,l1_3,⟨a1_4,a1_5⟩⟩⟩ :: l0_2.drop i0 ∧ (zcX (zaE.p a1_0 a1_1 A1_2 l1_2.length c1_2 A1_3 l1_3.length c1_3 a1_4 a1_5) l0_2 = -1 ∧ i0 = l0_2.length ∨ zcX (zaE.p a1_0 a1_1 A1_2 l1_2.length c1_2 A1_3 l1_3.length c1_3 a1_4 a1_5) l0_2 = i0) := by
    rcases key with ⟨h1,h2⟩ | ⟨i,h1,h2,h3⟩
    ·exact ⟨_,Nat.le_refl _,h2,.inl ⟨h1,rfl⟩⟩
    ·exact ⟨i,by omega,h3,.inr h2⟩
   rw [hwhy,addE,if_pos hwhy,hput]
   refine (zaE.yes a0_0 a0_1 P0_2_ A0_2 c0_2 l0_2 a1_0 a1_1 P1_2_ A1_2 c1_2 l1_2 P1_3_ A1_3 c1_3 l1_3 a1_4 a1_5 _ _ _ _ _ _ _ _ _ _ _ _ _ _ _ _ _ _ _ i0 hi0 w hs0_2 hs1_2 hs1_3 hD hF' hY' hl (hM k1') (bne_eq_false_iff_eq.2 k1') (decide_eq_false k2) (Bool.eq_false_iff.2 k3) (Bool.eq_false_iff.2 k4) (decide_eq_false k5) (decide_eq_false (by omega)) hI).mono ?_
   rintro e w' h
   exact h
  ·rw [addE,if_neg hw]
   refine (zaE.not a0_0 a0_1 P0_2_ A0_2 c0_2 l0_2 a1_0 a1_1 P1_2_ A1_2 c1_2 l1_2 P1_3_ A1_3 c1_3 l1_3 a1_4 a1_5 _ _ _ _ (zbM l0_2 a0_1 a1_1 l1_3) _ _ _ _ _ _ _ _ _ _ _ _ _ _ (zfR a0_0 a0_1 l0_2 a1_0 a1_1 l1_2 l1_3 a1_4 a1_5) w hs0_2 hs1_2 hs1_3 hD hF' hY' (fun k1 _ => hM (bne_eq_false_iff_eq.1 k1)) ?_).mono ?_
   ·unfold zfR at hw ⊢
    by_cases k1 : (zac a1_0 a1_1 l1_2 l1_3 a1_4 a1_5 a0_0).2 ≠ 0
    ·rw [if_pos k1];exact .inl ⟨bne_iff_ne.2 k1,rfl⟩
    rw [if_neg k1] at hw ⊢
    have k1' := bne_eq_false_iff_eq.2 (Decidable.not_not.1 k1)
    by_cases k2 : a1_1 ≤ a0_1
    ·rw [if_pos k2];exact .inr (.inl ⟨k1',decide_eq_true k2,rfl⟩)
    rw [if_neg k2] at hw ⊢
    by_cases k3 : (zcY l0_2 (zac a1_0 a1_1 l1_2 l1_3 a1_4 a1_5 a0_0).1).isSome = true
    ·rw [if_pos k3];exact .inr (.inr (.inl ⟨k1',decide_eq_false k2,k3,rfl⟩))
    rw [if_neg k3] at hw ⊢
    by_cases k4 : (byE l0_2 a1_0 a1_1).isSome = true
    ·rw [if_pos k4];exact .inr (.inr (.inr (.inl ⟨k1',decide_eq_false k2,Bool.eq_false_iff.2 k3,k4,rfl⟩)))
    rw [if_neg k4] at hw ⊢
    by_cases k5 : 0 < (zbM l0_2 a0_1 a1_1 l1_3).length
    ·rw [if_pos k5];exact .inr (.inr (.inr (.inr ⟨k1',decide_eq_false k2,Bool.eq_false_iff.2 k3,Bool.eq_false_iff.2 k4,decide_eq_true k5,decide_eq_true (by omega),rfl⟩)))
    ·rw [if_neg k5] at hw;exact absurd rfl hw
   ·rintro e w' ⟨rfl,hb⟩
    exact ⟨_,rfl,Kd.V_map (Kd.V_below hs0_2 hb) (fun _ hf => Kd.F_mono hf (fun _ hk => .inl (.inl hk))),hb⟩
 ·cases h
def zZ (n k : Nat) : Array Bool := (List.replicate k true ++ List.replicate (n - k) false).toArray
def zcB (a : Act) : List (Nat × Tmp) → Act
 | [] => a
 | p :: is => zcB (a.put (some p.2) undef) is
def offsT (T : Bool × List (List Nat × List Nat)) (l' : List Bool) : List Bool → List (Nat × Tmp) → Bool
 | l,[] => l == l'
 | l,p :: is => T.1 && zg1 T.2 l p.1 && zc2 T.2 l p.1 && offsT T l' (l.set p.1 true) is
def ziG (ops : Array Oper) : Act → List (Nat × Tmp) → Bool
 | _,[] => true
 | a,p :: is => (match ops[p.1]? with | some o => (o.dst == some p.2) && !Region.wanted o (yielded ops a.tmps) | none => false) && ziG ops (a.put (some p.2) undef) is
theorem zdY {P : Program} {ops : Array Oper} {Q : Exit → Act → World → Prop} {S : World → Prop} {ds : List Nat} {T : Bool × List (List Nat × List Nat)} {w : World} (hQ : ∀ c a d v w,Q (.panic c) (Act.put a (some d) v) w → Q (.panic c) a w) (hT : zb3 .any ops = T) : ∀ (is : List (Nat × Tmp)) (fuel : Nat) {n : Nat} (_ : fuel + is.length = n) {l : Array Bool} (l' : Array Bool) {a : Act} (_ : offsT T l'.toList l.toList is = true) (_ : ziG ops a is = true) {a' : Act} (_ : zcB a is = a') (_ : zai P .any ops Q S ds fuel l' a' w),zai P .any ops Q S ds n l a w := by
 intro is
 induction is with
 | nil =>
  intro fuel n hn l l' a hc _ a' ha h
  subst hn;subst ha
  simp only [offsT,beq_iff_eq] at hc
  have : l = l' := by rw [← Array.toArray_toList (xs := l),hc]
  subst this
  exact h
 | cons p is ih =>
  intro fuel n hn l l' a hc ho a' ha h
  subst hn
  simp only [offsT,Bool.and_eq_true] at hc
  obtain ⟨⟨⟨h1,h2⟩,h3⟩,h4⟩ := hc
  simp only [ziG,Bool.and_eq_true] at ho
  obtain ⟨ho,h5⟩ := ho
  rcases hi : ops[p.1]? with _ | o
  ·rw [hi] at ho;cases ho
  ·rw [hi] at ho
   simp only [Bool.and_eq_true,beq_iff_eq,Bool.not_eq_true'] at ho
   refine zbY (fuel := fuel + is.length) (l.setIfInBounds p.1 true) hi ho.1 (zbk hT ?_) (fun c a w => by rw [ho.1];exact hQ c a _ _ w) (Or.inr ⟨ho.2,rfl⟩) rfl (ih fuel rfl l' ?_ h5 ha h)
   ·simp only [anyT,h1,h2,h3,Bool.true_and]
    simp
   ·rw [Array.toList_setIfInBounds];exact h4
theorem zgS {a r : Int} {bs : List S78} {ps : List ByteArray} {x y n : Int} (h : (zac a r bs ps x y n).2 = 0) : ps.length ≤ 64 := by
 by_cases hm : zbt a r bs ps x y n = true
 ·obtain ⟨h0,_,_,_,_,_,_,_,_,h9⟩ := (zcS ..).1 hm
  exact (zbK h0 h9).1
 ·rw [zac,if_neg hm] at h
  exact absurd h (by decide)
theorem rightE_no (n low : Int) (L : List Ent) (k : Nat) (hk : k < L.length) (h : okE n low L k (L.getD k z34) = false) : zbf n low L = false := by
 unfold zbf
 rw [show ((List.range L.length).all fun i => okE n low L i (L.getD i z34)) = false from ?_,Bool.and_false]
 rw [List.all_eq_false]
 exact ⟨k,List.mem_range.2 hk,by rw [h];simp⟩
theorem ziX (n low : Int) (L : List Ent) (h1 : zc1 n = true) (h2 : 0 ≤ low) (h : ∀ i,i < L.length → okE n low L i (L.getD i z34) = true) : zbf n low L = true := by
 unfold zbf
 rw [h1,decide_eq_true h2,List.all_eq_true.2 fun i hi => h i (List.mem_range.1 hi)];rfl
def zaL.T7 : Bool × List (List Nat × List Nat) := (true,[([],[]),([0],[0]),([1],[1]),([2],[2]),([2],[2]),([4,2],[2,4]),([3,5,2],[2,3,5]),([2,6],[2,6]),([7,2],[7]),([8],[8]),([9,8],[8,9]),([10,8],[8,10]),([8],[8]),([12,8],[8,12]),([11,13,8],[8,11,13]),([8,14],[8,14]),([15,8],[15]),([16],[16]),([16],[16]),([18,16],[16,18]),([17,19,16,16],[16,17,19]),([20,16],[16,20]),([21,16],[16,21]),([16,22],[16,22]),([23,20],[23]),([24],[24]),([25,24],[24,25]),([26,24,24],[24,26]),([27],[27]),([28,27],[27,28]),([27],[27]),([30,27],[27,30]),([29,31,27],[27,29,31]),([32,27],[27,32]),([33,27],[27,33]),([27],[27]),([35,27],[27,35]),([34,36,27,27],[27,34,36]),([37,27],[27,37]),([27,38,24],[24,27,38]),([24,39],[24,39])])
def zaL.B7 : List Nat := [0,1,3,7,7,23,63,127,255,511,1023,2047,511,4607,16383,32767,65535,131071,131071,393215,1048575,2097151,4194303,8388607,16777215,33554431,67108863,134217727,268435455,536870911,268435455,1342177279,4294967295,8589934591,17179869183,268435455,34628173823,137438953471,274877906943,549755813887,1099511627775]
theorem zaL.tab7 : zb3 .any (zdC Try.f18 7) = zaL.T7 := by kernel_rfl
theorem zaL.bits7 : zbD zaL.T7.2 zaL.B7 = true := by kernel_rfl
structure zcW (w W : World) (g1 g4 : Nat) (o1 o4 : Obj) : Prop where
 b : Below w.heap.size w W
 c1 : W.heap[g1]? = some o1
 c4 : W.heap[g4]? = some o4
theorem zcW.step {w W W' : World} {g1 g4 : Nat} {o1 o4 : Obj} (h : zcW w W g1 g4 o1 o4) (hb : Below W.heap.size W W') : zcW w W' g1 g4 o1 o4 := ⟨zf h.b hb,zr h.c1 hb,zr h.c4 hb⟩
theorem zcW.drew {w W : World} {g1 g4 : Nat} {o1 o4 : Obj} (h : zcW w W g1 g4 o1 o4) : zcW w W.drew g1 g4 o1 o4 := ⟨zp h.b,zaa h.c1,zaa h.c4⟩
set_option maxHeartbeats 16000000 in
set_option maxRecDepth 100000 in
theorem zaL.walk (a0_0 : Int) (a0_1 : Int) (A0_2 : Option Addr) (c0_2 : Nat) (l0_2 : List (S34)) (w : World) (hr0_2 : Kd.C k34 w A0_2 l0_2.length l0_2) (hc0_2 : l0_2.length ≤ c0_2) (hl : l0_2.length < 1466015503701) :
  Calls Try.prog 18 #[.agg #[.int .i64 a0_0,.int .i64 a0_1,.slice A0_2 l0_2.length c0_2]] w fun e w' => e = .returned (.bool (zbf a0_0 a0_1 l0_2)) ∧ Below w.heap.size w w' := by
 have HR := za.mk hr0_2
 have HC := za.mk hc0_2
 have HL := za.mk hl
 have HMY := za.mk (zaJ a0_0)
 have hm2 := hr0_2.2.1
 clear hr0_2 hc0_2 hl
 rcases hn : zc1 a0_0 with _ | _
 ·have hz : zbf a0_0 a0_1 l0_2 = false := by unfold zbf;rw [hn];rfl
  rw [hz]
  rw [hn] at HMY
  clear hz hn
  go_enter Try.func18,Try.ntmps18
  go_wp2_with (first
   | ((with_reducible refine zq (N := 1) rfl ?_);refine zn rfl (N := 1) rfl (cs := #[.int .i64 a0_0,.int .i64 a0_1,.slice A0_2 l0_2.length c0_2]) (t := 24) hrq ?_;intro g1 hg w1 hbox hb;have B1 := za.mk hbox;have HB1 := za.mk hb;clear hb hbox hg;have x1_0 := (zb B1.out 0).trans rfl;have x1_1 := (zb B1.out 1).trans rfl;have x1_2 := (zb B1.out 2).trans rfl)
   | (go_at_call 39;(with_reducible refine (zas.calls a0_0 _ _ HMY.out).mono ?_);rintro e w2 ⟨rfl,hdr⟩;have hb : Below w1.heap.size w1 w2 := (by obtain ⟨nd,rfl⟩ := hdr;repeat (first | exact Below.refl _ _ | apply zj));clear hdr;have B2 := za.mk (zr B1.out hb);have HB2 := za.mk (zf HB1.out hb);clear x1_0 x1_1 x1_2 hb;have x2_0 := (zb B2.out 0).trans rfl;have x2_1 := (zb B2.out 1).trans rfl;have x2_2 := (zb B2.out 2).trans rfl))
  go_ret
  exact ⟨rfl,HB2.out⟩
 by_cases hlow : a0_1 < 0
 ·have hz : zbf a0_0 a0_1 l0_2 = false := by unfold zbf;rw [decide_eq_false (by omega : ¬ 0 ≤ a0_1),Bool.and_false];rfl
  rw [hz]
  rw [hn] at HMY
  have d1 : decide (a0_1 < 0) = true := decide_eq_true hlow
  clear hz hn hlow
  go_enter Try.func18,Try.ntmps18
  go_wp2_with (first
   | ((with_reducible refine zq (N := 1) rfl ?_);refine zn rfl (N := 1) rfl (cs := #[.int .i64 a0_0,.int .i64 a0_1,.slice A0_2 l0_2.length c0_2]) (t := 24) hrq ?_;intro g1 hg w1 hbox hb;have B1 := za.mk hbox;have HB1 := za.mk hb;clear hb hbox hg;have x1_0 := (zb B1.out 0).trans rfl;have x1_1 := (zb B1.out 1).trans rfl;have x1_2 := (zb B1.out 2).trans rfl)
   | (go_at_call 39;(with_reducible refine (zas.calls a0_0 _ _ HMY.out).mono ?_);rintro e w2 ⟨rfl,hdr⟩;have hb : Below w1.heap.size w1 w2 := (by obtain ⟨nd,rfl⟩ := hdr;repeat (first | exact Below.refl _ _ | apply zj));clear hdr;have B2 := za.mk (zr B1.out hb);have HB2 := za.mk (zf HB1.out hb);clear x1_0 x1_1 x1_2 hb;have x2_0 := (zb B2.out 0).trans rfl;have x2_1 := (zb B2.out 1).trans rfl;have x2_2 := (zb B2.out 2).trans rfl))
  go_ret
  exact ⟨rfl,HB2.out⟩
 have HN := za.mk hn
 have HLOW := za.mk hlow
 rw [hn] at HMY
 have d1 : decide (a0_1 < 0) = false := decide_eq_false hlow
 clear hn hlow
 go_enter Try.func18,Try.ntmps18
 go_wp2_with (first
  | ((with_reducible refine zq (N := 1) rfl ?_);refine zn rfl (N := 1) rfl (cs := #[.int .i64 a0_0,.int .i64 a0_1,.slice A0_2 l0_2.length c0_2]) (t := 24) hrq ?_;intro g1 hg w1 hbox hb;have B1 := za.mk hbox;have HB1 := za.mk hb;clear hb hbox hg;have x1_0 := (zb B1.out 0).trans rfl;have x1_1 := (zb B1.out 1).trans rfl;have x1_2 := (zb B1.out 2).trans rfl)
  | (go_at_call 39;(with_reducible refine (zas.calls a0_0 _ _ HMY.out).mono ?_);rintro e w2 ⟨rfl,hdr⟩;have hb : Below w1.heap.size w1 w2 := (by obtain ⟨nd,rfl⟩ := hdr;repeat (first | exact Below.refl _ _ | apply zj));clear hdr;have B2 := za.mk (zr B1.out hb);have HB2 := za.mk (zf HB1.out hb);clear x1_0 x1_1 x1_2 hb;have x2_0 := (zb B2.out 0).trans rfl;have x2_1 := (zb B2.out 1).trans rfl;have x2_2 := (zb B2.out 2).trans rfl))
 clear x2_0 x2_1 x2_2
 go_loopw [19] (fun v19 wr => ∃ k : Nat,v19 = .int .i64 k ∧ k ≤ l0_2.length ∧ za (∀ i,i < k → okE a0_0 a0_1 l0_2 i (l0_2.getD i z34) = true) ∧ za (wr.heap[g1]? = some (.cells #[.int .i64 a0_0,.int .i64 a0_1,.slice A0_2 l0_2.length c0_2] 24 (0,0))) ∧ za (Below w.heap.size w wr)) (fun v19 _ => l0_2.length - (match v19 with | .int _ q => q | _ => 0).toNat)
 case atStart => exact ⟨0,rfl,Nat.zero_le _,⟨fun i hi => absurd hi (Nat.not_lt_zero _)⟩,B2,HB2⟩
 case round =>
  clear HB1 HB2 B1 B2
  obtain ⟨k,rfl,hk,HF,B1r,HB⟩ := hrel
  by_cases hlt : k < l0_2.length
  ·obtain ⟨ad,A3,c3,A4,c4,rfl,hx0,hx1,hx2,hx3,hx4,hx5,hx6,q1,q2,q3,q4⟩ := za7 HR.out (k : Int) (by omega) (by omega)
   have hgd : l0_2.getD k z34 = zd l0_2 (k : Int) := by rw [zd,Int.toNat_natCast]
   replace hx0 := (HB.out.cell (World.block_lt_of_cell? w _ hx0)).trans hx0
   replace hx1 := (HB.out.cell (World.block_lt_of_cell? w _ hx1)).trans hx1
   replace hx2 := (HB.out.cell (World.block_lt_of_cell? w _ hx2)).trans hx2
   replace hx3 := (HB.out.cell (World.block_lt_of_cell? w _ hx3)).trans hx3
   replace hx4 := (HB.out.cell (World.block_lt_of_cell? w _ hx4)).trans hx4
   replace hx5 := (HB.out.cell (World.block_lt_of_cell? w _ hx5)).trans hx5
   replace hx6 := (HB.out.cell (World.block_lt_of_cell? w _ hx6)).trans hx6
   rw [Int.toNat_natCast] at hx0 hx1 hx2 hx3 hx4 hx5 hx6
   have hb : decide (k < l0_2.length) = true := decide_eq_true hlt
   generalize zd l0_2 (k : Int) = s at *
   obtain ⟨s0,⟨s1,s2,s3,s4,⟨s5,s6⟩⟩⟩ := s
   have hD0 := zdK s1 s2 s3 s4 s5 s6 a0_0
   have hZ0 := @zgS s1 s2 s3 s4 s5 s6 a0_0
   have HQ1w : za (Kd.C k78 w A3 s3.length s3) := ⟨q2⟩
   have HQ2 := za.mk q1
   have HQ3w : za (Kd.C Kd.string w A4 s4.length s4) := ⟨q4⟩
   have HQ4 := za.mk q3
   have HQ1 := za.mk (Kd.C_below q2 HB.out)
   have HQ3 := za.mk (Kd.C_below q4 HB.out)
   have HOK : za (okE a0_0 a0_1 l0_2 k (l0_2.getD k z34) = okE a0_0 a0_1 l0_2 k ⟨s0,⟨s1,s2,s3,s4,⟨s5,s6⟩⟩⟩) := ⟨by rw [hgd]⟩
   have HNO : za (okE a0_0 a0_1 l0_2 k ⟨s0,⟨s1,s2,s3,s4,⟨s5,s6⟩⟩⟩ = false → zbf a0_0 a0_1 l0_2 = false) := ⟨fun h => rightE_no _ _ _ k hlt (HOK.out.trans h)⟩
   have HYE : za (okE a0_0 a0_1 l0_2 k ⟨s0,⟨s1,s2,s3,s4,⟨s5,s6⟩⟩⟩ = true → ∀ i,i < k + 1 → okE a0_0 a0_1 l0_2 i (l0_2.getD i z34) = true) := ⟨fun h i hi => by
    rcases Nat.lt_succ_iff_lt_or_eq.1 hi with h1 | h1
    ·exact HF.out i h1
    ·rw [h1];exact HOK.out.trans h⟩
   have HMM0 : za (s4.length ≤ 8796093022208 → zaf.f a0_0 a0_1 l0_2 s1 s2 s3 s4 s5 s6 = some (zbM l0_2 a0_1 s2 s4)) := ⟨fun h => if_pos ⟨HL.out,h⟩⟩
   have hKE : okE a0_0 a0_1 l0_2 k ⟨s0,⟨s1,s2,s3,s4,⟨s5,s6⟩⟩⟩ = ((decide ((zac s1 s2 s3 s4 s5 s6 a0_0).2 = 0) && decide ((zac s1 s2 s3 s4 s5 s6 a0_0).1 = s0) && decide (a0_1 < s2) && decide ((zbM l0_2 a0_1 s2 s4).length = 0)) && (decide (k = 0) || zbe (l0_2.getD (k - 1) z34).f1.f0 (l0_2.getD (k - 1) z34).f1.f1 s1 s2)) := rfl
   generalize zac s1 s2 s3 s4 s5 s6 a0_0 = dv at hD0 hZ0 hKE
   obtain ⟨D,e1⟩ := dv
   generalize zbM l0_2 a0_1 s2 s4 = lost at hKE HMM0
   have HD : za (za4.f s1 s2 s3 s4 s5 s6 a0_0 = some (D,e1)) := ⟨hD0⟩
   have HKE := za.mk hKE
   have HZ0 : za (e1 = 0 → s4.length ≤ 64) := ⟨hZ0⟩
   have y1_0 := (zb B1r.out 0).trans rfl
   have y1_0a := fun o => (zb (zg B1r.out o) 0).trans rfl
   clear hgd hD0 hZ0 hKE q1 q2 q3 q4 HOK HF
   go_wp2_with (go_at_call 31;(with_reducible refine (za4.calls s1 s2 _ _ s3 _ _ s4 s5 s6 a0_0 D e1 _ (Kd.C_below HQ1.out (zm (Below.refl _ _) _)) HQ2.out (Kd.C_below HQ3.out (zm (Below.refl _ _) _)) HQ4.out HD.out).mono ?_);rintro e w5 ⟨rfl,hb⟩;have M5 : za (zcW w w5 g1 wr.heap.size (.cells #[.int .i64 a0_0,.int .i64 a0_1,.slice (some ad) l0_2.length c0_2] 24 (0,0)) (.cells #[.string s0,.int .i64 s1,.int .i64 s2,.slice A3 s3.length c3,.slice A4 s4.length c4,.int .i64 s5,.int .i64 s6] 34 (0,0))) := ⟨⟨zf (zm HB.out _) hb,zr (zg B1r.out _) hb,zr (zbO wr _) hb⟩⟩;clear hb y1_0 y1_0a)
   have MK : za (∀ w' : World,zcW w w' g1 wr.heap.size (.cells #[.int .i64 a0_0,.int .i64 a0_1,.slice (some ad) l0_2.length c0_2] 24 (0,0)) (.cells #[.string s0,.int .i64 s1,.int .i64 s2,.slice A3 s3.length c3,.slice A4 s4.length c4,.int .i64 s5,.int .i64 s6] 34 (0,0)) → w'.cell? ⟨g1,0,none⟩ = some (.int .i64 a0_0) ∧ w'.cell? ⟨g1,1,none⟩ = some (.int .i64 a0_1) ∧ w'.cell? ⟨g1,2,none⟩ = some (.slice (some ad) l0_2.length c0_2) ∧ w'.cell? ⟨wr.heap.size,0,none⟩ = some (.string s0) ∧ w'.cell? ⟨wr.heap.size,1,none⟩ = some (.int .i64 s1) ∧ w'.cell? ⟨wr.heap.size,2,none⟩ = some (.int .i64 s2) ∧ w'.cell? ⟨wr.heap.size,3,none⟩ = some (.slice A3 s3.length c3) ∧ w'.cell? ⟨wr.heap.size,4,none⟩ = some (.slice A4 s4.length c4) ∧ w'.cell? ⟨wr.heap.size,5,none⟩ = some (.int .i64 s5) ∧ w'.cell? ⟨wr.heap.size,6,none⟩ = some (.int .i64 s6) ∧ zcW w w' g1 wr.heap.size (.cells #[.int .i64 a0_0,.int .i64 a0_1,.slice (some ad) l0_2.length c0_2] 24 (0,0)) (.cells #[.string s0,.int .i64 s1,.int .i64 s2,.slice A3 s3.length c3,.slice A4 s4.length c4,.int .i64 s5,.int .i64 s6] 34 (0,0))) := ⟨fun w' h => ⟨(zb h.c1 0).trans rfl,(zb h.c1 1).trans rfl,(zb h.c1 2).trans rfl,(zb h.c4 0).trans rfl,(zb h.c4 1).trans rfl,(zb h.c4 2).trans rfl,(zb h.c4 3).trans rfl,(zb h.c4 4).trans rfl,(zb h.c4 5).trans rfl,(zb h.c4 6).trans rfl,h⟩⟩
   have LM : za (∀ w' : World,(w'.cell? ⟨g1,0,none⟩ = some (.int .i64 a0_0) ∧ w'.cell? ⟨g1,1,none⟩ = some (.int .i64 a0_1) ∧ w'.cell? ⟨g1,2,none⟩ = some (.slice (some ad) l0_2.length c0_2) ∧ w'.cell? ⟨wr.heap.size,0,none⟩ = some (.string s0) ∧ w'.cell? ⟨wr.heap.size,1,none⟩ = some (.int .i64 s1) ∧ w'.cell? ⟨wr.heap.size,2,none⟩ = some (.int .i64 s2) ∧ w'.cell? ⟨wr.heap.size,3,none⟩ = some (.slice A3 s3.length c3) ∧ w'.cell? ⟨wr.heap.size,4,none⟩ = some (.slice A4 s4.length c4) ∧ w'.cell? ⟨wr.heap.size,5,none⟩ = some (.int .i64 s5) ∧ w'.cell? ⟨wr.heap.size,6,none⟩ = some (.int .i64 s6) ∧ zcW w w' g1 wr.heap.size (.cells #[.int .i64 a0_0,.int .i64 a0_1,.slice (some ad) l0_2.length c0_2] 24 (0,0)) (.cells #[.string s0,.int .i64 s1,.int .i64 s2,.slice A3 s3.length c3,.slice A4 s4.length c4,.int .i64 s5,.int .i64 s6] 34 (0,0))) → zcW w w' g1 wr.heap.size (.cells #[.int .i64 a0_0,.int .i64 a0_1,.slice (some ad) l0_2.length c0_2] 24 (0,0)) (.cells #[.string s0,.int .i64 s1,.int .i64 s2,.slice A3 s3.length c3,.slice A4 s4.length c4,.int .i64 s5,.int .i64 s6] 34 (0,0))) := ⟨fun w' h => h.2.2.2.2.2.2.2.2.2.2⟩
   refine zbx (n := 41) (S := fun w' => w'.cell? ⟨g1,0,none⟩ = some (.int .i64 a0_0) ∧ w'.cell? ⟨g1,1,none⟩ = some (.int .i64 a0_1) ∧ w'.cell? ⟨g1,2,none⟩ = some (.slice (some ad) l0_2.length c0_2) ∧ w'.cell? ⟨wr.heap.size,0,none⟩ = some (.string s0) ∧ w'.cell? ⟨wr.heap.size,1,none⟩ = some (.int .i64 s1) ∧ w'.cell? ⟨wr.heap.size,2,none⟩ = some (.int .i64 s2) ∧ w'.cell? ⟨wr.heap.size,3,none⟩ = some (.slice A3 s3.length c3) ∧ w'.cell? ⟨wr.heap.size,4,none⟩ = some (.slice A4 s4.length c4) ∧ w'.cell? ⟨wr.heap.size,5,none⟩ = some (.int .i64 s5) ∧ w'.cell? ⟨wr.heap.size,6,none⟩ = some (.int .i64 s6) ∧ zcW w w' g1 wr.heap.size (.cells #[.int .i64 a0_0,.int .i64 a0_1,.slice (some ad) l0_2.length c0_2] 24 (0,0)) (.cells #[.string s0,.int .i64 s1,.int .i64 s2,.slice A3 s3.length c3,.slice A4 s4.length c4,.int .i64 s5,.int .i64 s6] 34 (0,0))) (ds := []) (zZ 41 0) (by kernel_rfl) rfl rfl (MK.out _ M5.out.drew) (fun hHeld => ?_);refine zaG zaL.tab7 zaL.bits7 (fun HT_ HW_ => ?_)
   clear M5
   refine puq (i := 0) (N := some 32) HT_.out (zZ 41 1) ?_
   by_cases h1 : e1 = 0
   ·have c1 : (e1 != 0) = false := by rw [h1];rfl
    have Kh1 := za.mk h1
    clear h1
    refine puq (i := 1) (N := some 33) HT_.out (zZ 41 2) ?_
    refine puq (i := 2) (N := some 34) HT_.out (zZ 41 3) ?_
    refine puq (i := 3) (N := some 35) HT_.out (zZ 41 4) ?_
    refine puq (i := 4) (N := some 36) HT_.out (zZ 41 5) ?_
    refine take_ (i := 5) (N := some 37) (zZ 41 6) rfl rfl (zU HT_.out HW_.out (by kernel_rfl)) (fun _ _ _ h => h) (Or.inl ⟨by rfl,by rintro w' ⟨r0,r1,r2,r3,r4,r5,r6,r7,r8,r9,hM⟩;go_simp;with_reducible rfl⟩) hHeld hPq ?_
    by_cases h2 : D = s0
    ·have c2 : (D.toList == s0.toList) = true := by rw [zb1];exact decide_eq_true h2
     have Kh2 := za.mk h2
     clear h2
     refine puq (i := 6) (N := some 38) HT_.out (zZ 41 7) ?_
     refine puq (i := 7) (N := some 39) HT_.out (zZ 41 8) ?_
     refine puq (i := 8) (N := some 40) HT_.out (zZ 41 9) ?_
     refine puq (i := 9) (N := some 41) HT_.out (zZ 41 10) ?_
     refine puq (i := 10) (N := some 42) HT_.out (zZ 41 11) ?_
     refine take_ (i := 11) (N := some 43) (zZ 41 12) rfl rfl (zU HT_.out HW_.out (by kernel_rfl)) (fun _ _ _ h => h) (Or.inl ⟨by rfl,by rintro w' ⟨r0,r1,r2,r3,r4,r5,r6,r7,r8,r9,hM⟩;go_simp;with_reducible rfl⟩) hHeld hPq ?_
     refine puq (i := 12) (N := some 44) HT_.out (zZ 41 13) ?_
     refine take_ (i := 13) (N := some 45) (zZ 41 14) rfl rfl (zU HT_.out HW_.out (by kernel_rfl)) (fun _ _ _ h => h) (Or.inl ⟨by rfl,by rintro w' ⟨r0,r1,r2,r3,r4,r5,r6,r7,r8,r9,hM⟩;go_simp;with_reducible rfl⟩) hHeld hPq ?_
     by_cases h3 : s2 ≤ a0_1
     ·have c3b : decide (s2 ≤ a0_1) = true := decide_eq_true h3
      have HE : za (okE a0_0 a0_1 l0_2 k ⟨s0,⟨s1,s2,s3,s4,⟨s5,s6⟩⟩⟩ = false) := ⟨by rw [HKE.out,decide_eq_false (by omega : ¬ a0_1 < s2)];simp⟩
      have Kh3 := za.mk h3
      clear h3
      refine puq (i := 14) (N := some 46) HT_.out (zZ 41 15) ?_
      refine puq (i := 15) (N := some 47) HT_.out (zZ 41 16) ?_
      refine puq (i := 16) (N := some 48) HT_.out (zZ 41 17) ?_
      refine zdY (fun _ _ _ _ _ h => h) HT_.out [(17,49),(18,50),(19,51),(20,52),(21,53),(22,54)] 18 rfl (zZ 41 23) (by kernel_rfl) (by kernel_rfl) (a' := ?_) ?_ ?_
      rotate_left
      ·simp only [zcB,Act.put,List.setIfInBounds_toArray,List.set_cons_zero,List.set_cons_succ]
       rfl
      refine puq (i := 23) (N := some 55) HT_.out (zZ 41 24) ?_
      refine puq (i := 24) (N := some 56) HT_.out (zZ 41 25) ?_
      refine zdY (fun _ _ _ _ _ h => h) HT_.out [(25,57),(26,58),(27,59),(28,60),(29,61),(30,62),(31,63),(32,64),(33,65),(34,66),(35,67),(36,68),(37,69),(38,70),(39,71)] 1 rfl (zZ 41 40) (by kernel_rfl) (by kernel_rfl) (a' := ?_) ?_ ?_
      rotate_left
      ·simp only [zcB,Act.put,List.setIfInBounds_toArray,List.set_cons_zero,List.set_cons_succ]
       rfl
      refine puq (i := 40) (N := some 72) HT_.out (zZ 41 41) ?_
      refine zbG (zaM HT_.out (by kernel_rfl)) ?_
      have HZ := za.mk hHeld.2.2.2.2.2.2.2.2.2.2.b
      go_wp2
      go_ret
      exact ⟨by rw [HNO.out HE.out];rfl,HZ.out⟩
     ·have c3b : decide (s2 ≤ a0_1) = false := decide_eq_false h3
      have Kh3 := za.mk h3
      clear h3
      refine puq (i := 14) (N := some 46) HT_.out (zZ 41 15) ?_
      refine puq (i := 15) (N := some 47) HT_.out (zZ 41 16) ?_
      refine puq (i := 16) (N := some 48) HT_.out (zZ 41 17) ?_
      refine take_ (i := 17) (N := some 49) (zZ 41 18) rfl rfl (zU HT_.out HW_.out (by kernel_rfl)) (fun _ _ _ h => h) (Or.inl ⟨by rfl,by rintro w' ⟨r0,r1,r2,r3,r4,r5,r6,r7,r8,r9,hM⟩;go_simp;with_reducible rfl⟩) hHeld hPq ?_
      refine puq (i := 18) (N := some 50) HT_.out (zZ 41 19) ?_
      refine take_ (i := 19) (N := some 51) (zZ 41 20) rfl rfl (zU HT_.out HW_.out (by kernel_rfl)) (fun _ _ _ h => h) (Or.inl ⟨by rfl,by rintro w' ⟨r0,r1,r2,r3,r4,r5,r6,r7,r8,r9,hM⟩;go_simp;with_reducible rfl⟩) hHeld hPq ?_
      have HMM : za (zaf.f a0_0 a0_1 l0_2 s1 s2 s3 s4 s5 s6 = some lost) := ⟨HMM0.out (by have h_ := HZ0.out Kh1.out;omega)⟩
      refine zcl (i := 20) (N := some 52) (zZ 41 21) rfl rfl (zaY HT_.out (by kernel_rfl)) (by decide) (fun K hK => ?_)
      refine zbs Try.func33 (by kernel_rfl) rfl #[.agg #[.int .i64 a0_0,.int .i64 a0_1,.slice (some ad) l0_2.length c0_2],.agg #[.int .i64 s1,.int .i64 s2,.slice A3 s3.length c3,.slice A4 s4.length c4,.int .i64 s5,.int .i64 s6]] (by rfl) rfl rfl (by (try simp only [List.map_toArray,List.map_cons,List.map_nil]);first | done | rfl | (simp only [HJ.out];rfl)) ?_
      with_reducible refine (zaf.calls a0_0 a0_1 _ _ l0_2 s1 s2 _ _ s3 _ _ s4 s5 s6 lost _ (Kd.C_below HR.out (LM.out _ hHeld).b) HC.out (Kd.C_below HQ1w.out (LM.out _ hHeld).b) HQ2.out (Kd.C_below HQ3w.out (LM.out _ hHeld).b) HQ4.out HMM.out).mono ?_
      rintro e w6 ⟨v0,rfl,hR,hbw⟩;obtain ⟨A7,c7,rfl⟩ := Kd.R_slice hR;clear hR
      refine ⟨_,rfl,?_⟩
      refine hK.out _ _ (MK.out _ ((LM.out _ hHeld).step hbw)) (fun hHeld => ?_)
      clear hK K
      refine zbu (a' := ?_) ?_ ?_
      rotate_left
      ·show Act.put _ (some 52) _ = _
       simp only [Act.put,List.setIfInBounds_toArray,List.set_cons_zero,List.set_cons_succ,zah,zaj]
       rfl
      refine puq (i := 21) (N := some 53) HT_.out (zZ 41 22) ?_
      by_cases h4 : lost.length = 0
      ·have cl4 : decide ((0 : Int) < (lost.length : Int)) = false := decide_eq_false (by omega)
       have cl4' : decide (0 < lost.length) = false := decide_eq_false (by omega)
       have Kh4 := za.mk h4
       clear h4
       refine puq (i := 22) (N := some 54) HT_.out (zZ 41 23) ?_
       refine puq (i := 23) (N := some 55) HT_.out (zZ 41 24) ?_
       refine puq (i := 24) (N := some 56) HT_.out (zZ 41 25) ?_
       by_cases h5 : k = 0
       ·have c6n : decide (0 < k) = false := decide_eq_false (by omega)
        have c6 : decide ((0 : Int) < (k : Int)) = false := decide_eq_false (by omega)
        have HE : za (okE a0_0 a0_1 l0_2 k ⟨s0,⟨s1,s2,s3,s4,⟨s5,s6⟩⟩⟩ = true) := ⟨by rw [HKE.out,decide_eq_true Kh1.out,decide_eq_true Kh2.out,decide_eq_true (by have h_ := Kh3.out;omega : a0_1 < s2),decide_eq_true Kh4.out,decide_eq_true h5];rfl⟩
        have Kh5 := za.mk h5
        clear h5
        refine puq (i := 25) (N := some 57) HT_.out (zZ 41 26) ?_
        refine puq (i := 26) (N := some 58) HT_.out (zZ 41 27) ?_
        refine puq (i := 27) (N := some 59) HT_.out (zZ 41 28) ?_
        refine zdY (fun _ _ _ _ _ h => h) HT_.out [(28,60),(29,61),(30,62),(31,63),(32,64),(33,65),(34,66),(35,67),(36,68),(37,69),(38,70)] 2 rfl (zZ 41 39) (by kernel_rfl) (by kernel_rfl) (a' := ?_) ?_ ?_
        rotate_left
        ·simp only [zcB,Act.put,List.setIfInBounds_toArray,List.set_cons_zero,List.set_cons_succ]
         rfl
        refine puq (i := 39) (N := some 71) HT_.out (zZ 41 40) ?_
        refine puq (i := 40) (N := some 72) HT_.out (zZ 41 41) ?_
        refine zbG (zaM HT_.out (by kernel_rfl)) ?_
        have HZ := za.mk hHeld.2.2.2.2.2.2.2.2.2.2.b
        have HB1 := za.mk hHeld.2.2.2.2.2.2.2.2.2.2.c1
        clear hHeld HT_ HW_
        go_wp2_with fail
        go_roundw
        all_goals first | (case rel => exact ⟨k + 1,by go_num,by omega,⟨HYE.out HE.out⟩,HB1,HZ⟩) | (case measure => simp;omega) | exact ⟨⟨k + 1,by go_num,by omega,⟨HYE.out HE.out⟩,HB1,HZ⟩,by simp;omega⟩
       ·have c6n : decide (0 < k) = true := decide_eq_true (by omega)
        have c6 : decide ((0 : Int) < (k : Int)) = true := decide_eq_true (by omega)
        have Kh5 := za.mk h5
        clear h5
        obtain ⟨j,hjd⟩ : ∃ j,j = k - 1 := ⟨_,rfl⟩
        rw [← hjd] at HKE
        obtain ⟨ad',B3,d3,B4,d4,hA,hy0,hy1,hy2,hy3,hy4,hy5,hy6,_,_,_,_⟩ := za7 HR.out (j : Int) (by omega) (by omega)
        have hgp : l0_2.getD j z34 = zd l0_2 (j : Int) := by rw [zd,Int.toNat_natCast]
        obtain rfl : ad = ad' := (by injection hA)
        rw [Int.toNat_natCast] at hy0 hy1 hy2 hy3 hy4 hy5 hy6
        have HKP : za ((0 : Int) ≤ (j : Int)) := ⟨by omega⟩
        have HJ : za (wrap64 ((k : Int) - 1) = (j : Int)) := ⟨by have h_ := hm2;have h5_ := Kh5.out;have hl_ := hlt;rw [show (k : Int) - 1 = (j : Int) by omega];exact zab (by omega) (by omega)⟩
        have p0 : ((0 : Int) ≤ (j : Int)) = True := eq_true (by omega)
        have p1 : ((j : Int) < (l0_2.length : Int)) = True := eq_true (by omega)
        have hj := HJ.out
        rw [hgp] at HKE
        generalize zd l0_2 (j : Int) = u at *
        obtain ⟨t0,⟨t1,t2,t3,t4,⟨t5,t6⟩⟩⟩ := u
        generalize t3.length = m3 at *
        generalize t4.length = m4 at *
        have HPR : za (∀ w',Below w.heap.size w w' → w'.cell? (ad.add (j * 7)) = some (.string t0) ∧ w'.cell? ⟨(ad.add (j * 7)).block,(ad.add (j * 7)).off + 1,none⟩ = some (.int .i64 t1) ∧ w'.cell? ⟨(ad.add (j * 7)).block,(ad.add (j * 7)).off + 2,none⟩ = some (.int .i64 t2) ∧ w'.cell? ⟨(ad.add (j * 7)).block,(ad.add (j * 7)).off + 3,none⟩ = some (.slice B3 m3 d3) ∧ w'.cell? ⟨(ad.add (j * 7)).block,(ad.add (j * 7)).off + 4,none⟩ = some (.slice B4 m4 d4) ∧ w'.cell? ⟨(ad.add (j * 7)).block,(ad.add (j * 7)).off + 5,none⟩ = some (.int .i64 t5) ∧ w'.cell? ⟨(ad.add (j * 7)).block,(ad.add (j * 7)).off + 6,none⟩ = some (.int .i64 t6)) := ⟨fun w' hb' => ⟨(hb'.cell (World.block_lt_of_cell? w _ hy0)).trans hy0,(hb'.cell (World.block_lt_of_cell? w _ hy1)).trans hy1,(hb'.cell (World.block_lt_of_cell? w _ hy2)).trans hy2,(hb'.cell (World.block_lt_of_cell? w _ hy3)).trans hy3,(hb'.cell (World.block_lt_of_cell? w _ hy4)).trans hy4,(hb'.cell (World.block_lt_of_cell? w _ hy5)).trans hy5,(hb'.cell (World.block_lt_of_cell? w _ hy6)).trans hy6⟩⟩
        clear hy0 hy1 hy2 hy3 hy4 hy5 hy6 hA hgp hjd
        refine puq (i := 25) (N := some 57) HT_.out (zZ 41 26) ?_
        refine puq (i := 26) (N := some 58) HT_.out (zZ 41 27) ?_
        refine puq (i := 27) (N := some 59) HT_.out (zZ 41 28) ?_
        refine puq (i := 28) (N := some 60) HT_.out (zZ 41 29) ?_
        refine take_ (i := 29) (N := some 61) (zZ 41 30) rfl rfl (zU HT_.out HW_.out (by kernel_rfl)) (fun _ _ _ h => h) (Or.inl ⟨by rfl,by rintro w' ⟨r0,r1,r2,r3,r4,r5,r6,r7,r8,r9,hM⟩;go_simp;with_reducible rfl⟩) hHeld hPq ?_
        refine puq (i := 30) (N := some 62) HT_.out (zZ 41 31) ?_
        refine puq (i := 31) (N := some 63) HT_.out (zZ 41 32) ?_
        refine puq (i := 32) (N := some 64) HT_.out (zZ 41 33) ?_
        refine puq (i := 33) (N := some 65) HT_.out (zZ 41 34) ?_
        refine take_ (i := 34) (N := some 66) (zZ 41 35) rfl rfl (zU HT_.out HW_.out (by kernel_rfl)) (fun _ _ _ h => h) (Or.inl ⟨by rfl,by rintro w' ⟨r0,r1,r2,r3,r4,r5,r6,r7,r8,r9,hM⟩;obtain ⟨u0,u1,u2,u3,u4,u5,u6⟩ := HPR.out w' hM.b;go_simp;with_reducible rfl⟩) hHeld hPq ?_
        refine puq (i := 35) (N := some 67) HT_.out (zZ 41 36) ?_
        refine take_ (i := 36) (N := some 68) (zZ 41 37) rfl rfl (zU HT_.out HW_.out (by kernel_rfl)) (fun _ _ _ h => h) (Or.inl ⟨by rfl,by rintro w' ⟨r0,r1,r2,r3,r4,r5,r6,r7,r8,r9,hM⟩;go_simp;with_reducible rfl⟩) hHeld hPq ?_
        rcases h6 : zbe t1 t2 s1 s2 with _ | _
        ·have HA := za.mk h6
         have HE : za (okE a0_0 a0_1 l0_2 k ⟨s0,⟨s1,s2,s3,s4,⟨s5,s6⟩⟩⟩ = false) := ⟨by rw [HKE.out,decide_eq_false Kh5.out];simp [HA.out]⟩
         clear h6
         refine zcl (i := 37) (N := some 69) (zZ 41 38) rfl rfl (zaY HT_.out (by kernel_rfl)) (by decide) (fun K hK => ?_)
         refine zbs Try.func36 (by kernel_rfl) rfl #[.agg #[.int .i64 t1,.int .i64 t2,.slice B3 m3 d3,.slice B4 m4 d4,.int .i64 t5,.int .i64 t6],.agg #[.int .i64 s1,.int .i64 s2,.slice A3 s3.length c3,.slice A4 s4.length c4,.int .i64 s5,.int .i64 s6]] (by rfl) rfl rfl (by (try simp only [List.map_toArray,List.map_cons,List.map_nil]);first | done | rfl | (simp only [HJ.out];rfl)) ?_
         with_reducible refine (ze6.walk t1 t2 B3 m3 d3 B4 m4 d4 t5 t6 s1 s2 A3 s3.length c3 A4 s4.length c4 s5 s6 _).mono ?_
         rintro e w7 ⟨rfl,hbw⟩;rw [HA.out]
         refine ⟨_,rfl,?_⟩
         refine hK.out _ _ (MK.out _ ((LM.out _ hHeld).step hbw)) (fun hHeld => ?_)
         clear hK K
         refine zbu (a' := ?_) ?_ ?_
         rotate_left
         ·show Act.put _ (some 69) _ = _
          simp only [Act.put,List.setIfInBounds_toArray,List.set_cons_zero,List.set_cons_succ,zah,zaj]
          rfl
         refine puq (i := 38) (N := some 70) HT_.out (zZ 41 39) ?_
         refine puq (i := 39) (N := some 71) HT_.out (zZ 41 40) ?_
         refine puq (i := 40) (N := some 72) HT_.out (zZ 41 41) ?_
         refine zbG (zaM HT_.out (by kernel_rfl)) ?_
         have HZ := za.mk hHeld.2.2.2.2.2.2.2.2.2.2.b
         go_wp2
         go_ret
         exact ⟨by rw [HNO.out HE.out];rfl,HZ.out⟩
        ·have HA := za.mk h6
         have HE : za (okE a0_0 a0_1 l0_2 k ⟨s0,⟨s1,s2,s3,s4,⟨s5,s6⟩⟩⟩ = true) := ⟨by rw [HKE.out,decide_eq_true Kh1.out,decide_eq_true Kh2.out,decide_eq_true (by have h_ := Kh3.out;omega : a0_1 < s2),decide_eq_true Kh4.out];simp [HA.out]⟩
         clear h6
         refine zcl (i := 37) (N := some 69) (zZ 41 38) rfl rfl (zaY HT_.out (by kernel_rfl)) (by decide) (fun K hK => ?_)
         refine zbs Try.func36 (by kernel_rfl) rfl #[.agg #[.int .i64 t1,.int .i64 t2,.slice B3 m3 d3,.slice B4 m4 d4,.int .i64 t5,.int .i64 t6],.agg #[.int .i64 s1,.int .i64 s2,.slice A3 s3.length c3,.slice A4 s4.length c4,.int .i64 s5,.int .i64 s6]] (by rfl) rfl rfl (by (try simp only [List.map_toArray,List.map_cons,List.map_nil]);first | done | rfl | (simp only [HJ.out];rfl)) ?_
         with_reducible refine (ze6.walk t1 t2 B3 m3 d3 B4 m4 d4 t5 t6 s1 s2 A3 s3.length c3 A4 s4.length c4 s5 s6 _).mono ?_
         rintro e w7 ⟨rfl,hbw⟩;rw [HA.out]
         refine ⟨_,rfl,?_⟩
         refine hK.out _ _ (MK.out _ ((LM.out _ hHeld).step hbw)) (fun hHeld => ?_)
         clear hK K
         refine zbu (a' := ?_) ?_ ?_
         rotate_left
         ·show Act.put _ (some 69) _ = _
          simp only [Act.put,List.setIfInBounds_toArray,List.set_cons_zero,List.set_cons_succ,zah,zaj]
          rfl
         refine puq (i := 38) (N := some 70) HT_.out (zZ 41 39) ?_
         refine puq (i := 39) (N := some 71) HT_.out (zZ 41 40) ?_
         refine puq (i := 40) (N := some 72) HT_.out (zZ 41 41) ?_
         refine zbG (zaM HT_.out (by kernel_rfl)) ?_
         have HZ := za.mk hHeld.2.2.2.2.2.2.2.2.2.2.b
         have HB1 := za.mk hHeld.2.2.2.2.2.2.2.2.2.2.c1
         clear hHeld HT_ HW_
         go_wp2_with fail
         go_roundw
         all_goals first | (case rel => exact ⟨k + 1,by go_num,by omega,⟨HYE.out HE.out⟩,HB1,HZ⟩) | (case measure => simp;omega) | exact ⟨⟨k + 1,by go_num,by omega,⟨HYE.out HE.out⟩,HB1,HZ⟩,by simp;omega⟩
      ·have cl4 : decide ((0 : Int) < (lost.length : Int)) = true := decide_eq_true (by omega)
       have cl4' : decide (0 < lost.length) = true := decide_eq_true (by omega)
       have HE : za (okE a0_0 a0_1 l0_2 k ⟨s0,⟨s1,s2,s3,s4,⟨s5,s6⟩⟩⟩ = false) := ⟨by rw [HKE.out,decide_eq_false h4];simp⟩
       have Kh4 := za.mk h4
       clear h4
       refine puq (i := 22) (N := some 54) HT_.out (zZ 41 23) ?_
       refine puq (i := 23) (N := some 55) HT_.out (zZ 41 24) ?_
       refine puq (i := 24) (N := some 56) HT_.out (zZ 41 25) ?_
       refine zdY (fun _ _ _ _ _ h => h) HT_.out [(25,57),(26,58),(27,59),(28,60),(29,61),(30,62),(31,63),(32,64),(33,65),(34,66),(35,67),(36,68),(37,69),(38,70),(39,71)] 1 rfl (zZ 41 40) (by kernel_rfl) (by kernel_rfl) (a' := ?_) ?_ ?_
       rotate_left
       ·simp only [zcB,Act.put,List.setIfInBounds_toArray,List.set_cons_zero,List.set_cons_succ]
        rfl
       refine puq (i := 40) (N := some 72) HT_.out (zZ 41 41) ?_
       refine zbG (zaM HT_.out (by kernel_rfl)) ?_
       have HZ := za.mk hHeld.2.2.2.2.2.2.2.2.2.2.b
       go_wp2
       go_ret
       exact ⟨by rw [HNO.out HE.out];rfl,HZ.out⟩
    ·have c2 : (D.toList == s0.toList) = false := by rw [zb1];exact decide_eq_false h2
     have HE : za (okE a0_0 a0_1 l0_2 k ⟨s0,⟨s1,s2,s3,s4,⟨s5,s6⟩⟩⟩ = false) := ⟨by rw [HKE.out,decide_eq_false h2];simp⟩
     have Kh2 := za.mk h2
     clear h2
     refine puq (i := 6) (N := some 38) HT_.out (zZ 41 7) ?_
     refine puq (i := 7) (N := some 39) HT_.out (zZ 41 8) ?_
     refine puq (i := 8) (N := some 40) HT_.out (zZ 41 9) ?_
     refine zdY (fun _ _ _ _ _ h => h) HT_.out [(9,41),(10,42),(11,43),(12,44),(13,45),(14,46)] 26 rfl (zZ 41 15) (by kernel_rfl) (by kernel_rfl) (a' := ?_) ?_ ?_
     rotate_left
     ·simp only [zcB,Act.put,List.setIfInBounds_toArray,List.set_cons_zero,List.set_cons_succ]
      rfl
     refine puq (i := 15) (N := some 47) HT_.out (zZ 41 16) ?_
     refine puq (i := 16) (N := some 48) HT_.out (zZ 41 17) ?_
     refine zdY (fun _ _ _ _ _ h => h) HT_.out [(17,49),(18,50),(19,51),(20,52),(21,53),(22,54)] 18 rfl (zZ 41 23) (by kernel_rfl) (by kernel_rfl) (a' := ?_) ?_ ?_
     rotate_left
     ·simp only [zcB,Act.put,List.setIfInBounds_toArray,List.set_cons_zero,List.set_cons_succ]
      rfl
     refine puq (i := 23) (N := some 55) HT_.out (zZ 41 24) ?_
     refine puq (i := 24) (N := some 56) HT_.out (zZ 41 25) ?_
     refine zdY (fun _ _ _ _ _ h => h) HT_.out [(25,57),(26,58),(27,59),(28,60),(29,61),(30,62),(31,63),(32,64),(33,65),(34,66),(35,67),(36,68),(37,69),(38,70),(39,71)] 1 rfl (zZ 41 40) (by kernel_rfl) (by kernel_rfl) (a' := ?_) ?_ ?_
     rotate_left
     ·simp only [zcB,Act.put,List.setIfInBounds_toArray,List.set_cons_zero,List.set_cons_succ]
      rfl
     refine puq (i := 40) (N := some 72) HT_.out (zZ 41 41) ?_
     refine zbG (zaM HT_.out (by kernel_rfl)) ?_
     have HZ := za.mk hHeld.2.2.2.2.2.2.2.2.2.2.b
     go_wp2
     go_ret
     exact ⟨by rw [HNO.out HE.out];rfl,HZ.out⟩
   ·have c1 : (e1 != 0) = true := bne_iff_ne.2 h1
    have HE : za (okE a0_0 a0_1 l0_2 k ⟨s0,⟨s1,s2,s3,s4,⟨s5,s6⟩⟩⟩ = false) := ⟨by rw [HKE.out,decide_eq_false h1];simp⟩
    have Kh1 := za.mk h1
    clear h1
    refine puq (i := 1) (N := some 33) HT_.out (zZ 41 2) ?_
    refine puq (i := 2) (N := some 34) HT_.out (zZ 41 3) ?_
    refine zdY (fun _ _ _ _ _ h => h) HT_.out [(3,35),(4,36),(5,37),(6,38)] 34 rfl (zZ 41 7) (by kernel_rfl) (by kernel_rfl) (a' := ?_) ?_ ?_
    rotate_left
    ·simp only [zcB,Act.put,List.setIfInBounds_toArray,List.set_cons_zero,List.set_cons_succ]
     rfl
    refine puq (i := 7) (N := some 39) HT_.out (zZ 41 8) ?_
    refine puq (i := 8) (N := some 40) HT_.out (zZ 41 9) ?_
    refine zdY (fun _ _ _ _ _ h => h) HT_.out [(9,41),(10,42),(11,43),(12,44),(13,45),(14,46)] 26 rfl (zZ 41 15) (by kernel_rfl) (by kernel_rfl) (a' := ?_) ?_ ?_
    rotate_left
    ·simp only [zcB,Act.put,List.setIfInBounds_toArray,List.set_cons_zero,List.set_cons_succ]
     rfl
    refine puq (i := 15) (N := some 47) HT_.out (zZ 41 16) ?_
    refine puq (i := 16) (N := some 48) HT_.out (zZ 41 17) ?_
    refine zdY (fun _ _ _ _ _ h => h) HT_.out [(17,49),(18,50),(19,51),(20,52),(21,53),(22,54)] 18 rfl (zZ 41 23) (by kernel_rfl) (by kernel_rfl) (a' := ?_) ?_ ?_
    rotate_left
    ·simp only [zcB,Act.put,List.setIfInBounds_toArray,List.set_cons_zero,List.set_cons_succ]
     rfl
    refine puq (i := 23) (N := some 55) HT_.out (zZ 41 24) ?_
    refine puq (i := 24) (N := some 56) HT_.out (zZ 41 25) ?_
    refine zdY (fun _ _ _ _ _ h => h) HT_.out [(25,57),(26,58),(27,59),(28,60),(29,61),(30,62),(31,63),(32,64),(33,65),(34,66),(35,67),(36,68),(37,69),(38,70),(39,71)] 1 rfl (zZ 41 40) (by kernel_rfl) (by kernel_rfl) (a' := ?_) ?_ ?_
    rotate_left
    ·simp only [zcB,Act.put,List.setIfInBounds_toArray,List.set_cons_zero,List.set_cons_succ]
     rfl
    refine puq (i := 40) (N := some 72) HT_.out (zZ 41 41) ?_
    refine zbG (zaM HT_.out (by kernel_rfl)) ?_
    have HZ := za.mk hHeld.2.2.2.2.2.2.2.2.2.2.b
    go_wp2
    go_ret
    exact ⟨by rw [HNO.out HE.out];rfl,HZ.out⟩
  ·obtain rfl : k = l0_2.length := by omega
   have hb : decide (l0_2.length < l0_2.length) = false := decide_eq_false (Nat.lt_irrefl _)
   go_wp2_with fail
   go_ret
   exact ⟨by rw [ziX _ _ _ HN.out (by have h_ := HLOW.out;omega) HF.out];rfl,HB.out⟩
def zaL.f (a0_0 : Int) (a0_1 : Int) (l0_2 : List (S34)) : Option (Bool) := if l0_2.length < 1466015503701 then some (zbf a0_0 a0_1 l0_2) else none
theorem zaL.calls (a0_0 : Int) (a0_1 : Int) (A0_2 : Option Addr) (c0_2 : Nat) (l0_2 : List (S34)) (r : Bool) (w : World) (hr0_2 : Kd.C k34 w A0_2 l0_2.length l0_2) (hc0_2 : l0_2.length ≤ c0_2) (h : zaL.f a0_0 a0_1 l0_2 = some r) :
  Calls Try.prog 18 #[.agg #[.int .i64 a0_0,.int .i64 a0_1,.slice A0_2 l0_2.length c0_2]] w fun e w' => e = .returned (.bool r) ∧ Below w.heap.size w w' := by
 unfold zaL.f at h
 split at h
 ·rename_i hl
  obtain rfl := Option.some.inj h
  exact zaL.walk a0_0 a0_1 A0_2 c0_2 l0_2 w hr0_2 hc0_2 hl
 ·cases h
def zaT.f  : Option (Bool) := (zaE.f 4 0 ([] : List (S34)) 2 1 ([] : List (S78)) ([] : List ByteArray) 0 0).bind fun yg => ((zaE.f yg.1 yg.2.1 yg.2.2.1 2 1 ([] : List (S78)) ([] : List ByteArray) 0 0).bind fun yv => (if yg.2.2.2 = 0 then (if yv.2.2.2 = 8 then (if (yg.2.2.1.length : Int) = 1 then (if 0 < (yg.2.2.1.length : Int) then (if (((zd yg.2.2.1 0).f0).size : Int) = 32 then ((zaL.f yg.1 yg.2.1 yg.2.2.1).bind fun yp => (some yp)) else (some false)) else (none)) else (some false)) else (some false)) else (some false)))
set_option maxHeartbeats 8000000 in
set_option maxRecDepth 100000 in
theorem zaT.calls  (r : Bool) (w : World) (h : zaT.f  = some r) :
  Calls Try.prog 5 #[] w fun e w' => e = .returned (.bool r) ∧ Below w.heap.size w w' := by
 have hu24 := Try.underlying24
 have hu32 := Try.underlying32
 have HB := za.mk (Below.refl w.heap.size w)
 have H : ((zaE.f 4 0 ([] : List (S34)) 2 1 ([] : List (S78)) ([] : List ByteArray) 0 0).bind fun yg => ((zaE.f yg.1 yg.2.1 yg.2.2.1 2 1 ([] : List (S78)) ([] : List ByteArray) 0 0).bind fun yv => (if yg.2.2.2 = 0 then (if yv.2.2.2 = 8 then (if (yg.2.2.1.length : Int) = 1 then (if 0 < (yg.2.2.1.length : Int) then (if (((zd yg.2.2.1 0).f0).size : Int) = 32 then ((zaL.f yg.1 yg.2.1 yg.2.2.1).bind fun yp => (some yp)) else (some false)) else (none)) else (some false)) else (some false)) else (some false)))) = some r := h
 clear h
 replace H := Option.bind_eq_some_iff.mp H
 obtain ⟨⟨yj,yk,yc,yw⟩,A10,H⟩ := H
 replace H : ((zaE.f yj yk yc 2 1 ([] : List (S78)) ([] : List ByteArray) 0 0).bind fun yv => (if yw = 0 then (if yv.2.2.2 = 8 then (if (yc.length : Int) = 1 then (if 0 < (yc.length : Int) then (if (((zd yc 0).f0).size : Int) = 32 then ((zaL.f yj yk yc).bind fun yp => (some yp)) else (some false)) else (none)) else (some false)) else (some false)) else (some false))) = some r := H
 have A1 := za.mk A10
 clear A10
 replace H := Option.bind_eq_some_iff.mp H
 obtain ⟨⟨yt,yu,yo,yx⟩,A20,H⟩ := H
 replace H : (if yw = 0 then (if yx = 8 then (if (yc.length : Int) = 1 then (if 0 < (yc.length : Int) then (if (((zd yc 0).f0).size : Int) = 32 then ((zaL.f yj yk yc).bind fun yp => (some yp)) else (some false)) else (none)) else (some false)) else (some false)) else (some false)) = some r := H
 have A2 := za.mk A20
 clear A20
 by_cases c3 : yw = 0
 focus
  rw [if_pos c3] at H
  have c3b0 : (yw == 0) = true := beq_iff_eq.mpr c3
  have c3b1 : (yw != 0) = false := bne_eq_false_iff_eq.mpr c3
  clear c3
  by_cases c4 : yx = 8
  focus
   rw [if_pos c4] at H
   have c4b0 : (yx == 8) = true := beq_iff_eq.mpr c4
   have c4b1 : (yx != 8) = false := bne_eq_false_iff_eq.mpr c4
   clear c4
   by_cases c5 : (yc.length : Int) = 1
   focus
    rw [if_pos c5] at H
    have c5b0 : ((yc.length : Int) == 1) = true := beq_iff_eq.mpr c5
    have c5b1 : ((yc.length : Int) != 1) = false := bne_eq_false_iff_eq.mpr c5
    clear c5
    by_cases c6 : 0 < (yc.length : Int)
    focus
     rw [if_pos c6] at H
     have c6b0 : decide (0 < (yc.length : Int)) = true := decide_eq_true c6
     have c6b1 : decide (0 < yc.length) = true := decide_eq_true (by omega)
     clear c6
     by_cases c7 : (((zd yc 0).f0).size : Int) = 32
     focus
      rw [if_pos c7] at H
      have c7b0 : ((((zd yc 0).f0).size : Int) == 32) = true := beq_iff_eq.mpr c7
      have c7b1 : ((((zd yc 0).f0).size : Int) != 32) = false := bne_eq_false_iff_eq.mpr c7
      clear c7
      replace H := Option.bind_eq_some_iff.mp H
      obtain ⟨yp,A80,H⟩ := H
      replace H : (some yp) = some r := H
      have A8 := za.mk A80
      clear A80
      obtain rfl := Option.some.inj H
      have EQ0 := True.intro
      have EQ1 := True.intro
     rotate_left
     focus
      rw [if_neg c7] at H
      have c7b0 : ((((zd yc 0).f0).size : Int) == 32) = false := beq_eq_false_iff_ne.mpr c7
      have c7b1 : ((((zd yc 0).f0).size : Int) != 32) = true := bne_iff_ne.mpr c7
      obtain rfl := Option.some.inj H
      have EQ1 := True.intro
      have EQ2 := True.intro
    rotate_left 2
    ·rw [if_neg c6] at H
     exact absurd H (by simp)
   rotate_left 2
   focus
    rw [if_neg c5] at H
    have c5b0 : ((yc.length : Int) == 1) = false := beq_eq_false_iff_ne.mpr c5
    have c5b1 : ((yc.length : Int) != 1) = true := bne_iff_ne.mpr c5
    obtain rfl := Option.some.inj H
    have EQ3 := True.intro
  rotate_left 3
  focus
   rw [if_neg c4] at H
   have c4b0 : (yx == 8) = false := beq_eq_false_iff_ne.mpr c4
   have c4b1 : (yx != 8) = true := bne_iff_ne.mpr c4
   obtain rfl := Option.some.inj H
   have EQ1 := True.intro
   have EQ4 := True.intro
 rotate_left 4
 focus
  rw [if_neg c3] at H
  have c3b0 : (yw == 0) = false := beq_eq_false_iff_ne.mpr c3
  have c3b1 : (yw != 0) = true := bne_iff_ne.mpr c3
  obtain rfl := Option.some.inj H
  have EQ1 := True.intro
  have EQ5 := True.intro
 all_goals
  go_enter Try.func5,Try.ntmps5
  go_wp2_with (first | ((with_reducible refine zN (f := 17) rfl ?_);refine zax (some 8) rfl rfl Try.func17 (by kernel_rfl) rfl #[.agg #[.int .i64 4,.int .i64 0,.slice none 0 0],.agg #[.int .i64 2,.int .i64 1,.slice none 0 0,.slice none 0 0,.int .i64 0,.int .i64 0]] rfl hMq ?_;(refine (zaE.calls 4 0 (fun k_ => False) _ _ ([] : List (S34)) 2 1 (fun k_ => False) _ _ ([] : List (S78)) (fun k_ => False) _ _ ([] : List ByteArray) 0 0 yj yk yc yw _ ?side1 ?side2 ?side3 A1.out).mono ?_);(case side1 => exact Kd.V_nil _ _ _ _ _);(case side2 => exact Kd.V_nil _ _ _ _ _);(case side3 => exact Kd.V_nil _ _ _ _ _);rintro e wQF17A11 ⟨vQF17A12,rfl,hoQF17A13,hb⟩;refine ⟨_,rfl,?_⟩;have n_ := haq (Kd.V_lower (Kd.V_mono (ok' := fun k_ => True) hoQF17A13 (fun k_ hk_ => trivial)) (zh hBq)) <| haq (zf hBq hb) <| trivial;clear HB;obtain ⟨HOQF17A14,HB,_⟩ := n_;(try clear hb);(try clear hb2);(try clear hk);(try clear hi);(try clear hoQF17A13)) | ((with_reducible refine zq (N := 1) rfl ?_);(try (refine zbP (by rfl) ?_;dsimp only));refine zn rfl (N := 1) rfl (cs := #[.int .i64 0,.int .i64 0,.slice none 0 0]) (t := 24) hrq ?_;intro ya hg wQN12 hbox hb;have n_ := haq (Kd.V_below (Kd.V_elderB (by (with_reducible repeat (first | apply Kd.V_alloc | apply Kd.V_drewN | apply Kd.V_drew));exact HOQF17A14.out) ya (Nat.le_of_eq hg.symm)) hb) <| haq (zf hBq hb) <| haq (hbox) <| haq ((by rw [hg];exact (zh hBq) : w.heap.size ≤ ya)) <| haq ((by rw [hg];exact (zh hBq) : w.heap.size ≤ ya)) <| trivial;clear HOQF17A14 HB;obtain ⟨HOQF17A14,HB,yb,yZ,yY,_⟩ := n_;clear hb hbox hg;obtain ⟨hczQN17,hczQN18,hczQN19,yS,yT,yU⟩ := hcq3 yb.out;obtain ⟨yd,ye,yI⟩ := Kd.V_slice HOQF17A14.out;subst yI) | (have _ := EQ0;((with_reducible refine zaD (t := 24) (p := 1) rfl ?_);refine zaw (t := 24) (p := 1) (v := _) (w1 := (((wQN12.setCell ⟨ya,0,none⟩ (.int .i64 yj)).setCell ⟨ya,1,none⟩ (.int .i64 yk)).setCell ⟨ya,2,none⟩ (.slice yd yc.length ye))) rfl rfl rfl hrq ?_;intro wQX1 hw;have n_ := haq (((by rw [hw];exact (by (with_reducible repeat (first | apply Kd.V_alloc | apply Kd.V_drewN | apply Kd.V_drew));exact Kd.V_mono (Kd.V_far (p := ⟨ya,2,none⟩) (Kd.V_far (p := ⟨ya,1,none⟩) (Kd.V_far (p := ⟨ya,0,none⟩) (Kd.V_mono HOQF17A14.out (fun k_ hk => (⟨hk,hk.2⟩ : _ ∧ k_ ≠ ya))) (fun _ hk => hk.2) (.int .i64 yj)) (fun _ hk => hk.2) (.int .i64 yk)) (fun _ hk => hk.2) (.slice yd yc.length ye)) (fun _ hk => hk.1.2))) : Kd.V k34 34 wQX1 w.heap.size (fun k_ => k_ ≠ ya) (.slice yd yc.length ye) yc)) <| haq (((by rw [hw];exact (hxq0p yb.out)) : wQX1.heap[ya]? = some (.cells #[.int .i64 yj,.int .i64 yk,.slice yd yc.length ye] 24 (0,0)))) <| haq (((by rw [hw];exact hCq) : Below w.heap.size w wQX1)) <| trivial;clear hw HOQF17A14 yb HB;obtain ⟨HOQF17A14,yb,HB,_⟩ := n_;obtain ⟨hczQX4,hczQX5,hczQX6,hfzQX7,hfzQX8,hfzQX9⟩ := hcq3 yb.out)) | ((with_reducible refine zN (f := 17) rfl ?_);refine zax (some 14) rfl rfl Try.func17 (by kernel_rfl) rfl #[.agg #[.int .i64 yj,.int .i64 yk,.slice yd yc.length ye],.agg #[.int .i64 2,.int .i64 1,.slice none 0 0,.slice none 0 0,.int .i64 0,.int .i64 0]] rfl hMq ?_;(refine (zaE.calls yj yk (fun k_ => k_ ≠ ya) _ _ yc 2 1 (fun k_ => False) _ _ ([] : List (S78)) (fun k_ => False) _ _ ([] : List ByteArray) 0 0 yt yu yo yx _ ?side1 ?side2 ?side3 A2.out).mono ?_);(case side1 => exact HOQF17A14.out);(case side2 => exact Kd.V_nil _ _ _ _ _);(case side3 => exact Kd.V_nil _ _ _ _ _);rintro e wQF17A21 ⟨vQF17A22,rfl,hoQF17A13,hb⟩;refine ⟨_,rfl,?_⟩;have n_ := haq (Kd.V_below (by (with_reducible repeat (first | apply Kd.V_alloc | apply Kd.V_drewN | apply Kd.V_drew));exact HOQF17A14.out) hb) <| haq (Kd.V_lower (Kd.V_mono (ok' := fun k_ => k_ ≠ ya) hoQF17A13 (fun k_ hk_ => Or.elim hk_ (fun hs_ => Or.elim hs_ (fun hs_ => hs_) (fun hs_ => Or.elim hs_ (fun hs_ => (hs_).elim) (fun hs_ => (hs_).elim))) (fun hn_ => (Kd.freshB (g := ya) (o := .cells #[.int .i64 yj,.int .i64 yk,.slice yd yc.length ye] 24 (0,0)) (hGq yb.out) k_ hn_)))) (zh hCq)) <| haq (hbq yb.out hb) <| haq (zf hCq hb) <| trivial;clear HOQF17A14 yb HB;obtain ⟨HOQF17A14,HOQF17A25,yb,HB,_⟩ := n_;(try clear hb);(try clear hb2);(try clear hk);(try clear hi);(try clear hoQF17A13)) | (have _ := EQ1;((with_reducible refine zq (N := 3) rfl ?_);(try (refine zbP (by rfl) ?_;dsimp only));refine zn rfl (N := 3) rfl (cs := #[.int .i64 0,.int .i64 0,.slice none 0 0]) (t := 24) hrq ?_;intro yf hg wQN32 hbox hb;have n_ := haq (Kd.V_below (Kd.V_elderB (by (with_reducible repeat (first | apply Kd.V_alloc | apply Kd.V_drewN | apply Kd.V_drew));exact HOQF17A14.out) yf (Nat.le_of_eq hg.symm)) hb) <| haq (Kd.V_below (Kd.V_elderB (by (with_reducible repeat (first | apply Kd.V_alloc | apply Kd.V_drewN | apply Kd.V_drew));exact HOQF17A25.out) yf (Nat.le_of_eq hg.symm)) hb) <| haq (hbq yb.out hb) <| haq (zf hCq hb) <| haq (hbox) <| haq ((by rw [hg];exact (zh hCq) : w.heap.size ≤ yf)) <| haq ((by rw [hg];exact (zh hCq) : w.heap.size ≤ yf)) <| haq (hnq hg yb.out) <| haq (hmq hg yb.out) <| trivial;clear HOQF17A14 HOQF17A25 yb HB;obtain ⟨HOQF17A14,HOQF17A25,yb,HB,yl,yO,yN,NBQN39,yq,_⟩ := n_;clear hb hbox hg;have yE := yq.out;have yF := NBQN39.out;obtain ⟨yy,yz,yA,yB,yC,yD⟩ := hcq3 yl.out;obtain ⟨yh,yi,yr⟩ := Kd.V_slice HOQF17A25.out;subst yr)) | (have _ := EQ0;((with_reducible refine zaD (t := 24) (p := 3) rfl ?_);refine zaw (t := 24) (p := 3) (v := _) (w1 := (((wQN32.setCell ⟨yf,0,none⟩ (.int .i64 yt)).setCell ⟨yf,1,none⟩ (.int .i64 yu)).setCell ⟨yf,2,none⟩ (.slice yh yo.length yi))) rfl rfl rfl hrq ?_;intro wQX1 hw;have n_ := haq (((by rw [hw];exact (by (with_reducible repeat (first | apply Kd.V_alloc | apply Kd.V_drewN | apply Kd.V_drew));exact Kd.V_mono (Kd.V_far (p := ⟨yf,2,none⟩) (Kd.V_far (p := ⟨yf,1,none⟩) (Kd.V_far (p := ⟨yf,0,none⟩) (Kd.V_mono HOQF17A14.out (fun k_ hk => (⟨hk,hk.2⟩ : _ ∧ k_ ≠ yf))) (fun _ hk => hk.2) (.int .i64 yt)) (fun _ hk => hk.2) (.int .i64 yu)) (fun _ hk => hk.2) (.slice yh yo.length yi)) (fun _ hk => ⟨hk.1.1,hk.1.2⟩))) : Kd.V k34 34 wQX1 w.heap.size (fun k_ => k_ ≠ ya ∧ k_ ≠ yf) (.slice yd yc.length ye) yc)) <| haq (((by rw [hw];exact (by (with_reducible repeat (first | apply Kd.V_alloc | apply Kd.V_drewN | apply Kd.V_drew));exact Kd.V_mono (Kd.V_far (p := ⟨yf,2,none⟩) (Kd.V_far (p := ⟨yf,1,none⟩) (Kd.V_far (p := ⟨yf,0,none⟩) (Kd.V_mono HOQF17A25.out (fun k_ hk => (⟨hk,hk.2⟩ : _ ∧ k_ ≠ yf))) (fun _ hk => hk.2) (.int .i64 yt)) (fun _ hk => hk.2) (.int .i64 yu)) (fun _ hk => hk.2) (.slice yh yo.length yi)) (fun _ hk => ⟨hk.1.1,hk.1.2⟩))) : Kd.V k34 34 wQX1 w.heap.size (fun k_ => k_ ≠ ya ∧ k_ ≠ yf) (.slice yh yo.length yi) yo)) <| haq (hfq hw NBQN39.out yb.out) <| haq (((by rw [hw];exact (hxq0p yl.out)) : wQX1.heap[yf]? = some (.cells #[.int .i64 yt,.int .i64 yu,.slice yh yo.length yi] 24 (0,0)))) <| haq (((by rw [hw];exact hCq) : Below w.heap.size w wQX1)) <| trivial;clear hw HOQF17A14 HOQF17A25 yb yl HB;obtain ⟨HOQF17A14,HOQF17A25,yb,yl,HB,_⟩ := n_;obtain ⟨hczQX6,hczQX7,hczQX8,hfzQX9,hfzQX10,hfzQX11⟩ := hcq3 yb.out;have pQX12 : 0 ≤ (0 : Int) := (by omega);have qQX13 : 0 < (yc.length : Int) := hFq;obtain ⟨adQX14,yJ,yL,yK,yM,eQX19,hxQX20,hxQX21,hxQX22,hxQX23,hxQX24,hxQX25,hxQX26,hlQX27,hiQX28,hlQX29,hiQX30⟩ := za7 (Kd.V_reads' HOQF17A14.out).2.2 0 pQX12 qQX13;cases eQX19;obtain ⟨ceQX31,hceQX32,hMeQX33,hccQX34⟩ := Kd.V_get HOQF17A14.out z34 0 pQX12 (by first | exact qQX13 | exact hFq | (have e_ := (Kd.V_reads' HOQF17A14.out).1;omega));obtain ⟨uaQX35,ucQX36,uaQX37,ucQX38,rfl,ulQX39,geQX40,ulQX41,geQX42⟩ := zbJ hMeQX33;have hvQX43 := hccQX34 3 _ rfl;rw [zW _ _ 3 (by omega)] at hvQX43;replace hvQX43 := Option.some.inj (hvQX43.symm.trans hxQX23);injection hvQX43 with hva_ hvn_ hvc_;rw [hva_] at geQX40;rw [hvc_] at ulQX39;have HLQX44 := za.mk (show Kd.V k78 78 _ w.heap.size _ _ ((zd yc 0).f1.f2) from Kd.V_mk ulQX39 geQX40);clear hva_ hvn_ hvc_ geQX40 ulQX39;have hvQX45 := hccQX34 4 _ rfl;rw [zW _ _ 4 (by omega)] at hvQX45;replace hvQX45 := Option.some.inj (hvQX45.symm.trans hxQX24);injection hvQX45 with hva_ hvn_ hvc_;rw [hva_] at geQX42;rw [hvc_] at ulQX41;have HLQX46 := za.mk (show Kd.V Kd.string 9 _ w.heap.size _ _ ((zd yc 0).f1.f3) from Kd.V_mk ulQX41 geQX42);clear hva_ hvn_ hvc_ geQX42 ulQX41;clear hccQX34 hceQX32;have qiQX47 : (0 < yc.length) = True := eq_true (by omega);(try rw [show ((0 : Int)).toNat = 0 from rfl] at hxQX20);(try rw [show 0 * 7 = 0 from rfl] at hxQX20);(try rw [Addr.add_zero'] at hxQX20);(try rw [show ((0 : Int)).toNat = 0 from rfl] at hxQX21);(try rw [show 0 * 7 = 0 from rfl] at hxQX21);(try rw [Addr.add_zero'] at hxQX21);(try rw [show ((0 : Int)).toNat = 0 from rfl] at hxQX22);(try rw [show 0 * 7 = 0 from rfl] at hxQX22);(try rw [Addr.add_zero'] at hxQX22);(try rw [show ((0 : Int)).toNat = 0 from rfl] at hxQX23);(try rw [show 0 * 7 = 0 from rfl] at hxQX23);(try rw [Addr.add_zero'] at hxQX23);(try rw [show ((0 : Int)).toNat = 0 from rfl] at hxQX24);(try rw [show 0 * 7 = 0 from rfl] at hxQX24);(try rw [Addr.add_zero'] at hxQX24);(try rw [show ((0 : Int)).toNat = 0 from rfl] at hxQX25);(try rw [show 0 * 7 = 0 from rfl] at hxQX25);(try rw [Addr.add_zero'] at hxQX25);(try rw [show ((0 : Int)).toNat = 0 from rfl] at hxQX26);(try rw [show 0 * 7 = 0 from rfl] at hxQX26);(try rw [Addr.add_zero'] at hxQX26);have ym := za.mk hiQX28;have yG := za.mk hlQX27;clear hiQX28 hlQX27;have yn := za.mk hiQX30;have yH := za.mk hlQX29;clear hiQX30 hlQX29;replace pQX12 := eq_true pQX12;replace qQX13 := eq_true qQX13)) | (have _ := EQ0;(go_at_call 18;(with_reducible refine (zaL.calls yj yk _ _ yc yp _ ?side1 ?side2 A8.out).mono ?_);(case side1 => repeat (first | exact (Kd.V_reads' HOQF17A14.out).2.2 | (with_reducible refine Kd.C_alloc ?_ _) | (with_reducible refine Kd.C_drewN ?_ _) | (with_reducible refine Kd.C_drew ?_)));(case side2 => exact (Kd.V_reads' HOQF17A14.out).2.1);rintro e wQC18A81 ⟨rfl,hb⟩;have n_ := haq (Kd.V_below (by (with_reducible repeat (first | apply Kd.V_alloc | apply Kd.V_drewN | apply Kd.V_drew));exact HOQF17A14.out) hb) <| haq (Kd.V_below (by (with_reducible repeat (first | apply Kd.V_alloc | apply Kd.V_drewN | apply Kd.V_drew));exact HOQF17A25.out) hb) <| haq (Kd.V_below (by (with_reducible repeat (first | apply Kd.V_alloc | apply Kd.V_drewN | apply Kd.V_drew));exact HLQX44.out) hb) <| haq (Kd.V_below (by (with_reducible repeat (first | apply Kd.V_alloc | apply Kd.V_drewN | apply Kd.V_drew));exact HLQX46.out) hb) <| haq (hbq yb.out hb) <| haq (hbq yl.out hb) <| haq (Kd.C_below (by repeat (first | (with_reducible exact ym.out) | (with_reducible refine Kd.C_alloc ?_ _) | (with_reducible refine Kd.C_drewN ?_ _) | (with_reducible refine Kd.C_drew ?_) | exact ym.out)) hb) <| haq (Kd.C_below (by repeat (first | (with_reducible exact yn.out) | (with_reducible refine Kd.C_alloc ?_ _) | (with_reducible refine Kd.C_drewN ?_ _) | (with_reducible refine Kd.C_drew ?_) | exact yn.out)) hb) <| haq (zf hCq hb) <| trivial;clear HOQF17A14 HOQF17A25 HLQX44 HLQX46 yb yl ym yn HB;obtain ⟨HOQF17A14,HOQF17A25,HLQX44,HLQX46,yb,yl,ym,yn,HB,_⟩ := n_;(try clear hb);(try clear hb2);(try clear hk);(try clear hi))) | (have _ := EQ2;((with_reducible refine zaD (t := 24) (p := 1) rfl ?_);refine zaw (t := 24) (p := 1) (v := _) (w1 := (((wQN12.setCell ⟨ya,0,none⟩ (.int .i64 yj)).setCell ⟨ya,1,none⟩ (.int .i64 yk)).setCell ⟨ya,2,none⟩ (.slice yd yc.length ye))) rfl rfl rfl hrq ?_;intro wQX1 hw;have n_ := haq (((by rw [hw];exact (by (with_reducible repeat (first | apply Kd.V_alloc | apply Kd.V_drewN | apply Kd.V_drew));exact Kd.V_mono (Kd.V_far (p := ⟨ya,2,none⟩) (Kd.V_far (p := ⟨ya,1,none⟩) (Kd.V_far (p := ⟨ya,0,none⟩) (Kd.V_mono HOQF17A14.out (fun k_ hk => (⟨hk,hk.2⟩ : _ ∧ k_ ≠ ya))) (fun _ hk => hk.2) (.int .i64 yj)) (fun _ hk => hk.2) (.int .i64 yk)) (fun _ hk => hk.2) (.slice yd yc.length ye)) (fun _ hk => hk.1.2))) : Kd.V k34 34 wQX1 w.heap.size (fun k_ => k_ ≠ ya) (.slice yd yc.length ye) yc)) <| haq (((by rw [hw];exact (hxq0p yb.out)) : wQX1.heap[ya]? = some (.cells #[.int .i64 yj,.int .i64 yk,.slice yd yc.length ye] 24 (0,0)))) <| haq (((by rw [hw];exact hCq) : Below w.heap.size w wQX1)) <| trivial;clear hw HOQF17A14 yb HB;obtain ⟨HOQF17A14,yb,HB,_⟩ := n_;obtain ⟨hczQX4,hczQX5,hczQX6,hfzQX7,hfzQX8,hfzQX9⟩ := hcq3 yb.out)) | (have _ := EQ2;((with_reducible refine zaD (t := 24) (p := 3) rfl ?_);refine zaw (t := 24) (p := 3) (v := _) (w1 := (((wQN32.setCell ⟨yf,0,none⟩ (.int .i64 yt)).setCell ⟨yf,1,none⟩ (.int .i64 yu)).setCell ⟨yf,2,none⟩ (.slice yh yo.length yi))) rfl rfl rfl hrq ?_;intro wQX1 hw;have n_ := haq (((by rw [hw];exact (by (with_reducible repeat (first | apply Kd.V_alloc | apply Kd.V_drewN | apply Kd.V_drew));exact Kd.V_mono (Kd.V_far (p := ⟨yf,2,none⟩) (Kd.V_far (p := ⟨yf,1,none⟩) (Kd.V_far (p := ⟨yf,0,none⟩) (Kd.V_mono HOQF17A14.out (fun k_ hk => (⟨hk,hk.2⟩ : _ ∧ k_ ≠ yf))) (fun _ hk => hk.2) (.int .i64 yt)) (fun _ hk => hk.2) (.int .i64 yu)) (fun _ hk => hk.2) (.slice yh yo.length yi)) (fun _ hk => ⟨hk.1.1,hk.1.2⟩))) : Kd.V k34 34 wQX1 w.heap.size (fun k_ => k_ ≠ ya ∧ k_ ≠ yf) (.slice yd yc.length ye) yc)) <| haq (((by rw [hw];exact (by (with_reducible repeat (first | apply Kd.V_alloc | apply Kd.V_drewN | apply Kd.V_drew));exact Kd.V_mono (Kd.V_far (p := ⟨yf,2,none⟩) (Kd.V_far (p := ⟨yf,1,none⟩) (Kd.V_far (p := ⟨yf,0,none⟩) (Kd.V_mono HOQF17A25.out (fun k_ hk => (⟨hk,hk.2⟩ : _ ∧ k_ ≠ yf))) (fun _ hk => hk.2) (.int .i64 yt)) (fun _ hk => hk.2) (.int .i64 yu)) (fun _ hk => hk.2) (.slice yh yo.length yi)) (fun _ hk => ⟨hk.1.1,hk.1.2⟩))) : Kd.V k34 34 wQX1 w.heap.size (fun k_ => k_ ≠ ya ∧ k_ ≠ yf) (.slice yh yo.length yi) yo)) <| haq (hfq hw NBQN39.out yb.out) <| haq (((by rw [hw];exact (hxq0p yl.out)) : wQX1.heap[yf]? = some (.cells #[.int .i64 yt,.int .i64 yu,.slice yh yo.length yi] 24 (0,0)))) <| haq (((by rw [hw];exact hCq) : Below w.heap.size w wQX1)) <| trivial;clear hw HOQF17A14 HOQF17A25 yb yl HB;obtain ⟨HOQF17A14,HOQF17A25,yb,yl,HB,_⟩ := n_;obtain ⟨hczQX6,hczQX7,hczQX8,hfzQX9,hfzQX10,hfzQX11⟩ := hcq3 yb.out;have pQX12 : 0 ≤ (0 : Int) := (by omega);have qQX13 : 0 < (yc.length : Int) := hFq;obtain ⟨adQX14,yJ,yL,yK,yM,eQX19,hxQX20,hxQX21,hxQX22,hxQX23,hxQX24,hxQX25,hxQX26,hlQX27,hiQX28,hlQX29,hiQX30⟩ := za7 (Kd.V_reads' HOQF17A14.out).2.2 0 pQX12 qQX13;cases eQX19;obtain ⟨ceQX31,hceQX32,hMeQX33,hccQX34⟩ := Kd.V_get HOQF17A14.out z34 0 pQX12 (by first | exact qQX13 | exact hFq | (have e_ := (Kd.V_reads' HOQF17A14.out).1;omega));obtain ⟨uaQX35,ucQX36,uaQX37,ucQX38,rfl,ulQX39,geQX40,ulQX41,geQX42⟩ := zbJ hMeQX33;have hvQX43 := hccQX34 3 _ rfl;rw [zW _ _ 3 (by omega)] at hvQX43;replace hvQX43 := Option.some.inj (hvQX43.symm.trans hxQX23);injection hvQX43 with hva_ hvn_ hvc_;rw [hva_] at geQX40;rw [hvc_] at ulQX39;have HLQX44 := za.mk (show Kd.V k78 78 _ w.heap.size _ _ ((zd yc 0).f1.f2) from Kd.V_mk ulQX39 geQX40);clear hva_ hvn_ hvc_ geQX40 ulQX39;have hvQX45 := hccQX34 4 _ rfl;rw [zW _ _ 4 (by omega)] at hvQX45;replace hvQX45 := Option.some.inj (hvQX45.symm.trans hxQX24);injection hvQX45 with hva_ hvn_ hvc_;rw [hva_] at geQX42;rw [hvc_] at ulQX41;have HLQX46 := za.mk (show Kd.V Kd.string 9 _ w.heap.size _ _ ((zd yc 0).f1.f3) from Kd.V_mk ulQX41 geQX42);clear hva_ hvn_ hvc_ geQX42 ulQX41;clear hccQX34 hceQX32;have qiQX47 : (0 < yc.length) = True := eq_true (by omega);(try rw [show ((0 : Int)).toNat = 0 from rfl] at hxQX20);(try rw [show 0 * 7 = 0 from rfl] at hxQX20);(try rw [Addr.add_zero'] at hxQX20);(try rw [show ((0 : Int)).toNat = 0 from rfl] at hxQX21);(try rw [show 0 * 7 = 0 from rfl] at hxQX21);(try rw [Addr.add_zero'] at hxQX21);(try rw [show ((0 : Int)).toNat = 0 from rfl] at hxQX22);(try rw [show 0 * 7 = 0 from rfl] at hxQX22);(try rw [Addr.add_zero'] at hxQX22);(try rw [show ((0 : Int)).toNat = 0 from rfl] at hxQX23);(try rw [show 0 * 7 = 0 from rfl] at hxQX23);(try rw [Addr.add_zero'] at hxQX23);(try rw [show ((0 : Int)).toNat = 0 from rfl] at hxQX24);(try rw [show 0 * 7 = 0 from rfl] at hxQX24);(try rw [Addr.add_zero'] at hxQX24);(try rw [show ((0 : Int)).toNat = 0 from rfl] at hxQX25);(try rw [show 0 * 7 = 0 from rfl] at hxQX25);(try rw [Addr.add_zero'] at hxQX25);(try rw [show ((0 : Int)).toNat = 0 from rfl] at hxQX26);(try rw [show 0 * 7 = 0 from rfl] at hxQX26);(try rw [Addr.add_zero'] at hxQX26);have ym := za.mk hiQX28;have yG := za.mk hlQX27;clear hiQX28 hlQX27;have yn := za.mk hiQX30;have yH := za.mk hlQX29;clear hiQX30 hlQX29;replace pQX12 := eq_true pQX12;replace qQX13 := eq_true qQX13)) | (have _ := EQ3;((with_reducible refine zaD (t := 24) (p := 1) rfl ?_);refine zaw (t := 24) (p := 1) (v := _) (w1 := (((wQN12.setCell ⟨ya,0,none⟩ (.int .i64 yj)).setCell ⟨ya,1,none⟩ (.int .i64 yk)).setCell ⟨ya,2,none⟩ (.slice yd yc.length ye))) rfl rfl rfl hrq ?_;intro wQX1 hw;have n_ := haq (((by rw [hw];exact (by (with_reducible repeat (first | apply Kd.V_alloc | apply Kd.V_drewN | apply Kd.V_drew));exact Kd.V_mono (Kd.V_far (p := ⟨ya,2,none⟩) (Kd.V_far (p := ⟨ya,1,none⟩) (Kd.V_far (p := ⟨ya,0,none⟩) (Kd.V_mono HOQF17A14.out (fun k_ hk => (⟨hk,hk.2⟩ : _ ∧ k_ ≠ ya))) (fun _ hk => hk.2) (.int .i64 yj)) (fun _ hk => hk.2) (.int .i64 yk)) (fun _ hk => hk.2) (.slice yd yc.length ye)) (fun _ hk => hk.1.2))) : Kd.V k34 34 wQX1 w.heap.size (fun k_ => k_ ≠ ya) (.slice yd yc.length ye) yc)) <| haq (((by rw [hw];exact (hxq0p yb.out)) : wQX1.heap[ya]? = some (.cells #[.int .i64 yj,.int .i64 yk,.slice yd yc.length ye] 24 (0,0)))) <| haq (((by rw [hw];exact hCq) : Below w.heap.size w wQX1)) <| trivial;clear hw HOQF17A14 yb HB;obtain ⟨HOQF17A14,yb,HB,_⟩ := n_;obtain ⟨hczQX4,hczQX5,hczQX6,hfzQX7,hfzQX8,hfzQX9⟩ := hcq3 yb.out)) | (have _ := EQ3;((with_reducible refine zq (N := 3) rfl ?_);(try (refine zbP (by rfl) ?_;dsimp only));refine zn rfl (N := 3) rfl (cs := #[.int .i64 0,.int .i64 0,.slice none 0 0]) (t := 24) hrq ?_;intro yf hg wQN32 hbox hb;have n_ := haq (Kd.V_below (Kd.V_elderB (by (with_reducible repeat (first | apply Kd.V_alloc | apply Kd.V_drewN | apply Kd.V_drew));exact HOQF17A14.out) yf (Nat.le_of_eq hg.symm)) hb) <| haq (Kd.V_below (Kd.V_elderB (by (with_reducible repeat (first | apply Kd.V_alloc | apply Kd.V_drewN | apply Kd.V_drew));exact HOQF17A25.out) yf (Nat.le_of_eq hg.symm)) hb) <| haq (hbq yb.out hb) <| haq (zf hCq hb) <| haq (hbox) <| haq ((by rw [hg];exact (zh hCq) : w.heap.size ≤ yf)) <| haq ((by rw [hg];exact (zh hCq) : w.heap.size ≤ yf)) <| haq (hnq hg yb.out) <| haq (hmq hg yb.out) <| trivial;clear HOQF17A14 HOQF17A25 yb HB;obtain ⟨HOQF17A14,HOQF17A25,yb,HB,yl,yO,yN,NBQN39,yq,_⟩ := n_;clear hb hbox hg;have yE := yq.out;have yF := NBQN39.out;obtain ⟨yy,yz,yA,yB,yC,yD⟩ := hcq3 yl.out;obtain ⟨yh,yi,yr⟩ := Kd.V_slice HOQF17A25.out;subst yr;obtain ⟨yP,yQ,yR,yV,yW,yX⟩ := hcq3 yb.out)) | (have _ := EQ4;((with_reducible refine zaD (t := 24) (p := 1) rfl ?_);refine zaw (t := 24) (p := 1) (v := _) (w1 := (((wQN12.setCell ⟨ya,0,none⟩ (.int .i64 yj)).setCell ⟨ya,1,none⟩ (.int .i64 yk)).setCell ⟨ya,2,none⟩ (.slice yd yc.length ye))) rfl rfl rfl hrq ?_;intro wQX1 hw;have n_ := haq (((by rw [hw];exact (by (with_reducible repeat (first | apply Kd.V_alloc | apply Kd.V_drewN | apply Kd.V_drew));exact Kd.V_mono (Kd.V_far (p := ⟨ya,2,none⟩) (Kd.V_far (p := ⟨ya,1,none⟩) (Kd.V_far (p := ⟨ya,0,none⟩) (Kd.V_mono HOQF17A14.out (fun k_ hk => (⟨hk,hk.2⟩ : _ ∧ k_ ≠ ya))) (fun _ hk => hk.2) (.int .i64 yj)) (fun _ hk => hk.2) (.int .i64 yk)) (fun _ hk => hk.2) (.slice yd yc.length ye)) (fun _ hk => hk.1.2))) : Kd.V k34 34 wQX1 w.heap.size (fun k_ => k_ ≠ ya) (.slice yd yc.length ye) yc)) <| haq (((by rw [hw];exact (hxq0p yb.out)) : wQX1.heap[ya]? = some (.cells #[.int .i64 yj,.int .i64 yk,.slice yd yc.length ye] 24 (0,0)))) <| haq (((by rw [hw];exact hCq) : Below w.heap.size w wQX1)) <| trivial;clear hw HOQF17A14 yb HB;obtain ⟨HOQF17A14,yb,HB,_⟩ := n_;obtain ⟨hczQX4,hczQX5,hczQX6,hfzQX7,hfzQX8,hfzQX9⟩ := hcq3 yb.out)) | (have _ := EQ5;((with_reducible refine zaD (t := 24) (p := 1) rfl ?_);refine zaw (t := 24) (p := 1) (v := _) (w1 := (((wQN12.setCell ⟨ya,0,none⟩ (.int .i64 yj)).setCell ⟨ya,1,none⟩ (.int .i64 yk)).setCell ⟨ya,2,none⟩ (.slice yd yc.length ye))) rfl rfl rfl hrq ?_;intro wQX1 hw;have n_ := haq (((by rw [hw];exact (by (with_reducible repeat (first | apply Kd.V_alloc | apply Kd.V_drewN | apply Kd.V_drew));exact Kd.V_mono (Kd.V_far (p := ⟨ya,2,none⟩) (Kd.V_far (p := ⟨ya,1,none⟩) (Kd.V_far (p := ⟨ya,0,none⟩) (Kd.V_mono HOQF17A14.out (fun k_ hk => (⟨hk,hk.2⟩ : _ ∧ k_ ≠ ya))) (fun _ hk => hk.2) (.int .i64 yj)) (fun _ hk => hk.2) (.int .i64 yk)) (fun _ hk => hk.2) (.slice yd yc.length ye)) (fun _ hk => hk.1.2))) : Kd.V k34 34 wQX1 w.heap.size (fun k_ => k_ ≠ ya) (.slice yd yc.length ye) yc)) <| haq (((by rw [hw];exact (hxq0p yb.out)) : wQX1.heap[ya]? = some (.cells #[.int .i64 yj,.int .i64 yk,.slice yd yc.length ye] 24 (0,0)))) <| haq (((by rw [hw];exact hCq) : Below w.heap.size w wQX1)) <| trivial;clear hw HOQF17A14 yb HB;obtain ⟨HOQF17A14,yb,HB,_⟩ := n_;obtain ⟨hczQX4,hczQX5,hczQX6,hfzQX7,hfzQX8,hfzQX9⟩ := hcq3 yb.out)))
  go_ret
  exact ⟨hHq,hCq⟩
def zar.f (a0_0 : Int) (a0_1 : Int) (l0_2 : List (S34)) : Option (Bool) := some (decide ((l0_2.length : Int) ≤ 60))
set_option maxHeartbeats 8000000 in
set_option maxRecDepth 100000 in
theorem zar.calls (a0_0 : Int) (a0_1 : Int) (A0_2 : Option Addr) (c0_2 : Nat) (l0_2 : List (S34)) (r : Bool) (w : World) (hr0_2 : Kd.C k34 w A0_2 l0_2.length l0_2) (hc0_2 : l0_2.length ≤ c0_2) (h : zar.f a0_0 a0_1 l0_2 = some r) :
  Calls Try.prog 6 #[.agg #[.int .i64 a0_0,.int .i64 a0_1,.slice A0_2 l0_2.length c0_2]] w fun e w' => e = .returned (.bool r) ∧ Below w.heap.size w w' := by
 have hu24 := Try.underlying24
 have HR0_2 := za.mk hr0_2
 have HC0_2 := za.mk hc0_2
 clear hr0_2 hc0_2
 have HB := za.mk (Below.refl w.heap.size w)
 have H : (some (decide ((l0_2.length : Int) ≤ 60))) = some r := h
 clear h
 obtain rfl := Option.some.inj H
 go_enter Try.func6,Try.ntmps6
 go_wp2_with (first | ((with_reducible refine zq (N := 1) rfl ?_);refine zn rfl (N := 1) rfl (cs := #[.int .i64 a0_0,.int .i64 a0_1,.slice A0_2 l0_2.length c0_2]) (t := 24) hrq ?_;intro ya hg w2 hbox hb;have n_ := haq (zf hBq hb) <| haq (hbox) <| haq ((by rw [hg];exact (zh hBq) : w.heap.size ≤ ya)) <| haq ((by rw [hg];exact (zh hBq) : w.heap.size ≤ ya)) <| trivial;clear HB;obtain ⟨HB,yb,yd,yc,_⟩ := n_;clear hb hbox hg;obtain ⟨hcz3_0,hcz3_1,hcz3_2,hfz3_0,hfz3_1,hfz3_2⟩ := hcq3 yb.out))
 go_ret
 exact ⟨hHq,hCq⟩
end Go.Proofs.Ytndjfdakflaggaa.Px