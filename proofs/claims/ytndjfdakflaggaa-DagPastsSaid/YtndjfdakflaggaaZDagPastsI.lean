/- Part 9 of 30 of the proof of the law DagPasts: what is proved is the statement at the end of the last part; its conditions are those of the given row. -/
import Derived.Test.YtndjfdakflaggaaZDagPastsF
namespace Go.Proofs.Ytndjfdakflaggaa.Px
open Go.RowKit Go.Proofs.YtndjfdakflaggaaW.PrintWords Go.Proofs.YtndjfdakflaggaaW.PrintLast Go.Proofs.YtndjfdakflaggaaW.PrintMore
attribute [local go_sem] zt zv zA zB zq zr zu zw
set_option linter.unusedVariables false
set_option linter.unusedSimpArgs false
def zeq (n : Int) (b : S78) : Bool := !zfU b.f0 b.f1 b.f2 || decide (n < b.f0)
theorem zaj.odd (n : Int) (g : Nat) (a0 a1 : Int) (A : Option Addr) (c : Nat) (l : List ByteArray) (w : World) (hr : Kd.C Kd.string w A l.length l) (hc : l.length ≤ c)
  (hn : w.heap[g]? = some (.cells #[.int .i64 n] 3 (0,0))) :
  Calls Try.prog 86 #[.agg #[.int .i64 a0,.int .i64 a1,.slice A l.length c],.pointer (some ⟨g,0,none⟩)] w fun e w' => e = .returned (.bool (zeq n ⟨a0,a1,l⟩)) ∧ Below w.heap.size w w' := by
 have HR := za.mk hr
 have HC := za.mk hc
 have HN := za.mk hn
 clear hr hc hn
 rcases hm : zfU a0 a1 l with _ | _
 ·have HO : za (zeq n ⟨a0,a1,l⟩ = true) := ⟨by simp [zeq,hm]⟩
  have HM := za.mk hm
  clear hm
  go_enter Try.func86,Try.ntmps86
  go_wp2_with (first
   | ((with_reducible refine zp (N := 2) rfl ?_);refine zn rfl (N := 2) rfl (cs := #[.int .i64 a0,.int .i64 a1,.slice A l.length c]) (t := 78) hrq ?_;intro gb hg w2 hbox hb;have BK := za.mk hbox;have HB := za.mk hb;clear hb hbox hg;have hz0 := (zb BK.out 0).trans rfl;have hz1 := (zb BK.out 1).trans rfl;have hz2 := (zb BK.out 2).trans rfl;have hf0 := zc BK.out 0;have hf1 := zc BK.out 1;have hf2 := zc BK.out 2)
   | (go_at_call 87;(with_reducible refine (zaE.calls a0 a1 _ _ l _ _ (Kd.C_below HR.out HB.out) HC.out rfl).mono ?_);rintro e w3 ⟨rfl,hb⟩;rw [HM.out];have HB3 := za.mk (zh HB.out hb);clear hb))
  go_ret
  exact ⟨by rw [HO.out];rfl,HB3.out⟩
 ·have HO : za (zeq n ⟨a0,a1,l⟩ = decide (n < a0)) := ⟨by simp [zeq,hm]⟩
  have HM := za.mk hm
  clear hm
  go_enter Try.func86,Try.ntmps86
  go_wp2_with (first
   | ((with_reducible refine zp (N := 2) rfl ?_);refine zn rfl (N := 2) rfl (cs := #[.int .i64 a0,.int .i64 a1,.slice A l.length c]) (t := 78) hrq ?_;intro gb hg w2 hbox hb;have BK := za.mk hbox;have HB := za.mk hb;clear hb hbox hg;have hz0 := (zb BK.out 0).trans rfl;have hz1 := (zb BK.out 1).trans rfl;have hz2 := (zb BK.out 2).trans rfl;have hf0 := zc BK.out 0;have hf1 := zc BK.out 1;have hf2 := zc BK.out 2)
   | (go_at_call 87;(with_reducible refine (zaE.calls a0 a1 _ _ l _ _ (Kd.C_below HR.out HB.out) HC.out rfl).mono ?_);rintro e w3 ⟨rfl,hb⟩;rw [HM.out];have HB3 := za.mk (zh HB.out hb);have BK3 := za.mk (zo BK.out hb);have BN3 := za.mk (zo HN.out HB3.out);clear hb;have hy0 := (zb BK3.out 0).trans rfl;have hyf := zc BK3.out 0;have hn0 := (zb BN3.out 0).trans rfl;have hnf := zc BN3.out 0))
  go_ret
  exact ⟨by rw [HO.out];rfl,HB3.out⟩
theorem zaj.idx (n : Int) (g : Nat) (A : Option Addr) (c : Nat) (l : List S78) (w : World) (hr : Kd.C k78 w A l.length l) (hc : l.length ≤ c)
  (hn : w.heap[g]? = some (.cells #[.int .i64 n] 3 (0,0))) :
  Calls Try.prog 100 #[.slice A l.length c,.func (.func 86) #[] #[.pointer (some ⟨g,0,none⟩)]] w fun e w' => e = .returned (.int .i64 (zcp (zeq n) l)) ∧ Below w.heap.size w w' := by
 have hm := hr.2.1
 have HR := za.mk hr
 have HN := za.mk hn
 clear hr hn
 go_enter Try.func100,Try.ntmps100
 go_wp2_with fail
 have HB0 := za.mk (Below.refl w.heap.size w)
 go_loopw [5,8] (fun v5 v8 wr => ∃ k : Nat,v8 = .int .i64 k ∧ k ≤ l.length ∧ za (∀ (j : Nat) (y : S78),j < k → l[j]? = some y → zeq n y = false) ∧ za (Below w.heap.size w wr)) (fun _ v8 _ => l.length - (match v8 with | .int _ q => q | _ => 0).toNat)
 case atStart => exact ⟨0,rfl,Nat.zero_le _,⟨fun j y hj => absurd hj (Nat.not_lt_zero _)⟩,⟨by repeat (first | (with_reducible first | exact HB0.out | apply zi | apply zl | apply zx) | exact HB0.out)⟩⟩
 case round =>
  obtain ⟨k,rfl,hk,HF,HB⟩ := hrel
  by_cases hlt : k < l.length
  ·obtain ⟨ad,A2,c2,rfl,hx0,hx1,hx2,hl2,hi2⟩ := zdn HR.out (k : Int) (by omega) (by omega)
   replace hx0 := (HB.out.cell (World.block_lt_of_cell? w _ hx0)).trans hx0
   replace hx1 := (HB.out.cell (World.block_lt_of_cell? w _ hx1)).trans hx1
   replace hx2 := (HB.out.cell (World.block_lt_of_cell? w _ hx2)).trans hx2
   rw [Int.toNat_natCast] at hx0 hx1 hx2
   have hb : decide (k < l.length) = true := decide_eq_true hlt
   have hx : l[k]? = some (zQ l (k : Int)) := by
    rw [zQ,Int.toNat_natCast,List.getD_eq_getElem?_getD,List.getElem?_eq_getElem hlt];rfl
   have HX := za.mk hx
   have HL2 := za.mk hl2
   have HI2 := za.mk (Kd.C_below hi2 HB.out)
   have HNW := za.mk (zo HN.out HB.out)
   clear hx hl2 hi2
   generalize zQ l (k : Int) = s at *
   obtain ⟨s0,s1,s2⟩ := s
   rcases ho : zeq n ⟨s0,s1,s2⟩ with _ | _
   ·have HO := za.mk ho
    clear ho
    go_wp2_with (go_at_call 86;(with_reducible refine (zaj.odd n g s0 s1 _ _ s2 _ HI2.out HL2.out HNW.out).mono ?_);rintro e w1 ⟨rfl,hb1⟩;rw [HO.out];have HB1 := za.mk (zh HB.out hb1);clear hb1)
    go_roundw
    case rel =>
     refine ⟨k + 1,by go_num,by omega,⟨fun j y hj hy => ?_⟩,HB1⟩
     rcases Nat.lt_succ_iff_lt_or_eq.1 hj with h | h
     ·exact HF.out j y h hy
     ·subst h
      rw [HX.out] at hy
      injection hy with hy
      subst hy
      exact HO.out
    case measure => simp;omega
   ·have HO := za.mk ho
    clear ho
    go_wp2_with (go_at_call 86;(with_reducible refine (zaj.odd n g s0 s1 _ _ s2 _ HI2.out HL2.out HNW.out).mono ?_);rintro e w1 ⟨rfl,hb1⟩;rw [HO.out];have HB1 := za.mk (zh HB.out hb1);clear hb1)
    go_ret
    exact ⟨by rw [zcW HX.out HO.out HF.out];rfl,HB1.out⟩
  ·obtain rfl : k = l.length := by omega
   go_wp2_with fail
   go_ret
   exact ⟨by rw [zcX (fun j y hy => HF.out j y (List.getElem?_eq_some_iff.1 hy).1 hy)];rfl,HB.out⟩
theorem zaj.contains (n : Int) (g : Nat) (A : Option Addr) (c : Nat) (l : List S78) (w : World) (hr : Kd.C k78 w A l.length l) (hc : l.length ≤ c)
  (hn : w.heap[g]? = some (.cells #[.int .i64 n] 3 (0,0))) :
  Calls Try.prog 88 #[.slice A l.length c,.func (.func 86) #[] #[.pointer (some ⟨g,0,none⟩)]] w fun e w' => e = .returned (.bool (l.any (zeq n))) ∧ Below w.heap.size w w' := by
 have HR := za.mk hr
 have HC := za.mk hc
 have HN := za.mk hn
 clear hr hc hn
 have HA := za.mk (zg3 (zeq n) l)
 go_enter Try.func88,Try.ntmps88
 go_wp2_with (go_at_call 100;(with_reducible refine (zaj.idx n g _ _ l _ HR.out HC.out HN.out).mono ?_);rintro e w1 ⟨rfl,hb1⟩;have HB1 := za.mk hb1;clear hb1)
 go_ret
 exact ⟨by rw [← HA.out];rfl,HB1.out⟩
def zbm (a r : Int) (bs : List S78) (ps : List ByteArray) (x y n : Int) : Bool :=
 zdU n && decide (1 ≤ a) && decide (a ≤ n) && decide (1 ≤ r) && decide (r ≤ 1048576) && decide (bs.length ≤ 4) && !bs.any (zeq n) && zhM x y && (zfN r || (decide (x = 0) && decide (y = 0))) && zbX ps r n
def zaj.f (a0_0 : Int) (a0_1 : Int) (l0_2 : List S78) (l0_3 : List ByteArray) (a0_4 : Int) (a0_5 : Int) (a1 : Int) : Option (Bool) := some (zbm a0_0 a0_1 l0_2 l0_3 a0_4 a0_5 a1)
set_option maxHeartbeats 4000000 in
set_option maxRecDepth 100000 in
theorem zaj.walk (a r : Int) (A2 : Option Addr) (c2 : Nat) (bs : List S78) (A3 : Option Addr) (c3 : Nat) (ps : List ByteArray) (x y n : Int) (w : World) (hr2 : Kd.C k78 w A2 bs.length bs) (hc2 : bs.length ≤ c2) (hr3 : Kd.C Kd.string w A3 ps.length ps) (hc3 : ps.length ≤ c3) :
  Calls Try.prog 64 #[.agg #[.int .i64 a,.int .i64 r,.slice A2 bs.length c2,.slice A3 ps.length c3,.int .i64 x,.int .i64 y],.int .i64 n] w fun e w' => e = .returned (.bool (zbm a r bs ps x y n)) ∧ Below w.heap.size w w' := by
 obtain ⟨N,hN⟩ := zhQ ps r n hr3.2.1
 have HP := za.mk (hN N (Nat.le_refl _))
 have HR2 := za.mk hr2
 have HC2 := za.mk hc2
 have HR3 := za.mk hr3
 have HC3 := za.mk hc3
 clear hr2 hc2 hr3 hc3 hN
 rcases hm : zdU n with _ | _
 ·have HM := za.mk hm
  have HE : za (zbm a r bs ps x y n = false) := ⟨by simp only [zbm,hm];simp⟩
  clear hm
  go_enter Try.func64,Try.ntmps64
  go_wp2_with (first
   | ((with_reducible refine zp (N := 2) rfl ?_);refine zn rfl (N := 2) rfl (cs := #[.int .i64 a,.int .i64 r,.slice A2 bs.length c2,.slice A3 ps.length c3,.int .i64 x,.int .i64 y]) (t := 32) hrq ?_;intro gv hg w2 hbox hb;have BV := za.mk hbox;have HB2 := za.mk hb;clear hb hbox hg;have hv0 := (zb BV.out 0).trans rfl;have fv0 := zc BV.out 0;have hv1 := (zb BV.out 1).trans rfl;have fv1 := zc BV.out 1;have hv2 := (zb BV.out 2).trans rfl;have fv2 := zc BV.out 2;have hv3 := (zb BV.out 3).trans rfl;have fv3 := zc BV.out 3;have hv4 := (zb BV.out 4).trans rfl;have fv4 := zc BV.out 4;have hv5 := (zb BV.out 5).trans rfl;have fv5 := zc BV.out 5)
   | ((with_reducible refine zp (N := 3) rfl ?_);refine zn rfl (N := 3) rfl (cs := #[.int .i64 n]) (t := 3) hrq ?_;intro gn hg w3 hbox hb;have BN := za.mk hbox;have BV3 := za.mk (zo BV.out hb);have HB3 := za.mk (zh HB2.out hb);clear hb hbox hg;have hn0 := (zb BN.out 0).trans rfl;have fn0 := zc BN.out 0;have hu0 := (zb BV3.out 0).trans rfl;have fu0 := zc BV3.out 0;have hu1 := (zb BV3.out 1).trans rfl;have fu1 := zc BV3.out 1;have hu2 := (zb BV3.out 2).trans rfl;have fu2 := zc BV3.out 2;have hu3 := (zb BV3.out 3).trans rfl;have fu3 := zc BV3.out 3;have hu4 := (zb BV3.out 4).trans rfl;have fu4 := zc BV3.out 4;have hu5 := (zb BV3.out 5).trans rfl;have fu5 := zc BV3.out 5)
   | (go_at_call 39;(with_reducible refine (zab.calls n _ _ (zas n)).mono ?_);rintro e w1 ⟨rfl,⟨nd,rfl⟩⟩;rw [HM.out]))
  go_ret
  exact ⟨by rw [HE.out];rfl,by repeat (first | exact HB3.out | apply zl)⟩
 have HM := za.mk hm
 by_cases h1 : a < 1
 ·have h1d : decide (a < 1) = true := decide_eq_true h1
  have h1e : decide (1 ≤ a) = false := decide_eq_false (by omega)
  have HE : za (zbm a r bs ps x y n = false) := ⟨by simp only [zbm,h1e];simp⟩
  clear hm h1 h1e
  go_enter Try.func64,Try.ntmps64
  go_wp2_with (first
   | ((with_reducible refine zp (N := 2) rfl ?_);refine zn rfl (N := 2) rfl (cs := #[.int .i64 a,.int .i64 r,.slice A2 bs.length c2,.slice A3 ps.length c3,.int .i64 x,.int .i64 y]) (t := 32) hrq ?_;intro gv hg w2 hbox hb;have BV := za.mk hbox;have HB2 := za.mk hb;clear hb hbox hg;have hv0 := (zb BV.out 0).trans rfl;have fv0 := zc BV.out 0;have hv1 := (zb BV.out 1).trans rfl;have fv1 := zc BV.out 1;have hv2 := (zb BV.out 2).trans rfl;have fv2 := zc BV.out 2;have hv3 := (zb BV.out 3).trans rfl;have fv3 := zc BV.out 3;have hv4 := (zb BV.out 4).trans rfl;have fv4 := zc BV.out 4;have hv5 := (zb BV.out 5).trans rfl;have fv5 := zc BV.out 5)
   | ((with_reducible refine zp (N := 3) rfl ?_);refine zn rfl (N := 3) rfl (cs := #[.int .i64 n]) (t := 3) hrq ?_;intro gn hg w3 hbox hb;have BN := za.mk hbox;have BV3 := za.mk (zo BV.out hb);have HB3 := za.mk (zh HB2.out hb);clear hb hbox hg;have hn0 := (zb BN.out 0).trans rfl;have fn0 := zc BN.out 0;have hu0 := (zb BV3.out 0).trans rfl;have fu0 := zc BV3.out 0;have hu1 := (zb BV3.out 1).trans rfl;have fu1 := zc BV3.out 1;have hu2 := (zb BV3.out 2).trans rfl;have fu2 := zc BV3.out 2;have hu3 := (zb BV3.out 3).trans rfl;have fu3 := zc BV3.out 3;have hu4 := (zb BV3.out 4).trans rfl;have fu4 := zc BV3.out 4;have hu5 := (zb BV3.out 5).trans rfl;have fu5 := zc BV3.out 5)
   | (go_at_call 39;(with_reducible refine (zab.calls n _ _ (zas n)).mono ?_);rintro e w1 ⟨rfl,⟨nd,rfl⟩⟩;rw [HM.out]))
  go_ret
  exact ⟨by rw [HE.out];rfl,by repeat (first | exact HB3.out | apply zl)⟩
 have h1d : decide (a < 1) = false := decide_eq_false h1
 have h1e : decide (1 ≤ a) = true := decide_eq_true (by omega)
 clear h1
 by_cases h2 : n < a
 ·have h2d : decide (n < a) = true := decide_eq_true h2
  have h2e : decide (a ≤ n) = false := decide_eq_false (by omega)
  have HE : za (zbm a r bs ps x y n = false) := ⟨by simp only [zbm,h2e];simp⟩
  clear hm h2 h2e
  go_enter Try.func64,Try.ntmps64
  go_wp2_with (first
   | ((with_reducible refine zp (N := 2) rfl ?_);refine zn rfl (N := 2) rfl (cs := #[.int .i64 a,.int .i64 r,.slice A2 bs.length c2,.slice A3 ps.length c3,.int .i64 x,.int .i64 y]) (t := 32) hrq ?_;intro gv hg w2 hbox hb;have BV := za.mk hbox;have HB2 := za.mk hb;clear hb hbox hg;have hv0 := (zb BV.out 0).trans rfl;have fv0 := zc BV.out 0;have hv1 := (zb BV.out 1).trans rfl;have fv1 := zc BV.out 1;have hv2 := (zb BV.out 2).trans rfl;have fv2 := zc BV.out 2;have hv3 := (zb BV.out 3).trans rfl;have fv3 := zc BV.out 3;have hv4 := (zb BV.out 4).trans rfl;have fv4 := zc BV.out 4;have hv5 := (zb BV.out 5).trans rfl;have fv5 := zc BV.out 5)
   | ((with_reducible refine zp (N := 3) rfl ?_);refine zn rfl (N := 3) rfl (cs := #[.int .i64 n]) (t := 3) hrq ?_;intro gn hg w3 hbox hb;have BN := za.mk hbox;have BV3 := za.mk (zo BV.out hb);have HB3 := za.mk (zh HB2.out hb);clear hb hbox hg;have hn0 := (zb BN.out 0).trans rfl;have fn0 := zc BN.out 0;have hu0 := (zb BV3.out 0).trans rfl;have fu0 := zc BV3.out 0;have hu1 := (zb BV3.out 1).trans rfl;have fu1 := zc BV3.out 1;have hu2 := (zb BV3.out 2).trans rfl;have fu2 := zc BV3.out 2;have hu3 := (zb BV3.out 3).trans rfl;have fu3 := zc BV3.out 3;have hu4 := (zb BV3.out 4).trans rfl;have fu4 := zc BV3.out 4;have hu5 := (zb BV3.out 5).trans rfl;have fu5 := zc BV3.out 5)
   | (go_at_call 39;(with_reducible refine (zab.calls n _ _ (zas n)).mono ?_);rintro e w1 ⟨rfl,⟨nd,rfl⟩⟩;rw [HM.out]))
  go_ret
  exact ⟨by rw [HE.out];rfl,by repeat (first | exact HB3.out | apply zl)⟩
 have h2d : decide (n < a) = false := decide_eq_false h2
 have h2e : decide (a ≤ n) = true := decide_eq_true (by omega)
 clear h2
 by_cases h3 : r < 1
 ·have h3d : decide (r < 1) = true := decide_eq_true h3
  have h3e : decide (1 ≤ r) = false := decide_eq_false (by omega)
  have HE : za (zbm a r bs ps x y n = false) := ⟨by simp only [zbm,h3e];simp⟩
  clear hm h3 h3e
  go_enter Try.func64,Try.ntmps64
  go_wp2_with (first
   | ((with_reducible refine zp (N := 2) rfl ?_);refine zn rfl (N := 2) rfl (cs := #[.int .i64 a,.int .i64 r,.slice A2 bs.length c2,.slice A3 ps.length c3,.int .i64 x,.int .i64 y]) (t := 32) hrq ?_;intro gv hg w2 hbox hb;have BV := za.mk hbox;have HB2 := za.mk hb;clear hb hbox hg;have hv0 := (zb BV.out 0).trans rfl;have fv0 := zc BV.out 0;have hv1 := (zb BV.out 1).trans rfl;have fv1 := zc BV.out 1;have hv2 := (zb BV.out 2).trans rfl;have fv2 := zc BV.out 2;have hv3 := (zb BV.out 3).trans rfl;have fv3 := zc BV.out 3;have hv4 := (zb BV.out 4).trans rfl;have fv4 := zc BV.out 4;have hv5 := (zb BV.out 5).trans rfl;have fv5 := zc BV.out 5)
   | ((with_reducible refine zp (N := 3) rfl ?_);refine zn rfl (N := 3) rfl (cs := #[.int .i64 n]) (t := 3) hrq ?_;intro gn hg w3 hbox hb;have BN := za.mk hbox;have BV3 := za.mk (zo BV.out hb);have HB3 := za.mk (zh HB2.out hb);clear hb hbox hg;have hn0 := (zb BN.out 0).trans rfl;have fn0 := zc BN.out 0;have hu0 := (zb BV3.out 0).trans rfl;have fu0 := zc BV3.out 0;have hu1 := (zb BV3.out 1).trans rfl;have fu1 := zc BV3.out 1;have hu2 := (zb BV3.out 2).trans rfl;have fu2 := zc BV3.out 2;have hu3 := (zb BV3.out 3).trans rfl;have fu3 := zc BV3.out 3;have hu4 := (zb BV3.out 4).trans rfl;have fu4 := zc BV3.out 4;have hu5 := (zb BV3.out 5).trans rfl;have fu5 := zc BV3.out 5)
   | (go_at_call 39;(with_reducible refine (zab.calls n _ _ (zas n)).mono ?_);rintro e w1 ⟨rfl,⟨nd,rfl⟩⟩;rw [HM.out]))
  go_ret
  exact ⟨by rw [HE.out];rfl,by repeat (first | exact HB3.out | apply zl)⟩
 have h3d : decide (r < 1) = false := decide_eq_false h3
 have h3e : decide (1 ≤ r) = true := decide_eq_true (by omega)
 clear h3
 by_cases h4 : 1048576 < r
 ·have h4d : decide (1048576 < r) = true := decide_eq_true h4
  have h4e : decide (r ≤ 1048576) = false := decide_eq_false (by omega)
  have HE : za (zbm a r bs ps x y n = false) := ⟨by simp only [zbm,h4e];simp⟩
  clear hm h4 h4e
  go_enter Try.func64,Try.ntmps64
  go_wp2_with (first
   | ((with_reducible refine zp (N := 2) rfl ?_);refine zn rfl (N := 2) rfl (cs := #[.int .i64 a,.int .i64 r,.slice A2 bs.length c2,.slice A3 ps.length c3,.int .i64 x,.int .i64 y]) (t := 32) hrq ?_;intro gv hg w2 hbox hb;have BV := za.mk hbox;have HB2 := za.mk hb;clear hb hbox hg;have hv0 := (zb BV.out 0).trans rfl;have fv0 := zc BV.out 0;have hv1 := (zb BV.out 1).trans rfl;have fv1 := zc BV.out 1;have hv2 := (zb BV.out 2).trans rfl;have fv2 := zc BV.out 2;have hv3 := (zb BV.out 3).trans rfl;have fv3 := zc BV.out 3;have hv4 := (zb BV.out 4).trans rfl;have fv4 := zc BV.out 4;have hv5 := (zb BV.out 5).trans rfl;have fv5 := zc BV.out 5)
   | ((with_reducible refine zp (N := 3) rfl ?_);refine zn rfl (N := 3) rfl (cs := #[.int .i64 n]) (t := 3) hrq ?_;intro gn hg w3 hbox hb;have BN := za.mk hbox;have BV3 := za.mk (zo BV.out hb);have HB3 := za.mk (zh HB2.out hb);clear hb hbox hg;have hn0 := (zb BN.out 0).trans rfl;have fn0 := zc BN.out 0;have hu0 := (zb BV3.out 0).trans rfl;have fu0 := zc BV3.out 0;have hu1 := (zb BV3.out 1).trans rfl;have fu1 := zc BV3.out 1;have hu2 := (zb BV3.out 2).trans rfl;have fu2 := zc BV3.out 2;have hu3 := (zb BV3.out 3).trans rfl;have fu3 := zc BV3.out 3;have hu4 := (zb BV3.out 4).trans rfl;have fu4 := zc BV3.out 4;have hu5 := (zb BV3.out 5).trans rfl;have fu5 := zc BV3.out 5)
   | (go_at_call 39;(with_reducible refine (zab.calls n _ _ (zas n)).mono ?_);rintro e w1 ⟨rfl,⟨nd,rfl⟩⟩;rw [HM.out]))
  go_ret
  exact ⟨by rw [HE.out];rfl,by repeat (first | exact HB3.out | apply zl)⟩
 have h4d : decide (1048576 < r) = false := decide_eq_false h4
 have h4e : decide (r ≤ 1048576) = true := decide_eq_true (by omega)
 clear h4
 by_cases h5 : 4 < (bs.length : Int)
 ·have h5d : decide (4 < (bs.length : Int)) = true := decide_eq_true h5
  have h5e : decide (bs.length ≤ 4) = false := decide_eq_false (by omega)
  have HE : za (zbm a r bs ps x y n = false) := ⟨by simp only [zbm,h5e];simp⟩
  clear hm h5 h5e
  go_enter Try.func64,Try.ntmps64
  go_wp2_with (first
   | ((with_reducible refine zp (N := 2) rfl ?_);refine zn rfl (N := 2) rfl (cs := #[.int .i64 a,.int .i64 r,.slice A2 bs.length c2,.slice A3 ps.length c3,.int .i64 x,.int .i64 y]) (t := 32) hrq ?_;intro gv hg w2 hbox hb;have BV := za.mk hbox;have HB2 := za.mk hb;clear hb hbox hg;have hv0 := (zb BV.out 0).trans rfl;have fv0 := zc BV.out 0;have hv1 := (zb BV.out 1).trans rfl;have fv1 := zc BV.out 1;have hv2 := (zb BV.out 2).trans rfl;have fv2 := zc BV.out 2;have hv3 := (zb BV.out 3).trans rfl;have fv3 := zc BV.out 3;have hv4 := (zb BV.out 4).trans rfl;have fv4 := zc BV.out 4;have hv5 := (zb BV.out 5).trans rfl;have fv5 := zc BV.out 5)
   | ((with_reducible refine zp (N := 3) rfl ?_);refine zn rfl (N := 3) rfl (cs := #[.int .i64 n]) (t := 3) hrq ?_;intro gn hg w3 hbox hb;have BN := za.mk hbox;have BV3 := za.mk (zo BV.out hb);have HB3 := za.mk (zh HB2.out hb);clear hb hbox hg;have hn0 := (zb BN.out 0).trans rfl;have fn0 := zc BN.out 0;have hu0 := (zb BV3.out 0).trans rfl;have fu0 := zc BV3.out 0;have hu1 := (zb BV3.out 1).trans rfl;have fu1 := zc BV3.out 1;have hu2 := (zb BV3.out 2).trans rfl;have fu2 := zc BV3.out 2;have hu3 := (zb BV3.out 3).trans rfl;have fu3 := zc BV3.out 3;have hu4 := (zb BV3.out 4).trans rfl;have fu4 := zc BV3.out 4;have hu5 := (zb BV3.out 5).trans rfl;have fu5 := zc BV3.out 5)
   | (go_at_call 39;(with_reducible refine (zab.calls n _ _ (zas n)).mono ?_);rintro e w1 ⟨rfl,⟨nd,rfl⟩⟩;rw [HM.out]))
  go_ret
  exact ⟨by rw [HE.out];rfl,by repeat (first | exact HB3.out | apply zl)⟩
 have h5d : decide (4 < (bs.length : Int)) = false := decide_eq_false h5
 have h5e : decide (bs.length ≤ 4) = true := decide_eq_true (by omega)
 clear h5
 rcases ha : bs.any (zeq n) with _ | _
 rotate_left
 ·have HA := za.mk ha
  have HE : za (zbm a r bs ps x y n = false) := ⟨by simp only [zbm,ha];simp⟩
  clear hm ha h1e h2e h3e h4e h5e
  go_enter Try.func64,Try.ntmps64
  go_wp2_with (first
   | ((with_reducible refine zp (N := 2) rfl ?_);refine zn rfl (N := 2) rfl (cs := #[.int .i64 a,.int .i64 r,.slice A2 bs.length c2,.slice A3 ps.length c3,.int .i64 x,.int .i64 y]) (t := 32) hrq ?_;intro gv hg w2 hbox hb;have BV := za.mk hbox;have HB2 := za.mk hb;clear hb hbox hg;have hv0 := (zb BV.out 0).trans rfl;have fv0 := zc BV.out 0;have hv1 := (zb BV.out 1).trans rfl;have fv1 := zc BV.out 1;have hv2 := (zb BV.out 2).trans rfl;have fv2 := zc BV.out 2;have hv3 := (zb BV.out 3).trans rfl;have fv3 := zc BV.out 3;have hv4 := (zb BV.out 4).trans rfl;have fv4 := zc BV.out 4;have hv5 := (zb BV.out 5).trans rfl;have fv5 := zc BV.out 5)
   | ((with_reducible refine zp (N := 3) rfl ?_);refine zn rfl (N := 3) rfl (cs := #[.int .i64 n]) (t := 3) hrq ?_;intro gn hg w3 hbox hb;have BN := za.mk hbox;have BV3 := za.mk (zo BV.out hb);have HB3 := za.mk (zh HB2.out hb);clear hb hbox hg;have hn0 := (zb BN.out 0).trans rfl;have fn0 := zc BN.out 0;have hu0 := (zb BV3.out 0).trans rfl;have fu0 := zc BV3.out 0;have hu1 := (zb BV3.out 1).trans rfl;have fu1 := zc BV3.out 1;have hu2 := (zb BV3.out 2).trans rfl;have fu2 := zc BV3.out 2;have hu3 := (zb BV3.out 3).trans rfl;have fu3 := zc BV3.out 3;have hu4 := (zb BV3.out 4).trans rfl;have fu4 := zc BV3.out 4;have hu5 := (zb BV3.out 5).trans rfl;have fu5 := zc BV3.out 5)
   | (go_at_call 39;(with_reducible refine (zab.calls n _ _ (zas n)).mono ?_);rintro e w1 ⟨rfl,⟨nd,rfl⟩⟩;rw [HM.out])
   | (go_at_call 88;(with_reducible refine (zaj.contains n gn _ _ bs _ (Kd.C_below HR2.out (zl HB3.out _)) HC2.out (zL BN.out _)).mono ?_);rintro e w4 ⟨rfl,hb⟩;rw [HA.out];have BV4 := za.mk (zo (zL BV3.out _) hb);have BN4 := za.mk (zo (zL BN.out _) hb);have HB4 := za.mk (zh (zl HB3.out _) hb);clear hb;have hm0 := (zb BN4.out 0).trans rfl;have fm0 := zc BN4.out 0;have hs0 := (zb BV4.out 0).trans rfl;have fs0 := zc BV4.out 0;have hs1 := (zb BV4.out 1).trans rfl;have fs1 := zc BV4.out 1;have hs2 := (zb BV4.out 2).trans rfl;have fs2 := zc BV4.out 2;have hs3 := (zb BV4.out 3).trans rfl;have fs3 := zc BV4.out 3;have hs4 := (zb BV4.out 4).trans rfl;have fs4 := zc BV4.out 4;have hs5 := (zb BV4.out 5).trans rfl;have fs5 := zc BV4.out 5))
  go_ret
  exact ⟨by rw [HE.out];rfl,by repeat (first | exact HB4.out | apply zl)⟩
 have HA := za.mk ha
 rcases hg : zhM x y with _ | _
 ·have HG := za.mk hg
  have HE : za (zbm a r bs ps x y n = false) := ⟨by simp only [zbm,hg];simp⟩
  clear hm ha hg h1e h2e h3e h4e h5e
  go_enter Try.func64,Try.ntmps64
  go_wp2_with (first
   | ((with_reducible refine zp (N := 2) rfl ?_);refine zn rfl (N := 2) rfl (cs := #[.int .i64 a,.int .i64 r,.slice A2 bs.length c2,.slice A3 ps.length c3,.int .i64 x,.int .i64 y]) (t := 32) hrq ?_;intro gv hg w2 hbox hb;have BV := za.mk hbox;have HB2 := za.mk hb;clear hb hbox hg;have hv0 := (zb BV.out 0).trans rfl;have fv0 := zc BV.out 0;have hv1 := (zb BV.out 1).trans rfl;have fv1 := zc BV.out 1;have hv2 := (zb BV.out 2).trans rfl;have fv2 := zc BV.out 2;have hv3 := (zb BV.out 3).trans rfl;have fv3 := zc BV.out 3;have hv4 := (zb BV.out 4).trans rfl;have fv4 := zc BV.out 4;have hv5 := (zb BV.out 5).trans rfl;have fv5 := zc BV.out 5)
   | ((with_reducible refine zp (N := 3) rfl ?_);refine zn rfl (N := 3) rfl (cs := #[.int .i64 n]) (t := 3) hrq ?_;intro gn hg w3 hbox hb;have BN := za.mk hbox;have BV3 := za.mk (zo BV.out hb);have HB3 := za.mk (zh HB2.out hb);clear hb hbox hg;have hn0 := (zb BN.out 0).trans rfl;have fn0 := zc BN.out 0;have hu0 := (zb BV3.out 0).trans rfl;have fu0 := zc BV3.out 0;have hu1 := (zb BV3.out 1).trans rfl;have fu1 := zc BV3.out 1;have hu2 := (zb BV3.out 2).trans rfl;have fu2 := zc BV3.out 2;have hu3 := (zb BV3.out 3).trans rfl;have fu3 := zc BV3.out 3;have hu4 := (zb BV3.out 4).trans rfl;have fu4 := zc BV3.out 4;have hu5 := (zb BV3.out 5).trans rfl;have fu5 := zc BV3.out 5)
   | (go_at_call 39;(with_reducible refine (zab.calls n _ _ (zas n)).mono ?_);rintro e w1 ⟨rfl,⟨nd,rfl⟩⟩;rw [HM.out])
   | (go_at_call 88;(with_reducible refine (zaj.contains n gn _ _ bs _ (Kd.C_below HR2.out (zl HB3.out _)) HC2.out (zL BN.out _)).mono ?_);rintro e w4 ⟨rfl,hb⟩;rw [HA.out];have BV4 := za.mk (zo (zL BV3.out _) hb);have BN4 := za.mk (zo (zL BN.out _) hb);have HB4 := za.mk (zh (zl HB3.out _) hb);clear hb;have hm0 := (zb BN4.out 0).trans rfl;have fm0 := zc BN4.out 0;have hs0 := (zb BV4.out 0).trans rfl;have fs0 := zc BV4.out 0;have hs1 := (zb BV4.out 1).trans rfl;have fs1 := zc BV4.out 1;have hs2 := (zb BV4.out 2).trans rfl;have fs2 := zc BV4.out 2;have hs3 := (zb BV4.out 3).trans rfl;have fs3 := zc BV4.out 3;have hs4 := (zb BV4.out 4).trans rfl;have fs4 := zc BV4.out 4;have hs5 := (zb BV4.out 5).trans rfl;have fs5 := zc BV4.out 5)
   | (go_at_call 89;(with_reducible refine (zbu.calls x y _ _ (zbT x y)).mono ?_);rintro e w5 ⟨rfl,hb⟩;rw [HG.out];have BV5 := za.mk (zo BV4.out hb);have BN5 := za.mk (zo BN4.out hb);have HB5 := za.mk (zh HB4.out hb);clear hb;have hk0 := (zb BN5.out 0).trans rfl;have fk0 := zc BN5.out 0;have hq0 := (zb BV5.out 0).trans rfl;have fq0 := zc BV5.out 0;have hq1 := (zb BV5.out 1).trans rfl;have fq1 := zc BV5.out 1;have hq2 := (zb BV5.out 2).trans rfl;have fq2 := zc BV5.out 2;have hq3 := (zb BV5.out 3).trans rfl;have fq3 := zc BV5.out 3;have hq4 := (zb BV5.out 4).trans rfl;have fq4 := zc BV5.out 4;have hq5 := (zb BV5.out 5).trans rfl;have fq5 := zc BV5.out 5))
  go_ret
  exact ⟨by rw [HE.out];rfl,by repeat (first | exact HB5.out | apply zl)⟩
 have HG := za.mk hg
 rcases ht : zfN r with _ | _
 ·have HT := za.mk ht
  by_cases h6 : x = 0
  ·have h6b : (x == 0) = true := beq_iff_eq.mpr h6
   have h6e : decide (x = 0) = true := decide_eq_true h6
   by_cases h7 : y = 0
   ·have h7b : (y == 0) = true := beq_iff_eq.mpr h7
    have h7e : decide (y = 0) = true := decide_eq_true h7
    have HE : za (zbm a r bs ps x y n = zbX ps r n) := ⟨by simp only [zbm,hm,h1e,h2e,h3e,h4e,h5e,ha,hg,ht,h6e,h7e];simp⟩
    clear hm ha hg ht h1e h2e h3e h4e h5e h6 h6e h7 h7e
    go_enter Try.func64,Try.ntmps64
    go_wp2_with (first
     | ((with_reducible refine zp (N := 2) rfl ?_);refine zn rfl (N := 2) rfl (cs := #[.int .i64 a,.int .i64 r,.slice A2 bs.length c2,.slice A3 ps.length c3,.int .i64 x,.int .i64 y]) (t := 32) hrq ?_;intro gv hg w2 hbox hb;have BV := za.mk hbox;have HB2 := za.mk hb;clear hb hbox hg;have hv0 := (zb BV.out 0).trans rfl;have fv0 := zc BV.out 0;have hv1 := (zb BV.out 1).trans rfl;have fv1 := zc BV.out 1;have hv2 := (zb BV.out 2).trans rfl;have fv2 := zc BV.out 2;have hv3 := (zb BV.out 3).trans rfl;have fv3 := zc BV.out 3;have hv4 := (zb BV.out 4).trans rfl;have fv4 := zc BV.out 4;have hv5 := (zb BV.out 5).trans rfl;have fv5 := zc BV.out 5)
     | ((with_reducible refine zp (N := 3) rfl ?_);refine zn rfl (N := 3) rfl (cs := #[.int .i64 n]) (t := 3) hrq ?_;intro gn hg w3 hbox hb;have BN := za.mk hbox;have BV3 := za.mk (zo BV.out hb);have HB3 := za.mk (zh HB2.out hb);clear hb hbox hg;have hn0 := (zb BN.out 0).trans rfl;have fn0 := zc BN.out 0;have hu0 := (zb BV3.out 0).trans rfl;have fu0 := zc BV3.out 0;have hu1 := (zb BV3.out 1).trans rfl;have fu1 := zc BV3.out 1;have hu2 := (zb BV3.out 2).trans rfl;have fu2 := zc BV3.out 2;have hu3 := (zb BV3.out 3).trans rfl;have fu3 := zc BV3.out 3;have hu4 := (zb BV3.out 4).trans rfl;have fu4 := zc BV3.out 4;have hu5 := (zb BV3.out 5).trans rfl;have fu5 := zc BV3.out 5)
     | (go_at_call 39;(with_reducible refine (zab.calls n _ _ (zas n)).mono ?_);rintro e w1 ⟨rfl,⟨nd,rfl⟩⟩;rw [HM.out])
     | (go_at_call 88;(with_reducible refine (zaj.contains n gn _ _ bs _ (Kd.C_below HR2.out (zl HB3.out _)) HC2.out (zL BN.out _)).mono ?_);rintro e w4 ⟨rfl,hb⟩;rw [HA.out];have BV4 := za.mk (zo (zL BV3.out _) hb);have BN4 := za.mk (zo (zL BN.out _) hb);have HB4 := za.mk (zh (zl HB3.out _) hb);clear hb;have hm0 := (zb BN4.out 0).trans rfl;have fm0 := zc BN4.out 0;have hs0 := (zb BV4.out 0).trans rfl;have fs0 := zc BV4.out 0;have hs1 := (zb BV4.out 1).trans rfl;have fs1 := zc BV4.out 1;have hs2 := (zb BV4.out 2).trans rfl;have fs2 := zc BV4.out 2;have hs3 := (zb BV4.out 3).trans rfl;have fs3 := zc BV4.out 3;have hs4 := (zb BV4.out 4).trans rfl;have fs4 := zc BV4.out 4;have hs5 := (zb BV4.out 5).trans rfl;have fs5 := zc BV4.out 5)
     | (go_at_call 89;(with_reducible refine (zbu.calls x y _ _ (zbT x y)).mono ?_);rintro e w5 ⟨rfl,hb⟩;rw [HG.out];have BV5 := za.mk (zo BV4.out hb);have BN5 := za.mk (zo BN4.out hb);have HB5 := za.mk (zh HB4.out hb);clear hb;have hk0 := (zb BN5.out 0).trans rfl;have fk0 := zc BN5.out 0;have hq0 := (zb BV5.out 0).trans rfl;have fq0 := zc BV5.out 0;have hq1 := (zb BV5.out 1).trans rfl;have fq1 := zc BV5.out 1;have hq2 := (zb BV5.out 2).trans rfl;have fq2 := zc BV5.out 2;have hq3 := (zb BV5.out 3).trans rfl;have fq3 := zc BV5.out 3;have hq4 := (zb BV5.out 4).trans rfl;have fq4 := zc BV5.out 4;have hq5 := (zb BV5.out 5).trans rfl;have fq5 := zc BV5.out 5)
     | (go_at_call 90;(with_reducible refine (za2.calls r _ _ (zbF r)).mono ?_);rintro e w6 ⟨rfl,⟨nt,rfl⟩⟩;rw [HT.out])
     | (go_at_call 91;(with_reducible refine (zX.calls N _ _ ps r n _ _ (Kd.C_below HR3.out (by repeat (first | exact HB5.out | apply zl))) HC3.out HP.out).mono ?_);rintro e w7 ⟨rfl,⟨np,rfl⟩⟩))
    go_ret
    exact ⟨by rw [HE.out];rfl,by repeat (first | exact HB5.out | apply zl)⟩
   ·have h7b : (y == 0) = false := beq_eq_false_iff_ne.mpr h7
    have h7e : decide (y = 0) = false := decide_eq_false h7
    have HE : za (zbm a r bs ps x y n = false) := ⟨by simp only [zbm,ht,h7e];simp⟩
    clear hm ha hg ht h1e h2e h3e h4e h5e h6 h6e h7 h7e
    go_enter Try.func64,Try.ntmps64
    go_wp2_with (first
     | ((with_reducible refine zp (N := 2) rfl ?_);refine zn rfl (N := 2) rfl (cs := #[.int .i64 a,.int .i64 r,.slice A2 bs.length c2,.slice A3 ps.length c3,.int .i64 x,.int .i64 y]) (t := 32) hrq ?_;intro gv hg w2 hbox hb;have BV := za.mk hbox;have HB2 := za.mk hb;clear hb hbox hg;have hv0 := (zb BV.out 0).trans rfl;have fv0 := zc BV.out 0;have hv1 := (zb BV.out 1).trans rfl;have fv1 := zc BV.out 1;have hv2 := (zb BV.out 2).trans rfl;have fv2 := zc BV.out 2;have hv3 := (zb BV.out 3).trans rfl;have fv3 := zc BV.out 3;have hv4 := (zb BV.out 4).trans rfl;have fv4 := zc BV.out 4;have hv5 := (zb BV.out 5).trans rfl;have fv5 := zc BV.out 5)
     | ((with_reducible refine zp (N := 3) rfl ?_);refine zn rfl (N := 3) rfl (cs := #[.int .i64 n]) (t := 3) hrq ?_;intro gn hg w3 hbox hb;have BN := za.mk hbox;have BV3 := za.mk (zo BV.out hb);have HB3 := za.mk (zh HB2.out hb);clear hb hbox hg;have hn0 := (zb BN.out 0).trans rfl;have fn0 := zc BN.out 0;have hu0 := (zb BV3.out 0).trans rfl;have fu0 := zc BV3.out 0;have hu1 := (zb BV3.out 1).trans rfl;have fu1 := zc BV3.out 1;have hu2 := (zb BV3.out 2).trans rfl;have fu2 := zc BV3.out 2;have hu3 := (zb BV3.out 3).trans rfl;have fu3 := zc BV3.out 3;have hu4 := (zb BV3.out 4).trans rfl;have fu4 := zc BV3.out 4;have hu5 := (zb BV3.out 5).trans rfl;have fu5 := zc BV3.out 5)
     | (go_at_call 39;(with_reducible refine (zab.calls n _ _ (zas n)).mono ?_);rintro e w1 ⟨rfl,⟨nd,rfl⟩⟩;rw [HM.out])
     | (go_at_call 88;(with_reducible refine (zaj.contains n gn _ _ bs _ (Kd.C_below HR2.out (zl HB3.out _)) HC2.out (zL BN.out _)).mono ?_);rintro e w4 ⟨rfl,hb⟩;rw [HA.out];have BV4 := za.mk (zo (zL BV3.out _) hb);have BN4 := za.mk (zo (zL BN.out _) hb);have HB4 := za.mk (zh (zl HB3.out _) hb);clear hb;have hm0 := (zb BN4.out 0).trans rfl;have fm0 := zc BN4.out 0;have hs0 := (zb BV4.out 0).trans rfl;have fs0 := zc BV4.out 0;have hs1 := (zb BV4.out 1).trans rfl;have fs1 := zc BV4.out 1;have hs2 := (zb BV4.out 2).trans rfl;have fs2 := zc BV4.out 2;have hs3 := (zb BV4.out 3).trans rfl;have fs3 := zc BV4.out 3;have hs4 := (zb BV4.out 4).trans rfl;have fs4 := zc BV4.out 4;have hs5 := (zb BV4.out 5).trans rfl;have fs5 := zc BV4.out 5)
     | (go_at_call 89;(with_reducible refine (zbu.calls x y _ _ (zbT x y)).mono ?_);rintro e w5 ⟨rfl,hb⟩;rw [HG.out];have BV5 := za.mk (zo BV4.out hb);have BN5 := za.mk (zo BN4.out hb);have HB5 := za.mk (zh HB4.out hb);clear hb;have hk0 := (zb BN5.out 0).trans rfl;have fk0 := zc BN5.out 0;have hq0 := (zb BV5.out 0).trans rfl;have fq0 := zc BV5.out 0;have hq1 := (zb BV5.out 1).trans rfl;have fq1 := zc BV5.out 1;have hq2 := (zb BV5.out 2).trans rfl;have fq2 := zc BV5.out 2;have hq3 := (zb BV5.out 3).trans rfl;have fq3 := zc BV5.out 3;have hq4 := (zb BV5.out 4).trans rfl;have fq4 := zc BV5.out 4;have hq5 := (zb BV5.out 5).trans rfl;have fq5 := zc BV5.out 5)
     | (go_at_call 90;(with_reducible refine (za2.calls r _ _ (zbF r)).mono ?_);rintro e w6 ⟨rfl,⟨nt,rfl⟩⟩;rw [HT.out]))
    go_ret
    exact ⟨by rw [HE.out];rfl,by repeat (first | exact HB5.out | apply zl)⟩
  ·have h6b : (x == 0) = false := beq_eq_false_iff_ne.mpr h6
   have h6e : decide (x = 0) = false := decide_eq_false h6
   have HE : za (zbm a r bs ps x y n = false) := ⟨by simp only [zbm,ht,h6e];simp⟩
   clear hm ha hg ht h1e h2e h3e h4e h5e h6 h6e
   go_enter Try.func64,Try.ntmps64
   go_wp2_with (first
    | ((with_reducible refine zp (N := 2) rfl ?_);refine zn rfl (N := 2) rfl (cs := #[.int .i64 a,.int .i64 r,.slice A2 bs.length c2,.slice A3 ps.length c3,.int .i64 x,.int .i64 y]) (t := 32) hrq ?_;intro gv hg w2 hbox hb;have BV := za.mk hbox;have HB2 := za.mk hb;clear hb hbox hg;have hv0 := (zb BV.out 0).trans rfl;have fv0 := zc BV.out 0;have hv1 := (zb BV.out 1).trans rfl;have fv1 := zc BV.out 1;have hv2 := (zb BV.out 2).trans rfl;have fv2 := zc BV.out 2;have hv3 := (zb BV.out 3).trans rfl;have fv3 := zc BV.out 3;have hv4 := (zb BV.out 4).trans rfl;have fv4 := zc BV.out 4;have hv5 := (zb BV.out 5).trans rfl;have fv5 := zc BV.out 5)
    | ((with_reducible refine zp (N := 3) rfl ?_);refine zn rfl (N := 3) rfl (cs := #[.int .i64 n]) (t := 3) hrq ?_;intro gn hg w3 hbox hb;have BN := za.mk hbox;have BV3 := za.mk (zo BV.out hb);have HB3 := za.mk (zh HB2.out hb);clear hb hbox hg;have hn0 := (zb BN.out 0).trans rfl;have fn0 := zc BN.out 0;have hu0 := (zb BV3.out 0).trans rfl;have fu0 := zc BV3.out 0;have hu1 := (zb BV3.out 1).trans rfl;have fu1 := zc BV3.out 1;have hu2 := (zb BV3.out 2).trans rfl;have fu2 := zc BV3.out 2;have hu3 := (zb BV3.out 3).trans rfl;have fu3 := zc BV3.out 3;have hu4 := (zb BV3.out 4).trans rfl;have fu4 := zc BV3.out 4;have hu5 := (zb BV3.out 5).trans rfl;have fu5 := zc BV3.out 5)
    | (go_at_call 39;(with_reducible refine (zab.calls n _ _ (zas n)).mono ?_);rintro e w1 ⟨rfl,⟨nd,rfl⟩⟩;rw [HM.out])
    | (go_at_call 88;(with_reducible refine (zaj.contains n gn _ _ bs _ (Kd.C_below HR2.out (zl HB3.out _)) HC2.out (zL BN.out _)).mono ?_);rintro e w4 ⟨rfl,hb⟩;rw [HA.out];have BV4 := za.mk (zo (zL BV3.out _) hb);have BN4 := za.mk (zo (zL BN.out _) hb);have HB4 := za.mk (zh (zl HB3.out _) hb);clear hb;have hm0 := (zb BN4.out 0).trans rfl;have fm0 := zc BN4.out 0;have hs0 := (zb BV4.out 0).trans rfl;have fs0 := zc BV4.out 0;have hs1 := (zb BV4.out 1).trans rfl;have fs1 := zc BV4.out 1;have hs2 := (zb BV4.out 2).trans rfl;have fs2 := zc BV4.out 2;have hs3 := (zb BV4.out 3).trans rfl;have fs3 := zc BV4.out 3;have hs4 := (zb BV4.out 4).trans rfl;have fs4 := zc BV4.out 4;have hs5 := (zb BV4.out 5).trans rfl;have fs5 := zc BV4.out 5)
    | (go_at_call 89;(with_reducible refine (zbu.calls x y _ _ (zbT x y)).mono ?_);rintro e w5 ⟨rfl,hb⟩;rw [HG.out];have BV5 := za.mk (zo BV4.out hb);have BN5 := za.mk (zo BN4.out hb);have HB5 := za.mk (zh HB4.out hb);clear hb;have hk0 := (zb BN5.out 0).trans rfl;have fk0 := zc BN5.out 0;have hq0 := (zb BV5.out 0).trans rfl;have fq0 := zc BV5.out 0;have hq1 := (zb BV5.out 1).trans rfl;have fq1 := zc BV5.out 1;have hq2 := (zb BV5.out 2).trans rfl;have fq2 := zc BV5.out 2;have hq3 := (zb BV5.out 3).trans rfl;have fq3 := zc BV5.out 3;have hq4 := (zb BV5.out 4).trans rfl;have fq4 := zc BV5.out 4;have hq5 := (zb BV5.out 5).trans rfl;have fq5 := zc BV5.out 5)
    | (go_at_call 90;(with_reducible refine (za2.calls r _ _ (zbF r)).mono ?_);rintro e w6 ⟨rfl,⟨nt,rfl⟩⟩;rw [HT.out]))
   go_ret
   exact ⟨by rw [HE.out];rfl,by repeat (first | exact HB5.out | apply zl)⟩
 ·have HT := za.mk ht
  have HE : za (zbm a r bs ps x y n = zbX ps r n) := ⟨by simp only [zbm,hm,h1e,h2e,h3e,h4e,h5e,ha,hg,ht];simp⟩
  clear hm ha hg ht h1e h2e h3e h4e h5e
  go_enter Try.func64,Try.ntmps64
  go_wp2_with (first
   | ((with_reducible refine zp (N := 2) rfl ?_);refine zn rfl (N := 2) rfl (cs := #[.int .i64 a,.int .i64 r,.slice A2 bs.length c2,.slice A3 ps.length c3,.int .i64 x,.int .i64 y]) (t := 32) hrq ?_;intro gv hg w2 hbox hb;have BV := za.mk hbox;have HB2 := za.mk hb;clear hb hbox hg;have hv0 := (zb BV.out 0).trans rfl;have fv0 := zc BV.out 0;have hv1 := (zb BV.out 1).trans rfl;have fv1 := zc BV.out 1;have hv2 := (zb BV.out 2).trans rfl;have fv2 := zc BV.out 2;have hv3 := (zb BV.out 3).trans rfl;have fv3 := zc BV.out 3;have hv4 := (zb BV.out 4).trans rfl;have fv4 := zc BV.out 4;have hv5 := (zb BV.out 5).trans rfl;have fv5 := zc BV.out 5)
   | ((with_reducible refine zp (N := 3) rfl ?_);refine zn rfl (N := 3) rfl (cs := #[.int .i64 n]) (t := 3) hrq ?_;intro gn hg w3 hbox hb;have BN := za.mk hbox;have BV3 := za.mk (zo BV.out hb);have HB3 := za.mk (zh HB2.out hb);clear hb hbox hg;have hn0 := (zb BN.out 0).trans rfl;have fn0 := zc BN.out 0;have hu0 := (zb BV3.out 0).trans rfl;have fu0 := zc BV3.out 0;have hu1 := (zb BV3.out 1).trans rfl;have fu1 := zc BV3.out 1;have hu2 := (zb BV3.out 2).trans rfl;have fu2 := zc BV3.out 2;have hu3 := (zb BV3.out 3).trans rfl;have fu3 := zc BV3.out 3;have hu4 := (zb BV3.out 4).trans rfl;have fu4 := zc BV3.out 4;have hu5 := (zb BV3.out 5).trans rfl;have fu5 := zc BV3.out 5)
   | (go_at_call 39;(with_reducible refine (zab.calls n _ _ (zas n)).mono ?_);rintro e w1 ⟨rfl,⟨nd,rfl⟩⟩;rw [HM.out])
   | (go_at_call 88;(with_reducible refine (zaj.contains n gn _ _ bs _ (Kd.C_below HR2.out (zl HB3.out _)) HC2.out (zL BN.out _)).mono ?_);rintro e w4 ⟨rfl,hb⟩;rw [HA.out];have BV4 := za.mk (zo (zL BV3.out _) hb);have BN4 := za.mk (zo (zL BN.out _) hb);have HB4 := za.mk (zh (zl HB3.out _) hb);clear hb;have hm0 := (zb BN4.out 0).trans rfl;have fm0 := zc BN4.out 0;have hs0 := (zb BV4.out 0).trans rfl;have fs0 := zc BV4.out 0;have hs1 := (zb BV4.out 1).trans rfl;have fs1 := zc BV4.out 1;have hs2 := (zb BV4.out 2).trans rfl;have fs2 := zc BV4.out 2;have hs3 := (zb BV4.out 3).trans rfl;have fs3 := zc BV4.out 3;have hs4 := (zb BV4.out 4).trans rfl;have fs4 := zc BV4.out 4;have hs5 := (zb BV4.out 5).trans rfl;have fs5 := zc BV4.out 5)
   | (go_at_call 89;(with_reducible refine (zbu.calls x y _ _ (zbT x y)).mono ?_);rintro e w5 ⟨rfl,hb⟩;rw [HG.out];have BV5 := za.mk (zo BV4.out hb);have BN5 := za.mk (zo BN4.out hb);have HB5 := za.mk (zh HB4.out hb);clear hb;have hk0 := (zb BN5.out 0).trans rfl;have fk0 := zc BN5.out 0;have hq0 := (zb BV5.out 0).trans rfl;have fq0 := zc BV5.out 0;have hq1 := (zb BV5.out 1).trans rfl;have fq1 := zc BV5.out 1;have hq2 := (zb BV5.out 2).trans rfl;have fq2 := zc BV5.out 2;have hq3 := (zb BV5.out 3).trans rfl;have fq3 := zc BV5.out 3;have hq4 := (zb BV5.out 4).trans rfl;have fq4 := zc BV5.out 4;have hq5 := (zb BV5.out 5).trans rfl;have fq5 := zc BV5.out 5)
   | (go_at_call 90;(with_reducible refine (za2.calls r _ _ (zbF r)).mono ?_);rintro e w6 ⟨rfl,⟨nt,rfl⟩⟩;rw [HT.out])
   | (go_at_call 91;(with_reducible refine (zX.calls N _ _ ps r n _ _ (Kd.C_below HR3.out (by repeat (first | exact HB5.out | apply zl))) HC3.out HP.out).mono ?_);rintro e w7 ⟨rfl,⟨np,rfl⟩⟩))
  go_ret
  exact ⟨by rw [HE.out];rfl,by repeat (first | exact HB5.out | apply zl)⟩
theorem zaj.calls (a0_0 : Int) (a0_1 : Int) (A0_2 : Option Addr) (c0_2 : Nat) (l0_2 : List S78) (A0_3 : Option Addr) (c0_3 : Nat) (l0_3 : List ByteArray) (a0_4 : Int) (a0_5 : Int) (a1 : Int) (r : Bool) (w : World) (hr0_2 : Kd.C k78 w A0_2 l0_2.length l0_2) (hc0_2 : l0_2.length ≤ c0_2) (hr0_3 : Kd.C Kd.string w A0_3 l0_3.length l0_3) (hc0_3 : l0_3.length ≤ c0_3) (h : zaj.f a0_0 a0_1 l0_2 l0_3 a0_4 a0_5 a1 = some r) :
  Calls Try.prog 64 #[.agg #[.int .i64 a0_0,.int .i64 a0_1,.slice A0_2 l0_2.length c0_2,.slice A0_3 l0_3.length c0_3,.int .i64 a0_4,.int .i64 a0_5],.int .i64 a1] w fun e w' => e = .returned (.bool r) ∧ Below w.heap.size w w' := by
 obtain rfl := Option.some.inj h
 exact zaj.walk a0_0 a0_1 A0_2 c0_2 l0_2 A0_3 c0_3 l0_3 a0_4 a0_5 a1 w hr0_2 hc0_2 hr0_3 hc0_3
end Go.Proofs.Ytndjfdakflaggaa.Px