/- Part 16 of 30 of the proof of the law DagPasts: what is proved is the statement at the end of the last part; its conditions are those of the given row. -/
import Derived.TacticsInMore
import Derived.OwnWalkIn
import Derived.Test.YtndjfdakflaggaaZDagPastsO
namespace Go.Proofs.Ytndjfdakflaggaa.Px
open Go.RowKit Go.Proofs.YtndjfdakflaggaaW.PrintWords Go.Proofs.YtndjfdakflaggaaW.PrintLast Go.Proofs.YtndjfdakflaggaaW.PrintMore
attribute [local go_sem] zt zv zA zB zq zr zu zw
set_option linter.unusedVariables false
set_option linter.unusedSimpArgs false
def zbA (r : Int) : Nat → Int
 | 0 => r
 | k + 1 => wrap64 (zbA r k - 1)
def zbs (L : List Ent) (r : Int) (k : Nat) : List Ent := zbz L (zbA r k)
set_option maxHeartbeats 4000000 in
theorem zgq (n low r : Int) (A0 : Option Addr) (m c0 : Nat) (w : World) :
  Calls Try.prog 45 #[.agg #[.int .i64 n,.int .i64 low,.slice A0 m c0],.int .i64 r] w fun e w' => ∃ gd gf,e = .returned (.func (.func 63) #[] #[.pointer (some ⟨gf,0,none⟩),.pointer (some ⟨gd,0,none⟩)]) ∧ w.heap.size ≤ gd ∧ w.heap.size ≤ gf ∧ w'.heap[gd]? = some (.cells #[.int .i64 n,.int .i64 low,.slice A0 m c0] 24 (0,0)) ∧ w'.heap[gf]? = some (.cells #[.int .i64 r] 3 (0,0)) ∧ Below w.heap.size w w' := by
 have Hw := za.mk (Below.refl w.heap.size w)
 go_enter Try.func45,Try.ntmps45
 go_wp2_with (first
  | ((with_reducible refine zp (N := 2) rfl ?_);refine zn rfl (N := 2) rfl (cs := #[.int .i64 n,.int .i64 low,.slice A0 m c0]) (t := 24) hrq ?_;intro gd hg w2 hbox hb;have Gw_gd := za.mk (adg Hw.out hg);replace Hw := za.mk (adl Hw.out hb);have Bgd := za.mk hbox;clear hbox hb hg)
  | ((with_reducible refine zp (N := 3) rfl ?_);refine zn rfl (N := 3) rfl (cs := #[.int .i64 r]) (t := 3) hrq ?_;intro gf hg w3 hbox hb;have Gw_gf := za.mk (adg Hw.out hg);have Ngd_gf := za.mk (adn hg Bgd.out);replace Bgd := za.mk (adb Bgd.out hb);replace Hw := za.mk (adl Hw.out hb);have Bgf := za.mk hbox;clear hbox hb hg))
 go_ret
 exact ⟨_,_,rfl,Gw_gd.out,Gw_gf.out,Bgd.out,Bgf.out,Hw.out⟩
set_option maxHeartbeats 4000000 in
theorem zgX (n low r : Int) (A0 : Option Addr) (c0 : Nat) (L : List Ent) (gd gf n0 B K : Nat) (hl : L.length < 1466015503701) (hne : ∀ j,j < K → zbs L r j ≠ []) (hK : zbs L r K = []) :
  SeqN (α := Option Addr × Nat) Try.prog 63 #[.pointer (some ⟨gf,0,none⟩),.pointer (some ⟨gd,0,none⟩)] (fun k x => #[.int .i64 (zbA r k),.slice x.1 (zbs L r k).length x.2])
   (fun k x W0 W => Kd.F k34 W (fun j => j < n0 ∨ W0.heap.size ≤ j) x.1 (zbs L r k).length (zbs L r k))
   (fun W => W.heap[gd]? = some (.cells #[.int .i64 n,.int .i64 low,.slice A0 L.length c0] 24 (0,0)) ∧ W.heap[gf]? = some (.cells #[.int .i64 r] 3 (0,0)) ∧ Kd.V k34 34 W W.heap.size (fun j => j < n0) (.slice A0 L.length c0) L) K B := by
 intro l J W hBW hJb hJD hJB hY h0
 show Calls _ _ #[.func (.yield l) #[] #[],.pointer (some ⟨gf,0,none⟩),.pointer (some ⟨gd,0,none⟩)] W _
 have HJb := za.mk hJb
 have HJD := za.mk hJD
 have HJB := za.mk hJB
 have HY := za.mk hY
 have HL := za.mk hl
 have HNE := za.mk hne
 have HKE := za.mk hK
 have H0 := za.mk h0
 have hx0 := (zb (hJD _ _ h0).2.1 0).trans rfl
 clear hJb hJD hJB hY hl hne hK h0
 go_enter Try.func63,Try.ntmps63
 go_wp2_with fail
 go_loopg [4] (K + 1) (fun kq v4 wr => ∃ k : Nat,v4 = .int .i64 (zbA r k) ∧ za (k + kq = K + 1) ∧ za (k ≤ K) ∧ za (J k wr))
 case atStart => exact ⟨0,rfl,⟨by omega⟩,⟨Nat.zero_le _⟩,H0⟩
 case round =>
  clear H0 hx0
  obtain ⟨k,rfl,HKQ,HK,HJ⟩ := hrel
  cases gk with
  | zero => have := HKQ.out;have := HK.out;omega
  | succ kq =>
  obtain ⟨hd,_,hv⟩ := HJD.out _ _ HJ.out
  have HV := za.mk hv
  have hd0 := (zb hd 0).trans rfl
  have hd1 := (zb hd 1).trans rfl
  have hd2 := (zb hd 2).trans rfl
  clear hd hv
  obtain ⟨kr,hkr⟩ := (zeB n low L (zbA r k) HL.out).rounds
  have HR : za (zay.f kr n low L (zbA r k) = some (zbs L r k)) := ⟨hkr⟩
  have HLL : za ((zbs L r k).length ≤ L.length) := ⟨zdI _ _⟩
  clear hkr
  have hrn : zbA r (k + 1) = wrap64 (zbA r k - 1) := rfl
  have HRN := za.mk hrn
  clear hrn
  rcases Nat.lt_or_ge k K with hlt | hge
  ·have hz : (((zbs L r k).length : Int) == 0) = false := beq_eq_false_iff_ne.2 (fun h => HNE.out k hlt (List.eq_nil_of_length_eq_zero (by omega)))
   have HLT := za.mk hlt
   clear hlt
   refine wp_seq_k (fun K1 hK1 => ?_)
   refine wp_block ?_
   refine wp_seq_k (fun K2 hK2 => ?_)
   have HK2 := za.mk hK2
   clear hK2
   go_wp2_with (go_at_call 52;(with_reducible refine (zay.calls kr n low (fun j => j < n0) A0 c0 L (zbA r k) (zbs L r k) _ (Kd.V_lower HV.out (Nat.le_refl _)) HR.out).mono ?_);rintro e w5 ⟨v22,rfl,hN,hb⟩;obtain ⟨A22,c22,rfl⟩ := Kd.N_slice hN;have HG := za.mk (Kd.N_F hN);have HB5 := za.mk hb;have HJ5 := za.mk (HJb.out _ _ _ HJ.out hb);clear hb hN;clear hd0 hd1 hd2)
   refine HK2.out _ _ ?_
   clear HK2
   refine wp_seq_k (fun K3 hK3 => ?_)
   refine ziu ?_
   obtain ⟨fn,tmps,assign,body,hy,hR⟩ := HY.out 0 k (A22,c22) wr w5 HLT.out HJ.out HB5.out HJ5.out HG.out
   dsimp only at hy
   gi_wp2
   refine hR.mono ?_
   rintro e w6 ⟨rfl,hJ6⟩
   have HJ6 := za.mk hJ6
   clear hJ6 hy hR
   gi_wp2
   go_wp2_with fail
   go_roundg kq
   case measure => omega
   case rel => exact ⟨k + 1,rfl,⟨by have := HKQ.out;omega⟩,⟨HLT.out⟩,HJ6⟩
  ·obtain rfl : k = K := Nat.le_antisymm HK.out hge
   have hz : (((zbs L r k).length : Int) == 0) = true := beq_iff_eq.2 (by rw [HKE.out];rfl)
   go_wp2_with (go_at_call 52;(with_reducible refine (zay.calls kr n low (fun j => j < n0) A0 c0 L (zbA r k) (zbs L r k) _ (Kd.V_lower HV.out (Nat.le_refl _)) HR.out).mono ?_);rintro e w5 ⟨v22,rfl,hN,hb⟩;obtain ⟨A22,c22,rfl⟩ := Kd.N_slice hN;have HJ5 := za.mk (HJb.out _ _ _ HJ.out hb);clear hb hN;clear hd0 hd1 hd2)
   refine bodyPost_ret (results_none rfl _ _ _) rfl ?_
   exact ⟨⟨_,rfl⟩,HJ5.out⟩
attribute [local go_sem] Oper.semAt_some
abbrev StP := (ByteArray → Option Int) × (ByteArray → Bool)
def zcA (r0 : Int) (g : ByteArray) (r : Int) (W : ByteArray → Bool) (x : Ent) : Bool := W x.f0 && !(decide (r = r0) && decide (x.f0 ≠ g))
def za1 (r0 : Int) (g : ByteArray) (r : Int) (s : StP × (ByteArray → Bool)) (x : Ent) : StP × (ByteArray → Bool) :=
 if zcA r0 g r s.1.2 x = true then ((fun y => if y = x.f0 then some r else s.1.1 y,fun y => if y = x.f0 then false else s.1.2 y),fun y => s.2 y || x.f1.f3.any fun p => decide (p = y)) else s
def levP (r0 : Int) (g : ByteArray) (r : Int) (s : StP) (l : List Ent) : StP := ((l.foldl (za1 r0 g r) (s,fun _ => false)).1.1,(l.foldl (za1 r0 g r) (s,fun _ => false)).2)
def zaV (L : List Ent) (r0 : Int) (g : ByteArray) : Nat → StP
 | 0 => (fun _ => none,fun y => decide (y = g))
 | k + 1 => levP r0 g (zbA r0 k) (zaV L r0 g k) (zbs L r0 k)
def inV (I : ByteArray → Option Int) (y : ByteArray) : Option Value := (I y).map (Value.int .i64)
def zb4 (W : ByteArray → Bool) (y : ByteArray) : Option Value := cond (W y) (some (.bool true)) none
theorem zef (W : ByteArray → Bool) (y : ByteArray) : (zb4 W y).getD (.bool false) = .bool (W y) := by unfold zb4;cases W y <;> rfl
theorem zhv (W : ByteArray → Bool) (s : ByteArray) (y : ByteArray) : (if y = s then none else zb4 W y) = zb4 (fun y => if y = s then false else W y) y := by unfold zb4;by_cases h : y = s <;> simp [h]
theorem in_put (I : ByteArray → Option Int) (s : ByteArray) (r : Int) (y : ByteArray) : (if y = s then some (Value.int .i64 r) else inV I y) = inV (fun y => if y = s then some r else I y) y := by unfold inV;by_cases h : y = s <;> simp [h]
theorem zhw (N : ByteArray → Bool) (ps : List ByteArray) (j : Nat) (p : ByteArray) (hp : ps[j]? = some p) (y : ByteArray) : (if y = p then some (Value.bool true) else zb4 (fun y => N y || (ps.take j).any fun p => decide (p = y)) y) = zb4 (fun y => N y || (ps.take (j + 1)).any fun p => decide (p = y)) y := by
 have e : (ps.take (j + 1)).any (fun p => decide (p = y)) = ((ps.take j).any (fun p => decide (p = y)) || decide (p = y)) := by
  rw [List.take_add_one,hp,Option.toList_some,List.any_append,List.any_cons,List.any_nil,Bool.or_false]
 unfold zb4
 dsimp only
 rw [e]
 by_cases h : y = p
 ·subst h;simp
 ·have : ¬ p = y := fun e => h e.symm
  rw [if_neg h,decide_eq_false this,Bool.or_false]
theorem ent_F {W : World} {ok : Nat → Prop} {A : Option Addr} {L : List Ent} (h : Kd.F k34 W ok A L.length L) (i : Nat) (hi : i < L.length) (x : Ent) (hx : L[i]? = some x) :
  ∃ ad A3 c3 A4 c4,A = some ad ∧ W.cell? (ad.add (i * 7)) = some (.string x.f0) ∧ W.cell? ⟨(ad.add (i * 7)).block,(ad.add (i * 7)).off + 1,none⟩ = some (.int .i64 x.f1.f0) ∧ W.cell? ⟨(ad.add (i * 7)).block,(ad.add (i * 7)).off + 2,none⟩ = some (.int .i64 x.f1.f1) ∧ W.cell? ⟨(ad.add (i * 7)).block,(ad.add (i * 7)).off + 3,none⟩ = some (.slice A3 x.f1.f2.length c3) ∧
   W.cell? ⟨(ad.add (i * 7)).block,(ad.add (i * 7)).off + 4,none⟩ = some (.slice A4 x.f1.f3.length c4) ∧ W.cell? ⟨(ad.add (i * 7)).block,(ad.add (i * 7)).off + 5,none⟩ = some (.int .i64 x.f1.f4.f0) ∧ W.cell? ⟨(ad.add (i * 7)).block,(ad.add (i * 7)).off + 6,none⟩ = some (.int .i64 x.f1.f4.f1) ∧ Kd.F Kd.string W ok A4 x.f1.f3.length x.f1.f3 := by
 obtain ⟨ad,cs,rfl,_,hF,hc0,_⟩ := Kd.F_get h z34 (i : Int) (by omega) (by omega)
 rw [List.getD_eq_getElem?_getD,Int.toNat_natCast,hx] at hF
 have hc : ∀ j u,cs[j]? = some u → W.cell? (ad.add (i * 7 + j)) = some u := fun j u hj => by have := hc0 j u hj;rwa [Int.toNat_natCast] at this
 obtain ⟨A3,c3,A4,c4,rfl,l3,g3,l4,g4⟩ := zbo hF
 exact ⟨ad,A3,c3,A4,c4,rfl,hc 0 _ rfl,by rw [← zO _ _ 1 (by omega)];exact hc 1 _ rfl,by rw [← zO _ _ 2 (by omega)];exact hc 2 _ rfl,by rw [← zO _ _ 3 (by omega)];exact hc 3 _ rfl,by rw [← zO _ _ 4 (by omega)];exact hc 4 _ rfl,by rw [← zO _ _ 5 (by omega)];exact hc 5 _ rfl,by rw [← zO _ _ 6 (by omega)];exact hc 6 _ rfl,g4⟩
structure ziX (w : World) (o3 o5 od of : Obj) (base : Nat) (A0 : Option Addr) (c0 : Nat) (L : List Ent) (B gi g3 g5 g6 gd gf : Nat) (s : StP) (bw : Nat) (W : World) : Prop where
 mi : zaU W gi (inV s.1)
 mw : zaU W bw (zb4 s.2)
 b3 : W.heap[g3]? = some o3
 b5 : W.heap[g5]? = some o5
 b6 : W.heap[g6]? = some (.cells #[.map (some bw)] 72 (0,0))
 bd : W.heap[gd]? = some od
 bf : W.heap[gf]? = some of
 hv : Kd.V k34 34 W W.heap.size (fun j => j < w.heap.size) (.slice A0 L.length c0) L
 hb : Below w.heap.size w W
 nb : bw ≠ B ∧ bw ≠ B + 1
 ni : bw ≠ gi
 lb : w.heap.size ≤ bw
theorem ziX.move {w : World} {o3 o5 od of : Obj} {base : Nat} {A0 : Option Addr} {c0 : Nat} {L : List Ent} {B gi g3 g5 g6 gd gf : Nat} {s : StP} {bw : Nat} {W C : World} (h : ziX w o3 o5 od of base A0 c0 L B gi g3 g5 g6 gd gf s bw W) {S : Nat → Prop} (t : Trod S W C)
  (hs : ∀ j,S j → j ≠ gi ∧ j ≠ bw ∧ j ≠ g3 ∧ j ≠ g5 ∧ j ≠ g6 ∧ j ≠ gd ∧ j ≠ gf ∧ w.heap.size ≤ j) : ziX w o3 o5 od of base A0 c0 L B gi g3 g5 g6 gd gf s bw C :=
 ⟨zaK t h.mi (fun h_ => (hs _ h_).1 rfl),zaK t h.mw (fun h_ => (hs _ h_).2.1 rfl),zac t h.b3 (fun h_ => (hs _ h_).2.2.1 rfl),zac t h.b5 (fun h_ => (hs _ h_).2.2.2.1 rfl),zac t h.b6 (fun h_ => (hs _ h_).2.2.2.2.1 rfl),zac t h.bd (fun h_ => (hs _ h_).2.2.2.2.2.1 rfl),zac t h.bf (fun h_ => (hs _ h_).2.2.2.2.2.2.1 rfl),
  Kd.V_map h.hv (fun _ hf => zcT t hf (fun j hj h_ => by have := (hs _ h_).2.2.2.2.2.2.2;omega)),h.hb.trans (t.to_below h.hb.size (fun j h_ => (hs _ h_).2.2.2.2.2.2.2)),h.nb,h.ni,h.lb⟩
theorem zdT {W : World} {b q : Nat} {F : ByteArray → Option Value} {cs : Array Value} {t : TypeId} (h : zaU W b F) (hq : W.heap[q]? = some (.cells cs t (0,0))) : b ≠ q := by
 rintro rfl
 obtain ⟨es,c,l,h1,_⟩ := h
 rw [h1] at hq
 cases hq
set_option maxHeartbeats 8000000 in
set_option maxRecDepth 100000 in
theorem zd1 (n low : Int) (A0 : Option Addr) (c0 : Nat) (L : List Ent) (g : ByteArray) (a1 r : Int) (A3 : Option Addr) (n3 c3 : Nat) (A4 : Option Addr) (n4 c4 : Nat) (b1 b2 : Int) (K : Nat) (w : World) (hv : Kd.V k34 34 w w.heap.size (fun j => j < w.heap.size) (.slice A0 L.length c0) L)
  (hl : L.length < 1466015503701) (hne : ∀ j,j < K → zbs L r j ≠ []) (hK : zbs L r K = []) :
  Calls Try.prog 26 #[.agg #[.int .i64 n,.int .i64 low,.slice A0 L.length c0],.agg #[.string g,.int .i64 a1,.int .i64 r,.slice A3 n3 c3,.slice A4 n4 c4,.int .i64 b1,.int .i64 b2]] w fun e w' => ∃ gm,e = .returned (.map (some gm)) ∧ zaU w' gm (inV (zaV L r g K).1) ∧ Below w.heap.size w w' := by
 have HKV := za.mk hv
 have HL := za.mk hl
 have HNE := za.mk hne
 have HKE := za.mk hK
 have Hw := za.mk (Below.refl w.heap.size w)
 clear hv hl hne hK
 have hmm := @run_makeMap Try.prog
 refine zdP Try.func26 rfl ?_
 simp only [Try.ntmps26,List.size_toArray,List.length_cons,List.length_nil,Nat.reduceAdd,Nat.reduceSub,Array.replicate_succ,Array.replicate_zero,List.push_toArray,List.append_toArray,List.nil_append,List.cons_append]
 go_wp2_with (first
  | ((with_reducible refine zp (N := 2) rfl ?_);refine zn rfl (N := 2) rfl (cs := #[.int .i64 n,.int .i64 low,.slice A0 L.length c0]) (t := 24) hrq ?_;intro g2 hg w2 hbox hb;have Gw_g2 := za.mk (adg Hw.out hg);replace Hw := za.mk (adl Hw.out hb);have Bg2 := za.mk hbox;clear hbox hb hg)
  | ((with_reducible refine zp (N := 3) rfl ?_);refine zn rfl (N := 3) rfl (cs := #[.string g,.int .i64 a1,.int .i64 r,.slice A3 n3 c3,.slice A4 n4 c4,.int .i64 b1,.int .i64 b2]) (t := 34) hrq ?_;intro g3 hg w3 hbox hb;have Gw_g3 := za.mk (adg Hw.out hg);have Ng2_g3 := za.mk (adn hg Bg2.out);replace Bg2 := za.mk (adb Bg2.out hb);replace Hw := za.mk (adl Hw.out hb);have Bg3 := za.mk hbox;clear hbox hb hg)
  | ((with_reducible refine zp (N := 14) rfl ?_);refine zep ?hg (N := 14) ?hd ?hr ?_;(case hd => rfl);(case hg => rfl);(case hr => first | (go_simp;done) | (go_simp;rfl));intro gi hg w4 hm hb;have Gw_gi := za.mk (adg Hw.out hg);have Ng2_gi := za.mk (adn hg Bg2.out);have Ngi_g2 := za.mk (Ne.symm Ng2_gi.out);have Ng3_gi := za.mk (adn hg Bg3.out);have Ngi_g3 := za.mk (Ne.symm Ng3_gi.out);replace Bg2 := za.mk (adb Bg2.out hb);replace Bg3 := za.mk (adb Bg3.out hb);replace Hw := za.mk (adl Hw.out hb);have Mgi := za.mk hm;clear hm hb hg)
  | ((with_reducible refine zp (N := 5) rfl ?_);refine zn rfl (N := 5) rfl (cs := #[.map none]) (t := 55) hrq ?_;intro g5 hg w5 hbox hb;have Ngi_g5 := za.mk (show gi ≠ g5 from by rw [hg];exact Nat.ne_of_lt (zaP Mgi.out));have Ng5_gi := za.mk (Ne.symm Ngi_g5.out);have Gw_g5 := za.mk (adg Hw.out hg);have Ng2_g5 := za.mk (adn hg Bg2.out);have Ng3_g5 := za.mk (adn hg Bg3.out);replace Bg2 := za.mk (adb Bg2.out hb);replace Bg3 := za.mk (adb Bg3.out hb);replace Hw := za.mk (adl Hw.out hb);replace Mgi := za.mk (zaw Mgi.out hb);have Bg5 := za.mk hbox;clear hbox hb hg;obtain ⟨zg5_0,fg5_0⟩ := hcq1 Bg5.out)
  | ((with_reducible refine z6 (t := 55) (p := 5) rfl ?_);refine zT (t := 55) (p := 5) (v := _) (w1 := (World.setCell w5 ⟨g5,0,none⟩ (.map (some gi)))) rfl rfl rfl hrq ?_;intro w6 hw;clear zg5_0 fg5_0;replace Bg2 := za.mk (adf hw Ng2_g5.out Bg2.out);replace Bg3 := za.mk (adf hw Ng3_g5.out Bg3.out);replace Bg5 : za (w6.heap[g5]? = some (.cells #[.map (some gi)] 55 (0,0))) := ⟨adp hw Bg5.out⟩;replace Hw := za.mk (ads hw Gw_g5.out Hw.out);replace Mgi := za.mk (adm hw Ngi_g5.out Mgi.out);clear hw)
  | ((with_reducible refine zp (N := 15) rfl ?_);refine zep ?hg (N := 15) ?hd ?hr ?_;(case hd => rfl);(case hg => rfl);(case hr => first | (go_simp;done) | (go_simp;rfl));intro gw hg w7 hm hb;have Gw_gw := za.mk (adg Hw.out hg);have Ng2_gw := za.mk (adn hg Bg2.out);have Ngw_g2 := za.mk (Ne.symm Ng2_gw.out);have Ng3_gw := za.mk (adn hg Bg3.out);have Ngw_g3 := za.mk (Ne.symm Ng3_gw.out);have Ng5_gw := za.mk (adn hg Bg5.out);have Ngw_g5 := za.mk (Ne.symm Ng5_gw.out);have Ngi_gw := za.mk (show gi ≠ gw from by rw [hg];exact Nat.ne_of_lt (zaP Mgi.out));have Ngw_gi := za.mk (Ne.symm Ngi_gw.out);replace Bg2 := za.mk (adb Bg2.out hb);replace Bg3 := za.mk (adb Bg3.out hb);replace Bg5 := za.mk (adb Bg5.out hb);replace Hw := za.mk (adl Hw.out hb);replace Mgi := za.mk (zaw Mgi.out hb);have Mgw := za.mk hm;clear hm hb hg;obtain ⟨zg3_0,zg3_1,zg3_2,zg3_3,zg3_4,zg3_5,zg3_6,fg3_0,fg3_1,fg3_2,fg3_3,fg3_4,fg3_5,fg3_6⟩ := hcq7 Bg3.out)
  | ((with_reducible refine gate_ins (t := 72) rfl ?_);refine zhy _ rfl _ _ _ 72 rfl Mgw.out Try.underlying72 Try.underlying9 g (.bool true) rfl rfl rfl ?_;intro w8 hm8 hg8;have hT := Trod.grown (Trod.refl (fun j => j = gw) _) hg8 (.inl rfl);clear zg3_0 zg3_1 zg3_2 zg3_3 zg3_4 zg3_5 zg3_6 fg3_0 fg3_1 fg3_2 fg3_3 fg3_4 fg3_5 fg3_6;replace Bg2 := za.mk (zac hT Bg2.out Ng2_gw.out);replace Bg3 := za.mk (zac hT Bg3.out Ng3_gw.out);replace Bg5 := za.mk (zac hT Bg5.out Ng5_gw.out);replace Hw := za.mk (Hw.out.trans (hT.to_below (zj Hw.out) (fun j e => by rw [e];exact Gw_gw.out)));replace Mgi := za.mk (zaK hT Mgi.out Ngi_gw.out);replace Mgw := za.mk hm8;clear hT hm8 hg8)
  | ((with_reducible refine zp (N := 6) rfl ?_);refine zn rfl (N := 6) rfl (cs := #[.map none]) (t := 72) hrq ?_;intro g6 hg w9 hbox hb;have Ngi_g6 := za.mk (show gi ≠ g6 from by rw [hg];exact Nat.ne_of_lt (zaP Mgi.out));have Ng6_gi := za.mk (Ne.symm Ngi_g6.out);have Ngw_g6 := za.mk (show gw ≠ g6 from by rw [hg];exact Nat.ne_of_lt (zaP Mgw.out));have Ng6_gw := za.mk (Ne.symm Ngw_g6.out);have Gw_g6 := za.mk (adg Hw.out hg);have Ng2_g6 := za.mk (adn hg Bg2.out);have Ng3_g6 := za.mk (adn hg Bg3.out);have Ng5_g6 := za.mk (adn hg Bg5.out);replace Bg2 := za.mk (adb Bg2.out hb);replace Bg3 := za.mk (adb Bg3.out hb);replace Bg5 := za.mk (adb Bg5.out hb);replace Hw := za.mk (adl Hw.out hb);replace Mgi := za.mk (zaw Mgi.out hb);replace Mgw := za.mk (zaw Mgw.out hb);have Bg6 := za.mk hbox;clear hbox hb hg;obtain ⟨zg6_0,fg6_0⟩ := hcq1 Bg6.out)
  | ((with_reducible refine z6 (t := 72) (p := 6) rfl ?_);refine zT (t := 72) (p := 6) (v := _) (w1 := (World.setCell w9 ⟨g6,0,none⟩ (.map (some gw)))) rfl rfl rfl hrq ?_;intro w10 hw;clear zg6_0 fg6_0;replace Bg2 := za.mk (adf hw Ng2_g6.out Bg2.out);replace Bg3 := za.mk (adf hw Ng3_g6.out Bg3.out);replace Bg5 := za.mk (adf hw Ng5_g6.out Bg5.out);replace Bg6 : za (w10.heap[g6]? = some (.cells #[.map (some gw)] 72 (0,0))) := ⟨adp hw Bg6.out⟩;replace Hw := za.mk (ads hw Gw_g6.out Hw.out);replace Mgi := za.mk (adm hw Ngi_g6.out Mgi.out);replace Mgw := za.mk (adm hw Ngw_g6.out Mgw.out);clear hw;obtain ⟨zg2_0,zg2_1,zg2_2,fg2_0,fg2_1,fg2_2⟩ := hcq3 Bg2.out;obtain ⟨zg3_0,zg3_1,zg3_2,zg3_3,zg3_4,zg3_5,zg3_6,fg3_0,fg3_1,fg3_2,fg3_3,fg3_4,fg3_5,fg3_6⟩ := hcq7 Bg3.out;have L6 := za.mk (zam Bg6.out))
  | (go_at_call 45;refine (zgq n low r A0 L.length c0 _).mono ?_;rintro e w11 ⟨gd,gf,rfl,hgd,hgf,hbd,hbf,hb⟩;clear zg2_0 zg2_1 zg2_2 fg2_0 fg2_1 fg2_2 zg3_0 zg3_1 zg3_2 zg3_3 zg3_4 zg3_5 zg3_6 fg3_0 fg3_1 fg3_2 fg3_3 fg3_4 fg3_5 fg3_6;replace Bg2 := za.mk (adb Bg2.out hb);replace Bg3 := za.mk (adb Bg3.out hb);replace Bg5 := za.mk (adb Bg5.out hb);replace Bg6 := za.mk (adb Bg6.out hb);replace Hw := za.mk (adl Hw.out hb);replace Mgi := za.mk (zaw Mgi.out hb);replace Mgw := za.mk (zaw Mgw.out hb);have HKW := za.mk (Kd.V_below HKV.out Hw.out);have BD := za.mk hbd;have BF := za.mk hbf;have LD := za.mk (Nat.le_trans (zj (Below.refl _ _)) hgd);have LF := za.mk hgf;have Ng6_gd := za.mk (show g6 ≠ gd from Nat.ne_of_lt (Nat.lt_of_lt_of_le L6.out hgd));have Ng6_gf := za.mk (show g6 ≠ gf from Nat.ne_of_lt (Nat.lt_of_lt_of_le L6.out hgf));clear hbd hbf hgd hgf;clear hb))
 clear hmm
 obtain ⟨l3,l5,l6⟩ : g3 < w11.heap.size ∧ g5 < w11.heap.size ∧ g6 < w11.heap.size := ⟨zam Bg3.out,zam Bg5.out,zam Bg6.out⟩
 obtain ⟨li,lw,ld,lf⟩ : gi < w11.heap.size ∧ gw < w11.heap.size ∧ gd < w11.heap.size ∧ gf < w11.heap.size := ⟨zaP Mgi.out,zaP Mgw.out,zam BD.out,zam BF.out⟩
 have hsz := zj Hw.out
 refine zfQ (α := Option Addr × Nat) (gf := 63) (lb := #[.pointer (some ⟨gf,0,none⟩),.pointer (some ⟨gd,0,none⟩)]) rfl (enters_of Try.func63 (by kernel_rfl) rfl)
  (zgX n low r A0 c0 L gd gf w.heap.size (w11.heap.size + 2) K HL.out HNE.out HKE.out) (fun _ _ => rfl)
  (fun k W => ∃ bw,ziX w (.cells #[.string g,.int .i64 a1,.int .i64 r,.slice A3 n3 c3,.slice A4 n4 c4,.int .i64 b1,.int .i64 b2] 34 (0,0)) (.cells #[.map (some gi)] 55 (0,0)) (.cells #[.int .i64 n,.int .i64 low,.slice A0 L.length c0] 24 (0,0)) (.cells #[.int .i64 r] 3 (0,0)) 0 A0 c0 L w11.heap.size gi g3 g5 g6 gd gf (zaV L r g k) bw W)
  (fun k A C h hb => by obtain ⟨bw,h⟩ := h;exact ⟨bw,h.move (Trod.of_below hb (fun _ => False)) (fun _ h_ => h_.elim)⟩)
  (fun k A l o o' h hl _ _ _ => by obtain ⟨bw,h⟩ := h;have hnb := h.nb;exact ⟨bw,h.move (zee A l o') (fun j h_ => by subst h_;refine ⟨?_,?_,?_,?_,?_,?_,?_,?_⟩ <;> rcases hl with hl | hl <;> omega)⟩)
  (fun k x W0 A o' hs0 h => zcT (zee A _ o') h (fun j hj h_ => by rcases hj with hj | hj <;> omega))
  (fun k A h => by obtain ⟨bw,h⟩ := h;exact ⟨h.bd,h.bf,h.hv⟩)
  ⟨gw,⟨Mgi.out,zbq Mgw.out (fun y => by simp [zb4,zaV]),Bg3.out,Bg5.out,Bg6.out,BD.out,BF.out,HKW.out,Hw.out,⟨by omega,by omega⟩,Ngw_gi.out,Gw_gw.out⟩⟩
  (fun k x => { tmps := #[.agg #[.int .i64 n,.int .i64 low,.slice A0 L.length c0],.agg #[.string g,.int .i64 a1,.int .i64 r,.slice A3 n3 c3,.slice A4 n4 c4,.int .i64 b1,.int .i64 b2],.pointer (some ⟨g2,0,none⟩),.pointer (some ⟨g3,0,none⟩),.map none,.pointer (some ⟨g5,0,none⟩),.pointer (some ⟨g6,0,none⟩),.int .i64 (zbA r k),.slice x.1 (zbs L r k).length x.2,undef,undef,undef,undef,undef,.map (some gi),.map (some gw),.pointer (some ⟨g3,0,none⟩),.string g,.map (some gw),.agg #[.int .i64 n,.int .i64 low,.slice A0 L.length c0],.pointer (some ⟨g3,1,none⟩),.pointer (some ⟨g3,2,none⟩),.int .i64 r,.func (.func 63) #[] #[.pointer (some ⟨gf,0,none⟩),.pointer (some ⟨gd,0,none⟩)],.int .i64 (zbA r k),.slice x.1 (zbs L r k).length x.2,undef,undef,undef,undef,undef,undef,undef,undef,undef,undef,undef,undef,undef,undef,undef,undef,undef,undef,undef,undef,undef,undef,undef,undef,undef,undef,undef,undef,undef,undef,undef,undef,undef,undef,undef,undef,undef,undef,undef,undef,undef,undef,undef,undef,undef,undef,undef],defers := [] }) ?assign ?body ?done
 case assign =>
  intro l_ n_ k x W Kq hK
  gi_wp2
  exact hK
 case body =>
  rintro n_ k ⟨Ax,cx⟩ W0 W hk hs0 hs1 ⟨bw,h0⟩ hkeep ⟨bw',h1⟩ hF
  obtain rfl : bw = bw' := by
   have e := (hkeep g6 (by omega) (by omega)).symm.trans h1.b6
   rw [h0.b6] at e
   injection e with e
   injection e with e _
   simp at e
   exact e
  have lbw : bw < W0.heap.size := zaP h0.mw
  have nbw := h1.nb
  have hnext : zaV L r g (k + 1) = levP r g (zbA r k) (zaV L r g k) (zbs L r k) := rfl
  have HF := za.mk (Kd.F_bound hF)
  have H1 := za.mk h1
  have HNX := za.mk hnext
  have q1 := Gw_gi.out
  have q2 := h1.lb
  have q3 := zam h1.b3
  have q5 := zam h1.b5
  have q6 := zam h1.b6
  have qi := zaP h1.mi
  have qw := zaP h1.mw
  have hlm := (Kd.F_now hF).2.1
  have Ng3_bw := za.mk (Ne.symm (zdT h1.mw h1.b3))
  have Ng5_bw := za.mk (Ne.symm (zdT h1.mw h1.b5))
  have Ng6_bw := za.mk (Ne.symm (zdT h1.mw h1.b6))
  have Nbw_gi := za.mk h1.ni
  have Nbw_gd := za.mk (zdT h1.mw h1.bd)
  have Nbw_gf := za.mk (zdT h1.mw h1.bf)
  have Ngi_gd := za.mk (zdT h1.mi h1.bd)
  have Ngi_gf := za.mk (zdT h1.mi h1.bf)
  have Ngi_bw := za.mk (Ne.symm h1.ni)
  clear hF hnext h0 h1 hkeep
  generalize zbA r k = rk at *
  generalize zbs L r k = l at *
  generalize zaV L r g k = s at *
  gi_wp2_with ((with_reducible refine zbn (N := 26) rfl ?hQ ?hd ?_);(case hQ => rintro ⟨_,_,h_⟩;exact h_);(case hd => rfl))
  go_wp2_with ((with_reducible refine zp (N := 26) rfl ?_);refine zep ?hg (N := 26) ?hd ?hr ?_;(case hd => rfl);(case hg => rfl);(case hr => first | (go_simp;done) | (go_simp;rfl));intro gn hg wa hm hb;have Mn := za.mk hm;have Tn := za.mk (Trod.of_below hb (fun j => j = gi ∨ j = bw));have GN := za.mk (Nat.le_of_eq hg.symm);have Mi := za.mk (zaw H1.out.mi hb);have Mw := za.mk (zaw H1.out.mw hb);clear hm hb hg)
  gi_wp2
  have gN := GN.out
  have Ng3_gn : za (g3 ≠ gn) := ⟨by omega⟩
  have Ng5_gn : za (g5 ≠ gn) := ⟨by omega⟩
  have Ng6_gn : za (g6 ≠ gn) := ⟨by omega⟩
  have Ngi_gn : za (gi ≠ gn) := ⟨by omega⟩
  have Nbw_gn : za (bw ≠ gn) := ⟨by omega⟩
  have Ngn_gi : za (gn ≠ gi) := ⟨by omega⟩
  have Ngn_bw : za (gn ≠ bw) := ⟨by omega⟩
  gi_loopw [29] (fun v29 wr => ∃ i : Nat,v29 = .int .i64 i ∧ i ≤ l.length ∧ za (Trod (fun j => j = gi ∨ j = bw) W wr) ∧ za (zaU wr gi (inV ((l.take i).foldl (za1 r g rk) (s,fun _ => false)).1.1)) ∧ za (zaU wr bw (zb4 ((l.take i).foldl (za1 r g rk) (s,fun _ => false)).1.2)) ∧ za (zaU wr gn (zb4 ((l.take i).foldl (za1 r g rk) (s,fun _ => false)).2))) (fun v29 _ => l.length - (intOf v29).toNat)
  case atStart => exact ⟨0,rfl,Nat.zero_le _,Tn,Mi,Mw,⟨zbq Mn.out (fun y => by simp [zb4])⟩⟩
  case round =>
   clear Tn Mi Mw Mn
   obtain ⟨i,rfl,hi,HT,HMi,HMw,HMn⟩ := hrel
   have HF1 := za.mk (zcT HT.out HF.out (fun j hj h_ => by rcases hj with ⟨hj | hj,_⟩ <;> rcases h_ with h_ | h_ <;> omega))
   have Bg3 := za.mk (zac HT.out H1.out.b3 (fun h_ => h_.elim Ng3_gi.out Ng3_bw.out))
   have Bg5 := za.mk (zac HT.out H1.out.b5 (fun h_ => h_.elim Ng5_gi.out Ng5_bw.out))
   have Bg6 := za.mk (zac HT.out H1.out.b6 (fun h_ => h_.elim Ng6_gi.out Ng6_bw.out))
   by_cases hlt : i < l.length
   ·obtain ⟨x,hx⟩ : ∃ x,l[i]? = some x := ⟨_,List.getElem?_eq_getElem hlt⟩
    obtain ⟨adx,AX3,cx3,AX4,cx4,rfl,hx0,hx1,hx2,hx3,hx4,hx5,hx6,hps⟩ := ent_F HF1.out i hlt x hx
    have hst : (l.take (i + 1)).foldl (za1 r g rk) (s,fun _ => false) = za1 r g rk ((l.take i).foldl (za1 r g rk) (s,fun _ => false)) x := by rw [List.take_add_one,hx,Option.toList_some,List.foldl_append];rfl
    have HST := za.mk hst
    have hb : decide (i < l.length) = true := decide_eq_true hlt
    have HU := za.mk (Trod.refl (fun j => j = gi ∨ j = bw) wr)
    obtain ⟨x0,⟨x1,x2,x3,x4,⟨x5,x6⟩⟩⟩ := x
    have HPS := za.mk hps
    clear hst hps hx
    dsimp only at hx0 hx1 hx2 hx3 hx4 hx5 hx6
    generalize (l.take i).foldl (za1 r g rk) (s,fun _ => false) = q at *
    obtain ⟨⟨Iq,Wq⟩,Nq⟩ := q
    have Mgi : za (zaU wr gi (inV Iq)) := HMi
    have Mbw : za (zaU wr bw (zb4 Wq)) := HMw
    have Mgn : za (zaU wr gn (zb4 Nq)) := HMn
    gi_wp2_with ((with_reducible refine zbn (N := 31) rfl ?hQ ?hd ?_);(case hQ => rintro ⟨_,_,h_⟩;exact h_);(case hd => rfl))
    go_wp2_with (first
  | ((with_reducible refine zp (N := 11) rfl ?_);refine zn rfl (N := 11) rfl (cs := #[.string (⟨#[]⟩ : ByteArray),.int .i64 0,.int .i64 0,.slice none 0 0,.slice none 0 0,.int .i64 0,.int .i64 0]) (t := 34) hrq ?_;intro gx hg wx hbox hb;have GHT_gx := za.mk (show W.heap.size ≤ gx from by rw [hg];exact HT.out.size);have GHU_gx := za.mk (show wr.heap.size ≤ gx from by rw [hg];exact HU.out.size);have Ngi_gx := za.mk (show gi ≠ gx from by rw [hg];exact Nat.ne_of_lt (zaP Mgi.out));have Ngx_gi := za.mk (Ne.symm Ngi_gx.out);have Nbw_gx := za.mk (show bw ≠ gx from by rw [hg];exact Nat.ne_of_lt (zaP Mbw.out));have Ngx_bw := za.mk (Ne.symm Nbw_gx.out);have Ngn_gx := za.mk (show gn ≠ gx from by rw [hg];exact Nat.ne_of_lt (zaP Mgn.out));have Ngx_gn := za.mk (Ne.symm Ngn_gx.out);have Ng3_gx := za.mk (adn hg Bg3.out);have Ng5_gx := za.mk (adn hg Bg5.out);have Ng6_gx := za.mk (adn hg Bg6.out);replace Bg3 := za.mk (adb Bg3.out hb);replace Bg5 := za.mk (adb Bg5.out hb);replace Bg6 := za.mk (adb Bg6.out hb);replace Mgi := za.mk (zaw Mgi.out hb);replace Mbw := za.mk (zaw Mbw.out hb);replace Mgn := za.mk (zaw Mgn.out hb);replace HT := za.mk (HT.out.below hb);replace HU := za.mk (HU.out.below hb);have Bgx := za.mk hbox;clear hbox hb hg;have zgx_0 : wx.cell? ⟨gx,0,none⟩ = some (.string (⟨#[]⟩ : ByteArray)) := (zb Bgx.out 0).trans rfl;have zgx_1 : wx.cell? ⟨gx,1,none⟩ = some (.int .i64 0) := (zb Bgx.out 1).trans rfl;have zgx_2 : wx.cell? ⟨gx,2,none⟩ = some (.int .i64 0) := (zb Bgx.out 2).trans rfl;have zgx_3 : wx.cell? ⟨gx,3,none⟩ = some (.slice none 0 0) := (zb Bgx.out 3).trans rfl;have zgx_4 : wx.cell? ⟨gx,4,none⟩ = some (.slice none 0 0) := (zb Bgx.out 4).trans rfl;have zgx_5 : wx.cell? ⟨gx,5,none⟩ = some (.int .i64 0) := (zb Bgx.out 5).trans rfl;have zgx_6 : wx.cell? ⟨gx,6,none⟩ = some (.int .i64 0) := (zb Bgx.out 6).trans rfl;have fgx_0 := zc Bgx.out 0;have fgx_1 := zc Bgx.out 1;have fgx_2 := zc Bgx.out 2;have fgx_3 := zc Bgx.out 3;have fgx_4 := zc Bgx.out 4;have fgx_5 := zc Bgx.out 5;have fgx_6 := zc Bgx.out 6)
  | ((with_reducible refine z6 (t := 34) (p := 11) rfl ?_);refine zT (t := 34) (p := 11) (v := _) (w1 := (World.setCell (World.setCell (World.setCell (World.setCell (World.setCell (World.setCell (World.setCell wx ⟨gx,0,none⟩ (.string x0)) ⟨gx,1,none⟩ (.int .i64 x1)) ⟨gx,2,none⟩ (.int .i64 x2)) ⟨gx,3,none⟩ (.slice AX3 x3.length cx3)) ⟨gx,4,none⟩ (.slice AX4 x4.length cx4)) ⟨gx,5,none⟩ (.int .i64 x5)) ⟨gx,6,none⟩ (.int .i64 x6))) rfl rfl rfl hrq ?_;intro wy hw;clear zgx_0 zgx_1 zgx_2 zgx_3 zgx_4 zgx_5 zgx_6 fgx_0 fgx_1 fgx_2 fgx_3 fgx_4 fgx_5 fgx_6;replace Bg3 := za.mk (adf hw Ng3_gx.out Bg3.out);replace Bg5 := za.mk (adf hw Ng5_gx.out Bg5.out);replace Bg6 := za.mk (adf hw Ng6_gx.out Bg6.out);replace Bgx : za (wy.heap[gx]? = some (.cells #[.string x0,.int .i64 x1,.int .i64 x2,.slice AX3 x3.length cx3,.slice AX4 x4.length cx4,.int .i64 x5,.int .i64 x6] 34 (0,0))) := ⟨adp hw Bgx.out⟩;replace Mgi := za.mk (adm hw Ngi_gx.out Mgi.out);replace Mbw := za.mk (adm hw Nbw_gx.out Mbw.out);replace Mgn := za.mk (adm hw Ngn_gx.out Mgn.out);replace HT := za.mk (adt hw GHT_gx.out HT.out);replace HU := za.mk (adt hw GHU_gx.out HU.out);clear hw;have zgx_0 : wy.cell? ⟨gx,0,none⟩ = some (.string x0) := (zb Bgx.out 0).trans rfl;have zgx_1 : wy.cell? ⟨gx,1,none⟩ = some (.int .i64 x1) := (zb Bgx.out 1).trans rfl;have zgx_2 : wy.cell? ⟨gx,2,none⟩ = some (.int .i64 x2) := (zb Bgx.out 2).trans rfl;have zgx_3 : wy.cell? ⟨gx,3,none⟩ = some (.slice AX3 x3.length cx3) := (zb Bgx.out 3).trans rfl;have zgx_4 : wy.cell? ⟨gx,4,none⟩ = some (.slice AX4 x4.length cx4) := (zb Bgx.out 4).trans rfl;have zgx_5 : wy.cell? ⟨gx,5,none⟩ = some (.int .i64 x5) := (zb Bgx.out 5).trans rfl;have zgx_6 : wy.cell? ⟨gx,6,none⟩ = some (.int .i64 x6) := (zb Bgx.out 6).trans rfl;have fgx_0 := zc Bgx.out 0;have fgx_1 := zc Bgx.out 1;have fgx_2 := zc Bgx.out 2;have fgx_3 := zc Bgx.out 3;have fgx_4 := zc Bgx.out 4;have fgx_5 := zc Bgx.out 5;have fgx_6 := zc Bgx.out 6;obtain ⟨zg6_0,fg6_0⟩ := hcq1 Bg6.out;obtain ⟨zg3_0,zg3_1,zg3_2,zg3_3,zg3_4,zg3_5,zg3_6,fg3_0,fg3_1,fg3_2,fg3_3,fg3_4,fg3_5,fg3_6⟩ := hcq7 Bg3.out;obtain ⟨zg5_0,fg5_0⟩ := hcq1 Bg5.out))
    clear hx0 hx1 hx2 hx3 hx4 hx5 hx6
    rcases hq : Wq x0 with _ | _
    ·have HQ := za.mk hq
     clear hq
     gi_wp2_with ((with_reducible refine zbn (N := 33) rfl ?hQ ?hd ?_);(case hQ => rintro ⟨_,_,h_⟩;exact h_);(case hd => rfl))
     go_wp2_with (at_lookup;refine zbx _ rfl _ _ 72 rfl Mbw.out Try.underlying72 Try.underlying9 (zS.zeroB _) x0 rfl rfl ?_;rw [zef,HQ.out])
     clear zgx_0 zgx_1 zgx_2 zgx_3 zgx_4 zgx_5 zgx_6 fgx_0 fgx_1 fgx_2 fgx_3 fgx_4 fgx_5 fgx_6 zg6_0 fg6_0 zg3_0 zg3_1 zg3_2 zg3_3 zg3_4 zg3_5 zg3_6 fg3_0 fg3_1 fg3_2 fg3_3 fg3_4 fg3_5 fg3_6 zg5_0 fg5_0
     have hok : ¬ zcA r g rk Wq ⟨x0,⟨x1,x2,x3,x4,⟨x5,x6⟩⟩⟩ = true := by simp [zcA,HQ.out]
     have HOK := za.mk hok
     clear hok
     gi_wp2
     go_roundw
     case rel =>
      refine ⟨i + 1,by go_num,by omega,HT,?_,?_,?_⟩
      ·refine ⟨?_⟩;rw [HST.out,za1,if_neg HOK.out];exact Mgi.out
      ·refine ⟨?_⟩;rw [HST.out,za1,if_neg HOK.out];exact Mbw.out
      ·refine ⟨?_⟩;rw [HST.out,za1,if_neg HOK.out];exact Mgn.out
     case measure => simp [intOf];omega
    ·have HQ := za.mk hq
     clear hq
     by_cases hr : rk = r
     ·by_cases hd : x0 = g
      ·have e1 : (rk == r) = true := beq_iff_eq.2 hr
       have e2 : (x0.toList == g.toList) = true := by rw [zbG];exact decide_eq_true hd
       have e3 : (x0.toList != g.toList) = false := by rw [bne,e2];rfl
       have HRD : za (rk = r ∧ x0 = g) := ⟨hr,hd⟩
       clear hr hd
       gi_wp2_with ((with_reducible refine zbn (N := 33) rfl ?hQ ?hd ?_);(case hQ => rintro ⟨_,_,h_⟩;exact h_);(case hd => rfl))
       go_wp2_with (at_lookup;refine zbx _ rfl _ _ 72 rfl Mbw.out Try.underlying72 Try.underlying9 (zS.zeroB _) x0 rfl rfl ?_;rw [zef,HQ.out])
       gi_wp2_with ((with_reducible refine zbn (N := 52) rfl ?hQ ?hd ?_);(case hQ => rintro ⟨_,_,h_⟩;exact h_);(case hd => rfl))
       go_wp2_with ((with_reducible refine zg1 rfl ?_);refine zeM _ rfl _ _ 72 9 rfl Mbw.out Try.underlying72 Try.underlying9 x0 rfl rfl ?_;intro w12 hm12 hg12;have hT := Trod.grown (Trod.refl (fun j => j = bw) _) hg12 (.inl rfl);clear zgx_0 zgx_1 zgx_2 zgx_3 zgx_4 zgx_5 zgx_6 fgx_0 fgx_1 fgx_2 fgx_3 fgx_4 fgx_5 fgx_6 zg6_0 fg6_0 zg3_0 zg3_1 zg3_2 zg3_3 zg3_4 zg3_5 zg3_6 fg3_0 fg3_1 fg3_2 fg3_3 fg3_4 fg3_5 fg3_6 zg5_0 fg5_0;replace Bg3 := za.mk (zac hT Bg3.out Ng3_bw.out);replace Bg5 := za.mk (zac hT Bg5.out Ng5_bw.out);replace Bg6 := za.mk (zac hT Bg6.out Ng6_bw.out);replace Bgx := za.mk (zac hT Bgx.out Ngx_bw.out);replace Mgi := za.mk (zaK hT Mgi.out Ngi_bw.out);replace Mgn := za.mk (zaK hT Mgn.out Ngn_bw.out);replace Mbw := za.mk (zbq hm12 (zhv Wq x0));replace HT := za.mk (HT.out.grown hg12 (.inl (.inr rfl)));replace HU := za.mk (HU.out.grown hg12 (.inl (.inr rfl)));clear hT hm12 hg12;have zgx_0 : w12.cell? ⟨gx,0,none⟩ = some (.string x0) := (zb Bgx.out 0).trans rfl;have zgx_1 : w12.cell? ⟨gx,1,none⟩ = some (.int .i64 x1) := (zb Bgx.out 1).trans rfl;have zgx_2 : w12.cell? ⟨gx,2,none⟩ = some (.int .i64 x2) := (zb Bgx.out 2).trans rfl;have zgx_3 : w12.cell? ⟨gx,3,none⟩ = some (.slice AX3 x3.length cx3) := (zb Bgx.out 3).trans rfl;have zgx_4 : w12.cell? ⟨gx,4,none⟩ = some (.slice AX4 x4.length cx4) := (zb Bgx.out 4).trans rfl;have zgx_5 : w12.cell? ⟨gx,5,none⟩ = some (.int .i64 x5) := (zb Bgx.out 5).trans rfl;have zgx_6 : w12.cell? ⟨gx,6,none⟩ = some (.int .i64 x6) := (zb Bgx.out 6).trans rfl;have fgx_0 := zc Bgx.out 0;have fgx_1 := zc Bgx.out 1;have fgx_2 := zc Bgx.out 2;have fgx_3 := zc Bgx.out 3;have fgx_4 := zc Bgx.out 4;have fgx_5 := zc Bgx.out 5;have fgx_6 := zc Bgx.out 6;obtain ⟨zg5_0,fg5_0⟩ := hcq1 Bg5.out)
       gi_wp2_with ((with_reducible refine zbn (N := 55) rfl ?hQ ?hd ?_);(case hQ => rintro ⟨_,_,h_⟩;exact h_);(case hd => rfl))
       go_wp2_with (at_mapUpdate;refine zcn _ rfl _ _ _ 55 rfl Mgi.out Try.underlying55 Try.underlying9 x0 (.int .i64 rk) rfl rfl rfl ?_;intro w13 hm13 hg13;have hT := Trod.grown (Trod.refl (fun j => j = gi) _) hg13 (.inl rfl);clear zgx_0 zgx_1 zgx_2 zgx_3 zgx_4 zgx_5 zgx_6 fgx_0 fgx_1 fgx_2 fgx_3 fgx_4 fgx_5 fgx_6 zg5_0 fg5_0;replace Bg3 := za.mk (zac hT Bg3.out Ng3_gi.out);replace Bg5 := za.mk (zac hT Bg5.out Ng5_gi.out);replace Bg6 := za.mk (zac hT Bg6.out Ng6_gi.out);replace Bgx := za.mk (zac hT Bgx.out Ngx_gi.out);replace Mbw := za.mk (zaK hT Mbw.out Nbw_gi.out);replace Mgn := za.mk (zaK hT Mgn.out Ngn_gi.out);replace Mgi := za.mk (zbq hm13 (in_put Iq x0 rk));replace HT := za.mk (HT.out.grown hg13 (.inl (.inl rfl)));replace HU := za.mk (HU.out.grown hg13 (.inl (.inl rfl)));clear hT hm13 hg13;have zgx_0 : w13.cell? ⟨gx,0,none⟩ = some (.string x0) := (zb Bgx.out 0).trans rfl;have zgx_1 : w13.cell? ⟨gx,1,none⟩ = some (.int .i64 x1) := (zb Bgx.out 1).trans rfl;have zgx_2 : w13.cell? ⟨gx,2,none⟩ = some (.int .i64 x2) := (zb Bgx.out 2).trans rfl;have zgx_3 : w13.cell? ⟨gx,3,none⟩ = some (.slice AX3 x3.length cx3) := (zb Bgx.out 3).trans rfl;have zgx_4 : w13.cell? ⟨gx,4,none⟩ = some (.slice AX4 x4.length cx4) := (zb Bgx.out 4).trans rfl;have zgx_5 : w13.cell? ⟨gx,5,none⟩ = some (.int .i64 x5) := (zb Bgx.out 5).trans rfl;have zgx_6 : w13.cell? ⟨gx,6,none⟩ = some (.int .i64 x6) := (zb Bgx.out 6).trans rfl;have fgx_0 := zc Bgx.out 0;have fgx_1 := zc Bgx.out 1;have fgx_2 := zc Bgx.out 2;have fgx_3 := zc Bgx.out 3;have fgx_4 := zc Bgx.out 4;have fgx_5 := zc Bgx.out 5;have fgx_6 := zc Bgx.out 6)
       gi_wp2
       clear zgx_0 zgx_1 zgx_2 zgx_3 zgx_4 zgx_5 zgx_6 fgx_0 fgx_1 fgx_2 fgx_3 fgx_4 fgx_5 fgx_6
       have hpm := (Kd.F_now HPS.out).2.1
       have HN0 : za (zaU w13 gn (zb4 (fun y => Nq y || (x4.take 0).any fun p => decide (p = y)))) := ⟨zbq Mgn.out (fun y => by simp)⟩
       gi_loopw [63] (fun v63 wq => ∃ j : Nat,v63 = .int .i64 j ∧ j ≤ x4.length ∧ za (Trod (fun b => b = gn) w13 wq) ∧ za (zaU wq gn (zb4 (fun y => Nq y || (x4.take j).any fun p => decide (p = y))))) (fun v63 _ => x4.length - (intOf v63).toNat)
       case atStart => exact ⟨0,rfl,Nat.zero_le _,⟨Trod.refl _ _⟩,HN0⟩
       case round =>
        obtain ⟨j,rfl,hj,HV,HN⟩ := hrel
        by_cases hlt2 : j < x4.length
        ·have HPQ := za.mk (zcT HV.out (zcT HU.out HPS.out (fun j hj h_ => by rcases hj with ⟨hj | hj,_⟩ <;> rcases h_ with h_ | h_ <;> omega)) (fun j hj h_ => by have := hj.2;omega))
         obtain ⟨ad2,e2_,hcell⟩ := Kd.at_string (Kd.F_now HPQ.out) (j : Int) (by omega) (by omega)
         subst e2_
         rw [Int.toNat_natCast] at hcell
         have hb2 : decide (j < x4.length) = true := decide_eq_true hlt2
         have hp : x4[j]? = some (zz ByteArray.empty x4 (j : Int)) := by rw [zz,Int.toNat_natCast,List.getD_eq_getElem?_getD,List.getElem?_eq_getElem hlt2];rfl
         have HP := za.mk hp
         clear hp
         generalize zz ByteArray.empty x4 (j : Int) = p at *
         gi_wp2_with ((with_reducible refine zfg (t := 72) rfl ?hQ ?hd ?_);(case hQ => rintro ⟨_,_,h_⟩;exact h_);(case hd => rfl))
         go_wp2_with (at_mapUpdate;refine zcn _ rfl _ _ _ 72 rfl HN.out Try.underlying72 Try.underlying9 p (.bool true) rfl rfl rfl ?_;intro w14 hm14 hg14;have HN2 := za.mk (zbq hm14 (zhw Nq x4 j p HP.out));have HV2 := za.mk (HV.out.grown hg14 (.inl rfl));clear hm14 hg14)
         gi_wp2
         go_roundw
         case rel => exact ⟨j + 1,by go_num,by omega,HV2,HN2⟩
         case measure => simp [intOf];omega
        ·obtain rfl : j = x4.length := by omega
         have hb2 : decide (x4.length < x4.length) = false := decide_eq_false hlt2
         have hok : zcA r g rk Wq ⟨x0,⟨x1,x2,x3,x4,⟨x5,x6⟩⟩⟩ = true := by show (Wq x0 && !(decide (rk = r) && decide (x0 ≠ g))) = true;rw [HQ.out];simp [HRD.out.2]
         have HOK := za.mk hok
         clear hok
         gi_wp2
         go_roundw
         case rel =>
          refine ⟨i + 1,by go_num,by omega,⟨HT.out.join HV.out (fun j h_ => .inr (by rw [h_];exact GN.out))⟩,?_,?_,?_⟩
          ·refine ⟨?_⟩;rw [HST.out,za1,if_pos HOK.out];exact zaK HV.out Mgi.out Ngi_gn.out
          ·refine ⟨?_⟩;rw [HST.out,za1,if_pos HOK.out];exact zaK HV.out Mbw.out Nbw_gn.out
          ·refine ⟨?_⟩;rw [HST.out,za1,if_pos HOK.out];exact zbq HN.out (fun y => by rw [List.take_length])
         case measure => simp [intOf];omega
      ·have e1 : (rk == r) = true := beq_iff_eq.2 hr
       have e2 : (x0.toList == g.toList) = false := by rw [zbG];exact decide_eq_false hd
       have e3 : (x0.toList != g.toList) = true := by rw [bne,e2];rfl
       have HRD : za (rk = r ∧ x0 ≠ g) := ⟨hr,hd⟩
       clear hr hd
       gi_wp2_with ((with_reducible refine zbn (N := 33) rfl ?hQ ?hd ?_);(case hQ => rintro ⟨_,_,h_⟩;exact h_);(case hd => rfl))
       go_wp2_with (at_lookup;refine zbx _ rfl _ _ 72 rfl Mbw.out Try.underlying72 Try.underlying9 (zS.zeroB _) x0 rfl rfl ?_;rw [zef,HQ.out])
       clear zgx_0 zgx_1 zgx_2 zgx_3 zgx_4 zgx_5 zgx_6 fgx_0 fgx_1 fgx_2 fgx_3 fgx_4 fgx_5 fgx_6 zg6_0 fg6_0 zg3_0 zg3_1 zg3_2 zg3_3 zg3_4 zg3_5 zg3_6 fg3_0 fg3_1 fg3_2 fg3_3 fg3_4 fg3_5 fg3_6 zg5_0 fg5_0
       have hok : ¬ zcA r g rk Wq ⟨x0,⟨x1,x2,x3,x4,⟨x5,x6⟩⟩⟩ = true := by simp [zcA,HQ.out,HRD.out.1,HRD.out.2]
       have HOK := za.mk hok
       clear hok
       gi_wp2
       go_roundw
       case rel =>
        refine ⟨i + 1,by go_num,by omega,HT,?_,?_,?_⟩
        ·refine ⟨?_⟩;rw [HST.out,za1,if_neg HOK.out];exact Mgi.out
        ·refine ⟨?_⟩;rw [HST.out,za1,if_neg HOK.out];exact Mbw.out
        ·refine ⟨?_⟩;rw [HST.out,za1,if_neg HOK.out];exact Mgn.out
       case measure => simp [intOf];omega
     ·have e1 : (rk == r) = false := beq_eq_false_iff_ne.2 hr
      have HRD : za (rk ≠ r) := ⟨hr⟩
      clear hr
      gi_wp2_with ((with_reducible refine zbn (N := 33) rfl ?hQ ?hd ?_);(case hQ => rintro ⟨_,_,h_⟩;exact h_);(case hd => rfl))
      go_wp2_with (at_lookup;refine zbx _ rfl _ _ 72 rfl Mbw.out Try.underlying72 Try.underlying9 (zS.zeroB _) x0 rfl rfl ?_;rw [zef,HQ.out])
      gi_wp2_with ((with_reducible refine zbn (N := 52) rfl ?hQ ?hd ?_);(case hQ => rintro ⟨_,_,h_⟩;exact h_);(case hd => rfl))
      go_wp2_with ((with_reducible refine zg1 rfl ?_);refine zeM _ rfl _ _ 72 9 rfl Mbw.out Try.underlying72 Try.underlying9 x0 rfl rfl ?_;intro w12 hm12 hg12;have hT := Trod.grown (Trod.refl (fun j => j = bw) _) hg12 (.inl rfl);clear zgx_0 zgx_1 zgx_2 zgx_3 zgx_4 zgx_5 zgx_6 fgx_0 fgx_1 fgx_2 fgx_3 fgx_4 fgx_5 fgx_6 zg6_0 fg6_0 zg3_0 zg3_1 zg3_2 zg3_3 zg3_4 zg3_5 zg3_6 fg3_0 fg3_1 fg3_2 fg3_3 fg3_4 fg3_5 fg3_6 zg5_0 fg5_0;replace Bg3 := za.mk (zac hT Bg3.out Ng3_bw.out);replace Bg5 := za.mk (zac hT Bg5.out Ng5_bw.out);replace Bg6 := za.mk (zac hT Bg6.out Ng6_bw.out);replace Bgx := za.mk (zac hT Bgx.out Ngx_bw.out);replace Mgi := za.mk (zaK hT Mgi.out Ngi_bw.out);replace Mgn := za.mk (zaK hT Mgn.out Ngn_bw.out);replace Mbw := za.mk (zbq hm12 (zhv Wq x0));replace HT := za.mk (HT.out.grown hg12 (.inl (.inr rfl)));replace HU := za.mk (HU.out.grown hg12 (.inl (.inr rfl)));clear hT hm12 hg12;have zgx_0 : w12.cell? ⟨gx,0,none⟩ = some (.string x0) := (zb Bgx.out 0).trans rfl;have zgx_1 : w12.cell? ⟨gx,1,none⟩ = some (.int .i64 x1) := (zb Bgx.out 1).trans rfl;have zgx_2 : w12.cell? ⟨gx,2,none⟩ = some (.int .i64 x2) := (zb Bgx.out 2).trans rfl;have zgx_3 : w12.cell? ⟨gx,3,none⟩ = some (.slice AX3 x3.length cx3) := (zb Bgx.out 3).trans rfl;have zgx_4 : w12.cell? ⟨gx,4,none⟩ = some (.slice AX4 x4.length cx4) := (zb Bgx.out 4).trans rfl;have zgx_5 : w12.cell? ⟨gx,5,none⟩ = some (.int .i64 x5) := (zb Bgx.out 5).trans rfl;have zgx_6 : w12.cell? ⟨gx,6,none⟩ = some (.int .i64 x6) := (zb Bgx.out 6).trans rfl;have fgx_0 := zc Bgx.out 0;have fgx_1 := zc Bgx.out 1;have fgx_2 := zc Bgx.out 2;have fgx_3 := zc Bgx.out 3;have fgx_4 := zc Bgx.out 4;have fgx_5 := zc Bgx.out 5;have fgx_6 := zc Bgx.out 6;obtain ⟨zg5_0,fg5_0⟩ := hcq1 Bg5.out)
      gi_wp2_with ((with_reducible refine zbn (N := 55) rfl ?hQ ?hd ?_);(case hQ => rintro ⟨_,_,h_⟩;exact h_);(case hd => rfl))
      go_wp2_with (at_mapUpdate;refine zcn _ rfl _ _ _ 55 rfl Mgi.out Try.underlying55 Try.underlying9 x0 (.int .i64 rk) rfl rfl rfl ?_;intro w13 hm13 hg13;have hT := Trod.grown (Trod.refl (fun j => j = gi) _) hg13 (.inl rfl);clear zgx_0 zgx_1 zgx_2 zgx_3 zgx_4 zgx_5 zgx_6 fgx_0 fgx_1 fgx_2 fgx_3 fgx_4 fgx_5 fgx_6 zg5_0 fg5_0;replace Bg3 := za.mk (zac hT Bg3.out Ng3_gi.out);replace Bg5 := za.mk (zac hT Bg5.out Ng5_gi.out);replace Bg6 := za.mk (zac hT Bg6.out Ng6_gi.out);replace Bgx := za.mk (zac hT Bgx.out Ngx_gi.out);replace Mbw := za.mk (zaK hT Mbw.out Nbw_gi.out);replace Mgn := za.mk (zaK hT Mgn.out Ngn_gi.out);replace Mgi := za.mk (zbq hm13 (in_put Iq x0 rk));replace HT := za.mk (HT.out.grown hg13 (.inl (.inl rfl)));replace HU := za.mk (HU.out.grown hg13 (.inl (.inl rfl)));clear hT hm13 hg13;have zgx_0 : w13.cell? ⟨gx,0,none⟩ = some (.string x0) := (zb Bgx.out 0).trans rfl;have zgx_1 : w13.cell? ⟨gx,1,none⟩ = some (.int .i64 x1) := (zb Bgx.out 1).trans rfl;have zgx_2 : w13.cell? ⟨gx,2,none⟩ = some (.int .i64 x2) := (zb Bgx.out 2).trans rfl;have zgx_3 : w13.cell? ⟨gx,3,none⟩ = some (.slice AX3 x3.length cx3) := (zb Bgx.out 3).trans rfl;have zgx_4 : w13.cell? ⟨gx,4,none⟩ = some (.slice AX4 x4.length cx4) := (zb Bgx.out 4).trans rfl;have zgx_5 : w13.cell? ⟨gx,5,none⟩ = some (.int .i64 x5) := (zb Bgx.out 5).trans rfl;have zgx_6 : w13.cell? ⟨gx,6,none⟩ = some (.int .i64 x6) := (zb Bgx.out 6).trans rfl;have fgx_0 := zc Bgx.out 0;have fgx_1 := zc Bgx.out 1;have fgx_2 := zc Bgx.out 2;have fgx_3 := zc Bgx.out 3;have fgx_4 := zc Bgx.out 4;have fgx_5 := zc Bgx.out 5;have fgx_6 := zc Bgx.out 6)
      gi_wp2
      clear zgx_0 zgx_1 zgx_2 zgx_3 zgx_4 zgx_5 zgx_6 fgx_0 fgx_1 fgx_2 fgx_3 fgx_4 fgx_5 fgx_6
      have hpm := (Kd.F_now HPS.out).2.1
      have HN0 : za (zaU w13 gn (zb4 (fun y => Nq y || (x4.take 0).any fun p => decide (p = y)))) := ⟨zbq Mgn.out (fun y => by simp)⟩
      gi_loopw [63] (fun v63 wq => ∃ j : Nat,v63 = .int .i64 j ∧ j ≤ x4.length ∧ za (Trod (fun b => b = gn) w13 wq) ∧ za (zaU wq gn (zb4 (fun y => Nq y || (x4.take j).any fun p => decide (p = y))))) (fun v63 _ => x4.length - (intOf v63).toNat)
      case atStart => exact ⟨0,rfl,Nat.zero_le _,⟨Trod.refl _ _⟩,HN0⟩
      case round =>
       obtain ⟨j,rfl,hj,HV,HN⟩ := hrel
       by_cases hlt2 : j < x4.length
       ·have HPQ := za.mk (zcT HV.out (zcT HU.out HPS.out (fun j hj h_ => by rcases hj with ⟨hj | hj,_⟩ <;> rcases h_ with h_ | h_ <;> omega)) (fun j hj h_ => by have := hj.2;omega))
        obtain ⟨ad2,e2_,hcell⟩ := Kd.at_string (Kd.F_now HPQ.out) (j : Int) (by omega) (by omega)
        subst e2_
        rw [Int.toNat_natCast] at hcell
        have hb2 : decide (j < x4.length) = true := decide_eq_true hlt2
        have hp : x4[j]? = some (zz ByteArray.empty x4 (j : Int)) := by rw [zz,Int.toNat_natCast,List.getD_eq_getElem?_getD,List.getElem?_eq_getElem hlt2];rfl
        have HP := za.mk hp
        clear hp
        generalize zz ByteArray.empty x4 (j : Int) = p at *
        gi_wp2_with ((with_reducible refine zfg (t := 72) rfl ?hQ ?hd ?_);(case hQ => rintro ⟨_,_,h_⟩;exact h_);(case hd => rfl))
        go_wp2_with (at_mapUpdate;refine zcn _ rfl _ _ _ 72 rfl HN.out Try.underlying72 Try.underlying9 p (.bool true) rfl rfl rfl ?_;intro w14 hm14 hg14;have HN2 := za.mk (zbq hm14 (zhw Nq x4 j p HP.out));have HV2 := za.mk (HV.out.grown hg14 (.inl rfl));clear hm14 hg14)
        gi_wp2
        go_roundw
        case rel => exact ⟨j + 1,by go_num,by omega,HV2,HN2⟩
        case measure => simp [intOf];omega
       ·obtain rfl : j = x4.length := by omega
        have hb2 : decide (x4.length < x4.length) = false := decide_eq_false hlt2
        have hok : zcA r g rk Wq ⟨x0,⟨x1,x2,x3,x4,⟨x5,x6⟩⟩⟩ = true := by simp [zcA,HQ.out,HRD.out]
        have HOK := za.mk hok
        clear hok
        gi_wp2
        go_roundw
        case rel =>
         refine ⟨i + 1,by go_num,by omega,⟨HT.out.join HV.out (fun j h_ => .inr (by rw [h_];exact GN.out))⟩,?_,?_,?_⟩
         ·refine ⟨?_⟩;rw [HST.out,za1,if_pos HOK.out];exact zaK HV.out Mgi.out Ngi_gn.out
         ·refine ⟨?_⟩;rw [HST.out,za1,if_pos HOK.out];exact zaK HV.out Mbw.out Nbw_gn.out
         ·refine ⟨?_⟩;rw [HST.out,za1,if_pos HOK.out];exact zbq HN.out (fun y => by rw [List.take_length])
        case measure => simp [intOf];omega
   ·obtain rfl : i = l.length := by omega
    have hb : decide (l.length < l.length) = false := decide_eq_false hlt
    obtain ⟨zg6_0,fg6_0⟩ := hcq1 Bg6.out
    gi_wp2
    have T3 : Trod (fun j => j = gi ∨ j = bw ∨ j = g6) W (wr.setCell ⟨g6,0,none⟩ (.map (some gn))) := (HT.out.wide (fun j h_ => h_.imp id .inl)).setS (.inl (.inr (.inr rfl))) _ _
    refine ⟨T3.size,T3.block _ (by omega) (by omega),T3.block _ (by omega) (by omega),gn,?_⟩
    show ziX w _ _ _ _ 0 A0 c0 L _ gi g3 g5 g6 gd gf (zaV L r g (k + 1)) gn _
    rw [HNX.out]
    have HMi2 := adm (W := wr.setCell ⟨g6,0,none⟩ (.map (some gn))) rfl Ngi_g6.out HMi.out
    have HMn2 := adm (W := wr.setCell ⟨g6,0,none⟩ (.map (some gn))) rfl (Ne.symm Ng6_gn.out) HMn.out
    rw [List.take_length] at HMi2 HMn2
    exact ⟨HMi2,HMn2,zac T3 H1.out.b3 (by have := Ng3_gi.out;have := Ng3_bw.out;have := Ng3_g6.out;omega),zac T3 H1.out.b5 (by have := Ng5_gi.out;have := Ng5_bw.out;have := Ng5_g6.out;omega),adp rfl Bg6.out,zac T3 H1.out.bd (by have := Ngi_gd.out;have := Nbw_gd.out;have := Ng6_gd.out;omega),zac T3 H1.out.bf (by have := Ngi_gf.out;have := Nbw_gf.out;have := Ng6_gf.out;omega),
     Kd.V_map H1.out.hv (fun _ hf => zcT T3 hf (fun j hj h_ => by have := Gw_g6.out;omega)),H1.out.hb.trans (T3.to_below H1.out.hb.size (fun j h_ => by have := Gw_g6.out;omega)),⟨by omega,by omega⟩,Ngn_gi.out,by omega⟩
 case done =>
  rintro W hs ⟨bw,hi⟩ hd
  have HI := za.mk hi
  have HD := za.mk hd
  have z5 := (zb hi.b5 0).trans rfl
  clear hi hd
  go_wp2_with fail
  refine ⟨by simp,.inl ⟨_,_,rfl,run_takeDeferred HD.out,?_⟩⟩
  exact ⟨_,results_tmp rfl _ _ _,gi,rfl,zaK (zee _ _ _) HI.out.mi (by omega),HI.out.hb.trans ((zee _ _ _).to_below HI.out.hb.size (fun j h_ => by omega))⟩
end Go.Proofs.Ytndjfdakflaggaa.Px