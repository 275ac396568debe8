/- Part 17 of 30 of the proof of the law DagPasts: what is proved is the statement at the end of the last part; its conditions are those of the given row. -/
import Derived.Test.YtndjfdakflaggaaZDagPastsP
namespace Go.Proofs.Ytndjfdakflaggaa.Px
open Go.RowKit Go.Proofs.YtndjfdakflaggaaW.PrintWords Go.Proofs.YtndjfdakflaggaaW.PrintLast Go.Proofs.YtndjfdakflaggaaW.PrintMore
attribute [local go_sem] zt zv zA zB zq zr zu zw
set_option linter.unusedVariables false
set_option linter.unusedSimpArgs false
def zg7 (L : List Ent) (r : Int) : Nat → Nat → Nat
 | 0,k => k
 | d + 1,k => if (zbs L r k).isEmpty = true then k else zg7 L r d (k + 1)
theorem zib (L : List Ent) (r : Int) : ∀ d k,(∀ j,j < k → zbs L r j ≠ []) → (∀ j,j < zg7 L r d k → zbs L r j ≠ []) ∧ (zg7 L r d k = k + d ∨ zbs L r (zg7 L r d k) = [])
 | 0,k,h => ⟨h,.inl rfl⟩
 | d + 1,k,h => by
  unfold zg7
  split
  ·next he => exact ⟨h,.inr (List.isEmpty_iff.1 he)⟩
  ·next he =>
   have hk : zbs L r k ≠ [] := fun e => he (List.isEmpty_iff.2 e)
   obtain ⟨h1,h2⟩ := zib L r d (k + 1) (fun j hj => (Nat.lt_succ_iff_lt_or_eq.1 hj).elim (h j) (fun e => by rw [e];exact hk))
   exact ⟨h1,h2.imp (fun e => by omega) id⟩
theorem zgJ (r : Int) : ∀ k : Nat,zbA r (k + 1) = wrap64 (r - ((k : Int) + 1))
 | 0 => by show wrap64 (r - 1) = _;rfl
 | k + 1 => by
  show wrap64 (zbA r (k + 1) - 1) = _
  rw [zgJ r k]
  unfold wrap64
  omega
theorem zif (r : Int) {i j : Nat} (h : i < j) (hj : j < 18446744073709551616) : zbA r i ≠ zbA r j := by
 rcases j with _ | j
 ·omega
 rw [zgJ]
 rcases i with _ | i
 ·show r ≠ _
  unfold wrap64
  omega
 ·rw [zgJ]
  unfold wrap64
  omega
theorem zfk : ∀ (R S : List Int),R.Nodup → (∀ x ∈ R,x ∈ S) → R.length ≤ S.length
 | [],_,_,_ => Nat.zero_le _
 | x :: R,S,hn,hs => by
  rw [List.nodup_cons] at hn
  have hx := hs x List.mem_cons_self
  have := zfk R (S.erase x) hn.2 (fun y hy => (List.mem_erase_of_ne (fun e => hn.1 (by rw [← e];exact hy))).2 (hs y (List.mem_cons_of_mem _ hy)))
  rw [List.length_erase_of_mem hx] at this
  have h0 := List.length_pos_of_mem hx
  rw [List.length_cons]
  omega
theorem zg6 (L : List Ent) (r : Int) (m : Nat) (hm : m < 18446744073709551616) (h : ∀ j,j < m → zbs L r j ≠ []) : m ≤ L.length := by
 have := zfk ((List.range m).map (zbA r)) (L.map fun x => x.f1.f1) ?_ ?_
 ·simpa using this
 ·rw [List.Nodup,List.pairwise_map]
  refine List.Pairwise.imp_of_mem ?_ (List.pairwise_lt_range (n := m))
  intro a b ha hb hab
  exact zif r hab (by have := List.mem_range.1 hb;omega)
 ·intro x hx
  obtain ⟨j,hj,rfl⟩ := List.mem_map.1 hx
  obtain ⟨y,hy⟩ := List.exists_mem_of_ne_nil _ (h j (List.mem_range.1 hj))
  unfold zbs zbz at hy
  rw [List.mem_filter] at hy
  exact List.mem_map.2 ⟨y,hy.1,of_decide_eq_true hy.2⟩
def zcI (L : List Ent) (r : Int) : Nat := zg7 L r (L.length + 1) 0
theorem zdF (L : List Ent) (r : Int) (hL : L.length < 1466015503701) : (∀ j,j < zcI L r → zbs L r j ≠ []) ∧ zbs L r (zcI L r) = [] := by
 obtain ⟨h1,h2⟩ := zib L r (L.length + 1) 0 (fun j hj => absurd hj (Nat.not_lt_zero _))
 refine ⟨h1,h2.resolve_left (fun e => ?_)⟩
 have := zg6 L r (L.length + 1) (by omega) (fun j hj => h1 j (by rw [e];omega))
 omega
def inP (L : List Ent) (t : Ent) : ByteArray → Option Int := (zaV L t.f1.f1 t.f0 (zcI L t.f1.f1)).1
def zd7 (I : ByteArray → Option Int) (lo : Int) (x : Ent) : Bool := match I x.f0 with
 | some q => decide (q = x.f1.f1) && decide (lo < q)
 | none => false
def zc2 (L : List Ent) (g : ByteArray) (lo : Int) : List Ent := match zb7 L g with
 | some t => L.filter (zd7 (inP L t) lo)
 | none => []
def zd8 (L : List Ent) (g g2 : ByteArray) : Bool := match zb7 L g with
 | some t => (inP L t g2).isSome
 | none => false
theorem ent_F2 {W : World} {ok : Nat → Prop} {A : Option Addr} {L : List Ent} (h : Kd.F k34 W ok A L.length L) (i : Nat) (hi : i < L.length) (x : Ent) (hx : L[i]? = some x) :
  ∃ ad A3 c3 A4 c4,A = some ad ∧ W.cell? (ad.add (i * 7)) = some (.string x.f0) ∧ W.cell? ⟨(ad.add (i * 7)).block,(ad.add (i * 7)).off + 1,none⟩ = some (.int .i64 x.f1.f0) ∧ W.cell? ⟨(ad.add (i * 7)).block,(ad.add (i * 7)).off + 2,none⟩ = some (.int .i64 x.f1.f1) ∧ W.cell? ⟨(ad.add (i * 7)).block,(ad.add (i * 7)).off + 3,none⟩ = some (.slice A3 x.f1.f2.length c3) ∧
   W.cell? ⟨(ad.add (i * 7)).block,(ad.add (i * 7)).off + 4,none⟩ = some (.slice A4 x.f1.f3.length c4) ∧ W.cell? ⟨(ad.add (i * 7)).block,(ad.add (i * 7)).off + 5,none⟩ = some (.int .i64 x.f1.f4.f0) ∧ W.cell? ⟨(ad.add (i * 7)).block,(ad.add (i * 7)).off + 6,none⟩ = some (.int .i64 x.f1.f4.f1) ∧ x.f1.f2.length ≤ c3 ∧ Kd.F k78 W ok A3 x.f1.f2.length x.f1.f2 ∧ x.f1.f3.length ≤ c4 ∧ Kd.F Kd.string W ok A4 x.f1.f3.length x.f1.f3 := by
 obtain ⟨ad,cs,rfl,_,hF,hc0,_⟩ := Kd.F_get h z34 (i : Int) (by omega) (by omega)
 rw [List.getD_eq_getElem?_getD,Int.toNat_natCast,hx] at hF
 have hc : ∀ j u,cs[j]? = some u → W.cell? (ad.add (i * 7 + j)) = some u := fun j u hj => by have := hc0 j u hj;rwa [Int.toNat_natCast] at this
 obtain ⟨A3,c3,A4,c4,rfl,l3,g3,l4,g4⟩ := zbo hF
 exact ⟨ad,A3,c3,A4,c4,rfl,hc 0 _ rfl,by rw [← zO _ _ 1 (by omega)];exact hc 1 _ rfl,by rw [← zO _ _ 2 (by omega)];exact hc 2 _ rfl,by rw [← zO _ _ 3 (by omega)];exact hc 3 _ rfl,by rw [← zO _ _ 4 (by omega)];exact hc 4 _ rfl,by rw [← zO _ _ 5 (by omega)];exact hc 5 _ rfl,by rw [← zO _ _ 6 (by omega)];exact hc 6 _ rfl,l3,g3,l4,g4⟩
theorem zaA.zeroI : ∀ w : World,(zeroValue 3).run Try.prog w = .ok (.int .i64 0) w := fun _ => by kernel_rfl
set_option maxHeartbeats 8000000 in
set_option maxRecDepth 100000 in
theorem zaA.no (n low : Int) (P0 : Nat → Prop) (A0 : Option Addr) (c0 : Nat) (L : List Ent) (g : ByteArray) (h : ByteArray) (t0 : ByteArray) (t1 t2 : Int) (t3 : List S78) (t4 : List ByteArray) (t5 t6 : Int) (b : Bool) (w : World) (hs : Kd.V k34 34 w w.heap.size (fun k_ => P0 k_) (.slice A0 L.length c0) L) (hf : z9.f n low L g = some (t0,t1,t2,t3,t4,t5,t6,b)) (hl : L.length < 1466015503701) (hb : b = false) :
  Calls Try.prog 13 #[.agg #[.int .i64 n,.int .i64 low,.slice A0 L.length c0],.string g,.string h] w fun e w' => e = .returned (.bool false) ∧ Below w.heap.size w w' := by
 have HV := za.mk hs
 have HF := za.mk hf
 have HL := za.mk hl
 have Hw := za.mk (Below.refl w.heap.size w)
 clear hs hf hl
 subst hb
 go_enter Try.func13,Try.ntmps13
 go_wp2_with (first
  | ((with_reducible refine zp (N := 3) rfl ?_);refine zn rfl (N := 3) rfl (cs := #[.int .i64 n,.int .i64 low,.slice A0 L.length c0]) (t := 24) hrq ?_;intro g3 hg w3 hbox hb;have Gw_g3 := za.mk (adg Hw.out hg);replace Hw := za.mk (adl Hw.out hb);have Bg3 := za.mk hbox;clear hbox hb hg;obtain ⟨zg3_0,zg3_1,zg3_2,fg3_0,fg3_1,fg3_2⟩ := hcq3 Bg3.out)
  | (go_at_call 8;refine (z9.calls n low P0 A0 c0 L g t0 t1 t2 t3 t4 t5 t6 _ _ (Kd.V_map (Kd.V_below HV.out Hw.out) (fun _ hf_ => hf_)) HF.out).mono ?_;rintro e w4 ⟨v3,v4,rfl,hV3,hV4,hb⟩;clear zg3_0 zg3_1 zg3_2 fg3_0 fg3_1 fg3_2;replace Bg3 := za.mk (adb Bg3.out hb);replace Hw := za.mk (adl Hw.out hb);obtain ⟨A3,c3,rfl⟩ := Kd.V_slice hV3;obtain ⟨A4,c4,rfl⟩ := Kd.V_slice hV4;clear hV3 hV4;clear hb;obtain ⟨zg3_0,zg3_1,zg3_2,fg3_0,fg3_1,fg3_2⟩ := hcq3 Bg3.out)
  | ((with_reducible refine zp (N := 7) rfl ?_);refine zn rfl (N := 7) rfl (cs := #[.string (⟨#[]⟩ : ByteArray),.int .i64 0,.int .i64 0,.slice none 0 0,.slice none 0 0,.int .i64 0,.int .i64 0]) (t := 34) hrq ?_;intro g7 hg w5 hbox hb;have Gw_g7 := za.mk (adg Hw.out hg);have Ng3_g7 := za.mk (adn hg Bg3.out);clear zg3_0 zg3_1 zg3_2 fg3_0 fg3_1 fg3_2;replace Bg3 := za.mk (adb Bg3.out hb);replace Hw := za.mk (adl Hw.out hb);have Bg7 := za.mk hbox;clear hbox hb hg;obtain ⟨zg7_0,zg7_1,zg7_2,zg7_3,zg7_4,zg7_5,zg7_6,fg7_0,fg7_1,fg7_2,fg7_3,fg7_4,fg7_5,fg7_6⟩ := hcq7 Bg7.out)
  | ((with_reducible refine z6 (t := 34) (p := 7) rfl ?_);refine zT (t := 34) (p := 7) (v := _) (w1 := (World.setCell (World.setCell (World.setCell (World.setCell (World.setCell (World.setCell (World.setCell w5 ⟨g7,0,none⟩ (.string t0)) ⟨g7,1,none⟩ (.int .i64 t1)) ⟨g7,2,none⟩ (.int .i64 t2)) ⟨g7,3,none⟩ (.slice A3 t3.length c3)) ⟨g7,4,none⟩ (.slice A4 t4.length c4)) ⟨g7,5,none⟩ (.int .i64 t5)) ⟨g7,6,none⟩ (.int .i64 t6))) rfl rfl rfl hrq ?_;intro w6 hw;clear zg7_0 zg7_1 zg7_2 zg7_3 zg7_4 zg7_5 zg7_6 fg7_0 fg7_1 fg7_2 fg7_3 fg7_4 fg7_5 fg7_6;replace Bg3 := za.mk (adf hw Ng3_g7.out Bg3.out);replace Bg7 : za (w6.heap[g7]? = some (.cells #[.string t0,.int .i64 t1,.int .i64 t2,.slice A3 t3.length c3,.slice A4 t4.length c4,.int .i64 t5,.int .i64 t6] 34 (0,0))) := ⟨adp hw Bg7.out⟩;replace Hw := za.mk (ads hw Gw_g7.out Hw.out);clear hw;obtain ⟨zg3_0,zg3_1,zg3_2,fg3_0,fg3_1,fg3_2⟩ := hcq3 Bg3.out;obtain ⟨zg7_0,zg7_1,zg7_2,zg7_3,zg7_4,zg7_5,zg7_6,fg7_0,fg7_1,fg7_2,fg7_3,fg7_4,fg7_5,fg7_6⟩ := hcq7 Bg7.out))
 go_ret
 exact ⟨rfl,Hw.out⟩
set_option maxHeartbeats 8000000 in
set_option maxRecDepth 100000 in
theorem zaA.yes (n low : Int) (P0 : Nat → Prop) (A0 : Option Addr) (c0 : Nat) (L : List Ent) (g : ByteArray) (h : ByteArray) (t0 : ByteArray) (t1 t2 : Int) (t3 : List S78) (t4 : List ByteArray) (t5 t6 : Int) (b : Bool) (w : World) (hs : Kd.V k34 34 w w.heap.size (fun k_ => P0 k_) (.slice A0 L.length c0) L) (hf : z9.f n low L g = some (t0,t1,t2,t3,t4,t5,t6,b)) (hl : L.length < 1466015503701) (hb : b = true) :
  Calls Try.prog 13 #[.agg #[.int .i64 n,.int .i64 low,.slice A0 L.length c0],.string g,.string h] w fun e w' => e = .returned (.bool ((zaV L t2 t0 (zcI L t2)).1 h).isSome) ∧ Below w.heap.size w w' := by
 have HV := za.mk hs
 have HF := za.mk hf
 have HL := za.mk hl
 have Hw := za.mk (Below.refl w.heap.size w)
 clear hs hf hl
 subst hb
 go_enter Try.func13,Try.ntmps13
 go_wp2_with (first
  | ((with_reducible refine zp (N := 3) rfl ?_);refine zn rfl (N := 3) rfl (cs := #[.int .i64 n,.int .i64 low,.slice A0 L.length c0]) (t := 24) hrq ?_;intro g3 hg w3 hbox hb;have Gw_g3 := za.mk (adg Hw.out hg);replace Hw := za.mk (adl Hw.out hb);have Bg3 := za.mk hbox;clear hbox hb hg;obtain ⟨zg3_0,zg3_1,zg3_2,fg3_0,fg3_1,fg3_2⟩ := hcq3 Bg3.out)
  | (go_at_call 8;refine (z9.calls n low P0 A0 c0 L g t0 t1 t2 t3 t4 t5 t6 _ _ (Kd.V_map (Kd.V_below HV.out Hw.out) (fun _ hf_ => hf_)) HF.out).mono ?_;rintro e w4 ⟨v3,v4,rfl,hV3,hV4,hb⟩;clear zg3_0 zg3_1 zg3_2 fg3_0 fg3_1 fg3_2;replace Bg3 := za.mk (adb Bg3.out hb);replace Hw := za.mk (adl Hw.out hb);obtain ⟨A3,c3,rfl⟩ := Kd.V_slice hV3;obtain ⟨A4,c4,rfl⟩ := Kd.V_slice hV4;clear hV3 hV4;clear hb;obtain ⟨zg3_0,zg3_1,zg3_2,fg3_0,fg3_1,fg3_2⟩ := hcq3 Bg3.out)
  | ((with_reducible refine zp (N := 7) rfl ?_);refine zn rfl (N := 7) rfl (cs := #[.string (⟨#[]⟩ : ByteArray),.int .i64 0,.int .i64 0,.slice none 0 0,.slice none 0 0,.int .i64 0,.int .i64 0]) (t := 34) hrq ?_;intro g7 hg w5 hbox hb;have Gw_g7 := za.mk (adg Hw.out hg);have Ng3_g7 := za.mk (adn hg Bg3.out);clear zg3_0 zg3_1 zg3_2 fg3_0 fg3_1 fg3_2;replace Bg3 := za.mk (adb Bg3.out hb);replace Hw := za.mk (adl Hw.out hb);have Bg7 := za.mk hbox;clear hbox hb hg;obtain ⟨zg7_0,zg7_1,zg7_2,zg7_3,zg7_4,zg7_5,zg7_6,fg7_0,fg7_1,fg7_2,fg7_3,fg7_4,fg7_5,fg7_6⟩ := hcq7 Bg7.out)
  | ((with_reducible refine z6 (t := 34) (p := 7) rfl ?_);refine zT (t := 34) (p := 7) (v := _) (w1 := (World.setCell (World.setCell (World.setCell (World.setCell (World.setCell (World.setCell (World.setCell w5 ⟨g7,0,none⟩ (.string t0)) ⟨g7,1,none⟩ (.int .i64 t1)) ⟨g7,2,none⟩ (.int .i64 t2)) ⟨g7,3,none⟩ (.slice A3 t3.length c3)) ⟨g7,4,none⟩ (.slice A4 t4.length c4)) ⟨g7,5,none⟩ (.int .i64 t5)) ⟨g7,6,none⟩ (.int .i64 t6))) rfl rfl rfl hrq ?_;intro w6 hw;clear zg7_0 zg7_1 zg7_2 zg7_3 zg7_4 zg7_5 zg7_6 fg7_0 fg7_1 fg7_2 fg7_3 fg7_4 fg7_5 fg7_6;replace Bg3 := za.mk (adf hw Ng3_g7.out Bg3.out);replace Bg7 : za (w6.heap[g7]? = some (.cells #[.string t0,.int .i64 t1,.int .i64 t2,.slice A3 t3.length c3,.slice A4 t4.length c4,.int .i64 t5,.int .i64 t6] 34 (0,0))) := ⟨adp hw Bg7.out⟩;replace Hw := za.mk (ads hw Gw_g7.out Hw.out);clear hw;obtain ⟨zg3_0,zg3_1,zg3_2,fg3_0,fg3_1,fg3_2⟩ := hcq3 Bg3.out;obtain ⟨zg7_0,zg7_1,zg7_2,zg7_3,zg7_4,zg7_5,zg7_6,fg7_0,fg7_1,fg7_2,fg7_3,fg7_4,fg7_5,fg7_6⟩ := hcq7 Bg7.out)
  | (go_at_call 26;refine (zd1 n low A0 c0 L t0 t1 t2 A3 t3.length c3 A4 t4.length c4 t5 t6 (zcI L t2) _ (Kd.V_map (Kd.V_below HV.out Hw.out) (fun _ hf_ => Kd.F_mono (Kd.F_bound hf_) (fun _ hk => hk.2))) HL.out (zdF L t2 HL.out).1 (zdF L t2 HL.out).2).mono ?_;rintro e w7 ⟨gm,rfl,hm,hb⟩;clear zg3_0 zg3_1 zg3_2 fg3_0 fg3_1 fg3_2 zg7_0 zg7_1 zg7_2 zg7_3 zg7_4 zg7_5 zg7_6 fg7_0 fg7_1 fg7_2 fg7_3 fg7_4 fg7_5 fg7_6;replace Bg3 := za.mk (adb Bg3.out hb);replace Bg7 := za.mk (adb Bg7.out hb);replace Hw := za.mk (adl Hw.out hb);have Mgm := za.mk hm;clear hm;clear hb)
  | (at_lookup;refine zbD _ rfl _ _ 55 rfl Mgm.out Try.underlying55 Try.underlying9 (zaA.zeroI _) h rfl rfl ?_;rw [show (inV (zaV L t2 t0 (zcI L t2)).1 h).isSome = ((zaV L t2 t0 (zcI L t2)).1 h).isSome from Option.isSome_map];generalize (inV (zaV L t2 t0 (zcI L t2)).1 h).getD _ = vl))
 go_ret
 exact ⟨rfl,Hw.out⟩
def zaA.f (a0_0 : Int) (a0_1 : Int) (l0_2 : List (S34)) (a1 : ByteArray) (a2 : ByteArray) : Option Bool := if l0_2.length < 1466015503701 then some (zd8 l0_2 a1 a2) else none
theorem zaA.calls (a0_0 : Int) (a0_1 : Int) (P0_2_ : Nat → Prop) (A0_2 : Option Addr) (c0_2 : Nat) (l0_2 : List (S34)) (a1 : ByteArray) (a2 : ByteArray) (r : Bool) (w : World) (hs0_2 : Kd.V k34 34 w w.heap.size (fun k_ => P0_2_ k_) (.slice A0_2 l0_2.length c0_2) l0_2) (h : zaA.f a0_0 a0_1 l0_2 a1 a2 = some r) :
  Calls Try.prog 13 #[.agg #[.int .i64 a0_0,.int .i64 a0_1,.slice A0_2 l0_2.length c0_2],.string a1,.string a2] w fun e w' => e = .returned (.bool r) ∧ Below w.heap.size w w' := by
 unfold zaA.f at h
 split at h
 ·rename_i hl
  obtain rfl := Option.some.inj h
  rcases hf : zb7 l0_2 a1 with _ | t
  ·have e : zd8 l0_2 a1 a2 = false := by unfold zd8;rw [hf]
   rw [e]
   exact zaA.no a0_0 a0_1 P0_2_ A0_2 c0_2 l0_2 a1 a2 _ _ _ _ _ _ _ false w hs0_2 (by unfold z9.f;rw [hf];rfl) hl rfl
  ·have e : zd8 l0_2 a1 a2 = ((zaV l0_2 t.f1.f1 t.f0 (zcI l0_2 t.f1.f1)).1 a2).isSome := by unfold zd8;rw [hf];rfl
   rw [e]
   exact zaA.yes a0_0 a0_1 P0_2_ A0_2 c0_2 l0_2 a1 a2 t.f0 t.f1.f0 t.f1.f1 t.f1.f2 t.f1.f3 t.f1.f4.f0 t.f1.f4.f1 true w hs0_2 (by unfold z9.f;rw [hf];rfl) hl rfl
 ·cases h
end Go.Proofs.Ytndjfdakflaggaa.Px