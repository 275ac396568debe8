/- Part 10 of 15 of the proof of the law DagPastOne: what is proved is the statement at the end of the last part; its conditions are those of the given row. -/
import Derived.Laws.CopyOwn
import Derived.Laws.CopyRow
import Derived.Laws.Externs
import GoSem.Extern.SlicesOverlaps
import Derived.WalkSpells
import Derived.Test.YtndjfdakflaggaaZDagPastOneI
namespace Go.Proofs.Ytndjfdakflaggaa.Px
open Go.RowKit Go.Proofs.YtndjfdakflaggaaW.PrintWords Go.Proofs.YtndjfdakflaggaaW.PrintLast Go.Proofs.YtndjfdakflaggaaW.PrintMore
attribute [local go_sem] zC zE zI zJ zu zv zD zF
set_option linter.unusedVariables false
set_option linter.unusedSimpArgs false
set_option maxHeartbeats 8000000 in
set_option maxRecDepth 100000 in
theorem zaI.no (n low : Int) (P0 : Nat → Prop) (A0 : Option Addr) (c0 : Nat) (L : List Ent) (g : ByteArray) (lo : Int) (t0 : ByteArray) (t1 t2 : Int) (t3 : List S78) (t4 : List ByteArray) (t5 t6 : Int) (b : Bool) (w : World) (hs : Kd.V k34 34 w w.heap.size (fun k_ => P0 k_) (.slice A0 L.length c0) L) (hf : z6.f n low L g = some (t0,t1,t2,t3,t4,t5,t6,b)) (hl : L.length < 1466015503701) (hb : b = false) :
  Calls Try.prog 11 #[.agg #[.int .i64 n,.int .i64 low,.slice A0 L.length c0],.string g,.int .i64 lo] w fun e w' => e = .returned (.slice none 0 0) ∧ Below w.heap.size w w' := by
 have HV := za.mk hs
 have HF := za.mk hf
 have HL := za.mk hl
 have Hw := za.mk (Below.refl w.heap.size w)
 clear hs hf hl
 subst hb
 go_enter Try.func11,Try.ntmps11
 go_wp2_with (first
  | ((with_reducible refine zq (N := 3) rfl ?_);refine zn rfl (N := 3) rfl (cs := #[.int .i64 n,.int .i64 low,.slice A0 L.length c0]) (t := 24) hrq ?_;intro g3 hg w3 hbox hb;have Gw_g3 := za.mk (adg Hw.out hg);replace Hw := za.mk (adl Hw.out hb);have Bg3 := za.mk hbox;clear hbox hb hg;obtain ⟨zg3_0,zg3_1,zg3_2,fg3_0,fg3_1,fg3_2⟩ := hcq3 Bg3.out)
  | (go_at_call 8;refine (z6.calls n low P0 A0 c0 L g t0 t1 t2 t3 t4 t5 t6 _ _ (Kd.V_map (Kd.V_below HV.out Hw.out) (fun _ hf_ => hf_)) HF.out).mono ?_;rintro e w4 ⟨v3,v4,rfl,hV3,hV4,hb⟩;clear zg3_0 zg3_1 zg3_2 fg3_0 fg3_1 fg3_2;replace Bg3 := za.mk (adb Bg3.out hb);replace Hw := za.mk (adl Hw.out hb);obtain ⟨A3,c3,rfl⟩ := Kd.V_slice hV3;obtain ⟨A4,c4,rfl⟩ := Kd.V_slice hV4;clear hV3 hV4;clear hb;obtain ⟨zg3_0,zg3_1,zg3_2,fg3_0,fg3_1,fg3_2⟩ := hcq3 Bg3.out)
  | ((with_reducible refine zq (N := 7) rfl ?_);refine zn rfl (N := 7) rfl (cs := #[.string (⟨#[]⟩ : ByteArray),.int .i64 0,.int .i64 0,.slice none 0 0,.slice none 0 0,.int .i64 0,.int .i64 0]) (t := 34) hrq ?_;intro g7 hg w5 hbox hb;have Gw_g7 := za.mk (adg Hw.out hg);have Ng3_g7 := za.mk (adn hg Bg3.out);clear zg3_0 zg3_1 zg3_2 fg3_0 fg3_1 fg3_2;replace Bg3 := za.mk (adb Bg3.out hb);replace Hw := za.mk (adl Hw.out hb);have Bg7 := za.mk hbox;clear hbox hb hg;obtain ⟨zg7_0,zg7_1,zg7_2,zg7_3,zg7_4,zg7_5,zg7_6,fg7_0,fg7_1,fg7_2,fg7_3,fg7_4,fg7_5,fg7_6⟩ := hcq7 Bg7.out)
  | ((with_reducible refine zaD (t := 34) (p := 7) rfl ?_);refine zaw (t := 34) (p := 7) (v := _) (w1 := (World.setCell (World.setCell (World.setCell (World.setCell (World.setCell (World.setCell (World.setCell w5 ⟨g7,0,none⟩ (.string t0)) ⟨g7,1,none⟩ (.int .i64 t1)) ⟨g7,2,none⟩ (.int .i64 t2)) ⟨g7,3,none⟩ (.slice A3 t3.length c3)) ⟨g7,4,none⟩ (.slice A4 t4.length c4)) ⟨g7,5,none⟩ (.int .i64 t5)) ⟨g7,6,none⟩ (.int .i64 t6))) rfl rfl rfl hrq ?_;intro w6 hw;clear zg7_0 zg7_1 zg7_2 zg7_3 zg7_4 zg7_5 zg7_6 fg7_0 fg7_1 fg7_2 fg7_3 fg7_4 fg7_5 fg7_6;replace Bg3 := za.mk (adf hw Ng3_g7.out Bg3.out);replace Bg7 : za (w6.heap[g7]? = some (.cells #[.string t0,.int .i64 t1,.int .i64 t2,.slice A3 t3.length c3,.slice A4 t4.length c4,.int .i64 t5,.int .i64 t6] 34 (0,0))) := ⟨adp hw Bg7.out⟩;replace Hw := za.mk (ads hw Gw_g7.out Hw.out);clear hw;obtain ⟨zg3_0,zg3_1,zg3_2,fg3_0,fg3_1,fg3_2⟩ := hcq3 Bg3.out;obtain ⟨zg7_0,zg7_1,zg7_2,zg7_3,zg7_4,zg7_5,zg7_6,fg7_0,fg7_1,fg7_2,fg7_3,fg7_4,fg7_5,fg7_6⟩ := hcq7 Bg7.out))
 go_ret
 exact ⟨rfl,Hw.out⟩
set_option maxHeartbeats 8000000 in
set_option maxRecDepth 100000 in
theorem zaI.yes (n low : Int) (P0 : Nat → Prop) (A0 : Option Addr) (c0 : Nat) (L : List Ent) (g : ByteArray) (lo : Int) (t0 : ByteArray) (t1 t2 : Int) (t3 : List S78) (t4 : List ByteArray) (t5 t6 : Int) (b : Bool) (w : World) (hs : Kd.V k34 34 w w.heap.size (fun k_ => P0 k_) (.slice A0 L.length c0) L) (hf : z6.f n low L g = some (t0,t1,t2,t3,t4,t5,t6,b)) (hl : L.length < 1466015503701) (hb : b = true) :
  Calls Try.prog 11 #[.agg #[.int .i64 n,.int .i64 low,.slice A0 L.length c0],.string g,.int .i64 lo] w fun e w' => ∃ v0_ : Value,e = .returned v0_ ∧ Kd.V k34 34 w' w.heap.size (fun k_ => (P0 k_ ∨ w.heap.size ≤ k_)) v0_ (L.filter (zeQ (zbv L t2 t0 (zdu L t2)).1 lo)) ∧ Below w.heap.size w w' := by
 have hlm := (Kd.V_reads' hs).2.2.2.1
 have HV := za.mk hs
 have HF := za.mk hf
 have HL := za.mk hl
 have Hw := za.mk (Below.refl w.heap.size w)
 clear hs hf hl
 subst hb
 go_enter Try.func11,Try.ntmps11
 go_wp2_with (first
  | ((with_reducible refine zq (N := 3) rfl ?_);refine zn rfl (N := 3) rfl (cs := #[.int .i64 n,.int .i64 low,.slice A0 L.length c0]) (t := 24) hrq ?_;intro g3 hg w3 hbox hb;have Gw_g3 := za.mk (adg Hw.out hg);replace Hw := za.mk (adl Hw.out hb);have Bg3 := za.mk hbox;clear hbox hb hg;obtain ⟨zg3_0,zg3_1,zg3_2,fg3_0,fg3_1,fg3_2⟩ := hcq3 Bg3.out)
  | (go_at_call 8;refine (z6.calls n low P0 A0 c0 L g t0 t1 t2 t3 t4 t5 t6 _ _ (Kd.V_map (Kd.V_below HV.out Hw.out) (fun _ hf_ => hf_)) HF.out).mono ?_;rintro e w4 ⟨v3,v4,rfl,hV3,hV4,hb⟩;clear zg3_0 zg3_1 zg3_2 fg3_0 fg3_1 fg3_2;replace Bg3 := za.mk (adb Bg3.out hb);replace Hw := za.mk (adl Hw.out hb);obtain ⟨A3,c3,rfl⟩ := Kd.V_slice hV3;obtain ⟨A4,c4,rfl⟩ := Kd.V_slice hV4;clear hV3 hV4;clear hb;obtain ⟨zg3_0,zg3_1,zg3_2,fg3_0,fg3_1,fg3_2⟩ := hcq3 Bg3.out)
  | ((with_reducible refine zq (N := 7) rfl ?_);refine zn rfl (N := 7) rfl (cs := #[.string (⟨#[]⟩ : ByteArray),.int .i64 0,.int .i64 0,.slice none 0 0,.slice none 0 0,.int .i64 0,.int .i64 0]) (t := 34) hrq ?_;intro g7 hg w5 hbox hb;have Gw_g7 := za.mk (adg Hw.out hg);have Ng3_g7 := za.mk (adn hg Bg3.out);clear zg3_0 zg3_1 zg3_2 fg3_0 fg3_1 fg3_2;replace Bg3 := za.mk (adb Bg3.out hb);replace Hw := za.mk (adl Hw.out hb);have Bg7 := za.mk hbox;clear hbox hb hg;obtain ⟨zg7_0,zg7_1,zg7_2,zg7_3,zg7_4,zg7_5,zg7_6,fg7_0,fg7_1,fg7_2,fg7_3,fg7_4,fg7_5,fg7_6⟩ := hcq7 Bg7.out)
  | ((with_reducible refine zaD (t := 34) (p := 7) rfl ?_);refine zaw (t := 34) (p := 7) (v := _) (w1 := (World.setCell (World.setCell (World.setCell (World.setCell (World.setCell (World.setCell (World.setCell w5 ⟨g7,0,none⟩ (.string t0)) ⟨g7,1,none⟩ (.int .i64 t1)) ⟨g7,2,none⟩ (.int .i64 t2)) ⟨g7,3,none⟩ (.slice A3 t3.length c3)) ⟨g7,4,none⟩ (.slice A4 t4.length c4)) ⟨g7,5,none⟩ (.int .i64 t5)) ⟨g7,6,none⟩ (.int .i64 t6))) rfl rfl rfl hrq ?_;intro w6 hw;clear zg7_0 zg7_1 zg7_2 zg7_3 zg7_4 zg7_5 zg7_6 fg7_0 fg7_1 fg7_2 fg7_3 fg7_4 fg7_5 fg7_6;replace Bg3 := za.mk (adf hw Ng3_g7.out Bg3.out);replace Bg7 : za (w6.heap[g7]? = some (.cells #[.string t0,.int .i64 t1,.int .i64 t2,.slice A3 t3.length c3,.slice A4 t4.length c4,.int .i64 t5,.int .i64 t6] 34 (0,0))) := ⟨adp hw Bg7.out⟩;replace Hw := za.mk (ads hw Gw_g7.out Hw.out);clear hw;obtain ⟨zg3_0,zg3_1,zg3_2,fg3_0,fg3_1,fg3_2⟩ := hcq3 Bg3.out;obtain ⟨zg7_0,zg7_1,zg7_2,zg7_3,zg7_4,zg7_5,zg7_6,fg7_0,fg7_1,fg7_2,fg7_3,fg7_4,fg7_5,fg7_6⟩ := hcq7 Bg7.out)
  | (go_at_call 26;refine (zeK n low A0 c0 L t0 t1 t2 A3 t3.length c3 A4 t4.length c4 t5 t6 (zdu L t2) _ (Kd.V_map (Kd.V_below HV.out Hw.out) (fun _ hf_ => Kd.F_mono (Kd.F_bound hf_) (fun _ hk => hk.2))) HL.out (zeo L t2 HL.out).1 (zeo L t2 HL.out).2).mono ?_;rintro e w7 ⟨gm,rfl,hm,hb⟩;clear zg3_0 zg3_1 zg3_2 fg3_0 fg3_1 fg3_2 zg7_0 zg7_1 zg7_2 zg7_3 zg7_4 zg7_5 zg7_6 fg7_0 fg7_1 fg7_2 fg7_3 fg7_4 fg7_5 fg7_6;replace Bg3 := za.mk (adb Bg3.out hb);replace Bg7 := za.mk (adb Bg7.out hb);replace Hw := za.mk (adl Hw.out hb);have Mgm := za.mk hm;clear hm;clear hb;obtain ⟨zg3_0,zg3_1,zg3_2,fg3_0,fg3_1,fg3_2⟩ := hcq3 Bg3.out))
 clear zg3_0 zg3_1 zg3_2 fg3_0 fg3_1 fg3_2
 have HW7 := za.mk (zh Hw.out)
 have LM := za.mk (za8 Mgm.out)
 have L3 := za.mk (zaF Bg3.out)
 generalize hI : (zbv L t2 t0 (zdu L t2)).1 = I at *
 have HI := za.mk hI
 clear hI
 go_loopw [10,29] (fun v10 v29 wr => ∃ i : Nat,v29 = .int .i64 i ∧ i ≤ L.length ∧ za (Kd.N k34 34 wr w7.heap.size (fun k_ => (P0 k_ ∧ k_ < w.heap.size) ∨ w7.heap.size ≤ k_) v10 ((L.take i).filter (zeQ I lo))) ∧ za (Below w7.heap.size w7 wr) ∧ za (zbq wr gm (inV I))) (fun _ v29 _ => L.length - (intOf v29).toNat)
 case atStart => exact ⟨0,rfl,Nat.zero_le _,⟨Kd.N_nil _ _ _ _ _⟩,⟨Below.refl _ _⟩,Mgm⟩
 case round =>
  obtain ⟨i,rfl,hi,HO,H7,M0⟩ := hrel
  obtain ⟨v10,hv10⟩ : ∃ v,v = u10 := ⟨_,rfl⟩
  subst hv10
  have HOr := HO
  have H7r := H7
  have M0r := M0
  by_cases hlt : i < L.length
  ·obtain ⟨x,hx⟩ : ∃ x,L[i]? = some x := ⟨_,List.getElem?_eq_getElem hlt⟩
   have HFL := za.mk (Kd.F_bound (Kd.V_F HV.out))
   have HBw := za.mk (Hw.out.trans (H7.out.mono HW7.out))
   have HFr := za.mk (Kd.F_step HFL.out (fun k hk _ => HBw.out.block k hk.2))
   obtain ⟨adx,AX3,cx3,AX4,cx4,e_,hx0,hx1,hx2,hx3,hx4,hx5,hx6,lx3,hF3,lx4,hF4⟩ := ent_F2 HFr.out i hlt x hx
   subst e_
   have htk : L.take (i + 1) = L.take i ++ [x] := by rw [List.take_add_one,hx];rfl
   have HTK := za.mk htk
   have hb : decide (i < L.length) = true := decide_eq_true hlt
   have Bg3r := za.mk (adb Bg3.out H7.out)
   obtain ⟨x0,⟨x1,x2,x3,x4,⟨x5,x6⟩⟩⟩ := x
   dsimp only at hF3 hF4 lx3 lx4
   have HF3 := za.mk hF3
   have HF4 := za.mk hF4
   have LX3 := za.mk lx3
   have LX4 := za.mk lx4
   have HLN : za (((L.take i).filter (zeQ I lo)).length < 1466015503701) := ⟨Nat.lt_of_le_of_lt (List.length_filter_le _ _) (by rw [List.length_take];have := HL.out;omega)⟩
   clear hx htk hF3 hF4 lx3 lx4
   dsimp only at hx0 hx1 hx2 hx3 hx4 hx5 hx6
   clear Bg3
   have Bg3 := Bg3r
   clear Bg3r
   rcases hq : I x0 with _ | q
   ·have HQ := za.mk hq
    clear hq
    go_wp2_with (first
      | ((with_reducible refine zq (N := 12) rfl ?_);refine zn rfl (N := 12) rfl (cs := #[.string (⟨#[]⟩ : ByteArray),.int .i64 0,.int .i64 0,.slice none 0 0,.slice none 0 0,.int .i64 0,.int .i64 0]) (t := 34) hrq ?_;intro gx hg wx hbox hb;have HX := za.mk hb;have GE := za.mk (show w7.heap.size ≤ gx from by rw [hg];exact zh H7.out);have GW := za.mk (show wr.heap.size ≤ gx from Nat.le_of_eq hg.symm);have HOF := za.mk (show ∀ k,v10.ownBlock = some k → k ≠ gx from fun k hk => by have := Kd.N_lt HO.out k hk;omega);have NM := za.mk (show gm ≠ gx from by rw [hg];exact Nat.ne_of_lt (za8 M0.out));have Ng3_gx := za.mk (adn hg Bg3.out);replace Bg3 := za.mk (adb Bg3.out hb);replace H7 := za.mk (zf H7.out hb);replace HO := za.mk (Kd.N_below HO.out hb);replace M0 := za.mk (zaP M0.out hb);have Bgx := za.mk hbox;clear hbox hb hg;have zgx_0 : wx.cell? ⟨gx,0,none⟩ = some (.string (⟨#[]⟩ : ByteArray)) := (zb Bgx.out 0).trans rfl;have zgx_1 : wx.cell? ⟨gx,1,none⟩ = some (.int .i64 0) := (zb Bgx.out 1).trans rfl;have zgx_2 : wx.cell? ⟨gx,2,none⟩ = some (.int .i64 0) := (zb Bgx.out 2).trans rfl;have zgx_3 : wx.cell? ⟨gx,3,none⟩ = some (.slice none 0 0) := (zb Bgx.out 3).trans rfl;have zgx_4 : wx.cell? ⟨gx,4,none⟩ = some (.slice none 0 0) := (zb Bgx.out 4).trans rfl;have zgx_5 : wx.cell? ⟨gx,5,none⟩ = some (.int .i64 0) := (zb Bgx.out 5).trans rfl;have zgx_6 : wx.cell? ⟨gx,6,none⟩ = some (.int .i64 0) := (zb Bgx.out 6).trans rfl;have fgx_0 := zc Bgx.out 0;have fgx_1 := zc Bgx.out 1;have fgx_2 := zc Bgx.out 2;have fgx_3 := zc Bgx.out 3;have fgx_4 := zc Bgx.out 4;have fgx_5 := zc Bgx.out 5;have fgx_6 := zc Bgx.out 6)
      | ((with_reducible refine zaD (t := 34) (p := 12) rfl ?_);refine zaw (t := 34) (p := 12) (v := _) (w1 := (World.setCell (World.setCell (World.setCell (World.setCell (World.setCell (World.setCell (World.setCell wx ⟨gx,0,none⟩ (.string x0)) ⟨gx,1,none⟩ (.int .i64 x1)) ⟨gx,2,none⟩ (.int .i64 x2)) ⟨gx,3,none⟩ (.slice AX3 x3.length cx3)) ⟨gx,4,none⟩ (.slice AX4 x4.length cx4)) ⟨gx,5,none⟩ (.int .i64 x5)) ⟨gx,6,none⟩ (.int .i64 x6))) rfl rfl rfl hrq ?_;intro wy hw;clear zgx_0 zgx_1 zgx_2 zgx_3 zgx_4 zgx_5 zgx_6 fgx_0 fgx_1 fgx_2 fgx_3 fgx_4 fgx_5 fgx_6;replace Bg3 := za.mk (adf hw Ng3_gx.out Bg3.out);replace Bgx : za (wy.heap[gx]? = some (.cells #[.string x0,.int .i64 x1,.int .i64 x2,.slice AX3 x3.length cx3,.slice AX4 x4.length cx4,.int .i64 x5,.int .i64 x6] 34 (0,0))) := ⟨adp hw Bgx.out⟩;have TX := za.mk (adt (S := fun _ => False) (A := wr) hw GW.out (Trod.of_below HX.out _));replace H7 := za.mk (H7r.out.trans (TX.out.to_below (zh H7r.out) (fun _ h_ => h_.elim)));replace M0 := za.mk (za1 TX.out M0r.out (fun h_ => h_));replace HO := za.mk (Kd.N_step HOr.out (fun k _ hlt => TX.out.block k hlt (fun h_ => h_)));clear hw;have zgx_0 : wy.cell? ⟨gx,0,none⟩ = some (.string x0) := (zb Bgx.out 0).trans rfl;have zgx_1 : wy.cell? ⟨gx,1,none⟩ = some (.int .i64 x1) := (zb Bgx.out 1).trans rfl;have zgx_2 : wy.cell? ⟨gx,2,none⟩ = some (.int .i64 x2) := (zb Bgx.out 2).trans rfl;have zgx_3 : wy.cell? ⟨gx,3,none⟩ = some (.slice AX3 x3.length cx3) := (zb Bgx.out 3).trans rfl;have zgx_4 : wy.cell? ⟨gx,4,none⟩ = some (.slice AX4 x4.length cx4) := (zb Bgx.out 4).trans rfl;have zgx_5 : wy.cell? ⟨gx,5,none⟩ = some (.int .i64 x5) := (zb Bgx.out 5).trans rfl;have zgx_6 : wy.cell? ⟨gx,6,none⟩ = some (.int .i64 x6) := (zb Bgx.out 6).trans rfl;have fgx_0 := zc Bgx.out 0;have fgx_1 := zc Bgx.out 1;have fgx_2 := zc Bgx.out 2;have fgx_3 := zc Bgx.out 3;have fgx_4 := zc Bgx.out 4;have fgx_5 := zc Bgx.out 5;have fgx_6 := zc Bgx.out 6)
      | (at_lookup;refine zcg _ rfl _ _ 55 rfl M0.out Try.underlying55 Try.underlying9 (zc7.zeroI _) x0 rfl rfl ?_;rw [show (inV I x0).isSome = (I x0).isSome from Option.isSome_map,show (inV I x0).getD (.int .i64 0) = .int .i64 ((I x0).getD 0) from by unfold inV;cases I x0 <;> rfl,HQ.out];try dsimp only [Option.isSome,Option.getD]))
    go_roundw
    case rel => exact ⟨i + 1,by go_num,by omega,⟨by rw [HTK.out,List.filter_append,List.filter_cons,if_neg (by simp [zeQ,HQ.out]),List.filter_nil,List.append_nil];exact HO.out⟩,H7,M0⟩
    case measure => simp [intOf];omega
   ·have HQ := za.mk hq
    clear hq
    by_cases he : q = x2
    ·by_cases hd : lo < q
     ·have HR : za (q = x2 ∧ lo < q) := ⟨he,hd⟩
      have e1 : (q == x2) = true := beq_iff_eq.2 he
      have e2 : decide (lo < q) = true := decide_eq_true hd
      clear he hd
      go_wp2_with (first
        | ((with_reducible refine zq (N := 12) rfl ?_);refine zn rfl (N := 12) rfl (cs := #[.string (⟨#[]⟩ : ByteArray),.int .i64 0,.int .i64 0,.slice none 0 0,.slice none 0 0,.int .i64 0,.int .i64 0]) (t := 34) hrq ?_;intro gx hg wx hbox hb;have HX := za.mk hb;have GE := za.mk (show w7.heap.size ≤ gx from by rw [hg];exact zh H7.out);have GW := za.mk (show wr.heap.size ≤ gx from Nat.le_of_eq hg.symm);have HOF := za.mk (show ∀ k,v10.ownBlock = some k → k ≠ gx from fun k hk => by have := Kd.N_lt HO.out k hk;omega);have NM := za.mk (show gm ≠ gx from by rw [hg];exact Nat.ne_of_lt (za8 M0.out));have Ng3_gx := za.mk (adn hg Bg3.out);replace Bg3 := za.mk (adb Bg3.out hb);replace H7 := za.mk (zf H7.out hb);replace HO := za.mk (Kd.N_below HO.out hb);replace M0 := za.mk (zaP M0.out hb);have Bgx := za.mk hbox;clear hbox hb hg;have zgx_0 : wx.cell? ⟨gx,0,none⟩ = some (.string (⟨#[]⟩ : ByteArray)) := (zb Bgx.out 0).trans rfl;have zgx_1 : wx.cell? ⟨gx,1,none⟩ = some (.int .i64 0) := (zb Bgx.out 1).trans rfl;have zgx_2 : wx.cell? ⟨gx,2,none⟩ = some (.int .i64 0) := (zb Bgx.out 2).trans rfl;have zgx_3 : wx.cell? ⟨gx,3,none⟩ = some (.slice none 0 0) := (zb Bgx.out 3).trans rfl;have zgx_4 : wx.cell? ⟨gx,4,none⟩ = some (.slice none 0 0) := (zb Bgx.out 4).trans rfl;have zgx_5 : wx.cell? ⟨gx,5,none⟩ = some (.int .i64 0) := (zb Bgx.out 5).trans rfl;have zgx_6 : wx.cell? ⟨gx,6,none⟩ = some (.int .i64 0) := (zb Bgx.out 6).trans rfl;have fgx_0 := zc Bgx.out 0;have fgx_1 := zc Bgx.out 1;have fgx_2 := zc Bgx.out 2;have fgx_3 := zc Bgx.out 3;have fgx_4 := zc Bgx.out 4;have fgx_5 := zc Bgx.out 5;have fgx_6 := zc Bgx.out 6)
        | ((with_reducible refine zaD (t := 34) (p := 12) rfl ?_);refine zaw (t := 34) (p := 12) (v := _) (w1 := (World.setCell (World.setCell (World.setCell (World.setCell (World.setCell (World.setCell (World.setCell wx ⟨gx,0,none⟩ (.string x0)) ⟨gx,1,none⟩ (.int .i64 x1)) ⟨gx,2,none⟩ (.int .i64 x2)) ⟨gx,3,none⟩ (.slice AX3 x3.length cx3)) ⟨gx,4,none⟩ (.slice AX4 x4.length cx4)) ⟨gx,5,none⟩ (.int .i64 x5)) ⟨gx,6,none⟩ (.int .i64 x6))) rfl rfl rfl hrq ?_;intro wy hw;clear zgx_0 zgx_1 zgx_2 zgx_3 zgx_4 zgx_5 zgx_6 fgx_0 fgx_1 fgx_2 fgx_3 fgx_4 fgx_5 fgx_6;replace Bg3 := za.mk (adf hw Ng3_gx.out Bg3.out);replace Bgx : za (wy.heap[gx]? = some (.cells #[.string x0,.int .i64 x1,.int .i64 x2,.slice AX3 x3.length cx3,.slice AX4 x4.length cx4,.int .i64 x5,.int .i64 x6] 34 (0,0))) := ⟨adp hw Bgx.out⟩;have TX := za.mk (adt (S := fun _ => False) (A := wr) hw GW.out (Trod.of_below HX.out _));replace H7 := za.mk (H7r.out.trans (TX.out.to_below (zh H7r.out) (fun _ h_ => h_.elim)));replace M0 := za.mk (za1 TX.out M0r.out (fun h_ => h_));replace HO := za.mk (Kd.N_step HOr.out (fun k _ hlt => TX.out.block k hlt (fun h_ => h_)));clear hw;have zgx_0 : wy.cell? ⟨gx,0,none⟩ = some (.string x0) := (zb Bgx.out 0).trans rfl;have zgx_1 : wy.cell? ⟨gx,1,none⟩ = some (.int .i64 x1) := (zb Bgx.out 1).trans rfl;have zgx_2 : wy.cell? ⟨gx,2,none⟩ = some (.int .i64 x2) := (zb Bgx.out 2).trans rfl;have zgx_3 : wy.cell? ⟨gx,3,none⟩ = some (.slice AX3 x3.length cx3) := (zb Bgx.out 3).trans rfl;have zgx_4 : wy.cell? ⟨gx,4,none⟩ = some (.slice AX4 x4.length cx4) := (zb Bgx.out 4).trans rfl;have zgx_5 : wy.cell? ⟨gx,5,none⟩ = some (.int .i64 x5) := (zb Bgx.out 5).trans rfl;have zgx_6 : wy.cell? ⟨gx,6,none⟩ = some (.int .i64 x6) := (zb Bgx.out 6).trans rfl;have fgx_0 := zc Bgx.out 0;have fgx_1 := zc Bgx.out 1;have fgx_2 := zc Bgx.out 2;have fgx_3 := zc Bgx.out 3;have fgx_4 := zc Bgx.out 4;have fgx_5 := zc Bgx.out 5;have fgx_6 := zc Bgx.out 6)
        | (at_lookup;refine zcg _ rfl _ _ 55 rfl M0.out Try.underlying55 Try.underlying9 (zc7.zeroI _) x0 rfl rfl ?_;rw [show (inV I x0).isSome = (I x0).isSome from Option.isSome_map,show (inV I x0).getD (.int .i64 0) = .int .i64 ((I x0).getD 0) from by unfold inV;cases I x0 <;> rfl,HQ.out];try dsimp only [Option.isSome,Option.getD])
        | ((with_reducible refine zq (N := 56) rfl ?_);refine Kd.N_append k34 (w0 := w7) w7.heap.size rfl (.tmp 53) (.tmp 55) 22 34 (.agg #[(.string ⟨#[]⟩),(.int .i64 0),(.int .i64 0),(.slice none 0 0),(.slice none 0 0),(.int .i64 0),(.int .i64 0)]) 96 rfl Try.underlying22 zdQ rfl (by decide) (by omega) v10 ((L.take i).filter (zeQ I lo)) ⟨x0,⟨x1,x2,x3,x4,⟨x5,x6⟩⟩⟩ [.string x0,.int .i64 x1,.int .i64 x2,.slice AX3 x3.length cx3,.slice AX4 x4.length cx4,.int .i64 x5,.int .i64 x6] (fun k_ => (P0 k_ ∧ k_ < w.heap.size) ∨ w7.heap.size ≤ k_) (fun k_ => (P0 k_ ∧ k_ < w.heap.size) ∧ some k_ ≠ v10.ownBlock) rfl rfl ?aP (fun _ hk => ⟨.inl hk.1,hk.2⟩) ?aF ?aO ?aB ?aS ?aL ?_;(case aP => exact (zfX _ _ ⟨x0,⟨x1,x2,x3,x4,⟨x5,x6⟩⟩⟩ LX3.out (Kd.F_mono (zdv TX.out HF3.out (fun _ _ h_ => h_)) (fun k hk => ⟨hk,fun e_ => by have := Kd.N_base HO.out k e_.symm;have := HW7.out;omega⟩)) LX4.out (Kd.F_mono (zdv TX.out HF4.out (fun _ _ h_ => h_)) (fun k hk => ⟨hk,fun e_ => by have := Kd.N_base HO.out k e_.symm;have := HW7.out;omega⟩))));(case aF => exact (fun k_ hk => .inr (Nat.le_trans (zh H7.out) hk)));(case aO => exact HO.out);(case aB => exact H7.out);(case aS => exact zh H7.out);(case aL => have := HLN.out;omega);intro v2 w9 ho hb hg hat;have HO2 := za.mk ho;have HB2 := za.mk hb;have HM2 := za.mk (zgg M0.out hg (fun e_ => by have := Kd.N_base HO.out gm e_.symm;have := LM.out;omega));clear ho hb hg hat))
      go_roundw
      case rel => exact ⟨i + 1,by go_num,by omega,⟨by rw [HTK.out,List.filter_append,List.filter_cons,if_pos (by unfold zeQ;simp only [HQ.out,decide_eq_true HR.out.1,decide_eq_true HR.out.2,Bool.and_self]),List.filter_nil];exact HO2.out⟩,HB2,HM2⟩
      case measure => simp [intOf];omega
     ·have HR : za (q = x2 ∧ ¬ lo < q) := ⟨he,hd⟩
      have e1 : (q == x2) = true := beq_iff_eq.2 he
      have e2 : decide (lo < q) = false := decide_eq_false hd
      clear he hd
      go_wp2_with (first
        | ((with_reducible refine zq (N := 12) rfl ?_);refine zn rfl (N := 12) rfl (cs := #[.string (⟨#[]⟩ : ByteArray),.int .i64 0,.int .i64 0,.slice none 0 0,.slice none 0 0,.int .i64 0,.int .i64 0]) (t := 34) hrq ?_;intro gx hg wx hbox hb;have HX := za.mk hb;have GE := za.mk (show w7.heap.size ≤ gx from by rw [hg];exact zh H7.out);have GW := za.mk (show wr.heap.size ≤ gx from Nat.le_of_eq hg.symm);have HOF := za.mk (show ∀ k,v10.ownBlock = some k → k ≠ gx from fun k hk => by have := Kd.N_lt HO.out k hk;omega);have NM := za.mk (show gm ≠ gx from by rw [hg];exact Nat.ne_of_lt (za8 M0.out));have Ng3_gx := za.mk (adn hg Bg3.out);replace Bg3 := za.mk (adb Bg3.out hb);replace H7 := za.mk (zf H7.out hb);replace HO := za.mk (Kd.N_below HO.out hb);replace M0 := za.mk (zaP M0.out hb);have Bgx := za.mk hbox;clear hbox hb hg;have zgx_0 : wx.cell? ⟨gx,0,none⟩ = some (.string (⟨#[]⟩ : ByteArray)) := (zb Bgx.out 0).trans rfl;have zgx_1 : wx.cell? ⟨gx,1,none⟩ = some (.int .i64 0) := (zb Bgx.out 1).trans rfl;have zgx_2 : wx.cell? ⟨gx,2,none⟩ = some (.int .i64 0) := (zb Bgx.out 2).trans rfl;have zgx_3 : wx.cell? ⟨gx,3,none⟩ = some (.slice none 0 0) := (zb Bgx.out 3).trans rfl;have zgx_4 : wx.cell? ⟨gx,4,none⟩ = some (.slice none 0 0) := (zb Bgx.out 4).trans rfl;have zgx_5 : wx.cell? ⟨gx,5,none⟩ = some (.int .i64 0) := (zb Bgx.out 5).trans rfl;have zgx_6 : wx.cell? ⟨gx,6,none⟩ = some (.int .i64 0) := (zb Bgx.out 6).trans rfl;have fgx_0 := zc Bgx.out 0;have fgx_1 := zc Bgx.out 1;have fgx_2 := zc Bgx.out 2;have fgx_3 := zc Bgx.out 3;have fgx_4 := zc Bgx.out 4;have fgx_5 := zc Bgx.out 5;have fgx_6 := zc Bgx.out 6)
        | ((with_reducible refine zaD (t := 34) (p := 12) rfl ?_);refine zaw (t := 34) (p := 12) (v := _) (w1 := (World.setCell (World.setCell (World.setCell (World.setCell (World.setCell (World.setCell (World.setCell wx ⟨gx,0,none⟩ (.string x0)) ⟨gx,1,none⟩ (.int .i64 x1)) ⟨gx,2,none⟩ (.int .i64 x2)) ⟨gx,3,none⟩ (.slice AX3 x3.length cx3)) ⟨gx,4,none⟩ (.slice AX4 x4.length cx4)) ⟨gx,5,none⟩ (.int .i64 x5)) ⟨gx,6,none⟩ (.int .i64 x6))) rfl rfl rfl hrq ?_;intro wy hw;clear zgx_0 zgx_1 zgx_2 zgx_3 zgx_4 zgx_5 zgx_6 fgx_0 fgx_1 fgx_2 fgx_3 fgx_4 fgx_5 fgx_6;replace Bg3 := za.mk (adf hw Ng3_gx.out Bg3.out);replace Bgx : za (wy.heap[gx]? = some (.cells #[.string x0,.int .i64 x1,.int .i64 x2,.slice AX3 x3.length cx3,.slice AX4 x4.length cx4,.int .i64 x5,.int .i64 x6] 34 (0,0))) := ⟨adp hw Bgx.out⟩;have TX := za.mk (adt (S := fun _ => False) (A := wr) hw GW.out (Trod.of_below HX.out _));replace H7 := za.mk (H7r.out.trans (TX.out.to_below (zh H7r.out) (fun _ h_ => h_.elim)));replace M0 := za.mk (za1 TX.out M0r.out (fun h_ => h_));replace HO := za.mk (Kd.N_step HOr.out (fun k _ hlt => TX.out.block k hlt (fun h_ => h_)));clear hw;have zgx_0 : wy.cell? ⟨gx,0,none⟩ = some (.string x0) := (zb Bgx.out 0).trans rfl;have zgx_1 : wy.cell? ⟨gx,1,none⟩ = some (.int .i64 x1) := (zb Bgx.out 1).trans rfl;have zgx_2 : wy.cell? ⟨gx,2,none⟩ = some (.int .i64 x2) := (zb Bgx.out 2).trans rfl;have zgx_3 : wy.cell? ⟨gx,3,none⟩ = some (.slice AX3 x3.length cx3) := (zb Bgx.out 3).trans rfl;have zgx_4 : wy.cell? ⟨gx,4,none⟩ = some (.slice AX4 x4.length cx4) := (zb Bgx.out 4).trans rfl;have zgx_5 : wy.cell? ⟨gx,5,none⟩ = some (.int .i64 x5) := (zb Bgx.out 5).trans rfl;have zgx_6 : wy.cell? ⟨gx,6,none⟩ = some (.int .i64 x6) := (zb Bgx.out 6).trans rfl;have fgx_0 := zc Bgx.out 0;have fgx_1 := zc Bgx.out 1;have fgx_2 := zc Bgx.out 2;have fgx_3 := zc Bgx.out 3;have fgx_4 := zc Bgx.out 4;have fgx_5 := zc Bgx.out 5;have fgx_6 := zc Bgx.out 6)
        | (at_lookup;refine zcg _ rfl _ _ 55 rfl M0.out Try.underlying55 Try.underlying9 (zc7.zeroI _) x0 rfl rfl ?_;rw [show (inV I x0).isSome = (I x0).isSome from Option.isSome_map,show (inV I x0).getD (.int .i64 0) = .int .i64 ((I x0).getD 0) from by unfold inV;cases I x0 <;> rfl,HQ.out];try dsimp only [Option.isSome,Option.getD]))
      go_roundw
      case rel => exact ⟨i + 1,by go_num,by omega,⟨by rw [HTK.out,List.filter_append,List.filter_cons,if_neg (by have h_ := HR.out.2;simp only [zeQ,HQ.out,decide_eq_false h_,Bool.and_false];simp),List.filter_nil,List.append_nil];exact HO.out⟩,H7,M0⟩
      case measure => simp [intOf];omega
    ·have HR : za (q ≠ x2) := ⟨he⟩
     have e1 : (q == x2) = false := beq_eq_false_iff_ne.2 he
     clear he
     go_wp2_with (first
       | ((with_reducible refine zq (N := 12) rfl ?_);refine zn rfl (N := 12) rfl (cs := #[.string (⟨#[]⟩ : ByteArray),.int .i64 0,.int .i64 0,.slice none 0 0,.slice none 0 0,.int .i64 0,.int .i64 0]) (t := 34) hrq ?_;intro gx hg wx hbox hb;have HX := za.mk hb;have GE := za.mk (show w7.heap.size ≤ gx from by rw [hg];exact zh H7.out);have GW := za.mk (show wr.heap.size ≤ gx from Nat.le_of_eq hg.symm);have HOF := za.mk (show ∀ k,v10.ownBlock = some k → k ≠ gx from fun k hk => by have := Kd.N_lt HO.out k hk;omega);have NM := za.mk (show gm ≠ gx from by rw [hg];exact Nat.ne_of_lt (za8 M0.out));have Ng3_gx := za.mk (adn hg Bg3.out);replace Bg3 := za.mk (adb Bg3.out hb);replace H7 := za.mk (zf H7.out hb);replace HO := za.mk (Kd.N_below HO.out hb);replace M0 := za.mk (zaP M0.out hb);have Bgx := za.mk hbox;clear hbox hb hg;have zgx_0 : wx.cell? ⟨gx,0,none⟩ = some (.string (⟨#[]⟩ : ByteArray)) := (zb Bgx.out 0).trans rfl;have zgx_1 : wx.cell? ⟨gx,1,none⟩ = some (.int .i64 0) := (zb Bgx.out 1).trans rfl;have zgx_2 : wx.cell? ⟨gx,2,none⟩ = some (.int .i64 0) := (zb Bgx.out 2).trans rfl;have zgx_3 : wx.cell? ⟨gx,3,none⟩ = some (.slice none 0 0) := (zb Bgx.out 3).trans rfl;have zgx_4 : wx.cell? ⟨gx,4,none⟩ = some (.slice none 0 0) := (zb Bgx.out 4).trans rfl;have zgx_5 : wx.cell? ⟨gx,5,none⟩ = some (.int .i64 0) := (zb Bgx.out 5).trans rfl;have zgx_6 : wx.cell? ⟨gx,6,none⟩ = some (.int .i64 0) := (zb Bgx.out 6).trans rfl;have fgx_0 := zc Bgx.out 0;have fgx_1 := zc Bgx.out 1;have fgx_2 := zc Bgx.out 2;have fgx_3 := zc Bgx.out 3;have fgx_4 := zc Bgx.out 4;have fgx_5 := zc Bgx.out 5;have fgx_6 := zc Bgx.out 6)
       | ((with_reducible refine zaD (t := 34) (p := 12) rfl ?_);refine zaw (t := 34) (p := 12) (v := _) (w1 := (World.setCell (World.setCell (World.setCell (World.setCell (World.setCell (World.setCell (World.setCell wx ⟨gx,0,none⟩ (.string x0)) ⟨gx,1,none⟩ (.int .i64 x1)) ⟨gx,2,none⟩ (.int .i64 x2)) ⟨gx,3,none⟩ (.slice AX3 x3.length cx3)) ⟨gx,4,none⟩ (.slice AX4 x4.length cx4)) ⟨gx,5,none⟩ (.int .i64 x5)) ⟨gx,6,none⟩ (.int .i64 x6))) rfl rfl rfl hrq ?_;intro wy hw;clear zgx_0 zgx_1 zgx_2 zgx_3 zgx_4 zgx_5 zgx_6 fgx_0 fgx_1 fgx_2 fgx_3 fgx_4 fgx_5 fgx_6;replace Bg3 := za.mk (adf hw Ng3_gx.out Bg3.out);replace Bgx : za (wy.heap[gx]? = some (.cells #[.string x0,.int .i64 x1,.int .i64 x2,.slice AX3 x3.length cx3,.slice AX4 x4.length cx4,.int .i64 x5,.int .i64 x6] 34 (0,0))) := ⟨adp hw Bgx.out⟩;have TX := za.mk (adt (S := fun _ => False) (A := wr) hw GW.out (Trod.of_below HX.out _));replace H7 := za.mk (H7r.out.trans (TX.out.to_below (zh H7r.out) (fun _ h_ => h_.elim)));replace M0 := za.mk (za1 TX.out M0r.out (fun h_ => h_));replace HO := za.mk (Kd.N_step HOr.out (fun k _ hlt => TX.out.block k hlt (fun h_ => h_)));clear hw;have zgx_0 : wy.cell? ⟨gx,0,none⟩ = some (.string x0) := (zb Bgx.out 0).trans rfl;have zgx_1 : wy.cell? ⟨gx,1,none⟩ = some (.int .i64 x1) := (zb Bgx.out 1).trans rfl;have zgx_2 : wy.cell? ⟨gx,2,none⟩ = some (.int .i64 x2) := (zb Bgx.out 2).trans rfl;have zgx_3 : wy.cell? ⟨gx,3,none⟩ = some (.slice AX3 x3.length cx3) := (zb Bgx.out 3).trans rfl;have zgx_4 : wy.cell? ⟨gx,4,none⟩ = some (.slice AX4 x4.length cx4) := (zb Bgx.out 4).trans rfl;have zgx_5 : wy.cell? ⟨gx,5,none⟩ = some (.int .i64 x5) := (zb Bgx.out 5).trans rfl;have zgx_6 : wy.cell? ⟨gx,6,none⟩ = some (.int .i64 x6) := (zb Bgx.out 6).trans rfl;have fgx_0 := zc Bgx.out 0;have fgx_1 := zc Bgx.out 1;have fgx_2 := zc Bgx.out 2;have fgx_3 := zc Bgx.out 3;have fgx_4 := zc Bgx.out 4;have fgx_5 := zc Bgx.out 5;have fgx_6 := zc Bgx.out 6)
       | (at_lookup;refine zcg _ rfl _ _ 55 rfl M0.out Try.underlying55 Try.underlying9 (zc7.zeroI _) x0 rfl rfl ?_;rw [show (inV I x0).isSome = (I x0).isSome from Option.isSome_map,show (inV I x0).getD (.int .i64 0) = .int .i64 ((I x0).getD 0) from by unfold inV;cases I x0 <;> rfl,HQ.out];try dsimp only [Option.isSome,Option.getD]))
     go_roundw
     case rel => exact ⟨i + 1,by go_num,by omega,⟨by rw [HTK.out,List.filter_append,List.filter_cons,if_neg (by have h_ := HR.out;simp only [zeQ,HQ.out,decide_eq_false h_,Bool.false_and];simp),List.filter_nil,List.append_nil];exact HO.out⟩,H7,M0⟩
     case measure => simp [intOf];omega
  ·obtain rfl : i = L.length := by omega
   have hb : decide (L.length < L.length) = false := decide_eq_false hlt
   go_wp2_with fail
   go_ret
   refine ⟨_,rfl,?_,Hw.out.trans (H7.out.mono HW7.out)⟩
   have hv := Kd.V_mono (Kd.N_V (base' := w.heap.size) HO.out) (fun k hk => hk.imp And.left (fun h_ => Nat.le_trans HW7.out h_))
   rw [List.take_length] at hv
   rw [HI.out]
   exact hv
def zaI.f (a0_0 : Int) (a0_1 : Int) (l0_2 : List (S34)) (a1 : ByteArray) (a2 : Int) : Option (List (S34)) := if l0_2.length < 1466015503701 then some (zcz l0_2 a1 a2) else none
theorem zaI.calls (a0_0 : Int) (a0_1 : Int) (P0_2_ : Nat → Prop) (A0_2 : Option Addr) (c0_2 : Nat) (l0_2 : List (S34)) (a1 : ByteArray) (a2 : Int) (r : List (S34)) (w : World) (hs0_2 : Kd.V k34 34 w w.heap.size (fun k_ => P0_2_ k_) (.slice A0_2 l0_2.length c0_2) l0_2) (h : zaI.f a0_0 a0_1 l0_2 a1 a2 = some r) :
  Calls Try.prog 11 #[.agg #[.int .i64 a0_0,.int .i64 a0_1,.slice A0_2 l0_2.length c0_2],.string a1,.int .i64 a2] w fun e w' => ∃ v0_ : Value,e = .returned (v0_) ∧ Kd.V k34 34 w' w.heap.size (fun k_ => (P0_2_ k_ ∨ w.heap.size ≤ k_)) v0_ r ∧ Below w.heap.size w w' := by
 unfold zaI.f at h
 split at h
 ·rename_i hl
  obtain rfl := Option.some.inj h
  rcases hf : zcY l0_2 a1 with _ | t
  ·have e : zcz l0_2 a1 a2 = [] := by unfold zcz;rw [hf]
   rw [e]
   refine (zaI.no a0_0 a0_1 P0_2_ A0_2 c0_2 l0_2 a1 a2 _ _ _ _ _ _ _ false w hs0_2 (by unfold z6.f;rw [hf];rfl) hl rfl).mono ?_
   rintro e w' ⟨rfl,hb⟩
   exact ⟨_,rfl,Kd.V_nil _ _ _ _ _,hb⟩
  ·have e : zcz l0_2 a1 a2 = l0_2.filter (zeQ (zbv l0_2 t.f1.f1 t.f0 (zdu l0_2 t.f1.f1)).1 a2) := by unfold zcz;rw [hf];rfl
   rw [e]
   exact zaI.yes a0_0 a0_1 P0_2_ A0_2 c0_2 l0_2 a1 a2 t.f0 t.f1.f0 t.f1.f1 t.f1.f2 t.f1.f3 t.f1.f4.f0 t.f1.f4.f1 true w hs0_2 (by unfold z6.f;rw [hf];rfl) hl rfl
 ·cases h
set_option maxHeartbeats 4000000 in
set_option maxRecDepth 100000 in
theorem ze6.walk (a r : Int) (A2 : Option Addr) (n2 c2 : Nat) (A3 : Option Addr) (n3 c3 : Nat) (x y a' r' : Int) (B2 : Option Addr) (m2 d2 : Nat) (B3 : Option Addr) (m3 d3 : Nat) (x' y' : Int) (w : World) :
  Calls Try.prog 36 #[.agg #[.int .i64 a,.int .i64 r,.slice A2 n2 c2,.slice A3 n3 c3,.int .i64 x,.int .i64 y],.agg #[.int .i64 a',.int .i64 r',.slice B2 m2 d2,.slice B3 m3 d3,.int .i64 x',.int .i64 y']] w fun e w' => e = .returned (.bool (zbe a r a' r')) ∧ Below w.heap.size w w' := by
 by_cases h1 : r < r'
 ·have HP : za (zbe a r a' r' = true) := ⟨decide_eq_true (.inl h1)⟩
  have d1 : decide (r < r') = true := decide_eq_true h1
  clear h1
  go_enter Try.func36,Try.ntmps36
  go_wp2
  go_ret
  exact ⟨by rw [HP.out];rfl,zm (zm (Below.refl _ _) _) _⟩
 ·have d1 : decide (r < r') = false := decide_eq_false h1
  by_cases h2 : r = r'
  ·have d2 : (r == r') = true := beq_iff_eq.2 h2
   have HP : za (zbe a r a' r' = decide (a < a')) := ⟨by unfold zbe;rw [Bool.eq_iff_iff,decide_eq_true_eq,decide_eq_true_eq];omega⟩
   clear h1 h2
   go_enter Try.func36,Try.ntmps36
   go_wp2
   go_ret
   exact ⟨by rw [HP.out];rfl,zm (zm (Below.refl _ _) _) _⟩
  ·have d2 : (r == r') = false := beq_eq_false_iff_ne.2 h2
   have HP : za (zbe a r a' r' = false) := ⟨decide_eq_false (by omega)⟩
   clear h1 h2
   go_enter Try.func36,Try.ntmps36
   go_wp2
   go_ret
   exact ⟨by rw [HP.out];rfl,zm (zm (Below.refl _ _) _) _⟩
def zbE.p (a r : Int) (x : S34) : Bool := decide (x.f1.f0 = a ∧ x.f1.f1 = r)
set_option maxHeartbeats 4000000 in
set_option maxRecDepth 100000 in
theorem zbE.odd (a r : Int) (x0 : ByteArray) (x1 x2 : Int) (A3 : Option Addr) (n3 c3 : Nat) (A4 : Option Addr) (n4 c4 : Nat) (x5 x6 : Int) (g : Nat) (g' : Nat) (w : World) (hg : w.heap[g]? = some (.cells #[.int .i64 a] 3 (0,0))) (hg' : w.heap[g']? = some (.cells #[.int .i64 r] 3 (0,0))) :
  Calls Try.prog 51 #[.agg #[.string x0,.int .i64 x1,.int .i64 x2,.slice A3 n3 c3,.slice A4 n4 c4,.int .i64 x5,.int .i64 x6],.pointer (some ⟨g,0,none⟩),.pointer (some ⟨g',0,none⟩)] w fun e w' => e = .returned (.bool (decide (x1 = a ∧ x2 = r))) ∧ Below w.heap.size w w' := by
 have Hg := za.mk hg
 have Hg' := za.mk hg'
 clear hg hg'
 by_cases c1 : x1 = a
 ·have d1 : (x1 == a) = true := beq_iff_eq.2 c1
  by_cases c2 : x2 = r
  ·have d2 : (x2 == r) = true := beq_iff_eq.2 c2
   have HP : za (decide (x1 = a ∧ x2 = r) = true) := ⟨decide_eq_true ⟨c1,c2⟩⟩
   clear c1 c2
   go_enter Try.func51,Try.ntmps51
   go_wp2_with ((with_reducible refine zq (N := 3) rfl ?_);refine zn rfl (N := 3) rfl (cs := #[.string x0,.int .i64 x1,.int .i64 x2,.slice A3 n3 c3,.slice A4 n4 c4,.int .i64 x5,.int .i64 x6]) (t := 34) hrq ?_;intro gb hg w2 hbox hb;have BK := za.mk hbox;have HB := za.mk hb;have Ng := za.mk (zr Hg.out hb);have Ng' := za.mk (zr Hg'.out hb);have z_0 := (zb BK.out 0).trans rfl;have zf_0 := zc BK.out 0;have z_1 := (zb BK.out 1).trans rfl;have zf_1 := zc BK.out 1;have z_2 := (zb BK.out 2).trans rfl;have zf_2 := zc BK.out 2;have z_3 := (zb BK.out 3).trans rfl;have zf_3 := zc BK.out 3;have z_4 := (zb BK.out 4).trans rfl;have zf_4 := zc BK.out 4;have z_5 := (zb BK.out 5).trans rfl;have zf_5 := zc BK.out 5;have z_6 := (zb BK.out 6).trans rfl;have zf_6 := zc BK.out 6;have zg_0 := (zb Ng.out 0).trans rfl;have zgf_0 := zc Ng.out 0;have zg'_0 := (zb Ng'.out 0).trans rfl;have zg'f_0 := zc Ng'.out 0;clear hb hbox hg)
   go_ret
   exact ⟨by rw [HP.out];rfl,HB.out⟩
  ·have d2 : (x2 == r) = false := beq_eq_false_iff_ne.2 c2
   have HP : za (decide (x1 = a ∧ x2 = r) = false) := ⟨decide_eq_false (fun h => c2 h.2)⟩
   clear c1 c2
   go_enter Try.func51,Try.ntmps51
   go_wp2_with ((with_reducible refine zq (N := 3) rfl ?_);refine zn rfl (N := 3) rfl (cs := #[.string x0,.int .i64 x1,.int .i64 x2,.slice A3 n3 c3,.slice A4 n4 c4,.int .i64 x5,.int .i64 x6]) (t := 34) hrq ?_;intro gb hg w2 hbox hb;have BK := za.mk hbox;have HB := za.mk hb;have Ng := za.mk (zr Hg.out hb);have Ng' := za.mk (zr Hg'.out hb);have z_0 := (zb BK.out 0).trans rfl;have zf_0 := zc BK.out 0;have z_1 := (zb BK.out 1).trans rfl;have zf_1 := zc BK.out 1;have z_2 := (zb BK.out 2).trans rfl;have zf_2 := zc BK.out 2;have z_3 := (zb BK.out 3).trans rfl;have zf_3 := zc BK.out 3;have z_4 := (zb BK.out 4).trans rfl;have zf_4 := zc BK.out 4;have z_5 := (zb BK.out 5).trans rfl;have zf_5 := zc BK.out 5;have z_6 := (zb BK.out 6).trans rfl;have zf_6 := zc BK.out 6;have zg_0 := (zb Ng.out 0).trans rfl;have zgf_0 := zc Ng.out 0;have zg'_0 := (zb Ng'.out 0).trans rfl;have zg'f_0 := zc Ng'.out 0;clear hb hbox hg)
   go_ret
   exact ⟨by rw [HP.out];rfl,HB.out⟩
 ·have d1 : (x1 == a) = false := beq_eq_false_iff_ne.2 c1
  have HP : za (decide (x1 = a ∧ x2 = r) = false) := ⟨decide_eq_false (fun h => c1 h.1)⟩
  clear c1
  go_enter Try.func51,Try.ntmps51
  go_wp2_with ((with_reducible refine zq (N := 3) rfl ?_);refine zn rfl (N := 3) rfl (cs := #[.string x0,.int .i64 x1,.int .i64 x2,.slice A3 n3 c3,.slice A4 n4 c4,.int .i64 x5,.int .i64 x6]) (t := 34) hrq ?_;intro gb hg w2 hbox hb;have BK := za.mk hbox;have HB := za.mk hb;have Ng := za.mk (zr Hg.out hb);have Ng' := za.mk (zr Hg'.out hb);have z_0 := (zb BK.out 0).trans rfl;have zf_0 := zc BK.out 0;have z_1 := (zb BK.out 1).trans rfl;have zf_1 := zc BK.out 1;have z_2 := (zb BK.out 2).trans rfl;have zf_2 := zc BK.out 2;have z_3 := (zb BK.out 3).trans rfl;have zf_3 := zc BK.out 3;have z_4 := (zb BK.out 4).trans rfl;have zf_4 := zc BK.out 4;have z_5 := (zb BK.out 5).trans rfl;have zf_5 := zc BK.out 5;have z_6 := (zb BK.out 6).trans rfl;have zf_6 := zc BK.out 6;have zg_0 := (zb Ng.out 0).trans rfl;have zgf_0 := zc Ng.out 0;have zg'_0 := (zb Ng'.out 0).trans rfl;have zg'f_0 := zc Ng'.out 0;clear hb hbox hg)
  go_ret
  exact ⟨by rw [HP.out];rfl,HB.out⟩
set_option maxHeartbeats 4000000 in
set_option maxRecDepth 100000 in
theorem zbE.idx (a r : Int) (g : Nat) (g' : Nat) (A : Option Addr) (c : Nat) (l : List S34) (w : World) (hr : Kd.C k34 w A l.length l) (hg : w.heap[g]? = some (.cells #[.int .i64 a] 3 (0,0))) (hg' : w.heap[g']? = some (.cells #[.int .i64 r] 3 (0,0))) :
  Calls Try.prog 34 #[.slice A l.length c,.func (.func 51) #[] #[.pointer (some ⟨g,0,none⟩),.pointer (some ⟨g',0,none⟩)]] w fun e w' => e = .returned (.int .i64 (zcX (zbE.p a r) l)) ∧ Below w.heap.size w w' := by
 have hm := hr.2.1
 have HR := za.mk hr
 have Hg := za.mk hg
 have Hg' := za.mk hg'
 clear hr hg hg'
 go_enter Try.func34,Try.ntmps34
 go_wp2_with fail
 have HB0 := za.mk (Below.refl w.heap.size w)
 go_loopw [5,8] (fun v5 v8 wr => ∃ k : Nat,v8 = .int .i64 k ∧ k ≤ l.length ∧ za (∀ (j : Nat) (y : S34),j < k → l[j]? = some y → zbE.p a r y = false) ∧ za (Below w.heap.size w wr)) (fun _ v8 _ => l.length - (match v8 with | .int _ q => q | _ => 0).toNat)
 case atStart => exact ⟨0,rfl,Nat.zero_le _,⟨fun j y hj => absurd hj (Nat.not_lt_zero _)⟩,⟨by repeat (first | (with_reducible first | exact HB0.out | apply zm | apply zj | apply zp) | exact HB0.out)⟩⟩
 case round =>
  obtain ⟨k,rfl,hk,HF,HB⟩ := hrel
  by_cases hlt : k < l.length
  ·obtain ⟨ad,A3,c3,A4,c4,rfl,hx0,hx1,hx2,hx3,hx4,hx5,hx6,_,_,_,_⟩ := za7 HR.out (k : Int) (by omega) (by omega)
   replace hx0 := (HB.out.cell (World.block_lt_of_cell? w _ hx0)).trans hx0
   replace hx1 := (HB.out.cell (World.block_lt_of_cell? w _ hx1)).trans hx1
   replace hx2 := (HB.out.cell (World.block_lt_of_cell? w _ hx2)).trans hx2
   replace hx3 := (HB.out.cell (World.block_lt_of_cell? w _ hx3)).trans hx3
   replace hx4 := (HB.out.cell (World.block_lt_of_cell? w _ hx4)).trans hx4
   replace hx5 := (HB.out.cell (World.block_lt_of_cell? w _ hx5)).trans hx5
   replace hx6 := (HB.out.cell (World.block_lt_of_cell? w _ hx6)).trans hx6
   rw [Int.toNat_natCast] at hx0 hx1 hx2 hx3 hx4 hx5 hx6
   have hb : decide (k < l.length) = true := decide_eq_true hlt
   have hx : l[k]? = some (zd l (k : Int)) := by
    rw [zd,Int.toNat_natCast,List.getD_eq_getElem?_getD,List.getElem?_eq_getElem hlt];rfl
   have HX := za.mk hx
   have Ng := za.mk (zr Hg.out HB.out)
   have Ng' := za.mk (zr Hg'.out HB.out)
   clear hx
   generalize zd l (k : Int) = s at *
   obtain ⟨s0,⟨s1,s2,s3,s4,⟨s5,s6⟩⟩⟩ := s
   rcases ho : zbE.p a r ⟨s0,⟨s1,s2,s3,s4,⟨s5,s6⟩⟩⟩ with _ | _
   ·have HO := za.mk ho
    clear ho
    go_wp2_with (go_at_call 51;(with_reducible refine (zbE.odd a r s0 s1 s2 _ _ _ _ _ _ s5 s6 g g' _ Ng.out Ng'.out).mono ?_);rintro e w1 ⟨rfl,hb1⟩;rw [show (decide (s1 = a ∧ s2 = r)) = _ from HO.out];have HB1 := za.mk (zf HB.out hb1);clear hb1)
    go_roundw
    case rel =>
     refine ⟨k + 1,by go_num,by omega,⟨fun j y hj hy => ?_⟩,HB1⟩
     rcases Nat.lt_succ_iff_lt_or_eq.1 hj with h | h
     ·exact HF.out j y h hy
     ·subst h
      rw [HX.out] at hy
      injection hy with hy
      subst hy
      exact HO.out
    case measure => simp;omega
   ·have HO := za.mk ho
    clear ho
    go_wp2_with (go_at_call 51;(with_reducible refine (zbE.odd a r s0 s1 s2 _ _ _ _ _ _ s5 s6 g g' _ Ng.out Ng'.out).mono ?_);rintro e w1 ⟨rfl,hb1⟩;rw [show (decide (s1 = a ∧ s2 = r)) = _ from HO.out];have HB1 := za.mk (zf HB.out hb1);clear hb1)
    go_ret
    exact ⟨by rw [zdx HX.out HO.out HF.out];rfl,HB1.out⟩
  ·obtain rfl : k = l.length := by omega
   go_wp2_with fail
   go_ret
   exact ⟨by rw [zdy (fun j y hy => HF.out j y (List.getElem?_eq_some_iff.1 hy).1 hy)];rfl,HB.out⟩
set_option maxHeartbeats 4000000 in
set_option maxRecDepth 100000 in
theorem zbE.first (a r : Int) (g : Nat) (g' : Nat) (a0_0 : Int) (a0_1 : Int) (P0_2_ : Nat → Prop) (A0_2 : Option Addr) (c0_2 : Nat) (l0_2 : List (S34)) (r1 : ByteArray) (r2 : Int) (r3 : Int) (r4 : List (S78)) (r5 : List ByteArray) (r6 : Int) (r7 : Int) (r8 : Bool) (w : World) (hs0_2 : Kd.V k34 34 w w.heap.size (fun k_ => P0_2_ k_) (.slice A0_2 l0_2.length c0_2) l0_2) (hg : w.heap[g]? = some (.cells #[.int .i64 a] 3 (0,0))) (hg' : w.heap[g']? = some (.cells #[.int .i64 r] 3 (0,0))) (hres : ze9 (l0_2.find? (zbE.p a r)) = (r1,r2,r3,r4,r5,r6,r7,r8)) :
  Calls Try.prog 23 #[.agg #[.int .i64 a0_0,.int .i64 a0_1,.slice A0_2 l0_2.length c0_2],.func (.func 51) #[] #[.pointer (some ⟨g,0,none⟩),.pointer (some ⟨g',0,none⟩)]] w fun e w' => ∃ v3_ v4_ : Value,e = .returned (.tuple #[.agg #[.string r1,.int .i64 r2,.int .i64 r3,v3_,v4_,.int .i64 r6,.int .i64 r7],.bool r8]) ∧ Kd.V k78 78 w' w.heap.size (fun k_ => (P0_2_ k_ ∨ w.heap.size ≤ k_)) v3_ r4 ∧ Kd.V Kd.string 9 w' w.heap.size (fun k_ => (P0_2_ k_ ∨ w.heap.size ≤ k_)) v4_ r5 ∧ Below w.heap.size w w' := by
 have HS := za.mk hs0_2
 have Hg := za.mk hg
 have Hg' := za.mk hg'
 clear hs0_2 hg hg'
 rcases zg2 (zbE.p a r) l0_2 with ⟨i,x,hi,hx,hf,hidx⟩ | ⟨hf,hidx⟩
 ·rw [hf] at hres
  obtain ⟨x0,⟨x1,x2,x3,x4,⟨x5,x6⟩⟩⟩ := x
  have HI := za.mk hidx
  obtain ⟨ad,A3,c3,A4,c4,rfl,hx0,hx1,hx2,hx3,hx4,hx5,hx6,hv3,hv4⟩ := ent_at HS.out i hi _ hx
  have HV3 := za.mk hv3
  have HV4 := za.mk hv4
  simp only [ze9,tupE,Prod.mk.injEq] at hres
  obtain ⟨rfl,rfl,rfl,rfl,rfl,rfl,rfl,rfl⟩ := hres
  have hib : decide (i < l0_2.length) = true := decide_eq_true hi
  have hi0 : decide ((i : Int) < 0) = false := decide_eq_false (by omega)
  clear hx hf hidx hv3 hv4
  go_enter Try.func23,Try.ntmps23
  go_wp2_with (first
   | ((with_reducible refine zq (N := 2) rfl ?_);refine zn rfl (N := 2) rfl (cs := #[.int .i64 a0_0,.int .i64 a0_1,.slice (some ad) l0_2.length c0_2]) (t := 24) hrq ?_;intro g2 hg w2 hbox hb;have B2 := za.mk hbox;have HB2 := za.mk hb;have Ng := za.mk (zr Hg.out hb);have Ng' := za.mk (zr Hg'.out hb);have z2_0 := fun o => (zb (zg B2.out o) 0).trans rfl;have z2_1 := fun o => (zb (zg B2.out o) 1).trans rfl;have z2_2 := fun o => (zb (zg B2.out o) 2).trans rfl;clear hb hbox hg)
   | (go_at_call 34;(with_reducible refine (zbE.idx a r g g' _ _ l0_2 _ (Kd.C_below (Kd.V_reads' HS.out).2.2 (zm HB2.out _)) (zg Ng.out _) (zg Ng'.out _)).mono ?_);rintro e w3 ⟨rfl,hb⟩;rw [HI.out];have HB3 := za.mk (zf (zm HB2.out _) hb);have B4 := za.mk (zr (zbO w2 _) hb);have B22 := za.mk (zr (zg B2.out _) hb);have HLE : za (w.heap.size ≤ w2.heap.size) := ⟨zh HB2.out⟩;clear hb;have y2_0 := (zb B22.out 0).trans rfl;have y2f_0 := zc B22.out 0;have y2_1 := (zb B22.out 1).trans rfl;have y2f_1 := zc B22.out 1;have y2_2 := (zb B22.out 2).trans rfl;have y2f_2 := zc B22.out 2;have y4_0 := (zb B4.out 0).trans rfl;have y4f_0 := zc B4.out 0;have y4_1 := (zb B4.out 1).trans rfl;have y4f_1 := zc B4.out 1;have y4_2 := (zb B4.out 2).trans rfl;have y4f_2 := zc B4.out 2;have y4_3 := (zb B4.out 3).trans rfl;have y4f_3 := zc B4.out 3;have y4_4 := (zb B4.out 4).trans rfl;have y4f_4 := zc B4.out 4;have y4_5 := (zb B4.out 5).trans rfl;have y4f_5 := zc B4.out 5;have y4_6 := (zb B4.out 6).trans rfl;have y4f_6 := zc B4.out 6;have q0 := (HB3.out.cell (World.block_lt_of_cell? w _ hx0)).trans hx0;have q1 := (HB3.out.cell (World.block_lt_of_cell? w _ hx1)).trans hx1;have q2 := (HB3.out.cell (World.block_lt_of_cell? w _ hx2)).trans hx2;have q3 := (HB3.out.cell (World.block_lt_of_cell? w _ hx3)).trans hx3;have q4 := (HB3.out.cell (World.block_lt_of_cell? w _ hx4)).trans hx4;have q5 := (HB3.out.cell (World.block_lt_of_cell? w _ hx5)).trans hx5;have q6 := (HB3.out.cell (World.block_lt_of_cell? w _ hx6)).trans hx6))
  refine bodyPost_ret (zbi rfl _ _ w2.heap.size 34 _ (0,0) _ rfl (zX (zX (zX (zX (zX (zX (zX B4.out 0 _) 1 _) 2 _) 3 _) 4 _) 5 _) 6 _) Try.underlying34 rfl (by kernel_rfl)) rfl ?_
  refine ⟨_,_,rfl,Kd.V_mono (Kd.V_below HV3.out ?e1) (fun _ hk => .inl hk),Kd.V_mono (Kd.V_below HV4.out ?e1) (fun _ hk => .inl hk),?e1⟩
  exact (zl (zl (zl (zl (zl (zl (zl HB3.out HLE.out) HLE.out) HLE.out) HLE.out) HLE.out) HLE.out) HLE.out)
 ·rw [hf] at hres
  have HI := za.mk hidx
  simp only [ze9,noE,Prod.mk.injEq] at hres
  obtain ⟨rfl,rfl,rfl,rfl,rfl,rfl,rfl,rfl⟩ := hres
  clear hf hidx
  go_enter Try.func23,Try.ntmps23
  go_wp2_with (first
   | ((with_reducible refine zq (N := 2) rfl ?_);refine zn rfl (N := 2) rfl (cs := #[.int .i64 a0_0,.int .i64 a0_1,.slice A0_2 l0_2.length c0_2]) (t := 24) hrq ?_;intro g2 hg w2 hbox hb;have B2 := za.mk hbox;have HB2 := za.mk hb;have Ng := za.mk (zr Hg.out hb);have Ng' := za.mk (zr Hg'.out hb);have z2_0 := fun o => (zb (zg B2.out o) 0).trans rfl;have z2_1 := fun o => (zb (zg B2.out o) 1).trans rfl;have z2_2 := fun o => (zb (zg B2.out o) 2).trans rfl;clear hb hbox hg)
   | (go_at_call 34;(with_reducible refine (zbE.idx a r g g' _ _ l0_2 _ (Kd.C_below (Kd.V_reads' HS.out).2.2 (zm HB2.out _)) (zg Ng.out _) (zg Ng'.out _)).mono ?_);rintro e w3 ⟨rfl,hb⟩;rw [HI.out];have HB3 := za.mk (zf (zm HB2.out _) hb);have B4 := za.mk (zr (zbO w2 _) hb);have B22 := za.mk (zr (zg B2.out _) hb);have HLE : za (w.heap.size ≤ w2.heap.size) := ⟨zh HB2.out⟩;clear hb;have y2_0 := (zb B22.out 0).trans rfl;have y2f_0 := zc B22.out 0;have y2_1 := (zb B22.out 1).trans rfl;have y2f_1 := zc B22.out 1;have y2_2 := (zb B22.out 2).trans rfl;have y2f_2 := zc B22.out 2;have y4_0 := (zb B4.out 0).trans rfl;have y4f_0 := zc B4.out 0;have y4_1 := (zb B4.out 1).trans rfl;have y4f_1 := zc B4.out 1;have y4_2 := (zb B4.out 2).trans rfl;have y4f_2 := zc B4.out 2;have y4_3 := (zb B4.out 3).trans rfl;have y4f_3 := zc B4.out 3;have y4_4 := (zb B4.out 4).trans rfl;have y4f_4 := zc B4.out 4;have y4_5 := (zb B4.out 5).trans rfl;have y4f_5 := zc B4.out 5;have y4_6 := (zb B4.out 6).trans rfl;have y4f_6 := zc B4.out 6))
  refine bodyPost_ret (zbi rfl _ _ w2.heap.size 34 _ (0,0) _ rfl (zX (zX (zX (zX (zX (zX (zX B4.out 0 _) 1 _) 2 _) 3 _) 4 _) 5 _) 6 _) Try.underlying34 rfl (by kernel_rfl)) rfl ?_
  exact ⟨_,_,rfl,Kd.V_nil _ _ _ _ _,Kd.V_nil _ _ _ _ _,(zl (zl (zl (zl (zl (zl (zl HB3.out HLE.out) HLE.out) HLE.out) HLE.out) HLE.out) HLE.out) HLE.out)⟩
def zbE.f (a0_0 : Int) (a0_1 : Int) (l0_2 : List (S34)) (a1 : Int) (a2 : Int) : Option TE := some (ze9 (byE l0_2 a1 a2))
set_option maxHeartbeats 4000000 in
set_option maxRecDepth 100000 in
theorem zbE.calls (a0_0 : Int) (a0_1 : Int) (P0_2_ : Nat → Prop) (A0_2 : Option Addr) (c0_2 : Nat) (l0_2 : List (S34)) (a1 : Int) (a2 : Int) (r1 : ByteArray) (r2 : Int) (r3 : Int) (r4 : List (S78)) (r5 : List ByteArray) (r6 : Int) (r7 : Int) (r8 : Bool) (w : World) (hs0_2 : Kd.V k34 34 w w.heap.size (fun k_ => P0_2_ k_) (.slice A0_2 l0_2.length c0_2) l0_2) (h : zbE.f a0_0 a0_1 l0_2 a1 a2 = some (r1,r2,r3,r4,r5,r6,r7,r8)) :
  Calls Try.prog 32 #[.agg #[.int .i64 a0_0,.int .i64 a0_1,.slice A0_2 l0_2.length c0_2],.int .i64 a1,.int .i64 a2] w fun e w' => ∃ v3_ v4_ : Value,e = .returned (.tuple #[.agg #[.string r1,.int .i64 r2,.int .i64 r3,v3_,v4_,.int .i64 r6,.int .i64 r7],.bool r8]) ∧ Kd.V k78 78 w' w.heap.size (fun k_ => (P0_2_ k_ ∨ w.heap.size ≤ k_)) v3_ r4 ∧ Kd.V Kd.string 9 w' w.heap.size (fun k_ => (P0_2_ k_ ∨ w.heap.size ≤ k_)) v4_ r5 ∧ Below w.heap.size w w' := by
 have HRS := za.mk (show ze9 (l0_2.find? (zbE.p a1 a2)) = (r1,r2,r3,r4,r5,r6,r7,r8) from Option.some.inj h)
 have HS := za.mk hs0_2
 clear hs0_2 h
 go_enter Try.func32,Try.ntmps32
 go_wp2_with (first
  | ((with_reducible refine zq (N := 3) rfl ?_);refine zn rfl (N := 3) rfl (cs := #[.int .i64 a0_0,.int .i64 a0_1,.slice A0_2 l0_2.length c0_2]) (t := 24) hrq ?_;intro g0 hg u0 hbox hb;have B0 := za.mk hbox;have HB0 := za.mk hb;clear hb hbox hg)
  | ((with_reducible refine zq (N := 4) rfl ?_);refine zn rfl (N := 4) rfl (cs := #[.int .i64 a1]) (t := 3) hrq ?_;intro g1 hg u1 hbox hb;have C0 := za.mk (zr B0.out hb);have HB1 := za.mk (zf HB0.out hb);have B1 := za.mk hbox;clear hb hbox hg)
  | ((with_reducible refine zq (N := 5) rfl ?_);refine zn rfl (N := 5) rfl (cs := #[.int .i64 a2]) (t := 3) hrq ?_;intro g2 hg u2 hbox hb;have C1 := za.mk (zr B1.out hb);have HB2 := za.mk (zf HB1.out hb);have D1_0 := za.mk (zr C0.out hb);have B2 := za.mk hbox;have z0_0 := fun o => (zb (zg D1_0.out o) 0).trans rfl;have z0_1 := fun o => (zb (zg D1_0.out o) 1).trans rfl;have z0_2 := fun o => (zb (zg D1_0.out o) 2).trans rfl;clear hb hbox hg)
  | (go_at_call 23;(with_reducible refine (zbE.first a1 a2 g1 g2 a0_0 a0_1 (fun k_ => P0_2_ k_ ∧ k_ < w.heap.size) A0_2 c0_2 l0_2 r1 r2 r3 r4 r5 r6 r7 r8 _ (Kd.V_map HS.out (fun _ hf => Kd.F_below (Kd.F_bound hf) (zm HB2.out _))) (zg C1.out _) (zg B2.out _) HRS.out).mono ?_);rintro e w5 ⟨v3,v4,rfl,hV3,hV4,hb⟩;obtain ⟨A3,c3,rfl⟩ := Kd.V_slice hV3;obtain ⟨A4,c4,rfl⟩ := Kd.V_slice hV4;have HV3 := za.mk hV3;have HV4 := za.mk hV4;have HBX := za.mk (zf (zm HB2.out _) hb);have BX := za.mk (zr (zbO u2 _) hb);have HLE : za (w.heap.size ≤ u2.heap.size) := ⟨zh HB2.out⟩;clear hb hV3 hV4;have y_0 := (zb BX.out 0).trans rfl;have yf_0 := zc BX.out 0;have y_1 := (zb BX.out 1).trans rfl;have yf_1 := zc BX.out 1;have y_2 := (zb BX.out 2).trans rfl;have yf_2 := zc BX.out 2;have y_3 := (zb BX.out 3).trans rfl;have yf_3 := zc BX.out 3;have y_4 := (zb BX.out 4).trans rfl;have yf_4 := zc BX.out 4;have y_5 := (zb BX.out 5).trans rfl;have yf_5 := zc BX.out 5;have y_6 := (zb BX.out 6).trans rfl;have yf_6 := zc BX.out 6))
 have far : za (∀ k_,((P0_2_ k_ ∧ k_ < w.heap.size) ∨ (u2.alloc (.cells #[.string (⟨#[]⟩ : ByteArray),.int .i64 0,.int .i64 0,.slice none 0 0,.slice none 0 0,.int .i64 0,.int .i64 0] 34 (0,0))).heap.size ≤ k_) → k_ ≠ u2.heap.size) := ⟨fun k_ hk he => by
  subst he
  rcases hk with hk | hk
  ·exact Nat.lt_irrefl _ (Nat.lt_of_lt_of_le hk.2 HLE.out)
  ·exact absurd hk (by simp)⟩
 have lift : ∀ k_,((P0_2_ k_ ∧ k_ < w.heap.size) ∨ (u2.alloc (.cells #[.string (⟨#[]⟩ : ByteArray),.int .i64 0,.int .i64 0,.slice none 0 0,.slice none 0 0,.int .i64 0,.int .i64 0] 34 (0,0))).heap.size ≤ k_) → (P0_2_ k_ ∨ w.heap.size ≤ k_) := fun k_ hk => by
  rcases hk with hk | hk
  ·exact .inl hk.1
  ·exact .inr (Nat.le_trans HLE.out (Nat.le_trans (by simp) hk))
 refine bodyPost_ret (zbi rfl _ _ u2.heap.size 34 _ (0,0) _ rfl (zX (zX (zX (zX (zX (zX (zX BX.out 0 _) 1 _) 2 _) 3 _) 4 _) 5 _) 6 _) Try.underlying34 rfl (by kernel_rfl)) rfl ?_
 exact ⟨_,_,rfl,Kd.V_mono (Kd.V_far (p := ⟨u2.heap.size,6,none⟩) (Kd.V_far (p := ⟨u2.heap.size,5,none⟩) (Kd.V_far (p := ⟨u2.heap.size,4,none⟩) (Kd.V_far (p := ⟨u2.heap.size,3,none⟩) (Kd.V_far (p := ⟨u2.heap.size,2,none⟩) (Kd.V_far (p := ⟨u2.heap.size,1,none⟩) (Kd.V_far (p := ⟨u2.heap.size,0,none⟩) HV3.out far.out _) far.out _) far.out _) far.out _) far.out _) far.out _) far.out _) lift,Kd.V_mono (Kd.V_far (p := ⟨u2.heap.size,6,none⟩) (Kd.V_far (p := ⟨u2.heap.size,5,none⟩) (Kd.V_far (p := ⟨u2.heap.size,4,none⟩) (Kd.V_far (p := ⟨u2.heap.size,3,none⟩) (Kd.V_far (p := ⟨u2.heap.size,2,none⟩) (Kd.V_far (p := ⟨u2.heap.size,1,none⟩) (Kd.V_far (p := ⟨u2.heap.size,0,none⟩) HV4.out far.out _) far.out _) far.out _) far.out _) far.out _) far.out _) far.out _) lift,(zl (zl (zl (zl (zl (zl (zl HBX.out HLE.out) HLE.out) HLE.out) HLE.out) HLE.out) HLE.out) HLE.out)⟩
theorem zfN {P : Program} (w : World) (t ti ty e : TypeId) (i : TypeInfo) (z : Value) (size bytes : Nat) (ht : P.underlying t = some (.slice e)) {k : IntKind} (hti : P.underlying ti = some (.int k)) (hi : P.info? e = some i) (hz : i.zero = some z)
  (hsize : i.size = size) (hby : i.bytes = bytes) (hzs : z.cells.size = size) (hsz : 0 < size) (hb0 : 0 < bytes)
  (b : Addr) (n cap : Nat) (olds : List Value) (hlo : olds.length = n * size) (holds : ∀ j u,olds[j]? = some u → w.cell? (b.add j) = some u) (kx : IntKind) (m : Nat) (hm : 0 < m)
  (hg : cap < n + m) (hbytes : (n + m) * bytes ≤ 140737488355328) :
  ∃ v' w',(Builtin.append_ #[t,ti] ty #[.slice (some b) n cap,.int kx m]).run P w = .ok v' w' ∧ w'.ownsRow w.heap.size e size v' (n + m) (olds ++ (Builtin.zeroCells z.cells m).toList) ∧ w.grownBy w' none := by
 subst hsize
 subst hby
 have hle : n + m ≤ 140737488355328 := Nat.le_trans (Nat.le_mul_of_pos_right _ hb0) hbytes
 have h63 : n + m ≤ maxLen := by simp only [maxLen];omega
 have hw : IntKind.i64.wrap (m : Int) = m := by rw [IntKind.wrap_i64];omega
 have hneg : ¬ ((m : Int) < 0) := by omega
 have hmb : m * i.bytes ≤ 140737488355328 := Nat.le_trans (Nat.mul_le_mul_right _ (Nat.le_add_left m n)) hbytes
 have hbig : ¬ (281474976710656 < (m : Int) * (i.bytes : Int)) := by
  rw [← Int.natCast_mul]
  omega
 have hsn : i.size ≠ 0 := by omega
 obtain ⟨news,hnews⟩ : ∃ news,news = (Builtin.zeroCells z.cells m).toList := ⟨_,rfl⟩
 rw [← hnews]
 have hl : news.length = m * i.size := by rw [hnews,Array.length_toList,size_zeroCells,hzs]
 have hna : Builtin.zeroCells z.cells m = news.toArray := by rw [hnews]
 have hlen : (olds ++ news).length = (n + m) * i.size := by rw [List.length_append,hlo,hl,Nat.add_mul]
 have hge := grownCap_ge w (n + m) cap e
 have hcm : grownCap w (n + m) cap e ≤ maxLen := grownCap_le_maxLen w (n + m) cap e h63
 have hn : ¬ (n + m ≤ cap) := by omega
 have h63' : ¬ (9223372036854775807 < ((n : Int) + (m : Int))) := by omega
 have hfit := growslice_fits hg hbytes
 have h48' : ¬ (281474976710656 < Builtin.nextslicecap (n + m) cap * i.bytes) := by omega
 have hmz : ¬ (m * i.size = 0) := Nat.mul_ne_zero (by omega) hsn
 have hfo := run_firstCells_some (P := P) w.drew i.size n b n cap olds hlo (by simpa using holds)
 refine ⟨.slice (some ⟨w.heap.size,0,none⟩) (n + m) (grownCap w (n + m) cap e),w.drew.alloc (.cells (olds.toArray ++ news.toArray ++ Builtin.zeroCells z.cells (grownCap w (n + m) cap e - (n + m))) e),?_,⟨hlen,.inr ⟨w.heap.size,_,_,rfl,Nat.le_refl _,heap_alloc_new w.drew _,hge,hcm,?_,?_⟩⟩,⟨rfl,rfl,rfl,by simp,fun k hk _ => heap_alloc_old w.drew _ hk⟩⟩
 ·simp [Builtin.append_,run_underlying ht,run_underlying hti,Go.sizeOf,typeInfo,zeroValue,hi,hz,asInt,asIntOf,hw,hneg,hbig,hn,h63',h48',Question.forced,hfo,newRow,grownCap,hmz,hna]
  congr 2
  apply Array.ext'
  simp [List.append_assoc]
 ·simp only [Array.size_append,List.size_toArray,size_zeroCells,hzs,hlo,hl,← Nat.add_mul]
  congr 1
  omega
 ·simp only [Array.toList_append,List.append_assoc]
  rw [← List.append_assoc,← hlen]
  exact List.take_left
theorem rows_copy {P : Program} (w : World) (dT sT ty elem : TypeId) (g o dLen dCap : Nat) (a : Addr) (sLen sCap : Nat) (cur : Array Value) (t : TypeId) (cs : List Value) (size : Nat)
  (hu : P.underlying dT = some (.slice elem)) (hs : (P.info? elem).map (·.size) = some size)
  (hg : w.heap[g]? = some (.cells cur t (0,0))) (hn : cs.length = Nat.min sLen dLen * size)
  (hsrc : ∀ j v,cs[j]? = some v → w.cell? (a.add j) = some v) (hfit : o + cs.length ≤ cur.size) (h1 : ∀ v ∈ cs,v.oneCell' = true) :
  (Builtin.copy_ #[dT,sT] ty #[.slice (some ⟨g,o,none⟩) dLen dCap,.slice (some a) sLen sCap]).run P w =
   .ok (goInt (Nat.min sLen dLen)) (w.setRow g (cur.toList.take o ++ cs ++ cur.toList.drop (o + cs.length)).toArray) := by
 have hl := run_loadCells_list (P := P) w a cs hsrc
 have hst := run_storeCells_at P g o t cs 0 cur w hg (by simpa using hfit) h1
 cases hq : P.info? elem with
 | none => simp [hq] at hs
 | some i =>
  have hi : i.size = size := by simpa [hq] using hs
  simp [Builtin.copy_,run_underlying hu,Builtin.lenOf,Builtin.firstCells,Go.sizeOf,typeInfo,hq,hi,← hn,hl,hst]
theorem rows_apart {P : Program} (w : World) (T : TypeId) (rs : Array TypeId) (elem : TypeId) (a b : Nat) (la ca o lb cb size : Nat) (cura curb : Array Value) (e e' : TypeId) (T' : TypeId)
  (hu : P.underlying T = some (.slice elem)) (hs : (P.info? elem).map (·.size) = some size) (ha : w.heap[a]? = some (.cells cura e (0,0))) (hb : w.heap[b]? = some (.cells curb e' (0,0))) (hne : a ≠ b) :
  (Extern.SlicesOverlaps.overlaps #[T,T'] rs #[.slice (some ⟨a,0,none⟩) la ca,.slice (some ⟨b,o,none⟩) lb cb]).run P w = .ok (.bool false) w := by
 have key : (Extern.SlicesOverlaps.overlaps #[T,T'] rs #[.slice (some ⟨a,0,none⟩) la ca,.slice (some ⟨b,o,none⟩) lb cb]) = (do
   let .slice elem ← underlying T | stuck "slices.overlaps: slice type expected"
   let size ← Go.sizeOf elem
   if la = 0 ∨ lb = 0 ∨ size = 0 then pure (.bool false)
   else if (⟨a,0,none⟩ : Addr).block != (⟨b,o,none⟩ : Addr).block && (← frozen ⟨a,0,none⟩) && (← frozen ⟨b,o,none⟩) then unsupported .addressObserved
   else do
    if (⟨a,0,none⟩ : Addr).block != (⟨b,o,none⟩ : Addr).block then do
     noView ⟨a,0,none⟩;noView ⟨b,o,none⟩
     if ← mayBeOne ⟨a,0,none⟩ ⟨b,o,none⟩ then return .bool ((← choose (.extern "sameAddr.stringBytes" 2)) == 1)
    pure (.bool ((⟨a,0,none⟩ : Addr).block == (⟨b,o,none⟩ : Addr).block && (⟨a,0,none⟩ : Addr).off < (⟨b,o,none⟩ : Addr).off + lb * size && (⟨b,o,none⟩ : Addr).off < (⟨a,0,none⟩ : Addr).off + la * size)) : Sem Value) := rfl
 rw [key]
 cases hq : P.info? elem with
 | none => simp [hq] at hs
 | some i =>
  have hfa : ∀ n,w.frozen? ⟨a,n,none⟩ = false := fun n => by simp [World.frozen?,ha]
  have hfb : ∀ n,w.frozen? ⟨b,n,none⟩ = false := fun n => by simp [World.frozen?,hb]
  have hsa : w.shape? a = some (e,cura.size) := by simp [World.shape?,ha]
  have hsb : w.shape? b = some (e',curb.size) := by simp [World.shape?,hb]
  simp [run_underlying hu,Go.sizeOf,typeInfo,hq,hne,frozen,noView,viewAt,shape,mayBeOne,stringish,hfa,hfb,hsa,hsb,Sem.run]
theorem ze0 {P : Program} (w : World) {ops : Array Oper} {rest : List Oper} {o : Oper} {a : Act} {Q : Exit → Act → World → Prop}
  (hgd : o.guard = none) (s x : Operand) (t ti : TypeId) (ho : o.op = .call { callee := .builtin .append,args := #[s,x],argTypes := #[t,ti] })
  (e : TypeId) (i : TypeInfo) (z : Value) (size bytes : Nat) (ht : P.underlying t = some (.slice e)) {k : IntKind} (hti : P.underlying ti = some (.int k)) (hi : P.info? e = some i) (hz : i.zero = some z)
  (hsize : i.size = size) (hby : i.bytes = bytes) (hzs : z.cells.size = size) (hsz : 0 < size) (hb0 : 0 < bytes)
  (b : Addr) (n cap : Nat) (olds : List Value) (hs : a.eval s = .slice (some b) n cap) (hlo : olds.length = n * size) (holds : ∀ j u,olds[j]? = some u → w.cell? (b.add j) = some u) (kx : IntKind) (m : Nat) (hx : a.eval x = .int kx m) (hm : 0 < m)
  (hg : cap < n + m) (hbytes : (n + m) * bytes ≤ 140737488355328)
  (h : ∀ v' w',w'.ownsRow w.heap.size e size v' (n + m) (olds ++ (Builtin.zeroCells z.cells m).toList) → w.grownBy w' none → wpList P ops Q rest (a.put o.dst v') w') : wpList P ops Q (o :: rest) a w := by
 refine wpList_plain hgd fun K' hK' => ?_
 obtain ⟨v',w',hrun,r1,r2⟩ := zfN w t ti o.type e i z size bytes ht hti hi hz hsize hby hzs hsz hb0 b n cap olds hlo holds kx m hm hg hbytes
 unfold Oper.wp
 simp [execOp,ho,resolve,invoke,builtin,hs,hx,hrun,Result.andThen]
 exact hK' _ _ (h v' w' r1 r2)
theorem zb9 {P : Program} (w : World) {ops : Array Oper} {rest : List Oper} {o : Oper} {a : Act} {Q : Exit → Act → World → Prop}
  (hgd : o.guard = none) (d s : Operand) (dT sT : TypeId) (ho : o.op = .call { callee := .builtin .copy,args := #[d,s],argTypes := #[dT,sT] })
  (elem : TypeId) (size : Nat) (hu : P.underlying dT = some (.slice elem)) (hsz : (P.info? elem).map (·.size) = some size)
  (g off dLen dCap : Nat) (ad : Addr) (sLen sCap : Nat) (hd : a.eval d = .slice (some ⟨g,off,none⟩) dLen dCap) (hs : a.eval s = .slice (some ad) sLen sCap)
  (cur : Array Value) (t : TypeId) (hg : w.heap[g]? = some (.cells cur t (0,0))) (cs : List Value) (hn : cs.length = Nat.min sLen dLen * size) (hsrc : ∀ j v,cs[j]? = some v → w.cell? (ad.add j) = some v)
  (hfit : off + cs.length ≤ cur.size) (h1 : ∀ v ∈ cs,v.oneCell' = true)
  (h : ∀ w' : World,w' = w.setRow g (cur.toList.take off ++ cs ++ cur.toList.drop (off + cs.length)).toArray → wpList P ops Q rest (a.put o.dst (goInt (Nat.min sLen dLen))) w') : wpList P ops Q (o :: rest) a w := by
 refine wpList_plain hgd fun K' hK' => ?_
 have hrun := rows_copy (P := P) w dT sT o.type elem g off dLen dCap ad sLen sCap cur t cs size hu hsz hg hn hsrc hfit h1
 unfold Oper.wp
 simp [execOp,ho,resolve,invoke,builtin,hd,hs,hrun,Result.andThen]
 exact hK' _ _ (h _ (by rw [List.append_assoc]))
theorem cut_ext {P : Program} (t e : TypeId) (kh : IntKind) {i : TypeInfo} (ht : P.underlying t = some (.slice e)) (hi : P.info? e = some i) (A : Option Addr) (n c : Nat) (j : Int) (h0 : 0 ≤ j) (hm : j ≤ c) :
  ∀ W : World,(Instr.slice t (.slice A n c) none (some (.int kh j)) none).run P W = .ok (.slice A j.toNat c) W := by
 intro W
 have hel : P.elem t = e := by simp [Program.elem,ht]
 have hu : P.underlying t = some (.slice (P.elem t)) := by rw [hel];exact ht
 have ha : (A.map fun x => x.add 0) = A := by cases A <;> simp [Addr.add]
 rw [run_slice_h W t A n c hu kh j h0 hm,hel]
 simp [sizeOf,typeInfo,hi,sliced,Result.andThen,ha]
theorem ze5 {P : Program} (t e : TypeId) (kl : IntKind) {i : TypeInfo} (ht : P.underlying t = some (.slice e)) (hi : P.info? e = some i) (size : Nat) (hsz : i.size = size) (g n c j : Nat) (z : Int) (hz : z = j) (hm : j ≤ n) (hc : j < c) :
  ∀ W : World,(Instr.slice t (.slice (some ⟨g,0,none⟩) n c) (some (.int kl z)) none none).run P W = .ok (.slice (some ⟨g,j * size,none⟩) (n - j) (c - j)) W := by
 subst hz
 intro W
 have h := zhV (P := P) t e kl ht hi size hsz (some ⟨g,0,none⟩) n c (j : Int) (by omega) (by omega) W
 rw [Int.toNat_natCast,if_neg (by omega)] at h
 rw [h,Option.map_some,zbI]
theorem own_lay {w : World} {base : Nat} {e : TypeId} {size : Nat} {v : Value} {n : Nat} {xs : List Value} (h : w.ownsRow base e size v n xs) (hn : 0 < n) : ∃ g cap,∃ cur : Array Value,v = .slice (some ⟨g,0,none⟩) n cap ∧ base ≤ g ∧ w.heap[g]? = some (.cells cur e (0,0)) ∧ n ≤ cap ∧ cap ≤ maxLen ∧ cur.size = cap * size ∧ cur.toList.take (n * size) = xs := by
 rcases h.2 with ⟨_,h0⟩ | ⟨g,cap,cur,h1,h2,h3,h4,h7,h5,h6⟩
 ·omega
 ·exact ⟨g,cap,cur,h1,h2,h3,h4,h7,h5,h6⟩
theorem zc3 (w : World) (g : Nat) (cs : Array Value) : w.grownBy (w.setRow g cs) (some g) := ⟨rfl,rfl,rfl,by simp [World.setRow],fun k hk hne => setRow_other w g k cs (fun e => hne (by rw [e]))⟩
theorem ins_new {α : Type} (xs cs zs cur : List α) (a b : Nat) (hb : xs.length = b) (ha : a ≤ b) (h : cur.take (b + cs.length) = xs.take a ++ zs) (hl : b + cs.length ≤ cur.length) :
  (((cur.take a ++ cs ++ cur.drop (a + cs.length)).take (a + cs.length) ++ xs.drop a ++ (cur.take a ++ cs ++ cur.drop (a + cs.length)).drop (a + cs.length + (xs.drop a).length))).take (b + cs.length) = xs.take a ++ cs ++ xs.drop a := by
 have e1 : cur.take a = xs.take a := by
  have := congrArg (List.take a) h
  rwa [List.take_take,Nat.min_eq_left (by omega),List.take_append_of_le_length (by rw [List.length_take];omega),List.take_take,Nat.min_self] at this
 have l1 : (cur.take a).length = a := by rw [List.length_take];omega
 have l2 : (cur.take a ++ cs).length = a + cs.length := by rw [List.length_append,l1]
 rw [List.take_left' l2,e1]
 have l3 : (xs.take a ++ cs ++ xs.drop a).length = b + cs.length := by simp;omega
 exact List.take_left' l3
theorem ins_here {α : Type} (xs cs cur : List α) (a b : Nat) (hb : xs.length = b) (ha : a ≤ b) (h : cur.take b = xs) (hl : b + cs.length ≤ cur.length) :
  (((cur.take (a + cs.length) ++ xs.drop a ++ cur.drop (a + cs.length + (xs.drop a).length)).take a ++ cs ++ (cur.take (a + cs.length) ++ xs.drop a ++ cur.drop (a + cs.length + (xs.drop a).length)).drop (a + cs.length))).take (b + cs.length) = xs.take a ++ cs ++ xs.drop a := by
 have e1 : cur.take a = xs.take a := by rw [← h,List.take_take,Nat.min_eq_left ha]
 have l1 : (cur.take (a + cs.length)).length = a + cs.length := by rw [List.length_take];omega
 have e2 : (cur.take (a + cs.length) ++ xs.drop a ++ cur.drop (a + cs.length + (xs.drop a).length)).take a = xs.take a := by
  rw [List.append_assoc,List.take_append_of_le_length (by omega),List.take_take,Nat.min_eq_left (by omega),e1]
 have e3 : (cur.take (a + cs.length) ++ xs.drop a ++ cur.drop (a + cs.length + (xs.drop a).length)).drop (a + cs.length) = xs.drop a ++ cur.drop (a + cs.length + (xs.drop a).length) := by
  rw [List.append_assoc,List.drop_left' l1]
 rw [e2,e3,← List.append_assoc]
 have l3 : (xs.take a ++ cs ++ xs.drop a).length = b + cs.length := by simp;omega
 exact List.take_left' l3
set_option maxHeartbeats 8000000 in
set_option maxRecDepth 100000 in
theorem ins_last (A : Option Addr) (n cap : Nat) (xs : List Value) (base : Nat) (w : World) (hown : w.ownsRow base 34 7 (.slice A n cap) n xs) (hnc : n ≤ cap) (gb : Nat) (cs : List Value) (hh : w.heap[gb]? = some (.cells cs.toArray 34 (0,0))) (hcs : cs.length = 7) (h1 : ∀ u ∈ cs,u.oneCell' = true) (hl : n < 1466015503701) (hbase : base ≤ w.heap.size) :
  Calls Try.prog 37 #[.slice A n cap,.int .i64 (n : Int),.slice (some ⟨gb,0,none⟩) 1 1] w fun e w' => ∃ v' : Value,e = .returned v' ∧ w'.ownsRow base 34 7 v' (n + 1) (xs ++ cs) ∧ w.grownBy w' (Value.slice A n cap).ownBlock := by
 obtain ⟨i0,hi0,hz0,hsz,hby⟩ := info_parts zdQ
 have HO := za.mk hown
 have HI := za.mk hi0
 have HZ := za.mk hz0
 have HS := za.mk hsz
 have HY := za.mk hby
 have HBS := za.mk hbase
 have HC1 := za.mk h1
 have HCS := za.mk hcs
 have HH : za (∀ j u,cs[j]? = some u → w.cell? ((⟨gb,0,none⟩ : Addr).add j) = some u) := ⟨fun j u hj => by rw [zbI,zb hh,List.getElem?_toArray];exact hj⟩
 have hcut := zhV (P := Try.prog) 22 34 .i64 Try.underlying22 hi0 7 hsz A n cap (n : Int) (by omega) (by omega)
 obtain ⟨A2,hA2⟩ : ∃ A2,A2 = (if cap = (n : Int).toNat then A else A.map (·.add ((n : Int).toNat * 7))) := ⟨_,rfl⟩
 rw [← hA2] at hcut
 clear hA2
 have p1 : ((n : Int) ≤ (n : Int)) = True := eq_true (Int.le_refl _)
 have p2 : ((n : Int) ≤ (cap : Int)) = True := eq_true (by omega)
 clear hown hz0 hsz hby hbase h1 hcs hh hi0
 go_enter Try.func37,Try.ntmps37
 go_wp2_with (at_builtin;refine wpList_append_own _ rfl (.tmp 23) (.tmp 24) 22 rfl base 34 i0 (.agg #[.string ⟨#[]⟩,.int .i64 0,.int .i64 0,.slice none 0 0,.slice none 0 0,.int .i64 0,.int .i64 0]) 7 96 Try.underlying22 HI.out HZ.out HS.out HY.out rfl (by decide) _ n xs rfl HO.out ⟨gb,0,none⟩ 1 1 cs rfl HCS.out HH.out HC1.out ?c1 ?c2 HBS.out ?_;(case c1 => simp only [maxLen];omega);(case c2 => omega);intro v1 w1 ho hg _;have HO1 := za.mk ho;have HG1 : za (w.grownBy w1 (Value.slice A n cap).ownBlock) := ⟨hg⟩;clear ho hg)
 go_ret
 exact ⟨_,rfl,HO1.out,HG1.out⟩
set_option maxHeartbeats 16000000 in
set_option maxRecDepth 100000 in
theorem ins_grow (g n cap : Nat) (xs : List Value) (i : Nat) (hi : i < n) (base : Nat) (w : World) (hown : w.ownsRow base 34 7 (.slice (some ⟨g,0,none⟩) n cap) n xs) (hnc : cap < n + 1) (gb : Nat) (cs : List Value) (hh : w.heap[gb]? = some (.cells cs.toArray 34 (0,0))) (hcs : cs.length = 7) (h1 : ∀ u ∈ cs,u.oneCell' = true) (hx1 : ∀ u ∈ xs,u.oneCell' = true) (hl : n < 1466015503701) (hbase : base ≤ w.heap.size) :
  Calls Try.prog 37 #[.slice (some ⟨g,0,none⟩) n cap,.int .i64 (i : Int),.slice (some ⟨gb,0,none⟩) 1 1] w fun e w' => ∃ v' : Value,e = .returned v' ∧ w'.ownsRow base 34 7 v' (n + 1) (xs.take (i * 7) ++ cs ++ xs.drop (i * 7)) ∧ w.grownBy w' none := by
 obtain ⟨i0,hi0,hz0,hsz,hby⟩ := info_parts zdQ
 have hxl := hown.1
 have hcn : n ≤ cap := by
  rcases hown.2 with ⟨h0,_⟩ | ⟨_,_,_,h0,_,_,h3,_⟩
  ·cases h0
  ·injection h0 with _ _ h0;omega
 obtain ⟨cur,hg,hcm,hcz,htk⟩ : ∃ cur : Array Value,w.heap[g]? = some (.cells cur 34 (0,0)) ∧ cap ≤ maxLen ∧ cur.size = cap * 7 ∧ cur.toList.take (n * 7) = xs := by
  rcases hown.2 with ⟨h0,_⟩ | ⟨g',cap',cur',h0,_,h2,_,h4,h5,h6⟩
  ·cases h0
  ·injection h0 with h7 h8 h9
   injection h7 with h7
   injection h7 with h7 _ _
   subst h7;subst h9
   exact ⟨cur',h2,h4,h5,h6⟩
 have HG := za.mk hg
 have HXL := za.mk hxl
 have HSZ : za ((Try.prog.info? 34).map (·.size) = some 7) := ⟨by rw [hi0,Option.map_some,hsz]⟩
 have HI := za.mk hi0
 have HZ := za.mk hz0
 have HS := za.mk hsz
 have HY := za.mk hby
 have HBS := za.mk hbase
 have HC1 := za.mk h1
 have HX1 := za.mk hx1
 have HCS := za.mk hcs
 have HH0 := za.mk hh
 have HCL : za (∀ j u,xs[j]? = some u → w.cell? ⟨g,j,none⟩ = some u) := ⟨fun j u hj => by
  rw [zb hg,← Array.getElem?_toList]
  rw [← htk,List.getElem?_take] at hj
  split at hj
  ·exact hj
  ·cases hj⟩
 have hcutA := ze5 (P := Try.prog) 22 34 .i64 Try.underlying22 hi0 7 hsz g n cap i (i : Int) rfl (by omega) (by omega)
 have hcutB := cut_to (P := Try.prog) 22 34 .i64 Try.underlying22 hi0 (some ⟨g,0,none⟩) n cap (i : Int) (by omega) (by omega) hcn
 rw [Int.toNat_natCast] at hcutB
 have c1 : ((i : Int) == (n : Int)) = false := beq_eq_false_iff_ne.2 (by omega)
 have c1b : (i == n) = false := beq_eq_false_iff_ne.2 (by omega)
 have c2 : decide ((cap : Int) < (n : Int) + 1) = true := decide_eq_true (by omega)
 have c2b : decide (cap < n + 1) = true := decide_eq_true (by omega)
 have p1 : ((i : Int) ≤ (n : Int)) = True := eq_true (by omega)
 have p2 : ((i : Int) ≤ (cap : Int)) = True := eq_true (by omega)
 clear hown hz0 hsz hby hbase h1 hx1 hcs hh hi0 hg hcm hcz htk
 go_enter Try.func37,Try.ntmps37
 go_wp2_with (first
  | (at_builtin;refine ze0 _ rfl (.tmp 34) (.tmp 39) 22 3 rfl 34 i0 (.agg #[.string ⟨#[]⟩,.int .i64 0,.int .i64 0,.slice none 0 0,.slice none 0 0,.int .i64 0,.int .i64 0]) 7 96 Try.underlying22 Try.underlying3 HI.out HZ.out HS.out HY.out rfl (by decide) (by decide) ⟨g,0,none⟩ i cap (xs.take (i * 7)) rfl ?c1 ?c2 .i64 (n + 1 - i) ?c3 (by omega) (by omega) (by omega) ?_;(case c1 => (rw [List.length_take,HXL.out];omega));(case c2 => (intro j u hj;rw [zbI];rw [List.getElem?_take] at hj;split at hj;exact HCL.out j u hj;cases hj));(case c3 => (show Value.int IntKind.i64 ((n : Int) + 1 - (i : Int)) = _;congr 1;omega));intro v1 w1 ho hg;obtain ⟨g',cap',cur',rfl,hbg,hh',hle',hcm',hcz',htk'⟩ := own_lay (show w1.ownsRow w.heap.size 34 7 v1 (n + 1) _ from (show i + (n + 1 - i) = n + 1 by omega) ▸ ho) (by omega);have HG1 := za.mk hg;have HH' := za.mk hh';have HB' := za.mk hbg;have HCM := za.mk hcm';clear hcm';have HCZ := za.mk hcz';have HTK := za.mk htk';clear ho hg hh' hbg hcz' htk';have hcutC := ze5 (P := Try.prog) 22 34 .i64 Try.underlying22 HI.out 7 HS.out g' (n + 1) cap' i (i : Int) rfl (by omega) (by omega);have hcutD := ze5 (P := Try.prog) 22 34 .i64 Try.underlying22 HI.out 7 HS.out g' (n + 1) cap' (i + 1) ((i : Int) + 1) (by omega) (by omega) (by omega);have q1 : ((i : Int) ≤ (n : Int) + 1) = True := eq_true (by omega);have q2 : ((i : Int) + 1 ≤ (n : Int) + 1) = True := eq_true (by omega);have q3 : ((i : Int) ≤ (cap' : Int)) = True := eq_true (by omega);have q4 : ((i : Int) + 1 ≤ (cap' : Int)) = True := eq_true (by omega))
  | (refine zb9 _ rfl (.tmp 43) (.tmp 44) 22 22 rfl 34 7 Try.underlying22 HSZ.out g' (i * 7) (n + 1 - i) (cap' - i) ⟨gb,0,none⟩ 1 1 rfl rfl cur' 34 HH'.out cs ?d1 ?d2 ?d3 HC1.out ?_;(case d1 => (rw [HCS.out];show 7 = min 1 (n + 1 - i) * 7;rw [Nat.min_eq_left (by omega)]));(case d2 => (intro j u hj;rw [zbI,zb (zaV HH0.out HG1.out (by simp)),List.getElem?_toArray];exact hj));(case d3 => (rw [HCS.out,HCZ.out];omega));intro w2 hw2;have HW2 := za.mk hw2;clear hw2))
 have HG2 : za (w1.grownBy w2 (some g')) := ⟨by rw [HW2.out];exact zc3 w1 g' _⟩
 have HGG : za (g ≠ g') := ⟨fun he => by have := zaF HG.out;have := HB'.out;omega⟩
 have HN2 : za (w2.heap[g']? = some (.cells (cur'.toList.take (i * 7) ++ cs ++ cur'.toList.drop (i * 7 + cs.length)).toArray 34 (0,0))) := ⟨by rw [HW2.out];exact setRow_heap w1 g' _ _ _ _ HH'.out⟩
 have HC2 : za (∀ j u,(xs.drop (i * 7))[j]? = some u → w2.cell? ((⟨g,i * 7,none⟩ : Addr).add j) = some u) := ⟨fun j u hj => by
  rw [List.getElem?_drop] at hj
  have h1 := zaV (zaV HG.out HG1.out (by simp)) HG2.out (fun he => HGG.out (by injection he))
  have h0 := HCL.out _ u hj
  rw [zb HG.out] at h0
  rw [ziw,zb h1]
  exact h0⟩
 have HNE : za (w.grownBy w2 none) := ⟨⟨HG2.out.os.trans HG1.out.os,HG2.out.tape.trans HG1.out.tape,HG2.out.output.trans HG1.out.output,Nat.le_trans HG1.out.size HG2.out.size,fun k hk _ => (HG2.out.block k (Nat.lt_of_lt_of_le hk HG1.out.size) (fun he => by injection he with he;have := HB'.out;omega)).trans (HG1.out.block k hk (by simp))⟩⟩
 have s1 : IntKind.i64.wrap ((i : Int) + 1) = (i : Int) + 1 := IntWalk.i64_in _ (by omega)
 clear c1 c1b c2 c2b
 go_still_tail 8,(by kernel_rfl)
 change wpList _ _ _ _ _ w2.drew
 refine zb9 _ rfl (.tmp 50) (.tmp 53) 22 22 rfl 34 7 Try.underlying22 HSZ.out g' ((i + 1) * 7) (n - i) (cap' - (i + 1)) ⟨g,i * 7,none⟩ (n - i) (cap - i) rfl rfl _ 34 (zaa HN2.out) (xs.drop (i * 7)) ?f1 (fun j u hj => HC2.out j u hj) ?f3 (fun u hu => HX1.out u (List.mem_of_mem_drop hu)) ?_
 case f1 => (rw [List.length_drop,HXL.out];show _ = min (n - i) (n - i) * 7;rw [Nat.min_self];omega)
 case f3 =>
  have h1 : (cur'.toList.take (i * 7) ++ cs ++ cur'.toList.drop (i * 7 + cs.length)).toArray.size = cur'.size := by
   simp only [List.size_toArray,List.length_append,List.length_take,List.length_drop,Array.length_toList]
   have := HCZ.out;have := HCS.out;omega
  rw [h1,List.length_drop,HXL.out];have := HCZ.out;omega
 intro w3 hw3
 have HW3 := za.mk hw3
 clear hw3
 clear hcutA hcutB hcutC hcutD s1 q1 q2 q3 q4 p1 p2
 go_wp2
 go_ret
 have HG3 : w2.drew.grownBy w3 (some g') := by rw [HW3.out];exact zc3 _ g' _
 have HN3 : w3.heap[g']? = some (.cells (((cur'.toList.take (i * 7) ++ cs ++ cur'.toList.drop (i * 7 + cs.length)).toArray).toList.take ((i + 1) * 7) ++ xs.drop (i * 7) ++ ((cur'.toList.take (i * 7) ++ cs ++ cur'.toList.drop (i * 7 + cs.length)).toArray).toList.drop ((i + 1) * 7 + (xs.drop (i * 7)).length)).toArray 34 (0,0)) := by rw [HW3.out];exact setRow_heap _ g' _ _ _ _ (zaa HN2.out)
 refine ⟨_,rfl,⟨?_,.inr ⟨g',cap',_,rfl,Nat.le_trans HBS.out HB'.out,HN3,by omega,HCM.out,?_,?_⟩⟩,⟨HG3.os.trans HNE.out.os,HG3.tape.trans HNE.out.tape,HG3.output.trans HNE.out.output,Nat.le_trans HNE.out.size HG3.size,fun k hk _ => (HG3.block k (Nat.lt_of_lt_of_le hk HNE.out.size) (fun he => by injection he with he;have := HB'.out;omega)).trans (HNE.out.block k hk (by simp))⟩⟩
 ·simp only [List.length_append,List.length_take,List.length_drop,HXL.out,HCS.out];omega
 ·simp only [List.size_toArray,List.length_append,List.length_take,List.length_drop,Array.length_toList,HXL.out,HCS.out,HCZ.out];omega
 ·have h1 := ins_new xs cs ((Builtin.zeroCells (Value.cells (.agg #[.string ⟨#[]⟩,.int .i64 0,.int .i64 0,.slice none 0 0,.slice none 0 0,.int .i64 0,.int .i64 0])) (n + 1 - i)).toList) cur'.toList (i * 7) (n * 7) HXL.out (by omega) (by rw [HCS.out];have h0 := HTK.out;rwa [Nat.add_mul,Nat.one_mul] at h0) (by rw [HCS.out,Array.length_toList,HCZ.out];omega)
  rw [HCS.out] at h1
  simpa [HCS.out,Nat.add_mul] using h1
set_option maxHeartbeats 16000000 in
set_option maxRecDepth 100000 in
theorem ins_room (g n cap : Nat) (xs : List Value) (i : Nat) (hi : i < n) (base : Nat) (w : World) (hown : w.ownsRow base 34 7 (.slice (some ⟨g,0,none⟩) n cap) n xs) (hnc : n + 1 ≤ cap) (gb : Nat) (hgb : gb ≠ g) (cs : List Value) (hh : w.heap[gb]? = some (.cells cs.toArray 34 (0,0))) (hcs : cs.length = 7) (h1 : ∀ u ∈ cs,u.oneCell' = true) (hx1 : ∀ u ∈ xs,u.oneCell' = true) (hl : n < 1466015503701) (hbase : base ≤ w.heap.size) :
  Calls Try.prog 37 #[.slice (some ⟨g,0,none⟩) n cap,.int .i64 (i : Int),.slice (some ⟨gb,0,none⟩) 1 1] w fun e w' => ∃ v' : Value,e = .returned v' ∧ w'.ownsRow base 34 7 v' (n + 1) (xs.take (i * 7) ++ cs ++ xs.drop (i * 7)) ∧ w.grownBy w' (some g) := by
 obtain ⟨i0,hi0,hz0,hsz,hby⟩ := info_parts zdQ
 have hxl := hown.1
 have hcn : n ≤ cap := by
  rcases hown.2 with ⟨h0,_⟩ | ⟨_,_,_,h0,_,_,h3,_⟩
  ·cases h0
  ·injection h0 with _ _ h0;omega
 obtain ⟨cur,hg,hcm,hcz,htk⟩ : ∃ cur : Array Value,w.heap[g]? = some (.cells cur 34 (0,0)) ∧ cap ≤ maxLen ∧ cur.size = cap * 7 ∧ cur.toList.take (n * 7) = xs := by
  rcases hown.2 with ⟨h0,_⟩ | ⟨g',cap',cur',h0,_,h2,_,h4,h5,h6⟩
  ·cases h0
  ·injection h0 with h7 h8 h9
   injection h7 with h7
   injection h7 with h7 _ _
   subst h7;subst h9
   exact ⟨cur',h2,h4,h5,h6⟩
 have HG := za.mk hg
 have HXL := za.mk hxl
 have HSZ : za ((Try.prog.info? 34).map (·.size) = some 7) := ⟨by rw [hi0,Option.map_some,hsz]⟩
 have HI := za.mk hi0
 have HZ := za.mk hz0
 have HS := za.mk hsz
 have HY := za.mk hby
 have HBS := za.mk hbase
 have HC1 := za.mk h1
 have HX1 := za.mk hx1
 have HCS := za.mk hcs
 have HH0 := za.mk hh
 have HCL : za (∀ j u,xs[j]? = some u → w.cell? ⟨g,j,none⟩ = some u) := ⟨fun j u hj => by
  rw [zb hg,← Array.getElem?_toList]
  rw [← htk,List.getElem?_take] at hj
  split at hj
  ·exact hj
  ·cases hj⟩
 have hcutA := ze5 (P := Try.prog) 22 34 .i64 Try.underlying22 hi0 7 hsz g n cap i (i : Int) rfl (by omega) (by omega)
 have hcutB := cut_ext (P := Try.prog) 22 34 .i64 Try.underlying22 hi0 (some ⟨g,0,none⟩) n cap ((n : Int) + 1) (by omega) (by omega)
 rw [show ((n : Int) + 1).toNat = n + 1 by omega] at hcutB
 have hcutC := ze5 (P := Try.prog) 22 34 .i64 Try.underlying22 hi0 7 hsz g (n + 1) cap (i + 1) ((i : Int) + 1) (by omega) (by omega) (by omega)
 have hcutD := ze5 (P := Try.prog) 22 34 .i64 Try.underlying22 hi0 7 hsz g (n + 1) cap i (i : Int) rfl (by omega) (by omega)
 have HLEN := za.mk hcz
 have HNG := za.mk hgb
 have HBG : za (base ≤ g) := ⟨zcd hown g rfl⟩
 have HCM := za.mk hcm
 have HTK := za.mk htk
 have hov : ∀ (o lb cb : Nat),(callFunc 53 #[.slice (some ⟨gb,0,none⟩) 1 1,.slice (some ⟨g,o,none⟩) lb cb]).run Try.prog w = .ok (.value (.bool false)) w := fun o lb cb => by
  rw [run_callFunc_extern Try.func53 (by kernel_rfl) rfl (by kernel_rfl) rfl]
  show ((Extern.SlicesOverlaps.overlaps #[22,22] #[4] #[.slice (some ⟨gb,0,none⟩) 1 1,.slice (some ⟨g,o,none⟩) lb cb]).run Try.prog w).andThen (fun v w' => Result.ok (Next.value v) w') = _
  rw [rows_apart w 22 _ 34 gb g 1 1 o lb cb 7 _ _ 34 34 22 Try.underlying22 HSZ.out hh hg hgb]
  rfl
 have c1 : ((i : Int) == (n : Int)) = false := beq_eq_false_iff_ne.2 (by omega)
 have c1b : (i == n) = false := beq_eq_false_iff_ne.2 (by omega)
 have c2 : decide ((cap : Int) < (n : Int) + 1) = false := decide_eq_false (by omega)
 have c2b : decide (cap < n + 1) = false := decide_eq_false (by omega)
 have p1 : ((i : Int) ≤ (n : Int)) = True := eq_true (by omega)
 have p2 : ((i : Int) ≤ (cap : Int)) = True := eq_true (by omega)
 clear hown hz0 hsz hby hbase h1 hx1 hcs hh hi0 hg hcm hcz htk hgb
 go_enter Try.func37,Try.ntmps37
 go_wp2_with fail
 have s1 : IntKind.i64.wrap ((i : Int) + 1) = (i : Int) + 1 := IntWalk.i64_in _ (by omega)
 have q1 : ((i : Int) ≤ (n : Int) + 1) = True := eq_true (by omega)
 have q2 : ((i : Int) + 1 ≤ (n : Int) + 1) = True := eq_true (by omega)
 have q3 : ((i : Int) + 1 ≤ (cap : Int)) = True := eq_true (by omega)
 clear c1 c1b c2 c2b hov
 go_still_tail 8,(by kernel_rfl)
 change wpList _ _ _ _ _ w.drew
 refine zb9 _ rfl (.tmp 73) (.tmp 76) 22 22 rfl 34 7 Try.underlying22 HSZ.out g ((i + 1) * 7) (n - i) (cap - (i + 1)) ⟨g,i * 7,none⟩ (n + 1 - i) (cap - i) rfl rfl cur 34 (zaa HG.out) (xs.drop (i * 7)) ?f1 ?f2 ?f3 (fun u hu => HX1.out u (List.mem_of_mem_drop hu)) ?_
 case f1 => (rw [List.length_drop,HXL.out];show _ = min (n + 1 - i) (n - i) * 7;rw [Nat.min_eq_right (by omega)];omega)
 case f2 => (intro j u hj;rw [List.getElem?_drop] at hj;rw [ziw];exact HCL.out _ u hj)
 case f3 => (rw [List.length_drop,HXL.out,HLEN.out];omega)
 intro w2 hw2
 have HG2 : za (w.drew.grownBy w2 (some g)) := ⟨by rw [hw2];exact zc3 _ g _⟩
 have HN2 : za (w2.heap[g]? = some (.cells (cur.toList.take ((i + 1) * 7) ++ xs.drop (i * 7) ++ cur.toList.drop ((i + 1) * 7 + (xs.drop (i * 7)).length)).toArray 34 (0,0))) := ⟨by rw [hw2];exact setRow_heap _ g _ _ _ _ (zaa HG.out)⟩
 have HL2 : za (((cur.toList.take ((i + 1) * 7) ++ xs.drop (i * 7) ++ cur.toList.drop ((i + 1) * 7 + (xs.drop (i * 7)).length)).toArray).size = cap * 7) := ⟨by
  simp only [List.size_toArray,List.length_append,List.length_take,List.length_drop,Array.length_toList,HXL.out,HLEN.out];omega⟩
 have HS2 : za (∀ j u,cs[j]? = some u → w2.cell? ((⟨gb,0,none⟩ : Addr).add j) = some u) := ⟨fun j u hj => by rw [zbI,zb (zaV (zaa HH0.out) HG2.out (fun he => HNG.out (by injection he))),List.getElem?_toArray];exact hj⟩
 clear hw2 hcutC q2 q3 s1
 go_wp2_with (refine zb9 _ rfl (.tmp 80) (.tmp 81) 22 22 rfl 34 7 Try.underlying22 HSZ.out g (i * 7) (n + 1 - i) (cap - i) ⟨gb,0,none⟩ 1 1 rfl rfl _ 34 HN2.out cs ?d1 HS2.out ?d3 HC1.out ?_;(case d1 => (rw [HCS.out];show 7 = min 1 (n + 1 - i) * 7;rw [Nat.min_eq_left (by omega)]));(case d3 => (rw [HL2.out,HCS.out];omega));intro w3 hw3;have HW3 := za.mk hw3;clear hw3)
 go_ret
 have HG3 : w2.grownBy w3 (some g) := by rw [HW3.out];exact zc3 _ g _
 have HN3 : w3.heap[g]? = some (.cells (((cur.toList.take ((i + 1) * 7) ++ xs.drop (i * 7) ++ cur.toList.drop ((i + 1) * 7 + (xs.drop (i * 7)).length)).toArray).toList.take (i * 7) ++ cs ++ ((cur.toList.take ((i + 1) * 7) ++ xs.drop (i * 7) ++ cur.toList.drop ((i + 1) * 7 + (xs.drop (i * 7)).length)).toArray).toList.drop (i * 7 + cs.length)).toArray 34 (0,0)) := by rw [HW3.out];exact setRow_heap _ g _ _ _ _ HN2.out
 refine ⟨_,rfl,⟨?_,.inr ⟨g,cap,_,rfl,HBG.out,HN3,by omega,HCM.out,?_,?_⟩⟩,World.grownBy.trans (show w.grownBy w2 (some g) from ⟨HG2.out.os,HG2.out.tape,HG2.out.output,HG2.out.size,HG2.out.block⟩) HG3⟩
 ·simp only [List.length_append,List.length_take,List.length_drop,HXL.out,HCS.out];omega
 ·simp only [List.size_toArray,List.length_append,List.length_take,List.length_drop,Array.length_toList,HXL.out,HCS.out,HLEN.out];omega
 ·have h1 := ins_here xs cs cur.toList (i * 7) (n * 7) HXL.out (by omega) HTK.out (by rw [HCS.out,Array.length_toList,HLEN.out];omega)
  rw [HCS.out] at h1
  simpa [HCS.out,Nat.add_mul] using h1
def RE (w0 : World) (P : Nat → Prop) (x : Ent) (cs : List Value) : Prop := Kd.FK k34 w0 P x cs
abbrev ze2 (w0 : World) (P : Nat → Prop) (W : World) (base : Nat) (v : Value) (L : List Ent) : Prop := zbh (RE w0 P) 34 7 W base v L
theorem zhd {w0 : World} {P : Nat → Prop} {x : Ent} {cs : List Value} (h : RE w0 P x cs) : cs.length = 7 := (k34).K_len (Kd.FK_now h)
theorem zf2 {w0 : World} {P : Nat → Prop} {x : Ent} {cs : List Value} (h : RE w0 P x cs) : ∀ u ∈ cs,u.oneCell' = true := (k34).K_one (Kd.FK_now h)
theorem OwnE_V {w0 W : World} {P : Nat → Prop} {base b e : Nat} {v : Value} {L : List Ent} (h : ze2 w0 P W base v L) (hb : Below w0.heap.size w0 W) (hbase : w0.heap.size ≤ base) : Kd.V k34 e W b (fun k_ => P k_ ∨ w0.heap.size ≤ k_) v L := by
 obtain ⟨inner,ho,hr⟩ := h
 obtain ⟨A,c,rfl,hc,_⟩ := zbh.reads (⟨inner,ho,hr⟩ : ze2 w0 P W base v L)
 refine Kd.V_mk hc (fun W' hW => ?_)
 have ho' : W'.ownsRow base 34 7 (.slice A L.length c) L.length inner := zgm ho (fun k hk => hW k (.inr (Nat.le_trans hbase (zcd ho k hk))) (zgl ho k hk))
 obtain ⟨A',c',he,_,hrd⟩ := zbh.reads (⟨inner,ho',zaC.imp_ hr (fun x cs hx => hx W' (fun k hP hk => (hW k (.inl hP) (Nat.lt_of_lt_of_le hk hb.size)).trans (hb.block k hk)))⟩ : zbh ((k34).K W') 34 7 W' base (.slice A L.length c) L)
 injection he with h1 _ _
 subst h1
 exact hrd
theorem grown_any {w w' : World} (h : w.grownBy w' none) (row : Option Nat) : w.grownBy w' row := ⟨h.os,h.tape,h.output,h.size,fun k hk _ => h.block k hk (by simp)⟩
theorem zhZ (w0 : World) (P : Nat → Prop) (w : World) (base : Nat) (v : Value) (L : List Ent) (i : Nat) (hi : i ≤ L.length) (x : Ent) (gb : Nat) (cs : List Value) (ho : ze2 w0 P w base v L) (hh : w.heap[gb]? = some (.cells cs.toArray 34 (0,0))) (hx : RE w0 P x cs) (hgb : some gb ≠ v.ownBlock) (hbase : base ≤ w.heap.size) (hl : L.length < 1466015503701) :
  Calls Try.prog 37 #[v,.int .i64 (i : Int),.slice (some ⟨gb,0,none⟩) 1 1] w fun e w' => ∃ v' : Value,e = .returned v' ∧ ze2 w0 P w' base v' (L.take i ++ x :: L.drop i) ∧ w.grownBy w' v.ownBlock := by
 obtain ⟨inner,ho,hr⟩ := ho
 have hlen := hr.1
 have key : ∀ cs',cs' = inner.take (i * 7) ++ cs ++ inner.drop (i * 7) → zaC (RE w0 P) 7 (L.take i ++ x :: L.drop i) cs' := fun cs' he => by
  rw [he,show L.take i ++ x :: L.drop i = L.take i ++ [x] ++ L.drop i by simp]
  exact Kd.reps_append (zaC.snoc (Kd.reps_take hr hi) hx (zhd hx)) (Kd.reps_drop hr)
 have hln : (L.take i ++ x :: L.drop i).length = L.length + 1 := by simp;omega
 obtain ⟨A,cap,rfl⟩ := zfe ho
 have hnc : L.length ≤ cap := by
  rcases ho.2 with ⟨h0,h1⟩ | ⟨_,_,_,h0,_,_,h3,_⟩
  ·rw [h1];exact Nat.zero_le _
  ·injection h0 with _ _ h0;omega
 by_cases hin : i = L.length
 ·subst hin
  refine (ins_last A L.length cap inner base w ho hnc gb cs hh (zhd hx) (zf2 hx) hl hbase).mono ?_
  rintro e w' ⟨v',rfl,h1,h2⟩
  refine ⟨v',rfl,⟨_,by rw [hln];exact h1,key _ ?_⟩,h2⟩
  rw [List.take_of_length_le (by omega),List.drop_of_length_le (by omega),List.append_nil]
 ·rcases ho.2 with ⟨_,h1⟩ | ⟨g,cap',cur,h0,h1⟩
  ·omega
  injection h0 with h2 _ h3
  subst h2;subst h3
  have hone := Kd.reps_one hr (by decide) (fun p c hp => zf2 hp)
  by_cases hcap : cap < L.length + 1
  ·refine (ins_grow g L.length cap inner i (by omega) base w ho hcap gb cs hh (zhd hx) (zf2 hx) hone hl hbase).mono ?_
   rintro e w' ⟨v',rfl,h4,h5⟩
   exact ⟨v',rfl,⟨_,by rw [hln];exact h4,key _ rfl⟩,grown_any h5 _⟩
  ·refine (ins_room g L.length cap inner i (by omega) base w ho (by omega) gb (fun he => hgb (by rw [he];rfl)) cs hh (zhd hx) (zf2 hx) hone hl hbase).mono ?_
   rintro e w' ⟨v',rfl,h4,h5⟩
   exact ⟨v',rfl,⟨_,by rw [hln];exact h4,key _ rfl⟩,h5⟩
set_option maxHeartbeats 4000000 in
set_option maxRecDepth 100000 in
theorem ziA (w0 : World) (P : Nat → Prop) (w : World) (A : Option Addr) (c : Nat) (L : List Ent) (hf : Kd.F k34 w0 P A L.length L) (hb : Below w0.heap.size w0 w) (hl : L.length < 1466015503701) :
  Calls Try.prog 38 #[.slice A L.length c] w fun e w' => ∃ v' : Value,e = .returned v' ∧ ze2 w0 P w' w.heap.size v' L ∧ Below w.heap.size w w' := by
 have hrows := Kd.F_rows hf
 have heq := Lib.run_eql_slice_nil w 22 34 A L.length c 0 0 Try.underlying22
 rcases A with _ | ad
 ·have hn : L = [] := by
   rcases L with _ | ⟨y,L⟩
   ·rfl
   ·obtain ⟨ad,h0,_⟩ := hrows.2.2 (by simp)
    cases h0
  subst hn
  clear hrows hf
  simp only [List.length_nil,Option.isNone_none] at heq ⊢
  go_enter Try.func38,Try.ntmps38
  go_wp2_with fail
  go_ret
  exact ⟨_,rfl,zbh.none_ _ _ _ _ _,Below.refl _ _⟩
 ·obtain ⟨inner,hr,hcell⟩ := hrows.inner_
  simp only [Option.isNone_some] at heq
  obtain ⟨i0,hi0,hz0,hsz,hby⟩ := info_parts zdQ
  have hone := Kd.reps_one hr (by decide) (fun p c hp => zf2 (w0 := w0) (P := P) hp)
  have hil : inner.length = L.length * 7 := hr.1
  have HL : za (∀ (o : Obj) j u,inner[j]? = some u → (w.alloc o).cell? (ad.add j) = some u) := ⟨fun o j u hj => ((hb.alloc hb.size o).cell (World.block_lt_of_cell? w0 _ (hcell j u hj))).trans (hcell j u hj)⟩
  have HI := za.mk hi0
  have HZ := za.mk hz0
  have HS := za.mk hsz
  have HY := za.mk hby
  have HO := za.mk hone
  have HN := za.mk hil
  have HR := za.mk hr
  clear hi0 hz0 hsz hby hone hil hr hcell hrows hf hb
  go_enter Try.func38,Try.ntmps38
  go_wp2_with (at_builtin;refine wpList_append_own _ rfl (.tmp 5) (.tmp 6) 22 rfl w.heap.size 34 i0 (.agg #[.string ⟨#[]⟩,.int .i64 0,.int .i64 0,.slice none 0 0,.slice none 0 0,.int .i64 0,.int .i64 0]) 7 96 Try.underlying22 HI.out HZ.out HS.out HY.out rfl (by decide) (.slice (some ⟨w.heap.size,0,none⟩) 0 0) 0 [] rfl ⟨rfl,.inr ⟨w.heap.size,0,#[],rfl,Nat.le_refl _,heap_alloc_new w _,Nat.le_refl _,Nat.zero_le _,rfl,rfl⟩⟩ ad L.length c inner rfl HN.out (HL.out _) HO.out ?c1 ?c2 (by simp) ?_;(case c1 => simp only [maxLen];omega);(case c2 => omega);intro v1 w1 ho hg _;have HO1 := za.mk ho;have HG1 := za.mk hg;clear ho hg)
  go_ret
  refine ⟨_,rfl,⟨inner,?_,HR.out⟩,?_⟩
  ·have h_ := HO1.out
   rwa [Nat.zero_add,List.nil_append] at h_
  ·exact zde (zm (Below.refl w.heap.size w) _) _ (by simp) HG1.out (fun k hk => Nat.le_of_eq (by simpa [Value.ownBlock] using hk))
end Go.Proofs.Ytndjfdakflaggaa.Px