/- Part 18 of 30 of the proof of the law DagPasts: what is proved is the statement at the end of the last part; its conditions are those of the given row. -/
import Derived.Test.YtndjfdakflaggaaZDagPastsQ
namespace Go.Proofs.Ytndjfdakflaggaa.Px
open Go.RowKit Go.Proofs.YtndjfdakflaggaaW.PrintWords Go.Proofs.YtndjfdakflaggaaW.PrintLast Go.Proofs.YtndjfdakflaggaaW.PrintMore
attribute [local go_sem] zt zv zA zB zq zr zu zw
set_option linter.unusedVariables false
set_option linter.unusedSimpArgs false
set_option maxHeartbeats 8000000 in
set_option maxRecDepth 100000 in
theorem zbd.no (n low : Int) (P0 : Nat → Prop) (A0 : Option Addr) (c0 : Nat) (L : List Ent) (g : ByteArray) (lo : Int) (t0 : ByteArray) (t1 t2 : Int) (t3 : List S78) (t4 : List ByteArray) (t5 t6 : Int) (b : Bool) (w : World) (hs : Kd.V k34 34 w w.heap.size (fun k_ => P0 k_) (.slice A0 L.length c0) L) (hf : z9.f n low L g = some (t0,t1,t2,t3,t4,t5,t6,b)) (hl : L.length < 1466015503701) (hb : b = false) :
  Calls Try.prog 11 #[.agg #[.int .i64 n,.int .i64 low,.slice A0 L.length c0],.string g,.int .i64 lo] w fun e w' => e = .returned (.slice none 0 0) ∧ Below w.heap.size w w' := by
 have HV := za.mk hs
 have HF := za.mk hf
 have HL := za.mk hl
 have Hw := za.mk (Below.refl w.heap.size w)
 clear hs hf hl
 subst hb
 go_enter Try.func11,Try.ntmps11
 go_wp2_with (first
  | ((with_reducible refine zp (N := 3) rfl ?_);refine zn rfl (N := 3) rfl (cs := #[.int .i64 n,.int .i64 low,.slice A0 L.length c0]) (t := 24) hrq ?_;intro g3 hg w3 hbox hb;have Gw_g3 := za.mk (adg Hw.out hg);replace Hw := za.mk (adl Hw.out hb);have Bg3 := za.mk hbox;clear hbox hb hg;obtain ⟨zg3_0,zg3_1,zg3_2,fg3_0,fg3_1,fg3_2⟩ := hcq3 Bg3.out)
  | (go_at_call 8;refine (z9.calls n low P0 A0 c0 L g t0 t1 t2 t3 t4 t5 t6 _ _ (Kd.V_map (Kd.V_below HV.out Hw.out) (fun _ hf_ => hf_)) HF.out).mono ?_;rintro e w4 ⟨v3,v4,rfl,hV3,hV4,hb⟩;clear zg3_0 zg3_1 zg3_2 fg3_0 fg3_1 fg3_2;replace Bg3 := za.mk (adb Bg3.out hb);replace Hw := za.mk (adl Hw.out hb);obtain ⟨A3,c3,rfl⟩ := Kd.V_slice hV3;obtain ⟨A4,c4,rfl⟩ := Kd.V_slice hV4;clear hV3 hV4;clear hb;obtain ⟨zg3_0,zg3_1,zg3_2,fg3_0,fg3_1,fg3_2⟩ := hcq3 Bg3.out)
  | ((with_reducible refine zp (N := 7) rfl ?_);refine zn rfl (N := 7) rfl (cs := #[.string (⟨#[]⟩ : ByteArray),.int .i64 0,.int .i64 0,.slice none 0 0,.slice none 0 0,.int .i64 0,.int .i64 0]) (t := 34) hrq ?_;intro g7 hg w5 hbox hb;have Gw_g7 := za.mk (adg Hw.out hg);have Ng3_g7 := za.mk (adn hg Bg3.out);clear zg3_0 zg3_1 zg3_2 fg3_0 fg3_1 fg3_2;replace Bg3 := za.mk (adb Bg3.out hb);replace Hw := za.mk (adl Hw.out hb);have Bg7 := za.mk hbox;clear hbox hb hg;obtain ⟨zg7_0,zg7_1,zg7_2,zg7_3,zg7_4,zg7_5,zg7_6,fg7_0,fg7_1,fg7_2,fg7_3,fg7_4,fg7_5,fg7_6⟩ := hcq7 Bg7.out)
  | ((with_reducible refine z6 (t := 34) (p := 7) rfl ?_);refine zT (t := 34) (p := 7) (v := _) (w1 := (World.setCell (World.setCell (World.setCell (World.setCell (World.setCell (World.setCell (World.setCell w5 ⟨g7,0,none⟩ (.string t0)) ⟨g7,1,none⟩ (.int .i64 t1)) ⟨g7,2,none⟩ (.int .i64 t2)) ⟨g7,3,none⟩ (.slice A3 t3.length c3)) ⟨g7,4,none⟩ (.slice A4 t4.length c4)) ⟨g7,5,none⟩ (.int .i64 t5)) ⟨g7,6,none⟩ (.int .i64 t6))) rfl rfl rfl hrq ?_;intro w6 hw;clear zg7_0 zg7_1 zg7_2 zg7_3 zg7_4 zg7_5 zg7_6 fg7_0 fg7_1 fg7_2 fg7_3 fg7_4 fg7_5 fg7_6;replace Bg3 := za.mk (adf hw Ng3_g7.out Bg3.out);replace Bg7 : za (w6.heap[g7]? = some (.cells #[.string t0,.int .i64 t1,.int .i64 t2,.slice A3 t3.length c3,.slice A4 t4.length c4,.int .i64 t5,.int .i64 t6] 34 (0,0))) := ⟨adp hw Bg7.out⟩;replace Hw := za.mk (ads hw Gw_g7.out Hw.out);clear hw;obtain ⟨zg3_0,zg3_1,zg3_2,fg3_0,fg3_1,fg3_2⟩ := hcq3 Bg3.out;obtain ⟨zg7_0,zg7_1,zg7_2,zg7_3,zg7_4,zg7_5,zg7_6,fg7_0,fg7_1,fg7_2,fg7_3,fg7_4,fg7_5,fg7_6⟩ := hcq7 Bg7.out))
 go_ret
 exact ⟨rfl,Hw.out⟩
set_option maxHeartbeats 8000000 in
set_option maxRecDepth 100000 in
theorem zbd.yes (n low : Int) (P0 : Nat → Prop) (A0 : Option Addr) (c0 : Nat) (L : List Ent) (g : ByteArray) (lo : Int) (t0 : ByteArray) (t1 t2 : Int) (t3 : List S78) (t4 : List ByteArray) (t5 t6 : Int) (b : Bool) (w : World) (hs : Kd.V k34 34 w w.heap.size (fun k_ => P0 k_) (.slice A0 L.length c0) L) (hf : z9.f n low L g = some (t0,t1,t2,t3,t4,t5,t6,b)) (hl : L.length < 1466015503701) (hb : b = true) :
  Calls Try.prog 11 #[.agg #[.int .i64 n,.int .i64 low,.slice A0 L.length c0],.string g,.int .i64 lo] w fun e w' => ∃ v0_ : Value,e = .returned v0_ ∧ Kd.V k34 34 w' w.heap.size (fun k_ => (P0 k_ ∨ w.heap.size ≤ k_)) v0_ (L.filter (zd7 (zaV L t2 t0 (zcI L t2)).1 lo)) ∧ Below w.heap.size w w' := by
 have hlm := (Kd.V_reads' hs).2.2.2.1
 have HV := za.mk hs
 have HF := za.mk hf
 have HL := za.mk hl
 have Hw := za.mk (Below.refl w.heap.size w)
 clear hs hf hl
 subst hb
 go_enter Try.func11,Try.ntmps11
 go_wp2_with (first
  | ((with_reducible refine zp (N := 3) rfl ?_);refine zn rfl (N := 3) rfl (cs := #[.int .i64 n,.int .i64 low,.slice A0 L.length c0]) (t := 24) hrq ?_;intro g3 hg w3 hbox hb;have Gw_g3 := za.mk (adg Hw.out hg);replace Hw := za.mk (adl Hw.out hb);have Bg3 := za.mk hbox;clear hbox hb hg;obtain ⟨zg3_0,zg3_1,zg3_2,fg3_0,fg3_1,fg3_2⟩ := hcq3 Bg3.out)
  | (go_at_call 8;refine (z9.calls n low P0 A0 c0 L g t0 t1 t2 t3 t4 t5 t6 _ _ (Kd.V_map (Kd.V_below HV.out Hw.out) (fun _ hf_ => hf_)) HF.out).mono ?_;rintro e w4 ⟨v3,v4,rfl,hV3,hV4,hb⟩;clear zg3_0 zg3_1 zg3_2 fg3_0 fg3_1 fg3_2;replace Bg3 := za.mk (adb Bg3.out hb);replace Hw := za.mk (adl Hw.out hb);obtain ⟨A3,c3,rfl⟩ := Kd.V_slice hV3;obtain ⟨A4,c4,rfl⟩ := Kd.V_slice hV4;clear hV3 hV4;clear hb;obtain ⟨zg3_0,zg3_1,zg3_2,fg3_0,fg3_1,fg3_2⟩ := hcq3 Bg3.out)
  | ((with_reducible refine zp (N := 7) rfl ?_);refine zn rfl (N := 7) rfl (cs := #[.string (⟨#[]⟩ : ByteArray),.int .i64 0,.int .i64 0,.slice none 0 0,.slice none 0 0,.int .i64 0,.int .i64 0]) (t := 34) hrq ?_;intro g7 hg w5 hbox hb;have Gw_g7 := za.mk (adg Hw.out hg);have Ng3_g7 := za.mk (adn hg Bg3.out);clear zg3_0 zg3_1 zg3_2 fg3_0 fg3_1 fg3_2;replace Bg3 := za.mk (adb Bg3.out hb);replace Hw := za.mk (adl Hw.out hb);have Bg7 := za.mk hbox;clear hbox hb hg;obtain ⟨zg7_0,zg7_1,zg7_2,zg7_3,zg7_4,zg7_5,zg7_6,fg7_0,fg7_1,fg7_2,fg7_3,fg7_4,fg7_5,fg7_6⟩ := hcq7 Bg7.out)
  | ((with_reducible refine z6 (t := 34) (p := 7) rfl ?_);refine zT (t := 34) (p := 7) (v := _) (w1 := (World.setCell (World.setCell (World.setCell (World.setCell (World.setCell (World.setCell (World.setCell w5 ⟨g7,0,none⟩ (.string t0)) ⟨g7,1,none⟩ (.int .i64 t1)) ⟨g7,2,none⟩ (.int .i64 t2)) ⟨g7,3,none⟩ (.slice A3 t3.length c3)) ⟨g7,4,none⟩ (.slice A4 t4.length c4)) ⟨g7,5,none⟩ (.int .i64 t5)) ⟨g7,6,none⟩ (.int .i64 t6))) rfl rfl rfl hrq ?_;intro w6 hw;clear zg7_0 zg7_1 zg7_2 zg7_3 zg7_4 zg7_5 zg7_6 fg7_0 fg7_1 fg7_2 fg7_3 fg7_4 fg7_5 fg7_6;replace Bg3 := za.mk (adf hw Ng3_g7.out Bg3.out);replace Bg7 : za (w6.heap[g7]? = some (.cells #[.string t0,.int .i64 t1,.int .i64 t2,.slice A3 t3.length c3,.slice A4 t4.length c4,.int .i64 t5,.int .i64 t6] 34 (0,0))) := ⟨adp hw Bg7.out⟩;replace Hw := za.mk (ads hw Gw_g7.out Hw.out);clear hw;obtain ⟨zg3_0,zg3_1,zg3_2,fg3_0,fg3_1,fg3_2⟩ := hcq3 Bg3.out;obtain ⟨zg7_0,zg7_1,zg7_2,zg7_3,zg7_4,zg7_5,zg7_6,fg7_0,fg7_1,fg7_2,fg7_3,fg7_4,fg7_5,fg7_6⟩ := hcq7 Bg7.out)
  | (go_at_call 26;refine (zd1 n low A0 c0 L t0 t1 t2 A3 t3.length c3 A4 t4.length c4 t5 t6 (zcI L t2) _ (Kd.V_map (Kd.V_below HV.out Hw.out) (fun _ hf_ => Kd.F_mono (Kd.F_bound hf_) (fun _ hk => hk.2))) HL.out (zdF L t2 HL.out).1 (zdF L t2 HL.out).2).mono ?_;rintro e w7 ⟨gm,rfl,hm,hb⟩;clear zg3_0 zg3_1 zg3_2 fg3_0 fg3_1 fg3_2 zg7_0 zg7_1 zg7_2 zg7_3 zg7_4 zg7_5 zg7_6 fg7_0 fg7_1 fg7_2 fg7_3 fg7_4 fg7_5 fg7_6;replace Bg3 := za.mk (adb Bg3.out hb);replace Bg7 := za.mk (adb Bg7.out hb);replace Hw := za.mk (adl Hw.out hb);have Mgm := za.mk hm;clear hm;clear hb;obtain ⟨zg3_0,zg3_1,zg3_2,fg3_0,fg3_1,fg3_2⟩ := hcq3 Bg3.out))
 clear zg3_0 zg3_1 zg3_2 fg3_0 fg3_1 fg3_2
 have HW7 := za.mk (zj Hw.out)
 have LM := za.mk (zaP Mgm.out)
 have L3 := za.mk (zam Bg3.out)
 generalize hI : (zaV L t2 t0 (zcI L t2)).1 = I at *
 have HI := za.mk hI
 clear hI
 go_loopw [10,29] (fun v10 v29 wr => ∃ i : Nat,v29 = .int .i64 i ∧ i ≤ L.length ∧ za (Kd.N k34 34 wr w7.heap.size (fun k_ => (P0 k_ ∧ k_ < w.heap.size) ∨ w7.heap.size ≤ k_) v10 ((L.take i).filter (zd7 I lo))) ∧ za (Below w7.heap.size w7 wr) ∧ za (zaU wr gm (inV I))) (fun _ v29 _ => L.length - (intOf v29).toNat)
 case atStart => exact ⟨0,rfl,Nat.zero_le _,⟨Kd.N_nil _ _ _ _ _⟩,⟨Below.refl _ _⟩,Mgm⟩
 case round =>
  obtain ⟨i,rfl,hi,HO,H7,M0⟩ := hrel
  obtain ⟨v10,hv10⟩ : ∃ v,v = u10 := ⟨_,rfl⟩
  subst hv10
  have HOr := HO
  have H7r := H7
  have M0r := M0
  by_cases hlt : i < L.length
  ·obtain ⟨x,hx⟩ : ∃ x,L[i]? = some x := ⟨_,List.getElem?_eq_getElem hlt⟩
   have HFL := za.mk (Kd.F_bound (Kd.V_F HV.out))
   have HBw := za.mk (Hw.out.trans (H7.out.mono HW7.out))
   have HFr := za.mk (Kd.F_step HFL.out (fun k hk _ => HBw.out.block k hk.2))
   obtain ⟨adx,AX3,cx3,AX4,cx4,e_,hx0,hx1,hx2,hx3,hx4,hx5,hx6,lx3,hF3,lx4,hF4⟩ := ent_F2 HFr.out i hlt x hx
   subst e_
   have htk : L.take (i + 1) = L.take i ++ [x] := by rw [List.take_add_one,hx];rfl
   have HTK := za.mk htk
   have hb : decide (i < L.length) = true := decide_eq_true hlt
   have Bg3r := za.mk (adb Bg3.out H7.out)
   obtain ⟨x0,⟨x1,x2,x3,x4,⟨x5,x6⟩⟩⟩ := x
   dsimp only at hF3 hF4 lx3 lx4
   have HF3 := za.mk hF3
   have HF4 := za.mk hF4
   have LX3 := za.mk lx3
   have LX4 := za.mk lx4
   have HLN : za (((L.take i).filter (zd7 I lo)).length < 1466015503701) := ⟨Nat.lt_of_le_of_lt (List.length_filter_le _ _) (by rw [List.length_take];have := HL.out;omega)⟩
   clear hx htk hF3 hF4 lx3 lx4
   dsimp only at hx0 hx1 hx2 hx3 hx4 hx5 hx6
   clear Bg3
   have Bg3 := Bg3r
   clear Bg3r
   rcases hq : I x0 with _ | q
   ·have HQ := za.mk hq
    clear hq
    go_wp2_with (first
      | ((with_reducible refine zp (N := 12) rfl ?_);refine zn rfl (N := 12) rfl (cs := #[.string (⟨#[]⟩ : ByteArray),.int .i64 0,.int .i64 0,.slice none 0 0,.slice none 0 0,.int .i64 0,.int .i64 0]) (t := 34) hrq ?_;intro gx hg wx hbox hb;have HX := za.mk hb;have GE := za.mk (show w7.heap.size ≤ gx from by rw [hg];exact zj H7.out);have GW := za.mk (show wr.heap.size ≤ gx from Nat.le_of_eq hg.symm);have HOF := za.mk (show ∀ k,v10.ownBlock = some k → k ≠ gx from fun k hk => by have := Kd.N_lt HO.out k hk;omega);have NM := za.mk (show gm ≠ gx from by rw [hg];exact Nat.ne_of_lt (zaP M0.out));have Ng3_gx := za.mk (adn hg Bg3.out);replace Bg3 := za.mk (adb Bg3.out hb);replace H7 := za.mk (zh H7.out hb);replace HO := za.mk (Kd.N_below HO.out hb);replace M0 := za.mk (zaw M0.out hb);have Bgx := za.mk hbox;clear hbox hb hg;have zgx_0 : wx.cell? ⟨gx,0,none⟩ = some (.string (⟨#[]⟩ : ByteArray)) := (zb Bgx.out 0).trans rfl;have zgx_1 : wx.cell? ⟨gx,1,none⟩ = some (.int .i64 0) := (zb Bgx.out 1).trans rfl;have zgx_2 : wx.cell? ⟨gx,2,none⟩ = some (.int .i64 0) := (zb Bgx.out 2).trans rfl;have zgx_3 : wx.cell? ⟨gx,3,none⟩ = some (.slice none 0 0) := (zb Bgx.out 3).trans rfl;have zgx_4 : wx.cell? ⟨gx,4,none⟩ = some (.slice none 0 0) := (zb Bgx.out 4).trans rfl;have zgx_5 : wx.cell? ⟨gx,5,none⟩ = some (.int .i64 0) := (zb Bgx.out 5).trans rfl;have zgx_6 : wx.cell? ⟨gx,6,none⟩ = some (.int .i64 0) := (zb Bgx.out 6).trans rfl;have fgx_0 := zc Bgx.out 0;have fgx_1 := zc Bgx.out 1;have fgx_2 := zc Bgx.out 2;have fgx_3 := zc Bgx.out 3;have fgx_4 := zc Bgx.out 4;have fgx_5 := zc Bgx.out 5;have fgx_6 := zc Bgx.out 6)
      | ((with_reducible refine z6 (t := 34) (p := 12) rfl ?_);refine zT (t := 34) (p := 12) (v := _) (w1 := (World.setCell (World.setCell (World.setCell (World.setCell (World.setCell (World.setCell (World.setCell wx ⟨gx,0,none⟩ (.string x0)) ⟨gx,1,none⟩ (.int .i64 x1)) ⟨gx,2,none⟩ (.int .i64 x2)) ⟨gx,3,none⟩ (.slice AX3 x3.length cx3)) ⟨gx,4,none⟩ (.slice AX4 x4.length cx4)) ⟨gx,5,none⟩ (.int .i64 x5)) ⟨gx,6,none⟩ (.int .i64 x6))) rfl rfl rfl hrq ?_;intro wy hw;clear zgx_0 zgx_1 zgx_2 zgx_3 zgx_4 zgx_5 zgx_6 fgx_0 fgx_1 fgx_2 fgx_3 fgx_4 fgx_5 fgx_6;replace Bg3 := za.mk (adf hw Ng3_gx.out Bg3.out);replace Bgx : za (wy.heap[gx]? = some (.cells #[.string x0,.int .i64 x1,.int .i64 x2,.slice AX3 x3.length cx3,.slice AX4 x4.length cx4,.int .i64 x5,.int .i64 x6] 34 (0,0))) := ⟨adp hw Bgx.out⟩;have TX := za.mk (adt (S := fun _ => False) (A := wr) hw GW.out (Trod.of_below HX.out _));replace H7 := za.mk (H7r.out.trans (TX.out.to_below (zj H7r.out) (fun _ h_ => h_.elim)));replace M0 := za.mk (zaK TX.out M0r.out (fun h_ => h_));replace HO := za.mk (Kd.N_step HOr.out (fun k _ hlt => TX.out.block k hlt (fun h_ => h_)));clear hw;have zgx_0 : wy.cell? ⟨gx,0,none⟩ = some (.string x0) := (zb Bgx.out 0).trans rfl;have zgx_1 : wy.cell? ⟨gx,1,none⟩ = some (.int .i64 x1) := (zb Bgx.out 1).trans rfl;have zgx_2 : wy.cell? ⟨gx,2,none⟩ = some (.int .i64 x2) := (zb Bgx.out 2).trans rfl;have zgx_3 : wy.cell? ⟨gx,3,none⟩ = some (.slice AX3 x3.length cx3) := (zb Bgx.out 3).trans rfl;have zgx_4 : wy.cell? ⟨gx,4,none⟩ = some (.slice AX4 x4.length cx4) := (zb Bgx.out 4).trans rfl;have zgx_5 : wy.cell? ⟨gx,5,none⟩ = some (.int .i64 x5) := (zb Bgx.out 5).trans rfl;have zgx_6 : wy.cell? ⟨gx,6,none⟩ = some (.int .i64 x6) := (zb Bgx.out 6).trans rfl;have fgx_0 := zc Bgx.out 0;have fgx_1 := zc Bgx.out 1;have fgx_2 := zc Bgx.out 2;have fgx_3 := zc Bgx.out 3;have fgx_4 := zc Bgx.out 4;have fgx_5 := zc Bgx.out 5;have fgx_6 := zc Bgx.out 6)
      | (at_lookup;refine zbD _ rfl _ _ 55 rfl M0.out Try.underlying55 Try.underlying9 (zaA.zeroI _) x0 rfl rfl ?_;rw [show (inV I x0).isSome = (I x0).isSome from Option.isSome_map,show (inV I x0).getD (.int .i64 0) = .int .i64 ((I x0).getD 0) from by unfold inV;cases I x0 <;> rfl,HQ.out];try dsimp only [Option.isSome,Option.getD]))
    go_roundw
    case rel => exact ⟨i + 1,by go_num,by omega,⟨by rw [HTK.out,List.filter_append,List.filter_cons,if_neg (by simp [zd7,HQ.out]),List.filter_nil,List.append_nil];exact HO.out⟩,H7,M0⟩
    case measure => simp [intOf];omega
   ·have HQ := za.mk hq
    clear hq
    by_cases he : q = x2
    ·by_cases hd : lo < q
     ·have HR : za (q = x2 ∧ lo < q) := ⟨he,hd⟩
      have e1 : (q == x2) = true := beq_iff_eq.2 he
      have e2 : decide (lo < q) = true := decide_eq_true hd
      clear he hd
      go_wp2_with (first
        | ((with_reducible refine zp (N := 12) rfl ?_);refine zn rfl (N := 12) rfl (cs := #[.string (⟨#[]⟩ : ByteArray),.int .i64 0,.int .i64 0,.slice none 0 0,.slice none 0 0,.int .i64 0,.int .i64 0]) (t := 34) hrq ?_;intro gx hg wx hbox hb;have HX := za.mk hb;have GE := za.mk (show w7.heap.size ≤ gx from by rw [hg];exact zj H7.out);have GW := za.mk (show wr.heap.size ≤ gx from Nat.le_of_eq hg.symm);have HOF := za.mk (show ∀ k,v10.ownBlock = some k → k ≠ gx from fun k hk => by have := Kd.N_lt HO.out k hk;omega);have NM := za.mk (show gm ≠ gx from by rw [hg];exact Nat.ne_of_lt (zaP M0.out));have Ng3_gx := za.mk (adn hg Bg3.out);replace Bg3 := za.mk (adb Bg3.out hb);replace H7 := za.mk (zh H7.out hb);replace HO := za.mk (Kd.N_below HO.out hb);replace M0 := za.mk (zaw M0.out hb);have Bgx := za.mk hbox;clear hbox hb hg;have zgx_0 : wx.cell? ⟨gx,0,none⟩ = some (.string (⟨#[]⟩ : ByteArray)) := (zb Bgx.out 0).trans rfl;have zgx_1 : wx.cell? ⟨gx,1,none⟩ = some (.int .i64 0) := (zb Bgx.out 1).trans rfl;have zgx_2 : wx.cell? ⟨gx,2,none⟩ = some (.int .i64 0) := (zb Bgx.out 2).trans rfl;have zgx_3 : wx.cell? ⟨gx,3,none⟩ = some (.slice none 0 0) := (zb Bgx.out 3).trans rfl;have zgx_4 : wx.cell? ⟨gx,4,none⟩ = some (.slice none 0 0) := (zb Bgx.out 4).trans rfl;have zgx_5 : wx.cell? ⟨gx,5,none⟩ = some (.int .i64 0) := (zb Bgx.out 5).trans rfl;have zgx_6 : wx.cell? ⟨gx,6,none⟩ = some (.int .i64 0) := (zb Bgx.out 6).trans rfl;have fgx_0 := zc Bgx.out 0;have fgx_1 := zc Bgx.out 1;have fgx_2 := zc Bgx.out 2;have fgx_3 := zc Bgx.out 3;have fgx_4 := zc Bgx.out 4;have fgx_5 := zc Bgx.out 5;have fgx_6 := zc Bgx.out 6)
        | ((with_reducible refine z6 (t := 34) (p := 12) rfl ?_);refine zT (t := 34) (p := 12) (v := _) (w1 := (World.setCell (World.setCell (World.setCell (World.setCell (World.setCell (World.setCell (World.setCell wx ⟨gx,0,none⟩ (.string x0)) ⟨gx,1,none⟩ (.int .i64 x1)) ⟨gx,2,none⟩ (.int .i64 x2)) ⟨gx,3,none⟩ (.slice AX3 x3.length cx3)) ⟨gx,4,none⟩ (.slice AX4 x4.length cx4)) ⟨gx,5,none⟩ (.int .i64 x5)) ⟨gx,6,none⟩ (.int .i64 x6))) rfl rfl rfl hrq ?_;intro wy hw;clear zgx_0 zgx_1 zgx_2 zgx_3 zgx_4 zgx_5 zgx_6 fgx_0 fgx_1 fgx_2 fgx_3 fgx_4 fgx_5 fgx_6;replace Bg3 := za.mk (adf hw Ng3_gx.out Bg3.out);replace Bgx : za (wy.heap[gx]? = some (.cells #[.string x0,.int .i64 x1,.int .i64 x2,.slice AX3 x3.length cx3,.slice AX4 x4.length cx4,.int .i64 x5,.int .i64 x6] 34 (0,0))) := ⟨adp hw Bgx.out⟩;have TX := za.mk (adt (S := fun _ => False) (A := wr) hw GW.out (Trod.of_below HX.out _));replace H7 := za.mk (H7r.out.trans (TX.out.to_below (zj H7r.out) (fun _ h_ => h_.elim)));replace M0 := za.mk (zaK TX.out M0r.out (fun h_ => h_));replace HO := za.mk (Kd.N_step HOr.out (fun k _ hlt => TX.out.block k hlt (fun h_ => h_)));clear hw;have zgx_0 : wy.cell? ⟨gx,0,none⟩ = some (.string x0) := (zb Bgx.out 0).trans rfl;have zgx_1 : wy.cell? ⟨gx,1,none⟩ = some (.int .i64 x1) := (zb Bgx.out 1).trans rfl;have zgx_2 : wy.cell? ⟨gx,2,none⟩ = some (.int .i64 x2) := (zb Bgx.out 2).trans rfl;have zgx_3 : wy.cell? ⟨gx,3,none⟩ = some (.slice AX3 x3.length cx3) := (zb Bgx.out 3).trans rfl;have zgx_4 : wy.cell? ⟨gx,4,none⟩ = some (.slice AX4 x4.length cx4) := (zb Bgx.out 4).trans rfl;have zgx_5 : wy.cell? ⟨gx,5,none⟩ = some (.int .i64 x5) := (zb Bgx.out 5).trans rfl;have zgx_6 : wy.cell? ⟨gx,6,none⟩ = some (.int .i64 x6) := (zb Bgx.out 6).trans rfl;have fgx_0 := zc Bgx.out 0;have fgx_1 := zc Bgx.out 1;have fgx_2 := zc Bgx.out 2;have fgx_3 := zc Bgx.out 3;have fgx_4 := zc Bgx.out 4;have fgx_5 := zc Bgx.out 5;have fgx_6 := zc Bgx.out 6)
        | (at_lookup;refine zbD _ rfl _ _ 55 rfl M0.out Try.underlying55 Try.underlying9 (zaA.zeroI _) x0 rfl rfl ?_;rw [show (inV I x0).isSome = (I x0).isSome from Option.isSome_map,show (inV I x0).getD (.int .i64 0) = .int .i64 ((I x0).getD 0) from by unfold inV;cases I x0 <;> rfl,HQ.out];try dsimp only [Option.isSome,Option.getD])
        | ((with_reducible refine zp (N := 56) rfl ?_);refine Kd.N_append k34 (w0 := w7) w7.heap.size rfl (.tmp 53) (.tmp 55) 22 34 (.agg #[(.string ⟨#[]⟩),(.int .i64 0),(.int .i64 0),(.slice none 0 0),(.slice none 0 0),(.int .i64 0),(.int .i64 0)]) 96 rfl Try.underlying22 zdS rfl (by decide) (by omega) v10 ((L.take i).filter (zd7 I lo)) ⟨x0,⟨x1,x2,x3,x4,⟨x5,x6⟩⟩⟩ [.string x0,.int .i64 x1,.int .i64 x2,.slice AX3 x3.length cx3,.slice AX4 x4.length cx4,.int .i64 x5,.int .i64 x6] (fun k_ => (P0 k_ ∧ k_ < w.heap.size) ∨ w7.heap.size ≤ k_) (fun k_ => (P0 k_ ∧ k_ < w.heap.size) ∧ some k_ ≠ v10.ownBlock) rfl rfl ?aP (fun _ hk => ⟨.inl hk.1,hk.2⟩) ?aF ?aO ?aB ?aS ?aL ?_;(case aP => exact (ze1 _ _ ⟨x0,⟨x1,x2,x3,x4,⟨x5,x6⟩⟩⟩ LX3.out (Kd.F_mono (zcT TX.out HF3.out (fun _ _ h_ => h_)) (fun k hk => ⟨hk,fun e_ => by have := Kd.N_base HO.out k e_.symm;have := HW7.out;omega⟩)) LX4.out (Kd.F_mono (zcT TX.out HF4.out (fun _ _ h_ => h_)) (fun k hk => ⟨hk,fun e_ => by have := Kd.N_base HO.out k e_.symm;have := HW7.out;omega⟩))));(case aF => exact (fun k_ hk => .inr (Nat.le_trans (zj H7.out) hk)));(case aO => exact HO.out);(case aB => exact H7.out);(case aS => exact zj H7.out);(case aL => have := HLN.out;omega);intro v2 w9 ho hb hg hat;have HO2 := za.mk ho;have HB2 := za.mk hb;have HM2 := za.mk (zfo M0.out hg (fun e_ => by have := Kd.N_base HO.out gm e_.symm;have := LM.out;omega));clear ho hb hg hat))
      go_roundw
      case rel => exact ⟨i + 1,by go_num,by omega,⟨by rw [HTK.out,List.filter_append,List.filter_cons,if_pos (by unfold zd7;simp only [HQ.out,decide_eq_true HR.out.1,decide_eq_true HR.out.2,Bool.and_self]),List.filter_nil];exact HO2.out⟩,HB2,HM2⟩
      case measure => simp [intOf];omega
     ·have HR : za (q = x2 ∧ ¬ lo < q) := ⟨he,hd⟩
      have e1 : (q == x2) = true := beq_iff_eq.2 he
      have e2 : decide (lo < q) = false := decide_eq_false hd
      clear he hd
      go_wp2_with (first
        | ((with_reducible refine zp (N := 12) rfl ?_);refine zn rfl (N := 12) rfl (cs := #[.string (⟨#[]⟩ : ByteArray),.int .i64 0,.int .i64 0,.slice none 0 0,.slice none 0 0,.int .i64 0,.int .i64 0]) (t := 34) hrq ?_;intro gx hg wx hbox hb;have HX := za.mk hb;have GE := za.mk (show w7.heap.size ≤ gx from by rw [hg];exact zj H7.out);have GW := za.mk (show wr.heap.size ≤ gx from Nat.le_of_eq hg.symm);have HOF := za.mk (show ∀ k,v10.ownBlock = some k → k ≠ gx from fun k hk => by have := Kd.N_lt HO.out k hk;omega);have NM := za.mk (show gm ≠ gx from by rw [hg];exact Nat.ne_of_lt (zaP M0.out));have Ng3_gx := za.mk (adn hg Bg3.out);replace Bg3 := za.mk (adb Bg3.out hb);replace H7 := za.mk (zh H7.out hb);replace HO := za.mk (Kd.N_below HO.out hb);replace M0 := za.mk (zaw M0.out hb);have Bgx := za.mk hbox;clear hbox hb hg;have zgx_0 : wx.cell? ⟨gx,0,none⟩ = some (.string (⟨#[]⟩ : ByteArray)) := (zb Bgx.out 0).trans rfl;have zgx_1 : wx.cell? ⟨gx,1,none⟩ = some (.int .i64 0) := (zb Bgx.out 1).trans rfl;have zgx_2 : wx.cell? ⟨gx,2,none⟩ = some (.int .i64 0) := (zb Bgx.out 2).trans rfl;have zgx_3 : wx.cell? ⟨gx,3,none⟩ = some (.slice none 0 0) := (zb Bgx.out 3).trans rfl;have zgx_4 : wx.cell? ⟨gx,4,none⟩ = some (.slice none 0 0) := (zb Bgx.out 4).trans rfl;have zgx_5 : wx.cell? ⟨gx,5,none⟩ = some (.int .i64 0) := (zb Bgx.out 5).trans rfl;have zgx_6 : wx.cell? ⟨gx,6,none⟩ = some (.int .i64 0) := (zb Bgx.out 6).trans rfl;have fgx_0 := zc Bgx.out 0;have fgx_1 := zc Bgx.out 1;have fgx_2 := zc Bgx.out 2;have fgx_3 := zc Bgx.out 3;have fgx_4 := zc Bgx.out 4;have fgx_5 := zc Bgx.out 5;have fgx_6 := zc Bgx.out 6)
        | ((with_reducible refine z6 (t := 34) (p := 12) rfl ?_);refine zT (t := 34) (p := 12) (v := _) (w1 := (World.setCell (World.setCell (World.setCell (World.setCell (World.setCell (World.setCell (World.setCell wx ⟨gx,0,none⟩ (.string x0)) ⟨gx,1,none⟩ (.int .i64 x1)) ⟨gx,2,none⟩ (.int .i64 x2)) ⟨gx,3,none⟩ (.slice AX3 x3.length cx3)) ⟨gx,4,none⟩ (.slice AX4 x4.length cx4)) ⟨gx,5,none⟩ (.int .i64 x5)) ⟨gx,6,none⟩ (.int .i64 x6))) rfl rfl rfl hrq ?_;intro wy hw;clear zgx_0 zgx_1 zgx_2 zgx_3 zgx_4 zgx_5 zgx_6 fgx_0 fgx_1 fgx_2 fgx_3 fgx_4 fgx_5 fgx_6;replace Bg3 := za.mk (adf hw Ng3_gx.out Bg3.out);replace Bgx : za (wy.heap[gx]? = some (.cells #[.string x0,.int .i64 x1,.int .i64 x2,.slice AX3 x3.length cx3,.slice AX4 x4.length cx4,.int .i64 x5,.int .i64 x6] 34 (0,0))) := ⟨adp hw Bgx.out⟩;have TX := za.mk (adt (S := fun _ => False) (A := wr) hw GW.out (Trod.of_below HX.out _));replace H7 := za.mk (H7r.out.trans (TX.out.to_below (zj H7r.out) (fun _ h_ => h_.elim)));replace M0 := za.mk (zaK TX.out M0r.out (fun h_ => h_));replace HO := za.mk (Kd.N_step HOr.out (fun k _ hlt => TX.out.block k hlt (fun h_ => h_)));clear hw;have zgx_0 : wy.cell? ⟨gx,0,none⟩ = some (.string x0) := (zb Bgx.out 0).trans rfl;have zgx_1 : wy.cell? ⟨gx,1,none⟩ = some (.int .i64 x1) := (zb Bgx.out 1).trans rfl;have zgx_2 : wy.cell? ⟨gx,2,none⟩ = some (.int .i64 x2) := (zb Bgx.out 2).trans rfl;have zgx_3 : wy.cell? ⟨gx,3,none⟩ = some (.slice AX3 x3.length cx3) := (zb Bgx.out 3).trans rfl;have zgx_4 : wy.cell? ⟨gx,4,none⟩ = some (.slice AX4 x4.length cx4) := (zb Bgx.out 4).trans rfl;have zgx_5 : wy.cell? ⟨gx,5,none⟩ = some (.int .i64 x5) := (zb Bgx.out 5).trans rfl;have zgx_6 : wy.cell? ⟨gx,6,none⟩ = some (.int .i64 x6) := (zb Bgx.out 6).trans rfl;have fgx_0 := zc Bgx.out 0;have fgx_1 := zc Bgx.out 1;have fgx_2 := zc Bgx.out 2;have fgx_3 := zc Bgx.out 3;have fgx_4 := zc Bgx.out 4;have fgx_5 := zc Bgx.out 5;have fgx_6 := zc Bgx.out 6)
        | (at_lookup;refine zbD _ rfl _ _ 55 rfl M0.out Try.underlying55 Try.underlying9 (zaA.zeroI _) x0 rfl rfl ?_;rw [show (inV I x0).isSome = (I x0).isSome from Option.isSome_map,show (inV I x0).getD (.int .i64 0) = .int .i64 ((I x0).getD 0) from by unfold inV;cases I x0 <;> rfl,HQ.out];try dsimp only [Option.isSome,Option.getD]))
      go_roundw
      case rel => exact ⟨i + 1,by go_num,by omega,⟨by rw [HTK.out,List.filter_append,List.filter_cons,if_neg (by have h_ := HR.out.2;simp only [zd7,HQ.out,decide_eq_false h_,Bool.and_false];simp),List.filter_nil,List.append_nil];exact HO.out⟩,H7,M0⟩
      case measure => simp [intOf];omega
    ·have HR : za (q ≠ x2) := ⟨he⟩
     have e1 : (q == x2) = false := beq_eq_false_iff_ne.2 he
     clear he
     go_wp2_with (first
       | ((with_reducible refine zp (N := 12) rfl ?_);refine zn rfl (N := 12) rfl (cs := #[.string (⟨#[]⟩ : ByteArray),.int .i64 0,.int .i64 0,.slice none 0 0,.slice none 0 0,.int .i64 0,.int .i64 0]) (t := 34) hrq ?_;intro gx hg wx hbox hb;have HX := za.mk hb;have GE := za.mk (show w7.heap.size ≤ gx from by rw [hg];exact zj H7.out);have GW := za.mk (show wr.heap.size ≤ gx from Nat.le_of_eq hg.symm);have HOF := za.mk (show ∀ k,v10.ownBlock = some k → k ≠ gx from fun k hk => by have := Kd.N_lt HO.out k hk;omega);have NM := za.mk (show gm ≠ gx from by rw [hg];exact Nat.ne_of_lt (zaP M0.out));have Ng3_gx := za.mk (adn hg Bg3.out);replace Bg3 := za.mk (adb Bg3.out hb);replace H7 := za.mk (zh H7.out hb);replace HO := za.mk (Kd.N_below HO.out hb);replace M0 := za.mk (zaw M0.out hb);have Bgx := za.mk hbox;clear hbox hb hg;have zgx_0 : wx.cell? ⟨gx,0,none⟩ = some (.string (⟨#[]⟩ : ByteArray)) := (zb Bgx.out 0).trans rfl;have zgx_1 : wx.cell? ⟨gx,1,none⟩ = some (.int .i64 0) := (zb Bgx.out 1).trans rfl;have zgx_2 : wx.cell? ⟨gx,2,none⟩ = some (.int .i64 0) := (zb Bgx.out 2).trans rfl;have zgx_3 : wx.cell? ⟨gx,3,none⟩ = some (.slice none 0 0) := (zb Bgx.out 3).trans rfl;have zgx_4 : wx.cell? ⟨gx,4,none⟩ = some (.slice none 0 0) := (zb Bgx.out 4).trans rfl;have zgx_5 : wx.cell? ⟨gx,5,none⟩ = some (.int .i64 0) := (zb Bgx.out 5).trans rfl;have zgx_6 : wx.cell? ⟨gx,6,none⟩ = some (.int .i64 0) := (zb Bgx.out 6).trans rfl;have fgx_0 := zc Bgx.out 0;have fgx_1 := zc Bgx.out 1;have fgx_2 := zc Bgx.out 2;have fgx_3 := zc Bgx.out 3;have fgx_4 := zc Bgx.out 4;have fgx_5 := zc Bgx.out 5;have fgx_6 := zc Bgx.out 6)
       | ((with_reducible refine z6 (t := 34) (p := 12) rfl ?_);refine zT (t := 34) (p := 12) (v := _) (w1 := (World.setCell (World.setCell (World.setCell (World.setCell (World.setCell (World.setCell (World.setCell wx ⟨gx,0,none⟩ (.string x0)) ⟨gx,1,none⟩ (.int .i64 x1)) ⟨gx,2,none⟩ (.int .i64 x2)) ⟨gx,3,none⟩ (.slice AX3 x3.length cx3)) ⟨gx,4,none⟩ (.slice AX4 x4.length cx4)) ⟨gx,5,none⟩ (.int .i64 x5)) ⟨gx,6,none⟩ (.int .i64 x6))) rfl rfl rfl hrq ?_;intro wy hw;clear zgx_0 zgx_1 zgx_2 zgx_3 zgx_4 zgx_5 zgx_6 fgx_0 fgx_1 fgx_2 fgx_3 fgx_4 fgx_5 fgx_6;replace Bg3 := za.mk (adf hw Ng3_gx.out Bg3.out);replace Bgx : za (wy.heap[gx]? = some (.cells #[.string x0,.int .i64 x1,.int .i64 x2,.slice AX3 x3.length cx3,.slice AX4 x4.length cx4,.int .i64 x5,.int .i64 x6] 34 (0,0))) := ⟨adp hw Bgx.out⟩;have TX := za.mk (adt (S := fun _ => False) (A := wr) hw GW.out (Trod.of_below HX.out _));replace H7 := za.mk (H7r.out.trans (TX.out.to_below (zj H7r.out) (fun _ h_ => h_.elim)));replace M0 := za.mk (zaK TX.out M0r.out (fun h_ => h_));replace HO := za.mk (Kd.N_step HOr.out (fun k _ hlt => TX.out.block k hlt (fun h_ => h_)));clear hw;have zgx_0 : wy.cell? ⟨gx,0,none⟩ = some (.string x0) := (zb Bgx.out 0).trans rfl;have zgx_1 : wy.cell? ⟨gx,1,none⟩ = some (.int .i64 x1) := (zb Bgx.out 1).trans rfl;have zgx_2 : wy.cell? ⟨gx,2,none⟩ = some (.int .i64 x2) := (zb Bgx.out 2).trans rfl;have zgx_3 : wy.cell? ⟨gx,3,none⟩ = some (.slice AX3 x3.length cx3) := (zb Bgx.out 3).trans rfl;have zgx_4 : wy.cell? ⟨gx,4,none⟩ = some (.slice AX4 x4.length cx4) := (zb Bgx.out 4).trans rfl;have zgx_5 : wy.cell? ⟨gx,5,none⟩ = some (.int .i64 x5) := (zb Bgx.out 5).trans rfl;have zgx_6 : wy.cell? ⟨gx,6,none⟩ = some (.int .i64 x6) := (zb Bgx.out 6).trans rfl;have fgx_0 := zc Bgx.out 0;have fgx_1 := zc Bgx.out 1;have fgx_2 := zc Bgx.out 2;have fgx_3 := zc Bgx.out 3;have fgx_4 := zc Bgx.out 4;have fgx_5 := zc Bgx.out 5;have fgx_6 := zc Bgx.out 6)
       | (at_lookup;refine zbD _ rfl _ _ 55 rfl M0.out Try.underlying55 Try.underlying9 (zaA.zeroI _) x0 rfl rfl ?_;rw [show (inV I x0).isSome = (I x0).isSome from Option.isSome_map,show (inV I x0).getD (.int .i64 0) = .int .i64 ((I x0).getD 0) from by unfold inV;cases I x0 <;> rfl,HQ.out];try dsimp only [Option.isSome,Option.getD]))
     go_roundw
     case rel => exact ⟨i + 1,by go_num,by omega,⟨by rw [HTK.out,List.filter_append,List.filter_cons,if_neg (by have h_ := HR.out;simp only [zd7,HQ.out,decide_eq_false h_,Bool.false_and];simp),List.filter_nil,List.append_nil];exact HO.out⟩,H7,M0⟩
     case measure => simp [intOf];omega
  ·obtain rfl : i = L.length := by omega
   have hb : decide (L.length < L.length) = false := decide_eq_false hlt
   go_wp2_with fail
   go_ret
   refine ⟨_,rfl,?_,Hw.out.trans (H7.out.mono HW7.out)⟩
   have hv := Kd.V_mono (Kd.N_V (base' := w.heap.size) HO.out) (fun k hk => hk.imp And.left (fun h_ => Nat.le_trans HW7.out h_))
   rw [List.take_length] at hv
   rw [HI.out]
   exact hv
def zbd.f (a0_0 : Int) (a0_1 : Int) (l0_2 : List (S34)) (a1 : ByteArray) (a2 : Int) : Option (List (S34)) := if l0_2.length < 1466015503701 then some (zc2 l0_2 a1 a2) else none
theorem zbd.calls (a0_0 : Int) (a0_1 : Int) (P0_2_ : Nat → Prop) (A0_2 : Option Addr) (c0_2 : Nat) (l0_2 : List (S34)) (a1 : ByteArray) (a2 : Int) (r : List (S34)) (w : World) (hs0_2 : Kd.V k34 34 w w.heap.size (fun k_ => P0_2_ k_) (.slice A0_2 l0_2.length c0_2) l0_2) (h : zbd.f a0_0 a0_1 l0_2 a1 a2 = some r) :
  Calls Try.prog 11 #[.agg #[.int .i64 a0_0,.int .i64 a0_1,.slice A0_2 l0_2.length c0_2],.string a1,.int .i64 a2] w fun e w' => ∃ v0_ : Value,e = .returned (v0_) ∧ Kd.V k34 34 w' w.heap.size (fun k_ => (P0_2_ k_ ∨ w.heap.size ≤ k_)) v0_ r ∧ Below w.heap.size w w' := by
 unfold zbd.f at h
 split at h
 ·rename_i hl
  obtain rfl := Option.some.inj h
  rcases hf : zb7 l0_2 a1 with _ | t
  ·have e : zc2 l0_2 a1 a2 = [] := by unfold zc2;rw [hf]
   rw [e]
   refine (zbd.no a0_0 a0_1 P0_2_ A0_2 c0_2 l0_2 a1 a2 _ _ _ _ _ _ _ false w hs0_2 (by unfold z9.f;rw [hf];rfl) hl rfl).mono ?_
   rintro e w' ⟨rfl,hb⟩
   exact ⟨_,rfl,Kd.V_nil _ _ _ _ _,hb⟩
  ·have e : zc2 l0_2 a1 a2 = l0_2.filter (zd7 (zaV l0_2 t.f1.f1 t.f0 (zcI l0_2 t.f1.f1)).1 a2) := by unfold zc2;rw [hf];rfl
   rw [e]
   exact zbd.yes a0_0 a0_1 P0_2_ A0_2 c0_2 l0_2 a1 a2 t.f0 t.f1.f0 t.f1.f1 t.f1.f2 t.f1.f3 t.f1.f4.f0 t.f1.f4.f1 true w hs0_2 (by unfold z9.f;rw [hf];rfl) hl rfl
 ·cases h
def zC.l0 : Nat → List ByteArray → List ByteArray → Int → Int → Option (Bool)
 | 0,_,_,_,_ => none
 | k + 1,x0,x1,x12,x13 => if x13 < x12 then (if 0 ≤ x13 then (if x13 < (x0.length : Int) then (if x13 < (x1.length : Int) then (if (zz ByteArray.empty x0 x13).toList = (zz ByteArray.empty x1 x13).toList then (zC.l0 k x0 x1 x12 (wrap64 (x13 + 1))) else (some false)) else (none)) else (none)) else (none)) else (some true)
def zC.f (k : Nat) (l0 : List ByteArray) (l1 : List ByteArray) : Option (Bool) := if (l0.length : Int) = (l1.length : Int) then (zC.l0 k l0 l1 (l0.length : Int) 0) else (some false)
set_option maxHeartbeats 8000000 in
set_option maxRecDepth 100000 in
theorem zC.calls (k : Nat) (A0 : Option Addr) (c0 : Nat) (l0 : List ByteArray) (A1 : Option Addr) (c1 : Nat) (l1 : List ByteArray) (r : Bool) (w : World) (hr0 : Kd.C Kd.string w A0 l0.length l0) (hc0 : l0.length ≤ c0) (hr1 : Kd.C Kd.string w A1 l1.length l1) (hc1 : l1.length ≤ c1) (h : zC.f k l0 l1 = some r) :
  Calls Try.prog 46 #[.slice A0 l0.length c0,.slice A1 l1.length c1] w fun e w' => e = .returned (.bool r) ∧ za3 w w' := by
 have HR0 := za.mk hr0
 have HC0 := za.mk hc0
 clear hr0 hc0
 have HR1 := za.mk hr1
 have HC1 := za.mk hc1
 clear hr1 hc1
 have H : (if (l0.length : Int) = (l1.length : Int) then (zC.l0 k l0 l1 (l0.length : Int) 0) else (some false)) = some r := h
 clear h
 by_cases c3 : (l0.length : Int) = (l1.length : Int)
 ·rw [if_pos c3] at H
  have c3b0 : ((l0.length : Int) == (l1.length : Int)) = true := beq_iff_eq.mpr c3
  have c3b1 : ((l0.length : Int) != (l1.length : Int)) = false := bne_eq_false_iff_eq.mpr c3
  have c3b2 : (l0.length == l1.length) = true := by first | simpa using c3 | (simp at c3 ⊢;omega)
  clear c3
  have H' := za.mk H
  clear H
  go_enter Try.func46,Try.ntmps46
  go_wp2
  repeat (go_quiet (fail);try go_wp2)
  go_loopg [13] k (fun kq v13 w' => ∃ (x13_1 : Int),v13 = .int .i64 x13_1 ∧ za (zC.l0 kq l0 l1 (l0.length : Int) x13_1 = some r) ∧ za (kq ≤ k) ∧ za3 w w')
  case atStart => exact ⟨(0),(hDq),H',⟨Nat.le_refl _⟩,hEq⟩
  case round =>
   clear H'
   try clear c1;try clear p2;try clear c3;try clear c3b0;try clear c3b1;try clear c3b2
   obtain ⟨x13_1,rfl,HA,HK1,⟨m1,rfl⟩⟩ := hrel
   cases gk with
   | zero => exact absurd HA.out (by simp [zC.l0])
   | succ k1 =>
    have H := HA.out
    clear HA
    simp only [zC.l0] at H
    by_cases c4 : x13_1 < (l0.length : Int)
    ·rw [if_pos c4] at H
     have c4b0 : decide (x13_1 < (l0.length : Int)) = true := decide_eq_true c4
     clear c4
     by_cases c5 : 0 ≤ x13_1
     ·rw [if_pos c5] at H
      have c5b0 : decide (0 ≤ x13_1) = true := decide_eq_true c5
      clear c5
      by_cases c6 : x13_1 < (l0.length : Int)
      ·rw [if_pos c6] at H
       have c6b0 : decide (x13_1 < (l0.length : Int)) = true := decide_eq_true c6
       clear c6
       by_cases c7 : x13_1 < (l1.length : Int)
       ·rw [if_pos c7] at H
        have c7b0 : decide (x13_1 < (l1.length : Int)) = true := decide_eq_true c7
        clear c7
        by_cases c8 : (zz ByteArray.empty l0 x13_1).toList = (zz ByteArray.empty l1 x13_1).toList
        ·rw [if_pos c8] at H
         have c8b0 : ((zz ByteArray.empty l0 x13_1).toList == (zz ByteArray.empty l1 x13_1).toList) = true := beq_iff_eq.mpr c8
         have c8b1 : ((zz ByteArray.empty l0 x13_1).toList != (zz ByteArray.empty l1 x13_1).toList) = false := bne_eq_false_iff_eq.mpr c8
         clear c8
         have H' := za.mk H
         clear H
         have p346 : 0 ≤ (x13_1 : Int) := hFq
         have q346 : x13_1 < (l0.length : Int) := hFq
         obtain ⟨ad346,e346,hx346_0⟩ := Kd.at_string HR0.out x13_1 p346 q346
         cases e346
         replace p346 := eq_true p346
         replace q346 := eq_true q346
         have p347 : 0 ≤ (x13_1 : Int) := hFq
         have q347 : x13_1 < (l1.length : Int) := hFq
         obtain ⟨ad347,e347,hx347_0⟩ := Kd.at_string HR1.out x13_1 p347 q347
         cases e347
         replace p347 := eq_true p347
         replace q347 := eq_true q347
         go_wp2
         repeat (go_quiet (fail);try go_wp2)
         go_roundg k1
         case measure => have := HK1.out;omega
         case rel => exact ⟨(wrap64 (x13_1 + 1)),(hDq),H',⟨by have := HK1.out;omega⟩,hEq⟩
        ·rw [if_neg c8] at H
         have c8b0 : ((zz ByteArray.empty l0 x13_1).toList == (zz ByteArray.empty l1 x13_1).toList) = false := beq_eq_false_iff_ne.mpr c8
         have c8b1 : ((zz ByteArray.empty l0 x13_1).toList != (zz ByteArray.empty l1 x13_1).toList) = true := bne_iff_ne.mpr c8
         obtain rfl := Option.some.inj H
         have p346 : 0 ≤ (x13_1 : Int) := hFq
         have q346 : x13_1 < (l0.length : Int) := hFq
         obtain ⟨ad346,e346,hx346_0⟩ := Kd.at_string HR0.out x13_1 p346 q346
         cases e346
         replace p346 := eq_true p346
         replace q346 := eq_true q346
         have p347 : 0 ≤ (x13_1 : Int) := hFq
         have q347 : x13_1 < (l1.length : Int) := hFq
         obtain ⟨ad347,e347,hx347_0⟩ := Kd.at_string HR1.out x13_1 p347 q347
         cases e347
         replace p347 := eq_true p347
         replace q347 := eq_true q347
         go_wp2
         repeat (go_quiet (fail);try go_wp2)
         go_ret
         exact ⟨hDq,hEq⟩
       ·rw [if_neg c7] at H
        exact absurd H (by simp)
      ·rw [if_neg c6] at H
       exact absurd H (by simp)
     ·rw [if_neg c5] at H
      exact absurd H (by simp)
    ·rw [if_neg c4] at H
     have c4b0 : decide (x13_1 < (l0.length : Int)) = false := decide_eq_false c4
     clear c4
     obtain rfl := Option.some.inj H
     go_wp2
     repeat (go_quiet (fail);try go_wp2)
     go_ret
     exact ⟨hDq,hEq⟩
 ·rw [if_neg c3] at H
  have c3b0 : ((l0.length : Int) == (l1.length : Int)) = false := beq_eq_false_iff_ne.mpr c3
  have c3b1 : ((l0.length : Int) != (l1.length : Int)) = true := bne_iff_ne.mpr c3
  have c3b2 : (l0.length == l1.length) = false := by first | simpa using c3 | (simp at c3 ⊢;omega)
  obtain rfl := Option.some.inj H
  go_enter Try.func46,Try.ntmps46
  go_wp2
  repeat (go_quiet (fail);try go_wp2)
  go_ret
  exact ⟨hDq,hEq⟩
def zdb.f (k : Nat) (a0_0 : Int) (a0_1 : Int) (l0_2 : List ByteArray) (a1_0 : Int) (a1_1 : Int) (l1_2 : List ByteArray) : Option (Bool) := if a0_0 = a1_0 then (if a0_1 = a1_1 then ((zC.f k l0_2 l1_2).bind fun t350 => (some t350)) else (some false)) else (some false)
set_option maxHeartbeats 8000000 in
set_option maxRecDepth 100000 in
theorem zdb.calls (k : Nat) (a0_0 : Int) (a0_1 : Int) (A0_2 : Option Addr) (c0_2 : Nat) (l0_2 : List ByteArray) (a1_0 : Int) (a1_1 : Int) (A1_2 : Option Addr) (c1_2 : Nat) (l1_2 : List ByteArray) (r : Bool) (w : World) (hr0_2 : Kd.C Kd.string w A0_2 l0_2.length l0_2) (hc0_2 : l0_2.length ≤ c0_2) (hr1_2 : Kd.C Kd.string w A1_2 l1_2.length l1_2) (hc1_2 : l1_2.length ≤ c1_2) (h : zdb.f k a0_0 a0_1 l0_2 a1_0 a1_1 l1_2 = some r) :
  Calls Try.prog 48 #[.agg #[.int .i64 a0_0,.int .i64 a0_1,.slice A0_2 l0_2.length c0_2],.agg #[.int .i64 a1_0,.int .i64 a1_1,.slice A1_2 l1_2.length c1_2]] w fun e w' => e = .returned (.bool r) ∧ Below w.heap.size w w' := by
 have hu78 := Try.underlying78
 have HR0_2 := za.mk hr0_2
 have HC0_2 := za.mk hc0_2
 clear hr0_2 hc0_2
 have HR1_2 := za.mk hr1_2
 have HC1_2 := za.mk hc1_2
 clear hr1_2 hc1_2
 have HB := za.mk (Below.refl w.heap.size w)
 have H : (if a0_0 = a1_0 then (if a0_1 = a1_1 then ((zC.f k l0_2 l1_2).bind fun t350 => (some t350)) else (some false)) else (some false)) = some r := h
 clear h
 by_cases c3 : a0_0 = a1_0
 focus
  rw [if_pos c3] at H
  have c3b0 : (a0_0 == a1_0) = true := beq_iff_eq.mpr c3
  have c3b1 : (a0_0 != a1_0) = false := bne_eq_false_iff_eq.mpr c3
  clear c3
  by_cases c4 : a0_1 = a1_1
  focus
   rw [if_pos c4] at H
   have c4b0 : (a0_1 == a1_1) = true := beq_iff_eq.mpr c4
   have c4b1 : (a0_1 != a1_1) = false := bne_eq_false_iff_eq.mpr c4
   clear c4
   replace H := Option.bind_eq_some_iff.mp H
   obtain ⟨t350,A50,H⟩ := H
   replace H : (some t350) = some r := H
   have A5 := za.mk A50
   clear A50
   obtain rfl := Option.some.inj H
   have EQ0 := True.intro
  rotate_left
  focus
   rw [if_neg c4] at H
   have c4b0 : (a0_1 == a1_1) = false := beq_eq_false_iff_ne.mpr c4
   have c4b1 : (a0_1 != a1_1) = true := bne_iff_ne.mpr c4
   obtain rfl := Option.some.inj H
 rotate_left 2
 focus
  rw [if_neg c3] at H
  have c3b0 : (a0_0 == a1_0) = false := beq_eq_false_iff_ne.mpr c3
  have c3b1 : (a0_0 != a1_0) = true := bne_iff_ne.mpr c3
  obtain rfl := Option.some.inj H
 all_goals
  go_enter Try.func48,Try.ntmps48
  go_wp2_with (first | ((with_reducible refine zp (N := 2) rfl ?_);refine zn rfl (N := 2) rfl (cs := #[.int .i64 a0_0,.int .i64 a0_1,.slice A0_2 l0_2.length c0_2]) (t := 78) hrq ?_;intro gb348 hg wQN22 hbox hb;have n_ := haq (zh hBq hb) <| haq (hbox) <| haq ((by rw [hg];exact (zj hBq) : w.heap.size ≤ gb348)) <| haq ((by rw [hg];exact (zj hBq) : w.heap.size ≤ gb348)) <| trivial;clear HB;obtain ⟨HB,BK348,GW348,GE348,_⟩ := n_;clear hb hbox hg) | ((with_reducible refine zp (N := 3) rfl ?_);refine zn rfl (N := 3) rfl (cs := #[.int .i64 a1_0,.int .i64 a1_1,.slice A1_2 l1_2.length c1_2]) (t := 78) hrq ?_;intro gb349 hg wQN32 hbox hb;have n_ := haq (hbq BK348.out hb) <| haq (zh hCq hb) <| haq (hbox) <| haq ((by rw [hg];exact (zj hCq) : w.heap.size ≤ gb349)) <| haq ((by rw [hg];exact (zj hCq) : w.heap.size ≤ gb349)) <| haq (hnq hg BK348.out) <| haq (hmq hg BK348.out) <| trivial;clear BK348 HB;obtain ⟨BK348,HB,BK349,GW349,GE349,NBQN37,NBQN38,_⟩ := n_;clear hb hbox hg;have hnbQN39 := NBQN37.out;have hncQN310 := NBQN38.out;obtain ⟨hczQN311,hczQN312,hczQN313,hfzQN314,hfzQN315,hfzQN316⟩ := hcq3 BK348.out;obtain ⟨hczQN317,hczQN318,hczQN319,hfzQN320,hfzQN321,hfzQN322⟩ := hcq3 BK349.out) | (have _ := EQ0;(go_at_call 46;(with_reducible refine (zC.calls k _ _ l0_2 _ _ l1_2 t350 _ ?side1 ?side2 ?side3 ?side4 A5.out).mono ?_);(case side1 => exact hKq (Kd.C_below HR0_2.out HB.out));(case side2 => exact HC0_2.out);(case side3 => exact hKq (Kd.C_below HR1_2.out HB.out));(case side4 => exact HC1_2.out);rintro e w' ⟨rfl,⟨nd,rfl⟩⟩)))
  go_ret
  exact ⟨hHq,hCq⟩
theorem zhH (a b : List ByteArray) (hl : a.length = b.length) (hb : a.length < 4611686018427387904) (d : Nat) : ∀ j,j + d = a.length →
  Ev (fun k => zC.l0 k a b (a.length : Int) (j : Int)) (decide (a.drop j = b.drop j)) := by
 induction d with
 | zero =>
  intro j hj
  refine Ev.step (fun k => by rw [zC.l0]) ?_
  refine zU (by omega) (zah (Ev.now _) ?_)
  rw [List.drop_eq_nil_of_le (by omega),List.drop_eq_nil_of_le (by omega)];rfl
 | succ d ih =>
  intro j hj
  refine Ev.step (fun k => by rw [zC.l0]) ?_
  have h1 : j < a.length := by omega
  have h2 : j < b.length := by omega
  refine zF (by omega) (zF (by omega) (zF (by omega) (zF (by omega) ?_)))
  rw [zea a j h1,zea b j h2,List.drop_eq_getElem_cons h1,List.drop_eq_getElem_cons h2,zak (by omega) (by omega)]
  by_cases h : a[j] = b[j]
  ·refine zF (by rw [h]) (zah (ih (j + 1) (by omega)) ?_)
   simp only [List.cons.injEq,h,true_and]
  ·refine zU (by simpa [zax] using h) (zah (Ev.now _) ?_)
   simp only [List.cons.injEq,h,false_and,decide_false]
theorem zg0 (a b : List ByteArray) (hb : a.length < 4611686018427387904) : Ev (fun k => zC.f k a b) (decide (a = b)) := by
 by_cases hl : a.length = b.length
 ·exact zF (by omega) (zhH a b hl hb a.length 0 (by omega))
 ·refine zU (by omega) (zah (Ev.now _) ?_)
  rw [eq_comm,decide_eq_false_iff_not]
  exact fun h => hl (by rw [h])
theorem zgm (o q : Int) (l : List ByteArray) (o' q' : Int) (l' : List ByteArray) (hb : l.length < 4611686018427387904) : Ev (fun k => zdb.f k o q l o' q' l') (zda o q l o' q' l') := by
 unfold zda
 by_cases h1 : o = o'
 ·refine zF h1 ?_
  by_cases h2 : q = q'
  ·exact zF h2 (Ev.bind (zg0 l l' hb) (zah (Ev.now _) (by simp [h1,h2])))
  ·exact zU h2 (zah (Ev.now _) (by simp [h2]))
 ·exact zU h1 (zah (Ev.now _) (by simp [h1]))
end Go.Proofs.Ytndjfdakflaggaa.Px