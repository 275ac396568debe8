/- Part 33 of 36 of the proof of the law DagAdds: what is proved is the statement at the end of the last part; its conditions are those of the given row. -/
import Derived.Test.YtlkfelmbhldgfaaGreatZDagAddsf
namespace Go.Proofs.YtlkfelmbhldgfaaGreat.Px
open Go.RowKit Go.Proofs.YtlkfelmbhldgfaaGreatW.PrintWords Go.Proofs.YtlkfelmbhldgfaaGreatW.PrintLast Go.Proofs.YtlkfelmbhldgfaaGreatW.PrintMore
attribute [local go_sem] zA zC zH zI zv zw zB zD
set_option linter.unusedVariables false
set_option linter.unusedSimpArgs false
set_option maxHeartbeats 16000000 in
set_option maxRecDepth 100000 in
theorem zP.not (a0_0 : Int) (a0_1 : Int) (P0_2_ : Nat → Prop) (A0_2 : Option Addr) (c0_2 : Nat) (l0_2 : List (S42)) (a1_0 : Int) (a1_1 : Int) (P1_2_ : Nat → Prop) (A1_2 : Option Addr) (c1_2 : Nat) (l1_2 : List (S67)) (P1_3_ : Nat → Prop) (A1_3 : Option Addr) (c1_3 : Nat) (l1_3 : List ByteArray) (a1_4 : Int) (a1_5 : Int) (k1 k2 k3 k4 : Nat) (D : ByteArray) (e1 : Int) (fnd by_ : Bool) (lost : List ByteArray) (f1 : ByteArray) (f2 f3 : Int) (f4 : List S67) (f5 : List ByteArray) (f6 f7 : Int) (y1 : ByteArray) (y2 y3 : Int) (y4 : List S67) (y5 : List ByteArray) (y6 y7 : Int) (why : Int) (w : World) (hs0_2 : Kd.V k42 42 w w.heap.size (fun k_ => P0_2_ k_) (.slice A0_2 l0_2.length c0_2) l0_2) (hs1_2 : Kd.V k67 67 w w.heap.size (fun k_ => P1_2_ k_) (.slice A1_2 l1_2.length c1_2) l1_2) (hs1_3 : Kd.V Kd.string 9 w w.heap.size (fun k_ => P1_3_ k_) (.slice A1_3 l1_3.length c1_3) l1_3) (hHD : zaD.f k1 a1_0 a1_1 l1_2 l1_3 a1_4 a1_5 a0_0 = some (D,e1)) (hHF : z4.f k2 a0_0 a0_1 l0_2 D = some (f1,f2,f3,f4,f5,f6,f7,fnd)) (hHYY : z9.f k3 a0_0 a0_1 l0_2 a1_0 a1_1 = some (y1,y2,y3,y4,y5,y6,y7,by_)) (hHM : zt.f k4 a0_0 a0_1 l0_2 a1_0 a1_1 l1_2 l1_3 a1_4 a1_5 = some lost)
  (hw : ((e1 != 0) = true ∧ why = 1) ∨ ((e1 != 0) = false ∧ decide (a1_1 ≤ a0_1) = true ∧ why = 9) ∨ ((e1 != 0) = false ∧ decide (a1_1 ≤ a0_1) = false ∧ fnd = true ∧ why = 8) ∨ ((e1 != 0) = false ∧ decide (a1_1 ≤ a0_1) = false ∧ fnd = false ∧ by_ = true ∧ why = 13) ∨ ((e1 != 0) = false ∧ decide (a1_1 ≤ a0_1) = false ∧ fnd = false ∧ by_ = false ∧ decide (0 < lost.length) = true ∧ decide ((0 : Int) < (lost.length : Int)) = true ∧ why = 11)) :
  Calls Tryz.prog 7 #[.agg #[.int .i64 a0_0,.int .i64 a0_1,.slice A0_2 l0_2.length c0_2],.agg #[.int .i64 a1_0,.int .i64 a1_1,.slice A1_2 l1_2.length c1_2,.slice A1_3 l1_3.length c1_3,.int .i64 a1_4,.int .i64 a1_5]] w fun e w' => e = .returned (.tuple #[.agg #[.int .i64 a0_0,.int .i64 a0_1,.slice A0_2 l0_2.length c0_2],.int .i64 why]) ∧ Below w.heap.size w w' := by
 have HS := za.mk hs0_2
 have HS2 := za.mk hs1_2
 have HS3 := za.mk hs1_3
 have HC := za.mk (Kd.V_reads' hs0_2).2.1
 have HC2 := za.mk (Kd.V_reads' hs1_2).2.1
 have HC3 := za.mk (Kd.V_reads' hs1_3).2.1
 have HD := za.mk hHD
 have HF := za.mk hHF
 have HYY := za.mk hHYY
 have HM := za.mk hHM
 clear hs0_2 hs1_2 hs1_3 hHD hHF hHYY hHM
 have Hw := za.mk (Below.refl w.heap.size w)
 rcases hw with ⟨d1,rfl⟩ | ⟨d1,d2,rfl⟩ | ⟨d1,d2,rfl,rfl⟩ | ⟨d1,d2,rfl,rfl,rfl⟩ | ⟨d1,d2,rfl,rfl,d5,d6,rfl⟩
 all_goals
  go_enter Tryz.func7,Tryz.ntmps7
  go_wp2_with (first
   | ((with_reducible refine zn (N := 2) rfl ?_);refine zl rfl (N := 2) rfl (cs := #[.int .i64 a0_0,.int .i64 a0_1,.slice A0_2 l0_2.length c0_2]) (t := 24) hrq ?_;intro g2 hg u1 hbox hb;have Gw_g2 := za.mk (adg Hw.out hg);replace Hw := za.mk (adl Hw.out hb);have Bg2 := za.mk hbox;clear hbox hb hg;obtain ⟨zg2_0,zg2_1,zg2_2,fg2_0,fg2_1,fg2_2⟩ := hcq3 Bg2.out)
   | ((with_reducible refine zn (N := 3) rfl ?_);refine zl rfl (N := 3) rfl (cs := #[.int .i64 a1_0,.int .i64 a1_1,.slice A1_2 l1_2.length c1_2,.slice A1_3 l1_3.length c1_3,.int .i64 a1_4,.int .i64 a1_5]) (t := 30) hrq ?_;intro g3 hg u2 hbox hb;have Gw_g3 := za.mk (adg Hw.out hg);have Ng2_g3 := za.mk (adn hg Bg2.out);clear zg2_0 zg2_1 zg2_2 fg2_0 fg2_1 fg2_2;replace Bg2 := za.mk (adb Bg2.out hb);replace Hw := za.mk (adl Hw.out hb);have Bg3 := za.mk hbox;clear hbox hb hg;obtain ⟨zg2_0,zg2_1,zg2_2,fg2_0,fg2_1,fg2_2⟩ := hcq3 Bg2.out;obtain ⟨zg3_0,zg3_1,zg3_2,zg3_3,zg3_4,zg3_5,fg3_0,fg3_1,fg3_2,fg3_3,fg3_4,fg3_5⟩ := hcq6 Bg3.out)
   | ((with_reducible refine zn (N := 4) rfl ?_);refine zl rfl (N := 4) rfl (cs := #[.int .i64 0,.int .i64 0,.slice none 0 0]) (t := 24) hrq ?_;intro g4 hg u3 hbox hb;have Gw_g4 := za.mk (adg Hw.out hg);have Ng2_g4 := za.mk (adn hg Bg2.out);have Ng3_g4 := za.mk (adn hg Bg3.out);clear zg2_0 zg2_1 zg2_2 fg2_0 fg2_1 fg2_2 zg3_0 zg3_1 zg3_2 zg3_3 zg3_4 zg3_5 fg3_0 fg3_1 fg3_2 fg3_3 fg3_4 fg3_5;replace Bg2 := za.mk (adb Bg2.out hb);replace Bg3 := za.mk (adb Bg3.out hb);replace Hw := za.mk (adl Hw.out hb);have Bg4 := za.mk hbox;clear hbox hb hg;obtain ⟨zg2_0,zg2_1,zg2_2,fg2_0,fg2_1,fg2_2⟩ := hcq3 Bg2.out;obtain ⟨zg3_0,zg3_1,zg3_2,zg3_3,zg3_4,zg3_5,fg3_0,fg3_1,fg3_2,fg3_3,fg3_4,fg3_5⟩ := hcq6 Bg3.out;obtain ⟨zg4_0,zg4_1,zg4_2,fg4_0,fg4_1,fg4_2⟩ := hcq3 Bg4.out)
   | (go_at_call 21;refine (zaD.calls k1 a1_0 a1_1 _ _ l1_2 _ _ l1_3 a1_4 a1_5 a0_0 D e1 _ (Kd.C_below (Kd.V_reads' HS2.out).2.2 (adw Hw.out)) HC2.out (Kd.C_below (Kd.V_reads' HS3.out).2.2 (adw Hw.out)) HC3.out HD.out).mono ?_;rintro e u4 ⟨rfl,hb⟩;clear zg2_0 zg2_1 zg2_2 fg2_0 fg2_1 fg2_2 zg3_0 zg3_1 zg3_2 zg3_3 zg3_4 zg3_5 fg3_0 fg3_1 fg3_2 fg3_3 fg3_4 fg3_5 zg4_0 zg4_1 zg4_2 fg4_0 fg4_1 fg4_2;replace Bg2 := za.mk (adb Bg2.out hb);replace Bg3 := za.mk (adb Bg3.out hb);replace Bg4 := za.mk (adb Bg4.out hb);replace Hw := za.mk (adl Hw.out hb);clear hb;obtain ⟨zg2_0,zg2_1,zg2_2,fg2_0,fg2_1,fg2_2⟩ := hcq3 Bg2.out;obtain ⟨zg3_0,zg3_1,zg3_2,zg3_3,zg3_4,zg3_5,fg3_0,fg3_1,fg3_2,fg3_3,fg3_4,fg3_5⟩ := hcq6 Bg3.out;obtain ⟨zg4_0,zg4_1,zg4_2,fg4_0,fg4_1,fg4_2⟩ := hcq3 Bg4.out)
   | (go_at_call 22;refine (z4.calls k2 a0_0 a0_1 (fun k_ => P0_2_ k_ ∧ k_ < w.heap.size) _ _ l0_2 D f1 f2 f3 f4 f5 f6 f7 _ _ (Kd.V_map HS.out (fun _ hf => Kd.F_below (Kd.F_bound hf) (adw Hw.out))) HF.out).mono ?_;rintro e u5 ⟨v3,v4,rfl,hv3,hv4,hb⟩;clear zg2_0 zg2_1 zg2_2 fg2_0 fg2_1 fg2_2 zg3_0 zg3_1 zg3_2 zg3_3 zg3_4 zg3_5 fg3_0 fg3_1 fg3_2 fg3_3 fg3_4 fg3_5 zg4_0 zg4_1 zg4_2 fg4_0 fg4_1 fg4_2;replace Bg2 := za.mk (adb Bg2.out hb);replace Bg3 := za.mk (adb Bg3.out hb);replace Bg4 := za.mk (adb Bg4.out hb);replace Hw := za.mk (adl Hw.out hb);obtain ⟨X3,x3,rfl⟩ := Kd.V_slice hv3;obtain ⟨X4,x4,rfl⟩ := Kd.V_slice hv4;clear hv3 hv4;clear hb;obtain ⟨zg2_0,zg2_1,zg2_2,fg2_0,fg2_1,fg2_2⟩ := hcq3 Bg2.out;obtain ⟨zg3_0,zg3_1,zg3_2,zg3_3,zg3_4,zg3_5,fg3_0,fg3_1,fg3_2,fg3_3,fg3_4,fg3_5⟩ := hcq6 Bg3.out;obtain ⟨zg4_0,zg4_1,zg4_2,fg4_0,fg4_1,fg4_2⟩ := hcq3 Bg4.out)
   | ((with_reducible refine zn (N := 8) rfl ?_);refine zl rfl (N := 8) rfl (cs := #[.string ⟨#[]⟩,.int .i64 0,.int .i64 0,.slice none 0 0,.slice none 0 0,.int .i64 0,.int .i64 0]) (t := 42) hrq ?_;intro g8 hg u6 hbox hb;have Gw_g8 := za.mk (adg Hw.out hg);have Ng2_g8 := za.mk (adn hg Bg2.out);have Ng3_g8 := za.mk (adn hg Bg3.out);have Ng4_g8 := za.mk (adn hg Bg4.out);clear zg2_0 zg2_1 zg2_2 fg2_0 fg2_1 fg2_2 zg3_0 zg3_1 zg3_2 zg3_3 zg3_4 zg3_5 fg3_0 fg3_1 fg3_2 fg3_3 fg3_4 fg3_5 zg4_0 zg4_1 zg4_2 fg4_0 fg4_1 fg4_2;replace Bg2 := za.mk (adb Bg2.out hb);replace Bg3 := za.mk (adb Bg3.out hb);replace Bg4 := za.mk (adb Bg4.out hb);replace Hw := za.mk (adl Hw.out hb);have Bg8 := za.mk hbox;clear hbox hb hg;obtain ⟨zg2_0,zg2_1,zg2_2,fg2_0,fg2_1,fg2_2⟩ := hcq3 Bg2.out;obtain ⟨zg3_0,zg3_1,zg3_2,zg3_3,zg3_4,zg3_5,fg3_0,fg3_1,fg3_2,fg3_3,fg3_4,fg3_5⟩ := hcq6 Bg3.out;obtain ⟨zg4_0,zg4_1,zg4_2,fg4_0,fg4_1,fg4_2⟩ := hcq3 Bg4.out;obtain ⟨zg8_0,zg8_1,zg8_2,zg8_3,zg8_4,zg8_5,zg8_6,fg8_0,fg8_1,fg8_2,fg8_3,fg8_4,fg8_5,fg8_6⟩ := hcq7 Bg8.out)
   | ((with_reducible refine za0 (t := 42) (p := 8) rfl ?_);refine zaS (t := 42) (p := 8) (v := _) (w1 := (World.setCell (World.setCell (World.setCell (World.setCell (World.setCell (World.setCell (World.setCell u6 ⟨g8,0,none⟩ (.string f1)) ⟨g8,1,none⟩ (.int .i64 f2)) ⟨g8,2,none⟩ (.int .i64 f3)) ⟨g8,3,none⟩ (.slice X3 f4.length x3)) ⟨g8,4,none⟩ (.slice X4 f5.length x4)) ⟨g8,5,none⟩ (.int .i64 f6)) ⟨g8,6,none⟩ (.int .i64 f7))) rfl rfl rfl hrq ?_;intro u7 hw;clear zg2_0 zg2_1 zg2_2 fg2_0 fg2_1 fg2_2 zg3_0 zg3_1 zg3_2 zg3_3 zg3_4 zg3_5 fg3_0 fg3_1 fg3_2 fg3_3 fg3_4 fg3_5 zg4_0 zg4_1 zg4_2 fg4_0 fg4_1 fg4_2 zg8_0 zg8_1 zg8_2 zg8_3 zg8_4 zg8_5 zg8_6 fg8_0 fg8_1 fg8_2 fg8_3 fg8_4 fg8_5 fg8_6;replace Bg2 := za.mk (adf hw Ng2_g8.out Bg2.out);replace Bg3 := za.mk (adf hw Ng3_g8.out Bg3.out);replace Bg4 := za.mk (adf hw Ng4_g8.out Bg4.out);replace Bg8 : za (u7.heap[g8]? = some (.cells #[.string f1,.int .i64 f2,.int .i64 f3,.slice X3 f4.length x3,.slice X4 f5.length x4,.int .i64 f6,.int .i64 f7] 42 (0,0))) := ⟨adp hw Bg8.out⟩;replace Hw := za.mk (ads hw Gw_g8.out Hw.out);clear hw;obtain ⟨zg2_0,zg2_1,zg2_2,fg2_0,fg2_1,fg2_2⟩ := hcq3 Bg2.out;obtain ⟨zg3_0,zg3_1,zg3_2,zg3_3,zg3_4,zg3_5,fg3_0,fg3_1,fg3_2,fg3_3,fg3_4,fg3_5⟩ := hcq6 Bg3.out;obtain ⟨zg4_0,zg4_1,zg4_2,fg4_0,fg4_1,fg4_2⟩ := hcq3 Bg4.out)
   | (go_at_call 23;refine (z9.calls k3 a0_0 a0_1 (fun k_ => P0_2_ k_ ∧ k_ < w.heap.size) _ _ l0_2 a1_0 a1_1 y1 y2 y3 y4 y5 y6 y7 _ _ (Kd.V_map HS.out (fun _ hf => Kd.F_below (Kd.F_bound hf) (adw Hw.out))) HYY.out).mono ?_;rintro e u8 ⟨v3,v4,rfl,hv3,hv4,hb⟩;clear zg2_0 zg2_1 zg2_2 fg2_0 fg2_1 fg2_2 zg3_0 zg3_1 zg3_2 zg3_3 zg3_4 zg3_5 fg3_0 fg3_1 fg3_2 fg3_3 fg3_4 fg3_5 zg4_0 zg4_1 zg4_2 fg4_0 fg4_1 fg4_2;replace Bg2 := za.mk (adb Bg2.out hb);replace Bg3 := za.mk (adb Bg3.out hb);replace Bg4 := za.mk (adb Bg4.out hb);replace Hw := za.mk (adl Hw.out hb);obtain ⟨Y3,q3,rfl⟩ := Kd.V_slice hv3;obtain ⟨Y4,q4,rfl⟩ := Kd.V_slice hv4;clear hv3 hv4;clear hb;obtain ⟨zg2_0,zg2_1,zg2_2,fg2_0,fg2_1,fg2_2⟩ := hcq3 Bg2.out;obtain ⟨zg3_0,zg3_1,zg3_2,zg3_3,zg3_4,zg3_5,fg3_0,fg3_1,fg3_2,fg3_3,fg3_4,fg3_5⟩ := hcq6 Bg3.out;obtain ⟨zg4_0,zg4_1,zg4_2,fg4_0,fg4_1,fg4_2⟩ := hcq3 Bg4.out)
   | ((with_reducible refine zn (N := 10) rfl ?_);refine zl rfl (N := 10) rfl (cs := #[.string ⟨#[]⟩,.int .i64 0,.int .i64 0,.slice none 0 0,.slice none 0 0,.int .i64 0,.int .i64 0]) (t := 42) hrq ?_;intro g10 hg u9 hbox hb;have Gw_g10 := za.mk (adg Hw.out hg);have Ng2_g10 := za.mk (adn hg Bg2.out);have Ng3_g10 := za.mk (adn hg Bg3.out);have Ng4_g10 := za.mk (adn hg Bg4.out);clear zg2_0 zg2_1 zg2_2 fg2_0 fg2_1 fg2_2 zg3_0 zg3_1 zg3_2 zg3_3 zg3_4 zg3_5 fg3_0 fg3_1 fg3_2 fg3_3 fg3_4 fg3_5 zg4_0 zg4_1 zg4_2 fg4_0 fg4_1 fg4_2;replace Bg2 := za.mk (adb Bg2.out hb);replace Bg3 := za.mk (adb Bg3.out hb);replace Bg4 := za.mk (adb Bg4.out hb);replace Hw := za.mk (adl Hw.out hb);have Bg10 := za.mk hbox;clear hbox hb hg;obtain ⟨zg2_0,zg2_1,zg2_2,fg2_0,fg2_1,fg2_2⟩ := hcq3 Bg2.out;obtain ⟨zg3_0,zg3_1,zg3_2,zg3_3,zg3_4,zg3_5,fg3_0,fg3_1,fg3_2,fg3_3,fg3_4,fg3_5⟩ := hcq6 Bg3.out;obtain ⟨zg4_0,zg4_1,zg4_2,fg4_0,fg4_1,fg4_2⟩ := hcq3 Bg4.out;obtain ⟨zg10_0,zg10_1,zg10_2,zg10_3,zg10_4,zg10_5,zg10_6,fg10_0,fg10_1,fg10_2,fg10_3,fg10_4,fg10_5,fg10_6⟩ := hcq7 Bg10.out)
   | ((with_reducible refine za0 (t := 42) (p := 10) rfl ?_);refine zaS (t := 42) (p := 10) (v := _) (w1 := (World.setCell (World.setCell (World.setCell (World.setCell (World.setCell (World.setCell (World.setCell u9 ⟨g10,0,none⟩ (.string y1)) ⟨g10,1,none⟩ (.int .i64 y2)) ⟨g10,2,none⟩ (.int .i64 y3)) ⟨g10,3,none⟩ (.slice Y3 y4.length q3)) ⟨g10,4,none⟩ (.slice Y4 y5.length q4)) ⟨g10,5,none⟩ (.int .i64 y6)) ⟨g10,6,none⟩ (.int .i64 y7))) rfl rfl rfl hrq ?_;intro u10 hw;clear zg2_0 zg2_1 zg2_2 fg2_0 fg2_1 fg2_2 zg3_0 zg3_1 zg3_2 zg3_3 zg3_4 zg3_5 fg3_0 fg3_1 fg3_2 fg3_3 fg3_4 fg3_5 zg4_0 zg4_1 zg4_2 fg4_0 fg4_1 fg4_2 zg10_0 zg10_1 zg10_2 zg10_3 zg10_4 zg10_5 zg10_6 fg10_0 fg10_1 fg10_2 fg10_3 fg10_4 fg10_5 fg10_6;replace Bg2 := za.mk (adf hw Ng2_g10.out Bg2.out);replace Bg3 := za.mk (adf hw Ng3_g10.out Bg3.out);replace Bg4 := za.mk (adf hw Ng4_g10.out Bg4.out);replace Bg10 : za (u10.heap[g10]? = some (.cells #[.string y1,.int .i64 y2,.int .i64 y3,.slice Y3 y4.length q3,.slice Y4 y5.length q4,.int .i64 y6,.int .i64 y7] 42 (0,0))) := ⟨adp hw Bg10.out⟩;replace Hw := za.mk (ads hw Gw_g10.out Hw.out);clear hw;obtain ⟨zg2_0,zg2_1,zg2_2,fg2_0,fg2_1,fg2_2⟩ := hcq3 Bg2.out;obtain ⟨zg3_0,zg3_1,zg3_2,zg3_3,zg3_4,zg3_5,fg3_0,fg3_1,fg3_2,fg3_3,fg3_4,fg3_5⟩ := hcq6 Bg3.out;obtain ⟨zg4_0,zg4_1,zg4_2,fg4_0,fg4_1,fg4_2⟩ := hcq3 Bg4.out)
   | (go_at_call 24;refine (zt.calls k4 a0_0 a0_1 _ _ l0_2 a1_0 a1_1 _ _ l1_2 _ _ l1_3 a1_4 a1_5 lost _ (Kd.C_below (Kd.V_reads' HS.out).2.2 (adw Hw.out)) HC.out (Kd.C_below (Kd.V_reads' HS2.out).2.2 (adw Hw.out)) HC2.out (Kd.C_below (Kd.V_reads' HS3.out).2.2 (adw Hw.out)) HC3.out HM.out).mono ?_;rintro e u11 ⟨v0,rfl,hR,hb⟩;clear zg2_0 zg2_1 zg2_2 fg2_0 fg2_1 fg2_2 zg3_0 zg3_1 zg3_2 zg3_3 zg3_4 zg3_5 fg3_0 fg3_1 fg3_2 fg3_3 fg3_4 fg3_5 zg4_0 zg4_1 zg4_2 fg4_0 fg4_1 fg4_2;replace Bg2 := za.mk (adb Bg2.out hb);replace Bg3 := za.mk (adb Bg3.out hb);replace Bg4 := za.mk (adb Bg4.out hb);replace Hw := za.mk (adl Hw.out hb);obtain ⟨A7,c7,rfl⟩ := Kd.R_slice hR;clear hR;clear hb;obtain ⟨zg2_0,zg2_1,zg2_2,fg2_0,fg2_1,fg2_2⟩ := hcq3 Bg2.out;obtain ⟨zg3_0,zg3_1,zg3_2,zg3_3,zg3_4,zg3_5,fg3_0,fg3_1,fg3_2,fg3_3,fg3_4,fg3_5⟩ := hcq6 Bg3.out;obtain ⟨zg4_0,zg4_1,zg4_2,fg4_0,fg4_1,fg4_2⟩ := hcq3 Bg4.out))
  refine bodyPost_ret (zaH rfl _ _ g4 24 #[.int .i64 a0_0,.int .i64 a0_1,.slice A0_2 l0_2.length c0_2] (0,0) _ rfl ?bf Tryz.underlying24 rfl (by kernel_rfl)) rfl ?_
  case bf =>
   have x_ := Bg4.out
   (repeat (first | (with_reducible exact x_) | (with_reducible refine zaj ?_ _) | (with_reducible refine z6 ?_) | (with_reducible refine zf ?_ _) | apply zbj))
   all_goals first | (with_reducible rfl) | (simp only [List.setIfInBounds_toArray,List.set_cons_zero,List.set_cons_succ];done)
  exact ⟨rfl,by repeat (with_reducible first | exact Hw.out | apply zk | apply zi | apply zo | refine zj ?_ Gw_g4.out)⟩
def zP.T16 : Bool × List (List Nat × List Nat) := (true,[([],[]),([],[]),([1],[1]),([2],[2]),([0,3],[0,3]),([4],[4]),([5],[5]),([5],[5]),([7,5],[5,7]),([5],[5]),([8,9,5],[5,8,9]),([10,5],[5,10]),([11,5],[5,11]),([6,12,5,5],[5,6,12]),([13,5],[5,13]),([5,14],[5,14])])
def zP.B16 : List Nat := [0,0,2,6,15,31,63,63,191,63,959,1983,4031,8191,16383,32767]
theorem zP.tab16 : zbX .any (zdG Tryz.f7 16) = zP.T16 := by kernel_rfl
theorem zP.bits16 : zbF zP.T16.2 zP.B16 = true := by kernel_rfl
theorem zfU : ∀ (L : List Ent) (x : Ent) (k : Nat),k ≤ L.length → (∀ i,i < k → zbd x.f1.f0 x.f1.f1 (L.getD i z42).f1.f0 (L.getD i z42).f1.f1 = false) → (k = L.length ∨ zbd x.f1.f0 x.f1.f1 (L.getD k z42).f1.f0 (L.getD k z42).f1.f1 = true) → zdb L x = L.take k ++ x :: L.drop k
 | [],x,k,hk,_,_ => by
  obtain rfl : k = 0 := by simpa using hk
  rfl
 | y :: L,x,0,_,_,h => by
  rcases h with h | h
  ·simp at h
  ·rw [zdb,if_pos (by simpa using h)];rfl
 | y :: L,x,k + 1,hk,hF,h => by
  have h0 := hF 0 (Nat.succ_pos _)
  rw [zdb,if_neg (by simpa using h0),zfU L x k (by simpa using hk) (fun i hi => by have := hF (i + 1) (by omega);simpa using this) (by
   rcases h with h | h
   ·left;simpa using h
   ·right;simpa using h)]
  rfl
set_option maxHeartbeats 32000000 in
set_option maxRecDepth 100000 in
theorem zP.yes (a0_0 : Int) (a0_1 : Int) (P0_2_ : Nat → Prop) (A0_2 : Option Addr) (c0_2 : Nat) (l0_2 : List (S42)) (a1_0 : Int) (a1_1 : Int) (P1_2_ : Nat → Prop) (A1_2 : Option Addr) (c1_2 : Nat) (l1_2 : List (S67)) (P1_3_ : Nat → Prop) (A1_3 : Option Addr) (c1_3 : Nat) (l1_3 : List ByteArray) (a1_4 : Int) (a1_5 : Int) (k1 k2 k3 k4 : Nat) (D : ByteArray) (e1 : Int) (lost : List ByteArray) (f1 : ByteArray) (f2 f3 : Int) (f4 : List S67) (f5 : List ByteArray) (f6 f7 : Int) (y1 : ByteArray) (y2 y3 : Int) (y4 : List S67) (y5 : List ByteArray) (y6 y7 : Int) (w : World) (hs0_2 : Kd.V k42 42 w w.heap.size (fun k_ => P0_2_ k_) (.slice A0_2 l0_2.length c0_2) l0_2) (hs1_2 : Kd.V k67 67 w w.heap.size (fun k_ => P1_2_ k_) (.slice A1_2 l1_2.length c1_2) l1_2) (hs1_3 : Kd.V Kd.string 9 w w.heap.size (fun k_ => P1_3_ k_) (.slice A1_3 l1_3.length c1_3) l1_3) (hHD : zaD.f k1 a1_0 a1_1 l1_2 l1_3 a1_4 a1_5 a0_0 = some (D,e1)) (hHF : z4.f k2 a0_0 a0_1 l0_2 D = some (f1,f2,f3,f4,f5,f6,f7,false)) (hHYY : z9.f k3 a0_0 a0_1 l0_2 a1_0 a1_1 = some (y1,y2,y3,y4,y5,y6,y7,false)) (hHM : zt.f k4 a0_0 a0_1 l0_2 a1_0 a1_1 l1_2 l1_3 a1_4 a1_5 = some lost) (hL : l0_2.length < 1466015503701)
  (d1 : (e1 != 0) = false) (d2 : decide (a1_1 ≤ a0_1) = false) (d5 : decide (0 < lost.length) = false) (d6 : decide ((0 : Int) < (lost.length : Int)) = false) :
  Calls Tryz.prog 7 #[.agg #[.int .i64 a0_0,.int .i64 a0_1,.slice A0_2 l0_2.length c0_2],.agg #[.int .i64 a1_0,.int .i64 a1_1,.slice A1_2 l1_2.length c1_2,.slice A1_3 l1_3.length c1_3,.int .i64 a1_4,.int .i64 a1_5]] w fun e w' => ∃ v2_ : Value,e = .returned (.tuple #[.agg #[.int .i64 a0_0,.int .i64 a0_1,v2_],.int .i64 0]) ∧ Kd.V k42 42 w' w.heap.size (fun k_ => ((P0_2_ k_ ∨ P1_2_ k_ ∨ P1_3_ k_) ∨ w.heap.size ≤ k_)) v2_ (zdb l0_2 ⟨D,⟨a1_0,a1_1,l1_2,l1_3,⟨a1_4,a1_5⟩⟩⟩) ∧ Below w.heap.size w w' := by
 have HFX : za (∀ W,Below w.heap.size w W → Kd.FK k42 W (fun k_ => (P1_2_ k_ ∨ P1_3_ k_) ∧ k_ < w.heap.size) (⟨D,⟨a1_0,a1_1,l1_2,l1_3,⟨a1_4,a1_5⟩⟩⟩ : S42) [.string D,.int .i64 a1_0,.int .i64 a1_1,.slice A1_2 l1_2.length c1_2,.slice A1_3 l1_3.length c1_3,.int .i64 a1_4,.int .i64 a1_5]) := ⟨fun W hW => zex W _ (⟨D,⟨a1_0,a1_1,l1_2,l1_3,⟨a1_4,a1_5⟩⟩⟩ : S42) (Kd.V_reads' hs1_2).2.1 (Kd.F_mono (Kd.F_below (Kd.F_bound (Kd.V_at hs1_2).2.2) hW) (fun _ hk => ⟨.inl hk.1,hk.2⟩)) (Kd.V_reads' hs1_3).2.1 (Kd.F_mono (Kd.F_below (Kd.F_bound (Kd.V_at hs1_3).2.2) hW) (fun _ hk => ⟨.inr hk.1,hk.2⟩))⟩
 have HL := za.mk hL
 have hmx := hL
 have HS := za.mk hs0_2
 have HS2 := za.mk hs1_2
 have HS3 := za.mk hs1_3
 have HC := za.mk (Kd.V_reads' hs0_2).2.1
 have HC2 := za.mk (Kd.V_reads' hs1_2).2.1
 have HC3 := za.mk (Kd.V_reads' hs1_3).2.1
 have HD := za.mk hHD
 have HF := za.mk hHF
 have HYY := za.mk hHYY
 have HM := za.mk hHM
 clear hs0_2 hs1_2 hs1_3 hHD hHF hHYY hHM
 have Hw := za.mk (Below.refl w.heap.size w)
 clear hL
 go_enter Tryz.func7,Tryz.ntmps7
 go_wp2_with (first
  | ((with_reducible refine zn (N := 2) rfl ?_);refine zl rfl (N := 2) rfl (cs := #[.int .i64 a0_0,.int .i64 a0_1,.slice A0_2 l0_2.length c0_2]) (t := 24) hrq ?_;intro g2 hg u1 hbox hb;have Gw_g2 := za.mk (adg Hw.out hg);replace Hw := za.mk (adl Hw.out hb);have Bg2 := za.mk hbox;clear hbox hb hg;obtain ⟨zg2_0,zg2_1,zg2_2,fg2_0,fg2_1,fg2_2⟩ := hcq3 Bg2.out)
  | ((with_reducible refine zn (N := 3) rfl ?_);refine zl rfl (N := 3) rfl (cs := #[.int .i64 a1_0,.int .i64 a1_1,.slice A1_2 l1_2.length c1_2,.slice A1_3 l1_3.length c1_3,.int .i64 a1_4,.int .i64 a1_5]) (t := 30) hrq ?_;intro g3 hg u2 hbox hb;have Gw_g3 := za.mk (adg Hw.out hg);have Ng2_g3 := za.mk (adn hg Bg2.out);clear zg2_0 zg2_1 zg2_2 fg2_0 fg2_1 fg2_2;replace Bg2 := za.mk (adb Bg2.out hb);replace Hw := za.mk (adl Hw.out hb);have Bg3 := za.mk hbox;clear hbox hb hg;obtain ⟨zg2_0,zg2_1,zg2_2,fg2_0,fg2_1,fg2_2⟩ := hcq3 Bg2.out;obtain ⟨zg3_0,zg3_1,zg3_2,zg3_3,zg3_4,zg3_5,fg3_0,fg3_1,fg3_2,fg3_3,fg3_4,fg3_5⟩ := hcq6 Bg3.out)
  | ((with_reducible refine zn (N := 4) rfl ?_);refine zl rfl (N := 4) rfl (cs := #[.int .i64 0,.int .i64 0,.slice none 0 0]) (t := 24) hrq ?_;intro g4 hg u3 hbox hb;have Gw_g4 := za.mk (adg Hw.out hg);have Ng2_g4 := za.mk (adn hg Bg2.out);have Ng3_g4 := za.mk (adn hg Bg3.out);clear zg2_0 zg2_1 zg2_2 fg2_0 fg2_1 fg2_2 zg3_0 zg3_1 zg3_2 zg3_3 zg3_4 zg3_5 fg3_0 fg3_1 fg3_2 fg3_3 fg3_4 fg3_5;replace Bg2 := za.mk (adb Bg2.out hb);replace Bg3 := za.mk (adb Bg3.out hb);replace Hw := za.mk (adl Hw.out hb);have Bg4 := za.mk hbox;clear hbox hb hg;obtain ⟨zg2_0,zg2_1,zg2_2,fg2_0,fg2_1,fg2_2⟩ := hcq3 Bg2.out;obtain ⟨zg3_0,zg3_1,zg3_2,zg3_3,zg3_4,zg3_5,fg3_0,fg3_1,fg3_2,fg3_3,fg3_4,fg3_5⟩ := hcq6 Bg3.out;obtain ⟨zg4_0,zg4_1,zg4_2,fg4_0,fg4_1,fg4_2⟩ := hcq3 Bg4.out)
  | (go_at_call 21;refine (zaD.calls k1 a1_0 a1_1 _ _ l1_2 _ _ l1_3 a1_4 a1_5 a0_0 D e1 _ (Kd.C_below (Kd.V_reads' HS2.out).2.2 (adw Hw.out)) HC2.out (Kd.C_below (Kd.V_reads' HS3.out).2.2 (adw Hw.out)) HC3.out HD.out).mono ?_;rintro e u4 ⟨rfl,hb⟩;clear zg2_0 zg2_1 zg2_2 fg2_0 fg2_1 fg2_2 zg3_0 zg3_1 zg3_2 zg3_3 zg3_4 zg3_5 fg3_0 fg3_1 fg3_2 fg3_3 fg3_4 fg3_5 zg4_0 zg4_1 zg4_2 fg4_0 fg4_1 fg4_2;replace Bg2 := za.mk (adb Bg2.out hb);replace Bg3 := za.mk (adb Bg3.out hb);replace Bg4 := za.mk (adb Bg4.out hb);replace Hw := za.mk (adl Hw.out hb);clear hb;obtain ⟨zg2_0,zg2_1,zg2_2,fg2_0,fg2_1,fg2_2⟩ := hcq3 Bg2.out;obtain ⟨zg3_0,zg3_1,zg3_2,zg3_3,zg3_4,zg3_5,fg3_0,fg3_1,fg3_2,fg3_3,fg3_4,fg3_5⟩ := hcq6 Bg3.out;obtain ⟨zg4_0,zg4_1,zg4_2,fg4_0,fg4_1,fg4_2⟩ := hcq3 Bg4.out)
  | (go_at_call 22;refine (z4.calls k2 a0_0 a0_1 (fun k_ => P0_2_ k_ ∧ k_ < w.heap.size) _ _ l0_2 D f1 f2 f3 f4 f5 f6 f7 _ _ (Kd.V_map HS.out (fun _ hf => Kd.F_below (Kd.F_bound hf) (adw Hw.out))) HF.out).mono ?_;rintro e u5 ⟨v3,v4,rfl,hv3,hv4,hb⟩;clear zg2_0 zg2_1 zg2_2 fg2_0 fg2_1 fg2_2 zg3_0 zg3_1 zg3_2 zg3_3 zg3_4 zg3_5 fg3_0 fg3_1 fg3_2 fg3_3 fg3_4 fg3_5 zg4_0 zg4_1 zg4_2 fg4_0 fg4_1 fg4_2;replace Bg2 := za.mk (adb Bg2.out hb);replace Bg3 := za.mk (adb Bg3.out hb);replace Bg4 := za.mk (adb Bg4.out hb);replace Hw := za.mk (adl Hw.out hb);obtain ⟨X3,x3,rfl⟩ := Kd.V_slice hv3;obtain ⟨X4,x4,rfl⟩ := Kd.V_slice hv4;clear hv3 hv4;clear hb;obtain ⟨zg2_0,zg2_1,zg2_2,fg2_0,fg2_1,fg2_2⟩ := hcq3 Bg2.out;obtain ⟨zg3_0,zg3_1,zg3_2,zg3_3,zg3_4,zg3_5,fg3_0,fg3_1,fg3_2,fg3_3,fg3_4,fg3_5⟩ := hcq6 Bg3.out;obtain ⟨zg4_0,zg4_1,zg4_2,fg4_0,fg4_1,fg4_2⟩ := hcq3 Bg4.out)
  | ((with_reducible refine zn (N := 8) rfl ?_);refine zl rfl (N := 8) rfl (cs := #[.string ⟨#[]⟩,.int .i64 0,.int .i64 0,.slice none 0 0,.slice none 0 0,.int .i64 0,.int .i64 0]) (t := 42) hrq ?_;intro g8 hg u6 hbox hb;have Gw_g8 := za.mk (adg Hw.out hg);have Ng2_g8 := za.mk (adn hg Bg2.out);have Ng3_g8 := za.mk (adn hg Bg3.out);have Ng4_g8 := za.mk (adn hg Bg4.out);clear zg2_0 zg2_1 zg2_2 fg2_0 fg2_1 fg2_2 zg3_0 zg3_1 zg3_2 zg3_3 zg3_4 zg3_5 fg3_0 fg3_1 fg3_2 fg3_3 fg3_4 fg3_5 zg4_0 zg4_1 zg4_2 fg4_0 fg4_1 fg4_2;replace Bg2 := za.mk (adb Bg2.out hb);replace Bg3 := za.mk (adb Bg3.out hb);replace Bg4 := za.mk (adb Bg4.out hb);replace Hw := za.mk (adl Hw.out hb);have Bg8 := za.mk hbox;clear hbox hb hg;obtain ⟨zg2_0,zg2_1,zg2_2,fg2_0,fg2_1,fg2_2⟩ := hcq3 Bg2.out;obtain ⟨zg3_0,zg3_1,zg3_2,zg3_3,zg3_4,zg3_5,fg3_0,fg3_1,fg3_2,fg3_3,fg3_4,fg3_5⟩ := hcq6 Bg3.out;obtain ⟨zg4_0,zg4_1,zg4_2,fg4_0,fg4_1,fg4_2⟩ := hcq3 Bg4.out;obtain ⟨zg8_0,zg8_1,zg8_2,zg8_3,zg8_4,zg8_5,zg8_6,fg8_0,fg8_1,fg8_2,fg8_3,fg8_4,fg8_5,fg8_6⟩ := hcq7 Bg8.out)
  | ((with_reducible refine za0 (t := 42) (p := 8) rfl ?_);refine zaS (t := 42) (p := 8) (v := _) (w1 := (World.setCell (World.setCell (World.setCell (World.setCell (World.setCell (World.setCell (World.setCell u6 ⟨g8,0,none⟩ (.string f1)) ⟨g8,1,none⟩ (.int .i64 f2)) ⟨g8,2,none⟩ (.int .i64 f3)) ⟨g8,3,none⟩ (.slice X3 f4.length x3)) ⟨g8,4,none⟩ (.slice X4 f5.length x4)) ⟨g8,5,none⟩ (.int .i64 f6)) ⟨g8,6,none⟩ (.int .i64 f7))) rfl rfl rfl hrq ?_;intro u7 hw;clear zg2_0 zg2_1 zg2_2 fg2_0 fg2_1 fg2_2 zg3_0 zg3_1 zg3_2 zg3_3 zg3_4 zg3_5 fg3_0 fg3_1 fg3_2 fg3_3 fg3_4 fg3_5 zg4_0 zg4_1 zg4_2 fg4_0 fg4_1 fg4_2 zg8_0 zg8_1 zg8_2 zg8_3 zg8_4 zg8_5 zg8_6 fg8_0 fg8_1 fg8_2 fg8_3 fg8_4 fg8_5 fg8_6;replace Bg2 := za.mk (adf hw Ng2_g8.out Bg2.out);replace Bg3 := za.mk (adf hw Ng3_g8.out Bg3.out);replace Bg4 := za.mk (adf hw Ng4_g8.out Bg4.out);replace Bg8 : za (u7.heap[g8]? = some (.cells #[.string f1,.int .i64 f2,.int .i64 f3,.slice X3 f4.length x3,.slice X4 f5.length x4,.int .i64 f6,.int .i64 f7] 42 (0,0))) := ⟨adp hw Bg8.out⟩;replace Hw := za.mk (ads hw Gw_g8.out Hw.out);clear hw;obtain ⟨zg2_0,zg2_1,zg2_2,fg2_0,fg2_1,fg2_2⟩ := hcq3 Bg2.out;obtain ⟨zg3_0,zg3_1,zg3_2,zg3_3,zg3_4,zg3_5,fg3_0,fg3_1,fg3_2,fg3_3,fg3_4,fg3_5⟩ := hcq6 Bg3.out;obtain ⟨zg4_0,zg4_1,zg4_2,fg4_0,fg4_1,fg4_2⟩ := hcq3 Bg4.out)
  | (go_at_call 23;refine (z9.calls k3 a0_0 a0_1 (fun k_ => P0_2_ k_ ∧ k_ < w.heap.size) _ _ l0_2 a1_0 a1_1 y1 y2 y3 y4 y5 y6 y7 _ _ (Kd.V_map HS.out (fun _ hf => Kd.F_below (Kd.F_bound hf) (adw Hw.out))) HYY.out).mono ?_;rintro e u8 ⟨v3,v4,rfl,hv3,hv4,hb⟩;clear zg2_0 zg2_1 zg2_2 fg2_0 fg2_1 fg2_2 zg3_0 zg3_1 zg3_2 zg3_3 zg3_4 zg3_5 fg3_0 fg3_1 fg3_2 fg3_3 fg3_4 fg3_5 zg4_0 zg4_1 zg4_2 fg4_0 fg4_1 fg4_2;replace Bg2 := za.mk (adb Bg2.out hb);replace Bg3 := za.mk (adb Bg3.out hb);replace Bg4 := za.mk (adb Bg4.out hb);replace Hw := za.mk (adl Hw.out hb);obtain ⟨Y3,q3,rfl⟩ := Kd.V_slice hv3;obtain ⟨Y4,q4,rfl⟩ := Kd.V_slice hv4;clear hv3 hv4;clear hb;obtain ⟨zg2_0,zg2_1,zg2_2,fg2_0,fg2_1,fg2_2⟩ := hcq3 Bg2.out;obtain ⟨zg3_0,zg3_1,zg3_2,zg3_3,zg3_4,zg3_5,fg3_0,fg3_1,fg3_2,fg3_3,fg3_4,fg3_5⟩ := hcq6 Bg3.out;obtain ⟨zg4_0,zg4_1,zg4_2,fg4_0,fg4_1,fg4_2⟩ := hcq3 Bg4.out)
  | ((with_reducible refine zn (N := 10) rfl ?_);refine zl rfl (N := 10) rfl (cs := #[.string ⟨#[]⟩,.int .i64 0,.int .i64 0,.slice none 0 0,.slice none 0 0,.int .i64 0,.int .i64 0]) (t := 42) hrq ?_;intro g10 hg u9 hbox hb;have Gw_g10 := za.mk (adg Hw.out hg);have Ng2_g10 := za.mk (adn hg Bg2.out);have Ng3_g10 := za.mk (adn hg Bg3.out);have Ng4_g10 := za.mk (adn hg Bg4.out);clear zg2_0 zg2_1 zg2_2 fg2_0 fg2_1 fg2_2 zg3_0 zg3_1 zg3_2 zg3_3 zg3_4 zg3_5 fg3_0 fg3_1 fg3_2 fg3_3 fg3_4 fg3_5 zg4_0 zg4_1 zg4_2 fg4_0 fg4_1 fg4_2;replace Bg2 := za.mk (adb Bg2.out hb);replace Bg3 := za.mk (adb Bg3.out hb);replace Bg4 := za.mk (adb Bg4.out hb);replace Hw := za.mk (adl Hw.out hb);have Bg10 := za.mk hbox;clear hbox hb hg;obtain ⟨zg2_0,zg2_1,zg2_2,fg2_0,fg2_1,fg2_2⟩ := hcq3 Bg2.out;obtain ⟨zg3_0,zg3_1,zg3_2,zg3_3,zg3_4,zg3_5,fg3_0,fg3_1,fg3_2,fg3_3,fg3_4,fg3_5⟩ := hcq6 Bg3.out;obtain ⟨zg4_0,zg4_1,zg4_2,fg4_0,fg4_1,fg4_2⟩ := hcq3 Bg4.out;obtain ⟨zg10_0,zg10_1,zg10_2,zg10_3,zg10_4,zg10_5,zg10_6,fg10_0,fg10_1,fg10_2,fg10_3,fg10_4,fg10_5,fg10_6⟩ := hcq7 Bg10.out)
  | ((with_reducible refine za0 (t := 42) (p := 10) rfl ?_);refine zaS (t := 42) (p := 10) (v := _) (w1 := (World.setCell (World.setCell (World.setCell (World.setCell (World.setCell (World.setCell (World.setCell u9 ⟨g10,0,none⟩ (.string y1)) ⟨g10,1,none⟩ (.int .i64 y2)) ⟨g10,2,none⟩ (.int .i64 y3)) ⟨g10,3,none⟩ (.slice Y3 y4.length q3)) ⟨g10,4,none⟩ (.slice Y4 y5.length q4)) ⟨g10,5,none⟩ (.int .i64 y6)) ⟨g10,6,none⟩ (.int .i64 y7))) rfl rfl rfl hrq ?_;intro u10 hw;clear zg2_0 zg2_1 zg2_2 fg2_0 fg2_1 fg2_2 zg3_0 zg3_1 zg3_2 zg3_3 zg3_4 zg3_5 fg3_0 fg3_1 fg3_2 fg3_3 fg3_4 fg3_5 zg4_0 zg4_1 zg4_2 fg4_0 fg4_1 fg4_2 zg10_0 zg10_1 zg10_2 zg10_3 zg10_4 zg10_5 zg10_6 fg10_0 fg10_1 fg10_2 fg10_3 fg10_4 fg10_5 fg10_6;replace Bg2 := za.mk (adf hw Ng2_g10.out Bg2.out);replace Bg3 := za.mk (adf hw Ng3_g10.out Bg3.out);replace Bg4 := za.mk (adf hw Ng4_g10.out Bg4.out);replace Bg10 : za (u10.heap[g10]? = some (.cells #[.string y1,.int .i64 y2,.int .i64 y3,.slice Y3 y4.length q3,.slice Y4 y5.length q4,.int .i64 y6,.int .i64 y7] 42 (0,0))) := ⟨adp hw Bg10.out⟩;replace Hw := za.mk (ads hw Gw_g10.out Hw.out);clear hw;obtain ⟨zg2_0,zg2_1,zg2_2,fg2_0,fg2_1,fg2_2⟩ := hcq3 Bg2.out;obtain ⟨zg3_0,zg3_1,zg3_2,zg3_3,zg3_4,zg3_5,fg3_0,fg3_1,fg3_2,fg3_3,fg3_4,fg3_5⟩ := hcq6 Bg3.out;obtain ⟨zg4_0,zg4_1,zg4_2,fg4_0,fg4_1,fg4_2⟩ := hcq3 Bg4.out)
  | (go_at_call 24;refine (zt.calls k4 a0_0 a0_1 _ _ l0_2 a1_0 a1_1 _ _ l1_2 _ _ l1_3 a1_4 a1_5 lost _ (Kd.C_below (Kd.V_reads' HS.out).2.2 (adw Hw.out)) HC.out (Kd.C_below (Kd.V_reads' HS2.out).2.2 (adw Hw.out)) HC2.out (Kd.C_below (Kd.V_reads' HS3.out).2.2 (adw Hw.out)) HC3.out HM.out).mono ?_;rintro e u11 ⟨v0,rfl,hR,hb⟩;clear zg2_0 zg2_1 zg2_2 fg2_0 fg2_1 fg2_2 zg3_0 zg3_1 zg3_2 zg3_3 zg3_4 zg3_5 fg3_0 fg3_1 fg3_2 fg3_3 fg3_4 fg3_5 zg4_0 zg4_1 zg4_2 fg4_0 fg4_1 fg4_2;replace Bg2 := za.mk (adb Bg2.out hb);replace Bg3 := za.mk (adb Bg3.out hb);replace Bg4 := za.mk (adb Bg4.out hb);replace Hw := za.mk (adl Hw.out hb);obtain ⟨A7,c7,rfl⟩ := Kd.R_slice hR;clear hR;clear hb;obtain ⟨zg2_0,zg2_1,zg2_2,fg2_0,fg2_1,fg2_2⟩ := hcq3 Bg2.out;obtain ⟨zg3_0,zg3_1,zg3_2,zg3_3,zg3_4,zg3_5,fg3_0,fg3_1,fg3_2,fg3_3,fg3_4,fg3_5⟩ := hcq6 Bg3.out;obtain ⟨zg4_0,zg4_1,zg4_2,fg4_0,fg4_1,fg4_2⟩ := hcq3 Bg4.out))
 have M1 : za (zbl w u11 g2 g3 g4 (.cells #[.int .i64 a0_0,.int .i64 a0_1,.slice A0_2 l0_2.length c0_2] 24 (0,0)) (.cells #[.int .i64 a1_0,.int .i64 a1_1,.slice A1_2 l1_2.length c1_2,.slice A1_3 l1_3.length c1_3,.int .i64 a1_4,.int .i64 a1_5] 30 (0,0)) (.cells #[.int .i64 0,.int .i64 0,.slice none 0 0] 24 (0,0))) := ⟨⟨Hw.out,Bg2.out,Bg3.out,Bg4.out⟩⟩
 clear Bg2 Bg3 Bg4 Hw zg2_0 zg2_1 zg2_2 fg2_0 fg2_1 fg2_2 zg3_0 zg3_1 zg3_2 zg3_3 zg3_4 zg3_5 fg3_0 fg3_1 fg3_2 fg3_3 fg3_4 fg3_5 zg4_0 zg4_1 zg4_2 fg4_0 fg4_1 fg4_2 d1 d2 d5 d6
 go_loopw [13] (fun v13 wr => ∃ k : Nat,v13 = .int .i64 k ∧ k ≤ l0_2.length ∧ za (∀ i,i < k → zbd a1_0 a1_1 (l0_2.getD i z42).f1.f0 (l0_2.getD i z42).f1.f1 = false) ∧ za (zbl w wr g2 g3 g4 (.cells #[.int .i64 a0_0,.int .i64 a0_1,.slice A0_2 l0_2.length c0_2] 24 (0,0)) (.cells #[.int .i64 a1_0,.int .i64 a1_1,.slice A1_2 l1_2.length c1_2,.slice A1_3 l1_3.length c1_3,.int .i64 a1_4,.int .i64 a1_5] 30 (0,0)) (.cells #[.int .i64 0,.int .i64 0,.slice none 0 0] 24 (0,0)))) (fun v13 _ => l0_2.length - (intOf v13).toNat)
 case atStart => exact ⟨0,rfl,Nat.zero_le _,⟨fun i hi => absurd hi (Nat.not_lt_zero _)⟩,M1⟩
 case round =>
  clear M1
  obtain ⟨k,rfl,hk,HF,HM1⟩ := hrel
  have HIJ := za.mk hk
  by_cases hlt : k < l0_2.length
  ·have HLT := za.mk hlt
   obtain ⟨ad,A3,c3,A4,c4,rfl,hx0,hx1,hx2,hx3,hx4,hx5,hx6,q1,q2,q3,q4⟩ := zaG (Kd.V_reads' HS.out).2.2 (k : Int) (by omega) (by omega)
   have hgd : l0_2.getD k z42 = zd l0_2 (k : Int) := by rw [zd,Int.toNat_natCast]
   rw [Int.toNat_natCast] at hx0 hx1 hx2 hx3 hx4 hx5 hx6
   have hb : decide (k < l0_2.length) = true := decide_eq_true hlt
   have hb2 : decide ((k : Int) < (l0_2.length : Int)) = true := decide_eq_true (by omega)
   have p3_ : ((0 : Int) ≤ (k : Int)) = True := eq_true (by omega)
   have p4_ : ((k : Int) < (l0_2.length : Int)) = True := eq_true (by omega)
   generalize zd l0_2 (k : Int) = s at *
   obtain ⟨s0,⟨s1,s2,s3,s4,⟨s5,s6⟩⟩⟩ := s
   have HQ1 := za.mk q2
   have HQ2 := za.mk q1
   have HQ3 := za.mk q4
   have HQ4 := za.mk q3
   have HGD := za.mk hgd
   have HPR : za (∀ w',Below w.heap.size w w' → w'.cell? (ad.add (k * 7)) = some (.string s0) ∧ w'.cell? ⟨(ad.add (k * 7)).block,(ad.add (k * 7)).off + 1,none⟩ = some (.int .i64 s1) ∧ w'.cell? ⟨(ad.add (k * 7)).block,(ad.add (k * 7)).off + 2,none⟩ = some (.int .i64 s2) ∧ w'.cell? ⟨(ad.add (k * 7)).block,(ad.add (k * 7)).off + 3,none⟩ = some (.slice A3 s3.length c3) ∧ w'.cell? ⟨(ad.add (k * 7)).block,(ad.add (k * 7)).off + 4,none⟩ = some (.slice A4 s4.length c4) ∧ w'.cell? ⟨(ad.add (k * 7)).block,(ad.add (k * 7)).off + 5,none⟩ = some (.int .i64 s5) ∧ w'.cell? ⟨(ad.add (k * 7)).block,(ad.add (k * 7)).off + 6,none⟩ = some (.int .i64 s6)) := ⟨fun w' hb' => ⟨(hb'.cell (World.block_lt_of_cell? w _ hx0)).trans hx0,(hb'.cell (World.block_lt_of_cell? w _ hx1)).trans hx1,(hb'.cell (World.block_lt_of_cell? w _ hx2)).trans hx2,(hb'.cell (World.block_lt_of_cell? w _ hx3)).trans hx3,(hb'.cell (World.block_lt_of_cell? w _ hx4)).trans hx4,(hb'.cell (World.block_lt_of_cell? w _ hx5)).trans hx5,(hb'.cell (World.block_lt_of_cell? w _ hx6)).trans hx6⟩⟩
   clear hx0 hx1 hx2 hx3 hx4 hx5 hx6 q1 q2 q3 q4 hgd
   have MK : za (∀ w' : World,zbl w w' g2 g3 g4 (.cells #[.int .i64 a0_0,.int .i64 a0_1,.slice (some ad) l0_2.length c0_2] 24 (0,0)) (.cells #[.int .i64 a1_0,.int .i64 a1_1,.slice A1_2 l1_2.length c1_2,.slice A1_3 l1_3.length c1_3,.int .i64 a1_4,.int .i64 a1_5] 30 (0,0)) (.cells #[.int .i64 0,.int .i64 0,.slice none 0 0] 24 (0,0)) → w'.cell? ⟨g2,0,none⟩ = some (.int .i64 a0_0) ∧ w'.cell? ⟨g2,1,none⟩ = some (.int .i64 a0_1) ∧ w'.cell? ⟨g2,2,none⟩ = some (.slice (some ad) l0_2.length c0_2) ∧ w'.cell? ⟨g3,0,none⟩ = some (.int .i64 a1_0) ∧ w'.cell? ⟨g3,1,none⟩ = some (.int .i64 a1_1) ∧ w'.cell? ⟨g3,2,none⟩ = some (.slice A1_2 l1_2.length c1_2) ∧ w'.cell? ⟨g3,3,none⟩ = some (.slice A1_3 l1_3.length c1_3) ∧ w'.cell? ⟨g3,4,none⟩ = some (.int .i64 a1_4) ∧ w'.cell? ⟨g3,5,none⟩ = some (.int .i64 a1_5) ∧ zbl w w' g2 g3 g4 (.cells #[.int .i64 a0_0,.int .i64 a0_1,.slice (some ad) l0_2.length c0_2] 24 (0,0)) (.cells #[.int .i64 a1_0,.int .i64 a1_1,.slice A1_2 l1_2.length c1_2,.slice A1_3 l1_3.length c1_3,.int .i64 a1_4,.int .i64 a1_5] 30 (0,0)) (.cells #[.int .i64 0,.int .i64 0,.slice none 0 0] 24 (0,0))) := ⟨fun w' h => ⟨(zb h.c2 0).trans rfl,(zb h.c2 1).trans rfl,(zb h.c2 2).trans rfl,(zb h.c3 0).trans rfl,(zb h.c3 1).trans rfl,(zb h.c3 2).trans rfl,(zb h.c3 3).trans rfl,(zb h.c3 4).trans rfl,(zb h.c3 5).trans rfl,h⟩⟩
   have LM : za (∀ w' : World,(w'.cell? ⟨g2,0,none⟩ = some (.int .i64 a0_0) ∧ w'.cell? ⟨g2,1,none⟩ = some (.int .i64 a0_1) ∧ w'.cell? ⟨g2,2,none⟩ = some (.slice (some ad) l0_2.length c0_2) ∧ w'.cell? ⟨g3,0,none⟩ = some (.int .i64 a1_0) ∧ w'.cell? ⟨g3,1,none⟩ = some (.int .i64 a1_1) ∧ w'.cell? ⟨g3,2,none⟩ = some (.slice A1_2 l1_2.length c1_2) ∧ w'.cell? ⟨g3,3,none⟩ = some (.slice A1_3 l1_3.length c1_3) ∧ w'.cell? ⟨g3,4,none⟩ = some (.int .i64 a1_4) ∧ w'.cell? ⟨g3,5,none⟩ = some (.int .i64 a1_5) ∧ zbl w w' g2 g3 g4 (.cells #[.int .i64 a0_0,.int .i64 a0_1,.slice (some ad) l0_2.length c0_2] 24 (0,0)) (.cells #[.int .i64 a1_0,.int .i64 a1_1,.slice A1_2 l1_2.length c1_2,.slice A1_3 l1_3.length c1_3,.int .i64 a1_4,.int .i64 a1_5] 30 (0,0)) (.cells #[.int .i64 0,.int .i64 0,.slice none 0 0] 24 (0,0))) → zbl w w' g2 g3 g4 (.cells #[.int .i64 a0_0,.int .i64 a0_1,.slice (some ad) l0_2.length c0_2] 24 (0,0)) (.cells #[.int .i64 a1_0,.int .i64 a1_1,.slice A1_2 l1_2.length c1_2,.slice A1_3 l1_3.length c1_3,.int .i64 a1_4,.int .i64 a1_5] 30 (0,0)) (.cells #[.int .i64 0,.int .i64 0,.slice none 0 0] 24 (0,0))) := ⟨fun w' h => h.2.2.2.2.2.2.2.2.2⟩
   obtain ⟨q,h6⟩ : ∃ q,zbd a1_0 a1_1 s1 s2 = q := ⟨_,rfl⟩
   have HA : za (zbb.f a1_0 a1_1 l1_2 l1_3 a1_4 a1_5 s1 s2 s3 s4 s5 s6 = some q) := ⟨(zhD a1_0 a1_1 l1_2 l1_3 a1_4 a1_5 s1 s2 s3 s4 s5 s6).trans (by rw [h6])⟩
   go_wp2_with fail
   refine zbH (n := 16) (S := fun w' => w'.cell? ⟨g2,0,none⟩ = some (.int .i64 a0_0) ∧ w'.cell? ⟨g2,1,none⟩ = some (.int .i64 a0_1) ∧ w'.cell? ⟨g2,2,none⟩ = some (.slice (some ad) l0_2.length c0_2) ∧ w'.cell? ⟨g3,0,none⟩ = some (.int .i64 a1_0) ∧ w'.cell? ⟨g3,1,none⟩ = some (.int .i64 a1_1) ∧ w'.cell? ⟨g3,2,none⟩ = some (.slice A1_2 l1_2.length c1_2) ∧ w'.cell? ⟨g3,3,none⟩ = some (.slice A1_3 l1_3.length c1_3) ∧ w'.cell? ⟨g3,4,none⟩ = some (.int .i64 a1_4) ∧ w'.cell? ⟨g3,5,none⟩ = some (.int .i64 a1_5) ∧ zbl w w' g2 g3 g4 (.cells #[.int .i64 a0_0,.int .i64 a0_1,.slice (some ad) l0_2.length c0_2] 24 (0,0)) (.cells #[.int .i64 a1_0,.int .i64 a1_1,.slice A1_2 l1_2.length c1_2,.slice A1_3 l1_3.length c1_3,.int .i64 a1_4,.int .i64 a1_5] 30 (0,0)) (.cells #[.int .i64 0,.int .i64 0,.slice none 0 0] 24 (0,0))) (ds := []) (zai 16 0) (by kernel_rfl) rfl rfl (MK.out _ HM1.out.drew) (fun hHeld => ?_);refine zaO zP.tab16 zP.bits16 (fun HT_ HW_ => ?_)
   refine puq (i := 0) (N := some 57) HT_.out (zai 16 1) ?_
   refine puq (i := 1) (N := some 58) HT_.out (zai 16 2) ?_
   refine take_ (i := 2) (N := some 59) (zai 16 3) rfl rfl (zY HT_.out HW_.out (by kernel_rfl)) (fun _ _ _ h => h) (Or.inl ⟨by rfl,by rintro w' ⟨r0,r1,r2,r3,r4,r5,r6,r7,r8,hM⟩;go_simp;with_reducible rfl⟩) hHeld hPq ?_
   refine puq (i := 3) (N := some 60) HT_.out (zai 16 4) ?_
   refine puq (i := 4) (N := some 61) HT_.out (zai 16 5) ?_
   refine puq (i := 5) (N := some 62) HT_.out (zai 16 6) ?_
   refine take_ (i := 6) (N := some 63) (zai 16 7) rfl rfl (zY HT_.out HW_.out (by kernel_rfl)) (fun _ _ _ h => h) (Or.inl ⟨by rfl,by rintro w' ⟨r0,r1,r2,r3,r4,r5,r6,r7,r8,hM⟩;go_simp;with_reducible rfl⟩) hHeld hPq ?_
   refine puq (i := 7) (N := some 64) HT_.out (zai 16 8) ?_
   refine take_ (i := 8) (N := some 65) (zai 16 9) rfl rfl (zY HT_.out HW_.out (by kernel_rfl)) (fun _ _ _ h => h) (Or.inl ⟨by rfl,by rintro w' ⟨r0,r1,r2,r3,r4,r5,r6,r7,r8,hM⟩;go_simp;with_reducible rfl⟩) hHeld hPq ?_
   refine puq (i := 9) (N := some 66) HT_.out (zai 16 10) ?_
   refine puq (i := 10) (N := some 67) HT_.out (zai 16 11) ?_
   refine puq (i := 11) (N := some 68) HT_.out (zai 16 12) ?_
   refine take_ (i := 12) (N := some 69) (zai 16 13) rfl rfl (zY HT_.out HW_.out (by kernel_rfl)) (fun _ _ _ h => h) (Or.inl ⟨by rfl,by rintro w' ⟨r0,r1,r2,r3,r4,r5,r6,r7,r8,hM⟩;obtain ⟨u0,u1,u2,u3,u4,u5,u6⟩ := HPR.out w' hM.b;go_simp;with_reducible rfl⟩) hHeld hPq ?_
   refine zb1 (i := 13) (N := some 70) (zai 16 14) rfl rfl (zaR HT_.out (by kernel_rfl)) (by decide) (fun K hK => ?_)
   refine zbu Tryz.func25 (by kernel_rfl) rfl #[.agg #[.int .i64 a1_0,.int .i64 a1_1,.slice A1_2 l1_2.length c1_2,.slice A1_3 l1_3.length c1_3,.int .i64 a1_4,.int .i64 a1_5],.agg #[.int .i64 s1,.int .i64 s2,.slice A3 s3.length c3,.slice A4 s4.length c4,.int .i64 s5,.int .i64 s6]] (by rfl) rfl rfl (by (try simp only [List.map_toArray,List.map_cons,List.map_nil]);first | done | rfl) ?_
   refine (zbb.calls a1_0 a1_1 _ _ l1_2 _ _ l1_3 a1_4 a1_5 s1 s2 _ _ s3 _ _ s4 s5 s6 _ _ (Kd.C_below (Kd.V_reads' HS2.out).2.2 (LM.out _ hHeld).b) HC2.out (Kd.C_below (Kd.V_reads' HS3.out).2.2 (LM.out _ hHeld).b) HC3.out (Kd.C_below HQ1.out (LM.out _ hHeld).b) HQ2.out (Kd.C_below HQ3.out (LM.out _ hHeld).b) HQ4.out HA.out).mono ?_
   rintro e x1 ⟨rfl,hb⟩
   refine ⟨_,rfl,?_⟩
   refine hK.out _ _ (MK.out _ ((LM.out _ hHeld).step hb)) (fun hHeld => ?_)
   clear hK K
   refine zbk (a' := ?_) ?_ ?_
   rotate_left
   ·show Act.put _ (some 70) _ = _
    simp only [Act.put,List.setIfInBounds_toArray,List.set_cons_zero,List.set_cons_succ,zaw,zaB]
    rfl
   refine puq (i := 14) (N := some 71) HT_.out (zai 16 15) ?_
   refine puq (i := 15) (N := some 72) HT_.out (zai 16 16) ?_
   refine zbJ (zaU HT_.out (by kernel_rfl)) ?_
   have HM3 := za.mk (LM.out _ hHeld)
   clear hHeld HT_ HW_ HM1
   rcases q with _ | _
   ·have HH6 := za.mk h6
    clear h6
    go_wp2_with fail
    go_roundw
    all_goals first | (case rel => exact ⟨k + 1,by go_num,by have := HLT.out;omega,⟨fun i hi => by rcases Nat.lt_succ_iff_lt_or_eq.1 hi with h_ | h_;exact HF.out i h_;rw [h_,HGD.out];exact HH6.out⟩,HM3⟩) | (case measure => have := HLT.out;simp [intOf];omega)
   ·have HH6 := za.mk h6
    have HPUT : za (zdb l0_2 ⟨D,⟨a1_0,a1_1,l1_2,l1_3,⟨a1_4,a1_5⟩⟩⟩ = [] ++ l0_2.take k ++ [(⟨D,⟨a1_0,a1_1,l1_2,l1_3,⟨a1_4,a1_5⟩⟩⟩ : S42)] ++ l0_2.drop k) := ⟨(zfU l0_2 ⟨D,⟨a1_0,a1_1,l1_2,l1_3,⟨a1_4,a1_5⟩⟩⟩ k HIJ.out HF.out (.inr (by rw [HGD.out];exact HH6.out))).trans (by simp)⟩
    clear h6
    clear hb hb2 p3_ p4_
    have hij := HIJ.out
    obtain ⟨i0_,hi0_,_,hsz_,_⟩ := info_parts zb0
    have hcut := zgT (P := Tryz.prog) 22 42 .i64 Tryz.underlying22 hi0_ (some ad) l0_2.length c0_2 (k : Int) (by omega) (by omega) HC.out
    obtain ⟨AX,hAX⟩ : ∃ AX,AX = (if c0_2 = (k : Int).toNat then (some ad) else ((some ad) : Option Addr).map (·.add ((k : Int).toNat * 7))) := ⟨_,rfl⟩
    have hcut2 := zeu (P := Tryz.prog) 22 42 .i64 Tryz.underlying22 hi0_ 7 hsz_ (some ad) l0_2.length c0_2 (k : Int) (by omega) (by omega)
    rw [← hAX,Int.toNat_natCast] at hcut2
    rw [Int.toNat_natCast] at hcut hAX
    obtain ⟨m2,hm2⟩ : ∃ m2,m2 = l0_2.length - k := ⟨_,rfl⟩
    obtain ⟨c2',hc2'⟩ : ∃ c2',c2' = c0_2 - k := ⟨_,rfl⟩
    rw [← hm2,← hc2'] at hcut2
    have HTK : za (∀ W,Below w.heap.size w W → Kd.F k42 W (fun k_ => P0_2_ k_ ∧ k_ < w.heap.size) (some ad) k (l0_2.take k)) := ⟨fun W hW => by have h := Kd.F_take (m := k) (Kd.F_below (Kd.F_bound (Kd.V_at HS.out).2.2) hW) hij;rwa [List.length_take,Nat.min_eq_left hij] at h⟩
    have HDP : za (∀ W,Below w.heap.size w W → Kd.F k42 W (fun k_ => P0_2_ k_ ∧ k_ < w.heap.size) AX m2 (l0_2.drop k)) := ⟨fun W hW => by have h := Kd.F_cut (m := k) (c := c0_2) (Kd.F_below (Kd.F_bound (Kd.V_at HS.out).2.2) hW) hij HC.out;rw [List.length_drop,← hm2] at h;rw [hAX];exact h⟩
    have HM2_ := za.mk hm2
    have p1_ : ((k : Int) ≤ (l0_2.length : Int)) = True := eq_true (by omega)
    have p2_ : ((k : Int) ≤ (c0_2 : Int)) = True := eq_true (by have := HC.out;omega)
    clear hi0_ hsz_ hAX hm2 hc2' hij
    obtain ⟨zg2_0,zg2_1,zg2_2⟩ := hcq3n HM3.out.c2
    go_wp2_with (first
     | ((with_reducible refine zn (N := 75) rfl ?_);refine Kd.R_lit k42 (w0 := w) w.heap.size 42 ?hg (N := 75) ?hd (xs := ([] : List S42)) (inner := []) (ok := (fun k_ => ((P0_2_ k_ ∨ P1_2_ k_ ∨ P1_3_ k_) ∧ k_ < w.heap.size) ∨ x1.heap.size ≤ k_)) (okp := fun _ => False) ?hr ?hp (fun _ hk => hk.elim) (.inr (Nat.le_refl _)) HM3.out.b (zg HM3.out.b) (by simp) ?_;(case hg => rfl);(case hd => rfl);(case hr => first | (go_simp;done) | (go_simp;rfl));(case hp => exact (zaA.none _ _));intro v7 w7 ho hb hg hnew;clear zg2_0 zg2_1 zg2_2;have HN7 := za.mk (Kd.R_N ho);have M7 := za.mk (zbl.grown HM3.out HM3.out hg (by simp));have HB7 : za (∀ k_,v7.ownBlock = some k_ → x1.heap.size ≤ k_) := ⟨fun k_ hk => by obtain ⟨b_,h1_,h2_⟩ := hnew;rw [h1_] at hk;injection hk with hk;omega⟩;have HX7 := za.mk hg.size;clear ho hb hg hnew;obtain ⟨zg2_0,zg2_1,zg2_2⟩ := hcq3n M7.out.c2)
     | ((with_reducible refine zaZ (b := .append) (xs := #[.tmp 75,.tmp 79]) rfl ?_);at_builtin;refine Kd.N_append_rows k42 (w0 := w) w.heap.size rfl (.tmp 75) (.tmp 79) 22 42 (.agg #[.string ⟨#[]⟩,.int .i64 0,.int .i64 0,.slice none 0 0,.slice none 0 0,.int .i64 0,.int .i64 0]) 96 rfl Tryz.underlying22 zb0 rfl (by decide) (by omega) v7 [] (l0_2.take k) (some ad) k c0_2 (fun k_ => ((P0_2_ k_ ∨ P1_2_ k_ ∨ P1_3_ k_) ∧ k_ < w.heap.size) ∨ x1.heap.size ≤ k_) (fun k_ => P0_2_ k_ ∧ k_ < w.heap.size) rfl rfl HN7.out (HTK.out _ M7.out.b) (fun k_ hk => ⟨.inl ⟨.inl hk.1,hk.2⟩,fun e_ => Nat.not_le.2 hk.2 (Kd.N_base HN7.out k_ e_.symm)⟩) (fun k_ hk => .inr (Nat.le_trans HX7.out hk)) M7.out.b (zg M7.out.b) (by have h1_ := HL.out;have h2_ := HIJ.out;have h3_ := HM2_.out;simp only [List.length_nil];omega) ?_;intro v8 w8 ho hb hg hat;clear zg2_0 zg2_1 zg2_2;have HN8 := za.mk ho;have M8 := za.mk (zbl.grown HM3.out M7.out hg (fun k_ hk => HB7.out k_ hk));have HB8 : za (∀ k_,v8.ownBlock = some k_ → x1.heap.size ≤ k_) := ⟨fun k_ hk => by rcases hat with h_ | ⟨b_,h1_,h2_⟩;exact HB7.out k_ (h_ ▸ hk);rw [h1_] at hk;injection hk with hk;have := HX7.out;omega⟩;have HX8 := za.mk (Nat.le_trans HX7.out hg.size);clear ho hb hg hat;obtain ⟨zg3_0,zg3_1,zg3_2,zg3_3,zg3_4,zg3_5⟩ := hcq6n M8.out.c3)
     | ((with_reducible refine zaZ (b := .append) (xs := #[.tmp 81,.tmp 85]) rfl ?_);at_builtin;refine Kd.N_append k42 (w0 := w) w.heap.size rfl (.tmp 81) (.tmp 85) 22 42 (.agg #[.string ⟨#[]⟩,.int .i64 0,.int .i64 0,.slice none 0 0,.slice none 0 0,.int .i64 0,.int .i64 0]) 96 rfl Tryz.underlying22 zb0 rfl (by decide) (by omega) v8 ([] ++ l0_2.take k) (⟨D,⟨a1_0,a1_1,l1_2,l1_3,⟨a1_4,a1_5⟩⟩⟩ : S42) [.string D,.int .i64 a1_0,.int .i64 a1_1,.slice A1_2 l1_2.length c1_2,.slice A1_3 l1_3.length c1_3,.int .i64 a1_4,.int .i64 a1_5] (fun k_ => ((P0_2_ k_ ∨ P1_2_ k_ ∨ P1_3_ k_) ∧ k_ < w.heap.size) ∨ x1.heap.size ≤ k_) (fun k_ => (P1_2_ k_ ∨ P1_3_ k_) ∧ k_ < w.heap.size) rfl rfl (HFX.out _ M8.out.b) (fun k_ hk => ⟨.inl ⟨.inr hk.1,hk.2⟩,fun e_ => Nat.not_le.2 hk.2 (Kd.N_base HN8.out k_ e_.symm)⟩) (fun k_ hk => .inr (Nat.le_trans HX8.out hk)) HN8.out M8.out.b (zg M8.out.b) (by have h1_ := HL.out;have h2_ := HIJ.out;simp only [List.length_append,List.length_nil,List.length_take];omega) ?_;intro v9 w9 ho hb hg hat;clear zg3_0 zg3_1 zg3_2 zg3_3 zg3_4 zg3_5;have HN9 := za.mk ho;have M9 := za.mk (zbl.grown HM3.out M8.out hg (fun k_ hk => HB8.out k_ hk));have HB9 : za (∀ k_,v9.ownBlock = some k_ → x1.heap.size ≤ k_) := ⟨fun k_ hk => by rcases hat with h_ | ⟨b_,h1_,h2_⟩;exact HB8.out k_ (h_ ▸ hk);rw [h1_] at hk;injection hk with hk;have := HX8.out;omega⟩;have HX9 := za.mk (Nat.le_trans HX8.out hg.size);clear ho hb hg hat;obtain ⟨zg2_0,zg2_1,zg2_2⟩ := hcq3n M9.out.c2)
     | ((with_reducible refine zaZ (b := .append) (xs := #[.tmp 87,.tmp 91]) rfl ?_);at_builtin;refine Kd.N_append_rows k42 (w0 := w) w.heap.size rfl (.tmp 87) (.tmp 91) 22 42 (.agg #[.string ⟨#[]⟩,.int .i64 0,.int .i64 0,.slice none 0 0,.slice none 0 0,.int .i64 0,.int .i64 0]) 96 rfl Tryz.underlying22 zb0 rfl (by decide) (by omega) v9 ([] ++ l0_2.take k ++ [(⟨D,⟨a1_0,a1_1,l1_2,l1_3,⟨a1_4,a1_5⟩⟩⟩ : S42)]) (l0_2.drop k) AX m2 c2' (fun k_ => ((P0_2_ k_ ∨ P1_2_ k_ ∨ P1_3_ k_) ∧ k_ < w.heap.size) ∨ x1.heap.size ≤ k_) (fun k_ => P0_2_ k_ ∧ k_ < w.heap.size) rfl rfl HN9.out (HDP.out _ M9.out.b) (fun k_ hk => ⟨.inl ⟨.inl hk.1,hk.2⟩,fun e_ => Nat.not_le.2 hk.2 (Kd.N_base HN9.out k_ e_.symm)⟩) (fun k_ hk => .inr (Nat.le_trans HX9.out hk)) M9.out.b (zg M9.out.b) (by have h1_ := HL.out;have h2_ := HIJ.out;have h3_ := HM2_.out;simp only [List.length_append,List.length_nil,List.length_take,List.length_cons];omega) ?_;intro v10 w10 ho hb hg hat;clear zg2_0 zg2_1 zg2_2;have HN10 := za.mk ho;have M10 := za.mk (zbl.grown HM3.out M9.out hg (fun k_ hk => HB9.out k_ hk));have HB10 : za (∀ k_,v10.ownBlock = some k_ → x1.heap.size ≤ k_) := ⟨fun k_ hk => by rcases hat with h_ | ⟨b_,h1_,h2_⟩;exact HB9.out k_ (h_ ▸ hk);rw [h1_] at hk;injection hk with hk;have := HX9.out;omega⟩;have HX10 := za.mk (Nat.le_trans HX9.out hg.size);clear ho hb hg hat;obtain ⟨A10,c10,hv10⟩ := Kd.N_slice HN10.out;obtain ⟨n10,hn10⟩ : ∃ n10,n10 = ([] ++ l0_2.take k ++ [(⟨D,⟨a1_0,a1_1,l1_2,l1_3,⟨a1_4,a1_5⟩⟩⟩ : S42)] ++ l0_2.drop k).length := ⟨_,rfl⟩;rw [← hn10] at hv10;subst hv10;clear hn10;obtain ⟨zg2_0,zg2_1,zg2_2⟩ := hcq3n M10.out.c2;obtain ⟨zg4_0,zg4_1,zg4_2,fg4_0,fg4_1,fg4_2⟩ := hcq3 M10.out.c4))
    refine bodyPost_ret (zaH rfl _ _ g4 24 #[.int .i64 a0_0,.int .i64 a0_1,.slice A10 n10 c10] (0,0) _ rfl ?bf Tryz.underlying24 rfl (by kernel_rfl)) rfl ?_
    case bf =>
     have x_ := M10.out.c4
     (repeat (first | (with_reducible exact x_) | (with_reducible refine zaj ?_ _) | (with_reducible refine z6 ?_) | (with_reducible refine zf ?_ _) | apply zbj))
     all_goals first | (with_reducible rfl) | (simp only [List.setIfInBounds_toArray,List.set_cons_zero,List.set_cons_succ];done)
    have far : ∀ k_,(fun k_ => ((P0_2_ k_ ∨ P1_2_ k_ ∨ P1_3_ k_) ∧ k_ < w.heap.size) ∨ x1.heap.size ≤ k_) k_ → k_ ≠ g4 := fun k_ hk e_ => by
     subst e_
     rcases hk with hk | hk
     ·exact Nat.not_le.2 hk.2 Gw_g4.out
     ·exact Nat.not_le.2 (zaJ HM3.out.c4) hk
    refine ⟨_,rfl,?_,by repeat (with_reducible first | exact M10.out.b | apply zk | apply zi | apply zo | refine zj ?_ Gw_g4.out)⟩
    rw [HPUT.out]
    exact Kd.V_mono (Kd.V_far (p := ⟨g4,2,none⟩) (Kd.V_far (p := ⟨g4,1,none⟩) (Kd.V_far (p := ⟨g4,0,none⟩) (Kd.N_V HN10.out) far _) far _) far _) (fun k_ hk => by
     rcases hk with hk | hk
     ·exact .inl hk.1
     ·exact .inr (Nat.le_trans (zg HM3.out.b) hk))
  ·have MK : za (∀ w' : World,zbl w w' g2 g3 g4 (.cells #[.int .i64 a0_0,.int .i64 a0_1,.slice A0_2 l0_2.length c0_2] 24 (0,0)) (.cells #[.int .i64 a1_0,.int .i64 a1_1,.slice A1_2 l1_2.length c1_2,.slice A1_3 l1_3.length c1_3,.int .i64 a1_4,.int .i64 a1_5] 30 (0,0)) (.cells #[.int .i64 0,.int .i64 0,.slice none 0 0] 24 (0,0)) → w'.cell? ⟨g2,0,none⟩ = some (.int .i64 a0_0) ∧ w'.cell? ⟨g2,1,none⟩ = some (.int .i64 a0_1) ∧ w'.cell? ⟨g2,2,none⟩ = some (.slice A0_2 l0_2.length c0_2) ∧ w'.cell? ⟨g3,0,none⟩ = some (.int .i64 a1_0) ∧ w'.cell? ⟨g3,1,none⟩ = some (.int .i64 a1_1) ∧ w'.cell? ⟨g3,2,none⟩ = some (.slice A1_2 l1_2.length c1_2) ∧ w'.cell? ⟨g3,3,none⟩ = some (.slice A1_3 l1_3.length c1_3) ∧ w'.cell? ⟨g3,4,none⟩ = some (.int .i64 a1_4) ∧ w'.cell? ⟨g3,5,none⟩ = some (.int .i64 a1_5) ∧ zbl w w' g2 g3 g4 (.cells #[.int .i64 a0_0,.int .i64 a0_1,.slice A0_2 l0_2.length c0_2] 24 (0,0)) (.cells #[.int .i64 a1_0,.int .i64 a1_1,.slice A1_2 l1_2.length c1_2,.slice A1_3 l1_3.length c1_3,.int .i64 a1_4,.int .i64 a1_5] 30 (0,0)) (.cells #[.int .i64 0,.int .i64 0,.slice none 0 0] 24 (0,0))) := ⟨fun w' h => ⟨(zb h.c2 0).trans rfl,(zb h.c2 1).trans rfl,(zb h.c2 2).trans rfl,(zb h.c3 0).trans rfl,(zb h.c3 1).trans rfl,(zb h.c3 2).trans rfl,(zb h.c3 3).trans rfl,(zb h.c3 4).trans rfl,(zb h.c3 5).trans rfl,h⟩⟩
   have LM : za (∀ w' : World,(w'.cell? ⟨g2,0,none⟩ = some (.int .i64 a0_0) ∧ w'.cell? ⟨g2,1,none⟩ = some (.int .i64 a0_1) ∧ w'.cell? ⟨g2,2,none⟩ = some (.slice A0_2 l0_2.length c0_2) ∧ w'.cell? ⟨g3,0,none⟩ = some (.int .i64 a1_0) ∧ w'.cell? ⟨g3,1,none⟩ = some (.int .i64 a1_1) ∧ w'.cell? ⟨g3,2,none⟩ = some (.slice A1_2 l1_2.length c1_2) ∧ w'.cell? ⟨g3,3,none⟩ = some (.slice A1_3 l1_3.length c1_3) ∧ w'.cell? ⟨g3,4,none⟩ = some (.int .i64 a1_4) ∧ w'.cell? ⟨g3,5,none⟩ = some (.int .i64 a1_5) ∧ zbl w w' g2 g3 g4 (.cells #[.int .i64 a0_0,.int .i64 a0_1,.slice A0_2 l0_2.length c0_2] 24 (0,0)) (.cells #[.int .i64 a1_0,.int .i64 a1_1,.slice A1_2 l1_2.length c1_2,.slice A1_3 l1_3.length c1_3,.int .i64 a1_4,.int .i64 a1_5] 30 (0,0)) (.cells #[.int .i64 0,.int .i64 0,.slice none 0 0] 24 (0,0))) → zbl w w' g2 g3 g4 (.cells #[.int .i64 a0_0,.int .i64 a0_1,.slice A0_2 l0_2.length c0_2] 24 (0,0)) (.cells #[.int .i64 a1_0,.int .i64 a1_1,.slice A1_2 l1_2.length c1_2,.slice A1_3 l1_3.length c1_3,.int .i64 a1_4,.int .i64 a1_5] 30 (0,0)) (.cells #[.int .i64 0,.int .i64 0,.slice none 0 0] 24 (0,0))) := ⟨fun w' h => h.2.2.2.2.2.2.2.2.2⟩
   have hb : decide (k < l0_2.length) = false := decide_eq_false hlt
   have hb2 : decide ((k : Int) < (l0_2.length : Int)) = false := decide_eq_false (by omega)
   have HPUT : za (zdb l0_2 ⟨D,⟨a1_0,a1_1,l1_2,l1_3,⟨a1_4,a1_5⟩⟩⟩ = [] ++ l0_2.take k ++ [(⟨D,⟨a1_0,a1_1,l1_2,l1_3,⟨a1_4,a1_5⟩⟩⟩ : S42)] ++ l0_2.drop k) := ⟨(zfU l0_2 ⟨D,⟨a1_0,a1_1,l1_2,l1_3,⟨a1_4,a1_5⟩⟩⟩ k HIJ.out HF.out (.inl (by have := HIJ.out;omega))).trans (by simp)⟩
   clear hlt
   go_wp2_with fail
   refine zbH (n := 16) (S := fun w' => w'.cell? ⟨g2,0,none⟩ = some (.int .i64 a0_0) ∧ w'.cell? ⟨g2,1,none⟩ = some (.int .i64 a0_1) ∧ w'.cell? ⟨g2,2,none⟩ = some (.slice A0_2 l0_2.length c0_2) ∧ w'.cell? ⟨g3,0,none⟩ = some (.int .i64 a1_0) ∧ w'.cell? ⟨g3,1,none⟩ = some (.int .i64 a1_1) ∧ w'.cell? ⟨g3,2,none⟩ = some (.slice A1_2 l1_2.length c1_2) ∧ w'.cell? ⟨g3,3,none⟩ = some (.slice A1_3 l1_3.length c1_3) ∧ w'.cell? ⟨g3,4,none⟩ = some (.int .i64 a1_4) ∧ w'.cell? ⟨g3,5,none⟩ = some (.int .i64 a1_5) ∧ zbl w w' g2 g3 g4 (.cells #[.int .i64 a0_0,.int .i64 a0_1,.slice A0_2 l0_2.length c0_2] 24 (0,0)) (.cells #[.int .i64 a1_0,.int .i64 a1_1,.slice A1_2 l1_2.length c1_2,.slice A1_3 l1_3.length c1_3,.int .i64 a1_4,.int .i64 a1_5] 30 (0,0)) (.cells #[.int .i64 0,.int .i64 0,.slice none 0 0] 24 (0,0))) (ds := []) (zai 16 0) (by kernel_rfl) rfl rfl (MK.out _ HM1.out.drew) (fun hHeld => ?_);refine zaO zP.tab16 zP.bits16 (fun HT_ HW_ => ?_)
   refine puq (i := 0) (N := some 57) HT_.out (zai 16 1) ?_
   refine puq (i := 1) (N := some 58) HT_.out (zai 16 2) ?_
   refine take_ (i := 2) (N := some 59) (zai 16 3) rfl rfl (zY HT_.out HW_.out (by kernel_rfl)) (fun _ _ _ h => h) (Or.inl ⟨by rfl,by rintro w' ⟨r0,r1,r2,r3,r4,r5,r6,r7,r8,hM⟩;go_simp;with_reducible rfl⟩) hHeld hPq ?_
   refine puq (i := 3) (N := some 60) HT_.out (zai 16 4) ?_
   refine puq (i := 4) (N := some 61) HT_.out (zai 16 5) ?_
   refine puq (i := 5) (N := some 62) HT_.out (zai 16 6) ?_
   refine zdF (fun _ _ _ _ _ h => h) HT_.out [(6,63),(7,64),(8,65),(9,66),(10,67),(11,68),(12,69),(13,70),(14,71)] 1 rfl (zai 16 15) (by kernel_rfl) (by kernel_rfl) (a' := ?_) ?_ ?_
   rotate_left
   ·simp only [zck,Act.put,List.setIfInBounds_toArray,List.set_cons_zero,List.set_cons_succ]
    rfl
   refine puq (i := 15) (N := some 72) HT_.out (zai 16 16) ?_
   refine zbJ (zaU HT_.out (by kernel_rfl)) ?_
   have HM3 := za.mk (LM.out _ hHeld)
   clear hHeld HT_ HW_ HM1
   generalize wr.drew = x1 at *
   clear hb hb2
   have hij := HIJ.out
   obtain ⟨i0_,hi0_,_,hsz_,_⟩ := info_parts zb0
   have hcut := zgT (P := Tryz.prog) 22 42 .i64 Tryz.underlying22 hi0_ (A0_2) l0_2.length c0_2 (k : Int) (by omega) (by omega) HC.out
   obtain ⟨AX,hAX⟩ : ∃ AX,AX = (if c0_2 = (k : Int).toNat then (A0_2) else ((A0_2) : Option Addr).map (·.add ((k : Int).toNat * 7))) := ⟨_,rfl⟩
   have hcut2 := zeu (P := Tryz.prog) 22 42 .i64 Tryz.underlying22 hi0_ 7 hsz_ (A0_2) l0_2.length c0_2 (k : Int) (by omega) (by omega)
   rw [← hAX,Int.toNat_natCast] at hcut2
   rw [Int.toNat_natCast] at hcut hAX
   obtain ⟨m2,hm2⟩ : ∃ m2,m2 = l0_2.length - k := ⟨_,rfl⟩
   obtain ⟨c2',hc2'⟩ : ∃ c2',c2' = c0_2 - k := ⟨_,rfl⟩
   rw [← hm2,← hc2'] at hcut2
   have HTK : za (∀ W,Below w.heap.size w W → Kd.F k42 W (fun k_ => P0_2_ k_ ∧ k_ < w.heap.size) (A0_2) k (l0_2.take k)) := ⟨fun W hW => by have h := Kd.F_take (m := k) (Kd.F_below (Kd.F_bound (Kd.V_at HS.out).2.2) hW) hij;rwa [List.length_take,Nat.min_eq_left hij] at h⟩
   have HDP : za (∀ W,Below w.heap.size w W → Kd.F k42 W (fun k_ => P0_2_ k_ ∧ k_ < w.heap.size) AX m2 (l0_2.drop k)) := ⟨fun W hW => by have h := Kd.F_cut (m := k) (c := c0_2) (Kd.F_below (Kd.F_bound (Kd.V_at HS.out).2.2) hW) hij HC.out;rw [List.length_drop,← hm2] at h;rw [hAX];exact h⟩
   have HM2_ := za.mk hm2
   have p1_ : ((k : Int) ≤ (l0_2.length : Int)) = True := eq_true (by omega)
   have p2_ : ((k : Int) ≤ (c0_2 : Int)) = True := eq_true (by have := HC.out;omega)
   clear hi0_ hsz_ hAX hm2 hc2' hij
   obtain ⟨zg2_0,zg2_1,zg2_2⟩ := hcq3n HM3.out.c2
   go_wp2_with (first
    | ((with_reducible refine zn (N := 75) rfl ?_);refine Kd.R_lit k42 (w0 := w) w.heap.size 42 ?hg (N := 75) ?hd (xs := ([] : List S42)) (inner := []) (ok := (fun k_ => ((P0_2_ k_ ∨ P1_2_ k_ ∨ P1_3_ k_) ∧ k_ < w.heap.size) ∨ x1.heap.size ≤ k_)) (okp := fun _ => False) ?hr ?hp (fun _ hk => hk.elim) (.inr (Nat.le_refl _)) HM3.out.b (zg HM3.out.b) (by simp) ?_;(case hg => rfl);(case hd => rfl);(case hr => first | (go_simp;done) | (go_simp;rfl));(case hp => exact (zaA.none _ _));intro v7 w7 ho hb hg hnew;clear zg2_0 zg2_1 zg2_2;have HN7 := za.mk (Kd.R_N ho);have M7 := za.mk (zbl.grown HM3.out HM3.out hg (by simp));have HB7 : za (∀ k_,v7.ownBlock = some k_ → x1.heap.size ≤ k_) := ⟨fun k_ hk => by obtain ⟨b_,h1_,h2_⟩ := hnew;rw [h1_] at hk;injection hk with hk;omega⟩;have HX7 := za.mk hg.size;clear ho hb hg hnew;obtain ⟨zg2_0,zg2_1,zg2_2⟩ := hcq3n M7.out.c2)
    | ((with_reducible refine zaZ (b := .append) (xs := #[.tmp 75,.tmp 79]) rfl ?_);at_builtin;refine Kd.N_append_rows k42 (w0 := w) w.heap.size rfl (.tmp 75) (.tmp 79) 22 42 (.agg #[.string ⟨#[]⟩,.int .i64 0,.int .i64 0,.slice none 0 0,.slice none 0 0,.int .i64 0,.int .i64 0]) 96 rfl Tryz.underlying22 zb0 rfl (by decide) (by omega) v7 [] (l0_2.take k) (A0_2) k c0_2 (fun k_ => ((P0_2_ k_ ∨ P1_2_ k_ ∨ P1_3_ k_) ∧ k_ < w.heap.size) ∨ x1.heap.size ≤ k_) (fun k_ => P0_2_ k_ ∧ k_ < w.heap.size) rfl rfl HN7.out (HTK.out _ M7.out.b) (fun k_ hk => ⟨.inl ⟨.inl hk.1,hk.2⟩,fun e_ => Nat.not_le.2 hk.2 (Kd.N_base HN7.out k_ e_.symm)⟩) (fun k_ hk => .inr (Nat.le_trans HX7.out hk)) M7.out.b (zg M7.out.b) (by have h1_ := HL.out;have h2_ := HIJ.out;have h3_ := HM2_.out;simp only [List.length_nil];omega) ?_;intro v8 w8 ho hb hg hat;clear zg2_0 zg2_1 zg2_2;have HN8 := za.mk ho;have M8 := za.mk (zbl.grown HM3.out M7.out hg (fun k_ hk => HB7.out k_ hk));have HB8 : za (∀ k_,v8.ownBlock = some k_ → x1.heap.size ≤ k_) := ⟨fun k_ hk => by rcases hat with h_ | ⟨b_,h1_,h2_⟩;exact HB7.out k_ (h_ ▸ hk);rw [h1_] at hk;injection hk with hk;have := HX7.out;omega⟩;have HX8 := za.mk (Nat.le_trans HX7.out hg.size);clear ho hb hg hat;obtain ⟨zg3_0,zg3_1,zg3_2,zg3_3,zg3_4,zg3_5⟩ := hcq6n M8.out.c3)
    | ((with_reducible refine zaZ (b := .append) (xs := #[.tmp 81,.tmp 85]) rfl ?_);at_builtin;refine Kd.N_append k42 (w0 := w) w.heap.size rfl (.tmp 81) (.tmp 85) 22 42 (.agg #[.string ⟨#[]⟩,.int .i64 0,.int .i64 0,.slice none 0 0,.slice none 0 0,.int .i64 0,.int .i64 0]) 96 rfl Tryz.underlying22 zb0 rfl (by decide) (by omega) v8 ([] ++ l0_2.take k) (⟨D,⟨a1_0,a1_1,l1_2,l1_3,⟨a1_4,a1_5⟩⟩⟩ : S42) [.string D,.int .i64 a1_0,.int .i64 a1_1,.slice A1_2 l1_2.length c1_2,.slice A1_3 l1_3.length c1_3,.int .i64 a1_4,.int .i64 a1_5] (fun k_ => ((P0_2_ k_ ∨ P1_2_ k_ ∨ P1_3_ k_) ∧ k_ < w.heap.size) ∨ x1.heap.size ≤ k_) (fun k_ => (P1_2_ k_ ∨ P1_3_ k_) ∧ k_ < w.heap.size) rfl rfl (HFX.out _ M8.out.b) (fun k_ hk => ⟨.inl ⟨.inr hk.1,hk.2⟩,fun e_ => Nat.not_le.2 hk.2 (Kd.N_base HN8.out k_ e_.symm)⟩) (fun k_ hk => .inr (Nat.le_trans HX8.out hk)) HN8.out M8.out.b (zg M8.out.b) (by have h1_ := HL.out;have h2_ := HIJ.out;simp only [List.length_append,List.length_nil,List.length_take];omega) ?_;intro v9 w9 ho hb hg hat;clear zg3_0 zg3_1 zg3_2 zg3_3 zg3_4 zg3_5;have HN9 := za.mk ho;have M9 := za.mk (zbl.grown HM3.out M8.out hg (fun k_ hk => HB8.out k_ hk));have HB9 : za (∀ k_,v9.ownBlock = some k_ → x1.heap.size ≤ k_) := ⟨fun k_ hk => by rcases hat with h_ | ⟨b_,h1_,h2_⟩;exact HB8.out k_ (h_ ▸ hk);rw [h1_] at hk;injection hk with hk;have := HX8.out;omega⟩;have HX9 := za.mk (Nat.le_trans HX8.out hg.size);clear ho hb hg hat;obtain ⟨zg2_0,zg2_1,zg2_2⟩ := hcq3n M9.out.c2)
    | ((with_reducible refine zaZ (b := .append) (xs := #[.tmp 87,.tmp 91]) rfl ?_);at_builtin;refine Kd.N_append_rows k42 (w0 := w) w.heap.size rfl (.tmp 87) (.tmp 91) 22 42 (.agg #[.string ⟨#[]⟩,.int .i64 0,.int .i64 0,.slice none 0 0,.slice none 0 0,.int .i64 0,.int .i64 0]) 96 rfl Tryz.underlying22 zb0 rfl (by decide) (by omega) v9 ([] ++ l0_2.take k ++ [(⟨D,⟨a1_0,a1_1,l1_2,l1_3,⟨a1_4,a1_5⟩⟩⟩ : S42)]) (l0_2.drop k) AX m2 c2' (fun k_ => ((P0_2_ k_ ∨ P1_2_ k_ ∨ P1_3_ k_) ∧ k_ < w.heap.size) ∨ x1.heap.size ≤ k_) (fun k_ => P0_2_ k_ ∧ k_ < w.heap.size) rfl rfl HN9.out (HDP.out _ M9.out.b) (fun k_ hk => ⟨.inl ⟨.inl hk.1,hk.2⟩,fun e_ => Nat.not_le.2 hk.2 (Kd.N_base HN9.out k_ e_.symm)⟩) (fun k_ hk => .inr (Nat.le_trans HX9.out hk)) M9.out.b (zg M9.out.b) (by have h1_ := HL.out;have h2_ := HIJ.out;have h3_ := HM2_.out;simp only [List.length_append,List.length_nil,List.length_take,List.length_cons];omega) ?_;intro v10 w10 ho hb hg hat;clear zg2_0 zg2_1 zg2_2;have HN10 := za.mk ho;have M10 := za.mk (zbl.grown HM3.out M9.out hg (fun k_ hk => HB9.out k_ hk));have HB10 : za (∀ k_,v10.ownBlock = some k_ → x1.heap.size ≤ k_) := ⟨fun k_ hk => by rcases hat with h_ | ⟨b_,h1_,h2_⟩;exact HB9.out k_ (h_ ▸ hk);rw [h1_] at hk;injection hk with hk;have := HX9.out;omega⟩;have HX10 := za.mk (Nat.le_trans HX9.out hg.size);clear ho hb hg hat;obtain ⟨A10,c10,hv10⟩ := Kd.N_slice HN10.out;obtain ⟨n10,hn10⟩ : ∃ n10,n10 = ([] ++ l0_2.take k ++ [(⟨D,⟨a1_0,a1_1,l1_2,l1_3,⟨a1_4,a1_5⟩⟩⟩ : S42)] ++ l0_2.drop k).length := ⟨_,rfl⟩;rw [← hn10] at hv10;subst hv10;clear hn10;obtain ⟨zg2_0,zg2_1,zg2_2⟩ := hcq3n M10.out.c2;obtain ⟨zg4_0,zg4_1,zg4_2,fg4_0,fg4_1,fg4_2⟩ := hcq3 M10.out.c4))
   refine bodyPost_ret (zaH rfl _ _ g4 24 #[.int .i64 a0_0,.int .i64 a0_1,.slice A10 n10 c10] (0,0) _ rfl ?bf Tryz.underlying24 rfl (by kernel_rfl)) rfl ?_
   case bf =>
    have x_ := M10.out.c4
    (repeat (first | (with_reducible exact x_) | (with_reducible refine zaj ?_ _) | (with_reducible refine z6 ?_) | (with_reducible refine zf ?_ _) | apply zbj))
    all_goals first | (with_reducible rfl) | (simp only [List.setIfInBounds_toArray,List.set_cons_zero,List.set_cons_succ];done)
   have far : ∀ k_,(fun k_ => ((P0_2_ k_ ∨ P1_2_ k_ ∨ P1_3_ k_) ∧ k_ < w.heap.size) ∨ x1.heap.size ≤ k_) k_ → k_ ≠ g4 := fun k_ hk e_ => by
    subst e_
    rcases hk with hk | hk
    ·exact Nat.not_le.2 hk.2 Gw_g4.out
    ·exact Nat.not_le.2 (zaJ HM3.out.c4) hk
   refine ⟨_,rfl,?_,by repeat (with_reducible first | exact M10.out.b | apply zk | apply zi | apply zo | refine zj ?_ Gw_g4.out)⟩
   rw [HPUT.out]
   exact Kd.V_mono (Kd.V_far (p := ⟨g4,2,none⟩) (Kd.V_far (p := ⟨g4,1,none⟩) (Kd.V_far (p := ⟨g4,0,none⟩) (Kd.N_V HN10.out) far _) far _) far _) (fun k_ hk => by
    rcases hk with hk | hk
    ·exact .inl hk.1
    ·exact .inr (Nat.le_trans (zg HM3.out.b) hk))
def fitA (bs : List S67) (ps : List ByteArray) : Bool := decide (bs.length < 4611686018427387904) && bs.all (fun b => decide (b.f2.length < 4611686018427387904)) && decide (ps.length ≤ 8796093022208) && ps.all (fun t => decide (t.size < 4611686018427387904))
theorem zhu {bs : List S67} {ps : List ByteArray} : fitA bs ps = true ↔ bs.length < 4611686018427387904 ∧ (∀ b ∈ bs,b.f2.length < 4611686018427387904) ∧ ps.length ≤ 8796093022208 ∧ ∀ t ∈ ps,t.size < 4611686018427387904 := by
 unfold fitA
 simp only [Bool.and_eq_true,decide_eq_true_eq,List.all_eq_true,and_assoc]
theorem zhO {a r : Int} {bs : List S67} {ps : List ByteArray} {x y n : Int} (h : (zaa a r bs ps x y n).2 ≠ 0) : (zaa a r bs ps x y n).2 = 1 := by
 unfold zaa at h ⊢
 split
 ·next hm => rw [if_pos hm] at h;exact absurd rfl h
 ·rfl
theorem zgy (o : Option Ent) : ∃ f1 f2 f3 f4 f5 f6 f7,zd8 o = (f1,f2,f3,f4,f5,f6,f7,o.isSome) := by
 rcases o with _ | x
 ·exact ⟨_,_,_,_,_,_,_,rfl⟩
 ·exact ⟨_,_,_,_,_,_,_,rfl⟩
def zP.f (a0_0 : Int) (a0_1 : Int) (l0_2 : List (S42)) (a1_0 : Int) (a1_1 : Int) (l1_2 : List (S67)) (l1_3 : List ByteArray) (a1_4 : Int) (a1_5 : Int) : Option (Int × Int × List (S42) × Int) := if l0_2.length < 1466015503701 ∧ fitA l1_2 l1_3 = true then some (a0_0,a0_1,zes a0_0 a0_1 l0_2 a1_0 a1_1 l1_2 l1_3 a1_4 a1_5,zd9 a0_0 a0_1 l0_2 a1_0 a1_1 l1_2 l1_3 a1_4 a1_5) else none
theorem zP.calls (a0_0 : Int) (a0_1 : Int) (P0_2_ : Nat → Prop) (A0_2 : Option Addr) (c0_2 : Nat) (l0_2 : List (S42)) (a1_0 : Int) (a1_1 : Int) (P1_2_ : Nat → Prop) (A1_2 : Option Addr) (c1_2 : Nat) (l1_2 : List (S67)) (P1_3_ : Nat → Prop) (A1_3 : Option Addr) (c1_3 : Nat) (l1_3 : List ByteArray) (a1_4 : Int) (a1_5 : Int) (r1 : Int) (r2 : Int) (r3 : List (S42)) (r4 : Int) (w : World) (hs0_2 : Kd.V k42 42 w w.heap.size (fun k_ => P0_2_ k_) (.slice A0_2 l0_2.length c0_2) l0_2) (hs1_2 : Kd.V k67 67 w w.heap.size (fun k_ => P1_2_ k_) (.slice A1_2 l1_2.length c1_2) l1_2) (hs1_3 : Kd.V Kd.string 9 w w.heap.size (fun k_ => P1_3_ k_) (.slice A1_3 l1_3.length c1_3) l1_3) (h : zP.f a0_0 a0_1 l0_2 a1_0 a1_1 l1_2 l1_3 a1_4 a1_5 = some (r1,r2,r3,r4)) :
  Calls Tryz.prog 7 #[.agg #[.int .i64 a0_0,.int .i64 a0_1,.slice A0_2 l0_2.length c0_2],.agg #[.int .i64 a1_0,.int .i64 a1_1,.slice A1_2 l1_2.length c1_2,.slice A1_3 l1_3.length c1_3,.int .i64 a1_4,.int .i64 a1_5]] w fun e w' => ∃ v2_ : Value,e = .returned (.tuple #[.agg #[.int .i64 r1,.int .i64 r2,v2_],.int .i64 r4]) ∧ Kd.V k42 42 w' w.heap.size (fun k_ => ((P0_2_ k_ ∨ P1_2_ k_ ∨ P1_3_ k_) ∨ w.heap.size ≤ k_)) v2_ r3 ∧ Below w.heap.size w w' := by
 unfold zP.f at h
 split at h
 ·rename_i hh
  obtain ⟨hl,hf⟩ := hh
  obtain ⟨v1,v2,v3,v4⟩ := zhu.1 hf
  simp only [Option.some.injEq,Prod.mk.injEq] at h
  obtain ⟨rfl,rfl,rfl,rfl⟩ := h
  obtain ⟨k1,q1⟩ := (zep a1_0 a1_1 l1_2 l1_3 a1_4 a1_5 a0_0 v1 v2 (by omega) v4).rounds
  obtain ⟨k2,q2⟩ := (zid a0_0 a0_1 l0_2 (zaa a1_0 a1_1 l1_2 l1_3 a1_4 a1_5 a0_0).1 (by omega)).rounds
  obtain ⟨k3,q3⟩ := (refBy_ev a0_0 a0_1 l0_2 a1_0 a1_1 (by omega)).rounds
  obtain ⟨k4,q4⟩ := (zgm a0_0 a0_1 l0_2 a1_0 a1_1 l1_2 l1_3 a1_4 a1_5 hl v3).rounds
  obtain ⟨f1,f2,f3,f4,f5,f6,f7,hF⟩ := zgy (zcB l0_2 (zaa a1_0 a1_1 l1_2 l1_3 a1_4 a1_5 a0_0).1)
  obtain ⟨y1,y2,y3,y4,y5,y6,y7,hY⟩ := zgy (byE l0_2 a1_0 a1_1)
  rw [hF] at q2
  rw [hY] at q3
  by_cases hw : zd9 a0_0 a0_1 l0_2 a1_0 a1_1 l1_2 l1_3 a1_4 a1_5 = 0
  ·obtain ⟨c1,c2,c3,c4,c5⟩ := (zcR (v := ⟨a1_0,a1_1,l1_2,l1_3,⟨a1_4,a1_5⟩⟩)).1 hw
   have e3 : (zcB l0_2 (zaa a1_0 a1_1 l1_2 l1_3 a1_4 a1_5 a0_0).1).isSome = false := by
    rw [← Bool.not_eq_true,zcB,List.find?_isSome]
    rintro ⟨x,hx,h3⟩
    exact c3 x hx (of_decide_eq_true h3)
   have e4 : (byE l0_2 a1_0 a1_1).isSome = false := by
    rw [← Bool.not_eq_true,byE,List.find?_isSome]
    rintro ⟨x,hx,h4⟩
    exact c4 x hx (of_decide_eq_true h4)
   rw [e3] at q2
   rw [e4] at q3
   rw [hw,zes,if_pos hw]
   have hlost : (zbQ l0_2 a0_1 a1_1 l1_3).length = 0 := c5
   have hlow : a0_1 < a1_1 := c2
   exact zP.yes a0_0 a0_1 P0_2_ A0_2 c0_2 l0_2 a1_0 a1_1 P1_2_ A1_2 c1_2 l1_2 P1_3_ A1_3 c1_3 l1_3 a1_4 a1_5 k1 k2 k3 k4 _ _ _ f1 f2 f3 f4 f5 f6 f7 y1 y2 y3 y4 y5 y6 y7 w hs0_2 hs1_2 hs1_3 q1 q2 q3 q4 hl (bne_eq_false_iff_eq.2 c1) (decide_eq_false (by omega)) (decide_eq_false (by omega)) (decide_eq_false (by omega))
  ·rw [zes,if_neg hw]
   refine (zP.not a0_0 a0_1 P0_2_ A0_2 c0_2 l0_2 a1_0 a1_1 P1_2_ A1_2 c1_2 l1_2 P1_3_ A1_3 c1_3 l1_3 a1_4 a1_5 k1 k2 k3 k4 _ _ _ _ (zbQ l0_2 a0_1 a1_1 l1_3) f1 f2 f3 f4 f5 f6 f7 y1 y2 y3 y4 y5 y6 y7 (zd9 a0_0 a0_1 l0_2 a1_0 a1_1 l1_2 l1_3 a1_4 a1_5) w hs0_2 hs1_2 hs1_3 q1 q2 q3 q4 ?_).mono ?_
   ·unfold zd9 at hw ⊢
    by_cases k1 : (zaa a1_0 a1_1 l1_2 l1_3 a1_4 a1_5 a0_0).2 ≠ 0
    ·rw [if_pos k1];exact .inl ⟨bne_iff_ne.2 k1,zhO k1⟩
    rw [if_neg k1] at hw ⊢
    have k1' := bne_eq_false_iff_eq.2 (Decidable.not_not.1 k1)
    by_cases k2 : a1_1 ≤ a0_1
    ·rw [if_pos k2];exact .inr (.inl ⟨k1',decide_eq_true k2,rfl⟩)
    rw [if_neg k2] at hw ⊢
    by_cases k3 : (zcB l0_2 (zaa a1_0 a1_1 l1_2 l1_3 a1_4 a1_5 a0_0).1).isSome = true
    ·rw [if_pos k3];exact .inr (.inr (.inl ⟨k1',decide_eq_false k2,k3,rfl⟩))
    rw [if_neg k3] at hw ⊢
    by_cases k4 : (byE l0_2 a1_0 a1_1).isSome = true
    ·rw [if_pos k4];exact .inr (.inr (.inr (.inl ⟨k1',decide_eq_false k2,Bool.eq_false_iff.2 k3,k4,rfl⟩)))
    rw [if_neg k4] at hw ⊢
    by_cases k5 : 0 < (zbQ l0_2 a0_1 a1_1 l1_3).length
    ·rw [if_pos k5];exact .inr (.inr (.inr (.inr ⟨k1',decide_eq_false k2,Bool.eq_false_iff.2 k3,Bool.eq_false_iff.2 k4,decide_eq_true k5,decide_eq_true (by omega),rfl⟩)))
    ·rw [if_neg k5] at hw;exact absurd rfl hw
   ·rintro e w' ⟨rfl,hb⟩
    exact ⟨_,rfl,Kd.V_map (Kd.V_below hs0_2 hb) (fun _ hf => Kd.F_mono hf (fun _ hk => .inl (.inl hk))),hb⟩
 ·cases h
end Go.Proofs.YtlkfelmbhldgfaaGreat.Px