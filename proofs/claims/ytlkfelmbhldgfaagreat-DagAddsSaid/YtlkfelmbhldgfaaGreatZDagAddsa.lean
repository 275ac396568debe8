/- Part 27 of 36 of the proof of the law DagAdds: what is proved is the statement at the end of the last part; its conditions are those of the given row. -/
import Derived.Test.YtlkfelmbhldgfaaGreatZDagAddsD
namespace Go.Proofs.YtlkfelmbhldgfaaGreat.Px
open Go.RowKit Go.Proofs.YtlkfelmbhldgfaaGreatW.PrintWords Go.Proofs.YtlkfelmbhldgfaaGreatW.PrintLast Go.Proofs.YtlkfelmbhldgfaaGreatW.PrintMore
attribute [local go_sem] zA zC zH zI zv zw zB zD
set_option linter.unusedVariables false
set_option linter.unusedSimpArgs false
def z9.l0 : Nat → Int → Int → Int → Int → Int → List (S42) → Option (ByteArray × Int × Int × (List (S67)) × List ByteArray × Int × Int × Bool)
 | 0,_,_,_,_,_,_ => none
 | k + 1,x1,x2,x8,x209000,x209001,x209002 => if x8 < (x209002.length : Int) then (if 0 ≤ x8 then (if ((zd x209002 x8).f1.f0) = x1 then (if ((zd x209002 x8).f1.f1) = x2 then (some ((zd x209002 x8).f0,(zd x209002 x8).f1.f0,(zd x209002 x8).f1.f1,(zd x209002 x8).f1.f2,(zd x209002 x8).f1.f3,(zd x209002 x8).f1.f4.f0,(zd x209002 x8).f1.f4.f1,true)) else (z9.l0 k x1 x2 (wrap64 (x8 + 1)) x209000 x209001 x209002)) else (z9.l0 k x1 x2 (wrap64 (x8 + 1)) x209000 x209001 x209002)) else (none)) else (some ((⟨#[]⟩ : ByteArray),0,0,([] : List (S67)),([] : List ByteArray),0,0,false))
def z9.f (k : Nat) (a0_0 : Int) (a0_1 : Int) (l0_2 : List (S42)) (a1 : Int) (a2 : Int) : Option (ByteArray × Int × Int × (List (S67)) × List ByteArray × Int × Int × Bool) := z9.l0 k a1 a2 0 a0_0 a0_1 l0_2
set_option maxHeartbeats 8000000 in
set_option maxRecDepth 100000 in
theorem z9.calls (k : Nat) (a0_0 : Int) (a0_1 : Int) (P0_2_ : Nat → Prop) (A0_2 : Option Addr) (c0_2 : Nat) (l0_2 : List (S42)) (a1 : Int) (a2 : Int) (r1 : ByteArray) (r2 : Int) (r3 : Int) (r4 : List (S67)) (r5 : List ByteArray) (r6 : Int) (r7 : Int) (r8 : Bool) (w : World) (hs0_2 : Kd.V k42 42 w w.heap.size (fun k_ => P0_2_ k_) (.slice A0_2 l0_2.length c0_2) l0_2) (h : z9.f k a0_0 a0_1 l0_2 a1 a2 = some (r1,r2,r3,r4,r5,r6,r7,r8)) :
  Calls Tryz.prog 23 #[.agg #[.int .i64 a0_0,.int .i64 a0_1,.slice A0_2 l0_2.length c0_2],.int .i64 a1,.int .i64 a2] w fun e w' => ∃ v3_ v4_ : Value,e = .returned (.tuple #[.agg #[.string r1,.int .i64 r2,.int .i64 r3,v3_,v4_,.int .i64 r6,.int .i64 r7],.bool r8]) ∧ Kd.V k67 67 w' w.heap.size (fun k_ => (P0_2_ k_ ∨ w.heap.size ≤ k_)) v3_ r4 ∧ Kd.V Kd.string 9 w' w.heap.size (fun k_ => (P0_2_ k_ ∨ w.heap.size ≤ k_)) v4_ r5 ∧ Below w.heap.size w w' := by
 have hu24 := Tryz.underlying24
 have hu42 := Tryz.underlying42
 have HO0_2 := za.mk (show Kd.V k42 42 w w.heap.size (fun k_ => (P0_2_ k_ ∨ w.heap.size ≤ k_)) (.slice A0_2 l0_2.length c0_2) l0_2 from Kd.V_mono hs0_2 (fun k_ hk => .inl hk))
 have HB := za.mk (Below.refl w.heap.size w)
 have H : (z9.l0 k a1 a2 0 a0_0 a0_1 l0_2) = some (r1,r2,r3,r4,r5,r6,r7,r8) := h
 clear h
 have H' := za.mk H
 clear H
 go_enter Tryz.func23,Tryz.ntmps23
 go_wp2_with (first | ((with_reducible refine zn (N := 3) rfl ?_);refine zl rfl (N := 3) rfl (cs := #[.int .i64 a0_0,.int .i64 a0_1,.slice A0_2 l0_2.length c0_2]) (t := 24) hrq ?_;intro gb208 hg w4 hbox hb;have n_ := haq (Kd.V_below (Kd.V_elderB (by (with_reducible repeat (first | apply Kd.V_alloc | apply Kd.V_drewN | apply Kd.V_drew));exact HO0_2.out) gb208 (Nat.le_of_eq hg.symm)) hb) <| haq (ze hBq hb) <| haq (hbox) <| haq ((by rw [hg];exact (zg hBq) : w.heap.size ≤ gb208)) <| haq ((by rw [hg];exact (zg hBq) : w.heap.size ≤ gb208)) <| trivial;clear HO0_2 HB;obtain ⟨HO0_2,HB,BK208,GW208,GE208,_⟩ := n_;clear hb hbox hg) | ((with_reducible refine zn (N := 6) rfl ?_);refine zl rfl (N := 6) rfl (cs := #[.string (⟨#[]⟩ : ByteArray),.int .i64 0,.int .i64 0,.slice none 0 0,.slice none 0 0,.int .i64 0,.int .i64 0]) (t := 42) hrq ?_;intro gb209 hg w5 hbox hb;have n_ := haq (Kd.V_below (Kd.V_elderB (by (with_reducible repeat (first | apply Kd.V_alloc | apply Kd.V_drewN | apply Kd.V_drew));exact HO0_2.out) gb209 (Nat.le_of_eq hg.symm)) hb) <| haq (hbq BK208.out hb) <| haq (ze hCq hb) <| haq (hbox) <| haq ((by rw [hg];exact (zg hCq) : w.heap.size ≤ gb209)) <| haq ((by rw [hg];exact (zg hCq) : w.heap.size ≤ gb209)) <| haq (hnq hg BK208.out) <| haq (hmq hg BK208.out) <| trivial;clear HO0_2 BK208 HB;obtain ⟨HO0_2,BK208,HB,BK209,GW209,GE209,NB208_209,NB209_208,_⟩ := n_;clear hb hbox hg))
 go_loopg [8] k (fun kq v8 w' => ∃ (x8_1 : Int) (x210000_1 : ByteArray) (x210001_1 : Int) (x210002_1 : Int) (x210005_1 : Int) (x210006_1 : Int),v8 = .int .i64 x8_1 ∧ za (z9.l0 kq a1 a2 x8_1 a0_0 a0_1 l0_2 = some (r1,r2,r3,r4,r5,r6,r7,r8)) ∧ za (kq ≤ k) ∧ za (Kd.V k42 42 w' w.heap.size (fun k_ => (P0_2_ k_ ∨ w.heap.size ≤ k_) ∧ k_ ≠ gb208 ∧ k_ ≠ gb209) (.slice A0_2 l0_2.length c0_2) l0_2) ∧ za (w'.heap[gb208]? = some (.cells #[.int .i64 a0_0,.int .i64 a0_1,(.slice A0_2 l0_2.length c0_2)] 24 (0,0))) ∧ za (w'.heap[gb209]? = some (.cells #[.string x210000_1,.int .i64 x210001_1,.int .i64 x210002_1,(.slice none 0 0),(.slice none 0 0),.int .i64 x210005_1,.int .i64 x210006_1] 42 (0,0))) ∧ za (Below w.heap.size w w'))
 case atStart => exact ⟨(0),((⟨#[]⟩ : ByteArray)),(0),(0),(0),(0),(hDq),H',⟨Nat.le_refl _⟩,⟨by (with_reducible repeat (first | apply Kd.V_alloc | apply Kd.V_drewN | apply Kd.V_drew));exact Kd.V_mono HO0_2.out (fun _ hk => ⟨hk.1.1,⟨hk.1.2,hk.2⟩⟩)⟩,⟨hGq BK208.out⟩,⟨hGq BK209.out⟩,⟨by repeat (first | (with_reducible first | exact HB.out | apply zk | apply zi | apply zo | refine zj ?_ GE208.out | refine zj ?_ GE209.out) | exact HB.out)⟩⟩
 case round =>
  clear H'
  try clear c2;try clear p2
  obtain ⟨x8_1,x210000_1,x210001_1,x210002_1,x210005_1,x210006_1,rfl,HA,HK1,HO_209002,BK208,BK209,HB⟩ := hrel
  cases gk with
  | zero => exact absurd HA.out (by simp [z9.l0])
  | succ k1 =>
   have H := HA.out
   clear HA
   simp only [z9.l0] at H
   by_cases c6 : x8_1 < (l0_2.length : Int)
   ·rw [if_pos c6] at H
    have c6b0 : decide (x8_1 < (l0_2.length : Int)) = true := decide_eq_true c6
    clear c6
    by_cases c7 : 0 ≤ x8_1
    ·rw [if_pos c7] at H
     have c7b0 : decide (0 ≤ x8_1) = true := decide_eq_true c7
     clear c7
     by_cases c8 : ((zd l0_2 x8_1).f1.f0) = a1
     ·rw [if_pos c8] at H
      have c8b0 : (((zd l0_2 x8_1).f1.f0) == a1) = true := beq_iff_eq.mpr c8
      have c8b1 : (((zd l0_2 x8_1).f1.f0) != a1) = false := bne_eq_false_iff_eq.mpr c8
      clear c8
      by_cases c9 : ((zd l0_2 x8_1).f1.f1) = a2
      ·rw [if_pos c9] at H
       have c9b0 : (((zd l0_2 x8_1).f1.f1) == a2) = true := beq_iff_eq.mpr c9
       have c9b1 : (((zd l0_2 x8_1).f1.f1) != a2) = false := bne_eq_false_iff_eq.mpr c9
       clear c9
       simp only [Option.some.injEq,Prod.mk.injEq] at H
       obtain ⟨rfl,rfl,rfl,rfl,rfl,rfl,rfl,rfl⟩ := H
       have hnb10 := NB208_209.out
       have hnc10 := NB209_208.out
       obtain ⟨hcz11_0,hcz11_1,hcz11_2,hfz11_0,hfz11_1,hfz11_2⟩ := hcq3 BK208.out
       have p210 : 0 ≤ (x8_1 : Int) := hFq
       have q210 : x8_1 < (l0_2.length : Int) := hFq
       obtain ⟨ad210,A210_3,c210_3,A210_4,c210_4,e210,hx210_0,hx210_1,hx210_2,hx210_3,hx210_4,hx210_5,hx210_6,hl210_3,hi210_3,hl210_4,hi210_4⟩ := zaG (Kd.V_reads' HO_209002.out).2.2 x8_1 p210 q210
       cases e210
       obtain ⟨ce210,hce210,hMe210,hcc210⟩ := Kd.V_get HO_209002.out z42 x8_1 p210 (by first | exact q210 | exact hFq | (have e_ := (Kd.V_reads' HO_209002.out).1;omega))
       obtain ⟨ua210_3,uc210_3,ua210_4,uc210_4,rfl,ul210_3,ge210_3,ul210_4,ge210_4⟩ := zaF hMe210
       have hv210_3 := hcc210 3 _ rfl
       rw [zQ _ _ 3 (by omega)] at hv210_3
       replace hv210_3 := Option.some.inj (hv210_3.symm.trans hx210_3)
       injection hv210_3 with hva_ hvn_ hvc_
       rw [hva_] at ge210_3
       rw [hvc_] at ul210_3
       have HL210_3 := za.mk (show Kd.V k67 67 _ w.heap.size _ _ ((zd l0_2 x8_1).f1.f2) from Kd.V_mk ul210_3 ge210_3)
       clear hva_ hvn_ hvc_ ge210_3 ul210_3
       have hv210_4 := hcc210 4 _ rfl
       rw [zQ _ _ 4 (by omega)] at hv210_4
       replace hv210_4 := Option.some.inj (hv210_4.symm.trans hx210_4)
       injection hv210_4 with hva_ hvn_ hvc_
       rw [hva_] at ge210_4
       rw [hvc_] at ul210_4
       have HL210_4 := za.mk (show Kd.V Kd.string 9 _ w.heap.size _ _ ((zd l0_2 x8_1).f1.f3) from Kd.V_mk ul210_4 ge210_4)
       clear hva_ hvn_ hvc_ ge210_4 ul210_4
       clear hcc210 hce210
       have HR210_3 := za.mk hi210_3
       have HC210_3 := za.mk hl210_3
       clear hi210_3 hl210_3
       have HR210_4 := za.mk hi210_4
       have HC210_4 := za.mk hl210_4
       clear hi210_4 hl210_4
       replace p210 := eq_true p210
       replace q210 := eq_true q210
       have p211 : 0 ≤ (x8_1 : Int) := hFq
       have q211 : x8_1 < (l0_2.length : Int) := hFq
       obtain ⟨ad211,A211_3,c211_3,A211_4,c211_4,e211,hx211_0,hx211_1,hx211_2,hx211_3,hx211_4,hx211_5,hx211_6,hl211_3,hi211_3,hl211_4,hi211_4⟩ := zaG (Kd.V_reads' HO_209002.out).2.2 x8_1 p211 q211
       obtain rfl : ad210 = ad211 := (by injection e211)
       obtain ⟨ce211,hce211,hMe211,hcc211⟩ := Kd.V_get HO_209002.out z42 x8_1 p211 (by first | exact q211 | exact hFq | (have e_ := (Kd.V_reads' HO_209002.out).1;omega))
       obtain ⟨ua211_3,uc211_3,ua211_4,uc211_4,rfl,ul211_3,ge211_3,ul211_4,ge211_4⟩ := zaF hMe211
       have hv211_3 := hcc211 3 _ rfl
       rw [zQ _ _ 3 (by omega)] at hv211_3
       replace hv211_3 := Option.some.inj (hv211_3.symm.trans hx211_3)
       injection hv211_3 with hva_ hvn_ hvc_
       rw [hva_] at ge211_3
       rw [hvc_] at ul211_3
       have HL211_3 := za.mk (show Kd.V k67 67 _ w.heap.size _ _ ((zd l0_2 x8_1).f1.f2) from Kd.V_mk ul211_3 ge211_3)
       clear hva_ hvn_ hvc_ ge211_3 ul211_3
       have hv211_4 := hcc211 4 _ rfl
       rw [zQ _ _ 4 (by omega)] at hv211_4
       replace hv211_4 := Option.some.inj (hv211_4.symm.trans hx211_4)
       injection hv211_4 with hva_ hvn_ hvc_
       rw [hva_] at ge211_4
       rw [hvc_] at ul211_4
       have HL211_4 := za.mk (show Kd.V Kd.string 9 _ w.heap.size _ _ ((zd l0_2 x8_1).f1.f3) from Kd.V_mk ul211_4 ge211_4)
       clear hva_ hvn_ hvc_ ge211_4 ul211_4
       clear hcc211 hce211
       have HR211_3 := za.mk hi211_3
       have HC211_3 := za.mk hl211_3
       clear hi211_3 hl211_3
       have HR211_4 := za.mk hi211_4
       have HC211_4 := za.mk hl211_4
       clear hi211_4 hl211_4
       replace p211 := eq_true p211
       replace q211 := eq_true q211
       have ea_ := Option.some.inj (hx210_3.symm.trans hx211_3)
       injection ea_ with ea_ en_ ec_
       subst ea_
       subst ec_
       clear en_
       have ea_ := Option.some.inj (hx210_4.symm.trans hx211_4)
       injection ea_ with ea_ en_ ec_
       subst ea_
       subst ec_
       clear en_
       have p212 : 0 ≤ (x8_1 : Int) := hFq
       have q212 : x8_1 < (l0_2.length : Int) := hFq
       obtain ⟨ad212,A212_3,c212_3,A212_4,c212_4,e212,hx212_0,hx212_1,hx212_2,hx212_3,hx212_4,hx212_5,hx212_6,hl212_3,hi212_3,hl212_4,hi212_4⟩ := zaG (Kd.V_reads' HO_209002.out).2.2 x8_1 p212 q212
       obtain rfl : ad210 = ad212 := (by injection e212)
       obtain ⟨ce212,hce212,hMe212,hcc212⟩ := Kd.V_get HO_209002.out z42 x8_1 p212 (by first | exact q212 | exact hFq | (have e_ := (Kd.V_reads' HO_209002.out).1;omega))
       obtain ⟨ua212_3,uc212_3,ua212_4,uc212_4,rfl,ul212_3,ge212_3,ul212_4,ge212_4⟩ := zaF hMe212
       have hv212_3 := hcc212 3 _ rfl
       rw [zQ _ _ 3 (by omega)] at hv212_3
       replace hv212_3 := Option.some.inj (hv212_3.symm.trans hx212_3)
       injection hv212_3 with hva_ hvn_ hvc_
       rw [hva_] at ge212_3
       rw [hvc_] at ul212_3
       have HL212_3 := za.mk (show Kd.V k67 67 _ w.heap.size _ _ ((zd l0_2 x8_1).f1.f2) from Kd.V_mk ul212_3 ge212_3)
       clear hva_ hvn_ hvc_ ge212_3 ul212_3
       have hv212_4 := hcc212 4 _ rfl
       rw [zQ _ _ 4 (by omega)] at hv212_4
       replace hv212_4 := Option.some.inj (hv212_4.symm.trans hx212_4)
       injection hv212_4 with hva_ hvn_ hvc_
       rw [hva_] at ge212_4
       rw [hvc_] at ul212_4
       have HL212_4 := za.mk (show Kd.V Kd.string 9 _ w.heap.size _ _ ((zd l0_2 x8_1).f1.f3) from Kd.V_mk ul212_4 ge212_4)
       clear hva_ hvn_ hvc_ ge212_4 ul212_4
       clear hcc212 hce212
       have HR212_3 := za.mk hi212_3
       have HC212_3 := za.mk hl212_3
       clear hi212_3 hl212_3
       have HR212_4 := za.mk hi212_4
       have HC212_4 := za.mk hl212_4
       clear hi212_4 hl212_4
       replace p212 := eq_true p212
       replace q212 := eq_true q212
       have ea_ := Option.some.inj (hx210_3.symm.trans hx212_3)
       injection ea_ with ea_ en_ ec_
       subst ea_
       subst ec_
       clear en_
       have ea_ := Option.some.inj (hx210_4.symm.trans hx212_4)
       injection ea_ with ea_ en_ ec_
       subst ea_
       subst ec_
       clear en_
       obtain ⟨hcz12_0,hcz12_1,hcz12_2,hcz12_3,hcz12_4,hcz12_5,hcz12_6,hfz12_0,hfz12_1,hfz12_2,hfz12_3,hfz12_4,hfz12_5,hfz12_6⟩ := hcq7 BK209.out
       go_wp2
       refine bodyPost_ret (zaH rfl _ _ gb209 42 #[.string ((zd l0_2 x8_1).f0),.int .i64 ((zd l0_2 x8_1).f1.f0),.int .i64 ((zd l0_2 x8_1).f1.f1),.slice A210_3 ((zd l0_2 x8_1).f1.f2).length c210_3,.slice A210_4 ((zd l0_2 x8_1).f1.f3).length c210_4,.int .i64 ((zd l0_2 x8_1).f1.f4.f0),.int .i64 ((zd l0_2 x8_1).f1.f4.f1)] (0,0) _ rfl (hxq0p BK209.out) Tryz.underlying42 rfl (by kernel_rfl)) rfl ?_
       exact ⟨_,_,hHq,by (with_reducible repeat (first | apply Kd.V_alloc | apply Kd.V_drewN | apply Kd.V_drew));exact Kd.V_mono (Kd.V_far (p := ⟨gb209,6,none⟩) (Kd.V_far (p := ⟨gb209,5,none⟩) (Kd.V_far (p := ⟨gb209,4,none⟩) (Kd.V_far (p := ⟨gb209,3,none⟩) (Kd.V_far (p := ⟨gb209,2,none⟩) (Kd.V_far (p := ⟨gb209,1,none⟩) (Kd.V_far (p := ⟨gb209,0,none⟩) (Kd.V_mono HL212_3.out (fun k_ hk => (⟨hk,hk.2.2⟩ : _ ∧ k_ ≠ gb209))) (fun _ hk => hk.2) (.string ((zd l0_2 x8_1).f0))) (fun _ hk => hk.2) (.int .i64 ((zd l0_2 x8_1).f1.f0))) (fun _ hk => hk.2) (.int .i64 ((zd l0_2 x8_1).f1.f1))) (fun _ hk => hk.2) (.slice A210_3 ((zd l0_2 x8_1).f1.f2).length c210_3)) (fun _ hk => hk.2) (.slice A210_4 ((zd l0_2 x8_1).f1.f3).length c210_4)) (fun _ hk => hk.2) (.int .i64 ((zd l0_2 x8_1).f1.f4.f0))) (fun _ hk => hk.2) (.int .i64 ((zd l0_2 x8_1).f1.f4.f1))) (fun _ hk => hk.1.1),by (with_reducible repeat (first | apply Kd.V_alloc | apply Kd.V_drewN | apply Kd.V_drew));exact Kd.V_mono (Kd.V_far (p := ⟨gb209,6,none⟩) (Kd.V_far (p := ⟨gb209,5,none⟩) (Kd.V_far (p := ⟨gb209,4,none⟩) (Kd.V_far (p := ⟨gb209,3,none⟩) (Kd.V_far (p := ⟨gb209,2,none⟩) (Kd.V_far (p := ⟨gb209,1,none⟩) (Kd.V_far (p := ⟨gb209,0,none⟩) (Kd.V_mono HL212_4.out (fun k_ hk => (⟨hk,hk.2.2⟩ : _ ∧ k_ ≠ gb209))) (fun _ hk => hk.2) (.string ((zd l0_2 x8_1).f0))) (fun _ hk => hk.2) (.int .i64 ((zd l0_2 x8_1).f1.f0))) (fun _ hk => hk.2) (.int .i64 ((zd l0_2 x8_1).f1.f1))) (fun _ hk => hk.2) (.slice A210_3 ((zd l0_2 x8_1).f1.f2).length c210_3)) (fun _ hk => hk.2) (.slice A210_4 ((zd l0_2 x8_1).f1.f3).length c210_4)) (fun _ hk => hk.2) (.int .i64 ((zd l0_2 x8_1).f1.f4.f0))) (fun _ hk => hk.2) (.int .i64 ((zd l0_2 x8_1).f1.f4.f1))) (fun _ hk => hk.1.1),hCq⟩
      ·rw [if_neg c9] at H
       have c9b0 : (((zd l0_2 x8_1).f1.f1) == a2) = false := beq_eq_false_iff_ne.mpr c9
       have c9b1 : (((zd l0_2 x8_1).f1.f1) != a2) = true := bne_iff_ne.mpr c9
       have H' := za.mk H
       clear H
       have hnb13 := NB208_209.out
       have hnc13 := NB209_208.out
       obtain ⟨hcz14_0,hcz14_1,hcz14_2,hfz14_0,hfz14_1,hfz14_2⟩ := hcq3 BK208.out
       have p210 : 0 ≤ (x8_1 : Int) := hFq
       have q210 : x8_1 < (l0_2.length : Int) := hFq
       obtain ⟨ad210,A210_3,c210_3,A210_4,c210_4,e210,hx210_0,hx210_1,hx210_2,hx210_3,hx210_4,hx210_5,hx210_6,hl210_3,hi210_3,hl210_4,hi210_4⟩ := zaG (Kd.V_reads' HO_209002.out).2.2 x8_1 p210 q210
       cases e210
       obtain ⟨ce210,hce210,hMe210,hcc210⟩ := Kd.V_get HO_209002.out z42 x8_1 p210 (by first | exact q210 | exact hFq | (have e_ := (Kd.V_reads' HO_209002.out).1;omega))
       obtain ⟨ua210_3,uc210_3,ua210_4,uc210_4,rfl,ul210_3,ge210_3,ul210_4,ge210_4⟩ := zaF hMe210
       have hv210_3 := hcc210 3 _ rfl
       rw [zQ _ _ 3 (by omega)] at hv210_3
       replace hv210_3 := Option.some.inj (hv210_3.symm.trans hx210_3)
       injection hv210_3 with hva_ hvn_ hvc_
       rw [hva_] at ge210_3
       rw [hvc_] at ul210_3
       have HL210_3 := za.mk (show Kd.V k67 67 _ w.heap.size _ _ ((zd l0_2 x8_1).f1.f2) from Kd.V_mk ul210_3 ge210_3)
       clear hva_ hvn_ hvc_ ge210_3 ul210_3
       have hv210_4 := hcc210 4 _ rfl
       rw [zQ _ _ 4 (by omega)] at hv210_4
       replace hv210_4 := Option.some.inj (hv210_4.symm.trans hx210_4)
       injection hv210_4 with hva_ hvn_ hvc_
       rw [hva_] at ge210_4
       rw [hvc_] at ul210_4
       have HL210_4 := za.mk (show Kd.V Kd.string 9 _ w.heap.size _ _ ((zd l0_2 x8_1).f1.f3) from Kd.V_mk ul210_4 ge210_4)
       clear hva_ hvn_ hvc_ ge210_4 ul210_4
       clear hcc210 hce210
       have HR210_3 := za.mk hi210_3
       have HC210_3 := za.mk hl210_3
       clear hi210_3 hl210_3
       have HR210_4 := za.mk hi210_4
       have HC210_4 := za.mk hl210_4
       clear hi210_4 hl210_4
       replace p210 := eq_true p210
       replace q210 := eq_true q210
       have p211 : 0 ≤ (x8_1 : Int) := hFq
       have q211 : x8_1 < (l0_2.length : Int) := hFq
       obtain ⟨ad211,A211_3,c211_3,A211_4,c211_4,e211,hx211_0,hx211_1,hx211_2,hx211_3,hx211_4,hx211_5,hx211_6,hl211_3,hi211_3,hl211_4,hi211_4⟩ := zaG (Kd.V_reads' HO_209002.out).2.2 x8_1 p211 q211
       obtain rfl : ad210 = ad211 := (by injection e211)
       obtain ⟨ce211,hce211,hMe211,hcc211⟩ := Kd.V_get HO_209002.out z42 x8_1 p211 (by first | exact q211 | exact hFq | (have e_ := (Kd.V_reads' HO_209002.out).1;omega))
       obtain ⟨ua211_3,uc211_3,ua211_4,uc211_4,rfl,ul211_3,ge211_3,ul211_4,ge211_4⟩ := zaF hMe211
       have hv211_3 := hcc211 3 _ rfl
       rw [zQ _ _ 3 (by omega)] at hv211_3
       replace hv211_3 := Option.some.inj (hv211_3.symm.trans hx211_3)
       injection hv211_3 with hva_ hvn_ hvc_
       rw [hva_] at ge211_3
       rw [hvc_] at ul211_3
       have HL211_3 := za.mk (show Kd.V k67 67 _ w.heap.size _ _ ((zd l0_2 x8_1).f1.f2) from Kd.V_mk ul211_3 ge211_3)
       clear hva_ hvn_ hvc_ ge211_3 ul211_3
       have hv211_4 := hcc211 4 _ rfl
       rw [zQ _ _ 4 (by omega)] at hv211_4
       replace hv211_4 := Option.some.inj (hv211_4.symm.trans hx211_4)
       injection hv211_4 with hva_ hvn_ hvc_
       rw [hva_] at ge211_4
       rw [hvc_] at ul211_4
       have HL211_4 := za.mk (show Kd.V Kd.string 9 _ w.heap.size _ _ ((zd l0_2 x8_1).f1.f3) from Kd.V_mk ul211_4 ge211_4)
       clear hva_ hvn_ hvc_ ge211_4 ul211_4
       clear hcc211 hce211
       have HR211_3 := za.mk hi211_3
       have HC211_3 := za.mk hl211_3
       clear hi211_3 hl211_3
       have HR211_4 := za.mk hi211_4
       have HC211_4 := za.mk hl211_4
       clear hi211_4 hl211_4
       replace p211 := eq_true p211
       replace q211 := eq_true q211
       have ea_ := Option.some.inj (hx210_3.symm.trans hx211_3)
       injection ea_ with ea_ en_ ec_
       subst ea_
       subst ec_
       clear en_
       have ea_ := Option.some.inj (hx210_4.symm.trans hx211_4)
       injection ea_ with ea_ en_ ec_
       subst ea_
       subst ec_
       clear en_
       go_wp2
       go_roundg k1
       case measure => have := HK1.out;omega
       case rel => exact ⟨(wrap64 (x8_1 + 1)),(x210000_1),(x210001_1),(x210002_1),(x210005_1),(x210006_1),(hDq),H',⟨by have := HK1.out;omega⟩,⟨by (with_reducible repeat (first | apply Kd.V_alloc | apply Kd.V_drewN | apply Kd.V_drew));exact HO_209002.out⟩,⟨hGq BK208.out⟩,⟨hGq BK209.out⟩,⟨by repeat (first | (with_reducible first | exact HB.out | apply zk | apply zi | apply zo | refine zj ?_ GE208.out | refine zj ?_ GE209.out) | exact HB.out)⟩⟩
     ·rw [if_neg c8] at H
      have c8b0 : (((zd l0_2 x8_1).f1.f0) == a1) = false := beq_eq_false_iff_ne.mpr c8
      have c8b1 : (((zd l0_2 x8_1).f1.f0) != a1) = true := bne_iff_ne.mpr c8
      have H' := za.mk H
      clear H
      have hnb15 := NB208_209.out
      have hnc15 := NB209_208.out
      obtain ⟨hcz16_0,hcz16_1,hcz16_2,hfz16_0,hfz16_1,hfz16_2⟩ := hcq3 BK208.out
      have p210 : 0 ≤ (x8_1 : Int) := hFq
      have q210 : x8_1 < (l0_2.length : Int) := hFq
      obtain ⟨ad210,A210_3,c210_3,A210_4,c210_4,e210,hx210_0,hx210_1,hx210_2,hx210_3,hx210_4,hx210_5,hx210_6,hl210_3,hi210_3,hl210_4,hi210_4⟩ := zaG (Kd.V_reads' HO_209002.out).2.2 x8_1 p210 q210
      cases e210
      obtain ⟨ce210,hce210,hMe210,hcc210⟩ := Kd.V_get HO_209002.out z42 x8_1 p210 (by first | exact q210 | exact hFq | (have e_ := (Kd.V_reads' HO_209002.out).1;omega))
      obtain ⟨ua210_3,uc210_3,ua210_4,uc210_4,rfl,ul210_3,ge210_3,ul210_4,ge210_4⟩ := zaF hMe210
      have hv210_3 := hcc210 3 _ rfl
      rw [zQ _ _ 3 (by omega)] at hv210_3
      replace hv210_3 := Option.some.inj (hv210_3.symm.trans hx210_3)
      injection hv210_3 with hva_ hvn_ hvc_
      rw [hva_] at ge210_3
      rw [hvc_] at ul210_3
      have HL210_3 := za.mk (show Kd.V k67 67 _ w.heap.size _ _ ((zd l0_2 x8_1).f1.f2) from Kd.V_mk ul210_3 ge210_3)
      clear hva_ hvn_ hvc_ ge210_3 ul210_3
      have hv210_4 := hcc210 4 _ rfl
      rw [zQ _ _ 4 (by omega)] at hv210_4
      replace hv210_4 := Option.some.inj (hv210_4.symm.trans hx210_4)
      injection hv210_4 with hva_ hvn_ hvc_
      rw [hva_] at ge210_4
      rw [hvc_] at ul210_4
      have HL210_4 := za.mk (show Kd.V Kd.string 9 _ w.heap.size _ _ ((zd l0_2 x8_1).f1.f3) from Kd.V_mk ul210_4 ge210_4)
      clear hva_ hvn_ hvc_ ge210_4 ul210_4
      clear hcc210 hce210
      have HR210_3 := za.mk hi210_3
      have HC210_3 := za.mk hl210_3
      clear hi210_3 hl210_3
      have HR210_4 := za.mk hi210_4
      have HC210_4 := za.mk hl210_4
      clear hi210_4 hl210_4
      replace p210 := eq_true p210
      replace q210 := eq_true q210
      go_wp2
      go_roundg k1
      case measure => have := HK1.out;omega
      case rel => exact ⟨(wrap64 (x8_1 + 1)),(x210000_1),(x210001_1),(x210002_1),(x210005_1),(x210006_1),(hDq),H',⟨by have := HK1.out;omega⟩,⟨by (with_reducible repeat (first | apply Kd.V_alloc | apply Kd.V_drewN | apply Kd.V_drew));exact HO_209002.out⟩,⟨hGq BK208.out⟩,⟨hGq BK209.out⟩,⟨by repeat (first | (with_reducible first | exact HB.out | apply zk | apply zi | apply zo | refine zj ?_ GE208.out | refine zj ?_ GE209.out) | exact HB.out)⟩⟩
    ·rw [if_neg c7] at H
     exact absurd H (by simp)
   ·rw [if_neg c6] at H
    have c6b0 : decide (x8_1 < (l0_2.length : Int)) = false := decide_eq_false c6
    clear c6
    simp only [Option.some.injEq,Prod.mk.injEq] at H
    obtain ⟨rfl,rfl,rfl,rfl,rfl,rfl,rfl,rfl⟩ := H
    have hnb17 := NB208_209.out
    have hnc17 := NB209_208.out
    obtain ⟨hcz18_0,hcz18_1,hcz18_2,hfz18_0,hfz18_1,hfz18_2⟩ := hcq3 BK208.out
    obtain ⟨hcz19_0,hcz19_1,hcz19_2,hcz19_3,hcz19_4,hcz19_5,hcz19_6,hfz19_0,hfz19_1,hfz19_2,hfz19_3,hfz19_4,hfz19_5,hfz19_6⟩ := hcq7 BK209.out
    go_wp2
    refine bodyPost_ret (zaH rfl _ _ gb209 42 #[.string (⟨#[]⟩ : ByteArray),.int .i64 0,.int .i64 0,.slice none 0 0,.slice none 0 0,.int .i64 0,.int .i64 0] (0,0) _ rfl (hxq0p BK209.out) Tryz.underlying42 rfl (by kernel_rfl)) rfl ?_
    exact ⟨_,_,hHq,Kd.V_nil _ _ _ _ _,Kd.V_nil _ _ _ _ _,hCq⟩
def z4.l0 : Nat → ByteArray → Int → Int → Int → List (S42) → Option (ByteArray × Int × Int × (List (S67)) × List ByteArray × Int × Int × Bool)
 | 0,_,_,_,_,_ => none
 | k + 1,x1,x6,x205000,x205001,x205002 => if x6 < (x205002.length : Int) then (if 0 ≤ x6 then (if ((zd x205002 x6).f0).toList = x1.toList then (some ((zd x205002 x6).f0,(zd x205002 x6).f1.f0,(zd x205002 x6).f1.f1,(zd x205002 x6).f1.f2,(zd x205002 x6).f1.f3,(zd x205002 x6).f1.f4.f0,(zd x205002 x6).f1.f4.f1,true)) else (z4.l0 k x1 (wrap64 (x6 + 1)) x205000 x205001 x205002)) else (none)) else (some ((⟨#[]⟩ : ByteArray),0,0,([] : List (S67)),([] : List ByteArray),0,0,false))
def z4.f (k : Nat) (a0_0 : Int) (a0_1 : Int) (l0_2 : List (S42)) (a1 : ByteArray) : Option (ByteArray × Int × Int × (List (S67)) × List ByteArray × Int × Int × Bool) := z4.l0 k a1 0 a0_0 a0_1 l0_2
set_option maxHeartbeats 8000000 in
set_option maxRecDepth 100000 in
theorem z4.calls (k : Nat) (a0_0 : Int) (a0_1 : Int) (P0_2_ : Nat → Prop) (A0_2 : Option Addr) (c0_2 : Nat) (l0_2 : List (S42)) (a1 : ByteArray) (r1 : ByteArray) (r2 : Int) (r3 : Int) (r4 : List (S67)) (r5 : List ByteArray) (r6 : Int) (r7 : Int) (r8 : Bool) (w : World) (hs0_2 : Kd.V k42 42 w w.heap.size (fun k_ => P0_2_ k_) (.slice A0_2 l0_2.length c0_2) l0_2) (h : z4.f k a0_0 a0_1 l0_2 a1 = some (r1,r2,r3,r4,r5,r6,r7,r8)) :
  Calls Tryz.prog 22 #[.agg #[.int .i64 a0_0,.int .i64 a0_1,.slice A0_2 l0_2.length c0_2],.string a1] w fun e w' => ∃ v3_ v4_ : Value,e = .returned (.tuple #[.agg #[.string r1,.int .i64 r2,.int .i64 r3,v3_,v4_,.int .i64 r6,.int .i64 r7],.bool r8]) ∧ Kd.V k67 67 w' w.heap.size (fun k_ => (P0_2_ k_ ∨ w.heap.size ≤ k_)) v3_ r4 ∧ Kd.V Kd.string 9 w' w.heap.size (fun k_ => (P0_2_ k_ ∨ w.heap.size ≤ k_)) v4_ r5 ∧ Below w.heap.size w w' := by
 have hu24 := Tryz.underlying24
 have hu42 := Tryz.underlying42
 have HO0_2 := za.mk (show Kd.V k42 42 w w.heap.size (fun k_ => (P0_2_ k_ ∨ w.heap.size ≤ k_)) (.slice A0_2 l0_2.length c0_2) l0_2 from Kd.V_mono hs0_2 (fun k_ hk => .inl hk))
 have HB := za.mk (Below.refl w.heap.size w)
 have H : (z4.l0 k a1 0 a0_0 a0_1 l0_2) = some (r1,r2,r3,r4,r5,r6,r7,r8) := h
 clear h
 have H' := za.mk H
 clear H
 go_enter Tryz.func22,Tryz.ntmps22
 go_wp2_with (first | ((with_reducible refine zn (N := 2) rfl ?_);refine zl rfl (N := 2) rfl (cs := #[.int .i64 a0_0,.int .i64 a0_1,.slice A0_2 l0_2.length c0_2]) (t := 24) hrq ?_;intro gb204 hg w3 hbox hb;have n_ := haq (Kd.V_below (Kd.V_elderB (by (with_reducible repeat (first | apply Kd.V_alloc | apply Kd.V_drewN | apply Kd.V_drew));exact HO0_2.out) gb204 (Nat.le_of_eq hg.symm)) hb) <| haq (ze hBq hb) <| haq (hbox) <| haq ((by rw [hg];exact (zg hBq) : w.heap.size ≤ gb204)) <| haq ((by rw [hg];exact (zg hBq) : w.heap.size ≤ gb204)) <| trivial;clear HO0_2 HB;obtain ⟨HO0_2,HB,BK204,GW204,GE204,_⟩ := n_;clear hb hbox hg) | ((with_reducible refine zn (N := 4) rfl ?_);refine zl rfl (N := 4) rfl (cs := #[.string (⟨#[]⟩ : ByteArray),.int .i64 0,.int .i64 0,.slice none 0 0,.slice none 0 0,.int .i64 0,.int .i64 0]) (t := 42) hrq ?_;intro gb205 hg w4 hbox hb;have n_ := haq (Kd.V_below (Kd.V_elderB (by (with_reducible repeat (first | apply Kd.V_alloc | apply Kd.V_drewN | apply Kd.V_drew));exact HO0_2.out) gb205 (Nat.le_of_eq hg.symm)) hb) <| haq (hbq BK204.out hb) <| haq (ze hCq hb) <| haq (hbox) <| haq ((by rw [hg];exact (zg hCq) : w.heap.size ≤ gb205)) <| haq ((by rw [hg];exact (zg hCq) : w.heap.size ≤ gb205)) <| haq (hnq hg BK204.out) <| haq (hmq hg BK204.out) <| trivial;clear HO0_2 BK204 HB;obtain ⟨HO0_2,BK204,HB,BK205,GW205,GE205,NB204_205,NB205_204,_⟩ := n_;clear hb hbox hg))
 go_loopg [6] k (fun kq v6 w' => ∃ (x6_1 : Int) (x206000_1 : ByteArray) (x206001_1 : Int) (x206002_1 : Int) (x206005_1 : Int) (x206006_1 : Int),v6 = .int .i64 x6_1 ∧ za (z4.l0 kq a1 x6_1 a0_0 a0_1 l0_2 = some (r1,r2,r3,r4,r5,r6,r7,r8)) ∧ za (kq ≤ k) ∧ za (Kd.V k42 42 w' w.heap.size (fun k_ => (P0_2_ k_ ∨ w.heap.size ≤ k_) ∧ k_ ≠ gb204 ∧ k_ ≠ gb205) (.slice A0_2 l0_2.length c0_2) l0_2) ∧ za (w'.heap[gb204]? = some (.cells #[.int .i64 a0_0,.int .i64 a0_1,(.slice A0_2 l0_2.length c0_2)] 24 (0,0))) ∧ za (w'.heap[gb205]? = some (.cells #[.string x206000_1,.int .i64 x206001_1,.int .i64 x206002_1,(.slice none 0 0),(.slice none 0 0),.int .i64 x206005_1,.int .i64 x206006_1] 42 (0,0))) ∧ za (Below w.heap.size w w'))
 case atStart => exact ⟨(0),((⟨#[]⟩ : ByteArray)),(0),(0),(0),(0),(hDq),H',⟨Nat.le_refl _⟩,⟨by (with_reducible repeat (first | apply Kd.V_alloc | apply Kd.V_drewN | apply Kd.V_drew));exact Kd.V_mono HO0_2.out (fun _ hk => ⟨hk.1.1,⟨hk.1.2,hk.2⟩⟩)⟩,⟨hGq BK204.out⟩,⟨hGq BK205.out⟩,⟨by repeat (first | (with_reducible first | exact HB.out | apply zk | apply zi | apply zo | refine zj ?_ GE204.out | refine zj ?_ GE205.out) | exact HB.out)⟩⟩
 case round =>
  clear H'
  try clear c2;try clear p2
  obtain ⟨x6_1,x206000_1,x206001_1,x206002_1,x206005_1,x206006_1,rfl,HA,HK1,HO_205002,BK204,BK205,HB⟩ := hrel
  cases gk with
  | zero => exact absurd HA.out (by simp [z4.l0])
  | succ k1 =>
   have H := HA.out
   clear HA
   simp only [z4.l0] at H
   by_cases c5 : x6_1 < (l0_2.length : Int)
   ·rw [if_pos c5] at H
    have c5b0 : decide (x6_1 < (l0_2.length : Int)) = true := decide_eq_true c5
    clear c5
    by_cases c6 : 0 ≤ x6_1
    ·rw [if_pos c6] at H
     have c6b0 : decide (0 ≤ x6_1) = true := decide_eq_true c6
     clear c6
     by_cases c7 : ((zd l0_2 x6_1).f0).toList = a1.toList
     ·rw [if_pos c7] at H
      have c7b0 : (((zd l0_2 x6_1).f0).toList == a1.toList) = true := beq_iff_eq.mpr c7
      have c7b1 : (((zd l0_2 x6_1).f0).toList != a1.toList) = false := bne_eq_false_iff_eq.mpr c7
      clear c7
      simp only [Option.some.injEq,Prod.mk.injEq] at H
      obtain ⟨rfl,rfl,rfl,rfl,rfl,rfl,rfl,rfl⟩ := H
      have hnb8 := NB204_205.out
      have hnc8 := NB205_204.out
      obtain ⟨hcz9_0,hcz9_1,hcz9_2,hfz9_0,hfz9_1,hfz9_2⟩ := hcq3 BK204.out
      have p206 : 0 ≤ (x6_1 : Int) := hFq
      have q206 : x6_1 < (l0_2.length : Int) := hFq
      obtain ⟨ad206,A206_3,c206_3,A206_4,c206_4,e206,hx206_0,hx206_1,hx206_2,hx206_3,hx206_4,hx206_5,hx206_6,hl206_3,hi206_3,hl206_4,hi206_4⟩ := zaG (Kd.V_reads' HO_205002.out).2.2 x6_1 p206 q206
      cases e206
      obtain ⟨ce206,hce206,hMe206,hcc206⟩ := Kd.V_get HO_205002.out z42 x6_1 p206 (by first | exact q206 | exact hFq | (have e_ := (Kd.V_reads' HO_205002.out).1;omega))
      obtain ⟨ua206_3,uc206_3,ua206_4,uc206_4,rfl,ul206_3,ge206_3,ul206_4,ge206_4⟩ := zaF hMe206
      have hv206_3 := hcc206 3 _ rfl
      rw [zQ _ _ 3 (by omega)] at hv206_3
      replace hv206_3 := Option.some.inj (hv206_3.symm.trans hx206_3)
      injection hv206_3 with hva_ hvn_ hvc_
      rw [hva_] at ge206_3
      rw [hvc_] at ul206_3
      have HL206_3 := za.mk (show Kd.V k67 67 _ w.heap.size _ _ ((zd l0_2 x6_1).f1.f2) from Kd.V_mk ul206_3 ge206_3)
      clear hva_ hvn_ hvc_ ge206_3 ul206_3
      have hv206_4 := hcc206 4 _ rfl
      rw [zQ _ _ 4 (by omega)] at hv206_4
      replace hv206_4 := Option.some.inj (hv206_4.symm.trans hx206_4)
      injection hv206_4 with hva_ hvn_ hvc_
      rw [hva_] at ge206_4
      rw [hvc_] at ul206_4
      have HL206_4 := za.mk (show Kd.V Kd.string 9 _ w.heap.size _ _ ((zd l0_2 x6_1).f1.f3) from Kd.V_mk ul206_4 ge206_4)
      clear hva_ hvn_ hvc_ ge206_4 ul206_4
      clear hcc206 hce206
      have HR206_3 := za.mk hi206_3
      have HC206_3 := za.mk hl206_3
      clear hi206_3 hl206_3
      have HR206_4 := za.mk hi206_4
      have HC206_4 := za.mk hl206_4
      clear hi206_4 hl206_4
      replace p206 := eq_true p206
      replace q206 := eq_true q206
      have p207 : 0 ≤ (x6_1 : Int) := hFq
      have q207 : x6_1 < (l0_2.length : Int) := hFq
      obtain ⟨ad207,A207_3,c207_3,A207_4,c207_4,e207,hx207_0,hx207_1,hx207_2,hx207_3,hx207_4,hx207_5,hx207_6,hl207_3,hi207_3,hl207_4,hi207_4⟩ := zaG (Kd.V_reads' HO_205002.out).2.2 x6_1 p207 q207
      obtain rfl : ad206 = ad207 := (by injection e207)
      obtain ⟨ce207,hce207,hMe207,hcc207⟩ := Kd.V_get HO_205002.out z42 x6_1 p207 (by first | exact q207 | exact hFq | (have e_ := (Kd.V_reads' HO_205002.out).1;omega))
      obtain ⟨ua207_3,uc207_3,ua207_4,uc207_4,rfl,ul207_3,ge207_3,ul207_4,ge207_4⟩ := zaF hMe207
      have hv207_3 := hcc207 3 _ rfl
      rw [zQ _ _ 3 (by omega)] at hv207_3
      replace hv207_3 := Option.some.inj (hv207_3.symm.trans hx207_3)
      injection hv207_3 with hva_ hvn_ hvc_
      rw [hva_] at ge207_3
      rw [hvc_] at ul207_3
      have HL207_3 := za.mk (show Kd.V k67 67 _ w.heap.size _ _ ((zd l0_2 x6_1).f1.f2) from Kd.V_mk ul207_3 ge207_3)
      clear hva_ hvn_ hvc_ ge207_3 ul207_3
      have hv207_4 := hcc207 4 _ rfl
      rw [zQ _ _ 4 (by omega)] at hv207_4
      replace hv207_4 := Option.some.inj (hv207_4.symm.trans hx207_4)
      injection hv207_4 with hva_ hvn_ hvc_
      rw [hva_] at ge207_4
      rw [hvc_] at ul207_4
      have HL207_4 := za.mk (show Kd.V Kd.string 9 _ w.heap.size _ _ ((zd l0_2 x6_1).f1.f3) from Kd.V_mk ul207_4 ge207_4)
      clear hva_ hvn_ hvc_ ge207_4 ul207_4
      clear hcc207 hce207
      have HR207_3 := za.mk hi207_3
      have HC207_3 := za.mk hl207_3
      clear hi207_3 hl207_3
      have HR207_4 := za.mk hi207_4
      have HC207_4 := za.mk hl207_4
      clear hi207_4 hl207_4
      replace p207 := eq_true p207
      replace q207 := eq_true q207
      have ea_ := Option.some.inj (hx206_3.symm.trans hx207_3)
      injection ea_ with ea_ en_ ec_
      subst ea_
      subst ec_
      clear en_
      have ea_ := Option.some.inj (hx206_4.symm.trans hx207_4)
      injection ea_ with ea_ en_ ec_
      subst ea_
      subst ec_
      clear en_
      obtain ⟨hcz10_0,hcz10_1,hcz10_2,hcz10_3,hcz10_4,hcz10_5,hcz10_6,hfz10_0,hfz10_1,hfz10_2,hfz10_3,hfz10_4,hfz10_5,hfz10_6⟩ := hcq7 BK205.out
      go_wp2
      refine bodyPost_ret (zaH rfl _ _ gb205 42 #[.string ((zd l0_2 x6_1).f0),.int .i64 ((zd l0_2 x6_1).f1.f0),.int .i64 ((zd l0_2 x6_1).f1.f1),.slice A206_3 ((zd l0_2 x6_1).f1.f2).length c206_3,.slice A206_4 ((zd l0_2 x6_1).f1.f3).length c206_4,.int .i64 ((zd l0_2 x6_1).f1.f4.f0),.int .i64 ((zd l0_2 x6_1).f1.f4.f1)] (0,0) _ rfl (hxq0p BK205.out) Tryz.underlying42 rfl (by kernel_rfl)) rfl ?_
      exact ⟨_,_,hHq,by (with_reducible repeat (first | apply Kd.V_alloc | apply Kd.V_drewN | apply Kd.V_drew));exact Kd.V_mono (Kd.V_far (p := ⟨gb205,6,none⟩) (Kd.V_far (p := ⟨gb205,5,none⟩) (Kd.V_far (p := ⟨gb205,4,none⟩) (Kd.V_far (p := ⟨gb205,3,none⟩) (Kd.V_far (p := ⟨gb205,2,none⟩) (Kd.V_far (p := ⟨gb205,1,none⟩) (Kd.V_far (p := ⟨gb205,0,none⟩) (Kd.V_mono HL207_3.out (fun k_ hk => (⟨hk,hk.2.2⟩ : _ ∧ k_ ≠ gb205))) (fun _ hk => hk.2) (.string ((zd l0_2 x6_1).f0))) (fun _ hk => hk.2) (.int .i64 ((zd l0_2 x6_1).f1.f0))) (fun _ hk => hk.2) (.int .i64 ((zd l0_2 x6_1).f1.f1))) (fun _ hk => hk.2) (.slice A206_3 ((zd l0_2 x6_1).f1.f2).length c206_3)) (fun _ hk => hk.2) (.slice A206_4 ((zd l0_2 x6_1).f1.f3).length c206_4)) (fun _ hk => hk.2) (.int .i64 ((zd l0_2 x6_1).f1.f4.f0))) (fun _ hk => hk.2) (.int .i64 ((zd l0_2 x6_1).f1.f4.f1))) (fun _ hk => hk.1.1),by (with_reducible repeat (first | apply Kd.V_alloc | apply Kd.V_drewN | apply Kd.V_drew));exact Kd.V_mono (Kd.V_far (p := ⟨gb205,6,none⟩) (Kd.V_far (p := ⟨gb205,5,none⟩) (Kd.V_far (p := ⟨gb205,4,none⟩) (Kd.V_far (p := ⟨gb205,3,none⟩) (Kd.V_far (p := ⟨gb205,2,none⟩) (Kd.V_far (p := ⟨gb205,1,none⟩) (Kd.V_far (p := ⟨gb205,0,none⟩) (Kd.V_mono HL207_4.out (fun k_ hk => (⟨hk,hk.2.2⟩ : _ ∧ k_ ≠ gb205))) (fun _ hk => hk.2) (.string ((zd l0_2 x6_1).f0))) (fun _ hk => hk.2) (.int .i64 ((zd l0_2 x6_1).f1.f0))) (fun _ hk => hk.2) (.int .i64 ((zd l0_2 x6_1).f1.f1))) (fun _ hk => hk.2) (.slice A206_3 ((zd l0_2 x6_1).f1.f2).length c206_3)) (fun _ hk => hk.2) (.slice A206_4 ((zd l0_2 x6_1).f1.f3).length c206_4)) (fun _ hk => hk.2) (.int .i64 ((zd l0_2 x6_1).f1.f4.f0))) (fun _ hk => hk.2) (.int .i64 ((zd l0_2 x6_1).f1.f4.f1))) (fun _ hk => hk.1.1),hCq⟩
     ·rw [if_neg c7] at H
      have c7b0 : (((zd l0_2 x6_1).f0).toList == a1.toList) = false := beq_eq_false_iff_ne.mpr c7
      have c7b1 : (((zd l0_2 x6_1).f0).toList != a1.toList) = true := bne_iff_ne.mpr c7
      have H' := za.mk H
      clear H
      have hnb11 := NB204_205.out
      have hnc11 := NB205_204.out
      obtain ⟨hcz12_0,hcz12_1,hcz12_2,hfz12_0,hfz12_1,hfz12_2⟩ := hcq3 BK204.out
      have p206 : 0 ≤ (x6_1 : Int) := hFq
      have q206 : x6_1 < (l0_2.length : Int) := hFq
      obtain ⟨ad206,A206_3,c206_3,A206_4,c206_4,e206,hx206_0,hx206_1,hx206_2,hx206_3,hx206_4,hx206_5,hx206_6,hl206_3,hi206_3,hl206_4,hi206_4⟩ := zaG (Kd.V_reads' HO_205002.out).2.2 x6_1 p206 q206
      cases e206
      obtain ⟨ce206,hce206,hMe206,hcc206⟩ := Kd.V_get HO_205002.out z42 x6_1 p206 (by first | exact q206 | exact hFq | (have e_ := (Kd.V_reads' HO_205002.out).1;omega))
      obtain ⟨ua206_3,uc206_3,ua206_4,uc206_4,rfl,ul206_3,ge206_3,ul206_4,ge206_4⟩ := zaF hMe206
      have hv206_3 := hcc206 3 _ rfl
      rw [zQ _ _ 3 (by omega)] at hv206_3
      replace hv206_3 := Option.some.inj (hv206_3.symm.trans hx206_3)
      injection hv206_3 with hva_ hvn_ hvc_
      rw [hva_] at ge206_3
      rw [hvc_] at ul206_3
      have HL206_3 := za.mk (show Kd.V k67 67 _ w.heap.size _ _ ((zd l0_2 x6_1).f1.f2) from Kd.V_mk ul206_3 ge206_3)
      clear hva_ hvn_ hvc_ ge206_3 ul206_3
      have hv206_4 := hcc206 4 _ rfl
      rw [zQ _ _ 4 (by omega)] at hv206_4
      replace hv206_4 := Option.some.inj (hv206_4.symm.trans hx206_4)
      injection hv206_4 with hva_ hvn_ hvc_
      rw [hva_] at ge206_4
      rw [hvc_] at ul206_4
      have HL206_4 := za.mk (show Kd.V Kd.string 9 _ w.heap.size _ _ ((zd l0_2 x6_1).f1.f3) from Kd.V_mk ul206_4 ge206_4)
      clear hva_ hvn_ hvc_ ge206_4 ul206_4
      clear hcc206 hce206
      have HR206_3 := za.mk hi206_3
      have HC206_3 := za.mk hl206_3
      clear hi206_3 hl206_3
      have HR206_4 := za.mk hi206_4
      have HC206_4 := za.mk hl206_4
      clear hi206_4 hl206_4
      replace p206 := eq_true p206
      replace q206 := eq_true q206
      go_wp2
      go_roundg k1
      case measure => have := HK1.out;omega
      case rel => exact ⟨(wrap64 (x6_1 + 1)),(x206000_1),(x206001_1),(x206002_1),(x206005_1),(x206006_1),(hDq),H',⟨by have := HK1.out;omega⟩,⟨by (with_reducible repeat (first | apply Kd.V_alloc | apply Kd.V_drewN | apply Kd.V_drew));exact HO_205002.out⟩,⟨hGq BK204.out⟩,⟨hGq BK205.out⟩,⟨by repeat (first | (with_reducible first | exact HB.out | apply zk | apply zi | apply zo | refine zj ?_ GE204.out | refine zj ?_ GE205.out) | exact HB.out)⟩⟩
    ·rw [if_neg c6] at H
     exact absurd H (by simp)
   ·rw [if_neg c5] at H
    have c5b0 : decide (x6_1 < (l0_2.length : Int)) = false := decide_eq_false c5
    clear c5
    simp only [Option.some.injEq,Prod.mk.injEq] at H
    obtain ⟨rfl,rfl,rfl,rfl,rfl,rfl,rfl,rfl⟩ := H
    have hnb13 := NB204_205.out
    have hnc13 := NB205_204.out
    obtain ⟨hcz14_0,hcz14_1,hcz14_2,hfz14_0,hfz14_1,hfz14_2⟩ := hcq3 BK204.out
    obtain ⟨hcz15_0,hcz15_1,hcz15_2,hcz15_3,hcz15_4,hcz15_5,hcz15_6,hfz15_0,hfz15_1,hfz15_2,hfz15_3,hfz15_4,hfz15_5,hfz15_6⟩ := hcq7 BK205.out
    go_wp2
    refine bodyPost_ret (zaH rfl _ _ gb205 42 #[.string (⟨#[]⟩ : ByteArray),.int .i64 0,.int .i64 0,.slice none 0 0,.slice none 0 0,.int .i64 0,.int .i64 0] (0,0) _ rfl (hxq0p BK205.out) Tryz.underlying42 rfl (by kernel_rfl)) rfl ?_
    exact ⟨_,_,hHq,Kd.V_nil _ _ _ _ _,Kd.V_nil _ _ _ _ _,hCq⟩
end Go.Proofs.YtlkfelmbhldgfaaGreat.Px