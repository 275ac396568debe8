/- Part 26 of 33 of the proof of the law DagAsks: what is proved is the statement at the end of the last part; its conditions are those of the given row. -/
import Derived.Test.YtklhjlaofkngcaaZDagAsksD
namespace Go.Proofs.Ytklhjlaofkngcaa.Px
open Go.RowKit Go.Proofs.YtklhjlaofkngcaaW.PrintWords Go.Proofs.YtklhjlaofkngcaaW.PrintLast Go.Proofs.YtklhjlaofkngcaaW.PrintMore
attribute [local go_sem] zF zH zM zN zB zC zG zI
set_option linter.unusedVariables false
set_option linter.unusedSimpArgs false
def zag.l0 : Nat → Int → Int → Int → Int → Int → List (S36) → Option (ByteArray × Int × Int × (List (S72)) × List ByteArray × Int × Int × Bool)
 | 0,_,_,_,_,_,_ => none
 | k + 1,x1,x2,x8,x163000,x163001,x163002 => if x8 < (x163002.length : Int) then (if 0 ≤ x8 then (if ((zd x163002 x8).f1.f0) = x1 then (if ((zd x163002 x8).f1.f1) = x2 then (some ((zd x163002 x8).f0,(zd x163002 x8).f1.f0,(zd x163002 x8).f1.f1,(zd x163002 x8).f1.f2,(zd x163002 x8).f1.f3,(zd x163002 x8).f1.f4.f0,(zd x163002 x8).f1.f4.f1,true)) else (zag.l0 k x1 x2 (wrap64 (x8 + 1)) x163000 x163001 x163002)) else (zag.l0 k x1 x2 (wrap64 (x8 + 1)) x163000 x163001 x163002)) else (none)) else (some ((⟨#[]⟩ : ByteArray),0,0,([] : List (S72)),([] : List ByteArray),0,0,false))
def zag.f (k : Nat) (a0_0 : Int) (a0_1 : Int) (l0_2 : List (S36)) (a1 : Int) (a2 : Int) : Option (ByteArray × Int × Int × (List (S72)) × List ByteArray × Int × Int × Bool) := zag.l0 k a1 a2 0 a0_0 a0_1 l0_2
set_option maxHeartbeats 8000000 in
set_option maxRecDepth 100000 in
theorem zag.calls (k : Nat) (a0_0 : Int) (a0_1 : Int) (P0_2_ : Nat → Prop) (A0_2 : Option Addr) (c0_2 : Nat) (l0_2 : List (S36)) (a1 : Int) (a2 : Int) (r1 : ByteArray) (r2 : Int) (r3 : Int) (r4 : List (S72)) (r5 : List ByteArray) (r6 : Int) (r7 : Int) (r8 : Bool) (w : World) (hs0_2 : Kd.V k36 36 w w.heap.size (fun k_ => P0_2_ k_) (.slice A0_2 l0_2.length c0_2) l0_2) (h : zag.f k a0_0 a0_1 l0_2 a1 a2 = some (r1,r2,r3,r4,r5,r6,r7,r8)) :
  Calls Try.prog 13 #[.agg #[.int .i64 a0_0,.int .i64 a0_1,.slice A0_2 l0_2.length c0_2],.int .i64 a1,.int .i64 a2] w fun e w' => ∃ v3_ v4_ : Value,e = .returned (.tuple #[.agg #[.string r1,.int .i64 r2,.int .i64 r3,v3_,v4_,.int .i64 r6,.int .i64 r7],.bool r8]) ∧ Kd.V k72 72 w' w.heap.size (fun k_ => (P0_2_ k_ ∨ w.heap.size ≤ k_)) v3_ r4 ∧ Kd.V Kd.string 9 w' w.heap.size (fun k_ => (P0_2_ k_ ∨ w.heap.size ≤ k_)) v4_ r5 ∧ Below w.heap.size w w' := by
 have hu24 := Try.underlying24
 have hu36 := Try.underlying36
 have HO0_2 := za.mk (show Kd.V k36 36 w w.heap.size (fun k_ => (P0_2_ k_ ∨ w.heap.size ≤ k_)) (.slice A0_2 l0_2.length c0_2) l0_2 from Kd.V_mono hs0_2 (fun k_ hk => .inl hk))
 have HB := za.mk (Below.refl w.heap.size w)
 have H : (zag.l0 k a1 a2 0 a0_0 a0_1 l0_2) = some (r1,r2,r3,r4,r5,r6,r7,r8) := h
 clear h
 have H' := za.mk H
 clear H
 go_enter Try.func13,Try.ntmps13
 go_wp2_with (first | ((with_reducible refine zu (N := 3) rfl ?_);refine zp ?hg (N := 3) ?hd (cs := #[.int .i64 a0_0,.int .i64 a0_1,.slice A0_2 l0_2.length c0_2]) (t := 24) ?hr ?_;(case hd => rfl);(case hg => rfl);(case hr => first | (go_simp;done) | (go_simp;rfl));intro gb162 hg w4 hbox hb;have n_ := haq (Kd.V_below (Kd.V_elderB (by (with_reducible repeat (first | apply Kd.V_alloc | apply Kd.V_drewN | apply Kd.V_drew));exact HO0_2.out) gb162 (Nat.le_of_eq hg.symm)) hb) <| haq (ze hBq hb) <| haq (hbox) <| haq ((by rw [hg];exact (zg hBq) : w.heap.size ≤ gb162)) <| haq ((by rw [hg];exact (zg hBq) : w.heap.size ≤ gb162)) <| trivial;clear HO0_2 HB;obtain ⟨HO0_2,HB,BK162,GW162,GE162,_⟩ := n_;clear hb hbox hg) | ((with_reducible refine zu (N := 6) rfl ?_);refine zp ?hg (N := 6) ?hd (cs := #[.string (⟨#[]⟩ : ByteArray),.int .i64 0,.int .i64 0,.slice none 0 0,.slice none 0 0,.int .i64 0,.int .i64 0]) (t := 36) ?hr ?_;(case hd => rfl);(case hg => rfl);(case hr => first | (go_simp;done) | (go_simp;rfl));intro gb163 hg w5 hbox hb;have n_ := haq (Kd.V_below (Kd.V_elderB (by (with_reducible repeat (first | apply Kd.V_alloc | apply Kd.V_drewN | apply Kd.V_drew));exact HO0_2.out) gb163 (Nat.le_of_eq hg.symm)) hb) <| haq (hbq BK162.out hb) <| haq (ze hCq hb) <| haq (hbox) <| haq ((by rw [hg];exact (zg hCq) : w.heap.size ≤ gb163)) <| haq ((by rw [hg];exact (zg hCq) : w.heap.size ≤ gb163)) <| haq (hnq hg BK162.out) <| haq (hmq hg BK162.out) <| trivial;clear HO0_2 BK162 HB;obtain ⟨HO0_2,BK162,HB,BK163,GW163,GE163,NB162_163,NB163_162,_⟩ := n_;clear hb hbox hg))
 go_loopg [8] k (fun kq v8 w' => ∃ (x8_1 : Int) (x164000_1 : ByteArray) (x164001_1 : Int) (x164002_1 : Int) (x164005_1 : Int) (x164006_1 : Int),v8 = .int .i64 x8_1 ∧ za (zag.l0 kq a1 a2 x8_1 a0_0 a0_1 l0_2 = some (r1,r2,r3,r4,r5,r6,r7,r8)) ∧ za (kq ≤ k) ∧ za (Kd.V k36 36 w' w.heap.size (fun k_ => (P0_2_ k_ ∨ w.heap.size ≤ k_) ∧ k_ ≠ gb162 ∧ k_ ≠ gb163) (.slice A0_2 l0_2.length c0_2) l0_2) ∧ za (w'.heap[gb162]? = some (.cells #[.int .i64 a0_0,.int .i64 a0_1,(.slice A0_2 l0_2.length c0_2)] 24 (0,0))) ∧ za (w'.heap[gb163]? = some (.cells #[.string x164000_1,.int .i64 x164001_1,.int .i64 x164002_1,(.slice none 0 0),(.slice none 0 0),.int .i64 x164005_1,.int .i64 x164006_1] 36 (0,0))) ∧ za (Below w.heap.size w w'))
 case atStart => exact ⟨(0),((⟨#[]⟩ : ByteArray)),(0),(0),(0),(0),(hDq),H',⟨Nat.le_refl _⟩,⟨by (with_reducible repeat (first | apply Kd.V_alloc | apply Kd.V_drewN | apply Kd.V_drew));exact Kd.V_mono HO0_2.out (fun _ hk => ⟨hk.1.1,⟨hk.1.2,hk.2⟩⟩)⟩,⟨hGq BK162.out⟩,⟨hGq BK163.out⟩,⟨by repeat (first | (with_reducible first | exact HB.out | apply zl | apply zi | apply zq | refine zo ?_ GE162.out | refine zo ?_ GE163.out) | exact HB.out)⟩⟩
 case round =>
  clear H'
  try clear c1;try clear p2
  obtain ⟨x8_1,x164000_1,x164001_1,x164002_1,x164005_1,x164006_1,rfl,HA,HK1,HO_163002,BK162,BK163,HB⟩ := hrel
  cases gk with
  | zero => exact absurd HA.out (by simp [zag.l0])
  | succ k1 =>
   have H := HA.out
   clear HA
   simp only [zag.l0] at H
   by_cases c6 : x8_1 < (l0_2.length : Int)
   ·rw [if_pos c6] at H
    have c6b0 : decide (x8_1 < (l0_2.length : Int)) = true := decide_eq_true c6
    clear c6
    by_cases c7 : 0 ≤ x8_1
    ·rw [if_pos c7] at H
     have c7b0 : decide (0 ≤ x8_1) = true := decide_eq_true c7
     clear c7
     by_cases c8 : ((zd l0_2 x8_1).f1.f0) = a1
     ·rw [if_pos c8] at H
      have c8b0 : (((zd l0_2 x8_1).f1.f0) == a1) = true := beq_iff_eq.mpr c8
      have c8b1 : (((zd l0_2 x8_1).f1.f0) != a1) = false := bne_eq_false_iff_eq.mpr c8
      clear c8
      by_cases c9 : ((zd l0_2 x8_1).f1.f1) = a2
      ·rw [if_pos c9] at H
       have c9b0 : (((zd l0_2 x8_1).f1.f1) == a2) = true := beq_iff_eq.mpr c9
       have c9b1 : (((zd l0_2 x8_1).f1.f1) != a2) = false := bne_eq_false_iff_eq.mpr c9
       clear c9
       simp only [Option.some.injEq,Prod.mk.injEq] at H
       obtain ⟨rfl,rfl,rfl,rfl,rfl,rfl,rfl,rfl⟩ := H
       have hnb10 := NB162_163.out
       have hnc10 := NB163_162.out
       obtain ⟨hcz11_0,hcz11_1,hcz11_2,hfz11_0,hfz11_1,hfz11_2⟩ := hcq3 BK162.out
       have p164 : 0 ≤ (x8_1 : Int) := hFq
       have q164 : x8_1 < (l0_2.length : Int) := hFq
       obtain ⟨ad164,A164_3,c164_3,A164_4,c164_4,e164,hx164_0,hx164_1,hx164_2,hx164_3,hx164_4,hx164_5,hx164_6,hl164_3,hi164_3,hl164_4,hi164_4⟩ := zaH (Kd.V_reads' HO_163002.out).2.2 x8_1 p164 q164
       cases e164
       obtain ⟨ce164,hce164,hMe164,hcc164⟩ := Kd.V_get HO_163002.out z36 x8_1 p164 (by first | exact q164 | exact hFq | (have e_ := (Kd.V_reads' HO_163002.out).1;omega))
       obtain ⟨ua164_3,uc164_3,ua164_4,uc164_4,rfl,ul164_3,ge164_3,ul164_4,ge164_4⟩ := zaW hMe164
       have hv164_3 := hcc164 3 _ rfl
       rw [zW _ _ 3 (by omega)] at hv164_3
       replace hv164_3 := Option.some.inj (hv164_3.symm.trans hx164_3)
       injection hv164_3 with hva_ hvn_ hvc_
       rw [hva_] at ge164_3
       rw [hvc_] at ul164_3
       have HL164_3 := za.mk (show Kd.V k72 72 _ w.heap.size _ _ ((zd l0_2 x8_1).f1.f2) from Kd.V_mk ul164_3 ge164_3)
       clear hva_ hvn_ hvc_ ge164_3 ul164_3
       have hv164_4 := hcc164 4 _ rfl
       rw [zW _ _ 4 (by omega)] at hv164_4
       replace hv164_4 := Option.some.inj (hv164_4.symm.trans hx164_4)
       injection hv164_4 with hva_ hvn_ hvc_
       rw [hva_] at ge164_4
       rw [hvc_] at ul164_4
       have HL164_4 := za.mk (show Kd.V Kd.string 9 _ w.heap.size _ _ ((zd l0_2 x8_1).f1.f3) from Kd.V_mk ul164_4 ge164_4)
       clear hva_ hvn_ hvc_ ge164_4 ul164_4
       clear hcc164 hce164
       have HR164_3 := za.mk hi164_3
       have HC164_3 := za.mk hl164_3
       clear hi164_3 hl164_3
       have HR164_4 := za.mk hi164_4
       have HC164_4 := za.mk hl164_4
       clear hi164_4 hl164_4
       replace p164 := eq_true p164
       replace q164 := eq_true q164
       have p165 : 0 ≤ (x8_1 : Int) := hFq
       have q165 : x8_1 < (l0_2.length : Int) := hFq
       obtain ⟨ad165,A165_3,c165_3,A165_4,c165_4,e165,hx165_0,hx165_1,hx165_2,hx165_3,hx165_4,hx165_5,hx165_6,hl165_3,hi165_3,hl165_4,hi165_4⟩ := zaH (Kd.V_reads' HO_163002.out).2.2 x8_1 p165 q165
       obtain rfl : ad164 = ad165 := (by injection e165)
       obtain ⟨ce165,hce165,hMe165,hcc165⟩ := Kd.V_get HO_163002.out z36 x8_1 p165 (by first | exact q165 | exact hFq | (have e_ := (Kd.V_reads' HO_163002.out).1;omega))
       obtain ⟨ua165_3,uc165_3,ua165_4,uc165_4,rfl,ul165_3,ge165_3,ul165_4,ge165_4⟩ := zaW hMe165
       have hv165_3 := hcc165 3 _ rfl
       rw [zW _ _ 3 (by omega)] at hv165_3
       replace hv165_3 := Option.some.inj (hv165_3.symm.trans hx165_3)
       injection hv165_3 with hva_ hvn_ hvc_
       rw [hva_] at ge165_3
       rw [hvc_] at ul165_3
       have HL165_3 := za.mk (show Kd.V k72 72 _ w.heap.size _ _ ((zd l0_2 x8_1).f1.f2) from Kd.V_mk ul165_3 ge165_3)
       clear hva_ hvn_ hvc_ ge165_3 ul165_3
       have hv165_4 := hcc165 4 _ rfl
       rw [zW _ _ 4 (by omega)] at hv165_4
       replace hv165_4 := Option.some.inj (hv165_4.symm.trans hx165_4)
       injection hv165_4 with hva_ hvn_ hvc_
       rw [hva_] at ge165_4
       rw [hvc_] at ul165_4
       have HL165_4 := za.mk (show Kd.V Kd.string 9 _ w.heap.size _ _ ((zd l0_2 x8_1).f1.f3) from Kd.V_mk ul165_4 ge165_4)
       clear hva_ hvn_ hvc_ ge165_4 ul165_4
       clear hcc165 hce165
       have HR165_3 := za.mk hi165_3
       have HC165_3 := za.mk hl165_3
       clear hi165_3 hl165_3
       have HR165_4 := za.mk hi165_4
       have HC165_4 := za.mk hl165_4
       clear hi165_4 hl165_4
       replace p165 := eq_true p165
       replace q165 := eq_true q165
       have ea_ := Option.some.inj (hx164_3.symm.trans hx165_3)
       injection ea_ with ea_ en_ ec_
       subst ea_
       subst ec_
       clear en_
       have ea_ := Option.some.inj (hx164_4.symm.trans hx165_4)
       injection ea_ with ea_ en_ ec_
       subst ea_
       subst ec_
       clear en_
       have p166 : 0 ≤ (x8_1 : Int) := hFq
       have q166 : x8_1 < (l0_2.length : Int) := hFq
       obtain ⟨ad166,A166_3,c166_3,A166_4,c166_4,e166,hx166_0,hx166_1,hx166_2,hx166_3,hx166_4,hx166_5,hx166_6,hl166_3,hi166_3,hl166_4,hi166_4⟩ := zaH (Kd.V_reads' HO_163002.out).2.2 x8_1 p166 q166
       obtain rfl : ad164 = ad166 := (by injection e166)
       obtain ⟨ce166,hce166,hMe166,hcc166⟩ := Kd.V_get HO_163002.out z36 x8_1 p166 (by first | exact q166 | exact hFq | (have e_ := (Kd.V_reads' HO_163002.out).1;omega))
       obtain ⟨ua166_3,uc166_3,ua166_4,uc166_4,rfl,ul166_3,ge166_3,ul166_4,ge166_4⟩ := zaW hMe166
       have hv166_3 := hcc166 3 _ rfl
       rw [zW _ _ 3 (by omega)] at hv166_3
       replace hv166_3 := Option.some.inj (hv166_3.symm.trans hx166_3)
       injection hv166_3 with hva_ hvn_ hvc_
       rw [hva_] at ge166_3
       rw [hvc_] at ul166_3
       have HL166_3 := za.mk (show Kd.V k72 72 _ w.heap.size _ _ ((zd l0_2 x8_1).f1.f2) from Kd.V_mk ul166_3 ge166_3)
       clear hva_ hvn_ hvc_ ge166_3 ul166_3
       have hv166_4 := hcc166 4 _ rfl
       rw [zW _ _ 4 (by omega)] at hv166_4
       replace hv166_4 := Option.some.inj (hv166_4.symm.trans hx166_4)
       injection hv166_4 with hva_ hvn_ hvc_
       rw [hva_] at ge166_4
       rw [hvc_] at ul166_4
       have HL166_4 := za.mk (show Kd.V Kd.string 9 _ w.heap.size _ _ ((zd l0_2 x8_1).f1.f3) from Kd.V_mk ul166_4 ge166_4)
       clear hva_ hvn_ hvc_ ge166_4 ul166_4
       clear hcc166 hce166
       have HR166_3 := za.mk hi166_3
       have HC166_3 := za.mk hl166_3
       clear hi166_3 hl166_3
       have HR166_4 := za.mk hi166_4
       have HC166_4 := za.mk hl166_4
       clear hi166_4 hl166_4
       replace p166 := eq_true p166
       replace q166 := eq_true q166
       have ea_ := Option.some.inj (hx164_3.symm.trans hx166_3)
       injection ea_ with ea_ en_ ec_
       subst ea_
       subst ec_
       clear en_
       have ea_ := Option.some.inj (hx164_4.symm.trans hx166_4)
       injection ea_ with ea_ en_ ec_
       subst ea_
       subst ec_
       clear en_
       obtain ⟨hcz12_0,hcz12_1,hcz12_2,hcz12_3,hcz12_4,hcz12_5,hcz12_6,hfz12_0,hfz12_1,hfz12_2,hfz12_3,hfz12_4,hfz12_5,hfz12_6⟩ := hcq7 BK163.out
       go_wp2
       refine bodyPost_ret (zaP rfl _ _ gb163 36 #[.string ((zd l0_2 x8_1).f0),.int .i64 ((zd l0_2 x8_1).f1.f0),.int .i64 ((zd l0_2 x8_1).f1.f1),.slice A164_3 ((zd l0_2 x8_1).f1.f2).length c164_3,.slice A164_4 ((zd l0_2 x8_1).f1.f3).length c164_4,.int .i64 ((zd l0_2 x8_1).f1.f4.f0),.int .i64 ((zd l0_2 x8_1).f1.f4.f1)] (0,0) _ rfl (hxq0p BK163.out) Try.underlying36 rfl (by kernel_rfl)) rfl ?_
       exact ⟨_,_,hHq,by (with_reducible repeat (first | apply Kd.V_alloc | apply Kd.V_drewN | apply Kd.V_drew));exact Kd.V_mono (Kd.V_far (p := ⟨gb163,6,none⟩) (Kd.V_far (p := ⟨gb163,5,none⟩) (Kd.V_far (p := ⟨gb163,4,none⟩) (Kd.V_far (p := ⟨gb163,3,none⟩) (Kd.V_far (p := ⟨gb163,2,none⟩) (Kd.V_far (p := ⟨gb163,1,none⟩) (Kd.V_far (p := ⟨gb163,0,none⟩) (Kd.V_mono HL166_3.out (fun k_ hk => (⟨hk,hk.2.2⟩ : _ ∧ k_ ≠ gb163))) (fun _ hk => hk.2) (.string ((zd l0_2 x8_1).f0))) (fun _ hk => hk.2) (.int .i64 ((zd l0_2 x8_1).f1.f0))) (fun _ hk => hk.2) (.int .i64 ((zd l0_2 x8_1).f1.f1))) (fun _ hk => hk.2) (.slice A164_3 ((zd l0_2 x8_1).f1.f2).length c164_3)) (fun _ hk => hk.2) (.slice A164_4 ((zd l0_2 x8_1).f1.f3).length c164_4)) (fun _ hk => hk.2) (.int .i64 ((zd l0_2 x8_1).f1.f4.f0))) (fun _ hk => hk.2) (.int .i64 ((zd l0_2 x8_1).f1.f4.f1))) (fun _ hk => hk.1.1),by (with_reducible repeat (first | apply Kd.V_alloc | apply Kd.V_drewN | apply Kd.V_drew));exact Kd.V_mono (Kd.V_far (p := ⟨gb163,6,none⟩) (Kd.V_far (p := ⟨gb163,5,none⟩) (Kd.V_far (p := ⟨gb163,4,none⟩) (Kd.V_far (p := ⟨gb163,3,none⟩) (Kd.V_far (p := ⟨gb163,2,none⟩) (Kd.V_far (p := ⟨gb163,1,none⟩) (Kd.V_far (p := ⟨gb163,0,none⟩) (Kd.V_mono HL166_4.out (fun k_ hk => (⟨hk,hk.2.2⟩ : _ ∧ k_ ≠ gb163))) (fun _ hk => hk.2) (.string ((zd l0_2 x8_1).f0))) (fun _ hk => hk.2) (.int .i64 ((zd l0_2 x8_1).f1.f0))) (fun _ hk => hk.2) (.int .i64 ((zd l0_2 x8_1).f1.f1))) (fun _ hk => hk.2) (.slice A164_3 ((zd l0_2 x8_1).f1.f2).length c164_3)) (fun _ hk => hk.2) (.slice A164_4 ((zd l0_2 x8_1).f1.f3).length c164_4)) (fun _ hk => hk.2) (.int .i64 ((zd l0_2 x8_1).f1.f4.f0))) (fun _ hk => hk.2) (.int .i64 ((zd l0_2 x8_1).f1.f4.f1))) (fun _ hk => hk.1.1),hCq⟩
      ·rw [if_neg c9] at H
       have c9b0 : (((zd l0_2 x8_1).f1.f1) == a2) = false := beq_eq_false_iff_ne.mpr c9
       have c9b1 : (((zd l0_2 x8_1).f1.f1) != a2) = true := bne_iff_ne.mpr c9
       have H' := za.mk H
       clear H
       have hnb13 := NB162_163.out
       have hnc13 := NB163_162.out
       obtain ⟨hcz14_0,hcz14_1,hcz14_2,hfz14_0,hfz14_1,hfz14_2⟩ := hcq3 BK162.out
       have p164 : 0 ≤ (x8_1 : Int) := hFq
       have q164 : x8_1 < (l0_2.length : Int) := hFq
       obtain ⟨ad164,A164_3,c164_3,A164_4,c164_4,e164,hx164_0,hx164_1,hx164_2,hx164_3,hx164_4,hx164_5,hx164_6,hl164_3,hi164_3,hl164_4,hi164_4⟩ := zaH (Kd.V_reads' HO_163002.out).2.2 x8_1 p164 q164
       cases e164
       obtain ⟨ce164,hce164,hMe164,hcc164⟩ := Kd.V_get HO_163002.out z36 x8_1 p164 (by first | exact q164 | exact hFq | (have e_ := (Kd.V_reads' HO_163002.out).1;omega))
       obtain ⟨ua164_3,uc164_3,ua164_4,uc164_4,rfl,ul164_3,ge164_3,ul164_4,ge164_4⟩ := zaW hMe164
       have hv164_3 := hcc164 3 _ rfl
       rw [zW _ _ 3 (by omega)] at hv164_3
       replace hv164_3 := Option.some.inj (hv164_3.symm.trans hx164_3)
       injection hv164_3 with hva_ hvn_ hvc_
       rw [hva_] at ge164_3
       rw [hvc_] at ul164_3
       have HL164_3 := za.mk (show Kd.V k72 72 _ w.heap.size _ _ ((zd l0_2 x8_1).f1.f2) from Kd.V_mk ul164_3 ge164_3)
       clear hva_ hvn_ hvc_ ge164_3 ul164_3
       have hv164_4 := hcc164 4 _ rfl
       rw [zW _ _ 4 (by omega)] at hv164_4
       replace hv164_4 := Option.some.inj (hv164_4.symm.trans hx164_4)
       injection hv164_4 with hva_ hvn_ hvc_
       rw [hva_] at ge164_4
       rw [hvc_] at ul164_4
       have HL164_4 := za.mk (show Kd.V Kd.string 9 _ w.heap.size _ _ ((zd l0_2 x8_1).f1.f3) from Kd.V_mk ul164_4 ge164_4)
       clear hva_ hvn_ hvc_ ge164_4 ul164_4
       clear hcc164 hce164
       have HR164_3 := za.mk hi164_3
       have HC164_3 := za.mk hl164_3
       clear hi164_3 hl164_3
       have HR164_4 := za.mk hi164_4
       have HC164_4 := za.mk hl164_4
       clear hi164_4 hl164_4
       replace p164 := eq_true p164
       replace q164 := eq_true q164
       have p165 : 0 ≤ (x8_1 : Int) := hFq
       have q165 : x8_1 < (l0_2.length : Int) := hFq
       obtain ⟨ad165,A165_3,c165_3,A165_4,c165_4,e165,hx165_0,hx165_1,hx165_2,hx165_3,hx165_4,hx165_5,hx165_6,hl165_3,hi165_3,hl165_4,hi165_4⟩ := zaH (Kd.V_reads' HO_163002.out).2.2 x8_1 p165 q165
       obtain rfl : ad164 = ad165 := (by injection e165)
       obtain ⟨ce165,hce165,hMe165,hcc165⟩ := Kd.V_get HO_163002.out z36 x8_1 p165 (by first | exact q165 | exact hFq | (have e_ := (Kd.V_reads' HO_163002.out).1;omega))
       obtain ⟨ua165_3,uc165_3,ua165_4,uc165_4,rfl,ul165_3,ge165_3,ul165_4,ge165_4⟩ := zaW hMe165
       have hv165_3 := hcc165 3 _ rfl
       rw [zW _ _ 3 (by omega)] at hv165_3
       replace hv165_3 := Option.some.inj (hv165_3.symm.trans hx165_3)
       injection hv165_3 with hva_ hvn_ hvc_
       rw [hva_] at ge165_3
       rw [hvc_] at ul165_3
       have HL165_3 := za.mk (show Kd.V k72 72 _ w.heap.size _ _ ((zd l0_2 x8_1).f1.f2) from Kd.V_mk ul165_3 ge165_3)
       clear hva_ hvn_ hvc_ ge165_3 ul165_3
       have hv165_4 := hcc165 4 _ rfl
       rw [zW _ _ 4 (by omega)] at hv165_4
       replace hv165_4 := Option.some.inj (hv165_4.symm.trans hx165_4)
       injection hv165_4 with hva_ hvn_ hvc_
       rw [hva_] at ge165_4
       rw [hvc_] at ul165_4
       have HL165_4 := za.mk (show Kd.V Kd.string 9 _ w.heap.size _ _ ((zd l0_2 x8_1).f1.f3) from Kd.V_mk ul165_4 ge165_4)
       clear hva_ hvn_ hvc_ ge165_4 ul165_4
       clear hcc165 hce165
       have HR165_3 := za.mk hi165_3
       have HC165_3 := za.mk hl165_3
       clear hi165_3 hl165_3
       have HR165_4 := za.mk hi165_4
       have HC165_4 := za.mk hl165_4
       clear hi165_4 hl165_4
       replace p165 := eq_true p165
       replace q165 := eq_true q165
       have ea_ := Option.some.inj (hx164_3.symm.trans hx165_3)
       injection ea_ with ea_ en_ ec_
       subst ea_
       subst ec_
       clear en_
       have ea_ := Option.some.inj (hx164_4.symm.trans hx165_4)
       injection ea_ with ea_ en_ ec_
       subst ea_
       subst ec_
       clear en_
       go_wp2
       go_roundg k1
       case measure => have := HK1.out;omega
       case rel => exact ⟨(wrap64 (x8_1 + 1)),(x164000_1),(x164001_1),(x164002_1),(x164005_1),(x164006_1),(hDq),H',⟨by have := HK1.out;omega⟩,⟨by (with_reducible repeat (first | apply Kd.V_alloc | apply Kd.V_drewN | apply Kd.V_drew));exact HO_163002.out⟩,⟨hGq BK162.out⟩,⟨hGq BK163.out⟩,⟨by repeat (first | (with_reducible first | exact HB.out | apply zl | apply zi | apply zq | refine zo ?_ GE162.out | refine zo ?_ GE163.out) | exact HB.out)⟩⟩
     ·rw [if_neg c8] at H
      have c8b0 : (((zd l0_2 x8_1).f1.f0) == a1) = false := beq_eq_false_iff_ne.mpr c8
      have c8b1 : (((zd l0_2 x8_1).f1.f0) != a1) = true := bne_iff_ne.mpr c8
      have H' := za.mk H
      clear H
      have hnb15 := NB162_163.out
      have hnc15 := NB163_162.out
      obtain ⟨hcz16_0,hcz16_1,hcz16_2,hfz16_0,hfz16_1,hfz16_2⟩ := hcq3 BK162.out
      have p164 : 0 ≤ (x8_1 : Int) := hFq
      have q164 : x8_1 < (l0_2.length : Int) := hFq
      obtain ⟨ad164,A164_3,c164_3,A164_4,c164_4,e164,hx164_0,hx164_1,hx164_2,hx164_3,hx164_4,hx164_5,hx164_6,hl164_3,hi164_3,hl164_4,hi164_4⟩ := zaH (Kd.V_reads' HO_163002.out).2.2 x8_1 p164 q164
      cases e164
      obtain ⟨ce164,hce164,hMe164,hcc164⟩ := Kd.V_get HO_163002.out z36 x8_1 p164 (by first | exact q164 | exact hFq | (have e_ := (Kd.V_reads' HO_163002.out).1;omega))
      obtain ⟨ua164_3,uc164_3,ua164_4,uc164_4,rfl,ul164_3,ge164_3,ul164_4,ge164_4⟩ := zaW hMe164
      have hv164_3 := hcc164 3 _ rfl
      rw [zW _ _ 3 (by omega)] at hv164_3
      replace hv164_3 := Option.some.inj (hv164_3.symm.trans hx164_3)
      injection hv164_3 with hva_ hvn_ hvc_
      rw [hva_] at ge164_3
      rw [hvc_] at ul164_3
      have HL164_3 := za.mk (show Kd.V k72 72 _ w.heap.size _ _ ((zd l0_2 x8_1).f1.f2) from Kd.V_mk ul164_3 ge164_3)
      clear hva_ hvn_ hvc_ ge164_3 ul164_3
      have hv164_4 := hcc164 4 _ rfl
      rw [zW _ _ 4 (by omega)] at hv164_4
      replace hv164_4 := Option.some.inj (hv164_4.symm.trans hx164_4)
      injection hv164_4 with hva_ hvn_ hvc_
      rw [hva_] at ge164_4
      rw [hvc_] at ul164_4
      have HL164_4 := za.mk (show Kd.V Kd.string 9 _ w.heap.size _ _ ((zd l0_2 x8_1).f1.f3) from Kd.V_mk ul164_4 ge164_4)
      clear hva_ hvn_ hvc_ ge164_4 ul164_4
      clear hcc164 hce164
      have HR164_3 := za.mk hi164_3
      have HC164_3 := za.mk hl164_3
      clear hi164_3 hl164_3
      have HR164_4 := za.mk hi164_4
      have HC164_4 := za.mk hl164_4
      clear hi164_4 hl164_4
      replace p164 := eq_true p164
      replace q164 := eq_true q164
      go_wp2
      go_roundg k1
      case measure => have := HK1.out;omega
      case rel => exact ⟨(wrap64 (x8_1 + 1)),(x164000_1),(x164001_1),(x164002_1),(x164005_1),(x164006_1),(hDq),H',⟨by have := HK1.out;omega⟩,⟨by (with_reducible repeat (first | apply Kd.V_alloc | apply Kd.V_drewN | apply Kd.V_drew));exact HO_163002.out⟩,⟨hGq BK162.out⟩,⟨hGq BK163.out⟩,⟨by repeat (first | (with_reducible first | exact HB.out | apply zl | apply zi | apply zq | refine zo ?_ GE162.out | refine zo ?_ GE163.out) | exact HB.out)⟩⟩
    ·rw [if_neg c7] at H
     exact absurd H (by simp)
   ·rw [if_neg c6] at H
    have c6b0 : decide (x8_1 < (l0_2.length : Int)) = false := decide_eq_false c6
    clear c6
    simp only [Option.some.injEq,Prod.mk.injEq] at H
    obtain ⟨rfl,rfl,rfl,rfl,rfl,rfl,rfl,rfl⟩ := H
    have hnb17 := NB162_163.out
    have hnc17 := NB163_162.out
    obtain ⟨hcz18_0,hcz18_1,hcz18_2,hfz18_0,hfz18_1,hfz18_2⟩ := hcq3 BK162.out
    obtain ⟨hcz19_0,hcz19_1,hcz19_2,hcz19_3,hcz19_4,hcz19_5,hcz19_6,hfz19_0,hfz19_1,hfz19_2,hfz19_3,hfz19_4,hfz19_5,hfz19_6⟩ := hcq7 BK163.out
    go_wp2
    refine bodyPost_ret (zaP rfl _ _ gb163 36 #[.string (⟨#[]⟩ : ByteArray),.int .i64 0,.int .i64 0,.slice none 0 0,.slice none 0 0,.int .i64 0,.int .i64 0] (0,0) _ rfl (hxq0p BK163.out) Try.underlying36 rfl (by kernel_rfl)) rfl ?_
    exact ⟨_,_,hHq,Kd.V_nil _ _ _ _ _,Kd.V_nil _ _ _ _ _,hCq⟩
end Go.Proofs.Ytklhjlaofkngcaa.Px