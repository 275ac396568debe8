/- Part 28 of 33 of the proof of the law DagAsks: what is proved is the statement at the end of the last part; its conditions are those of the given row. -/
import Derived.Test.YtklhjlaofkngcaaZDagAsksD
namespace Go.Proofs.Ytklhjlaofkngcaa.Px
open Go.RowKit Go.Proofs.YtklhjlaofkngcaaW.PrintWords Go.Proofs.YtklhjlaofkngcaaW.PrintLast Go.Proofs.YtklhjlaofkngcaaW.PrintMore
attribute [local go_sem] zF zH zM zN zB zC zG zI
set_option linter.unusedVariables false
set_option linter.unusedSimpArgs false
def zaa.l0 : Nat → ByteArray → Int → Int → Int → List (S36) → Option (ByteArray × Int × Int × (List (S72)) × List ByteArray × Int × Int × Bool)
 | 0,_,_,_,_,_ => none
 | k + 1,x1,x6,x159000,x159001,x159002 => if x6 < (x159002.length : Int) then (if 0 ≤ x6 then (if ((zd x159002 x6).f0).toList = x1.toList then (some ((zd x159002 x6).f0,(zd x159002 x6).f1.f0,(zd x159002 x6).f1.f1,(zd x159002 x6).f1.f2,(zd x159002 x6).f1.f3,(zd x159002 x6).f1.f4.f0,(zd x159002 x6).f1.f4.f1,true)) else (zaa.l0 k x1 (wrap64 (x6 + 1)) x159000 x159001 x159002)) else (none)) else (some ((⟨#[]⟩ : ByteArray),0,0,([] : List (S72)),([] : List ByteArray),0,0,false))
def zaa.f (k : Nat) (a0_0 : Int) (a0_1 : Int) (l0_2 : List (S36)) (a1 : ByteArray) : Option (ByteArray × Int × Int × (List (S72)) × List ByteArray × Int × Int × Bool) := zaa.l0 k a1 0 a0_0 a0_1 l0_2
set_option maxHeartbeats 8000000 in
set_option maxRecDepth 100000 in
theorem zaa.calls (k : Nat) (a0_0 : Int) (a0_1 : Int) (P0_2_ : Nat → Prop) (A0_2 : Option Addr) (c0_2 : Nat) (l0_2 : List (S36)) (a1 : ByteArray) (r1 : ByteArray) (r2 : Int) (r3 : Int) (r4 : List (S72)) (r5 : List ByteArray) (r6 : Int) (r7 : Int) (r8 : Bool) (w : World) (hs0_2 : Kd.V k36 36 w w.heap.size (fun k_ => P0_2_ k_) (.slice A0_2 l0_2.length c0_2) l0_2) (h : zaa.f k a0_0 a0_1 l0_2 a1 = some (r1,r2,r3,r4,r5,r6,r7,r8)) :
  Calls Try.prog 11 #[.agg #[.int .i64 a0_0,.int .i64 a0_1,.slice A0_2 l0_2.length c0_2],.string a1] w fun e w' => ∃ v3_ v4_ : Value,e = .returned (.tuple #[.agg #[.string r1,.int .i64 r2,.int .i64 r3,v3_,v4_,.int .i64 r6,.int .i64 r7],.bool r8]) ∧ Kd.V k72 72 w' w.heap.size (fun k_ => (P0_2_ k_ ∨ w.heap.size ≤ k_)) v3_ r4 ∧ Kd.V Kd.string 9 w' w.heap.size (fun k_ => (P0_2_ k_ ∨ w.heap.size ≤ k_)) v4_ r5 ∧ Below w.heap.size w w' := by
 have hu24 := Try.underlying24
 have hu36 := Try.underlying36
 have HO0_2 := za.mk (show Kd.V k36 36 w w.heap.size (fun k_ => (P0_2_ k_ ∨ w.heap.size ≤ k_)) (.slice A0_2 l0_2.length c0_2) l0_2 from Kd.V_mono hs0_2 (fun k_ hk => .inl hk))
 have HB := za.mk (Below.refl w.heap.size w)
 have H : (zaa.l0 k a1 0 a0_0 a0_1 l0_2) = some (r1,r2,r3,r4,r5,r6,r7,r8) := h
 clear h
 have H' := za.mk H
 clear H
 go_enter Try.func11,Try.ntmps11
 go_wp2_with (first | ((with_reducible refine zu (N := 2) rfl ?_);refine zp ?hg (N := 2) ?hd (cs := #[.int .i64 a0_0,.int .i64 a0_1,.slice A0_2 l0_2.length c0_2]) (t := 24) ?hr ?_;(case hd => rfl);(case hg => rfl);(case hr => first | (go_simp;done) | (go_simp;rfl));intro gb158 hg w3 hbox hb;have n_ := haq (Kd.V_below (Kd.V_elderB (by (with_reducible repeat (first | apply Kd.V_alloc | apply Kd.V_drewN | apply Kd.V_drew));exact HO0_2.out) gb158 (Nat.le_of_eq hg.symm)) hb) <| haq (ze hBq hb) <| haq (hbox) <| haq ((by rw [hg];exact (zg hBq) : w.heap.size ≤ gb158)) <| haq ((by rw [hg];exact (zg hBq) : w.heap.size ≤ gb158)) <| trivial;clear HO0_2 HB;obtain ⟨HO0_2,HB,BK158,GW158,GE158,_⟩ := n_;clear hb hbox hg) | ((with_reducible refine zu (N := 4) rfl ?_);refine zp ?hg (N := 4) ?hd (cs := #[.string (⟨#[]⟩ : ByteArray),.int .i64 0,.int .i64 0,.slice none 0 0,.slice none 0 0,.int .i64 0,.int .i64 0]) (t := 36) ?hr ?_;(case hd => rfl);(case hg => rfl);(case hr => first | (go_simp;done) | (go_simp;rfl));intro gb159 hg w4 hbox hb;have n_ := haq (Kd.V_below (Kd.V_elderB (by (with_reducible repeat (first | apply Kd.V_alloc | apply Kd.V_drewN | apply Kd.V_drew));exact HO0_2.out) gb159 (Nat.le_of_eq hg.symm)) hb) <| haq (hbq BK158.out hb) <| haq (ze hCq hb) <| haq (hbox) <| haq ((by rw [hg];exact (zg hCq) : w.heap.size ≤ gb159)) <| haq ((by rw [hg];exact (zg hCq) : w.heap.size ≤ gb159)) <| haq (hnq hg BK158.out) <| haq (hmq hg BK158.out) <| trivial;clear HO0_2 BK158 HB;obtain ⟨HO0_2,BK158,HB,BK159,GW159,GE159,NB158_159,NB159_158,_⟩ := n_;clear hb hbox hg))
 go_loopg [6] k (fun kq v6 w' => ∃ (x6_1 : Int) (x160000_1 : ByteArray) (x160001_1 : Int) (x160002_1 : Int) (x160005_1 : Int) (x160006_1 : Int),v6 = .int .i64 x6_1 ∧ za (zaa.l0 kq a1 x6_1 a0_0 a0_1 l0_2 = some (r1,r2,r3,r4,r5,r6,r7,r8)) ∧ za (kq ≤ k) ∧ za (Kd.V k36 36 w' w.heap.size (fun k_ => (P0_2_ k_ ∨ w.heap.size ≤ k_) ∧ k_ ≠ gb158 ∧ k_ ≠ gb159) (.slice A0_2 l0_2.length c0_2) l0_2) ∧ za (w'.heap[gb158]? = some (.cells #[.int .i64 a0_0,.int .i64 a0_1,(.slice A0_2 l0_2.length c0_2)] 24 (0,0))) ∧ za (w'.heap[gb159]? = some (.cells #[.string x160000_1,.int .i64 x160001_1,.int .i64 x160002_1,(.slice none 0 0),(.slice none 0 0),.int .i64 x160005_1,.int .i64 x160006_1] 36 (0,0))) ∧ za (Below w.heap.size w w'))
 case atStart => exact ⟨(0),((⟨#[]⟩ : ByteArray)),(0),(0),(0),(0),(hDq),H',⟨Nat.le_refl _⟩,⟨by (with_reducible repeat (first | apply Kd.V_alloc | apply Kd.V_drewN | apply Kd.V_drew));exact Kd.V_mono HO0_2.out (fun _ hk => ⟨hk.1.1,⟨hk.1.2,hk.2⟩⟩)⟩,⟨hGq BK158.out⟩,⟨hGq BK159.out⟩,⟨by repeat (first | (with_reducible first | exact HB.out | apply zl | apply zi | apply zq | refine zo ?_ GE158.out | refine zo ?_ GE159.out) | exact HB.out)⟩⟩
 case round =>
  clear H'
  try clear c1;try clear p2
  obtain ⟨x6_1,x160000_1,x160001_1,x160002_1,x160005_1,x160006_1,rfl,HA,HK1,HO_159002,BK158,BK159,HB⟩ := hrel
  cases gk with
  | zero => exact absurd HA.out (by simp [zaa.l0])
  | succ k1 =>
   have H := HA.out
   clear HA
   simp only [zaa.l0] at H
   by_cases c5 : x6_1 < (l0_2.length : Int)
   ·rw [if_pos c5] at H
    have c5b0 : decide (x6_1 < (l0_2.length : Int)) = true := decide_eq_true c5
    clear c5
    by_cases c6 : 0 ≤ x6_1
    ·rw [if_pos c6] at H
     have c6b0 : decide (0 ≤ x6_1) = true := decide_eq_true c6
     clear c6
     by_cases c7 : ((zd l0_2 x6_1).f0).toList = a1.toList
     ·rw [if_pos c7] at H
      have c7b0 : (((zd l0_2 x6_1).f0).toList == a1.toList) = true := beq_iff_eq.mpr c7
      have c7b1 : (((zd l0_2 x6_1).f0).toList != a1.toList) = false := bne_eq_false_iff_eq.mpr c7
      clear c7
      simp only [Option.some.injEq,Prod.mk.injEq] at H
      obtain ⟨rfl,rfl,rfl,rfl,rfl,rfl,rfl,rfl⟩ := H
      have hnb8 := NB158_159.out
      have hnc8 := NB159_158.out
      obtain ⟨hcz9_0,hcz9_1,hcz9_2,hfz9_0,hfz9_1,hfz9_2⟩ := hcq3 BK158.out
      have p160 : 0 ≤ (x6_1 : Int) := hFq
      have q160 : x6_1 < (l0_2.length : Int) := hFq
      obtain ⟨ad160,A160_3,c160_3,A160_4,c160_4,e160,hx160_0,hx160_1,hx160_2,hx160_3,hx160_4,hx160_5,hx160_6,hl160_3,hi160_3,hl160_4,hi160_4⟩ := zaH (Kd.V_reads' HO_159002.out).2.2 x6_1 p160 q160
      cases e160
      obtain ⟨ce160,hce160,hMe160,hcc160⟩ := Kd.V_get HO_159002.out z36 x6_1 p160 (by first | exact q160 | exact hFq | (have e_ := (Kd.V_reads' HO_159002.out).1;omega))
      obtain ⟨ua160_3,uc160_3,ua160_4,uc160_4,rfl,ul160_3,ge160_3,ul160_4,ge160_4⟩ := zaW hMe160
      have hv160_3 := hcc160 3 _ rfl
      rw [zW _ _ 3 (by omega)] at hv160_3
      replace hv160_3 := Option.some.inj (hv160_3.symm.trans hx160_3)
      injection hv160_3 with hva_ hvn_ hvc_
      rw [hva_] at ge160_3
      rw [hvc_] at ul160_3
      have HL160_3 := za.mk (show Kd.V k72 72 _ w.heap.size _ _ ((zd l0_2 x6_1).f1.f2) from Kd.V_mk ul160_3 ge160_3)
      clear hva_ hvn_ hvc_ ge160_3 ul160_3
      have hv160_4 := hcc160 4 _ rfl
      rw [zW _ _ 4 (by omega)] at hv160_4
      replace hv160_4 := Option.some.inj (hv160_4.symm.trans hx160_4)
      injection hv160_4 with hva_ hvn_ hvc_
      rw [hva_] at ge160_4
      rw [hvc_] at ul160_4
      have HL160_4 := za.mk (show Kd.V Kd.string 9 _ w.heap.size _ _ ((zd l0_2 x6_1).f1.f3) from Kd.V_mk ul160_4 ge160_4)
      clear hva_ hvn_ hvc_ ge160_4 ul160_4
      clear hcc160 hce160
      have HR160_3 := za.mk hi160_3
      have HC160_3 := za.mk hl160_3
      clear hi160_3 hl160_3
      have HR160_4 := za.mk hi160_4
      have HC160_4 := za.mk hl160_4
      clear hi160_4 hl160_4
      replace p160 := eq_true p160
      replace q160 := eq_true q160
      have p161 : 0 ≤ (x6_1 : Int) := hFq
      have q161 : x6_1 < (l0_2.length : Int) := hFq
      obtain ⟨ad161,A161_3,c161_3,A161_4,c161_4,e161,hx161_0,hx161_1,hx161_2,hx161_3,hx161_4,hx161_5,hx161_6,hl161_3,hi161_3,hl161_4,hi161_4⟩ := zaH (Kd.V_reads' HO_159002.out).2.2 x6_1 p161 q161
      obtain rfl : ad160 = ad161 := (by injection e161)
      obtain ⟨ce161,hce161,hMe161,hcc161⟩ := Kd.V_get HO_159002.out z36 x6_1 p161 (by first | exact q161 | exact hFq | (have e_ := (Kd.V_reads' HO_159002.out).1;omega))
      obtain ⟨ua161_3,uc161_3,ua161_4,uc161_4,rfl,ul161_3,ge161_3,ul161_4,ge161_4⟩ := zaW hMe161
      have hv161_3 := hcc161 3 _ rfl
      rw [zW _ _ 3 (by omega)] at hv161_3
      replace hv161_3 := Option.some.inj (hv161_3.symm.trans hx161_3)
      injection hv161_3 with hva_ hvn_ hvc_
      rw [hva_] at ge161_3
      rw [hvc_] at ul161_3
      have HL161_3 := za.mk (show Kd.V k72 72 _ w.heap.size _ _ ((zd l0_2 x6_1).f1.f2) from Kd.V_mk ul161_3 ge161_3)
      clear hva_ hvn_ hvc_ ge161_3 ul161_3
      have hv161_4 := hcc161 4 _ rfl
      rw [zW _ _ 4 (by omega)] at hv161_4
      replace hv161_4 := Option.some.inj (hv161_4.symm.trans hx161_4)
      injection hv161_4 with hva_ hvn_ hvc_
      rw [hva_] at ge161_4
      rw [hvc_] at ul161_4
      have HL161_4 := za.mk (show Kd.V Kd.string 9 _ w.heap.size _ _ ((zd l0_2 x6_1).f1.f3) from Kd.V_mk ul161_4 ge161_4)
      clear hva_ hvn_ hvc_ ge161_4 ul161_4
      clear hcc161 hce161
      have HR161_3 := za.mk hi161_3
      have HC161_3 := za.mk hl161_3
      clear hi161_3 hl161_3
      have HR161_4 := za.mk hi161_4
      have HC161_4 := za.mk hl161_4
      clear hi161_4 hl161_4
      replace p161 := eq_true p161
      replace q161 := eq_true q161
      have ea_ := Option.some.inj (hx160_3.symm.trans hx161_3)
      injection ea_ with ea_ en_ ec_
      subst ea_
      subst ec_
      clear en_
      have ea_ := Option.some.inj (hx160_4.symm.trans hx161_4)
      injection ea_ with ea_ en_ ec_
      subst ea_
      subst ec_
      clear en_
      obtain ⟨hcz10_0,hcz10_1,hcz10_2,hcz10_3,hcz10_4,hcz10_5,hcz10_6,hfz10_0,hfz10_1,hfz10_2,hfz10_3,hfz10_4,hfz10_5,hfz10_6⟩ := hcq7 BK159.out
      go_wp2
      refine bodyPost_ret (zaP rfl _ _ gb159 36 #[.string ((zd l0_2 x6_1).f0),.int .i64 ((zd l0_2 x6_1).f1.f0),.int .i64 ((zd l0_2 x6_1).f1.f1),.slice A160_3 ((zd l0_2 x6_1).f1.f2).length c160_3,.slice A160_4 ((zd l0_2 x6_1).f1.f3).length c160_4,.int .i64 ((zd l0_2 x6_1).f1.f4.f0),.int .i64 ((zd l0_2 x6_1).f1.f4.f1)] (0,0) _ rfl (hxq0p BK159.out) Try.underlying36 rfl (by kernel_rfl)) rfl ?_
      exact ⟨_,_,hHq,by (with_reducible repeat (first | apply Kd.V_alloc | apply Kd.V_drewN | apply Kd.V_drew));exact Kd.V_mono (Kd.V_far (p := ⟨gb159,6,none⟩) (Kd.V_far (p := ⟨gb159,5,none⟩) (Kd.V_far (p := ⟨gb159,4,none⟩) (Kd.V_far (p := ⟨gb159,3,none⟩) (Kd.V_far (p := ⟨gb159,2,none⟩) (Kd.V_far (p := ⟨gb159,1,none⟩) (Kd.V_far (p := ⟨gb159,0,none⟩) (Kd.V_mono HL161_3.out (fun k_ hk => (⟨hk,hk.2.2⟩ : _ ∧ k_ ≠ gb159))) (fun _ hk => hk.2) (.string ((zd l0_2 x6_1).f0))) (fun _ hk => hk.2) (.int .i64 ((zd l0_2 x6_1).f1.f0))) (fun _ hk => hk.2) (.int .i64 ((zd l0_2 x6_1).f1.f1))) (fun _ hk => hk.2) (.slice A160_3 ((zd l0_2 x6_1).f1.f2).length c160_3)) (fun _ hk => hk.2) (.slice A160_4 ((zd l0_2 x6_1).f1.f3).length c160_4)) (fun _ hk => hk.2) (.int .i64 ((zd l0_2 x6_1).f1.f4.f0))) (fun _ hk => hk.2) (.int .i64 ((zd l0_2 x6_1).f1.f4.f1))) (fun _ hk => hk.1.1),by (with_reducible repeat (first | apply Kd.V_alloc | apply Kd.V_drewN | apply Kd.V_drew));exact Kd.V_mono (Kd.V_far (p := ⟨gb159,6,none⟩) (Kd.V_far (p := ⟨gb159,5,none⟩) (Kd.V_far (p := ⟨gb159,4,none⟩) (Kd.V_far (p := ⟨gb159,3,none⟩) (Kd.V_far (p := ⟨gb159,2,none⟩) (Kd.V_far (p := ⟨gb159,1,none⟩) (Kd.V_far (p := ⟨gb159,0,none⟩) (Kd.V_mono HL161_4.out (fun k_ hk => (⟨hk,hk.2.2⟩ : _ ∧ k_ ≠ gb159))) (fun _ hk => hk.2) (.string ((zd l0_2 x6_1).f0))) (fun _ hk => hk.2) (.int .i64 ((zd l0_2 x6_1).f1.f0))) (fun _ hk => hk.2) (.int .i64 ((zd l0_2 x6_1).f1.f1))) (fun _ hk => hk.2) (.slice A160_3 ((zd l0_2 x6_1).f1.f2).length c160_3)) (fun _ hk => hk.2) (.slice A160_4 ((zd l0_2 x6_1).f1.f3).length c160_4)) (fun _ hk => hk.2) (.int .i64 ((zd l0_2 x6_1).f1.f4.f0))) (fun _ hk => hk.2) (.int .i64 ((zd l0_2 x6_1).f1.f4.f1))) (fun _ hk => hk.1.1),hCq⟩
     ·rw [if_neg c7] at H
      have c7b0 : (((zd l0_2 x6_1).f0).toList == a1.toList) = false := beq_eq_false_iff_ne.mpr c7
      have c7b1 : (((zd l0_2 x6_1).f0).toList != a1.toList) = true := bne_iff_ne.mpr c7
      have H' := za.mk H
      clear H
      have hnb11 := NB158_159.out
      have hnc11 := NB159_158.out
      obtain ⟨hcz12_0,hcz12_1,hcz12_2,hfz12_0,hfz12_1,hfz12_2⟩ := hcq3 BK158.out
      have p160 : 0 ≤ (x6_1 : Int) := hFq
      have q160 : x6_1 < (l0_2.length : Int) := hFq
      obtain ⟨ad160,A160_3,c160_3,A160_4,c160_4,e160,hx160_0,hx160_1,hx160_2,hx160_3,hx160_4,hx160_5,hx160_6,hl160_3,hi160_3,hl160_4,hi160_4⟩ := zaH (Kd.V_reads' HO_159002.out).2.2 x6_1 p160 q160
      cases e160
      obtain ⟨ce160,hce160,hMe160,hcc160⟩ := Kd.V_get HO_159002.out z36 x6_1 p160 (by first | exact q160 | exact hFq | (have e_ := (Kd.V_reads' HO_159002.out).1;omega))
      obtain ⟨ua160_3,uc160_3,ua160_4,uc160_4,rfl,ul160_3,ge160_3,ul160_4,ge160_4⟩ := zaW hMe160
      have hv160_3 := hcc160 3 _ rfl
      rw [zW _ _ 3 (by omega)] at hv160_3
      replace hv160_3 := Option.some.inj (hv160_3.symm.trans hx160_3)
      injection hv160_3 with hva_ hvn_ hvc_
      rw [hva_] at ge160_3
      rw [hvc_] at ul160_3
      have HL160_3 := za.mk (show Kd.V k72 72 _ w.heap.size _ _ ((zd l0_2 x6_1).f1.f2) from Kd.V_mk ul160_3 ge160_3)
      clear hva_ hvn_ hvc_ ge160_3 ul160_3
      have hv160_4 := hcc160 4 _ rfl
      rw [zW _ _ 4 (by omega)] at hv160_4
      replace hv160_4 := Option.some.inj (hv160_4.symm.trans hx160_4)
      injection hv160_4 with hva_ hvn_ hvc_
      rw [hva_] at ge160_4
      rw [hvc_] at ul160_4
      have HL160_4 := za.mk (show Kd.V Kd.string 9 _ w.heap.size _ _ ((zd l0_2 x6_1).f1.f3) from Kd.V_mk ul160_4 ge160_4)
      clear hva_ hvn_ hvc_ ge160_4 ul160_4
      clear hcc160 hce160
      have HR160_3 := za.mk hi160_3
      have HC160_3 := za.mk hl160_3
      clear hi160_3 hl160_3
      have HR160_4 := za.mk hi160_4
      have HC160_4 := za.mk hl160_4
      clear hi160_4 hl160_4
      replace p160 := eq_true p160
      replace q160 := eq_true q160
      go_wp2
      go_roundg k1
      case measure => have := HK1.out;omega
      case rel => exact ⟨(wrap64 (x6_1 + 1)),(x160000_1),(x160001_1),(x160002_1),(x160005_1),(x160006_1),(hDq),H',⟨by have := HK1.out;omega⟩,⟨by (with_reducible repeat (first | apply Kd.V_alloc | apply Kd.V_drewN | apply Kd.V_drew));exact HO_159002.out⟩,⟨hGq BK158.out⟩,⟨hGq BK159.out⟩,⟨by repeat (first | (with_reducible first | exact HB.out | apply zl | apply zi | apply zq | refine zo ?_ GE158.out | refine zo ?_ GE159.out) | exact HB.out)⟩⟩
    ·rw [if_neg c6] at H
     exact absurd H (by simp)
   ·rw [if_neg c5] at H
    have c5b0 : decide (x6_1 < (l0_2.length : Int)) = false := decide_eq_false c5
    clear c5
    simp only [Option.some.injEq,Prod.mk.injEq] at H
    obtain ⟨rfl,rfl,rfl,rfl,rfl,rfl,rfl,rfl⟩ := H
    have hnb13 := NB158_159.out
    have hnc13 := NB159_158.out
    obtain ⟨hcz14_0,hcz14_1,hcz14_2,hfz14_0,hfz14_1,hfz14_2⟩ := hcq3 BK158.out
    obtain ⟨hcz15_0,hcz15_1,hcz15_2,hcz15_3,hcz15_4,hcz15_5,hcz15_6,hfz15_0,hfz15_1,hfz15_2,hfz15_3,hfz15_4,hfz15_5,hfz15_6⟩ := hcq7 BK159.out
    go_wp2
    refine bodyPost_ret (zaP rfl _ _ gb159 36 #[.string (⟨#[]⟩ : ByteArray),.int .i64 0,.int .i64 0,.slice none 0 0,.slice none 0 0,.int .i64 0,.int .i64 0] (0,0) _ rfl (hxq0p BK159.out) Try.underlying36 rfl (by kernel_rfl)) rfl ?_
    exact ⟨_,_,hHq,Kd.V_nil _ _ _ _ _,Kd.V_nil _ _ _ _ _,hCq⟩
def zS.l0 : Nat → Int → List (S36) → Int → Int → Int → List (S36) → Option ((List (S36)))
 | 0,_,_,_,_,_,_ => none
 | k + 1,x1,x5,x6,x185000,x185001,x185002 => if x6 < (x185002.length : Int) then (if 0 ≤ x6 then (if ((zd x185002 x6).f1.f1) = x1 then (if x5.length < 1466015503701 then (zS.l0 k x1 (x5 ++ [(⟨(zd x185002 x6).f0,(⟨(zd x185002 x6).f1.f0,(zd x185002 x6).f1.f1,(zd x185002 x6).f1.f2,(zd x185002 x6).f1.f3,(⟨(zd x185002 x6).f1.f4.f0,(zd x185002 x6).f1.f4.f1⟩ : S28)⟩ : S30)⟩ : S36)]) (wrap64 (x6 + 1)) x185000 x185001 x185002) else (none)) else (zS.l0 k x1 x5 (wrap64 (x6 + 1)) x185000 x185001 x185002)) else (none)) else (some x5)
def zS.f (k : Nat) (a0_0 : Int) (a0_1 : Int) (l0_2 : List (S36)) (a1 : Int) : Option ((List (S36))) := zS.l0 k a1 ([] : List (S36)) 0 a0_0 a0_1 l0_2
set_option maxHeartbeats 8000000 in
set_option maxRecDepth 100000 in
theorem zS.calls (k : Nat) (a0_0 : Int) (a0_1 : Int) (P0_2_ : Nat → Prop) (A0_2 : Option Addr) (c0_2 : Nat) (l0_2 : List (S36)) (a1 : Int) (r : List (S36)) (w : World) (hs0_2 : Kd.V k36 36 w w.heap.size (fun k_ => P0_2_ k_) (.slice A0_2 l0_2.length c0_2) l0_2) (h : zS.f k a0_0 a0_1 l0_2 a1 = some r) :
  Calls Try.prog 16 #[.agg #[.int .i64 a0_0,.int .i64 a0_1,.slice A0_2 l0_2.length c0_2],.int .i64 a1] w fun e w' => ∃ v0_ : Value,e = .returned (v0_) ∧ Kd.N k36 36 w' w.heap.size (fun k_ => (P0_2_ k_ ∨ w.heap.size ≤ k_)) v0_ r ∧ Below w.heap.size w w' := by
 have hu24 := Try.underlying24
 have hu36 := Try.underlying36
 have HO0_2 := za.mk (show Kd.V k36 36 w w.heap.size (fun k_ => (P0_2_ k_ ∨ w.heap.size ≤ k_)) (.slice A0_2 l0_2.length c0_2) l0_2 from Kd.V_mono hs0_2 (fun k_ hk => .inl hk))
 have HB := za.mk (Below.refl w.heap.size w)
 have H : (zS.l0 k a1 ([] : List (S36)) 0 a0_0 a0_1 l0_2) = some r := h
 clear h
 have H' := za.mk H
 clear H
 go_enter Try.func16,Try.ntmps16
 go_wp2_with (first | ((with_reducible refine zu (N := 2) rfl ?_);refine zp ?hg (N := 2) ?hd (cs := #[.int .i64 a0_0,.int .i64 a0_1,.slice A0_2 l0_2.length c0_2]) (t := 24) ?hr ?_;(case hd => rfl);(case hg => rfl);(case hr => first | (go_simp;done) | (go_simp;rfl));intro gb184 hg w3 hbox hb;have n_ := haq (Kd.V_below (Kd.V_elderB (by (with_reducible repeat (first | apply Kd.V_alloc | apply Kd.V_drewN | apply Kd.V_drew));exact HO0_2.out) gb184 (Nat.le_of_eq hg.symm)) hb) <| haq (ze hBq hb) <| haq (hbox) <| haq ((by rw [hg];exact (zg hBq) : w.heap.size ≤ gb184)) <| haq ((by rw [hg];exact (zg hBq) : w.heap.size ≤ gb184)) <| trivial;clear HO0_2 HB;obtain ⟨HO0_2,HB,BK184,GW184,GE184,_⟩ := n_;clear hb hbox hg))
 go_loopg [5,6] k (fun kq v5 v6 w' => ∃ (x5_1 : List (S36)) (x6_1 : Int),v6 = .int .i64 x6_1 ∧ za (zS.l0 kq a1 x5_1 x6_1 a0_0 a0_1 l0_2 = some r) ∧ za (kq ≤ k) ∧ za (Kd.N k36 36 w' w.heap.size (fun k_ => (P0_2_ k_ ∨ w.heap.size ≤ k_) ∧ k_ ≠ gb184) v5 x5_1) ∧ za (Kd.V k36 36 w' w.heap.size (fun k_ => (P0_2_ k_ ∨ w.heap.size ≤ k_) ∧ some k_ ≠ (v5 : Value).ownBlock ∧ k_ ≠ gb184) (.slice A0_2 l0_2.length c0_2) l0_2) ∧ za (w'.heap[gb184]? = some (.cells #[.int .i64 a0_0,.int .i64 a0_1,(.slice A0_2 l0_2.length c0_2)] 24 (0,0))) ∧ za (Below w.heap.size w w'))
 case atStart => exact ⟨(([] : List (S36))),(0),(hDq),H',⟨Nat.le_refl _⟩,⟨by first | exact Kd.R_nil _ _ _ _ _ | exact Kd.N_nil _ _ _ _ _ | exact Kd.V_nil _ _ _ _ _ | exact Kd.Q_nil _ _ _ _ _ | exact Kd.S_nil _ _ _ _ _⟩,⟨by (with_reducible repeat (first | apply Kd.V_alloc | apply Kd.V_drewN | apply Kd.V_drew));exact Kd.V_mono HO0_2.out (fun _ hk => ⟨hk.1,⟨(by simp [Value.ownBlock]),hk.2⟩⟩)⟩,⟨hGq BK184.out⟩,⟨by repeat (first | (with_reducible first | exact HB.out | apply zl | apply zi | apply zq | refine zo ?_ GE184.out) | exact HB.out)⟩⟩
 case round =>
  clear H'
  try clear c1;try clear p2
  obtain ⟨x5_1,x6_1,rfl,HA,HK1,HO_5,HO_185002,BK184,HB⟩ := hrel
  cases gk with
  | zero => exact absurd HA.out (by simp [zS.l0])
  | succ k1 =>
   have H := HA.out
   clear HA
   simp only [zS.l0] at H
   by_cases c4 : x6_1 < (l0_2.length : Int)
   ·rw [if_pos c4] at H
    have c4b0 : decide (x6_1 < (l0_2.length : Int)) = true := decide_eq_true c4
    clear c4
    by_cases c5 : 0 ≤ x6_1
    ·rw [if_pos c5] at H
     have c5b0 : decide (0 ≤ x6_1) = true := decide_eq_true c5
     clear c5
     by_cases c6 : ((zd l0_2 x6_1).f1.f1) = a1
     ·rw [if_pos c6] at H
      have c6b0 : (((zd l0_2 x6_1).f1.f1) == a1) = true := beq_iff_eq.mpr c6
      have c6b1 : (((zd l0_2 x6_1).f1.f1) != a1) = false := bne_eq_false_iff_eq.mpr c6
      clear c6
      by_cases c7 : x5_1.length < 1466015503701
      ·rw [if_pos c7] at H
       have LMc7 := za.mk c7
       clear c7
       obtain ⟨y187,hy187⟩ : ∃ y_ : List (S36),y_ = (x5_1 ++ [(⟨(zd l0_2 x6_1).f0,(⟨(zd l0_2 x6_1).f1.f0,(zd l0_2 x6_1).f1.f1,(zd l0_2 x6_1).f1.f2,(zd l0_2 x6_1).f1.f3,(⟨(zd l0_2 x6_1).f1.f4.f0,(zd l0_2 x6_1).f1.f4.f1⟩ : S28)⟩ : S30)⟩ : S36)]) := ⟨_,rfl⟩
       replace H : (zS.l0 k1 a1 y187 (wrap64 (x6_1 + 1)) a0_0 a0_1 l0_2) = some r := by first | (rw [hy187];with_reducible exact H) | (have H2_ := (Option.bind_some _ _).symm.trans H;rw [hy187];with_reducible exact H2_) | (have H2_ := (Option.bind_some _ _).symm.trans H;with_reducible exact H2_) | with_reducible exact H | (rw [hy187];exact H) | exact H
       have Ny187 := za.mk hy187
       clear hy187
       have H' := za.mk H
       clear H
       obtain ⟨hcz8_0,hcz8_1,hcz8_2,hfz8_0,hfz8_1,hfz8_2⟩ := hcq3 BK184.out
       have p185 : 0 ≤ (x6_1 : Int) := hFq
       have q185 : x6_1 < (l0_2.length : Int) := hFq
       obtain ⟨ad185,A185_3,c185_3,A185_4,c185_4,e185,hx185_0,hx185_1,hx185_2,hx185_3,hx185_4,hx185_5,hx185_6,hl185_3,hi185_3,hl185_4,hi185_4⟩ := zaH (Kd.V_reads' HO_185002.out).2.2 x6_1 p185 q185
       cases e185
       obtain ⟨ce185,hce185,hMe185,hcc185⟩ := Kd.V_get HO_185002.out z36 x6_1 p185 (by first | exact q185 | exact hFq | (have e_ := (Kd.V_reads' HO_185002.out).1;omega))
       obtain ⟨ua185_3,uc185_3,ua185_4,uc185_4,rfl,ul185_3,ge185_3,ul185_4,ge185_4⟩ := zaW hMe185
       have hv185_3 := hcc185 3 _ rfl
       rw [zW _ _ 3 (by omega)] at hv185_3
       replace hv185_3 := Option.some.inj (hv185_3.symm.trans hx185_3)
       injection hv185_3 with hva_ hvn_ hvc_
       rw [hva_] at ge185_3
       rw [hvc_] at ul185_3
       have HL185_3 := za.mk (show Kd.V k72 72 _ w.heap.size _ _ ((zd l0_2 x6_1).f1.f2) from Kd.V_mk ul185_3 ge185_3)
       clear hva_ hvn_ hvc_ ge185_3 ul185_3
       have hv185_4 := hcc185 4 _ rfl
       rw [zW _ _ 4 (by omega)] at hv185_4
       replace hv185_4 := Option.some.inj (hv185_4.symm.trans hx185_4)
       injection hv185_4 with hva_ hvn_ hvc_
       rw [hva_] at ge185_4
       rw [hvc_] at ul185_4
       have HL185_4 := za.mk (show Kd.V Kd.string 9 _ w.heap.size _ _ ((zd l0_2 x6_1).f1.f3) from Kd.V_mk ul185_4 ge185_4)
       clear hva_ hvn_ hvc_ ge185_4 ul185_4
       clear hcc185 hce185
       have HR185_3 := za.mk hi185_3
       have HC185_3 := za.mk hl185_3
       clear hi185_3 hl185_3
       have HR185_4 := za.mk hi185_4
       have HC185_4 := za.mk hl185_4
       clear hi185_4 hl185_4
       replace p185 := eq_true p185
       replace q185 := eq_true q185
       have p186 : 0 ≤ (x6_1 : Int) := hFq
       have q186 : x6_1 < (l0_2.length : Int) := hFq
       obtain ⟨ad186,A186_3,c186_3,A186_4,c186_4,e186,hx186_0,hx186_1,hx186_2,hx186_3,hx186_4,hx186_5,hx186_6,hl186_3,hi186_3,hl186_4,hi186_4⟩ := zaH (Kd.V_reads' HO_185002.out).2.2 x6_1 p186 q186
       obtain rfl : ad185 = ad186 := (by injection e186)
       obtain ⟨ce186,hce186,hMe186,hcc186⟩ := Kd.V_get HO_185002.out z36 x6_1 p186 (by first | exact q186 | exact hFq | (have e_ := (Kd.V_reads' HO_185002.out).1;omega))
       obtain ⟨ua186_3,uc186_3,ua186_4,uc186_4,rfl,ul186_3,ge186_3,ul186_4,ge186_4⟩ := zaW hMe186
       have hv186_3 := hcc186 3 _ rfl
       rw [zW _ _ 3 (by omega)] at hv186_3
       replace hv186_3 := Option.some.inj (hv186_3.symm.trans hx186_3)
       injection hv186_3 with hva_ hvn_ hvc_
       rw [hva_] at ge186_3
       rw [hvc_] at ul186_3
       have HL186_3 := za.mk (show Kd.V k72 72 _ w.heap.size _ _ ((zd l0_2 x6_1).f1.f2) from Kd.V_mk ul186_3 ge186_3)
       clear hva_ hvn_ hvc_ ge186_3 ul186_3
       have hv186_4 := hcc186 4 _ rfl
       rw [zW _ _ 4 (by omega)] at hv186_4
       replace hv186_4 := Option.some.inj (hv186_4.symm.trans hx186_4)
       injection hv186_4 with hva_ hvn_ hvc_
       rw [hva_] at ge186_4
       rw [hvc_] at ul186_4
       have HL186_4 := za.mk (show Kd.V Kd.string 9 _ w.heap.size _ _ ((zd l0_2 x6_1).f1.f3) from Kd.V_mk ul186_4 ge186_4)
       clear hva_ hvn_ hvc_ ge186_4 ul186_4
       clear hcc186 hce186
       have HR186_3 := za.mk hi186_3
       have HC186_3 := za.mk hl186_3
       clear hi186_3 hl186_3
       have HR186_4 := za.mk hi186_4
       have HC186_4 := za.mk hl186_4
       clear hi186_4 hl186_4
       replace p186 := eq_true p186
       replace q186 := eq_true q186
       have ea_ := Option.some.inj (hx185_3.symm.trans hx186_3)
       injection ea_ with ea_ en_ ec_
       subst ea_
       subst ec_
       clear en_
       have ea_ := Option.some.inj (hx185_4.symm.trans hx186_4)
       injection ea_ with ea_ en_ ec_
       subst ea_
       subst ec_
       clear en_
       go_wp2_with (first | ((with_reducible refine zbS (b := .append) (xs := #[.tmp 23,.tmp 29]) rfl ?_);at_builtin;refine Kd.N_append k36 (w0 := w) w.heap.size rfl (.tmp 23) (.tmp 29) 22 36 (.agg #[(.string ⟨#[]⟩),(.int .i64 0),(.int .i64 0),(.slice none 0 0),(.slice none 0 0),(.int .i64 0),(.int .i64 0)]) 96 rfl Try.underlying22 zeD rfl (by decide) (by omega) u5 x5_1 (⟨(zd l0_2 x6_1).f0,(⟨(zd l0_2 x6_1).f1.f0,(zd l0_2 x6_1).f1.f1,(zd l0_2 x6_1).f1.f2,(zd l0_2 x6_1).f1.f3,(⟨(zd l0_2 x6_1).f1.f4.f0,(zd l0_2 x6_1).f1.f4.f1⟩ : S28)⟩ : S30)⟩ : S36) [.string ((zd l0_2 x6_1).f0),.int .i64 ((zd l0_2 x6_1).f1.f0),.int .i64 ((zd l0_2 x6_1).f1.f1),.slice A185_3 ((zd l0_2 x6_1).f1.f2).length c185_3,.slice A185_4 ((zd l0_2 x6_1).f1.f3).length c185_4,.int .i64 ((zd l0_2 x6_1).f1.f4.f0),.int .i64 ((zd l0_2 x6_1).f1.f4.f1)] (fun k_ => (P0_2_ k_ ∨ w.heap.size ≤ k_) ∧ k_ ≠ gb184) (fun k_ => ((fun k_ => (P0_2_ k_ ∨ w.heap.size ≤ k_) ∧ k_ ≠ gb184)) k_ ∧ some k_ ≠ (u5 : Value).ownBlock) rfl rfl ?aP (fun _ hk => hk) ?aF ?aO ?aB ?aS ?aL ?_;(case aP => exact (zgy _ _ (⟨(zd l0_2 x6_1).f0,(⟨(zd l0_2 x6_1).f1.f0,(zd l0_2 x6_1).f1.f1,(zd l0_2 x6_1).f1.f2,(zd l0_2 x6_1).f1.f3,(⟨(zd l0_2 x6_1).f1.f4.f0,(zd l0_2 x6_1).f1.f4.f1⟩ : S28)⟩ : S30)⟩ : S36) (Kd.V_reads' (Kd.V_mono (ok' := (fun k_ => ((fun k_ => (P0_2_ k_ ∨ w.heap.size ≤ k_) ∧ k_ ≠ gb184)) k_ ∧ some k_ ≠ (u5 : Value).ownBlock)) (HL186_3.out) (fun k_ hk => ⟨⟨hk.1,hk.2.2⟩,hk.2.1⟩))).2.1 (Kd.V_F (Kd.V_mono (ok' := (fun k_ => ((fun k_ => (P0_2_ k_ ∨ w.heap.size ≤ k_) ∧ k_ ≠ gb184)) k_ ∧ some k_ ≠ (u5 : Value).ownBlock)) (HL186_3.out) (fun k_ hk => ⟨⟨hk.1,hk.2.2⟩,hk.2.1⟩))) (Kd.V_reads' (Kd.V_mono (ok' := (fun k_ => ((fun k_ => (P0_2_ k_ ∨ w.heap.size ≤ k_) ∧ k_ ≠ gb184)) k_ ∧ some k_ ≠ (u5 : Value).ownBlock)) (HL186_4.out) (fun k_ hk => ⟨⟨hk.1,hk.2.2⟩,hk.2.1⟩))).2.1 (Kd.V_F (Kd.V_mono (ok' := (fun k_ => ((fun k_ => (P0_2_ k_ ∨ w.heap.size ≤ k_) ∧ k_ ≠ gb184)) k_ ∧ some k_ ≠ (u5 : Value).ownBlock)) (HL186_4.out) (fun k_ hk => ⟨⟨hk.1,hk.2.2⟩,hk.2.1⟩)))));(case aB => exact hCq);(case aF => exact (fun k_ hk => ⟨(.inr (Nat.le_trans (zg hCq) hk)),Kd.freshB (g := gb184) (o := .cells #[.int .i64 a0_0,.int .i64 a0_1,.slice (some ad185) l0_2.length c0_2] 24 (0,0)) (hGq BK184.out) k_ hk⟩));(case aO => exact (by (with_reducible repeat (first | apply Kd.N_alloc | apply Kd.N_drewN | apply Kd.N_drew));exact HO_5.out));(case aS => exact (zg hCq));(case aL => have := LMc7.out;omega);intro v188 w9 ho hb hg hat;rw [← Ny187.out] at ho;have n_ := haq (Kd.V_afterv (ok := (fun k_ => (P0_2_ k_ ∨ w.heap.size ≤ k_) ∧ k_ ≠ gb184)) (by (with_reducible repeat (first | apply Kd.V_alloc | apply Kd.V_drewN | apply Kd.V_drew));exact Kd.V_mono HO_185002.out (fun _ hk => ⟨⟨hk.1,hk.2.2⟩,hk.2.1⟩)) hg hat) <| haq (zaU (g := gb184) (o := .cells #[.int .i64 a0_0,.int .i64 a0_1,.slice (some ad185) l0_2.length c0_2] 24 (0,0)) (hGq BK184.out) hg (Kd.N_ne HO_5.out BK184.out (by decide))) <| haq (Kd.V_afterv (ok := (fun k_ => (P0_2_ k_ ∨ w.heap.size ≤ k_) ∧ k_ ≠ gb184)) (by (with_reducible repeat (first | apply Kd.V_alloc | apply Kd.V_drewN | apply Kd.V_drew));exact Kd.V_mono HL185_3.out (fun _ hk => ⟨⟨hk.1,hk.2.2⟩,hk.2.1⟩)) hg hat) <| haq (Kd.V_afterv (ok := (fun k_ => (P0_2_ k_ ∨ w.heap.size ≤ k_) ∧ k_ ≠ gb184)) (by (with_reducible repeat (first | apply Kd.V_alloc | apply Kd.V_drewN | apply Kd.V_drew));exact Kd.V_mono HL185_4.out (fun _ hk => ⟨⟨hk.1,hk.2.2⟩,hk.2.1⟩)) hg hat) <| haq (Kd.V_afterv (ok := (fun k_ => (P0_2_ k_ ∨ w.heap.size ≤ k_) ∧ k_ ≠ gb184)) (by (with_reducible repeat (first | apply Kd.V_alloc | apply Kd.V_drewN | apply Kd.V_drew));exact Kd.V_mono HL186_3.out (fun _ hk => ⟨⟨hk.1,hk.2.2⟩,hk.2.1⟩)) hg hat) <| haq (Kd.V_afterv (ok := (fun k_ => (P0_2_ k_ ∨ w.heap.size ≤ k_) ∧ k_ ≠ gb184)) (by (with_reducible repeat (first | apply Kd.V_alloc | apply Kd.V_drewN | apply Kd.V_drew));exact Kd.V_mono HL186_4.out (fun _ hk => ⟨⟨hk.1,hk.2.2⟩,hk.2.1⟩)) hg hat) <| haq (hb) <| haq (ho) <| trivial;clear HO_185002 BK184 HL185_3 HL185_4 HL186_3 HL186_4 HB HO_5;obtain ⟨HO_185002,BK184,HL185_3,HL185_4,HL186_3,HL186_4,HB,HO189,_⟩ := n_;clear ho hb hg hat))
       go_roundg k1
       case measure => have := HK1.out;omega
       case rel => exact ⟨(y187),(wrap64 (x6_1 + 1)),(hDq),H',⟨by have := HK1.out;omega⟩,⟨by (with_reducible repeat (first | apply Kd.N_alloc | apply Kd.N_drewN | apply Kd.N_drew));exact HO189.out⟩,⟨by (with_reducible repeat (first | apply Kd.V_alloc | apply Kd.V_drewN | apply Kd.V_drew));exact Kd.V_mono HO_185002.out (fun _ hk => ⟨hk.1.1,⟨hk.2,hk.1.2⟩⟩)⟩,⟨hGq BK184.out⟩,⟨by repeat (first | (with_reducible first | exact HB.out | apply zl | apply zi | apply zq | refine zo ?_ GE184.out) | exact HB.out)⟩⟩
      ·rw [if_neg c7] at H
       exact absurd H (by simp)
     ·rw [if_neg c6] at H
      have c6b0 : (((zd l0_2 x6_1).f1.f1) == a1) = false := beq_eq_false_iff_ne.mpr c6
      have c6b1 : (((zd l0_2 x6_1).f1.f1) != a1) = true := bne_iff_ne.mpr c6
      have H' := za.mk H
      clear H
      obtain ⟨hcz10_0,hcz10_1,hcz10_2,hfz10_0,hfz10_1,hfz10_2⟩ := hcq3 BK184.out
      have p185 : 0 ≤ (x6_1 : Int) := hFq
      have q185 : x6_1 < (l0_2.length : Int) := hFq
      obtain ⟨ad185,A185_3,c185_3,A185_4,c185_4,e185,hx185_0,hx185_1,hx185_2,hx185_3,hx185_4,hx185_5,hx185_6,hl185_3,hi185_3,hl185_4,hi185_4⟩ := zaH (Kd.V_reads' HO_185002.out).2.2 x6_1 p185 q185
      cases e185
      obtain ⟨ce185,hce185,hMe185,hcc185⟩ := Kd.V_get HO_185002.out z36 x6_1 p185 (by first | exact q185 | exact hFq | (have e_ := (Kd.V_reads' HO_185002.out).1;omega))
      obtain ⟨ua185_3,uc185_3,ua185_4,uc185_4,rfl,ul185_3,ge185_3,ul185_4,ge185_4⟩ := zaW hMe185
      have hv185_3 := hcc185 3 _ rfl
      rw [zW _ _ 3 (by omega)] at hv185_3
      replace hv185_3 := Option.some.inj (hv185_3.symm.trans hx185_3)
      injection hv185_3 with hva_ hvn_ hvc_
      rw [hva_] at ge185_3
      rw [hvc_] at ul185_3
      have HL185_3 := za.mk (show Kd.V k72 72 _ w.heap.size _ _ ((zd l0_2 x6_1).f1.f2) from Kd.V_mk ul185_3 ge185_3)
      clear hva_ hvn_ hvc_ ge185_3 ul185_3
      have hv185_4 := hcc185 4 _ rfl
      rw [zW _ _ 4 (by omega)] at hv185_4
      replace hv185_4 := Option.some.inj (hv185_4.symm.trans hx185_4)
      injection hv185_4 with hva_ hvn_ hvc_
      rw [hva_] at ge185_4
      rw [hvc_] at ul185_4
      have HL185_4 := za.mk (show Kd.V Kd.string 9 _ w.heap.size _ _ ((zd l0_2 x6_1).f1.f3) from Kd.V_mk ul185_4 ge185_4)
      clear hva_ hvn_ hvc_ ge185_4 ul185_4
      clear hcc185 hce185
      have HR185_3 := za.mk hi185_3
      have HC185_3 := za.mk hl185_3
      clear hi185_3 hl185_3
      have HR185_4 := za.mk hi185_4
      have HC185_4 := za.mk hl185_4
      clear hi185_4 hl185_4
      replace p185 := eq_true p185
      replace q185 := eq_true q185
      go_wp2
      go_roundg k1
      case measure => have := HK1.out;omega
      case rel => exact ⟨(x5_1),(wrap64 (x6_1 + 1)),(hDq),H',⟨by have := HK1.out;omega⟩,⟨by (with_reducible repeat (first | apply Kd.N_alloc | apply Kd.N_drewN | apply Kd.N_drew));exact HO_5.out⟩,⟨by (with_reducible repeat (first | apply Kd.V_alloc | apply Kd.V_drewN | apply Kd.V_drew));exact HO_185002.out⟩,⟨hGq BK184.out⟩,⟨by repeat (first | (with_reducible first | exact HB.out | apply zl | apply zi | apply zq | refine zo ?_ GE184.out) | exact HB.out)⟩⟩
    ·rw [if_neg c5] at H
     exact absurd H (by simp)
   ·rw [if_neg c4] at H
    have c4b0 : decide (x6_1 < (l0_2.length : Int)) = false := decide_eq_false c4
    clear c4
    obtain rfl := Option.some.inj H
    obtain ⟨hcz11_0,hcz11_1,hcz11_2,hfz11_0,hfz11_1,hfz11_2⟩ := hcq3 BK184.out
    go_wp2
    go_ret
    exact ⟨_,hHq,by (with_reducible repeat (first | apply Kd.N_alloc | apply Kd.N_drewN | apply Kd.N_drew));exact Kd.N_mono HO_5.out (fun _ hk => hk.1),hCq⟩
end Go.Proofs.Ytklhjlaofkngcaa.Px