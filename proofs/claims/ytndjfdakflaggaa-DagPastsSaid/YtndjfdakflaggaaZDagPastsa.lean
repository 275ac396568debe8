/- Part 27 of 30 of the proof of the law DagPasts: what is proved is the statement at the end of the last part; its conditions are those of the given row. -/
import Derived.Test.YtndjfdakflaggaaZDagPastsZ
namespace Go.Proofs.Ytndjfdakflaggaa.Px
open Go.RowKit Go.Proofs.YtndjfdakflaggaaW.PrintWords Go.Proofs.YtndjfdakflaggaaW.PrintLast Go.Proofs.YtndjfdakflaggaaW.PrintMore
attribute [local go_sem] zt zv zA zB zq zr zu zw
set_option linter.unusedVariables false
set_option linter.unusedSimpArgs false
def zD.l0 : Nat → Int → List Bool → List (S34) → Int → Int → Int → List (S34) → Option ((List (S34)))
 | 0,_,_,_,_,_,_,_ => none
 | k + 1,x2,x7,x8,x9,x331000,x331001,x331002 => if x9 < (x331002.length : Int) then (if 0 ≤ x9 then (if x9 < (x7.length : Int) then (if zz false x7 x9 = true then (if ((zd x331002 x9).f1.f1) > x2 then (if x8.length < 1466015503701 then (zD.l0 k x2 x7 (x8 ++ [(⟨(zd x331002 x9).f0,(⟨(zd x331002 x9).f1.f0,(zd x331002 x9).f1.f1,(zd x331002 x9).f1.f2,(zd x331002 x9).f1.f3,(⟨(zd x331002 x9).f1.f4.f0,(zd x331002 x9).f1.f4.f1⟩ : S30)⟩ : S32)⟩ : S34)]) (wrap64 (x9 + 1)) x331000 x331001 x331002) else (none)) else (zD.l0 k x2 x7 x8 (wrap64 (x9 + 1)) x331000 x331001 x331002)) else (zD.l0 k x2 x7 x8 (wrap64 (x9 + 1)) x331000 x331001 x331002)) else (none)) else (none)) else (some x8)
def zD.f (k : Nat) (a0_0 : Int) (a0_1 : Int) (l0_2 : List (S34)) (a1 : ByteArray) (a2 : Int) : Option ((List (S34))) := (zf.f k a0_0 a0_1 l0_2 a1).bind fun t331 => (zD.l0 k a2 t331 ([] : List (S34)) 0 a0_0 a0_1 l0_2)
set_option maxHeartbeats 8000000 in
set_option maxRecDepth 100000 in
theorem zD.calls (k : Nat) (a0_0 : Int) (a0_1 : Int) (P0_2_ : Nat → Prop) (A0_2 : Option Addr) (c0_2 : Nat) (l0_2 : List (S34)) (a1 : ByteArray) (a2 : Int) (r : List (S34)) (w : World) (hs0_2 : Kd.V k34 34 w w.heap.size (fun k_ => P0_2_ k_) (.slice A0_2 l0_2.length c0_2) l0_2) (h : zD.f k a0_0 a0_1 l0_2 a1 a2 = some r) :
  Calls Try.prog 12 #[.agg #[.int .i64 a0_0,.int .i64 a0_1,.slice A0_2 l0_2.length c0_2],.string a1,.int .i64 a2] w fun e w' => ∃ v0_ : Value,e = .returned (v0_) ∧ Kd.N k34 34 w' w.heap.size (fun k_ => (P0_2_ k_ ∨ w.heap.size ≤ k_)) v0_ r ∧ Below w.heap.size w w' := by
 have hu24 := Try.underlying24
 have hu34 := Try.underlying34
 have HO0_2 := za.mk (show Kd.V k34 34 w w.heap.size (fun k_ => (P0_2_ k_ ∨ w.heap.size ≤ k_)) (.slice A0_2 l0_2.length c0_2) l0_2 from Kd.V_mono hs0_2 (fun k_ hk => .inl hk))
 have HB := za.mk (Below.refl w.heap.size w)
 have H : ((zf.f k a0_0 a0_1 l0_2 a1).bind fun t331 => (zD.l0 k a2 t331 ([] : List (S34)) 0 a0_0 a0_1 l0_2)) = some r := h
 clear h
 replace H := Option.bind_eq_some_iff.mp H
 obtain ⟨t331,A40,H⟩ := H
 replace H : (zD.l0 k a2 t331 ([] : List (S34)) 0 a0_0 a0_1 l0_2) = some r := H
 have A4 := za.mk A40
 clear A40
 have H' := za.mk H
 clear H
 go_enter Try.func12,Try.ntmps12
 go_wp2_with (first | ((with_reducible refine zp (N := 3) rfl ?_);refine zn rfl (N := 3) rfl (cs := #[.int .i64 a0_0,.int .i64 a0_1,.slice A0_2 l0_2.length c0_2]) (t := 24) hrq ?_;intro gb330 hg w5 hbox hb;have n_ := haq (Kd.V_below (Kd.V_elderB (by (with_reducible repeat (first | apply Kd.V_alloc | apply Kd.V_drewN | apply Kd.V_drew));exact HO0_2.out) gb330 (Nat.le_of_eq hg.symm)) hb) <| haq (zh hBq hb) <| haq (hbox) <| haq ((by rw [hg];exact (zj hBq) : w.heap.size ≤ gb330)) <| haq ((by rw [hg];exact (zj hBq) : w.heap.size ≤ gb330)) <| trivial;clear HO0_2 HB;obtain ⟨HO0_2,HB,BK330,GW330,GE330,_⟩ := n_;clear hb hbox hg;obtain ⟨hcz6_0,hcz6_1,hcz6_2,hfz6_0,hfz6_1,hfz6_2⟩ := hcq3 BK330.out) | ((with_reducible refine zN (f := 27) rfl ?_);refine zaG (some 12) rfl rfl Try.func27 (by kernel_rfl) rfl #[.agg #[.int .i64 a0_0,.int .i64 a0_1,.slice A0_2 l0_2.length c0_2],.string a1] rfl hMq ?_;(with_reducible refine (zf.calls k a0_0 a0_1 _ _ l0_2 a1 t331 _ ?side1 ?side2 A4.out).mono ?_);(case side1 => repeat (first | exact (Kd.V_reads' HO0_2.out).2.2 | (with_reducible refine Kd.C_alloc ?_ _) | (with_reducible refine Kd.C_drewN ?_ _) | (with_reducible refine Kd.C_drew ?_)));(case side2 => exact (Kd.V_reads' HO0_2.out).2.1);rintro e w7 ⟨v332,rfl,ho0,hb⟩;refine ⟨_,rfl,?_⟩;have n_ := haq (Kd.V_elder' (by (with_reducible repeat (first | apply Kd.V_alloc | apply Kd.V_drewN | apply Kd.V_drew));exact HO0_2.out) (Kd.R_base ho0) hb) <| haq (Kd.R_lower (Kd.R_newM (M := fun k_ => (w.heap.size ≤ k_)) ho0 (zj hCq) (fun k_ h_ => h_)) (zj hCq)) <| haq (hbq BK330.out hb) <| haq (zh hCq hb) <| trivial;clear HO0_2 BK330 HB;obtain ⟨HO0_2,HO333,BK330,HB,_⟩ := n_;(try clear hb);(try clear hb2);(try clear hk);(try clear hi);(try clear ho0)))
 go_loopg [8,9] k (fun kq v8 v9 w' => ∃ (x8_1 : List (S34)) (x9_1 : Int),v9 = .int .i64 x9_1 ∧ za (zD.l0 kq a2 t331 x8_1 x9_1 a0_0 a0_1 l0_2 = some r) ∧ za (kq ≤ k) ∧ za (Kd.R Kd.bool 4 w' w.heap.size (fun k_ => (w.heap.size ≤ k_)) v332 t331) ∧ za (Kd.N k34 34 w' w.heap.size (fun k_ => (P0_2_ k_ ∨ w.heap.size ≤ k_) ∧ some k_ ≠ (v332 : Value).ownBlock ∧ k_ ≠ gb330) v8 x8_1) ∧ za (Kd.V k34 34 w' w.heap.size (fun k_ => (P0_2_ k_ ∨ w.heap.size ≤ k_) ∧ some k_ ≠ (v332 : Value).ownBlock ∧ some k_ ≠ (v8 : Value).ownBlock ∧ k_ ≠ gb330) (.slice A0_2 l0_2.length c0_2) l0_2) ∧ za (w'.heap[gb330]? = some (.cells #[.int .i64 a0_0,.int .i64 a0_1,(.slice A0_2 l0_2.length c0_2)] 24 (0,0))) ∧ za (Below w.heap.size w w'))
 case atStart => exact ⟨(([] : List (S34))),(0),(hDq),H',⟨Nat.le_refl _⟩,⟨by (with_reducible repeat (first | apply Kd.R_alloc | apply Kd.R_drewN | apply Kd.R_drew));exact Kd.R_mono HO333.out (fun _ hk => hk.1)⟩,⟨by first | exact Kd.R_nil _ _ _ _ _ | exact Kd.N_nil _ _ _ _ _ | exact Kd.V_nil _ _ _ _ _ | exact Kd.Q_nil _ _ _ _ _ | exact Kd.S_nil _ _ _ _ _⟩,⟨by (with_reducible repeat (first | apply Kd.V_alloc | apply Kd.V_drewN | apply Kd.V_drew));exact Kd.V_mono HO0_2.out (fun _ hk => ⟨hk.1.1,⟨hk.2,⟨(by simp [Value.ownBlock]),hk.1.2⟩⟩⟩)⟩,⟨hGq BK330.out⟩,⟨by repeat (first | (with_reducible first | exact HB.out | apply zi | apply zl | apply zx | refine zm ?_ GE330.out) | exact HB.out)⟩⟩
 case round =>
  clear H'
  try clear c1;try clear c2;try clear p2;try clear hcz6_0;try clear hcz6_1;try clear hcz6_2;try clear hfz6_0;try clear hfz6_1;try clear hfz6_2
  obtain ⟨x8_1,x9_1,rfl,HA,HK1,HO_7,HO_8,HO_331002,BK330,HB⟩ := hrel
  cases gk with
  | zero => exact absurd HA.out (by simp [zD.l0])
  | succ k1 =>
   have H := HA.out
   clear HA
   simp only [zD.l0] at H
   by_cases c8 : x9_1 < (l0_2.length : Int)
   ·rw [if_pos c8] at H
    have c8b0 : decide (x9_1 < (l0_2.length : Int)) = true := decide_eq_true c8
    clear c8
    by_cases c9 : 0 ≤ x9_1
    ·rw [if_pos c9] at H
     have c9b0 : decide (0 ≤ x9_1) = true := decide_eq_true c9
     clear c9
     by_cases c10 : x9_1 < (t331.length : Int)
     ·rw [if_pos c10] at H
      have c10b0 : decide (x9_1 < (t331.length : Int)) = true := decide_eq_true c10
      clear c10
      obtain ⟨bq11,hbq11⟩ : ∃ b_ : Bool,b_ = (zz false t331 x9_1) := ⟨_,rfl⟩
      replace H : (if bq11 = true then (if ((zd l0_2 x9_1).f1.f1) > a2 then (if x8_1.length < 1466015503701 then (zD.l0 k1 a2 t331 (x8_1 ++ [(⟨(zd l0_2 x9_1).f0,(⟨(zd l0_2 x9_1).f1.f0,(zd l0_2 x9_1).f1.f1,(zd l0_2 x9_1).f1.f2,(zd l0_2 x9_1).f1.f3,(⟨(zd l0_2 x9_1).f1.f4.f0,(zd l0_2 x9_1).f1.f4.f1⟩ : S30)⟩ : S32)⟩ : S34)]) (wrap64 (x9_1 + 1)) a0_0 a0_1 l0_2) else (none)) else (zD.l0 k1 a2 t331 x8_1 (wrap64 (x9_1 + 1)) a0_0 a0_1 l0_2)) else (zD.l0 k1 a2 t331 x8_1 (wrap64 (x9_1 + 1)) a0_0 a0_1 l0_2)) = some r := by rw [← hbq11] at H;exact H
      have Nbq11 := za.mk hbq11
      clear hbq11
      by_cases c12 : bq11 = true
      ·subst c12
       have H1 : (if ((zd l0_2 x9_1).f1.f1) > a2 then (if x8_1.length < 1466015503701 then (zD.l0 k1 a2 t331 (x8_1 ++ [(⟨(zd l0_2 x9_1).f0,(⟨(zd l0_2 x9_1).f1.f0,(zd l0_2 x9_1).f1.f1,(zd l0_2 x9_1).f1.f2,(zd l0_2 x9_1).f1.f3,(⟨(zd l0_2 x9_1).f1.f4.f0,(zd l0_2 x9_1).f1.f4.f1⟩ : S30)⟩ : S32)⟩ : S34)]) (wrap64 (x9_1 + 1)) a0_0 a0_1 l0_2) else (none)) else (zD.l0 k1 a2 t331 x8_1 (wrap64 (x9_1 + 1)) a0_0 a0_1 l0_2)) = some r := by rw [if_pos rfl] at H;exact H
       clear H
       have H := H1
       clear H1
       by_cases c13 : ((zd l0_2 x9_1).f1.f1) > a2
       ·rw [if_pos c13] at H
        have c13b0 : decide (a2 < ((zd l0_2 x9_1).f1.f1)) = true := decide_eq_true c13
        clear c13
        by_cases c14 : x8_1.length < 1466015503701
        ·rw [if_pos c14] at H
         have LMc14 := za.mk c14
         clear c14
         obtain ⟨y337,hy337⟩ : ∃ y_ : List (S34),y_ = (x8_1 ++ [(⟨(zd l0_2 x9_1).f0,(⟨(zd l0_2 x9_1).f1.f0,(zd l0_2 x9_1).f1.f1,(zd l0_2 x9_1).f1.f2,(zd l0_2 x9_1).f1.f3,(⟨(zd l0_2 x9_1).f1.f4.f0,(zd l0_2 x9_1).f1.f4.f1⟩ : S30)⟩ : S32)⟩ : S34)]) := ⟨_,rfl⟩
         replace H : (zD.l0 k1 a2 t331 y337 (wrap64 (x9_1 + 1)) a0_0 a0_1 l0_2) = some r := by first | (rw [hy337];with_reducible exact H) | (have H2_ := (Option.bind_some _ _).symm.trans H;rw [hy337];with_reducible exact H2_) | (have H2_ := (Option.bind_some _ _).symm.trans H;with_reducible exact H2_) | with_reducible exact H | (rw [hy337];exact H) | exact H
         have Ny337 := za.mk hy337
         clear hy337
         have H' := za.mk H
         clear H
         obtain ⟨hcz15_0,hcz15_1,hcz15_2,hfz15_0,hfz15_1,hfz15_2⟩ := hcq3 BK330.out
         obtain ⟨Ao16,co16,eo16⟩ := Kd.R_slice HO_7.out
         subst eo16
         have p334 : 0 ≤ (x9_1 : Int) := hFq
         have q334 : x9_1 < (t331.length : Int) := hFq
         obtain ⟨ad334,e334,hx334_0⟩ := Kd.at_bool (Kd.R_reads' HO_7.out).2.2 x9_1 p334 q334
         (try rw [← Nbq11.out] at hx334_0)
         cases e334
         replace p334 := eq_true p334
         replace q334 := eq_true q334
         have p335 : 0 ≤ (x9_1 : Int) := hFq
         have q335 : x9_1 < (l0_2.length : Int) := hFq
         obtain ⟨ad335,A335_3,c335_3,A335_4,c335_4,e335,hx335_0,hx335_1,hx335_2,hx335_3,hx335_4,hx335_5,hx335_6,hl335_3,hi335_3,hl335_4,hi335_4⟩ := zai (Kd.V_reads' HO_331002.out).2.2 x9_1 p335 q335
         cases e335
         obtain ⟨ce335,hce335,hMe335,hcc335⟩ := Kd.V_get HO_331002.out z34 x9_1 p335 (by first | exact q335 | exact hFq | (have e_ := (Kd.V_reads' HO_331002.out).1;omega))
         obtain ⟨ua335_3,uc335_3,ua335_4,uc335_4,rfl,ul335_3,ge335_3,ul335_4,ge335_4⟩ := zbo hMe335
         have hv335_3 := hcc335 3 _ rfl
         rw [zO _ _ 3 (by omega)] at hv335_3
         replace hv335_3 := Option.some.inj (hv335_3.symm.trans hx335_3)
         injection hv335_3 with hva_ hvn_ hvc_
         rw [hva_] at ge335_3
         rw [hvc_] at ul335_3
         have HL335_3 := za.mk (show Kd.V k78 78 _ w.heap.size _ _ ((zd l0_2 x9_1).f1.f2) from Kd.V_mk ul335_3 ge335_3)
         clear hva_ hvn_ hvc_ ge335_3 ul335_3
         have hv335_4 := hcc335 4 _ rfl
         rw [zO _ _ 4 (by omega)] at hv335_4
         replace hv335_4 := Option.some.inj (hv335_4.symm.trans hx335_4)
         injection hv335_4 with hva_ hvn_ hvc_
         rw [hva_] at ge335_4
         rw [hvc_] at ul335_4
         have HL335_4 := za.mk (show Kd.V Kd.string 9 _ w.heap.size _ _ ((zd l0_2 x9_1).f1.f3) from Kd.V_mk ul335_4 ge335_4)
         clear hva_ hvn_ hvc_ ge335_4 ul335_4
         clear hcc335 hce335
         have HR335_3 := za.mk hi335_3
         have HC335_3 := za.mk hl335_3
         clear hi335_3 hl335_3
         have HR335_4 := za.mk hi335_4
         have HC335_4 := za.mk hl335_4
         clear hi335_4 hl335_4
         replace p335 := eq_true p335
         replace q335 := eq_true q335
         have p336 : 0 ≤ (x9_1 : Int) := hFq
         have q336 : x9_1 < (l0_2.length : Int) := hFq
         obtain ⟨ad336,A336_3,c336_3,A336_4,c336_4,e336,hx336_0,hx336_1,hx336_2,hx336_3,hx336_4,hx336_5,hx336_6,hl336_3,hi336_3,hl336_4,hi336_4⟩ := zai (Kd.V_reads' HO_331002.out).2.2 x9_1 p336 q336
         obtain rfl : ad335 = ad336 := (by injection e336)
         obtain ⟨ce336,hce336,hMe336,hcc336⟩ := Kd.V_get HO_331002.out z34 x9_1 p336 (by first | exact q336 | exact hFq | (have e_ := (Kd.V_reads' HO_331002.out).1;omega))
         obtain ⟨ua336_3,uc336_3,ua336_4,uc336_4,rfl,ul336_3,ge336_3,ul336_4,ge336_4⟩ := zbo hMe336
         have hv336_3 := hcc336 3 _ rfl
         rw [zO _ _ 3 (by omega)] at hv336_3
         replace hv336_3 := Option.some.inj (hv336_3.symm.trans hx336_3)
         injection hv336_3 with hva_ hvn_ hvc_
         rw [hva_] at ge336_3
         rw [hvc_] at ul336_3
         have HL336_3 := za.mk (show Kd.V k78 78 _ w.heap.size _ _ ((zd l0_2 x9_1).f1.f2) from Kd.V_mk ul336_3 ge336_3)
         clear hva_ hvn_ hvc_ ge336_3 ul336_3
         have hv336_4 := hcc336 4 _ rfl
         rw [zO _ _ 4 (by omega)] at hv336_4
         replace hv336_4 := Option.some.inj (hv336_4.symm.trans hx336_4)
         injection hv336_4 with hva_ hvn_ hvc_
         rw [hva_] at ge336_4
         rw [hvc_] at ul336_4
         have HL336_4 := za.mk (show Kd.V Kd.string 9 _ w.heap.size _ _ ((zd l0_2 x9_1).f1.f3) from Kd.V_mk ul336_4 ge336_4)
         clear hva_ hvn_ hvc_ ge336_4 ul336_4
         clear hcc336 hce336
         have HR336_3 := za.mk hi336_3
         have HC336_3 := za.mk hl336_3
         clear hi336_3 hl336_3
         have HR336_4 := za.mk hi336_4
         have HC336_4 := za.mk hl336_4
         clear hi336_4 hl336_4
         replace p336 := eq_true p336
         replace q336 := eq_true q336
         have ea_ := Option.some.inj (hx335_3.symm.trans hx336_3)
         injection ea_ with ea_ en_ ec_
         subst ea_
         subst ec_
         clear en_
         have ea_ := Option.some.inj (hx335_4.symm.trans hx336_4)
         injection ea_ with ea_ en_ ec_
         subst ea_
         subst ec_
         clear en_
         go_wp2_with (first | ((with_reducible refine zd3 (b := .append) (xs := #[.tmp 35,.tmp 41]) rfl ?_);at_builtin;refine Kd.N_append k34 (w0 := w) w.heap.size rfl (.tmp 35) (.tmp 41) 22 34 (.agg #[(.string ⟨#[]⟩),(.int .i64 0),(.int .i64 0),(.slice none 0 0),(.slice none 0 0),(.int .i64 0),(.int .i64 0)]) 96 rfl Try.underlying22 zdS rfl (by decide) (by omega) u8 x8_1 (⟨(zd l0_2 x9_1).f0,(⟨(zd l0_2 x9_1).f1.f0,(zd l0_2 x9_1).f1.f1,(zd l0_2 x9_1).f1.f2,(zd l0_2 x9_1).f1.f3,(⟨(zd l0_2 x9_1).f1.f4.f0,(zd l0_2 x9_1).f1.f4.f1⟩ : S30)⟩ : S32)⟩ : S34) [.string ((zd l0_2 x9_1).f0),.int .i64 ((zd l0_2 x9_1).f1.f0),.int .i64 ((zd l0_2 x9_1).f1.f1),.slice A335_3 ((zd l0_2 x9_1).f1.f2).length c335_3,.slice A335_4 ((zd l0_2 x9_1).f1.f3).length c335_4,.int .i64 ((zd l0_2 x9_1).f1.f4.f0),.int .i64 ((zd l0_2 x9_1).f1.f4.f1)] (fun k_ => (P0_2_ k_ ∨ w.heap.size ≤ k_) ∧ some k_ ≠ (.slice (some ad334) t331.length co16 : Value).ownBlock ∧ k_ ≠ gb330) (fun k_ => ((fun k_ => (P0_2_ k_ ∨ w.heap.size ≤ k_) ∧ some k_ ≠ (.slice (some ad334) t331.length co16 : Value).ownBlock ∧ k_ ≠ gb330)) k_ ∧ some k_ ≠ (u8 : Value).ownBlock) rfl rfl ?aP (fun _ hk => hk) ?aF ?aO ?aB ?aS ?aL ?_;(case aP => exact (ze1 _ _ (⟨(zd l0_2 x9_1).f0,(⟨(zd l0_2 x9_1).f1.f0,(zd l0_2 x9_1).f1.f1,(zd l0_2 x9_1).f1.f2,(zd l0_2 x9_1).f1.f3,(⟨(zd l0_2 x9_1).f1.f4.f0,(zd l0_2 x9_1).f1.f4.f1⟩ : S30)⟩ : S32)⟩ : S34) (Kd.V_reads' (Kd.V_mono (ok' := (fun k_ => ((fun k_ => (P0_2_ k_ ∨ w.heap.size ≤ k_) ∧ some k_ ≠ (.slice (some ad334) t331.length co16 : Value).ownBlock ∧ k_ ≠ gb330)) k_ ∧ some k_ ≠ (u8 : Value).ownBlock)) (HL336_3.out) (fun k_ hk => ⟨⟨hk.1,⟨hk.2.1,hk.2.2.2⟩⟩,hk.2.2.1⟩))).2.1 (Kd.V_F (Kd.V_mono (ok' := (fun k_ => ((fun k_ => (P0_2_ k_ ∨ w.heap.size ≤ k_) ∧ some k_ ≠ (.slice (some ad334) t331.length co16 : Value).ownBlock ∧ k_ ≠ gb330)) k_ ∧ some k_ ≠ (u8 : Value).ownBlock)) (HL336_3.out) (fun k_ hk => ⟨⟨hk.1,⟨hk.2.1,hk.2.2.2⟩⟩,hk.2.2.1⟩))) (Kd.V_reads' (Kd.V_mono (ok' := (fun k_ => ((fun k_ => (P0_2_ k_ ∨ w.heap.size ≤ k_) ∧ some k_ ≠ (.slice (some ad334) t331.length co16 : Value).ownBlock ∧ k_ ≠ gb330)) k_ ∧ some k_ ≠ (u8 : Value).ownBlock)) (HL336_4.out) (fun k_ hk => ⟨⟨hk.1,⟨hk.2.1,hk.2.2.2⟩⟩,hk.2.2.1⟩))).2.1 (Kd.V_F (Kd.V_mono (ok' := (fun k_ => ((fun k_ => (P0_2_ k_ ∨ w.heap.size ≤ k_) ∧ some k_ ≠ (.slice (some ad334) t331.length co16 : Value).ownBlock ∧ k_ ≠ gb330)) k_ ∧ some k_ ≠ (u8 : Value).ownBlock)) (HL336_4.out) (fun k_ hk => ⟨⟨hk.1,⟨hk.2.1,hk.2.2.2⟩⟩,hk.2.2.1⟩)))));(case aB => exact hCq);(case aF => exact (fun k_ hk => ⟨(.inr (Nat.le_trans (zj hCq) hk)),Kd.fresh' (Kd.R_lt (hRq HO_7.out)) k_ hk,Kd.freshB (g := gb330) (o := .cells #[.int .i64 a0_0,.int .i64 a0_1,.slice (some ad335) l0_2.length c0_2] 24 (0,0)) (hGq BK330.out) k_ hk⟩));(case aO => exact (by (with_reducible repeat (first | apply Kd.N_alloc | apply Kd.N_drewN | apply Kd.N_drew));exact HO_8.out));(case aS => exact (zj hCq));(case aL => have := LMc14.out;omega);intro v338 w17 ho hb hg hat;rw [← Ny337.out] at ho;have n_ := haq (Kd.R_over' (hRq HO_7.out) (Kd.N_typed (by (with_reducible repeat (first | apply Kd.N_alloc | apply Kd.N_drewN | apply Kd.N_drew));exact HO_8.out)) (by decide) hg) <| haq (Kd.V_afterv (ok := (fun k_ => (P0_2_ k_ ∨ w.heap.size ≤ k_) ∧ some k_ ≠ (.slice (some ad334) t331.length co16 : Value).ownBlock ∧ k_ ≠ gb330)) (by (with_reducible repeat (first | apply Kd.V_alloc | apply Kd.V_drewN | apply Kd.V_drew));exact Kd.V_mono HO_331002.out (fun _ hk => ⟨⟨hk.1,⟨hk.2.1,hk.2.2.2⟩⟩,hk.2.2.1⟩)) hg hat) <| haq (zaJ (g := gb330) (o := .cells #[.int .i64 a0_0,.int .i64 a0_1,.slice (some ad335) l0_2.length c0_2] 24 (0,0)) (hGq BK330.out) hg (Kd.N_ne HO_8.out BK330.out (by decide))) <| haq (Kd.V_afterv (ok := (fun k_ => (P0_2_ k_ ∨ w.heap.size ≤ k_) ∧ some k_ ≠ (.slice (some ad334) t331.length co16 : Value).ownBlock ∧ k_ ≠ gb330)) (by (with_reducible repeat (first | apply Kd.V_alloc | apply Kd.V_drewN | apply Kd.V_drew));exact Kd.V_mono HL335_3.out (fun _ hk => ⟨⟨hk.1,⟨hk.2.1,hk.2.2.2⟩⟩,hk.2.2.1⟩)) hg hat) <| haq (Kd.V_afterv (ok := (fun k_ => (P0_2_ k_ ∨ w.heap.size ≤ k_) ∧ some k_ ≠ (.slice (some ad334) t331.length co16 : Value).ownBlock ∧ k_ ≠ gb330)) (by (with_reducible repeat (first | apply Kd.V_alloc | apply Kd.V_drewN | apply Kd.V_drew));exact Kd.V_mono HL335_4.out (fun _ hk => ⟨⟨hk.1,⟨hk.2.1,hk.2.2.2⟩⟩,hk.2.2.1⟩)) hg hat) <| haq (Kd.V_afterv (ok := (fun k_ => (P0_2_ k_ ∨ w.heap.size ≤ k_) ∧ some k_ ≠ (.slice (some ad334) t331.length co16 : Value).ownBlock ∧ k_ ≠ gb330)) (by (with_reducible repeat (first | apply Kd.V_alloc | apply Kd.V_drewN | apply Kd.V_drew));exact Kd.V_mono HL336_3.out (fun _ hk => ⟨⟨hk.1,⟨hk.2.1,hk.2.2.2⟩⟩,hk.2.2.1⟩)) hg hat) <| haq (Kd.V_afterv (ok := (fun k_ => (P0_2_ k_ ∨ w.heap.size ≤ k_) ∧ some k_ ≠ (.slice (some ad334) t331.length co16 : Value).ownBlock ∧ k_ ≠ gb330)) (by (with_reducible repeat (first | apply Kd.V_alloc | apply Kd.V_drewN | apply Kd.V_drew));exact Kd.V_mono HL336_4.out (fun _ hk => ⟨⟨hk.1,⟨hk.2.1,hk.2.2.2⟩⟩,hk.2.2.1⟩)) hg hat) <| haq (hb) <| haq (ho) <| trivial;clear HO_7 HO_331002 BK330 HL335_3 HL335_4 HL336_3 HL336_4 HB HO_8;obtain ⟨HO_7,HO_331002,BK330,HL335_3,HL335_4,HL336_3,HL336_4,HB,HO339,_⟩ := n_;clear ho hb hg hat))
         go_roundg k1
         case measure => have := HK1.out;omega
         case rel => exact ⟨(y337),(wrap64 (x9_1 + 1)),(hDq),H',⟨by have := HK1.out;omega⟩,⟨by (with_reducible repeat (first | apply Kd.R_alloc | apply Kd.R_drewN | apply Kd.R_drew));exact HO_7.out⟩,⟨by (with_reducible repeat (first | apply Kd.N_alloc | apply Kd.N_drewN | apply Kd.N_drew));exact HO339.out⟩,⟨by (with_reducible repeat (first | apply Kd.V_alloc | apply Kd.V_drewN | apply Kd.V_drew));exact Kd.V_mono HO_331002.out (fun _ hk => ⟨hk.1.1,⟨hk.1.2.1,⟨hk.2,hk.1.2.2⟩⟩⟩)⟩,⟨hGq BK330.out⟩,⟨by repeat (first | (with_reducible first | exact HB.out | apply zi | apply zl | apply zx | refine zm ?_ GE330.out) | exact HB.out)⟩⟩
        ·rw [if_neg c14] at H
         exact absurd H (by simp)
       ·rw [if_neg c13] at H
        have c13b0 : decide (a2 < ((zd l0_2 x9_1).f1.f1)) = false := decide_eq_false c13
        clear c13
        have H' := za.mk H
        clear H
        obtain ⟨hcz18_0,hcz18_1,hcz18_2,hfz18_0,hfz18_1,hfz18_2⟩ := hcq3 BK330.out
        obtain ⟨Ao19,co19,eo19⟩ := Kd.R_slice HO_7.out
        subst eo19
        have p334 : 0 ≤ (x9_1 : Int) := hFq
        have q334 : x9_1 < (t331.length : Int) := hFq
        obtain ⟨ad334,e334,hx334_0⟩ := Kd.at_bool (Kd.R_reads' HO_7.out).2.2 x9_1 p334 q334
        (try rw [← Nbq11.out] at hx334_0)
        cases e334
        replace p334 := eq_true p334
        replace q334 := eq_true q334
        have p335 : 0 ≤ (x9_1 : Int) := hFq
        have q335 : x9_1 < (l0_2.length : Int) := hFq
        obtain ⟨ad335,A335_3,c335_3,A335_4,c335_4,e335,hx335_0,hx335_1,hx335_2,hx335_3,hx335_4,hx335_5,hx335_6,hl335_3,hi335_3,hl335_4,hi335_4⟩ := zai (Kd.V_reads' HO_331002.out).2.2 x9_1 p335 q335
        cases e335
        obtain ⟨ce335,hce335,hMe335,hcc335⟩ := Kd.V_get HO_331002.out z34 x9_1 p335 (by first | exact q335 | exact hFq | (have e_ := (Kd.V_reads' HO_331002.out).1;omega))
        obtain ⟨ua335_3,uc335_3,ua335_4,uc335_4,rfl,ul335_3,ge335_3,ul335_4,ge335_4⟩ := zbo hMe335
        have hv335_3 := hcc335 3 _ rfl
        rw [zO _ _ 3 (by omega)] at hv335_3
        replace hv335_3 := Option.some.inj (hv335_3.symm.trans hx335_3)
        injection hv335_3 with hva_ hvn_ hvc_
        rw [hva_] at ge335_3
        rw [hvc_] at ul335_3
        have HL335_3 := za.mk (show Kd.V k78 78 _ w.heap.size _ _ ((zd l0_2 x9_1).f1.f2) from Kd.V_mk ul335_3 ge335_3)
        clear hva_ hvn_ hvc_ ge335_3 ul335_3
        have hv335_4 := hcc335 4 _ rfl
        rw [zO _ _ 4 (by omega)] at hv335_4
        replace hv335_4 := Option.some.inj (hv335_4.symm.trans hx335_4)
        injection hv335_4 with hva_ hvn_ hvc_
        rw [hva_] at ge335_4
        rw [hvc_] at ul335_4
        have HL335_4 := za.mk (show Kd.V Kd.string 9 _ w.heap.size _ _ ((zd l0_2 x9_1).f1.f3) from Kd.V_mk ul335_4 ge335_4)
        clear hva_ hvn_ hvc_ ge335_4 ul335_4
        clear hcc335 hce335
        have HR335_3 := za.mk hi335_3
        have HC335_3 := za.mk hl335_3
        clear hi335_3 hl335_3
        have HR335_4 := za.mk hi335_4
        have HC335_4 := za.mk hl335_4
        clear hi335_4 hl335_4
        replace p335 := eq_true p335
        replace q335 := eq_true q335
        go_wp2
        go_roundg k1
        case measure => have := HK1.out;omega
        case rel => exact ⟨(x8_1),(wrap64 (x9_1 + 1)),(hDq),H',⟨by have := HK1.out;omega⟩,⟨by (with_reducible repeat (first | apply Kd.R_alloc | apply Kd.R_drewN | apply Kd.R_drew));exact HO_7.out⟩,⟨by (with_reducible repeat (first | apply Kd.N_alloc | apply Kd.N_drewN | apply Kd.N_drew));exact HO_8.out⟩,⟨by (with_reducible repeat (first | apply Kd.V_alloc | apply Kd.V_drewN | apply Kd.V_drew));exact HO_331002.out⟩,⟨hGq BK330.out⟩,⟨by repeat (first | (with_reducible first | exact HB.out | apply zi | apply zl | apply zx | refine zm ?_ GE330.out) | exact HB.out)⟩⟩
      ·replace c12 := Bool.eq_false_iff.mpr c12
       subst c12
       have H1 : (zD.l0 k1 a2 t331 x8_1 (wrap64 (x9_1 + 1)) a0_0 a0_1 l0_2) = some r := by rw [if_neg (show ¬ (false = true) by decide)] at H;exact H
       clear H
       have H := H1
       clear H1
       have H' := za.mk H
       clear H
       obtain ⟨hcz20_0,hcz20_1,hcz20_2,hfz20_0,hfz20_1,hfz20_2⟩ := hcq3 BK330.out
       obtain ⟨Ao21,co21,eo21⟩ := Kd.R_slice HO_7.out
       subst eo21
       have p334 : 0 ≤ (x9_1 : Int) := hFq
       have q334 : x9_1 < (t331.length : Int) := hFq
       obtain ⟨ad334,e334,hx334_0⟩ := Kd.at_bool (Kd.R_reads' HO_7.out).2.2 x9_1 p334 q334
       (try rw [← Nbq11.out] at hx334_0)
       cases e334
       replace p334 := eq_true p334
       replace q334 := eq_true q334
       go_wp2
       go_roundg k1
       case measure => have := HK1.out;omega
       case rel => exact ⟨(x8_1),(wrap64 (x9_1 + 1)),(hDq),H',⟨by have := HK1.out;omega⟩,⟨by (with_reducible repeat (first | apply Kd.R_alloc | apply Kd.R_drewN | apply Kd.R_drew));exact HO_7.out⟩,⟨by (with_reducible repeat (first | apply Kd.N_alloc | apply Kd.N_drewN | apply Kd.N_drew));exact HO_8.out⟩,⟨by (with_reducible repeat (first | apply Kd.V_alloc | apply Kd.V_drewN | apply Kd.V_drew));exact HO_331002.out⟩,⟨hGq BK330.out⟩,⟨by repeat (first | (with_reducible first | exact HB.out | apply zi | apply zl | apply zx | refine zm ?_ GE330.out) | exact HB.out)⟩⟩
     ·rw [if_neg c10] at H
      exact absurd H (by simp)
    ·rw [if_neg c9] at H
     exact absurd H (by simp)
   ·rw [if_neg c8] at H
    have c8b0 : decide (x9_1 < (l0_2.length : Int)) = false := decide_eq_false c8
    clear c8
    obtain rfl := Option.some.inj H
    obtain ⟨hcz22_0,hcz22_1,hcz22_2,hfz22_0,hfz22_1,hfz22_2⟩ := hcq3 BK330.out
    go_wp2
    go_ret
    exact ⟨_,hHq,by (with_reducible repeat (first | apply Kd.N_alloc | apply Kd.N_drewN | apply Kd.N_drew));exact Kd.N_mono HO_8.out (fun _ hk => hk.1),hCq⟩
def zE.l0 : Nat → ByteArray → List Bool → Int → Int → Int → List (S34) → Option (Bool)
 | 0,_,_,_,_,_,_ => none
 | k + 1,x2,x7,x8,x341000,x341001,x341002 => if x8 < (x341002.length : Int) then (if 0 ≤ x8 then (if x8 < (x7.length : Int) then (if zz false x7 x8 = true then (if ((zd x341002 x8).f0).toList = x2.toList then (some true) else (zE.l0 k x2 x7 (wrap64 (x8 + 1)) x341000 x341001 x341002)) else (zE.l0 k x2 x7 (wrap64 (x8 + 1)) x341000 x341001 x341002)) else (none)) else (none)) else (some false)
def zE.f (k : Nat) (a0_0 : Int) (a0_1 : Int) (l0_2 : List (S34)) (a1 : ByteArray) (a2 : ByteArray) : Option (Bool) := (zf.f k a0_0 a0_1 l0_2 a1).bind fun t341 => (zE.l0 k a2 t341 0 a0_0 a0_1 l0_2)
set_option maxHeartbeats 8000000 in
set_option maxRecDepth 100000 in
theorem zE.calls (k : Nat) (a0_0 : Int) (a0_1 : Int) (A0_2 : Option Addr) (c0_2 : Nat) (l0_2 : List (S34)) (a1 : ByteArray) (a2 : ByteArray) (r : Bool) (w : World) (hr0_2 : Kd.C k34 w A0_2 l0_2.length l0_2) (hc0_2 : l0_2.length ≤ c0_2) (h : zE.f k a0_0 a0_1 l0_2 a1 a2 = some r) :
  Calls Try.prog 14 #[.agg #[.int .i64 a0_0,.int .i64 a0_1,.slice A0_2 l0_2.length c0_2],.string a1,.string a2] w fun e w' => e = .returned (.bool r) ∧ Below w.heap.size w w' := by
 have hu24 := Try.underlying24
 have HR0_2 := za.mk hr0_2
 have HC0_2 := za.mk hc0_2
 clear hr0_2 hc0_2
 have HB := za.mk (Below.refl w.heap.size w)
 have H : ((zf.f k a0_0 a0_1 l0_2 a1).bind fun t341 => (zE.l0 k a2 t341 0 a0_0 a0_1 l0_2)) = some r := h
 clear h
 replace H := Option.bind_eq_some_iff.mp H
 obtain ⟨t341,A40,H⟩ := H
 replace H : (zE.l0 k a2 t341 0 a0_0 a0_1 l0_2) = some r := H
 have A4 := za.mk A40
 clear A40
 have H' := za.mk H
 clear H
 go_enter Try.func14,Try.ntmps14
 go_wp2_with (first | ((with_reducible refine zp (N := 3) rfl ?_);refine zn rfl (N := 3) rfl (cs := #[.int .i64 a0_0,.int .i64 a0_1,.slice A0_2 l0_2.length c0_2]) (t := 24) hrq ?_;intro gb340 hg w5 hbox hb;have n_ := haq (zh hBq hb) <| haq (hbox) <| haq ((by rw [hg];exact (zj hBq) : w.heap.size ≤ gb340)) <| haq ((by rw [hg];exact (zj hBq) : w.heap.size ≤ gb340)) <| trivial;clear HB;obtain ⟨HB,BK340,GW340,GE340,_⟩ := n_;clear hb hbox hg;obtain ⟨hcz6_0,hcz6_1,hcz6_2,hfz6_0,hfz6_1,hfz6_2⟩ := hcq3 BK340.out) | ((with_reducible refine zN (f := 27) rfl ?_);refine zaG (some 11) rfl rfl Try.func27 (by kernel_rfl) rfl #[.agg #[.int .i64 a0_0,.int .i64 a0_1,.slice A0_2 l0_2.length c0_2],.string a1] rfl hMq ?_;(with_reducible refine (zf.calls k a0_0 a0_1 _ _ l0_2 a1 t341 _ ?side1 ?side2 A4.out).mono ?_);(case side1 => exact hKq (Kd.C_below HR0_2.out HB.out));(case side2 => exact HC0_2.out);rintro e w7 ⟨v342,rfl,ho0,hb⟩;refine ⟨_,rfl,?_⟩;have n_ := haq (Kd.R_lower ho0 (zj hCq)) <| haq (hbq BK340.out hb) <| haq (zh hCq hb) <| trivial;clear BK340 HB;obtain ⟨HO343,BK340,HB,_⟩ := n_;(try clear hb);(try clear hb2);(try clear hk);(try clear hi);(try clear ho0)))
 go_loopg [8] k (fun kq v8 w' => ∃ (x8_1 : Int),v8 = .int .i64 x8_1 ∧ za (zE.l0 kq a2 t341 x8_1 a0_0 a0_1 l0_2 = some r) ∧ za (kq ≤ k) ∧ za (Kd.R Kd.bool 4 w' w.heap.size (fun _ => True) v342 t341) ∧ za (w'.heap[gb340]? = some (.cells #[.int .i64 a0_0,.int .i64 a0_1,(.slice A0_2 l0_2.length c0_2)] 24 (0,0))) ∧ za (Below w.heap.size w w'))
 case atStart => exact ⟨(0),(hDq),H',⟨Nat.le_refl _⟩,⟨by (with_reducible repeat (first | apply Kd.R_alloc | apply Kd.R_drewN | apply Kd.R_drew));exact HO343.out⟩,⟨hGq BK340.out⟩,⟨by repeat (first | (with_reducible first | exact HB.out | apply zi | apply zl | apply zx | refine zm ?_ GE340.out) | exact HB.out)⟩⟩
 case round =>
  clear H'
  try clear c1;try clear c2;try clear p2;try clear hcz6_0;try clear hcz6_1;try clear hcz6_2;try clear hfz6_0;try clear hfz6_1;try clear hfz6_2
  obtain ⟨x8_1,rfl,HA,HK1,HO_7,BK340,HB⟩ := hrel
  cases gk with
  | zero => exact absurd HA.out (by simp [zE.l0])
  | succ k1 =>
   have H := HA.out
   clear HA
   simp only [zE.l0] at H
   by_cases c8 : x8_1 < (l0_2.length : Int)
   ·rw [if_pos c8] at H
    have c8b0 : decide (x8_1 < (l0_2.length : Int)) = true := decide_eq_true c8
    clear c8
    by_cases c9 : 0 ≤ x8_1
    ·rw [if_pos c9] at H
     have c9b0 : decide (0 ≤ x8_1) = true := decide_eq_true c9
     clear c9
     by_cases c10 : x8_1 < (t341.length : Int)
     ·rw [if_pos c10] at H
      have c10b0 : decide (x8_1 < (t341.length : Int)) = true := decide_eq_true c10
      clear c10
      obtain ⟨bq11,hbq11⟩ : ∃ b_ : Bool,b_ = (zz false t341 x8_1) := ⟨_,rfl⟩
      replace H : (if bq11 = true then (if ((zd l0_2 x8_1).f0).toList = a2.toList then (some true) else (zE.l0 k1 a2 t341 (wrap64 (x8_1 + 1)) a0_0 a0_1 l0_2)) else (zE.l0 k1 a2 t341 (wrap64 (x8_1 + 1)) a0_0 a0_1 l0_2)) = some r := by rw [← hbq11] at H;exact H
      have Nbq11 := za.mk hbq11
      clear hbq11
      by_cases c12 : bq11 = true
      ·subst c12
       have H1 : (if ((zd l0_2 x8_1).f0).toList = a2.toList then (some true) else (zE.l0 k1 a2 t341 (wrap64 (x8_1 + 1)) a0_0 a0_1 l0_2)) = some r := by rw [if_pos rfl] at H;exact H
       clear H
       have H := H1
       clear H1
       by_cases c13 : ((zd l0_2 x8_1).f0).toList = a2.toList
       ·rw [if_pos c13] at H
        have c13b0 : (((zd l0_2 x8_1).f0).toList == a2.toList) = true := beq_iff_eq.mpr c13
        have c13b1 : (((zd l0_2 x8_1).f0).toList != a2.toList) = false := bne_eq_false_iff_eq.mpr c13
        clear c13
        obtain rfl := Option.some.inj H
        obtain ⟨hcz14_0,hcz14_1,hcz14_2,hfz14_0,hfz14_1,hfz14_2⟩ := hcq3 BK340.out
        obtain ⟨Ao15,co15,eo15⟩ := Kd.R_slice HO_7.out
        subst eo15
        have p344 : 0 ≤ (x8_1 : Int) := hFq
        have q344 : x8_1 < (t341.length : Int) := hFq
        obtain ⟨ad344,e344,hx344_0⟩ := Kd.at_bool (Kd.R_reads' HO_7.out).2.2 x8_1 p344 q344
        (try rw [← Nbq11.out] at hx344_0)
        cases e344
        replace p344 := eq_true p344
        replace q344 := eq_true q344
        have p345 : 0 ≤ (x8_1 : Int) := hFq
        have q345 : x8_1 < (l0_2.length : Int) := hFq
        obtain ⟨ad345,A345_3,c345_3,A345_4,c345_4,e345,hx345_0,hx345_1,hx345_2,hx345_3,hx345_4,hx345_5,hx345_6,hl345_3,hi345_3,hl345_4,hi345_4⟩ := zai HR0_2.out x8_1 p345 q345
        cases e345
        replace hx345_0 := (HB.out.cell (World.block_lt_of_cell? w _ hx345_0)).trans hx345_0
        replace hx345_1 := (HB.out.cell (World.block_lt_of_cell? w _ hx345_1)).trans hx345_1
        replace hx345_2 := (HB.out.cell (World.block_lt_of_cell? w _ hx345_2)).trans hx345_2
        replace hx345_3 := (HB.out.cell (World.block_lt_of_cell? w _ hx345_3)).trans hx345_3
        replace hx345_4 := (HB.out.cell (World.block_lt_of_cell? w _ hx345_4)).trans hx345_4
        replace hx345_5 := (HB.out.cell (World.block_lt_of_cell? w _ hx345_5)).trans hx345_5
        replace hx345_6 := (HB.out.cell (World.block_lt_of_cell? w _ hx345_6)).trans hx345_6
        have HR345_3 := za.mk hi345_3
        have HC345_3 := za.mk hl345_3
        clear hi345_3 hl345_3
        have HR345_4 := za.mk hi345_4
        have HC345_4 := za.mk hl345_4
        clear hi345_4 hl345_4
        replace p345 := eq_true p345
        replace q345 := eq_true q345
        go_wp2
        go_ret
        exact ⟨hHq,hCq⟩
       ·rw [if_neg c13] at H
        have c13b0 : (((zd l0_2 x8_1).f0).toList == a2.toList) = false := beq_eq_false_iff_ne.mpr c13
        have c13b1 : (((zd l0_2 x8_1).f0).toList != a2.toList) = true := bne_iff_ne.mpr c13
        have H' := za.mk H
        clear H
        obtain ⟨hcz16_0,hcz16_1,hcz16_2,hfz16_0,hfz16_1,hfz16_2⟩ := hcq3 BK340.out
        obtain ⟨Ao17,co17,eo17⟩ := Kd.R_slice HO_7.out
        subst eo17
        have p344 : 0 ≤ (x8_1 : Int) := hFq
        have q344 : x8_1 < (t341.length : Int) := hFq
        obtain ⟨ad344,e344,hx344_0⟩ := Kd.at_bool (Kd.R_reads' HO_7.out).2.2 x8_1 p344 q344
        (try rw [← Nbq11.out] at hx344_0)
        cases e344
        replace p344 := eq_true p344
        replace q344 := eq_true q344
        have p345 : 0 ≤ (x8_1 : Int) := hFq
        have q345 : x8_1 < (l0_2.length : Int) := hFq
        obtain ⟨ad345,A345_3,c345_3,A345_4,c345_4,e345,hx345_0,hx345_1,hx345_2,hx345_3,hx345_4,hx345_5,hx345_6,hl345_3,hi345_3,hl345_4,hi345_4⟩ := zai HR0_2.out x8_1 p345 q345
        cases e345
        replace hx345_0 := (HB.out.cell (World.block_lt_of_cell? w _ hx345_0)).trans hx345_0
        replace hx345_1 := (HB.out.cell (World.block_lt_of_cell? w _ hx345_1)).trans hx345_1
        replace hx345_2 := (HB.out.cell (World.block_lt_of_cell? w _ hx345_2)).trans hx345_2
        replace hx345_3 := (HB.out.cell (World.block_lt_of_cell? w _ hx345_3)).trans hx345_3
        replace hx345_4 := (HB.out.cell (World.block_lt_of_cell? w _ hx345_4)).trans hx345_4
        replace hx345_5 := (HB.out.cell (World.block_lt_of_cell? w _ hx345_5)).trans hx345_5
        replace hx345_6 := (HB.out.cell (World.block_lt_of_cell? w _ hx345_6)).trans hx345_6
        have HR345_3 := za.mk hi345_3
        have HC345_3 := za.mk hl345_3
        clear hi345_3 hl345_3
        have HR345_4 := za.mk hi345_4
        have HC345_4 := za.mk hl345_4
        clear hi345_4 hl345_4
        replace p345 := eq_true p345
        replace q345 := eq_true q345
        go_wp2
        go_roundg k1
        case measure => have := HK1.out;omega
        case rel => exact ⟨(wrap64 (x8_1 + 1)),(hDq),H',⟨by have := HK1.out;omega⟩,⟨by (with_reducible repeat (first | apply Kd.R_alloc | apply Kd.R_drewN | apply Kd.R_drew));exact HO_7.out⟩,⟨hGq BK340.out⟩,⟨by repeat (first | (with_reducible first | exact HB.out | apply zi | apply zl | apply zx | refine zm ?_ GE340.out) | exact HB.out)⟩⟩
      ·replace c12 := Bool.eq_false_iff.mpr c12
       subst c12
       have H1 : (zE.l0 k1 a2 t341 (wrap64 (x8_1 + 1)) a0_0 a0_1 l0_2) = some r := by rw [if_neg (show ¬ (false = true) by decide)] at H;exact H
       clear H
       have H := H1
       clear H1
       have H' := za.mk H
       clear H
       obtain ⟨hcz18_0,hcz18_1,hcz18_2,hfz18_0,hfz18_1,hfz18_2⟩ := hcq3 BK340.out
       obtain ⟨Ao19,co19,eo19⟩ := Kd.R_slice HO_7.out
       subst eo19
       have p344 : 0 ≤ (x8_1 : Int) := hFq
       have q344 : x8_1 < (t341.length : Int) := hFq
       obtain ⟨ad344,e344,hx344_0⟩ := Kd.at_bool (Kd.R_reads' HO_7.out).2.2 x8_1 p344 q344
       (try rw [← Nbq11.out] at hx344_0)
       cases e344
       replace p344 := eq_true p344
       replace q344 := eq_true q344
       go_wp2
       go_roundg k1
       case measure => have := HK1.out;omega
       case rel => exact ⟨(wrap64 (x8_1 + 1)),(hDq),H',⟨by have := HK1.out;omega⟩,⟨by (with_reducible repeat (first | apply Kd.R_alloc | apply Kd.R_drewN | apply Kd.R_drew));exact HO_7.out⟩,⟨hGq BK340.out⟩,⟨by repeat (first | (with_reducible first | exact HB.out | apply zi | apply zl | apply zx | refine zm ?_ GE340.out) | exact HB.out)⟩⟩
     ·rw [if_neg c10] at H
      exact absurd H (by simp)
    ·rw [if_neg c9] at H
     exact absurd H (by simp)
   ·rw [if_neg c8] at H
    have c8b0 : decide (x8_1 < (l0_2.length : Int)) = false := decide_eq_false c8
    clear c8
    obtain rfl := Option.some.inj H
    obtain ⟨hcz20_0,hcz20_1,hcz20_2,hfz20_0,hfz20_1,hfz20_2⟩ := hcq3 BK340.out
    go_wp2
    go_ret
    exact ⟨hHq,hCq⟩
end Go.Proofs.Ytndjfdakflaggaa.Px