/- Part 28 of 36 of the proof of the law DagAdds: what is proved is the statement at the end of the last part; its conditions are those of the given row. -/
import Derived.Test.YtlkfelmbhldgfaaGreatZDagAddsD
namespace Go.Proofs.YtlkfelmbhldgfaaGreat.Px
open Go.RowKit Go.Proofs.YtlkfelmbhldgfaaGreatW.PrintWords Go.Proofs.YtlkfelmbhldgfaaGreatW.PrintLast Go.Proofs.YtlkfelmbhldgfaaGreatW.PrintMore
attribute [local go_sem] zA zC zH zI zv zw zB zD
set_option linter.unusedVariables false
set_option linter.unusedSimpArgs false
def zR.l0 : Nat → Int → List (S42) → Int → Int → Int → List (S42) → Option ((List (S42)))
 | 0,_,_,_,_,_,_ => none
 | k + 1,x1,x5,x6,x214000,x214001,x214002 => if x6 < (x214002.length : Int) then (if 0 ≤ x6 then (if ((zd x214002 x6).f1.f1) = x1 then (if x5.length < 1466015503701 then (zR.l0 k x1 (x5 ++ [(⟨(zd x214002 x6).f0,(⟨(zd x214002 x6).f1.f0,(zd x214002 x6).f1.f1,(zd x214002 x6).f1.f2,(zd x214002 x6).f1.f3,(⟨(zd x214002 x6).f1.f4.f0,(zd x214002 x6).f1.f4.f1⟩ : S28)⟩ : S30)⟩ : S42)]) (wrap64 (x6 + 1)) x214000 x214001 x214002) else (none)) else (zR.l0 k x1 x5 (wrap64 (x6 + 1)) x214000 x214001 x214002)) else (none)) else (some x5)
def zR.f (k : Nat) (a0_0 : Int) (a0_1 : Int) (l0_2 : List (S42)) (a1 : Int) : Option ((List (S42))) := zR.l0 k a1 ([] : List (S42)) 0 a0_0 a0_1 l0_2
set_option maxHeartbeats 8000000 in
set_option maxRecDepth 100000 in
theorem zR.calls (k : Nat) (a0_0 : Int) (a0_1 : Int) (P0_2_ : Nat → Prop) (A0_2 : Option Addr) (c0_2 : Nat) (l0_2 : List (S42)) (a1 : Int) (r : List (S42)) (w : World) (hs0_2 : Kd.V k42 42 w w.heap.size (fun k_ => P0_2_ k_) (.slice A0_2 l0_2.length c0_2) l0_2) (h : zR.f k a0_0 a0_1 l0_2 a1 = some r) :
  Calls Tryz.prog 40 #[.agg #[.int .i64 a0_0,.int .i64 a0_1,.slice A0_2 l0_2.length c0_2],.int .i64 a1] w fun e w' => ∃ v0_ : Value,e = .returned (v0_) ∧ Kd.N k42 42 w' w.heap.size (fun k_ => (P0_2_ k_ ∨ w.heap.size ≤ k_)) v0_ r ∧ Below w.heap.size w w' := by
 have hu24 := Tryz.underlying24
 have hu42 := Tryz.underlying42
 have HO0_2 := za.mk (show Kd.V k42 42 w w.heap.size (fun k_ => (P0_2_ k_ ∨ w.heap.size ≤ k_)) (.slice A0_2 l0_2.length c0_2) l0_2 from Kd.V_mono hs0_2 (fun k_ hk => .inl hk))
 have HB := za.mk (Below.refl w.heap.size w)
 have H : (zR.l0 k a1 ([] : List (S42)) 0 a0_0 a0_1 l0_2) = some r := h
 clear h
 have H' := za.mk H
 clear H
 go_enter Tryz.func40,Tryz.ntmps40
 go_wp2_with (first | ((with_reducible refine zn (N := 2) rfl ?_);refine zl rfl (N := 2) rfl (cs := #[.int .i64 a0_0,.int .i64 a0_1,.slice A0_2 l0_2.length c0_2]) (t := 24) hrq ?_;intro gb213 hg w3 hbox hb;have n_ := haq (Kd.V_below (Kd.V_elderB (by (with_reducible repeat (first | apply Kd.V_alloc | apply Kd.V_drewN | apply Kd.V_drew));exact HO0_2.out) gb213 (Nat.le_of_eq hg.symm)) hb) <| haq (ze hBq hb) <| haq (hbox) <| haq ((by rw [hg];exact (zg hBq) : w.heap.size ≤ gb213)) <| haq ((by rw [hg];exact (zg hBq) : w.heap.size ≤ gb213)) <| trivial;clear HO0_2 HB;obtain ⟨HO0_2,HB,BK213,GW213,GE213,_⟩ := n_;clear hb hbox hg))
 go_loopg [5,6] k (fun kq v5 v6 w' => ∃ (x5_1 : List (S42)) (x6_1 : Int),v6 = .int .i64 x6_1 ∧ za (zR.l0 kq a1 x5_1 x6_1 a0_0 a0_1 l0_2 = some r) ∧ za (kq ≤ k) ∧ za (Kd.N k42 42 w' w.heap.size (fun k_ => (P0_2_ k_ ∨ w.heap.size ≤ k_) ∧ k_ ≠ gb213) v5 x5_1) ∧ za (Kd.V k42 42 w' w.heap.size (fun k_ => (P0_2_ k_ ∨ w.heap.size ≤ k_) ∧ some k_ ≠ (v5 : Value).ownBlock ∧ k_ ≠ gb213) (.slice A0_2 l0_2.length c0_2) l0_2) ∧ za (w'.heap[gb213]? = some (.cells #[.int .i64 a0_0,.int .i64 a0_1,(.slice A0_2 l0_2.length c0_2)] 24 (0,0))) ∧ za (Below w.heap.size w w'))
 case atStart => exact ⟨(([] : List (S42))),(0),(hDq),H',⟨Nat.le_refl _⟩,⟨by first | exact Kd.R_nil _ _ _ _ _ | exact Kd.N_nil _ _ _ _ _ | exact Kd.V_nil _ _ _ _ _ | exact Kd.Q_nil _ _ _ _ _ | exact Kd.S_nil _ _ _ _ _⟩,⟨by (with_reducible repeat (first | apply Kd.V_alloc | apply Kd.V_drewN | apply Kd.V_drew));exact Kd.V_mono HO0_2.out (fun _ hk => ⟨hk.1,⟨(by simp [Value.ownBlock]),hk.2⟩⟩)⟩,⟨hGq BK213.out⟩,⟨by repeat (first | (with_reducible first | exact HB.out | apply zk | apply zi | apply zo | refine zj ?_ GE213.out) | exact HB.out)⟩⟩
 case round =>
  clear H'
  try clear p2
  obtain ⟨x5_1,x6_1,rfl,HA,HK1,HO_5,HO_214002,BK213,HB⟩ := hrel
  cases gk with
  | zero => exact absurd HA.out (by simp [zR.l0])
  | succ k1 =>
   have H := HA.out
   clear HA
   simp only [zR.l0] at H
   by_cases c4 : x6_1 < (l0_2.length : Int)
   ·rw [if_pos c4] at H
    have c4b0 : decide (x6_1 < (l0_2.length : Int)) = true := decide_eq_true c4
    clear c4
    by_cases c5 : 0 ≤ x6_1
    ·rw [if_pos c5] at H
     have c5b0 : decide (0 ≤ x6_1) = true := decide_eq_true c5
     clear c5
     by_cases c6 : ((zd l0_2 x6_1).f1.f1) = a1
     ·rw [if_pos c6] at H
      have c6b0 : (((zd l0_2 x6_1).f1.f1) == a1) = true := beq_iff_eq.mpr c6
      have c6b1 : (((zd l0_2 x6_1).f1.f1) != a1) = false := bne_eq_false_iff_eq.mpr c6
      clear c6
      by_cases c7 : x5_1.length < 1466015503701
      ·rw [if_pos c7] at H
       have LMc7 := za.mk c7
       clear c7
       obtain ⟨y216,hy216⟩ : ∃ y_ : List (S42),y_ = (x5_1 ++ [(⟨(zd l0_2 x6_1).f0,(⟨(zd l0_2 x6_1).f1.f0,(zd l0_2 x6_1).f1.f1,(zd l0_2 x6_1).f1.f2,(zd l0_2 x6_1).f1.f3,(⟨(zd l0_2 x6_1).f1.f4.f0,(zd l0_2 x6_1).f1.f4.f1⟩ : S28)⟩ : S30)⟩ : S42)]) := ⟨_,rfl⟩
       replace H : (zR.l0 k1 a1 y216 (wrap64 (x6_1 + 1)) a0_0 a0_1 l0_2) = some r := by first | (rw [hy216];with_reducible exact H) | (have H2_ := (Option.bind_some _ _).symm.trans H;rw [hy216];with_reducible exact H2_) | (have H2_ := (Option.bind_some _ _).symm.trans H;with_reducible exact H2_) | with_reducible exact H | (rw [hy216];exact H) | exact H
       have Ny216 := za.mk hy216
       clear hy216
       have H' := za.mk H
       clear H
       obtain ⟨hcz8_0,hcz8_1,hcz8_2,hfz8_0,hfz8_1,hfz8_2⟩ := hcq3 BK213.out
       have p214 : 0 ≤ (x6_1 : Int) := hFq
       have q214 : x6_1 < (l0_2.length : Int) := hFq
       obtain ⟨ad214,A214_3,c214_3,A214_4,c214_4,e214,hx214_0,hx214_1,hx214_2,hx214_3,hx214_4,hx214_5,hx214_6,hl214_3,hi214_3,hl214_4,hi214_4⟩ := zaG (Kd.V_reads' HO_214002.out).2.2 x6_1 p214 q214
       cases e214
       obtain ⟨ce214,hce214,hMe214,hcc214⟩ := Kd.V_get HO_214002.out z42 x6_1 p214 (by first | exact q214 | exact hFq | (have e_ := (Kd.V_reads' HO_214002.out).1;omega))
       obtain ⟨ua214_3,uc214_3,ua214_4,uc214_4,rfl,ul214_3,ge214_3,ul214_4,ge214_4⟩ := zaF hMe214
       have hv214_3 := hcc214 3 _ rfl
       rw [zQ _ _ 3 (by omega)] at hv214_3
       replace hv214_3 := Option.some.inj (hv214_3.symm.trans hx214_3)
       injection hv214_3 with hva_ hvn_ hvc_
       rw [hva_] at ge214_3
       rw [hvc_] at ul214_3
       have HL214_3 := za.mk (show Kd.V k67 67 _ w.heap.size _ _ ((zd l0_2 x6_1).f1.f2) from Kd.V_mk ul214_3 ge214_3)
       clear hva_ hvn_ hvc_ ge214_3 ul214_3
       have hv214_4 := hcc214 4 _ rfl
       rw [zQ _ _ 4 (by omega)] at hv214_4
       replace hv214_4 := Option.some.inj (hv214_4.symm.trans hx214_4)
       injection hv214_4 with hva_ hvn_ hvc_
       rw [hva_] at ge214_4
       rw [hvc_] at ul214_4
       have HL214_4 := za.mk (show Kd.V Kd.string 9 _ w.heap.size _ _ ((zd l0_2 x6_1).f1.f3) from Kd.V_mk ul214_4 ge214_4)
       clear hva_ hvn_ hvc_ ge214_4 ul214_4
       clear hcc214 hce214
       have HR214_3 := za.mk hi214_3
       have HC214_3 := za.mk hl214_3
       clear hi214_3 hl214_3
       have HR214_4 := za.mk hi214_4
       have HC214_4 := za.mk hl214_4
       clear hi214_4 hl214_4
       replace p214 := eq_true p214
       replace q214 := eq_true q214
       have p215 : 0 ≤ (x6_1 : Int) := hFq
       have q215 : x6_1 < (l0_2.length : Int) := hFq
       obtain ⟨ad215,A215_3,c215_3,A215_4,c215_4,e215,hx215_0,hx215_1,hx215_2,hx215_3,hx215_4,hx215_5,hx215_6,hl215_3,hi215_3,hl215_4,hi215_4⟩ := zaG (Kd.V_reads' HO_214002.out).2.2 x6_1 p215 q215
       obtain rfl : ad214 = ad215 := (by injection e215)
       obtain ⟨ce215,hce215,hMe215,hcc215⟩ := Kd.V_get HO_214002.out z42 x6_1 p215 (by first | exact q215 | exact hFq | (have e_ := (Kd.V_reads' HO_214002.out).1;omega))
       obtain ⟨ua215_3,uc215_3,ua215_4,uc215_4,rfl,ul215_3,ge215_3,ul215_4,ge215_4⟩ := zaF hMe215
       have hv215_3 := hcc215 3 _ rfl
       rw [zQ _ _ 3 (by omega)] at hv215_3
       replace hv215_3 := Option.some.inj (hv215_3.symm.trans hx215_3)
       injection hv215_3 with hva_ hvn_ hvc_
       rw [hva_] at ge215_3
       rw [hvc_] at ul215_3
       have HL215_3 := za.mk (show Kd.V k67 67 _ w.heap.size _ _ ((zd l0_2 x6_1).f1.f2) from Kd.V_mk ul215_3 ge215_3)
       clear hva_ hvn_ hvc_ ge215_3 ul215_3
       have hv215_4 := hcc215 4 _ rfl
       rw [zQ _ _ 4 (by omega)] at hv215_4
       replace hv215_4 := Option.some.inj (hv215_4.symm.trans hx215_4)
       injection hv215_4 with hva_ hvn_ hvc_
       rw [hva_] at ge215_4
       rw [hvc_] at ul215_4
       have HL215_4 := za.mk (show Kd.V Kd.string 9 _ w.heap.size _ _ ((zd l0_2 x6_1).f1.f3) from Kd.V_mk ul215_4 ge215_4)
       clear hva_ hvn_ hvc_ ge215_4 ul215_4
       clear hcc215 hce215
       have HR215_3 := za.mk hi215_3
       have HC215_3 := za.mk hl215_3
       clear hi215_3 hl215_3
       have HR215_4 := za.mk hi215_4
       have HC215_4 := za.mk hl215_4
       clear hi215_4 hl215_4
       replace p215 := eq_true p215
       replace q215 := eq_true q215
       have ea_ := Option.some.inj (hx214_3.symm.trans hx215_3)
       injection ea_ with ea_ en_ ec_
       subst ea_
       subst ec_
       clear en_
       have ea_ := Option.some.inj (hx214_4.symm.trans hx215_4)
       injection ea_ with ea_ en_ ec_
       subst ea_
       subst ec_
       clear en_
       go_wp2_with (first | ((with_reducible refine zaZ (b := .append) (xs := #[.tmp 23,.tmp 29]) rfl ?_);at_builtin;refine Kd.N_append k42 (w0 := w) w.heap.size rfl (.tmp 23) (.tmp 29) 22 42 (.agg #[(.string ⟨#[]⟩),(.int .i64 0),(.int .i64 0),(.slice none 0 0),(.slice none 0 0),(.int .i64 0),(.int .i64 0)]) 96 rfl Tryz.underlying22 zb0 rfl (by decide) (by omega) u5 x5_1 (⟨(zd l0_2 x6_1).f0,(⟨(zd l0_2 x6_1).f1.f0,(zd l0_2 x6_1).f1.f1,(zd l0_2 x6_1).f1.f2,(zd l0_2 x6_1).f1.f3,(⟨(zd l0_2 x6_1).f1.f4.f0,(zd l0_2 x6_1).f1.f4.f1⟩ : S28)⟩ : S30)⟩ : S42) [.string ((zd l0_2 x6_1).f0),.int .i64 ((zd l0_2 x6_1).f1.f0),.int .i64 ((zd l0_2 x6_1).f1.f1),.slice A214_3 ((zd l0_2 x6_1).f1.f2).length c214_3,.slice A214_4 ((zd l0_2 x6_1).f1.f3).length c214_4,.int .i64 ((zd l0_2 x6_1).f1.f4.f0),.int .i64 ((zd l0_2 x6_1).f1.f4.f1)] (fun k_ => (P0_2_ k_ ∨ w.heap.size ≤ k_) ∧ k_ ≠ gb213) (fun k_ => ((fun k_ => (P0_2_ k_ ∨ w.heap.size ≤ k_) ∧ k_ ≠ gb213)) k_ ∧ some k_ ≠ (u5 : Value).ownBlock) rfl rfl ?aP (fun _ hk => hk) ?aF ?aO ?aB ?aS ?aL ?_;(case aP => exact (zex _ _ (⟨(zd l0_2 x6_1).f0,(⟨(zd l0_2 x6_1).f1.f0,(zd l0_2 x6_1).f1.f1,(zd l0_2 x6_1).f1.f2,(zd l0_2 x6_1).f1.f3,(⟨(zd l0_2 x6_1).f1.f4.f0,(zd l0_2 x6_1).f1.f4.f1⟩ : S28)⟩ : S30)⟩ : S42) (Kd.V_reads' (Kd.V_mono (ok' := (fun k_ => ((fun k_ => (P0_2_ k_ ∨ w.heap.size ≤ k_) ∧ k_ ≠ gb213)) k_ ∧ some k_ ≠ (u5 : Value).ownBlock)) (HL215_3.out) (fun k_ hk => ⟨⟨hk.1,hk.2.2⟩,hk.2.1⟩))).2.1 (Kd.V_F (Kd.V_mono (ok' := (fun k_ => ((fun k_ => (P0_2_ k_ ∨ w.heap.size ≤ k_) ∧ k_ ≠ gb213)) k_ ∧ some k_ ≠ (u5 : Value).ownBlock)) (HL215_3.out) (fun k_ hk => ⟨⟨hk.1,hk.2.2⟩,hk.2.1⟩))) (Kd.V_reads' (Kd.V_mono (ok' := (fun k_ => ((fun k_ => (P0_2_ k_ ∨ w.heap.size ≤ k_) ∧ k_ ≠ gb213)) k_ ∧ some k_ ≠ (u5 : Value).ownBlock)) (HL215_4.out) (fun k_ hk => ⟨⟨hk.1,hk.2.2⟩,hk.2.1⟩))).2.1 (Kd.V_F (Kd.V_mono (ok' := (fun k_ => ((fun k_ => (P0_2_ k_ ∨ w.heap.size ≤ k_) ∧ k_ ≠ gb213)) k_ ∧ some k_ ≠ (u5 : Value).ownBlock)) (HL215_4.out) (fun k_ hk => ⟨⟨hk.1,hk.2.2⟩,hk.2.1⟩)))));(case aB => exact hCq);(case aF => exact (fun k_ hk => ⟨(.inr (Nat.le_trans (zg hCq) hk)),Kd.freshB (g := gb213) (o := .cells #[.int .i64 a0_0,.int .i64 a0_1,.slice (some ad214) l0_2.length c0_2] 24 (0,0)) (hGq BK213.out) k_ hk⟩));(case aO => exact (by (with_reducible repeat (first | apply Kd.N_alloc | apply Kd.N_drewN | apply Kd.N_drew));exact HO_5.out));(case aS => exact (zg hCq));(case aL => have := LMc7.out;omega);intro v217 w9 ho hb hg hat;rw [← Ny216.out] at ho;have n_ := haq (Kd.V_afterv (ok := (fun k_ => (P0_2_ k_ ∨ w.heap.size ≤ k_) ∧ k_ ≠ gb213)) (by (with_reducible repeat (first | apply Kd.V_alloc | apply Kd.V_drewN | apply Kd.V_drew));exact Kd.V_mono HO_214002.out (fun _ hk => ⟨⟨hk.1,hk.2.2⟩,hk.2.1⟩)) hg hat) <| haq (zaE (g := gb213) (o := .cells #[.int .i64 a0_0,.int .i64 a0_1,.slice (some ad214) l0_2.length c0_2] 24 (0,0)) (hGq BK213.out) hg (Kd.N_ne HO_5.out BK213.out (by decide))) <| haq (Kd.V_afterv (ok := (fun k_ => (P0_2_ k_ ∨ w.heap.size ≤ k_) ∧ k_ ≠ gb213)) (by (with_reducible repeat (first | apply Kd.V_alloc | apply Kd.V_drewN | apply Kd.V_drew));exact Kd.V_mono HL214_3.out (fun _ hk => ⟨⟨hk.1,hk.2.2⟩,hk.2.1⟩)) hg hat) <| haq (Kd.V_afterv (ok := (fun k_ => (P0_2_ k_ ∨ w.heap.size ≤ k_) ∧ k_ ≠ gb213)) (by (with_reducible repeat (first | apply Kd.V_alloc | apply Kd.V_drewN | apply Kd.V_drew));exact Kd.V_mono HL214_4.out (fun _ hk => ⟨⟨hk.1,hk.2.2⟩,hk.2.1⟩)) hg hat) <| haq (Kd.V_afterv (ok := (fun k_ => (P0_2_ k_ ∨ w.heap.size ≤ k_) ∧ k_ ≠ gb213)) (by (with_reducible repeat (first | apply Kd.V_alloc | apply Kd.V_drewN | apply Kd.V_drew));exact Kd.V_mono HL215_3.out (fun _ hk => ⟨⟨hk.1,hk.2.2⟩,hk.2.1⟩)) hg hat) <| haq (Kd.V_afterv (ok := (fun k_ => (P0_2_ k_ ∨ w.heap.size ≤ k_) ∧ k_ ≠ gb213)) (by (with_reducible repeat (first | apply Kd.V_alloc | apply Kd.V_drewN | apply Kd.V_drew));exact Kd.V_mono HL215_4.out (fun _ hk => ⟨⟨hk.1,hk.2.2⟩,hk.2.1⟩)) hg hat) <| haq (hb) <| haq (ho) <| trivial;clear HO_214002 BK213 HL214_3 HL214_4 HL215_3 HL215_4 HB HO_5;obtain ⟨HO_214002,BK213,HL214_3,HL214_4,HL215_3,HL215_4,HB,HO218,_⟩ := n_;clear ho hb hg hat))
       go_roundg k1
       case measure => have := HK1.out;omega
       case rel => exact ⟨(y216),(wrap64 (x6_1 + 1)),(hDq),H',⟨by have := HK1.out;omega⟩,⟨by (with_reducible repeat (first | apply Kd.N_alloc | apply Kd.N_drewN | apply Kd.N_drew));exact HO218.out⟩,⟨by (with_reducible repeat (first | apply Kd.V_alloc | apply Kd.V_drewN | apply Kd.V_drew));exact Kd.V_mono HO_214002.out (fun _ hk => ⟨hk.1.1,⟨hk.2,hk.1.2⟩⟩)⟩,⟨hGq BK213.out⟩,⟨by repeat (first | (with_reducible first | exact HB.out | apply zk | apply zi | apply zo | refine zj ?_ GE213.out) | exact HB.out)⟩⟩
      ·rw [if_neg c7] at H
       exact absurd H (by simp)
     ·rw [if_neg c6] at H
      have c6b0 : (((zd l0_2 x6_1).f1.f1) == a1) = false := beq_eq_false_iff_ne.mpr c6
      have c6b1 : (((zd l0_2 x6_1).f1.f1) != a1) = true := bne_iff_ne.mpr c6
      have H' := za.mk H
      clear H
      obtain ⟨hcz10_0,hcz10_1,hcz10_2,hfz10_0,hfz10_1,hfz10_2⟩ := hcq3 BK213.out
      have p214 : 0 ≤ (x6_1 : Int) := hFq
      have q214 : x6_1 < (l0_2.length : Int) := hFq
      obtain ⟨ad214,A214_3,c214_3,A214_4,c214_4,e214,hx214_0,hx214_1,hx214_2,hx214_3,hx214_4,hx214_5,hx214_6,hl214_3,hi214_3,hl214_4,hi214_4⟩ := zaG (Kd.V_reads' HO_214002.out).2.2 x6_1 p214 q214
      cases e214
      obtain ⟨ce214,hce214,hMe214,hcc214⟩ := Kd.V_get HO_214002.out z42 x6_1 p214 (by first | exact q214 | exact hFq | (have e_ := (Kd.V_reads' HO_214002.out).1;omega))
      obtain ⟨ua214_3,uc214_3,ua214_4,uc214_4,rfl,ul214_3,ge214_3,ul214_4,ge214_4⟩ := zaF hMe214
      have hv214_3 := hcc214 3 _ rfl
      rw [zQ _ _ 3 (by omega)] at hv214_3
      replace hv214_3 := Option.some.inj (hv214_3.symm.trans hx214_3)
      injection hv214_3 with hva_ hvn_ hvc_
      rw [hva_] at ge214_3
      rw [hvc_] at ul214_3
      have HL214_3 := za.mk (show Kd.V k67 67 _ w.heap.size _ _ ((zd l0_2 x6_1).f1.f2) from Kd.V_mk ul214_3 ge214_3)
      clear hva_ hvn_ hvc_ ge214_3 ul214_3
      have hv214_4 := hcc214 4 _ rfl
      rw [zQ _ _ 4 (by omega)] at hv214_4
      replace hv214_4 := Option.some.inj (hv214_4.symm.trans hx214_4)
      injection hv214_4 with hva_ hvn_ hvc_
      rw [hva_] at ge214_4
      rw [hvc_] at ul214_4
      have HL214_4 := za.mk (show Kd.V Kd.string 9 _ w.heap.size _ _ ((zd l0_2 x6_1).f1.f3) from Kd.V_mk ul214_4 ge214_4)
      clear hva_ hvn_ hvc_ ge214_4 ul214_4
      clear hcc214 hce214
      have HR214_3 := za.mk hi214_3
      have HC214_3 := za.mk hl214_3
      clear hi214_3 hl214_3
      have HR214_4 := za.mk hi214_4
      have HC214_4 := za.mk hl214_4
      clear hi214_4 hl214_4
      replace p214 := eq_true p214
      replace q214 := eq_true q214
      go_wp2
      go_roundg k1
      case measure => have := HK1.out;omega
      case rel => exact ⟨(x5_1),(wrap64 (x6_1 + 1)),(hDq),H',⟨by have := HK1.out;omega⟩,⟨by (with_reducible repeat (first | apply Kd.N_alloc | apply Kd.N_drewN | apply Kd.N_drew));exact HO_5.out⟩,⟨by (with_reducible repeat (first | apply Kd.V_alloc | apply Kd.V_drewN | apply Kd.V_drew));exact HO_214002.out⟩,⟨hGq BK213.out⟩,⟨by repeat (first | (with_reducible first | exact HB.out | apply zk | apply zi | apply zo | refine zj ?_ GE213.out) | exact HB.out)⟩⟩
    ·rw [if_neg c5] at H
     exact absurd H (by simp)
   ·rw [if_neg c4] at H
    have c4b0 : decide (x6_1 < (l0_2.length : Int)) = false := decide_eq_false c4
    clear c4
    obtain rfl := Option.some.inj H
    obtain ⟨hcz11_0,hcz11_1,hcz11_2,hfz11_0,hfz11_1,hfz11_2⟩ := hcq3 BK213.out
    go_wp2
    go_ret
    exact ⟨_,hHq,by (with_reducible repeat (first | apply Kd.N_alloc | apply Kd.N_drewN | apply Kd.N_drew));exact Kd.N_mono HO_5.out (fun _ hk => hk.1),hCq⟩
end Go.Proofs.YtlkfelmbhldgfaaGreat.Px