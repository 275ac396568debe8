/- Part 29 of 33 of the proof of the law DagRounds: what is proved is the statement at the end of the last part; its conditions are those of the given row. -/
import Derived.Test.YtklhjlaofkngcaaZDagRoundsD
namespace Go.Proofs.Ytklhjlaofkngcaa.Px
open Go.RowKit Go.Proofs.YtklhjlaofkngcaaW.PrintWords Go.Proofs.YtklhjlaofkngcaaW.PrintLast Go.Proofs.YtklhjlaofkngcaaW.PrintMore
attribute [local go_sem] zG zI zM zN zB zC zH zJ
set_option linter.unusedVariables false
set_option linter.unusedSimpArgs false
def zax.f (a0_0 : Int) (a0_1 : Int) (l0_2 : List (S72)) (l0_3 : List ByteArray) (a0_4 : Int) (a0_5 : Int) (a1_0 : Int) (a1_1 : Int) (l1_2 : List (S72)) (l1_3 : List ByteArray) (a1_4 : Int) (a1_5 : Int) : Option (Bool) := if a0_1 = a1_1 then (some (decide (a0_0 < a1_0))) else (some (decide (a0_1 < a1_1)))
set_option maxHeartbeats 8000000 in
set_option maxRecDepth 100000 in
theorem zax.calls (a0_0 : Int) (a0_1 : Int) (A0_2 : Option Addr) (c0_2 : Nat) (l0_2 : List (S72)) (A0_3 : Option Addr) (c0_3 : Nat) (l0_3 : List ByteArray) (a0_4 : Int) (a0_5 : Int) (a1_0 : Int) (a1_1 : Int) (A1_2 : Option Addr) (c1_2 : Nat) (l1_2 : List (S72)) (A1_3 : Option Addr) (c1_3 : Nat) (l1_3 : List ByteArray) (a1_4 : Int) (a1_5 : Int) (r : Bool) (w : World) (hr0_2 : Kd.C k72 w A0_2 l0_2.length l0_2) (hc0_2 : l0_2.length ≤ c0_2) (hr0_3 : Kd.C Kd.string w A0_3 l0_3.length l0_3) (hc0_3 : l0_3.length ≤ c0_3) (hr1_2 : Kd.C k72 w A1_2 l1_2.length l1_2) (hc1_2 : l1_2.length ≤ c1_2) (hr1_3 : Kd.C Kd.string w A1_3 l1_3.length l1_3) (hc1_3 : l1_3.length ≤ c1_3) (h : zax.f a0_0 a0_1 l0_2 l0_3 a0_4 a0_5 a1_0 a1_1 l1_2 l1_3 a1_4 a1_5 = some r) :
  Calls Try.prog 34 #[.agg #[.int .i64 a0_0,.int .i64 a0_1,.slice A0_2 l0_2.length c0_2,.slice A0_3 l0_3.length c0_3,.int .i64 a0_4,.int .i64 a0_5],.agg #[.int .i64 a1_0,.int .i64 a1_1,.slice A1_2 l1_2.length c1_2,.slice A1_3 l1_3.length c1_3,.int .i64 a1_4,.int .i64 a1_5]] w fun e w' => e = .returned (.bool r) ∧ Below w.heap.size w w' := by
 have hu30 := Try.underlying30
 have HR0_2 := za.mk hr0_2
 have HC0_2 := za.mk hc0_2
 clear hr0_2 hc0_2
 have HR0_3 := za.mk hr0_3
 have HC0_3 := za.mk hc0_3
 clear hr0_3 hc0_3
 have HR1_2 := za.mk hr1_2
 have HC1_2 := za.mk hc1_2
 clear hr1_2 hc1_2
 have HR1_3 := za.mk hr1_3
 have HC1_3 := za.mk hc1_3
 clear hr1_3 hc1_3
 have HB := za.mk (Below.refl w.heap.size w)
 have H : (if a0_1 = a1_1 then (some (decide (a0_0 < a1_0))) else (some (decide (a0_1 < a1_1)))) = some r := h
 clear h
 by_cases c3 : a0_1 = a1_1
 ·rw [if_pos c3] at H
  have c3b0 : (a0_1 == a1_1) = true := beq_iff_eq.mpr c3
  have c3b1 : (a0_1 != a1_1) = false := bne_eq_false_iff_eq.mpr c3
  clear c3
  obtain rfl := Option.some.inj H
  go_enter Try.func34,Try.ntmps34
  go_wp2_with (first | ((with_reducible refine zv (N := 2) rfl ?_);refine zr ?hg (N := 2) ?hd (cs := #[.int .i64 a0_0,.int .i64 a0_1,.slice A0_2 l0_2.length c0_2,.slice A0_3 l0_3.length c0_3,.int .i64 a0_4,.int .i64 a0_5]) (t := 30) ?hr ?_;(case hd => rfl);(case hg => rfl);(case hr => first | (go_simp;done) | (go_simp;rfl));intro gb247 hg w4 hbox hb;have n_ := haq (ze hBq hb) <| haq (hbox) <| haq ((by rw [hg];exact (zh hBq) : w.heap.size ≤ gb247)) <| haq ((by rw [hg];exact (zh hBq) : w.heap.size ≤ gb247)) <| trivial;clear HB;obtain ⟨HB,BK247,GW247,GE247,_⟩ := n_;clear hb hbox hg) | ((with_reducible refine zv (N := 3) rfl ?_);refine zr ?hg (N := 3) ?hd (cs := #[.int .i64 a1_0,.int .i64 a1_1,.slice A1_2 l1_2.length c1_2,.slice A1_3 l1_3.length c1_3,.int .i64 a1_4,.int .i64 a1_5]) (t := 30) ?hr ?_;(case hd => rfl);(case hg => rfl);(case hr => first | (go_simp;done) | (go_simp;rfl));intro gb248 hg w5 hbox hb;have n_ := haq (hbq BK247.out hb) <| haq (ze hCq hb) <| haq (hbox) <| haq ((by rw [hg];exact (zh hCq) : w.heap.size ≤ gb248)) <| haq ((by rw [hg];exact (zh hCq) : w.heap.size ≤ gb248)) <| haq (hnq hg BK247.out) <| haq (hmq hg BK247.out) <| trivial;clear BK247 HB;obtain ⟨BK247,HB,BK248,GW248,GE248,NB247_248,NB248_247,_⟩ := n_;clear hb hbox hg;have hnb6 := NB247_248.out;have hnc6 := NB248_247.out;obtain ⟨hcz7_0,hcz7_1,hcz7_2,hcz7_3,hcz7_4,hcz7_5,hfz7_0,hfz7_1,hfz7_2,hfz7_3,hfz7_4,hfz7_5⟩ := hcq6 BK247.out;obtain ⟨hcz8_0,hcz8_1,hcz8_2,hcz8_3,hcz8_4,hcz8_5,hfz8_0,hfz8_1,hfz8_2,hfz8_3,hfz8_4,hfz8_5⟩ := hcq6 BK248.out))
  go_ret
  exact ⟨hHq,hCq⟩
 ·rw [if_neg c3] at H
  have c3b0 : (a0_1 == a1_1) = false := beq_eq_false_iff_ne.mpr c3
  have c3b1 : (a0_1 != a1_1) = true := bne_iff_ne.mpr c3
  obtain rfl := Option.some.inj H
  go_enter Try.func34,Try.ntmps34
  go_wp2_with (first | ((with_reducible refine zv (N := 2) rfl ?_);refine zr ?hg (N := 2) ?hd (cs := #[.int .i64 a0_0,.int .i64 a0_1,.slice A0_2 l0_2.length c0_2,.slice A0_3 l0_3.length c0_3,.int .i64 a0_4,.int .i64 a0_5]) (t := 30) ?hr ?_;(case hd => rfl);(case hg => rfl);(case hr => first | (go_simp;done) | (go_simp;rfl));intro gb247 hg w9 hbox hb;have n_ := haq (ze hBq hb) <| haq (hbox) <| haq ((by rw [hg];exact (zh hBq) : w.heap.size ≤ gb247)) <| haq ((by rw [hg];exact (zh hBq) : w.heap.size ≤ gb247)) <| trivial;clear HB;obtain ⟨HB,BK247,GW247,GE247,_⟩ := n_;clear hb hbox hg) | ((with_reducible refine zv (N := 3) rfl ?_);refine zr ?hg (N := 3) ?hd (cs := #[.int .i64 a1_0,.int .i64 a1_1,.slice A1_2 l1_2.length c1_2,.slice A1_3 l1_3.length c1_3,.int .i64 a1_4,.int .i64 a1_5]) (t := 30) ?hr ?_;(case hd => rfl);(case hg => rfl);(case hr => first | (go_simp;done) | (go_simp;rfl));intro gb248 hg w10 hbox hb;have n_ := haq (hbq BK247.out hb) <| haq (ze hCq hb) <| haq (hbox) <| haq ((by rw [hg];exact (zh hCq) : w.heap.size ≤ gb248)) <| haq ((by rw [hg];exact (zh hCq) : w.heap.size ≤ gb248)) <| haq (hnq hg BK247.out) <| haq (hmq hg BK247.out) <| trivial;clear BK247 HB;obtain ⟨BK247,HB,BK248,GW248,GE248,NB247_248,NB248_247,_⟩ := n_;clear hb hbox hg;have hnb11 := NB247_248.out;have hnc11 := NB248_247.out;obtain ⟨hcz12_0,hcz12_1,hcz12_2,hcz12_3,hcz12_4,hcz12_5,hfz12_0,hfz12_1,hfz12_2,hfz12_3,hfz12_4,hfz12_5⟩ := hcq6 BK247.out;obtain ⟨hcz13_0,hcz13_1,hcz13_2,hcz13_3,hcz13_4,hcz13_5,hfz13_0,hfz13_1,hfz13_2,hfz13_3,hfz13_4,hfz13_5⟩ := hcq6 BK248.out))
  go_ret
  exact ⟨hHq,hCq⟩
def zU.l0 : Nat → Int → List (S36) → Int → Int → Int → List (S36) → Option ((List (S36)))
 | 0,_,_,_,_,_,_ => none
 | k + 1,x1,x5,x6,x185000,x185001,x185002 => if x6 < (x185002.length : Int) then (if 0 ≤ x6 then (if ((zd x185002 x6).f1.f1) = x1 then (if x5.length < 1466015503701 then (zU.l0 k x1 (x5 ++ [(⟨(zd x185002 x6).f0,(⟨(zd x185002 x6).f1.f0,(zd x185002 x6).f1.f1,(zd x185002 x6).f1.f2,(zd x185002 x6).f1.f3,(⟨(zd x185002 x6).f1.f4.f0,(zd x185002 x6).f1.f4.f1⟩ : S28)⟩ : S30)⟩ : S36)]) (wrap64 (x6 + 1)) x185000 x185001 x185002) else (none)) else (zU.l0 k x1 x5 (wrap64 (x6 + 1)) x185000 x185001 x185002)) else (none)) else (some x5)
def zU.f (k : Nat) (a0_0 : Int) (a0_1 : Int) (l0_2 : List (S36)) (a1 : Int) : Option ((List (S36))) := zU.l0 k a1 ([] : List (S36)) 0 a0_0 a0_1 l0_2
set_option maxHeartbeats 8000000 in
set_option maxRecDepth 100000 in
theorem zU.calls (k : Nat) (a0_0 : Int) (a0_1 : Int) (P0_2_ : Nat → Prop) (A0_2 : Option Addr) (c0_2 : Nat) (l0_2 : List (S36)) (a1 : Int) (r : List (S36)) (w : World) (hs0_2 : Kd.V k36 36 w w.heap.size (fun k_ => P0_2_ k_) (.slice A0_2 l0_2.length c0_2) l0_2) (h : zU.f k a0_0 a0_1 l0_2 a1 = some r) :
  Calls Try.prog 16 #[.agg #[.int .i64 a0_0,.int .i64 a0_1,.slice A0_2 l0_2.length c0_2],.int .i64 a1] w fun e w' => ∃ v0_ : Value,e = .returned (v0_) ∧ Kd.N k36 36 w' w.heap.size (fun k_ => (P0_2_ k_ ∨ w.heap.size ≤ k_)) v0_ r ∧ Below w.heap.size w w' := by
 have hu24 := Try.underlying24
 have hu36 := Try.underlying36
 have HO0_2 := za.mk (show Kd.V k36 36 w w.heap.size (fun k_ => (P0_2_ k_ ∨ w.heap.size ≤ k_)) (.slice A0_2 l0_2.length c0_2) l0_2 from Kd.V_mono hs0_2 (fun k_ hk => .inl hk))
 have HB := za.mk (Below.refl w.heap.size w)
 have H : (zU.l0 k a1 ([] : List (S36)) 0 a0_0 a0_1 l0_2) = some r := h
 clear h
 have H' := za.mk H
 clear H
 go_enter Try.func16,Try.ntmps16
 go_wp2_with (first | ((with_reducible refine zv (N := 2) rfl ?_);refine zr ?hg (N := 2) ?hd (cs := #[.int .i64 a0_0,.int .i64 a0_1,.slice A0_2 l0_2.length c0_2]) (t := 24) ?hr ?_;(case hd => rfl);(case hg => rfl);(case hr => first | (go_simp;done) | (go_simp;rfl));intro gb184 hg w3 hbox hb;have n_ := haq (Kd.V_below (Kd.V_elderB (by (with_reducible repeat (first | apply Kd.V_alloc | apply Kd.V_drewN | apply Kd.V_drew));exact HO0_2.out) gb184 (Nat.le_of_eq hg.symm)) hb) <| haq (ze hBq hb) <| haq (hbox) <| haq ((by rw [hg];exact (zh hBq) : w.heap.size ≤ gb184)) <| haq ((by rw [hg];exact (zh hBq) : w.heap.size ≤ gb184)) <| trivial;clear HO0_2 HB;obtain ⟨HO0_2,HB,BK184,GW184,GE184,_⟩ := n_;clear hb hbox hg))
 go_loopg [5,6] k (fun kq v5 v6 w' => ∃ (x5_1 : List (S36)) (x6_1 : Int),v6 = .int .i64 x6_1 ∧ za (zU.l0 kq a1 x5_1 x6_1 a0_0 a0_1 l0_2 = some r) ∧ za (kq ≤ k) ∧ za (Kd.N k36 36 w' w.heap.size (fun k_ => (P0_2_ k_ ∨ w.heap.size ≤ k_) ∧ k_ ≠ gb184) v5 x5_1) ∧ za (Kd.V k36 36 w' w.heap.size (fun k_ => (P0_2_ k_ ∨ w.heap.size ≤ k_) ∧ some k_ ≠ (v5 : Value).ownBlock ∧ k_ ≠ gb184) (.slice A0_2 l0_2.length c0_2) l0_2) ∧ za (w'.heap[gb184]? = some (.cells #[.int .i64 a0_0,.int .i64 a0_1,(.slice A0_2 l0_2.length c0_2)] 24 (0,0))) ∧ za (Below w.heap.size w w'))
 case atStart => exact ⟨(([] : List (S36))),(0),(hDq),H',⟨Nat.le_refl _⟩,⟨by first | exact Kd.R_nil _ _ _ _ _ | exact Kd.N_nil _ _ _ _ _ | exact Kd.V_nil _ _ _ _ _ | exact Kd.Q_nil _ _ _ _ _ | exact Kd.S_nil _ _ _ _ _⟩,⟨by (with_reducible repeat (first | apply Kd.V_alloc | apply Kd.V_drewN | apply Kd.V_drew));exact Kd.V_mono HO0_2.out (fun _ hk => ⟨hk.1,⟨(by simp [Value.ownBlock]),hk.2⟩⟩)⟩,⟨hGq BK184.out⟩,⟨by repeat (first | (with_reducible first | exact HB.out | apply zk | apply zi | apply zt | refine zm ?_ GE184.out) | exact HB.out)⟩⟩
 case round =>
  clear H'
  try clear c1;try clear p2
  obtain ⟨x5_1,x6_1,rfl,HA,HK1,HO_5,HO_185002,BK184,HB⟩ := hrel
  cases gk with
  | zero => exact absurd HA.out (by simp [zU.l0])
  | succ k1 =>
   have H := HA.out
   clear HA
   simp only [zU.l0] at H
   by_cases c4 : x6_1 < (l0_2.length : Int)
   ·rw [if_pos c4] at H
    have c4b0 : decide (x6_1 < (l0_2.length : Int)) = true := decide_eq_true c4
    clear c4
    by_cases c5 : 0 ≤ x6_1
    ·rw [if_pos c5] at H
     have c5b0 : decide (0 ≤ x6_1) = true := decide_eq_true c5
     clear c5
     by_cases c6 : ((zd l0_2 x6_1).f1.f1) = a1
     ·rw [if_pos c6] at H
      have c6b0 : (((zd l0_2 x6_1).f1.f1) == a1) = true := beq_iff_eq.mpr c6
      have c6b1 : (((zd l0_2 x6_1).f1.f1) != a1) = false := bne_eq_false_iff_eq.mpr c6
      clear c6
      by_cases c7 : x5_1.length < 1466015503701
      ·rw [if_pos c7] at H
       have LMc7 := za.mk c7
       clear c7
       obtain ⟨y187,hy187⟩ : ∃ y_ : List (S36),y_ = (x5_1 ++ [(⟨(zd l0_2 x6_1).f0,(⟨(zd l0_2 x6_1).f1.f0,(zd l0_2 x6_1).f1.f1,(zd l0_2 x6_1).f1.f2,(zd l0_2 x6_1).f1.f3,(⟨(zd l0_2 x6_1).f1.f4.f0,(zd l0_2 x6_1).f1.f4.f1⟩ : S28)⟩ : S30)⟩ : S36)]) := ⟨_,rfl⟩
       replace H : (zU.l0 k1 a1 y187 (wrap64 (x6_1 + 1)) a0_0 a0_1 l0_2) = some r := by first | (rw [hy187];with_reducible exact H) | (have H2_ := (Option.bind_some _ _).symm.trans H;rw [hy187];with_reducible exact H2_) | (have H2_ := (Option.bind_some _ _).symm.trans H;with_reducible exact H2_) | with_reducible exact H | (rw [hy187];exact H) | exact H
       have Ny187 := za.mk hy187
       clear hy187
       have H' := za.mk H
       clear H
       obtain ⟨hcz8_0,hcz8_1,hcz8_2,hfz8_0,hfz8_1,hfz8_2⟩ := hcq3 BK184.out
       have p185 : 0 ≤ (x6_1 : Int) := hFq
       have q185 : x6_1 < (l0_2.length : Int) := hFq
       obtain ⟨ad185,A185_3,c185_3,A185_4,c185_4,e185,hx185_0,hx185_1,hx185_2,hx185_3,hx185_4,hx185_5,hx185_6,hl185_3,hi185_3,hl185_4,hi185_4⟩ := zaW (Kd.V_reads' HO_185002.out).2.2 x6_1 p185 q185
       cases e185
       obtain ⟨ce185,hce185,hMe185,hcc185⟩ := Kd.V_get HO_185002.out z36 x6_1 p185 (by first | exact q185 | exact hFq | (have e_ := (Kd.V_reads' HO_185002.out).1;omega))
       obtain ⟨ua185_3,uc185_3,ua185_4,uc185_4,rfl,ul185_3,ge185_3,ul185_4,ge185_4⟩ := zbQ hMe185
       have hv185_3 := hcc185 3 _ rfl
       rw [zaf _ _ 3 (by omega)] at hv185_3
       replace hv185_3 := Option.some.inj (hv185_3.symm.trans hx185_3)
       injection hv185_3 with hva_ hvn_ hvc_
       rw [hva_] at ge185_3
       rw [hvc_] at ul185_3
       have HL185_3 := za.mk (show Kd.V k72 72 _ w.heap.size _ _ ((zd l0_2 x6_1).f1.f2) from Kd.V_mk ul185_3 ge185_3)
       clear hva_ hvn_ hvc_ ge185_3 ul185_3
       have hv185_4 := hcc185 4 _ rfl
       rw [zaf _ _ 4 (by omega)] at hv185_4
       replace hv185_4 := Option.some.inj (hv185_4.symm.trans hx185_4)
       injection hv185_4 with hva_ hvn_ hvc_
       rw [hva_] at ge185_4
       rw [hvc_] at ul185_4
       have HL185_4 := za.mk (show Kd.V Kd.string 9 _ w.heap.size _ _ ((zd l0_2 x6_1).f1.f3) from Kd.V_mk ul185_4 ge185_4)
       clear hva_ hvn_ hvc_ ge185_4 ul185_4
       clear hcc185 hce185
       have HR185_3 := za.mk hi185_3
       have HC185_3 := za.mk hl185_3
       clear hi185_3 hl185_3
       have HR185_4 := za.mk hi185_4
       have HC185_4 := za.mk hl185_4
       clear hi185_4 hl185_4
       replace p185 := eq_true p185
       replace q185 := eq_true q185
       have p186 : 0 ≤ (x6_1 : Int) := hFq
       have q186 : x6_1 < (l0_2.length : Int) := hFq
       obtain ⟨ad186,A186_3,c186_3,A186_4,c186_4,e186,hx186_0,hx186_1,hx186_2,hx186_3,hx186_4,hx186_5,hx186_6,hl186_3,hi186_3,hl186_4,hi186_4⟩ := zaW (Kd.V_reads' HO_185002.out).2.2 x6_1 p186 q186
       obtain rfl : ad185 = ad186 := (by injection e186)
       obtain ⟨ce186,hce186,hMe186,hcc186⟩ := Kd.V_get HO_185002.out z36 x6_1 p186 (by first | exact q186 | exact hFq | (have e_ := (Kd.V_reads' HO_185002.out).1;omega))
       obtain ⟨ua186_3,uc186_3,ua186_4,uc186_4,rfl,ul186_3,ge186_3,ul186_4,ge186_4⟩ := zbQ hMe186
       have hv186_3 := hcc186 3 _ rfl
       rw [zaf _ _ 3 (by omega)] at hv186_3
       replace hv186_3 := Option.some.inj (hv186_3.symm.trans hx186_3)
       injection hv186_3 with hva_ hvn_ hvc_
       rw [hva_] at ge186_3
       rw [hvc_] at ul186_3
       have HL186_3 := za.mk (show Kd.V k72 72 _ w.heap.size _ _ ((zd l0_2 x6_1).f1.f2) from Kd.V_mk ul186_3 ge186_3)
       clear hva_ hvn_ hvc_ ge186_3 ul186_3
       have hv186_4 := hcc186 4 _ rfl
       rw [zaf _ _ 4 (by omega)] at hv186_4
       replace hv186_4 := Option.some.inj (hv186_4.symm.trans hx186_4)
       injection hv186_4 with hva_ hvn_ hvc_
       rw [hva_] at ge186_4
       rw [hvc_] at ul186_4
       have HL186_4 := za.mk (show Kd.V Kd.string 9 _ w.heap.size _ _ ((zd l0_2 x6_1).f1.f3) from Kd.V_mk ul186_4 ge186_4)
       clear hva_ hvn_ hvc_ ge186_4 ul186_4
       clear hcc186 hce186
       have HR186_3 := za.mk hi186_3
       have HC186_3 := za.mk hl186_3
       clear hi186_3 hl186_3
       have HR186_4 := za.mk hi186_4
       have HC186_4 := za.mk hl186_4
       clear hi186_4 hl186_4
       replace p186 := eq_true p186
       replace q186 := eq_true q186
       have ea_ := Option.some.inj (hx185_3.symm.trans hx186_3)
       injection ea_ with ea_ en_ ec_
       subst ea_
       subst ec_
       clear en_
       have ea_ := Option.some.inj (hx185_4.symm.trans hx186_4)
       injection ea_ with ea_ en_ ec_
       subst ea_
       subst ec_
       clear en_
       go_wp2_with (first | ((with_reducible refine zbx (b := .append) (xs := #[.tmp 23,.tmp 29]) rfl ?_);at_builtin;refine Kd.N_append k36 (w0 := w) w.heap.size rfl (.tmp 23) (.tmp 29) 22 36 (.agg #[(.string ⟨#[]⟩),(.int .i64 0),(.int .i64 0),(.slice none 0 0),(.slice none 0 0),(.int .i64 0),(.int .i64 0)]) 96 rfl Try.underlying22 zd6 rfl (by decide) (by omega) u5 x5_1 (⟨(zd l0_2 x6_1).f0,(⟨(zd l0_2 x6_1).f1.f0,(zd l0_2 x6_1).f1.f1,(zd l0_2 x6_1).f1.f2,(zd l0_2 x6_1).f1.f3,(⟨(zd l0_2 x6_1).f1.f4.f0,(zd l0_2 x6_1).f1.f4.f1⟩ : S28)⟩ : S30)⟩ : S36) [.string ((zd l0_2 x6_1).f0),.int .i64 ((zd l0_2 x6_1).f1.f0),.int .i64 ((zd l0_2 x6_1).f1.f1),.slice A185_3 ((zd l0_2 x6_1).f1.f2).length c185_3,.slice A185_4 ((zd l0_2 x6_1).f1.f3).length c185_4,.int .i64 ((zd l0_2 x6_1).f1.f4.f0),.int .i64 ((zd l0_2 x6_1).f1.f4.f1)] (fun k_ => (P0_2_ k_ ∨ w.heap.size ≤ k_) ∧ k_ ≠ gb184) (fun k_ => ((fun k_ => (P0_2_ k_ ∨ w.heap.size ≤ k_) ∧ k_ ≠ gb184)) k_ ∧ some k_ ≠ (u5 : Value).ownBlock) rfl rfl ?aP (fun _ hk => hk) ?aF ?aO ?aB ?aS ?aL ?_;(case aP => exact (zgz _ _ (⟨(zd l0_2 x6_1).f0,(⟨(zd l0_2 x6_1).f1.f0,(zd l0_2 x6_1).f1.f1,(zd l0_2 x6_1).f1.f2,(zd l0_2 x6_1).f1.f3,(⟨(zd l0_2 x6_1).f1.f4.f0,(zd l0_2 x6_1).f1.f4.f1⟩ : S28)⟩ : S30)⟩ : S36) (Kd.V_reads' (Kd.V_mono (ok' := (fun k_ => ((fun k_ => (P0_2_ k_ ∨ w.heap.size ≤ k_) ∧ k_ ≠ gb184)) k_ ∧ some k_ ≠ (u5 : Value).ownBlock)) (HL186_3.out) (fun k_ hk => ⟨⟨hk.1,hk.2.2⟩,hk.2.1⟩))).2.1 (Kd.V_F (Kd.V_mono (ok' := (fun k_ => ((fun k_ => (P0_2_ k_ ∨ w.heap.size ≤ k_) ∧ k_ ≠ gb184)) k_ ∧ some k_ ≠ (u5 : Value).ownBlock)) (HL186_3.out) (fun k_ hk => ⟨⟨hk.1,hk.2.2⟩,hk.2.1⟩))) (Kd.V_reads' (Kd.V_mono (ok' := (fun k_ => ((fun k_ => (P0_2_ k_ ∨ w.heap.size ≤ k_) ∧ k_ ≠ gb184)) k_ ∧ some k_ ≠ (u5 : Value).ownBlock)) (HL186_4.out) (fun k_ hk => ⟨⟨hk.1,hk.2.2⟩,hk.2.1⟩))).2.1 (Kd.V_F (Kd.V_mono (ok' := (fun k_ => ((fun k_ => (P0_2_ k_ ∨ w.heap.size ≤ k_) ∧ k_ ≠ gb184)) k_ ∧ some k_ ≠ (u5 : Value).ownBlock)) (HL186_4.out) (fun k_ hk => ⟨⟨hk.1,hk.2.2⟩,hk.2.1⟩)))));(case aB => exact hCq);(case aF => exact (fun k_ hk => ⟨(.inr (Nat.le_trans (zh hCq) hk)),Kd.freshB (g := gb184) (o := .cells #[.int .i64 a0_0,.int .i64 a0_1,.slice (some ad185) l0_2.length c0_2] 24 (0,0)) (hGq BK184.out) k_ hk⟩));(case aO => exact (by (with_reducible repeat (first | apply Kd.N_alloc | apply Kd.N_drewN | apply Kd.N_drew));exact HO_5.out));(case aS => exact (zh hCq));(case aL => have := LMc7.out;omega);intro v188 w9 ho hb hg hat;rw [← Ny187.out] at ho;have n_ := haq (Kd.V_afterv (ok := (fun k_ => (P0_2_ k_ ∨ w.heap.size ≤ k_) ∧ k_ ≠ gb184)) (by (with_reducible repeat (first | apply Kd.V_alloc | apply Kd.V_drewN | apply Kd.V_drew));exact Kd.V_mono HO_185002.out (fun _ hk => ⟨⟨hk.1,hk.2.2⟩,hk.2.1⟩)) hg hat) <| haq (zaI (g := gb184) (o := .cells #[.int .i64 a0_0,.int .i64 a0_1,.slice (some ad185) l0_2.length c0_2] 24 (0,0)) (hGq BK184.out) hg (Kd.N_ne HO_5.out BK184.out (by decide))) <| haq (Kd.V_afterv (ok := (fun k_ => (P0_2_ k_ ∨ w.heap.size ≤ k_) ∧ k_ ≠ gb184)) (by (with_reducible repeat (first | apply Kd.V_alloc | apply Kd.V_drewN | apply Kd.V_drew));exact Kd.V_mono HL185_3.out (fun _ hk => ⟨⟨hk.1,hk.2.2⟩,hk.2.1⟩)) hg hat) <| haq (Kd.V_afterv (ok := (fun k_ => (P0_2_ k_ ∨ w.heap.size ≤ k_) ∧ k_ ≠ gb184)) (by (with_reducible repeat (first | apply Kd.V_alloc | apply Kd.V_drewN | apply Kd.V_drew));exact Kd.V_mono HL185_4.out (fun _ hk => ⟨⟨hk.1,hk.2.2⟩,hk.2.1⟩)) hg hat) <| haq (Kd.V_afterv (ok := (fun k_ => (P0_2_ k_ ∨ w.heap.size ≤ k_) ∧ k_ ≠ gb184)) (by (with_reducible repeat (first | apply Kd.V_alloc | apply Kd.V_drewN | apply Kd.V_drew));exact Kd.V_mono HL186_3.out (fun _ hk => ⟨⟨hk.1,hk.2.2⟩,hk.2.1⟩)) hg hat) <| haq (Kd.V_afterv (ok := (fun k_ => (P0_2_ k_ ∨ w.heap.size ≤ k_) ∧ k_ ≠ gb184)) (by (with_reducible repeat (first | apply Kd.V_alloc | apply Kd.V_drewN | apply Kd.V_drew));exact Kd.V_mono HL186_4.out (fun _ hk => ⟨⟨hk.1,hk.2.2⟩,hk.2.1⟩)) hg hat) <| haq (hb) <| haq (ho) <| trivial;clear HO_185002 BK184 HL185_3 HL185_4 HL186_3 HL186_4 HB HO_5;obtain ⟨HO_185002,BK184,HL185_3,HL185_4,HL186_3,HL186_4,HB,HO189,_⟩ := n_;clear ho hb hg hat))
       go_roundg k1
       case measure => have := HK1.out;omega
       case rel => exact ⟨(y187),(wrap64 (x6_1 + 1)),(hDq),H',⟨by have := HK1.out;omega⟩,⟨by (with_reducible repeat (first | apply Kd.N_alloc | apply Kd.N_drewN | apply Kd.N_drew));exact HO189.out⟩,⟨by (with_reducible repeat (first | apply Kd.V_alloc | apply Kd.V_drewN | apply Kd.V_drew));exact Kd.V_mono HO_185002.out (fun _ hk => ⟨hk.1.1,⟨hk.2,hk.1.2⟩⟩)⟩,⟨hGq BK184.out⟩,⟨by repeat (first | (with_reducible first | exact HB.out | apply zk | apply zi | apply zt | refine zm ?_ GE184.out) | exact HB.out)⟩⟩
      ·rw [if_neg c7] at H
       exact absurd H (by simp)
     ·rw [if_neg c6] at H
      have c6b0 : (((zd l0_2 x6_1).f1.f1) == a1) = false := beq_eq_false_iff_ne.mpr c6
      have c6b1 : (((zd l0_2 x6_1).f1.f1) != a1) = true := bne_iff_ne.mpr c6
      have H' := za.mk H
      clear H
      obtain ⟨hcz10_0,hcz10_1,hcz10_2,hfz10_0,hfz10_1,hfz10_2⟩ := hcq3 BK184.out
      have p185 : 0 ≤ (x6_1 : Int) := hFq
      have q185 : x6_1 < (l0_2.length : Int) := hFq
      obtain ⟨ad185,A185_3,c185_3,A185_4,c185_4,e185,hx185_0,hx185_1,hx185_2,hx185_3,hx185_4,hx185_5,hx185_6,hl185_3,hi185_3,hl185_4,hi185_4⟩ := zaW (Kd.V_reads' HO_185002.out).2.2 x6_1 p185 q185
      cases e185
      obtain ⟨ce185,hce185,hMe185,hcc185⟩ := Kd.V_get HO_185002.out z36 x6_1 p185 (by first | exact q185 | exact hFq | (have e_ := (Kd.V_reads' HO_185002.out).1;omega))
      obtain ⟨ua185_3,uc185_3,ua185_4,uc185_4,rfl,ul185_3,ge185_3,ul185_4,ge185_4⟩ := zbQ hMe185
      have hv185_3 := hcc185 3 _ rfl
      rw [zaf _ _ 3 (by omega)] at hv185_3
      replace hv185_3 := Option.some.inj (hv185_3.symm.trans hx185_3)
      injection hv185_3 with hva_ hvn_ hvc_
      rw [hva_] at ge185_3
      rw [hvc_] at ul185_3
      have HL185_3 := za.mk (show Kd.V k72 72 _ w.heap.size _ _ ((zd l0_2 x6_1).f1.f2) from Kd.V_mk ul185_3 ge185_3)
      clear hva_ hvn_ hvc_ ge185_3 ul185_3
      have hv185_4 := hcc185 4 _ rfl
      rw [zaf _ _ 4 (by omega)] at hv185_4
      replace hv185_4 := Option.some.inj (hv185_4.symm.trans hx185_4)
      injection hv185_4 with hva_ hvn_ hvc_
      rw [hva_] at ge185_4
      rw [hvc_] at ul185_4
      have HL185_4 := za.mk (show Kd.V Kd.string 9 _ w.heap.size _ _ ((zd l0_2 x6_1).f1.f3) from Kd.V_mk ul185_4 ge185_4)
      clear hva_ hvn_ hvc_ ge185_4 ul185_4
      clear hcc185 hce185
      have HR185_3 := za.mk hi185_3
      have HC185_3 := za.mk hl185_3
      clear hi185_3 hl185_3
      have HR185_4 := za.mk hi185_4
      have HC185_4 := za.mk hl185_4
      clear hi185_4 hl185_4
      replace p185 := eq_true p185
      replace q185 := eq_true q185
      go_wp2
      go_roundg k1
      case measure => have := HK1.out;omega
      case rel => exact ⟨(x5_1),(wrap64 (x6_1 + 1)),(hDq),H',⟨by have := HK1.out;omega⟩,⟨by (with_reducible repeat (first | apply Kd.N_alloc | apply Kd.N_drewN | apply Kd.N_drew));exact HO_5.out⟩,⟨by (with_reducible repeat (first | apply Kd.V_alloc | apply Kd.V_drewN | apply Kd.V_drew));exact HO_185002.out⟩,⟨hGq BK184.out⟩,⟨by repeat (first | (with_reducible first | exact HB.out | apply zk | apply zi | apply zt | refine zm ?_ GE184.out) | exact HB.out)⟩⟩
    ·rw [if_neg c5] at H
     exact absurd H (by simp)
   ·rw [if_neg c4] at H
    have c4b0 : decide (x6_1 < (l0_2.length : Int)) = false := decide_eq_false c4
    clear c4
    obtain rfl := Option.some.inj H
    obtain ⟨hcz11_0,hcz11_1,hcz11_2,hfz11_0,hfz11_1,hfz11_2⟩ := hcq3 BK184.out
    go_wp2
    go_ret
    exact ⟨_,hHq,by (with_reducible repeat (first | apply Kd.N_alloc | apply Kd.N_drewN | apply Kd.N_drew));exact Kd.N_mono HO_5.out (fun _ hk => hk.1),hCq⟩
end Go.Proofs.Ytklhjlaofkngcaa.Px