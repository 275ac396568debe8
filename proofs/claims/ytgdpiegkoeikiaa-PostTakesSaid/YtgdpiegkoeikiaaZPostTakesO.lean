/- Part 15 of 35 of the proof of the law PostTakes: what is proved is the statement at the end of the last part; its conditions are those of the given row. -/
import Derived.Test.YtgdpiegkoeikiaaZPostTakesH
import Derived.Test.YtgdpiegkoeikiaaZPostTakesM
import Derived.Test.YtgdpiegkoeikiaaZPostTakesN
namespace Go.Proofs.Ytgdpiegkoeikiaa.Px
open Go.RowKit Go.Proofs.YtgdpiegkoeikiaaW.PrintWords Go.Proofs.YtgdpiegkoeikiaaW.PrintLast Go.Proofs.YtgdpiegkoeikiaaW.PrintMore
attribute [local go_sem] zF zH zQ zR zy zz zG zI
set_option linter.unusedVariables false
set_option linter.unusedSimpArgs false
mutual
def zT.j0 : Nat → Int → ByteArray → Bool → Option (Int × Int × List ByteArray × Int)
 | 0,_,_,_ => none
 | k + 1,x4,x5,x26 => if x26 = true then (some (0,0,([] : List ByteArray),3)) else ((zp.f k x5).bind fun bt195 => (if bt195.2.2 = 0 then (zT.j1 k x4 bt195.1 bt195.2.1 (decide (bt195.1 > 1073741824))) else (zT.j1 k x4 bt195.1 bt195.2.1 true)))
def zT.j1 : Nat → Int → Int → ByteArray → Bool → Option (Int × Int × List ByteArray × Int)
 | 0,_,_,_,_ => none
 | k + 1,x4,x7,x8,x39 => if x39 = true then (some (0,0,([] : List ByteArray),3)) else ((zx.f k x8 4 48).bind fun bt198 => ((zB.f k (wrap64 (x4)) (wrap64 (x7)) bt198.1).bind fun t204 => (if bt198.2.2 = 0 then (if (bt198.2.1.size : Int) > 0 then (some (0,0,([] : List ByteArray),3)) else (if t204 = true then (some (wrap64 (x4),wrap64 (x7),bt198.1,0)) else (some (0,0,([] : List ByteArray),3)))) else (some (0,0,([] : List ByteArray),3)))))
end
def zT.f (k : Nat) (a0 : ByteArray) : Option (Int × Int × List ByteArray × Int) := (zp.f k a0).bind fun bt192 => (if bt192.2.2 = 0 then (zT.j0 k bt192.1 bt192.2.1 (decide (bt192.1 > 64))) else (zT.j0 k bt192.1 bt192.2.1 true))
set_option maxHeartbeats 8000000 in
set_option maxRecDepth 100000 in
theorem zT.calls (k : Nat) (a0 : ByteArray) (r1 : Int) (r2 : Int) (r3 : List ByteArray) (r4 : Int) (w : World) (h : zT.f k a0 = some (r1,r2,r3,r4)) :
  Calls Try.prog 62 #[.string a0] w fun e w' => ∃ v2_ : Value,e = .returned (.tuple #[.agg #[.int .i64 r1,.int .i64 r2,v2_],.int .i64 r4]) ∧ Kd.R Kd.string 9 w' w.heap.size (fun _ => True) v2_ r3 ∧ Below w.heap.size w w' := by
 have hu107 := Try.underlying107
 have HB := zc.mk (Below.refl w.heap.size w)
 have H : ((zp.f k a0).bind fun bt192 => (if bt192.2.2 = 0 then (zT.j0 k bt192.1 bt192.2.1 (decide (bt192.1 > 64))) else (zT.j0 k bt192.1 bt192.2.1 true))) = some (r1,r2,r3,r4) := h
 clear h
 replace H := Option.bind_eq_some_iff.mp H
 obtain ⟨⟨t192,t193,t194⟩,A20,H⟩ := H
 replace H : (if t194 = 0 then (zT.j0 k t192 t193 (decide (t192 > 64))) else (zT.j0 k t192 t193 true)) = some (r1,r2,r3,r4) := H
 have A2 := zc.mk A20
 clear A20
 have HC3 := zc.mk H
 clear H
 go_enter Try.func62,Try.ntmps62
 go_upto_region 2 with (first | ((with_reducible refine zu (N := 2) rfl ?_);(try (refine zaX (by rfl) ?_;dsimp only));refine zr ?hg (N := 2) ?hd (cs := #[.int .i64 0,.int .i64 0,.slice none 0 0]) (t := 107) ?hr ?_;(case hd => rfl);(case hg => rfl);(case hr => first | (go_simp;done) | (go_simp;rfl));intro gb191 hg w4 hbox hb;have n0_ := zc.mk (zj hBq hb);have n1_ := zc.mk (hbox);have n2_ := zc.mk ((by rw [hg];exact (zl hBq) : w.heap.size ≤ gb191));have n3_ := zc.mk ((by rw [hg];exact (zl hBq) : w.heap.size ≤ gb191));clear HB;have HB := n0_;have BK191 := n1_;have GW191 := n2_;have GE191 := n3_;clear n0_ n1_ n2_ n3_;clear hb hbox hg) | ((with_reducible refine zt (f := 60) rfl ?_);refine zU (some 17) rfl rfl Try.func60 (by kernel_rfl) rfl #[.string a0] rfl (by (try simp only [List.map_toArray,List.map_cons,List.map_nil]);first | done | rfl | (simp only [List.length_drop,List.length_take];rfl)) ?_;(with_reducible refine (zp.calls k a0 t192 t193 t194 _ A2.out).mono ?_);rintro e w' ⟨rfl,⟨nd,rfl⟩⟩;refine ⟨_,rfl,?_⟩))
 (try simp only [Act.put,List.setIfInBounds_toArray,List.set_cons_zero,List.set_cons_succ])
 go_cut [26] (fun v26 wc => ∃ (kq : Nat) (x26_2 : Bool),v26 = .bool x26_2 ∧ zc (zT.j0 kq t192 t193 x26_2 = some (r1,r2,r3,r4)) ∧ zc (kq ≤ k) ∧ zc (wc.heap[gb191]? = some (.cells #[.int .i64 0,.int .i64 0,(.slice none 0 0)] 107 (0,0))) ∧ zc (Below w.heap.size w wc))
 case first =>
  have H := HC3.out
  clear HC3
  by_cases c5 : t194 = 0
  ·rw [if_pos c5] at H
   have c5b0 : (t194 == 0) = true := beq_iff_eq.mpr c5
   have c5b1 : (t194 != 0) = false := bne_eq_false_iff_eq.mpr c5
   clear c5
   (first | rw [c5b0] | (simp only [zan,zaq];rw [c5b0]) | skip)
   have H' := zc.mk H
   clear H
   go_wp2
   go_meet
   case rel => exact ⟨_,(decide (t192 > 64)),(hDq),H',⟨by first | omega | exact Nat.le_refl _⟩,⟨hGq BK191.out⟩,⟨by repeat (first | (with_reducible first | exact HB.out | apply zA | apply zm | apply zJ | refine zg ?_ GE191.out) | exact HB.out)⟩⟩
  ·rw [if_neg c5] at H
   have c5b0 : (t194 == 0) = false := beq_eq_false_iff_ne.mpr c5
   have c5b1 : (t194 != 0) = true := bne_iff_ne.mpr c5
   (first | rw [c5b0] | (simp only [zan,zaq];rw [c5b0]) | skip)
   have H' := zc.mk H
   clear H
   go_wp2
   go_meet
   case rel => exact ⟨_,(true),(hDq),H',⟨by first | omega | exact Nat.le_refl _⟩,⟨hGq BK191.out⟩,⟨by repeat (first | (with_reducible first | exact HB.out | apply zA | apply zm | apply zJ | refine zg ?_ GE191.out) | exact HB.out)⟩⟩
 case rest =>
  clear HC3
  try clear p2
  try clear c5
  try clear c5b0
  try clear c5b1
  obtain ⟨kq,x26_2,rfl,HA,HJ2,BK191,HB⟩ := hcut
  cases kq with
  | zero => exact absurd HA.out (by simp [zT.j0])
  | succ kj2 =>
   have H := HA.out
   clear HA
   simp only [zT.j0] at H
   by_cases c6 : x26_2 = true
   ·subst c6
    have H1 : (some (0,0,([] : List ByteArray),3)) = some (r1,r2,r3,r4) := by rw [if_pos rfl] at H;exact H
    clear H
    have H := H1
    clear H1
    simp only [Option.some.injEq,Prod.mk.injEq] at H
    obtain ⟨rfl,rfl,rfl,rfl⟩ := H
    have hcz7_0 : wc.cell? ⟨gb191,0,none⟩ = some (.int .i64 0) := (zb BK191.out 0).trans rfl
    have hcz7_1 : wc.cell? ⟨gb191,1,none⟩ = some (.int .i64 0) := (zb BK191.out 1).trans rfl
    have hcz7_2 : wc.cell? ⟨gb191,2,none⟩ = some (.slice none 0 0) := (zb BK191.out 2).trans rfl
    have hfz7_0 := za BK191.out 0
    have hfz7_1 := za BK191.out 1
    have hfz7_2 := za BK191.out 2
    go_wp2
    refine bodyPost_ret (z9 rfl _ _ gb191 107 #[.int .i64 0,.int .i64 0,.slice none 0 0] (0,0) _ rfl (by (with_reducible repeat (first | refine zd ?_ _ | refine zf ?_ | refine ze ?_ _));refine zi (cs := #[.int .i64 0,.int .i64 0,.slice none 0 0]) ?_ 2 _ rfl;(with_reducible repeat (first | refine zd ?_ _ | refine zf ?_ | refine ze ?_ _));refine zi (cs := #[.int .i64 0,.int .i64 0,.slice none 0 0]) ?_ 1 _ rfl;(with_reducible repeat (first | refine zd ?_ _ | refine zf ?_ | refine ze ?_ _));refine zi (cs := #[.int .i64 0,.int .i64 0,.slice none 0 0]) ?_ 0 _ rfl;(with_reducible repeat (first | refine zd ?_ _ | refine zf ?_ | refine ze ?_ _));exact BK191.out) Try.underlying107 rfl (by kernel_rfl)) rfl ?_
    exact ⟨_,hHq,by first | exact Kd.R_nil _ _ _ _ _ | exact Kd.N_nil _ _ _ _ _ | exact Kd.V_nil _ _ _ _ _ | exact Kd.Q_nil _ _ _ _ _ | exact Kd.S_nil _ _ _ _ _,hCq⟩
   ·replace c6 := Bool.eq_false_iff.mpr c6
    subst c6
    have H1 : ((zp.f kj2 t193).bind fun bt195 => (if bt195.2.2 = 0 then (zT.j1 kj2 t192 bt195.1 bt195.2.1 (decide (bt195.1 > 1073741824))) else (zT.j1 kj2 t192 bt195.1 bt195.2.1 true))) = some (r1,r2,r3,r4) := by rw [if_neg (show ¬ (false = true) by decide)] at H;exact H
    clear H
    have H := H1
    clear H1
    replace H := Option.bind_eq_some_iff.mp H
    obtain ⟨⟨t195,t196,t197⟩,A80,H⟩ := H
    replace H : (if t197 = 0 then (zT.j1 kj2 t192 t195 t196 (decide (t195 > 1073741824))) else (zT.j1 kj2 t192 t195 t196 true)) = some (r1,r2,r3,r4) := H
    have A8 := zc.mk A80
    clear A80
    have HC9 := zc.mk H
    clear H
    go_upto_region 5 with (first | ((with_reducible refine zt (f := 60) rfl ?_);refine zU (some 30) rfl rfl Try.func60 (by kernel_rfl) rfl #[.string t193] rfl (by (try simp only [List.map_toArray,List.map_cons,List.map_nil]);first | done | rfl | (simp only [List.length_drop,List.length_take];rfl)) ?_;(with_reducible refine (zp.calls kj2 t193 t195 t196 t197 _ A8.out).mono ?_);rintro e w' ⟨rfl,⟨nd,rfl⟩⟩;refine ⟨_,rfl,?_⟩))
    (try simp only [Act.put,List.setIfInBounds_toArray,List.set_cons_zero,List.set_cons_succ])
    go_cut [39] (fun v39 wc => ∃ (kq : Nat) (x39_8 : Bool),v39 = .bool x39_8 ∧ zc (zT.j1 kq t192 t195 t196 x39_8 = some (r1,r2,r3,r4)) ∧ zc (kq ≤ kj2) ∧ zc (wc.heap[gb191]? = some (.cells #[.int .i64 0,.int .i64 0,(.slice none 0 0)] 107 (0,0))) ∧ zc (Below w.heap.size w wc))
    case first =>
     have H := HC9.out
     clear HC9
     by_cases c10 : t197 = 0
     ·rw [if_pos c10] at H
      have c10b0 : (t197 == 0) = true := beq_iff_eq.mpr c10
      have c10b1 : (t197 != 0) = false := bne_eq_false_iff_eq.mpr c10
      clear c10
      (first | rw [c10b0] | (simp only [zan,zaq];rw [c10b0]) | skip)
      have H' := zc.mk H
      clear H
      go_wp2
      go_meet
      case rel => exact ⟨_,(decide (t195 > 1073741824)),(hDq),H',⟨by have := HJ2.out;first | omega | exact Nat.le_refl _⟩,⟨hGq BK191.out⟩,⟨by repeat (first | (with_reducible first | exact HB.out | apply zA | apply zm | apply zJ | refine zg ?_ GE191.out) | exact HB.out)⟩⟩
     ·rw [if_neg c10] at H
      have c10b0 : (t197 == 0) = false := beq_eq_false_iff_ne.mpr c10
      have c10b1 : (t197 != 0) = true := bne_iff_ne.mpr c10
      (first | rw [c10b0] | (simp only [zan,zaq];rw [c10b0]) | skip)
      have H' := zc.mk H
      clear H
      go_wp2
      go_meet
      case rel => exact ⟨_,(true),(hDq),H',⟨by have := HJ2.out;first | omega | exact Nat.le_refl _⟩,⟨hGq BK191.out⟩,⟨by repeat (first | (with_reducible first | exact HB.out | apply zA | apply zm | apply zJ | refine zg ?_ GE191.out) | exact HB.out)⟩⟩
    case rest =>
     clear HC9
     try clear c1
     try clear p2
     try clear c5
     try clear c5b0
     try clear c5b1
     try clear c6
     try clear c10
     try clear c10b0
     try clear c10b1
     try clear hcz7_0
     try clear hcz7_1
     try clear hcz7_2
     try clear hfz7_0
     try clear hfz7_1
     try clear hfz7_2
     try clear p2
     obtain ⟨kq,x39_8,rfl,HA,HJ8,BK191,HB⟩ := hcut
     cases kq with
     | zero => exact absurd HA.out (by simp [zT.j1])
     | succ kj8 =>
      have H := HA.out
      clear HA
      simp only [zT.j1] at H
      by_cases c11 : x39_8 = true
      ·subst c11
       have H1 : (some (0,0,([] : List ByteArray),3)) = some (r1,r2,r3,r4) := by rw [if_pos rfl] at H;exact H
       clear H
       have H := H1
       clear H1
       simp only [Option.some.injEq,Prod.mk.injEq] at H
       obtain ⟨rfl,rfl,rfl,rfl⟩ := H
       have hcz12_0 : wc.cell? ⟨gb191,0,none⟩ = some (.int .i64 0) := (zb BK191.out 0).trans rfl
       have hcz12_1 : wc.cell? ⟨gb191,1,none⟩ = some (.int .i64 0) := (zb BK191.out 1).trans rfl
       have hcz12_2 : wc.cell? ⟨gb191,2,none⟩ = some (.slice none 0 0) := (zb BK191.out 2).trans rfl
       have hfz12_0 := za BK191.out 0
       have hfz12_1 := za BK191.out 1
       have hfz12_2 := za BK191.out 2
       go_wp2
       refine bodyPost_ret (z9 rfl _ _ gb191 107 #[.int .i64 0,.int .i64 0,.slice none 0 0] (0,0) _ rfl (by (with_reducible repeat (first | refine zd ?_ _ | refine zf ?_ | refine ze ?_ _));refine zi (cs := #[.int .i64 0,.int .i64 0,.slice none 0 0]) ?_ 2 _ rfl;(with_reducible repeat (first | refine zd ?_ _ | refine zf ?_ | refine ze ?_ _));refine zi (cs := #[.int .i64 0,.int .i64 0,.slice none 0 0]) ?_ 1 _ rfl;(with_reducible repeat (first | refine zd ?_ _ | refine zf ?_ | refine ze ?_ _));refine zi (cs := #[.int .i64 0,.int .i64 0,.slice none 0 0]) ?_ 0 _ rfl;(with_reducible repeat (first | refine zd ?_ _ | refine zf ?_ | refine ze ?_ _));exact BK191.out) Try.underlying107 rfl (by kernel_rfl)) rfl ?_
       exact ⟨_,hHq,by first | exact Kd.R_nil _ _ _ _ _ | exact Kd.N_nil _ _ _ _ _ | exact Kd.V_nil _ _ _ _ _ | exact Kd.Q_nil _ _ _ _ _ | exact Kd.S_nil _ _ _ _ _,hCq⟩
      ·replace c11 := Bool.eq_false_iff.mpr c11
       subst c11
       have H1 : ((zx.f kj8 t196 4 48).bind fun bt198 => ((zB.f kj8 (wrap64 (t192)) (wrap64 (t195)) bt198.1).bind fun t204 => (if bt198.2.2 = 0 then (if (bt198.2.1.size : Int) > 0 then (some (0,0,([] : List ByteArray),3)) else (if t204 = true then (some (wrap64 (t192),wrap64 (t195),bt198.1,0)) else (some (0,0,([] : List ByteArray),3)))) else (some (0,0,([] : List ByteArray),3))))) = some (r1,r2,r3,r4) := by rw [if_neg (show ¬ (false = true) by decide)] at H;exact H
       clear H
       have H := H1
       clear H1
       replace H := Option.bind_eq_some_iff.mp H
       obtain ⟨⟨t198,t199,t200⟩,A130,H⟩ := H
       replace H : ((zB.f kj8 (wrap64 (t192)) (wrap64 (t195)) t198).bind fun t204 => (if t200 = 0 then (if (t199.size : Int) > 0 then (some (0,0,([] : List ByteArray),3)) else (if t204 = true then (some (wrap64 (t192),wrap64 (t195),t198,0)) else (some (0,0,([] : List ByteArray),3)))) else (some (0,0,([] : List ByteArray),3)))) = some (r1,r2,r3,r4) := H
       have A13 := zc.mk A130
       clear A130
       replace H := Option.bind_eq_some_iff.mp H
       obtain ⟨t204,A140,H⟩ := H
       replace H : (if t200 = 0 then (if (t199.size : Int) > 0 then (some (0,0,([] : List ByteArray),3)) else (if t204 = true then (some (wrap64 (t192),wrap64 (t195),t198,0)) else (some (0,0,([] : List ByteArray),3)))) else (some (0,0,([] : List ByteArray),3))) = some (r1,r2,r3,r4) := H
       have A14 := zc.mk A140
       clear A140
       by_cases c15 : t200 = 0
       focus
        rw [if_pos c15] at H
        have c15b0 : (t200 == 0) = true := beq_iff_eq.mpr c15
        have c15b1 : (t200 != 0) = false := bne_eq_false_iff_eq.mpr c15
        clear c15
        by_cases c16 : (t199.size : Int) > 0
        focus
         rw [if_pos c16] at H
         have c16b0 : decide (0 < (t199.size : Int)) = true := decide_eq_true c16
         have c16b1 : decide (0 < t199.size) = true := decide_eq_true (by omega)
         clear c16
         simp only [Option.some.injEq,Prod.mk.injEq] at H
         obtain ⟨rfl,rfl,rfl,rfl⟩ := H
         have EQ0 := True.intro
         have EQ3 := True.intro
        rotate_left
        focus
         rw [if_neg c16] at H
         have c16b0 : decide (0 < (t199.size : Int)) = false := decide_eq_false c16
         have c16b1 : decide (0 < t199.size) = false := decide_eq_false (by omega)
         clear c16
         by_cases c24 : t204 = true
         focus
          subst c24
          have H1 : (some (wrap64 (t192),wrap64 (t195),t198,0)) = some (r1,r2,r3,r4) := by rw [if_pos rfl] at H;exact H
          clear H
          have H := H1
          clear H1
          simp only [Option.some.injEq,Prod.mk.injEq] at H
          obtain ⟨rfl,rfl,rfl,rfl⟩ := H
          have EQ1 := True.intro
         rotate_left
         focus
          replace c24 := Bool.eq_false_iff.mpr c24
          subst c24
          have H1 : (some (0,0,([] : List ByteArray),3)) = some (r1,r2,r3,r4) := by rw [if_neg (show ¬ (false = true) by decide)] at H;exact H
          clear H
          have H := H1
          clear H1
          simp only [Option.some.injEq,Prod.mk.injEq] at H
          obtain ⟨rfl,rfl,rfl,rfl⟩ := H
          have EQ2 := True.intro
          have EQ3 := True.intro
       rotate_left 3
       focus
        rw [if_neg c15] at H
        have c15b0 : (t200 == 0) = false := beq_eq_false_iff_ne.mpr c15
        have c15b1 : (t200 != 0) = true := bne_iff_ne.mpr c15
        simp only [Option.some.injEq,Prod.mk.injEq] at H
        obtain ⟨rfl,rfl,rfl,rfl⟩ := H
        have EQ0 := True.intro
        have EQ3 := True.intro
       all_goals
        go_wp2_with (first | ((with_reducible refine zt (f := 61) rfl ?_);refine zU (some 43) rfl rfl Try.func61 (by kernel_rfl) rfl #[.string t196,.int .i64 4,.int .i64 48] rfl (by (try simp only [List.map_toArray,List.map_cons,List.map_nil]);first | done | rfl | (simp only [List.length_drop,List.length_take];rfl)) ?_;(with_reducible refine (zx.calls kj8 t196 4 48 t198 t199 t200 _ A13.out).mono ?_);rintro e wQF61A131 ⟨vQF61A132,rfl,hoQF61A133,hb⟩;refine ⟨_,rfl,?_⟩;have n0_ := zc.mk (Kd.R_lower hoQF61A133 (zl hCq));have n1_ := zc.mk (zh (g := gb191) (o := .cells #[.int .i64 0,.int .i64 0,.slice none 0 0] 107 (0,0)) (hGq BK191.out) hb);have n2_ := zc.mk (zj hCq hb);clear BK191;clear HB;have HOQF61A134 := n0_;have BK191 := n1_;have HB := n2_;clear n0_ n1_ n2_;(try clear hb);(try clear hb2);(try clear hk);(try clear hi);(try clear hoQF61A133);obtain ⟨AoQF61A136,coQF61A137,eoQF61A138⟩ := Kd.R_slice HOQF61A134.out;subst eoQF61A138) | ((with_reducible refine zu (N := 13) rfl ?_);(try (refine zaX (by rfl) ?_;dsimp only));refine zr ?hg (N := 13) ?hd (cs := #[.int .i64 0,.int .i64 0,.slice none 0 0]) (t := 107) ?hr ?_;(case hd => rfl);(case hg => rfl);(case hr => first | (go_simp;done) | (go_simp;rfl));intro gb203 hg wQN132 hbox hb;have n0_ := zc.mk (Kd.R_below (by (with_reducible repeat (first | apply Kd.R_alloc | apply Kd.R_drewN | apply Kd.R_drew));exact HOQF61A134.out) hb);have n1_ := zc.mk (zh (g := gb191) (o := .cells #[.int .i64 0,.int .i64 0,.slice none 0 0] 107 (0,0)) (hGq BK191.out) hb);have n2_ := zc.mk (zj hCq hb);have n3_ := zc.mk (hbox);have n4_ := zc.mk ((by rw [hg];exact (zl hCq) : w.heap.size ≤ gb203));have n5_ := zc.mk ((by rw [hg];exact (zl hCq) : w.heap.size ≤ gb203));have n6_ := zc.mk ((by rw [hg];exact Nat.ne_of_lt (zP (g := gb191) (o := .cells #[.int .i64 0,.int .i64 0,.slice none 0 0] 107 (0,0)) (hGq BK191.out)) : gb191 ≠ gb203));have n7_ := zc.mk ((by rw [hg];exact Nat.ne_of_gt (zP (g := gb191) (o := .cells #[.int .i64 0,.int .i64 0,.slice none 0 0] 107 (0,0)) (hGq BK191.out)) : gb203 ≠ gb191));clear HOQF61A134;clear BK191;clear HB;have HOQF61A134 := n0_;have BK191 := n1_;have HB := n2_;have BK203 := n3_;have GW203 := n4_;have GE203 := n5_;have NBQN138 := n6_;have NBQN139 := n7_;clear n0_ n1_ n2_ n3_ n4_ n5_ n6_ n7_;clear hb hbox hg;have hnbQN1310 := NBQN139.out;have hncQN1311 := NBQN138.out;have hczQN1312 : wQN132.cell? ⟨gb203,0,none⟩ = some (.int .i64 0) := (zb BK203.out 0).trans rfl;have hczQN1313 : wQN132.cell? ⟨gb203,1,none⟩ = some (.int .i64 0) := (zb BK203.out 1).trans rfl;have hczQN1314 : wQN132.cell? ⟨gb203,2,none⟩ = some (.slice none 0 0) := (zb BK203.out 2).trans rfl;have hfzQN1315 := za BK203.out 0;have hfzQN1316 := za BK203.out 1;have hfzQN1317 := za BK203.out 2) | (have _ := EQ0;((with_reducible refine zt (f := 94) rfl ?_);refine zU (some 54) rfl rfl Try.func94 (by kernel_rfl) rfl #[.agg #[.int .i64 (wrap64 (t192)),.int .i64 (wrap64 (t195)),.slice AoQF61A136 t198.length coQF61A137]] rfl (by (try simp only [List.map_toArray,List.map_cons,List.map_nil]);first | done | rfl | (simp only [List.length_drop,List.length_take];rfl)) ?_;(with_reducible refine (zB.calls kj8 (wrap64 (t192)) (wrap64 (t195)) _ _ t198 t204 _ ?side1 ?side2 A14.out).mono ?_);(case side1 => refine (Kd.R_reads' (e := 9) (base := w.heap.size) (ok := fun k_ => True) (n := t198.length) (c := coQF61A137) ?_).2.2;exact (by (with_reducible repeat (first | apply Kd.R_alloc | apply Kd.R_drewN | apply Kd.R_drew));exact (Kd.R_mono (Kd.R_far (p := ⟨gb203,2,none⟩) (Kd.R_far (p := ⟨gb203,1,none⟩) (Kd.R_far (p := ⟨gb203,0,none⟩) (Kd.R_types HOQF61A134.out BK203.out (by decide)) (fun _ hk => hk.2) (.int .i64 (wrap64 (t192)))) (fun _ hk => hk.2) (.int .i64 (wrap64 (t195)))) (fun _ hk => hk.2) (.slice AoQF61A136 t198.length coQF61A137)) (fun _ h_ => h_.1))));(case side2 => exact (Kd.R_reads' HOQF61A134.out).2.1);rintro e wQF94A141 ⟨rfl,hb⟩;refine ⟨_,rfl,?_⟩;have n0_ := zc.mk (Kd.R_below (by (with_reducible repeat (first | apply Kd.R_alloc | apply Kd.R_drewN | apply Kd.R_drew));exact (Kd.R_mono (Kd.R_far (p := ⟨gb203,2,none⟩) (Kd.R_far (p := ⟨gb203,1,none⟩) (Kd.R_far (p := ⟨gb203,0,none⟩) (Kd.R_types HOQF61A134.out BK203.out (by decide)) (fun _ hk => hk.2) (.int .i64 (wrap64 (t192)))) (fun _ hk => hk.2) (.int .i64 (wrap64 (t195)))) (fun _ hk => hk.2) (.slice AoQF61A136 t198.length coQF61A137)) (fun _ h_ => h_.1))) hb);have n1_ := zc.mk (zh (g := gb191) (o := .cells #[.int .i64 0,.int .i64 0,.slice none 0 0] 107 (0,0)) (by (with_reducible repeat (first | refine zd ?_ _ | refine zf ?_ | refine ze ?_ _));refine zk ?_ NBQN138.out _;(with_reducible repeat (first | refine zd ?_ _ | refine zf ?_ | refine ze ?_ _));refine zk ?_ NBQN138.out _;(with_reducible repeat (first | refine zd ?_ _ | refine zf ?_ | refine ze ?_ _));refine zk ?_ NBQN138.out _;(with_reducible repeat (first | refine zd ?_ _ | refine zf ?_ | refine ze ?_ _));exact BK191.out) hb);have n2_ := zc.mk (zh (g := gb203) (o := .cells #[.int .i64 (wrap64 (t192)),.int .i64 (wrap64 (t195)),.slice AoQF61A136 t198.length coQF61A137] 107 (0,0)) (by (with_reducible repeat (first | refine zd ?_ _ | refine zf ?_ | refine ze ?_ _));refine zi (cs := #[.int .i64 (wrap64 (t192)),.int .i64 (wrap64 (t195)),.slice none 0 0]) ?_ 2 _ rfl;(with_reducible repeat (first | refine zd ?_ _ | refine zf ?_ | refine ze ?_ _));refine zi (cs := #[.int .i64 (wrap64 (t192)),.int .i64 0,.slice none 0 0]) ?_ 1 _ rfl;(with_reducible repeat (first | refine zd ?_ _ | refine zf ?_ | refine ze ?_ _));refine zi (cs := #[.int .i64 0,.int .i64 0,.slice none 0 0]) ?_ 0 _ rfl;(with_reducible repeat (first | refine zd ?_ _ | refine zf ?_ | refine ze ?_ _));exact BK203.out) hb);have n3_ := zc.mk (zj hCq hb);clear HOQF61A134;clear BK191;clear BK203;clear HB;have HOQF61A134 := n0_;have BK191 := n1_;have BK203 := n2_;have HB := n3_;clear n0_ n1_ n2_ n3_;(try clear hb);(try clear hb2);(try clear hk);(try clear hi);have hczQF94A145 : wQF94A141.cell? ⟨gb191,0,none⟩ = some (.int .i64 0) := (zb BK191.out 0).trans rfl;have hczQF94A146 : wQF94A141.cell? ⟨gb191,1,none⟩ = some (.int .i64 0) := (zb BK191.out 1).trans rfl;have hczQF94A147 : wQF94A141.cell? ⟨gb191,2,none⟩ = some (.slice none 0 0) := (zb BK191.out 2).trans rfl;have hfzQF94A148 := za BK191.out 0;have hfzQF94A149 := za BK191.out 1;have hfzQF94A1410 := za BK191.out 2)) | (have _ := EQ1;((with_reducible refine zt (f := 94) rfl ?_);refine zU (some 54) rfl rfl Try.func94 (by kernel_rfl) rfl #[.agg #[.int .i64 (wrap64 (t192)),.int .i64 (wrap64 (t195)),.slice AoQF61A136 t198.length coQF61A137]] rfl (by (try simp only [List.map_toArray,List.map_cons,List.map_nil]);first | done | rfl | (simp only [List.length_drop,List.length_take];rfl)) ?_;(with_reducible refine (zB.calls kj8 (wrap64 (t192)) (wrap64 (t195)) _ _ t198 true _ ?side1 ?side2 A14.out).mono ?_);(case side1 => refine (Kd.R_reads' (e := 9) (base := w.heap.size) (ok := fun k_ => True) (n := t198.length) (c := coQF61A137) ?_).2.2;exact (by (with_reducible repeat (first | apply Kd.R_alloc | apply Kd.R_drewN | apply Kd.R_drew));exact (Kd.R_mono (Kd.R_far (p := ⟨gb203,2,none⟩) (Kd.R_far (p := ⟨gb203,1,none⟩) (Kd.R_far (p := ⟨gb203,0,none⟩) (Kd.R_types HOQF61A134.out BK203.out (by decide)) (fun _ hk => hk.2) (.int .i64 (wrap64 (t192)))) (fun _ hk => hk.2) (.int .i64 (wrap64 (t195)))) (fun _ hk => hk.2) (.slice AoQF61A136 t198.length coQF61A137)) (fun _ h_ => h_.1))));(case side2 => exact (Kd.R_reads' HOQF61A134.out).2.1);rintro e wQF94A141 ⟨rfl,hb⟩;refine ⟨_,rfl,?_⟩;have n0_ := zc.mk (Kd.R_below (by (with_reducible repeat (first | apply Kd.R_alloc | apply Kd.R_drewN | apply Kd.R_drew));exact (Kd.R_mono (Kd.R_far (p := ⟨gb203,2,none⟩) (Kd.R_far (p := ⟨gb203,1,none⟩) (Kd.R_far (p := ⟨gb203,0,none⟩) (Kd.R_types HOQF61A134.out BK203.out (by decide)) (fun _ hk => hk.2) (.int .i64 (wrap64 (t192)))) (fun _ hk => hk.2) (.int .i64 (wrap64 (t195)))) (fun _ hk => hk.2) (.slice AoQF61A136 t198.length coQF61A137)) (fun _ h_ => h_.1))) hb);have n1_ := zc.mk (zh (g := gb191) (o := .cells #[.int .i64 0,.int .i64 0,.slice none 0 0] 107 (0,0)) (by (with_reducible repeat (first | refine zd ?_ _ | refine zf ?_ | refine ze ?_ _));refine zk ?_ NBQN138.out _;(with_reducible repeat (first | refine zd ?_ _ | refine zf ?_ | refine ze ?_ _));refine zk ?_ NBQN138.out _;(with_reducible repeat (first | refine zd ?_ _ | refine zf ?_ | refine ze ?_ _));refine zk ?_ NBQN138.out _;(with_reducible repeat (first | refine zd ?_ _ | refine zf ?_ | refine ze ?_ _));exact BK191.out) hb);have n2_ := zc.mk (zh (g := gb203) (o := .cells #[.int .i64 (wrap64 (t192)),.int .i64 (wrap64 (t195)),.slice AoQF61A136 t198.length coQF61A137] 107 (0,0)) (by (with_reducible repeat (first | refine zd ?_ _ | refine zf ?_ | refine ze ?_ _));refine zi (cs := #[.int .i64 (wrap64 (t192)),.int .i64 (wrap64 (t195)),.slice none 0 0]) ?_ 2 _ rfl;(with_reducible repeat (first | refine zd ?_ _ | refine zf ?_ | refine ze ?_ _));refine zi (cs := #[.int .i64 (wrap64 (t192)),.int .i64 0,.slice none 0 0]) ?_ 1 _ rfl;(with_reducible repeat (first | refine zd ?_ _ | refine zf ?_ | refine ze ?_ _));refine zi (cs := #[.int .i64 0,.int .i64 0,.slice none 0 0]) ?_ 0 _ rfl;(with_reducible repeat (first | refine zd ?_ _ | refine zf ?_ | refine ze ?_ _));exact BK203.out) hb);have n3_ := zc.mk (zj hCq hb);clear HOQF61A134;clear BK191;clear BK203;clear HB;have HOQF61A134 := n0_;have BK191 := n1_;have BK203 := n2_;have HB := n3_;clear n0_ n1_ n2_ n3_;(try clear hb);(try clear hb2);(try clear hk);(try clear hi);have hczQF94A145 : wQF94A141.cell? ⟨gb203,0,none⟩ = some (.int .i64 (wrap64 (t192))) := (zb BK203.out 0).trans rfl;have hczQF94A146 : wQF94A141.cell? ⟨gb203,1,none⟩ = some (.int .i64 (wrap64 (t195))) := (zb BK203.out 1).trans rfl;have hczQF94A147 : wQF94A141.cell? ⟨gb203,2,none⟩ = some (.slice AoQF61A136 t198.length coQF61A137) := (zb BK203.out 2).trans rfl;have hfzQF94A148 := za BK203.out 0;have hfzQF94A149 := za BK203.out 1;have hfzQF94A1410 := za BK203.out 2;have hczQF94A1411 : wQF94A141.cell? ⟨gb191,0,none⟩ = some (.int .i64 0) := (zb BK191.out 0).trans rfl;have hczQF94A1412 : wQF94A141.cell? ⟨gb191,1,none⟩ = some (.int .i64 0) := (zb BK191.out 1).trans rfl;have hczQF94A1413 : wQF94A141.cell? ⟨gb191,2,none⟩ = some (.slice none 0 0) := (zb BK191.out 2).trans rfl;have hfzQF94A1414 := za BK191.out 0;have hfzQF94A1415 := za BK191.out 1;have hfzQF94A1416 := za BK191.out 2)) | (have _ := EQ2;((with_reducible refine zt (f := 94) rfl ?_);refine zU (some 54) rfl rfl Try.func94 (by kernel_rfl) rfl #[.agg #[.int .i64 (wrap64 (t192)),.int .i64 (wrap64 (t195)),.slice AoQF61A136 t198.length coQF61A137]] rfl (by (try simp only [List.map_toArray,List.map_cons,List.map_nil]);first | done | rfl | (simp only [List.length_drop,List.length_take];rfl)) ?_;(with_reducible refine (zB.calls kj8 (wrap64 (t192)) (wrap64 (t195)) _ _ t198 false _ ?side1 ?side2 A14.out).mono ?_);(case side1 => refine (Kd.R_reads' (e := 9) (base := w.heap.size) (ok := fun k_ => True) (n := t198.length) (c := coQF61A137) ?_).2.2;exact (by (with_reducible repeat (first | apply Kd.R_alloc | apply Kd.R_drewN | apply Kd.R_drew));exact (Kd.R_mono (Kd.R_far (p := ⟨gb203,2,none⟩) (Kd.R_far (p := ⟨gb203,1,none⟩) (Kd.R_far (p := ⟨gb203,0,none⟩) (Kd.R_types HOQF61A134.out BK203.out (by decide)) (fun _ hk => hk.2) (.int .i64 (wrap64 (t192)))) (fun _ hk => hk.2) (.int .i64 (wrap64 (t195)))) (fun _ hk => hk.2) (.slice AoQF61A136 t198.length coQF61A137)) (fun _ h_ => h_.1))));(case side2 => exact (Kd.R_reads' HOQF61A134.out).2.1);rintro e wQF94A141 ⟨rfl,hb⟩;refine ⟨_,rfl,?_⟩;have n0_ := zc.mk (Kd.R_below (by (with_reducible repeat (first | apply Kd.R_alloc | apply Kd.R_drewN | apply Kd.R_drew));exact (Kd.R_mono (Kd.R_far (p := ⟨gb203,2,none⟩) (Kd.R_far (p := ⟨gb203,1,none⟩) (Kd.R_far (p := ⟨gb203,0,none⟩) (Kd.R_types HOQF61A134.out BK203.out (by decide)) (fun _ hk => hk.2) (.int .i64 (wrap64 (t192)))) (fun _ hk => hk.2) (.int .i64 (wrap64 (t195)))) (fun _ hk => hk.2) (.slice AoQF61A136 t198.length coQF61A137)) (fun _ h_ => h_.1))) hb);have n1_ := zc.mk (zh (g := gb191) (o := .cells #[.int .i64 0,.int .i64 0,.slice none 0 0] 107 (0,0)) (by (with_reducible repeat (first | refine zd ?_ _ | refine zf ?_ | refine ze ?_ _));refine zk ?_ NBQN138.out _;(with_reducible repeat (first | refine zd ?_ _ | refine zf ?_ | refine ze ?_ _));refine zk ?_ NBQN138.out _;(with_reducible repeat (first | refine zd ?_ _ | refine zf ?_ | refine ze ?_ _));refine zk ?_ NBQN138.out _;(with_reducible repeat (first | refine zd ?_ _ | refine zf ?_ | refine ze ?_ _));exact BK191.out) hb);have n2_ := zc.mk (zh (g := gb203) (o := .cells #[.int .i64 (wrap64 (t192)),.int .i64 (wrap64 (t195)),.slice AoQF61A136 t198.length coQF61A137] 107 (0,0)) (by (with_reducible repeat (first | refine zd ?_ _ | refine zf ?_ | refine ze ?_ _));refine zi (cs := #[.int .i64 (wrap64 (t192)),.int .i64 (wrap64 (t195)),.slice none 0 0]) ?_ 2 _ rfl;(with_reducible repeat (first | refine zd ?_ _ | refine zf ?_ | refine ze ?_ _));refine zi (cs := #[.int .i64 (wrap64 (t192)),.int .i64 0,.slice none 0 0]) ?_ 1 _ rfl;(with_reducible repeat (first | refine zd ?_ _ | refine zf ?_ | refine ze ?_ _));refine zi (cs := #[.int .i64 0,.int .i64 0,.slice none 0 0]) ?_ 0 _ rfl;(with_reducible repeat (first | refine zd ?_ _ | refine zf ?_ | refine ze ?_ _));exact BK203.out) hb);have n3_ := zc.mk (zj hCq hb);clear HOQF61A134;clear BK191;clear BK203;clear HB;have HOQF61A134 := n0_;have BK191 := n1_;have BK203 := n2_;have HB := n3_;clear n0_ n1_ n2_ n3_;(try clear hb);(try clear hb2);(try clear hk);(try clear hi);have hczQF94A145 : wQF94A141.cell? ⟨gb191,0,none⟩ = some (.int .i64 0) := (zb BK191.out 0).trans rfl;have hczQF94A146 : wQF94A141.cell? ⟨gb191,1,none⟩ = some (.int .i64 0) := (zb BK191.out 1).trans rfl;have hczQF94A147 : wQF94A141.cell? ⟨gb191,2,none⟩ = some (.slice none 0 0) := (zb BK191.out 2).trans rfl;have hfzQF94A148 := za BK191.out 0;have hfzQF94A149 := za BK191.out 1;have hfzQF94A1410 := za BK191.out 2)))
        first | (have _ := EQ3;refine bodyPost_ret (z9 rfl _ _ gb191 107 #[.int .i64 0,.int .i64 0,.slice none 0 0] (0,0) _ rfl (by (with_reducible repeat (first | refine zd ?_ _ | refine zf ?_ | refine ze ?_ _));refine zi (cs := #[.int .i64 0,.int .i64 0,.slice none 0 0]) ?_ 2 _ rfl;(with_reducible repeat (first | refine zd ?_ _ | refine zf ?_ | refine ze ?_ _));refine zi (cs := #[.int .i64 0,.int .i64 0,.slice none 0 0]) ?_ 1 _ rfl;(with_reducible repeat (first | refine zd ?_ _ | refine zf ?_ | refine ze ?_ _));refine zi (cs := #[.int .i64 0,.int .i64 0,.slice none 0 0]) ?_ 0 _ rfl;(with_reducible repeat (first | refine zd ?_ _ | refine zf ?_ | refine ze ?_ _));exact BK191.out) Try.underlying107 rfl (by kernel_rfl)) rfl ?_;exact ⟨_,hHq,by first | exact Kd.R_nil _ _ _ _ _ | exact Kd.N_nil _ _ _ _ _ | exact Kd.V_nil _ _ _ _ _ | exact Kd.Q_nil _ _ _ _ _ | exact Kd.S_nil _ _ _ _ _,hCq⟩) | (have _ := EQ1;refine bodyPost_ret (z9 rfl _ _ gb191 107 #[.int .i64 (wrap64 (t192)),.int .i64 (wrap64 (t195)),.slice AoQF61A136 t198.length coQF61A137] (0,0) _ rfl (by (with_reducible repeat (first | refine zd ?_ _ | refine zf ?_ | refine ze ?_ _));refine zi (cs := #[.int .i64 (wrap64 (t192)),.int .i64 (wrap64 (t195)),.slice none 0 0]) ?_ 2 _ rfl;(with_reducible repeat (first | refine zd ?_ _ | refine zf ?_ | refine ze ?_ _));refine zi (cs := #[.int .i64 (wrap64 (t192)),.int .i64 0,.slice none 0 0]) ?_ 1 _ rfl;(with_reducible repeat (first | refine zd ?_ _ | refine zf ?_ | refine ze ?_ _));refine zi (cs := #[.int .i64 0,.int .i64 0,.slice none 0 0]) ?_ 0 _ rfl;(with_reducible repeat (first | refine zd ?_ _ | refine zf ?_ | refine ze ?_ _));exact BK191.out) Try.underlying107 rfl (by kernel_rfl)) rfl ?_;exact ⟨_,hHq,by (with_reducible repeat (first | apply Kd.R_alloc | apply Kd.R_drewN | apply Kd.R_drew));exact Kd.R_mono (Kd.R_far (p := ⟨gb191,2,none⟩) (Kd.R_far (p := ⟨gb191,1,none⟩) (Kd.R_far (p := ⟨gb191,0,none⟩) (Kd.R_types HOQF61A134.out BK191.out (by decide)) (fun _ hk => hk.2) (.int .i64 (wrap64 (t192)))) (fun _ hk => hk.2) (.int .i64 (wrap64 (t195)))) (fun _ hk => hk.2) (.slice AoQF61A136 t198.length coQF61A137)) (fun _ hk => trivial),hCq⟩)
def zb9 (o q : Int) (e : Bool) (s : Bs) : Int × Int × List ByteArray × Int :=
 if e = true ∧ o ≤ 64 ∧ q ≤ 1073741824 ∧ (zai s 4 48).2.2 = 0 ∧ (zai s 4 48).2.1 = [] ∧ zcK o q (zai s 4 48).1 = true then (o,q,(zai s 4 48).1,0) else (0,0,[],3)
theorem zcx {o q : Int} {e : Bool} {s : Bs} (h : e = true ∧ o ≤ 64 ∧ q ≤ 1073741824 ∧ (zai s 4 48).2.2 = 0 ∧ (zai s 4 48).2.1 = [] ∧ zcK o q (zai s 4 48).1 = true) : zb9 o q e s = (o,q,(zai s 4 48).1,0) := if_pos h
theorem za2 {o q : Int} {e : Bool} {s : Bs} (h : ¬ (e = true ∧ o ≤ 64 ∧ q ≤ 1073741824 ∧ (zai s 4 48).2.2 = 0 ∧ (zai s 4 48).2.1 = [] ∧ zcK o q (zai s 4 48).1 = true)) : zb9 o q e s = (0,0,[],3) := if_neg h
def zaL (s : Bs) : Int × Int × List ByteArray × Int :=
 zb9 (zv s).1 (zv (zv s).2.1).1 (decide ((zv s).2.2 = 0 ∧ (zv (zv s).2.1).2.2 = 0)) (zv (zv s).2.1).2.1
theorem zfb (s : ByteArray) : s.toList = ([] : List UInt8) ↔ ofB s = [] := by rw [zaT]
theorem zfE (s : Bs) (o q : Nat) (e b : Bool) (hs : s.length < 4611686018427387904) (ho : o < 18446744073709551616) (hq : q < 18446744073709551616) (hb : b = true ↔ ¬ (e = true ∧ (o : Int) ≤ 64 ∧ (q : Int) ≤ 1073741824)) :
  Ev (fun k => zap.j0 k (toB s) (o : Int) (q : Int) b) (zb9 o q e s) := by
 refine Ev.step (fun k => by rw [zap.j0]) ?_
 by_cases h : e = true ∧ (o : Int) ≤ 64 ∧ (q : Int) ≤ 1073741824
 ·obtain ⟨h1,h2,h3⟩ := h
  refine zO (fun hh => hb.1 hh ⟨h1,h2,h3⟩) (zad (zcb (toB s) 4 48 (by decide) (by decide) (by rw [zV];exact hs) (.inr (by omega))) ?_)
  simp only [zcv,zae]
  rw [zag (by omega) (by omega),zag (by omega) (by omega)]
  by_cases h4 : (zai s 4 48).2.2 = 0
  ·refine zw h4 ?_
   by_cases h5 : (zai s 4 48).2.1 = []
   ·refine zw (by rw [zfb,zae];exact h5) (zad rfl ?_)
    by_cases h6 : zcK o q (zai s 4 48).1 = true
    ·rw [zcx ⟨h1,h2,h3,h4,h5,h6⟩]
     exact zw h6 (Ev.now _)
    ·rw [za2 (fun hh => h6 hh.2.2.2.2.2)]
     exact zO h6 (Ev.now _)
   ·rw [za2 (fun hh => h5 hh.2.2.2.2.1)]
    exact zO (by rw [zfb,zae];exact h5) (Ev.now _)
  ·rw [za2 (fun hh => h4 hh.2.2.2.1)]
   exact zO h4 (Ev.now _)
 ·rw [za2 (fun hh => h ⟨hh.1,hh.2.1,hh.2.2.1⟩)]
  exact zw (hb.2 h) (Ev.now _)
theorem zfD (s : ByteArray) (hs : s.size < 4611686018427387904) : Ev (fun k => zap.f k s) (zaL (ofB s)) := by
 have h1 := zaW (ofB s)
 have h2 := zaW (zv (ofB s)).2.1
 have h3 := zaQ (ofB s)
 have h4 := zaQ (zv (ofB s)).2.1
 rw [zah] at h1
 have t2 := zbU (zbd s).2.1 (by simp only [zbd,zV];omega)
 refine Ev.bind (zbU s hs) (Ev.bind t2 ?_)
 simp only [zbd,zae]
 have key := fun b => zfE (zv (zv (ofB s)).2.1).2.1 (zv (ofB s)).1 (zv (zv (ofB s)).2.1).1 (decide ((zv (ofB s)).2.2 = 0 ∧ (zv (zv (ofB s)).2.1).2.2 = 0)) b (by omega) h3 h4
 by_cases e1 : (zv (ofB s)).2.2 = 0
 ·refine zw e1 ?_
  by_cases e2 : (zv (zv (ofB s)).2.1).2.2 = 0
  ·refine zw e2 ?_
   by_cases e3 : ((zv (ofB s)).1 : Int) > 64
   ·exact zw e3 (key true (by simp [e1,e2];omega))
   ·exact zO e3 (key _ (by simp [e1,e2];omega))
  ·exact zO e2 (key true (by simp [e2]))
 ·exact zO e1 (key true (by simp [e1]))
theorem zgi (o q : Int) (l : List ByteArray) (hl : l.length < 4611686018427387904) (d : Nat) : ∀ j,j + d = l.length →
  Ev (fun k => zB.l0 k (j : Int) o q l) (!(l.drop j).any zcg) := by
 induction d with
 | zero =>
  intro j hj
  refine Ev.step (fun k => by rw [zB.l0]) ?_
  refine zO (by omega) (zao (Ev.now _) ?_)
  rw [List.drop_eq_nil_of_le (by omega)];rfl
 | succ d ih =>
  intro j hj
  have hjl : j < l.length := by omega
  refine Ev.step (fun k => by rw [zB.l0]) ?_
  refine zw (by omega) (zw (by omega) ?_)
  rw [zdQ l j hjl,List.drop_eq_getElem_cons hjl,zag (by omega) (by omega),List.any_cons]
  by_cases h1 : (l[j].size : Int) < 1
  ·refine zw h1 (zao (Ev.now _) ?_)
   have : l[j].size = 0 := by omega
   simp [zcg,this]
  ·refine zO h1 ?_
   by_cases h2 : (l[j].size : Int) > 48
   ·refine zw h2 (zao (Ev.now _) ?_)
    have : 48 < l[j].size := by omega
    simp [zcg,this]
   ·refine zO h2 (zao (ih (j + 1) (by omega)) ?_)
    have e1 : zcg l[j] = false := by
     have : ¬ l[j].size = 0 := by omega
     have h3 : ¬ 48 < l[j].size := by omega
     simp [zcg,this,h3]
    rw [e1,Bool.false_or]
theorem zfy (o q : Int) (l : List ByteArray) (hl : l.length < 4611686018427387904) : Ev (fun k => zB.f k o q l) (zcK o q l) := by
 have key : ∀ b : Bool,(b = true ↔ ¬ (1 ≤ o ∧ o ≤ 64 ∧ 1 ≤ q ∧ q ≤ 1073741824 ∧ 1 ≤ l.length ∧ l.length ≤ 4)) → Ev (fun k => zB.j0 k b o q l) (zcK o q l) := by
  intro b hb
  refine Ev.step (fun k => by rw [zB.j0]) ?_
  by_cases h : 1 ≤ o ∧ o ≤ 64 ∧ 1 ≤ q ∧ q ≤ 1073741824 ∧ 1 ≤ l.length ∧ l.length ≤ 4
  ·refine zO (fun hh => hb.1 hh h) (zao (zgi o q l hl l.length 0 (by omega)) ?_)
   obtain ⟨h1,h2,h3,h4,h5,h6⟩ := h
   simp [zcK,h1,h2,h3,h4,h5,h6]
  ·refine zw (hb.2 h) (zao (Ev.now _) ?_)
   symm
   rw [← Bool.not_eq_true,zdL]
   exact fun ⟨h1,h2,h3,h4,h5,h6,_⟩ => h ⟨h1,h2,h3,h4,h5,h6⟩
 by_cases h1 : o < 1
 ·exact zw h1 (key true (by simp;omega))
 refine zO h1 ?_
 by_cases h2 : o > 64
 ·exact zw h2 (key true (by simp;omega))
 refine zO h2 ?_
 by_cases h3 : q < 1
 ·exact zw h3 (key true (by simp;omega))
 refine zO h3 ?_
 by_cases h4 : q > 1073741824
 ·exact zw h4 (key true (by simp;omega))
 refine zO h4 ?_
 by_cases h5 : (l.length : Int) < 1
 ·exact zw h5 (key true (by simp;omega))
 exact zO h5 (key _ (by simp;omega))
theorem zfm {s : Bs} {many most : Int} (h : ¬ (zai s many most).2.2 = 0) : (zai s many most).1.length < 4611686018427387904 := by
 have key : ∀ (n : Nat) (s : Bs) (acc : List ByteArray),(zaM most n s acc).2.2 ≠ 0 → (zaM most n s acc).1 = [] := by
  intro n
  induction n with
  | zero => intro s acc hh;exact absurd rfl hh
  | succ n ih =>
   intro s acc hh
   rw [zaM] at hh ⊢
   split
   ·rename_i h0;rw [if_pos h0] at hh;exact ih _ _ hh
   ·rfl
 unfold zai zbu at h ⊢
 split
 ·rename_i h0
  rw [if_pos h0] at h
  split
  ·simp
  ·rename_i h1
   rw [if_neg h1] at h
   rw [key _ _ _ h];simp
 ·simp
theorem zdU (s : Bs) (many most : Int) (hm : many < 4611686018427387904) : (zai s many most).1.length < 4611686018427387904 := by
 by_cases h : (zai s many most).2.2 = 0
 ·rcases hq : zai s many most with ⟨l,r,e⟩
  rw [hq] at h
  simp only at h
  subst h
  obtain ⟨_,h2,_⟩ := zbE hq
  simp only;omega
 ·exact zfm h
theorem zet (s : ByteArray) (hs : s.size < 4611686018427387904) : Ev (fun k => zT.f k s) (zaL (ofB s)) := by
 have h1 := zaW (ofB s)
 have h2 := zaW (zv (ofB s)).2.1
 have h3 := zaQ (ofB s)
 have h4 := zaQ (zv (ofB s)).2.1
 rw [zah] at h1
 have t2 := za9 (toB (zv (ofB s)).2.1) (by simp only [zV];omega)
 refine Ev.bind (za9 s hs) ?_
 simp only [zbd,zae] at t2 ⊢
 have key1 : ∀ b : Bool,(b = true ↔ ¬ ((zv (zv (ofB s)).2.1).2.2 = 0 ∧ ((zv (zv (ofB s)).2.1).1 : Int) ≤ 1073741824)) → (zv (ofB s)).2.2 = 0 → ((zv (ofB s)).1 : Int) ≤ 64 →
   Ev (fun k => zT.j1 k ((zv (ofB s)).1 : Int) ((zv (zv (ofB s)).2.1).1 : Int) (toB (zv (zv (ofB s)).2.1).2.1) b) (zaL (ofB s)) := by
  intro b hb e1 e0
  refine Ev.step (fun k => by rw [zT.j1]) ?_
  rw [zaL]
  by_cases h : (zv (zv (ofB s)).2.1).2.2 = 0 ∧ ((zv (zv (ofB s)).2.1).1 : Int) ≤ 1073741824
  ·obtain ⟨h5,h6⟩ := h
   refine zO (fun hh => hb.1 hh ⟨h5,h6⟩) (Ev.bind (zcS (toB (zv (zv (ofB s)).2.1).2.1) 4 48 (by decide) (by decide) (by rw [zV];omega) (.inr (by omega))) ?_)
   simp only [zcv,zae]
   rw [zag (by omega) (by omega),zag (by omega) (by omega)]
   refine Ev.bind (zfy _ _ _ (zdU _ _ _ (by omega))) ?_
   by_cases h7 : (zai (zv (zv (ofB s)).2.1).2.1 4 48).2.2 = 0
   ·refine zw h7 ?_
    by_cases h8 : (zai (zv (zv (ofB s)).2.1).2.1 4 48).2.1 = []
    ·refine zO (by rw [h8,zV];simp) ?_
     by_cases h9 : zcK (zv (ofB s)).1 (zv (zv (ofB s)).2.1).1 (zai (zv (zv (ofB s)).2.1).2.1 4 48).1 = true
     ·rw [zcx ⟨by simp [e1,h5],e0,h6,h7,h8,h9⟩]
      exact zw h9 (Ev.now _)
     ·rw [za2 (fun hh => h9 hh.2.2.2.2.2)]
      exact zO h9 (Ev.now _)
    ·rw [za2 (fun hh => h8 hh.2.2.2.2.1)]
     refine zw ?_ (Ev.now _)
     rw [zV]
     have : (zai (zv (zv (ofB s)).2.1).2.1 4 48).2.1.length ≠ 0 := fun hh => h8 (List.eq_nil_of_length_eq_zero hh)
     omega
   ·rw [za2 (fun hh => h7 hh.2.2.2.1)]
    exact zO h7 (Ev.now _)
  ·rw [za2 (fun hh => h ⟨(of_decide_eq_true hh.1).2,hh.2.2.1⟩)]
   exact zw (hb.2 h) (Ev.now _)
 have key0 : ∀ b : Bool,(b = true ↔ ¬ ((zv (ofB s)).2.2 = 0 ∧ ((zv (ofB s)).1 : Int) ≤ 64)) → Ev (fun k => zT.j0 k ((zv (ofB s)).1 : Int) (toB (zv (ofB s)).2.1) b) (zaL (ofB s)) := by
  intro b hb
  refine Ev.step (fun k => by rw [zT.j0]) ?_
  by_cases h : (zv (ofB s)).2.2 = 0 ∧ ((zv (ofB s)).1 : Int) ≤ 64
  ·obtain ⟨e1,e0⟩ := h
   refine zO (fun hh => hb.1 hh ⟨e1,e0⟩) (Ev.bind t2 ?_)
   by_cases e2 : (zv (zv (ofB s)).2.1).2.2 = 0
   ·exact zw e2 (key1 _ (by simp [e2]) e1 e0)
   ·exact zO e2 (key1 true (by simp [e2]) e1 e0)
  ·rw [zaL,za2 (fun hh => h ⟨(of_decide_eq_true hh.1).1,hh.2.1⟩)]
   exact zw (hb.2 h) (Ev.now _)
 by_cases e1 : (zv (ofB s)).2.2 = 0
 ·exact zw e1 (key0 _ (by simp [e1]))
 ·exact zO e1 (key0 true (by simp [e1]))
theorem ze9 (s : Bs) : (zaL s).2.2.1.length < 4611686018427387904 := by
 unfold zaL zb9
 split
 ·exact zdU _ _ _ (by omega)
 ·simp
theorem zfk {s : Bs} {o q : Int} {l : List ByteArray} (h : zaL s = (o,q,l,0)) : s = zdC o q l ∧ zcK o q l = true := by
 unfold zaL zb9 at h
 split at h
 ·rename_i hc
  obtain ⟨h1,h2,h3,h4,h5,h6⟩ := hc
  obtain ⟨h7,h8⟩ := of_decide_eq_true h1
  simp only [Prod.mk.injEq,and_true] at h
  obtain ⟨rfl,rfl,rfl⟩ := h
  refine ⟨?_,h6⟩
  rcases hq : zv s with ⟨v,r,e⟩
  rw [hq] at h4 h5 h7 h8
  simp only at h4 h5 h7 h8 ⊢
  subst h7
  obtain ⟨rfl,_⟩ := zbf hq
  rcases hq2 : zv r with ⟨v2,r2,e2⟩
  rw [hq2] at h4 h5 h8
  simp only at h4 h5 h8 ⊢
  subst h8
  obtain ⟨rfl,_⟩ := zbf hq2
  rcases hq3 : zai r2 4 48 with ⟨l,r3,e3⟩
  rw [hq3] at h4 h5
  simp only at h4 h5 ⊢
  subst h4 h5
  obtain ⟨h9,_⟩ := zbE hq3
  rw [List.append_nil] at h9
  rw [zdC,← h9,Int.toNat_natCast,Int.toNat_natCast,List.append_assoc]
 ·simp at h
theorem zd8 {o q : Int} {l : List ByteArray} (h : zcK o q l = true) : zaL (zdC o q l) = (o,q,l,0) := by
 obtain ⟨h1,h2,h3,h4,h5,h6,h7⟩ := (zdL o q l).1 h
 obtain ⟨a,rfl⟩ := Int.eq_ofNat_of_zero_le (show 0 ≤ o by omega)
 obtain ⟨b,rfl⟩ := Int.eq_ofNat_of_zero_le (show 0 ≤ q by omega)
 have e1 : zv (zdC a b l) = (a,zbb b ++ zcM l,0) := by
  rw [zdC,Int.toNat_natCast,Int.toNat_natCast,List.append_assoc]
  exact zbt (by omega) _
 have e2 : zv (zbb b ++ zcM l) = (b,zcM l,0) := zbt (by omega) _
 have e3 : zai (zcM l) 4 48 = (l,[],0) := by
  have := zcf (l := l) (many := 4) (most := 48) (by omega) (by omega) (fun t ht => by have := h7 t ht;omega) []
  rwa [List.append_nil] at this
 rw [zaL,e1]
 simp only
 rw [e2]
 simp only
 rw [zcx (by rw [e3];exact ⟨by simp,h2,h4,rfl,rfl,h⟩),e3]
end Go.Proofs.Ytgdpiegkoeikiaa.Px