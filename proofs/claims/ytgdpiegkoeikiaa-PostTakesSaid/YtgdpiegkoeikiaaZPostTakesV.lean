/- Part 22 of 35 of the proof of the law PostTakes: what is proved is the statement at the end of the last part; its conditions are those of the given row. -/
import Derived.Test.YtgdpiegkoeikiaaZPostTakesU
namespace Go.Proofs.Ytgdpiegkoeikiaa.Px
open Go.RowKit Go.Proofs.YtgdpiegkoeikiaaW.PrintWords Go.Proofs.YtgdpiegkoeikiaaW.PrintLast Go.Proofs.YtgdpiegkoeikiaaW.PrintMore
attribute [local go_sem] zF zH zQ zR zy zz zG zI
set_option linter.unusedVariables false
set_option linter.unusedSimpArgs false
mutual
def zo.j0 : Nat → Int → Bool → Int → Int → List (zY) → List ByteArray → Int → Int → Option (Bool)
 | 0,_,_,_,_,_,_,_,_ => none
 | k + 1,x1,x41,x208000,x208001,x208002,x208003,x208004,x208005 => if x41 = true then (some false) else (zo.l0 k x1 0 x208000 x208001 x208002 x208003 x208004 x208005)
def zo.l0 : Nat → Int → Int → Int → Int → List (zY) → List ByteArray → Int → Int → Option (Bool)
 | 0,_,_,_,_,_,_,_,_ => none
 | k + 1,x1,x6,x208000,x208001,x208002,x208003,x208004,x208005 => if x6 < (x208002.length : Int) then (if 0 ≤ x6 then ((zB.f k ((zX x208002 x6).f0) ((zX x208002 x6).f1) ((zX x208002 x6).f2)).bind fun t210 => (if t210 = true then (if ((zX x208002 x6).f0) > x1 then (some false) else (zo.l0 k x1 (wrap64 (x6 + 1)) x208000 x208001 x208002 x208003 x208004 x208005)) else (some false))) else (none)) else (if x208001 = 1 then (zo.j2 k x1 (decide ((x208003.length : Int) > 0)) x208000 x208001 x208002 x208003 x208004 x208005) else (zo.j2 k x1 false x208000 x208001 x208002 x208003 x208004 x208005))
def zo.j2 : Nat → Int → Bool → Int → Int → List (zY) → List ByteArray → Int → Int → Option (Bool)
 | 0,_,_,_,_,_,_,_,_ => none
 | k + 1,x1,x75,x208000,x208001,x208002,x208003,x208004,x208005 => if x75 = true then (some false) else (if x208001 > 1 then ((z7.f x1).bind fun t212 => (if (x208003.length : Int) < t212 then (zo.j3 k true x208000 x208001 x208002 x208003 x208004 x208005) else (zo.j3 k (decide ((x208003.length : Int) > x1)) x208000 x208001 x208002 x208003 x208004 x208005))) else (zo.j3 k false x208000 x208001 x208002 x208003 x208004 x208005))
def zo.j3 : Nat → Bool → Int → Int → List (zY) → List ByteArray → Int → Int → Option (Bool)
 | 0,_,_,_,_,_,_,_ => none
 | k + 1,x93,x208000,x208001,x208002,x208003,x208004,x208005 => if x93 = true then (some false) else (zo.l1 k 0 x208000 x208001 x208002 x208003 x208004 x208005)
def zo.l1 : Nat → Int → Int → Int → List (zY) → List ByteArray → Int → Int → Option (Bool)
 | 0,_,_,_,_,_,_,_ => none
 | k + 1,x8,x208000,x208001,x208002,x208003,x208004,x208005 => if x8 < (x208003.length : Int) then (if 0 ≤ x8 then (if ((zaF ByteArray.empty x208003 x8).size : Int) = 32 then (if x8 > 0 then (if 0 ≤ (wrap64 (x8 - 1)) then (if (wrap64 (x8 - 1)) < (x208003.length : Int) then ((zS.f k (zaF ByteArray.empty x208003 (wrap64 (x8 - 1))) (zaF ByteArray.empty x208003 x8)).bind fun t218 => (if t218 = true then (zo.l1 k (wrap64 (x8 + 1)) x208000 x208001 x208002 x208003 x208004 x208005) else (some false))) else (none)) else (none)) else (zo.l1 k (wrap64 (x8 + 1)) x208000 x208001 x208002 x208003 x208004 x208005)) else (some false)) else (none)) else ((zau.f x208004 x208005).bind fun t213 => ((zal.f x208001).bind fun t214 => (if t213 = true then (if t214 = true then (some true) else (if x208004 = 0 then (some (x208005 == 0)) else (some false))) else (some false))))
end
def zo.f (k : Nat) (a0_0 : Int) (a0_1 : Int) (l0_2 : List (zY)) (l0_3 : List ByteArray) (a0_4 : Int) (a0_5 : Int) (a1 : Int) : Option (Bool) := (zav.f a1).bind fun t208 => (if t208 = true then (if a0_0 < 1 then (zo.j0 k a1 true a0_0 a0_1 l0_2 l0_3 a0_4 a0_5) else (if a0_0 > a1 then (zo.j0 k a1 true a0_0 a0_1 l0_2 l0_3 a0_4 a0_5) else (if a0_1 < 1 then (zo.j0 k a1 true a0_0 a0_1 l0_2 l0_3 a0_4 a0_5) else (if a0_1 > 1048576 then (zo.j0 k a1 true a0_0 a0_1 l0_2 l0_3 a0_4 a0_5) else (zo.j0 k a1 (decide ((l0_2.length : Int) > 4)) a0_0 a0_1 l0_2 l0_3 a0_4 a0_5))))) else (zo.j0 k a1 true a0_0 a0_1 l0_2 l0_3 a0_4 a0_5))
set_option maxHeartbeats 8000000 in
set_option maxRecDepth 100000 in
theorem zo.calls (k : Nat) (a0_0 : Int) (a0_1 : Int) (A0_2 : Option Addr) (c0_2 : Nat) (l0_2 : List (zY)) (A0_3 : Option Addr) (c0_3 : Nat) (l0_3 : List ByteArray) (a0_4 : Int) (a0_5 : Int) (a1 : Int) (r : Bool) (w : World) (hr0_2 : Kd.C zb1 w A0_2 l0_2.length l0_2) (hc0_2 : l0_2.length ≤ c0_2) (hr0_3 : Kd.C Kd.string w A0_3 l0_3.length l0_3) (hc0_3 : l0_3.length ≤ c0_3) (h : zo.f k a0_0 a0_1 l0_2 l0_3 a0_4 a0_5 a1 = some r) :
  Calls Try.prog 63 #[.agg #[.int .i64 a0_0,.int .i64 a0_1,.slice A0_2 l0_2.length c0_2,.slice A0_3 l0_3.length c0_3,.int .i64 a0_4,.int .i64 a0_5],.int .i64 a1] w fun e w' => e = .returned (.bool r) ∧ Below w.heap.size w w' := by
 have hu28 := Try.underlying28
 have hu107 := Try.underlying107
 have hu26 := Try.underlying26
 have HR0_2 := zc.mk hr0_2
 have HC0_2 := zc.mk hc0_2
 clear hr0_2 hc0_2
 have HR0_3 := zc.mk hr0_3
 have HC0_3 := zc.mk hc0_3
 clear hr0_3 hc0_3
 have HB := zc.mk (Below.refl w.heap.size w)
 have H : ((zav.f a1).bind fun t208 => (if t208 = true then (if a0_0 < 1 then (zo.j0 k a1 true a0_0 a0_1 l0_2 l0_3 a0_4 a0_5) else (if a0_0 > a1 then (zo.j0 k a1 true a0_0 a0_1 l0_2 l0_3 a0_4 a0_5) else (if a0_1 < 1 then (zo.j0 k a1 true a0_0 a0_1 l0_2 l0_3 a0_4 a0_5) else (if a0_1 > 1048576 then (zo.j0 k a1 true a0_0 a0_1 l0_2 l0_3 a0_4 a0_5) else (zo.j0 k a1 (decide ((l0_2.length : Int) > 4)) a0_0 a0_1 l0_2 l0_3 a0_4 a0_5))))) else (zo.j0 k a1 true a0_0 a0_1 l0_2 l0_3 a0_4 a0_5))) = some r := h
 clear h
 replace H := Option.bind_eq_some_iff.mp H
 obtain ⟨t208,A30,H⟩ := H
 replace H : (if t208 = true then (if a0_0 < 1 then (zo.j0 k a1 true a0_0 a0_1 l0_2 l0_3 a0_4 a0_5) else (if a0_0 > a1 then (zo.j0 k a1 true a0_0 a0_1 l0_2 l0_3 a0_4 a0_5) else (if a0_1 < 1 then (zo.j0 k a1 true a0_0 a0_1 l0_2 l0_3 a0_4 a0_5) else (if a0_1 > 1048576 then (zo.j0 k a1 true a0_0 a0_1 l0_2 l0_3 a0_4 a0_5) else (zo.j0 k a1 (decide ((l0_2.length : Int) > 4)) a0_0 a0_1 l0_2 l0_3 a0_4 a0_5))))) else (zo.j0 k a1 true a0_0 a0_1 l0_2 l0_3 a0_4 a0_5)) = some r := H
 have A3 := zc.mk A30
 clear A30
 have HC4 := zc.mk H
 clear H
 go_enter Try.func63,Try.ntmps63
 go_upto_region 2 with (first | ((with_reducible refine zu (N := 2) rfl ?_);(try (refine zaX (by rfl) ?_;dsimp only));refine zr ?hg (N := 2) ?hd (cs := #[.int .i64 a0_0,.int .i64 a0_1,.slice A0_2 l0_2.length c0_2,.slice A0_3 l0_3.length c0_3,.int .i64 a0_4,.int .i64 a0_5]) (t := 28) ?hr ?_;(case hd => rfl);(case hg => rfl);(case hr => first | (go_simp;done) | (go_simp;rfl));intro gb207 hg w5 hbox hb;have n0_ := zc.mk (zj hBq hb);have n1_ := zc.mk (hbox);have n2_ := zc.mk ((by rw [hg];exact (zl hBq) : w.heap.size ≤ gb207));have n3_ := zc.mk ((by rw [hg];exact (zl hBq) : w.heap.size ≤ gb207));clear HB;have HB := n0_;have BK207 := n1_;have GW207 := n2_;have GE207 := n3_;clear n0_ n1_ n2_ n3_;clear hb hbox hg) | (go_at_call 95;(with_reducible refine (zav.calls a1 t208 _ A3.out).mono ?_);rintro e w' ⟨rfl,⟨nd,rfl⟩⟩;(try first | exact ⟨rfl,_,World.drewN_drewN _ _ _⟩ | exact ⟨rfl,_,Eq.trans (World.drewN_drewN _ _ _) (congrArg (World.drewN _) (Nat.add_assoc _ _ _))⟩)))
 repeat (go_quiet (first | ((with_reducible refine zu (N := 2) rfl ?_);(try (refine zaX (by rfl) ?_;dsimp only));refine zr ?hg (N := 2) ?hd (cs := #[.int .i64 a0_0,.int .i64 a0_1,.slice A0_2 l0_2.length c0_2,.slice A0_3 l0_3.length c0_3,.int .i64 a0_4,.int .i64 a0_5]) (t := 28) ?hr ?_;(case hd => rfl);(case hg => rfl);(case hr => first | (go_simp;done) | (go_simp;rfl));intro gb207 hg w5 hbox hb;have n0_ := zc.mk (zj hBq hb);have n1_ := zc.mk (hbox);have n2_ := zc.mk ((by rw [hg];exact (zl hBq) : w.heap.size ≤ gb207));have n3_ := zc.mk ((by rw [hg];exact (zl hBq) : w.heap.size ≤ gb207));clear HB;have HB := n0_;have BK207 := n1_;have GW207 := n2_;have GE207 := n3_;clear n0_ n1_ n2_ n3_;clear hb hbox hg) | (go_at_call 95;(with_reducible refine (zav.calls a1 t208 _ A3.out).mono ?_);rintro e w' ⟨rfl,⟨nd,rfl⟩⟩;(try first | exact ⟨rfl,_,World.drewN_drewN _ _ _⟩ | exact ⟨rfl,_,Eq.trans (World.drewN_drewN _ _ _) (congrArg (World.drewN _) (Nat.add_assoc _ _ _))⟩)));go_upto_region 2 with (first | ((with_reducible refine zu (N := 2) rfl ?_);(try (refine zaX (by rfl) ?_;dsimp only));refine zr ?hg (N := 2) ?hd (cs := #[.int .i64 a0_0,.int .i64 a0_1,.slice A0_2 l0_2.length c0_2,.slice A0_3 l0_3.length c0_3,.int .i64 a0_4,.int .i64 a0_5]) (t := 28) ?hr ?_;(case hd => rfl);(case hg => rfl);(case hr => first | (go_simp;done) | (go_simp;rfl));intro gb207 hg w5 hbox hb;have n0_ := zc.mk (zj hBq hb);have n1_ := zc.mk (hbox);have n2_ := zc.mk ((by rw [hg];exact (zl hBq) : w.heap.size ≤ gb207));have n3_ := zc.mk ((by rw [hg];exact (zl hBq) : w.heap.size ≤ gb207));clear HB;have HB := n0_;have BK207 := n1_;have GW207 := n2_;have GE207 := n3_;clear n0_ n1_ n2_ n3_;clear hb hbox hg) | (go_at_call 95;(with_reducible refine (zav.calls a1 t208 _ A3.out).mono ?_);rintro e w' ⟨rfl,⟨nd,rfl⟩⟩;(try first | exact ⟨rfl,_,World.drewN_drewN _ _ _⟩ | exact ⟨rfl,_,Eq.trans (World.drewN_drewN _ _ _) (congrArg (World.drewN _) (Nat.add_assoc _ _ _))⟩))))
 (try simp only [Act.put,List.setIfInBounds_toArray,List.set_cons_zero,List.set_cons_succ])
 go_cut [41] (fun v41 wc => ∃ (kq : Nat) (x41_3 : Bool),v41 = .bool x41_3 ∧ zc (zo.j0 kq a1 x41_3 a0_0 a0_1 l0_2 l0_3 a0_4 a0_5 = some r) ∧ zc (kq ≤ k) ∧ zc (wc.heap[gb207]? = some (.cells #[.int .i64 a0_0,.int .i64 a0_1,(.slice A0_2 l0_2.length c0_2),(.slice A0_3 l0_3.length c0_3),.int .i64 a0_4,.int .i64 a0_5] 28 (0,0))) ∧ zc (Below w.heap.size w wc))
 case first =>
  have H := HC4.out
  clear HC4
  by_cases c6 : t208 = true
  ·subst c6
   have H1 : (if a0_0 < 1 then (zo.j0 k a1 true a0_0 a0_1 l0_2 l0_3 a0_4 a0_5) else (if a0_0 > a1 then (zo.j0 k a1 true a0_0 a0_1 l0_2 l0_3 a0_4 a0_5) else (if a0_1 < 1 then (zo.j0 k a1 true a0_0 a0_1 l0_2 l0_3 a0_4 a0_5) else (if a0_1 > 1048576 then (zo.j0 k a1 true a0_0 a0_1 l0_2 l0_3 a0_4 a0_5) else (zo.j0 k a1 (decide ((l0_2.length : Int) > 4)) a0_0 a0_1 l0_2 l0_3 a0_4 a0_5))))) = some r := by rw [if_pos rfl] at H;exact H
   clear H
   have H := H1
   clear H1
   by_cases c7 : a0_0 < 1
   ·rw [if_pos c7] at H
    have c7b0 : decide (a0_0 < 1) = true := decide_eq_true c7
    clear c7
    (first | rw [c7b0] | (simp only [zan,zaq];rw [c7b0]) | skip)
    have H' := zc.mk H
    clear H
    have hcz8_0 : w5.cell? ⟨gb207,0,none⟩ = some (.int .i64 a0_0) := (zb BK207.out 0).trans rfl
    have hcz8_1 : w5.cell? ⟨gb207,1,none⟩ = some (.int .i64 a0_1) := (zb BK207.out 1).trans rfl
    have hcz8_2 : w5.cell? ⟨gb207,2,none⟩ = some (.slice A0_2 l0_2.length c0_2) := (zb BK207.out 2).trans rfl
    have hcz8_3 : w5.cell? ⟨gb207,3,none⟩ = some (.slice A0_3 l0_3.length c0_3) := (zb BK207.out 3).trans rfl
    have hcz8_4 : w5.cell? ⟨gb207,4,none⟩ = some (.int .i64 a0_4) := (zb BK207.out 4).trans rfl
    have hcz8_5 : w5.cell? ⟨gb207,5,none⟩ = some (.int .i64 a0_5) := (zb BK207.out 5).trans rfl
    have hfz8_0 := za BK207.out 0
    have hfz8_1 := za BK207.out 1
    have hfz8_2 := za BK207.out 2
    have hfz8_3 := za BK207.out 3
    have hfz8_4 := za BK207.out 4
    have hfz8_5 := za BK207.out 5
    go_wp2
    repeat (go_quiet (fail);try go_wp2)
    go_meet
    case rel => exact ⟨_,(true),(hDq),H',⟨by first | omega | exact Nat.le_refl _⟩,⟨hGq BK207.out⟩,⟨by repeat (first | (with_reducible first | exact HB.out | apply zA | apply zm | apply zJ | refine zg ?_ GE207.out) | exact HB.out)⟩⟩
   ·rw [if_neg c7] at H
    have c7b0 : decide (a0_0 < 1) = false := decide_eq_false c7
    clear c7
    (first | rw [c7b0] | (simp only [zan,zaq];rw [c7b0]) | skip)
    by_cases c9 : a0_0 > a1
    ·rw [if_pos c9] at H
     have c9b0 : decide (a1 < a0_0) = true := decide_eq_true c9
     clear c9
     have H' := zc.mk H
     clear H
     have hcz10_0 : w5.cell? ⟨gb207,0,none⟩ = some (.int .i64 a0_0) := (zb BK207.out 0).trans rfl
     have hcz10_1 : w5.cell? ⟨gb207,1,none⟩ = some (.int .i64 a0_1) := (zb BK207.out 1).trans rfl
     have hcz10_2 : w5.cell? ⟨gb207,2,none⟩ = some (.slice A0_2 l0_2.length c0_2) := (zb BK207.out 2).trans rfl
     have hcz10_3 : w5.cell? ⟨gb207,3,none⟩ = some (.slice A0_3 l0_3.length c0_3) := (zb BK207.out 3).trans rfl
     have hcz10_4 : w5.cell? ⟨gb207,4,none⟩ = some (.int .i64 a0_4) := (zb BK207.out 4).trans rfl
     have hcz10_5 : w5.cell? ⟨gb207,5,none⟩ = some (.int .i64 a0_5) := (zb BK207.out 5).trans rfl
     have hfz10_0 := za BK207.out 0
     have hfz10_1 := za BK207.out 1
     have hfz10_2 := za BK207.out 2
     have hfz10_3 := za BK207.out 3
     have hfz10_4 := za BK207.out 4
     have hfz10_5 := za BK207.out 5
     go_wp2
     repeat (go_quiet (fail);try go_wp2)
     go_meet
     case rel => exact ⟨_,(true),(hDq),H',⟨by first | omega | exact Nat.le_refl _⟩,⟨hGq BK207.out⟩,⟨by repeat (first | (with_reducible first | exact HB.out | apply zA | apply zm | apply zJ | refine zg ?_ GE207.out) | exact HB.out)⟩⟩
    ·rw [if_neg c9] at H
     have c9b0 : decide (a1 < a0_0) = false := decide_eq_false c9
     clear c9
     by_cases c11 : a0_1 < 1
     ·rw [if_pos c11] at H
      have c11b0 : decide (a0_1 < 1) = true := decide_eq_true c11
      clear c11
      have H' := zc.mk H
      clear H
      have hcz12_0 : w5.cell? ⟨gb207,0,none⟩ = some (.int .i64 a0_0) := (zb BK207.out 0).trans rfl
      have hcz12_1 : w5.cell? ⟨gb207,1,none⟩ = some (.int .i64 a0_1) := (zb BK207.out 1).trans rfl
      have hcz12_2 : w5.cell? ⟨gb207,2,none⟩ = some (.slice A0_2 l0_2.length c0_2) := (zb BK207.out 2).trans rfl
      have hcz12_3 : w5.cell? ⟨gb207,3,none⟩ = some (.slice A0_3 l0_3.length c0_3) := (zb BK207.out 3).trans rfl
      have hcz12_4 : w5.cell? ⟨gb207,4,none⟩ = some (.int .i64 a0_4) := (zb BK207.out 4).trans rfl
      have hcz12_5 : w5.cell? ⟨gb207,5,none⟩ = some (.int .i64 a0_5) := (zb BK207.out 5).trans rfl
      have hfz12_0 := za BK207.out 0
      have hfz12_1 := za BK207.out 1
      have hfz12_2 := za BK207.out 2
      have hfz12_3 := za BK207.out 3
      have hfz12_4 := za BK207.out 4
      have hfz12_5 := za BK207.out 5
      go_wp2
      repeat (go_quiet (fail);try go_wp2)
      go_meet
      case rel => exact ⟨_,(true),(hDq),H',⟨by first | omega | exact Nat.le_refl _⟩,⟨hGq BK207.out⟩,⟨by repeat (first | (with_reducible first | exact HB.out | apply zA | apply zm | apply zJ | refine zg ?_ GE207.out) | exact HB.out)⟩⟩
     ·rw [if_neg c11] at H
      have c11b0 : decide (a0_1 < 1) = false := decide_eq_false c11
      clear c11
      by_cases c13 : a0_1 > 1048576
      ·rw [if_pos c13] at H
       have c13b0 : decide (1048576 < a0_1) = true := decide_eq_true c13
       clear c13
       have H' := zc.mk H
       clear H
       have hcz14_0 : w5.cell? ⟨gb207,0,none⟩ = some (.int .i64 a0_0) := (zb BK207.out 0).trans rfl
       have hcz14_1 : w5.cell? ⟨gb207,1,none⟩ = some (.int .i64 a0_1) := (zb BK207.out 1).trans rfl
       have hcz14_2 : w5.cell? ⟨gb207,2,none⟩ = some (.slice A0_2 l0_2.length c0_2) := (zb BK207.out 2).trans rfl
       have hcz14_3 : w5.cell? ⟨gb207,3,none⟩ = some (.slice A0_3 l0_3.length c0_3) := (zb BK207.out 3).trans rfl
       have hcz14_4 : w5.cell? ⟨gb207,4,none⟩ = some (.int .i64 a0_4) := (zb BK207.out 4).trans rfl
       have hcz14_5 : w5.cell? ⟨gb207,5,none⟩ = some (.int .i64 a0_5) := (zb BK207.out 5).trans rfl
       have hfz14_0 := za BK207.out 0
       have hfz14_1 := za BK207.out 1
       have hfz14_2 := za BK207.out 2
       have hfz14_3 := za BK207.out 3
       have hfz14_4 := za BK207.out 4
       have hfz14_5 := za BK207.out 5
       go_wp2
       repeat (go_quiet (fail);try go_wp2)
       go_meet
       case rel => exact ⟨_,(true),(hDq),H',⟨by first | omega | exact Nat.le_refl _⟩,⟨hGq BK207.out⟩,⟨by repeat (first | (with_reducible first | exact HB.out | apply zA | apply zm | apply zJ | refine zg ?_ GE207.out) | exact HB.out)⟩⟩
      ·rw [if_neg c13] at H
       have c13b0 : decide (1048576 < a0_1) = false := decide_eq_false c13
       clear c13
       have H' := zc.mk H
       clear H
       have hcz15_0 : w5.cell? ⟨gb207,0,none⟩ = some (.int .i64 a0_0) := (zb BK207.out 0).trans rfl
       have hcz15_1 : w5.cell? ⟨gb207,1,none⟩ = some (.int .i64 a0_1) := (zb BK207.out 1).trans rfl
       have hcz15_2 : w5.cell? ⟨gb207,2,none⟩ = some (.slice A0_2 l0_2.length c0_2) := (zb BK207.out 2).trans rfl
       have hcz15_3 : w5.cell? ⟨gb207,3,none⟩ = some (.slice A0_3 l0_3.length c0_3) := (zb BK207.out 3).trans rfl
       have hcz15_4 : w5.cell? ⟨gb207,4,none⟩ = some (.int .i64 a0_4) := (zb BK207.out 4).trans rfl
       have hcz15_5 : w5.cell? ⟨gb207,5,none⟩ = some (.int .i64 a0_5) := (zb BK207.out 5).trans rfl
       have hfz15_0 := za BK207.out 0
       have hfz15_1 := za BK207.out 1
       have hfz15_2 := za BK207.out 2
       have hfz15_3 := za BK207.out 3
       have hfz15_4 := za BK207.out 4
       have hfz15_5 := za BK207.out 5
       go_wp2
       repeat (go_quiet (fail);try go_wp2)
       go_meet
       case rel => exact ⟨_,(decide ((l0_2.length : Int) > 4)),(hDq),H',⟨by first | omega | exact Nat.le_refl _⟩,⟨hGq BK207.out⟩,⟨by repeat (first | (with_reducible first | exact HB.out | apply zA | apply zm | apply zJ | refine zg ?_ GE207.out) | exact HB.out)⟩⟩
  ·replace c6 := Bool.eq_false_iff.mpr c6
   subst c6
   have H1 : (zo.j0 k a1 true a0_0 a0_1 l0_2 l0_3 a0_4 a0_5) = some r := by rw [if_neg (show ¬ (false = true) by decide)] at H;exact H
   clear H
   have H := H1
   clear H1
   have H' := zc.mk H
   clear H
   go_wp2
   repeat (go_quiet (fail);try go_wp2)
   go_meet
   case rel => exact ⟨_,(true),(hDq),H',⟨by first | omega | exact Nat.le_refl _⟩,⟨hGq BK207.out⟩,⟨by repeat (first | (with_reducible first | exact HB.out | apply zA | apply zm | apply zJ | refine zg ?_ GE207.out) | exact HB.out)⟩⟩
 case rest =>
  clear HC4
  try clear c1
  try clear p2
  try clear c6
  try clear c7
  try clear c7b0
  try clear c9
  try clear c9b0
  try clear c11
  try clear c11b0
  try clear c13
  try clear c13b0
  try clear hcz10_0
  try clear hcz10_1
  try clear hcz10_2
  try clear hcz10_3
  try clear hcz10_4
  try clear hcz10_5
  try clear hcz12_0
  try clear hcz12_1
  try clear hcz12_2
  try clear hcz12_3
  try clear hcz12_4
  try clear hcz12_5
  try clear hcz14_0
  try clear hcz14_1
  try clear hcz14_2
  try clear hcz14_3
  try clear hcz14_4
  try clear hcz14_5
  try clear hcz15_0
  try clear hcz15_1
  try clear hcz15_2
  try clear hcz15_3
  try clear hcz15_4
  try clear hcz15_5
  try clear hcz8_0
  try clear hcz8_1
  try clear hcz8_2
  try clear hcz8_3
  try clear hcz8_4
  try clear hcz8_5
  try clear hfz10_0
  try clear hfz10_1
  try clear hfz10_2
  try clear hfz10_3
  try clear hfz10_4
  try clear hfz10_5
  try clear hfz12_0
  try clear hfz12_1
  try clear hfz12_2
  try clear hfz12_3
  try clear hfz12_4
  try clear hfz12_5
  try clear hfz14_0
  try clear hfz14_1
  try clear hfz14_2
  try clear hfz14_3
  try clear hfz14_4
  try clear hfz14_5
  try clear hfz15_0
  try clear hfz15_1
  try clear hfz15_2
  try clear hfz15_3
  try clear hfz15_4
  try clear hfz15_5
  try clear hfz8_0
  try clear hfz8_1
  try clear hfz8_2
  try clear hfz8_3
  try clear hfz8_4
  try clear hfz8_5
  obtain ⟨kq,x41_3,rfl,HA,HJ3,BK207,HB⟩ := hcut
  cases kq with
  | zero => exact absurd HA.out (by simp [zo.j0])
  | succ kj3 =>
   have H := HA.out
   clear HA
   simp only [zo.j0] at H
   by_cases c16 : x41_3 = true
   ·subst c16
    have H1 : (some false) = some r := by rw [if_pos rfl] at H;exact H
    clear H
    have H := H1
    clear H1
    obtain rfl := Option.some.inj H
    go_wp2
    repeat (go_quiet (fail);try go_wp2)
    go_ret
    exact ⟨hHq,hCq⟩
   ·replace c16 := Bool.eq_false_iff.mpr c16
    subst c16
    have H1 : (zo.l0 kj3 a1 0 a0_0 a0_1 l0_2 l0_3 a0_4 a0_5) = some r := by rw [if_neg (show ¬ (false = true) by decide)] at H;exact H
    clear H
    have H := H1
    clear H1
    have H' := zc.mk H
    clear H
    go_wp2
    repeat (go_quiet (fail);try go_wp2)
    go_loopg [6] kj3 (fun kq v6 w' => ∃ (x6_2 : Int),v6 = .int .i64 x6_2 ∧ zc (zo.l0 kq a1 x6_2 a0_0 a0_1 l0_2 l0_3 a0_4 a0_5 = some r) ∧ zc (kq ≤ kj3) ∧ zc (w'.heap[gb207]? = some (.cells #[.int .i64 a0_0,.int .i64 a0_1,(.slice A0_2 l0_2.length c0_2),(.slice A0_3 l0_3.length c0_3),.int .i64 a0_4,.int .i64 a0_5] 28 (0,0))) ∧ zc (Below w.heap.size w w'))
    case atStart => exact ⟨(0),(hDq),H',⟨Nat.le_refl _⟩,⟨hGq BK207.out⟩,⟨by repeat (first | (with_reducible first | exact HB.out | apply zA | apply zm | apply zJ | refine zg ?_ GE207.out) | exact HB.out)⟩⟩
    case round =>
     clear H'
     try clear c1
     try clear p2
     try clear c6
     try clear c7
     try clear c7b0
     try clear c9
     try clear c9b0
     try clear c11
     try clear c11b0
     try clear c13
     try clear c13b0
     try clear c16
     try clear hcz10_0
     try clear hcz10_1
     try clear hcz10_2
     try clear hcz10_3
     try clear hcz10_4
     try clear hcz10_5
     try clear hcz12_0
     try clear hcz12_1
     try clear hcz12_2
     try clear hcz12_3
     try clear hcz12_4
     try clear hcz12_5
     try clear hcz14_0
     try clear hcz14_1
     try clear hcz14_2
     try clear hcz14_3
     try clear hcz14_4
     try clear hcz14_5
     try clear hcz15_0
     try clear hcz15_1
     try clear hcz15_2
     try clear hcz15_3
     try clear hcz15_4
     try clear hcz15_5
     try clear hcz8_0
     try clear hcz8_1
     try clear hcz8_2
     try clear hcz8_3
     try clear hcz8_4
     try clear hcz8_5
     try clear hfz10_0
     try clear hfz10_1
     try clear hfz10_2
     try clear hfz10_3
     try clear hfz10_4
     try clear hfz10_5
     try clear hfz12_0
     try clear hfz12_1
     try clear hfz12_2
     try clear hfz12_3
     try clear hfz12_4
     try clear hfz12_5
     try clear hfz14_0
     try clear hfz14_1
     try clear hfz14_2
     try clear hfz14_3
     try clear hfz14_4
     try clear hfz14_5
     try clear hfz15_0
     try clear hfz15_1
     try clear hfz15_2
     try clear hfz15_3
     try clear hfz15_4
     try clear hfz15_5
     try clear hfz8_0
     try clear hfz8_1
     try clear hfz8_2
     try clear hfz8_3
     try clear hfz8_4
     try clear hfz8_5
     try clear p2
     obtain ⟨x6_2,rfl,HA,HK2,BK207,HB⟩ := hrel
     cases gk with
     | zero => exact absurd HA.out (by simp [zo.l0])
     | succ k2 =>
      have H := HA.out
      clear HA
      simp only [zo.l0] at H
      by_cases c17 : x6_2 < (l0_2.length : Int)
      ·rw [if_pos c17] at H
       have c17b0 : decide (x6_2 < (l0_2.length : Int)) = true := decide_eq_true c17
       clear c17
       by_cases c18 : 0 ≤ x6_2
       ·rw [if_pos c18] at H
        have c18b0 : decide (0 ≤ x6_2) = true := decide_eq_true c18
        clear c18
        replace H := Option.bind_eq_some_iff.mp H
        obtain ⟨t210,A190,H⟩ := H
        replace H : (if t210 = true then (if ((zX l0_2 x6_2).f0) > a1 then (some false) else (zo.l0 k2 a1 (wrap64 (x6_2 + 1)) a0_0 a0_1 l0_2 l0_3 a0_4 a0_5)) else (some false)) = some r := H
        have A19 := zc.mk A190
        clear A190
        by_cases c20 : t210 = true
        ·subst c20
         have H1 : (if ((zX l0_2 x6_2).f0) > a1 then (some false) else (zo.l0 k2 a1 (wrap64 (x6_2 + 1)) a0_0 a0_1 l0_2 l0_3 a0_4 a0_5)) = some r := by rw [if_pos rfl] at H;exact H
         clear H
         have H := H1
         clear H1
         by_cases c21 : ((zX l0_2 x6_2).f0) > a1
         ·rw [if_pos c21] at H
          have c21b0 : decide (a1 < ((zX l0_2 x6_2).f0)) = true := decide_eq_true c21
          clear c21
          obtain rfl := Option.some.inj H
          have hcz22_0 : wr.cell? ⟨gb207,0,none⟩ = some (.int .i64 a0_0) := (zb BK207.out 0).trans rfl
          have hcz22_1 : wr.cell? ⟨gb207,1,none⟩ = some (.int .i64 a0_1) := (zb BK207.out 1).trans rfl
          have hcz22_2 : wr.cell? ⟨gb207,2,none⟩ = some (.slice A0_2 l0_2.length c0_2) := (zb BK207.out 2).trans rfl
          have hcz22_3 : wr.cell? ⟨gb207,3,none⟩ = some (.slice A0_3 l0_3.length c0_3) := (zb BK207.out 3).trans rfl
          have hcz22_4 : wr.cell? ⟨gb207,4,none⟩ = some (.int .i64 a0_4) := (zb BK207.out 4).trans rfl
          have hcz22_5 : wr.cell? ⟨gb207,5,none⟩ = some (.int .i64 a0_5) := (zb BK207.out 5).trans rfl
          have hfz22_0 := za BK207.out 0
          have hfz22_1 := za BK207.out 1
          have hfz22_2 := za BK207.out 2
          have hfz22_3 := za BK207.out 3
          have hfz22_4 := za BK207.out 4
          have hfz22_5 := za BK207.out 5
          have p209 : 0 ≤ (x6_2 : Int) := hFq
          have q209 : x6_2 < (l0_2.length : Int) := hFq
          obtain ⟨ad209,A209_2,c209_2,e209,hx209_0,hx209_1,hx209_2,hl209_2,hi209_2⟩ := zbS HR0_2.out x6_2 p209 q209
          cases e209
          replace hx209_0 := (HB.out.cell (World.block_lt_of_cell? w _ hx209_0)).trans hx209_0
          replace hx209_1 := (HB.out.cell (World.block_lt_of_cell? w _ hx209_1)).trans hx209_1
          replace hx209_2 := (HB.out.cell (World.block_lt_of_cell? w _ hx209_2)).trans hx209_2
          have HR209_2 := zc.mk hi209_2
          have HC209_2 := zc.mk hl209_2
          clear hi209_2 hl209_2
          replace p209 := eq_true p209
          replace q209 := eq_true q209
          go_wp2_with (first | (go_at_call 94;(with_reducible refine (zB.calls k2 ((zX l0_2 x6_2).f0) ((zX l0_2 x6_2).f1) _ _ ((zX l0_2 x6_2).f2) true _ ?side1 ?side2 A19.out).mono ?_);(case side1 => repeat (first | exact (Kd.C_below HR209_2.out HB.out) | (with_reducible refine Kd.C_alloc ?_ _) | (with_reducible refine Kd.C_drewN ?_ _) | (with_reducible refine Kd.C_drew ?_)));(case side2 => exact HC209_2.out);rintro e w23 ⟨rfl,hb⟩;have n0_ := zc.mk (zh (g := gb207) (o := .cells #[.int .i64 a0_0,.int .i64 a0_1,.slice (some ad209) l0_2.length c0_2,.slice A0_3 l0_3.length c0_3,.int .i64 a0_4,.int .i64 a0_5] 28 (0,0)) (hGq BK207.out) hb);have n1_ := zc.mk (zj hCq hb);clear BK207;clear HB;have BK207 := n0_;have HB := n1_;clear n0_ n1_;(try clear hb);(try clear hb2);(try clear hk);(try clear hi);have hcz24_0 : w23.cell? ⟨gb207,0,none⟩ = some (.int .i64 a0_0) := (zb BK207.out 0).trans rfl;have hcz24_1 : w23.cell? ⟨gb207,1,none⟩ = some (.int .i64 a0_1) := (zb BK207.out 1).trans rfl;have hcz24_2 : w23.cell? ⟨gb207,2,none⟩ = some (.slice (some ad209) l0_2.length c0_2) := (zb BK207.out 2).trans rfl;have hcz24_3 : w23.cell? ⟨gb207,3,none⟩ = some (.slice A0_3 l0_3.length c0_3) := (zb BK207.out 3).trans rfl;have hcz24_4 : w23.cell? ⟨gb207,4,none⟩ = some (.int .i64 a0_4) := (zb BK207.out 4).trans rfl;have hcz24_5 : w23.cell? ⟨gb207,5,none⟩ = some (.int .i64 a0_5) := (zb BK207.out 5).trans rfl;have hfz24_0 := za BK207.out 0;have hfz24_1 := za BK207.out 1;have hfz24_2 := za BK207.out 2;have hfz24_3 := za BK207.out 3;have hfz24_4 := za BK207.out 4;have hfz24_5 := za BK207.out 5;have p211 : 0 ≤ (x6_2 : Int) := hFq;have q211 : x6_2 < (l0_2.length : Int) := hFq;obtain ⟨ad211,A211_2,c211_2,e211,hx211_0,hx211_1,hx211_2,hl211_2,hi211_2⟩ := zbS HR0_2.out x6_2 p211 q211;obtain rfl : ad209 = ad211 := (by injection e211);replace hx211_0 := (HB.out.cell (World.block_lt_of_cell? w _ hx211_0)).trans hx211_0;replace hx211_1 := (HB.out.cell (World.block_lt_of_cell? w _ hx211_1)).trans hx211_1;replace hx211_2 := (HB.out.cell (World.block_lt_of_cell? w _ hx211_2)).trans hx211_2;have HR211_2 := zc.mk hi211_2;have HC211_2 := zc.mk hl211_2;clear hi211_2 hl211_2;replace p211 := eq_true p211;replace q211 := eq_true q211))
          repeat (go_quiet (first | (go_at_call 94;(with_reducible refine (zB.calls k2 ((zX l0_2 x6_2).f0) ((zX l0_2 x6_2).f1) _ _ ((zX l0_2 x6_2).f2) true _ ?side1 ?side2 A19.out).mono ?_);(case side1 => repeat (first | exact (Kd.C_below HR209_2.out HB.out) | (with_reducible refine Kd.C_alloc ?_ _) | (with_reducible refine Kd.C_drewN ?_ _) | (with_reducible refine Kd.C_drew ?_)));(case side2 => exact HC209_2.out);rintro e w23 ⟨rfl,hb⟩;have n0_ := zc.mk (zh (g := gb207) (o := .cells #[.int .i64 a0_0,.int .i64 a0_1,.slice (some ad209) l0_2.length c0_2,.slice A0_3 l0_3.length c0_3,.int .i64 a0_4,.int .i64 a0_5] 28 (0,0)) (hGq BK207.out) hb);have n1_ := zc.mk (zj hCq hb);clear BK207;clear HB;have BK207 := n0_;have HB := n1_;clear n0_ n1_;(try clear hb);(try clear hb2);(try clear hk);(try clear hi);have hcz24_0 : w23.cell? ⟨gb207,0,none⟩ = some (.int .i64 a0_0) := (zb BK207.out 0).trans rfl;have hcz24_1 : w23.cell? ⟨gb207,1,none⟩ = some (.int .i64 a0_1) := (zb BK207.out 1).trans rfl;have hcz24_2 : w23.cell? ⟨gb207,2,none⟩ = some (.slice (some ad209) l0_2.length c0_2) := (zb BK207.out 2).trans rfl;have hcz24_3 : w23.cell? ⟨gb207,3,none⟩ = some (.slice A0_3 l0_3.length c0_3) := (zb BK207.out 3).trans rfl;have hcz24_4 : w23.cell? ⟨gb207,4,none⟩ = some (.int .i64 a0_4) := (zb BK207.out 4).trans rfl;have hcz24_5 : w23.cell? ⟨gb207,5,none⟩ = some (.int .i64 a0_5) := (zb BK207.out 5).trans rfl;have hfz24_0 := za BK207.out 0;have hfz24_1 := za BK207.out 1;have hfz24_2 := za BK207.out 2;have hfz24_3 := za BK207.out 3;have hfz24_4 := za BK207.out 4;have hfz24_5 := za BK207.out 5;have p211 : 0 ≤ (x6_2 : Int) := hFq;have q211 : x6_2 < (l0_2.length : Int) := hFq;obtain ⟨ad211,A211_2,c211_2,e211,hx211_0,hx211_1,hx211_2,hl211_2,hi211_2⟩ := zbS HR0_2.out x6_2 p211 q211;obtain rfl : ad209 = ad211 := (by injection e211);replace hx211_0 := (HB.out.cell (World.block_lt_of_cell? w _ hx211_0)).trans hx211_0;replace hx211_1 := (HB.out.cell (World.block_lt_of_cell? w _ hx211_1)).trans hx211_1;replace hx211_2 := (HB.out.cell (World.block_lt_of_cell? w _ hx211_2)).trans hx211_2;have HR211_2 := zc.mk hi211_2;have HC211_2 := zc.mk hl211_2;clear hi211_2 hl211_2;replace p211 := eq_true p211;replace q211 := eq_true q211));try go_wp2_with (first | (go_at_call 94;(with_reducible refine (zB.calls k2 ((zX l0_2 x6_2).f0) ((zX l0_2 x6_2).f1) _ _ ((zX l0_2 x6_2).f2) true _ ?side1 ?side2 A19.out).mono ?_);(case side1 => repeat (first | exact (Kd.C_below HR209_2.out HB.out) | (with_reducible refine Kd.C_alloc ?_ _) | (with_reducible refine Kd.C_drewN ?_ _) | (with_reducible refine Kd.C_drew ?_)));(case side2 => exact HC209_2.out);rintro e w23 ⟨rfl,hb⟩;have n0_ := zc.mk (zh (g := gb207) (o := .cells #[.int .i64 a0_0,.int .i64 a0_1,.slice (some ad209) l0_2.length c0_2,.slice A0_3 l0_3.length c0_3,.int .i64 a0_4,.int .i64 a0_5] 28 (0,0)) (hGq BK207.out) hb);have n1_ := zc.mk (zj hCq hb);clear BK207;clear HB;have BK207 := n0_;have HB := n1_;clear n0_ n1_;(try clear hb);(try clear hb2);(try clear hk);(try clear hi);have hcz24_0 : w23.cell? ⟨gb207,0,none⟩ = some (.int .i64 a0_0) := (zb BK207.out 0).trans rfl;have hcz24_1 : w23.cell? ⟨gb207,1,none⟩ = some (.int .i64 a0_1) := (zb BK207.out 1).trans rfl;have hcz24_2 : w23.cell? ⟨gb207,2,none⟩ = some (.slice (some ad209) l0_2.length c0_2) := (zb BK207.out 2).trans rfl;have hcz24_3 : w23.cell? ⟨gb207,3,none⟩ = some (.slice A0_3 l0_3.length c0_3) := (zb BK207.out 3).trans rfl;have hcz24_4 : w23.cell? ⟨gb207,4,none⟩ = some (.int .i64 a0_4) := (zb BK207.out 4).trans rfl;have hcz24_5 : w23.cell? ⟨gb207,5,none⟩ = some (.int .i64 a0_5) := (zb BK207.out 5).trans rfl;have hfz24_0 := za BK207.out 0;have hfz24_1 := za BK207.out 1;have hfz24_2 := za BK207.out 2;have hfz24_3 := za BK207.out 3;have hfz24_4 := za BK207.out 4;have hfz24_5 := za BK207.out 5;have p211 : 0 ≤ (x6_2 : Int) := hFq;have q211 : x6_2 < (l0_2.length : Int) := hFq;obtain ⟨ad211,A211_2,c211_2,e211,hx211_0,hx211_1,hx211_2,hl211_2,hi211_2⟩ := zbS HR0_2.out x6_2 p211 q211;obtain rfl : ad209 = ad211 := (by injection e211);replace hx211_0 := (HB.out.cell (World.block_lt_of_cell? w _ hx211_0)).trans hx211_0;replace hx211_1 := (HB.out.cell (World.block_lt_of_cell? w _ hx211_1)).trans hx211_1;replace hx211_2 := (HB.out.cell (World.block_lt_of_cell? w _ hx211_2)).trans hx211_2;have HR211_2 := zc.mk hi211_2;have HC211_2 := zc.mk hl211_2;clear hi211_2 hl211_2;replace p211 := eq_true p211;replace q211 := eq_true q211)))
          go_ret
          exact ⟨hHq,hCq⟩
         ·rw [if_neg c21] at H
          have c21b0 : decide (a1 < ((zX l0_2 x6_2).f0)) = false := decide_eq_false c21
          clear c21
          have H' := zc.mk H
          clear H
          have hcz25_0 : wr.cell? ⟨gb207,0,none⟩ = some (.int .i64 a0_0) := (zb BK207.out 0).trans rfl
          have hcz25_1 : wr.cell? ⟨gb207,1,none⟩ = some (.int .i64 a0_1) := (zb BK207.out 1).trans rfl
          have hcz25_2 : wr.cell? ⟨gb207,2,none⟩ = some (.slice A0_2 l0_2.length c0_2) := (zb BK207.out 2).trans rfl
          have hcz25_3 : wr.cell? ⟨gb207,3,none⟩ = some (.slice A0_3 l0_3.length c0_3) := (zb BK207.out 3).trans rfl
          have hcz25_4 : wr.cell? ⟨gb207,4,none⟩ = some (.int .i64 a0_4) := (zb BK207.out 4).trans rfl
          have hcz25_5 : wr.cell? ⟨gb207,5,none⟩ = some (.int .i64 a0_5) := (zb BK207.out 5).trans rfl
          have hfz25_0 := za BK207.out 0
          have hfz25_1 := za BK207.out 1
          have hfz25_2 := za BK207.out 2
          have hfz25_3 := za BK207.out 3
          have hfz25_4 := za BK207.out 4
          have hfz25_5 := za BK207.out 5
          have p209 : 0 ≤ (x6_2 : Int) := hFq
          have q209 : x6_2 < (l0_2.length : Int) := hFq
          obtain ⟨ad209,A209_2,c209_2,e209,hx209_0,hx209_1,hx209_2,hl209_2,hi209_2⟩ := zbS HR0_2.out x6_2 p209 q209
          cases e209
          replace hx209_0 := (HB.out.cell (World.block_lt_of_cell? w _ hx209_0)).trans hx209_0
          replace hx209_1 := (HB.out.cell (World.block_lt_of_cell? w _ hx209_1)).trans hx209_1
          replace hx209_2 := (HB.out.cell (World.block_lt_of_cell? w _ hx209_2)).trans hx209_2
          have HR209_2 := zc.mk hi209_2
          have HC209_2 := zc.mk hl209_2
          clear hi209_2 hl209_2
          replace p209 := eq_true p209
          replace q209 := eq_true q209
          go_wp2_with (first | (go_at_call 94;(with_reducible refine (zB.calls k2 ((zX l0_2 x6_2).f0) ((zX l0_2 x6_2).f1) _ _ ((zX l0_2 x6_2).f2) true _ ?side1 ?side2 A19.out).mono ?_);(case side1 => repeat (first | exact (Kd.C_below HR209_2.out HB.out) | (with_reducible refine Kd.C_alloc ?_ _) | (with_reducible refine Kd.C_drewN ?_ _) | (with_reducible refine Kd.C_drew ?_)));(case side2 => exact HC209_2.out);rintro e w26 ⟨rfl,hb⟩;have n0_ := zc.mk (zh (g := gb207) (o := .cells #[.int .i64 a0_0,.int .i64 a0_1,.slice (some ad209) l0_2.length c0_2,.slice A0_3 l0_3.length c0_3,.int .i64 a0_4,.int .i64 a0_5] 28 (0,0)) (hGq BK207.out) hb);have n1_ := zc.mk (zj hCq hb);clear BK207;clear HB;have BK207 := n0_;have HB := n1_;clear n0_ n1_;(try clear hb);(try clear hb2);(try clear hk);(try clear hi);have hcz27_0 : w26.cell? ⟨gb207,0,none⟩ = some (.int .i64 a0_0) := (zb BK207.out 0).trans rfl;have hcz27_1 : w26.cell? ⟨gb207,1,none⟩ = some (.int .i64 a0_1) := (zb BK207.out 1).trans rfl;have hcz27_2 : w26.cell? ⟨gb207,2,none⟩ = some (.slice (some ad209) l0_2.length c0_2) := (zb BK207.out 2).trans rfl;have hcz27_3 : w26.cell? ⟨gb207,3,none⟩ = some (.slice A0_3 l0_3.length c0_3) := (zb BK207.out 3).trans rfl;have hcz27_4 : w26.cell? ⟨gb207,4,none⟩ = some (.int .i64 a0_4) := (zb BK207.out 4).trans rfl;have hcz27_5 : w26.cell? ⟨gb207,5,none⟩ = some (.int .i64 a0_5) := (zb BK207.out 5).trans rfl;have hfz27_0 := za BK207.out 0;have hfz27_1 := za BK207.out 1;have hfz27_2 := za BK207.out 2;have hfz27_3 := za BK207.out 3;have hfz27_4 := za BK207.out 4;have hfz27_5 := za BK207.out 5;have p211 : 0 ≤ (x6_2 : Int) := hFq;have q211 : x6_2 < (l0_2.length : Int) := hFq;obtain ⟨ad211,A211_2,c211_2,e211,hx211_0,hx211_1,hx211_2,hl211_2,hi211_2⟩ := zbS HR0_2.out x6_2 p211 q211;obtain rfl : ad209 = ad211 := (by injection e211);replace hx211_0 := (HB.out.cell (World.block_lt_of_cell? w _ hx211_0)).trans hx211_0;replace hx211_1 := (HB.out.cell (World.block_lt_of_cell? w _ hx211_1)).trans hx211_1;replace hx211_2 := (HB.out.cell (World.block_lt_of_cell? w _ hx211_2)).trans hx211_2;have HR211_2 := zc.mk hi211_2;have HC211_2 := zc.mk hl211_2;clear hi211_2 hl211_2;replace p211 := eq_true p211;replace q211 := eq_true q211))
          repeat (go_quiet (first | (go_at_call 94;(with_reducible refine (zB.calls k2 ((zX l0_2 x6_2).f0) ((zX l0_2 x6_2).f1) _ _ ((zX l0_2 x6_2).f2) true _ ?side1 ?side2 A19.out).mono ?_);(case side1 => repeat (first | exact (Kd.C_below HR209_2.out HB.out) | (with_reducible refine Kd.C_alloc ?_ _) | (with_reducible refine Kd.C_drewN ?_ _) | (with_reducible refine Kd.C_drew ?_)));(case side2 => exact HC209_2.out);rintro e w26 ⟨rfl,hb⟩;have n0_ := zc.mk (zh (g := gb207) (o := .cells #[.int .i64 a0_0,.int .i64 a0_1,.slice (some ad209) l0_2.length c0_2,.slice A0_3 l0_3.length c0_3,.int .i64 a0_4,.int .i64 a0_5] 28 (0,0)) (hGq BK207.out) hb);have n1_ := zc.mk (zj hCq hb);clear BK207;clear HB;have BK207 := n0_;have HB := n1_;clear n0_ n1_;(try clear hb);(try clear hb2);(try clear hk);(try clear hi);have hcz27_0 : w26.cell? ⟨gb207,0,none⟩ = some (.int .i64 a0_0) := (zb BK207.out 0).trans rfl;have hcz27_1 : w26.cell? ⟨gb207,1,none⟩ = some (.int .i64 a0_1) := (zb BK207.out 1).trans rfl;have hcz27_2 : w26.cell? ⟨gb207,2,none⟩ = some (.slice (some ad209) l0_2.length c0_2) := (zb BK207.out 2).trans rfl;have hcz27_3 : w26.cell? ⟨gb207,3,none⟩ = some (.slice A0_3 l0_3.length c0_3) := (zb BK207.out 3).trans rfl;have hcz27_4 : w26.cell? ⟨gb207,4,none⟩ = some (.int .i64 a0_4) := (zb BK207.out 4).trans rfl;have hcz27_5 : w26.cell? ⟨gb207,5,none⟩ = some (.int .i64 a0_5) := (zb BK207.out 5).trans rfl;have hfz27_0 := za BK207.out 0;have hfz27_1 := za BK207.out 1;have hfz27_2 := za BK207.out 2;have hfz27_3 := za BK207.out 3;have hfz27_4 := za BK207.out 4;have hfz27_5 := za BK207.out 5;have p211 : 0 ≤ (x6_2 : Int) := hFq;have q211 : x6_2 < (l0_2.length : Int) := hFq;obtain ⟨ad211,A211_2,c211_2,e211,hx211_0,hx211_1,hx211_2,hl211_2,hi211_2⟩ := zbS HR0_2.out x6_2 p211 q211;obtain rfl : ad209 = ad211 := (by injection e211);replace hx211_0 := (HB.out.cell (World.block_lt_of_cell? w _ hx211_0)).trans hx211_0;replace hx211_1 := (HB.out.cell (World.block_lt_of_cell? w _ hx211_1)).trans hx211_1;replace hx211_2 := (HB.out.cell (World.block_lt_of_cell? w _ hx211_2)).trans hx211_2;have HR211_2 := zc.mk hi211_2;have HC211_2 := zc.mk hl211_2;clear hi211_2 hl211_2;replace p211 := eq_true p211;replace q211 := eq_true q211));try go_wp2_with (first | (go_at_call 94;(with_reducible refine (zB.calls k2 ((zX l0_2 x6_2).f0) ((zX l0_2 x6_2).f1) _ _ ((zX l0_2 x6_2).f2) true _ ?side1 ?side2 A19.out).mono ?_);(case side1 => repeat (first | exact (Kd.C_below HR209_2.out HB.out) | (with_reducible refine Kd.C_alloc ?_ _) | (with_reducible refine Kd.C_drewN ?_ _) | (with_reducible refine Kd.C_drew ?_)));(case side2 => exact HC209_2.out);rintro e w26 ⟨rfl,hb⟩;have n0_ := zc.mk (zh (g := gb207) (o := .cells #[.int .i64 a0_0,.int .i64 a0_1,.slice (some ad209) l0_2.length c0_2,.slice A0_3 l0_3.length c0_3,.int .i64 a0_4,.int .i64 a0_5] 28 (0,0)) (hGq BK207.out) hb);have n1_ := zc.mk (zj hCq hb);clear BK207;clear HB;have BK207 := n0_;have HB := n1_;clear n0_ n1_;(try clear hb);(try clear hb2);(try clear hk);(try clear hi);have hcz27_0 : w26.cell? ⟨gb207,0,none⟩ = some (.int .i64 a0_0) := (zb BK207.out 0).trans rfl;have hcz27_1 : w26.cell? ⟨gb207,1,none⟩ = some (.int .i64 a0_1) := (zb BK207.out 1).trans rfl;have hcz27_2 : w26.cell? ⟨gb207,2,none⟩ = some (.slice (some ad209) l0_2.length c0_2) := (zb BK207.out 2).trans rfl;have hcz27_3 : w26.cell? ⟨gb207,3,none⟩ = some (.slice A0_3 l0_3.length c0_3) := (zb BK207.out 3).trans rfl;have hcz27_4 : w26.cell? ⟨gb207,4,none⟩ = some (.int .i64 a0_4) := (zb BK207.out 4).trans rfl;have hcz27_5 : w26.cell? ⟨gb207,5,none⟩ = some (.int .i64 a0_5) := (zb BK207.out 5).trans rfl;have hfz27_0 := za BK207.out 0;have hfz27_1 := za BK207.out 1;have hfz27_2 := za BK207.out 2;have hfz27_3 := za BK207.out 3;have hfz27_4 := za BK207.out 4;have hfz27_5 := za BK207.out 5;have p211 : 0 ≤ (x6_2 : Int) := hFq;have q211 : x6_2 < (l0_2.length : Int) := hFq;obtain ⟨ad211,A211_2,c211_2,e211,hx211_0,hx211_1,hx211_2,hl211_2,hi211_2⟩ := zbS HR0_2.out x6_2 p211 q211;obtain rfl : ad209 = ad211 := (by injection e211);replace hx211_0 := (HB.out.cell (World.block_lt_of_cell? w _ hx211_0)).trans hx211_0;replace hx211_1 := (HB.out.cell (World.block_lt_of_cell? w _ hx211_1)).trans hx211_1;replace hx211_2 := (HB.out.cell (World.block_lt_of_cell? w _ hx211_2)).trans hx211_2;have HR211_2 := zc.mk hi211_2;have HC211_2 := zc.mk hl211_2;clear hi211_2 hl211_2;replace p211 := eq_true p211;replace q211 := eq_true q211)))
          go_roundg k2
          case measure => have := HJ3.out;have := HK2.out;omega
          case rel => exact ⟨(wrap64 (x6_2 + 1)),(hDq),H',⟨by have := HJ3.out;have := HK2.out;omega⟩,⟨hGq BK207.out⟩,⟨by repeat (first | (with_reducible first | exact HB.out | apply zA | apply zm | apply zJ | refine zg ?_ GE207.out) | exact HB.out)⟩⟩
        ·replace c20 := Bool.eq_false_iff.mpr c20
         subst c20
         have H1 : (some false) = some r := by rw [if_neg (show ¬ (false = true) by decide)] at H;exact H
         clear H
         have H := H1
         clear H1
         obtain rfl := Option.some.inj H
         have hcz28_0 : wr.cell? ⟨gb207,0,none⟩ = some (.int .i64 a0_0) := (zb BK207.out 0).trans rfl
         have hcz28_1 : wr.cell? ⟨gb207,1,none⟩ = some (.int .i64 a0_1) := (zb BK207.out 1).trans rfl
         have hcz28_2 : wr.cell? ⟨gb207,2,none⟩ = some (.slice A0_2 l0_2.length c0_2) := (zb BK207.out 2).trans rfl
         have hcz28_3 : wr.cell? ⟨gb207,3,none⟩ = some (.slice A0_3 l0_3.length c0_3) := (zb BK207.out 3).trans rfl
         have hcz28_4 : wr.cell? ⟨gb207,4,none⟩ = some (.int .i64 a0_4) := (zb BK207.out 4).trans rfl
         have hcz28_5 : wr.cell? ⟨gb207,5,none⟩ = some (.int .i64 a0_5) := (zb BK207.out 5).trans rfl
         have hfz28_0 := za BK207.out 0
         have hfz28_1 := za BK207.out 1
         have hfz28_2 := za BK207.out 2
         have hfz28_3 := za BK207.out 3
         have hfz28_4 := za BK207.out 4
         have hfz28_5 := za BK207.out 5
         have p209 : 0 ≤ (x6_2 : Int) := hFq
         have q209 : x6_2 < (l0_2.length : Int) := hFq
         obtain ⟨ad209,A209_2,c209_2,e209,hx209_0,hx209_1,hx209_2,hl209_2,hi209_2⟩ := zbS HR0_2.out x6_2 p209 q209
         cases e209
         replace hx209_0 := (HB.out.cell (World.block_lt_of_cell? w _ hx209_0)).trans hx209_0
         replace hx209_1 := (HB.out.cell (World.block_lt_of_cell? w _ hx209_1)).trans hx209_1
         replace hx209_2 := (HB.out.cell (World.block_lt_of_cell? w _ hx209_2)).trans hx209_2
         have HR209_2 := zc.mk hi209_2
         have HC209_2 := zc.mk hl209_2
         clear hi209_2 hl209_2
         replace p209 := eq_true p209
         replace q209 := eq_true q209
         go_wp2_with (first | (go_at_call 94;(with_reducible refine (zB.calls k2 ((zX l0_2 x6_2).f0) ((zX l0_2 x6_2).f1) _ _ ((zX l0_2 x6_2).f2) false _ ?side1 ?side2 A19.out).mono ?_);(case side1 => repeat (first | exact (Kd.C_below HR209_2.out HB.out) | (with_reducible refine Kd.C_alloc ?_ _) | (with_reducible refine Kd.C_drewN ?_ _) | (with_reducible refine Kd.C_drew ?_)));(case side2 => exact HC209_2.out);rintro e w29 ⟨rfl,hb⟩;have n0_ := zc.mk (zh (g := gb207) (o := .cells #[.int .i64 a0_0,.int .i64 a0_1,.slice (some ad209) l0_2.length c0_2,.slice A0_3 l0_3.length c0_3,.int .i64 a0_4,.int .i64 a0_5] 28 (0,0)) (hGq BK207.out) hb);have n1_ := zc.mk (zj hCq hb);clear BK207;clear HB;have BK207 := n0_;have HB := n1_;clear n0_ n1_;(try clear hb);(try clear hb2);(try clear hk);(try clear hi)))
         repeat (go_quiet (first | (go_at_call 94;(with_reducible refine (zB.calls k2 ((zX l0_2 x6_2).f0) ((zX l0_2 x6_2).f1) _ _ ((zX l0_2 x6_2).f2) false _ ?side1 ?side2 A19.out).mono ?_);(case side1 => repeat (first | exact (Kd.C_below HR209_2.out HB.out) | (with_reducible refine Kd.C_alloc ?_ _) | (with_reducible refine Kd.C_drewN ?_ _) | (with_reducible refine Kd.C_drew ?_)));(case side2 => exact HC209_2.out);rintro e w29 ⟨rfl,hb⟩;have n0_ := zc.mk (zh (g := gb207) (o := .cells #[.int .i64 a0_0,.int .i64 a0_1,.slice (some ad209) l0_2.length c0_2,.slice A0_3 l0_3.length c0_3,.int .i64 a0_4,.int .i64 a0_5] 28 (0,0)) (hGq BK207.out) hb);have n1_ := zc.mk (zj hCq hb);clear BK207;clear HB;have BK207 := n0_;have HB := n1_;clear n0_ n1_;(try clear hb);(try clear hb2);(try clear hk);(try clear hi)));try go_wp2_with (first | (go_at_call 94;(with_reducible refine (zB.calls k2 ((zX l0_2 x6_2).f0) ((zX l0_2 x6_2).f1) _ _ ((zX l0_2 x6_2).f2) false _ ?side1 ?side2 A19.out).mono ?_);(case side1 => repeat (first | exact (Kd.C_below HR209_2.out HB.out) | (with_reducible refine Kd.C_alloc ?_ _) | (with_reducible refine Kd.C_drewN ?_ _) | (with_reducible refine Kd.C_drew ?_)));(case side2 => exact HC209_2.out);rintro e w29 ⟨rfl,hb⟩;have n0_ := zc.mk (zh (g := gb207) (o := .cells #[.int .i64 a0_0,.int .i64 a0_1,.slice (some ad209) l0_2.length c0_2,.slice A0_3 l0_3.length c0_3,.int .i64 a0_4,.int .i64 a0_5] 28 (0,0)) (hGq BK207.out) hb);have n1_ := zc.mk (zj hCq hb);clear BK207;clear HB;have BK207 := n0_;have HB := n1_;clear n0_ n1_;(try clear hb);(try clear hb2);(try clear hk);(try clear hi))))
         go_ret
         exact ⟨hHq,hCq⟩
       ·rw [if_neg c18] at H
        exact absurd H (by simp)
      ·rw [if_neg c17] at H
       have c17b0 : decide (x6_2 < (l0_2.length : Int)) = false := decide_eq_false c17
       clear c17
       have HC30 := zc.mk H
       clear H
       have hcz31_0 : wr.cell? ⟨gb207,0,none⟩ = some (.int .i64 a0_0) := (zb BK207.out 0).trans rfl
       have hcz31_1 : wr.cell? ⟨gb207,1,none⟩ = some (.int .i64 a0_1) := (zb BK207.out 1).trans rfl
       have hcz31_2 : wr.cell? ⟨gb207,2,none⟩ = some (.slice A0_2 l0_2.length c0_2) := (zb BK207.out 2).trans rfl
       have hcz31_3 : wr.cell? ⟨gb207,3,none⟩ = some (.slice A0_3 l0_3.length c0_3) := (zb BK207.out 3).trans rfl
       have hcz31_4 : wr.cell? ⟨gb207,4,none⟩ = some (.int .i64 a0_4) := (zb BK207.out 4).trans rfl
       have hcz31_5 : wr.cell? ⟨gb207,5,none⟩ = some (.int .i64 a0_5) := (zb BK207.out 5).trans rfl
       have hfz31_0 := za BK207.out 0
       have hfz31_1 := za BK207.out 1
       have hfz31_2 := za BK207.out 2
       have hfz31_3 := za BK207.out 3
       have hfz31_4 := za BK207.out 4
       have hfz31_5 := za BK207.out 5
       go_upto_region 10 with (fail)
       repeat (go_quiet (fail);go_upto_region 10 with (fail))
       go_cut [75] (fun v75 wc => ∃ (kq : Nat) (x75_29 : Bool),v75 = .bool x75_29 ∧ zc (zo.j2 kq a1 x75_29 a0_0 a0_1 l0_2 l0_3 a0_4 a0_5 = some r) ∧ zc (kq ≤ k2) ∧ zc (wc.heap[gb207]? = some (.cells #[.int .i64 a0_0,.int .i64 a0_1,(.slice A0_2 l0_2.length c0_2),(.slice A0_3 l0_3.length c0_3),.int .i64 a0_4,.int .i64 a0_5] 28 (0,0))) ∧ zc (Below w.heap.size w wc))
       case first =>
        have H := HC30.out
        clear HC30
        by_cases c32 : a0_1 = 1
        ·rw [if_pos c32] at H
         have c32b0 : (a0_1 == 1) = true := beq_iff_eq.mpr c32
         have c32b1 : (a0_1 != 1) = false := bne_eq_false_iff_eq.mpr c32
         clear c32
         (first | rw [c32b0] | (simp only [zan,zaq];rw [c32b0]) | skip)
         have H' := zc.mk H
         clear H
         have hcz33_0 : wr.cell? ⟨gb207,0,none⟩ = some (.int .i64 a0_0) := (zb BK207.out 0).trans rfl
         have hcz33_1 : wr.cell? ⟨gb207,1,none⟩ = some (.int .i64 a0_1) := (zb BK207.out 1).trans rfl
         have hcz33_2 : wr.cell? ⟨gb207,2,none⟩ = some (.slice A0_2 l0_2.length c0_2) := (zb BK207.out 2).trans rfl
         have hcz33_3 : wr.cell? ⟨gb207,3,none⟩ = some (.slice A0_3 l0_3.length c0_3) := (zb BK207.out 3).trans rfl
         have hcz33_4 : wr.cell? ⟨gb207,4,none⟩ = some (.int .i64 a0_4) := (zb BK207.out 4).trans rfl
         have hcz33_5 : wr.cell? ⟨gb207,5,none⟩ = some (.int .i64 a0_5) := (zb BK207.out 5).trans rfl
         have hfz33_0 := za BK207.out 0
         have hfz33_1 := za BK207.out 1
         have hfz33_2 := za BK207.out 2
         have hfz33_3 := za BK207.out 3
         have hfz33_4 := za BK207.out 4
         have hfz33_5 := za BK207.out 5
         go_wp2
         repeat (go_quiet (fail);try go_wp2)
         go_meet
         case rel => exact ⟨_,(decide ((l0_3.length : Int) > 0)),(hDq),H',⟨by have := HJ3.out;have := HK2.out;first | omega | exact Nat.le_refl _⟩,⟨hGq BK207.out⟩,⟨by repeat (first | (with_reducible first | exact HB.out | apply zA | apply zm | apply zJ | refine zg ?_ GE207.out) | exact HB.out)⟩⟩
        ·rw [if_neg c32] at H
         have c32b0 : (a0_1 == 1) = false := beq_eq_false_iff_ne.mpr c32
         have c32b1 : (a0_1 != 1) = true := bne_iff_ne.mpr c32
         (first | rw [c32b0] | (simp only [zan,zaq];rw [c32b0]) | skip)
         have H' := zc.mk H
         clear H
         have hcz34_0 : wr.cell? ⟨gb207,0,none⟩ = some (.int .i64 a0_0) := (zb BK207.out 0).trans rfl
         have hcz34_1 : wr.cell? ⟨gb207,1,none⟩ = some (.int .i64 a0_1) := (zb BK207.out 1).trans rfl
         have hcz34_2 : wr.cell? ⟨gb207,2,none⟩ = some (.slice A0_2 l0_2.length c0_2) := (zb BK207.out 2).trans rfl
         have hcz34_3 : wr.cell? ⟨gb207,3,none⟩ = some (.slice A0_3 l0_3.length c0_3) := (zb BK207.out 3).trans rfl
         have hcz34_4 : wr.cell? ⟨gb207,4,none⟩ = some (.int .i64 a0_4) := (zb BK207.out 4).trans rfl
         have hcz34_5 : wr.cell? ⟨gb207,5,none⟩ = some (.int .i64 a0_5) := (zb BK207.out 5).trans rfl
         have hfz34_0 := za BK207.out 0
         have hfz34_1 := za BK207.out 1
         have hfz34_2 := za BK207.out 2
         have hfz34_3 := za BK207.out 3
         have hfz34_4 := za BK207.out 4
         have hfz34_5 := za BK207.out 5
         go_wp2
         repeat (go_quiet (fail);try go_wp2)
         go_meet
         case rel => exact ⟨_,(false),(hDq),H',⟨by have := HJ3.out;have := HK2.out;first | omega | exact Nat.le_refl _⟩,⟨hGq BK207.out⟩,⟨by repeat (first | (with_reducible first | exact HB.out | apply zA | apply zm | apply zJ | refine zg ?_ GE207.out) | exact HB.out)⟩⟩
       case rest =>
        clear HC30
        try clear c1
        try clear c2
        try clear p2
        try clear q2
        try clear hx2
        try clear c3
        try clear c6
        try clear p6
        try clear c7
        try clear c7b0
        try clear c9
        try clear c9b0
        try clear c11
        try clear c11b0
        try clear c13
        try clear c13b0
        try clear c16
        try clear c17
        try clear c17b0
        try clear c18
        try clear c18b0
        try clear c20
        try clear p20
        try clear q20
        try clear hx20
        try clear c21
        try clear c21b0
        try clear p21
        try clear q21
        try clear hx21
        try clear c32
        try clear c32b0
        try clear c32b1
        try clear hcz10_0
        try clear hcz10_1
        try clear hcz10_2
        try clear hcz10_3
        try clear hcz10_4
        try clear hcz10_5
        try clear hcz12_0
        try clear hcz12_1
        try clear hcz12_2
        try clear hcz12_3
        try clear hcz12_4
        try clear hcz12_5
        try clear hcz14_0
        try clear hcz14_1
        try clear hcz14_2
        try clear hcz14_3
        try clear hcz14_4
        try clear hcz14_5
        try clear hcz15_0
        try clear hcz15_1
        try clear hcz15_2
        try clear hcz15_3
        try clear hcz15_4
        try clear hcz15_5
        try clear hcz22_0
        try clear hcz22_1
        try clear hcz22_2
        try clear hcz22_3
        try clear hcz22_4
        try clear hcz22_5
        try clear hcz24_0
        try clear hcz24_1
        try clear hcz24_2
        try clear hcz24_3
        try clear hcz24_4
        try clear hcz24_5
        try clear hcz25_0
        try clear hcz25_1
        try clear hcz25_2
        try clear hcz25_3
        try clear hcz25_4
        try clear hcz25_5
        try clear hcz27_0
        try clear hcz27_1
        try clear hcz27_2
        try clear hcz27_3
        try clear hcz27_4
        try clear hcz27_5
        try clear hcz28_0
        try clear hcz28_1
        try clear hcz28_2
        try clear hcz28_3
        try clear hcz28_4
        try clear hcz28_5
        try clear hcz31_0
        try clear hcz31_1
        try clear hcz31_2
        try clear hcz31_3
        try clear hcz31_4
        try clear hcz31_5
        try clear hcz33_0
        try clear hcz33_1
        try clear hcz33_2
        try clear hcz33_3
        try clear hcz33_4
        try clear hcz33_5
        try clear hcz34_0
        try clear hcz34_1
        try clear hcz34_2
        try clear hcz34_3
        try clear hcz34_4
        try clear hcz34_5
        try clear hcz8_0
        try clear hcz8_1
        try clear hcz8_2
        try clear hcz8_3
        try clear hcz8_4
        try clear hcz8_5
        try clear hfz10_0
        try clear hfz10_1
        try clear hfz10_2
        try clear hfz10_3
        try clear hfz10_4
        try clear hfz10_5
        try clear hfz12_0
        try clear hfz12_1
        try clear hfz12_2
        try clear hfz12_3
        try clear hfz12_4
        try clear hfz12_5
        try clear hfz14_0
        try clear hfz14_1
        try clear hfz14_2
        try clear hfz14_3
        try clear hfz14_4
        try clear hfz14_5
        try clear hfz15_0
        try clear hfz15_1
        try clear hfz15_2
        try clear hfz15_3
        try clear hfz15_4
        try clear hfz15_5
        try clear hfz22_0
        try clear hfz22_1
        try clear hfz22_2
        try clear hfz22_3
        try clear hfz22_4
        try clear hfz22_5
        try clear hfz24_0
        try clear hfz24_1
        try clear hfz24_2
        try clear hfz24_3
        try clear hfz24_4
        try clear hfz24_5
        try clear hfz25_0
        try clear hfz25_1
        try clear hfz25_2
        try clear hfz25_3
        try clear hfz25_4
        try clear hfz25_5
        try clear hfz27_0
        try clear hfz27_1
        try clear hfz27_2
        try clear hfz27_3
        try clear hfz27_4
        try clear hfz27_5
        try clear hfz28_0
        try clear hfz28_1
        try clear hfz28_2
        try clear hfz28_3
        try clear hfz28_4
        try clear hfz28_5
        try clear hfz31_0
        try clear hfz31_1
        try clear hfz31_2
        try clear hfz31_3
        try clear hfz31_4
        try clear hfz31_5
        try clear hfz33_0
        try clear hfz33_1
        try clear hfz33_2
        try clear hfz33_3
        try clear hfz33_4
        try clear hfz33_5
        try clear hfz34_0
        try clear hfz34_1
        try clear hfz34_2
        try clear hfz34_3
        try clear hfz34_4
        try clear hfz34_5
        try clear hfz8_0
        try clear hfz8_1
        try clear hfz8_2
        try clear hfz8_3
        try clear hfz8_4
        try clear hfz8_5
        try clear hx209_0
        try clear hx209_1
        try clear hx209_2
        try clear hx211_0
        try clear hx211_1
        try clear hx211_2
        try clear p2
        try clear p209
        try clear p211
        try clear q209
        try clear q211
        obtain ⟨kq,x75_29,rfl,HA,HJ29,BK207,HB⟩ := hcut
        cases kq with
        | zero => exact absurd HA.out (by simp [zo.j2])
        | succ kj29 =>
         have H := HA.out
         clear HA
         simp only [zo.j2] at H
         by_cases c35 : x75_29 = true
         ·subst c35
          have H1 : (some false) = some r := by rw [if_pos rfl] at H;exact H
          clear H
          have H := H1
          clear H1
          obtain rfl := Option.some.inj H
          go_wp2
          repeat (go_quiet (fail);try go_wp2)
          go_ret
          exact ⟨hHq,hCq⟩
         ·replace c35 := Bool.eq_false_iff.mpr c35
          subst c35
          have H1 : (if a0_1 > 1 then ((z7.f a1).bind fun t212 => (if (l0_3.length : Int) < t212 then (zo.j3 kj29 true a0_0 a0_1 l0_2 l0_3 a0_4 a0_5) else (zo.j3 kj29 (decide ((l0_3.length : Int) > a1)) a0_0 a0_1 l0_2 l0_3 a0_4 a0_5))) else (zo.j3 kj29 false a0_0 a0_1 l0_2 l0_3 a0_4 a0_5)) = some r := by rw [if_neg (show ¬ (false = true) by decide)] at H;exact H
          clear H
          have H := H1
          clear H1
          have HC36 := zc.mk H
          clear H
          go_upto_region 12 with (fail)
          repeat (go_quiet (fail);go_upto_region 12 with (fail))
          go_cut [93] (fun v93 wc => ∃ (kq : Nat) (x93_35 : Bool),v93 = .bool x93_35 ∧ zc (zo.j3 kq x93_35 a0_0 a0_1 l0_2 l0_3 a0_4 a0_5 = some r) ∧ zc (kq ≤ kj29) ∧ zc (wc.heap[gb207]? = some (.cells #[.int .i64 a0_0,.int .i64 a0_1,(.slice A0_2 l0_2.length c0_2),(.slice A0_3 l0_3.length c0_3),.int .i64 a0_4,.int .i64 a0_5] 28 (0,0))) ∧ zc (Below w.heap.size w wc))
          case first =>
           have H := HC36.out
           clear HC36
           by_cases c37 : a0_1 > 1
           ·rw [if_pos c37] at H
            have c37b0 : decide (1 < a0_1) = true := decide_eq_true c37
            clear c37
            (first | rw [c37b0] | (simp only [zan,zaq];rw [c37b0]) | skip)
            replace H := Option.bind_eq_some_iff.mp H
            obtain ⟨t212,A380,H⟩ := H
            replace H : (if (l0_3.length : Int) < t212 then (zo.j3 kj29 true a0_0 a0_1 l0_2 l0_3 a0_4 a0_5) else (zo.j3 kj29 (decide ((l0_3.length : Int) > a1)) a0_0 a0_1 l0_2 l0_3 a0_4 a0_5)) = some r := H
            have A38 := zc.mk A380
            clear A380
            by_cases c39 : (l0_3.length : Int) < t212
            ·rw [if_pos c39] at H
             have c39b0 : decide ((l0_3.length : Int) < t212) = true := decide_eq_true c39
             clear c39
             have H' := zc.mk H
             clear H
             have hcz40_0 : wc.cell? ⟨gb207,0,none⟩ = some (.int .i64 a0_0) := (zb BK207.out 0).trans rfl
             have hcz40_1 : wc.cell? ⟨gb207,1,none⟩ = some (.int .i64 a0_1) := (zb BK207.out 1).trans rfl
             have hcz40_2 : wc.cell? ⟨gb207,2,none⟩ = some (.slice A0_2 l0_2.length c0_2) := (zb BK207.out 2).trans rfl
             have hcz40_3 : wc.cell? ⟨gb207,3,none⟩ = some (.slice A0_3 l0_3.length c0_3) := (zb BK207.out 3).trans rfl
             have hcz40_4 : wc.cell? ⟨gb207,4,none⟩ = some (.int .i64 a0_4) := (zb BK207.out 4).trans rfl
             have hcz40_5 : wc.cell? ⟨gb207,5,none⟩ = some (.int .i64 a0_5) := (zb BK207.out 5).trans rfl
             have hfz40_0 := za BK207.out 0
             have hfz40_1 := za BK207.out 1
             have hfz40_2 := za BK207.out 2
             have hfz40_3 := za BK207.out 3
             have hfz40_4 := za BK207.out 4
             have hfz40_5 := za BK207.out 5
             go_wp2_with (first | (go_at_call 96;(with_reducible refine (z7.calls a1 t212 _ A38.out).mono ?_);rintro e w' ⟨rfl,⟨nd,rfl⟩⟩;(try first | exact ⟨rfl,_,World.drewN_drewN _ _ _⟩ | exact ⟨rfl,_,Eq.trans (World.drewN_drewN _ _ _) (congrArg (World.drewN _) (Nat.add_assoc _ _ _))⟩)))
             repeat (go_quiet (first | (go_at_call 96;(with_reducible refine (z7.calls a1 t212 _ A38.out).mono ?_);rintro e w' ⟨rfl,⟨nd,rfl⟩⟩;(try first | exact ⟨rfl,_,World.drewN_drewN _ _ _⟩ | exact ⟨rfl,_,Eq.trans (World.drewN_drewN _ _ _) (congrArg (World.drewN _) (Nat.add_assoc _ _ _))⟩)));try go_wp2_with (first | (go_at_call 96;(with_reducible refine (z7.calls a1 t212 _ A38.out).mono ?_);rintro e w' ⟨rfl,⟨nd,rfl⟩⟩;(try first | exact ⟨rfl,_,World.drewN_drewN _ _ _⟩ | exact ⟨rfl,_,Eq.trans (World.drewN_drewN _ _ _) (congrArg (World.drewN _) (Nat.add_assoc _ _ _))⟩))))
             go_meet
             case rel => exact ⟨_,(true),(hDq),H',⟨by have := HJ3.out;have := HK2.out;have := HJ29.out;first | omega | exact Nat.le_refl _⟩,⟨hGq BK207.out⟩,⟨by repeat (first | (with_reducible first | exact HB.out | apply zA | apply zm | apply zJ | refine zg ?_ GE207.out) | exact HB.out)⟩⟩
            ·rw [if_neg c39] at H
             have c39b0 : decide ((l0_3.length : Int) < t212) = false := decide_eq_false c39
             clear c39
             have H' := zc.mk H
             clear H
             have hcz41_0 : wc.cell? ⟨gb207,0,none⟩ = some (.int .i64 a0_0) := (zb BK207.out 0).trans rfl
             have hcz41_1 : wc.cell? ⟨gb207,1,none⟩ = some (.int .i64 a0_1) := (zb BK207.out 1).trans rfl
             have hcz41_2 : wc.cell? ⟨gb207,2,none⟩ = some (.slice A0_2 l0_2.length c0_2) := (zb BK207.out 2).trans rfl
             have hcz41_3 : wc.cell? ⟨gb207,3,none⟩ = some (.slice A0_3 l0_3.length c0_3) := (zb BK207.out 3).trans rfl
             have hcz41_4 : wc.cell? ⟨gb207,4,none⟩ = some (.int .i64 a0_4) := (zb BK207.out 4).trans rfl
             have hcz41_5 : wc.cell? ⟨gb207,5,none⟩ = some (.int .i64 a0_5) := (zb BK207.out 5).trans rfl
             have hfz41_0 := za BK207.out 0
             have hfz41_1 := za BK207.out 1
             have hfz41_2 := za BK207.out 2
             have hfz41_3 := za BK207.out 3
             have hfz41_4 := za BK207.out 4
             have hfz41_5 := za BK207.out 5
             go_wp2_with (first | (go_at_call 96;(with_reducible refine (z7.calls a1 t212 _ A38.out).mono ?_);rintro e w' ⟨rfl,⟨nd,rfl⟩⟩;(try first | exact ⟨rfl,_,World.drewN_drewN _ _ _⟩ | exact ⟨rfl,_,Eq.trans (World.drewN_drewN _ _ _) (congrArg (World.drewN _) (Nat.add_assoc _ _ _))⟩)))
             repeat (go_quiet (first | (go_at_call 96;(with_reducible refine (z7.calls a1 t212 _ A38.out).mono ?_);rintro e w' ⟨rfl,⟨nd,rfl⟩⟩;(try first | exact ⟨rfl,_,World.drewN_drewN _ _ _⟩ | exact ⟨rfl,_,Eq.trans (World.drewN_drewN _ _ _) (congrArg (World.drewN _) (Nat.add_assoc _ _ _))⟩)));try go_wp2_with (first | (go_at_call 96;(with_reducible refine (z7.calls a1 t212 _ A38.out).mono ?_);rintro e w' ⟨rfl,⟨nd,rfl⟩⟩;(try first | exact ⟨rfl,_,World.drewN_drewN _ _ _⟩ | exact ⟨rfl,_,Eq.trans (World.drewN_drewN _ _ _) (congrArg (World.drewN _) (Nat.add_assoc _ _ _))⟩))))
             go_meet
             case rel => exact ⟨_,(decide ((l0_3.length : Int) > a1)),(hDq),H',⟨by have := HJ3.out;have := HK2.out;have := HJ29.out;first | omega | exact Nat.le_refl _⟩,⟨hGq BK207.out⟩,⟨by repeat (first | (with_reducible first | exact HB.out | apply zA | apply zm | apply zJ | refine zg ?_ GE207.out) | exact HB.out)⟩⟩
           ·rw [if_neg c37] at H
            have c37b0 : decide (1 < a0_1) = false := decide_eq_false c37
            clear c37
            (first | rw [c37b0] | (simp only [zan,zaq];rw [c37b0]) | skip)
            have H' := zc.mk H
            clear H
            have hcz42_0 : wc.cell? ⟨gb207,0,none⟩ = some (.int .i64 a0_0) := (zb BK207.out 0).trans rfl
            have hcz42_1 : wc.cell? ⟨gb207,1,none⟩ = some (.int .i64 a0_1) := (zb BK207.out 1).trans rfl
            have hcz42_2 : wc.cell? ⟨gb207,2,none⟩ = some (.slice A0_2 l0_2.length c0_2) := (zb BK207.out 2).trans rfl
            have hcz42_3 : wc.cell? ⟨gb207,3,none⟩ = some (.slice A0_3 l0_3.length c0_3) := (zb BK207.out 3).trans rfl
            have hcz42_4 : wc.cell? ⟨gb207,4,none⟩ = some (.int .i64 a0_4) := (zb BK207.out 4).trans rfl
            have hcz42_5 : wc.cell? ⟨gb207,5,none⟩ = some (.int .i64 a0_5) := (zb BK207.out 5).trans rfl
            have hfz42_0 := za BK207.out 0
            have hfz42_1 := za BK207.out 1
            have hfz42_2 := za BK207.out 2
            have hfz42_3 := za BK207.out 3
            have hfz42_4 := za BK207.out 4
            have hfz42_5 := za BK207.out 5
            go_wp2
            repeat (go_quiet (fail);try go_wp2)
            go_meet
            case rel => exact ⟨_,(false),(hDq),H',⟨by have := HJ3.out;have := HK2.out;have := HJ29.out;first | omega | exact Nat.le_refl _⟩,⟨hGq BK207.out⟩,⟨by repeat (first | (with_reducible first | exact HB.out | apply zA | apply zm | apply zJ | refine zg ?_ GE207.out) | exact HB.out)⟩⟩
          case rest =>
           clear HC36
           try clear c1
           try clear c2
           try clear p2
           try clear q2
           try clear hx2
           try clear c3
           try clear c6
           try clear p6
           try clear c7
           try clear c7b0
           try clear c9
           try clear c9b0
           try clear c11
           try clear c11b0
           try clear c13
           try clear c13b0
           try clear c16
           try clear c17
           try clear c17b0
           try clear c18
           try clear c18b0
           try clear c20
           try clear p20
           try clear q20
           try clear hx20
           try clear c21
           try clear c21b0
           try clear p21
           try clear q21
           try clear hx21
           try clear c32
           try clear c32b0
           try clear c32b1
           try clear c35
           try clear c37
           try clear c37b0
           try clear c39
           try clear c39b0
           try clear hcz10_0
           try clear hcz10_1
           try clear hcz10_2
           try clear hcz10_3
           try clear hcz10_4
           try clear hcz10_5
           try clear hcz12_0
           try clear hcz12_1
           try clear hcz12_2
           try clear hcz12_3
           try clear hcz12_4
           try clear hcz12_5
           try clear hcz14_0
           try clear hcz14_1
           try clear hcz14_2
           try clear hcz14_3
           try clear hcz14_4
           try clear hcz14_5
           try clear hcz15_0
           try clear hcz15_1
           try clear hcz15_2
           try clear hcz15_3
           try clear hcz15_4
           try clear hcz15_5
           try clear hcz22_0
           try clear hcz22_1
           try clear hcz22_2
           try clear hcz22_3
           try clear hcz22_4
           try clear hcz22_5
           try clear hcz24_0
           try clear hcz24_1
           try clear hcz24_2
           try clear hcz24_3
           try clear hcz24_4
           try clear hcz24_5
           try clear hcz25_0
           try clear hcz25_1
           try clear hcz25_2
           try clear hcz25_3
           try clear hcz25_4
           try clear hcz25_5
           try clear hcz27_0
           try clear hcz27_1
           try clear hcz27_2
           try clear hcz27_3
           try clear hcz27_4
           try clear hcz27_5
           try clear hcz28_0
           try clear hcz28_1
           try clear hcz28_2
           try clear hcz28_3
           try clear hcz28_4
           try clear hcz28_5
           try clear hcz31_0
           try clear hcz31_1
           try clear hcz31_2
           try clear hcz31_3
           try clear hcz31_4
           try clear hcz31_5
           try clear hcz33_0
           try clear hcz33_1
           try clear hcz33_2
           try clear hcz33_3
           try clear hcz33_4
           try clear hcz33_5
           try clear hcz34_0
           try clear hcz34_1
           try clear hcz34_2
           try clear hcz34_3
           try clear hcz34_4
           try clear hcz34_5
           try clear hcz40_0
           try clear hcz40_1
           try clear hcz40_2
           try clear hcz40_3
           try clear hcz40_4
           try clear hcz40_5
           try clear hcz41_0
           try clear hcz41_1
           try clear hcz41_2
           try clear hcz41_3
           try clear hcz41_4
           try clear hcz41_5
           try clear hcz42_0
           try clear hcz42_1
           try clear hcz42_2
           try clear hcz42_3
           try clear hcz42_4
           try clear hcz42_5
           try clear hcz8_0
           try clear hcz8_1
           try clear hcz8_2
           try clear hcz8_3
           try clear hcz8_4
           try clear hcz8_5
           try clear hfz10_0
           try clear hfz10_1
           try clear hfz10_2
           try clear hfz10_3
           try clear hfz10_4
           try clear hfz10_5
           try clear hfz12_0
           try clear hfz12_1
           try clear hfz12_2
           try clear hfz12_3
           try clear hfz12_4
           try clear hfz12_5
           try clear hfz14_0
           try clear hfz14_1
           try clear hfz14_2
           try clear hfz14_3
           try clear hfz14_4
           try clear hfz14_5
           try clear hfz15_0
           try clear hfz15_1
           try clear hfz15_2
           try clear hfz15_3
           try clear hfz15_4
           try clear hfz15_5
           try clear hfz22_0
           try clear hfz22_1
           try clear hfz22_2
           try clear hfz22_3
           try clear hfz22_4
           try clear hfz22_5
           try clear hfz24_0
           try clear hfz24_1
           try clear hfz24_2
           try clear hfz24_3
           try clear hfz24_4
           try clear hfz24_5
           try clear hfz25_0
           try clear hfz25_1
           try clear hfz25_2
           try clear hfz25_3
           try clear hfz25_4
           try clear hfz25_5
           try clear hfz27_0
           try clear hfz27_1
           try clear hfz27_2
           try clear hfz27_3
           try clear hfz27_4
           try clear hfz27_5
           try clear hfz28_0
           try clear hfz28_1
           try clear hfz28_2
           try clear hfz28_3
           try clear hfz28_4
           try clear hfz28_5
           try clear hfz31_0
           try clear hfz31_1
           try clear hfz31_2
           try clear hfz31_3
           try clear hfz31_4
           try clear hfz31_5
           try clear hfz33_0
           try clear hfz33_1
           try clear hfz33_2
           try clear hfz33_3
           try clear hfz33_4
           try clear hfz33_5
           try clear hfz34_0
           try clear hfz34_1
           try clear hfz34_2
           try clear hfz34_3
           try clear hfz34_4
           try clear hfz34_5
           try clear hfz40_0
           try clear hfz40_1
           try clear hfz40_2
           try clear hfz40_3
           try clear hfz40_4
           try clear hfz40_5
           try clear hfz41_0
           try clear hfz41_1
           try clear hfz41_2
           try clear hfz41_3
           try clear hfz41_4
           try clear hfz41_5
           try clear hfz42_0
           try clear hfz42_1
           try clear hfz42_2
           try clear hfz42_3
           try clear hfz42_4
           try clear hfz42_5
           try clear hfz8_0
           try clear hfz8_1
           try clear hfz8_2
           try clear hfz8_3
           try clear hfz8_4
           try clear hfz8_5
           try clear hx209_0
           try clear hx209_1
           try clear hx209_2
           try clear hx211_0
           try clear hx211_1
           try clear hx211_2
           try clear p2
           try clear p20
           try clear p209
           try clear p21
           try clear p211
           try clear p6
           try clear q2
           try clear q20
           try clear q209
           try clear q21
           try clear q211
           obtain ⟨kq,x93_35,rfl,HA,HJ35,BK207,HB⟩ := hcut
           cases kq with
           | zero => exact absurd HA.out (by simp [zo.j3])
           | succ kj35 =>
            have H := HA.out
            clear HA
            simp only [zo.j3] at H
            by_cases c43 : x93_35 = true
            ·subst c43
             have H1 : (some false) = some r := by rw [if_pos rfl] at H;exact H
             clear H
             have H := H1
             clear H1
             obtain rfl := Option.some.inj H
             go_wp2
             repeat (go_quiet (fail);try go_wp2)
             go_ret
             exact ⟨hHq,hCq⟩
            ·replace c43 := Bool.eq_false_iff.mpr c43
             subst c43
             have H1 : (zo.l1 kj35 0 a0_0 a0_1 l0_2 l0_3 a0_4 a0_5) = some r := by rw [if_neg (show ¬ (false = true) by decide)] at H;exact H
             clear H
             have H := H1
             clear H1
             have H' := zc.mk H
             clear H
             go_wp2
             repeat (go_quiet (fail);try go_wp2)
             go_loopg [8] kj35 (fun kq v8 w' => ∃ (x8_5 : Int),v8 = .int .i64 x8_5 ∧ zc (zo.l1 kq x8_5 a0_0 a0_1 l0_2 l0_3 a0_4 a0_5 = some r) ∧ zc (kq ≤ kj35) ∧ zc (w'.heap[gb207]? = some (.cells #[.int .i64 a0_0,.int .i64 a0_1,(.slice A0_2 l0_2.length c0_2),(.slice A0_3 l0_3.length c0_3),.int .i64 a0_4,.int .i64 a0_5] 28 (0,0))) ∧ zc (Below w.heap.size w w'))
             case atStart => exact ⟨(0),(hDq),H',⟨Nat.le_refl _⟩,⟨hGq BK207.out⟩,⟨by repeat (first | (with_reducible first | exact HB.out | apply zA | apply zm | apply zJ | refine zg ?_ GE207.out) | exact HB.out)⟩⟩
             case round =>
              clear H'
              try clear c1
              try clear c2
              try clear p2
              try clear q2
              try clear hx2
              try clear c3
              try clear c4
              try clear c6
              try clear p6
              try clear c7
              try clear c7b0
              try clear c9
              try clear c9b0
              try clear c11
              try clear c11b0
              try clear c13
              try clear c13b0
              try clear c16
              try clear c17
              try clear c17b0
              try clear c18
              try clear c18b0
              try clear c20
              try clear p20
              try clear q20
              try clear hx20
              try clear c21
              try clear c21b0
              try clear p21
              try clear q21
              try clear hx21
              try clear c32
              try clear c32b0
              try clear c32b1
              try clear c35
              try clear c37
              try clear c37b0
              try clear c39
              try clear c39b0
              try clear c43
              try clear hcz10_0
              try clear hcz10_1
              try clear hcz10_2
              try clear hcz10_3
              try clear hcz10_4
              try clear hcz10_5
              try clear hcz12_0
              try clear hcz12_1
              try clear hcz12_2
              try clear hcz12_3
              try clear hcz12_4
              try clear hcz12_5
              try clear hcz14_0
              try clear hcz14_1
              try clear hcz14_2
              try clear hcz14_3
              try clear hcz14_4
              try clear hcz14_5
              try clear hcz15_0
              try clear hcz15_1
              try clear hcz15_2
              try clear hcz15_3
              try clear hcz15_4
              try clear hcz15_5
              try clear hcz22_0
              try clear hcz22_1
              try clear hcz22_2
              try clear hcz22_3
              try clear hcz22_4
              try clear hcz22_5
              try clear hcz24_0
              try clear hcz24_1
              try clear hcz24_2
              try clear hcz24_3
              try clear hcz24_4
              try clear hcz24_5
              try clear hcz25_0
              try clear hcz25_1
              try clear hcz25_2
              try clear hcz25_3
              try clear hcz25_4
              try clear hcz25_5
              try clear hcz27_0
              try clear hcz27_1
              try clear hcz27_2
              try clear hcz27_3
              try clear hcz27_4
              try clear hcz27_5
              try clear hcz28_0
              try clear hcz28_1
              try clear hcz28_2
              try clear hcz28_3
              try clear hcz28_4
              try clear hcz28_5
              try clear hcz31_0
              try clear hcz31_1
              try clear hcz31_2
              try clear hcz31_3
              try clear hcz31_4
              try clear hcz31_5
              try clear hcz33_0
              try clear hcz33_1
              try clear hcz33_2
              try clear hcz33_3
              try clear hcz33_4
              try clear hcz33_5
              try clear hcz34_0
              try clear hcz34_1
              try clear hcz34_2
              try clear hcz34_3
              try clear hcz34_4
              try clear hcz34_5
              try clear hcz40_0
              try clear hcz40_1
              try clear hcz40_2
              try clear hcz40_3
              try clear hcz40_4
              try clear hcz40_5
              try clear hcz41_0
              try clear hcz41_1
              try clear hcz41_2
              try clear hcz41_3
              try clear hcz41_4
              try clear hcz41_5
              try clear hcz42_0
              try clear hcz42_1
              try clear hcz42_2
              try clear hcz42_3
              try clear hcz42_4
              try clear hcz42_5
              try clear hcz8_0
              try clear hcz8_1
              try clear hcz8_2
              try clear hcz8_3
              try clear hcz8_4
              try clear hcz8_5
              try clear hfz10_0
              try clear hfz10_1
              try clear hfz10_2
              try clear hfz10_3
              try clear hfz10_4
              try clear hfz10_5
              try clear hfz12_0
              try clear hfz12_1
              try clear hfz12_2
              try clear hfz12_3
              try clear hfz12_4
              try clear hfz12_5
              try clear hfz14_0
              try clear hfz14_1
              try clear hfz14_2
              try clear hfz14_3
              try clear hfz14_4
              try clear hfz14_5
              try clear hfz15_0
              try clear hfz15_1
              try clear hfz15_2
              try clear hfz15_3
              try clear hfz15_4
              try clear hfz15_5
              try clear hfz22_0
              try clear hfz22_1
              try clear hfz22_2
              try clear hfz22_3
              try clear hfz22_4
              try clear hfz22_5
              try clear hfz24_0
              try clear hfz24_1
              try clear hfz24_2
              try clear hfz24_3
              try clear hfz24_4
              try clear hfz24_5
              try clear hfz25_0
              try clear hfz25_1
              try clear hfz25_2
              try clear hfz25_3
              try clear hfz25_4
              try clear hfz25_5
              try clear hfz27_0
              try clear hfz27_1
              try clear hfz27_2
              try clear hfz27_3
              try clear hfz27_4
              try clear hfz27_5
              try clear hfz28_0
              try clear hfz28_1
              try clear hfz28_2
              try clear hfz28_3
              try clear hfz28_4
              try clear hfz28_5
              try clear hfz31_0
              try clear hfz31_1
              try clear hfz31_2
              try clear hfz31_3
              try clear hfz31_4
              try clear hfz31_5
              try clear hfz33_0
              try clear hfz33_1
              try clear hfz33_2
              try clear hfz33_3
              try clear hfz33_4
              try clear hfz33_5
              try clear hfz34_0
              try clear hfz34_1
              try clear hfz34_2
              try clear hfz34_3
              try clear hfz34_4
              try clear hfz34_5
              try clear hfz40_0
              try clear hfz40_1
              try clear hfz40_2
              try clear hfz40_3
              try clear hfz40_4
              try clear hfz40_5
              try clear hfz41_0
              try clear hfz41_1
              try clear hfz41_2
              try clear hfz41_3
              try clear hfz41_4
              try clear hfz41_5
              try clear hfz42_0
              try clear hfz42_1
              try clear hfz42_2
              try clear hfz42_3
              try clear hfz42_4
              try clear hfz42_5
              try clear hfz8_0
              try clear hfz8_1
              try clear hfz8_2
              try clear hfz8_3
              try clear hfz8_4
              try clear hfz8_5
              try clear hx209_0
              try clear hx209_1
              try clear hx209_2
              try clear hx211_0
              try clear hx211_1
              try clear hx211_2
              try clear p2
              try clear p20
              try clear p209
              try clear p21
              try clear p211
              try clear p6
              try clear q2
              try clear q20
              try clear q209
              try clear q21
              try clear q211
              obtain ⟨x8_5,rfl,HA,HK5,BK207,HB⟩ := hrel
              cases gk with
              | zero => exact absurd HA.out (by simp [zo.l1])
              | succ k5 =>
               have H := HA.out
               clear HA
               simp only [zo.l1] at H
               by_cases c44 : x8_5 < (l0_3.length : Int)
               ·rw [if_pos c44] at H
                have c44b0 : decide (x8_5 < (l0_3.length : Int)) = true := decide_eq_true c44
                clear c44
                by_cases c45 : 0 ≤ x8_5
                ·rw [if_pos c45] at H
                 have c45b0 : decide (0 ≤ x8_5) = true := decide_eq_true c45
                 clear c45
                 by_cases c46 : ((zaF ByteArray.empty l0_3 x8_5).size : Int) = 32
                 ·rw [if_pos c46] at H
                  have c46b0 : (((zaF ByteArray.empty l0_3 x8_5).size : Int) == 32) = true := beq_iff_eq.mpr c46
                  have c46b1 : (((zaF ByteArray.empty l0_3 x8_5).size : Int) != 32) = false := bne_eq_false_iff_eq.mpr c46
                  clear c46
                  by_cases c47 : x8_5 > 0
                  ·rw [if_pos c47] at H
                   have c47b0 : decide (0 < x8_5) = true := decide_eq_true c47
                   clear c47
                   obtain ⟨ji48,hji48⟩ : ∃ j_ : Int,(wrap64 (x8_5 - 1)) = j_ := ⟨_,rfl⟩
                   replace H : (if 0 ≤ (ji48) then (if (ji48) < (l0_3.length : Int) then ((zS.f k5 (zaF ByteArray.empty l0_3 (ji48)) (zaF ByteArray.empty l0_3 x8_5)).bind fun t218 => (if t218 = true then (zo.l1 k5 (wrap64 (x8_5 + 1)) a0_0 a0_1 l0_2 l0_3 a0_4 a0_5) else (some false))) else (none)) else (none)) = some r := by first | (rw [hji48] at H;exact H) | (simp only [hji48] at H ⊢;exact H)
                   have hji48w : (IntKind.i64.wrap (x8_5 - 1)) = ji48 := (zan _).trans hji48
                   by_cases c49 : 0 ≤ (ji48)
                   ·rw [if_pos c49] at H
                    have c49b0 : decide (0 ≤ (ji48)) = true := decide_eq_true c49
                    clear c49
                    by_cases c50 : (ji48) < (l0_3.length : Int)
                    ·rw [if_pos c50] at H
                     have c50b0 : decide ((ji48) < (l0_3.length : Int)) = true := decide_eq_true c50
                     clear c50
                     replace H := Option.bind_eq_some_iff.mp H
                     obtain ⟨t218,A510,H⟩ := H
                     replace H : (if t218 = true then (zo.l1 k5 (wrap64 (x8_5 + 1)) a0_0 a0_1 l0_2 l0_3 a0_4 a0_5) else (some false)) = some r := H
                     have A51 := zc.mk A510
                     clear A510
                     by_cases c52 : t218 = true
                     ·subst c52
                      have H1 : (zo.l1 k5 (wrap64 (x8_5 + 1)) a0_0 a0_1 l0_2 l0_3 a0_4 a0_5) = some r := by rw [if_pos rfl] at H;exact H
                      clear H
                      have H := H1
                      clear H1
                      have H' := zc.mk H
                      clear H
                      have hcz53_0 : wr.cell? ⟨gb207,0,none⟩ = some (.int .i64 a0_0) := (zb BK207.out 0).trans rfl
                      have hcz53_1 : wr.cell? ⟨gb207,1,none⟩ = some (.int .i64 a0_1) := (zb BK207.out 1).trans rfl
                      have hcz53_2 : wr.cell? ⟨gb207,2,none⟩ = some (.slice A0_2 l0_2.length c0_2) := (zb BK207.out 2).trans rfl
                      have hcz53_3 : wr.cell? ⟨gb207,3,none⟩ = some (.slice A0_3 l0_3.length c0_3) := (zb BK207.out 3).trans rfl
                      have hcz53_4 : wr.cell? ⟨gb207,4,none⟩ = some (.int .i64 a0_4) := (zb BK207.out 4).trans rfl
                      have hcz53_5 : wr.cell? ⟨gb207,5,none⟩ = some (.int .i64 a0_5) := (zb BK207.out 5).trans rfl
                      have hfz53_0 := za BK207.out 0
                      have hfz53_1 := za BK207.out 1
                      have hfz53_2 := za BK207.out 2
                      have hfz53_3 := za BK207.out 3
                      have hfz53_4 := za BK207.out 4
                      have hfz53_5 := za BK207.out 5
                      have p215 : 0 ≤ (x8_5 : Int) := hFq
                      have q215 : x8_5 < (l0_3.length : Int) := hFq
                      obtain ⟨ad215,e215,hx215_0⟩ := Kd.at_string HR0_3.out x8_5 p215 q215
                      cases e215
                      replace hx215_0 := (HB.out.cell (World.block_lt_of_cell? w _ hx215_0)).trans hx215_0
                      replace p215 := eq_true p215
                      replace q215 := eq_true q215
                      have p216 : 0 ≤ ((ji48) : Int) := hFq
                      have q216 : (ji48) < (l0_3.length : Int) := hFq
                      obtain ⟨ad216,e216,hx216_0⟩ := Kd.at_string HR0_3.out (ji48) p216 q216
                      obtain rfl : ad215 = ad216 := (by injection e216)
                      replace hx216_0 := (HB.out.cell (World.block_lt_of_cell? w _ hx216_0)).trans hx216_0
                      replace p216 := eq_true p216
                      replace q216 := eq_true q216
                      have p217 : 0 ≤ (x8_5 : Int) := hFq
                      have q217 : x8_5 < (l0_3.length : Int) := hFq
                      obtain ⟨ad217,e217,hx217_0⟩ := Kd.at_string HR0_3.out x8_5 p217 q217
                      obtain rfl : ad215 = ad217 := (by injection e217)
                      replace hx217_0 := (HB.out.cell (World.block_lt_of_cell? w _ hx217_0)).trans hx217_0
                      replace p217 := eq_true p217
                      replace q217 := eq_true q217
                      go_wp2_with (first | (go_at_call 97;(with_reducible refine (zS.calls k5 (zaF ByteArray.empty l0_3 (ji48)) (zaF ByteArray.empty l0_3 x8_5) true _ A51.out).mono ?_);rintro e w' ⟨rfl,⟨nd,rfl⟩⟩;(try first | exact ⟨rfl,_,World.drewN_drewN _ _ _⟩ | exact ⟨rfl,_,Eq.trans (World.drewN_drewN _ _ _) (congrArg (World.drewN _) (Nat.add_assoc _ _ _))⟩)))
                      repeat (go_quiet (first | (go_at_call 97;(with_reducible refine (zS.calls k5 (zaF ByteArray.empty l0_3 (ji48)) (zaF ByteArray.empty l0_3 x8_5) true _ A51.out).mono ?_);rintro e w' ⟨rfl,⟨nd,rfl⟩⟩;(try first | exact ⟨rfl,_,World.drewN_drewN _ _ _⟩ | exact ⟨rfl,_,Eq.trans (World.drewN_drewN _ _ _) (congrArg (World.drewN _) (Nat.add_assoc _ _ _))⟩)));try go_wp2_with (first | (go_at_call 97;(with_reducible refine (zS.calls k5 (zaF ByteArray.empty l0_3 (ji48)) (zaF ByteArray.empty l0_3 x8_5) true _ A51.out).mono ?_);rintro e w' ⟨rfl,⟨nd,rfl⟩⟩;(try first | exact ⟨rfl,_,World.drewN_drewN _ _ _⟩ | exact ⟨rfl,_,Eq.trans (World.drewN_drewN _ _ _) (congrArg (World.drewN _) (Nat.add_assoc _ _ _))⟩))))
                      go_roundg k5
                      case measure => have := HJ3.out;have := HK2.out;have := HJ29.out;have := HJ35.out;have := HK5.out;omega
                      case rel => exact ⟨(wrap64 (x8_5 + 1)),(hDq),H',⟨by have := HJ3.out;have := HK2.out;have := HJ29.out;have := HJ35.out;have := HK5.out;omega⟩,⟨hGq BK207.out⟩,⟨by repeat (first | (with_reducible first | exact HB.out | apply zA | apply zm | apply zJ | refine zg ?_ GE207.out) | exact HB.out)⟩⟩
                     ·replace c52 := Bool.eq_false_iff.mpr c52
                      subst c52
                      have H1 : (some false) = some r := by rw [if_neg (show ¬ (false = true) by decide)] at H;exact H
                      clear H
                      have H := H1
                      clear H1
                      obtain rfl := Option.some.inj H
                      have hcz54_0 : wr.cell? ⟨gb207,0,none⟩ = some (.int .i64 a0_0) := (zb BK207.out 0).trans rfl
                      have hcz54_1 : wr.cell? ⟨gb207,1,none⟩ = some (.int .i64 a0_1) := (zb BK207.out 1).trans rfl
                      have hcz54_2 : wr.cell? ⟨gb207,2,none⟩ = some (.slice A0_2 l0_2.length c0_2) := (zb BK207.out 2).trans rfl
                      have hcz54_3 : wr.cell? ⟨gb207,3,none⟩ = some (.slice A0_3 l0_3.length c0_3) := (zb BK207.out 3).trans rfl
                      have hcz54_4 : wr.cell? ⟨gb207,4,none⟩ = some (.int .i64 a0_4) := (zb BK207.out 4).trans rfl
                      have hcz54_5 : wr.cell? ⟨gb207,5,none⟩ = some (.int .i64 a0_5) := (zb BK207.out 5).trans rfl
                      have hfz54_0 := za BK207.out 0
                      have hfz54_1 := za BK207.out 1
                      have hfz54_2 := za BK207.out 2
                      have hfz54_3 := za BK207.out 3
                      have hfz54_4 := za BK207.out 4
                      have hfz54_5 := za BK207.out 5
                      have p215 : 0 ≤ (x8_5 : Int) := hFq
                      have q215 : x8_5 < (l0_3.length : Int) := hFq
                      obtain ⟨ad215,e215,hx215_0⟩ := Kd.at_string HR0_3.out x8_5 p215 q215
                      cases e215
                      replace hx215_0 := (HB.out.cell (World.block_lt_of_cell? w _ hx215_0)).trans hx215_0
                      replace p215 := eq_true p215
                      replace q215 := eq_true q215
                      have p216 : 0 ≤ ((ji48) : Int) := hFq
                      have q216 : (ji48) < (l0_3.length : Int) := hFq
                      obtain ⟨ad216,e216,hx216_0⟩ := Kd.at_string HR0_3.out (ji48) p216 q216
                      obtain rfl : ad215 = ad216 := (by injection e216)
                      replace hx216_0 := (HB.out.cell (World.block_lt_of_cell? w _ hx216_0)).trans hx216_0
                      replace p216 := eq_true p216
                      replace q216 := eq_true q216
                      have p217 : 0 ≤ (x8_5 : Int) := hFq
                      have q217 : x8_5 < (l0_3.length : Int) := hFq
                      obtain ⟨ad217,e217,hx217_0⟩ := Kd.at_string HR0_3.out x8_5 p217 q217
                      obtain rfl : ad215 = ad217 := (by injection e217)
                      replace hx217_0 := (HB.out.cell (World.block_lt_of_cell? w _ hx217_0)).trans hx217_0
                      replace p217 := eq_true p217
                      replace q217 := eq_true q217
                      go_wp2_with (first | (go_at_call 97;(with_reducible refine (zS.calls k5 (zaF ByteArray.empty l0_3 (ji48)) (zaF ByteArray.empty l0_3 x8_5) false _ A51.out).mono ?_);rintro e w' ⟨rfl,⟨nd,rfl⟩⟩;(try first | exact ⟨rfl,_,World.drewN_drewN _ _ _⟩ | exact ⟨rfl,_,Eq.trans (World.drewN_drewN _ _ _) (congrArg (World.drewN _) (Nat.add_assoc _ _ _))⟩)))
                      repeat (go_quiet (first | (go_at_call 97;(with_reducible refine (zS.calls k5 (zaF ByteArray.empty l0_3 (ji48)) (zaF ByteArray.empty l0_3 x8_5) false _ A51.out).mono ?_);rintro e w' ⟨rfl,⟨nd,rfl⟩⟩;(try first | exact ⟨rfl,_,World.drewN_drewN _ _ _⟩ | exact ⟨rfl,_,Eq.trans (World.drewN_drewN _ _ _) (congrArg (World.drewN _) (Nat.add_assoc _ _ _))⟩)));try go_wp2_with (first | (go_at_call 97;(with_reducible refine (zS.calls k5 (zaF ByteArray.empty l0_3 (ji48)) (zaF ByteArray.empty l0_3 x8_5) false _ A51.out).mono ?_);rintro e w' ⟨rfl,⟨nd,rfl⟩⟩;(try first | exact ⟨rfl,_,World.drewN_drewN _ _ _⟩ | exact ⟨rfl,_,Eq.trans (World.drewN_drewN _ _ _) (congrArg (World.drewN _) (Nat.add_assoc _ _ _))⟩))))
                      go_ret
                      exact ⟨by first | rfl | (simp [za4,za5] <;> rfl) | (simp only [← hji48];first | rfl | (simp [za4,za5] <;> rfl)) | (simp [*,za4,za5] <;> rfl),hCq⟩
                    ·rw [if_neg c50] at H
                     exact absurd H (by simp)
                   ·rw [if_neg c49] at H
                    exact absurd H (by simp)
                  ·rw [if_neg c47] at H
                   have c47b0 : decide (0 < x8_5) = false := decide_eq_false c47
                   clear c47
                   have H' := zc.mk H
                   clear H
                   have hcz55_0 : wr.cell? ⟨gb207,0,none⟩ = some (.int .i64 a0_0) := (zb BK207.out 0).trans rfl
                   have hcz55_1 : wr.cell? ⟨gb207,1,none⟩ = some (.int .i64 a0_1) := (zb BK207.out 1).trans rfl
                   have hcz55_2 : wr.cell? ⟨gb207,2,none⟩ = some (.slice A0_2 l0_2.length c0_2) := (zb BK207.out 2).trans rfl
                   have hcz55_3 : wr.cell? ⟨gb207,3,none⟩ = some (.slice A0_3 l0_3.length c0_3) := (zb BK207.out 3).trans rfl
                   have hcz55_4 : wr.cell? ⟨gb207,4,none⟩ = some (.int .i64 a0_4) := (zb BK207.out 4).trans rfl
                   have hcz55_5 : wr.cell? ⟨gb207,5,none⟩ = some (.int .i64 a0_5) := (zb BK207.out 5).trans rfl
                   have hfz55_0 := za BK207.out 0
                   have hfz55_1 := za BK207.out 1
                   have hfz55_2 := za BK207.out 2
                   have hfz55_3 := za BK207.out 3
                   have hfz55_4 := za BK207.out 4
                   have hfz55_5 := za BK207.out 5
                   have p215 : 0 ≤ (x8_5 : Int) := hFq
                   have q215 : x8_5 < (l0_3.length : Int) := hFq
                   obtain ⟨ad215,e215,hx215_0⟩ := Kd.at_string HR0_3.out x8_5 p215 q215
                   cases e215
                   replace hx215_0 := (HB.out.cell (World.block_lt_of_cell? w _ hx215_0)).trans hx215_0
                   replace p215 := eq_true p215
                   replace q215 := eq_true q215
                   go_wp2
                   repeat (go_quiet (fail);try go_wp2)
                   go_roundg k5
                   case measure => have := HJ3.out;have := HK2.out;have := HJ29.out;have := HJ35.out;have := HK5.out;omega
                   case rel => exact ⟨(wrap64 (x8_5 + 1)),(hDq),H',⟨by have := HJ3.out;have := HK2.out;have := HJ29.out;have := HJ35.out;have := HK5.out;omega⟩,⟨hGq BK207.out⟩,⟨by repeat (first | (with_reducible first | exact HB.out | apply zA | apply zm | apply zJ | refine zg ?_ GE207.out) | exact HB.out)⟩⟩
                 ·rw [if_neg c46] at H
                  have c46b0 : (((zaF ByteArray.empty l0_3 x8_5).size : Int) == 32) = false := beq_eq_false_iff_ne.mpr c46
                  have c46b1 : (((zaF ByteArray.empty l0_3 x8_5).size : Int) != 32) = true := bne_iff_ne.mpr c46
                  obtain rfl := Option.some.inj H
                  have hcz56_0 : wr.cell? ⟨gb207,0,none⟩ = some (.int .i64 a0_0) := (zb BK207.out 0).trans rfl
                  have hcz56_1 : wr.cell? ⟨gb207,1,none⟩ = some (.int .i64 a0_1) := (zb BK207.out 1).trans rfl
                  have hcz56_2 : wr.cell? ⟨gb207,2,none⟩ = some (.slice A0_2 l0_2.length c0_2) := (zb BK207.out 2).trans rfl
                  have hcz56_3 : wr.cell? ⟨gb207,3,none⟩ = some (.slice A0_3 l0_3.length c0_3) := (zb BK207.out 3).trans rfl
                  have hcz56_4 : wr.cell? ⟨gb207,4,none⟩ = some (.int .i64 a0_4) := (zb BK207.out 4).trans rfl
                  have hcz56_5 : wr.cell? ⟨gb207,5,none⟩ = some (.int .i64 a0_5) := (zb BK207.out 5).trans rfl
                  have hfz56_0 := za BK207.out 0
                  have hfz56_1 := za BK207.out 1
                  have hfz56_2 := za BK207.out 2
                  have hfz56_3 := za BK207.out 3
                  have hfz56_4 := za BK207.out 4
                  have hfz56_5 := za BK207.out 5
                  have p215 : 0 ≤ (x8_5 : Int) := hFq
                  have q215 : x8_5 < (l0_3.length : Int) := hFq
                  obtain ⟨ad215,e215,hx215_0⟩ := Kd.at_string HR0_3.out x8_5 p215 q215
                  cases e215
                  replace hx215_0 := (HB.out.cell (World.block_lt_of_cell? w _ hx215_0)).trans hx215_0
                  replace p215 := eq_true p215
                  replace q215 := eq_true q215
                  go_wp2
                  repeat (go_quiet (fail);try go_wp2)
                  go_ret
                  exact ⟨hHq,hCq⟩
                ·rw [if_neg c45] at H
                 exact absurd H (by simp)
               ·rw [if_neg c44] at H
                have c44b0 : decide (x8_5 < (l0_3.length : Int)) = false := decide_eq_false c44
                clear c44
                replace H := Option.bind_eq_some_iff.mp H
                obtain ⟨t213,A570,H⟩ := H
                replace H : ((zal.f a0_1).bind fun t214 => (if t213 = true then (if t214 = true then (some true) else (if a0_4 = 0 then (some (a0_5 == 0)) else (some false))) else (some false))) = some r := H
                have A57 := zc.mk A570
                clear A570
                replace H := Option.bind_eq_some_iff.mp H
                obtain ⟨t214,A580,H⟩ := H
                replace H : (if t213 = true then (if t214 = true then (some true) else (if a0_4 = 0 then (some (a0_5 == 0)) else (some false))) else (some false)) = some r := H
                have A58 := zc.mk A580
                clear A580
                by_cases c59 : t213 = true
                focus
                 subst c59
                 have H1 : (if t214 = true then (some true) else (if a0_4 = 0 then (some (a0_5 == 0)) else (some false))) = some r := by rw [if_pos rfl] at H;exact H
                 clear H
                 have H := H1
                 clear H1
                 by_cases c60 : t214 = true
                 focus
                  subst c60
                  have H1 : (some true) = some r := by rw [if_pos rfl] at H;exact H
                  clear H
                  have H := H1
                  clear H1
                  obtain rfl := Option.some.inj H
                  have hcz61_0 : wr.cell? ⟨gb207,0,none⟩ = some (.int .i64 a0_0) := (zb BK207.out 0).trans rfl
                  have hcz61_1 : wr.cell? ⟨gb207,1,none⟩ = some (.int .i64 a0_1) := (zb BK207.out 1).trans rfl
                  have hcz61_2 : wr.cell? ⟨gb207,2,none⟩ = some (.slice A0_2 l0_2.length c0_2) := (zb BK207.out 2).trans rfl
                  have hcz61_3 : wr.cell? ⟨gb207,3,none⟩ = some (.slice A0_3 l0_3.length c0_3) := (zb BK207.out 3).trans rfl
                  have hcz61_4 : wr.cell? ⟨gb207,4,none⟩ = some (.int .i64 a0_4) := (zb BK207.out 4).trans rfl
                  have hcz61_5 : wr.cell? ⟨gb207,5,none⟩ = some (.int .i64 a0_5) := (zb BK207.out 5).trans rfl
                  have hfz61_0 := za BK207.out 0
                  have hfz61_1 := za BK207.out 1
                  have hfz61_2 := za BK207.out 2
                  have hfz61_3 := za BK207.out 3
                  have hfz61_4 := za BK207.out 4
                  have hfz61_5 := za BK207.out 5
                  have EQ0 := True.intro
                  have EQ1 := True.intro
                 rotate_left
                 focus
                  replace c60 := Bool.eq_false_iff.mpr c60
                  subst c60
                  have H1 : (if a0_4 = 0 then (some (a0_5 == 0)) else (some false)) = some r := by rw [if_neg (show ¬ (false = true) by decide)] at H;exact H
                  clear H
                  have H := H1
                  clear H1
                  by_cases c64 : a0_4 = 0
                  focus
                   rw [if_pos c64] at H
                   have c64b0 : (a0_4 == 0) = true := beq_iff_eq.mpr c64
                   have c64b1 : (a0_4 != 0) = false := bne_eq_false_iff_eq.mpr c64
                   clear c64
                   obtain rfl := Option.some.inj H
                   have hcz65_0 : wr.cell? ⟨gb207,0,none⟩ = some (.int .i64 a0_0) := (zb BK207.out 0).trans rfl
                   have hcz65_1 : wr.cell? ⟨gb207,1,none⟩ = some (.int .i64 a0_1) := (zb BK207.out 1).trans rfl
                   have hcz65_2 : wr.cell? ⟨gb207,2,none⟩ = some (.slice A0_2 l0_2.length c0_2) := (zb BK207.out 2).trans rfl
                   have hcz65_3 : wr.cell? ⟨gb207,3,none⟩ = some (.slice A0_3 l0_3.length c0_3) := (zb BK207.out 3).trans rfl
                   have hcz65_4 : wr.cell? ⟨gb207,4,none⟩ = some (.int .i64 a0_4) := (zb BK207.out 4).trans rfl
                   have hcz65_5 : wr.cell? ⟨gb207,5,none⟩ = some (.int .i64 a0_5) := (zb BK207.out 5).trans rfl
                   have hfz65_0 := za BK207.out 0
                   have hfz65_1 := za BK207.out 1
                   have hfz65_2 := za BK207.out 2
                   have hfz65_3 := za BK207.out 3
                   have hfz65_4 := za BK207.out 4
                   have hfz65_5 := za BK207.out 5
                   have EQ0 := True.intro
                   have EQ2 := True.intro
                  rotate_left
                  focus
                   rw [if_neg c64] at H
                   have c64b0 : (a0_4 == 0) = false := beq_eq_false_iff_ne.mpr c64
                   have c64b1 : (a0_4 != 0) = true := bne_iff_ne.mpr c64
                   obtain rfl := Option.some.inj H
                   have hcz68_0 : wr.cell? ⟨gb207,0,none⟩ = some (.int .i64 a0_0) := (zb BK207.out 0).trans rfl
                   have hcz68_1 : wr.cell? ⟨gb207,1,none⟩ = some (.int .i64 a0_1) := (zb BK207.out 1).trans rfl
                   have hcz68_2 : wr.cell? ⟨gb207,2,none⟩ = some (.slice A0_2 l0_2.length c0_2) := (zb BK207.out 2).trans rfl
                   have hcz68_3 : wr.cell? ⟨gb207,3,none⟩ = some (.slice A0_3 l0_3.length c0_3) := (zb BK207.out 3).trans rfl
                   have hcz68_4 : wr.cell? ⟨gb207,4,none⟩ = some (.int .i64 a0_4) := (zb BK207.out 4).trans rfl
                   have hcz68_5 : wr.cell? ⟨gb207,5,none⟩ = some (.int .i64 a0_5) := (zb BK207.out 5).trans rfl
                   have hfz68_0 := za BK207.out 0
                   have hfz68_1 := za BK207.out 1
                   have hfz68_2 := za BK207.out 2
                   have hfz68_3 := za BK207.out 3
                   have hfz68_4 := za BK207.out 4
                   have hfz68_5 := za BK207.out 5
                   have EQ0 := True.intro
                   have EQ2 := True.intro
                rotate_left 3
                focus
                 replace c59 := Bool.eq_false_iff.mpr c59
                 subst c59
                 have H1 : (some false) = some r := by rw [if_neg (show ¬ (false = true) by decide)] at H;exact H
                 clear H
                 have H := H1
                 clear H1
                 obtain rfl := Option.some.inj H
                 have hcz71_0 : wr.cell? ⟨gb207,0,none⟩ = some (.int .i64 a0_0) := (zb BK207.out 0).trans rfl
                 have hcz71_1 : wr.cell? ⟨gb207,1,none⟩ = some (.int .i64 a0_1) := (zb BK207.out 1).trans rfl
                 have hcz71_2 : wr.cell? ⟨gb207,2,none⟩ = some (.slice A0_2 l0_2.length c0_2) := (zb BK207.out 2).trans rfl
                 have hcz71_3 : wr.cell? ⟨gb207,3,none⟩ = some (.slice A0_3 l0_3.length c0_3) := (zb BK207.out 3).trans rfl
                 have hcz71_4 : wr.cell? ⟨gb207,4,none⟩ = some (.int .i64 a0_4) := (zb BK207.out 4).trans rfl
                 have hcz71_5 : wr.cell? ⟨gb207,5,none⟩ = some (.int .i64 a0_5) := (zb BK207.out 5).trans rfl
                 have hfz71_0 := za BK207.out 0
                 have hfz71_1 := za BK207.out 1
                 have hfz71_2 := za BK207.out 2
                 have hfz71_3 := za BK207.out 3
                 have hfz71_4 := za BK207.out 4
                 have hfz71_5 := za BK207.out 5
                 have EQ3 := True.intro
                all_goals
                 go_wp2_with (first | (have _ := EQ0;(go_at_call 98;(with_reducible refine (zau.calls a0_4 a0_5 true _ A57.out).mono ?_);rintro e wQC98A571 ⟨rfl,hb⟩;have n0_ := zc.mk (zh (g := gb207) (o := .cells #[.int .i64 a0_0,.int .i64 a0_1,.slice A0_2 l0_2.length c0_2,.slice A0_3 l0_3.length c0_3,.int .i64 a0_4,.int .i64 a0_5] 28 (0,0)) (hGq BK207.out) hb);have n1_ := zc.mk (zj hCq hb);clear BK207;clear HB;have BK207 := n0_;have HB := n1_;clear n0_ n1_;(try clear hb);(try clear hb2);(try clear hk);(try clear hi);have hczQC98A573 : wQC98A571.cell? ⟨gb207,0,none⟩ = some (.int .i64 a0_0) := (zb BK207.out 0).trans rfl;have hczQC98A574 : wQC98A571.cell? ⟨gb207,1,none⟩ = some (.int .i64 a0_1) := (zb BK207.out 1).trans rfl;have hczQC98A575 : wQC98A571.cell? ⟨gb207,2,none⟩ = some (.slice A0_2 l0_2.length c0_2) := (zb BK207.out 2).trans rfl;have hczQC98A576 : wQC98A571.cell? ⟨gb207,3,none⟩ = some (.slice A0_3 l0_3.length c0_3) := (zb BK207.out 3).trans rfl;have hczQC98A577 : wQC98A571.cell? ⟨gb207,4,none⟩ = some (.int .i64 a0_4) := (zb BK207.out 4).trans rfl;have hczQC98A578 : wQC98A571.cell? ⟨gb207,5,none⟩ = some (.int .i64 a0_5) := (zb BK207.out 5).trans rfl;have hfzQC98A579 := za BK207.out 0;have hfzQC98A5710 := za BK207.out 1;have hfzQC98A5711 := za BK207.out 2;have hfzQC98A5712 := za BK207.out 3;have hfzQC98A5713 := za BK207.out 4;have hfzQC98A5714 := za BK207.out 5)) | (have _ := EQ1;(go_at_call 99;(with_reducible refine (zal.calls a0_1 true _ A58.out).mono ?_);rintro e w' ⟨rfl,⟨nd,rfl⟩⟩;(try first | exact ⟨rfl,_,World.drewN_drewN _ _ _⟩ | exact ⟨rfl,_,Eq.trans (World.drewN_drewN _ _ _) (congrArg (World.drewN _) (Nat.add_assoc _ _ _))⟩))) | (have _ := EQ2;(go_at_call 99;(with_reducible refine (zal.calls a0_1 false _ A58.out).mono ?_);rintro e w' ⟨rfl,⟨nd,rfl⟩⟩;(try first | exact ⟨rfl,_,World.drewN_drewN _ _ _⟩ | exact ⟨rfl,_,Eq.trans (World.drewN_drewN _ _ _) (congrArg (World.drewN _) (Nat.add_assoc _ _ _))⟩))) | (have _ := EQ3;(go_at_call 98;(with_reducible refine (zau.calls a0_4 a0_5 false _ A57.out).mono ?_);rintro e wQC98A571 ⟨rfl,hb⟩;have n0_ := zc.mk (zh (g := gb207) (o := .cells #[.int .i64 a0_0,.int .i64 a0_1,.slice A0_2 l0_2.length c0_2,.slice A0_3 l0_3.length c0_3,.int .i64 a0_4,.int .i64 a0_5] 28 (0,0)) (hGq BK207.out) hb);have n1_ := zc.mk (zj hCq hb);clear BK207;clear HB;have BK207 := n0_;have HB := n1_;clear n0_ n1_;(try clear hb);(try clear hb2);(try clear hk);(try clear hi);have hczQC98A573 : wQC98A571.cell? ⟨gb207,0,none⟩ = some (.int .i64 a0_0) := (zb BK207.out 0).trans rfl;have hczQC98A574 : wQC98A571.cell? ⟨gb207,1,none⟩ = some (.int .i64 a0_1) := (zb BK207.out 1).trans rfl;have hczQC98A575 : wQC98A571.cell? ⟨gb207,2,none⟩ = some (.slice A0_2 l0_2.length c0_2) := (zb BK207.out 2).trans rfl;have hczQC98A576 : wQC98A571.cell? ⟨gb207,3,none⟩ = some (.slice A0_3 l0_3.length c0_3) := (zb BK207.out 3).trans rfl;have hczQC98A577 : wQC98A571.cell? ⟨gb207,4,none⟩ = some (.int .i64 a0_4) := (zb BK207.out 4).trans rfl;have hczQC98A578 : wQC98A571.cell? ⟨gb207,5,none⟩ = some (.int .i64 a0_5) := (zb BK207.out 5).trans rfl;have hfzQC98A579 := za BK207.out 0;have hfzQC98A5710 := za BK207.out 1;have hfzQC98A5711 := za BK207.out 2;have hfzQC98A5712 := za BK207.out 3;have hfzQC98A5713 := za BK207.out 4;have hfzQC98A5714 := za BK207.out 5)) | (have _ := EQ3;(go_at_call 99;(with_reducible refine (zal.calls a0_1 t214 _ A58.out).mono ?_);rintro e w' ⟨rfl,⟨nd,rfl⟩⟩;(try first | exact ⟨rfl,_,World.drewN_drewN _ _ _⟩ | exact ⟨rfl,_,Eq.trans (World.drewN_drewN _ _ _) (congrArg (World.drewN _) (Nat.add_assoc _ _ _))⟩))))
                 first | (have _ := EQ1;repeat (go_quiet (first | (go_at_call 98;(with_reducible refine (zau.calls a0_4 a0_5 true _ A57.out).mono ?_);rintro e wQC98A571 ⟨rfl,hb⟩;have n0_ := zc.mk (zh (g := gb207) (o := .cells #[.int .i64 a0_0,.int .i64 a0_1,.slice A0_2 l0_2.length c0_2,.slice A0_3 l0_3.length c0_3,.int .i64 a0_4,.int .i64 a0_5] 28 (0,0)) (hGq BK207.out) hb);have n1_ := zc.mk (zj hCq hb);clear BK207;clear HB;have BK207 := n0_;have HB := n1_;clear n0_ n1_;(try clear hb);(try clear hb2);(try clear hk);(try clear hi);have hczQC98A573 : wQC98A571.cell? ⟨gb207,0,none⟩ = some (.int .i64 a0_0) := (zb BK207.out 0).trans rfl;have hczQC98A574 : wQC98A571.cell? ⟨gb207,1,none⟩ = some (.int .i64 a0_1) := (zb BK207.out 1).trans rfl;have hczQC98A575 : wQC98A571.cell? ⟨gb207,2,none⟩ = some (.slice A0_2 l0_2.length c0_2) := (zb BK207.out 2).trans rfl;have hczQC98A576 : wQC98A571.cell? ⟨gb207,3,none⟩ = some (.slice A0_3 l0_3.length c0_3) := (zb BK207.out 3).trans rfl;have hczQC98A577 : wQC98A571.cell? ⟨gb207,4,none⟩ = some (.int .i64 a0_4) := (zb BK207.out 4).trans rfl;have hczQC98A578 : wQC98A571.cell? ⟨gb207,5,none⟩ = some (.int .i64 a0_5) := (zb BK207.out 5).trans rfl;have hfzQC98A579 := za BK207.out 0;have hfzQC98A5710 := za BK207.out 1;have hfzQC98A5711 := za BK207.out 2;have hfzQC98A5712 := za BK207.out 3;have hfzQC98A5713 := za BK207.out 4;have hfzQC98A5714 := za BK207.out 5) | (go_at_call 99;(with_reducible refine (zal.calls a0_1 true _ A58.out).mono ?_);rintro e w' ⟨rfl,⟨nd,rfl⟩⟩;(try first | exact ⟨rfl,_,World.drewN_drewN _ _ _⟩ | exact ⟨rfl,_,Eq.trans (World.drewN_drewN _ _ _) (congrArg (World.drewN _) (Nat.add_assoc _ _ _))⟩)));try go_wp2_with (first | (go_at_call 98;(with_reducible refine (zau.calls a0_4 a0_5 true _ A57.out).mono ?_);rintro e wQC98A571 ⟨rfl,hb⟩;have n0_ := zc.mk (zh (g := gb207) (o := .cells #[.int .i64 a0_0,.int .i64 a0_1,.slice A0_2 l0_2.length c0_2,.slice A0_3 l0_3.length c0_3,.int .i64 a0_4,.int .i64 a0_5] 28 (0,0)) (hGq BK207.out) hb);have n1_ := zc.mk (zj hCq hb);clear BK207;clear HB;have BK207 := n0_;have HB := n1_;clear n0_ n1_;(try clear hb);(try clear hb2);(try clear hk);(try clear hi);have hczQC98A573 : wQC98A571.cell? ⟨gb207,0,none⟩ = some (.int .i64 a0_0) := (zb BK207.out 0).trans rfl;have hczQC98A574 : wQC98A571.cell? ⟨gb207,1,none⟩ = some (.int .i64 a0_1) := (zb BK207.out 1).trans rfl;have hczQC98A575 : wQC98A571.cell? ⟨gb207,2,none⟩ = some (.slice A0_2 l0_2.length c0_2) := (zb BK207.out 2).trans rfl;have hczQC98A576 : wQC98A571.cell? ⟨gb207,3,none⟩ = some (.slice A0_3 l0_3.length c0_3) := (zb BK207.out 3).trans rfl;have hczQC98A577 : wQC98A571.cell? ⟨gb207,4,none⟩ = some (.int .i64 a0_4) := (zb BK207.out 4).trans rfl;have hczQC98A578 : wQC98A571.cell? ⟨gb207,5,none⟩ = some (.int .i64 a0_5) := (zb BK207.out 5).trans rfl;have hfzQC98A579 := za BK207.out 0;have hfzQC98A5710 := za BK207.out 1;have hfzQC98A5711 := za BK207.out 2;have hfzQC98A5712 := za BK207.out 3;have hfzQC98A5713 := za BK207.out 4;have hfzQC98A5714 := za BK207.out 5) | (go_at_call 99;(with_reducible refine (zal.calls a0_1 true _ A58.out).mono ?_);rintro e w' ⟨rfl,⟨nd,rfl⟩⟩;(try first | exact ⟨rfl,_,World.drewN_drewN _ _ _⟩ | exact ⟨rfl,_,Eq.trans (World.drewN_drewN _ _ _) (congrArg (World.drewN _) (Nat.add_assoc _ _ _))⟩))))) | (have _ := EQ2;repeat (go_quiet (first | (go_at_call 98;(with_reducible refine (zau.calls a0_4 a0_5 true _ A57.out).mono ?_);rintro e wQC98A571 ⟨rfl,hb⟩;have n0_ := zc.mk (zh (g := gb207) (o := .cells #[.int .i64 a0_0,.int .i64 a0_1,.slice A0_2 l0_2.length c0_2,.slice A0_3 l0_3.length c0_3,.int .i64 a0_4,.int .i64 a0_5] 28 (0,0)) (hGq BK207.out) hb);have n1_ := zc.mk (zj hCq hb);clear BK207;clear HB;have BK207 := n0_;have HB := n1_;clear n0_ n1_;(try clear hb);(try clear hb2);(try clear hk);(try clear hi);have hczQC98A573 : wQC98A571.cell? ⟨gb207,0,none⟩ = some (.int .i64 a0_0) := (zb BK207.out 0).trans rfl;have hczQC98A574 : wQC98A571.cell? ⟨gb207,1,none⟩ = some (.int .i64 a0_1) := (zb BK207.out 1).trans rfl;have hczQC98A575 : wQC98A571.cell? ⟨gb207,2,none⟩ = some (.slice A0_2 l0_2.length c0_2) := (zb BK207.out 2).trans rfl;have hczQC98A576 : wQC98A571.cell? ⟨gb207,3,none⟩ = some (.slice A0_3 l0_3.length c0_3) := (zb BK207.out 3).trans rfl;have hczQC98A577 : wQC98A571.cell? ⟨gb207,4,none⟩ = some (.int .i64 a0_4) := (zb BK207.out 4).trans rfl;have hczQC98A578 : wQC98A571.cell? ⟨gb207,5,none⟩ = some (.int .i64 a0_5) := (zb BK207.out 5).trans rfl;have hfzQC98A579 := za BK207.out 0;have hfzQC98A5710 := za BK207.out 1;have hfzQC98A5711 := za BK207.out 2;have hfzQC98A5712 := za BK207.out 3;have hfzQC98A5713 := za BK207.out 4;have hfzQC98A5714 := za BK207.out 5) | (go_at_call 99;(with_reducible refine (zal.calls a0_1 false _ A58.out).mono ?_);rintro e w' ⟨rfl,⟨nd,rfl⟩⟩;(try first | exact ⟨rfl,_,World.drewN_drewN _ _ _⟩ | exact ⟨rfl,_,Eq.trans (World.drewN_drewN _ _ _) (congrArg (World.drewN _) (Nat.add_assoc _ _ _))⟩)));try go_wp2_with (first | (go_at_call 98;(with_reducible refine (zau.calls a0_4 a0_5 true _ A57.out).mono ?_);rintro e wQC98A571 ⟨rfl,hb⟩;have n0_ := zc.mk (zh (g := gb207) (o := .cells #[.int .i64 a0_0,.int .i64 a0_1,.slice A0_2 l0_2.length c0_2,.slice A0_3 l0_3.length c0_3,.int .i64 a0_4,.int .i64 a0_5] 28 (0,0)) (hGq BK207.out) hb);have n1_ := zc.mk (zj hCq hb);clear BK207;clear HB;have BK207 := n0_;have HB := n1_;clear n0_ n1_;(try clear hb);(try clear hb2);(try clear hk);(try clear hi);have hczQC98A573 : wQC98A571.cell? ⟨gb207,0,none⟩ = some (.int .i64 a0_0) := (zb BK207.out 0).trans rfl;have hczQC98A574 : wQC98A571.cell? ⟨gb207,1,none⟩ = some (.int .i64 a0_1) := (zb BK207.out 1).trans rfl;have hczQC98A575 : wQC98A571.cell? ⟨gb207,2,none⟩ = some (.slice A0_2 l0_2.length c0_2) := (zb BK207.out 2).trans rfl;have hczQC98A576 : wQC98A571.cell? ⟨gb207,3,none⟩ = some (.slice A0_3 l0_3.length c0_3) := (zb BK207.out 3).trans rfl;have hczQC98A577 : wQC98A571.cell? ⟨gb207,4,none⟩ = some (.int .i64 a0_4) := (zb BK207.out 4).trans rfl;have hczQC98A578 : wQC98A571.cell? ⟨gb207,5,none⟩ = some (.int .i64 a0_5) := (zb BK207.out 5).trans rfl;have hfzQC98A579 := za BK207.out 0;have hfzQC98A5710 := za BK207.out 1;have hfzQC98A5711 := za BK207.out 2;have hfzQC98A5712 := za BK207.out 3;have hfzQC98A5713 := za BK207.out 4;have hfzQC98A5714 := za BK207.out 5) | (go_at_call 99;(with_reducible refine (zal.calls a0_1 false _ A58.out).mono ?_);rintro e w' ⟨rfl,⟨nd,rfl⟩⟩;(try first | exact ⟨rfl,_,World.drewN_drewN _ _ _⟩ | exact ⟨rfl,_,Eq.trans (World.drewN_drewN _ _ _) (congrArg (World.drewN _) (Nat.add_assoc _ _ _))⟩))))) | (have _ := EQ3;repeat (go_quiet (first | (go_at_call 98;(with_reducible refine (zau.calls a0_4 a0_5 false _ A57.out).mono ?_);rintro e wQC98A571 ⟨rfl,hb⟩;have n0_ := zc.mk (zh (g := gb207) (o := .cells #[.int .i64 a0_0,.int .i64 a0_1,.slice A0_2 l0_2.length c0_2,.slice A0_3 l0_3.length c0_3,.int .i64 a0_4,.int .i64 a0_5] 28 (0,0)) (hGq BK207.out) hb);have n1_ := zc.mk (zj hCq hb);clear BK207;clear HB;have BK207 := n0_;have HB := n1_;clear n0_ n1_;(try clear hb);(try clear hb2);(try clear hk);(try clear hi);have hczQC98A573 : wQC98A571.cell? ⟨gb207,0,none⟩ = some (.int .i64 a0_0) := (zb BK207.out 0).trans rfl;have hczQC98A574 : wQC98A571.cell? ⟨gb207,1,none⟩ = some (.int .i64 a0_1) := (zb BK207.out 1).trans rfl;have hczQC98A575 : wQC98A571.cell? ⟨gb207,2,none⟩ = some (.slice A0_2 l0_2.length c0_2) := (zb BK207.out 2).trans rfl;have hczQC98A576 : wQC98A571.cell? ⟨gb207,3,none⟩ = some (.slice A0_3 l0_3.length c0_3) := (zb BK207.out 3).trans rfl;have hczQC98A577 : wQC98A571.cell? ⟨gb207,4,none⟩ = some (.int .i64 a0_4) := (zb BK207.out 4).trans rfl;have hczQC98A578 : wQC98A571.cell? ⟨gb207,5,none⟩ = some (.int .i64 a0_5) := (zb BK207.out 5).trans rfl;have hfzQC98A579 := za BK207.out 0;have hfzQC98A5710 := za BK207.out 1;have hfzQC98A5711 := za BK207.out 2;have hfzQC98A5712 := za BK207.out 3;have hfzQC98A5713 := za BK207.out 4;have hfzQC98A5714 := za BK207.out 5) | (go_at_call 99;(with_reducible refine (zal.calls a0_1 t214 _ A58.out).mono ?_);rintro e w' ⟨rfl,⟨nd,rfl⟩⟩;(try first | exact ⟨rfl,_,World.drewN_drewN _ _ _⟩ | exact ⟨rfl,_,Eq.trans (World.drewN_drewN _ _ _) (congrArg (World.drewN _) (Nat.add_assoc _ _ _))⟩)));try go_wp2_with (first | (go_at_call 98;(with_reducible refine (zau.calls a0_4 a0_5 false _ A57.out).mono ?_);rintro e wQC98A571 ⟨rfl,hb⟩;have n0_ := zc.mk (zh (g := gb207) (o := .cells #[.int .i64 a0_0,.int .i64 a0_1,.slice A0_2 l0_2.length c0_2,.slice A0_3 l0_3.length c0_3,.int .i64 a0_4,.int .i64 a0_5] 28 (0,0)) (hGq BK207.out) hb);have n1_ := zc.mk (zj hCq hb);clear BK207;clear HB;have BK207 := n0_;have HB := n1_;clear n0_ n1_;(try clear hb);(try clear hb2);(try clear hk);(try clear hi);have hczQC98A573 : wQC98A571.cell? ⟨gb207,0,none⟩ = some (.int .i64 a0_0) := (zb BK207.out 0).trans rfl;have hczQC98A574 : wQC98A571.cell? ⟨gb207,1,none⟩ = some (.int .i64 a0_1) := (zb BK207.out 1).trans rfl;have hczQC98A575 : wQC98A571.cell? ⟨gb207,2,none⟩ = some (.slice A0_2 l0_2.length c0_2) := (zb BK207.out 2).trans rfl;have hczQC98A576 : wQC98A571.cell? ⟨gb207,3,none⟩ = some (.slice A0_3 l0_3.length c0_3) := (zb BK207.out 3).trans rfl;have hczQC98A577 : wQC98A571.cell? ⟨gb207,4,none⟩ = some (.int .i64 a0_4) := (zb BK207.out 4).trans rfl;have hczQC98A578 : wQC98A571.cell? ⟨gb207,5,none⟩ = some (.int .i64 a0_5) := (zb BK207.out 5).trans rfl;have hfzQC98A579 := za BK207.out 0;have hfzQC98A5710 := za BK207.out 1;have hfzQC98A5711 := za BK207.out 2;have hfzQC98A5712 := za BK207.out 3;have hfzQC98A5713 := za BK207.out 4;have hfzQC98A5714 := za BK207.out 5) | (go_at_call 99;(with_reducible refine (zal.calls a0_1 t214 _ A58.out).mono ?_);rintro e w' ⟨rfl,⟨nd,rfl⟩⟩;(try first | exact ⟨rfl,_,World.drewN_drewN _ _ _⟩ | exact ⟨rfl,_,Eq.trans (World.drewN_drewN _ _ _) (congrArg (World.drewN _) (Nat.add_assoc _ _ _))⟩)))))
                 go_ret
                 exact ⟨hHq,hCq⟩
end Go.Proofs.Ytgdpiegkoeikiaa.Px