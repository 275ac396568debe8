/- Part 14 of 35 of the proof of the law PostTakes: what is proved is the statement at the end of the last part; its conditions are those of the given row. -/
import Derived.Test.YtgdpiegkoeikiaaZPostTakesD
namespace Go.Proofs.Ytgdpiegkoeikiaa.Px
open Go.RowKit Go.Proofs.YtgdpiegkoeikiaaW.PrintWords Go.Proofs.YtgdpiegkoeikiaaW.PrintLast Go.Proofs.YtgdpiegkoeikiaaW.PrintMore
attribute [local go_sem] zF zH zQ zR zy zz zG zI
set_option linter.unusedVariables false
set_option linter.unusedSimpArgs false
mutual
def zB.j0 : Nat → Bool → Int → Int → List ByteArray → Option (Bool)
 | 0,_,_,_,_ => none
 | k + 1,x33,x189000,x189001,x189002 => if x33 = true then (some false) else (zB.l0 k 0 x189000 x189001 x189002)
def zB.l0 : Nat → Int → Int → Int → List ByteArray → Option (Bool)
 | 0,_,_,_,_ => none
 | k + 1,x3,x189000,x189001,x189002 => if x3 < (x189002.length : Int) then (if 0 ≤ x3 then (if ((zaF ByteArray.empty x189002 x3).size : Int) < 1 then (some false) else (if ((zaF ByteArray.empty x189002 x3).size : Int) > 48 then (some false) else (zB.l0 k (wrap64 (x3 + 1)) x189000 x189001 x189002))) else (none)) else (some true)
end
def zB.f (k : Nat) (a0_0 : Int) (a0_1 : Int) (l0_2 : List ByteArray) : Option (Bool) := if a0_0 < 1 then (zB.j0 k true a0_0 a0_1 l0_2) else (if a0_0 > 64 then (zB.j0 k true a0_0 a0_1 l0_2) else (if a0_1 < 1 then (zB.j0 k true a0_0 a0_1 l0_2) else (if a0_1 > 1073741824 then (zB.j0 k true a0_0 a0_1 l0_2) else (if (l0_2.length : Int) < 1 then (zB.j0 k true a0_0 a0_1 l0_2) else (zB.j0 k (decide ((l0_2.length : Int) > 4)) a0_0 a0_1 l0_2)))))
set_option maxHeartbeats 8000000 in
set_option maxRecDepth 100000 in
theorem zB.calls (k : Nat) (a0_0 : Int) (a0_1 : Int) (A0_2 : Option Addr) (c0_2 : Nat) (l0_2 : List ByteArray) (r : Bool) (w : World) (hr0_2 : Kd.C Kd.string w A0_2 l0_2.length l0_2) (hc0_2 : l0_2.length ≤ c0_2) (h : zB.f k a0_0 a0_1 l0_2 = some r) :
  Calls Try.prog 94 #[.agg #[.int .i64 a0_0,.int .i64 a0_1,.slice A0_2 l0_2.length c0_2]] w fun e w' => e = .returned (.bool r) ∧ Below w.heap.size w w' := by
 have hu107 := Try.underlying107
 have HR0_2 := zc.mk hr0_2
 have HC0_2 := zc.mk hc0_2
 clear hr0_2 hc0_2
 have HB := zc.mk (Below.refl w.heap.size w)
 have H : (if a0_0 < 1 then (zB.j0 k true a0_0 a0_1 l0_2) else (if a0_0 > 64 then (zB.j0 k true a0_0 a0_1 l0_2) else (if a0_1 < 1 then (zB.j0 k true a0_0 a0_1 l0_2) else (if a0_1 > 1073741824 then (zB.j0 k true a0_0 a0_1 l0_2) else (if (l0_2.length : Int) < 1 then (zB.j0 k true a0_0 a0_1 l0_2) else (zB.j0 k (decide ((l0_2.length : Int) > 4)) a0_0 a0_1 l0_2)))))) = some r := h
 clear h
 have HC2 := zc.mk H
 clear H
 go_enter Try.func94,Try.ntmps94
 go_upto_region 1 with (first | ((with_reducible refine zu (N := 1) rfl ?_);(try (refine zaX (by rfl) ?_;dsimp only));refine zr ?hg (N := 1) ?hd (cs := #[.int .i64 a0_0,.int .i64 a0_1,.slice A0_2 l0_2.length c0_2]) (t := 107) ?hr ?_;(case hd => rfl);(case hg => rfl);(case hr => first | (go_simp;done) | (go_simp;rfl));intro gb188 hg w3 hbox hb;have n0_ := zc.mk (zj hBq hb);have n1_ := zc.mk (hbox);have n2_ := zc.mk ((by rw [hg];exact (zl hBq) : w.heap.size ≤ gb188));have n3_ := zc.mk ((by rw [hg];exact (zl hBq) : w.heap.size ≤ gb188));clear HB;have HB := n0_;have BK188 := n1_;have GW188 := n2_;have GE188 := n3_;clear n0_ n1_ n2_ n3_;clear hb hbox hg))
 (try simp only [Act.put,List.setIfInBounds_toArray,List.set_cons_zero,List.set_cons_succ])
 go_cut [33] (fun v33 wc => ∃ (kq : Nat) (x33_1 : Bool),v33 = .bool x33_1 ∧ zc (zB.j0 kq x33_1 a0_0 a0_1 l0_2 = some r) ∧ zc (kq ≤ k) ∧ zc (wc.heap[gb188]? = some (.cells #[.int .i64 a0_0,.int .i64 a0_1,(.slice A0_2 l0_2.length c0_2)] 107 (0,0))) ∧ zc (Below w.heap.size w wc))
 case first =>
  have H := HC2.out
  clear HC2
  by_cases c4 : a0_0 < 1
  ·rw [if_pos c4] at H
   have c4b0 : decide (a0_0 < 1) = true := decide_eq_true c4
   clear c4
   (first | rw [c4b0] | (simp only [zan,zaq];rw [c4b0]) | skip)
   have H' := zc.mk H
   clear H
   have hcz5_0 : w3.cell? ⟨gb188,0,none⟩ = some (.int .i64 a0_0) := (zb BK188.out 0).trans rfl
   have hcz5_1 : w3.cell? ⟨gb188,1,none⟩ = some (.int .i64 a0_1) := (zb BK188.out 1).trans rfl
   have hcz5_2 : w3.cell? ⟨gb188,2,none⟩ = some (.slice A0_2 l0_2.length c0_2) := (zb BK188.out 2).trans rfl
   have hfz5_0 := za BK188.out 0
   have hfz5_1 := za BK188.out 1
   have hfz5_2 := za BK188.out 2
   go_wp2
   go_meet
   case rel => exact ⟨_,(true),(hDq),H',⟨by first | omega | exact Nat.le_refl _⟩,⟨hGq BK188.out⟩,⟨by repeat (first | (with_reducible first | exact HB.out | apply zA | apply zm | apply zJ | refine zg ?_ GE188.out) | exact HB.out)⟩⟩
  ·rw [if_neg c4] at H
   have c4b0 : decide (a0_0 < 1) = false := decide_eq_false c4
   clear c4
   (first | rw [c4b0] | (simp only [zan,zaq];rw [c4b0]) | skip)
   by_cases c6 : a0_0 > 64
   ·rw [if_pos c6] at H
    have c6b0 : decide (64 < a0_0) = true := decide_eq_true c6
    clear c6
    have H' := zc.mk H
    clear H
    have hcz7_0 : w3.cell? ⟨gb188,0,none⟩ = some (.int .i64 a0_0) := (zb BK188.out 0).trans rfl
    have hcz7_1 : w3.cell? ⟨gb188,1,none⟩ = some (.int .i64 a0_1) := (zb BK188.out 1).trans rfl
    have hcz7_2 : w3.cell? ⟨gb188,2,none⟩ = some (.slice A0_2 l0_2.length c0_2) := (zb BK188.out 2).trans rfl
    have hfz7_0 := za BK188.out 0
    have hfz7_1 := za BK188.out 1
    have hfz7_2 := za BK188.out 2
    go_wp2
    go_meet
    case rel => exact ⟨_,(true),(hDq),H',⟨by first | omega | exact Nat.le_refl _⟩,⟨hGq BK188.out⟩,⟨by repeat (first | (with_reducible first | exact HB.out | apply zA | apply zm | apply zJ | refine zg ?_ GE188.out) | exact HB.out)⟩⟩
   ·rw [if_neg c6] at H
    have c6b0 : decide (64 < a0_0) = false := decide_eq_false c6
    clear c6
    by_cases c8 : a0_1 < 1
    ·rw [if_pos c8] at H
     have c8b0 : decide (a0_1 < 1) = true := decide_eq_true c8
     clear c8
     have H' := zc.mk H
     clear H
     have hcz9_0 : w3.cell? ⟨gb188,0,none⟩ = some (.int .i64 a0_0) := (zb BK188.out 0).trans rfl
     have hcz9_1 : w3.cell? ⟨gb188,1,none⟩ = some (.int .i64 a0_1) := (zb BK188.out 1).trans rfl
     have hcz9_2 : w3.cell? ⟨gb188,2,none⟩ = some (.slice A0_2 l0_2.length c0_2) := (zb BK188.out 2).trans rfl
     have hfz9_0 := za BK188.out 0
     have hfz9_1 := za BK188.out 1
     have hfz9_2 := za BK188.out 2
     go_wp2
     go_meet
     case rel => exact ⟨_,(true),(hDq),H',⟨by first | omega | exact Nat.le_refl _⟩,⟨hGq BK188.out⟩,⟨by repeat (first | (with_reducible first | exact HB.out | apply zA | apply zm | apply zJ | refine zg ?_ GE188.out) | exact HB.out)⟩⟩
    ·rw [if_neg c8] at H
     have c8b0 : decide (a0_1 < 1) = false := decide_eq_false c8
     clear c8
     by_cases c10 : a0_1 > 1073741824
     ·rw [if_pos c10] at H
      have c10b0 : decide (1073741824 < a0_1) = true := decide_eq_true c10
      clear c10
      have H' := zc.mk H
      clear H
      have hcz11_0 : w3.cell? ⟨gb188,0,none⟩ = some (.int .i64 a0_0) := (zb BK188.out 0).trans rfl
      have hcz11_1 : w3.cell? ⟨gb188,1,none⟩ = some (.int .i64 a0_1) := (zb BK188.out 1).trans rfl
      have hcz11_2 : w3.cell? ⟨gb188,2,none⟩ = some (.slice A0_2 l0_2.length c0_2) := (zb BK188.out 2).trans rfl
      have hfz11_0 := za BK188.out 0
      have hfz11_1 := za BK188.out 1
      have hfz11_2 := za BK188.out 2
      go_wp2
      go_meet
      case rel => exact ⟨_,(true),(hDq),H',⟨by first | omega | exact Nat.le_refl _⟩,⟨hGq BK188.out⟩,⟨by repeat (first | (with_reducible first | exact HB.out | apply zA | apply zm | apply zJ | refine zg ?_ GE188.out) | exact HB.out)⟩⟩
     ·rw [if_neg c10] at H
      have c10b0 : decide (1073741824 < a0_1) = false := decide_eq_false c10
      clear c10
      by_cases c12 : (l0_2.length : Int) < 1
      ·rw [if_pos c12] at H
       have c12b0 : decide ((l0_2.length : Int) < 1) = true := decide_eq_true c12
       have c12b1 : decide (l0_2.length < 1) = true := decide_eq_true (by omega)
       clear c12
       have H' := zc.mk H
       clear H
       have hcz13_0 : w3.cell? ⟨gb188,0,none⟩ = some (.int .i64 a0_0) := (zb BK188.out 0).trans rfl
       have hcz13_1 : w3.cell? ⟨gb188,1,none⟩ = some (.int .i64 a0_1) := (zb BK188.out 1).trans rfl
       have hcz13_2 : w3.cell? ⟨gb188,2,none⟩ = some (.slice A0_2 l0_2.length c0_2) := (zb BK188.out 2).trans rfl
       have hfz13_0 := za BK188.out 0
       have hfz13_1 := za BK188.out 1
       have hfz13_2 := za BK188.out 2
       go_wp2
       go_meet
       case rel => exact ⟨_,(true),(hDq),H',⟨by first | omega | exact Nat.le_refl _⟩,⟨hGq BK188.out⟩,⟨by repeat (first | (with_reducible first | exact HB.out | apply zA | apply zm | apply zJ | refine zg ?_ GE188.out) | exact HB.out)⟩⟩
      ·rw [if_neg c12] at H
       have c12b0 : decide ((l0_2.length : Int) < 1) = false := decide_eq_false c12
       have c12b1 : decide (l0_2.length < 1) = false := decide_eq_false (by omega)
       clear c12
       have H' := zc.mk H
       clear H
       have hcz14_0 : w3.cell? ⟨gb188,0,none⟩ = some (.int .i64 a0_0) := (zb BK188.out 0).trans rfl
       have hcz14_1 : w3.cell? ⟨gb188,1,none⟩ = some (.int .i64 a0_1) := (zb BK188.out 1).trans rfl
       have hcz14_2 : w3.cell? ⟨gb188,2,none⟩ = some (.slice A0_2 l0_2.length c0_2) := (zb BK188.out 2).trans rfl
       have hfz14_0 := za BK188.out 0
       have hfz14_1 := za BK188.out 1
       have hfz14_2 := za BK188.out 2
       go_wp2
       go_meet
       case rel => exact ⟨_,(decide ((l0_2.length : Int) > 4)),(hDq),H',⟨by first | omega | exact Nat.le_refl _⟩,⟨hGq BK188.out⟩,⟨by repeat (first | (with_reducible first | exact HB.out | apply zA | apply zm | apply zJ | refine zg ?_ GE188.out) | exact HB.out)⟩⟩
 case rest =>
  clear HC2
  try clear c1
  try clear p2
  try clear c4
  try clear c4b0
  try clear c6
  try clear c6b0
  try clear c8
  try clear c8b0
  try clear c9
  try clear c10
  try clear c10b0
  try clear c12
  try clear c12b0
  try clear c12b1
  try clear hcz11_0
  try clear hcz11_1
  try clear hcz11_2
  try clear hcz13_0
  try clear hcz13_1
  try clear hcz13_2
  try clear hcz14_0
  try clear hcz14_1
  try clear hcz14_2
  try clear hcz5_0
  try clear hcz5_1
  try clear hcz5_2
  try clear hcz7_0
  try clear hcz7_1
  try clear hcz7_2
  try clear hcz9_0
  try clear hcz9_1
  try clear hcz9_2
  try clear hfz11_0
  try clear hfz11_1
  try clear hfz11_2
  try clear hfz13_0
  try clear hfz13_1
  try clear hfz13_2
  try clear hfz14_0
  try clear hfz14_1
  try clear hfz14_2
  try clear hfz5_0
  try clear hfz5_1
  try clear hfz5_2
  try clear hfz7_0
  try clear hfz7_1
  try clear hfz7_2
  try clear hfz9_0
  try clear hfz9_1
  try clear hfz9_2
  obtain ⟨kq,x33_1,rfl,HA,HJ1,BK188,HB⟩ := hcut
  cases kq with
  | zero => exact absurd HA.out (by simp [zB.j0])
  | succ kj1 =>
   have H := HA.out
   clear HA
   simp only [zB.j0] at H
   by_cases c15 : x33_1 = true
   ·subst c15
    have H1 : (some false) = some r := by rw [if_pos rfl] at H;exact H
    clear H
    have H := H1
    clear H1
    obtain rfl := Option.some.inj H
    go_wp2
    go_ret
    exact ⟨hHq,hCq⟩
   ·replace c15 := Bool.eq_false_iff.mpr c15
    subst c15
    have H1 : (zB.l0 kj1 0 a0_0 a0_1 l0_2) = some r := by rw [if_neg (show ¬ (false = true) by decide)] at H;exact H
    clear H
    have H := H1
    clear H1
    have H' := zc.mk H
    clear H
    go_wp2
    go_loopg [3] kj1 (fun kq v3 w' => ∃ (x3_2 : Int),v3 = .int .i64 x3_2 ∧ zc (zB.l0 kq x3_2 a0_0 a0_1 l0_2 = some r) ∧ zc (kq ≤ kj1) ∧ zc (w'.heap[gb188]? = some (.cells #[.int .i64 a0_0,.int .i64 a0_1,(.slice A0_2 l0_2.length c0_2)] 107 (0,0))) ∧ zc (Below w.heap.size w w'))
    case atStart => exact ⟨(0),(hDq),H',⟨Nat.le_refl _⟩,⟨hGq BK188.out⟩,⟨by repeat (first | (with_reducible first | exact HB.out | apply zA | apply zm | apply zJ | refine zg ?_ GE188.out) | exact HB.out)⟩⟩
    case round =>
     clear H'
     try clear c1
     try clear p2
     try clear c4
     try clear c4b0
     try clear c6
     try clear c6b0
     try clear c8
     try clear c8b0
     try clear c9
     try clear c10
     try clear c10b0
     try clear c12
     try clear c12b0
     try clear c12b1
     try clear c15
     try clear hcz11_0
     try clear hcz11_1
     try clear hcz11_2
     try clear hcz13_0
     try clear hcz13_1
     try clear hcz13_2
     try clear hcz14_0
     try clear hcz14_1
     try clear hcz14_2
     try clear hcz5_0
     try clear hcz5_1
     try clear hcz5_2
     try clear hcz7_0
     try clear hcz7_1
     try clear hcz7_2
     try clear hcz9_0
     try clear hcz9_1
     try clear hcz9_2
     try clear hfz11_0
     try clear hfz11_1
     try clear hfz11_2
     try clear hfz13_0
     try clear hfz13_1
     try clear hfz13_2
     try clear hfz14_0
     try clear hfz14_1
     try clear hfz14_2
     try clear hfz5_0
     try clear hfz5_1
     try clear hfz5_2
     try clear hfz7_0
     try clear hfz7_1
     try clear hfz7_2
     try clear hfz9_0
     try clear hfz9_1
     try clear hfz9_2
     try clear p2
     obtain ⟨x3_2,rfl,HA,HK2,BK188,HB⟩ := hrel
     cases gk with
     | zero => exact absurd HA.out (by simp [zB.l0])
     | succ k2 =>
      have H := HA.out
      clear HA
      simp only [zB.l0] at H
      by_cases c16 : x3_2 < (l0_2.length : Int)
      ·rw [if_pos c16] at H
       have c16b0 : decide (x3_2 < (l0_2.length : Int)) = true := decide_eq_true c16
       clear c16
       by_cases c17 : 0 ≤ x3_2
       ·rw [if_pos c17] at H
        have c17b0 : decide (0 ≤ x3_2) = true := decide_eq_true c17
        clear c17
        by_cases c18 : ((zaF ByteArray.empty l0_2 x3_2).size : Int) < 1
        ·rw [if_pos c18] at H
         have c18b0 : decide (((zaF ByteArray.empty l0_2 x3_2).size : Int) < 1) = true := decide_eq_true c18
         have c18b1 : decide ((zaF ByteArray.empty l0_2 x3_2).size < 1) = true := decide_eq_true (by omega)
         clear c18
         obtain rfl := Option.some.inj H
         have hcz19_0 : wr.cell? ⟨gb188,0,none⟩ = some (.int .i64 a0_0) := (zb BK188.out 0).trans rfl
         have hcz19_1 : wr.cell? ⟨gb188,1,none⟩ = some (.int .i64 a0_1) := (zb BK188.out 1).trans rfl
         have hcz19_2 : wr.cell? ⟨gb188,2,none⟩ = some (.slice A0_2 l0_2.length c0_2) := (zb BK188.out 2).trans rfl
         have hfz19_0 := za BK188.out 0
         have hfz19_1 := za BK188.out 1
         have hfz19_2 := za BK188.out 2
         have p189 : 0 ≤ (x3_2 : Int) := hFq
         have q189 : x3_2 < (l0_2.length : Int) := hFq
         obtain ⟨ad189,e189,hx189_0⟩ := Kd.at_string HR0_2.out x3_2 p189 q189
         cases e189
         replace hx189_0 := (HB.out.cell (World.block_lt_of_cell? w _ hx189_0)).trans hx189_0
         replace p189 := eq_true p189
         replace q189 := eq_true q189
         go_wp2
         go_ret
         exact ⟨hHq,hCq⟩
        ·rw [if_neg c18] at H
         have c18b0 : decide (((zaF ByteArray.empty l0_2 x3_2).size : Int) < 1) = false := decide_eq_false c18
         have c18b1 : decide ((zaF ByteArray.empty l0_2 x3_2).size < 1) = false := decide_eq_false (by omega)
         clear c18
         by_cases c20 : ((zaF ByteArray.empty l0_2 x3_2).size : Int) > 48
         ·rw [if_pos c20] at H
          have c20b0 : decide (48 < ((zaF ByteArray.empty l0_2 x3_2).size : Int)) = true := decide_eq_true c20
          have c20b1 : decide (48 < (zaF ByteArray.empty l0_2 x3_2).size) = true := decide_eq_true (by omega)
          clear c20
          obtain rfl := Option.some.inj H
          have hcz21_0 : wr.cell? ⟨gb188,0,none⟩ = some (.int .i64 a0_0) := (zb BK188.out 0).trans rfl
          have hcz21_1 : wr.cell? ⟨gb188,1,none⟩ = some (.int .i64 a0_1) := (zb BK188.out 1).trans rfl
          have hcz21_2 : wr.cell? ⟨gb188,2,none⟩ = some (.slice A0_2 l0_2.length c0_2) := (zb BK188.out 2).trans rfl
          have hfz21_0 := za BK188.out 0
          have hfz21_1 := za BK188.out 1
          have hfz21_2 := za BK188.out 2
          have p189 : 0 ≤ (x3_2 : Int) := hFq
          have q189 : x3_2 < (l0_2.length : Int) := hFq
          obtain ⟨ad189,e189,hx189_0⟩ := Kd.at_string HR0_2.out x3_2 p189 q189
          cases e189
          replace hx189_0 := (HB.out.cell (World.block_lt_of_cell? w _ hx189_0)).trans hx189_0
          replace p189 := eq_true p189
          replace q189 := eq_true q189
          have p190 : 0 ≤ (x3_2 : Int) := hFq
          have q190 : x3_2 < (l0_2.length : Int) := hFq
          obtain ⟨ad190,e190,hx190_0⟩ := Kd.at_string HR0_2.out x3_2 p190 q190
          obtain rfl : ad189 = ad190 := (by injection e190)
          replace hx190_0 := (HB.out.cell (World.block_lt_of_cell? w _ hx190_0)).trans hx190_0
          replace p190 := eq_true p190
          replace q190 := eq_true q190
          go_wp2
          go_ret
          exact ⟨hHq,hCq⟩
         ·rw [if_neg c20] at H
          have c20b0 : decide (48 < ((zaF ByteArray.empty l0_2 x3_2).size : Int)) = false := decide_eq_false c20
          have c20b1 : decide (48 < (zaF ByteArray.empty l0_2 x3_2).size) = false := decide_eq_false (by omega)
          clear c20
          have H' := zc.mk H
          clear H
          have hcz22_0 : wr.cell? ⟨gb188,0,none⟩ = some (.int .i64 a0_0) := (zb BK188.out 0).trans rfl
          have hcz22_1 : wr.cell? ⟨gb188,1,none⟩ = some (.int .i64 a0_1) := (zb BK188.out 1).trans rfl
          have hcz22_2 : wr.cell? ⟨gb188,2,none⟩ = some (.slice A0_2 l0_2.length c0_2) := (zb BK188.out 2).trans rfl
          have hfz22_0 := za BK188.out 0
          have hfz22_1 := za BK188.out 1
          have hfz22_2 := za BK188.out 2
          have p189 : 0 ≤ (x3_2 : Int) := hFq
          have q189 : x3_2 < (l0_2.length : Int) := hFq
          obtain ⟨ad189,e189,hx189_0⟩ := Kd.at_string HR0_2.out x3_2 p189 q189
          cases e189
          replace hx189_0 := (HB.out.cell (World.block_lt_of_cell? w _ hx189_0)).trans hx189_0
          replace p189 := eq_true p189
          replace q189 := eq_true q189
          have p190 : 0 ≤ (x3_2 : Int) := hFq
          have q190 : x3_2 < (l0_2.length : Int) := hFq
          obtain ⟨ad190,e190,hx190_0⟩ := Kd.at_string HR0_2.out x3_2 p190 q190
          obtain rfl : ad189 = ad190 := (by injection e190)
          replace hx190_0 := (HB.out.cell (World.block_lt_of_cell? w _ hx190_0)).trans hx190_0
          replace p190 := eq_true p190
          replace q190 := eq_true q190
          go_wp2
          go_roundg k2
          case measure => have := HJ1.out;have := HK2.out;omega
          case rel => exact ⟨(wrap64 (x3_2 + 1)),(hDq),H',⟨by have := HJ1.out;have := HK2.out;omega⟩,⟨hGq BK188.out⟩,⟨by repeat (first | (with_reducible first | exact HB.out | apply zA | apply zm | apply zJ | refine zg ?_ GE188.out) | exact HB.out)⟩⟩
       ·rw [if_neg c17] at H
        exact absurd H (by simp)
      ·rw [if_neg c16] at H
       have c16b0 : decide (x3_2 < (l0_2.length : Int)) = false := decide_eq_false c16
       clear c16
       obtain rfl := Option.some.inj H
       have hcz23_0 : wr.cell? ⟨gb188,0,none⟩ = some (.int .i64 a0_0) := (zb BK188.out 0).trans rfl
       have hcz23_1 : wr.cell? ⟨gb188,1,none⟩ = some (.int .i64 a0_1) := (zb BK188.out 1).trans rfl
       have hcz23_2 : wr.cell? ⟨gb188,2,none⟩ = some (.slice A0_2 l0_2.length c0_2) := (zb BK188.out 2).trans rfl
       have hfz23_0 := za BK188.out 0
       have hfz23_1 := za BK188.out 1
       have hfz23_2 := za BK188.out 2
       go_wp2
       go_ret
       exact ⟨hHq,hCq⟩
end Go.Proofs.Ytgdpiegkoeikiaa.Px