/- Part 25 of 35 of the proof of the law PostTakes: what is proved is the statement at the end of the last part; its conditions are those of the given row. -/
import Derived.Test.YtgdpiegkoeikiaaZPostTakesV
namespace Go.Proofs.Ytgdpiegkoeikiaa.Px
open Go.RowKit Go.Proofs.YtgdpiegkoeikiaaW.PrintWords Go.Proofs.YtgdpiegkoeikiaaW.PrintLast Go.Proofs.YtgdpiegkoeikiaaW.PrintMore
attribute [local go_sem] zF zH zQ zR zy zz zG zI
set_option linter.unusedVariables false
set_option linter.unusedSimpArgs false
mutual
def zn.j0 : Nat → Int → Int → Int → ByteArray → Bool → Option (Int × Int × (List (zY)) × List ByteArray × Int × Int × Int)
 | 0,_,_,_,_,_ => none
 | k + 1,x1,x6,x9,x10,x54 => if x54 = true then (some (0,0,([] : List (zY)),([] : List ByteArray),0,0,3)) else ((zx.f k x10 4 400).bind fun bt226 => (if bt226.2.2 = 0 then ((zx.f k bt226.2.1 64 32).bind fun bt231 => (if bt231.2.2 = 0 then ((zp.f k bt231.2.1).bind fun bt236 => (if bt236.2.2 = 0 then (zn.j1 k x1 x6 x9 bt226.1 bt231.1 bt236.1 bt236.2.1 (decide (bt236.1 > 10006))) else (zn.j1 k x1 x6 x9 bt226.1 bt231.1 bt236.1 bt236.2.1 true))) else (some (0,0,([] : List (zY)),([] : List ByteArray),0,0,3)))) else (some (0,0,([] : List (zY)),([] : List ByteArray),0,0,3))))
def zn.j1 : Nat → Int → Int → Int → List ByteArray → List ByteArray → Int → ByteArray → Bool → Option (Int × Int × (List (zY)) × List ByteArray × Int × Int × Int)
 | 0,_,_,_,_,_,_,_,_ => none
 | k + 1,x1,x6,x9,x12,x15,x18,x19,x85 => if x85 = true then (some (0,0,([] : List (zY)),([] : List ByteArray),0,0,3)) else ((zp.f k x19).bind fun bt239 => (if bt239.2.2 = 0 then (if bt239.1 > 10006 then (zn.j2 k x1 x6 x9 x12 x15 x18 bt239.1 true) else (zn.j2 k x1 x6 x9 x12 x15 x18 bt239.1 (decide ((bt239.2.1.size : Int) > 0)))) else (zn.j2 k x1 x6 x9 x12 x15 x18 bt239.1 true)))
def zn.j2 : Nat → Int → Int → Int → List ByteArray → List ByteArray → Int → Int → Bool → Option (Int × Int × (List (zY)) × List ByteArray × Int × Int × Int)
 | 0,_,_,_,_,_,_,_,_ => none
 | k + 1,x1,x6,x9,x12,x15,x18,x21,x103 => if x103 = true then (some (0,0,([] : List (zY)),([] : List ByteArray),0,0,3)) else (zn.l0 k x1 x12 0 (wrap64 (x6)) (wrap64 (x9)) ([] : List (zY)) x15 (wrap64 (x18)) (wrap64 (x21)))
def zn.l0 : Nat → Int → List ByteArray → Int → Int → Int → List (zY) → List ByteArray → Int → Int → Option (Int × Int × (List (zY)) × List ByteArray × Int × Int × Int)
 | 0,_,_,_,_,_,_,_,_,_ => none
 | k + 1,x1,x12,x25,x243000,x243001,x243002,x243003,x243004,x243005 => if x25 < (x12.length : Int) then (if 0 ≤ x25 then ((zT.f k (zaF ByteArray.empty x12 x25)).bind fun bt244 => (if bt244.2.2.2 = 0 then (if x243002.length < 3518437208883 then (zn.l0 k x1 x12 (wrap64 (x25 + 1)) x243000 x243001 (x243002 ++ [(⟨bt244.1,bt244.2.1,bt244.2.2.1⟩ : zY)]) x243003 x243004 x243005) else (none)) else (some (0,0,([] : List (zY)),([] : List ByteArray),0,0,3)))) else (none)) else ((zo.f k x243000 x243001 x243002 x243003 x243004 x243005 x1).bind fun t254 => (if t254 = true then (some (x243000,x243001,x243002,x243003,x243004,x243005,0)) else (some (0,0,([] : List (zY)),([] : List ByteArray),0,0,3))))
end
def zn.f (k : Nat) (a0 : ByteArray) (a1 : Int) : Option (Int × Int × (List (zY)) × List ByteArray × Int × Int × Int) := (zp.f k a0).bind fun bt220 => ((zp.f k bt220.2.1).bind fun bt223 => (if bt220.2.2 = 0 then (if bt223.2.2 = 0 then (if bt220.1 > 64 then (zn.j0 k a1 bt220.1 bt223.1 bt223.2.1 true) else (zn.j0 k a1 bt220.1 bt223.1 bt223.2.1 (decide (bt223.1 > 1048576)))) else (zn.j0 k a1 bt220.1 bt223.1 bt223.2.1 true)) else (zn.j0 k a1 bt220.1 bt223.1 bt223.2.1 true)))
set_option maxHeartbeats 8000000 in
set_option maxRecDepth 100000 in
theorem zn.calls (k : Nat) (a0 : ByteArray) (a1 : Int) (r1 : Int) (r2 : Int) (r3 : List (zY)) (r4 : List ByteArray) (r5 : Int) (r6 : Int) (r7 : Int) (w : World) (h : zn.f k a0 a1 = some (r1,r2,r3,r4,r5,r6,r7)) :
  Calls Try.prog 28 #[.string a0,.int .i64 a1] w fun e w' => ∃ v2_ v3_ : Value,e = .returned (.tuple #[.agg #[.int .i64 r1,.int .i64 r2,v2_,v3_,.int .i64 r5,.int .i64 r6],.int .i64 r7]) ∧ Kd.S zb1 107 w' w.heap.size (fun k_ => some k_ ≠ (v3_ : Value).ownBlock) v2_ r3 ∧ Kd.R Kd.string 9 w' w.heap.size (fun _ => True) v3_ r4 ∧ Below w.heap.size w w' := by
 have hu28 := Try.underlying28
 have hu26 := Try.underlying26
 have hu107 := Try.underlying107
 have HB := zc.mk (Below.refl w.heap.size w)
 have H : ((zp.f k a0).bind fun bt220 => ((zp.f k bt220.2.1).bind fun bt223 => (if bt220.2.2 = 0 then (if bt223.2.2 = 0 then (if bt220.1 > 64 then (zn.j0 k a1 bt220.1 bt223.1 bt223.2.1 true) else (zn.j0 k a1 bt220.1 bt223.1 bt223.2.1 (decide (bt223.1 > 1048576)))) else (zn.j0 k a1 bt220.1 bt223.1 bt223.2.1 true)) else (zn.j0 k a1 bt220.1 bt223.1 bt223.2.1 true)))) = some (r1,r2,r3,r4,r5,r6,r7) := h
 clear h
 replace H := Option.bind_eq_some_iff.mp H
 obtain ⟨⟨t220,t221,t222⟩,A30,H⟩ := H
 replace H : ((zp.f k t221).bind fun bt223 => (if t222 = 0 then (if bt223.2.2 = 0 then (if t220 > 64 then (zn.j0 k a1 t220 bt223.1 bt223.2.1 true) else (zn.j0 k a1 t220 bt223.1 bt223.2.1 (decide (bt223.1 > 1048576)))) else (zn.j0 k a1 t220 bt223.1 bt223.2.1 true)) else (zn.j0 k a1 t220 bt223.1 bt223.2.1 true))) = some (r1,r2,r3,r4,r5,r6,r7) := H
 have A3 := zc.mk A30
 clear A30
 replace H := Option.bind_eq_some_iff.mp H
 obtain ⟨⟨t223,t224,t225⟩,A40,H⟩ := H
 replace H : (if t222 = 0 then (if t225 = 0 then (if t220 > 64 then (zn.j0 k a1 t220 t223 t224 true) else (zn.j0 k a1 t220 t223 t224 (decide (t223 > 1048576)))) else (zn.j0 k a1 t220 t223 t224 true)) else (zn.j0 k a1 t220 t223 t224 true)) = some (r1,r2,r3,r4,r5,r6,r7) := H
 have A4 := zc.mk A40
 clear A40
 have HC5 := zc.mk H
 clear H
 go_enter Try.func28,Try.ntmps28
 go_upto_region 3 with (first | ((with_reducible refine zu (N := 4) rfl ?_);(try (refine zaX (by rfl) ?_;dsimp only));refine zr ?hg (N := 4) ?hd (cs := #[.int .i64 0,.int .i64 0,.slice none 0 0,.slice none 0 0,.int .i64 0,.int .i64 0]) (t := 28) ?hr ?_;(case hd => rfl);(case hg => rfl);(case hr => first | (go_simp;done) | (go_simp;rfl));intro gb219 hg w6 hbox hb;have n0_ := zc.mk (zj hBq hb);have n1_ := zc.mk (hbox);have n2_ := zc.mk ((by rw [hg];exact (zl hBq) : w.heap.size ≤ gb219));have n3_ := zc.mk ((by rw [hg];exact (zl hBq) : w.heap.size ≤ gb219));clear HB;have HB := n0_;have BK219 := n1_;have GW219 := n2_;have GE219 := n3_;clear n0_ n1_ n2_ n3_;clear hb hbox hg) | ((with_reducible refine zt (f := 60) rfl ?_);refine zU (some 31) rfl rfl Try.func60 (by kernel_rfl) rfl #[.string a0] rfl (by (try simp only [List.map_toArray,List.map_cons,List.map_nil]);first | done | rfl | (simp only [List.length_drop,List.length_take];rfl)) ?_;(with_reducible refine (zp.calls k a0 t220 t221 t222 _ A3.out).mono ?_);rintro e w' ⟨rfl,⟨nd,rfl⟩⟩;refine ⟨_,rfl,?_⟩) | ((with_reducible refine zt (f := 60) rfl ?_);refine zU (some 37) rfl rfl Try.func60 (by kernel_rfl) rfl #[.string t221] rfl (by (try simp only [List.map_toArray,List.map_cons,List.map_nil]);first | done | rfl | (simp only [List.length_drop,List.length_take];rfl)) ?_;(with_reducible refine (zp.calls k t221 t223 t224 t225 _ A4.out).mono ?_);rintro e w' ⟨rfl,⟨nd,rfl⟩⟩;refine ⟨_,rfl,?_⟩))
 (try simp only [Act.put,List.setIfInBounds_toArray,List.set_cons_zero,List.set_cons_succ])
 go_cut [54] (fun v54 wc => ∃ (kq : Nat) (x54_4 : Bool),v54 = .bool x54_4 ∧ zc (zn.j0 kq a1 t220 t223 t224 x54_4 = some (r1,r2,r3,r4,r5,r6,r7)) ∧ zc (kq ≤ k) ∧ zc (wc.heap[gb219]? = some (.cells #[.int .i64 0,.int .i64 0,(.slice none 0 0),(.slice none 0 0),.int .i64 0,.int .i64 0] 28 (0,0))) ∧ zc (Below w.heap.size w wc))
 case first =>
  have H := HC5.out
  clear HC5
  by_cases c7 : t222 = 0
  ·rw [if_pos c7] at H
   have c7b0 : (t222 == 0) = true := beq_iff_eq.mpr c7
   have c7b1 : (t222 != 0) = false := bne_eq_false_iff_eq.mpr c7
   clear c7
   (first | rw [c7b0] | (simp only [zan,zaq];rw [c7b0]) | skip)
   by_cases c8 : t225 = 0
   ·rw [if_pos c8] at H
    have c8b0 : (t225 == 0) = true := beq_iff_eq.mpr c8
    have c8b1 : (t225 != 0) = false := bne_eq_false_iff_eq.mpr c8
    clear c8
    by_cases c9 : t220 > 64
    ·rw [if_pos c9] at H
     have c9b0 : decide (64 < t220) = true := decide_eq_true c9
     clear c9
     have H' := zc.mk H
     clear H
     go_wp2
     go_meet
     case rel => exact ⟨_,(true),(hDq),H',⟨by first | omega | exact Nat.le_refl _⟩,⟨hGq BK219.out⟩,⟨by repeat (first | (with_reducible first | exact HB.out | apply zA | apply zm | apply zJ | refine zg ?_ GE219.out) | exact HB.out)⟩⟩
    ·rw [if_neg c9] at H
     have c9b0 : decide (64 < t220) = false := decide_eq_false c9
     clear c9
     have H' := zc.mk H
     clear H
     go_wp2
     go_meet
     case rel => exact ⟨_,(decide (t223 > 1048576)),(hDq),H',⟨by first | omega | exact Nat.le_refl _⟩,⟨hGq BK219.out⟩,⟨by repeat (first | (with_reducible first | exact HB.out | apply zA | apply zm | apply zJ | refine zg ?_ GE219.out) | exact HB.out)⟩⟩
   ·rw [if_neg c8] at H
    have c8b0 : (t225 == 0) = false := beq_eq_false_iff_ne.mpr c8
    have c8b1 : (t225 != 0) = true := bne_iff_ne.mpr c8
    have H' := zc.mk H
    clear H
    go_wp2
    go_meet
    case rel => exact ⟨_,(true),(hDq),H',⟨by first | omega | exact Nat.le_refl _⟩,⟨hGq BK219.out⟩,⟨by repeat (first | (with_reducible first | exact HB.out | apply zA | apply zm | apply zJ | refine zg ?_ GE219.out) | exact HB.out)⟩⟩
  ·rw [if_neg c7] at H
   have c7b0 : (t222 == 0) = false := beq_eq_false_iff_ne.mpr c7
   have c7b1 : (t222 != 0) = true := bne_iff_ne.mpr c7
   (first | rw [c7b0] | (simp only [zan,zaq];rw [c7b0]) | skip)
   have H' := zc.mk H
   clear H
   go_wp2
   go_meet
   case rel => exact ⟨_,(true),(hDq),H',⟨by first | omega | exact Nat.le_refl _⟩,⟨hGq BK219.out⟩,⟨by repeat (first | (with_reducible first | exact HB.out | apply zA | apply zm | apply zJ | refine zg ?_ GE219.out) | exact HB.out)⟩⟩
 case rest =>
  clear HC5
  try clear c2
  try clear p2
  try clear c6
  try clear c7
  try clear c7b0
  try clear c7b1
  try clear c8
  try clear c8b0
  try clear c8b1
  try clear c9
  try clear c9b0
  obtain ⟨kq,x54_4,rfl,HA,HJ4,BK219,HB⟩ := hcut
  cases kq with
  | zero => exact absurd HA.out (by simp [zn.j0])
  | succ kj4 =>
   have H := HA.out
   clear HA
   simp only [zn.j0] at H
   by_cases c10 : x54_4 = true
   ·subst c10
    have H1 : (some (0,0,([] : List (zY)),([] : List ByteArray),0,0,3)) = some (r1,r2,r3,r4,r5,r6,r7) := by rw [if_pos rfl] at H;exact H
    clear H
    have H := H1
    clear H1
    simp only [Option.some.injEq,Prod.mk.injEq] at H
    obtain ⟨rfl,rfl,rfl,rfl,rfl,rfl,rfl⟩ := H
    have hcz11_0 : wc.cell? ⟨gb219,0,none⟩ = some (.int .i64 0) := (zb BK219.out 0).trans rfl
    have hcz11_1 : wc.cell? ⟨gb219,1,none⟩ = some (.int .i64 0) := (zb BK219.out 1).trans rfl
    have hcz11_2 : wc.cell? ⟨gb219,2,none⟩ = some (.slice none 0 0) := (zb BK219.out 2).trans rfl
    have hcz11_3 : wc.cell? ⟨gb219,3,none⟩ = some (.slice none 0 0) := (zb BK219.out 3).trans rfl
    have hcz11_4 : wc.cell? ⟨gb219,4,none⟩ = some (.int .i64 0) := (zb BK219.out 4).trans rfl
    have hcz11_5 : wc.cell? ⟨gb219,5,none⟩ = some (.int .i64 0) := (zb BK219.out 5).trans rfl
    have hfz11_0 := za BK219.out 0
    have hfz11_1 := za BK219.out 1
    have hfz11_2 := za BK219.out 2
    have hfz11_3 := za BK219.out 3
    have hfz11_4 := za BK219.out 4
    have hfz11_5 := za BK219.out 5
    go_wp2
    refine bodyPost_ret (z9 rfl _ _ gb219 28 #[.int .i64 0,.int .i64 0,.slice none 0 0,.slice none 0 0,.int .i64 0,.int .i64 0] (0,0) _ rfl (by (with_reducible repeat (first | refine zd ?_ _ | refine zf ?_ | refine ze ?_ _));refine zi (cs := #[.int .i64 0,.int .i64 0,.slice none 0 0,.slice none 0 0,.int .i64 0,.int .i64 0]) ?_ 5 _ rfl;(with_reducible repeat (first | refine zd ?_ _ | refine zf ?_ | refine ze ?_ _));refine zi (cs := #[.int .i64 0,.int .i64 0,.slice none 0 0,.slice none 0 0,.int .i64 0,.int .i64 0]) ?_ 4 _ rfl;(with_reducible repeat (first | refine zd ?_ _ | refine zf ?_ | refine ze ?_ _));refine zi (cs := #[.int .i64 0,.int .i64 0,.slice none 0 0,.slice none 0 0,.int .i64 0,.int .i64 0]) ?_ 3 _ rfl;(with_reducible repeat (first | refine zd ?_ _ | refine zf ?_ | refine ze ?_ _));refine zi (cs := #[.int .i64 0,.int .i64 0,.slice none 0 0,.slice none 0 0,.int .i64 0,.int .i64 0]) ?_ 2 _ rfl;(with_reducible repeat (first | refine zd ?_ _ | refine zf ?_ | refine ze ?_ _));refine zi (cs := #[.int .i64 0,.int .i64 0,.slice none 0 0,.slice none 0 0,.int .i64 0,.int .i64 0]) ?_ 1 _ rfl;(with_reducible repeat (first | refine zd ?_ _ | refine zf ?_ | refine ze ?_ _));refine zi (cs := #[.int .i64 0,.int .i64 0,.slice none 0 0,.slice none 0 0,.int .i64 0,.int .i64 0]) ?_ 0 _ rfl;(with_reducible repeat (first | refine zd ?_ _ | refine zf ?_ | refine ze ?_ _));exact BK219.out) Try.underlying28 rfl (by kernel_rfl)) rfl ?_
    exact ⟨_,_,hHq,by first | exact Kd.S_nil _ _ _ _ _ | exact Kd.N_nil _ _ _ _ _ | exact Kd.V_nil _ _ _ _ _ | exact Kd.Q_nil _ _ _ _ _ | exact Kd.R_nil _ _ _ _ _,by first | exact Kd.R_nil _ _ _ _ _ | exact Kd.N_nil _ _ _ _ _ | exact Kd.V_nil _ _ _ _ _ | exact Kd.Q_nil _ _ _ _ _ | exact Kd.S_nil _ _ _ _ _,hCq⟩
   ·replace c10 := Bool.eq_false_iff.mpr c10
    subst c10
    have H1 : ((zx.f kj4 t224 4 400).bind fun bt226 => (if bt226.2.2 = 0 then ((zx.f kj4 bt226.2.1 64 32).bind fun bt231 => (if bt231.2.2 = 0 then ((zp.f kj4 bt231.2.1).bind fun bt236 => (if bt236.2.2 = 0 then (zn.j1 kj4 a1 t220 t223 bt226.1 bt231.1 bt236.1 bt236.2.1 (decide (bt236.1 > 10006))) else (zn.j1 kj4 a1 t220 t223 bt226.1 bt231.1 bt236.1 bt236.2.1 true))) else (some (0,0,([] : List (zY)),([] : List ByteArray),0,0,3)))) else (some (0,0,([] : List (zY)),([] : List ByteArray),0,0,3)))) = some (r1,r2,r3,r4,r5,r6,r7) := by rw [if_neg (show ¬ (false = true) by decide)] at H;exact H
    clear H
    have H := H1
    clear H1
    replace H := Option.bind_eq_some_iff.mp H
    obtain ⟨⟨t226,t227,t228⟩,A120,H⟩ := H
    replace H : (if t228 = 0 then ((zx.f kj4 t227 64 32).bind fun bt231 => (if bt231.2.2 = 0 then ((zp.f kj4 bt231.2.1).bind fun bt236 => (if bt236.2.2 = 0 then (zn.j1 kj4 a1 t220 t223 t226 bt231.1 bt236.1 bt236.2.1 (decide (bt236.1 > 10006))) else (zn.j1 kj4 a1 t220 t223 t226 bt231.1 bt236.1 bt236.2.1 true))) else (some (0,0,([] : List (zY)),([] : List ByteArray),0,0,3)))) else (some (0,0,([] : List (zY)),([] : List ByteArray),0,0,3))) = some (r1,r2,r3,r4,r5,r6,r7) := H
    have A12 := zc.mk A120
    clear A120
    by_cases c13 : t228 = 0
    ·rw [if_pos c13] at H
     have c13b0 : (t228 == 0) = true := beq_iff_eq.mpr c13
     have c13b1 : (t228 != 0) = false := bne_eq_false_iff_eq.mpr c13
     clear c13
     replace H := Option.bind_eq_some_iff.mp H
     obtain ⟨⟨t231,t232,t233⟩,A140,H⟩ := H
     replace H : (if t233 = 0 then ((zp.f kj4 t232).bind fun bt236 => (if bt236.2.2 = 0 then (zn.j1 kj4 a1 t220 t223 t226 t231 bt236.1 bt236.2.1 (decide (bt236.1 > 10006))) else (zn.j1 kj4 a1 t220 t223 t226 t231 bt236.1 bt236.2.1 true))) else (some (0,0,([] : List (zY)),([] : List ByteArray),0,0,3))) = some (r1,r2,r3,r4,r5,r6,r7) := H
     have A14 := zc.mk A140
     clear A140
     by_cases c15 : t233 = 0
     ·rw [if_pos c15] at H
      have c15b0 : (t233 == 0) = true := beq_iff_eq.mpr c15
      have c15b1 : (t233 != 0) = false := bne_eq_false_iff_eq.mpr c15
      clear c15
      replace H := Option.bind_eq_some_iff.mp H
      obtain ⟨⟨t236,t237,t238⟩,A160,H⟩ := H
      replace H : (if t238 = 0 then (zn.j1 kj4 a1 t220 t223 t226 t231 t236 t237 (decide (t236 > 10006))) else (zn.j1 kj4 a1 t220 t223 t226 t231 t236 t237 true)) = some (r1,r2,r3,r4,r5,r6,r7) := H
      have A16 := zc.mk A160
      clear A160
      have HC17 := zc.mk H
      clear H
      go_upto_region 12 with (first | ((with_reducible refine zt (f := 61) rfl ?_);refine zU (some 58) rfl rfl Try.func61 (by kernel_rfl) rfl #[.string t224,.int .i64 4,.int .i64 400] rfl (by (try simp only [List.map_toArray,List.map_cons,List.map_nil]);first | done | rfl | (simp only [List.length_drop,List.length_take];rfl)) ?_;(with_reducible refine (zx.calls kj4 t224 4 400 t226 t227 t228 _ A12.out).mono ?_);rintro e w18 ⟨v229,rfl,ho0,hb⟩;refine ⟨_,rfl,?_⟩;have n0_ := zc.mk (Kd.R_lower ho0 (zl hCq));have n1_ := zc.mk (zh (g := gb219) (o := .cells #[.int .i64 0,.int .i64 0,.slice none 0 0,.slice none 0 0,.int .i64 0,.int .i64 0] 28 (0,0)) (hGq BK219.out) hb);have n2_ := zc.mk (zj hCq hb);clear BK219;clear HB;have HO230 := n0_;have BK219 := n1_;have HB := n2_;clear n0_ n1_ n2_;(try clear hb);(try clear hb2);(try clear hk);(try clear hi);(try clear ho0)) | ((with_reducible refine zt (f := 61) rfl ?_);refine zU (some 67) rfl rfl Try.func61 (by kernel_rfl) rfl #[.string t227,.int .i64 64,.int .i64 32] rfl (by (try simp only [List.map_toArray,List.map_cons,List.map_nil]);first | done | rfl | (simp only [List.length_drop,List.length_take];rfl)) ?_;(with_reducible refine (zx.calls kj4 t227 64 32 t231 t232 t233 _ A14.out).mono ?_);rintro e w19 ⟨v234,rfl,ho0,hb⟩;refine ⟨_,rfl,?_⟩;have n0_ := zc.mk (Kd.R_elder' (by (with_reducible repeat (first | apply Kd.R_alloc | apply Kd.R_drewN | apply Kd.R_drew));exact HO230.out) (Kd.R_base ho0) hb);have n1_ := zc.mk (Kd.R_lower (Kd.R_new' ho0 (Kd.R_lt (by (with_reducible repeat (first | apply Kd.R_alloc | apply Kd.R_drewN | apply Kd.R_drew));exact HO230.out))) (zl hCq));have n2_ := zc.mk (zh (g := gb219) (o := .cells #[.int .i64 0,.int .i64 0,.slice none 0 0,.slice none 0 0,.int .i64 0,.int .i64 0] 28 (0,0)) (hGq BK219.out) hb);have n3_ := zc.mk (zj hCq hb);clear HO230;clear BK219;clear HB;have HO230 := n0_;have HO235 := n1_;have BK219 := n2_;have HB := n3_;clear n0_ n1_ n2_ n3_;(try clear hb);(try clear hb2);(try clear hk);(try clear hi);(try clear ho0)) | ((with_reducible refine zt (f := 60) rfl ?_);refine zU (some 76) rfl rfl Try.func60 (by kernel_rfl) rfl #[.string t232] rfl (by (try simp only [List.map_toArray,List.map_cons,List.map_nil]);first | done | rfl | (simp only [List.length_drop,List.length_take];rfl)) ?_;(with_reducible refine (zp.calls kj4 t232 t236 t237 t238 _ A16.out).mono ?_);rintro e w' ⟨rfl,⟨nd,rfl⟩⟩;refine ⟨_,rfl,?_⟩))
      (try simp only [Act.put,List.setIfInBounds_toArray,List.set_cons_zero,List.set_cons_succ])
      go_cut [85] (fun v85 wc => ∃ (kq : Nat) (x85_16 : Bool),v85 = .bool x85_16 ∧ zc (zn.j1 kq a1 t220 t223 t226 t231 t236 t237 x85_16 = some (r1,r2,r3,r4,r5,r6,r7)) ∧ zc (kq ≤ kj4) ∧ zc (Kd.R Kd.string 9 wc w.heap.size (fun k_ => some k_ ≠ (v234 : Value).ownBlock) v229 t226) ∧ zc (Kd.R Kd.string 9 wc w.heap.size (fun k_ => some k_ ≠ (v229 : Value).ownBlock) v234 t231) ∧ zc (wc.heap[gb219]? = some (.cells #[.int .i64 0,.int .i64 0,(.slice none 0 0),(.slice none 0 0),.int .i64 0,.int .i64 0] 28 (0,0))) ∧ zc (Below w.heap.size w wc))
      case first =>
       have H := HC17.out
       clear HC17
       by_cases c20 : t238 = 0
       ·rw [if_pos c20] at H
        have c20b0 : (t238 == 0) = true := beq_iff_eq.mpr c20
        have c20b1 : (t238 != 0) = false := bne_eq_false_iff_eq.mpr c20
        clear c20
        (first | rw [c20b0] | (simp only [zan,zaq];rw [c20b0]) | skip)
        have H' := zc.mk H
        clear H
        go_wp2
        go_meet
        case rel => exact ⟨_,(decide (t236 > 10006)),(hDq),H',⟨by have := HJ4.out;first | omega | exact Nat.le_refl _⟩,⟨by (with_reducible repeat (first | apply Kd.R_alloc | apply Kd.R_drewN | apply Kd.R_drew));exact Kd.R_mono HO230.out (fun _ hk => hk.2)⟩,⟨by (with_reducible repeat (first | apply Kd.R_alloc | apply Kd.R_drewN | apply Kd.R_drew));exact Kd.R_mono HO235.out (fun _ hk => hk.2)⟩,⟨hGq BK219.out⟩,⟨by repeat (first | (with_reducible first | exact HB.out | apply zA | apply zm | apply zJ | refine zg ?_ GE219.out) | exact HB.out)⟩⟩
       ·rw [if_neg c20] at H
        have c20b0 : (t238 == 0) = false := beq_eq_false_iff_ne.mpr c20
        have c20b1 : (t238 != 0) = true := bne_iff_ne.mpr c20
        (first | rw [c20b0] | (simp only [zan,zaq];rw [c20b0]) | skip)
        have H' := zc.mk H
        clear H
        go_wp2
        go_meet
        case rel => exact ⟨_,(true),(hDq),H',⟨by have := HJ4.out;first | omega | exact Nat.le_refl _⟩,⟨by (with_reducible repeat (first | apply Kd.R_alloc | apply Kd.R_drewN | apply Kd.R_drew));exact Kd.R_mono HO230.out (fun _ hk => hk.2)⟩,⟨by (with_reducible repeat (first | apply Kd.R_alloc | apply Kd.R_drewN | apply Kd.R_drew));exact Kd.R_mono HO235.out (fun _ hk => hk.2)⟩,⟨hGq BK219.out⟩,⟨by repeat (first | (with_reducible first | exact HB.out | apply zA | apply zm | apply zJ | refine zg ?_ GE219.out) | exact HB.out)⟩⟩
      case rest =>
       clear HC17
       try clear c1
       try clear c2
       try clear p2
       try clear c6
       try clear c7
       try clear c7b0
       try clear c7b1
       try clear c8
       try clear c8b0
       try clear c8b1
       try clear c9
       try clear c9b0
       try clear c10
       try clear c13
       try clear c13b0
       try clear c13b1
       try clear c15
       try clear c15b0
       try clear c15b1
       try clear c20
       try clear c20b0
       try clear c20b1
       try clear hcz11_0
       try clear hcz11_1
       try clear hcz11_2
       try clear hcz11_3
       try clear hcz11_4
       try clear hcz11_5
       try clear hfz11_0
       try clear hfz11_1
       try clear hfz11_2
       try clear hfz11_3
       try clear hfz11_4
       try clear hfz11_5
       try clear p2
       obtain ⟨kq,x85_16,rfl,HA,HJ16,HO_12,HO_15,BK219,HB⟩ := hcut
       cases kq with
       | zero => exact absurd HA.out (by simp [zn.j1])
       | succ kj16 =>
        have H := HA.out
        clear HA
        simp only [zn.j1] at H
        by_cases c21 : x85_16 = true
        ·subst c21
         have H1 : (some (0,0,([] : List (zY)),([] : List ByteArray),0,0,3)) = some (r1,r2,r3,r4,r5,r6,r7) := by rw [if_pos rfl] at H;exact H
         clear H
         have H := H1
         clear H1
         simp only [Option.some.injEq,Prod.mk.injEq] at H
         obtain ⟨rfl,rfl,rfl,rfl,rfl,rfl,rfl⟩ := H
         have hcz22_0 : wc.cell? ⟨gb219,0,none⟩ = some (.int .i64 0) := (zb BK219.out 0).trans rfl
         have hcz22_1 : wc.cell? ⟨gb219,1,none⟩ = some (.int .i64 0) := (zb BK219.out 1).trans rfl
         have hcz22_2 : wc.cell? ⟨gb219,2,none⟩ = some (.slice none 0 0) := (zb BK219.out 2).trans rfl
         have hcz22_3 : wc.cell? ⟨gb219,3,none⟩ = some (.slice none 0 0) := (zb BK219.out 3).trans rfl
         have hcz22_4 : wc.cell? ⟨gb219,4,none⟩ = some (.int .i64 0) := (zb BK219.out 4).trans rfl
         have hcz22_5 : wc.cell? ⟨gb219,5,none⟩ = some (.int .i64 0) := (zb BK219.out 5).trans rfl
         have hfz22_0 := za BK219.out 0
         have hfz22_1 := za BK219.out 1
         have hfz22_2 := za BK219.out 2
         have hfz22_3 := za BK219.out 3
         have hfz22_4 := za BK219.out 4
         have hfz22_5 := za BK219.out 5
         go_wp2
         refine bodyPost_ret (z9 rfl _ _ gb219 28 #[.int .i64 0,.int .i64 0,.slice none 0 0,.slice none 0 0,.int .i64 0,.int .i64 0] (0,0) _ rfl (by (with_reducible repeat (first | refine zd ?_ _ | refine zf ?_ | refine ze ?_ _));refine zi (cs := #[.int .i64 0,.int .i64 0,.slice none 0 0,.slice none 0 0,.int .i64 0,.int .i64 0]) ?_ 5 _ rfl;(with_reducible repeat (first | refine zd ?_ _ | refine zf ?_ | refine ze ?_ _));refine zi (cs := #[.int .i64 0,.int .i64 0,.slice none 0 0,.slice none 0 0,.int .i64 0,.int .i64 0]) ?_ 4 _ rfl;(with_reducible repeat (first | refine zd ?_ _ | refine zf ?_ | refine ze ?_ _));refine zi (cs := #[.int .i64 0,.int .i64 0,.slice none 0 0,.slice none 0 0,.int .i64 0,.int .i64 0]) ?_ 3 _ rfl;(with_reducible repeat (first | refine zd ?_ _ | refine zf ?_ | refine ze ?_ _));refine zi (cs := #[.int .i64 0,.int .i64 0,.slice none 0 0,.slice none 0 0,.int .i64 0,.int .i64 0]) ?_ 2 _ rfl;(with_reducible repeat (first | refine zd ?_ _ | refine zf ?_ | refine ze ?_ _));refine zi (cs := #[.int .i64 0,.int .i64 0,.slice none 0 0,.slice none 0 0,.int .i64 0,.int .i64 0]) ?_ 1 _ rfl;(with_reducible repeat (first | refine zd ?_ _ | refine zf ?_ | refine ze ?_ _));refine zi (cs := #[.int .i64 0,.int .i64 0,.slice none 0 0,.slice none 0 0,.int .i64 0,.int .i64 0]) ?_ 0 _ rfl;(with_reducible repeat (first | refine zd ?_ _ | refine zf ?_ | refine ze ?_ _));exact BK219.out) Try.underlying28 rfl (by kernel_rfl)) rfl ?_
         exact ⟨_,_,hHq,by first | exact Kd.S_nil _ _ _ _ _ | exact Kd.N_nil _ _ _ _ _ | exact Kd.V_nil _ _ _ _ _ | exact Kd.Q_nil _ _ _ _ _ | exact Kd.R_nil _ _ _ _ _,by first | exact Kd.R_nil _ _ _ _ _ | exact Kd.N_nil _ _ _ _ _ | exact Kd.V_nil _ _ _ _ _ | exact Kd.Q_nil _ _ _ _ _ | exact Kd.S_nil _ _ _ _ _,hCq⟩
        ·replace c21 := Bool.eq_false_iff.mpr c21
         subst c21
         have H1 : ((zp.f kj16 t237).bind fun bt239 => (if bt239.2.2 = 0 then (if bt239.1 > 10006 then (zn.j2 kj16 a1 t220 t223 t226 t231 t236 bt239.1 true) else (zn.j2 kj16 a1 t220 t223 t226 t231 t236 bt239.1 (decide ((bt239.2.1.size : Int) > 0)))) else (zn.j2 kj16 a1 t220 t223 t226 t231 t236 bt239.1 true))) = some (r1,r2,r3,r4,r5,r6,r7) := by rw [if_neg (show ¬ (false = true) by decide)] at H;exact H
         clear H
         have H := H1
         clear H1
         replace H := Option.bind_eq_some_iff.mp H
         obtain ⟨⟨t239,t240,t241⟩,A230,H⟩ := H
         replace H : (if t241 = 0 then (if t239 > 10006 then (zn.j2 kj16 a1 t220 t223 t226 t231 t236 t239 true) else (zn.j2 kj16 a1 t220 t223 t226 t231 t236 t239 (decide ((t240.size : Int) > 0)))) else (zn.j2 kj16 a1 t220 t223 t226 t231 t236 t239 true)) = some (r1,r2,r3,r4,r5,r6,r7) := H
         have A23 := zc.mk A230
         clear A230
         have HC24 := zc.mk H
         clear H
         go_upto_region 15 with (first | ((with_reducible refine zt (f := 60) rfl ?_);refine zU (some 89) rfl rfl Try.func60 (by kernel_rfl) rfl #[.string t237] rfl (by (try simp only [List.map_toArray,List.map_cons,List.map_nil]);first | done | rfl | (simp only [List.length_drop,List.length_take];rfl)) ?_;(with_reducible refine (zp.calls kj16 t237 t239 t240 t241 _ A23.out).mono ?_);rintro e w' ⟨rfl,⟨nd,rfl⟩⟩;refine ⟨_,rfl,?_⟩))
         (try simp only [Act.put,List.setIfInBounds_toArray,List.set_cons_zero,List.set_cons_succ])
         go_cut [103] (fun v103 wc => ∃ (kq : Nat) (x103_23 : Bool),v103 = .bool x103_23 ∧ zc (zn.j2 kq a1 t220 t223 t226 t231 t236 t239 x103_23 = some (r1,r2,r3,r4,r5,r6,r7)) ∧ zc (kq ≤ kj16) ∧ zc (Kd.R Kd.string 9 wc w.heap.size (fun k_ => some k_ ≠ (v234 : Value).ownBlock) v229 t226) ∧ zc (Kd.R Kd.string 9 wc w.heap.size (fun k_ => some k_ ≠ (v229 : Value).ownBlock) v234 t231) ∧ zc (wc.heap[gb219]? = some (.cells #[.int .i64 0,.int .i64 0,(.slice none 0 0),(.slice none 0 0),.int .i64 0,.int .i64 0] 28 (0,0))) ∧ zc (Below w.heap.size w wc))
         case first =>
          have H := HC24.out
          clear HC24
          by_cases c25 : t241 = 0
          ·rw [if_pos c25] at H
           have c25b0 : (t241 == 0) = true := beq_iff_eq.mpr c25
           have c25b1 : (t241 != 0) = false := bne_eq_false_iff_eq.mpr c25
           clear c25
           (first | rw [c25b0] | (simp only [zan,zaq];rw [c25b0]) | skip)
           by_cases c26 : t239 > 10006
           ·rw [if_pos c26] at H
            have c26b0 : decide (10006 < t239) = true := decide_eq_true c26
            clear c26
            have H' := zc.mk H
            clear H
            go_wp2
            go_meet
            case rel => exact ⟨_,(true),(hDq),H',⟨by have := HJ4.out;have := HJ16.out;first | omega | exact Nat.le_refl _⟩,⟨by (with_reducible repeat (first | apply Kd.R_alloc | apply Kd.R_drewN | apply Kd.R_drew));exact HO_12.out⟩,⟨by (with_reducible repeat (first | apply Kd.R_alloc | apply Kd.R_drewN | apply Kd.R_drew));exact HO_15.out⟩,⟨hGq BK219.out⟩,⟨by repeat (first | (with_reducible first | exact HB.out | apply zA | apply zm | apply zJ | refine zg ?_ GE219.out) | exact HB.out)⟩⟩
           ·rw [if_neg c26] at H
            have c26b0 : decide (10006 < t239) = false := decide_eq_false c26
            clear c26
            have H' := zc.mk H
            clear H
            go_wp2
            go_meet
            case rel => exact ⟨_,(decide ((t240.size : Int) > 0)),(hDq),H',⟨by have := HJ4.out;have := HJ16.out;first | omega | exact Nat.le_refl _⟩,⟨by (with_reducible repeat (first | apply Kd.R_alloc | apply Kd.R_drewN | apply Kd.R_drew));exact HO_12.out⟩,⟨by (with_reducible repeat (first | apply Kd.R_alloc | apply Kd.R_drewN | apply Kd.R_drew));exact HO_15.out⟩,⟨hGq BK219.out⟩,⟨by repeat (first | (with_reducible first | exact HB.out | apply zA | apply zm | apply zJ | refine zg ?_ GE219.out) | exact HB.out)⟩⟩
          ·rw [if_neg c25] at H
           have c25b0 : (t241 == 0) = false := beq_eq_false_iff_ne.mpr c25
           have c25b1 : (t241 != 0) = true := bne_iff_ne.mpr c25
           (first | rw [c25b0] | (simp only [zan,zaq];rw [c25b0]) | skip)
           have H' := zc.mk H
           clear H
           go_wp2
           go_meet
           case rel => exact ⟨_,(true),(hDq),H',⟨by have := HJ4.out;have := HJ16.out;first | omega | exact Nat.le_refl _⟩,⟨by (with_reducible repeat (first | apply Kd.R_alloc | apply Kd.R_drewN | apply Kd.R_drew));exact HO_12.out⟩,⟨by (with_reducible repeat (first | apply Kd.R_alloc | apply Kd.R_drewN | apply Kd.R_drew));exact HO_15.out⟩,⟨hGq BK219.out⟩,⟨by repeat (first | (with_reducible first | exact HB.out | apply zA | apply zm | apply zJ | refine zg ?_ GE219.out) | exact HB.out)⟩⟩
         case rest =>
          clear HC24
          try clear c1
          try clear c2
          try clear p2
          try clear c6
          try clear c7
          try clear c7b0
          try clear c7b1
          try clear c8
          try clear c8b0
          try clear c8b1
          try clear c9
          try clear c9b0
          try clear c10
          try clear c13
          try clear c13b0
          try clear c13b1
          try clear c15
          try clear c15b0
          try clear c15b1
          try clear c20
          try clear c20b0
          try clear c20b1
          try clear c21
          try clear c25
          try clear c25b0
          try clear c25b1
          try clear c26
          try clear c26b0
          try clear hcz11_0
          try clear hcz11_1
          try clear hcz11_2
          try clear hcz11_3
          try clear hcz11_4
          try clear hcz11_5
          try clear hcz22_0
          try clear hcz22_1
          try clear hcz22_2
          try clear hcz22_3
          try clear hcz22_4
          try clear hcz22_5
          try clear hfz11_0
          try clear hfz11_1
          try clear hfz11_2
          try clear hfz11_3
          try clear hfz11_4
          try clear hfz11_5
          try clear hfz22_0
          try clear hfz22_1
          try clear hfz22_2
          try clear hfz22_3
          try clear hfz22_4
          try clear hfz22_5
          try clear p2
          obtain ⟨kq,x103_23,rfl,HA,HJ23,HO_12,HO_15,BK219,HB⟩ := hcut
          cases kq with
          | zero => exact absurd HA.out (by simp [zn.j2])
          | succ kj23 =>
           have H := HA.out
           clear HA
           simp only [zn.j2] at H
           by_cases c27 : x103_23 = true
           ·subst c27
            have H1 : (some (0,0,([] : List (zY)),([] : List ByteArray),0,0,3)) = some (r1,r2,r3,r4,r5,r6,r7) := by rw [if_pos rfl] at H;exact H
            clear H
            have H := H1
            clear H1
            simp only [Option.some.injEq,Prod.mk.injEq] at H
            obtain ⟨rfl,rfl,rfl,rfl,rfl,rfl,rfl⟩ := H
            have hcz28_0 : wc.cell? ⟨gb219,0,none⟩ = some (.int .i64 0) := (zb BK219.out 0).trans rfl
            have hcz28_1 : wc.cell? ⟨gb219,1,none⟩ = some (.int .i64 0) := (zb BK219.out 1).trans rfl
            have hcz28_2 : wc.cell? ⟨gb219,2,none⟩ = some (.slice none 0 0) := (zb BK219.out 2).trans rfl
            have hcz28_3 : wc.cell? ⟨gb219,3,none⟩ = some (.slice none 0 0) := (zb BK219.out 3).trans rfl
            have hcz28_4 : wc.cell? ⟨gb219,4,none⟩ = some (.int .i64 0) := (zb BK219.out 4).trans rfl
            have hcz28_5 : wc.cell? ⟨gb219,5,none⟩ = some (.int .i64 0) := (zb BK219.out 5).trans rfl
            have hfz28_0 := za BK219.out 0
            have hfz28_1 := za BK219.out 1
            have hfz28_2 := za BK219.out 2
            have hfz28_3 := za BK219.out 3
            have hfz28_4 := za BK219.out 4
            have hfz28_5 := za BK219.out 5
            go_wp2
            refine bodyPost_ret (z9 rfl _ _ gb219 28 #[.int .i64 0,.int .i64 0,.slice none 0 0,.slice none 0 0,.int .i64 0,.int .i64 0] (0,0) _ rfl (by (with_reducible repeat (first | refine zd ?_ _ | refine zf ?_ | refine ze ?_ _));refine zi (cs := #[.int .i64 0,.int .i64 0,.slice none 0 0,.slice none 0 0,.int .i64 0,.int .i64 0]) ?_ 5 _ rfl;(with_reducible repeat (first | refine zd ?_ _ | refine zf ?_ | refine ze ?_ _));refine zi (cs := #[.int .i64 0,.int .i64 0,.slice none 0 0,.slice none 0 0,.int .i64 0,.int .i64 0]) ?_ 4 _ rfl;(with_reducible repeat (first | refine zd ?_ _ | refine zf ?_ | refine ze ?_ _));refine zi (cs := #[.int .i64 0,.int .i64 0,.slice none 0 0,.slice none 0 0,.int .i64 0,.int .i64 0]) ?_ 3 _ rfl;(with_reducible repeat (first | refine zd ?_ _ | refine zf ?_ | refine ze ?_ _));refine zi (cs := #[.int .i64 0,.int .i64 0,.slice none 0 0,.slice none 0 0,.int .i64 0,.int .i64 0]) ?_ 2 _ rfl;(with_reducible repeat (first | refine zd ?_ _ | refine zf ?_ | refine ze ?_ _));refine zi (cs := #[.int .i64 0,.int .i64 0,.slice none 0 0,.slice none 0 0,.int .i64 0,.int .i64 0]) ?_ 1 _ rfl;(with_reducible repeat (first | refine zd ?_ _ | refine zf ?_ | refine ze ?_ _));refine zi (cs := #[.int .i64 0,.int .i64 0,.slice none 0 0,.slice none 0 0,.int .i64 0,.int .i64 0]) ?_ 0 _ rfl;(with_reducible repeat (first | refine zd ?_ _ | refine zf ?_ | refine ze ?_ _));exact BK219.out) Try.underlying28 rfl (by kernel_rfl)) rfl ?_
            exact ⟨_,_,hHq,by first | exact Kd.S_nil _ _ _ _ _ | exact Kd.N_nil _ _ _ _ _ | exact Kd.V_nil _ _ _ _ _ | exact Kd.Q_nil _ _ _ _ _ | exact Kd.R_nil _ _ _ _ _,by first | exact Kd.R_nil _ _ _ _ _ | exact Kd.N_nil _ _ _ _ _ | exact Kd.V_nil _ _ _ _ _ | exact Kd.Q_nil _ _ _ _ _ | exact Kd.S_nil _ _ _ _ _,hCq⟩
           ·replace c27 := Bool.eq_false_iff.mpr c27
            subst c27
            have H1 : (zn.l0 kj23 a1 t226 0 (wrap64 (t220)) (wrap64 (t223)) ([] : List (zY)) t231 (wrap64 (t236)) (wrap64 (t239))) = some (r1,r2,r3,r4,r5,r6,r7) := by rw [if_neg (show ¬ (false = true) by decide)] at H;exact H
            clear H
            have H := H1
            clear H1
            have H' := zc.mk H
            clear H
            obtain ⟨Ao29,co29,eo29⟩ := Kd.R_slice HO_15.out
            subst eo29
            go_wp2_with (first | ((with_reducible refine zu (N := 24) rfl ?_);(try (refine zaX (by rfl) ?_;dsimp only));refine zr ?hg (N := 24) ?hd (cs := #[.int .i64 0,.int .i64 0,.slice none 0 0,.slice none 0 0,.int .i64 0,.int .i64 0]) (t := 28) ?hr ?_;(case hd => rfl);(case hg => rfl);(case hr => first | (go_simp;done) | (go_simp;rfl));intro gb242 hg w30 hbox hb;have n0_ := zc.mk (Kd.R_below (by (with_reducible repeat (first | apply Kd.R_alloc | apply Kd.R_drewN | apply Kd.R_drew));exact HO_12.out) hb);have n1_ := zc.mk (Kd.R_below (by (with_reducible repeat (first | apply Kd.R_alloc | apply Kd.R_drewN | apply Kd.R_drew));exact HO_15.out) hb);have n2_ := zc.mk (zh (g := gb219) (o := .cells #[.int .i64 0,.int .i64 0,.slice none 0 0,.slice none 0 0,.int .i64 0,.int .i64 0] 28 (0,0)) (hGq BK219.out) hb);have n3_ := zc.mk (zj hCq hb);have n4_ := zc.mk (hbox);have n5_ := zc.mk ((by rw [hg];exact (zl hCq) : w.heap.size ≤ gb242));have n6_ := zc.mk ((by rw [hg];exact (zl hCq) : w.heap.size ≤ gb242));have n7_ := zc.mk ((by rw [hg];exact Nat.ne_of_lt (zP (g := gb219) (o := .cells #[.int .i64 0,.int .i64 0,.slice none 0 0,.slice none 0 0,.int .i64 0,.int .i64 0] 28 (0,0)) (hGq BK219.out)) : gb219 ≠ gb242));have n8_ := zc.mk ((by rw [hg];exact Nat.ne_of_gt (zP (g := gb219) (o := .cells #[.int .i64 0,.int .i64 0,.slice none 0 0,.slice none 0 0,.int .i64 0,.int .i64 0] 28 (0,0)) (hGq BK219.out)) : gb242 ≠ gb219));clear HO_12;clear HO_15;clear BK219;clear HB;have HO_12 := n0_;have HO_15 := n1_;have BK219 := n2_;have HB := n3_;have BK242 := n4_;have GW242 := n5_;have GE242 := n6_;have NB219_242 := n7_;have NB242_219 := n8_;clear n0_ n1_ n2_ n3_ n4_ n5_ n6_ n7_ n8_;clear hb hbox hg;have hnb31 := NB242_219.out;have hnc31 := NB219_242.out;have hcz32_0 : w30.cell? ⟨gb242,0,none⟩ = some (.int .i64 0) := (zb BK242.out 0).trans rfl;have hcz32_1 : w30.cell? ⟨gb242,1,none⟩ = some (.int .i64 0) := (zb BK242.out 1).trans rfl;have hcz32_2 : w30.cell? ⟨gb242,2,none⟩ = some (.slice none 0 0) := (zb BK242.out 2).trans rfl;have hcz32_3 : w30.cell? ⟨gb242,3,none⟩ = some (.slice none 0 0) := (zb BK242.out 3).trans rfl;have hcz32_4 : w30.cell? ⟨gb242,4,none⟩ = some (.int .i64 0) := (zb BK242.out 4).trans rfl;have hcz32_5 : w30.cell? ⟨gb242,5,none⟩ = some (.int .i64 0) := (zb BK242.out 5).trans rfl;have hfz32_0 := za BK242.out 0;have hfz32_1 := za BK242.out 1;have hfz32_2 := za BK242.out 2;have hfz32_3 := za BK242.out 3;have hfz32_4 := za BK242.out 4;have hfz32_5 := za BK242.out 5))
            go_loopg [25] kj23 (fun kq v25 w' => ∃ (x25_4 : Int) (x220000_4 : Int) (x220001_4 : Int) (x220004_4 : Int) (x220005_4 : Int) (x243002_4 : List (zY)) (u243002 : Value),v25 = .int .i64 x25_4 ∧ zc (zn.l0 kq a1 t226 x25_4 (wrap64 (t220)) (wrap64 (t223)) x243002_4 t231 (wrap64 (t236)) (wrap64 (t239)) = some (r1,r2,r3,r4,r5,r6,r7)) ∧ zc (kq ≤ kj23) ∧ zc (Kd.R Kd.string 9 w' w.heap.size (fun k_ => some k_ ≠ ((.slice Ao29 t231.length co29) : Value).ownBlock) v229 t226) ∧ zc (Kd.S zb1 107 w' w.heap.size (fun k_ => some k_ ≠ (v229 : Value).ownBlock ∧ some k_ ≠ ((.slice Ao29 t231.length co29) : Value).ownBlock) u243002 x243002_4) ∧ zc (Kd.R Kd.string 9 w' w.heap.size (fun k_ => some k_ ≠ (v229 : Value).ownBlock) (.slice Ao29 t231.length co29) t231) ∧ zc (w'.heap[gb219]? = some (.cells #[.int .i64 x220000_4,.int .i64 x220001_4,(.slice none 0 0),(.slice none 0 0),.int .i64 x220004_4,.int .i64 x220005_4] 28 (0,0))) ∧ zc (w'.heap[gb242]? = some (.cells #[.int .i64 (wrap64 (t220)),.int .i64 (wrap64 (t223)),u243002,(.slice Ao29 t231.length co29),.int .i64 (wrap64 (t236)),.int .i64 (wrap64 (t239))] 28 (0,0))) ∧ zc (Below w.heap.size w w'))
            case atStart => exact ⟨(0),(0),(0),(0),(0),(([] : List (zY))),(.slice none 0 0),(hDq),H',⟨Nat.le_refl _⟩,⟨by (with_reducible repeat (first | apply Kd.R_alloc | apply Kd.R_drewN | apply Kd.R_drew));exact Kd.R_mono (Kd.R_far (p := ⟨gb242,5,none⟩) (Kd.R_far (p := ⟨gb242,4,none⟩) (Kd.R_far (p := ⟨gb242,3,none⟩) (Kd.R_far (p := ⟨gb242,2,none⟩) (Kd.R_far (p := ⟨gb242,1,none⟩) (Kd.R_far (p := ⟨gb242,0,none⟩) (Kd.R_types HO_12.out BK242.out (by decide)) (fun _ hk => hk.2) (.int .i64 (wrap64 (t220)))) (fun _ hk => hk.2) (.int .i64 (wrap64 (t223)))) (fun _ hk => hk.2) (.slice none 0 0)) (fun _ hk => hk.2) (.slice Ao29 t231.length co29)) (fun _ hk => hk.2) (.int .i64 (wrap64 (t236)))) (fun _ hk => hk.2) (.int .i64 (wrap64 (t239)))) (fun _ hk => hk.1)⟩,⟨by first | exact Kd.S_nil _ _ _ _ _ | exact Kd.N_nil _ _ _ _ _ | exact Kd.V_nil _ _ _ _ _ | exact Kd.Q_nil _ _ _ _ _ | exact Kd.R_nil _ _ _ _ _⟩,⟨by (with_reducible repeat (first | apply Kd.R_alloc | apply Kd.R_drewN | apply Kd.R_drew));exact Kd.R_mono (Kd.R_far (p := ⟨gb242,5,none⟩) (Kd.R_far (p := ⟨gb242,4,none⟩) (Kd.R_far (p := ⟨gb242,3,none⟩) (Kd.R_far (p := ⟨gb242,2,none⟩) (Kd.R_far (p := ⟨gb242,1,none⟩) (Kd.R_far (p := ⟨gb242,0,none⟩) (Kd.R_types HO_15.out BK242.out (by decide)) (fun _ hk => hk.2) (.int .i64 (wrap64 (t220)))) (fun _ hk => hk.2) (.int .i64 (wrap64 (t223)))) (fun _ hk => hk.2) (.slice none 0 0)) (fun _ hk => hk.2) (.slice Ao29 t231.length co29)) (fun _ hk => hk.2) (.int .i64 (wrap64 (t236)))) (fun _ hk => hk.2) (.int .i64 (wrap64 (t239)))) (fun _ hk => hk.1)⟩,⟨by (with_reducible repeat (first | refine zd ?_ _ | refine zf ?_ | refine ze ?_ _));refine zk ?_ NB219_242.out _;(with_reducible repeat (first | refine zd ?_ _ | refine zf ?_ | refine ze ?_ _));refine zk ?_ NB219_242.out _;(with_reducible repeat (first | refine zd ?_ _ | refine zf ?_ | refine ze ?_ _));refine zk ?_ NB219_242.out _;(with_reducible repeat (first | refine zd ?_ _ | refine zf ?_ | refine ze ?_ _));refine zk ?_ NB219_242.out _;(with_reducible repeat (first | refine zd ?_ _ | refine zf ?_ | refine ze ?_ _));refine zk ?_ NB219_242.out _;(with_reducible repeat (first | refine zd ?_ _ | refine zf ?_ | refine ze ?_ _));refine zk ?_ NB219_242.out _;(with_reducible repeat (first | refine zd ?_ _ | refine zf ?_ | refine ze ?_ _));exact BK219.out⟩,⟨by (with_reducible repeat (first | refine zd ?_ _ | refine zf ?_ | refine ze ?_ _));refine zi (cs := #[.int .i64 (wrap64 (t220)),.int .i64 (wrap64 (t223)),.slice none 0 0,.slice Ao29 t231.length co29,.int .i64 (wrap64 (t236)),.int .i64 0]) ?_ 5 _ rfl;(with_reducible repeat (first | refine zd ?_ _ | refine zf ?_ | refine ze ?_ _));refine zi (cs := #[.int .i64 (wrap64 (t220)),.int .i64 (wrap64 (t223)),.slice none 0 0,.slice Ao29 t231.length co29,.int .i64 0,.int .i64 0]) ?_ 4 _ rfl;(with_reducible repeat (first | refine zd ?_ _ | refine zf ?_ | refine ze ?_ _));refine zi (cs := #[.int .i64 (wrap64 (t220)),.int .i64 (wrap64 (t223)),.slice none 0 0,.slice none 0 0,.int .i64 0,.int .i64 0]) ?_ 3 _ rfl;(with_reducible repeat (first | refine zd ?_ _ | refine zf ?_ | refine ze ?_ _));refine zi (cs := #[.int .i64 (wrap64 (t220)),.int .i64 (wrap64 (t223)),.slice none 0 0,.slice none 0 0,.int .i64 0,.int .i64 0]) ?_ 2 _ rfl;(with_reducible repeat (first | refine zd ?_ _ | refine zf ?_ | refine ze ?_ _));refine zi (cs := #[.int .i64 (wrap64 (t220)),.int .i64 0,.slice none 0 0,.slice none 0 0,.int .i64 0,.int .i64 0]) ?_ 1 _ rfl;(with_reducible repeat (first | refine zd ?_ _ | refine zf ?_ | refine ze ?_ _));refine zi (cs := #[.int .i64 0,.int .i64 0,.slice none 0 0,.slice none 0 0,.int .i64 0,.int .i64 0]) ?_ 0 _ rfl;(with_reducible repeat (first | refine zd ?_ _ | refine zf ?_ | refine ze ?_ _));exact BK242.out⟩,⟨by repeat (first | (with_reducible first | exact HB.out | apply zA | apply zm | apply zJ | refine zg ?_ GE219.out | refine zg ?_ GE242.out) | exact HB.out)⟩⟩
            case round =>
             clear H'
             try clear c1
             try clear c2
             try clear p2
             try clear c3
             try clear c6
             try clear p6
             try clear c7
             try clear c7b0
             try clear c7b1
             try clear c8
             try clear c8b0
             try clear c8b1
             try clear c9
             try clear c9b0
             try clear c10
             try clear c13
             try clear c13b0
             try clear c13b1
             try clear c15
             try clear c15b0
             try clear c15b1
             try clear c20
             try clear c20b0
             try clear c20b1
             try clear c21
             try clear c25
             try clear c25b0
             try clear c25b1
             try clear c26
             try clear c26b0
             try clear c27
             try clear c28
             try clear c31
             try clear hcz11_0
             try clear hcz11_1
             try clear hcz11_2
             try clear hcz11_3
             try clear hcz11_4
             try clear hcz11_5
             try clear hcz22_0
             try clear hcz22_1
             try clear hcz22_2
             try clear hcz22_3
             try clear hcz22_4
             try clear hcz22_5
             try clear hcz28_0
             try clear hcz28_1
             try clear hcz28_2
             try clear hcz28_3
             try clear hcz28_4
             try clear hcz28_5
             try clear hcz32_0
             try clear hcz32_1
             try clear hcz32_2
             try clear hcz32_3
             try clear hcz32_4
             try clear hcz32_5
             try clear hfz11_0
             try clear hfz11_1
             try clear hfz11_2
             try clear hfz11_3
             try clear hfz11_4
             try clear hfz11_5
             try clear hfz22_0
             try clear hfz22_1
             try clear hfz22_2
             try clear hfz22_3
             try clear hfz22_4
             try clear hfz22_5
             try clear hfz28_0
             try clear hfz28_1
             try clear hfz28_2
             try clear hfz28_3
             try clear hfz28_4
             try clear hfz28_5
             try clear hfz32_0
             try clear hfz32_1
             try clear hfz32_2
             try clear hfz32_3
             try clear hfz32_4
             try clear hfz32_5
             try clear p2
             obtain ⟨x25_4,x220000_4,x220001_4,x220004_4,x220005_4,x243002_4,u243002,rfl,HA,HK4,HO_12,HO_243002,HO_243003,BK219,BK242,HB⟩ := hrel
             cases gk with
             | zero => exact absurd HA.out (by simp [zn.l0])
             | succ k4 =>
              have H := HA.out
              clear HA
              simp only [zn.l0] at H
              by_cases c33 : x25_4 < (t226.length : Int)
              ·rw [if_pos c33] at H
               have c33b0 : decide (x25_4 < (t226.length : Int)) = true := decide_eq_true c33
               clear c33
               by_cases c34 : 0 ≤ x25_4
               ·rw [if_pos c34] at H
                have c34b0 : decide (0 ≤ x25_4) = true := decide_eq_true c34
                clear c34
                replace H := Option.bind_eq_some_iff.mp H
                obtain ⟨⟨t244,t245,t246,t249⟩,A350,H⟩ := H
                replace H : (if t249 = 0 then (if x243002_4.length < 3518437208883 then (zn.l0 k4 a1 t226 (wrap64 (x25_4 + 1)) (wrap64 (t220)) (wrap64 (t223)) (x243002_4 ++ [(⟨t244,t245,t246⟩ : zY)]) t231 (wrap64 (t236)) (wrap64 (t239))) else (none)) else (some (0,0,([] : List (zY)),([] : List ByteArray),0,0,3))) = some (r1,r2,r3,r4,r5,r6,r7) := H
                have A35 := zc.mk A350
                clear A350
                by_cases c36 : t249 = 0
                ·rw [if_pos c36] at H
                 have c36b0 : (t249 == 0) = true := beq_iff_eq.mpr c36
                 have c36b1 : (t249 != 0) = false := bne_eq_false_iff_eq.mpr c36
                 clear c36
                 by_cases c37 : x243002_4.length < 3518437208883
                 ·rw [if_pos c37] at H
                  have LMc37 := zc.mk c37
                  clear c37
                  obtain ⟨y251,hy251⟩ : ∃ y_ : List (zY),y_ = (x243002_4 ++ [(⟨t244,t245,t246⟩ : zY)]) := ⟨_,rfl⟩
                  replace H : (zn.l0 k4 a1 t226 (wrap64 (x25_4 + 1)) (wrap64 (t220)) (wrap64 (t223)) y251 t231 (wrap64 (t236)) (wrap64 (t239))) = some (r1,r2,r3,r4,r5,r6,r7) := by first | (rw [hy251];with_reducible exact H) | (have H2_ := (Option.bind_some _ _).symm.trans H;rw [hy251];with_reducible exact H2_) | (have H2_ := (Option.bind_some _ _).symm.trans H;with_reducible exact H2_) | with_reducible exact H | (rw [hy251];exact H) | exact H
                  have Ny251 := zc.mk hy251
                  clear hy251
                  have H' := zc.mk H
                  clear H
                  obtain ⟨Ao38,co38,eo38⟩ := Kd.R_slice HO_12.out
                  subst eo38
                  have p243 : 0 ≤ (x25_4 : Int) := hFq
                  have q243 : x25_4 < (t226.length : Int) := hFq
                  obtain ⟨ad243,e243,hx243_0⟩ := Kd.at_string (Kd.R_reads' HO_12.out).2.2 x25_4 p243 q243
                  cases e243
                  replace p243 := eq_true p243
                  replace q243 := eq_true q243
                  go_wp2_with (first | ((with_reducible refine zt (f := 62) rfl ?_);refine zU (some 127) rfl rfl Try.func62 (by kernel_rfl) rfl #[.string (zaF ByteArray.empty t226 x25_4)] rfl (by (try simp only [List.map_toArray,List.map_cons,List.map_nil]);first | done | rfl | (simp only [List.length_drop,List.length_take];rfl)) ?_;(with_reducible refine (zT.calls k4 (zaF ByteArray.empty t226 x25_4) t244 t245 t246 t249 _ A35.out).mono ?_);rintro e w39 ⟨v247,rfl,ho0,hb⟩;refine ⟨_,rfl,?_⟩;have n0_ := zc.mk (Kd.R_elder' (by (with_reducible repeat (first | apply Kd.R_alloc | apply Kd.R_drewN | apply Kd.R_drew));exact HO_12.out) (Kd.R_base ho0) hb);have n1_ := zc.mk (Kd.S_elder' (by (with_reducible repeat (first | apply Kd.S_alloc | apply Kd.S_drewN | apply Kd.S_drew));exact HO_243002.out) (Kd.R_base ho0) hb);have n2_ := zc.mk (Kd.R_elder' (by (with_reducible repeat (first | apply Kd.R_alloc | apply Kd.R_drewN | apply Kd.R_drew));exact HO_243003.out) (Kd.R_base ho0) hb);have n3_ := zc.mk (Kd.R_lower (Kd.R_new' (Kd.R_new' ho0 (Kd.R_lt (by (with_reducible repeat (first | apply Kd.R_alloc | apply Kd.R_drewN | apply Kd.R_drew));exact HO_12.out))) (Kd.R_lt (by (with_reducible repeat (first | apply Kd.R_alloc | apply Kd.R_drewN | apply Kd.R_drew));exact HO_243003.out))) (zl hCq));have n4_ := zc.mk (zh (g := gb219) (o := .cells #[.int .i64 x220000_4,.int .i64 x220001_4,.slice none 0 0,.slice none 0 0,.int .i64 x220004_4,.int .i64 x220005_4] 28 (0,0)) (hGq BK219.out) hb);have n5_ := zc.mk (zh (g := gb242) (o := .cells #[.int .i64 (wrap64 (t220)),.int .i64 (wrap64 (t223)),u243002,.slice Ao29 t231.length co29,.int .i64 (wrap64 (t236)),.int .i64 (wrap64 (t239))] 28 (0,0)) (hGq BK242.out) hb);have n6_ := zc.mk (zj hCq hb);clear HO_12;clear HO_243002;clear HO_243003;clear BK219;clear BK242;clear HB;have HO_12 := n0_;have HO_243002 := n1_;have HO_243003 := n2_;have HO248 := n3_;have BK219 := n4_;have BK242 := n5_;have HB := n6_;clear n0_ n1_ n2_ n3_ n4_ n5_ n6_;(try clear hb);(try clear hb2);(try clear hk);(try clear hi);(try clear ho0)) | ((with_reducible refine zu (N := 26) rfl ?_);(try (refine zaX (by rfl) ?_;dsimp only));refine zr ?hg (N := 26) ?hd (cs := #[.int .i64 0,.int .i64 0,.slice none 0 0]) (t := 107) ?hr ?_;(case hd => rfl);(case hg => rfl);(case hr => first | (go_simp;done) | (go_simp;rfl));intro gb250 hg w40 hbox hb;have n0_ := zc.mk (Kd.R_below (by (with_reducible repeat (first | apply Kd.R_alloc | apply Kd.R_drewN | apply Kd.R_drew));exact HO_12.out) hb);have n1_ := zc.mk (Kd.S_below (Kd.S_elderB (by (with_reducible repeat (first | apply Kd.S_alloc | apply Kd.S_drewN | apply Kd.S_drew));exact HO_243002.out) gb250 (Nat.le_of_eq hg.symm)) hb);have n2_ := zc.mk (Kd.R_below (by (with_reducible repeat (first | apply Kd.R_alloc | apply Kd.R_drewN | apply Kd.R_drew));exact HO_243003.out) hb);have n3_ := zc.mk (Kd.R_below (by (with_reducible repeat (first | apply Kd.R_alloc | apply Kd.R_drewN | apply Kd.R_drew));exact HO248.out) hb);have n4_ := zc.mk (zh (g := gb219) (o := .cells #[.int .i64 x220000_4,.int .i64 x220001_4,.slice none 0 0,.slice none 0 0,.int .i64 x220004_4,.int .i64 x220005_4] 28 (0,0)) (hGq BK219.out) hb);have n5_ := zc.mk (zh (g := gb242) (o := .cells #[.int .i64 (wrap64 (t220)),.int .i64 (wrap64 (t223)),u243002,.slice Ao29 t231.length co29,.int .i64 (wrap64 (t236)),.int .i64 (wrap64 (t239))] 28 (0,0)) (hGq BK242.out) hb);have n6_ := zc.mk (zj hCq hb);have n7_ := zc.mk (hbox);have n8_ := zc.mk ((by rw [hg];exact (zl hCq) : w.heap.size ≤ gb250));have n9_ := zc.mk ((by rw [hg];exact (zl hCq) : w.heap.size ≤ gb250));have n10_ := zc.mk ((by rw [hg];exact Nat.ne_of_lt (zP (g := gb219) (o := .cells #[.int .i64 x220000_4,.int .i64 x220001_4,.slice none 0 0,.slice none 0 0,.int .i64 x220004_4,.int .i64 x220005_4] 28 (0,0)) (hGq BK219.out)) : gb219 ≠ gb250));have n11_ := zc.mk ((by rw [hg];exact Nat.ne_of_gt (zP (g := gb219) (o := .cells #[.int .i64 x220000_4,.int .i64 x220001_4,.slice none 0 0,.slice none 0 0,.int .i64 x220004_4,.int .i64 x220005_4] 28 (0,0)) (hGq BK219.out)) : gb250 ≠ gb219));have n12_ := zc.mk ((by rw [hg];exact Nat.ne_of_lt (zP (g := gb242) (o := .cells #[.int .i64 (wrap64 (t220)),.int .i64 (wrap64 (t223)),u243002,.slice Ao29 t231.length co29,.int .i64 (wrap64 (t236)),.int .i64 (wrap64 (t239))] 28 (0,0)) (hGq BK242.out)) : gb242 ≠ gb250));have n13_ := zc.mk ((by rw [hg];exact Nat.ne_of_gt (zP (g := gb242) (o := .cells #[.int .i64 (wrap64 (t220)),.int .i64 (wrap64 (t223)),u243002,.slice Ao29 t231.length co29,.int .i64 (wrap64 (t236)),.int .i64 (wrap64 (t239))] 28 (0,0)) (hGq BK242.out)) : gb250 ≠ gb242));clear HO_12;clear HO_243002;clear HO_243003;clear HO248;clear BK219;clear BK242;clear HB;have HO_12 := n0_;have HO_243002 := n1_;have HO_243003 := n2_;have HO248 := n3_;have BK219 := n4_;have BK242 := n5_;have HB := n6_;have BK250 := n7_;have GW250 := n8_;have GE250 := n9_;have NB219_250 := n10_;have NB250_219 := n11_;have NB242_250 := n12_;have NB250_242 := n13_;clear n0_ n1_ n2_ n3_ n4_ n5_ n6_ n7_ n8_ n9_ n10_ n11_ n12_ n13_;clear hb hbox hg;have hnb41 := NB250_219.out;have hnc41 := NB219_250.out;have hnb42 := NB250_242.out;have hnc42 := NB242_250.out;have hcz43_0 : w40.cell? ⟨gb250,0,none⟩ = some (.int .i64 0) := (zb BK250.out 0).trans rfl;have hcz43_1 : w40.cell? ⟨gb250,1,none⟩ = some (.int .i64 0) := (zb BK250.out 1).trans rfl;have hcz43_2 : w40.cell? ⟨gb250,2,none⟩ = some (.slice none 0 0) := (zb BK250.out 2).trans rfl;have hfz43_0 := za BK250.out 0;have hfz43_1 := za BK250.out 1;have hfz43_2 := za BK250.out 2;obtain ⟨Ao44,co44,eo44⟩ := Kd.R_slice HO248.out;subst eo44) | ((with_reducible refine zeL (t := 107) (p := 26) rfl ?_);refine zek (t := 107) (p := 26) (v := ?vo_w45) (w1 := (((w40.setCell ⟨gb250,0,none⟩ (.int .i64 t244)).setCell ⟨gb250,1,none⟩ (.int .i64 t245)).setCell ⟨gb250,2,none⟩ (.slice Ao44 t246.length co44))) ?hg ?ho ?hn ?hr ?_;(case ho => rfl);(case hg => rfl);(case hn => rfl);(case hr => first | (go_simp;done) | (go_simp;rfl));intro w45 hw;have n0_ : zc (Kd.R Kd.string 9 w45 w.heap.size (fun k_ => some k_ ≠ (.slice Ao29 t231.length co29 : Value).ownBlock ∧ some k_ ≠ (.slice Ao44 t246.length co44 : Value).ownBlock) (.slice (some ad243) t226.length co38) t226) := ⟨(by rw [hw];exact (by (with_reducible repeat (first | apply Kd.R_alloc | apply Kd.R_drewN | apply Kd.R_drew));exact Kd.R_mono (Kd.R_far (p := ⟨gb250,2,none⟩) (Kd.R_far (p := ⟨gb250,1,none⟩) (Kd.R_far (p := ⟨gb250,0,none⟩) (Kd.R_types HO_12.out BK250.out (by decide)) (fun _ hk => hk.2) (.int .i64 t244)) (fun _ hk => hk.2) (.int .i64 t245)) (fun _ hk => hk.2) (.slice Ao44 t246.length co44)) (fun _ hk => ⟨hk.1.1,hk.1.2⟩)))⟩;have n1_ : zc (Kd.S zb1 107 w45 w.heap.size (fun k_ => some k_ ≠ (.slice (some ad243) t226.length co38 : Value).ownBlock ∧ some k_ ≠ (.slice Ao29 t231.length co29 : Value).ownBlock ∧ some k_ ≠ (.slice Ao44 t246.length co44 : Value).ownBlock ∧ k_ ≠ gb250) u243002 x243002_4) := ⟨(by rw [hw];exact (by (with_reducible repeat (first | apply Kd.S_alloc | apply Kd.S_drewN | apply Kd.S_drew));exact Kd.S_mono (Kd.S_far (p := ⟨gb250,2,none⟩) (Kd.S_far (p := ⟨gb250,1,none⟩) (Kd.S_far (p := ⟨gb250,0,none⟩) (Kd.S_mono HO_243002.out (fun k_ hk => (⟨hk,hk.2⟩ : _ ∧ k_ ≠ gb250))) (fun _ hk => hk.2) (.int .i64 t244)) (fun _ hk => hk.2) (.int .i64 t245)) (fun _ hk => hk.2) (.slice Ao44 t246.length co44)) (fun _ hk => ⟨hk.1.1.1.1,⟨hk.1.1.1.2,⟨hk.1.1.2,hk.1.2⟩⟩⟩)))⟩;have n2_ : zc (Kd.R Kd.string 9 w45 w.heap.size (fun k_ => some k_ ≠ (.slice (some ad243) t226.length co38 : Value).ownBlock ∧ some k_ ≠ (.slice Ao44 t246.length co44 : Value).ownBlock) (.slice Ao29 t231.length co29) t231) := ⟨(by rw [hw];exact (by (with_reducible repeat (first | apply Kd.R_alloc | apply Kd.R_drewN | apply Kd.R_drew));exact Kd.R_mono (Kd.R_far (p := ⟨gb250,2,none⟩) (Kd.R_far (p := ⟨gb250,1,none⟩) (Kd.R_far (p := ⟨gb250,0,none⟩) (Kd.R_types HO_243003.out BK250.out (by decide)) (fun _ hk => hk.2) (.int .i64 t244)) (fun _ hk => hk.2) (.int .i64 t245)) (fun _ hk => hk.2) (.slice Ao44 t246.length co44)) (fun _ hk => ⟨hk.1.1,hk.1.2⟩)))⟩;have n3_ : zc (Kd.R Kd.string 9 w45 w.heap.size (fun k_ => some k_ ≠ (.slice (some ad243) t226.length co38 : Value).ownBlock ∧ some k_ ≠ (.slice Ao29 t231.length co29 : Value).ownBlock) (.slice Ao44 t246.length co44) t246) := ⟨(by rw [hw];exact (by (with_reducible repeat (first | apply Kd.R_alloc | apply Kd.R_drewN | apply Kd.R_drew));exact Kd.R_mono (Kd.R_far (p := ⟨gb250,2,none⟩) (Kd.R_far (p := ⟨gb250,1,none⟩) (Kd.R_far (p := ⟨gb250,0,none⟩) (Kd.R_types HO248.out BK250.out (by decide)) (fun _ hk => hk.2) (.int .i64 t244)) (fun _ hk => hk.2) (.int .i64 t245)) (fun _ hk => hk.2) (.slice Ao44 t246.length co44)) (fun _ hk => ⟨hk.1.1.2,hk.1.2⟩)))⟩;have n4_ : zc (w45.heap[gb219]? = some (.cells #[.int .i64 x220000_4,.int .i64 x220001_4,.slice none 0 0,.slice none 0 0,.int .i64 x220004_4,.int .i64 x220005_4] 28 (0,0))) := ⟨(by rw [hw];exact (by (with_reducible repeat (first | refine zd ?_ _ | refine zf ?_ | refine ze ?_ _));refine zk ?_ NB219_250.out _;(with_reducible repeat (first | refine zd ?_ _ | refine zf ?_ | refine ze ?_ _));refine zk ?_ NB219_250.out _;(with_reducible repeat (first | refine zd ?_ _ | refine zf ?_ | refine ze ?_ _));refine zk ?_ NB219_250.out _;(with_reducible repeat (first | refine zd ?_ _ | refine zf ?_ | refine ze ?_ _));exact BK219.out))⟩;have n5_ : zc (w45.heap[gb242]? = some (.cells #[.int .i64 (wrap64 (t220)),.int .i64 (wrap64 (t223)),u243002,.slice Ao29 t231.length co29,.int .i64 (wrap64 (t236)),.int .i64 (wrap64 (t239))] 28 (0,0))) := ⟨(by rw [hw];exact (by (with_reducible repeat (first | refine zd ?_ _ | refine zf ?_ | refine ze ?_ _));refine zk ?_ NB242_250.out _;(with_reducible repeat (first | refine zd ?_ _ | refine zf ?_ | refine ze ?_ _));refine zk ?_ NB242_250.out _;(with_reducible repeat (first | refine zd ?_ _ | refine zf ?_ | refine ze ?_ _));refine zk ?_ NB242_250.out _;(with_reducible repeat (first | refine zd ?_ _ | refine zf ?_ | refine ze ?_ _));exact BK242.out))⟩;have n6_ : zc (w45.heap[gb250]? = some (.cells #[.int .i64 t244,.int .i64 t245,.slice Ao44 t246.length co44] 107 (0,0))) := ⟨(by rw [hw];exact (by (with_reducible repeat (first | refine zd ?_ _ | refine zf ?_ | refine ze ?_ _));refine zi (cs := #[.int .i64 t244,.int .i64 t245,.slice none 0 0]) ?_ 2 _ rfl;(with_reducible repeat (first | refine zd ?_ _ | refine zf ?_ | refine ze ?_ _));refine zi (cs := #[.int .i64 t244,.int .i64 0,.slice none 0 0]) ?_ 1 _ rfl;(with_reducible repeat (first | refine zd ?_ _ | refine zf ?_ | refine ze ?_ _));refine zi (cs := #[.int .i64 0,.int .i64 0,.slice none 0 0]) ?_ 0 _ rfl;(with_reducible repeat (first | refine zd ?_ _ | refine zf ?_ | refine ze ?_ _));exact BK250.out))⟩;have n7_ : zc (Below w.heap.size w w45) := ⟨(by rw [hw];exact hCq)⟩;clear hw;clear HO_12;clear HO_243002;clear HO_243003;clear HO248;clear BK219;clear BK242;clear BK250;clear HB;have HO_12 := n0_;have HO_243002 := n1_;have HO_243003 := n2_;have HO248 := n3_;have BK219 := n4_;have BK242 := n5_;have BK250 := n6_;have HB := n7_;clear n0_ n1_ n2_ n3_ n4_ n5_ n6_ n7_;have hnb46 := NB242_219.out;have hnc46 := NB219_242.out;have hcz47_0 : w45.cell? ⟨gb242,0,none⟩ = some (.int .i64 (wrap64 (t220))) := (zb BK242.out 0).trans rfl;have hcz47_1 : w45.cell? ⟨gb242,1,none⟩ = some (.int .i64 (wrap64 (t223))) := (zb BK242.out 1).trans rfl;have hcz47_2 : w45.cell? ⟨gb242,2,none⟩ = some (u243002) := (zb BK242.out 2).trans rfl;have hcz47_3 : w45.cell? ⟨gb242,3,none⟩ = some (.slice Ao29 t231.length co29) := (zb BK242.out 3).trans rfl;have hcz47_4 : w45.cell? ⟨gb242,4,none⟩ = some (.int .i64 (wrap64 (t236))) := (zb BK242.out 4).trans rfl;have hcz47_5 : w45.cell? ⟨gb242,5,none⟩ = some (.int .i64 (wrap64 (t239))) := (zb BK242.out 5).trans rfl;have hfz47_0 := za BK242.out 0;have hfz47_1 := za BK242.out 1;have hfz47_2 := za BK242.out 2;have hfz47_3 := za BK242.out 3;have hfz47_4 := za BK242.out 4;have hfz47_5 := za BK242.out 5;have hcz48_0 : w45.cell? ⟨gb250,0,none⟩ = some (.int .i64 t244) := (zb BK250.out 0).trans rfl;have hcz48_1 : w45.cell? ⟨gb250,1,none⟩ = some (.int .i64 t245) := (zb BK250.out 1).trans rfl;have hcz48_2 : w45.cell? ⟨gb250,2,none⟩ = some (.slice Ao44 t246.length co44) := (zb BK250.out 2).trans rfl;have hfz48_0 := za BK250.out 0;have hfz48_1 := za BK250.out 1;have hfz48_2 := za BK250.out 2) | ((with_reducible refine zcC (b := .append) (xs := #[.tmp 134,.tmp 136]) rfl ?_);(try (refine zaX (by rfl) ?_;dsimp only));at_builtin;refine Kd.S_append zb1 (w0 := w) w.heap.size rfl (.tmp 134) (.tmp 136) 23 107 (.agg #[(.int .i64 0),(.int .i64 0),(.slice none 0 0)]) 40 rfl Try.underlying23 zgK rfl (by decide) (by omega) u243002 x243002_4 (⟨t244,t245,t246⟩ : zY) [.int .i64 t244,.int .i64 t245,.slice Ao44 t246.length co44] (fun k_ => some k_ ≠ (.slice (some ad243) t226.length co38 : Value).ownBlock ∧ some k_ ≠ (.slice Ao29 t231.length co29 : Value).ownBlock ∧ k_ ≠ gb250) (fun k_ => some k_ = (.slice Ao44 t246.length co44 : Value).ownBlock) rfl rfl ?aP (fun k_ hk_ => ((Kd.R_mono (ok' := fun k_ => ((fun k_ => some k_ ≠ (.slice (some ad243) t226.length co38 : Value).ownBlock ∧ some k_ ≠ (.slice Ao29 t231.length co29 : Value).ownBlock ∧ k_ ≠ gb250)) k_ ∧ some k_ ≠ (u243002 : Value).ownBlock) (Kd.R_types (Kd.R_apart' (HO248.out) (Kd.S_typed HO_243002.out) (by decide)) BK250.out (by decide)) (fun k_ hk => ⟨⟨hk.1.1.1,⟨hk.1.1.2,hk.2⟩⟩,hk.1.2⟩))).1 k_ hk_.symm) ?aF ?aO ?aB ?aS ?aL ?_;(case aP => exact zga _ _ _ (⟨t244,t245,t246⟩ : zY) (Kd.R_mono (Kd.R_tight rfl (Kd.R_mono (ok' := fun k_ => ((fun k_ => some k_ ≠ (.slice (some ad243) t226.length co38 : Value).ownBlock ∧ some k_ ≠ (.slice Ao29 t231.length co29 : Value).ownBlock ∧ k_ ≠ gb250)) k_ ∧ some k_ ≠ (u243002 : Value).ownBlock) (Kd.R_types (Kd.R_apart' (HO248.out) (Kd.S_typed HO_243002.out) (by decide)) BK250.out (by decide)) (fun k_ hk => ⟨⟨hk.1.1.1,⟨hk.1.1.2,hk.2⟩⟩,hk.1.2⟩))) (fun _ h_ => h_)));(case aB => exact hCq);(case aF => exact (fun k_ hk => ⟨Kd.fresh' (Kd.R_lt (by (with_reducible repeat (first | apply Kd.R_alloc | apply Kd.R_drewN | apply Kd.R_drew));exact HO_12.out)) k_ hk,Kd.fresh' (Kd.R_lt (by (with_reducible repeat (first | apply Kd.R_alloc | apply Kd.R_drewN | apply Kd.R_drew));exact HO_243003.out)) k_ hk,Kd.freshB (g := gb250) (o := .cells #[.int .i64 t244,.int .i64 t245,.slice Ao44 t246.length co44] 107 (0,0)) (hGq BK250.out) k_ hk⟩));(case aO => exact (by (with_reducible repeat (first | apply Kd.S_alloc | apply Kd.S_drewN | apply Kd.S_drew));exact Kd.S_mono HO_243002.out (fun k_ hk => ⟨⟨hk.1,⟨hk.2.1,hk.2.2.2⟩⟩,fun e_ => hk.2.2.1 e_⟩)));(case aS => exact (zl hCq));(case aL => have := LMc37.out;omega);intro v252 w49 ho hb hg hat;rw [← Ny251.out] at ho;have n0_ := zc.mk (Kd.R_over' (by (with_reducible repeat (first | apply Kd.R_alloc | apply Kd.R_drewN | apply Kd.R_drew));exact HO_12.out) (Kd.S_typed (by (with_reducible repeat (first | apply Kd.S_alloc | apply Kd.S_drewN | apply Kd.S_drew));exact HO_243002.out)) (by decide) hg);have n1_ := zc.mk (Kd.R_over' (by (with_reducible repeat (first | apply Kd.R_alloc | apply Kd.R_drewN | apply Kd.R_drew));exact HO_243003.out) (Kd.S_typed (by (with_reducible repeat (first | apply Kd.S_alloc | apply Kd.S_drewN | apply Kd.S_drew));exact HO_243002.out)) (by decide) hg);have n2_ := zc.mk (zb7 (g := gb219) (o := .cells #[.int .i64 x220000_4,.int .i64 x220001_4,.slice none 0 0,.slice none 0 0,.int .i64 x220004_4,.int .i64 x220005_4] 28 (0,0)) (hGq BK219.out) hg (Kd.S_ne HO_243002.out BK219.out (by decide)));have n3_ := zc.mk (zb7 (g := gb242) (o := .cells #[.int .i64 (wrap64 (t220)),.int .i64 (wrap64 (t223)),u243002,.slice Ao29 t231.length co29,.int .i64 (wrap64 (t236)),.int .i64 (wrap64 (t239))] 28 (0,0)) (hGq BK242.out) hg (Kd.S_ne HO_243002.out BK242.out (by decide)));have n4_ := zc.mk (zb7 (g := gb250) (o := .cells #[.int .i64 t244,.int .i64 t245,.slice Ao44 t246.length co44] 107 (0,0)) (hGq BK250.out) hg (Kd.S_away HO_243002.out (fun _ hk => hk.2.2.2)));have n5_ := zc.mk (hb);have n6_ := zc.mk (ho);clear HO_12;clear HO_243003;clear BK219;clear BK242;clear BK250;clear HB;clear HO_243002;clear HO248;have HO_12 := n0_;have HO_243003 := n1_;have BK219 := n2_;have BK242 := n3_;have BK250 := n4_;have HB := n5_;have HO253 := n6_;clear n0_ n1_ n2_ n3_ n4_ n5_ n6_;clear ho hb hg hat;obtain ⟨Ao50,co50,eo50⟩ := Kd.S_slice HO253.out;subst eo50;have hcz51_0 : w49.cell? ⟨gb242,0,none⟩ = some (.int .i64 (wrap64 (t220))) := (zb BK242.out 0).trans rfl;have hcz51_1 : w49.cell? ⟨gb242,1,none⟩ = some (.int .i64 (wrap64 (t223))) := (zb BK242.out 1).trans rfl;have hcz51_2 : w49.cell? ⟨gb242,2,none⟩ = some (u243002) := (zb BK242.out 2).trans rfl;have hcz51_3 : w49.cell? ⟨gb242,3,none⟩ = some (.slice Ao29 t231.length co29) := (zb BK242.out 3).trans rfl;have hcz51_4 : w49.cell? ⟨gb242,4,none⟩ = some (.int .i64 (wrap64 (t236))) := (zb BK242.out 4).trans rfl;have hcz51_5 : w49.cell? ⟨gb242,5,none⟩ = some (.int .i64 (wrap64 (t239))) := (zb BK242.out 5).trans rfl;have hfz51_0 := za BK242.out 0;have hfz51_1 := za BK242.out 1;have hfz51_2 := za BK242.out 2;have hfz51_3 := za BK242.out 3;have hfz51_4 := za BK242.out 4;have hfz51_5 := za BK242.out 5))
                  go_roundg k4
                  case measure => have := HJ4.out;have := HJ16.out;have := HJ23.out;have := HK4.out;omega
                  case rel => exact ⟨(wrap64 (x25_4 + 1)),(x220000_4),(x220001_4),(x220004_4),(x220005_4),(y251),(.slice Ao50 y251.length co50),(hDq),H',⟨by have := HJ4.out;have := HJ16.out;have := HJ23.out;have := HK4.out;omega⟩,⟨by (with_reducible repeat (first | apply Kd.R_alloc | apply Kd.R_drewN | apply Kd.R_drew));exact Kd.R_mono (Kd.R_far (p := ⟨gb242,2,none⟩) (Kd.R_types HO_12.out BK242.out (by decide)) (fun _ hk => hk.2) (.slice Ao50 y251.length co50)) (fun _ hk => hk.1.1)⟩,⟨by (with_reducible repeat (first | apply Kd.S_alloc | apply Kd.S_drewN | apply Kd.S_drew));exact Kd.S_mono (Kd.S_far (p := ⟨gb242,2,none⟩) (Kd.S_types HO253.out BK242.out (by decide)) (fun _ hk => hk.2) (.slice Ao50 y251.length co50)) (fun _ hk => ⟨hk.1.1,hk.1.2.1⟩)⟩,⟨by (with_reducible repeat (first | apply Kd.R_alloc | apply Kd.R_drewN | apply Kd.R_drew));exact Kd.R_mono (Kd.R_far (p := ⟨gb242,2,none⟩) (Kd.R_types HO_243003.out BK242.out (by decide)) (fun _ hk => hk.2) (.slice Ao50 y251.length co50)) (fun _ hk => hk.1.1)⟩,⟨by (with_reducible repeat (first | refine zd ?_ _ | refine zf ?_ | refine ze ?_ _));refine zk ?_ NB219_242.out _;(with_reducible repeat (first | refine zd ?_ _ | refine zf ?_ | refine ze ?_ _));exact BK219.out⟩,⟨by (with_reducible repeat (first | refine zd ?_ _ | refine zf ?_ | refine ze ?_ _));refine zi (cs := #[.int .i64 (wrap64 (t220)),.int .i64 (wrap64 (t223)),u243002,.slice Ao29 t231.length co29,.int .i64 (wrap64 (t236)),.int .i64 (wrap64 (t239))]) ?_ 2 _ rfl;(with_reducible repeat (first | refine zd ?_ _ | refine zf ?_ | refine ze ?_ _));exact BK242.out⟩,⟨by repeat (first | (with_reducible first | exact HB.out | apply zA | apply zm | apply zJ | refine zg ?_ GE219.out | refine zg ?_ GE242.out | refine zg ?_ GE250.out) | exact HB.out)⟩⟩
                 ·rw [if_neg c37] at H
                  exact absurd H (by simp)
                ·rw [if_neg c36] at H
                 have c36b0 : (t249 == 0) = false := beq_eq_false_iff_ne.mpr c36
                 have c36b1 : (t249 != 0) = true := bne_iff_ne.mpr c36
                 simp only [Option.some.injEq,Prod.mk.injEq] at H
                 obtain ⟨rfl,rfl,rfl,rfl,rfl,rfl,rfl⟩ := H
                 obtain ⟨Ao52,co52,eo52⟩ := Kd.R_slice HO_12.out
                 subst eo52
                 have p243 : 0 ≤ (x25_4 : Int) := hFq
                 have q243 : x25_4 < (t226.length : Int) := hFq
                 obtain ⟨ad243,e243,hx243_0⟩ := Kd.at_string (Kd.R_reads' HO_12.out).2.2 x25_4 p243 q243
                 cases e243
                 replace p243 := eq_true p243
                 replace q243 := eq_true q243
                 go_wp2_with (first | ((with_reducible refine zt (f := 62) rfl ?_);refine zU (some 127) rfl rfl Try.func62 (by kernel_rfl) rfl #[.string (zaF ByteArray.empty t226 x25_4)] rfl (by (try simp only [List.map_toArray,List.map_cons,List.map_nil]);first | done | rfl | (simp only [List.length_drop,List.length_take];rfl)) ?_;(with_reducible refine (zT.calls k4 (zaF ByteArray.empty t226 x25_4) t244 t245 t246 t249 _ A35.out).mono ?_);rintro e w53 ⟨v247,rfl,ho0,hb⟩;refine ⟨_,rfl,?_⟩;have n0_ := zc.mk (Kd.R_elder' (by (with_reducible repeat (first | apply Kd.R_alloc | apply Kd.R_drewN | apply Kd.R_drew));exact HO_12.out) (Kd.R_base ho0) hb);have n1_ := zc.mk (Kd.S_elder' (by (with_reducible repeat (first | apply Kd.S_alloc | apply Kd.S_drewN | apply Kd.S_drew));exact HO_243002.out) (Kd.R_base ho0) hb);have n2_ := zc.mk (Kd.R_elder' (by (with_reducible repeat (first | apply Kd.R_alloc | apply Kd.R_drewN | apply Kd.R_drew));exact HO_243003.out) (Kd.R_base ho0) hb);have n3_ := zc.mk (Kd.R_lower (Kd.R_new' (Kd.R_new' ho0 (Kd.R_lt (by (with_reducible repeat (first | apply Kd.R_alloc | apply Kd.R_drewN | apply Kd.R_drew));exact HO_12.out))) (Kd.R_lt (by (with_reducible repeat (first | apply Kd.R_alloc | apply Kd.R_drewN | apply Kd.R_drew));exact HO_243003.out))) (zl hCq));have n4_ := zc.mk (zh (g := gb219) (o := .cells #[.int .i64 x220000_4,.int .i64 x220001_4,.slice none 0 0,.slice none 0 0,.int .i64 x220004_4,.int .i64 x220005_4] 28 (0,0)) (hGq BK219.out) hb);have n5_ := zc.mk (zh (g := gb242) (o := .cells #[.int .i64 (wrap64 (t220)),.int .i64 (wrap64 (t223)),u243002,.slice Ao29 t231.length co29,.int .i64 (wrap64 (t236)),.int .i64 (wrap64 (t239))] 28 (0,0)) (hGq BK242.out) hb);have n6_ := zc.mk (zj hCq hb);clear HO_12;clear HO_243002;clear HO_243003;clear BK219;clear BK242;clear HB;have HO_12 := n0_;have HO_243002 := n1_;have HO_243003 := n2_;have HO248 := n3_;have BK219 := n4_;have BK242 := n5_;have HB := n6_;clear n0_ n1_ n2_ n3_ n4_ n5_ n6_;(try clear hb);(try clear hb2);(try clear hk);(try clear hi);(try clear ho0)) | ((with_reducible refine zu (N := 26) rfl ?_);(try (refine zaX (by rfl) ?_;dsimp only));refine zr ?hg (N := 26) ?hd (cs := #[.int .i64 0,.int .i64 0,.slice none 0 0]) (t := 107) ?hr ?_;(case hd => rfl);(case hg => rfl);(case hr => first | (go_simp;done) | (go_simp;rfl));intro gb250 hg w54 hbox hb;have n0_ := zc.mk (Kd.R_below (by (with_reducible repeat (first | apply Kd.R_alloc | apply Kd.R_drewN | apply Kd.R_drew));exact HO_12.out) hb);have n1_ := zc.mk (Kd.S_below (Kd.S_elderB (by (with_reducible repeat (first | apply Kd.S_alloc | apply Kd.S_drewN | apply Kd.S_drew));exact HO_243002.out) gb250 (Nat.le_of_eq hg.symm)) hb);have n2_ := zc.mk (Kd.R_below (by (with_reducible repeat (first | apply Kd.R_alloc | apply Kd.R_drewN | apply Kd.R_drew));exact HO_243003.out) hb);have n3_ := zc.mk (Kd.R_below (by (with_reducible repeat (first | apply Kd.R_alloc | apply Kd.R_drewN | apply Kd.R_drew));exact HO248.out) hb);have n4_ := zc.mk (zh (g := gb219) (o := .cells #[.int .i64 x220000_4,.int .i64 x220001_4,.slice none 0 0,.slice none 0 0,.int .i64 x220004_4,.int .i64 x220005_4] 28 (0,0)) (hGq BK219.out) hb);have n5_ := zc.mk (zh (g := gb242) (o := .cells #[.int .i64 (wrap64 (t220)),.int .i64 (wrap64 (t223)),u243002,.slice Ao29 t231.length co29,.int .i64 (wrap64 (t236)),.int .i64 (wrap64 (t239))] 28 (0,0)) (hGq BK242.out) hb);have n6_ := zc.mk (zj hCq hb);have n7_ := zc.mk (hbox);have n8_ := zc.mk ((by rw [hg];exact (zl hCq) : w.heap.size ≤ gb250));have n9_ := zc.mk ((by rw [hg];exact (zl hCq) : w.heap.size ≤ gb250));have n10_ := zc.mk ((by rw [hg];exact Nat.ne_of_lt (zP (g := gb219) (o := .cells #[.int .i64 x220000_4,.int .i64 x220001_4,.slice none 0 0,.slice none 0 0,.int .i64 x220004_4,.int .i64 x220005_4] 28 (0,0)) (hGq BK219.out)) : gb219 ≠ gb250));have n11_ := zc.mk ((by rw [hg];exact Nat.ne_of_gt (zP (g := gb219) (o := .cells #[.int .i64 x220000_4,.int .i64 x220001_4,.slice none 0 0,.slice none 0 0,.int .i64 x220004_4,.int .i64 x220005_4] 28 (0,0)) (hGq BK219.out)) : gb250 ≠ gb219));have n12_ := zc.mk ((by rw [hg];exact Nat.ne_of_lt (zP (g := gb242) (o := .cells #[.int .i64 (wrap64 (t220)),.int .i64 (wrap64 (t223)),u243002,.slice Ao29 t231.length co29,.int .i64 (wrap64 (t236)),.int .i64 (wrap64 (t239))] 28 (0,0)) (hGq BK242.out)) : gb242 ≠ gb250));have n13_ := zc.mk ((by rw [hg];exact Nat.ne_of_gt (zP (g := gb242) (o := .cells #[.int .i64 (wrap64 (t220)),.int .i64 (wrap64 (t223)),u243002,.slice Ao29 t231.length co29,.int .i64 (wrap64 (t236)),.int .i64 (wrap64 (t239))] 28 (0,0)) (hGq BK242.out)) : gb250 ≠ gb242));clear HO_12;clear HO_243002;clear HO_243003;clear HO248;clear BK219;clear BK242;clear HB;have HO_12 := n0_;have HO_243002 := n1_;have HO_243003 := n2_;have HO248 := n3_;have BK219 := n4_;have BK242 := n5_;have HB := n6_;have BK250 := n7_;have GW250 := n8_;have GE250 := n9_;have NB219_250 := n10_;have NB250_219 := n11_;have NB242_250 := n12_;have NB250_242 := n13_;clear n0_ n1_ n2_ n3_ n4_ n5_ n6_ n7_ n8_ n9_ n10_ n11_ n12_ n13_;clear hb hbox hg;have hnb55 := NB250_219.out;have hnc55 := NB219_250.out;have hnb56 := NB250_242.out;have hnc56 := NB242_250.out;have hcz57_0 : w54.cell? ⟨gb250,0,none⟩ = some (.int .i64 0) := (zb BK250.out 0).trans rfl;have hcz57_1 : w54.cell? ⟨gb250,1,none⟩ = some (.int .i64 0) := (zb BK250.out 1).trans rfl;have hcz57_2 : w54.cell? ⟨gb250,2,none⟩ = some (.slice none 0 0) := (zb BK250.out 2).trans rfl;have hfz57_0 := za BK250.out 0;have hfz57_1 := za BK250.out 1;have hfz57_2 := za BK250.out 2;obtain ⟨Ao58,co58,eo58⟩ := Kd.R_slice HO248.out;subst eo58;have hnb59 := NB219_242.out;have hnc59 := NB242_219.out;have hcz60_0 : w54.cell? ⟨gb219,0,none⟩ = some (.int .i64 x220000_4) := (zb BK219.out 0).trans rfl;have hcz60_1 : w54.cell? ⟨gb219,1,none⟩ = some (.int .i64 x220001_4) := (zb BK219.out 1).trans rfl;have hcz60_2 : w54.cell? ⟨gb219,2,none⟩ = some (.slice none 0 0) := (zb BK219.out 2).trans rfl;have hcz60_3 : w54.cell? ⟨gb219,3,none⟩ = some (.slice none 0 0) := (zb BK219.out 3).trans rfl;have hcz60_4 : w54.cell? ⟨gb219,4,none⟩ = some (.int .i64 x220004_4) := (zb BK219.out 4).trans rfl;have hcz60_5 : w54.cell? ⟨gb219,5,none⟩ = some (.int .i64 x220005_4) := (zb BK219.out 5).trans rfl;have hfz60_0 := za BK219.out 0;have hfz60_1 := za BK219.out 1;have hfz60_2 := za BK219.out 2;have hfz60_3 := za BK219.out 3;have hfz60_4 := za BK219.out 4;have hfz60_5 := za BK219.out 5))
                 refine bodyPost_ret (z9 rfl _ _ gb219 28 #[.int .i64 0,.int .i64 0,.slice none 0 0,.slice none 0 0,.int .i64 0,.int .i64 0] (0,0) _ rfl (by (with_reducible repeat (first | refine zd ?_ _ | refine zf ?_ | refine ze ?_ _));refine zi (cs := #[.int .i64 0,.int .i64 0,.slice none 0 0,.slice none 0 0,.int .i64 0,.int .i64 x220005_4]) ?_ 5 _ rfl;(with_reducible repeat (first | refine zd ?_ _ | refine zf ?_ | refine ze ?_ _));refine zi (cs := #[.int .i64 0,.int .i64 0,.slice none 0 0,.slice none 0 0,.int .i64 x220004_4,.int .i64 x220005_4]) ?_ 4 _ rfl;(with_reducible repeat (first | refine zd ?_ _ | refine zf ?_ | refine ze ?_ _));refine zi (cs := #[.int .i64 0,.int .i64 0,.slice none 0 0,.slice none 0 0,.int .i64 x220004_4,.int .i64 x220005_4]) ?_ 3 _ rfl;(with_reducible repeat (first | refine zd ?_ _ | refine zf ?_ | refine ze ?_ _));refine zi (cs := #[.int .i64 0,.int .i64 0,.slice none 0 0,.slice none 0 0,.int .i64 x220004_4,.int .i64 x220005_4]) ?_ 2 _ rfl;(with_reducible repeat (first | refine zd ?_ _ | refine zf ?_ | refine ze ?_ _));refine zi (cs := #[.int .i64 0,.int .i64 x220001_4,.slice none 0 0,.slice none 0 0,.int .i64 x220004_4,.int .i64 x220005_4]) ?_ 1 _ rfl;(with_reducible repeat (first | refine zd ?_ _ | refine zf ?_ | refine ze ?_ _));refine zi (cs := #[.int .i64 x220000_4,.int .i64 x220001_4,.slice none 0 0,.slice none 0 0,.int .i64 x220004_4,.int .i64 x220005_4]) ?_ 0 _ rfl;(with_reducible repeat (first | refine zd ?_ _ | refine zf ?_ | refine ze ?_ _));refine zk ?_ NB219_250.out _;(with_reducible repeat (first | refine zd ?_ _ | refine zf ?_ | refine ze ?_ _));refine zk ?_ NB219_250.out _;(with_reducible repeat (first | refine zd ?_ _ | refine zf ?_ | refine ze ?_ _));refine zk ?_ NB219_250.out _;(with_reducible repeat (first | refine zd ?_ _ | refine zf ?_ | refine ze ?_ _));exact BK219.out) Try.underlying28 rfl (by kernel_rfl)) rfl ?_
                 exact ⟨_,_,hHq,by first | exact Kd.S_nil _ _ _ _ _ | exact Kd.N_nil _ _ _ _ _ | exact Kd.V_nil _ _ _ _ _ | exact Kd.Q_nil _ _ _ _ _ | exact Kd.R_nil _ _ _ _ _,by first | exact Kd.R_nil _ _ _ _ _ | exact Kd.N_nil _ _ _ _ _ | exact Kd.V_nil _ _ _ _ _ | exact Kd.Q_nil _ _ _ _ _ | exact Kd.S_nil _ _ _ _ _,hCq⟩
               ·rw [if_neg c34] at H
                exact absurd H (by simp)
              ·rw [if_neg c33] at H
               have c33b0 : decide (x25_4 < (t226.length : Int)) = false := decide_eq_false c33
               clear c33
               replace H := Option.bind_eq_some_iff.mp H
               obtain ⟨t254,A610,H⟩ := H
               replace H : (if t254 = true then (some ((wrap64 (t220)),(wrap64 (t223)),x243002_4,t231,(wrap64 (t236)),(wrap64 (t239)),0)) else (some (0,0,([] : List (zY)),([] : List ByteArray),0,0,3))) = some (r1,r2,r3,r4,r5,r6,r7) := H
               have A61 := zc.mk A610
               clear A610
               by_cases c62 : t254 = true
               ·subst c62
                have H1 : (some ((wrap64 (t220)),(wrap64 (t223)),x243002_4,t231,(wrap64 (t236)),(wrap64 (t239)),0)) = some (r1,r2,r3,r4,r5,r6,r7) := by rw [if_pos rfl] at H;exact H
                clear H
                have H := H1
                clear H1
                simp only [Option.some.injEq,Prod.mk.injEq] at H
                obtain ⟨rfl,rfl,rfl,rfl,rfl,rfl,rfl⟩ := H
                obtain ⟨Ao63,co63,eo63⟩ := Kd.R_slice HO_12.out
                subst eo63
                have hnb64 := NB242_219.out
                have hnc64 := NB219_242.out
                have hcz65_0 : wr.cell? ⟨gb242,0,none⟩ = some (.int .i64 (wrap64 (t220))) := (zb BK242.out 0).trans rfl
                have hcz65_1 : wr.cell? ⟨gb242,1,none⟩ = some (.int .i64 (wrap64 (t223))) := (zb BK242.out 1).trans rfl
                have hcz65_2 : wr.cell? ⟨gb242,2,none⟩ = some (u243002) := (zb BK242.out 2).trans rfl
                have hcz65_3 : wr.cell? ⟨gb242,3,none⟩ = some (.slice Ao29 t231.length co29) := (zb BK242.out 3).trans rfl
                have hcz65_4 : wr.cell? ⟨gb242,4,none⟩ = some (.int .i64 (wrap64 (t236))) := (zb BK242.out 4).trans rfl
                have hcz65_5 : wr.cell? ⟨gb242,5,none⟩ = some (.int .i64 (wrap64 (t239))) := (zb BK242.out 5).trans rfl
                have hfz65_0 := za BK242.out 0
                have hfz65_1 := za BK242.out 1
                have hfz65_2 := za BK242.out 2
                have hfz65_3 := za BK242.out 3
                have hfz65_4 := za BK242.out 4
                have hfz65_5 := za BK242.out 5
                obtain ⟨Ao66,co66,eo66⟩ := Kd.S_slice HO_243002.out
                subst eo66
                go_wp2_with (first | ((with_reducible refine zt (f := 63) rfl ?_);refine zU (some 141) rfl rfl Try.func63 (by kernel_rfl) rfl #[.agg #[.int .i64 (wrap64 (t220)),.int .i64 (wrap64 (t223)),.slice Ao66 x243002_4.length co66,.slice Ao29 t231.length co29,.int .i64 (wrap64 (t236)),.int .i64 (wrap64 (t239))],.int .i64 a1] rfl (by (try simp only [List.map_toArray,List.map_cons,List.map_nil]);first | done | rfl | (simp only [List.length_drop,List.length_take];rfl)) ?_;(with_reducible refine (zo.calls k4 (wrap64 (t220)) (wrap64 (t223)) _ _ x243002_4 _ _ t231 (wrap64 (t236)) (wrap64 (t239)) a1 true _ ?side1 ?side2 ?side3 ?side4 A61.out).mono ?_);(case side1 => repeat (first | exact (Kd.S_reads' HO_243002.out).2.2 | (with_reducible refine Kd.C_alloc ?_ _) | (with_reducible refine Kd.C_drewN ?_ _) | (with_reducible refine Kd.C_drew ?_)));(case side2 => exact (Kd.S_reads' HO_243002.out).2.1);(case side3 => repeat (first | exact (Kd.R_reads' HO_243003.out).2.2 | (with_reducible refine Kd.C_alloc ?_ _) | (with_reducible refine Kd.C_drewN ?_ _) | (with_reducible refine Kd.C_drew ?_)));(case side4 => exact (Kd.R_reads' HO_243003.out).2.1);rintro e w67 ⟨rfl,hb⟩;refine ⟨_,rfl,?_⟩;have n0_ := zc.mk (Kd.R_below (by (with_reducible repeat (first | apply Kd.R_alloc | apply Kd.R_drewN | apply Kd.R_drew));exact HO_12.out) hb);have n1_ := zc.mk (Kd.S_below (by (with_reducible repeat (first | apply Kd.S_alloc | apply Kd.S_drewN | apply Kd.S_drew));exact HO_243002.out) hb);have n2_ := zc.mk (Kd.R_below (by (with_reducible repeat (first | apply Kd.R_alloc | apply Kd.R_drewN | apply Kd.R_drew));exact HO_243003.out) hb);have n3_ := zc.mk (zh (g := gb219) (o := .cells #[.int .i64 x220000_4,.int .i64 x220001_4,.slice none 0 0,.slice none 0 0,.int .i64 x220004_4,.int .i64 x220005_4] 28 (0,0)) (hGq BK219.out) hb);have n4_ := zc.mk (zh (g := gb242) (o := .cells #[.int .i64 (wrap64 (t220)),.int .i64 (wrap64 (t223)),.slice Ao66 x243002_4.length co66,.slice Ao29 t231.length co29,.int .i64 (wrap64 (t236)),.int .i64 (wrap64 (t239))] 28 (0,0)) (hGq BK242.out) hb);have n5_ := zc.mk (zj hCq hb);clear HO_12;clear HO_243002;clear HO_243003;clear BK219;clear BK242;clear HB;have HO_12 := n0_;have HO_243002 := n1_;have HO_243003 := n2_;have BK219 := n3_;have BK242 := n4_;have HB := n5_;clear n0_ n1_ n2_ n3_ n4_ n5_;(try clear hb);(try clear hb2);(try clear hk);(try clear hi);have hcz68_0 : w67.cell? ⟨gb242,0,none⟩ = some (.int .i64 (wrap64 (t220))) := (zb BK242.out 0).trans rfl;have hcz68_1 : w67.cell? ⟨gb242,1,none⟩ = some (.int .i64 (wrap64 (t223))) := (zb BK242.out 1).trans rfl;have hcz68_2 : w67.cell? ⟨gb242,2,none⟩ = some (.slice Ao66 x243002_4.length co66) := (zb BK242.out 2).trans rfl;have hcz68_3 : w67.cell? ⟨gb242,3,none⟩ = some (.slice Ao29 t231.length co29) := (zb BK242.out 3).trans rfl;have hcz68_4 : w67.cell? ⟨gb242,4,none⟩ = some (.int .i64 (wrap64 (t236))) := (zb BK242.out 4).trans rfl;have hcz68_5 : w67.cell? ⟨gb242,5,none⟩ = some (.int .i64 (wrap64 (t239))) := (zb BK242.out 5).trans rfl;have hfz68_0 := za BK242.out 0;have hfz68_1 := za BK242.out 1;have hfz68_2 := za BK242.out 2;have hfz68_3 := za BK242.out 3;have hfz68_4 := za BK242.out 4;have hfz68_5 := za BK242.out 5;have hcz69_0 : w67.cell? ⟨gb219,0,none⟩ = some (.int .i64 x220000_4) := (zb BK219.out 0).trans rfl;have hcz69_1 : w67.cell? ⟨gb219,1,none⟩ = some (.int .i64 x220001_4) := (zb BK219.out 1).trans rfl;have hcz69_2 : w67.cell? ⟨gb219,2,none⟩ = some (.slice none 0 0) := (zb BK219.out 2).trans rfl;have hcz69_3 : w67.cell? ⟨gb219,3,none⟩ = some (.slice none 0 0) := (zb BK219.out 3).trans rfl;have hcz69_4 : w67.cell? ⟨gb219,4,none⟩ = some (.int .i64 x220004_4) := (zb BK219.out 4).trans rfl;have hcz69_5 : w67.cell? ⟨gb219,5,none⟩ = some (.int .i64 x220005_4) := (zb BK219.out 5).trans rfl;have hfz69_0 := za BK219.out 0;have hfz69_1 := za BK219.out 1;have hfz69_2 := za BK219.out 2;have hfz69_3 := za BK219.out 3;have hfz69_4 := za BK219.out 4;have hfz69_5 := za BK219.out 5))
                refine bodyPost_ret (z9 rfl _ _ gb219 28 #[.int .i64 (wrap64 (t220)),.int .i64 (wrap64 (t223)),.slice Ao66 x243002_4.length co66,.slice Ao29 t231.length co29,.int .i64 (wrap64 (t236)),.int .i64 (wrap64 (t239))] (0,0) _ rfl (by (with_reducible repeat (first | refine zd ?_ _ | refine zf ?_ | refine ze ?_ _));refine zi (cs := #[.int .i64 (wrap64 (t220)),.int .i64 (wrap64 (t223)),.slice Ao66 x243002_4.length co66,.slice Ao29 t231.length co29,.int .i64 (wrap64 (t236)),.int .i64 x220005_4]) ?_ 5 _ rfl;(with_reducible repeat (first | refine zd ?_ _ | refine zf ?_ | refine ze ?_ _));refine zi (cs := #[.int .i64 (wrap64 (t220)),.int .i64 (wrap64 (t223)),.slice Ao66 x243002_4.length co66,.slice Ao29 t231.length co29,.int .i64 x220004_4,.int .i64 x220005_4]) ?_ 4 _ rfl;(with_reducible repeat (first | refine zd ?_ _ | refine zf ?_ | refine ze ?_ _));refine zi (cs := #[.int .i64 (wrap64 (t220)),.int .i64 (wrap64 (t223)),.slice Ao66 x243002_4.length co66,.slice none 0 0,.int .i64 x220004_4,.int .i64 x220005_4]) ?_ 3 _ rfl;(with_reducible repeat (first | refine zd ?_ _ | refine zf ?_ | refine ze ?_ _));refine zi (cs := #[.int .i64 (wrap64 (t220)),.int .i64 (wrap64 (t223)),.slice none 0 0,.slice none 0 0,.int .i64 x220004_4,.int .i64 x220005_4]) ?_ 2 _ rfl;(with_reducible repeat (first | refine zd ?_ _ | refine zf ?_ | refine ze ?_ _));refine zi (cs := #[.int .i64 (wrap64 (t220)),.int .i64 x220001_4,.slice none 0 0,.slice none 0 0,.int .i64 x220004_4,.int .i64 x220005_4]) ?_ 1 _ rfl;(with_reducible repeat (first | refine zd ?_ _ | refine zf ?_ | refine ze ?_ _));refine zi (cs := #[.int .i64 x220000_4,.int .i64 x220001_4,.slice none 0 0,.slice none 0 0,.int .i64 x220004_4,.int .i64 x220005_4]) ?_ 0 _ rfl;(with_reducible repeat (first | refine zd ?_ _ | refine zf ?_ | refine ze ?_ _));exact BK219.out) Try.underlying28 rfl (by kernel_rfl)) rfl ?_
                exact ⟨_,_,hHq,by (with_reducible repeat (first | apply Kd.S_alloc | apply Kd.S_drewN | apply Kd.S_drew));exact Kd.S_mono (Kd.S_far (p := ⟨gb219,5,none⟩) (Kd.S_far (p := ⟨gb219,4,none⟩) (Kd.S_far (p := ⟨gb219,3,none⟩) (Kd.S_far (p := ⟨gb219,2,none⟩) (Kd.S_far (p := ⟨gb219,1,none⟩) (Kd.S_far (p := ⟨gb219,0,none⟩) (Kd.S_types HO_243002.out BK219.out (by decide)) (fun _ hk => hk.2) (.int .i64 (wrap64 (t220)))) (fun _ hk => hk.2) (.int .i64 (wrap64 (t223)))) (fun _ hk => hk.2) (.slice Ao66 x243002_4.length co66)) (fun _ hk => hk.2) (.slice Ao29 t231.length co29)) (fun _ hk => hk.2) (.int .i64 (wrap64 (t236)))) (fun _ hk => hk.2) (.int .i64 (wrap64 (t239)))) (fun _ hk => hk.1.2),by (with_reducible repeat (first | apply Kd.R_alloc | apply Kd.R_drewN | apply Kd.R_drew));exact Kd.R_mono (Kd.R_far (p := ⟨gb219,5,none⟩) (Kd.R_far (p := ⟨gb219,4,none⟩) (Kd.R_far (p := ⟨gb219,3,none⟩) (Kd.R_far (p := ⟨gb219,2,none⟩) (Kd.R_far (p := ⟨gb219,1,none⟩) (Kd.R_far (p := ⟨gb219,0,none⟩) (Kd.R_types HO_243003.out BK219.out (by decide)) (fun _ hk => hk.2) (.int .i64 (wrap64 (t220)))) (fun _ hk => hk.2) (.int .i64 (wrap64 (t223)))) (fun _ hk => hk.2) (.slice Ao66 x243002_4.length co66)) (fun _ hk => hk.2) (.slice Ao29 t231.length co29)) (fun _ hk => hk.2) (.int .i64 (wrap64 (t236)))) (fun _ hk => hk.2) (.int .i64 (wrap64 (t239)))) (fun _ hk => trivial),hCq⟩
               ·replace c62 := Bool.eq_false_iff.mpr c62
                subst c62
                have H1 : (some (0,0,([] : List (zY)),([] : List ByteArray),0,0,3)) = some (r1,r2,r3,r4,r5,r6,r7) := by rw [if_neg (show ¬ (false = true) by decide)] at H;exact H
                clear H
                have H := H1
                clear H1
                simp only [Option.some.injEq,Prod.mk.injEq] at H
                obtain ⟨rfl,rfl,rfl,rfl,rfl,rfl,rfl⟩ := H
                obtain ⟨Ao70,co70,eo70⟩ := Kd.R_slice HO_12.out
                subst eo70
                have hnb71 := NB242_219.out
                have hnc71 := NB219_242.out
                have hcz72_0 : wr.cell? ⟨gb242,0,none⟩ = some (.int .i64 (wrap64 (t220))) := (zb BK242.out 0).trans rfl
                have hcz72_1 : wr.cell? ⟨gb242,1,none⟩ = some (.int .i64 (wrap64 (t223))) := (zb BK242.out 1).trans rfl
                have hcz72_2 : wr.cell? ⟨gb242,2,none⟩ = some (u243002) := (zb BK242.out 2).trans rfl
                have hcz72_3 : wr.cell? ⟨gb242,3,none⟩ = some (.slice Ao29 t231.length co29) := (zb BK242.out 3).trans rfl
                have hcz72_4 : wr.cell? ⟨gb242,4,none⟩ = some (.int .i64 (wrap64 (t236))) := (zb BK242.out 4).trans rfl
                have hcz72_5 : wr.cell? ⟨gb242,5,none⟩ = some (.int .i64 (wrap64 (t239))) := (zb BK242.out 5).trans rfl
                have hfz72_0 := za BK242.out 0
                have hfz72_1 := za BK242.out 1
                have hfz72_2 := za BK242.out 2
                have hfz72_3 := za BK242.out 3
                have hfz72_4 := za BK242.out 4
                have hfz72_5 := za BK242.out 5
                obtain ⟨Ao73,co73,eo73⟩ := Kd.S_slice HO_243002.out
                subst eo73
                go_wp2_with (first | ((with_reducible refine zt (f := 63) rfl ?_);refine zU (some 141) rfl rfl Try.func63 (by kernel_rfl) rfl #[.agg #[.int .i64 (wrap64 (t220)),.int .i64 (wrap64 (t223)),.slice Ao73 x243002_4.length co73,.slice Ao29 t231.length co29,.int .i64 (wrap64 (t236)),.int .i64 (wrap64 (t239))],.int .i64 a1] rfl (by (try simp only [List.map_toArray,List.map_cons,List.map_nil]);first | done | rfl | (simp only [List.length_drop,List.length_take];rfl)) ?_;(with_reducible refine (zo.calls k4 (wrap64 (t220)) (wrap64 (t223)) _ _ x243002_4 _ _ t231 (wrap64 (t236)) (wrap64 (t239)) a1 false _ ?side1 ?side2 ?side3 ?side4 A61.out).mono ?_);(case side1 => repeat (first | exact (Kd.S_reads' HO_243002.out).2.2 | (with_reducible refine Kd.C_alloc ?_ _) | (with_reducible refine Kd.C_drewN ?_ _) | (with_reducible refine Kd.C_drew ?_)));(case side2 => exact (Kd.S_reads' HO_243002.out).2.1);(case side3 => repeat (first | exact (Kd.R_reads' HO_243003.out).2.2 | (with_reducible refine Kd.C_alloc ?_ _) | (with_reducible refine Kd.C_drewN ?_ _) | (with_reducible refine Kd.C_drew ?_)));(case side4 => exact (Kd.R_reads' HO_243003.out).2.1);rintro e w74 ⟨rfl,hb⟩;refine ⟨_,rfl,?_⟩;have n0_ := zc.mk (Kd.R_below (by (with_reducible repeat (first | apply Kd.R_alloc | apply Kd.R_drewN | apply Kd.R_drew));exact HO_12.out) hb);have n1_ := zc.mk (Kd.S_below (by (with_reducible repeat (first | apply Kd.S_alloc | apply Kd.S_drewN | apply Kd.S_drew));exact HO_243002.out) hb);have n2_ := zc.mk (Kd.R_below (by (with_reducible repeat (first | apply Kd.R_alloc | apply Kd.R_drewN | apply Kd.R_drew));exact HO_243003.out) hb);have n3_ := zc.mk (zh (g := gb219) (o := .cells #[.int .i64 x220000_4,.int .i64 x220001_4,.slice none 0 0,.slice none 0 0,.int .i64 x220004_4,.int .i64 x220005_4] 28 (0,0)) (hGq BK219.out) hb);have n4_ := zc.mk (zh (g := gb242) (o := .cells #[.int .i64 (wrap64 (t220)),.int .i64 (wrap64 (t223)),.slice Ao73 x243002_4.length co73,.slice Ao29 t231.length co29,.int .i64 (wrap64 (t236)),.int .i64 (wrap64 (t239))] 28 (0,0)) (hGq BK242.out) hb);have n5_ := zc.mk (zj hCq hb);clear HO_12;clear HO_243002;clear HO_243003;clear BK219;clear BK242;clear HB;have HO_12 := n0_;have HO_243002 := n1_;have HO_243003 := n2_;have BK219 := n3_;have BK242 := n4_;have HB := n5_;clear n0_ n1_ n2_ n3_ n4_ n5_;(try clear hb);(try clear hb2);(try clear hk);(try clear hi);have hcz75_0 : w74.cell? ⟨gb219,0,none⟩ = some (.int .i64 x220000_4) := (zb BK219.out 0).trans rfl;have hcz75_1 : w74.cell? ⟨gb219,1,none⟩ = some (.int .i64 x220001_4) := (zb BK219.out 1).trans rfl;have hcz75_2 : w74.cell? ⟨gb219,2,none⟩ = some (.slice none 0 0) := (zb BK219.out 2).trans rfl;have hcz75_3 : w74.cell? ⟨gb219,3,none⟩ = some (.slice none 0 0) := (zb BK219.out 3).trans rfl;have hcz75_4 : w74.cell? ⟨gb219,4,none⟩ = some (.int .i64 x220004_4) := (zb BK219.out 4).trans rfl;have hcz75_5 : w74.cell? ⟨gb219,5,none⟩ = some (.int .i64 x220005_4) := (zb BK219.out 5).trans rfl;have hfz75_0 := za BK219.out 0;have hfz75_1 := za BK219.out 1;have hfz75_2 := za BK219.out 2;have hfz75_3 := za BK219.out 3;have hfz75_4 := za BK219.out 4;have hfz75_5 := za BK219.out 5))
                refine bodyPost_ret (z9 rfl _ _ gb219 28 #[.int .i64 0,.int .i64 0,.slice none 0 0,.slice none 0 0,.int .i64 0,.int .i64 0] (0,0) _ rfl (by (with_reducible repeat (first | refine zd ?_ _ | refine zf ?_ | refine ze ?_ _));refine zi (cs := #[.int .i64 0,.int .i64 0,.slice none 0 0,.slice none 0 0,.int .i64 0,.int .i64 x220005_4]) ?_ 5 _ rfl;(with_reducible repeat (first | refine zd ?_ _ | refine zf ?_ | refine ze ?_ _));refine zi (cs := #[.int .i64 0,.int .i64 0,.slice none 0 0,.slice none 0 0,.int .i64 x220004_4,.int .i64 x220005_4]) ?_ 4 _ rfl;(with_reducible repeat (first | refine zd ?_ _ | refine zf ?_ | refine ze ?_ _));refine zi (cs := #[.int .i64 0,.int .i64 0,.slice none 0 0,.slice none 0 0,.int .i64 x220004_4,.int .i64 x220005_4]) ?_ 3 _ rfl;(with_reducible repeat (first | refine zd ?_ _ | refine zf ?_ | refine ze ?_ _));refine zi (cs := #[.int .i64 0,.int .i64 0,.slice none 0 0,.slice none 0 0,.int .i64 x220004_4,.int .i64 x220005_4]) ?_ 2 _ rfl;(with_reducible repeat (first | refine zd ?_ _ | refine zf ?_ | refine ze ?_ _));refine zi (cs := #[.int .i64 0,.int .i64 x220001_4,.slice none 0 0,.slice none 0 0,.int .i64 x220004_4,.int .i64 x220005_4]) ?_ 1 _ rfl;(with_reducible repeat (first | refine zd ?_ _ | refine zf ?_ | refine ze ?_ _));refine zi (cs := #[.int .i64 x220000_4,.int .i64 x220001_4,.slice none 0 0,.slice none 0 0,.int .i64 x220004_4,.int .i64 x220005_4]) ?_ 0 _ rfl;(with_reducible repeat (first | refine zd ?_ _ | refine zf ?_ | refine ze ?_ _));exact BK219.out) Try.underlying28 rfl (by kernel_rfl)) rfl ?_
                exact ⟨_,_,hHq,by first | exact Kd.S_nil _ _ _ _ _ | exact Kd.N_nil _ _ _ _ _ | exact Kd.V_nil _ _ _ _ _ | exact Kd.Q_nil _ _ _ _ _ | exact Kd.R_nil _ _ _ _ _,by first | exact Kd.R_nil _ _ _ _ _ | exact Kd.N_nil _ _ _ _ _ | exact Kd.V_nil _ _ _ _ _ | exact Kd.Q_nil _ _ _ _ _ | exact Kd.S_nil _ _ _ _ _,hCq⟩
     ·rw [if_neg c15] at H
      have c15b0 : (t233 == 0) = false := beq_eq_false_iff_ne.mpr c15
      have c15b1 : (t233 != 0) = true := bne_iff_ne.mpr c15
      simp only [Option.some.injEq,Prod.mk.injEq] at H
      obtain ⟨rfl,rfl,rfl,rfl,rfl,rfl,rfl⟩ := H
      go_wp2_with (first | ((with_reducible refine zt (f := 61) rfl ?_);refine zU (some 58) rfl rfl Try.func61 (by kernel_rfl) rfl #[.string t224,.int .i64 4,.int .i64 400] rfl (by (try simp only [List.map_toArray,List.map_cons,List.map_nil]);first | done | rfl | (simp only [List.length_drop,List.length_take];rfl)) ?_;(with_reducible refine (zx.calls kj4 t224 4 400 t226 t227 t228 _ A12.out).mono ?_);rintro e w76 ⟨v229,rfl,ho0,hb⟩;refine ⟨_,rfl,?_⟩;have n0_ := zc.mk (Kd.R_lower ho0 (zl hCq));have n1_ := zc.mk (zh (g := gb219) (o := .cells #[.int .i64 0,.int .i64 0,.slice none 0 0,.slice none 0 0,.int .i64 0,.int .i64 0] 28 (0,0)) (hGq BK219.out) hb);have n2_ := zc.mk (zj hCq hb);clear BK219;clear HB;have HO230 := n0_;have BK219 := n1_;have HB := n2_;clear n0_ n1_ n2_;(try clear hb);(try clear hb2);(try clear hk);(try clear hi);(try clear ho0)) | ((with_reducible refine zt (f := 61) rfl ?_);refine zU (some 67) rfl rfl Try.func61 (by kernel_rfl) rfl #[.string t227,.int .i64 64,.int .i64 32] rfl (by (try simp only [List.map_toArray,List.map_cons,List.map_nil]);first | done | rfl | (simp only [List.length_drop,List.length_take];rfl)) ?_;(with_reducible refine (zx.calls kj4 t227 64 32 t231 t232 t233 _ A14.out).mono ?_);rintro e w77 ⟨v234,rfl,ho0,hb⟩;refine ⟨_,rfl,?_⟩;have n0_ := zc.mk (Kd.R_elder' (by (with_reducible repeat (first | apply Kd.R_alloc | apply Kd.R_drewN | apply Kd.R_drew));exact HO230.out) (Kd.R_base ho0) hb);have n1_ := zc.mk (Kd.R_lower (Kd.R_new' ho0 (Kd.R_lt (by (with_reducible repeat (first | apply Kd.R_alloc | apply Kd.R_drewN | apply Kd.R_drew));exact HO230.out))) (zl hCq));have n2_ := zc.mk (zh (g := gb219) (o := .cells #[.int .i64 0,.int .i64 0,.slice none 0 0,.slice none 0 0,.int .i64 0,.int .i64 0] 28 (0,0)) (hGq BK219.out) hb);have n3_ := zc.mk (zj hCq hb);clear HO230;clear BK219;clear HB;have HO230 := n0_;have HO235 := n1_;have BK219 := n2_;have HB := n3_;clear n0_ n1_ n2_ n3_;(try clear hb);(try clear hb2);(try clear hk);(try clear hi);(try clear ho0);have hcz78_0 : w77.cell? ⟨gb219,0,none⟩ = some (.int .i64 0) := (zb BK219.out 0).trans rfl;have hcz78_1 : w77.cell? ⟨gb219,1,none⟩ = some (.int .i64 0) := (zb BK219.out 1).trans rfl;have hcz78_2 : w77.cell? ⟨gb219,2,none⟩ = some (.slice none 0 0) := (zb BK219.out 2).trans rfl;have hcz78_3 : w77.cell? ⟨gb219,3,none⟩ = some (.slice none 0 0) := (zb BK219.out 3).trans rfl;have hcz78_4 : w77.cell? ⟨gb219,4,none⟩ = some (.int .i64 0) := (zb BK219.out 4).trans rfl;have hcz78_5 : w77.cell? ⟨gb219,5,none⟩ = some (.int .i64 0) := (zb BK219.out 5).trans rfl;have hfz78_0 := za BK219.out 0;have hfz78_1 := za BK219.out 1;have hfz78_2 := za BK219.out 2;have hfz78_3 := za BK219.out 3;have hfz78_4 := za BK219.out 4;have hfz78_5 := za BK219.out 5))
      refine bodyPost_ret (z9 rfl _ _ gb219 28 #[.int .i64 0,.int .i64 0,.slice none 0 0,.slice none 0 0,.int .i64 0,.int .i64 0] (0,0) _ rfl (by (with_reducible repeat (first | refine zd ?_ _ | refine zf ?_ | refine ze ?_ _));refine zi (cs := #[.int .i64 0,.int .i64 0,.slice none 0 0,.slice none 0 0,.int .i64 0,.int .i64 0]) ?_ 5 _ rfl;(with_reducible repeat (first | refine zd ?_ _ | refine zf ?_ | refine ze ?_ _));refine zi (cs := #[.int .i64 0,.int .i64 0,.slice none 0 0,.slice none 0 0,.int .i64 0,.int .i64 0]) ?_ 4 _ rfl;(with_reducible repeat (first | refine zd ?_ _ | refine zf ?_ | refine ze ?_ _));refine zi (cs := #[.int .i64 0,.int .i64 0,.slice none 0 0,.slice none 0 0,.int .i64 0,.int .i64 0]) ?_ 3 _ rfl;(with_reducible repeat (first | refine zd ?_ _ | refine zf ?_ | refine ze ?_ _));refine zi (cs := #[.int .i64 0,.int .i64 0,.slice none 0 0,.slice none 0 0,.int .i64 0,.int .i64 0]) ?_ 2 _ rfl;(with_reducible repeat (first | refine zd ?_ _ | refine zf ?_ | refine ze ?_ _));refine zi (cs := #[.int .i64 0,.int .i64 0,.slice none 0 0,.slice none 0 0,.int .i64 0,.int .i64 0]) ?_ 1 _ rfl;(with_reducible repeat (first | refine zd ?_ _ | refine zf ?_ | refine ze ?_ _));refine zi (cs := #[.int .i64 0,.int .i64 0,.slice none 0 0,.slice none 0 0,.int .i64 0,.int .i64 0]) ?_ 0 _ rfl;(with_reducible repeat (first | refine zd ?_ _ | refine zf ?_ | refine ze ?_ _));exact BK219.out) Try.underlying28 rfl (by kernel_rfl)) rfl ?_
      exact ⟨_,_,hHq,by first | exact Kd.S_nil _ _ _ _ _ | exact Kd.N_nil _ _ _ _ _ | exact Kd.V_nil _ _ _ _ _ | exact Kd.Q_nil _ _ _ _ _ | exact Kd.R_nil _ _ _ _ _,by first | exact Kd.R_nil _ _ _ _ _ | exact Kd.N_nil _ _ _ _ _ | exact Kd.V_nil _ _ _ _ _ | exact Kd.Q_nil _ _ _ _ _ | exact Kd.S_nil _ _ _ _ _,hCq⟩
    ·rw [if_neg c13] at H
     have c13b0 : (t228 == 0) = false := beq_eq_false_iff_ne.mpr c13
     have c13b1 : (t228 != 0) = true := bne_iff_ne.mpr c13
     simp only [Option.some.injEq,Prod.mk.injEq] at H
     obtain ⟨rfl,rfl,rfl,rfl,rfl,rfl,rfl⟩ := H
     go_wp2_with (first | ((with_reducible refine zt (f := 61) rfl ?_);refine zU (some 58) rfl rfl Try.func61 (by kernel_rfl) rfl #[.string t224,.int .i64 4,.int .i64 400] rfl (by (try simp only [List.map_toArray,List.map_cons,List.map_nil]);first | done | rfl | (simp only [List.length_drop,List.length_take];rfl)) ?_;(with_reducible refine (zx.calls kj4 t224 4 400 t226 t227 t228 _ A12.out).mono ?_);rintro e w79 ⟨v229,rfl,ho0,hb⟩;refine ⟨_,rfl,?_⟩;have n0_ := zc.mk (Kd.R_lower ho0 (zl hCq));have n1_ := zc.mk (zh (g := gb219) (o := .cells #[.int .i64 0,.int .i64 0,.slice none 0 0,.slice none 0 0,.int .i64 0,.int .i64 0] 28 (0,0)) (hGq BK219.out) hb);have n2_ := zc.mk (zj hCq hb);clear BK219;clear HB;have HO230 := n0_;have BK219 := n1_;have HB := n2_;clear n0_ n1_ n2_;(try clear hb);(try clear hb2);(try clear hk);(try clear hi);(try clear ho0);have hcz80_0 : w79.cell? ⟨gb219,0,none⟩ = some (.int .i64 0) := (zb BK219.out 0).trans rfl;have hcz80_1 : w79.cell? ⟨gb219,1,none⟩ = some (.int .i64 0) := (zb BK219.out 1).trans rfl;have hcz80_2 : w79.cell? ⟨gb219,2,none⟩ = some (.slice none 0 0) := (zb BK219.out 2).trans rfl;have hcz80_3 : w79.cell? ⟨gb219,3,none⟩ = some (.slice none 0 0) := (zb BK219.out 3).trans rfl;have hcz80_4 : w79.cell? ⟨gb219,4,none⟩ = some (.int .i64 0) := (zb BK219.out 4).trans rfl;have hcz80_5 : w79.cell? ⟨gb219,5,none⟩ = some (.int .i64 0) := (zb BK219.out 5).trans rfl;have hfz80_0 := za BK219.out 0;have hfz80_1 := za BK219.out 1;have hfz80_2 := za BK219.out 2;have hfz80_3 := za BK219.out 3;have hfz80_4 := za BK219.out 4;have hfz80_5 := za BK219.out 5))
     refine bodyPost_ret (z9 rfl _ _ gb219 28 #[.int .i64 0,.int .i64 0,.slice none 0 0,.slice none 0 0,.int .i64 0,.int .i64 0] (0,0) _ rfl (by (with_reducible repeat (first | refine zd ?_ _ | refine zf ?_ | refine ze ?_ _));refine zi (cs := #[.int .i64 0,.int .i64 0,.slice none 0 0,.slice none 0 0,.int .i64 0,.int .i64 0]) ?_ 5 _ rfl;(with_reducible repeat (first | refine zd ?_ _ | refine zf ?_ | refine ze ?_ _));refine zi (cs := #[.int .i64 0,.int .i64 0,.slice none 0 0,.slice none 0 0,.int .i64 0,.int .i64 0]) ?_ 4 _ rfl;(with_reducible repeat (first | refine zd ?_ _ | refine zf ?_ | refine ze ?_ _));refine zi (cs := #[.int .i64 0,.int .i64 0,.slice none 0 0,.slice none 0 0,.int .i64 0,.int .i64 0]) ?_ 3 _ rfl;(with_reducible repeat (first | refine zd ?_ _ | refine zf ?_ | refine ze ?_ _));refine zi (cs := #[.int .i64 0,.int .i64 0,.slice none 0 0,.slice none 0 0,.int .i64 0,.int .i64 0]) ?_ 2 _ rfl;(with_reducible repeat (first | refine zd ?_ _ | refine zf ?_ | refine ze ?_ _));refine zi (cs := #[.int .i64 0,.int .i64 0,.slice none 0 0,.slice none 0 0,.int .i64 0,.int .i64 0]) ?_ 1 _ rfl;(with_reducible repeat (first | refine zd ?_ _ | refine zf ?_ | refine ze ?_ _));refine zi (cs := #[.int .i64 0,.int .i64 0,.slice none 0 0,.slice none 0 0,.int .i64 0,.int .i64 0]) ?_ 0 _ rfl;(with_reducible repeat (first | refine zd ?_ _ | refine zf ?_ | refine ze ?_ _));exact BK219.out) Try.underlying28 rfl (by kernel_rfl)) rfl ?_
     exact ⟨_,_,hHq,by first | exact Kd.S_nil _ _ _ _ _ | exact Kd.N_nil _ _ _ _ _ | exact Kd.V_nil _ _ _ _ _ | exact Kd.Q_nil _ _ _ _ _ | exact Kd.R_nil _ _ _ _ _,by first | exact Kd.R_nil _ _ _ _ _ | exact Kd.N_nil _ _ _ _ _ | exact Kd.V_nil _ _ _ _ _ | exact Kd.Q_nil _ _ _ _ _ | exact Kd.S_nil _ _ _ _ _,hCq⟩
end Go.Proofs.Ytgdpiegkoeikiaa.Px