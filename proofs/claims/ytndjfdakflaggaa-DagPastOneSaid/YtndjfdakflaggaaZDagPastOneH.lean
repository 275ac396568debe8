/- Part 8 of 15 of the proof of the law DagPastOne: what is proved is the statement at the end of the last part; its conditions are those of the given row. -/
import Derived.MapKept
import Derived.Laws.NewBlocks
import Derived.Maps.OwnOps
import Derived.Test.YtndjfdakflaggaaZDagPastOneF
import Derived.Test.YtndjfdakflaggaaZDagPastOneG
namespace Go.Proofs.Ytndjfdakflaggaa.Px
open Go.RowKit Go.Proofs.YtndjfdakflaggaaW.PrintWords Go.Proofs.YtndjfdakflaggaaW.PrintLast Go.Proofs.YtndjfdakflaggaaW.PrintMore
attribute [local go_sem] zC zE zI zJ zu zv zD zF
set_option linter.unusedVariables false
set_option linter.unusedSimpArgs false
attribute [local go_sem high] eqA30
def zaR.f (k : Nat) (a0_0 : Int) (a0_1 : Int) (l0_2 : List (S78)) (l0_3 : List ByteArray) (a0_4 : Int) (a0_5 : Int) (a1_0 : Int) (a1_1 : Int) (l1_2 : List (S78)) (l1_3 : List ByteArray) (a1_4 : Int) (a1_5 : Int) : Option (Bool) := (zS.f k l0_3 l1_3).bind fun yd => ((zz.f k l0_2 l1_2).bind fun yc => (if yd = true then (if yc = true then (if a0_0 = a1_0 then (if a0_1 = a1_1 then (some (a0_4 == a1_4 && (a0_5 == a1_5))) else (some false)) else (some false)) else (some false)) else (some false)))
set_option maxHeartbeats 8000000 in
set_option maxRecDepth 100000 in
theorem zaR.calls (k : Nat) (a0_0 : Int) (a0_1 : Int) (A0_2 : Option Addr) (c0_2 : Nat) (l0_2 : List (S78)) (A0_3 : Option Addr) (c0_3 : Nat) (l0_3 : List ByteArray) (a0_4 : Int) (a0_5 : Int) (a1_0 : Int) (a1_1 : Int) (A1_2 : Option Addr) (c1_2 : Nat) (l1_2 : List (S78)) (A1_3 : Option Addr) (c1_3 : Nat) (l1_3 : List ByteArray) (a1_4 : Int) (a1_5 : Int) (r : Bool) (w : World) (hr0_2 : Kd.C k78 w A0_2 l0_2.length l0_2) (hc0_2 : l0_2.length ≤ c0_2) (hr0_3 : Kd.C Kd.string w A0_3 l0_3.length l0_3) (hc0_3 : l0_3.length ≤ c0_3) (hr1_2 : Kd.C k78 w A1_2 l1_2.length l1_2) (hc1_2 : l1_2.length ≤ c1_2) (hr1_3 : Kd.C Kd.string w A1_3 l1_3.length l1_3) (hc1_3 : l1_3.length ≤ c1_3) (h : zaR.f k a0_0 a0_1 l0_2 l0_3 a0_4 a0_5 a1_0 a1_1 l1_2 l1_3 a1_4 a1_5 = some r) :
  Calls Try.prog 25 #[.agg #[.int .i64 a0_0,.int .i64 a0_1,.slice A0_2 l0_2.length c0_2,.slice A0_3 l0_3.length c0_3,.int .i64 a0_4,.int .i64 a0_5],.agg #[.int .i64 a1_0,.int .i64 a1_1,.slice A1_2 l1_2.length c1_2,.slice A1_3 l1_3.length c1_3,.int .i64 a1_4,.int .i64 a1_5]] w fun e w' => e = .returned (.bool r) ∧ Below w.heap.size w w' := by
 have hu32 := Try.underlying32
 have hu30 := Try.underlying30
 have HR0_2 := za.mk hr0_2
 have HC0_2 := za.mk hc0_2
 clear hr0_2 hc0_2
 have HR0_3 := za.mk hr0_3
 have HC0_3 := za.mk hc0_3
 clear hr0_3 hc0_3
 have HR1_2 := za.mk hr1_2
 have HC1_2 := za.mk hc1_2
 clear hr1_2 hc1_2
 have HR1_3 := za.mk hr1_3
 have HC1_3 := za.mk hc1_3
 clear hr1_3 hc1_3
 have HB := za.mk (Below.refl w.heap.size w)
 have H : ((zS.f k l0_3 l1_3).bind fun yd => ((zz.f k l0_2 l1_2).bind fun yc => (if yd = true then (if yc = true then (if a0_0 = a1_0 then (if a0_1 = a1_1 then (some (a0_4 == a1_4 && (a0_5 == a1_5))) else (some false)) else (some false)) else (some false)) else (some false)))) = some r := h
 clear h
 replace H := Option.bind_eq_some_iff.mp H
 obtain ⟨yd,A30,H⟩ := H
 replace H : ((zz.f k l0_2 l1_2).bind fun yc => (if yd = true then (if yc = true then (if a0_0 = a1_0 then (if a0_1 = a1_1 then (some (a0_4 == a1_4 && (a0_5 == a1_5))) else (some false)) else (some false)) else (some false)) else (some false))) = some r := H
 have A3 := za.mk A30
 clear A30
 replace H := Option.bind_eq_some_iff.mp H
 obtain ⟨yc,A40,H⟩ := H
 replace H : (if yd = true then (if yc = true then (if a0_0 = a1_0 then (if a0_1 = a1_1 then (some (a0_4 == a1_4 && (a0_5 == a1_5))) else (some false)) else (some false)) else (some false)) else (some false)) = some r := H
 have A4 := za.mk A40
 clear A40
 by_cases c5 : yd = true
 focus
  subst c5
  have H1 : (if yc = true then (if a0_0 = a1_0 then (if a0_1 = a1_1 then (some (a0_4 == a1_4 && (a0_5 == a1_5))) else (some false)) else (some false)) else (some false)) = some r := by rw [if_pos rfl] at H;exact H
  clear H
  have H := H1
  clear H1
  by_cases c6 : yc = true
  focus
   subst c6
   have H1 : (if a0_0 = a1_0 then (if a0_1 = a1_1 then (some (a0_4 == a1_4 && (a0_5 == a1_5))) else (some false)) else (some false)) = some r := by rw [if_pos rfl] at H;exact H
   clear H
   have H := H1
   clear H1
   by_cases c7 : a0_0 = a1_0
   focus
    rw [if_pos c7] at H
    have c7b0 : (a0_0 == a1_0) = true := beq_iff_eq.mpr c7
    have c7b1 : (a0_0 != a1_0) = false := bne_eq_false_iff_eq.mpr c7
    clear c7
    by_cases c8 : a0_1 = a1_1
    focus
     rw [if_pos c8] at H
     have c8b0 : (a0_1 == a1_1) = true := beq_iff_eq.mpr c8
     have c8b1 : (a0_1 != a1_1) = false := bne_eq_false_iff_eq.mpr c8
     clear c8
     obtain rfl := Option.some.inj H
     have EQ0 := True.intro
     have EQ1 := True.intro
    rotate_left
    focus
     rw [if_neg c8] at H
     have c8b0 : (a0_1 == a1_1) = false := beq_eq_false_iff_ne.mpr c8
     have c8b1 : (a0_1 != a1_1) = true := bne_iff_ne.mpr c8
     obtain rfl := Option.some.inj H
     have EQ0 := True.intro
     have EQ1 := True.intro
   rotate_left 2
   focus
    rw [if_neg c7] at H
    have c7b0 : (a0_0 == a1_0) = false := beq_eq_false_iff_ne.mpr c7
    have c7b1 : (a0_0 != a1_0) = true := bne_iff_ne.mpr c7
    obtain rfl := Option.some.inj H
    have EQ0 := True.intro
    have EQ1 := True.intro
  rotate_left 3
  focus
   replace c6 := Bool.eq_false_iff.mpr c6
   subst c6
   have H1 : (some false) = some r := by rw [if_neg (show ¬ (false = true) by decide)] at H;exact H
   clear H
   have H := H1
   clear H1
   obtain rfl := Option.some.inj H
   have EQ0 := True.intro
   have EQ2 := True.intro
 rotate_left 4
 focus
  replace c5 := Bool.eq_false_iff.mpr c5
  subst c5
  have H1 : (some false) = some r := by rw [if_neg (show ¬ (false = true) by decide)] at H;exact H
  clear H
  have H := H1
  clear H1
  obtain rfl := Option.some.inj H
  have EQ3 := True.intro
 all_goals
  go_enter Try.func25,Try.ntmps25
  go_wp2_with (first | ((with_reducible refine zq (N := 2) rfl ?_);refine zn rfl (N := 2) rfl (cs := #[.int .i64 a0_0,.int .i64 a0_1,.slice A0_2 l0_2.length c0_2,.slice A0_3 l0_3.length c0_3,.int .i64 a0_4,.int .i64 a0_5]) (t := 32) hrq ?_;intro ye hg wQN22 hbox hb;have n_ := haq (zf hBq hb) <| haq (hbox) <| haq ((by rw [hg];exact (zh hBq) : w.heap.size ≤ ye)) <| haq ((by rw [hg];exact (zh hBq) : w.heap.size ≤ ye)) <| trivial;clear HB;obtain ⟨HB,ya,y8,yY,_⟩ := n_;clear hb hbox hg) | ((with_reducible refine zq (N := 3) rfl ?_);refine zn rfl (N := 3) rfl (cs := #[.int .i64 a1_0,.int .i64 a1_1,.slice A1_2 l1_2.length c1_2,.slice A1_3 l1_3.length c1_3,.int .i64 a1_4,.int .i64 a1_5]) (t := 32) hrq ?_;intro yf hg wQN32 hbox hb;have n_ := haq (hbq ya.out hb) <| haq (zf hCq hb) <| haq (hbox) <| haq ((by rw [hg];exact (zh hCq) : w.heap.size ≤ yf)) <| haq ((by rw [hg];exact (zh hCq) : w.heap.size ≤ yf)) <| haq (hnq hg ya.out) <| haq (hmq hg ya.out) <| trivial;clear ya HB;obtain ⟨ya,HB,yb,y9,yZ,NBQN37,NBQN38,_⟩ := n_;clear hb hbox hg;have hnbQN39 := NBQN37.out;have yX := NBQN38.out;obtain ⟨yz,yA,yB,yC,yD,yE,yL,yM,yN,yO,yP,yQ⟩ := hcq6 ya.out;obtain ⟨yF,yG,yH,yI,yJ,yK,yR,yS,yT,yU,yV,yW⟩ := hcq6 yb.out) | (have _ := EQ0;((with_reducible refine zN (f := 43) rfl ?_);refine zax (some 11) rfl rfl Try.func43 (by kernel_rfl) rfl #[.slice A0_3 l0_3.length c0_3,.slice A1_3 l1_3.length c1_3] rfl hMq ?_;(with_reducible refine (zS.calls k _ _ l0_3 _ _ l1_3 true _ ?side1 ?side2 ?side3 ?side4 A3.out).mono ?_);(case side1 => exact hKq (Kd.C_below HR0_3.out HB.out));(case side2 => exact HC0_3.out);(case side3 => exact hKq (Kd.C_below HR1_3.out HB.out));(case side4 => exact HC1_3.out);rintro e w' ⟨rfl,⟨nd,rfl⟩⟩;refine ⟨_,rfl,?_⟩)) | (have _ := EQ1;((with_reducible refine zN (f := 44) rfl ?_);refine zax (some 16) rfl rfl Try.func44 (by kernel_rfl) rfl #[.slice A0_2 l0_2.length c0_2,.slice A1_2 l1_2.length c1_2] rfl hMq ?_;(with_reducible refine (zz.calls k _ _ l0_2 _ _ l1_2 true _ ?side1 ?side2 ?side3 ?side4 A4.out).mono ?_);(case side1 => repeat (first | exact (Kd.C_below HR0_2.out hCq) | (with_reducible refine Kd.C_alloc ?_ _) | (with_reducible refine Kd.C_drewN ?_ _) | (with_reducible refine Kd.C_drew ?_)));(case side2 => exact HC0_2.out);(case side3 => repeat (first | exact (Kd.C_below HR1_2.out hCq) | (with_reducible refine Kd.C_alloc ?_ _) | (with_reducible refine Kd.C_drewN ?_ _) | (with_reducible refine Kd.C_drew ?_)));(case side4 => exact HC1_2.out);rintro e wQF44A41 ⟨rfl,hb⟩;refine ⟨_,rfl,?_⟩;have n_ := haq (hbq ya.out hb) <| haq (hbq yb.out hb) <| haq (zf hCq hb) <| trivial;clear ya yb HB;obtain ⟨ya,yb,HB,_⟩ := n_;(try clear hb);(try clear hb2);(try clear hk);(try clear hi);obtain ⟨hczQF44A44,hczQF44A45,hczQF44A46,hczQF44A47,hczQF44A48,hczQF44A49,ym,yn,yo,yp,yq,yr⟩ := hcq6 ya.out;obtain ⟨yg,yh,yi,yj,yk,yl,yt,yu,yv,yw,yx,yy⟩ := hcq6 yb.out)) | (have _ := EQ2;((with_reducible refine zN (f := 44) rfl ?_);refine zax (some 16) rfl rfl Try.func44 (by kernel_rfl) rfl #[.slice A0_2 l0_2.length c0_2,.slice A1_2 l1_2.length c1_2] rfl hMq ?_;(with_reducible refine (zz.calls k _ _ l0_2 _ _ l1_2 false _ ?side1 ?side2 ?side3 ?side4 A4.out).mono ?_);(case side1 => repeat (first | exact (Kd.C_below HR0_2.out hCq) | (with_reducible refine Kd.C_alloc ?_ _) | (with_reducible refine Kd.C_drewN ?_ _) | (with_reducible refine Kd.C_drew ?_)));(case side2 => exact HC0_2.out);(case side3 => repeat (first | exact (Kd.C_below HR1_2.out hCq) | (with_reducible refine Kd.C_alloc ?_ _) | (with_reducible refine Kd.C_drewN ?_ _) | (with_reducible refine Kd.C_drew ?_)));(case side4 => exact HC1_2.out);rintro e wQF44A41 ⟨rfl,hb⟩;refine ⟨_,rfl,?_⟩;have n_ := haq (hbq ya.out hb) <| haq (hbq yb.out hb) <| haq (zf hCq hb) <| trivial;clear ya yb HB;obtain ⟨ya,yb,HB,_⟩ := n_;(try clear hb);(try clear hb2);(try clear hk);(try clear hi))) | (have _ := EQ3;((with_reducible refine zN (f := 43) rfl ?_);refine zax (some 11) rfl rfl Try.func43 (by kernel_rfl) rfl #[.slice A0_3 l0_3.length c0_3,.slice A1_3 l1_3.length c1_3] rfl hMq ?_;(with_reducible refine (zS.calls k _ _ l0_3 _ _ l1_3 false _ ?side1 ?side2 ?side3 ?side4 A3.out).mono ?_);(case side1 => exact hKq (Kd.C_below HR0_3.out HB.out));(case side2 => exact HC0_3.out);(case side3 => exact hKq (Kd.C_below HR1_3.out HB.out));(case side4 => exact HC1_3.out);rintro e w' ⟨rfl,⟨nd,rfl⟩⟩;refine ⟨_,rfl,?_⟩)) | (have _ := EQ3;((with_reducible refine zN (f := 44) rfl ?_);refine zax (some 16) rfl rfl Try.func44 (by kernel_rfl) rfl #[.slice A0_2 l0_2.length c0_2,.slice A1_2 l1_2.length c1_2] rfl hMq ?_;(with_reducible refine (zz.calls k _ _ l0_2 _ _ l1_2 yc _ ?side1 ?side2 ?side3 ?side4 A4.out).mono ?_);(case side1 => repeat (first | exact (Kd.C_below HR0_2.out hCq) | (with_reducible refine Kd.C_alloc ?_ _) | (with_reducible refine Kd.C_drewN ?_ _) | (with_reducible refine Kd.C_drew ?_)));(case side2 => exact HC0_2.out);(case side3 => repeat (first | exact (Kd.C_below HR1_2.out hCq) | (with_reducible refine Kd.C_alloc ?_ _) | (with_reducible refine Kd.C_drewN ?_ _) | (with_reducible refine Kd.C_drew ?_)));(case side4 => exact HC1_2.out);rintro e wQF44A41 ⟨rfl,hb⟩;refine ⟨_,rfl,?_⟩;have n_ := haq (hbq ya.out hb) <| haq (hbq yb.out hb) <| haq (zf hCq hb) <| trivial;clear ya yb HB;obtain ⟨ya,yb,HB,_⟩ := n_;(try clear hb);(try clear hb2);(try clear hk);(try clear hi))))
  go_ret
  exact ⟨hHq,hCq⟩
end Go.Proofs.Ytndjfdakflaggaa.Px
namespace Go.Proofs.Ytndjfdakflaggaa.Px
open Go.RowKit Go.Proofs.YtndjfdakflaggaaW.PrintWords Go.Proofs.YtndjfdakflaggaaW.PrintLast Go.Proofs.YtndjfdakflaggaaW.PrintMore
attribute [local go_sem] zC zE zI zJ zu zv zD zF
set_option linter.unusedVariables false
set_option linter.unusedSimpArgs false
def zcj (a r : Int) (bs : List S78) (ps : List ByteArray) (x y : Int) : Bs :=
 zdq a.toNat ++ zdq r.toNat ++ zcm (bs.map bB) ++ zcm ps ++ zdq x.toNat ++ zdq y.toNat
theorem zcS (a r : Int) (bs : List S78) (ps : List ByteArray) (x y n : Int) : zbt a r bs ps x y n = true ↔ zc1 n = true ∧ 1 ≤ a ∧ a ≤ n ∧ 1 ≤ r ∧ r ≤ 1048576 ∧ bs.length ≤ 4 ∧ bs.any (zdg n) = false ∧ zfH x y = true ∧ (zdt r = true ∨ x = 0 ∧ y = 0) ∧ zce ps r n = true := by
 unfold zbt
 simp [and_assoc]
theorem zio (l : List ByteArray) (d : Nat) : ∀ j,zbg l d j = true → ∀ i,j ≤ i → i < j + d → (l.getD i ByteArray.empty).size = 32 := by
 induction d with
 | zero => intro j _ i h1 h2;omega
 | succ d ih =>
  intro j h i h1 h2
  rw [zbg,Bool.and_eq_true] at h
  rcases Nat.lt_or_ge j i with h3 | h3
  ·exact ih (j + 1) h.2 i (by omega) (by omega)
  ·obtain rfl : i = j := by omega
   have := h.1
   rw [zgU,Bool.and_eq_true] at this
   exact of_decide_eq_true this.1
theorem zbK {l : List ByteArray} {r n : Int} (hn : zc1 n = true) (h : zce l r n = true) : l.length ≤ 64 ∧ ∀ t ∈ l,t.size = 32 := by
 unfold zce at h
 split at h
 ·have h0 := of_decide_eq_true h
  obtain rfl := List.eq_nil_of_length_eq_zero h0
  simp
 ·obtain ⟨_,h2,_⟩ := (zcR n).1 hn
  rw [Bool.and_eq_true,Bool.and_eq_true] at h
  have h3 := of_decide_eq_true h.2
  refine ⟨by omega,fun t ht => ?_⟩
  obtain ⟨i,hi,rfl⟩ := List.mem_iff_getElem.1 ht
  have := zio l l.length 0 h.1.1 i (by omega) (by omega)
  rwa [List.getD_eq_getElem?_getD,List.getElem?_eq_getElem hi] at this
theorem bB_size (b : S78) : (bB b).size ≤ 400 := by
 unfold bB
 split
 ·rename_i h
  obtain ⟨h1,h2,h3,h4,h5,h6,h7⟩ := (zd5 _ _ _).1 h
  have r1 := zeb b.f2 48 (by omega) (fun t ht => (h7 t ht).2)
  have r2 := zaZ (v := b.f2.length) (by omega)
  have r4 := zaZ (v := b.f0.toNat) (by omega)
  have r5 := zaZ (v := b.f1.toNat) (by omega)
  rw [zay,ze4,List.length_append,List.length_append,zcm,List.length_append];omega
 ·show 0 ≤ 400;omega
theorem zhD {bs : List S78} (h : bs.length ≤ 4) : (zcm (bs.map bB)).length ≤ 1700 := by
 have r1 := zeb (bs.map bB) 400 (by omega) (fun t ht => by obtain ⟨b,_,rfl⟩ := List.mem_map.1 ht;exact bB_size b)
 rw [List.length_map] at r1
 have r2 := zaZ (v := (bs.map bB).length) (by rw [List.length_map];omega)
 rw [zcm,List.length_append];omega
theorem zhE {ps : List ByteArray} (h : ps.length ≤ 64 ∧ ∀ t ∈ ps,t.size = 32) : (zcm ps).length ≤ 2700 := by
 have r1 := zeb ps 32 (by omega) (fun t ht => by have := h.2 t ht;omega)
 have r2 := zaZ (v := ps.length) (by have := h.1;omega)
 rw [zcm,List.length_append];have := h.1;omega
theorem any_odd {n : Int} {bs : List S78} (h : bs.any (zdg n) = false) : ∀ b ∈ bs,zd4 b.f0 b.f1 b.f2 = true ∧ b.f0 ≤ n := by
 intro b hb
 rw [List.any_eq_false] at h
 have := h b hb
 rw [zdg] at this
 simp at this
 exact ⟨this.1,by omega⟩
theorem rd_four (a b c d : ByteArray) : zB ByteArray.empty [a,b,c,d] 0 = a ∧ zB ByteArray.empty [a,b,c,d] 1 = b ∧ zB ByteArray.empty [a,b,c,d] 2 = c ∧ zB ByteArray.empty [a,b,c,d] 3 = d := ⟨rfl,rfl,rfl,rfl⟩
theorem zfQ (a r : Int) (bs : List S78) (ps : List ByteArray) (x y n : Int) :
  zaz.f a r bs ps x y n = some (if zbt a r bs ps x y n = true then (toB (zcj a r bs ps x y),0) else ((⟨#[]⟩ : ByteArray),1)) := by
 unfold zaz.f
 rw [show zaA.f a r bs ps x y n = some (zbt a r bs ps x y n) from rfl]
 simp only [Option.bind_some]
 by_cases h : zbt a r bs ps x y n = true
 ·rw [if_pos h,if_pos h]
  obtain ⟨h0,h1,h2,h3,h4,h5,h6,h7,h8,h9⟩ := (zcS ..).1 h
  obtain ⟨k1,k2,k3⟩ := (zcR n).1 h0
  obtain ⟨x1,x2,y1,y2⟩ := (zeO x y).1 h7
  have e1 : zaH.f bs = some (bs.map bB) := if_pos h5
  have e2 : zav.f [a,r,x,y] = some [zbm a.toNat,zbm r.toNat,zbm x.toNat,zbm y.toNat] := by
   rw [zav.f,if_pos]
   ·rfl
   ·refine ⟨Nat.le_refl 4,fun k hk => ?_⟩
    simp only [List.mem_cons,List.not_mem_nil,or_false] at hk
    rcases hk with rfl | rfl | rfl | rfl <;> omega
  have s0 := za6 (v := a.toNat) (by omega)
  have s1 := za6 (v := r.toNat) (by omega)
  have s2 := za6 (v := x.toNat) (by omega)
  have s3 := za6 (v := y.toNat) (by omega)
  have r1 := zhD h5
  have r2 := zhE (zbK h0 h9)
  have d1 : zV.f (bs.map bB) = some (toB (zcm (bs.map bB))) := if_pos (by omega)
  have d2 : zV.f ps = some (toB (zcm ps)) := if_pos (by omega)
  rw [e1,e2]
  simp only [Option.bind_some,d1,d2]
  obtain ⟨q0,q1,q2,q3⟩ := rd_four (zbm a.toNat) (zbm r.toNat) (zbm x.toNat) (zbm y.toNat)
  rw [q0,q1,q2,q3]
  simp only [ByteArray.size_append,zay]
  rw [if_pos (by simp),if_pos (by simp),if_pos (by omega),if_pos (by omega),if_pos (by omega),if_pos (by simp),if_pos (by omega),if_pos (by simp),if_pos (by omega)]
  simp only [zcj,zbm,zbc]
 ·rw [if_neg h,if_neg h]
instance decBatch : DecidableEq S78 := fun a b => decidable_of_iff (a.f0 = b.f0 ∧ a.f1 = b.f1 ∧ a.f2 = b.f2) ⟨fun ⟨h0,h1,h2⟩ => by obtain ⟨a0,a1,a2⟩ := a;obtain ⟨b0,b1,b2⟩ := b;simp only at h0 h1 h2;rw [h0,h1,h2],fun h => by rw [h];exact ⟨rfl,rfl,rfl⟩⟩
theorem zdm (l : List S78) (j : Nat) (h : j < l.length) : zO l (j : Int) = l[j] := by
 rw [zO,Int.toNat_natCast,List.getD_eq_getElem?_getD,List.getElem?_eq_getElem h];rfl
theorem zfM (a b : List S78) (hl : a.length = b.length) (hb : a.length < 4611686018427387904) (hs : ∀ x ∈ a,x.f2.length < 4611686018427387904) (d : Nat) : ∀ j,j + d = a.length →
  Ev (fun k => zz.l0 k a b (j : Int)) (decide (a.drop j = b.drop j)) := by
 induction d with
 | zero =>
  intro j hj
  refine Ev.step (fun k => by rw [zz.l0]) ?_
  refine zQ (by omega) (z4 (Ev.now _) ?_)
  rw [List.drop_eq_nil_of_le (by omega),List.drop_eq_nil_of_le (by omega)];rfl
 | succ d ih =>
  intro j hj
  have ha : j < a.length := by omega
  have hb' : j < b.length := by omega
  refine Ev.step (fun k => by rw [zz.l0]) ?_
  refine zG (by omega) (zG (by omega) (zG (by omega) ?_))
  rw [zdm a j ha,zdm b j hb']
  refine Ev.bind (zfK _ _ _ _ _ _ (hs _ (List.getElem_mem ha))) ?_
  rw [zab (by omega) (by omega),List.drop_eq_getElem_cons ha,List.drop_eq_getElem_cons hb']
  by_cases e : a[j] = b[j]
  ·refine zG (by rw [e];simp [zhf]) (z4 (ih (j + 1) (by omega)) ?_)
   rw [e];exact decide_eq_decide.2 ⟨fun h => by rw [h],fun h => (List.cons.inj h).2⟩
  ·refine zQ ?_ (z4 (Ev.now _) ?_)
   ·intro hh
    apply e
    obtain ⟨h0,h1,h2⟩ := of_decide_eq_true hh
    generalize a[j] = p at *
    generalize b[j] = q at *
    obtain ⟨p0,p1,p2⟩ := p;obtain ⟨q0,q1,q2⟩ := q
    simp only at h0 h1 h2;rw [h0,h1,h2]
   ·exact (decide_eq_false (fun h => e (List.cons.inj h).1)).symm
theorem zgR (a b : List S78) (hb : a.length < 4611686018427387904) (hs : ∀ x ∈ a,x.f2.length < 4611686018427387904) : Ev (fun k => zz.f k a b) (decide (a = b)) := by
 by_cases h : a.length = b.length
 ·exact zG (by omega) (zfM a b h hb hs a.length 0 (by omega))
 ·refine zQ (by omega) (z4 (Ev.now _) ?_)
  have : ¬ a = b := fun e => h (by rw [e])
  simp [this]
def zcT (a r : Int) (bs : List S78) (ps : List ByteArray) (x y a' r' : Int) (bs' : List S78) (ps' : List ByteArray) (x' y' : Int) : Bool := decide (a = a' ∧ r = r' ∧ bs = bs' ∧ ps = ps' ∧ x = x' ∧ y = y')
theorem zdJ (a r : Int) (bs : List S78) (ps : List ByteArray) (x y a' r' : Int) (bs' : List S78) (ps' : List ByteArray) (x' y' : Int) (hb : bs.length < 4611686018427387904) (hs : ∀ b ∈ bs,b.f2.length < 4611686018427387904) (hp : ps.length < 4611686018427387904) :
  Ev (fun k => zaR.f k a r bs ps x y a' r' bs' ps' x' y') (zcT a r bs ps x y a' r' bs' ps' x' y') := by
 refine Ev.bind (zgw _ _ hp) (Ev.bind (zgR _ _ hb hs) ?_)
 unfold zcT
 by_cases h1 : ps = ps'
 ·refine zG (by simp [h1]) ?_
  by_cases h2 : bs = bs'
  ·refine zG (by simp [h2]) ?_
   by_cases h3 : a = a'
   ·refine zG h3 ?_
    by_cases h4 : r = r'
    ·refine zG h4 (z4 (Ev.now _) ?_)
     by_cases h5 : x = x' <;> by_cases h6 : y = y' <;> simp [h1,h2,h3,h4,h5,h6]
    ·exact zQ h4 (z4 (Ev.now _) (by simp [h4]))
   ·exact zQ h3 (z4 (Ev.now _) (by simp [h3]))
  ·exact zQ (by simp [h2]) (z4 (Ev.now _) (by simp [h2]))
 ·exact zQ (by simp [h1]) (z4 (Ev.now _) (by simp [h1]))
theorem zcC {a r : Int} {bs : List S78} {ps : List ByteArray} {x y a' r' : Int} {bs' : List S78} {ps' : List ByteArray} {x' y' : Int} : zcT a r bs ps x y a' r' bs' ps' x' y' = true ↔ a = a' ∧ r = r' ∧ bs = bs' ∧ ps = ps' ∧ x = x' ∧ y = y' := by
 rw [zcT,decide_eq_true_iff]
theorem ziE {a r : Int} {bs : List S78} {ps : List ByteArray} {x y n : Int} (h : zbt a r bs ps x y n = true) : bs.length < 4611686018427387904 ∧ (∀ b ∈ bs,b.f2.length < 4611686018427387904) ∧ ps.length < 4611686018427387904 := by
 obtain ⟨h0,_,_,_,_,h5,h6,_,_,h9⟩ := (zcS ..).1 h
 refine ⟨by omega,fun b hb => ?_,by have := (zbK h0 h9).1;omega⟩
 obtain ⟨_,_,_,_,_,k,_⟩ := (zd5 _ _ _).1 (any_odd h6 b hb).1
 omega
theorem zig (o q : Int) (l : List ByteArray) (hl : l.length < 4611686018427387904) (d : Nat) : ∀ j,j + d = l.length →
  Ev (fun k => zw.l0 k (j : Int) o q l) (!(l.drop j).any zcG) := by
 induction d with
 | zero =>
  intro j hj
  refine Ev.step (fun k => by rw [zw.l0]) ?_
  refine zQ (by omega) (z4 (Ev.now _) ?_)
  rw [List.drop_eq_nil_of_le (by omega)];rfl
 | succ d ih =>
  intro j hj
  have hjl : j < l.length := by omega
  refine Ev.step (fun k => by rw [zw.l0]) ?_
  refine zG (by omega) (zG (by omega) ?_)
  rw [zeT l j hjl,List.drop_eq_getElem_cons hjl,zab (by omega) (by omega),List.any_cons]
  by_cases h1 : (l[j].size : Int) < 1
  ·refine zG h1 (z4 (Ev.now _) ?_)
   have : l[j].size = 0 := by omega
   simp [zcG,this]
  ·refine zQ h1 ?_
   by_cases h2 : (l[j].size : Int) > 48
   ·refine zG h2 (z4 (Ev.now _) ?_)
    have : 48 < l[j].size := by omega
    simp [zcG,this]
   ·refine zQ h2 (z4 (ih (j + 1) (by omega)) ?_)
    have e1 : zcG l[j] = false := by
     have : ¬ l[j].size = 0 := by omega
     have h3 : ¬ 48 < l[j].size := by omega
     simp [zcG,this,h3]
    rw [e1,Bool.false_or]
theorem zg9 (o q : Int) (l : List ByteArray) (hl : l.length < 4611686018427387904) : Ev (fun k => zw.f k o q l) (zd4 o q l) := by
 have key : ∀ b : Bool,(b = true ↔ ¬ (1 ≤ o ∧ o ≤ 64 ∧ 1 ≤ q ∧ q ≤ 1073741824 ∧ 1 ≤ l.length ∧ l.length ≤ 4)) → Ev (fun k => zw.j0 k b o q l) (zd4 o q l) := by
  intro b hb
  refine Ev.step (fun k => by rw [zw.j0]) ?_
  by_cases h : 1 ≤ o ∧ o ≤ 64 ∧ 1 ≤ q ∧ q ≤ 1073741824 ∧ 1 ≤ l.length ∧ l.length ≤ 4
  ·refine zQ (fun hh => hb.1 hh h) (z4 (zig o q l hl l.length 0 (by omega)) ?_)
   obtain ⟨h1,h2,h3,h4,h5,h6⟩ := h
   simp [zd4,h1,h2,h3,h4,h5,h6]
  ·refine zG (hb.2 h) (z4 (Ev.now _) ?_)
   symm
   rw [← Bool.not_eq_true,zd5]
   exact fun ⟨h1,h2,h3,h4,h5,h6,_⟩ => h ⟨h1,h2,h3,h4,h5,h6⟩
 by_cases h1 : o < 1
 ·exact zG h1 (key true (by simp;omega))
 refine zQ h1 ?_
 by_cases h2 : o > 64
 ·exact zG h2 (key true (by simp;omega))
 refine zQ h2 ?_
 by_cases h3 : q < 1
 ·exact zG h3 (key true (by simp;omega))
 refine zQ h3 ?_
 by_cases h4 : q > 1073741824
 ·exact zG h4 (key true (by simp;omega))
 refine zQ h4 ?_
 by_cases h5 : (l.length : Int) < 1
 ·exact zG h5 (key true (by simp;omega))
 exact zQ h5 (key _ (by simp;omega))
theorem zdS (n : Int) : z8.f n = some (zc1 n) := by
 unfold z8.f zc1
 by_cases h4 : n = 4
 ·subst h4;rfl
 ·rw [if_neg h4]
  by_cases h : n > 4
  ·rw [if_pos h]
   by_cases h1 : n ≤ 64
   ·rw [if_pos h1,zab (by omega) (by omega),Int.tmod_eq_emod_of_nonneg (by omega)]
    by_cases h2 : n % 3 = 1
    ·have : (n - 1) % 3 = 0 := by omega
     simp [h1,h2,this];omega
    ·have : ¬ (n - 1) % 3 = 0 := by omega
     simp [h2,this]
   ·rw [if_neg h1];simp [h1]
  ·rw [if_neg h]
   have : ¬ 4 ≤ n := by omega
   simp [this]
theorem zfJ (n : Int) : zag.f n = some (zbZ n) := by
 unfold zag.f zbZ
 rw [zdS]
 simp only [Option.bind_some]
 by_cases h : zc1 n = true
 ·rw [if_pos h,if_pos h]
  obtain ⟨h1,h2,h3⟩ := (zcR n).1 h
  rw [zab (x := n - 1) (by omega) (by omega),Int.tdiv_eq_ediv_of_nonneg (by omega),zab (x := (n - 1) / 3) (by omega) (by omega),zab (by omega) (by omega)]
 ·rw [if_neg h,if_neg h]
theorem zhy (a b : Int) : zan.f a b = some (zfH a b) := by
 unfold zan.f zfH
 by_cases h1 : 0 ≤ a <;> by_cases h2 : a < 10007 <;> by_cases h3 : 0 ≤ b <;> simp [h1,h2,h3]
theorem zgu (r : Int) : zY.f r = some (zdt r) := by
 unfold zY.f zdt
 by_cases h : r > 0
 ·rw [if_pos h,Int.tmod_eq_emod_of_nonneg (by omega)]
  by_cases h2 : r % 3 = 0
  ·have : 3 ≤ r := by omega
   simp [h2,this]
  ·simp [h2]
 ·rw [if_neg h]
  have : ¬ 3 ≤ r := by omega
  simp [this]
def zfl (r x y : Int) : Bool := zfH x y && (zdt r || (decide (x = 0) && decide (y = 0)))
theorem ziV (a r : Int) (bs : List S78) (ps : List ByteArray) (x y : Int) (hl : ps.length < 4611686018427387904) (hp : ∀ t ∈ ps,t.size < 4611686018427387904) (d : Nat) : ∀ j,j + d = ps.length →
  Ev (fun k => zi.l1 k (j : Int) a r bs ps x y) (zbg ps d j && zfl r x y) := by
 induction d with
 | zero =>
  intro j hj
  refine Ev.step (fun k => by rw [zi.l1]) ?_
  refine zQ (by omega) (zak (zhy x y) (zak (zgu r) ?_))
  unfold zfl
  by_cases h1 : zfH x y = true
  ·refine zG h1 ?_
   by_cases h2 : zdt r = true
   ·exact zG h2 (z4 (Ev.now _) (by simp [zbg,h1,h2]))
   ·refine zQ h2 ?_
    by_cases h3 : x = 0
    ·refine zG h3 (z4 (Ev.now _) ?_)
     rw [Bool.not_eq_true] at h2
     subst h3
     by_cases h4 : y = 0
     ·subst h4;simp [zbg,h1,h2]
     ·simp [zbg,h1,h2,h4]
    ·rw [Bool.not_eq_true] at h2
     exact zQ h3 (z4 (Ev.now _) (by simp [zbg,h2,h3]))
  ·rw [Bool.not_eq_true] at h1
   exact zQ (by rw [h1];simp) (z4 (Ev.now _) (by simp [zbg,h1]))
 | succ d ih =>
  intro j hj
  have hj' : j < ps.length := by omega
  refine Ev.step (fun k => by rw [zi.l1]) ?_
  refine zG (by omega) (zG (by omega) ?_)
  have e1 : zB ByteArray.empty ps (j : Int) = ps.getD j ByteArray.empty := by rw [zB,Int.toNat_natCast]
  rw [e1]
  by_cases h : (ps.getD j ByteArray.empty).size = 32
  ·refine zG (by omega) ?_
   rw [zab (x := (j : Int) + 1) (by omega) (by omega)]
   by_cases h0 : j = 0
   ·subst h0
    refine zQ (by omega) (z4 (ih 1 (by omega)) ?_)
    simp only [zbg,zgU,h];simp
   ·refine zG (by omega) ?_
    have e2 : wrap64 ((j : Int) - 1) = ((j - 1 : Nat) : Int) := by rw [zab (by omega) (by omega)];omega
    rw [e2]
    refine zG (by omega) (zG (by omega) ?_)
    have e3 : zB ByteArray.empty ps ((j - 1 : Nat) : Int) = ps.getD (j - 1) ByteArray.empty := by rw [zB,Int.toNat_natCast]
    rw [e3]
    have hsz : (ps.getD (j - 1) ByteArray.empty).size < 4611686018427387904 := by
     rw [List.getD_eq_getElem?_getD,List.getElem?_eq_getElem (show j - 1 < ps.length by omega)]
     exact hp _ (List.getElem_mem _)
    refine Ev.bind (less_ev _ _ hsz) ?_
    by_cases h2 : zd3 (ofB (ps.getD (j - 1) ByteArray.empty)) (ofB (ps.getD j ByteArray.empty)) = true
    ·refine zG h2 (z4 (ih (j + 1) (by omega)) ?_)
     simp only [zbg,zgU,h,h2];simp
    ·refine zQ h2 (z4 (Ev.now _) ?_)
     rw [Bool.not_eq_true] at h2
     simp only [zbg,zgU,h,h0,h2];simp
  ·refine zQ (by omega) (z4 (Ev.now _) ?_)
   simp only [zbg,zgU,h];simp
def zfZ (r : Int) (ps : List ByteArray) (x y n : Int) : Bool :=
 !(decide (r = 1) && decide (0 < ps.length)) && !(decide (1 < r) && (decide ((ps.length : Int) < zbZ n) || decide (n < ps.length))) && (zbg ps ps.length 0 && zfl r x y)
theorem ziU (a r : Int) (bs : List S78) (ps : List ByteArray) (x y n : Int) (hb : bs.length < 4611686018427387904) (hbs : ∀ b ∈ bs,b.f2.length < 4611686018427387904) (hl : ps.length < 4611686018427387904) (hp : ∀ t ∈ ps,t.size < 4611686018427387904) (d : Nat) : ∀ j,j + d = bs.length →
  Ev (fun k => zi.l0 k n (j : Int) a r bs ps x y) (!(bs.drop j).any (zdg n) && zfZ r ps x y n) := by
 induction d with
 | zero =>
  intro j hj
  refine Ev.step (fun k => by rw [zi.l0]) ?_
  rw [List.drop_eq_nil_of_le (by omega)]
  refine zQ (by omega) ?_
  have J3 : ∀ b : Bool,Ev (fun k => zi.j3 k b a r bs ps x y) (!b && (zbg ps ps.length 0 && zfl r x y)) := by
   intro b
   refine Ev.step (fun k => by rw [zi.j3]) ?_
   rcases b with _ | _
   ·exact zQ (by simp) (z4 (ziV a r bs ps x y hl hp ps.length 0 (by omega)) (by simp))
   ·exact zG rfl (z4 (Ev.now _) (by simp))
  have J2 : ∀ b : Bool,Ev (fun k => zi.j2 k n b a r bs ps x y) (!b && (!(decide (1 < r) && (decide ((ps.length : Int) < zbZ n) || decide (n < ps.length))) && (zbg ps ps.length 0 && zfl r x y))) := by
   intro b
   refine Ev.step (fun k => by rw [zi.j2]) ?_
   rcases b with _ | _
   ·refine zQ (by simp) ?_
    by_cases h : r > 1
    ·have h' : 1 < r := h
     refine zG h (zak (zfJ n) ?_)
     by_cases h2 : (ps.length : Int) < zbZ n
     ·exact zG h2 (z4 (J3 true) (by simp [h',h2]))
     ·exact zQ h2 (z4 (J3 _) (by simp [h',h2]))
    ·have h' : ¬ 1 < r := h
     exact zQ h (z4 (J3 false) (by simp [h']))
   ·exact zG rfl (z4 (Ev.now _) (by simp))
  unfold zfZ
  by_cases h : r = 1
  ·refine zG h (z4 (J2 _) ?_)
   subst h
   by_cases h0 : 0 < ps.length
   ·have : decide ((ps.length : Int) > 0) = true := decide_eq_true (by omega)
    simp [this,h0]
   ·have : decide ((ps.length : Int) > 0) = false := decide_eq_false (by omega)
    simp [this,h0]
  ·exact zQ h (z4 (J2 false) (by simp [h]))
 | succ d ih =>
  intro j hj
  have hj' : j < bs.length := by omega
  refine Ev.step (fun k => by rw [zi.l0]) ?_
  refine zG (by omega) (zG (by omega) ?_)
  rw [zdm bs j hj',zab (by omega) (by omega),List.drop_eq_getElem_cons hj',List.any_cons]
  refine Ev.bind (zg9 _ _ _ (hbs _ (List.getElem_mem hj'))) ?_
  by_cases h : zd4 bs[j].f0 bs[j].f1 bs[j].f2 = true
  ·refine zG h ?_
   by_cases h2 : bs[j].f0 > n
   ·have h3 : n < bs[j].f0 := h2
    exact zG h2 (z4 (Ev.now _) (by simp [zdg,h3]))
   ·have h3 : ¬ n < bs[j].f0 := h2
    refine zQ h2 (z4 (ih (j + 1) (by omega)) ?_)
    have : zdg n bs[j] = false := by simp [zdg,h,h3]
    rw [this,Bool.false_or]
  ·refine zQ h (z4 (Ev.now _) ?_)
   rw [Bool.not_eq_true] at h
   simp [zdg,h]
theorem mayV_ref (a r : Int) (bs : List S78) (ps : List ByteArray) (x y n : Int) (h0 : zc1 n = true) (h1 : 1 ≤ a) (h2 : a ≤ n) (h3 : 1 ≤ r) (h4 : r ≤ 1048576) (h5 : bs.length ≤ 4) :
  zbt a r bs ps x y n = (!bs.any (zdg n) && zfZ r ps x y n) := by
 unfold zbt zfZ zce zfl
 simp only [h0,h1,h2,h3,h4,h5]
 by_cases e : r = 1
 ·subst e
  rcases ps with _ | ⟨p,ps⟩
  ·simp [zbg,Bool.and_assoc]
  ·simp
 ·have h6 : 1 < r := by omega
  simp only [if_neg e,e,h6]
  have q1 : decide ((ps.length : Int) < zbZ n) = !decide (zbZ n ≤ (ps.length : Int)) := by
   by_cases q : zbZ n ≤ (ps.length : Int) <;> simp [q] <;> omega
  have q2 : decide (n < (ps.length : Int)) = !decide ((ps.length : Int) ≤ n) := by
   by_cases q : (ps.length : Int) ≤ n <;> simp [q] <;> omega
  rw [q1,q2]
  cases bs.any (zdg n) <;> cases zfH x y <;> cases zdt r <;> cases zbg ps ps.length 0 <;> cases decide (zbZ n ≤ (ps.length : Int)) <;> cases decide ((ps.length : Int) ≤ n) <;> simp
theorem ziT (a r : Int) (bs : List S78) (ps : List ByteArray) (x y n : Int) (hb : bs.length < 4611686018427387904) (hbs : ∀ b ∈ bs,b.f2.length < 4611686018427387904) (hl : ps.length < 4611686018427387904) (hp : ∀ t ∈ ps,t.size < 4611686018427387904) :
  Ev (fun k => zi.f k a r bs ps x y n) (zbt a r bs ps x y n) := by
 have key : ∀ b : Bool,(b = true ↔ ¬ (zc1 n = true ∧ 1 ≤ a ∧ a ≤ n ∧ 1 ≤ r ∧ r ≤ 1048576 ∧ bs.length ≤ 4)) → Ev (fun k => zi.j0 k n b a r bs ps x y) (zbt a r bs ps x y n) := by
  intro b hb'
  refine Ev.step (fun k => by rw [zi.j0]) ?_
  by_cases h : zc1 n = true ∧ 1 ≤ a ∧ a ≤ n ∧ 1 ≤ r ∧ r ≤ 1048576 ∧ bs.length ≤ 4
  ·refine zQ (fun hh => hb'.1 hh h) (z4 (ziU a r bs ps x y n hb hbs hl hp bs.length 0 (by omega)) ?_)
   obtain ⟨h0,h1,h2,h3,h4,h5⟩ := h
   rw [mayV_ref a r bs ps x y n h0 h1 h2 h3 h4 h5,List.drop_zero]
  ·refine zG (hb'.2 h) (z4 (Ev.now _) ?_)
   symm
   rw [← Bool.not_eq_true,zcS]
   exact fun ⟨h0,h1,h2,h3,h4,h5,_⟩ => h ⟨h0,h1,h2,h3,h4,h5⟩
 refine zak (zdS n) ?_
 by_cases h0 : zc1 n = true
 ·refine zG h0 ?_
  by_cases h1 : a < 1
  ·exact zG h1 (key true (by simp;omega))
  refine zQ h1 ?_
  by_cases h2 : a > n
  ·exact zG h2 (key true (by simp;omega))
  refine zQ h2 ?_
  by_cases h3 : r < 1
  ·exact zG h3 (key true (by simp;omega))
  refine zQ h3 ?_
  by_cases h4 : r > 1048576
  ·exact zG h4 (key true (by simp;omega))
  exact zQ h4 (key _ (by simp [h0];omega))
 ·exact zQ h0 (key true (by simp [h0]))
theorem zcI {x : Int} (h0 : 0 ≤ x) (h1 : x < 9223372036854775808) : Ev (fun k => zt.f k (IntKind.u64.wrap x)) (zbm x.toNat) := by
 obtain ⟨n,rfl⟩ := Int.eq_ofNat_of_zero_le h0
 rw [zb4 (by omega) (by omega),Int.toNat_natCast]
 exact zfi n (by omega)
def zhg (o q : Int) (l : List ByteArray) : ByteArray × Int := if zd4 o q l = true then (toB (ze4 o q l),0) else ((⟨#[]⟩ : ByteArray),1)
theorem zfh (o q : Int) (l : List ByteArray) (hl : l.length < 4611686018427387904) : Ev (fun k => z9.f k o q l) (zhg o q l) := by
 refine Ev.bind (zg9 _ _ _ hl) ?_
 unfold zhg
 by_cases h : zd4 o q l = true
 ·rw [if_pos h]
  obtain ⟨h1,h2,h3,h4,h5,h6,h7⟩ := (zd5 o q l).1 h
  have r1 := zeb l 48 (by omega) (fun t ht => (h7 t ht).2)
  have r2 := zaZ (v := l.length) (by omega)
  have r3 : (zcm l).length ≤ 300 := by rw [zcm,List.length_append];omega
  have n1 := za6 (v := o.toNat) (by omega)
  have n2 := za6 (v := q.toNat) (by omega)
  have r4 : zM.f l = some (toB (zcm l)) := if_pos (by omega)
  refine zG h (Ev.bind (zcI (by omega) (by omega)) (Ev.bind (zcI (by omega) (by omega)) (zG (by omega) (zak r4 (zG (by rw [ByteArray.size_append,zay];omega) (z4 (Ev.now _) ?_))))))
  rw [ze4,zbc,zbc];rfl
 ·rw [if_neg h];exact zQ h (Ev.now _)
theorem zix (b : S78) : (zhg b.f0 b.f1 b.f2).1 = bB b := by
 unfold zhg bB;split <;> rfl
def zhO (a r : Int) (bs : List S78) (ps : List ByteArray) (x y n : Int) : ByteArray × Int := if zbt a r bs ps x y n = true then (toB (zcj a r bs ps x y),0) else ((⟨#[]⟩ : ByteArray),1)
theorem zhA {a r : Int} {bs : List S78} {ps : List ByteArray} {x y n : Int} (h : zbt a r bs ps x y n = true) (d : Nat) : ∀ j,j + d = bs.length →
  Ev (fun k => zx.l0 k ((bs.take j).map bB) (j : Int) a r bs ps x y) (toB (zcj a r bs ps x y),0) := by
 obtain ⟨h0,h1,h2,h3,h4,h5,h6,h7,h8,h9⟩ := (zcS ..).1 h
 obtain ⟨k1,k2,k3⟩ := (zcR n).1 h0
 obtain ⟨x1,x2,y1,y2⟩ := (zeO x y).1 h7
 induction d with
 | zero =>
  intro j hj
  refine Ev.step (fun k => by rw [zx.l0]) ?_
  rw [List.take_of_length_le (by omega)]
  have s0 := za6 (v := a.toNat) (by omega)
  have s1 := za6 (v := r.toNat) (by omega)
  have s2 := za6 (v := x.toNat) (by omega)
  have s3 := za6 (v := y.toNat) (by omega)
  have r1 := zhD h5
  have r2 := zhE (zbK h0 h9)
  have d1 : zM.f (bs.map bB) = some (toB (zcm (bs.map bB))) := if_pos (by omega)
  have d2 : zM.f ps = some (toB (zcm ps)) := if_pos (by omega)
  refine zQ (by omega) (Ev.bind (zcI (by omega) (by omega)) (Ev.bind (zcI (by omega) (by omega)) (zG (by omega) (zak d1 (zG (by simp only [ByteArray.size_append,zay];omega) (zak d2 (zG (by simp only [ByteArray.size_append,zay];omega)
   (Ev.bind (zcI (by omega) (by omega)) (zG (by simp only [ByteArray.size_append,zay];omega) (Ev.bind (zcI (by omega) (by omega)) (zG (by simp only [ByteArray.size_append,zay];omega) (z4 (Ev.now _) ?_))))))))))))
  simp only [zcj,zbm,zbc]
 | succ d ih =>
  intro j hj
  have hj' : j < bs.length := by omega
  refine Ev.step (fun k => by rw [zx.l0]) ?_
  refine zG (by omega) (zG (by omega) ?_)
  rw [zdm bs j hj',zab (by omega) (by omega)]
  have hl := (ziE h).2.1 _ (List.getElem_mem hj')
  refine Ev.bind (zfh _ _ _ hl) (zG (by rw [List.length_map,List.length_take];omega) ?_)
  rw [zix]
  have e : (bs.take j).map bB ++ [bB bs[j]] = (bs.take (j + 1)).map bB := by
   rw [List.take_succ_eq_append_getElem hj',List.map_append];rfl
  rw [e]
  exact ih (j + 1) (by omega)
theorem zeU (a r : Int) (bs : List S78) (ps : List ByteArray) (x y n : Int) (hb : bs.length < 4611686018427387904) (hbs : ∀ b ∈ bs,b.f2.length < 4611686018427387904) (hl : ps.length < 4611686018427387904) (hp : ∀ t ∈ ps,t.size < 4611686018427387904) :
  Ev (fun k => zx.f k a r bs ps x y n) (zhO a r bs ps x y n) := by
 refine Ev.bind (ziT a r bs ps x y n hb hbs hl hp) ?_
 unfold zhO
 by_cases h : zbt a r bs ps x y n = true
 ·rw [if_pos h]
  exact zG h (z4 (zhA h bs.length 0 (by omega)) rfl)
 ·rw [if_neg h];exact zQ h (Ev.now _)
theorem sha_Sum_of {s : ByteArray} (h : s.size ≤ 10000) : zcN.f s = some (zgz s) := by rw [zcN.f,if_pos (by omega)]
theorem refSum_of {s : ByteArray} (h : s.size ≤ 10000) : zaK.f s = some (zgz s) := by rw [zaK.f,if_pos (by omega)]
theorem zib (b : UInt8) (s : ByteArray) : ((⟨#[b]⟩ : ByteArray) ++ s).size = 1 + s.size := by rw [ByteArray.size_append];rfl
theorem zeX {a r : Int} {bs : List S78} {ps : List ByteArray} {x y n : Int} (h : zbt a r bs ps x y n = true) : (toB (zcj a r bs ps x y)).size ≤ 5000 := by
 obtain ⟨h0,h1,h2,h3,h4,h5,h6,h7,h8,h9⟩ := (zcS ..).1 h
 obtain ⟨k1,k2,k3⟩ := (zcR n).1 h0
 obtain ⟨x1,x2,y1,y2⟩ := (zeO x y).1 h7
 have r1 := zhD (bs := bs) (by omega)
 have r2 := zhE (zbK h0 h9)
 have r3 := zaZ (v := a.toNat) (by omega)
 have r4 := zaZ (v := r.toNat) (by omega)
 have r5 := zaZ (v := x.toNat) (by omega)
 have r6 := zaZ (v := y.toNat) (by omega)
 rw [zay,zcj]
 simp only [List.length_append]
 omega
def zac (a r : Int) (bs : List S78) (ps : List ByteArray) (x y n : Int) : ByteArray × Int := if zbt a r bs ps x y n = true then (zgz ((⟨#[118]⟩ : ByteArray) ++ toB (zcj a r bs ps x y)),0) else ((⟨#[]⟩ : ByteArray),1)
theorem zdK (a r : Int) (bs : List S78) (ps : List ByteArray) (x y n : Int) : za4.f a r bs ps x y n = some (zac a r bs ps x y n) := by
 unfold za4.f zac
 rw [zfQ]
 simp only [Option.bind_some]
 by_cases h : zbt a r bs ps x y n = true
 ·have hs := zeX h
  rw [if_pos h,if_pos h,if_pos rfl,if_pos (by show 1 + (toB (zcj a r bs ps x y)).size ≤ _;omega)]
  show (zcN.f ((⟨#[118]⟩ : ByteArray) ++ toB (zcj a r bs ps x y))).bind _ = _
  rw [sha_Sum_of (by rw [zib];omega)]
  rfl
 ·rw [if_neg h,if_neg h,if_neg (by simp)]
theorem zeE (a r : Int) (bs : List S78) (ps : List ByteArray) (x y n : Int) (hb : bs.length < 4611686018427387904) (hbs : ∀ b ∈ bs,b.f2.length < 4611686018427387904) (hl : ps.length < 4611686018427387904) (hp : ∀ t ∈ ps,t.size < 4611686018427387904) :
  Ev (fun k => za0.f k a r bs ps x y n) (zac a r bs ps x y n) := by
 unfold za0.f
 refine Ev.bind (zeU a r bs ps x y n hb hbs hl hp) ?_
 unfold zhO zac
 by_cases h : zbt a r bs ps x y n = true
 ·have hs := zeX h
  rw [if_pos h,if_pos h]
  refine zG rfl (zG (by show 1 + (toB (zcj a r bs ps x y)).size ≤ _;omega) ?_)
  refine zak (refSum_of (s := (⟨#[118]⟩ : ByteArray) ++ toB (zcj a r bs ps x y)) (by rw [zib];omega)) ?_
  exact Ev.now _
 ·rw [if_neg h,if_neg h]
  exact zQ (by simp) (Ev.now _)
abbrev Ent := S34
abbrev Vtx := S32
abbrev TE := ByteArray × Int × Int × List S78 × List ByteArray × Int × Int × Bool
def zbM (L : List Ent) (low r : Int) (ps : List ByteArray) : List ByteArray := if wrap64 (r - 1) ≤ low then [] else ps.filter fun p => !L.any fun x => decide (x.f1.f1 = wrap64 (r - 1) ∧ x.f0 = p)
def tupE (x : Ent) : TE := (x.f0,x.f1.f0,x.f1.f1,x.f1.f2,x.f1.f3,x.f1.f4.f0,x.f1.f4.f1,true)
def noE : TE := ((⟨#[]⟩ : ByteArray),0,0,[],[],0,0,false)
def zcY (L : List Ent) (g : ByteArray) : Option Ent := L.find? fun x => decide (x.f0 = g)
def byE (L : List Ent) (a r : Int) : Option Ent := L.find? fun x => decide (x.f1.f0 = a ∧ x.f1.f1 = r)
def ze9 (o : Option Ent) : TE := match o with | some x => tupE x | none => noE
def zbe (a r a' r' : Int) : Bool := decide (r < r' ∨ r = r' ∧ a < a')
def zff (L : List Ent) (x : Ent) : List Ent := match L with
 | [] => [x]
 | y :: L => if zbe x.f1.f0 x.f1.f1 y.f1.f0 y.f1.f1 = true then x :: y :: L else y :: zff L x
def zfR (n low : Int) (L : List Ent) (a r : Int) (bs : List S78) (ps : List ByteArray) (x y : Int) : Int :=
 if (zac a r bs ps x y n).2 ≠ 0 then (zac a r bs ps x y n).2
 else if r ≤ low then 9
 else if (zcY L (zac a r bs ps x y n).1).isSome then 8
 else if (byE L a r).isSome then 13
 else if 0 < (zbM L low r ps).length then 11
 else 0
def addE (n low : Int) (L : List Ent) (a r : Int) (bs : List S78) (ps : List ByteArray) (x y : Int) : List Ent :=
 if zfR n low L a r bs ps x y = 0 then zff L ⟨(zac a r bs ps x y n).1,⟨a,r,bs,ps,⟨x,y⟩⟩⟩ else L
def okE (n low : Int) (L : List Ent) (i : Nat) (x : Ent) : Bool :=
 (decide ((zac x.f1.f0 x.f1.f1 x.f1.f2 x.f1.f3 x.f1.f4.f0 x.f1.f4.f1 n).2 = 0) && decide ((zac x.f1.f0 x.f1.f1 x.f1.f2 x.f1.f3 x.f1.f4.f0 x.f1.f4.f1 n).1 = x.f0) && decide (low < x.f1.f1) && decide ((zbM L low x.f1.f1 x.f1.f3).length = 0)) && (decide (i = 0) || zbe (L.getD (i - 1) z34).f1.f0 (L.getD (i - 1) z34).f1.f1 x.f1.f0 x.f1.f1)
def zbf (n low : Int) (L : List Ent) : Bool := zc1 n && decide (0 ≤ low) && (List.range L.length).all fun i => okE n low L i (L.getD i z34)
theorem ent_at {W : World} {base : Nat} {ok : Nat → Prop} {A : Option Addr} {n c : Nat} {L : List Ent} (h : Kd.V k34 34 W base ok (.slice A n c) L) (k : Nat) (hk : k < n) (x : Ent) (hx : L[k]? = some x) :
  ∃ ad A3 c3 A4 c4,A = some ad ∧ W.cell? (ad.add (k * 7)) = some (.string x.f0) ∧ W.cell? ⟨(ad.add (k * 7)).block,(ad.add (k * 7)).off + 1,none⟩ = some (.int .i64 x.f1.f0) ∧ W.cell? ⟨(ad.add (k * 7)).block,(ad.add (k * 7)).off + 2,none⟩ = some (.int .i64 x.f1.f1) ∧ W.cell? ⟨(ad.add (k * 7)).block,(ad.add (k * 7)).off + 3,none⟩ = some (.slice A3 x.f1.f2.length c3) ∧ W.cell? ⟨(ad.add (k * 7)).block,(ad.add (k * 7)).off + 4,none⟩ = some (.slice A4 x.f1.f3.length c4) ∧ W.cell? ⟨(ad.add (k * 7)).block,(ad.add (k * 7)).off + 5,none⟩ = some (.int .i64 x.f1.f4.f0) ∧ W.cell? ⟨(ad.add (k * 7)).block,(ad.add (k * 7)).off + 6,none⟩ = some (.int .i64 x.f1.f4.f1) ∧
   Kd.V k78 78 W base ok (.slice A3 x.f1.f2.length c3) x.f1.f2 ∧ Kd.V Kd.string 9 W base ok (.slice A4 x.f1.f3.length c4) x.f1.f3 := by
 obtain rfl := (Kd.V_reads' h).1
 obtain ⟨ad,_,_,_,_,rfl,_⟩ := za7 (Kd.V_reads' h).2.2 (k : Int) (by omega) (by omega)
 obtain ⟨cs,_,hF,hc0⟩ := Kd.V_get h z34 (k : Int) (by omega) (by omega)
 rw [List.getD_eq_getElem?_getD,Int.toNat_natCast,hx] at hF
 have hc : ∀ j u,cs[j]? = some u → W.cell? (ad.add (k * 7 + j)) = some u := fun j u hj => by have := hc0 j u hj;rwa [Int.toNat_natCast] at this
 obtain ⟨A3,c3,A4,c4,rfl,l3,g3,l4,g4⟩ := zbJ hF
 exact ⟨ad,A3,c3,A4,c4,rfl,hc 0 _ rfl,by rw [← zW _ _ 1 (by omega)];exact hc 1 _ rfl,by rw [← zW _ _ 2 (by omega)];exact hc 2 _ rfl,by rw [← zW _ _ 3 (by omega)];exact hc 3 _ rfl,by rw [← zW _ _ 4 (by omega)];exact hc 4 _ rfl,by rw [← zW _ _ 5 (by omega)];exact hc 5 _ rfl,by rw [← zW _ _ 6 (by omega)];exact hc 6 _ rfl,Kd.V_mk l3 g3,Kd.V_mk l4 g4⟩
theorem zg2 {α : Type} (p : α → Bool) (l : List α) : (∃ (i : Nat) (x : α),i < l.length ∧ l[i]? = some x ∧ l.find? p = some x ∧ zcX p l = i) ∨ (l.find? p = none ∧ zcX p l = -1) := by
 rw [zcX]
 rcases h : l.findIdx? p with _ | i
 ·right
  rw [List.findIdx?_eq_none_iff] at h
  exact ⟨List.find?_eq_none.2 (fun x hx => by simp [h x hx]),rfl⟩
 ·left
  rw [List.findIdx?_eq_some_iff_getElem] at h
  obtain ⟨hi,hp,hn⟩ := h
  refine ⟨i,l[i],hi,List.getElem?_eq_getElem hi,?_,rfl⟩
  rw [List.find?_eq_some_iff_getElem]
  exact ⟨hp,i,hi,rfl,fun j hj => by simpa using hn j hj⟩
def z6.p (s : ByteArray) (x : S34) : Bool := decide (x.f0 = s)
set_option maxHeartbeats 4000000 in
set_option maxRecDepth 100000 in
theorem z6.odd (s : ByteArray) (x0 : ByteArray) (x1 x2 : Int) (A3 : Option Addr) (n3 c3 : Nat) (A4 : Option Addr) (n4 c4 : Nat) (x5 x6 : Int) (g : Nat) (w : World) (hg : w.heap[g]? = some (.cells #[.string s] 9 (0,0))) :
  Calls Try.prog 24 #[.agg #[.string x0,.int .i64 x1,.int .i64 x2,.slice A3 n3 c3,.slice A4 n4 c4,.int .i64 x5,.int .i64 x6],.pointer (some ⟨g,0,none⟩)] w fun e w' => e = .returned (.bool (decide (x0 = s))) ∧ Below w.heap.size w w' := by
 have Hg := za.mk hg
 clear hg
 go_enter Try.func24,Try.ntmps24
 go_wp2_with ((with_reducible refine zq (N := 2) rfl ?_);refine zn rfl (N := 2) rfl (cs := #[.string x0,.int .i64 x1,.int .i64 x2,.slice A3 n3 c3,.slice A4 n4 c4,.int .i64 x5,.int .i64 x6]) (t := 34) hrq ?_;intro gb hg w2 hbox hb;have BK := za.mk hbox;have HB := za.mk hb;have Ng := za.mk (zr Hg.out hb);have z_0 := (zb BK.out 0).trans rfl;have zf_0 := zc BK.out 0;have z_1 := (zb BK.out 1).trans rfl;have zf_1 := zc BK.out 1;have z_2 := (zb BK.out 2).trans rfl;have zf_2 := zc BK.out 2;have z_3 := (zb BK.out 3).trans rfl;have zf_3 := zc BK.out 3;have z_4 := (zb BK.out 4).trans rfl;have zf_4 := zc BK.out 4;have z_5 := (zb BK.out 5).trans rfl;have zf_5 := zc BK.out 5;have z_6 := (zb BK.out 6).trans rfl;have zf_6 := zc BK.out 6;have zg_0 := (zb Ng.out 0).trans rfl;have zgf_0 := zc Ng.out 0;clear hb hbox hg)
 go_ret
 exact ⟨by rw [← zb1];rfl,HB.out⟩
set_option maxHeartbeats 4000000 in
set_option maxRecDepth 100000 in
theorem z6.idx (s : ByteArray) (g : Nat) (A : Option Addr) (c : Nat) (l : List S34) (w : World) (hr : Kd.C k34 w A l.length l) (hg : w.heap[g]? = some (.cells #[.string s] 9 (0,0))) :
  Calls Try.prog 34 #[.slice A l.length c,.func (.func 24) #[] #[.pointer (some ⟨g,0,none⟩)]] w fun e w' => e = .returned (.int .i64 (zcX (z6.p s) l)) ∧ Below w.heap.size w w' := by
 have hm := hr.2.1
 have HR := za.mk hr
 have Hg := za.mk hg
 clear hr hg
 go_enter Try.func34,Try.ntmps34
 go_wp2_with fail
 have HB0 := za.mk (Below.refl w.heap.size w)
 go_loopw [5,8] (fun v5 v8 wr => ∃ k : Nat,v8 = .int .i64 k ∧ k ≤ l.length ∧ za (∀ (j : Nat) (y : S34),j < k → l[j]? = some y → z6.p s y = false) ∧ za (Below w.heap.size w wr)) (fun _ v8 _ => l.length - (match v8 with | .int _ q => q | _ => 0).toNat)
 case atStart => exact ⟨0,rfl,Nat.zero_le _,⟨fun j y hj => absurd hj (Nat.not_lt_zero _)⟩,⟨by repeat (first | (with_reducible first | exact HB0.out | apply zm | apply zj | apply zp) | exact HB0.out)⟩⟩
 case round =>
  obtain ⟨k,rfl,hk,HF,HB⟩ := hrel
  by_cases hlt : k < l.length
  ·obtain ⟨ad,A3,c3,A4,c4,rfl,hx0,hx1,hx2,hx3,hx4,hx5,hx6,_,_,_,_⟩ := za7 HR.out (k : Int) (by omega) (by omega)
   replace hx0 := (HB.out.cell (World.block_lt_of_cell? w _ hx0)).trans hx0
   replace hx1 := (HB.out.cell (World.block_lt_of_cell? w _ hx1)).trans hx1
   replace hx2 := (HB.out.cell (World.block_lt_of_cell? w _ hx2)).trans hx2
   replace hx3 := (HB.out.cell (World.block_lt_of_cell? w _ hx3)).trans hx3
   replace hx4 := (HB.out.cell (World.block_lt_of_cell? w _ hx4)).trans hx4
   replace hx5 := (HB.out.cell (World.block_lt_of_cell? w _ hx5)).trans hx5
   replace hx6 := (HB.out.cell (World.block_lt_of_cell? w _ hx6)).trans hx6
   rw [Int.toNat_natCast] at hx0 hx1 hx2 hx3 hx4 hx5 hx6
   have hb : decide (k < l.length) = true := decide_eq_true hlt
   have hx : l[k]? = some (zd l (k : Int)) := by
    rw [zd,Int.toNat_natCast,List.getD_eq_getElem?_getD,List.getElem?_eq_getElem hlt];rfl
   have HX := za.mk hx
   have Ng := za.mk (zr Hg.out HB.out)
   clear hx
   generalize zd l (k : Int) = s at *
   obtain ⟨s0,⟨s1,s2,s3,s4,⟨s5,s6⟩⟩⟩ := s
   rcases ho : z6.p s ⟨s0,⟨s1,s2,s3,s4,⟨s5,s6⟩⟩⟩ with _ | _
   ·have HO := za.mk ho
    clear ho
    go_wp2_with (go_at_call 24;(with_reducible refine (z6.odd s s0 s1 s2 _ _ _ _ _ _ s5 s6 g _ Ng.out).mono ?_);rintro e w1 ⟨rfl,hb1⟩;rw [show (decide (s0 = s)) = _ from HO.out];have HB1 := za.mk (zf HB.out hb1);clear hb1)
    go_roundw
    case rel =>
     refine ⟨k + 1,by go_num,by omega,⟨fun j y hj hy => ?_⟩,HB1⟩
     rcases Nat.lt_succ_iff_lt_or_eq.1 hj with h | h
     ·exact HF.out j y h hy
     ·subst h
      rw [HX.out] at hy
      injection hy with hy
      subst hy
      exact HO.out
    case measure => simp;omega
   ·have HO := za.mk ho
    clear ho
    go_wp2_with (go_at_call 24;(with_reducible refine (z6.odd s s0 s1 s2 _ _ _ _ _ _ s5 s6 g _ Ng.out).mono ?_);rintro e w1 ⟨rfl,hb1⟩;rw [show (decide (s0 = s)) = _ from HO.out];have HB1 := za.mk (zf HB.out hb1);clear hb1)
    go_ret
    exact ⟨by rw [zdx HX.out HO.out HF.out];rfl,HB1.out⟩
  ·obtain rfl : k = l.length := by omega
   go_wp2_with fail
   go_ret
   exact ⟨by rw [zdy (fun j y hy => HF.out j y (List.getElem?_eq_some_iff.1 hy).1 hy)];rfl,HB.out⟩
set_option maxHeartbeats 4000000 in
set_option maxRecDepth 100000 in
theorem z6.first (s : ByteArray) (g : Nat) (a0_0 : Int) (a0_1 : Int) (P0_2_ : Nat → Prop) (A0_2 : Option Addr) (c0_2 : Nat) (l0_2 : List (S34)) (r1 : ByteArray) (r2 : Int) (r3 : Int) (r4 : List (S78)) (r5 : List ByteArray) (r6 : Int) (r7 : Int) (r8 : Bool) (w : World) (hs0_2 : Kd.V k34 34 w w.heap.size (fun k_ => P0_2_ k_) (.slice A0_2 l0_2.length c0_2) l0_2) (hg : w.heap[g]? = some (.cells #[.string s] 9 (0,0))) (hres : ze9 (l0_2.find? (z6.p s)) = (r1,r2,r3,r4,r5,r6,r7,r8)) :
  Calls Try.prog 23 #[.agg #[.int .i64 a0_0,.int .i64 a0_1,.slice A0_2 l0_2.length c0_2],.func (.func 24) #[] #[.pointer (some ⟨g,0,none⟩)]] w fun e w' => ∃ v3_ v4_ : Value,e = .returned (.tuple #[.agg #[.string r1,.int .i64 r2,.int .i64 r3,v3_,v4_,.int .i64 r6,.int .i64 r7],.bool r8]) ∧ Kd.V k78 78 w' w.heap.size (fun k_ => (P0_2_ k_ ∨ w.heap.size ≤ k_)) v3_ r4 ∧ Kd.V Kd.string 9 w' w.heap.size (fun k_ => (P0_2_ k_ ∨ w.heap.size ≤ k_)) v4_ r5 ∧ Below w.heap.size w w' := by
 have HS := za.mk hs0_2
 have Hg := za.mk hg
 clear hs0_2 hg
 rcases zg2 (z6.p s) l0_2 with ⟨i,x,hi,hx,hf,hidx⟩ | ⟨hf,hidx⟩
 ·rw [hf] at hres
  obtain ⟨x0,⟨x1,x2,x3,x4,⟨x5,x6⟩⟩⟩ := x
  have HI := za.mk hidx
  obtain ⟨ad,A3,c3,A4,c4,rfl,hx0,hx1,hx2,hx3,hx4,hx5,hx6,hv3,hv4⟩ := ent_at HS.out i hi _ hx
  have HV3 := za.mk hv3
  have HV4 := za.mk hv4
  simp only [ze9,tupE,Prod.mk.injEq] at hres
  obtain ⟨rfl,rfl,rfl,rfl,rfl,rfl,rfl,rfl⟩ := hres
  have hib : decide (i < l0_2.length) = true := decide_eq_true hi
  have hi0 : decide ((i : Int) < 0) = false := decide_eq_false (by omega)
  clear hx hf hidx hv3 hv4
  go_enter Try.func23,Try.ntmps23
  go_wp2_with (first
   | ((with_reducible refine zq (N := 2) rfl ?_);refine zn rfl (N := 2) rfl (cs := #[.int .i64 a0_0,.int .i64 a0_1,.slice (some ad) l0_2.length c0_2]) (t := 24) hrq ?_;intro g2 hg w2 hbox hb;have B2 := za.mk hbox;have HB2 := za.mk hb;have Ng := za.mk (zr Hg.out hb);have z2_0 := fun o => (zb (zg B2.out o) 0).trans rfl;have z2_1 := fun o => (zb (zg B2.out o) 1).trans rfl;have z2_2 := fun o => (zb (zg B2.out o) 2).trans rfl;clear hb hbox hg)
   | (go_at_call 34;(with_reducible refine (z6.idx s g _ _ l0_2 _ (Kd.C_below (Kd.V_reads' HS.out).2.2 (zm HB2.out _)) (zg Ng.out _)).mono ?_);rintro e w3 ⟨rfl,hb⟩;rw [HI.out];have HB3 := za.mk (zf (zm HB2.out _) hb);have B4 := za.mk (zr (zbO w2 _) hb);have B22 := za.mk (zr (zg B2.out _) hb);have HLE : za (w.heap.size ≤ w2.heap.size) := ⟨zh HB2.out⟩;clear hb;have y2_0 := (zb B22.out 0).trans rfl;have y2f_0 := zc B22.out 0;have y2_1 := (zb B22.out 1).trans rfl;have y2f_1 := zc B22.out 1;have y2_2 := (zb B22.out 2).trans rfl;have y2f_2 := zc B22.out 2;have y4_0 := (zb B4.out 0).trans rfl;have y4f_0 := zc B4.out 0;have y4_1 := (zb B4.out 1).trans rfl;have y4f_1 := zc B4.out 1;have y4_2 := (zb B4.out 2).trans rfl;have y4f_2 := zc B4.out 2;have y4_3 := (zb B4.out 3).trans rfl;have y4f_3 := zc B4.out 3;have y4_4 := (zb B4.out 4).trans rfl;have y4f_4 := zc B4.out 4;have y4_5 := (zb B4.out 5).trans rfl;have y4f_5 := zc B4.out 5;have y4_6 := (zb B4.out 6).trans rfl;have y4f_6 := zc B4.out 6;have q0 := (HB3.out.cell (World.block_lt_of_cell? w _ hx0)).trans hx0;have q1 := (HB3.out.cell (World.block_lt_of_cell? w _ hx1)).trans hx1;have q2 := (HB3.out.cell (World.block_lt_of_cell? w _ hx2)).trans hx2;have q3 := (HB3.out.cell (World.block_lt_of_cell? w _ hx3)).trans hx3;have q4 := (HB3.out.cell (World.block_lt_of_cell? w _ hx4)).trans hx4;have q5 := (HB3.out.cell (World.block_lt_of_cell? w _ hx5)).trans hx5;have q6 := (HB3.out.cell (World.block_lt_of_cell? w _ hx6)).trans hx6))
  refine bodyPost_ret (zbi rfl _ _ w2.heap.size 34 _ (0,0) _ rfl (zX (zX (zX (zX (zX (zX (zX B4.out 0 _) 1 _) 2 _) 3 _) 4 _) 5 _) 6 _) Try.underlying34 rfl (by kernel_rfl)) rfl ?_
  refine ⟨_,_,rfl,Kd.V_mono (Kd.V_below HV3.out ?e1) (fun _ hk => .inl hk),Kd.V_mono (Kd.V_below HV4.out ?e1) (fun _ hk => .inl hk),?e1⟩
  exact (zl (zl (zl (zl (zl (zl (zl HB3.out HLE.out) HLE.out) HLE.out) HLE.out) HLE.out) HLE.out) HLE.out)
 ·rw [hf] at hres
  have HI := za.mk hidx
  simp only [ze9,noE,Prod.mk.injEq] at hres
  obtain ⟨rfl,rfl,rfl,rfl,rfl,rfl,rfl,rfl⟩ := hres
  clear hf hidx
  go_enter Try.func23,Try.ntmps23
  go_wp2_with (first
   | ((with_reducible refine zq (N := 2) rfl ?_);refine zn rfl (N := 2) rfl (cs := #[.int .i64 a0_0,.int .i64 a0_1,.slice A0_2 l0_2.length c0_2]) (t := 24) hrq ?_;intro g2 hg w2 hbox hb;have B2 := za.mk hbox;have HB2 := za.mk hb;have Ng := za.mk (zr Hg.out hb);have z2_0 := fun o => (zb (zg B2.out o) 0).trans rfl;have z2_1 := fun o => (zb (zg B2.out o) 1).trans rfl;have z2_2 := fun o => (zb (zg B2.out o) 2).trans rfl;clear hb hbox hg)
   | (go_at_call 34;(with_reducible refine (z6.idx s g _ _ l0_2 _ (Kd.C_below (Kd.V_reads' HS.out).2.2 (zm HB2.out _)) (zg Ng.out _)).mono ?_);rintro e w3 ⟨rfl,hb⟩;rw [HI.out];have HB3 := za.mk (zf (zm HB2.out _) hb);have B4 := za.mk (zr (zbO w2 _) hb);have B22 := za.mk (zr (zg B2.out _) hb);have HLE : za (w.heap.size ≤ w2.heap.size) := ⟨zh HB2.out⟩;clear hb;have y2_0 := (zb B22.out 0).trans rfl;have y2f_0 := zc B22.out 0;have y2_1 := (zb B22.out 1).trans rfl;have y2f_1 := zc B22.out 1;have y2_2 := (zb B22.out 2).trans rfl;have y2f_2 := zc B22.out 2;have y4_0 := (zb B4.out 0).trans rfl;have y4f_0 := zc B4.out 0;have y4_1 := (zb B4.out 1).trans rfl;have y4f_1 := zc B4.out 1;have y4_2 := (zb B4.out 2).trans rfl;have y4f_2 := zc B4.out 2;have y4_3 := (zb B4.out 3).trans rfl;have y4f_3 := zc B4.out 3;have y4_4 := (zb B4.out 4).trans rfl;have y4f_4 := zc B4.out 4;have y4_5 := (zb B4.out 5).trans rfl;have y4f_5 := zc B4.out 5;have y4_6 := (zb B4.out 6).trans rfl;have y4f_6 := zc B4.out 6))
  refine bodyPost_ret (zbi rfl _ _ w2.heap.size 34 _ (0,0) _ rfl (zX (zX (zX (zX (zX (zX (zX B4.out 0 _) 1 _) 2 _) 3 _) 4 _) 5 _) 6 _) Try.underlying34 rfl (by kernel_rfl)) rfl ?_
  exact ⟨_,_,rfl,Kd.V_nil _ _ _ _ _,Kd.V_nil _ _ _ _ _,(zl (zl (zl (zl (zl (zl (zl HB3.out HLE.out) HLE.out) HLE.out) HLE.out) HLE.out) HLE.out) HLE.out)⟩
def z6.f (a0_0 : Int) (a0_1 : Int) (l0_2 : List (S34)) (a1 : ByteArray) : Option TE := some (ze9 (zcY l0_2 a1))
set_option maxHeartbeats 4000000 in
set_option maxRecDepth 100000 in
theorem z6.calls (a0_0 : Int) (a0_1 : Int) (P0_2_ : Nat → Prop) (A0_2 : Option Addr) (c0_2 : Nat) (l0_2 : List (S34)) (a1 : ByteArray) (r1 : ByteArray) (r2 : Int) (r3 : Int) (r4 : List (S78)) (r5 : List ByteArray) (r6 : Int) (r7 : Int) (r8 : Bool) (w : World) (hs0_2 : Kd.V k34 34 w w.heap.size (fun k_ => P0_2_ k_) (.slice A0_2 l0_2.length c0_2) l0_2) (h : z6.f a0_0 a0_1 l0_2 a1 = some (r1,r2,r3,r4,r5,r6,r7,r8)) :
  Calls Try.prog 8 #[.agg #[.int .i64 a0_0,.int .i64 a0_1,.slice A0_2 l0_2.length c0_2],.string a1] w fun e w' => ∃ v3_ v4_ : Value,e = .returned (.tuple #[.agg #[.string r1,.int .i64 r2,.int .i64 r3,v3_,v4_,.int .i64 r6,.int .i64 r7],.bool r8]) ∧ Kd.V k78 78 w' w.heap.size (fun k_ => (P0_2_ k_ ∨ w.heap.size ≤ k_)) v3_ r4 ∧ Kd.V Kd.string 9 w' w.heap.size (fun k_ => (P0_2_ k_ ∨ w.heap.size ≤ k_)) v4_ r5 ∧ Below w.heap.size w w' := by
 have HRS := za.mk (show ze9 (l0_2.find? (z6.p a1)) = (r1,r2,r3,r4,r5,r6,r7,r8) from Option.some.inj h)
 have HS := za.mk hs0_2
 clear hs0_2 h
 go_enter Try.func8,Try.ntmps8
 go_wp2_with (first
  | ((with_reducible refine zq (N := 2) rfl ?_);refine zn rfl (N := 2) rfl (cs := #[.int .i64 a0_0,.int .i64 a0_1,.slice A0_2 l0_2.length c0_2]) (t := 24) hrq ?_;intro g0 hg u0 hbox hb;have B0 := za.mk hbox;have HB0 := za.mk hb;clear hb hbox hg)
  | ((with_reducible refine zq (N := 3) rfl ?_);refine zn rfl (N := 3) rfl (cs := #[.string a1]) (t := 9) hrq ?_;intro g1 hg u1 hbox hb;have C0 := za.mk (zr B0.out hb);have HB1 := za.mk (zf HB0.out hb);have B1 := za.mk hbox;have z0_0 := fun o => (zb (zg C0.out o) 0).trans rfl;have z0_1 := fun o => (zb (zg C0.out o) 1).trans rfl;have z0_2 := fun o => (zb (zg C0.out o) 2).trans rfl;clear hb hbox hg)
  | (go_at_call 23;(with_reducible refine (z6.first a1 g1 a0_0 a0_1 (fun k_ => P0_2_ k_ ∧ k_ < w.heap.size) A0_2 c0_2 l0_2 r1 r2 r3 r4 r5 r6 r7 r8 _ (Kd.V_map HS.out (fun _ hf => Kd.F_below (Kd.F_bound hf) (zm HB1.out _))) (zg B1.out _) HRS.out).mono ?_);rintro e w5 ⟨v3,v4,rfl,hV3,hV4,hb⟩;obtain ⟨A3,c3,rfl⟩ := Kd.V_slice hV3;obtain ⟨A4,c4,rfl⟩ := Kd.V_slice hV4;have HV3 := za.mk hV3;have HV4 := za.mk hV4;have HBX := za.mk (zf (zm HB1.out _) hb);have BX := za.mk (zr (zbO u1 _) hb);have HLE : za (w.heap.size ≤ u1.heap.size) := ⟨zh HB1.out⟩;clear hb hV3 hV4;have y_0 := (zb BX.out 0).trans rfl;have yf_0 := zc BX.out 0;have y_1 := (zb BX.out 1).trans rfl;have yf_1 := zc BX.out 1;have y_2 := (zb BX.out 2).trans rfl;have yf_2 := zc BX.out 2;have y_3 := (zb BX.out 3).trans rfl;have yf_3 := zc BX.out 3;have y_4 := (zb BX.out 4).trans rfl;have yf_4 := zc BX.out 4;have y_5 := (zb BX.out 5).trans rfl;have yf_5 := zc BX.out 5;have y_6 := (zb BX.out 6).trans rfl;have yf_6 := zc BX.out 6))
 have far : za (∀ k_,((P0_2_ k_ ∧ k_ < w.heap.size) ∨ (u1.alloc (.cells #[.string (⟨#[]⟩ : ByteArray),.int .i64 0,.int .i64 0,.slice none 0 0,.slice none 0 0,.int .i64 0,.int .i64 0] 34 (0,0))).heap.size ≤ k_) → k_ ≠ u1.heap.size) := ⟨fun k_ hk he => by
  subst he
  rcases hk with hk | hk
  ·exact Nat.lt_irrefl _ (Nat.lt_of_lt_of_le hk.2 HLE.out)
  ·exact absurd hk (by simp)⟩
 have lift : ∀ k_,((P0_2_ k_ ∧ k_ < w.heap.size) ∨ (u1.alloc (.cells #[.string (⟨#[]⟩ : ByteArray),.int .i64 0,.int .i64 0,.slice none 0 0,.slice none 0 0,.int .i64 0,.int .i64 0] 34 (0,0))).heap.size ≤ k_) → (P0_2_ k_ ∨ w.heap.size ≤ k_) := fun k_ hk => by
  rcases hk with hk | hk
  ·exact .inl hk.1
  ·exact .inr (Nat.le_trans HLE.out (Nat.le_trans (by simp) hk))
 refine bodyPost_ret (zbi rfl _ _ u1.heap.size 34 _ (0,0) _ rfl (zX (zX (zX (zX (zX (zX (zX BX.out 0 _) 1 _) 2 _) 3 _) 4 _) 5 _) 6 _) Try.underlying34 rfl (by kernel_rfl)) rfl ?_
 exact ⟨_,_,rfl,Kd.V_mono (Kd.V_far (p := ⟨u1.heap.size,6,none⟩) (Kd.V_far (p := ⟨u1.heap.size,5,none⟩) (Kd.V_far (p := ⟨u1.heap.size,4,none⟩) (Kd.V_far (p := ⟨u1.heap.size,3,none⟩) (Kd.V_far (p := ⟨u1.heap.size,2,none⟩) (Kd.V_far (p := ⟨u1.heap.size,1,none⟩) (Kd.V_far (p := ⟨u1.heap.size,0,none⟩) HV3.out far.out _) far.out _) far.out _) far.out _) far.out _) far.out _) far.out _) lift,Kd.V_mono (Kd.V_far (p := ⟨u1.heap.size,6,none⟩) (Kd.V_far (p := ⟨u1.heap.size,5,none⟩) (Kd.V_far (p := ⟨u1.heap.size,4,none⟩) (Kd.V_far (p := ⟨u1.heap.size,3,none⟩) (Kd.V_far (p := ⟨u1.heap.size,2,none⟩) (Kd.V_far (p := ⟨u1.heap.size,1,none⟩) (Kd.V_far (p := ⟨u1.heap.size,0,none⟩) HV4.out far.out _) far.out _) far.out _) far.out _) far.out _) far.out _) far.out _) lift,(zl (zl (zl (zl (zl (zl (zl HBX.out HLE.out) HLE.out) HLE.out) HLE.out) HLE.out) HLE.out) HLE.out)⟩
def zcy : List (ByteArray × Value) → ByteArray → Nat → Option (Nat × Value)
 | [],_,_ => none
 | p :: l,k,i => if p.1 = k then some (i,p.2) else zcy l k (i + 1)
def zda (l : List (ByteArray × Value)) (k : ByteArray) : Option Value := (zcy l k 0).map (·.2)
theorem zdk : ∀ (l : List (ByteArray × Value)) (k : ByteArray) (i : Nat),zcy l k i = (zcy l k 0).map fun p => (p.1 + i,p.2)
 | [],_,_ => rfl
 | p :: l,k,i => by
  rw [zcy,zcy]
  split
  ·simp
  ·rw [zdk l k (i + 1),zdk l k (0 + 1),Option.map_map]
   congr 1
   funext q
   simp only [Function.comp]
   rw [Nat.zero_add,Nat.add_assoc,Nat.add_comm 1 i]
theorem zbF (p : ByteArray × Value) (l : List (ByteArray × Value)) (k : ByteArray) : zda (p :: l) k = if p.1 = k then some p.2 else zda l k := by
 unfold zda
 rw [zcy]
 split
 ·rfl
 ·rw [zdk l k (0 + 1),Option.map_map];rfl
theorem zge {l : List (ByteArray × Value)} {k : ByteArray} : ∀ {i : Nat},zcy l k i = none ↔ ∀ p ∈ l,p.1 ≠ k := by
 induction l with
 | nil => simp [zcy]
 | cons p l ih =>
  intro i
  rw [zcy]
  split
  ·rename_i h;simp [h]
  ·rename_i h;rw [ih];simp [h]
theorem zgf {l : List (ByteArray × Value)} {k : ByteArray} {i : Nat} {v : Value} (h : zcy l k 0 = some (i,v)) : l[i]? = some (k,v) := by
 induction l generalizing i with
 | nil => simp [zcy] at h
 | cons p l ih =>
  rw [zcy] at h
  split at h
  ·rename_i hk
   injection h with h
   injection h with h1 h2
   subst h1;subst h2;subst hk;rfl
  ·rw [zdk,Option.map_eq_some_iff] at h
   obtain ⟨⟨j,u⟩,hj,e⟩ := h
   injection e with e1 e2
   subst e1;subst e2
   exact ih hj
def entM (e : MapEntry) : Value × Value := (e.key,e.val)
def strM (p : ByteArray × Value) : Value × Value := (.string p.1,p.2)
theorem zcP (k : ByteArray) : ∀ (es : List MapEntry) (l : List (ByteArray × Value)) (i : Nat),es.map entM = l.map strM → Instr.findNow .string (.string k) es i = some (zcy l k i)
 | [],[],_,_ => rfl
 | [],_ :: _,_,h => by simp at h
 | _ :: _,[],_,h => by simp at h
 | e :: es,p :: l,i,h => by
  rw [List.map_cons,List.map_cons,List.cons.injEq] at h
  obtain ⟨h1,h2⟩ := h
  have ek : e.key = .string p.1 := congrArg Prod.fst h1
  have ev : e.val = p.2 := congrArg Prod.snd h1
  rw [Instr.findNow,ek,Instr.sameNow,zcy]
  by_cases hk : p.1 = k
  ·rw [if_pos hk,show (k == p.1) = true from (Go.MapKept.bytes_beq _ _).2 hk.symm]
   simp only [ev]
  ·rw [if_neg hk,show (k == p.1) = false from Bool.eq_false_iff.2 (fun e => hk ((Go.MapKept.bytes_beq _ _).1 e).symm)]
   exact zcP k es l (i + 1) h2
def zbq (W : World) (g : Nat) (F : ByteArray → Option Value) : Prop :=
 ∃ (es : Array MapEntry) (c : Nat) (l : List (ByteArray × Value)),W.heap[g]? = some (.map es c) ∧ es.toList.map entM = l.map strM ∧ (l.map (·.1)).Nodup ∧ ∀ k,zda l k = F k
theorem zh7 (W : World) : zbq (W.alloc (.map #[] 0)) W.heap.size (fun _ => none) := ⟨#[],0,[],heap_alloc_new W _,rfl,by simp,fun _ => rfl⟩
theorem zfa {W W' : World} {g : Nat} {F : ByteArray → Option Value} (h : zbq W g F) (hm : W'.heap[g]? = W.heap[g]?) : zbq W' g F := by
 obtain ⟨es,c,l,h1,h2⟩ := h
 exact ⟨es,c,l,hm.trans h1,h2⟩
theorem za8 {W : World} {g : Nat} {F : ByteArray → Option Value} (h : zbq W g F) : g < W.heap.size := by
 obtain ⟨es,c,l,h1,_⟩ := h
 exact (Array.getElem?_eq_some_iff.1 h1).1
theorem zaP {W W' : World} {g : Nat} {F : ByteArray → Option Value} (h : zbq W g F) (hb : Below W.heap.size W W') : zbq W' g F := zfa h (hb.block g (za8 h))
theorem ziC {W : World} {g : Nat} {F : ByteArray → Option Value} (h : zbq W g F) (o : Obj) : zbq (W.alloc o) g F := zaP h (Below.alloc (Below.refl _ _) (Nat.le_refl _) o)
theorem zgg {W W' : World} {g : Nat} {F : ByteArray → Option Value} (h : zbq W g F) {row : Option Nat} (hg : W.grownBy W' row) (hr : some g ≠ row) : zbq W' g F := zfa h (hg.block g (za8 h) hr)
theorem zbX {W : World} {g : Nat} {F F' : ByteArray → Option Value} (h : zbq W g F) (e : ∀ k,F k = F' k) : zbq W g F' := by
 obtain ⟨es,c,l,h1,h2,h3,h4⟩ := h
 exact ⟨es,c,l,h1,h2,h3,fun k => (h4 k).trans (e k)⟩
section
variable {P : Program} {w : World} {t k e : TypeId} {g : Nat} {F : ByteArray → Option Value}
theorem zb6 (s : ByteArray) : Go.MapKept.IsKey .string (.string s) := by simp [Go.MapKept.IsKey]
theorem mapF_look (h : zbq w g F) (ht : P.underlying t = some (.map k e)) (hk : P.underlying k = some .string) {z : Value} (hz : (zeroValue e).run P w = .ok z w) (s : ByteArray) :
  (Instr.lookup t (.map (some g)) (.string s) false).run P w = .ok ((F s).getD z) w := by
 obtain ⟨es,c,l,h1,h2,h3,h4⟩ := h
 have hf := zcP s es.toList l 0 h2
 rw [← h4 s]
 unfold zda
 rcases hl : zcy l s 0 with _ | ⟨i,v⟩
 ·rw [hl] at hf
  simp [Instr.lookup,run_underlying ht,Go.MapKept.run_getObj_map h1,Go.MapKept.run_checkKey hk (zb6 s),Go.MapKept.run_findKey hk hf,hz,Result.andThen]
 ·rw [hl] at hf
  simp [Instr.lookup,run_underlying ht,Go.MapKept.run_getObj_map h1,Go.MapKept.run_checkKey hk (zb6 s),Go.MapKept.run_findKey hk hf,hz,Result.andThen]
theorem ziD (h : zbq w g F) (ht : P.underlying t = some (.map k e)) (hk : P.underlying k = some .string) {z : Value} (hz : (zeroValue e).run P w = .ok z w) (s : ByteArray) :
  (Instr.lookup t (.map (some g)) (.string s) true).run P w = .ok (.tuple #[(F s).getD z,.bool (F s).isSome]) w := by
 obtain ⟨es,c,l,h1,h2,h3,h4⟩ := h
 have hf := zcP s es.toList l 0 h2
 rw [← h4 s]
 unfold zda
 rcases hl : zcy l s 0 with _ | ⟨i,v⟩
 ·rw [hl] at hf
  simp [Instr.lookup,run_underlying ht,Go.MapKept.run_getObj_map h1,Go.MapKept.run_checkKey hk (zb6 s),Go.MapKept.run_findKey hk hf,hz,Result.andThen]
 ·rw [hl] at hf
  simp [Instr.lookup,run_underlying ht,Go.MapKept.run_getObj_map h1,Go.MapKept.run_checkKey hk (zb6 s),Go.MapKept.run_findKey hk hf,hz,Result.andThen]
theorem zeh {w : World} {g : Nat} {o : Obj} (hb : w.heap[g]? = some o) (o' : Obj) : w.grownBy { w with heap := w.heap.setIfInBounds g o' } (some g) :=
 ⟨rfl,rfl,rfl,by simp,fun i _ hi => (Go.MapKept.heap_set (o' := o') hb).2 i (fun e => hi (by rw [e]))⟩
theorem zho (l : List (ByteArray × Value)) (s : ByteArray) (v : Value) (hn : ∀ p ∈ l,p.1 ≠ s) (x : ByteArray) : zda (l ++ [(s,v)]) x = if x = s then some v else zda l x := by
 induction l with
 | nil =>
  rw [List.nil_append,zbF]
  by_cases h : s = x
  ·rw [if_pos h,if_pos h.symm]
  ·rw [if_neg h,if_neg (fun e => h e.symm)]
 | cons p l ih =>
  rw [List.cons_append,zbF,zbF,ih (fun q hq => hn q (List.mem_cons_of_mem _ hq))]
  by_cases h : p.1 = x
  ·have : x ≠ s := fun e => hn p List.mem_cons_self (h.trans e)
   rw [if_pos h,if_neg this,if_pos h]
  ·rw [if_neg h,if_neg h]
theorem lookL_set (l : List (ByteArray × Value)) (hd : (l.map (·.1)).Nodup) (i : Nat) (s : ByteArray) (v0 v : Value) (hi : l[i]? = some (s,v0)) (x : ByteArray) : zda (l.set i (s,v)) x = if x = s then some v else zda l x := by
 induction l generalizing i with
 | nil => simp at hi
 | cons p l ih =>
  rw [List.map_cons,List.nodup_cons] at hd
  cases i with
  | zero =>
   rw [List.getElem?_cons_zero] at hi
   injection hi with hi
   subst hi
   rw [List.set_cons_zero,zbF,zbF]
   by_cases h : s = x
   ·rw [if_pos h,if_pos h.symm]
   ·rw [if_neg h,if_neg (fun e => h e.symm),if_neg h]
  | succ i =>
   rw [List.getElem?_cons_succ] at hi
   rw [List.set_cons_succ,zbF,zbF,ih hd.2 i hi]
   by_cases h : p.1 = x
   ·have : x ≠ s := fun e => hd.1 (List.mem_map.2 ⟨(s,v0),List.mem_of_getElem? hi,(h.trans e).symm⟩)
    rw [if_pos h,if_neg this,if_pos h]
   ·rw [if_neg h,if_neg h]
theorem zh6 (l : List (ByteArray × Value)) (hd : (l.map (·.1)).Nodup) (i : Nat) (s : ByteArray) (v0 : Value) (hi : l[i]? = some (s,v0)) (x : ByteArray) : zda (l.eraseIdx i) x = if x = s then none else zda l x := by
 induction l generalizing i with
 | nil => simp at hi
 | cons p l ih =>
  rw [List.map_cons,List.nodup_cons] at hd
  cases i with
  | zero =>
   rw [List.getElem?_cons_zero] at hi
   injection hi with hi
   subst hi
   rw [List.eraseIdx_cons_zero,zbF]
   by_cases h : x = s
   ·subst h
    rw [if_pos rfl]
    unfold zda
    rw [zge.2 (fun q hq e => hd.1 (List.mem_map.2 ⟨q,hq,e⟩))];rfl
   ·rw [if_neg h,if_neg (fun e => h e.symm)]
  | succ i =>
   rw [List.getElem?_cons_succ] at hi
   rw [List.eraseIdx_cons_succ,zbF,zbF,ih hd.2 i hi]
   by_cases h : p.1 = x
   ·have : x ≠ s := fun e => hd.1 (List.mem_map.2 ⟨(s,v0),List.mem_of_getElem? hi,(h.trans e).symm⟩)
    rw [if_pos h,if_neg this,if_pos h]
   ·rw [if_neg h,if_neg h]
theorem zei {α β : Type} (f : α → β) : ∀ (l : List α) (i : Nat),(l.eraseIdx i).map f = (l.map f).eraseIdx i
 | [],_ => by simp
 | _ :: _,0 => rfl
 | a :: l,i + 1 => by rw [List.eraseIdx_cons_succ,List.map_cons,List.map_cons,List.eraseIdx_cons_succ,zei f l i]
theorem zgi {l : List (ByteArray × Value)} (hd : (l.map (·.1)).Nodup) {i : Nat} {s : ByteArray} {v0 v : Value} (hi : l[i]? = some (s,v0)) : ((l.set i (s,v)).map (·.1)).Nodup := by
 have : (l.set i (s,v)).map (·.1) = l.map (·.1) := by
  rw [List.map_set]
  apply List.ext_getElem?
  intro j
  rw [List.getElem?_set]
  split
  ·rename_i e
   subst e
   rw [List.getElem?_map,hi]
   split
   ·rfl
   ·rename_i h
    have := (List.getElem?_eq_some_iff.1 hi).1
    simp at h;omega
  ·rfl
 rw [this];exact hd
theorem zh8 (h : zbq w g F) (ht : P.underlying t = some (.map k e)) (hk : P.underlying k = some .string) (s : ByteArray) (v : Value) :
  ∃ w',(Instr.mapUpdate t (.map (some g)) (.string s) v).run P w = .ok () w' ∧ zbq w' g (fun x => if x = s then some v else F x) ∧ w.grownBy w' (some g) := by
 obtain ⟨es,c,l,h1,h2,h3,h4⟩ := h
 have hf := zcP s es.toList l 0 h2
 rcases hl : zcy l s 0 with _ | ⟨i,v0⟩
 ·rw [hl] at hf
  have hn := zge.1 hl
  refine ⟨_,by simp [Instr.mapUpdate,run_underlying ht,Go.MapKept.run_getObj_map h1,Go.MapKept.run_checkKey hk (zb6 s),Go.MapKept.run_findKey hk hf,Go.MapKept.run_setObj_map _ h1,Result.andThen];rfl,⟨_,_,l ++ [(s,v)],(Go.MapKept.heap_set h1).1,?_,?_,fun x => ?_⟩,zeh h1 _⟩
  ·rw [Array.toList_push,List.map_append,List.map_append,h2];rfl
  ·rw [List.map_append,List.nodup_append]
   refine ⟨h3,by simp,?_⟩
   intro a ha b hb
   obtain ⟨q,hq,rfl⟩ := List.mem_map.1 ha
   simp at hb
   subst hb
   exact hn q hq
  ·rw [zho l s v hn x,h4]
 ·rw [hl] at hf
  have hi := zgf hl
  have hie : es.toList[i]? = some (es.toList[i]?.getD default) ∧ entM (es.toList[i]?.getD default) = strM (s,v0) := by
   have hm : (es.toList.map entM)[i]? = (l.map strM)[i]? := by rw [h2]
   rw [List.getElem?_map,List.getElem?_map,hi] at hm
   rcases he : es.toList[i]? with _ | e0
   ·rw [he] at hm;cases hm
   ·rw [he] at hm;exact ⟨rfl,by simpa using hm⟩
  obtain ⟨he,hv⟩ := hie
  generalize es.toList[i]?.getD default = e0 at he hv
  have he' : es[i]? = some e0 := by rw [← Array.getElem?_toList];exact he
  have hkey : e0.key = .string s := congrArg Prod.fst hv
  refine ⟨_,by simp [Instr.mapUpdate,run_underlying ht,Go.MapKept.run_getObj_map h1,Go.MapKept.run_checkKey hk (zb6 s),Go.MapKept.run_findKey hk hf,he',hkey,Go.MapKept.run_keyThatStays (zb6 s),Go.MapKept.run_setObj_map _ h1,Result.andThen];rfl,⟨_,_,l.set i (s,v),(Go.MapKept.heap_set h1).1,?_,zgi h3 hi,fun x => ?_⟩,zeh h1 _⟩
  ·apply List.ext_getElem?
   intro j
   rw [List.getElem?_map,Array.getElem?_toList,Array.getElem?_modify,List.getElem?_map,List.getElem?_set]
   have hm : (es.toList.map entM)[j]? = (l.map strM)[j]? := by rw [h2]
   rw [List.getElem?_map,List.getElem?_map,Array.getElem?_toList] at hm
   by_cases hij : i = j
   ·subst hij
    rw [he',if_pos rfl,if_pos rfl,if_pos (List.getElem?_eq_some_iff.1 hi).1];rfl
   ·rw [if_neg hij,if_neg hij];exact hm
  ·rw [lookL_set l h3 i s v0 v hi x,h4]
theorem mapF_del (h : zbq w g F) (ht : P.underlying t = some (.map k e)) (hk : P.underlying k = some .string) (ty : TypeId) (s : ByteArray) :
  ∃ w',(Builtin.delete_ #[t,k] ty #[.map (some g),.string s]).run P w = .ok (.tuple #[]) w' ∧ zbq w' g (fun x => if x = s then none else F x) ∧ w.grownBy w' (some g) := by
 obtain ⟨es,c,l,h1,h2,h3,h4⟩ := h
 have hf := zcP s es.toList l 0 h2
 rcases hl : zcy l s 0 with _ | ⟨i,v0⟩
 ·rw [hl] at hf
  refine ⟨_,by simp [Builtin.delete_,run_underlying ht,Go.MapKept.run_getObj_map h1,Go.MapKept.run_checkKey hk (zb6 s),Go.MapKept.run_findKey hk hf,Go.MapKept.run_setObj_map _ h1,Result.andThen];rfl,⟨_,_,l,(Go.MapKept.heap_set h1).1,h2,h3,fun x => ?_⟩,zeh h1 _⟩
  show zda l x = if x = s then none else F x
  by_cases hx : x = s
  ·subst hx
   rw [if_pos rfl];unfold zda;rw [hl];rfl
  ·rw [if_neg hx,h4]
 ·rw [hl] at hf
  have hi := zgf hl
  refine ⟨_,by simp [Builtin.delete_,run_underlying ht,Go.MapKept.run_getObj_map h1,Go.MapKept.run_checkKey hk (zb6 s),Go.MapKept.run_findKey hk hf,Go.MapKept.run_setObj_map _ h1,Result.andThen];rfl,⟨_,_,l.eraseIdx i,(Go.MapKept.heap_set h1).1,?_,?_,fun x => ?_⟩,zeh h1 _⟩
  ·rw [Array.toList_eraseIdxIfInBounds,zei,h2,zei]
  ·rw [zei];exact List.Sublist.nodup (List.eraseIdx_sublist _ _) h3
  ·rw [zh6 l h3 i s v0 hi x,h4]
end
theorem zb8 {P : Program} (w : World) {ops : Array Oper} {rest : List Oper} {o : Oper} {a : Act} {Q : Exit → Act → World → Prop}
  (hg : o.guard = none) (m x : Operand) (t : TypeId) (hop : o.op = Op.lookup t m x false) {k e : TypeId} {g : Nat} {F : ByteArray → Option Value} (h : zbq w g F) (ht : P.underlying t = some (.map k e)) (hk : P.underlying k = some .string) {z : Value} (hz : (zeroValue e).run P w = .ok z w)
  (s : ByteArray) (hm : a.eval m = .map (some g)) (hx : a.eval x = .string s) (hK : wpList P ops Q rest (a.put o.dst ((F s).getD z)) w) : wpList P ops Q (o :: rest) a w := by
 refine wpList_plain hg fun K' hK' => ?_
 unfold Oper.wp
 simp [execOp,hop,hm,hx,mapF_look h ht hk hz s,Result.andThen]
 exact hK' _ _ hK
theorem zcg {P : Program} (w : World) {ops : Array Oper} {rest : List Oper} {o : Oper} {a : Act} {Q : Exit → Act → World → Prop}
  (hg : o.guard = none) (m x : Operand) (t : TypeId) (hop : o.op = Op.lookup t m x true) {k e : TypeId} {g : Nat} {F : ByteArray → Option Value} (h : zbq w g F) (ht : P.underlying t = some (.map k e)) (hk : P.underlying k = some .string) {z : Value} (hz : (zeroValue e).run P w = .ok z w)
  (s : ByteArray) (hm : a.eval m = .map (some g)) (hx : a.eval x = .string s) (hK : wpList P ops Q rest (a.put o.dst (.tuple #[(F s).getD z,.bool (F s).isSome])) w) : wpList P ops Q (o :: rest) a w := by
 refine wpList_plain hg fun K' hK' => ?_
 unfold Oper.wp
 simp [execOp,hop,hm,hx,ziD h ht hk hz s,Result.andThen]
 exact hK' _ _ hK
theorem zcV {P : Program} (w : World) {ops : Array Oper} {rest : List Oper} {o : Oper} {a : Act} {Q : Exit → Act → World → Prop}
  (hg : o.guard = none) (m x v : Operand) (t : TypeId) (hop : o.op = Op.mapUpdate t m x v) {k e : TypeId} {g : Nat} {F : ByteArray → Option Value} (h : zbq w g F) (ht : P.underlying t = some (.map k e)) (hk : P.underlying k = some .string)
  (s : ByteArray) (u : Value) (hm : a.eval m = .map (some g)) (hx : a.eval x = .string s) (hv : a.eval v = u) (hK : ∀ w',zbq w' g (fun y => if y = s then some u else F y) → w.grownBy w' (some g) → wpList P ops Q rest (a.put o.dst undef) w') : wpList P ops Q (o :: rest) a w := by
 refine wpList_plain hg fun K' hK' => ?_
 obtain ⟨w',hrun,r1,r2⟩ := zh8 h ht hk s u
 unfold Oper.wp
 simp [execOp,hop,hm,hx,hv,hrun,Result.andThen]
 exact hK' _ _ (hK w' r1 r2)
end Go.Proofs.Ytndjfdakflaggaa.Px
namespace Go.Proofs.Ytndjfdakflaggaa.Px
open Go.RowKit Go.Proofs.YtndjfdakflaggaaW.PrintWords Go.Proofs.YtndjfdakflaggaaW.PrintLast Go.Proofs.YtndjfdakflaggaaW.PrintMore
attribute [local go_sem] zC zE zI zJ zu zv zD zF
set_option linter.unusedVariables false
set_option linter.unusedSimpArgs false
theorem adb {w0 w w1 : World} {g : Nat} {o : Obj} (x_ : w0.heap[g]? = some o) (hb_ : Below w.heap.size w w1) (h_ : w0.heap[g]? = some o → w.heap[g]? = some o := by intro x_;(with_reducible repeat (first | refine zam ?_ _ | refine zaa ?_ | refine zg ?_ _));exact x_) : w1.heap[g]? = some o := zr (h_ x_) hb_
theorem adl {w w0 w1 w2 : World} (x_ : Below w.heap.size w w0) (hb_ : Below w1.heap.size w1 w2) (h_ : Below w.heap.size w w0 → Below w.heap.size w w1 := by intro x_;(repeat (with_reducible first | exact x_ | apply zm | apply zj | apply zp))) : Below w.heap.size w w2 := zf (h_ x_) hb_
theorem adg {w w0 w1 : World} {g : Nat} (x_ : Below w.heap.size w w0) (hg_ : g = w1.heap.size) (h_ : Below w.heap.size w w0 → Below w.heap.size w w1 := by intro x_;(repeat (with_reducible first | exact x_ | apply zm | apply zj | apply zp))) : w.heap.size ≤ g := by rw [hg_];exact zh (h_ x_)
theorem adn {w0 w : World} {g q : Nat} {o : Obj} (hg_ : q = w.heap.size) (x_ : w0.heap[g]? = some o) (h_ : w0.heap[g]? = some o → w.heap[g]? = some o := by intro x_;(with_reducible repeat (first | refine zam ?_ _ | refine zaa ?_ | refine zg ?_ _));exact x_) : g ≠ q := by rw [hg_];exact Nat.ne_of_lt (zaF (h_ x_))
theorem adf {w1 W W' : World} {g q : Nat} {o : Obj} (hw_ : W' = W) (n_ : g ≠ q) (x_ : w1.heap[g]? = some o) (h_ : g ≠ q → w1.heap[g]? = some o → W.heap[g]? = some o := by intro n_ x_;(repeat (first | (with_reducible exact x_) | (with_reducible refine zam ?_ _) | (with_reducible refine zaa ?_) | (with_reducible refine zg ?_ _) | refine zcw ?_ n_ _))) : W'.heap[g]? = some o := by rw [hw_];exact h_ n_ x_
theorem adp {w1 W W' : World} {g : Nat} {o o' : Obj} (hw_ : W' = W) (x_ : w1.heap[g]? = some o) (h_ : w1.heap[g]? = some o → W.heap[g]? = some o' := by intro x_;(repeat (first | (with_reducible exact x_) | (with_reducible refine zam ?_ _) | (with_reducible refine zaa ?_) | (with_reducible refine zg ?_ _) | apply zby));all_goals first | (with_reducible rfl) | (simp only [List.setIfInBounds_toArray,List.set_cons_zero,List.set_cons_succ];done) | rfl) : W'.heap[g]? = some o' := by rw [hw_];exact h_ x_
theorem ads {w w0 W W' : World} {g : Nat} (hw_ : W' = W) (n_ : w.heap.size ≤ g) (x_ : Below w.heap.size w w0) (h_ : w.heap.size ≤ g → Below w.heap.size w w0 → Below w.heap.size w W := by intro n_ x_;(repeat (with_reducible first | exact x_ | apply zm | apply zj | apply zp | refine zl ?_ n_))) : Below w.heap.size w W' := by rw [hw_];exact h_ n_ x_
section
variable {P : Program} {ops : Array Oper} {rest : List Oper} {o : Oper} {a : Act} {Q : Exit → Act → World → Prop}
end
end Go.Proofs.Ytndjfdakflaggaa.Px
namespace Go.Proofs.Ytndjfdakflaggaa.Px
open Go.RowKit Go.Proofs.YtndjfdakflaggaaW.PrintWords Go.Proofs.YtndjfdakflaggaaW.PrintLast Go.Proofs.YtndjfdakflaggaaW.PrintMore
attribute [local go_sem] zC zE zI zJ zu zv zD zF
set_option linter.unusedVariables false
set_option linter.unusedSimpArgs false
def zaS.l0 : Nat → Int → List (S34) → List (S34) → Int → Int → Option ((List (S34)))
 | 0,_,_,_,_,_ => none
 | k + 1,x1,x5,x9,x10,x11 => if x11 < x10 then (if 0 ≤ x11 then (if x11 < (x9.length : Int) then (if ((zd x9 x11).f1.f1) = x1 then (if x5.length < 1466015503701 then (zaS.l0 k x1 (x5 ++ [(⟨(zd x9 x11).f0,(⟨(zd x9 x11).f1.f0,(zd x9 x11).f1.f1,(zd x9 x11).f1.f2,(zd x9 x11).f1.f3,(⟨(zd x9 x11).f1.f4.f0,(zd x9 x11).f1.f4.f1⟩ : S30)⟩ : S32)⟩ : S34)]) x9 x10 (wrap64 (x11 + 1))) else (none)) else (zaS.l0 k x1 x5 x9 x10 (wrap64 (x11 + 1)))) else (none)) else (none)) else (some x5)
def zaS.f (k : Nat) (a0_0 : Int) (a0_1 : Int) (l0_2 : List (S34)) (a1 : Int) : Option ((List (S34))) := zaS.l0 k a1 ([] : List (S34)) l0_2 (l0_2.length : Int) 0
set_option maxHeartbeats 8000000 in
set_option maxRecDepth 100000 in
theorem zaS.calls (k : Nat) (a0_0 : Int) (a0_1 : Int) (P0_2_ : Nat → Prop) (A0_2 : Option Addr) (c0_2 : Nat) (l0_2 : List (S34)) (a1 : Int) (r : List (S34)) (w : World) (hs0_2 : Kd.V k34 34 w w.heap.size (fun k_ => P0_2_ k_) (.slice A0_2 l0_2.length c0_2) l0_2) (h : zaS.f k a0_0 a0_1 l0_2 a1 = some r) :
  Calls Try.prog 52 #[.agg #[.int .i64 a0_0,.int .i64 a0_1,.slice A0_2 l0_2.length c0_2],.int .i64 a1] w fun e w' => ∃ v0_ : Value,e = .returned (v0_) ∧ Kd.N k34 34 w' w.heap.size (fun k_ => (P0_2_ k_ ∨ w.heap.size ≤ k_)) v0_ r ∧ Below w.heap.size w w' := by
 have hu24 := Try.underlying24
 have hu34 := Try.underlying34
 have HO0_2 := za.mk (show Kd.V k34 34 w w.heap.size (fun k_ => (P0_2_ k_ ∨ w.heap.size ≤ k_)) (.slice A0_2 l0_2.length c0_2) l0_2 from Kd.V_mono hs0_2 (fun k_ hk => .inl hk))
 have HB := za.mk (Below.refl w.heap.size w)
 have H : (zaS.l0 k a1 ([] : List (S34)) l0_2 (l0_2.length : Int) 0) = some r := h
 clear h
 have H' := za.mk H
 clear H
 go_enter Try.func52,Try.ntmps52
 go_wp2_with (first | ((with_reducible refine zq (N := 2) rfl ?_);refine zn rfl (N := 2) rfl (cs := #[.int .i64 a0_0,.int .i64 a0_1,.slice A0_2 l0_2.length c0_2]) (t := 24) hrq ?_;intro ye hg w3 hbox hb;have n_ := haq (Kd.V_below (Kd.V_elderB (by (with_reducible repeat (first | apply Kd.V_alloc | apply Kd.V_drewN | apply Kd.V_drew));exact HO0_2.out) ye (Nat.le_of_eq hg.symm)) hb) <| haq (zf hBq hb) <| haq (hbox) <| haq ((by rw [hg];exact (zh hBq) : w.heap.size ≤ ye)) <| haq ((by rw [hg];exact (zh hBq) : w.heap.size ≤ ye)) <| trivial;clear HO0_2 HB;obtain ⟨HO0_2,HB,yf,Ya,yJ,_⟩ := n_;clear hb hbox hg;obtain ⟨hcz4_0,hcz4_1,hcz4_2,hfz4_0,hfz4_1,hfz4_2⟩ := hcq3 yf.out))
 go_loopg [5,11] k (fun kq v5 v11 w' => ∃ (x5_1 : List (S34)) (x11_1 : Int),v11 = .int .i64 x11_1 ∧ za (zaS.l0 kq a1 x5_1 l0_2 (l0_2.length : Int) x11_1 = some r) ∧ za (kq ≤ k) ∧ za (Kd.N k34 34 w' w.heap.size (fun k_ => (P0_2_ k_ ∨ w.heap.size ≤ k_) ∧ k_ ≠ ye) v5 x5_1) ∧ za (Kd.V k34 34 w' w.heap.size (fun k_ => (P0_2_ k_ ∨ w.heap.size ≤ k_) ∧ some k_ ≠ (v5 : Value).ownBlock ∧ k_ ≠ ye) (.slice A0_2 l0_2.length c0_2) l0_2) ∧ za (Kd.V k34 34 w' w.heap.size (fun k_ => (P0_2_ k_ ∨ w.heap.size ≤ k_) ∧ some k_ ≠ (v5 : Value).ownBlock ∧ k_ ≠ ye) (.slice A0_2 l0_2.length c0_2) l0_2) ∧ za (w'.heap[ye]? = some (.cells #[.int .i64 a0_0,.int .i64 a0_1,(.slice A0_2 l0_2.length c0_2)] 24 (0,0))) ∧ za (Below w.heap.size w w'))
 case atStart => exact ⟨(([] : List (S34))),(0),(hDq),H',⟨Nat.le_refl _⟩,⟨by first | exact Kd.R_nil _ _ _ _ _ | exact Kd.N_nil _ _ _ _ _ | exact Kd.V_nil _ _ _ _ _ | exact Kd.Q_nil _ _ _ _ _ | exact Kd.S_nil _ _ _ _ _⟩,⟨by (with_reducible repeat (first | apply Kd.V_alloc | apply Kd.V_drewN | apply Kd.V_drew));exact Kd.V_mono HO0_2.out (fun _ hk => ⟨hk.1,⟨(by simp [Value.ownBlock]),hk.2⟩⟩)⟩,⟨by (with_reducible repeat (first | apply Kd.V_alloc | apply Kd.V_drewN | apply Kd.V_drew));exact Kd.V_mono HO0_2.out (fun _ hk => ⟨hk.1,⟨(by simp [Value.ownBlock]),hk.2⟩⟩)⟩,⟨hGq yf.out⟩,⟨by repeat (first | (with_reducible first | exact HB.out | apply zm | apply zj | apply zp | refine zl ?_ yJ.out) | exact HB.out)⟩⟩
 case round =>
  clear H'
  try clear p2;try clear hcz4_0;try clear hcz4_1;try clear hcz4_2;try clear hfz4_0;try clear hfz4_1;try clear hfz4_2
  obtain ⟨x5_1,x11_1,rfl,HA,HK1,HO_5,HO_9,yb,yf,HB⟩ := hrel
  cases gk with
  | zero => exact absurd HA.out (by simp [zaS.l0])
  | succ k1 =>
   have H := HA.out
   clear HA
   simp only [zaS.l0] at H
   by_cases c5 : x11_1 < (l0_2.length : Int)
   ·rw [if_pos c5] at H
    have c5b0 : decide (x11_1 < (l0_2.length : Int)) = true := decide_eq_true c5
    clear c5
    by_cases c6 : 0 ≤ x11_1
    ·rw [if_pos c6] at H
     have c6b0 : decide (0 ≤ x11_1) = true := decide_eq_true c6
     clear c6
     by_cases c7 : x11_1 < (l0_2.length : Int)
     ·rw [if_pos c7] at H
      have c7b0 : decide (x11_1 < (l0_2.length : Int)) = true := decide_eq_true c7
      clear c7
      by_cases c8 : ((zd l0_2 x11_1).f1.f1) = a1
      ·rw [if_pos c8] at H
       have c8b0 : (((zd l0_2 x11_1).f1.f1) == a1) = true := beq_iff_eq.mpr c8
       have c8b1 : (((zd l0_2 x11_1).f1.f1) != a1) = false := bne_eq_false_iff_eq.mpr c8
       clear c8
       by_cases c9 : x5_1.length < 1466015503701
       ·rw [if_pos c9] at H
        have LMc9 := za.mk c9
        clear c9
        obtain ⟨y9,yG⟩ : ∃ y_ : List (S34),y_ = (x5_1 ++ [(⟨(zd l0_2 x11_1).f0,(⟨(zd l0_2 x11_1).f1.f0,(zd l0_2 x11_1).f1.f1,(zd l0_2 x11_1).f1.f2,(zd l0_2 x11_1).f1.f3,(⟨(zd l0_2 x11_1).f1.f4.f0,(zd l0_2 x11_1).f1.f4.f1⟩ : S30)⟩ : S32)⟩ : S34)]) := ⟨_,rfl⟩
        replace H : (zaS.l0 k1 a1 y9 l0_2 (l0_2.length : Int) (wrap64 (x11_1 + 1))) = some r := by first | (rw [yG];with_reducible exact H) | (have H2_ := (Option.bind_some _ _).symm.trans H;rw [yG];with_reducible exact H2_) | (have H2_ := (Option.bind_some _ _).symm.trans H;with_reducible exact H2_) | with_reducible exact H | (rw [yG];exact H) | exact H
        have yZ := za.mk yG
        clear yG
        have H' := za.mk H
        clear H
        have yD : 0 ≤ (x11_1 : Int) := hFq
        have yE : x11_1 < (l0_2.length : Int) := hFq
        obtain ⟨yF,yg,yi,yh,yj,yW,yN,yO,yP,yB,yC,yQ,yR,yy,yw,yz,yx⟩ := za7 (Kd.V_reads' HO_9.out).2.2 x11_1 yD yE
        cases yW
        obtain ⟨y8,yI,yH,yv⟩ := Kd.V_get HO_9.out z34 x11_1 yD (by first | exact yE | exact hFq | (have e_ := (Kd.V_reads' HO_9.out).1;omega))
        obtain ⟨yS,yU,yT,yV,rfl,yr,yp,yt,yq⟩ := zbJ yH
        have ym := yv 3 _ rfl
        rw [zW _ _ 3 (by omega)] at ym
        replace ym := Option.some.inj (ym.symm.trans yB)
        injection ym with hva_ hvn_ hvc_
        rw [hva_] at yp
        rw [hvc_] at yr
        have yc := za.mk (show Kd.V k78 78 _ w.heap.size _ _ ((zd l0_2 x11_1).f1.f2) from Kd.V_mk yr yp)
        clear hva_ hvn_ hvc_ yp yr
        have yn := yv 4 _ rfl
        rw [zW _ _ 4 (by omega)] at yn
        replace yn := Option.some.inj (yn.symm.trans yC)
        injection yn with hva_ hvn_ hvc_
        rw [hva_] at yq
        rw [hvc_] at yt
        have yd := za.mk (show Kd.V Kd.string 9 _ w.heap.size _ _ ((zd l0_2 x11_1).f1.f3) from Kd.V_mk yt yq)
        clear hva_ hvn_ hvc_ yq yt
        clear yv yI
        have yk := za.mk yw
        have yL := za.mk yy
        clear yw yy
        have yl := za.mk yx
        have yM := za.mk yz
        clear yx yz
        replace yD := eq_true yD
        replace yE := eq_true yE
        go_wp2_with (first | ((with_reducible refine zq (N := 7) rfl ?_);refine zn rfl (N := 7) rfl (cs := #[.string (⟨#[]⟩ : ByteArray),.int .i64 0,.int .i64 0,.slice none 0 0,.slice none 0 0,.int .i64 0,.int .i64 0]) (t := 34) hrq ?_;intro ya hg w10 hbox hb;have n_ := haq (Kd.N_below (Kd.N_elderB (by (with_reducible repeat (first | apply Kd.N_alloc | apply Kd.N_drewN | apply Kd.N_drew));exact HO_5.out) ya (Nat.le_of_eq hg.symm)) hb) <| haq (Kd.V_below (Kd.V_elderB (by (with_reducible repeat (first | apply Kd.V_alloc | apply Kd.V_drewN | apply Kd.V_drew));exact HO_9.out) ya (Nat.le_of_eq hg.symm)) hb) <| haq (Kd.V_below (Kd.V_elderB (by (with_reducible repeat (first | apply Kd.V_alloc | apply Kd.V_drewN | apply Kd.V_drew));exact yb.out) ya (Nat.le_of_eq hg.symm)) hb) <| haq (Kd.V_below (Kd.V_elderB (by (with_reducible repeat (first | apply Kd.V_alloc | apply Kd.V_drewN | apply Kd.V_drew));exact yc.out) ya (Nat.le_of_eq hg.symm)) hb) <| haq (Kd.V_below (Kd.V_elderB (by (with_reducible repeat (first | apply Kd.V_alloc | apply Kd.V_drewN | apply Kd.V_drew));exact yd.out) ya (Nat.le_of_eq hg.symm)) hb) <| haq (hbq yf.out hb) <| haq (Kd.C_below (by repeat (first | (with_reducible exact yk.out) | (with_reducible refine Kd.C_alloc ?_ _) | (with_reducible refine Kd.C_drewN ?_ _) | (with_reducible refine Kd.C_drew ?_) | exact yk.out)) hb) <| haq (Kd.C_below (by repeat (first | (with_reducible exact yl.out) | (with_reducible refine Kd.C_alloc ?_ _) | (with_reducible refine Kd.C_drewN ?_ _) | (with_reducible refine Kd.C_drew ?_) | exact yl.out)) hb) <| haq (zf hCq hb) <| haq (hbox) <| haq ((by rw [hg];exact (zh hCq) : w.heap.size ≤ ya)) <| haq ((by rw [hg];exact (zh hCq) : w.heap.size ≤ ya)) <| haq (hnq hg yf.out) <| haq (hmq hg yf.out) <| trivial;clear HO_5 HO_9 yb yc yd yf yk yl HB;obtain ⟨HO_5,HO_9,yb,yc,yd,yf,yk,yl,HB,yu,yX,yK,yo,yA,_⟩ := n_;clear hb hbox hg;have hnb11 := yA.out;have hnc11 := yo.out;obtain ⟨hcz12_0,hcz12_1,hcz12_2,hcz12_3,hcz12_4,hcz12_5,hcz12_6,hfz12_0,hfz12_1,hfz12_2,hfz12_3,hfz12_4,hfz12_5,hfz12_6⟩ := hcq7 yu.out) | ((with_reducible refine zaD (t := 34) (p := 7) rfl ?_);refine zaw (t := 34) (p := 7) (v := _) (w1 := (((((((w10.setCell ⟨ya,0,none⟩ (.string ((zd l0_2 x11_1).f0))).setCell ⟨ya,1,none⟩ (.int .i64 ((zd l0_2 x11_1).f1.f0))).setCell ⟨ya,2,none⟩ (.int .i64 ((zd l0_2 x11_1).f1.f1))).setCell ⟨ya,3,none⟩ (.slice yg ((zd l0_2 x11_1).f1.f2).length yi)).setCell ⟨ya,4,none⟩ (.slice yh ((zd l0_2 x11_1).f1.f3).length yj)).setCell ⟨ya,5,none⟩ (.int .i64 ((zd l0_2 x11_1).f1.f4.f0))).setCell ⟨ya,6,none⟩ (.int .i64 ((zd l0_2 x11_1).f1.f4.f1)))) rfl rfl rfl hrq ?_;intro w13 hw;have n_ := haq (((by rw [hw];exact (by (with_reducible repeat (first | apply Kd.N_alloc | apply Kd.N_drewN | apply Kd.N_drew));exact Kd.N_mono (Kd.N_far (p := ⟨ya,6,none⟩) (Kd.N_far (p := ⟨ya,5,none⟩) (Kd.N_far (p := ⟨ya,4,none⟩) (Kd.N_far (p := ⟨ya,3,none⟩) (Kd.N_far (p := ⟨ya,2,none⟩) (Kd.N_far (p := ⟨ya,1,none⟩) (Kd.N_far (p := ⟨ya,0,none⟩) (Kd.N_mono HO_5.out (fun k_ hk => (⟨hk,hk.2⟩ : _ ∧ k_ ≠ ya))) (fun _ hk => hk.2) (.string ((zd l0_2 x11_1).f0))) (fun _ hk => hk.2) (.int .i64 ((zd l0_2 x11_1).f1.f0))) (fun _ hk => hk.2) (.int .i64 ((zd l0_2 x11_1).f1.f1))) (fun _ hk => hk.2) (.slice yg ((zd l0_2 x11_1).f1.f2).length yi)) (fun _ hk => hk.2) (.slice yh ((zd l0_2 x11_1).f1.f3).length yj)) (fun _ hk => hk.2) (.int .i64 ((zd l0_2 x11_1).f1.f4.f0))) (fun _ hk => hk.2) (.int .i64 ((zd l0_2 x11_1).f1.f4.f1))) (fun _ hk => ⟨hk.1.1.1,⟨hk.1.1.2,hk.1.2⟩⟩))) : Kd.N k34 34 w13 w.heap.size (fun k_ => (P0_2_ k_ ∨ w.heap.size ≤ k_) ∧ k_ ≠ ye ∧ k_ ≠ ya) u5 x5_1)) <| haq (((by rw [hw];exact (by (with_reducible repeat (first | apply Kd.V_alloc | apply Kd.V_drewN | apply Kd.V_drew));exact Kd.V_mono (Kd.V_far (p := ⟨ya,6,none⟩) (Kd.V_far (p := ⟨ya,5,none⟩) (Kd.V_far (p := ⟨ya,4,none⟩) (Kd.V_far (p := ⟨ya,3,none⟩) (Kd.V_far (p := ⟨ya,2,none⟩) (Kd.V_far (p := ⟨ya,1,none⟩) (Kd.V_far (p := ⟨ya,0,none⟩) (Kd.V_mono HO_9.out (fun k_ hk => (⟨hk,hk.2⟩ : _ ∧ k_ ≠ ya))) (fun _ hk => hk.2) (.string ((zd l0_2 x11_1).f0))) (fun _ hk => hk.2) (.int .i64 ((zd l0_2 x11_1).f1.f0))) (fun _ hk => hk.2) (.int .i64 ((zd l0_2 x11_1).f1.f1))) (fun _ hk => hk.2) (.slice yg ((zd l0_2 x11_1).f1.f2).length yi)) (fun _ hk => hk.2) (.slice yh ((zd l0_2 x11_1).f1.f3).length yj)) (fun _ hk => hk.2) (.int .i64 ((zd l0_2 x11_1).f1.f4.f0))) (fun _ hk => hk.2) (.int .i64 ((zd l0_2 x11_1).f1.f4.f1))) (fun _ hk => ⟨hk.1.1.1,⟨hk.1.1.2.1,⟨hk.1.1.2.2,hk.1.2⟩⟩⟩))) : Kd.V k34 34 w13 w.heap.size (fun k_ => (P0_2_ k_ ∨ w.heap.size ≤ k_) ∧ some k_ ≠ (u5 : Value).ownBlock ∧ k_ ≠ ye ∧ k_ ≠ ya) (.slice (some yF) l0_2.length c0_2) l0_2)) <| haq (((by rw [hw];exact (by (with_reducible repeat (first | apply Kd.V_alloc | apply Kd.V_drewN | apply Kd.V_drew));exact Kd.V_mono (Kd.V_far (p := ⟨ya,6,none⟩) (Kd.V_far (p := ⟨ya,5,none⟩) (Kd.V_far (p := ⟨ya,4,none⟩) (Kd.V_far (p := ⟨ya,3,none⟩) (Kd.V_far (p := ⟨ya,2,none⟩) (Kd.V_far (p := ⟨ya,1,none⟩) (Kd.V_far (p := ⟨ya,0,none⟩) (Kd.V_mono yb.out (fun k_ hk => (⟨hk,hk.2⟩ : _ ∧ k_ ≠ ya))) (fun _ hk => hk.2) (.string ((zd l0_2 x11_1).f0))) (fun _ hk => hk.2) (.int .i64 ((zd l0_2 x11_1).f1.f0))) (fun _ hk => hk.2) (.int .i64 ((zd l0_2 x11_1).f1.f1))) (fun _ hk => hk.2) (.slice yg ((zd l0_2 x11_1).f1.f2).length yi)) (fun _ hk => hk.2) (.slice yh ((zd l0_2 x11_1).f1.f3).length yj)) (fun _ hk => hk.2) (.int .i64 ((zd l0_2 x11_1).f1.f4.f0))) (fun _ hk => hk.2) (.int .i64 ((zd l0_2 x11_1).f1.f4.f1))) (fun _ hk => ⟨hk.1.1.1,⟨hk.1.1.2.1,⟨hk.1.1.2.2,hk.1.2⟩⟩⟩))) : Kd.V k34 34 w13 w.heap.size (fun k_ => (P0_2_ k_ ∨ w.heap.size ≤ k_) ∧ some k_ ≠ (u5 : Value).ownBlock ∧ k_ ≠ ye ∧ k_ ≠ ya) (.slice (some yF) l0_2.length c0_2) l0_2)) <| haq (((by rw [hw];exact (by (with_reducible repeat (first | apply Kd.V_alloc | apply Kd.V_drewN | apply Kd.V_drew));exact Kd.V_mono (Kd.V_far (p := ⟨ya,6,none⟩) (Kd.V_far (p := ⟨ya,5,none⟩) (Kd.V_far (p := ⟨ya,4,none⟩) (Kd.V_far (p := ⟨ya,3,none⟩) (Kd.V_far (p := ⟨ya,2,none⟩) (Kd.V_far (p := ⟨ya,1,none⟩) (Kd.V_far (p := ⟨ya,0,none⟩) (Kd.V_mono yc.out (fun k_ hk => (⟨hk,hk.2⟩ : _ ∧ k_ ≠ ya))) (fun _ hk => hk.2) (.string ((zd l0_2 x11_1).f0))) (fun _ hk => hk.2) (.int .i64 ((zd l0_2 x11_1).f1.f0))) (fun _ hk => hk.2) (.int .i64 ((zd l0_2 x11_1).f1.f1))) (fun _ hk => hk.2) (.slice yg ((zd l0_2 x11_1).f1.f2).length yi)) (fun _ hk => hk.2) (.slice yh ((zd l0_2 x11_1).f1.f3).length yj)) (fun _ hk => hk.2) (.int .i64 ((zd l0_2 x11_1).f1.f4.f0))) (fun _ hk => hk.2) (.int .i64 ((zd l0_2 x11_1).f1.f4.f1))) (fun _ hk => ⟨hk.1.1.1,⟨hk.1.1.2.1,⟨hk.1.1.2.2,hk.1.2⟩⟩⟩))) : Kd.V k78 78 w13 w.heap.size (fun k_ => (P0_2_ k_ ∨ w.heap.size ≤ k_) ∧ some k_ ≠ (u5 : Value).ownBlock ∧ k_ ≠ ye ∧ k_ ≠ ya) (.slice yg ((zd l0_2 x11_1).f1.f2).length yi) ((zd l0_2 x11_1).f1.f2))) <| haq (((by rw [hw];exact (by (with_reducible repeat (first | apply Kd.V_alloc | apply Kd.V_drewN | apply Kd.V_drew));exact Kd.V_mono (Kd.V_far (p := ⟨ya,6,none⟩) (Kd.V_far (p := ⟨ya,5,none⟩) (Kd.V_far (p := ⟨ya,4,none⟩) (Kd.V_far (p := ⟨ya,3,none⟩) (Kd.V_far (p := ⟨ya,2,none⟩) (Kd.V_far (p := ⟨ya,1,none⟩) (Kd.V_far (p := ⟨ya,0,none⟩) (Kd.V_mono yd.out (fun k_ hk => (⟨hk,hk.2⟩ : _ ∧ k_ ≠ ya))) (fun _ hk => hk.2) (.string ((zd l0_2 x11_1).f0))) (fun _ hk => hk.2) (.int .i64 ((zd l0_2 x11_1).f1.f0))) (fun _ hk => hk.2) (.int .i64 ((zd l0_2 x11_1).f1.f1))) (fun _ hk => hk.2) (.slice yg ((zd l0_2 x11_1).f1.f2).length yi)) (fun _ hk => hk.2) (.slice yh ((zd l0_2 x11_1).f1.f3).length yj)) (fun _ hk => hk.2) (.int .i64 ((zd l0_2 x11_1).f1.f4.f0))) (fun _ hk => hk.2) (.int .i64 ((zd l0_2 x11_1).f1.f4.f1))) (fun _ hk => ⟨hk.1.1.1,⟨hk.1.1.2.1,⟨hk.1.1.2.2,hk.1.2⟩⟩⟩))) : Kd.V Kd.string 9 w13 w.heap.size (fun k_ => (P0_2_ k_ ∨ w.heap.size ≤ k_) ∧ some k_ ≠ (u5 : Value).ownBlock ∧ k_ ≠ ye ∧ k_ ≠ ya) (.slice yh ((zd l0_2 x11_1).f1.f3).length yj) ((zd l0_2 x11_1).f1.f3))) <| haq (hfq hw yo.out yf.out) <| haq (((by rw [hw];exact (hxq0p yu.out)) : w13.heap[ya]? = some (.cells #[.string ((zd l0_2 x11_1).f0),.int .i64 ((zd l0_2 x11_1).f1.f0),.int .i64 ((zd l0_2 x11_1).f1.f1),.slice yg ((zd l0_2 x11_1).f1.f2).length yi,.slice yh ((zd l0_2 x11_1).f1.f3).length yj,.int .i64 ((zd l0_2 x11_1).f1.f4.f0),.int .i64 ((zd l0_2 x11_1).f1.f4.f1)] 34 (0,0)))) <| haq (((by rw [hw];exact hCq) : Below w.heap.size w w13)) <| trivial;clear hw HO_5 HO_9 yb yc yd yf yu HB;obtain ⟨HO_5,HO_9,yb,yc,yd,yf,yu,HB,_⟩ := n_;obtain ⟨hcz14_0,hcz14_1,hcz14_2,hcz14_3,hcz14_4,hcz14_5,hcz14_6,hfz14_0,hfz14_1,hfz14_2,hfz14_3,hfz14_4,hfz14_5,hfz14_6⟩ := hcq7 yu.out) | ((with_reducible refine zbz (b := .append) (xs := #[.tmp 20,.tmp 22]) rfl ?_);at_builtin;refine Kd.N_append k34 (w0 := w) w.heap.size rfl (.tmp 20) (.tmp 22) 22 34 (.agg #[(.string ⟨#[]⟩),(.int .i64 0),(.int .i64 0),(.slice none 0 0),(.slice none 0 0),(.int .i64 0),(.int .i64 0)]) 96 rfl Try.underlying22 zdQ rfl (by decide) (by omega) u5 x5_1 (⟨(zd l0_2 x11_1).f0,(⟨(zd l0_2 x11_1).f1.f0,(zd l0_2 x11_1).f1.f1,(zd l0_2 x11_1).f1.f2,(zd l0_2 x11_1).f1.f3,(⟨(zd l0_2 x11_1).f1.f4.f0,(zd l0_2 x11_1).f1.f4.f1⟩ : S30)⟩ : S32)⟩ : S34) [.string ((zd l0_2 x11_1).f0),.int .i64 ((zd l0_2 x11_1).f1.f0),.int .i64 ((zd l0_2 x11_1).f1.f1),.slice yg ((zd l0_2 x11_1).f1.f2).length yi,.slice yh ((zd l0_2 x11_1).f1.f3).length yj,.int .i64 ((zd l0_2 x11_1).f1.f4.f0),.int .i64 ((zd l0_2 x11_1).f1.f4.f1)] (fun k_ => (P0_2_ k_ ∨ w.heap.size ≤ k_) ∧ k_ ≠ ye ∧ k_ ≠ ya) (fun k_ => ((fun k_ => (P0_2_ k_ ∨ w.heap.size ≤ k_) ∧ k_ ≠ ye ∧ k_ ≠ ya)) k_ ∧ some k_ ≠ (u5 : Value).ownBlock) rfl rfl ?aP (fun _ hk => hk) ?aF ?aO ?aB ?aS ?aL ?_;(case aP => exact (zfX _ _ (⟨(zd l0_2 x11_1).f0,(⟨(zd l0_2 x11_1).f1.f0,(zd l0_2 x11_1).f1.f1,(zd l0_2 x11_1).f1.f2,(zd l0_2 x11_1).f1.f3,(⟨(zd l0_2 x11_1).f1.f4.f0,(zd l0_2 x11_1).f1.f4.f1⟩ : S30)⟩ : S32)⟩ : S34) (Kd.V_reads' (Kd.V_mono (ok' := (fun k_ => ((fun k_ => (P0_2_ k_ ∨ w.heap.size ≤ k_) ∧ k_ ≠ ye ∧ k_ ≠ ya)) k_ ∧ some k_ ≠ (u5 : Value).ownBlock)) (yc.out) (fun k_ hk => ⟨⟨hk.1,⟨hk.2.2.1,hk.2.2.2⟩⟩,hk.2.1⟩))).2.1 (Kd.V_F (Kd.V_mono (ok' := (fun k_ => ((fun k_ => (P0_2_ k_ ∨ w.heap.size ≤ k_) ∧ k_ ≠ ye ∧ k_ ≠ ya)) k_ ∧ some k_ ≠ (u5 : Value).ownBlock)) (yc.out) (fun k_ hk => ⟨⟨hk.1,⟨hk.2.2.1,hk.2.2.2⟩⟩,hk.2.1⟩))) (Kd.V_reads' (Kd.V_mono (ok' := (fun k_ => ((fun k_ => (P0_2_ k_ ∨ w.heap.size ≤ k_) ∧ k_ ≠ ye ∧ k_ ≠ ya)) k_ ∧ some k_ ≠ (u5 : Value).ownBlock)) (yd.out) (fun k_ hk => ⟨⟨hk.1,⟨hk.2.2.1,hk.2.2.2⟩⟩,hk.2.1⟩))).2.1 (Kd.V_F (Kd.V_mono (ok' := (fun k_ => ((fun k_ => (P0_2_ k_ ∨ w.heap.size ≤ k_) ∧ k_ ≠ ye ∧ k_ ≠ ya)) k_ ∧ some k_ ≠ (u5 : Value).ownBlock)) (yd.out) (fun k_ hk => ⟨⟨hk.1,⟨hk.2.2.1,hk.2.2.2⟩⟩,hk.2.1⟩)))));(case aB => exact hCq);(case aF => exact (fun k_ hk => ⟨(.inr (Nat.le_trans (zh hCq) hk)),Kd.freshB (g := ye) (o := .cells #[.int .i64 a0_0,.int .i64 a0_1,.slice (some yF) l0_2.length c0_2] 24 (0,0)) (hGq yf.out) k_ hk,Kd.freshB (g := ya) (o := .cells #[.string ((zd l0_2 x11_1).f0),.int .i64 ((zd l0_2 x11_1).f1.f0),.int .i64 ((zd l0_2 x11_1).f1.f1),.slice yg ((zd l0_2 x11_1).f1.f2).length yi,.slice yh ((zd l0_2 x11_1).f1.f3).length yj,.int .i64 ((zd l0_2 x11_1).f1.f4.f0),.int .i64 ((zd l0_2 x11_1).f1.f4.f1)] 34 (0,0)) (hGq yu.out) k_ hk⟩));(case aO => exact (by (with_reducible repeat (first | apply Kd.N_alloc | apply Kd.N_drewN | apply Kd.N_drew));exact HO_5.out));(case aS => exact (zh hCq));(case aL => have := LMc9.out;omega);intro Yb w15 ho hb hg hat;rw [← yZ.out] at ho;have n_ := haq (Kd.V_afterv (ok := (fun k_ => (P0_2_ k_ ∨ w.heap.size ≤ k_) ∧ k_ ≠ ye ∧ k_ ≠ ya)) (by (with_reducible repeat (first | apply Kd.V_alloc | apply Kd.V_drewN | apply Kd.V_drew));exact Kd.V_mono HO_9.out (fun _ hk => ⟨⟨hk.1,⟨hk.2.2.1,hk.2.2.2⟩⟩,hk.2.1⟩)) hg hat) <| haq (Kd.V_afterv (ok := (fun k_ => (P0_2_ k_ ∨ w.heap.size ≤ k_) ∧ k_ ≠ ye ∧ k_ ≠ ya)) (by (with_reducible repeat (first | apply Kd.V_alloc | apply Kd.V_drewN | apply Kd.V_drew));exact Kd.V_mono yb.out (fun _ hk => ⟨⟨hk.1,⟨hk.2.2.1,hk.2.2.2⟩⟩,hk.2.1⟩)) hg hat) <| haq (zaV (g := ye) (o := .cells #[.int .i64 a0_0,.int .i64 a0_1,.slice (some yF) l0_2.length c0_2] 24 (0,0)) (hGq yf.out) hg (Kd.N_ne HO_5.out yf.out (by decide))) <| haq (Kd.V_afterv (ok := (fun k_ => (P0_2_ k_ ∨ w.heap.size ≤ k_) ∧ k_ ≠ ye ∧ k_ ≠ ya)) (by (with_reducible repeat (first | apply Kd.V_alloc | apply Kd.V_drewN | apply Kd.V_drew));exact Kd.V_mono yc.out (fun _ hk => ⟨⟨hk.1,⟨hk.2.2.1,hk.2.2.2⟩⟩,hk.2.1⟩)) hg hat) <| haq (Kd.V_afterv (ok := (fun k_ => (P0_2_ k_ ∨ w.heap.size ≤ k_) ∧ k_ ≠ ye ∧ k_ ≠ ya)) (by (with_reducible repeat (first | apply Kd.V_alloc | apply Kd.V_drewN | apply Kd.V_drew));exact Kd.V_mono yd.out (fun _ hk => ⟨⟨hk.1,⟨hk.2.2.1,hk.2.2.2⟩⟩,hk.2.1⟩)) hg hat) <| haq (zaV (g := ya) (o := .cells #[.string ((zd l0_2 x11_1).f0),.int .i64 ((zd l0_2 x11_1).f1.f0),.int .i64 ((zd l0_2 x11_1).f1.f1),.slice yg ((zd l0_2 x11_1).f1.f2).length yi,.slice yh ((zd l0_2 x11_1).f1.f3).length yj,.int .i64 ((zd l0_2 x11_1).f1.f4.f0),.int .i64 ((zd l0_2 x11_1).f1.f4.f1)] 34 (0,0)) (hGq yu.out) hg (Kd.N_away HO_5.out (fun _ hk => hk.2.2))) <| haq (hb) <| haq (ho) <| trivial;clear HO_9 yb yf yc yd yu HB HO_5;obtain ⟨HO_9,yb,yf,yc,yd,yu,HB,yY,_⟩ := n_;clear ho hb hg hat))
        go_roundg k1
        case measure => have := HK1.out;omega
        case rel => exact ⟨(y9),(wrap64 (x11_1 + 1)),(hDq),H',⟨by have := HK1.out;omega⟩,⟨by (with_reducible repeat (first | apply Kd.N_alloc | apply Kd.N_drewN | apply Kd.N_drew));exact Kd.N_mono yY.out (fun _ hk => ⟨hk.1,hk.2.1⟩)⟩,⟨by (with_reducible repeat (first | apply Kd.V_alloc | apply Kd.V_drewN | apply Kd.V_drew));exact Kd.V_mono HO_9.out (fun _ hk => ⟨hk.1.1,⟨hk.2,hk.1.2.1⟩⟩)⟩,⟨by (with_reducible repeat (first | apply Kd.V_alloc | apply Kd.V_drewN | apply Kd.V_drew));exact Kd.V_mono yb.out (fun _ hk => ⟨hk.1.1,⟨hk.2,hk.1.2.1⟩⟩)⟩,⟨hGq yf.out⟩,⟨by repeat (first | (with_reducible first | exact HB.out | apply zm | apply zj | apply zp | refine zl ?_ yJ.out | refine zl ?_ yK.out) | exact HB.out)⟩⟩
       ·rw [if_neg c9] at H
        exact absurd H (by simp)
      ·rw [if_neg c8] at H
       have c8b0 : (((zd l0_2 x11_1).f1.f1) == a1) = false := beq_eq_false_iff_ne.mpr c8
       have c8b1 : (((zd l0_2 x11_1).f1.f1) != a1) = true := bne_iff_ne.mpr c8
       have H' := za.mk H
       clear H
       have yD : 0 ≤ (x11_1 : Int) := hFq
       have yE : x11_1 < (l0_2.length : Int) := hFq
       obtain ⟨yF,yg,yi,yh,yj,yW,yN,yO,yP,yB,yC,yQ,yR,yy,yw,yz,yx⟩ := za7 (Kd.V_reads' HO_9.out).2.2 x11_1 yD yE
       cases yW
       obtain ⟨y8,yI,yH,yv⟩ := Kd.V_get HO_9.out z34 x11_1 yD (by first | exact yE | exact hFq | (have e_ := (Kd.V_reads' HO_9.out).1;omega))
       obtain ⟨yS,yU,yT,yV,rfl,yr,yp,yt,yq⟩ := zbJ yH
       have ym := yv 3 _ rfl
       rw [zW _ _ 3 (by omega)] at ym
       replace ym := Option.some.inj (ym.symm.trans yB)
       injection ym with hva_ hvn_ hvc_
       rw [hva_] at yp
       rw [hvc_] at yr
       have yc := za.mk (show Kd.V k78 78 _ w.heap.size _ _ ((zd l0_2 x11_1).f1.f2) from Kd.V_mk yr yp)
       clear hva_ hvn_ hvc_ yp yr
       have yn := yv 4 _ rfl
       rw [zW _ _ 4 (by omega)] at yn
       replace yn := Option.some.inj (yn.symm.trans yC)
       injection yn with hva_ hvn_ hvc_
       rw [hva_] at yq
       rw [hvc_] at yt
       have yd := za.mk (show Kd.V Kd.string 9 _ w.heap.size _ _ ((zd l0_2 x11_1).f1.f3) from Kd.V_mk yt yq)
       clear hva_ hvn_ hvc_ yq yt
       clear yv yI
       have yk := za.mk yw
       have yL := za.mk yy
       clear yw yy
       have yl := za.mk yx
       have yM := za.mk yz
       clear yx yz
       replace yD := eq_true yD
       replace yE := eq_true yE
       go_wp2_with (first | ((with_reducible refine zq (N := 7) rfl ?_);refine zn rfl (N := 7) rfl (cs := #[.string (⟨#[]⟩ : ByteArray),.int .i64 0,.int .i64 0,.slice none 0 0,.slice none 0 0,.int .i64 0,.int .i64 0]) (t := 34) hrq ?_;intro ya hg w16 hbox hb;have n_ := haq (Kd.N_below (Kd.N_elderB (by (with_reducible repeat (first | apply Kd.N_alloc | apply Kd.N_drewN | apply Kd.N_drew));exact HO_5.out) ya (Nat.le_of_eq hg.symm)) hb) <| haq (Kd.V_below (Kd.V_elderB (by (with_reducible repeat (first | apply Kd.V_alloc | apply Kd.V_drewN | apply Kd.V_drew));exact HO_9.out) ya (Nat.le_of_eq hg.symm)) hb) <| haq (Kd.V_below (Kd.V_elderB (by (with_reducible repeat (first | apply Kd.V_alloc | apply Kd.V_drewN | apply Kd.V_drew));exact yb.out) ya (Nat.le_of_eq hg.symm)) hb) <| haq (Kd.V_below (Kd.V_elderB (by (with_reducible repeat (first | apply Kd.V_alloc | apply Kd.V_drewN | apply Kd.V_drew));exact yc.out) ya (Nat.le_of_eq hg.symm)) hb) <| haq (Kd.V_below (Kd.V_elderB (by (with_reducible repeat (first | apply Kd.V_alloc | apply Kd.V_drewN | apply Kd.V_drew));exact yd.out) ya (Nat.le_of_eq hg.symm)) hb) <| haq (hbq yf.out hb) <| haq (Kd.C_below (by repeat (first | (with_reducible exact yk.out) | (with_reducible refine Kd.C_alloc ?_ _) | (with_reducible refine Kd.C_drewN ?_ _) | (with_reducible refine Kd.C_drew ?_) | exact yk.out)) hb) <| haq (Kd.C_below (by repeat (first | (with_reducible exact yl.out) | (with_reducible refine Kd.C_alloc ?_ _) | (with_reducible refine Kd.C_drewN ?_ _) | (with_reducible refine Kd.C_drew ?_) | exact yl.out)) hb) <| haq (zf hCq hb) <| haq (hbox) <| haq ((by rw [hg];exact (zh hCq) : w.heap.size ≤ ya)) <| haq ((by rw [hg];exact (zh hCq) : w.heap.size ≤ ya)) <| haq (hnq hg yf.out) <| haq (hmq hg yf.out) <| trivial;clear HO_5 HO_9 yb yc yd yf yk yl HB;obtain ⟨HO_5,HO_9,yb,yc,yd,yf,yk,yl,HB,yu,yX,yK,yo,yA,_⟩ := n_;clear hb hbox hg;have hnb17 := yA.out;have hnc17 := yo.out;obtain ⟨hcz18_0,hcz18_1,hcz18_2,hcz18_3,hcz18_4,hcz18_5,hcz18_6,hfz18_0,hfz18_1,hfz18_2,hfz18_3,hfz18_4,hfz18_5,hfz18_6⟩ := hcq7 yu.out))
       go_roundg k1
       case measure => have := HK1.out;omega
       case rel => exact ⟨(x5_1),(wrap64 (x11_1 + 1)),(hDq),H',⟨by have := HK1.out;omega⟩,⟨by (with_reducible repeat (first | apply Kd.N_alloc | apply Kd.N_drewN | apply Kd.N_drew));exact Kd.N_mono (Kd.N_far (p := ⟨ya,6,none⟩) (Kd.N_far (p := ⟨ya,5,none⟩) (Kd.N_far (p := ⟨ya,4,none⟩) (Kd.N_far (p := ⟨ya,3,none⟩) (Kd.N_far (p := ⟨ya,2,none⟩) (Kd.N_far (p := ⟨ya,1,none⟩) (Kd.N_far (p := ⟨ya,0,none⟩) (Kd.N_mono HO_5.out (fun k_ hk => (⟨hk,hk.2⟩ : _ ∧ k_ ≠ ya))) (fun _ hk => hk.2) (.string ((zd l0_2 x11_1).f0))) (fun _ hk => hk.2) (.int .i64 ((zd l0_2 x11_1).f1.f0))) (fun _ hk => hk.2) (.int .i64 ((zd l0_2 x11_1).f1.f1))) (fun _ hk => hk.2) (.slice yg ((zd l0_2 x11_1).f1.f2).length yi)) (fun _ hk => hk.2) (.slice yh ((zd l0_2 x11_1).f1.f3).length yj)) (fun _ hk => hk.2) (.int .i64 ((zd l0_2 x11_1).f1.f4.f0))) (fun _ hk => hk.2) (.int .i64 ((zd l0_2 x11_1).f1.f4.f1))) (fun _ hk => ⟨hk.1.1.1,hk.1.1.2⟩)⟩,⟨by (with_reducible repeat (first | apply Kd.V_alloc | apply Kd.V_drewN | apply Kd.V_drew));exact Kd.V_mono (Kd.V_far (p := ⟨ya,6,none⟩) (Kd.V_far (p := ⟨ya,5,none⟩) (Kd.V_far (p := ⟨ya,4,none⟩) (Kd.V_far (p := ⟨ya,3,none⟩) (Kd.V_far (p := ⟨ya,2,none⟩) (Kd.V_far (p := ⟨ya,1,none⟩) (Kd.V_far (p := ⟨ya,0,none⟩) (Kd.V_mono HO_9.out (fun k_ hk => (⟨hk,hk.2⟩ : _ ∧ k_ ≠ ya))) (fun _ hk => hk.2) (.string ((zd l0_2 x11_1).f0))) (fun _ hk => hk.2) (.int .i64 ((zd l0_2 x11_1).f1.f0))) (fun _ hk => hk.2) (.int .i64 ((zd l0_2 x11_1).f1.f1))) (fun _ hk => hk.2) (.slice yg ((zd l0_2 x11_1).f1.f2).length yi)) (fun _ hk => hk.2) (.slice yh ((zd l0_2 x11_1).f1.f3).length yj)) (fun _ hk => hk.2) (.int .i64 ((zd l0_2 x11_1).f1.f4.f0))) (fun _ hk => hk.2) (.int .i64 ((zd l0_2 x11_1).f1.f4.f1))) (fun _ hk => ⟨hk.1.1.1,⟨hk.1.1.2.1,hk.1.1.2.2⟩⟩)⟩,⟨by (with_reducible repeat (first | apply Kd.V_alloc | apply Kd.V_drewN | apply Kd.V_drew));exact Kd.V_mono (Kd.V_far (p := ⟨ya,6,none⟩) (Kd.V_far (p := ⟨ya,5,none⟩) (Kd.V_far (p := ⟨ya,4,none⟩) (Kd.V_far (p := ⟨ya,3,none⟩) (Kd.V_far (p := ⟨ya,2,none⟩) (Kd.V_far (p := ⟨ya,1,none⟩) (Kd.V_far (p := ⟨ya,0,none⟩) (Kd.V_mono yb.out (fun k_ hk => (⟨hk,hk.2⟩ : _ ∧ k_ ≠ ya))) (fun _ hk => hk.2) (.string ((zd l0_2 x11_1).f0))) (fun _ hk => hk.2) (.int .i64 ((zd l0_2 x11_1).f1.f0))) (fun _ hk => hk.2) (.int .i64 ((zd l0_2 x11_1).f1.f1))) (fun _ hk => hk.2) (.slice yg ((zd l0_2 x11_1).f1.f2).length yi)) (fun _ hk => hk.2) (.slice yh ((zd l0_2 x11_1).f1.f3).length yj)) (fun _ hk => hk.2) (.int .i64 ((zd l0_2 x11_1).f1.f4.f0))) (fun _ hk => hk.2) (.int .i64 ((zd l0_2 x11_1).f1.f4.f1))) (fun _ hk => ⟨hk.1.1.1,⟨hk.1.1.2.1,hk.1.1.2.2⟩⟩)⟩,⟨hxq1 yo.out yf.out⟩,⟨by repeat (first | (with_reducible first | exact HB.out | apply zm | apply zj | apply zp | refine zl ?_ yJ.out | refine zl ?_ yK.out) | exact HB.out)⟩⟩
     ·rw [if_neg c7] at H
      exact absurd H (by simp)
    ·rw [if_neg c6] at H
     exact absurd H (by simp)
   ·rw [if_neg c5] at H
    have c5b0 : decide (x11_1 < (l0_2.length : Int)) = false := decide_eq_false c5
    clear c5
    obtain rfl := Option.some.inj H
    go_wp2
    go_ret
    exact ⟨_,hHq,by (with_reducible repeat (first | apply Kd.N_alloc | apply Kd.N_drewN | apply Kd.N_drew));exact Kd.N_mono HO_5.out (fun _ hk => hk.1),hCq⟩
end Go.Proofs.Ytndjfdakflaggaa.Px