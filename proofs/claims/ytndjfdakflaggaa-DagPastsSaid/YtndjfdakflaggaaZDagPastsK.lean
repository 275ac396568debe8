/- Part 11 of 30 of the proof of the law DagPasts: what is proved is the statement at the end of the last part; its conditions are those of the given row. -/
import Derived.Test.YtndjfdakflaggaaZDagPastsJ
namespace Go.Proofs.Ytndjfdakflaggaa.Px
open Go.RowKit Go.Proofs.YtndjfdakflaggaaW.PrintWords Go.Proofs.YtndjfdakflaggaaW.PrintLast Go.Proofs.YtndjfdakflaggaaW.PrintMore
attribute [local go_sem] zt zv zA zB zq zr zu zw
set_option linter.unusedVariables false
set_option linter.unusedSimpArgs false
def zaL.f (a0_0 : Int) (a0_1 : Int) (l0_2 : List (S78)) (l0_3 : List ByteArray) (a0_4 : Int) (a0_5 : Int) (a1 : Int) : Option (ByteArray × Int) := (zag.f a0_0 a0_1 l0_2 l0_3 a0_4 a0_5 a1).bind fun bt132 => (if bt132.2 = 0 then (if 1 + bt132.1.size ≤ 9223372036854775807 then ((zcg.f ((⟨#[118]⟩ : ByteArray) ++ bt132.1)).bind fun t134 => (some (t134,0))) else (none)) else (some ((⟨#[]⟩ : ByteArray),bt132.2)))
set_option maxHeartbeats 8000000 in
set_option maxRecDepth 100000 in
theorem zaL.calls (a0_0 : Int) (a0_1 : Int) (A0_2 : Option Addr) (c0_2 : Nat) (l0_2 : List (S78)) (A0_3 : Option Addr) (c0_3 : Nat) (l0_3 : List ByteArray) (a0_4 : Int) (a0_5 : Int) (a1 : Int) (r1 : ByteArray) (r2 : Int) (w : World) (hr0_2 : Kd.C k78 w A0_2 l0_2.length l0_2) (hc0_2 : l0_2.length ≤ c0_2) (hr0_3 : Kd.C Kd.string w A0_3 l0_3.length l0_3) (hc0_3 : l0_3.length ≤ c0_3) (h : zaL.f a0_0 a0_1 l0_2 l0_3 a0_4 a0_5 a1 = some (r1,r2)) :
  Calls Try.prog 31 #[.agg #[.int .i64 a0_0,.int .i64 a0_1,.slice A0_2 l0_2.length c0_2,.slice A0_3 l0_3.length c0_3,.int .i64 a0_4,.int .i64 a0_5],.int .i64 a1] w fun e w' => e = .returned (.tuple #[.string r1,.int .i64 r2]) ∧ Below w.heap.size w w' := by
 have hu32 := Try.underlying32
 have HR0_2 := za.mk hr0_2
 have HC0_2 := za.mk hc0_2
 clear hr0_2 hc0_2
 have HR0_3 := za.mk hr0_3
 have HC0_3 := za.mk hc0_3
 clear hr0_3 hc0_3
 have HB := za.mk (Below.refl w.heap.size w)
 have H : ((zag.f a0_0 a0_1 l0_2 l0_3 a0_4 a0_5 a1).bind fun bt132 => (if bt132.2 = 0 then (if 1 + bt132.1.size ≤ 9223372036854775807 then ((zcg.f ((⟨#[118]⟩ : ByteArray) ++ bt132.1)).bind fun t134 => (some (t134,0))) else (none)) else (some ((⟨#[]⟩ : ByteArray),bt132.2)))) = some (r1,r2) := h
 clear h
 replace H := Option.bind_eq_some_iff.mp H
 obtain ⟨⟨t132,t133⟩,A30,H⟩ := H
 replace H : (if t133 = 0 then (if 1 + t132.size ≤ 9223372036854775807 then ((zcg.f ((⟨#[118]⟩ : ByteArray) ++ t132)).bind fun t134 => (some (t134,0))) else (none)) else (some ((⟨#[]⟩ : ByteArray),t133))) = some (r1,r2) := H
 have A3 := za.mk A30
 clear A30
 by_cases c4 : t133 = 0
 ·rw [if_pos c4] at H
  have c4b0 : (t133 == 0) = true := beq_iff_eq.mpr c4
  have c4b1 : (t133 != 0) = false := bne_eq_false_iff_eq.mpr c4
  clear c4
  by_cases c5 : 1 + t132.size ≤ 9223372036854775807
  ·rw [if_pos c5] at H
   have c5b0 := eq_true c5
   have c5b1 : decide (1 + t132.size ≤ 9223372036854775807) = true := decide_eq_true c5
   try have c5b2 : (9223372036854775807 < 1 + t132.size) = False := eq_false (Nat.not_lt.2 c5)
   replace H := Option.bind_eq_some_iff.mp H
   obtain ⟨t134,A60,H⟩ := H
   replace H : (some (t134,0)) = some (r1,r2) := H
   have A6 := za.mk A60
   clear A60
   simp only [Option.some.injEq,Prod.mk.injEq] at H
   obtain ⟨rfl,rfl⟩ := H
   go_enter Try.func31,Try.ntmps31
   go_wp2_with (first | ((with_reducible refine zp (N := 2) rfl ?_);refine zn rfl (N := 2) rfl (cs := #[.int .i64 a0_0,.int .i64 a0_1,.slice A0_2 l0_2.length c0_2,.slice A0_3 l0_3.length c0_3,.int .i64 a0_4,.int .i64 a0_5]) (t := 32) hrq ?_;intro gb131 hg w7 hbox hb;have n_ := haq (zh hBq hb) <| haq (hbox) <| haq ((by rw [hg];exact (zj hBq) : w.heap.size ≤ gb131)) <| haq ((by rw [hg];exact (zj hBq) : w.heap.size ≤ gb131)) <| trivial;clear HB;obtain ⟨HB,BK131,GW131,GE131,_⟩ := n_;clear hb hbox hg;obtain ⟨hcz8_0,hcz8_1,hcz8_2,hcz8_3,hcz8_4,hcz8_5,hfz8_0,hfz8_1,hfz8_2,hfz8_3,hfz8_4,hfz8_5⟩ := hcq6 BK131.out) | ((with_reducible refine zN (f := 49) rfl ?_);refine zaG (some 11) rfl rfl Try.func49 (by kernel_rfl) rfl #[.agg #[.int .i64 a0_0,.int .i64 a0_1,.slice A0_2 l0_2.length c0_2,.slice A0_3 l0_3.length c0_3,.int .i64 a0_4,.int .i64 a0_5],.int .i64 a1] rfl hMq ?_;(with_reducible refine (zag.calls a0_0 a0_1 _ _ l0_2 _ _ l0_3 a0_4 a0_5 a1 t132 t133 _ ?side1 ?side2 ?side3 ?side4 A3.out).mono ?_);(case side1 => exact hKq (Kd.C_below HR0_2.out HB.out));(case side2 => exact HC0_2.out);(case side3 => exact hKq (Kd.C_below HR0_3.out HB.out));(case side4 => exact HC0_3.out);rintro e w9 ⟨rfl,hb⟩;refine ⟨_,rfl,?_⟩;have n_ := haq (hbq BK131.out hb) <| haq (zh hCq hb) <| trivial;clear BK131 HB;obtain ⟨BK131,HB,_⟩ := n_;(try clear hb);(try clear hb2);(try clear hk);(try clear hi)) | ((with_reducible refine zN (f := 50) rfl ?_);refine zaG (some 19) rfl rfl Try.func50 (by kernel_rfl) rfl #[.string ((⟨#[118]⟩ : ByteArray) ++ t132)] rfl hMq ?_;(with_reducible refine (zcg.calls ((⟨#[118]⟩ : ByteArray) ++ t132) t134 _ A6.out).mono ?_);rintro e w10 ⟨rfl,hb⟩;refine ⟨_,rfl,?_⟩;have n_ := haq (hbq BK131.out hb) <| haq (zh hCq hb) <| trivial;clear BK131 HB;obtain ⟨BK131,HB,_⟩ := n_;(try clear hb);(try clear hb2);(try clear hk);(try clear hi)))
   go_ret2
   exact ⟨hHq,hCq⟩
  ·rw [if_neg c5] at H
   exact absurd H (by simp)
 ·rw [if_neg c4] at H
  have c4b0 : (t133 == 0) = false := beq_eq_false_iff_ne.mpr c4
  have c4b1 : (t133 != 0) = true := bne_iff_ne.mpr c4
  simp only [Option.some.injEq,Prod.mk.injEq] at H
  obtain ⟨rfl,rfl⟩ := H
  go_enter Try.func31,Try.ntmps31
  go_wp2_with (first | ((with_reducible refine zp (N := 2) rfl ?_);refine zn rfl (N := 2) rfl (cs := #[.int .i64 a0_0,.int .i64 a0_1,.slice A0_2 l0_2.length c0_2,.slice A0_3 l0_3.length c0_3,.int .i64 a0_4,.int .i64 a0_5]) (t := 32) hrq ?_;intro gb131 hg w11 hbox hb;have n_ := haq (zh hBq hb) <| haq (hbox) <| haq ((by rw [hg];exact (zj hBq) : w.heap.size ≤ gb131)) <| haq ((by rw [hg];exact (zj hBq) : w.heap.size ≤ gb131)) <| trivial;clear HB;obtain ⟨HB,BK131,GW131,GE131,_⟩ := n_;clear hb hbox hg;obtain ⟨hcz12_0,hcz12_1,hcz12_2,hcz12_3,hcz12_4,hcz12_5,hfz12_0,hfz12_1,hfz12_2,hfz12_3,hfz12_4,hfz12_5⟩ := hcq6 BK131.out) | ((with_reducible refine zN (f := 49) rfl ?_);refine zaG (some 11) rfl rfl Try.func49 (by kernel_rfl) rfl #[.agg #[.int .i64 a0_0,.int .i64 a0_1,.slice A0_2 l0_2.length c0_2,.slice A0_3 l0_3.length c0_3,.int .i64 a0_4,.int .i64 a0_5],.int .i64 a1] rfl hMq ?_;(with_reducible refine (zag.calls a0_0 a0_1 _ _ l0_2 _ _ l0_3 a0_4 a0_5 a1 t132 t133 _ ?side1 ?side2 ?side3 ?side4 A3.out).mono ?_);(case side1 => exact hKq (Kd.C_below HR0_2.out HB.out));(case side2 => exact HC0_2.out);(case side3 => exact hKq (Kd.C_below HR0_3.out HB.out));(case side4 => exact HC0_3.out);rintro e w13 ⟨rfl,hb⟩;refine ⟨_,rfl,?_⟩;have n_ := haq (hbq BK131.out hb) <| haq (zh hCq hb) <| trivial;clear BK131 HB;obtain ⟨BK131,HB,_⟩ := n_;(try clear hb);(try clear hb2);(try clear hk);(try clear hi)))
  go_ret2
  exact ⟨hHq,hCq⟩
def zy.l0 : Nat → List (S78) → List (S78) → Int → Option (Bool)
 | 0,_,_,_ => none
 | k + 1,x0,x1,x5 => if x5 < (x0.length : Int) then (if 0 ≤ x5 then (if x5 < (x1.length : Int) then ((zaQ.f k ((zQ x0 x5).f0) ((zQ x0 x5).f1) ((zQ x0 x5).f2) ((zQ x1 x5).f0) ((zQ x1 x5).f1) ((zQ x1 x5).f2)).bind fun t241 => (if t241 = true then (zy.l0 k x0 x1 (wrap64 (x5 + 1))) else (some false))) else (none)) else (none)) else (some true)
def zy.f (k : Nat) (l0 : List (S78)) (l1 : List (S78)) : Option (Bool) := if (l0.length : Int) = (l1.length : Int) then (zy.l0 k l0 l1 0) else (some false)
def zy.T6 : Bool × List (List Nat × List Nat) := (true,[([],[]),([],[]),([0,1],[0,1]),([2],[2]),([],[]),([],[]),([4,5],[4,5]),([6],[6]),([3,7],[3,7]),([8,8,0,1,2,3,4,5,6,7,8],[8])])
def zy.B6 : List Nat := [0,0,3,7,0,0,48,112,255,511]
theorem zy.tab6 : zbI .any (zd6 Try.f44 6) = zy.T6 := by kernel_rfl
theorem zy.bits6 : zbw zy.T6.2 zy.B6 = true := by kernel_rfl
set_option maxHeartbeats 8000000 in
set_option maxRecDepth 100000 in
theorem zy.calls (k : Nat) (A0 : Option Addr) (c0 : Nat) (l0 : List (S78)) (A1 : Option Addr) (c1 : Nat) (l1 : List (S78)) (r : Bool) (w : World) (hr0 : Kd.C k78 w A0 l0.length l0) (hc0 : l0.length ≤ c0) (hr1 : Kd.C k78 w A1 l1.length l1) (hc1 : l1.length ≤ c1) (h : zy.f k l0 l1 = some r) :
  Calls Try.prog 44 #[.slice A0 l0.length c0,.slice A1 l1.length c1] w fun e w' => e = .returned (.bool r) ∧ Below w.heap.size w w' := by
 have hu78 := Try.underlying78
 have HR0 := za.mk hr0
 have HC0 := za.mk hc0
 clear hr0 hc0
 have HR1 := za.mk hr1
 have HC1 := za.mk hc1
 clear hr1 hc1
 have HB := za.mk (Below.refl w.heap.size w)
 have H : (if (l0.length : Int) = (l1.length : Int) then (zy.l0 k l0 l1 0) else (some false)) = some r := h
 clear h
 by_cases c3 : (l0.length : Int) = (l1.length : Int)
 ·rw [if_pos c3] at H
  have c3b0 : ((l0.length : Int) == (l1.length : Int)) = true := beq_iff_eq.mpr c3
  have c3b1 : ((l0.length : Int) != (l1.length : Int)) = false := bne_eq_false_iff_eq.mpr c3
  have c3b2 : (l0.length == l1.length) = true := by first | simpa using c3 | (simp at c3 ⊢;omega)
  clear c3
  have H' := za.mk H
  clear H
  go_enter Try.func44,Try.ntmps44
  go_wp2
  go_loopg [5] k (fun kq v5 w' => ∃ (x5_1 : Int),v5 = .int .i64 x5_1 ∧ za (zy.l0 kq l0 l1 x5_1 = some r) ∧ za (kq ≤ k) ∧ za (Below w.heap.size w w'))
  case atStart => exact ⟨(0),(hDq),H',⟨Nat.le_refl _⟩,⟨by repeat (first | (with_reducible first | exact HB.out | apply zi | apply zl | apply zx) | exact HB.out)⟩⟩
  case round =>
   clear H'
   try clear c1;try clear p2;try clear c3;try clear c3b0;try clear c3b1;try clear c3b2
   obtain ⟨x5_1,rfl,HA,HK1,HB⟩ := hrel
   cases gk with
   | zero => exact absurd HA.out (by simp [zy.l0])
   | succ k1 =>
    have H := HA.out
    clear HA
    simp only [zy.l0] at H
    by_cases c4 : x5_1 < (l0.length : Int)
    ·rw [if_pos c4] at H
     have c4b0 : decide (x5_1 < (l0.length : Int)) = true := decide_eq_true c4
     clear c4
     by_cases c5 : 0 ≤ x5_1
     ·rw [if_pos c5] at H
      have c5b0 : decide (0 ≤ x5_1) = true := decide_eq_true c5
      clear c5
      by_cases c6 : x5_1 < (l1.length : Int)
      ·rw [if_pos c6] at H
       have c6b0 : decide (x5_1 < (l1.length : Int)) = true := decide_eq_true c6
       clear c6
       replace H := Option.bind_eq_some_iff.mp H
       obtain ⟨t241,A70,H⟩ := H
       replace H : (if t241 = true then (zy.l0 k1 l0 l1 (wrap64 (x5_1 + 1))) else (some false)) = some r := H
       have A7 := za.mk A70
       clear A70
       by_cases c8 : t241 = true
       ·subst c8
        have H1 : (zy.l0 k1 l0 l1 (wrap64 (x5_1 + 1))) = some r := by rw [if_pos rfl] at H;exact H
        clear H
        have H := H1
        clear H1
        have H' := za.mk H
        clear H
        try go_wp2
        have n0_ := za.mk (zx HB.out)
        clear HB
        have HB := n0_
        clear n0_
        have p239 : 0 ≤ (x5_1 : Int) := hFq
        have q239 : x5_1 < (l0.length : Int) := hFq
        obtain ⟨ad239,A239_2,c239_2,e239,hx239_0,hx239_1,hx239_2,hl239_2,hi239_2⟩ := zdn HR0.out x5_1 p239 q239
        have hw239_2 := hx239_2
        have hw239_1 := hx239_1
        have hw239_0 := hx239_0
        cases e239
        replace hx239_0 := (HB.out.cell (World.block_lt_of_cell? w _ hx239_0)).trans hx239_0
        replace hx239_1 := (HB.out.cell (World.block_lt_of_cell? w _ hx239_1)).trans hx239_1
        replace hx239_2 := (HB.out.cell (World.block_lt_of_cell? w _ hx239_2)).trans hx239_2
        have HR239_2 := za.mk hi239_2
        have HC239_2 := za.mk hl239_2
        clear hi239_2 hl239_2
        replace p239 := eq_true p239
        replace q239 := eq_true q239
        have p240 : 0 ≤ (x5_1 : Int) := hFq
        have q240 : x5_1 < (l1.length : Int) := hFq
        obtain ⟨ad240,A240_2,c240_2,e240,hx240_0,hx240_1,hx240_2,hl240_2,hi240_2⟩ := zdn HR1.out x5_1 p240 q240
        have hw240_2 := hx240_2
        have hw240_1 := hx240_1
        have hw240_0 := hx240_0
        cases e240
        replace hx240_0 := (HB.out.cell (World.block_lt_of_cell? w _ hx240_0)).trans hx240_0
        replace hx240_1 := (HB.out.cell (World.block_lt_of_cell? w _ hx240_1)).trans hx240_1
        replace hx240_2 := (HB.out.cell (World.block_lt_of_cell? w _ hx240_2)).trans hx240_2
        have HR240_2 := za.mk hi240_2
        have HC240_2 := za.mk hl240_2
        clear hi240_2 hl240_2
        replace p240 := eq_true p240
        replace q240 := eq_true q240
        refine zbk (n := 10) (S := fun w' => w'.cell? (ad239.add ((x5_1).toNat * 3)) = some (.int .i64 ((zQ l0 x5_1).f0)) ∧ w'.cell? ⟨(ad239.add ((x5_1).toNat * 3)).block,(ad239.add ((x5_1).toNat * 3)).off + 1,none⟩ = some (.int .i64 ((zQ l0 x5_1).f1)) ∧ w'.cell? ⟨(ad239.add ((x5_1).toNat * 3)).block,(ad239.add ((x5_1).toNat * 3)).off + 2,none⟩ = some (.slice A239_2 ((zQ l0 x5_1).f2).length c239_2) ∧ w'.cell? (ad240.add ((x5_1).toNat * 3)) = some (.int .i64 ((zQ l1 x5_1).f0)) ∧ w'.cell? ⟨(ad240.add ((x5_1).toNat * 3)).block,(ad240.add ((x5_1).toNat * 3)).off + 1,none⟩ = some (.int .i64 ((zQ l1 x5_1).f1)) ∧ w'.cell? ⟨(ad240.add ((x5_1).toNat * 3)).block,(ad240.add ((x5_1).toNat * 3)).off + 2,none⟩ = some (.slice A240_2 ((zQ l1 x5_1).f2).length c240_2)) (ds := []) (uQ 10 0) (by kernel_rfl) rfl rfl ⟨((HB.out.cell (World.block_lt_of_cell? w _ hw239_0)).trans hw239_0),((HB.out.cell (World.block_lt_of_cell? w _ hw239_1)).trans hw239_1),((HB.out.cell (World.block_lt_of_cell? w _ hw239_2)).trans hw239_2),((HB.out.cell (World.block_lt_of_cell? w _ hw240_0)).trans hw240_0),((HB.out.cell (World.block_lt_of_cell? w _ hw240_1)).trans hw240_1),((HB.out.cell (World.block_lt_of_cell? w _ hw240_2)).trans hw240_2)⟩ (fun hHeld => ?_);refine zaz zy.tab6 zy.bits6 (fun HT_ HW_ => ?_)
        generalize wr.drew = w9 at HB HR239_2 HR240_2 hx239_0 hx239_1 hx239_2 hx240_0 hx240_1 hx240_2 hHeld ⊢
        refine puq (i := 0) (N := some 18) HT_.out (uQ 10 1) ?_
        refine puq (i := 1) (N := some 19) HT_.out (uQ 10 2) ?_
        refine puq (i := 2) (N := some 20) HT_.out (uQ 10 3) ?_
        refine puq (i := 4) (N := some 22) HT_.out #[true,true,true,false,true,false,false,false,false,false] ?_
        refine puq (i := 5) (N := some 23) HT_.out #[true,true,true,false,true,true,false,false,false,false] ?_
        refine puq (i := 6) (N := some 24) HT_.out #[true,true,true,false,true,true,true,false,false,false] ?_
        refine take_ (i := 3) (N := some 21) (uQ 10 7) rfl rfl (zI HT_.out HW_.out (by kernel_rfl)) (fun _ _ _ h => h) (Or.inl ⟨by rfl,by rintro w' ⟨s0,s1,s2,s3,s4,s5⟩;go_simp;with_reducible rfl⟩) hHeld hPq ?_
        refine take_ (i := 7) (N := some 25) (uQ 10 8) rfl rfl (zI HT_.out HW_.out (by kernel_rfl)) (fun _ _ _ h => h) (Or.inl ⟨by rfl,by rintro w' ⟨s0,s1,s2,s3,s4,s5⟩;go_simp;with_reducible rfl⟩) hHeld hPq ?_
        refine zb6 (i := 8) (N := some 26) (uQ 10 9) rfl rfl (zaO HT_.out (by kernel_rfl)) (by decide) (fun K hK => ?_)
        refine za8 Try.func62 (by kernel_rfl) rfl #[.agg #[.int .i64 ((zQ l0 x5_1).f0),.int .i64 ((zQ l0 x5_1).f1),.slice A239_2 ((zQ l0 x5_1).f2).length c239_2],.agg #[.int .i64 ((zQ l1 x5_1).f0),.int .i64 ((zQ l1 x5_1).f1),.slice A240_2 ((zQ l1 x5_1).f2).length c240_2]] (by rfl) rfl rfl hMq ?_
        with_reducible refine (zaQ.calls k1 ((zQ l0 x5_1).f0) ((zQ l0 x5_1).f1) _ _ ((zQ l0 x5_1).f2) ((zQ l1 x5_1).f0) ((zQ l1 x5_1).f1) _ _ ((zQ l1 x5_1).f2) true _ ?side1 ?side2 ?side3 ?side4 A7.out).mono ?_
        (case side1 => exact hKq (Kd.C_below HR239_2.out HB.out))
        (case side2 => exact HC239_2.out)
        (case side3 => exact hKq (Kd.C_below HR240_2.out HB.out))
        (case side4 => exact HC240_2.out)
        rintro e w10 ⟨rfl,hb⟩
        refine ⟨_,rfl,?_⟩
        have n0_ := za.mk (zh hBq hb)
        clear HB
        have HB := n0_
        clear n0_
        (try clear hb)
        (try clear hb2)
        (try clear hk)
        (try clear hi)
        refine hK.out _ _ ⟨((HB.out.cell (World.block_lt_of_cell? w _ hw239_0)).trans hw239_0),((HB.out.cell (World.block_lt_of_cell? w _ hw239_1)).trans hw239_1),((HB.out.cell (World.block_lt_of_cell? w _ hw239_2)).trans hw239_2),((HB.out.cell (World.block_lt_of_cell? w _ hw240_0)).trans hw240_0),((HB.out.cell (World.block_lt_of_cell? w _ hw240_1)).trans hw240_1),((HB.out.cell (World.block_lt_of_cell? w _ hw240_2)).trans hw240_2)⟩ (fun hHeld => ?_)
        clear hK K
        refine za9 (a' := ?_) ?_ ?_
        rotate_left
        ·show Act.put _ (some 26) _ = _
         simp only [Act.put,List.setIfInBounds_toArray,List.set_cons_zero,List.set_cons_succ,z8,zaa]
         rfl
        refine puq (i := 9) (N := some 6) HT_.out (uQ 10 10) ?_
        refine zbl (zaF HT_.out (by kernel_rfl)) ?_
        try go_wp2
        go_roundg k1
        case measure => have := HK1.out;omega
        case rel => exact ⟨(wrap64 (x5_1 + 1)),(hDq),H',⟨by have := HK1.out;omega⟩,⟨by repeat (first | (with_reducible first | exact HB.out | apply zi | apply zl | apply zx) | exact HB.out)⟩⟩
       ·replace c8 := Bool.eq_false_iff.mpr c8
        subst c8
        have H1 : (some false) = some r := by rw [if_neg (show ¬ (false = true) by decide)] at H;exact H
        clear H
        have H := H1
        clear H1
        obtain rfl := Option.some.inj H
        try go_wp2
        have n0_ := za.mk (zx HB.out)
        clear HB
        have HB := n0_
        clear n0_
        have p239 : 0 ≤ (x5_1 : Int) := hFq
        have q239 : x5_1 < (l0.length : Int) := hFq
        obtain ⟨ad239,A239_2,c239_2,e239,hx239_0,hx239_1,hx239_2,hl239_2,hi239_2⟩ := zdn HR0.out x5_1 p239 q239
        have hw239_2 := hx239_2
        have hw239_1 := hx239_1
        have hw239_0 := hx239_0
        cases e239
        replace hx239_0 := (HB.out.cell (World.block_lt_of_cell? w _ hx239_0)).trans hx239_0
        replace hx239_1 := (HB.out.cell (World.block_lt_of_cell? w _ hx239_1)).trans hx239_1
        replace hx239_2 := (HB.out.cell (World.block_lt_of_cell? w _ hx239_2)).trans hx239_2
        have HR239_2 := za.mk hi239_2
        have HC239_2 := za.mk hl239_2
        clear hi239_2 hl239_2
        replace p239 := eq_true p239
        replace q239 := eq_true q239
        have p240 : 0 ≤ (x5_1 : Int) := hFq
        have q240 : x5_1 < (l1.length : Int) := hFq
        obtain ⟨ad240,A240_2,c240_2,e240,hx240_0,hx240_1,hx240_2,hl240_2,hi240_2⟩ := zdn HR1.out x5_1 p240 q240
        have hw240_2 := hx240_2
        have hw240_1 := hx240_1
        have hw240_0 := hx240_0
        cases e240
        replace hx240_0 := (HB.out.cell (World.block_lt_of_cell? w _ hx240_0)).trans hx240_0
        replace hx240_1 := (HB.out.cell (World.block_lt_of_cell? w _ hx240_1)).trans hx240_1
        replace hx240_2 := (HB.out.cell (World.block_lt_of_cell? w _ hx240_2)).trans hx240_2
        have HR240_2 := za.mk hi240_2
        have HC240_2 := za.mk hl240_2
        clear hi240_2 hl240_2
        replace p240 := eq_true p240
        replace q240 := eq_true q240
        refine zbk (n := 10) (S := fun w' => w'.cell? (ad239.add ((x5_1).toNat * 3)) = some (.int .i64 ((zQ l0 x5_1).f0)) ∧ w'.cell? ⟨(ad239.add ((x5_1).toNat * 3)).block,(ad239.add ((x5_1).toNat * 3)).off + 1,none⟩ = some (.int .i64 ((zQ l0 x5_1).f1)) ∧ w'.cell? ⟨(ad239.add ((x5_1).toNat * 3)).block,(ad239.add ((x5_1).toNat * 3)).off + 2,none⟩ = some (.slice A239_2 ((zQ l0 x5_1).f2).length c239_2) ∧ w'.cell? (ad240.add ((x5_1).toNat * 3)) = some (.int .i64 ((zQ l1 x5_1).f0)) ∧ w'.cell? ⟨(ad240.add ((x5_1).toNat * 3)).block,(ad240.add ((x5_1).toNat * 3)).off + 1,none⟩ = some (.int .i64 ((zQ l1 x5_1).f1)) ∧ w'.cell? ⟨(ad240.add ((x5_1).toNat * 3)).block,(ad240.add ((x5_1).toNat * 3)).off + 2,none⟩ = some (.slice A240_2 ((zQ l1 x5_1).f2).length c240_2)) (ds := []) (uQ 10 0) (by kernel_rfl) rfl rfl ⟨((HB.out.cell (World.block_lt_of_cell? w _ hw239_0)).trans hw239_0),((HB.out.cell (World.block_lt_of_cell? w _ hw239_1)).trans hw239_1),((HB.out.cell (World.block_lt_of_cell? w _ hw239_2)).trans hw239_2),((HB.out.cell (World.block_lt_of_cell? w _ hw240_0)).trans hw240_0),((HB.out.cell (World.block_lt_of_cell? w _ hw240_1)).trans hw240_1),((HB.out.cell (World.block_lt_of_cell? w _ hw240_2)).trans hw240_2)⟩ (fun hHeld => ?_);refine zaz zy.tab6 zy.bits6 (fun HT_ HW_ => ?_)
        generalize wr.drew = w11 at HB HR239_2 HR240_2 hx239_0 hx239_1 hx239_2 hx240_0 hx240_1 hx240_2 hHeld ⊢
        refine puq (i := 0) (N := some 18) HT_.out (uQ 10 1) ?_
        refine puq (i := 1) (N := some 19) HT_.out (uQ 10 2) ?_
        refine puq (i := 2) (N := some 20) HT_.out (uQ 10 3) ?_
        refine puq (i := 4) (N := some 22) HT_.out #[true,true,true,false,true,false,false,false,false,false] ?_
        refine puq (i := 5) (N := some 23) HT_.out #[true,true,true,false,true,true,false,false,false,false] ?_
        refine puq (i := 6) (N := some 24) HT_.out #[true,true,true,false,true,true,true,false,false,false] ?_
        refine take_ (i := 3) (N := some 21) (uQ 10 7) rfl rfl (zI HT_.out HW_.out (by kernel_rfl)) (fun _ _ _ h => h) (Or.inl ⟨by rfl,by rintro w' ⟨s0,s1,s2,s3,s4,s5⟩;go_simp;with_reducible rfl⟩) hHeld hPq ?_
        refine take_ (i := 7) (N := some 25) (uQ 10 8) rfl rfl (zI HT_.out HW_.out (by kernel_rfl)) (fun _ _ _ h => h) (Or.inl ⟨by rfl,by rintro w' ⟨s0,s1,s2,s3,s4,s5⟩;go_simp;with_reducible rfl⟩) hHeld hPq ?_
        refine zb6 (i := 8) (N := some 26) (uQ 10 9) rfl rfl (zaO HT_.out (by kernel_rfl)) (by decide) (fun K hK => ?_)
        refine za8 Try.func62 (by kernel_rfl) rfl #[.agg #[.int .i64 ((zQ l0 x5_1).f0),.int .i64 ((zQ l0 x5_1).f1),.slice A239_2 ((zQ l0 x5_1).f2).length c239_2],.agg #[.int .i64 ((zQ l1 x5_1).f0),.int .i64 ((zQ l1 x5_1).f1),.slice A240_2 ((zQ l1 x5_1).f2).length c240_2]] (by rfl) rfl rfl hMq ?_
        with_reducible refine (zaQ.calls k1 ((zQ l0 x5_1).f0) ((zQ l0 x5_1).f1) _ _ ((zQ l0 x5_1).f2) ((zQ l1 x5_1).f0) ((zQ l1 x5_1).f1) _ _ ((zQ l1 x5_1).f2) false _ ?side1 ?side2 ?side3 ?side4 A7.out).mono ?_
        (case side1 => exact hKq (Kd.C_below HR239_2.out HB.out))
        (case side2 => exact HC239_2.out)
        (case side3 => exact hKq (Kd.C_below HR240_2.out HB.out))
        (case side4 => exact HC240_2.out)
        rintro e w12 ⟨rfl,hb⟩
        refine ⟨_,rfl,?_⟩
        have n0_ := za.mk (zh hBq hb)
        clear HB
        have HB := n0_
        clear n0_
        (try clear hb)
        (try clear hb2)
        (try clear hk)
        (try clear hi)
        refine hK.out _ _ ⟨((HB.out.cell (World.block_lt_of_cell? w _ hw239_0)).trans hw239_0),((HB.out.cell (World.block_lt_of_cell? w _ hw239_1)).trans hw239_1),((HB.out.cell (World.block_lt_of_cell? w _ hw239_2)).trans hw239_2),((HB.out.cell (World.block_lt_of_cell? w _ hw240_0)).trans hw240_0),((HB.out.cell (World.block_lt_of_cell? w _ hw240_1)).trans hw240_1),((HB.out.cell (World.block_lt_of_cell? w _ hw240_2)).trans hw240_2)⟩ (fun hHeld => ?_)
        clear hK K
        refine za9 (a' := ?_) ?_ ?_
        rotate_left
        ·show Act.put _ (some 26) _ = _
         simp only [Act.put,List.setIfInBounds_toArray,List.set_cons_zero,List.set_cons_succ,z8,zaa]
         rfl
        refine puq (i := 9) (N := some 6) HT_.out (uQ 10 10) ?_
        refine zbl (zaF HT_.out (by kernel_rfl)) ?_
        try go_wp2
        go_ret
        exact ⟨hHq,hBq⟩
      ·rw [if_neg c6] at H
       exact absurd H (by simp)
     ·rw [if_neg c5] at H
      exact absurd H (by simp)
    ·rw [if_neg c4] at H
     have c4b0 : decide (x5_1 < (l0.length : Int)) = false := decide_eq_false c4
     clear c4
     obtain rfl := Option.some.inj H
     go_wp2
     go_ret
     exact ⟨hHq,hBq⟩
 ·rw [if_neg c3] at H
  have c3b0 : ((l0.length : Int) == (l1.length : Int)) = false := beq_eq_false_iff_ne.mpr c3
  have c3b1 : ((l0.length : Int) != (l1.length : Int)) = true := bne_iff_ne.mpr c3
  have c3b2 : (l0.length == l1.length) = false := by first | simpa using c3 | (simp at c3 ⊢;omega)
  obtain rfl := Option.some.inj H
  go_enter Try.func44,Try.ntmps44
  go_wp2
  go_ret
  exact ⟨hHq,hBq⟩
theorem eqA30 (d : Nat) (w : World) (x0 y0 : Int) (x1 y1 : Int) :
  (Op.equalIn (d + 2) 30 (.agg #[.int .i64 x0,.int .i64 x1]) (.agg #[.int .i64 y0,.int .i64 y1])).run Try.prog w = .ok (x0 == y0 && (x1 == y1)) w := by
 refine eqA_of Try.underlying30 (by kernel_rfl) ?_
 refine eqf_cons (by rfl) (by go_simp;rfl) (by go_simp;rfl) (by go_simp) ?_
 exact eqf_last (by rfl) (by go_simp;rfl) (by go_simp;rfl) (by go_simp)
end Go.Proofs.Ytndjfdakflaggaa.Px
namespace Go.Proofs.Ytndjfdakflaggaa.Px
open Go.RowKit Go.Proofs.YtndjfdakflaggaaW.PrintWords Go.Proofs.YtndjfdakflaggaaW.PrintLast Go.Proofs.YtndjfdakflaggaaW.PrintMore
attribute [local go_sem] zt zv zA zB zq zr zu zw
set_option linter.unusedVariables false
set_option linter.unusedSimpArgs false
attribute [local go_sem high] eqA30
def zaI.f (k : Nat) (a0_0 : Int) (a0_1 : Int) (l0_2 : List (S78)) (l0_3 : List ByteArray) (a0_4 : Int) (a0_5 : Int) (a1_0 : Int) (a1_1 : Int) (l1_2 : List (S78)) (l1_3 : List ByteArray) (a1_4 : Int) (a1_5 : Int) : Option (Bool) := (zH.f k l0_3 l1_3).bind fun t244 => ((zy.f k l0_2 l1_2).bind fun t245 => (if t244 = true then (if t245 = true then (if a0_0 = a1_0 then (if a0_1 = a1_1 then (some (a0_4 == a1_4 && (a0_5 == a1_5))) else (some false)) else (some false)) else (some false)) else (some false)))
set_option maxHeartbeats 8000000 in
set_option maxRecDepth 100000 in
theorem zaI.calls (k : Nat) (a0_0 : Int) (a0_1 : Int) (A0_2 : Option Addr) (c0_2 : Nat) (l0_2 : List (S78)) (A0_3 : Option Addr) (c0_3 : Nat) (l0_3 : List ByteArray) (a0_4 : Int) (a0_5 : Int) (a1_0 : Int) (a1_1 : Int) (A1_2 : Option Addr) (c1_2 : Nat) (l1_2 : List (S78)) (A1_3 : Option Addr) (c1_3 : Nat) (l1_3 : List ByteArray) (a1_4 : Int) (a1_5 : Int) (r : Bool) (w : World) (hr0_2 : Kd.C k78 w A0_2 l0_2.length l0_2) (hc0_2 : l0_2.length ≤ c0_2) (hr0_3 : Kd.C Kd.string w A0_3 l0_3.length l0_3) (hc0_3 : l0_3.length ≤ c0_3) (hr1_2 : Kd.C k78 w A1_2 l1_2.length l1_2) (hc1_2 : l1_2.length ≤ c1_2) (hr1_3 : Kd.C Kd.string w A1_3 l1_3.length l1_3) (hc1_3 : l1_3.length ≤ c1_3) (h : zaI.f k a0_0 a0_1 l0_2 l0_3 a0_4 a0_5 a1_0 a1_1 l1_2 l1_3 a1_4 a1_5 = some r) :
  Calls Try.prog 25 #[.agg #[.int .i64 a0_0,.int .i64 a0_1,.slice A0_2 l0_2.length c0_2,.slice A0_3 l0_3.length c0_3,.int .i64 a0_4,.int .i64 a0_5],.agg #[.int .i64 a1_0,.int .i64 a1_1,.slice A1_2 l1_2.length c1_2,.slice A1_3 l1_3.length c1_3,.int .i64 a1_4,.int .i64 a1_5]] w fun e w' => e = .returned (.bool r) ∧ Below w.heap.size w w' := by
 have hu32 := Try.underlying32
 have hu30 := Try.underlying30
 have HR0_2 := za.mk hr0_2
 have HC0_2 := za.mk hc0_2
 clear hr0_2 hc0_2
 have HR0_3 := za.mk hr0_3
 have HC0_3 := za.mk hc0_3
 clear hr0_3 hc0_3
 have HR1_2 := za.mk hr1_2
 have HC1_2 := za.mk hc1_2
 clear hr1_2 hc1_2
 have HR1_3 := za.mk hr1_3
 have HC1_3 := za.mk hc1_3
 clear hr1_3 hc1_3
 have HB := za.mk (Below.refl w.heap.size w)
 have H : ((zH.f k l0_3 l1_3).bind fun t244 => ((zy.f k l0_2 l1_2).bind fun t245 => (if t244 = true then (if t245 = true then (if a0_0 = a1_0 then (if a0_1 = a1_1 then (some (a0_4 == a1_4 && (a0_5 == a1_5))) else (some false)) else (some false)) else (some false)) else (some false)))) = some r := h
 clear h
 replace H := Option.bind_eq_some_iff.mp H
 obtain ⟨t244,A30,H⟩ := H
 replace H : ((zy.f k l0_2 l1_2).bind fun t245 => (if t244 = true then (if t245 = true then (if a0_0 = a1_0 then (if a0_1 = a1_1 then (some (a0_4 == a1_4 && (a0_5 == a1_5))) else (some false)) else (some false)) else (some false)) else (some false))) = some r := H
 have A3 := za.mk A30
 clear A30
 replace H := Option.bind_eq_some_iff.mp H
 obtain ⟨t245,A40,H⟩ := H
 replace H : (if t244 = true then (if t245 = true then (if a0_0 = a1_0 then (if a0_1 = a1_1 then (some (a0_4 == a1_4 && (a0_5 == a1_5))) else (some false)) else (some false)) else (some false)) else (some false)) = some r := H
 have A4 := za.mk A40
 clear A40
 by_cases c5 : t244 = true
 focus
  subst c5
  have H1 : (if t245 = true then (if a0_0 = a1_0 then (if a0_1 = a1_1 then (some (a0_4 == a1_4 && (a0_5 == a1_5))) else (some false)) else (some false)) else (some false)) = some r := by rw [if_pos rfl] at H;exact H
  clear H
  have H := H1
  clear H1
  by_cases c6 : t245 = true
  focus
   subst c6
   have H1 : (if a0_0 = a1_0 then (if a0_1 = a1_1 then (some (a0_4 == a1_4 && (a0_5 == a1_5))) else (some false)) else (some false)) = some r := by rw [if_pos rfl] at H;exact H
   clear H
   have H := H1
   clear H1
   by_cases c7 : a0_0 = a1_0
   focus
    rw [if_pos c7] at H
    have c7b0 : (a0_0 == a1_0) = true := beq_iff_eq.mpr c7
    have c7b1 : (a0_0 != a1_0) = false := bne_eq_false_iff_eq.mpr c7
    clear c7
    by_cases c8 : a0_1 = a1_1
    focus
     rw [if_pos c8] at H
     have c8b0 : (a0_1 == a1_1) = true := beq_iff_eq.mpr c8
     have c8b1 : (a0_1 != a1_1) = false := bne_eq_false_iff_eq.mpr c8
     clear c8
     obtain rfl := Option.some.inj H
     have EQ0 := True.intro
     have EQ1 := True.intro
    rotate_left
    focus
     rw [if_neg c8] at H
     have c8b0 : (a0_1 == a1_1) = false := beq_eq_false_iff_ne.mpr c8
     have c8b1 : (a0_1 != a1_1) = true := bne_iff_ne.mpr c8
     obtain rfl := Option.some.inj H
     have EQ0 := True.intro
     have EQ1 := True.intro
   rotate_left 2
   focus
    rw [if_neg c7] at H
    have c7b0 : (a0_0 == a1_0) = false := beq_eq_false_iff_ne.mpr c7
    have c7b1 : (a0_0 != a1_0) = true := bne_iff_ne.mpr c7
    obtain rfl := Option.some.inj H
    have EQ0 := True.intro
    have EQ1 := True.intro
  rotate_left 3
  focus
   replace c6 := Bool.eq_false_iff.mpr c6
   subst c6
   have H1 : (some false) = some r := by rw [if_neg (show ¬ (false = true) by decide)] at H;exact H
   clear H
   have H := H1
   clear H1
   obtain rfl := Option.some.inj H
   have EQ0 := True.intro
   have EQ2 := True.intro
 rotate_left 4
 focus
  replace c5 := Bool.eq_false_iff.mpr c5
  subst c5
  have H1 : (some false) = some r := by rw [if_neg (show ¬ (false = true) by decide)] at H;exact H
  clear H
  have H := H1
  clear H1
  obtain rfl := Option.some.inj H
  have EQ3 := True.intro
 all_goals
  go_enter Try.func25,Try.ntmps25
  go_wp2_with (first | ((with_reducible refine zp (N := 2) rfl ?_);refine zn rfl (N := 2) rfl (cs := #[.int .i64 a0_0,.int .i64 a0_1,.slice A0_2 l0_2.length c0_2,.slice A0_3 l0_3.length c0_3,.int .i64 a0_4,.int .i64 a0_5]) (t := 32) hrq ?_;intro gb242 hg wQN22 hbox hb;have n_ := haq (zh hBq hb) <| haq (hbox) <| haq ((by rw [hg];exact (zj hBq) : w.heap.size ≤ gb242)) <| haq ((by rw [hg];exact (zj hBq) : w.heap.size ≤ gb242)) <| trivial;clear HB;obtain ⟨HB,BK242,GW242,GE242,_⟩ := n_;clear hb hbox hg) | ((with_reducible refine zp (N := 3) rfl ?_);refine zn rfl (N := 3) rfl (cs := #[.int .i64 a1_0,.int .i64 a1_1,.slice A1_2 l1_2.length c1_2,.slice A1_3 l1_3.length c1_3,.int .i64 a1_4,.int .i64 a1_5]) (t := 32) hrq ?_;intro gb243 hg wQN32 hbox hb;have n_ := haq (hbq BK242.out hb) <| haq (zh hCq hb) <| haq (hbox) <| haq ((by rw [hg];exact (zj hCq) : w.heap.size ≤ gb243)) <| haq ((by rw [hg];exact (zj hCq) : w.heap.size ≤ gb243)) <| haq (hnq hg BK242.out) <| haq (hmq hg BK242.out) <| trivial;clear BK242 HB;obtain ⟨BK242,HB,BK243,GW243,GE243,NBQN37,NBQN38,_⟩ := n_;clear hb hbox hg;have hnbQN39 := NBQN37.out;have hncQN310 := NBQN38.out;obtain ⟨hczQN311,hczQN312,hczQN313,hczQN314,hczQN315,hczQN316,hfzQN317,hfzQN318,hfzQN319,hfzQN320,hfzQN321,hfzQN322⟩ := hcq6 BK242.out;obtain ⟨hczQN323,hczQN324,hczQN325,hczQN326,hczQN327,hczQN328,hfzQN329,hfzQN330,hfzQN331,hfzQN332,hfzQN333,hfzQN334⟩ := hcq6 BK243.out) | (have _ := EQ0;((with_reducible refine zN (f := 43) rfl ?_);refine zaG (some 11) rfl rfl Try.func43 (by kernel_rfl) rfl #[.slice A0_3 l0_3.length c0_3,.slice A1_3 l1_3.length c1_3] rfl hMq ?_;(with_reducible refine (zH.calls k _ _ l0_3 _ _ l1_3 true _ ?side1 ?side2 ?side3 ?side4 A3.out).mono ?_);(case side1 => exact hKq (Kd.C_below HR0_3.out HB.out));(case side2 => exact HC0_3.out);(case side3 => exact hKq (Kd.C_below HR1_3.out HB.out));(case side4 => exact HC1_3.out);rintro e w' ⟨rfl,⟨nd,rfl⟩⟩;refine ⟨_,rfl,?_⟩)) | (have _ := EQ1;((with_reducible refine zN (f := 44) rfl ?_);refine zaG (some 16) rfl rfl Try.func44 (by kernel_rfl) rfl #[.slice A0_2 l0_2.length c0_2,.slice A1_2 l1_2.length c1_2] rfl hMq ?_;(with_reducible refine (zy.calls k _ _ l0_2 _ _ l1_2 true _ ?side1 ?side2 ?side3 ?side4 A4.out).mono ?_);(case side1 => repeat (first | exact (Kd.C_below HR0_2.out hCq) | (with_reducible refine Kd.C_alloc ?_ _) | (with_reducible refine Kd.C_drewN ?_ _) | (with_reducible refine Kd.C_drew ?_)));(case side2 => exact HC0_2.out);(case side3 => repeat (first | exact (Kd.C_below HR1_2.out hCq) | (with_reducible refine Kd.C_alloc ?_ _) | (with_reducible refine Kd.C_drewN ?_ _) | (with_reducible refine Kd.C_drew ?_)));(case side4 => exact HC1_2.out);rintro e wQF44A41 ⟨rfl,hb⟩;refine ⟨_,rfl,?_⟩;have n_ := haq (hbq BK242.out hb) <| haq (hbq BK243.out hb) <| haq (zh hCq hb) <| trivial;clear BK242 BK243 HB;obtain ⟨BK242,BK243,HB,_⟩ := n_;(try clear hb);(try clear hb2);(try clear hk);(try clear hi);obtain ⟨hczQF44A44,hczQF44A45,hczQF44A46,hczQF44A47,hczQF44A48,hczQF44A49,hfzQF44A410,hfzQF44A411,hfzQF44A412,hfzQF44A413,hfzQF44A414,hfzQF44A415⟩ := hcq6 BK242.out;obtain ⟨hczQF44A416,hczQF44A417,hczQF44A418,hczQF44A419,hczQF44A420,hczQF44A421,hfzQF44A422,hfzQF44A423,hfzQF44A424,hfzQF44A425,hfzQF44A426,hfzQF44A427⟩ := hcq6 BK243.out)) | (have _ := EQ2;((with_reducible refine zN (f := 44) rfl ?_);refine zaG (some 16) rfl rfl Try.func44 (by kernel_rfl) rfl #[.slice A0_2 l0_2.length c0_2,.slice A1_2 l1_2.length c1_2] rfl hMq ?_;(with_reducible refine (zy.calls k _ _ l0_2 _ _ l1_2 false _ ?side1 ?side2 ?side3 ?side4 A4.out).mono ?_);(case side1 => repeat (first | exact (Kd.C_below HR0_2.out hCq) | (with_reducible refine Kd.C_alloc ?_ _) | (with_reducible refine Kd.C_drewN ?_ _) | (with_reducible refine Kd.C_drew ?_)));(case side2 => exact HC0_2.out);(case side3 => repeat (first | exact (Kd.C_below HR1_2.out hCq) | (with_reducible refine Kd.C_alloc ?_ _) | (with_reducible refine Kd.C_drewN ?_ _) | (with_reducible refine Kd.C_drew ?_)));(case side4 => exact HC1_2.out);rintro e wQF44A41 ⟨rfl,hb⟩;refine ⟨_,rfl,?_⟩;have n_ := haq (hbq BK242.out hb) <| haq (hbq BK243.out hb) <| haq (zh hCq hb) <| trivial;clear BK242 BK243 HB;obtain ⟨BK242,BK243,HB,_⟩ := n_;(try clear hb);(try clear hb2);(try clear hk);(try clear hi))) | (have _ := EQ3;((with_reducible refine zN (f := 43) rfl ?_);refine zaG (some 11) rfl rfl Try.func43 (by kernel_rfl) rfl #[.slice A0_3 l0_3.length c0_3,.slice A1_3 l1_3.length c1_3] rfl hMq ?_;(with_reducible refine (zH.calls k _ _ l0_3 _ _ l1_3 false _ ?side1 ?side2 ?side3 ?side4 A3.out).mono ?_);(case side1 => exact hKq (Kd.C_below HR0_3.out HB.out));(case side2 => exact HC0_3.out);(case side3 => exact hKq (Kd.C_below HR1_3.out HB.out));(case side4 => exact HC1_3.out);rintro e w' ⟨rfl,⟨nd,rfl⟩⟩;refine ⟨_,rfl,?_⟩)) | (have _ := EQ3;((with_reducible refine zN (f := 44) rfl ?_);refine zaG (some 16) rfl rfl Try.func44 (by kernel_rfl) rfl #[.slice A0_2 l0_2.length c0_2,.slice A1_2 l1_2.length c1_2] rfl hMq ?_;(with_reducible refine (zy.calls k _ _ l0_2 _ _ l1_2 t245 _ ?side1 ?side2 ?side3 ?side4 A4.out).mono ?_);(case side1 => repeat (first | exact (Kd.C_below HR0_2.out hCq) | (with_reducible refine Kd.C_alloc ?_ _) | (with_reducible refine Kd.C_drewN ?_ _) | (with_reducible refine Kd.C_drew ?_)));(case side2 => exact HC0_2.out);(case side3 => repeat (first | exact (Kd.C_below HR1_2.out hCq) | (with_reducible refine Kd.C_alloc ?_ _) | (with_reducible refine Kd.C_drewN ?_ _) | (with_reducible refine Kd.C_drew ?_)));(case side4 => exact HC1_2.out);rintro e wQF44A41 ⟨rfl,hb⟩;refine ⟨_,rfl,?_⟩;have n_ := haq (hbq BK242.out hb) <| haq (hbq BK243.out hb) <| haq (zh hCq hb) <| trivial;clear BK242 BK243 HB;obtain ⟨BK242,BK243,HB,_⟩ := n_;(try clear hb);(try clear hb2);(try clear hk);(try clear hi))))
  go_ret
  exact ⟨hHq,hCq⟩
end Go.Proofs.Ytndjfdakflaggaa.Px