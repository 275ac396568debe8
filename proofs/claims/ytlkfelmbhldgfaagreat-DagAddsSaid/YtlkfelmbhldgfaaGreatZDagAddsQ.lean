/- Part 17 of 36 of the proof of the law DagAdds: what is proved is the statement at the end of the last part; its conditions are those of the given row. -/
import Derived.Test.YtlkfelmbhldgfaaGreatZDagAddsF
import Derived.Test.YtlkfelmbhldgfaaGreatZDagAddsP
namespace Go.Proofs.YtlkfelmbhldgfaaGreat.Px
open Go.RowKit Go.Proofs.YtlkfelmbhldgfaaGreatW.PrintWords Go.Proofs.YtlkfelmbhldgfaaGreatW.PrintLast Go.Proofs.YtlkfelmbhldgfaaGreatW.PrintMore
attribute [local go_sem] zA zC zH zI zv zw zB zD
set_option linter.unusedVariables false
set_option linter.unusedSimpArgs false
def za5.f (a0_0 : Int) (a0_1 : Int) (l0_2 : List (S67)) (l0_3 : List ByteArray) (a0_4 : Int) (a0_5 : Int) (a1 : Int) : Option (ByteArray × Int) := (zay.f a0_0 a0_1 l0_2 l0_3 a0_4 a0_5 a1).bind fun bt132 => (if bt132.2 = 0 then (if 1 + bt132.1.size ≤ 9223372036854775807 then ((zcy.f ((⟨#[118]⟩ : ByteArray) ++ bt132.1)).bind fun t134 => (some (t134,0))) else (none)) else (some ((⟨#[]⟩ : ByteArray),bt132.2)))
set_option maxHeartbeats 8000000 in
set_option maxRecDepth 100000 in
theorem za5.calls (a0_0 : Int) (a0_1 : Int) (A0_2 : Option Addr) (c0_2 : Nat) (l0_2 : List (S67)) (A0_3 : Option Addr) (c0_3 : Nat) (l0_3 : List ByteArray) (a0_4 : Int) (a0_5 : Int) (a1 : Int) (r1 : ByteArray) (r2 : Int) (w : World) (hr0_2 : Kd.C k67 w A0_2 l0_2.length l0_2) (hc0_2 : l0_2.length ≤ c0_2) (hr0_3 : Kd.C Kd.string w A0_3 l0_3.length l0_3) (hc0_3 : l0_3.length ≤ c0_3) (h : za5.f a0_0 a0_1 l0_2 l0_3 a0_4 a0_5 a1 = some (r1,r2)) :
  Calls Tryz.prog 12 #[.agg #[.int .i64 a0_0,.int .i64 a0_1,.slice A0_2 l0_2.length c0_2,.slice A0_3 l0_3.length c0_3,.int .i64 a0_4,.int .i64 a0_5],.int .i64 a1] w fun e w' => e = .returned (.tuple #[.string r1,.int .i64 r2]) ∧ Below w.heap.size w w' := by
 have hu30 := Tryz.underlying30
 have HR0_2 := za.mk hr0_2
 have HC0_2 := za.mk hc0_2
 clear hr0_2 hc0_2
 have HR0_3 := za.mk hr0_3
 have HC0_3 := za.mk hc0_3
 clear hr0_3 hc0_3
 have HB := za.mk (Below.refl w.heap.size w)
 have H : ((zay.f a0_0 a0_1 l0_2 l0_3 a0_4 a0_5 a1).bind fun bt132 => (if bt132.2 = 0 then (if 1 + bt132.1.size ≤ 9223372036854775807 then ((zcy.f ((⟨#[118]⟩ : ByteArray) ++ bt132.1)).bind fun t134 => (some (t134,0))) else (none)) else (some ((⟨#[]⟩ : ByteArray),bt132.2)))) = some (r1,r2) := h
 clear h
 replace H := Option.bind_eq_some_iff.mp H
 obtain ⟨⟨t132,t133⟩,A30,H⟩ := H
 replace H : (if t133 = 0 then (if 1 + t132.size ≤ 9223372036854775807 then ((zcy.f ((⟨#[118]⟩ : ByteArray) ++ t132)).bind fun t134 => (some (t134,0))) else (none)) else (some ((⟨#[]⟩ : ByteArray),t133))) = some (r1,r2) := H
 have A3 := za.mk A30
 clear A30
 by_cases c4 : t133 = 0
 ·rw [if_pos c4] at H
  have c4b0 : (t133 == 0) = true := beq_iff_eq.mpr c4
  have c4b1 : (t133 != 0) = false := bne_eq_false_iff_eq.mpr c4
  clear c4
  by_cases c5 : 1 + t132.size ≤ 9223372036854775807
  ·rw [if_pos c5] at H
   have c5b0 := eq_true c5
   have c5b1 : decide (1 + t132.size ≤ 9223372036854775807) = true := decide_eq_true c5
   try have c5b2 : (9223372036854775807 < 1 + t132.size) = False := eq_false (Nat.not_lt.2 c5)
   replace H := Option.bind_eq_some_iff.mp H
   obtain ⟨t134,A60,H⟩ := H
   replace H : (some (t134,0)) = some (r1,r2) := H
   have A6 := za.mk A60
   clear A60
   simp only [Option.some.injEq,Prod.mk.injEq] at H
   obtain ⟨rfl,rfl⟩ := H
   go_enter Tryz.func12,Tryz.ntmps12
   go_wp2_with (first | ((with_reducible refine zn (N := 2) rfl ?_);refine zl rfl (N := 2) rfl (cs := #[.int .i64 a0_0,.int .i64 a0_1,.slice A0_2 l0_2.length c0_2,.slice A0_3 l0_3.length c0_3,.int .i64 a0_4,.int .i64 a0_5]) (t := 30) hrq ?_;intro gb131 hg w7 hbox hb;have n_ := haq (ze hBq hb) <| haq (hbox) <| haq ((by rw [hg];exact (zg hBq) : w.heap.size ≤ gb131)) <| haq ((by rw [hg];exact (zg hBq) : w.heap.size ≤ gb131)) <| trivial;clear HB;obtain ⟨HB,BK131,GW131,GE131,_⟩ := n_;clear hb hbox hg;obtain ⟨hcz8_0,hcz8_1,hcz8_2,hcz8_3,hcz8_4,hcz8_5,hfz8_0,hfz8_1,hfz8_2,hfz8_3,hfz8_4,hfz8_5⟩ := hcq6 BK131.out) | ((with_reducible refine zL (f := 30) rfl ?_);refine zaq (some 11) rfl rfl Tryz.func30 (by kernel_rfl) rfl #[.agg #[.int .i64 a0_0,.int .i64 a0_1,.slice A0_2 l0_2.length c0_2,.slice A0_3 l0_3.length c0_3,.int .i64 a0_4,.int .i64 a0_5],.int .i64 a1] rfl hMq ?_;(with_reducible refine (zay.calls a0_0 a0_1 _ _ l0_2 _ _ l0_3 a0_4 a0_5 a1 t132 t133 _ ?side1 ?side2 ?side3 ?side4 A3.out).mono ?_);(case side1 => exact hKq (Kd.C_below HR0_2.out HB.out));(case side2 => exact HC0_2.out);(case side3 => exact hKq (Kd.C_below HR0_3.out HB.out));(case side4 => exact HC0_3.out);rintro e w9 ⟨rfl,hb⟩;refine ⟨_,rfl,?_⟩;have n_ := haq (hbq BK131.out hb) <| haq (ze hCq hb) <| trivial;clear BK131 HB;obtain ⟨BK131,HB,_⟩ := n_;(try clear hb);(try clear hb2);(try clear hk);(try clear hi)) | ((with_reducible refine zL (f := 31) rfl ?_);refine zaq (some 19) rfl rfl Tryz.func31 (by kernel_rfl) rfl #[.string ((⟨#[118]⟩ : ByteArray) ++ t132)] rfl hMq ?_;(with_reducible refine (zcy.calls ((⟨#[118]⟩ : ByteArray) ++ t132) t134 _ A6.out).mono ?_);rintro e w10 ⟨rfl,hb⟩;refine ⟨_,rfl,?_⟩;have n_ := haq (hbq BK131.out hb) <| haq (ze hCq hb) <| trivial;clear BK131 HB;obtain ⟨BK131,HB,_⟩ := n_;(try clear hb);(try clear hb2);(try clear hk);(try clear hi)))
   go_ret2
   exact ⟨hHq,hCq⟩
  ·rw [if_neg c5] at H
   exact absurd H (by simp)
 ·rw [if_neg c4] at H
  have c4b0 : (t133 == 0) = false := beq_eq_false_iff_ne.mpr c4
  have c4b1 : (t133 != 0) = true := bne_iff_ne.mpr c4
  simp only [Option.some.injEq,Prod.mk.injEq] at H
  obtain ⟨rfl,rfl⟩ := H
  go_enter Tryz.func12,Tryz.ntmps12
  go_wp2_with (first | ((with_reducible refine zn (N := 2) rfl ?_);refine zl rfl (N := 2) rfl (cs := #[.int .i64 a0_0,.int .i64 a0_1,.slice A0_2 l0_2.length c0_2,.slice A0_3 l0_3.length c0_3,.int .i64 a0_4,.int .i64 a0_5]) (t := 30) hrq ?_;intro gb131 hg w11 hbox hb;have n_ := haq (ze hBq hb) <| haq (hbox) <| haq ((by rw [hg];exact (zg hBq) : w.heap.size ≤ gb131)) <| haq ((by rw [hg];exact (zg hBq) : w.heap.size ≤ gb131)) <| trivial;clear HB;obtain ⟨HB,BK131,GW131,GE131,_⟩ := n_;clear hb hbox hg;obtain ⟨hcz12_0,hcz12_1,hcz12_2,hcz12_3,hcz12_4,hcz12_5,hfz12_0,hfz12_1,hfz12_2,hfz12_3,hfz12_4,hfz12_5⟩ := hcq6 BK131.out) | ((with_reducible refine zL (f := 30) rfl ?_);refine zaq (some 11) rfl rfl Tryz.func30 (by kernel_rfl) rfl #[.agg #[.int .i64 a0_0,.int .i64 a0_1,.slice A0_2 l0_2.length c0_2,.slice A0_3 l0_3.length c0_3,.int .i64 a0_4,.int .i64 a0_5],.int .i64 a1] rfl hMq ?_;(with_reducible refine (zay.calls a0_0 a0_1 _ _ l0_2 _ _ l0_3 a0_4 a0_5 a1 t132 t133 _ ?side1 ?side2 ?side3 ?side4 A3.out).mono ?_);(case side1 => exact hKq (Kd.C_below HR0_2.out HB.out));(case side2 => exact HC0_2.out);(case side3 => exact hKq (Kd.C_below HR0_3.out HB.out));(case side4 => exact HC0_3.out);rintro e w13 ⟨rfl,hb⟩;refine ⟨_,rfl,?_⟩;have n_ := haq (hbq BK131.out hb) <| haq (ze hCq hb) <| trivial;clear BK131 HB;obtain ⟨BK131,HB,_⟩ := n_;(try clear hb);(try clear hb2);(try clear hk);(try clear hi)))
  go_ret2
  exact ⟨hHq,hCq⟩
def zy.l0 : Nat → List (S67) → List (S67) → Int → Option (Bool)
 | 0,_,_,_ => none
 | k + 1,x0,x1,x5 => if x5 < (x0.length : Int) then (if 0 ≤ x5 then (if x5 < (x1.length : Int) then ((zbf.f k ((zN x0 x5).f0) ((zN x0 x5).f1) ((zN x0 x5).f2) ((zN x1 x5).f0) ((zN x1 x5).f1) ((zN x1 x5).f2)).bind fun t239 => (if t239 = true then (zy.l0 k x0 x1 (wrap64 (x5 + 1))) else (some false))) else (none)) else (none)) else (some true)
def zy.f (k : Nat) (l0 : List (S67)) (l1 : List (S67)) : Option (Bool) := if (l0.length : Int) = (l1.length : Int) then (zy.l0 k l0 l1 0) else (some false)
def zy.T6 : Bool × List (List Nat × List Nat) := (true,[([],[]),([],[]),([0,1],[0,1]),([2],[2]),([],[]),([],[]),([4,5],[4,5]),([6],[6]),([3,7],[3,7]),([8,8,0,1,2,3,4,5,6,7,8],[8])])
def zy.B6 : List Nat := [0,0,3,7,0,0,48,112,255,511]
theorem zy.tab6 : zbX .any (zdG Tryz.f63 6) = zy.T6 := by kernel_rfl
theorem zy.bits6 : zbF zy.T6.2 zy.B6 = true := by kernel_rfl
set_option maxHeartbeats 8000000 in
set_option maxRecDepth 100000 in
theorem zy.calls (k : Nat) (A0 : Option Addr) (c0 : Nat) (l0 : List (S67)) (A1 : Option Addr) (c1 : Nat) (l1 : List (S67)) (r : Bool) (w : World) (hr0 : Kd.C k67 w A0 l0.length l0) (hc0 : l0.length ≤ c0) (hr1 : Kd.C k67 w A1 l1.length l1) (hc1 : l1.length ≤ c1) (h : zy.f k l0 l1 = some r) :
  Calls Tryz.prog 63 #[.slice A0 l0.length c0,.slice A1 l1.length c1] w fun e w' => e = .returned (.bool r) ∧ Below w.heap.size w w' := by
 have hu67 := Tryz.underlying67
 have HR0 := za.mk hr0
 have HC0 := za.mk hc0
 clear hr0 hc0
 have HR1 := za.mk hr1
 have HC1 := za.mk hc1
 clear hr1 hc1
 have HB := za.mk (Below.refl w.heap.size w)
 have H : (if (l0.length : Int) = (l1.length : Int) then (zy.l0 k l0 l1 0) else (some false)) = some r := h
 clear h
 by_cases c3 : (l0.length : Int) = (l1.length : Int)
 ·rw [if_pos c3] at H
  have c3b0 : ((l0.length : Int) == (l1.length : Int)) = true := beq_iff_eq.mpr c3
  have c3b1 : ((l0.length : Int) != (l1.length : Int)) = false := bne_eq_false_iff_eq.mpr c3
  have c3b2 : (l0.length == l1.length) = true := by first | simpa using c3 | (simp at c3 ⊢;omega)
  clear c3
  have H' := za.mk H
  clear H
  go_enter Tryz.func63,Tryz.ntmps63
  go_wp2
  go_loopg [5] k (fun kq v5 w' => ∃ (x5_1 : Int),v5 = .int .i64 x5_1 ∧ za (zy.l0 kq l0 l1 x5_1 = some r) ∧ za (kq ≤ k) ∧ za (Below w.heap.size w w'))
  case atStart => exact ⟨(0),(hDq),H',⟨Nat.le_refl _⟩,⟨by repeat (first | (with_reducible first | exact HB.out | apply zk | apply zi | apply zo) | exact HB.out)⟩⟩
  case round =>
   clear H'
   try clear c1;try clear p2;try clear c3;try clear c3b0;try clear c3b1;try clear c3b2
   obtain ⟨x5_1,rfl,HA,HK1,HB⟩ := hrel
   cases gk with
   | zero => exact absurd HA.out (by simp [zy.l0])
   | succ k1 =>
    have H := HA.out
    clear HA
    simp only [zy.l0] at H
    by_cases c4 : x5_1 < (l0.length : Int)
    ·rw [if_pos c4] at H
     have c4b0 : decide (x5_1 < (l0.length : Int)) = true := decide_eq_true c4
     clear c4
     by_cases c5 : 0 ≤ x5_1
     ·rw [if_pos c5] at H
      have c5b0 : decide (0 ≤ x5_1) = true := decide_eq_true c5
      clear c5
      by_cases c6 : x5_1 < (l1.length : Int)
      ·rw [if_pos c6] at H
       have c6b0 : decide (x5_1 < (l1.length : Int)) = true := decide_eq_true c6
       clear c6
       replace H := Option.bind_eq_some_iff.mp H
       obtain ⟨t239,A70,H⟩ := H
       replace H : (if t239 = true then (zy.l0 k1 l0 l1 (wrap64 (x5_1 + 1))) else (some false)) = some r := H
       have A7 := za.mk A70
       clear A70
       by_cases c8 : t239 = true
       ·subst c8
        have H1 : (zy.l0 k1 l0 l1 (wrap64 (x5_1 + 1))) = some r := by rw [if_pos rfl] at H;exact H
        clear H
        have H := H1
        clear H1
        have H' := za.mk H
        clear H
        try go_wp2
        have n0_ := za.mk (zo HB.out)
        clear HB
        have HB := n0_
        clear n0_
        have p237 : 0 ≤ (x5_1 : Int) := hFq
        have q237 : x5_1 < (l0.length : Int) := hFq
        obtain ⟨ad237,A237_2,c237_2,e237,hx237_0,hx237_1,hx237_2,hl237_2,hi237_2⟩ := zbZ HR0.out x5_1 p237 q237
        have hw237_2 := hx237_2
        have hw237_1 := hx237_1
        have hw237_0 := hx237_0
        cases e237
        replace hx237_0 := (HB.out.cell (World.block_lt_of_cell? w _ hx237_0)).trans hx237_0
        replace hx237_1 := (HB.out.cell (World.block_lt_of_cell? w _ hx237_1)).trans hx237_1
        replace hx237_2 := (HB.out.cell (World.block_lt_of_cell? w _ hx237_2)).trans hx237_2
        have HR237_2 := za.mk hi237_2
        have HC237_2 := za.mk hl237_2
        clear hi237_2 hl237_2
        replace p237 := eq_true p237
        replace q237 := eq_true q237
        have p238 : 0 ≤ (x5_1 : Int) := hFq
        have q238 : x5_1 < (l1.length : Int) := hFq
        obtain ⟨ad238,A238_2,c238_2,e238,hx238_0,hx238_1,hx238_2,hl238_2,hi238_2⟩ := zbZ HR1.out x5_1 p238 q238
        have hw238_2 := hx238_2
        have hw238_1 := hx238_1
        have hw238_0 := hx238_0
        cases e238
        replace hx238_0 := (HB.out.cell (World.block_lt_of_cell? w _ hx238_0)).trans hx238_0
        replace hx238_1 := (HB.out.cell (World.block_lt_of_cell? w _ hx238_1)).trans hx238_1
        replace hx238_2 := (HB.out.cell (World.block_lt_of_cell? w _ hx238_2)).trans hx238_2
        have HR238_2 := za.mk hi238_2
        have HC238_2 := za.mk hl238_2
        clear hi238_2 hl238_2
        replace p238 := eq_true p238
        replace q238 := eq_true q238
        refine zbH (n := 10) (S := fun w' => w'.cell? (ad237.add ((x5_1).toNat * 3)) = some (.int .i64 ((zN l0 x5_1).f0)) ∧ w'.cell? ⟨(ad237.add ((x5_1).toNat * 3)).block,(ad237.add ((x5_1).toNat * 3)).off + 1,none⟩ = some (.int .i64 ((zN l0 x5_1).f1)) ∧ w'.cell? ⟨(ad237.add ((x5_1).toNat * 3)).block,(ad237.add ((x5_1).toNat * 3)).off + 2,none⟩ = some (.slice A237_2 ((zN l0 x5_1).f2).length c237_2) ∧ w'.cell? (ad238.add ((x5_1).toNat * 3)) = some (.int .i64 ((zN l1 x5_1).f0)) ∧ w'.cell? ⟨(ad238.add ((x5_1).toNat * 3)).block,(ad238.add ((x5_1).toNat * 3)).off + 1,none⟩ = some (.int .i64 ((zN l1 x5_1).f1)) ∧ w'.cell? ⟨(ad238.add ((x5_1).toNat * 3)).block,(ad238.add ((x5_1).toNat * 3)).off + 2,none⟩ = some (.slice A238_2 ((zN l1 x5_1).f2).length c238_2)) (ds := []) (uQ 10 0) (by kernel_rfl) rfl rfl ⟨((HB.out.cell (World.block_lt_of_cell? w _ hw237_0)).trans hw237_0),((HB.out.cell (World.block_lt_of_cell? w _ hw237_1)).trans hw237_1),((HB.out.cell (World.block_lt_of_cell? w _ hw237_2)).trans hw237_2),((HB.out.cell (World.block_lt_of_cell? w _ hw238_0)).trans hw238_0),((HB.out.cell (World.block_lt_of_cell? w _ hw238_1)).trans hw238_1),((HB.out.cell (World.block_lt_of_cell? w _ hw238_2)).trans hw238_2)⟩ (fun hHeld => ?_);refine zaO zy.tab6 zy.bits6 (fun HT_ HW_ => ?_)
        generalize wr.drew = w9 at HB HR237_2 HR238_2 hx237_0 hx237_1 hx237_2 hx238_0 hx238_1 hx238_2 hHeld ⊢
        refine puq (i := 0) (N := some 18) HT_.out (uQ 10 1) ?_
        refine puq (i := 1) (N := some 19) HT_.out (uQ 10 2) ?_
        refine puq (i := 2) (N := some 20) HT_.out (uQ 10 3) ?_
        refine puq (i := 4) (N := some 22) HT_.out #[true,true,true,false,true,false,false,false,false,false] ?_
        refine puq (i := 5) (N := some 23) HT_.out #[true,true,true,false,true,true,false,false,false,false] ?_
        refine puq (i := 6) (N := some 24) HT_.out #[true,true,true,false,true,true,true,false,false,false] ?_
        refine take_ (i := 3) (N := some 21) (uQ 10 7) rfl rfl (zY HT_.out HW_.out (by kernel_rfl)) (fun _ _ _ h => h) (Or.inl ⟨by rfl,by rintro w' ⟨s0,s1,s2,s3,s4,s5⟩;go_simp;with_reducible rfl⟩) hHeld hPq ?_
        refine take_ (i := 7) (N := some 25) (uQ 10 8) rfl rfl (zY HT_.out HW_.out (by kernel_rfl)) (fun _ _ _ h => h) (Or.inl ⟨by rfl,by rintro w' ⟨s0,s1,s2,s3,s4,s5⟩;go_simp;with_reducible rfl⟩) hHeld hPq ?_
        refine zb1 (i := 8) (N := some 26) (uQ 10 9) rfl rfl (zaR HT_.out (by kernel_rfl)) (by decide) (fun K hK => ?_)
        refine zbu Tryz.func86 (by kernel_rfl) rfl #[.agg #[.int .i64 ((zN l0 x5_1).f0),.int .i64 ((zN l0 x5_1).f1),.slice A237_2 ((zN l0 x5_1).f2).length c237_2],.agg #[.int .i64 ((zN l1 x5_1).f0),.int .i64 ((zN l1 x5_1).f1),.slice A238_2 ((zN l1 x5_1).f2).length c238_2]] (by rfl) rfl rfl hMq ?_
        with_reducible refine (zbf.calls k1 ((zN l0 x5_1).f0) ((zN l0 x5_1).f1) _ _ ((zN l0 x5_1).f2) ((zN l1 x5_1).f0) ((zN l1 x5_1).f1) _ _ ((zN l1 x5_1).f2) true _ ?side1 ?side2 ?side3 ?side4 A7.out).mono ?_
        (case side1 => exact hKq (Kd.C_below HR237_2.out HB.out))
        (case side2 => exact HC237_2.out)
        (case side3 => exact hKq (Kd.C_below HR238_2.out HB.out))
        (case side4 => exact HC238_2.out)
        rintro e w10 ⟨rfl,hb⟩
        refine ⟨_,rfl,?_⟩
        have n0_ := za.mk (ze hBq hb)
        clear HB
        have HB := n0_
        clear n0_
        (try clear hb)
        (try clear hb2)
        (try clear hk)
        (try clear hi)
        refine hK.out _ _ ⟨((HB.out.cell (World.block_lt_of_cell? w _ hw237_0)).trans hw237_0),((HB.out.cell (World.block_lt_of_cell? w _ hw237_1)).trans hw237_1),((HB.out.cell (World.block_lt_of_cell? w _ hw237_2)).trans hw237_2),((HB.out.cell (World.block_lt_of_cell? w _ hw238_0)).trans hw238_0),((HB.out.cell (World.block_lt_of_cell? w _ hw238_1)).trans hw238_1),((HB.out.cell (World.block_lt_of_cell? w _ hw238_2)).trans hw238_2)⟩ (fun hHeld => ?_)
        clear hK K
        refine zbk (a' := ?_) ?_ ?_
        rotate_left
        ·show Act.put _ (some 26) _ = _
         simp only [Act.put,List.setIfInBounds_toArray,List.set_cons_zero,List.set_cons_succ,zaw,zaB]
         rfl
        refine puq (i := 9) (N := some 6) HT_.out (uQ 10 10) ?_
        refine zbJ (zaU HT_.out (by kernel_rfl)) ?_
        try go_wp2
        go_roundg k1
        case measure => have := HK1.out;omega
        case rel => exact ⟨(wrap64 (x5_1 + 1)),(hDq),H',⟨by have := HK1.out;omega⟩,⟨by repeat (first | (with_reducible first | exact HB.out | apply zk | apply zi | apply zo) | exact HB.out)⟩⟩
       ·replace c8 := Bool.eq_false_iff.mpr c8
        subst c8
        have H1 : (some false) = some r := by rw [if_neg (show ¬ (false = true) by decide)] at H;exact H
        clear H
        have H := H1
        clear H1
        obtain rfl := Option.some.inj H
        try go_wp2
        have n0_ := za.mk (zo HB.out)
        clear HB
        have HB := n0_
        clear n0_
        have p237 : 0 ≤ (x5_1 : Int) := hFq
        have q237 : x5_1 < (l0.length : Int) := hFq
        obtain ⟨ad237,A237_2,c237_2,e237,hx237_0,hx237_1,hx237_2,hl237_2,hi237_2⟩ := zbZ HR0.out x5_1 p237 q237
        have hw237_2 := hx237_2
        have hw237_1 := hx237_1
        have hw237_0 := hx237_0
        cases e237
        replace hx237_0 := (HB.out.cell (World.block_lt_of_cell? w _ hx237_0)).trans hx237_0
        replace hx237_1 := (HB.out.cell (World.block_lt_of_cell? w _ hx237_1)).trans hx237_1
        replace hx237_2 := (HB.out.cell (World.block_lt_of_cell? w _ hx237_2)).trans hx237_2
        have HR237_2 := za.mk hi237_2
        have HC237_2 := za.mk hl237_2
        clear hi237_2 hl237_2
        replace p237 := eq_true p237
        replace q237 := eq_true q237
        have p238 : 0 ≤ (x5_1 : Int) := hFq
        have q238 : x5_1 < (l1.length : Int) := hFq
        obtain ⟨ad238,A238_2,c238_2,e238,hx238_0,hx238_1,hx238_2,hl238_2,hi238_2⟩ := zbZ HR1.out x5_1 p238 q238
        have hw238_2 := hx238_2
        have hw238_1 := hx238_1
        have hw238_0 := hx238_0
        cases e238
        replace hx238_0 := (HB.out.cell (World.block_lt_of_cell? w _ hx238_0)).trans hx238_0
        replace hx238_1 := (HB.out.cell (World.block_lt_of_cell? w _ hx238_1)).trans hx238_1
        replace hx238_2 := (HB.out.cell (World.block_lt_of_cell? w _ hx238_2)).trans hx238_2
        have HR238_2 := za.mk hi238_2
        have HC238_2 := za.mk hl238_2
        clear hi238_2 hl238_2
        replace p238 := eq_true p238
        replace q238 := eq_true q238
        refine zbH (n := 10) (S := fun w' => w'.cell? (ad237.add ((x5_1).toNat * 3)) = some (.int .i64 ((zN l0 x5_1).f0)) ∧ w'.cell? ⟨(ad237.add ((x5_1).toNat * 3)).block,(ad237.add ((x5_1).toNat * 3)).off + 1,none⟩ = some (.int .i64 ((zN l0 x5_1).f1)) ∧ w'.cell? ⟨(ad237.add ((x5_1).toNat * 3)).block,(ad237.add ((x5_1).toNat * 3)).off + 2,none⟩ = some (.slice A237_2 ((zN l0 x5_1).f2).length c237_2) ∧ w'.cell? (ad238.add ((x5_1).toNat * 3)) = some (.int .i64 ((zN l1 x5_1).f0)) ∧ w'.cell? ⟨(ad238.add ((x5_1).toNat * 3)).block,(ad238.add ((x5_1).toNat * 3)).off + 1,none⟩ = some (.int .i64 ((zN l1 x5_1).f1)) ∧ w'.cell? ⟨(ad238.add ((x5_1).toNat * 3)).block,(ad238.add ((x5_1).toNat * 3)).off + 2,none⟩ = some (.slice A238_2 ((zN l1 x5_1).f2).length c238_2)) (ds := []) (uQ 10 0) (by kernel_rfl) rfl rfl ⟨((HB.out.cell (World.block_lt_of_cell? w _ hw237_0)).trans hw237_0),((HB.out.cell (World.block_lt_of_cell? w _ hw237_1)).trans hw237_1),((HB.out.cell (World.block_lt_of_cell? w _ hw237_2)).trans hw237_2),((HB.out.cell (World.block_lt_of_cell? w _ hw238_0)).trans hw238_0),((HB.out.cell (World.block_lt_of_cell? w _ hw238_1)).trans hw238_1),((HB.out.cell (World.block_lt_of_cell? w _ hw238_2)).trans hw238_2)⟩ (fun hHeld => ?_);refine zaO zy.tab6 zy.bits6 (fun HT_ HW_ => ?_)
        generalize wr.drew = w11 at HB HR237_2 HR238_2 hx237_0 hx237_1 hx237_2 hx238_0 hx238_1 hx238_2 hHeld ⊢
        refine puq (i := 0) (N := some 18) HT_.out (uQ 10 1) ?_
        refine puq (i := 1) (N := some 19) HT_.out (uQ 10 2) ?_
        refine puq (i := 2) (N := some 20) HT_.out (uQ 10 3) ?_
        refine puq (i := 4) (N := some 22) HT_.out #[true,true,true,false,true,false,false,false,false,false] ?_
        refine puq (i := 5) (N := some 23) HT_.out #[true,true,true,false,true,true,false,false,false,false] ?_
        refine puq (i := 6) (N := some 24) HT_.out #[true,true,true,false,true,true,true,false,false,false] ?_
        refine take_ (i := 3) (N := some 21) (uQ 10 7) rfl rfl (zY HT_.out HW_.out (by kernel_rfl)) (fun _ _ _ h => h) (Or.inl ⟨by rfl,by rintro w' ⟨s0,s1,s2,s3,s4,s5⟩;go_simp;with_reducible rfl⟩) hHeld hPq ?_
        refine take_ (i := 7) (N := some 25) (uQ 10 8) rfl rfl (zY HT_.out HW_.out (by kernel_rfl)) (fun _ _ _ h => h) (Or.inl ⟨by rfl,by rintro w' ⟨s0,s1,s2,s3,s4,s5⟩;go_simp;with_reducible rfl⟩) hHeld hPq ?_
        refine zb1 (i := 8) (N := some 26) (uQ 10 9) rfl rfl (zaR HT_.out (by kernel_rfl)) (by decide) (fun K hK => ?_)
        refine zbu Tryz.func86 (by kernel_rfl) rfl #[.agg #[.int .i64 ((zN l0 x5_1).f0),.int .i64 ((zN l0 x5_1).f1),.slice A237_2 ((zN l0 x5_1).f2).length c237_2],.agg #[.int .i64 ((zN l1 x5_1).f0),.int .i64 ((zN l1 x5_1).f1),.slice A238_2 ((zN l1 x5_1).f2).length c238_2]] (by rfl) rfl rfl hMq ?_
        with_reducible refine (zbf.calls k1 ((zN l0 x5_1).f0) ((zN l0 x5_1).f1) _ _ ((zN l0 x5_1).f2) ((zN l1 x5_1).f0) ((zN l1 x5_1).f1) _ _ ((zN l1 x5_1).f2) false _ ?side1 ?side2 ?side3 ?side4 A7.out).mono ?_
        (case side1 => exact hKq (Kd.C_below HR237_2.out HB.out))
        (case side2 => exact HC237_2.out)
        (case side3 => exact hKq (Kd.C_below HR238_2.out HB.out))
        (case side4 => exact HC238_2.out)
        rintro e w12 ⟨rfl,hb⟩
        refine ⟨_,rfl,?_⟩
        have n0_ := za.mk (ze hBq hb)
        clear HB
        have HB := n0_
        clear n0_
        (try clear hb)
        (try clear hb2)
        (try clear hk)
        (try clear hi)
        refine hK.out _ _ ⟨((HB.out.cell (World.block_lt_of_cell? w _ hw237_0)).trans hw237_0),((HB.out.cell (World.block_lt_of_cell? w _ hw237_1)).trans hw237_1),((HB.out.cell (World.block_lt_of_cell? w _ hw237_2)).trans hw237_2),((HB.out.cell (World.block_lt_of_cell? w _ hw238_0)).trans hw238_0),((HB.out.cell (World.block_lt_of_cell? w _ hw238_1)).trans hw238_1),((HB.out.cell (World.block_lt_of_cell? w _ hw238_2)).trans hw238_2)⟩ (fun hHeld => ?_)
        clear hK K
        refine zbk (a' := ?_) ?_ ?_
        rotate_left
        ·show Act.put _ (some 26) _ = _
         simp only [Act.put,List.setIfInBounds_toArray,List.set_cons_zero,List.set_cons_succ,zaw,zaB]
         rfl
        refine puq (i := 9) (N := some 6) HT_.out (uQ 10 10) ?_
        refine zbJ (zaU HT_.out (by kernel_rfl)) ?_
        try go_wp2
        go_ret
        exact ⟨hHq,hBq⟩
      ·rw [if_neg c6] at H
       exact absurd H (by simp)
     ·rw [if_neg c5] at H
      exact absurd H (by simp)
    ·rw [if_neg c4] at H
     have c4b0 : decide (x5_1 < (l0.length : Int)) = false := decide_eq_false c4
     clear c4
     obtain rfl := Option.some.inj H
     go_wp2
     go_ret
     exact ⟨hHq,hBq⟩
 ·rw [if_neg c3] at H
  have c3b0 : ((l0.length : Int) == (l1.length : Int)) = false := beq_eq_false_iff_ne.mpr c3
  have c3b1 : ((l0.length : Int) != (l1.length : Int)) = true := bne_iff_ne.mpr c3
  have c3b2 : (l0.length == l1.length) = false := by first | simpa using c3 | (simp at c3 ⊢;omega)
  obtain rfl := Option.some.inj H
  go_enter Tryz.func63,Tryz.ntmps63
  go_wp2
  go_ret
  exact ⟨hHq,hBq⟩
theorem eqA28 (d : Nat) (w : World) (x0 y0 : Int) (x1 y1 : Int) :
  (Op.equalIn (d + 2) 28 (.agg #[.int .i64 x0,.int .i64 x1]) (.agg #[.int .i64 y0,.int .i64 y1])).run Tryz.prog w = .ok (x0 == y0 && (x1 == y1)) w := by
 refine eqA_of Tryz.underlying28 (by kernel_rfl) ?_
 refine eqf_cons (by rfl) (by go_simp;rfl) (by go_simp;rfl) (by go_simp) ?_
 exact eqf_last (by rfl) (by go_simp;rfl) (by go_simp;rfl) (by go_simp)
end Go.Proofs.YtlkfelmbhldgfaaGreat.Px
namespace Go.Proofs.YtlkfelmbhldgfaaGreat.Px
open Go.RowKit Go.Proofs.YtlkfelmbhldgfaaGreatW.PrintWords Go.Proofs.YtlkfelmbhldgfaaGreatW.PrintLast Go.Proofs.YtlkfelmbhldgfaaGreatW.PrintMore
attribute [local go_sem] zA zC zH zI zv zw zB zD
set_option linter.unusedVariables false
set_option linter.unusedSimpArgs false
attribute [local go_sem high] eqA28
def za1.f (k : Nat) (a0_0 : Int) (a0_1 : Int) (l0_2 : List (S67)) (l0_3 : List ByteArray) (a0_4 : Int) (a0_5 : Int) (a1_0 : Int) (a1_1 : Int) (l1_2 : List (S67)) (l1_3 : List ByteArray) (a1_4 : Int) (a1_5 : Int) : Option (Bool) := (zS.f k l0_3 l1_3).bind fun t242 => ((zy.f k l0_2 l1_2).bind fun t243 => (if t242 = true then (if t243 = true then (if a0_0 = a1_0 then (if a0_1 = a1_1 then (some (a0_4 == a1_4 && (a0_5 == a1_5))) else (some false)) else (some false)) else (some false)) else (some false)))
set_option maxHeartbeats 8000000 in
set_option maxRecDepth 100000 in
theorem za1.calls (k : Nat) (a0_0 : Int) (a0_1 : Int) (A0_2 : Option Addr) (c0_2 : Nat) (l0_2 : List (S67)) (A0_3 : Option Addr) (c0_3 : Nat) (l0_3 : List ByteArray) (a0_4 : Int) (a0_5 : Int) (a1_0 : Int) (a1_1 : Int) (A1_2 : Option Addr) (c1_2 : Nat) (l1_2 : List (S67)) (A1_3 : Option Addr) (c1_3 : Nat) (l1_3 : List ByteArray) (a1_4 : Int) (a1_5 : Int) (r : Bool) (w : World) (hr0_2 : Kd.C k67 w A0_2 l0_2.length l0_2) (hc0_2 : l0_2.length ≤ c0_2) (hr0_3 : Kd.C Kd.string w A0_3 l0_3.length l0_3) (hc0_3 : l0_3.length ≤ c0_3) (hr1_2 : Kd.C k67 w A1_2 l1_2.length l1_2) (hc1_2 : l1_2.length ≤ c1_2) (hr1_3 : Kd.C Kd.string w A1_3 l1_3.length l1_3) (hc1_3 : l1_3.length ≤ c1_3) (h : za1.f k a0_0 a0_1 l0_2 l0_3 a0_4 a0_5 a1_0 a1_1 l1_2 l1_3 a1_4 a1_5 = some r) :
  Calls Tryz.prog 41 #[.agg #[.int .i64 a0_0,.int .i64 a0_1,.slice A0_2 l0_2.length c0_2,.slice A0_3 l0_3.length c0_3,.int .i64 a0_4,.int .i64 a0_5],.agg #[.int .i64 a1_0,.int .i64 a1_1,.slice A1_2 l1_2.length c1_2,.slice A1_3 l1_3.length c1_3,.int .i64 a1_4,.int .i64 a1_5]] w fun e w' => e = .returned (.bool r) ∧ Below w.heap.size w w' := by
 have hu30 := Tryz.underlying30
 have hu28 := Tryz.underlying28
 have HR0_2 := za.mk hr0_2
 have HC0_2 := za.mk hc0_2
 clear hr0_2 hc0_2
 have HR0_3 := za.mk hr0_3
 have HC0_3 := za.mk hc0_3
 clear hr0_3 hc0_3
 have HR1_2 := za.mk hr1_2
 have HC1_2 := za.mk hc1_2
 clear hr1_2 hc1_2
 have HR1_3 := za.mk hr1_3
 have HC1_3 := za.mk hc1_3
 clear hr1_3 hc1_3
 have HB := za.mk (Below.refl w.heap.size w)
 have H : ((zS.f k l0_3 l1_3).bind fun t242 => ((zy.f k l0_2 l1_2).bind fun t243 => (if t242 = true then (if t243 = true then (if a0_0 = a1_0 then (if a0_1 = a1_1 then (some (a0_4 == a1_4 && (a0_5 == a1_5))) else (some false)) else (some false)) else (some false)) else (some false)))) = some r := h
 clear h
 replace H := Option.bind_eq_some_iff.mp H
 obtain ⟨t242,A30,H⟩ := H
 replace H : ((zy.f k l0_2 l1_2).bind fun t243 => (if t242 = true then (if t243 = true then (if a0_0 = a1_0 then (if a0_1 = a1_1 then (some (a0_4 == a1_4 && (a0_5 == a1_5))) else (some false)) else (some false)) else (some false)) else (some false))) = some r := H
 have A3 := za.mk A30
 clear A30
 replace H := Option.bind_eq_some_iff.mp H
 obtain ⟨t243,A40,H⟩ := H
 replace H : (if t242 = true then (if t243 = true then (if a0_0 = a1_0 then (if a0_1 = a1_1 then (some (a0_4 == a1_4 && (a0_5 == a1_5))) else (some false)) else (some false)) else (some false)) else (some false)) = some r := H
 have A4 := za.mk A40
 clear A40
 by_cases c5 : t242 = true
 focus
  subst c5
  have H1 : (if t243 = true then (if a0_0 = a1_0 then (if a0_1 = a1_1 then (some (a0_4 == a1_4 && (a0_5 == a1_5))) else (some false)) else (some false)) else (some false)) = some r := by rw [if_pos rfl] at H;exact H
  clear H
  have H := H1
  clear H1
  by_cases c6 : t243 = true
  focus
   subst c6
   have H1 : (if a0_0 = a1_0 then (if a0_1 = a1_1 then (some (a0_4 == a1_4 && (a0_5 == a1_5))) else (some false)) else (some false)) = some r := by rw [if_pos rfl] at H;exact H
   clear H
   have H := H1
   clear H1
   by_cases c7 : a0_0 = a1_0
   focus
    rw [if_pos c7] at H
    have c7b0 : (a0_0 == a1_0) = true := beq_iff_eq.mpr c7
    have c7b1 : (a0_0 != a1_0) = false := bne_eq_false_iff_eq.mpr c7
    clear c7
    by_cases c8 : a0_1 = a1_1
    focus
     rw [if_pos c8] at H
     have c8b0 : (a0_1 == a1_1) = true := beq_iff_eq.mpr c8
     have c8b1 : (a0_1 != a1_1) = false := bne_eq_false_iff_eq.mpr c8
     clear c8
     obtain rfl := Option.some.inj H
     have EQ0 := True.intro
     have EQ1 := True.intro
    rotate_left
    focus
     rw [if_neg c8] at H
     have c8b0 : (a0_1 == a1_1) = false := beq_eq_false_iff_ne.mpr c8
     have c8b1 : (a0_1 != a1_1) = true := bne_iff_ne.mpr c8
     obtain rfl := Option.some.inj H
     have EQ0 := True.intro
     have EQ1 := True.intro
   rotate_left 2
   focus
    rw [if_neg c7] at H
    have c7b0 : (a0_0 == a1_0) = false := beq_eq_false_iff_ne.mpr c7
    have c7b1 : (a0_0 != a1_0) = true := bne_iff_ne.mpr c7
    obtain rfl := Option.some.inj H
    have EQ0 := True.intro
    have EQ1 := True.intro
  rotate_left 3
  focus
   replace c6 := Bool.eq_false_iff.mpr c6
   subst c6
   have H1 : (some false) = some r := by rw [if_neg (show ¬ (false = true) by decide)] at H;exact H
   clear H
   have H := H1
   clear H1
   obtain rfl := Option.some.inj H
   have EQ0 := True.intro
   have EQ2 := True.intro
 rotate_left 4
 focus
  replace c5 := Bool.eq_false_iff.mpr c5
  subst c5
  have H1 : (some false) = some r := by rw [if_neg (show ¬ (false = true) by decide)] at H;exact H
  clear H
  have H := H1
  clear H1
  obtain rfl := Option.some.inj H
  have EQ3 := True.intro
 all_goals
  go_enter Tryz.func41,Tryz.ntmps41
  go_wp2_with (first | ((with_reducible refine zn (N := 2) rfl ?_);refine zl rfl (N := 2) rfl (cs := #[.int .i64 a0_0,.int .i64 a0_1,.slice A0_2 l0_2.length c0_2,.slice A0_3 l0_3.length c0_3,.int .i64 a0_4,.int .i64 a0_5]) (t := 30) hrq ?_;intro gb240 hg wQN22 hbox hb;have n_ := haq (ze hBq hb) <| haq (hbox) <| haq ((by rw [hg];exact (zg hBq) : w.heap.size ≤ gb240)) <| haq ((by rw [hg];exact (zg hBq) : w.heap.size ≤ gb240)) <| trivial;clear HB;obtain ⟨HB,BK240,GW240,GE240,_⟩ := n_;clear hb hbox hg) | ((with_reducible refine zn (N := 3) rfl ?_);refine zl rfl (N := 3) rfl (cs := #[.int .i64 a1_0,.int .i64 a1_1,.slice A1_2 l1_2.length c1_2,.slice A1_3 l1_3.length c1_3,.int .i64 a1_4,.int .i64 a1_5]) (t := 30) hrq ?_;intro gb241 hg wQN32 hbox hb;have n_ := haq (hbq BK240.out hb) <| haq (ze hCq hb) <| haq (hbox) <| haq ((by rw [hg];exact (zg hCq) : w.heap.size ≤ gb241)) <| haq ((by rw [hg];exact (zg hCq) : w.heap.size ≤ gb241)) <| haq (hnq hg BK240.out) <| haq (hmq hg BK240.out) <| trivial;clear BK240 HB;obtain ⟨BK240,HB,BK241,GW241,GE241,NBQN37,NBQN38,_⟩ := n_;clear hb hbox hg;have hnbQN39 := NBQN37.out;have hncQN310 := NBQN38.out;obtain ⟨hczQN311,hczQN312,hczQN313,hczQN314,hczQN315,hczQN316,hfzQN317,hfzQN318,hfzQN319,hfzQN320,hfzQN321,hfzQN322⟩ := hcq6 BK240.out;obtain ⟨hczQN323,hczQN324,hczQN325,hczQN326,hczQN327,hczQN328,hfzQN329,hfzQN330,hfzQN331,hfzQN332,hfzQN333,hfzQN334⟩ := hcq6 BK241.out) | (have _ := EQ0;((with_reducible refine zL (f := 62) rfl ?_);refine zaq (some 11) rfl rfl Tryz.func62 (by kernel_rfl) rfl #[.slice A0_3 l0_3.length c0_3,.slice A1_3 l1_3.length c1_3] rfl hMq ?_;(with_reducible refine (zS.calls k _ _ l0_3 _ _ l1_3 true _ ?side1 ?side2 ?side3 ?side4 A3.out).mono ?_);(case side1 => exact hKq (Kd.C_below HR0_3.out HB.out));(case side2 => exact HC0_3.out);(case side3 => exact hKq (Kd.C_below HR1_3.out HB.out));(case side4 => exact HC1_3.out);rintro e w' ⟨rfl,⟨nd,rfl⟩⟩;refine ⟨_,rfl,?_⟩)) | (have _ := EQ1;((with_reducible refine zL (f := 63) rfl ?_);refine zaq (some 16) rfl rfl Tryz.func63 (by kernel_rfl) rfl #[.slice A0_2 l0_2.length c0_2,.slice A1_2 l1_2.length c1_2] rfl hMq ?_;(with_reducible refine (zy.calls k _ _ l0_2 _ _ l1_2 true _ ?side1 ?side2 ?side3 ?side4 A4.out).mono ?_);(case side1 => repeat (first | exact (Kd.C_below HR0_2.out hCq) | (with_reducible refine Kd.C_alloc ?_ _) | (with_reducible refine Kd.C_drewN ?_ _) | (with_reducible refine Kd.C_drew ?_)));(case side2 => exact HC0_2.out);(case side3 => repeat (first | exact (Kd.C_below HR1_2.out hCq) | (with_reducible refine Kd.C_alloc ?_ _) | (with_reducible refine Kd.C_drewN ?_ _) | (with_reducible refine Kd.C_drew ?_)));(case side4 => exact HC1_2.out);rintro e wQF63A41 ⟨rfl,hb⟩;refine ⟨_,rfl,?_⟩;have n_ := haq (hbq BK240.out hb) <| haq (hbq BK241.out hb) <| haq (ze hCq hb) <| trivial;clear BK240 BK241 HB;obtain ⟨BK240,BK241,HB,_⟩ := n_;(try clear hb);(try clear hb2);(try clear hk);(try clear hi);obtain ⟨hczQF63A44,hczQF63A45,hczQF63A46,hczQF63A47,hczQF63A48,hczQF63A49,hfzQF63A410,hfzQF63A411,hfzQF63A412,hfzQF63A413,hfzQF63A414,hfzQF63A415⟩ := hcq6 BK240.out;obtain ⟨hczQF63A416,hczQF63A417,hczQF63A418,hczQF63A419,hczQF63A420,hczQF63A421,hfzQF63A422,hfzQF63A423,hfzQF63A424,hfzQF63A425,hfzQF63A426,hfzQF63A427⟩ := hcq6 BK241.out)) | (have _ := EQ2;((with_reducible refine zL (f := 63) rfl ?_);refine zaq (some 16) rfl rfl Tryz.func63 (by kernel_rfl) rfl #[.slice A0_2 l0_2.length c0_2,.slice A1_2 l1_2.length c1_2] rfl hMq ?_;(with_reducible refine (zy.calls k _ _ l0_2 _ _ l1_2 false _ ?side1 ?side2 ?side3 ?side4 A4.out).mono ?_);(case side1 => repeat (first | exact (Kd.C_below HR0_2.out hCq) | (with_reducible refine Kd.C_alloc ?_ _) | (with_reducible refine Kd.C_drewN ?_ _) | (with_reducible refine Kd.C_drew ?_)));(case side2 => exact HC0_2.out);(case side3 => repeat (first | exact (Kd.C_below HR1_2.out hCq) | (with_reducible refine Kd.C_alloc ?_ _) | (with_reducible refine Kd.C_drewN ?_ _) | (with_reducible refine Kd.C_drew ?_)));(case side4 => exact HC1_2.out);rintro e wQF63A41 ⟨rfl,hb⟩;refine ⟨_,rfl,?_⟩;have n_ := haq (hbq BK240.out hb) <| haq (hbq BK241.out hb) <| haq (ze hCq hb) <| trivial;clear BK240 BK241 HB;obtain ⟨BK240,BK241,HB,_⟩ := n_;(try clear hb);(try clear hb2);(try clear hk);(try clear hi))) | (have _ := EQ3;((with_reducible refine zL (f := 62) rfl ?_);refine zaq (some 11) rfl rfl Tryz.func62 (by kernel_rfl) rfl #[.slice A0_3 l0_3.length c0_3,.slice A1_3 l1_3.length c1_3] rfl hMq ?_;(with_reducible refine (zS.calls k _ _ l0_3 _ _ l1_3 false _ ?side1 ?side2 ?side3 ?side4 A3.out).mono ?_);(case side1 => exact hKq (Kd.C_below HR0_3.out HB.out));(case side2 => exact HC0_3.out);(case side3 => exact hKq (Kd.C_below HR1_3.out HB.out));(case side4 => exact HC1_3.out);rintro e w' ⟨rfl,⟨nd,rfl⟩⟩;refine ⟨_,rfl,?_⟩)) | (have _ := EQ3;((with_reducible refine zL (f := 63) rfl ?_);refine zaq (some 16) rfl rfl Tryz.func63 (by kernel_rfl) rfl #[.slice A0_2 l0_2.length c0_2,.slice A1_2 l1_2.length c1_2] rfl hMq ?_;(with_reducible refine (zy.calls k _ _ l0_2 _ _ l1_2 t243 _ ?side1 ?side2 ?side3 ?side4 A4.out).mono ?_);(case side1 => repeat (first | exact (Kd.C_below HR0_2.out hCq) | (with_reducible refine Kd.C_alloc ?_ _) | (with_reducible refine Kd.C_drewN ?_ _) | (with_reducible refine Kd.C_drew ?_)));(case side2 => exact HC0_2.out);(case side3 => repeat (first | exact (Kd.C_below HR1_2.out hCq) | (with_reducible refine Kd.C_alloc ?_ _) | (with_reducible refine Kd.C_drewN ?_ _) | (with_reducible refine Kd.C_drew ?_)));(case side4 => exact HC1_2.out);rintro e wQF63A41 ⟨rfl,hb⟩;refine ⟨_,rfl,?_⟩;have n_ := haq (hbq BK240.out hb) <| haq (hbq BK241.out hb) <| haq (ze hCq hb) <| trivial;clear BK240 BK241 HB;obtain ⟨BK240,BK241,HB,_⟩ := n_;(try clear hb);(try clear hb2);(try clear hk);(try clear hi))))
  go_ret
  exact ⟨hHq,hCq⟩
end Go.Proofs.YtlkfelmbhldgfaaGreat.Px