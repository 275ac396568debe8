/- Part 10 of 36 of the proof of the law DagAdds: what is proved is the statement at the end of the last part; its conditions are those of the given row. -/
import Derived.Test.YtlkfelmbhldgfaaGreatZDagAddsI
namespace Go.Proofs.YtlkfelmbhldgfaaGreat.Px
open Go.RowKit Go.Proofs.YtlkfelmbhldgfaaGreatW.PrintWords Go.Proofs.YtlkfelmbhldgfaaGreatW.PrintLast Go.Proofs.YtlkfelmbhldgfaaGreatW.PrintMore
attribute [local go_sem] zA zC zH zI zv zw zB zD
set_option linter.unusedVariables false
set_option linter.unusedSimpArgs false
def zab.f (k : Nat) (a0_0 : Int) (a0_1 : Int) (l0_2 : List ByteArray) : Option (ByteArray × Int) := (zr.f k a0_0 a0_1 l0_2).bind fun t182 => (if t182 = true then ((zq.f k (IntKind.u64.wrap (a0_0))).bind fun t183 => ((zq.f k (IntKind.u64.wrap (a0_1))).bind fun t184 => (if t183.size + t184.size ≤ 9223372036854775807 then ((zM.f l0_2).bind fun t185 => (if (t183 ++ t184).size + t185.size ≤ 9223372036854775807 then (some ((t183 ++ t184) ++ t185,0)) else (none))) else (none)))) else (some ((⟨#[]⟩ : ByteArray),1)))
def zab.T4 : Bool × List (List Nat × List Nat) := (true,[([],[]),([0],[0]),([1],[1]),([2],[2]),([],[]),([4],[4]),([5],[5]),([6,3],[6]),([3,7],[3,7]),([],[]),([9],[9]),([10,7],[10]),([8,11],[8,11]),([12,11,0,1,2,3,4,5,6,7,8,9,10,11,12],[12]),([13,0,1,2,3,4,5,6,7,8,9,10,11,12,13],[])])
def zab.B4 : List Nat := [0,1,3,7,0,16,48,127,255,0,512,1791,4095,8191,16383]
theorem zab.tab4 : zbX .any (zdG Tryz.f56 4) = zab.T4 := by kernel_rfl
theorem zab.bits4 : zbF zab.T4.2 zab.B4 = true := by kernel_rfl
set_option maxHeartbeats 8000000 in
set_option maxRecDepth 100000 in
theorem zab.calls (k : Nat) (a0_0 : Int) (a0_1 : Int) (A0_2 : Option Addr) (c0_2 : Nat) (l0_2 : List ByteArray) (r1 : ByteArray) (r2 : Int) (w : World) (hr0_2 : Kd.C Kd.string w A0_2 l0_2.length l0_2) (hc0_2 : l0_2.length ≤ c0_2) (h : zab.f k a0_0 a0_1 l0_2 = some (r1,r2)) :
  Calls Tryz.prog 56 #[.agg #[.int .i64 a0_0,.int .i64 a0_1,.slice A0_2 l0_2.length c0_2]] w fun e w' => e = .returned (.tuple #[.string r1,.int .i64 r2]) ∧ Below w.heap.size w w' := by
 have hu67 := Tryz.underlying67
 have HR0_2 := za.mk hr0_2
 have HC0_2 := za.mk hc0_2
 clear hr0_2 hc0_2
 have HB := za.mk (Below.refl w.heap.size w)
 have H : ((zr.f k a0_0 a0_1 l0_2).bind fun t182 => (if t182 = true then ((zq.f k (IntKind.u64.wrap (a0_0))).bind fun t183 => ((zq.f k (IntKind.u64.wrap (a0_1))).bind fun t184 => (if t183.size + t184.size ≤ 9223372036854775807 then ((zM.f l0_2).bind fun t185 => (if (t183 ++ t184).size + t185.size ≤ 9223372036854775807 then (some ((t183 ++ t184) ++ t185,0)) else (none))) else (none)))) else (some ((⟨#[]⟩ : ByteArray),1)))) = some (r1,r2) := h
 clear h
 replace H := Option.bind_eq_some_iff.mp H
 obtain ⟨t182,A20,H⟩ := H
 replace H : (if t182 = true then ((zq.f k (IntKind.u64.wrap (a0_0))).bind fun t183 => ((zq.f k (IntKind.u64.wrap (a0_1))).bind fun t184 => (if t183.size + t184.size ≤ 9223372036854775807 then ((zM.f l0_2).bind fun t185 => (if (t183 ++ t184).size + t185.size ≤ 9223372036854775807 then (some ((t183 ++ t184) ++ t185,0)) else (none))) else (none)))) else (some ((⟨#[]⟩ : ByteArray),1))) = some (r1,r2) := H
 have A2 := za.mk A20
 clear A20
 by_cases c3 : t182 = true
 ·subst c3
  have H1 : ((zq.f k (IntKind.u64.wrap (a0_0))).bind fun t183 => ((zq.f k (IntKind.u64.wrap (a0_1))).bind fun t184 => (if t183.size + t184.size ≤ 9223372036854775807 then ((zM.f l0_2).bind fun t185 => (if (t183 ++ t184).size + t185.size ≤ 9223372036854775807 then (some ((t183 ++ t184) ++ t185,0)) else (none))) else (none)))) = some (r1,r2) := by rw [if_pos rfl] at H;exact H
  clear H
  have H := H1
  clear H1
  replace H := Option.bind_eq_some_iff.mp H
  obtain ⟨t183,A40,H⟩ := H
  replace H : ((zq.f k (IntKind.u64.wrap (a0_1))).bind fun t184 => (if t183.size + t184.size ≤ 9223372036854775807 then ((zM.f l0_2).bind fun t185 => (if (t183 ++ t184).size + t185.size ≤ 9223372036854775807 then (some ((t183 ++ t184) ++ t185,0)) else (none))) else (none))) = some (r1,r2) := H
  have A4 := za.mk A40
  clear A40
  replace H := Option.bind_eq_some_iff.mp H
  obtain ⟨t184,A50,H⟩ := H
  replace H : (if t183.size + t184.size ≤ 9223372036854775807 then ((zM.f l0_2).bind fun t185 => (if (t183 ++ t184).size + t185.size ≤ 9223372036854775807 then (some ((t183 ++ t184) ++ t185,0)) else (none))) else (none)) = some (r1,r2) := H
  have A5 := za.mk A50
  clear A50
  by_cases c6 : t183.size + t184.size ≤ 9223372036854775807
  ·rw [if_pos c6] at H
   have c6b0 := eq_true c6
   have c6b1 : decide (t183.size + t184.size ≤ 9223372036854775807) = true := decide_eq_true c6
   try have c6b2 : (9223372036854775807 < t183.size + t184.size) = False := eq_false (Nat.not_lt.2 c6)
   replace H := Option.bind_eq_some_iff.mp H
   obtain ⟨t185,A70,H⟩ := H
   replace H : (if (t183 ++ t184).size + t185.size ≤ 9223372036854775807 then (some ((t183 ++ t184) ++ t185,0)) else (none)) = some (r1,r2) := H
   have A7 := za.mk A70
   clear A70
   by_cases c8 : (t183 ++ t184).size + t185.size ≤ 9223372036854775807
   ·rw [if_pos c8] at H
    have c8b0 := eq_true c8
    have c8b1 : decide ((t183 ++ t184).size + t185.size ≤ 9223372036854775807) = true := decide_eq_true c8
    try have c8b2 : (9223372036854775807 < (t183 ++ t184).size + t185.size) = False := eq_false (Nat.not_lt.2 c8)
    try (have c8b3 := c8;simp [ByteArray.size_append] at c8b3;have c8b4 := eq_false (Nat.not_lt.2 c8b3);clear c8b3)
    simp only [Option.some.injEq,Prod.mk.injEq] at H
    obtain ⟨rfl,rfl⟩ := H
    go_enter Tryz.func56,Tryz.ntmps56
    try go_wp2_with (first | ((with_reducible refine zn (N := 1) rfl ?_);refine zl rfl (N := 1) rfl (cs := #[.int .i64 a0_0,.int .i64 a0_1,.slice A0_2 l0_2.length c0_2]) (t := 67) hrq ?_;intro gb181 hg w9 hbox hb;have n_ := haq (ze hBq hb) <| haq (hbox) <| haq ((by rw [hg];exact (zg hBq) : w.heap.size ≤ gb181)) <| haq ((by rw [hg];exact (zg hBq) : w.heap.size ≤ gb181)) <| trivial;clear HB;obtain ⟨HB,BK181,GW181,GE181,_⟩ := n_;clear hb hbox hg;obtain ⟨hcz10_0,hcz10_1,hcz10_2,hfz10_0,hfz10_1,hfz10_2⟩ := hcq3 BK181.out) | ((with_reducible refine zL (f := 77) rfl ?_);refine zaq (some 6) rfl rfl Tryz.func77 (by kernel_rfl) rfl #[.agg #[.int .i64 a0_0,.int .i64 a0_1,.slice A0_2 l0_2.length c0_2]] rfl hMq ?_;(with_reducible refine (zr.calls k a0_0 a0_1 _ _ l0_2 true _ ?side1 ?side2 A2.out).mono ?_);(case side1 => exact hKq (Kd.C_below HR0_2.out HB.out));(case side2 => exact HC0_2.out);rintro e w11 ⟨rfl,hb⟩;refine ⟨_,rfl,?_⟩;have n_ := haq (hbq BK181.out hb) <| haq (ze hCq hb) <| trivial;clear BK181 HB;obtain ⟨BK181,HB,_⟩ := n_;(try clear hb);(try clear hb2);(try clear hk);(try clear hi)))
    have n0_ := za.mk (z6 BK181.out)
    have n1_ := za.mk (zo HB.out)
    clear BK181
    clear HB
    have BK181 := n0_
    have HB := n1_
    clear n0_ n1_
    refine zbH (n := 15) (S := fun w' => w'.cell? ⟨gb181,0,none⟩ = some (.int .i64 a0_0) ∧ w'.cell? ⟨gb181,1,none⟩ = some (.int .i64 a0_1) ∧ w'.cell? ⟨gb181,2,none⟩ = some (.slice A0_2 l0_2.length c0_2)) (ds := []) (uQ 15 0) (by kernel_rfl) rfl rfl ⟨(zb BK181.out 0).trans rfl,(zb BK181.out 1).trans rfl,(zb BK181.out 2).trans rfl⟩ (fun hHeld => ?_);refine zaO zab.tab4 zab.bits4 (fun HT_ HW_ => ?_)
    generalize w11.drew = w12 at BK181 HB hHeld ⊢
    refine puq (i := 0) (N := some 9) HT_.out (uQ 15 1) ?_
    refine puq (i := 4) (N := some 13) HT_.out #[true,false,false,false,true,false,false,false,false,false,false,false,false,false,false] ?_
    refine puq (i := 9) (N := some 18) HT_.out #[true,false,false,false,true,false,false,false,false,true,false,false,false,false,false] ?_
    refine take_ (i := 1) (N := some 10) #[true,true,false,false,true,false,false,false,false,true,false,false,false,false,false] rfl rfl (zY HT_.out HW_.out (by kernel_rfl)) (fun _ _ _ h => h) (Or.inl ⟨by rfl,by rintro w' ⟨s0,s1,s2⟩;go_simp;with_reducible rfl⟩) hHeld hPq ?_
    refine puq (i := 2) (N := some 11) HT_.out #[true,true,true,false,true,false,false,false,false,true,false,false,false,false,false] ?_
    refine take_ (i := 5) (N := some 14) #[true,true,true,false,true,true,false,false,false,true,false,false,false,false,false] rfl rfl (zY HT_.out HW_.out (by kernel_rfl)) (fun _ _ _ h => h) (Or.inl ⟨by rfl,by rintro w' ⟨s0,s1,s2⟩;go_simp;with_reducible rfl⟩) hHeld hPq ?_
    refine puq (i := 6) (N := some 15) HT_.out #[true,true,true,false,true,true,true,false,false,true,false,false,false,false,false] ?_
    refine take_ (i := 10) (N := some 19) #[true,true,true,false,true,true,true,false,false,true,true,false,false,false,false] rfl rfl (zY HT_.out HW_.out (by kernel_rfl)) (fun _ _ _ h => h) (Or.inl ⟨by rfl,by rintro w' ⟨s0,s1,s2⟩;go_simp;with_reducible rfl⟩) hHeld hPq ?_
    refine zb1 (i := 3) (N := some 12) #[true,true,true,true,true,true,true,false,false,true,true,false,false,false,false] rfl rfl (zaR HT_.out (by kernel_rfl)) (by decide) (fun K hK => ?_)
    refine zbu Tryz.func57 (by kernel_rfl) rfl #[.int .u64 (IntKind.u64.wrap (a0_0))] (by rfl) rfl rfl hMq ?_
    with_reducible refine (zq.calls k (IntKind.u64.wrap (a0_0)) t183 _ A4.out).mono ?_
    rintro e w13 ⟨rfl,hb⟩
    refine ⟨_,rfl,?_⟩
    have n0_ := za.mk (hbq BK181.out hb)
    have n1_ := za.mk (ze hCq hb)
    clear BK181
    clear HB
    have BK181 := n0_
    have HB := n1_
    clear n0_ n1_
    (try clear hb)
    (try clear hb2)
    (try clear hk)
    (try clear hi)
    refine hK.out _ _ ⟨(zb BK181.out 0).trans rfl,(zb BK181.out 1).trans rfl,(zb BK181.out 2).trans rfl⟩ (fun hHeld => ?_)
    clear hK K
    refine zbk (a' := ?_) ?_ ?_
    rotate_left
    ·show Act.put _ (some 12) _ = _
     simp only [Act.put,List.setIfInBounds_toArray,List.set_cons_zero,List.set_cons_succ,zaw,zaB]
     rfl
    refine zb1 (i := 7) (N := some 16) #[true,true,true,true,true,true,true,true,false,true,true,false,false,false,false] rfl rfl (zaR HT_.out (by kernel_rfl)) (by decide) (fun K hK => ?_)
    refine zbu Tryz.func57 (by kernel_rfl) rfl #[.int .u64 (IntKind.u64.wrap (a0_1))] (by rfl) rfl rfl hMq ?_
    with_reducible refine (zq.calls k (IntKind.u64.wrap (a0_1)) t184 _ A5.out).mono ?_
    rintro e w14 ⟨rfl,hb⟩
    refine ⟨_,rfl,?_⟩
    have n0_ := za.mk (hbq BK181.out hb)
    have n1_ := za.mk (ze hCq hb)
    clear BK181
    clear HB
    have BK181 := n0_
    have HB := n1_
    clear n0_ n1_
    (try clear hb)
    (try clear hb2)
    (try clear hk)
    (try clear hi)
    refine hK.out _ _ ⟨(zb BK181.out 0).trans rfl,(zb BK181.out 1).trans rfl,(zb BK181.out 2).trans rfl⟩ (fun hHeld => ?_)
    clear hK K
    refine zbk (a' := ?_) ?_ ?_
    rotate_left
    ·show Act.put _ (some 16) _ = _
     simp only [Act.put,List.setIfInBounds_toArray,List.set_cons_zero,List.set_cons_succ,zaw,zaB]
     rfl
    refine puq (i := 8) (N := some 17) HT_.out (uQ 15 11) ?_
    refine zb1 (i := 11) (N := some 20) (uQ 15 12) rfl rfl (zaR HT_.out (by kernel_rfl)) (by decide) (fun K hK => ?_)
    refine zbu Tryz.func58 (by kernel_rfl) rfl #[.slice A0_2 l0_2.length c0_2] (by rfl) rfl rfl hMq ?_
    with_reducible refine (zM.calls _ _ l0_2 t185 _ ?side1 ?side2 A7.out).mono ?_
    (case side1 => exact hKq (Kd.C_below HR0_2.out HB.out))
    (case side2 => exact HC0_2.out)
    rintro e w15 ⟨rfl,hb⟩
    refine ⟨_,rfl,?_⟩
    have n0_ := za.mk (hbq BK181.out hb)
    have n1_ := za.mk (ze hCq hb)
    clear BK181
    clear HB
    have BK181 := n0_
    have HB := n1_
    clear n0_ n1_
    (try clear hb)
    (try clear hb2)
    (try clear hk)
    (try clear hi)
    refine hK.out _ _ ⟨(zb BK181.out 0).trans rfl,(zb BK181.out 1).trans rfl,(zb BK181.out 2).trans rfl⟩ (fun hHeld => ?_)
    clear hK K
    refine zbk (a' := ?_) ?_ ?_
    rotate_left
    ·show Act.put _ (some 20) _ = _
     simp only [Act.put,List.setIfInBounds_toArray,List.set_cons_zero,List.set_cons_succ,zaw,zaB]
     rfl
    refine puq (i := 12) (N := some 21) HT_.out (uQ 15 13) ?_
    refine puq (i := 13) (N := some 2) HT_.out (uQ 15 14) ?_
    refine puq (i := 14) (N := some 3) HT_.out (uQ 15 15) ?_
    refine zbJ (zaU HT_.out (by kernel_rfl)) ?_
    try go_wp2
    go_ret2
    exact ⟨hHq,hCq⟩
   ·rw [if_neg c8] at H
    exact absurd H (by simp)
  ·rw [if_neg c6] at H
   exact absurd H (by simp)
 ·replace c3 := Bool.eq_false_iff.mpr c3
  subst c3
  have H1 : (some ((⟨#[]⟩ : ByteArray),1)) = some (r1,r2) := by rw [if_neg (show ¬ (false = true) by decide)] at H;exact H
  clear H
  have H := H1
  clear H1
  simp only [Option.some.injEq,Prod.mk.injEq] at H
  obtain ⟨rfl,rfl⟩ := H
  go_enter Tryz.func56,Tryz.ntmps56
  go_wp2_with (first | ((with_reducible refine zn (N := 1) rfl ?_);refine zl rfl (N := 1) rfl (cs := #[.int .i64 a0_0,.int .i64 a0_1,.slice A0_2 l0_2.length c0_2]) (t := 67) hrq ?_;intro gb181 hg w16 hbox hb;have n_ := haq (ze hBq hb) <| haq (hbox) <| haq ((by rw [hg];exact (zg hBq) : w.heap.size ≤ gb181)) <| haq ((by rw [hg];exact (zg hBq) : w.heap.size ≤ gb181)) <| trivial;clear HB;obtain ⟨HB,BK181,GW181,GE181,_⟩ := n_;clear hb hbox hg;obtain ⟨hcz17_0,hcz17_1,hcz17_2,hfz17_0,hfz17_1,hfz17_2⟩ := hcq3 BK181.out) | ((with_reducible refine zL (f := 77) rfl ?_);refine zaq (some 6) rfl rfl Tryz.func77 (by kernel_rfl) rfl #[.agg #[.int .i64 a0_0,.int .i64 a0_1,.slice A0_2 l0_2.length c0_2]] rfl hMq ?_;(with_reducible refine (zr.calls k a0_0 a0_1 _ _ l0_2 false _ ?side1 ?side2 A2.out).mono ?_);(case side1 => exact hKq (Kd.C_below HR0_2.out HB.out));(case side2 => exact HC0_2.out);rintro e w18 ⟨rfl,hb⟩;refine ⟨_,rfl,?_⟩;have n_ := haq (hbq BK181.out hb) <| haq (ze hCq hb) <| trivial;clear BK181 HB;obtain ⟨BK181,HB,_⟩ := n_;(try clear hb);(try clear hb2);(try clear hk);(try clear hi)))
  go_ret2
  exact ⟨hHq,hCq⟩
def zal.f (a0_0 : Int) (a0_1 : Int) : Option (Bool) := if a0_0 ≥ 0 then (if a0_0 < 10007 then (if a0_1 ≥ 0 then (some (decide (a0_1 < 10007))) else (some false)) else (some false)) else (some false)
set_option maxHeartbeats 8000000 in
set_option maxRecDepth 100000 in
theorem zal.calls (a0_0 : Int) (a0_1 : Int) (r : Bool) (w : World) (h : zal.f a0_0 a0_1 = some r) :
  Calls Tryz.prog 80 #[.agg #[.int .i64 a0_0,.int .i64 a0_1]] w fun e w' => e = .returned (.bool r) ∧ Below w.heap.size w w' := by
 have hu28 := Tryz.underlying28
 have HB := za.mk (Below.refl w.heap.size w)
 have H : (if a0_0 ≥ 0 then (if a0_0 < 10007 then (if a0_1 ≥ 0 then (some (decide (a0_1 < 10007))) else (some false)) else (some false)) else (some false)) = some r := h
 clear h
 by_cases c2 : a0_0 ≥ 0
 ·rw [if_pos c2] at H
  have c2b0 : decide (0 ≤ a0_0) = true := decide_eq_true c2
  clear c2
  by_cases c3 : a0_0 < 10007
  ·rw [if_pos c3] at H
   have c3b0 : decide (a0_0 < 10007) = true := decide_eq_true c3
   clear c3
   by_cases c4 : a0_1 ≥ 0
   ·rw [if_pos c4] at H
    have c4b0 : decide (0 ≤ a0_1) = true := decide_eq_true c4
    clear c4
    obtain rfl := Option.some.inj H
    go_enter Tryz.func80,Tryz.ntmps80
    go_wp2_with (first | ((with_reducible refine zn (N := 1) rfl ?_);refine zl rfl (N := 1) rfl (cs := #[.int .i64 a0_0,.int .i64 a0_1]) (t := 28) hrq ?_;intro gb162 hg w5 hbox hb;have n_ := haq (ze hBq hb) <| haq (hbox) <| haq ((by rw [hg];exact (zg hBq) : w.heap.size ≤ gb162)) <| haq ((by rw [hg];exact (zg hBq) : w.heap.size ≤ gb162)) <| trivial;clear HB;obtain ⟨HB,BK162,GW162,GE162,_⟩ := n_;clear hb hbox hg;obtain ⟨hcz6_0,hcz6_1,hfz6_0,hfz6_1⟩ := hcq2 BK162.out))
    go_ret
    exact ⟨hHq,hCq⟩
   ·rw [if_neg c4] at H
    have c4b0 : decide (0 ≤ a0_1) = false := decide_eq_false c4
    clear c4
    obtain rfl := Option.some.inj H
    go_enter Tryz.func80,Tryz.ntmps80
    go_wp2_with (first | ((with_reducible refine zn (N := 1) rfl ?_);refine zl rfl (N := 1) rfl (cs := #[.int .i64 a0_0,.int .i64 a0_1]) (t := 28) hrq ?_;intro gb162 hg w7 hbox hb;have n_ := haq (ze hBq hb) <| haq (hbox) <| haq ((by rw [hg];exact (zg hBq) : w.heap.size ≤ gb162)) <| haq ((by rw [hg];exact (zg hBq) : w.heap.size ≤ gb162)) <| trivial;clear HB;obtain ⟨HB,BK162,GW162,GE162,_⟩ := n_;clear hb hbox hg;obtain ⟨hcz8_0,hcz8_1,hfz8_0,hfz8_1⟩ := hcq2 BK162.out))
    go_ret
    exact ⟨hHq,hCq⟩
  ·rw [if_neg c3] at H
   have c3b0 : decide (a0_0 < 10007) = false := decide_eq_false c3
   clear c3
   obtain rfl := Option.some.inj H
   go_enter Tryz.func80,Tryz.ntmps80
   go_wp2_with (first | ((with_reducible refine zn (N := 1) rfl ?_);refine zl rfl (N := 1) rfl (cs := #[.int .i64 a0_0,.int .i64 a0_1]) (t := 28) hrq ?_;intro gb162 hg w9 hbox hb;have n_ := haq (ze hBq hb) <| haq (hbox) <| haq ((by rw [hg];exact (zg hBq) : w.heap.size ≤ gb162)) <| haq ((by rw [hg];exact (zg hBq) : w.heap.size ≤ gb162)) <| trivial;clear HB;obtain ⟨HB,BK162,GW162,GE162,_⟩ := n_;clear hb hbox hg;obtain ⟨hcz10_0,hcz10_1,hfz10_0,hfz10_1⟩ := hcq2 BK162.out))
   go_ret
   exact ⟨hHq,hCq⟩
 ·rw [if_neg c2] at H
  have c2b0 : decide (0 ≤ a0_0) = false := decide_eq_false c2
  clear c2
  obtain rfl := Option.some.inj H
  go_enter Tryz.func80,Tryz.ntmps80
  go_wp2_with (first | ((with_reducible refine zn (N := 1) rfl ?_);refine zl rfl (N := 1) rfl (cs := #[.int .i64 a0_0,.int .i64 a0_1]) (t := 28) hrq ?_;intro gb162 hg w11 hbox hb;have n_ := haq (ze hBq hb) <| haq (hbox) <| haq ((by rw [hg];exact (zg hBq) : w.heap.size ≤ gb162)) <| haq ((by rw [hg];exact (zg hBq) : w.heap.size ≤ gb162)) <| trivial;clear HB;obtain ⟨HB,BK162,GW162,GE162,_⟩ := n_;clear hb hbox hg;obtain ⟨hcz12_0,hcz12_1,hfz12_0,hfz12_1⟩ := hcq2 BK162.out))
  go_ret
  exact ⟨hHq,hCq⟩
def zam.f (a0 : Int) : Option (Bool) := if a0 = 4 then (some true) else (if a0 > 4 then (if a0 ≤ 64 then (some ((Int.tmod (wrap64 (a0 - 1)) 3) == 0)) else (some false)) else (some false))
set_option maxHeartbeats 8000000 in
set_option maxRecDepth 100000 in
theorem zam.calls (a0 : Int) (r : Bool) (w : World) (h : zam.f a0 = some r) :
  Calls Tryz.prog 76 #[.int .i64 a0] w fun e w' => e = .returned (.bool r) ∧ za4 w w' := by
 have H : (if a0 = 4 then (some true) else (if a0 > 4 then (if a0 ≤ 64 then (some ((Int.tmod (wrap64 (a0 - 1)) 3) == 0)) else (some false)) else (some false))) = some r := h
 clear h
 by_cases c2 : a0 = 4
 ·rw [if_pos c2] at H
  have c2b0 : (a0 == 4) = true := beq_iff_eq.mpr c2
  have c2b1 : (a0 != 4) = false := bne_eq_false_iff_eq.mpr c2
  clear c2
  obtain rfl := Option.some.inj H
  go_enter Tryz.func76,Tryz.ntmps76
  go_wp2
  go_ret
  exact ⟨hDq,hEq⟩
 ·rw [if_neg c2] at H
  have c2b0 : (a0 == 4) = false := beq_eq_false_iff_ne.mpr c2
  have c2b1 : (a0 != 4) = true := bne_iff_ne.mpr c2
  by_cases c3 : a0 > 4
  ·rw [if_pos c3] at H
   have c3b0 : decide (4 < a0) = true := decide_eq_true c3
   clear c3
   by_cases c4 : a0 ≤ 64
   ·rw [if_pos c4] at H
    have c4b0 : decide (a0 ≤ 64) = true := decide_eq_true c4
    clear c4
    obtain rfl := Option.some.inj H
    go_enter Tryz.func76,Tryz.ntmps76
    go_wp2
    go_ret
    exact ⟨hDq,hEq⟩
   ·rw [if_neg c4] at H
    have c4b0 : decide (a0 ≤ 64) = false := decide_eq_false c4
    clear c4
    obtain rfl := Option.some.inj H
    go_enter Tryz.func76,Tryz.ntmps76
    go_wp2
    go_ret
    exact ⟨hDq,hEq⟩
  ·rw [if_neg c3] at H
   have c3b0 : decide (4 < a0) = false := decide_eq_false c3
   clear c3
   obtain rfl := Option.some.inj H
   go_enter Tryz.func76,Tryz.ntmps76
   go_wp2
   go_ret
   exact ⟨hDq,hEq⟩
def zah.f (a0 : Int) : Option (Int) := (zam.f a0).bind fun t161 => (if t161 = true then (some (wrap64 (a0 - (wrap64 (Int.tdiv (wrap64 (a0 - 1)) 3))))) else (some 0))
set_option maxHeartbeats 8000000 in
set_option maxRecDepth 100000 in
theorem zah.calls (a0 : Int) (r : Int) (w : World) (h : zah.f a0 = some r) :
  Calls Tryz.prog 78 #[.int .i64 a0] w fun e w' => e = .returned (.int .i64 r) ∧ za4 w w' := by
 have H : ((zam.f a0).bind fun t161 => (if t161 = true then (some (wrap64 (a0 - (wrap64 (Int.tdiv (wrap64 (a0 - 1)) 3))))) else (some 0))) = some r := h
 clear h
 replace H := Option.bind_eq_some_iff.mp H
 obtain ⟨t161,A20,H⟩ := H
 replace H : (if t161 = true then (some (wrap64 (a0 - (wrap64 (Int.tdiv (wrap64 (a0 - 1)) 3))))) else (some 0)) = some r := H
 have A2 := za.mk A20
 clear A20
 by_cases c3 : t161 = true
 ·subst c3
  have H1 : (some (wrap64 (a0 - (wrap64 (Int.tdiv (wrap64 (a0 - 1)) 3))))) = some r := by rw [if_pos rfl] at H;exact H
  clear H
  have H := H1
  clear H1
  obtain rfl := Option.some.inj H
  go_enter Tryz.func78,Tryz.ntmps78
  go_wp2_with (first | ((with_reducible refine zL (f := 76) rfl ?_);refine zaq (some 5) rfl rfl Tryz.func76 (by kernel_rfl) rfl #[.int .i64 a0] rfl hMq ?_;(with_reducible refine (zam.calls a0 true _ A2.out).mono ?_);rintro e w' ⟨rfl,⟨nd,rfl⟩⟩;refine ⟨_,rfl,?_⟩))
  go_ret
  exact ⟨hDq,hEq⟩
 ·replace c3 := Bool.eq_false_iff.mpr c3
  subst c3
  have H1 : (some 0) = some r := by rw [if_neg (show ¬ (false = true) by decide)] at H;exact H
  clear H
  have H := H1
  clear H1
  obtain rfl := Option.some.inj H
  go_enter Tryz.func78,Tryz.ntmps78
  go_wp2_with (first | ((with_reducible refine zL (f := 76) rfl ?_);refine zaq (some 5) rfl rfl Tryz.func76 (by kernel_rfl) rfl #[.int .i64 a0] rfl hMq ?_;(with_reducible refine (zam.calls a0 false _ A2.out).mono ?_);rintro e w' ⟨rfl,⟨nd,rfl⟩⟩;refine ⟨_,rfl,?_⟩))
  go_ret
  exact ⟨hDq,hEq⟩
def z8.f (a0 : Int) : Option (Bool) := if a0 > 0 then (some ((Int.tmod a0 3) == 0)) else (some false)
set_option maxHeartbeats 8000000 in
set_option maxRecDepth 100000 in
theorem z8.calls (a0 : Int) (r : Bool) (w : World) (h : z8.f a0 = some r) :
  Calls Tryz.prog 81 #[.int .i64 a0] w fun e w' => e = .returned (.bool r) ∧ za4 w w' := by
 have H : (if a0 > 0 then (some ((Int.tmod a0 3) == 0)) else (some false)) = some r := h
 clear h
 by_cases c2 : a0 > 0
 ·rw [if_pos c2] at H
  have c2b0 : decide (0 < a0) = true := decide_eq_true c2
  clear c2
  obtain rfl := Option.some.inj H
  go_enter Tryz.func81,Tryz.ntmps81
  go_wp2
  go_ret
  exact ⟨hDq,hEq⟩
 ·rw [if_neg c2] at H
  have c2b0 : decide (0 < a0) = false := decide_eq_false c2
  clear c2
  obtain rfl := Option.some.inj H
  go_enter Tryz.func81,Tryz.ntmps81
  go_wp2
  go_ret
  exact ⟨hDq,hEq⟩
end Go.Proofs.YtlkfelmbhldgfaaGreat.Px