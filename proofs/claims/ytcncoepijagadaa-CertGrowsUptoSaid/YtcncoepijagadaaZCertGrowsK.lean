/- Part 11 of 24 of the proof of the law CertGrows: what is proved is the statement at the end of the last part; its conditions are those of the given row. -/
import Derived.Test.YtcncoepijagadaaZCertGrowsJ
namespace Go.Proofs.Ytcncoepijagadaa.Px
open Go.RowKit Go.Proofs.YtcncoepijagadaaW.PrintWords Go.Proofs.YtcncoepijagadaaW.PrintLast Go.Proofs.YtcncoepijagadaaW.PrintMore
attribute [local go_sem] zp zr zy zz zl zm zq zs
set_option linter.unusedVariables false
set_option linter.unusedSimpArgs false
def zad.f (a0_0 : Int) (a0_1 : Int) (l0_2 : List ByteArray) : Option (ByteArray × Int) := (zaw.f a0_0 a0_1 l0_2).bind fun t115 => (if t115 = true then ((z4.f (IntKind.u64.wrap (a0_0))).bind fun t116 => ((z4.f (IntKind.u64.wrap (a0_1))).bind fun t117 => (if t116.size + t117.size ≤ 9223372036854775807 then ((zJ.f l0_2).bind fun t118 => (if (t116 ++ t117).size + t118.size ≤ 9223372036854775807 then (some ((t116 ++ t117) ++ t118,0)) else (none))) else (none)))) else (some ((⟨#[]⟩ : ByteArray),1)))
def zad.T3 : Bool × List (List Nat × List Nat) := (true,[([],[]),([0],[0]),([1],[1]),([2],[2]),([],[]),([4],[4]),([5],[5]),([6,3],[6]),([3,7],[3,7]),([],[]),([9],[9]),([10,7],[10]),([8,11],[8,11]),([12,11,0,1,2,3,4,5,6,7,8,9,10,11,12],[12]),([13,0,1,2,3,4,5,6,7,8,9,10,11,12,13],[])])
def zad.B3 : List Nat := [0,1,3,7,0,16,48,127,255,0,512,1791,4095,8191,16383]
theorem zad.tab3 : zbT .any (ze5 Try.f28 3) = zad.T3 := by kernel_rfl
theorem zad.bits3 : zbU zad.T3.2 zad.B3 = true := by kernel_rfl
set_option maxHeartbeats 8000000 in
set_option maxRecDepth 100000 in
theorem zad.calls (a0_0 : Int) (a0_1 : Int) (A0_2 : Option Addr) (c0_2 : Nat) (l0_2 : List ByteArray) (r1 : ByteArray) (r2 : Int) (w : World) (hr0_2 : Kd.C Kd.string w A0_2 l0_2.length l0_2) (hc0_2 : l0_2.length ≤ c0_2) (h : zad.f a0_0 a0_1 l0_2 = some (r1,r2)) :
  Calls Try.prog 28 #[.agg #[.int .i64 a0_0,.int .i64 a0_1,.slice A0_2 l0_2.length c0_2]] w fun e w' => e = .returned (.tuple #[.string r1,.int .i64 r2]) ∧ Below w.heap.size w w' := by
 have hu50 := Try.underlying50
 have HR0_2 := za.mk hr0_2
 have HC0_2 := za.mk hc0_2
 clear hr0_2 hc0_2
 have HB := za.mk (Below.refl w.heap.size w)
 have H : ((zaw.f a0_0 a0_1 l0_2).bind fun t115 => (if t115 = true then ((z4.f (IntKind.u64.wrap (a0_0))).bind fun t116 => ((z4.f (IntKind.u64.wrap (a0_1))).bind fun t117 => (if t116.size + t117.size ≤ 9223372036854775807 then ((zJ.f l0_2).bind fun t118 => (if (t116 ++ t117).size + t118.size ≤ 9223372036854775807 then (some ((t116 ++ t117) ++ t118,0)) else (none))) else (none)))) else (some ((⟨#[]⟩ : ByteArray),1)))) = some (r1,r2) := h
 clear h
 replace H := Option.bind_eq_some_iff.mp H
 obtain ⟨t115,A20,H⟩ := H
 replace H : (if t115 = true then ((z4.f (IntKind.u64.wrap (a0_0))).bind fun t116 => ((z4.f (IntKind.u64.wrap (a0_1))).bind fun t117 => (if t116.size + t117.size ≤ 9223372036854775807 then ((zJ.f l0_2).bind fun t118 => (if (t116 ++ t117).size + t118.size ≤ 9223372036854775807 then (some ((t116 ++ t117) ++ t118,0)) else (none))) else (none)))) else (some ((⟨#[]⟩ : ByteArray),1))) = some (r1,r2) := H
 have A2 := za.mk A20
 clear A20
 by_cases c3 : t115 = true
 ·subst c3
  have H1 : ((z4.f (IntKind.u64.wrap (a0_0))).bind fun t116 => ((z4.f (IntKind.u64.wrap (a0_1))).bind fun t117 => (if t116.size + t117.size ≤ 9223372036854775807 then ((zJ.f l0_2).bind fun t118 => (if (t116 ++ t117).size + t118.size ≤ 9223372036854775807 then (some ((t116 ++ t117) ++ t118,0)) else (none))) else (none)))) = some (r1,r2) := by rw [if_pos rfl] at H;exact H
  clear H
  have H := H1
  clear H1
  replace H := Option.bind_eq_some_iff.mp H
  obtain ⟨t116,A40,H⟩ := H
  replace H : ((z4.f (IntKind.u64.wrap (a0_1))).bind fun t117 => (if t116.size + t117.size ≤ 9223372036854775807 then ((zJ.f l0_2).bind fun t118 => (if (t116 ++ t117).size + t118.size ≤ 9223372036854775807 then (some ((t116 ++ t117) ++ t118,0)) else (none))) else (none))) = some (r1,r2) := H
  have A4 := za.mk A40
  clear A40
  replace H := Option.bind_eq_some_iff.mp H
  obtain ⟨t117,A50,H⟩ := H
  replace H : (if t116.size + t117.size ≤ 9223372036854775807 then ((zJ.f l0_2).bind fun t118 => (if (t116 ++ t117).size + t118.size ≤ 9223372036854775807 then (some ((t116 ++ t117) ++ t118,0)) else (none))) else (none)) = some (r1,r2) := H
  have A5 := za.mk A50
  clear A50
  by_cases c6 : t116.size + t117.size ≤ 9223372036854775807
  ·rw [if_pos c6] at H
   have c6b0 := eq_true c6
   have c6b1 : decide (t116.size + t117.size ≤ 9223372036854775807) = true := decide_eq_true c6
   try have c6b2 : (9223372036854775807 < t116.size + t117.size) = False := eq_false (Nat.not_lt.2 c6)
   replace H := Option.bind_eq_some_iff.mp H
   obtain ⟨t118,A70,H⟩ := H
   replace H : (if (t116 ++ t117).size + t118.size ≤ 9223372036854775807 then (some ((t116 ++ t117) ++ t118,0)) else (none)) = some (r1,r2) := H
   have A7 := za.mk A70
   clear A70
   by_cases c8 : (t116 ++ t117).size + t118.size ≤ 9223372036854775807
   ·rw [if_pos c8] at H
    have c8b0 := eq_true c8
    have c8b1 : decide ((t116 ++ t117).size + t118.size ≤ 9223372036854775807) = true := decide_eq_true c8
    try have c8b2 : (9223372036854775807 < (t116 ++ t117).size + t118.size) = False := eq_false (Nat.not_lt.2 c8)
    try (have c8b3 := c8;simp [ByteArray.size_append] at c8b3;have c8b4 := eq_false (Nat.not_lt.2 c8b3);clear c8b3)
    simp only [Option.some.injEq,Prod.mk.injEq] at H
    obtain ⟨rfl,rfl⟩ := H
    go_enter Try.func28,Try.ntmps28
    try go_wp2_with (first | ((with_reducible refine zo (N := 1) rfl ?_);refine zk rfl (N := 1) rfl (cs := #[.int .i64 a0_0,.int .i64 a0_1,.slice A0_2 l0_2.length c0_2]) (t := 50) hrq ?_;intro gb114 hg w9 hbox hb;have n_ := haq (zd hBq hb) <| haq (hbox) <| haq ((by rw [hg];exact (zf hBq) : w.heap.size ≤ gb114)) <| haq ((by rw [hg];exact (zf hBq) : w.heap.size ≤ gb114)) <| trivial;clear HB;obtain ⟨HB,BK114,GW114,GE114,_⟩ := n_;clear hb hbox hg;obtain ⟨hcz10_0,hcz10_1,hcz10_2,hfz10_0,hfz10_1,hfz10_2⟩ := hcq3 BK114.out) | ((with_reducible refine zv (f := 41) rfl ?_);refine zT (some 5) rfl rfl Try.func41 (by kernel_rfl) rfl #[.agg #[.int .i64 a0_0,.int .i64 a0_1,.slice A0_2 l0_2.length c0_2]] rfl hMq ?_;(with_reducible refine (zaw.calls a0_0 a0_1 _ _ l0_2 true _ ?side1 ?side2 A2.out).mono ?_);(case side1 => exact hKq (Kd.C_below HR0_2.out HB.out));(case side2 => exact HC0_2.out);rintro e w11 ⟨rfl,hb⟩;refine ⟨_,rfl,?_⟩;have n_ := haq (hbq BK114.out hb) <| haq (zd hCq hb) <| trivial;clear BK114 HB;obtain ⟨BK114,HB,_⟩ := n_;(try clear hb);(try clear hb2);(try clear hk);(try clear hi)))
    have n0_ := za.mk (zav BK114.out)
    have n1_ := za.mk (zn HB.out)
    clear BK114
    clear HB
    have BK114 := n0_
    have HB := n1_
    clear n0_ n1_
    refine zcq (n := 15) (S := fun w' => w'.cell? ⟨gb114,0,none⟩ = some (.int .i64 a0_0) ∧ w'.cell? ⟨gb114,1,none⟩ = some (.int .i64 a0_1) ∧ w'.cell? ⟨gb114,2,none⟩ = some (.slice A0_2 l0_2.length c0_2)) (ds := []) (uQ 15 0) (by kernel_rfl) rfl rfl ⟨(zb BK114.out 0).trans rfl,(zb BK114.out 1).trans rfl,(zb BK114.out 2).trans rfl⟩ (fun hHeld => ?_);refine zbM zad.tab3 zad.bits3 (fun HT_ HW_ => ?_)
    generalize w11.drew = w12 at BK114 HB hHeld ⊢
    refine puq (i := 0) (N := some 7) HT_.out (uQ 15 1) ?_
    refine puq (i := 4) (N := some 11) HT_.out #[true,false,false,false,true,false,false,false,false,false,false,false,false,false,false] ?_
    refine puq (i := 9) (N := some 16) HT_.out #[true,false,false,false,true,false,false,false,false,true,false,false,false,false,false] ?_
    refine take_ (i := 1) (N := some 8) #[true,true,false,false,true,false,false,false,false,true,false,false,false,false,false] rfl rfl (zaD HT_.out HW_.out (by kernel_rfl)) (fun _ _ _ h => h) (Or.inl ⟨by rfl,by rintro w' ⟨s0,s1,s2⟩;go_simp;with_reducible rfl⟩) hHeld hPq ?_
    refine puq (i := 2) (N := some 9) HT_.out #[true,true,true,false,true,false,false,false,false,true,false,false,false,false,false] ?_
    refine take_ (i := 5) (N := some 12) #[true,true,true,false,true,true,false,false,false,true,false,false,false,false,false] rfl rfl (zaD HT_.out HW_.out (by kernel_rfl)) (fun _ _ _ h => h) (Or.inl ⟨by rfl,by rintro w' ⟨s0,s1,s2⟩;go_simp;with_reducible rfl⟩) hHeld hPq ?_
    refine puq (i := 6) (N := some 13) HT_.out #[true,true,true,false,true,true,true,false,false,true,false,false,false,false,false] ?_
    refine take_ (i := 10) (N := some 17) #[true,true,true,false,true,true,true,false,false,true,true,false,false,false,false] rfl rfl (zaD HT_.out HW_.out (by kernel_rfl)) (fun _ _ _ h => h) (Or.inl ⟨by rfl,by rintro w' ⟨s0,s1,s2⟩;go_simp;with_reducible rfl⟩) hHeld hPq ?_
    refine zcg (i := 3) (N := some 10) #[true,true,true,true,true,true,true,false,false,true,true,false,false,false,false] rfl rfl (zbp HT_.out (by kernel_rfl)) (by decide) (fun K hK => ?_)
    refine zbz Try.func53 (by kernel_rfl) rfl #[.int .u64 (IntKind.u64.wrap (a0_0))] (by rfl) rfl rfl hMq ?_
    with_reducible refine (z4.calls (IntKind.u64.wrap (a0_0)) t116 _ A4.out).mono ?_
    rintro e w13 ⟨rfl,hb⟩
    refine ⟨_,rfl,?_⟩
    have n0_ := za.mk (hbq BK114.out hb)
    have n1_ := za.mk (zd hCq hb)
    clear BK114
    clear HB
    have BK114 := n0_
    have HB := n1_
    clear n0_ n1_
    (try clear hb)
    (try clear hb2)
    (try clear hk)
    (try clear hi)
    refine hK.out _ _ ⟨(zb BK114.out 0).trans rfl,(zb BK114.out 1).trans rfl,(zb BK114.out 2).trans rfl⟩ (fun hHeld => ?_)
    clear hK K
    refine zbr (a' := ?_) ?_ ?_
    rotate_left
    ·show Act.put _ (some 10) _ = _
     simp only [Act.put,List.setIfInBounds_toArray,List.set_cons_zero,List.set_cons_succ,zaB,zaL]
     rfl
    refine zcg (i := 7) (N := some 14) #[true,true,true,true,true,true,true,true,false,true,true,false,false,false,false] rfl rfl (zbp HT_.out (by kernel_rfl)) (by decide) (fun K hK => ?_)
    refine zbz Try.func53 (by kernel_rfl) rfl #[.int .u64 (IntKind.u64.wrap (a0_1))] (by rfl) rfl rfl hMq ?_
    with_reducible refine (z4.calls (IntKind.u64.wrap (a0_1)) t117 _ A5.out).mono ?_
    rintro e w14 ⟨rfl,hb⟩
    refine ⟨_,rfl,?_⟩
    have n0_ := za.mk (hbq BK114.out hb)
    have n1_ := za.mk (zd hCq hb)
    clear BK114
    clear HB
    have BK114 := n0_
    have HB := n1_
    clear n0_ n1_
    (try clear hb)
    (try clear hb2)
    (try clear hk)
    (try clear hi)
    refine hK.out _ _ ⟨(zb BK114.out 0).trans rfl,(zb BK114.out 1).trans rfl,(zb BK114.out 2).trans rfl⟩ (fun hHeld => ?_)
    clear hK K
    refine zbr (a' := ?_) ?_ ?_
    rotate_left
    ·show Act.put _ (some 14) _ = _
     simp only [Act.put,List.setIfInBounds_toArray,List.set_cons_zero,List.set_cons_succ,zaB,zaL]
     rfl
    refine puq (i := 8) (N := some 15) HT_.out (uQ 15 11) ?_
    refine zcg (i := 11) (N := some 18) (uQ 15 12) rfl rfl (zbp HT_.out (by kernel_rfl)) (by decide) (fun K hK => ?_)
    refine zbz Try.func54 (by kernel_rfl) rfl #[.slice A0_2 l0_2.length c0_2] (by rfl) rfl rfl hMq ?_
    with_reducible refine (zJ.calls _ _ l0_2 t118 _ ?side1 ?side2 A7.out).mono ?_
    (case side1 => exact hKq (Kd.C_below HR0_2.out HB.out))
    (case side2 => exact HC0_2.out)
    rintro e w15 ⟨rfl,hb⟩
    refine ⟨_,rfl,?_⟩
    have n0_ := za.mk (hbq BK114.out hb)
    have n1_ := za.mk (zd hCq hb)
    clear BK114
    clear HB
    have BK114 := n0_
    have HB := n1_
    clear n0_ n1_
    (try clear hb)
    (try clear hb2)
    (try clear hk)
    (try clear hi)
    refine hK.out _ _ ⟨(zb BK114.out 0).trans rfl,(zb BK114.out 1).trans rfl,(zb BK114.out 2).trans rfl⟩ (fun hHeld => ?_)
    clear hK K
    refine zbr (a' := ?_) ?_ ?_
    rotate_left
    ·show Act.put _ (some 18) _ = _
     simp only [Act.put,List.setIfInBounds_toArray,List.set_cons_zero,List.set_cons_succ,zaB,zaL]
     rfl
    refine puq (i := 12) (N := some 19) HT_.out (uQ 15 13) ?_
    refine puq (i := 13) (N := some 2) HT_.out (uQ 15 14) ?_
    refine puq (i := 14) (N := some 3) HT_.out (uQ 15 15) ?_
    refine zdc (zcu HT_.out (by kernel_rfl)) ?_
    try go_wp2
    go_ret2
    exact ⟨hHq,hCq⟩
   ·rw [if_neg c8] at H
    exact absurd H (by simp)
  ·rw [if_neg c6] at H
   exact absurd H (by simp)
 ·replace c3 := Bool.eq_false_iff.mpr c3
  subst c3
  have H1 : (some ((⟨#[]⟩ : ByteArray),1)) = some (r1,r2) := by rw [if_neg (show ¬ (false = true) by decide)] at H;exact H
  clear H
  have H := H1
  clear H1
  simp only [Option.some.injEq,Prod.mk.injEq] at H
  obtain ⟨rfl,rfl⟩ := H
  go_enter Try.func28,Try.ntmps28
  go_wp2_with (first | ((with_reducible refine zo (N := 1) rfl ?_);refine zk rfl (N := 1) rfl (cs := #[.int .i64 a0_0,.int .i64 a0_1,.slice A0_2 l0_2.length c0_2]) (t := 50) hrq ?_;intro gb114 hg w16 hbox hb;have n_ := haq (zd hBq hb) <| haq (hbox) <| haq ((by rw [hg];exact (zf hBq) : w.heap.size ≤ gb114)) <| haq ((by rw [hg];exact (zf hBq) : w.heap.size ≤ gb114)) <| trivial;clear HB;obtain ⟨HB,BK114,GW114,GE114,_⟩ := n_;clear hb hbox hg;obtain ⟨hcz17_0,hcz17_1,hcz17_2,hfz17_0,hfz17_1,hfz17_2⟩ := hcq3 BK114.out) | ((with_reducible refine zv (f := 41) rfl ?_);refine zT (some 5) rfl rfl Try.func41 (by kernel_rfl) rfl #[.agg #[.int .i64 a0_0,.int .i64 a0_1,.slice A0_2 l0_2.length c0_2]] rfl hMq ?_;(with_reducible refine (zaw.calls a0_0 a0_1 _ _ l0_2 false _ ?side1 ?side2 A2.out).mono ?_);(case side1 => exact hKq (Kd.C_below HR0_2.out HB.out));(case side2 => exact HC0_2.out);rintro e w18 ⟨rfl,hb⟩;refine ⟨_,rfl,?_⟩;have n_ := haq (hbq BK114.out hb) <| haq (zd hCq hb) <| trivial;clear BK114 HB;obtain ⟨BK114,HB,_⟩ := n_;(try clear hb);(try clear hb2);(try clear hk);(try clear hi)))
  go_ret2
  exact ⟨hHq,hCq⟩
theorem rdOf_at (l : List ByteArray) (j : Nat) (h : j < l.length) : zu ByteArray.empty l (j : Int) = l[j] := by
 rw [zu,Int.toNat_natCast,List.getD_eq_getElem?_getD,List.getElem?_eq_getElem h];rfl
theorem zdF (a b : ByteArray) : a.toList = b.toList ↔ a = b := by
 rw [zb4,zb4]
 exact ⟨fun h => zhs h,fun h => by rw [h]⟩
theorem zeT (a b : ByteArray) : (a.toList == b.toList) = decide (a = b) := by
 rw [Bool.eq_iff_iff];simp [zdF]
theorem zcO (l : List ByteArray) (m : Nat) (hm : m < 18446744073709551616) (h : ∀ t ∈ l,t.size ≤ m) : (za5 l).length ≤ l.length * (m + 9) := by
 induction l with
 | nil => simp [za5]
 | cons t l ih =>
  have e : za5 (t :: l) = zfk (ofB t) ++ za5 l := rfl
  have h1 := h t List.mem_cons_self
  have h2 := ih (fun x hx => h x (List.mem_cons_of_mem _ hx))
  have h3 := zan (v := (ofB t).length) (by rw [zaa];omega)
  rw [e,List.length_append,zfk,List.length_append,zaa,List.length_cons,Nat.succ_mul]
  rw [zaa] at h3
  omega
theorem zcJ (o q : Int) (l : List ByteArray) : zcI o q l = true ↔ 1 ≤ o ∧ o ≤ 64 ∧ 1 ≤ q ∧ q ≤ 1073741824 ∧ 1 ≤ l.length ∧ l.length ≤ 4 ∧ ∀ t ∈ l,1 ≤ t.size ∧ t.size ≤ 48 := by
 unfold zcI
 simp only [Bool.and_eq_true,decide_eq_true_eq,Bool.not_eq_true',List.any_eq_false]
 constructor
 ·rintro ⟨⟨⟨⟨⟨⟨h1,h2⟩,h3⟩,h4⟩,h5⟩,h6⟩,h7⟩
  refine ⟨h1,h2,h3,h4,h5,h6,fun t ht => ?_⟩
  have h8 := h7 t ht
  simp only [zbY,Bool.or_eq_true,decide_eq_true_eq,not_or] at h8
  omega
 ·rintro ⟨h1,h2,h3,h4,h5,h6,h7⟩
  refine ⟨⟨⟨⟨⟨⟨h1,h2⟩,h3⟩,h4⟩,h5⟩,h6⟩,fun t ht => ?_⟩
  have h8 := h7 t ht
  simp only [zbY,Bool.or_eq_true,decide_eq_true_eq,not_or]
  omega
def zck (o q : Int) (l : List ByteArray) : Bs := zcA o.toNat ++ zcA q.toNat ++ zbB l
theorem zc9 (o q : Int) (l : List ByteArray) : zad.f o q l = some (if zcI o q l = true then (toB (zck o q l),0) else ((⟨#[]⟩ : ByteArray),1)) := by
 unfold zad.f zaw.f
 rw [Option.bind_some]
 by_cases h : zcI o q l = true
 ·rw [if_pos h,if_pos h]
  obtain ⟨h1,h2,h3,h4,h5,h6,h7⟩ := (zcJ o q l).1 h
  obtain ⟨a,rfl⟩ := Int.eq_ofNat_of_zero_le (show 0 ≤ o by omega)
  obtain ⟨b,rfl⟩ := Int.eq_ofNat_of_zero_le (show 0 ≤ q by omega)
  have r1 := zcO l 48 (by omega) (fun t ht => (h7 t ht).2)
  have r2 := zan (v := l.length) (by omega)
  have r3 : (zbB l).length ≤ 300 := by rw [zbB,List.length_append];omega
  have n1 := zaE (v := a) (by omega)
  have n2 := zaE (v := b) (by omega)
  have r4 : zJ.f l = some (toB (zbB l)) := by unfold zJ.f;rw [if_pos (by omega)]
  rw [zbb (by omega) (by omega),zbb (by omega) (by omega),zcz a (by omega),zcz b (by omega)]
  simp only [Option.bind_some]
  rw [if_pos (by omega),r4]
  simp only [Option.bind_some]
  rw [if_pos (by rw [ByteArray.size_append,zac];omega),zck,zaK,zaK,Int.toNat_natCast,Int.toNat_natCast]
  rfl
 ·rw [if_neg h,if_neg h]
def bB (b : S50) : ByteArray := if zcI b.f0 b.f1 b.f2 = true then toB (zck b.f0 b.f1 b.f2) else (⟨#[]⟩ : ByteArray)
theorem zal.one (b : S50) (A : Option Addr) (c : Nat) (w : World) (hr : Kd.C Kd.string w A b.f2.length b.f2) (hc : b.f2.length ≤ c) :
  Calls Try.prog 50 #[.agg #[.int .i64 b.f0,.int .i64 b.f1,.slice A b.f2.length c]] w fun e w' => e = .returned (.string (bB b)) ∧ Below w.heap.size w w' := by
 obtain ⟨e,he⟩ : ∃ e,zad.f b.f0 b.f1 b.f2 = some (bB b,e) := by
  rw [zc9,bB]
  split
  ·exact ⟨_,rfl⟩
  ·exact ⟨_,rfl⟩
 have HE := za.mk he
 have HR := za.mk hr
 have HC := za.mk hc
 clear he hr hc
 generalize bB b = s at *
 obtain ⟨b0,b1,b2⟩ := b
 go_enter Try.func50,Try.ntmps50
 go_wp2_with (first
  | ((with_reducible refine zo (N := 1) rfl ?_);refine zk rfl (N := 1) rfl (cs := #[.int .i64 b0,.int .i64 b1,.slice A b2.length c]) (t := 50) hrq ?_;intro gb hg w2 hbox hb;have BK := za.mk hbox;have HB := za.mk hb;clear hb hbox hg;have hz0 := (zb BK.out 0).trans rfl;have hz1 := (zb BK.out 1).trans rfl;have hz2 := (zb BK.out 2).trans rfl;have hf0 := zc BK.out 0;have hf1 := zc BK.out 1;have hf2 := zc BK.out 2)
  | (go_at_call 28;(with_reducible refine (zad.calls b0 b1 _ _ b2 _ _ _ (Kd.C_below HR.out HB.out) HC.out HE.out).mono ?_);rintro e w3 ⟨rfl,hb⟩;have HB3 := za.mk (zd HB.out hb);clear hb))
 go_ret
 exact ⟨rfl,HB3.out⟩
theorem zal.infoS : (Try.prog.info? 9).map (fun i => (i.zero,i.size,i.bytes)) = some (some (.string ⟨#[]⟩),1,16) := by kernel_rfl
set_option maxHeartbeats 4000000 in
set_option maxRecDepth 100000 in
theorem zal.walk (A : Option Addr) (c : Nat) (l : List S50) (w : World) (hr : Kd.C k50 w A l.length l) (hc : l.length ≤ c) (h4 : l.length ≤ 4) :
  Calls Try.prog 49 #[.slice A l.length c,.func (.func 50) #[] #[]] w fun e w' => ∃ v,e = .returned v ∧ Kd.R Kd.string 9 w' w.heap.size (fun _ => True) v (l.map bB) ∧ Below w.heap.size w w' := by
 have HR := za.mk hr
 clear hr
 go_enter Try.func49,Try.ntmps49
 go_wp2_with fail
 have HB0 := za.mk (Below.refl w.heap.size w)
 go_loopw [5,10] (fun v5 v10 wr => ∃ k : Nat,v10 = .int .i64 k ∧ k ≤ l.length ∧ za (Kd.R Kd.string 9 wr w.heap.size (fun _ => True) v5 ((l.take k).map bB)) ∧ za (Below w.heap.size w wr)) (fun _ v10 _ => l.length - (match v10 with | .int _ q => q | _ => 0).toNat)
 case atStart => exact ⟨0,rfl,Nat.zero_le _,⟨Kd.R_nil _ _ _ _ _⟩,HB0⟩
 case round =>
  obtain ⟨k,rfl,hk,HO,HB⟩ := hrel
  by_cases hlt : k < l.length
  ·obtain ⟨ad,A2,c2,rfl,hx0,hx1,hx2,hl2,hi2⟩ := zbZ HR.out (k : Int) (by omega) (by omega)
   replace hx0 := (HB.out.cell (World.block_lt_of_cell? w _ hx0)).trans hx0
   replace hx1 := (HB.out.cell (World.block_lt_of_cell? w _ hx1)).trans hx1
   replace hx2 := (HB.out.cell (World.block_lt_of_cell? w _ hx2)).trans hx2
   rw [Int.toNat_natCast] at hx0 hx1 hx2
   have hb : decide (k < l.length) = true := decide_eq_true hlt
   have ht : l.take (k + 1) = l.take k ++ [zG l (k : Int)] := by
    rw [zG,Int.toNat_natCast,List.getD_eq_getElem?_getD,List.getElem?_eq_getElem hlt,List.take_add_one,List.getElem?_eq_getElem hlt];rfl
   have HT := za.mk ht
   have HL2 := za.mk hl2
   have HI2 := za.mk (Kd.C_below hi2 HB.out)
   clear ht hl2 hi2
   generalize zG l (k : Int) = s at *
   obtain ⟨s0,s1,s2⟩ := s
   have HLN : za ((((l.take k).map bB).length + 1) * 16 ≤ 140737488355328) := ⟨by rw [List.length_map,List.length_take];omega⟩
   have HM : za ((l.take (k + 1)).map bB = (l.take k).map bB ++ [bB ⟨s0,s1,s2⟩]) := ⟨by rw [HT.out,List.map_append];rfl⟩
   go_wp2_with (first
    | (go_at_call 50;(with_reducible refine (zal.one ⟨s0,s1,s2⟩ _ _ _ (Kd.C_below HI2.out (zw (Below.refl _ _) _)) HL2.out).mono ?_);rintro e w1 ⟨rfl,hb1⟩;have HB1 := za.mk (zd (zw HB.out _) hb1);have HO1 := za.mk (Kd.R_below HO.out (zd (zw (Below.refl _ _) _) hb1));clear hb1)
    | (at_builtin;refine Kd.R_append Kd.string (w0 := w) w.heap.size rfl (.tmp 14) (.tmp 18) 24 9 (.string ⟨#[]⟩) 16 rfl Try.underlying24 zal.infoS rfl (by decide) (by omega) _ ((l.take k).map bB) (bB ⟨s0,s1,s2⟩) [.string (bB ⟨s0,s1,s2⟩)] (fun _ => True) (fun _ => False) rfl rfl ?aP (fun _ hk => hk.elim) ?aF ?aO ?aB ?aS ?aL ?_;(case aP => exact rfl);(case aF => exact (fun _ _ => trivial));(case aO => exact HO1.out);(case aB => exact HB1.out);(case aS => exact (zf HB1.out));(case aL => exact HLN.out);intro v3 w3 ho hb hg hat;have HX := za.mk ho;have HB3 := za.mk hb;clear ho hb hg hat))
   go_roundw
   case rel => exact ⟨k + 1,by go_num,by omega,⟨by rw [HM.out];exact HX.out⟩,HB3⟩
   case measure => simp;omega
  ·obtain rfl : k = l.length := by omega
   go_wp2_with fail
   go_ret
   exact ⟨_,rfl,by have := HO.out;rwa [List.take_length] at this,HB.out⟩
def zal.f (l0 : List S50) : Option (List ByteArray) := if l0.length ≤ 4 then some (l0.map bB) else none
theorem zal.calls (A0 : Option Addr) (c0 : Nat) (l0 : List S50) (r : List ByteArray) (w : World) (hr0 : Kd.C k50 w A0 l0.length l0) (hc0 : l0.length ≤ c0) (h : zal.f l0 = some r) :
  Calls Try.prog 49 #[.slice A0 l0.length c0,.func (.func 50) #[] #[]] w fun e w' => ∃ v0_ : Value,e = .returned v0_ ∧ Kd.R Kd.string 9 w' w.heap.size (fun _ => True) v0_ r ∧ Below w.heap.size w w' := by
 unfold zal.f at h
 split at h
 ·rename_i h4
  obtain rfl := Option.some.inj h
  exact zal.walk A0 c0 l0 w hr0 hc0 h4
 ·cases h
theorem zab.infoS : (Try.prog.info? 9).map (fun i => (i.zero,i.size,i.bytes)) = some (some (.string ⟨#[]⟩),1,16) := by kernel_rfl
theorem zab.num (k : Int) (w : World) (h0 : 0 ≤ k) (h1 : k < 9223372036854775808) :
  Calls Try.prog 52 #[.int .i64 k] w fun e w' => e = .returned (.string (zaZ k.toNat)) ∧ Below w.heap.size w w' := by
 have hn : z4.f (IntKind.u64.wrap k) = some (zaZ k.toNat) := by rw [zbb h0 (by omega),z4.f,if_pos h0,if_pos (by omega)]
 have HN := za.mk hn
 clear hn h0 h1
 generalize zaZ k.toNat = s at *
 go_enter Try.func52,Try.ntmps52
 go_wp2_with (go_at_call 53;(with_reducible refine (z4.calls _ _ _ HN.out).mono ?_);rintro e w3 ⟨rfl,hb⟩;have HB3 := za.mk hb;clear hb)
 go_ret
 exact ⟨rfl,HB3.out⟩
set_option maxHeartbeats 4000000 in
set_option maxRecDepth 100000 in
theorem zab.walk (A : Option Addr) (c : Nat) (l : List Int) (w : World) (hr : Kd.C (Kd.int .i64) w A l.length l) (hc : l.length ≤ c) (h4 : l.length ≤ 4) (hp : ∀ k ∈ l,0 ≤ k ∧ k < 9223372036854775808) :
  Calls Try.prog 51 #[.slice A l.length c,.func (.func 52) #[] #[]] w fun e w' => ∃ v,e = .returned v ∧ Kd.R Kd.string 9 w' w.heap.size (fun _ => True) v (l.map (fun k => zaZ k.toNat)) ∧ Below w.heap.size w w' := by
 have HR := za.mk hr
 have HP := za.mk hp
 clear hr hp
 go_enter Try.func51,Try.ntmps51
 go_wp2_with fail
 have HB0 := za.mk (Below.refl w.heap.size w)
 go_loopw [5,10] (fun v5 v10 wr => ∃ k : Nat,v10 = .int .i64 k ∧ k ≤ l.length ∧ za (Kd.R Kd.string 9 wr w.heap.size (fun _ => True) v5 ((l.take k).map (fun k => zaZ k.toNat))) ∧ za (Below w.heap.size w wr)) (fun _ v10 _ => l.length - (match v10 with | .int _ q => q | _ => 0).toNat)
 case atStart => exact ⟨0,rfl,Nat.zero_le _,⟨Kd.R_nil _ _ _ _ _⟩,HB0⟩
 case round =>
  obtain ⟨k,rfl,hk,HO,HB⟩ := hrel
  by_cases hlt : k < l.length
  ·obtain ⟨ad,rfl,hx0⟩ := Kd.at_int HR.out (k : Int) (by omega) (by omega)
   replace hx0 := (HB.out.cell (World.block_lt_of_cell? w _ hx0)).trans hx0
   rw [Int.toNat_natCast] at hx0
   have hb : decide (k < l.length) = true := decide_eq_true hlt
   have hd : rd l (k : Int) = l[k] := by
    rw [rd,Int.toNat_natCast,List.getD_eq_getElem?_getD,List.getElem?_eq_getElem hlt];rfl
   have hpk := HP.out _ (List.getElem_mem hlt)
   have ht : l.take (k + 1) = l.take k ++ [l[k]] := by
    rw [List.take_add_one,List.getElem?_eq_getElem hlt];rfl
   rw [hd] at hx0
   generalize l[k] = s at *
   have HM : za ((l.take (k + 1)).map (fun k => zaZ k.toNat) = (l.take k).map (fun k => zaZ k.toNat) ++ [zaZ s.toNat]) := ⟨by rw [ht,List.map_append];rfl⟩
   have HLN : za ((((l.take k).map (fun k => zaZ k.toNat)).length + 1) * 16 ≤ 140737488355328) := ⟨by rw [List.length_map,List.length_take];omega⟩
   have HPK := za.mk hpk
   clear hpk ht hd
   go_wp2_with (first
    | (go_at_call 52;(with_reducible refine (zab.num s _ HPK.out.1 HPK.out.2).mono ?_);rintro e w1 ⟨rfl,hb1⟩;have HB1 := za.mk (zd HB.out hb1);have HO1 := za.mk (Kd.R_below HO.out hb1);clear hb1)
    | (at_builtin;refine Kd.R_append Kd.string (w0 := w) w.heap.size rfl (.tmp 14) (.tmp 18) 24 9 (.string ⟨#[]⟩) 16 rfl Try.underlying24 zab.infoS rfl (by decide) (by omega) _ ((l.take k).map (fun k => zaZ k.toNat)) (zaZ s.toNat) [.string (zaZ s.toNat)] (fun _ => True) (fun _ => False) rfl rfl ?aP (fun _ hk => hk.elim) ?aF ?aO ?aB ?aS ?aL ?_;(case aP => exact rfl);(case aF => exact (fun _ _ => trivial));(case aO => exact HO1.out);(case aB => exact HB1.out);(case aS => exact (zf HB1.out));(case aL => exact HLN.out);intro v3 w3 ho hb hg hat;have HX := za.mk ho;have HB3 := za.mk hb;clear ho hb hg hat))
   go_roundw
   case rel => exact ⟨k + 1,by go_num,by omega,⟨by rw [HM.out];exact HX.out⟩,HB3⟩
   case measure => simp;omega
  ·obtain rfl : k = l.length := by omega
   go_wp2_with fail
   go_ret
   exact ⟨_,rfl,by have := HO.out;rwa [List.take_length] at this,HB.out⟩
def zab.f (l0 : List Int) : Option (List ByteArray) := if l0.length ≤ 4 ∧ ∀ k ∈ l0,0 ≤ k ∧ k < 9223372036854775808 then some (l0.map (fun k => zaZ k.toNat)) else none
theorem zab.calls (A0 : Option Addr) (c0 : Nat) (l0 : List Int) (r : List ByteArray) (w : World) (hr0 : Kd.C (Kd.int .i64) w A0 l0.length l0) (hc0 : l0.length ≤ c0) (h : zab.f l0 = some r) :
  Calls Try.prog 51 #[.slice A0 l0.length c0,.func (.func 52) #[] #[]] w fun e w' => ∃ v0_ : Value,e = .returned v0_ ∧ Kd.R Kd.string 9 w' w.heap.size (fun _ => True) v0_ r ∧ Below w.heap.size w w' := by
 unfold zab.f at h
 split at h
 ·rename_i h4
  obtain rfl := Option.some.inj h
  exact zab.walk A0 c0 l0 w hr0 hc0 h4.1 h4.2
 ·cases h
end Go.Proofs.Ytcncoepijagadaa.Px