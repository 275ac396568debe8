/- Part 8 of 25 of the proof of the law DagOrder: what is proved is the statement at the end of the last part; its conditions are those of the given row. -/
import Derived.Test.YtklhjlaofkngcaaZDagOrderG
namespace Go.Proofs.Ytklhjlaofkngcaa.Px
open Go.RowKit Go.Proofs.YtklhjlaofkngcaaW.PrintWords Go.Proofs.YtklhjlaofkngcaaW.PrintLast Go.Proofs.YtklhjlaofkngcaaW.PrintMore
attribute [local go_sem] zx zz zE zF zr zt zy zA
set_option linter.unusedVariables false
set_option linter.unusedSimpArgs false
def zaj.f (a0_0 : Int) (a0_1 : Int) (l0_2 : List ByteArray) : Option (ByteArray × Int) := (zam.f a0_0 a0_1 l0_2).bind fun t115 => (if t115 = true then ((zV.f (IntKind.u64.wrap (a0_0))).bind fun t116 => ((zV.f (IntKind.u64.wrap (a0_1))).bind fun t117 => (if t116.size + t117.size ≤ 9223372036854775807 then ((zK.f l0_2).bind fun t118 => (if (t116 ++ t117).size + t118.size ≤ 9223372036854775807 then (some ((t116 ++ t117) ++ t118,0)) else (none))) else (none)))) else (some ((⟨#[]⟩ : ByteArray),1)))
def zaj.T3 : Bool × List (List Nat × List Nat) := (true,[([],[]),([0],[0]),([1],[1]),([2],[2]),([],[]),([4],[4]),([5],[5]),([6,3],[6]),([3,7],[3,7]),([],[]),([9],[9]),([10,7],[10]),([8,11],[8,11]),([12,11,0,1,2,3,4,5,6,7,8,9,10,11,12],[12]),([13,0,1,2,3,4,5,6,7,8,9,10,11,12,13],[])])
def zaj.B3 : List Nat := [0,1,3,7,0,16,48,127,255,0,512,1791,4095,8191,16383]
theorem zaj.tab3 : zbj .any (zdu Try.f52 3) = zaj.T3 := by kernel_rfl
theorem zaj.bits3 : zba zaj.T3.2 zaj.B3 = true := by kernel_rfl
set_option maxHeartbeats 8000000 in
set_option maxRecDepth 100000 in
theorem zaj.calls (a0_0 : Int) (a0_1 : Int) (A0_2 : Option Addr) (c0_2 : Nat) (l0_2 : List ByteArray) (r1 : ByteArray) (r2 : Int) (w : World) (hr0_2 : Kd.C Kd.string w A0_2 l0_2.length l0_2) (hc0_2 : l0_2.length ≤ c0_2) (h : zaj.f a0_0 a0_1 l0_2 = some (r1,r2)) :
  Calls Try.prog 52 #[.agg #[.int .i64 a0_0,.int .i64 a0_1,.slice A0_2 l0_2.length c0_2]] w fun e w' => e = .returned (.tuple #[.string r1,.int .i64 r2]) ∧ Below w.heap.size w w' := by
 have hu72 := Try.underlying72
 have HR0_2 := zb.mk hr0_2
 have HC0_2 := zb.mk hc0_2
 clear hr0_2 hc0_2
 have HB := zb.mk (Below.refl w.heap.size w)
 have H : ((zam.f a0_0 a0_1 l0_2).bind fun t115 => (if t115 = true then ((zV.f (IntKind.u64.wrap (a0_0))).bind fun t116 => ((zV.f (IntKind.u64.wrap (a0_1))).bind fun t117 => (if t116.size + t117.size ≤ 9223372036854775807 then ((zK.f l0_2).bind fun t118 => (if (t116 ++ t117).size + t118.size ≤ 9223372036854775807 then (some ((t116 ++ t117) ++ t118,0)) else (none))) else (none)))) else (some ((⟨#[]⟩ : ByteArray),1)))) = some (r1,r2) := h
 clear h
 replace H := Option.bind_eq_some_iff.mp H
 obtain ⟨t115,A20,H⟩ := H
 replace H : (if t115 = true then ((zV.f (IntKind.u64.wrap (a0_0))).bind fun t116 => ((zV.f (IntKind.u64.wrap (a0_1))).bind fun t117 => (if t116.size + t117.size ≤ 9223372036854775807 then ((zK.f l0_2).bind fun t118 => (if (t116 ++ t117).size + t118.size ≤ 9223372036854775807 then (some ((t116 ++ t117) ++ t118,0)) else (none))) else (none)))) else (some ((⟨#[]⟩ : ByteArray),1))) = some (r1,r2) := H
 have A2 := zb.mk A20
 clear A20
 by_cases c3 : t115 = true
 ·subst c3
  have H1 : ((zV.f (IntKind.u64.wrap (a0_0))).bind fun t116 => ((zV.f (IntKind.u64.wrap (a0_1))).bind fun t117 => (if t116.size + t117.size ≤ 9223372036854775807 then ((zK.f l0_2).bind fun t118 => (if (t116 ++ t117).size + t118.size ≤ 9223372036854775807 then (some ((t116 ++ t117) ++ t118,0)) else (none))) else (none)))) = some (r1,r2) := by rw [if_pos rfl] at H;exact H
  clear H
  have H := H1
  clear H1
  replace H := Option.bind_eq_some_iff.mp H
  obtain ⟨t116,A40,H⟩ := H
  replace H : ((zV.f (IntKind.u64.wrap (a0_1))).bind fun t117 => (if t116.size + t117.size ≤ 9223372036854775807 then ((zK.f l0_2).bind fun t118 => (if (t116 ++ t117).size + t118.size ≤ 9223372036854775807 then (some ((t116 ++ t117) ++ t118,0)) else (none))) else (none))) = some (r1,r2) := H
  have A4 := zb.mk A40
  clear A40
  replace H := Option.bind_eq_some_iff.mp H
  obtain ⟨t117,A50,H⟩ := H
  replace H : (if t116.size + t117.size ≤ 9223372036854775807 then ((zK.f l0_2).bind fun t118 => (if (t116 ++ t117).size + t118.size ≤ 9223372036854775807 then (some ((t116 ++ t117) ++ t118,0)) else (none))) else (none)) = some (r1,r2) := H
  have A5 := zb.mk A50
  clear A50
  by_cases c6 : t116.size + t117.size ≤ 9223372036854775807
  ·rw [if_pos c6] at H
   have c6b0 := eq_true c6
   have c6b1 : decide (t116.size + t117.size ≤ 9223372036854775807) = true := decide_eq_true c6
   try have c6b2 : (9223372036854775807 < t116.size + t117.size) = False := eq_false (Nat.not_lt.2 c6)
   replace H := Option.bind_eq_some_iff.mp H
   obtain ⟨t118,A70,H⟩ := H
   replace H : (if (t116 ++ t117).size + t118.size ≤ 9223372036854775807 then (some ((t116 ++ t117) ++ t118,0)) else (none)) = some (r1,r2) := H
   have A7 := zb.mk A70
   clear A70
   by_cases c8 : (t116 ++ t117).size + t118.size ≤ 9223372036854775807
   ·rw [if_pos c8] at H
    have c8b0 := eq_true c8
    have c8b1 : decide ((t116 ++ t117).size + t118.size ≤ 9223372036854775807) = true := decide_eq_true c8
    try have c8b2 : (9223372036854775807 < (t116 ++ t117).size + t118.size) = False := eq_false (Nat.not_lt.2 c8)
    try (have c8b3 := c8;simp [ByteArray.size_append] at c8b3;have c8b4 := eq_false (Nat.not_lt.2 c8b3);clear c8b3)
    simp only [Option.some.injEq,Prod.mk.injEq] at H
    obtain ⟨rfl,rfl⟩ := H
    go_enter Try.func52,Try.ntmps52
    try go_wp2_with (first | ((with_reducible refine zC (N := 1) rfl ?_);refine zw ?hg (N := 1) ?hd (cs := #[.int .i64 a0_0,.int .i64 a0_1,.slice A0_2 l0_2.length c0_2]) (t := 72) ?hr ?_;(case hd => rfl);(case hg => rfl);(case hr => first | (go_simp;done) | (go_simp;rfl));intro gb114 hg w9 hbox hb;have n_ := haq (zh hBq hb) <| haq (hbox) <| haq ((by rw [hg];exact (zn hBq) : w.heap.size ≤ gb114)) <| haq ((by rw [hg];exact (zn hBq) : w.heap.size ≤ gb114)) <| trivial;clear HB;obtain ⟨HB,BK114,GW114,GE114,_⟩ := n_;clear hb hbox hg;obtain ⟨hcz10_0,hcz10_1,hcz10_2,hfz10_0,hfz10_1,hfz10_2⟩ := hcq3 BK114.out) | ((with_reducible refine zN (f := 70) rfl ?_);refine zas (some 5) rfl rfl Try.func70 (by kernel_rfl) rfl #[.agg #[.int .i64 a0_0,.int .i64 a0_1,.slice A0_2 l0_2.length c0_2]] rfl hMq ?_;(with_reducible refine (zam.calls a0_0 a0_1 _ _ l0_2 true _ ?side1 ?side2 A2.out).mono ?_);(case side1 => exact hKq (Kd.C_below HR0_2.out HB.out));(case side2 => exact HC0_2.out);rintro e w11 ⟨rfl,hb⟩;refine ⟨_,rfl,?_⟩;have n_ := haq (hbq BK114.out hb) <| haq (zh hCq hb) <| trivial;clear BK114 HB;obtain ⟨BK114,HB,_⟩ := n_;(try clear hb);(try clear hb2);(try clear hk);(try clear hi)))
    have n0_ := zb.mk (zab BK114.out)
    have n1_ := zb.mk (zG HB.out)
    clear BK114
    clear HB
    have BK114 := n0_
    have HB := n1_
    clear n0_ n1_
    refine zbt (n := 15) (S := fun w' => w'.cell? ⟨gb114,0,none⟩ = some (.int .i64 a0_0) ∧ w'.cell? ⟨gb114,1,none⟩ = some (.int .i64 a0_1) ∧ w'.cell? ⟨gb114,2,none⟩ = some (.slice A0_2 l0_2.length c0_2)) (ds := []) #[false,false,false,false,false,false,false,false,false,false,false,false,false,false,false] (by kernel_rfl) rfl rfl ⟨(za BK114.out 0).trans rfl,(za BK114.out 1).trans rfl,(za BK114.out 2).trans rfl⟩ (fun hHeld => ?_);refine zaA zaj.tab3 zaj.bits3 (fun HT_ HW_ => ?_)
    generalize w11.drew = w12 at BK114 HB hHeld ⊢
    refine zv (i := 0) (N := some 7) (v := ?_) (a' := ?_) #[true,false,false,false,false,false,false,false,false,false,false,false,false,false,false] rfl rfl (zj HT_.out (by kernel_rfl)) (fun _ _ _ h => h) (Or.inl ⟨by rfl,?_⟩) ?_ ?_
    rotate_left
    ·intro w'
     go_simp
     with_reducible rfl
    rotate_left
    ·simp only [Act.put,List.setIfInBounds_toArray,List.set_cons_zero,List.set_cons_succ,zk,zm]
     rfl
    refine zv (i := 4) (N := some 11) (v := ?_) (a' := ?_) #[true,false,false,false,true,false,false,false,false,false,false,false,false,false,false] rfl rfl (zj HT_.out (by kernel_rfl)) (fun _ _ _ h => h) (Or.inl ⟨by rfl,?_⟩) ?_ ?_
    rotate_left
    ·intro w'
     go_simp
     with_reducible rfl
    rotate_left
    ·simp only [Act.put,List.setIfInBounds_toArray,List.set_cons_zero,List.set_cons_succ,zk,zm]
     rfl
    refine zv (i := 9) (N := some 16) (v := ?_) (a' := ?_) #[true,false,false,false,true,false,false,false,false,true,false,false,false,false,false] rfl rfl (zj HT_.out (by kernel_rfl)) (fun _ _ _ h => h) (Or.inl ⟨by rfl,?_⟩) ?_ ?_
    rotate_left
    ·intro w'
     go_simp
     with_reducible rfl
    rotate_left
    ·simp only [Act.put,List.setIfInBounds_toArray,List.set_cons_zero,List.set_cons_succ,zk,zm]
     rfl
    refine take_ (i := 1) (N := some 8) (v := ?_) (a' := ?_) #[true,true,false,false,true,false,false,false,false,true,false,false,false,false,false] rfl rfl (zP HT_.out HW_.out (by kernel_rfl)) (fun _ _ _ h => h) (Or.inl ⟨by rfl,?_⟩) hHeld ?_ ?_
    rotate_left
    ·rintro w' ⟨s0,s1,s2⟩
     go_simp
     with_reducible rfl
    rotate_left
    ·simp only [Act.put,List.setIfInBounds_toArray,List.set_cons_zero,List.set_cons_succ,zk,zm]
     rfl
    refine zv (i := 2) (N := some 9) (v := ?_) (a' := ?_) #[true,true,true,false,true,false,false,false,false,true,false,false,false,false,false] rfl rfl (zj HT_.out (by kernel_rfl)) (fun _ _ _ h => h) (Or.inl ⟨by rfl,?_⟩) ?_ ?_
    rotate_left
    ·intro w'
     go_simp
     with_reducible rfl
    rotate_left
    ·simp only [Act.put,List.setIfInBounds_toArray,List.set_cons_zero,List.set_cons_succ,zk,zm]
     rfl
    refine take_ (i := 5) (N := some 12) (v := ?_) (a' := ?_) #[true,true,true,false,true,true,false,false,false,true,false,false,false,false,false] rfl rfl (zP HT_.out HW_.out (by kernel_rfl)) (fun _ _ _ h => h) (Or.inl ⟨by rfl,?_⟩) hHeld ?_ ?_
    rotate_left
    ·rintro w' ⟨s0,s1,s2⟩
     go_simp
     with_reducible rfl
    rotate_left
    ·simp only [Act.put,List.setIfInBounds_toArray,List.set_cons_zero,List.set_cons_succ,zk,zm]
     rfl
    refine zv (i := 6) (N := some 13) (v := ?_) (a' := ?_) #[true,true,true,false,true,true,true,false,false,true,false,false,false,false,false] rfl rfl (zj HT_.out (by kernel_rfl)) (fun _ _ _ h => h) (Or.inl ⟨by rfl,?_⟩) ?_ ?_
    rotate_left
    ·intro w'
     go_simp
     with_reducible rfl
    rotate_left
    ·simp only [Act.put,List.setIfInBounds_toArray,List.set_cons_zero,List.set_cons_succ,zk,zm]
     rfl
    refine take_ (i := 10) (N := some 17) (v := ?_) (a' := ?_) #[true,true,true,false,true,true,true,false,false,true,true,false,false,false,false] rfl rfl (zP HT_.out HW_.out (by kernel_rfl)) (fun _ _ _ h => h) (Or.inl ⟨by rfl,?_⟩) hHeld ?_ ?_
    rotate_left
    ·rintro w' ⟨s0,s1,s2⟩
     go_simp
     with_reducible rfl
    rotate_left
    ·simp only [Act.put,List.setIfInBounds_toArray,List.set_cons_zero,List.set_cons_succ,zk,zm]
     rfl
    refine zck (i := 3) (N := some 10) #[true,true,true,true,true,true,true,false,false,true,true,false,false,false,false] rfl rfl (zaM HT_.out (by kernel_rfl)) (by decide) (fun K hK => ?_)
    refine zbw Try.func55 (by kernel_rfl) rfl #[.int .u64 (IntKind.u64.wrap (a0_0))] (by rfl) rfl rfl hMq ?_
    with_reducible refine (zV.calls (IntKind.u64.wrap (a0_0)) t116 _ A4.out).mono ?_
    rintro e w13 ⟨rfl,hb⟩
    refine ⟨_,rfl,?_⟩
    have n0_ := zb.mk (hbq BK114.out hb)
    have n1_ := zb.mk (zh hCq hb)
    clear BK114
    clear HB
    have BK114 := n0_
    have HB := n1_
    clear n0_ n1_
    (try clear hb)
    (try clear hb2)
    (try clear hk)
    (try clear hi)
    refine hK.out _ _ ⟨(za BK114.out 0).trans rfl,(za BK114.out 1).trans rfl,(za BK114.out 2).trans rfl⟩ (fun hHeld => ?_)
    clear hK K
    refine zaN (a' := ?_) ?_ ?_
    rotate_left
    ·show Act.put _ (some 10) _ = _
     simp only [Act.put,List.setIfInBounds_toArray,List.set_cons_zero,List.set_cons_succ,zk,zm]
     rfl
    refine zck (i := 7) (N := some 14) #[true,true,true,true,true,true,true,true,false,true,true,false,false,false,false] rfl rfl (zaM HT_.out (by kernel_rfl)) (by decide) (fun K hK => ?_)
    refine zbw Try.func55 (by kernel_rfl) rfl #[.int .u64 (IntKind.u64.wrap (a0_1))] (by rfl) rfl rfl hMq ?_
    with_reducible refine (zV.calls (IntKind.u64.wrap (a0_1)) t117 _ A5.out).mono ?_
    rintro e w14 ⟨rfl,hb⟩
    refine ⟨_,rfl,?_⟩
    have n0_ := zb.mk (hbq BK114.out hb)
    have n1_ := zb.mk (zh hCq hb)
    clear BK114
    clear HB
    have BK114 := n0_
    have HB := n1_
    clear n0_ n1_
    (try clear hb)
    (try clear hb2)
    (try clear hk)
    (try clear hi)
    refine hK.out _ _ ⟨(za BK114.out 0).trans rfl,(za BK114.out 1).trans rfl,(za BK114.out 2).trans rfl⟩ (fun hHeld => ?_)
    clear hK K
    refine zaN (a' := ?_) ?_ ?_
    rotate_left
    ·show Act.put _ (some 14) _ = _
     simp only [Act.put,List.setIfInBounds_toArray,List.set_cons_zero,List.set_cons_succ,zk,zm]
     rfl
    refine zv (i := 8) (N := some 15) (v := ?_) (a' := ?_) #[true,true,true,true,true,true,true,true,true,true,true,false,false,false,false] rfl rfl (zj HT_.out (by kernel_rfl)) (fun _ _ _ h => h) (Or.inl ⟨by rfl,?_⟩) ?_ ?_
    rotate_left
    ·intro w'
     go_simp
     with_reducible rfl
    rotate_left
    ·simp only [Act.put,List.setIfInBounds_toArray,List.set_cons_zero,List.set_cons_succ,zk,zm]
     rfl
    refine zck (i := 11) (N := some 18) #[true,true,true,true,true,true,true,true,true,true,true,true,false,false,false] rfl rfl (zaM HT_.out (by kernel_rfl)) (by decide) (fun K hK => ?_)
    refine zbw Try.func56 (by kernel_rfl) rfl #[.slice A0_2 l0_2.length c0_2] (by rfl) rfl rfl hMq ?_
    with_reducible refine (zK.calls _ _ l0_2 t118 _ ?side1 ?side2 A7.out).mono ?_
    (case side1 => exact hKq (Kd.C_below HR0_2.out HB.out))
    (case side2 => exact HC0_2.out)
    rintro e w15 ⟨rfl,hb⟩
    refine ⟨_,rfl,?_⟩
    have n0_ := zb.mk (hbq BK114.out hb)
    have n1_ := zb.mk (zh hCq hb)
    clear BK114
    clear HB
    have BK114 := n0_
    have HB := n1_
    clear n0_ n1_
    (try clear hb)
    (try clear hb2)
    (try clear hk)
    (try clear hi)
    refine hK.out _ _ ⟨(za BK114.out 0).trans rfl,(za BK114.out 1).trans rfl,(za BK114.out 2).trans rfl⟩ (fun hHeld => ?_)
    clear hK K
    refine zaN (a' := ?_) ?_ ?_
    rotate_left
    ·show Act.put _ (some 18) _ = _
     simp only [Act.put,List.setIfInBounds_toArray,List.set_cons_zero,List.set_cons_succ,zk,zm]
     rfl
    refine zv (i := 12) (N := some 19) (v := ?_) (a' := ?_) #[true,true,true,true,true,true,true,true,true,true,true,true,true,false,false] rfl rfl (zj HT_.out (by kernel_rfl)) (fun _ _ _ h => h) (Or.inl ⟨by rfl,?_⟩) ?_ ?_
    rotate_left
    ·intro w'
     go_simp
     with_reducible rfl
    rotate_left
    ·simp only [Act.put,List.setIfInBounds_toArray,List.set_cons_zero,List.set_cons_succ,zk,zm]
     rfl
    refine zv (i := 13) (N := some 2) (v := ?_) (a' := ?_) #[true,true,true,true,true,true,true,true,true,true,true,true,true,true,false] rfl rfl (zj HT_.out (by kernel_rfl)) (fun _ _ _ h => h) (Or.inl ⟨by rfl,?_⟩) ?_ ?_
    rotate_left
    ·intro w'
     go_simp
     with_reducible rfl
    rotate_left
    ·simp only [Act.put,List.setIfInBounds_toArray,List.set_cons_zero,List.set_cons_succ,zk,zm]
     rfl
    refine zv (i := 14) (N := some 3) (v := ?_) (a' := ?_) #[true,true,true,true,true,true,true,true,true,true,true,true,true,true,true] rfl rfl (zj HT_.out (by kernel_rfl)) (fun _ _ _ h => h) (Or.inl ⟨by rfl,?_⟩) ?_ ?_
    rotate_left
    ·intro w'
     go_simp
     with_reducible rfl
    rotate_left
    ·simp only [Act.put,List.setIfInBounds_toArray,List.set_cons_zero,List.set_cons_succ,zk,zm]
     rfl
    refine zbh (zaz HT_.out (by kernel_rfl)) ?_
    try go_wp2
    go_ret2
    exact ⟨hHq,hCq⟩
   ·rw [if_neg c8] at H
    exact absurd H (by simp)
  ·rw [if_neg c6] at H
   exact absurd H (by simp)
 ·replace c3 := Bool.eq_false_iff.mpr c3
  subst c3
  have H1 : (some ((⟨#[]⟩ : ByteArray),1)) = some (r1,r2) := by rw [if_neg (show ¬ (false = true) by decide)] at H;exact H
  clear H
  have H := H1
  clear H1
  simp only [Option.some.injEq,Prod.mk.injEq] at H
  obtain ⟨rfl,rfl⟩ := H
  go_enter Try.func52,Try.ntmps52
  go_wp2_with (first | ((with_reducible refine zC (N := 1) rfl ?_);refine zw ?hg (N := 1) ?hd (cs := #[.int .i64 a0_0,.int .i64 a0_1,.slice A0_2 l0_2.length c0_2]) (t := 72) ?hr ?_;(case hd => rfl);(case hg => rfl);(case hr => first | (go_simp;done) | (go_simp;rfl));intro gb114 hg w16 hbox hb;have n_ := haq (zh hBq hb) <| haq (hbox) <| haq ((by rw [hg];exact (zn hBq) : w.heap.size ≤ gb114)) <| haq ((by rw [hg];exact (zn hBq) : w.heap.size ≤ gb114)) <| trivial;clear HB;obtain ⟨HB,BK114,GW114,GE114,_⟩ := n_;clear hb hbox hg;obtain ⟨hcz17_0,hcz17_1,hcz17_2,hfz17_0,hfz17_1,hfz17_2⟩ := hcq3 BK114.out) | ((with_reducible refine zN (f := 70) rfl ?_);refine zas (some 5) rfl rfl Try.func70 (by kernel_rfl) rfl #[.agg #[.int .i64 a0_0,.int .i64 a0_1,.slice A0_2 l0_2.length c0_2]] rfl hMq ?_;(with_reducible refine (zam.calls a0_0 a0_1 _ _ l0_2 false _ ?side1 ?side2 A2.out).mono ?_);(case side1 => exact hKq (Kd.C_below HR0_2.out HB.out));(case side2 => exact HC0_2.out);rintro e w18 ⟨rfl,hb⟩;refine ⟨_,rfl,?_⟩;have n_ := haq (hbq BK114.out hb) <| haq (zh hCq hb) <| trivial;clear BK114 HB;obtain ⟨BK114,HB,_⟩ := n_;(try clear hb);(try clear hb2);(try clear hk);(try clear hi)))
  go_ret2
  exact ⟨hHq,hCq⟩
def zH.l0 : Nat → List ByteArray → List ByteArray → Int → Option (Bool)
 | 0,_,_,_ => none
 | k + 1,x0,x1,x5 => if x5 < (x0.length : Int) then (if 0 ≤ x5 then (if x5 < (x1.length : Int) then (if (zD ByteArray.empty x0 x5).toList = (zD ByteArray.empty x1 x5).toList then (zH.l0 k x0 x1 (wrap64 (x5 + 1))) else (some false)) else (none)) else (none)) else (some true)
def zH.f (k : Nat) (l0 : List ByteArray) (l1 : List ByteArray) : Option (Bool) := if (l0.length : Int) = (l1.length : Int) then (zH.l0 k l0 l1 0) else (some false)
set_option maxHeartbeats 8000000 in
set_option maxRecDepth 100000 in
theorem zH.calls (k : Nat) (A0 : Option Addr) (c0 : Nat) (l0 : List ByteArray) (A1 : Option Addr) (c1 : Nat) (l1 : List ByteArray) (r : Bool) (w : World) (hr0 : Kd.C Kd.string w A0 l0.length l0) (hc0 : l0.length ≤ c0) (hr1 : Kd.C Kd.string w A1 l1.length l1) (hc1 : l1.length ≤ c1) (h : zH.f k l0 l1 = some r) :
  Calls Try.prog 17 #[.slice A0 l0.length c0,.slice A1 l1.length c1] w fun e w' => e = .returned (.bool r) ∧ zaT w w' := by
 have HR0 := zb.mk hr0
 have HC0 := zb.mk hc0
 clear hr0 hc0
 have HR1 := zb.mk hr1
 have HC1 := zb.mk hc1
 clear hr1 hc1
 have H : (if (l0.length : Int) = (l1.length : Int) then (zH.l0 k l0 l1 0) else (some false)) = some r := h
 clear h
 by_cases c3 : (l0.length : Int) = (l1.length : Int)
 ·rw [if_pos c3] at H
  have c3b0 : ((l0.length : Int) == (l1.length : Int)) = true := beq_iff_eq.mpr c3
  have c3b1 : ((l0.length : Int) != (l1.length : Int)) = false := bne_eq_false_iff_eq.mpr c3
  have c3b2 : (l0.length == l1.length) = true := by first | simpa using c3 | (simp at c3 ⊢;omega)
  clear c3
  have H' := zb.mk H
  clear H
  go_enter Try.func17,Try.ntmps17
  go_wp2
  repeat (go_quiet (fail);try go_wp2)
  go_loopg [5] k (fun kq v5 w' => ∃ (x5_1 : Int),v5 = .int .i64 x5_1 ∧ zb (zH.l0 kq l0 l1 x5_1 = some r) ∧ zb (kq ≤ k) ∧ zaT w w')
  case atStart => exact ⟨(0),(hDq),H',⟨Nat.le_refl _⟩,hEq⟩
  case round =>
   clear H'
   try clear c1;try clear p2;try clear c3;try clear c3b0;try clear c3b1;try clear c3b2
   obtain ⟨x5_1,rfl,HA,HK1,⟨m1,rfl⟩⟩ := hrel
   cases gk with
   | zero => exact absurd HA.out (by simp [zH.l0])
   | succ k1 =>
    have H := HA.out
    clear HA
    simp only [zH.l0] at H
    by_cases c4 : x5_1 < (l0.length : Int)
    ·rw [if_pos c4] at H
     have c4b0 : decide (x5_1 < (l0.length : Int)) = true := decide_eq_true c4
     clear c4
     by_cases c5 : 0 ≤ x5_1
     ·rw [if_pos c5] at H
      have c5b0 : decide (0 ≤ x5_1) = true := decide_eq_true c5
      clear c5
      by_cases c6 : x5_1 < (l1.length : Int)
      ·rw [if_pos c6] at H
       have c6b0 : decide (x5_1 < (l1.length : Int)) = true := decide_eq_true c6
       clear c6
       by_cases c7 : (zD ByteArray.empty l0 x5_1).toList = (zD ByteArray.empty l1 x5_1).toList
       ·rw [if_pos c7] at H
        have c7b0 : ((zD ByteArray.empty l0 x5_1).toList == (zD ByteArray.empty l1 x5_1).toList) = true := beq_iff_eq.mpr c7
        have c7b1 : ((zD ByteArray.empty l0 x5_1).toList != (zD ByteArray.empty l1 x5_1).toList) = false := bne_eq_false_iff_eq.mpr c7
        clear c7
        have H' := zb.mk H
        clear H
        have p167 : 0 ≤ (x5_1 : Int) := hFq
        have q167 : x5_1 < (l0.length : Int) := hFq
        obtain ⟨ad167,e167,hx167_0⟩ := Kd.at_string HR0.out x5_1 p167 q167
        cases e167
        replace p167 := eq_true p167
        replace q167 := eq_true q167
        have p168 : 0 ≤ (x5_1 : Int) := hFq
        have q168 : x5_1 < (l1.length : Int) := hFq
        obtain ⟨ad168,e168,hx168_0⟩ := Kd.at_string HR1.out x5_1 p168 q168
        cases e168
        replace p168 := eq_true p168
        replace q168 := eq_true q168
        go_wp2
        repeat (go_quiet (fail);try go_wp2)
        go_roundg k1
        case measure => have := HK1.out;omega
        case rel => exact ⟨(wrap64 (x5_1 + 1)),(hDq),H',⟨by have := HK1.out;omega⟩,hEq⟩
       ·rw [if_neg c7] at H
        have c7b0 : ((zD ByteArray.empty l0 x5_1).toList == (zD ByteArray.empty l1 x5_1).toList) = false := beq_eq_false_iff_ne.mpr c7
        have c7b1 : ((zD ByteArray.empty l0 x5_1).toList != (zD ByteArray.empty l1 x5_1).toList) = true := bne_iff_ne.mpr c7
        obtain rfl := Option.some.inj H
        have p167 : 0 ≤ (x5_1 : Int) := hFq
        have q167 : x5_1 < (l0.length : Int) := hFq
        obtain ⟨ad167,e167,hx167_0⟩ := Kd.at_string HR0.out x5_1 p167 q167
        cases e167
        replace p167 := eq_true p167
        replace q167 := eq_true q167
        have p168 : 0 ≤ (x5_1 : Int) := hFq
        have q168 : x5_1 < (l1.length : Int) := hFq
        obtain ⟨ad168,e168,hx168_0⟩ := Kd.at_string HR1.out x5_1 p168 q168
        cases e168
        replace p168 := eq_true p168
        replace q168 := eq_true q168
        go_wp2
        repeat (go_quiet (fail);try go_wp2)
        go_ret
        exact ⟨hDq,hEq⟩
      ·rw [if_neg c6] at H
       exact absurd H (by simp)
     ·rw [if_neg c5] at H
      exact absurd H (by simp)
    ·rw [if_neg c4] at H
     have c4b0 : decide (x5_1 < (l0.length : Int)) = false := decide_eq_false c4
     clear c4
     obtain rfl := Option.some.inj H
     go_wp2
     repeat (go_quiet (fail);try go_wp2)
     go_ret
     exact ⟨hDq,hEq⟩
 ·rw [if_neg c3] at H
  have c3b0 : ((l0.length : Int) == (l1.length : Int)) = false := beq_eq_false_iff_ne.mpr c3
  have c3b1 : ((l0.length : Int) != (l1.length : Int)) = true := bne_iff_ne.mpr c3
  have c3b2 : (l0.length == l1.length) = false := by first | simpa using c3 | (simp at c3 ⊢;omega)
  obtain rfl := Option.some.inj H
  go_enter Try.func17,Try.ntmps17
  go_wp2
  repeat (go_quiet (fail);try go_wp2)
  go_ret
  exact ⟨hDq,hEq⟩
def zay.f (k : Nat) (a0_0 : Int) (a0_1 : Int) (l0_2 : List ByteArray) (a1_0 : Int) (a1_1 : Int) (l1_2 : List ByteArray) : Option (Bool) := (zH.f k l0_2 l1_2).bind fun t171 => (if t171 = true then (if a0_0 = a1_0 then (some (a0_1 == a1_1)) else (some false)) else (some false))
set_option maxHeartbeats 8000000 in
set_option maxRecDepth 100000 in
theorem zay.calls (k : Nat) (a0_0 : Int) (a0_1 : Int) (A0_2 : Option Addr) (c0_2 : Nat) (l0_2 : List ByteArray) (a1_0 : Int) (a1_1 : Int) (A1_2 : Option Addr) (c1_2 : Nat) (l1_2 : List ByteArray) (r : Bool) (w : World) (hr0_2 : Kd.C Kd.string w A0_2 l0_2.length l0_2) (hc0_2 : l0_2.length ≤ c0_2) (hr1_2 : Kd.C Kd.string w A1_2 l1_2.length l1_2) (hc1_2 : l1_2.length ≤ c1_2) (h : zay.f k a0_0 a0_1 l0_2 a1_0 a1_1 l1_2 = some r) :
  Calls Try.prog 48 #[.agg #[.int .i64 a0_0,.int .i64 a0_1,.slice A0_2 l0_2.length c0_2],.agg #[.int .i64 a1_0,.int .i64 a1_1,.slice A1_2 l1_2.length c1_2]] w fun e w' => e = .returned (.bool r) ∧ Below w.heap.size w w' := by
 have hu72 := Try.underlying72
 have HR0_2 := zb.mk hr0_2
 have HC0_2 := zb.mk hc0_2
 clear hr0_2 hc0_2
 have HR1_2 := zb.mk hr1_2
 have HC1_2 := zb.mk hc1_2
 clear hr1_2 hc1_2
 have HB := zb.mk (Below.refl w.heap.size w)
 have H : ((zH.f k l0_2 l1_2).bind fun t171 => (if t171 = true then (if a0_0 = a1_0 then (some (a0_1 == a1_1)) else (some false)) else (some false))) = some r := h
 clear h
 replace H := Option.bind_eq_some_iff.mp H
 obtain ⟨t171,A30,H⟩ := H
 replace H : (if t171 = true then (if a0_0 = a1_0 then (some (a0_1 == a1_1)) else (some false)) else (some false)) = some r := H
 have A3 := zb.mk A30
 clear A30
 by_cases c4 : t171 = true
 focus
  subst c4
  have H1 : (if a0_0 = a1_0 then (some (a0_1 == a1_1)) else (some false)) = some r := by rw [if_pos rfl] at H;exact H
  clear H
  have H := H1
  clear H1
  by_cases c5 : a0_0 = a1_0
  focus
   rw [if_pos c5] at H
   have c5b0 : (a0_0 == a1_0) = true := beq_iff_eq.mpr c5
   have c5b1 : (a0_0 != a1_0) = false := bne_eq_false_iff_eq.mpr c5
   clear c5
   obtain rfl := Option.some.inj H
   have EQ0 := True.intro
  rotate_left
  focus
   rw [if_neg c5] at H
   have c5b0 : (a0_0 == a1_0) = false := beq_eq_false_iff_ne.mpr c5
   have c5b1 : (a0_0 != a1_0) = true := bne_iff_ne.mpr c5
   obtain rfl := Option.some.inj H
   have EQ0 := True.intro
 rotate_left 2
 focus
  replace c4 := Bool.eq_false_iff.mpr c4
  subst c4
  have H1 : (some false) = some r := by rw [if_neg (show ¬ (false = true) by decide)] at H;exact H
  clear H
  have H := H1
  clear H1
  obtain rfl := Option.some.inj H
  have EQ1 := True.intro
 all_goals
  go_enter Try.func48,Try.ntmps48
  go_wp2_with (first | ((with_reducible refine zC (N := 2) rfl ?_);refine zw ?hg (N := 2) ?hd (cs := #[.int .i64 a0_0,.int .i64 a0_1,.slice A0_2 l0_2.length c0_2]) (t := 72) ?hr ?_;(case hd => rfl);(case hg => rfl);(case hr => first | (go_simp;done) | (go_simp;rfl));intro gb169 hg wQN22 hbox hb;have n_ := haq (zh hBq hb) <| haq (hbox) <| haq ((by rw [hg];exact (zn hBq) : w.heap.size ≤ gb169)) <| haq ((by rw [hg];exact (zn hBq) : w.heap.size ≤ gb169)) <| trivial;clear HB;obtain ⟨HB,BK169,GW169,GE169,_⟩ := n_;clear hb hbox hg) | ((with_reducible refine zC (N := 3) rfl ?_);refine zw ?hg (N := 3) ?hd (cs := #[.int .i64 a1_0,.int .i64 a1_1,.slice A1_2 l1_2.length c1_2]) (t := 72) ?hr ?_;(case hd => rfl);(case hg => rfl);(case hr => first | (go_simp;done) | (go_simp;rfl));intro gb170 hg wQN32 hbox hb;have n_ := haq (hbq BK169.out hb) <| haq (zh hCq hb) <| haq (hbox) <| haq ((by rw [hg];exact (zn hCq) : w.heap.size ≤ gb170)) <| haq ((by rw [hg];exact (zn hCq) : w.heap.size ≤ gb170)) <| haq (hnq hg BK169.out) <| haq (hmq hg BK169.out) <| trivial;clear BK169 HB;obtain ⟨BK169,HB,BK170,GW170,GE170,NBQN37,NBQN38,_⟩ := n_;clear hb hbox hg;have hnbQN39 := NBQN37.out;have hncQN310 := NBQN38.out;obtain ⟨hczQN311,hczQN312,hczQN313,hfzQN314,hfzQN315,hfzQN316⟩ := hcq3 BK169.out;obtain ⟨hczQN317,hczQN318,hczQN319,hfzQN320,hfzQN321,hfzQN322⟩ := hcq3 BK170.out) | (have _ := EQ0;((with_reducible refine zN (f := 17) rfl ?_);refine zas (some 10) rfl rfl Try.func17 (by kernel_rfl) rfl #[.slice A0_2 l0_2.length c0_2,.slice A1_2 l1_2.length c1_2] rfl hMq ?_;(with_reducible refine (zH.calls k _ _ l0_2 _ _ l1_2 true _ ?side1 ?side2 ?side3 ?side4 A3.out).mono ?_);(case side1 => exact hKq (Kd.C_below HR0_2.out HB.out));(case side2 => exact HC0_2.out);(case side3 => exact hKq (Kd.C_below HR1_2.out HB.out));(case side4 => exact HC1_2.out);rintro e w' ⟨rfl,⟨nd,rfl⟩⟩;refine ⟨_,rfl,?_⟩)) | (have _ := EQ1;((with_reducible refine zN (f := 17) rfl ?_);refine zas (some 10) rfl rfl Try.func17 (by kernel_rfl) rfl #[.slice A0_2 l0_2.length c0_2,.slice A1_2 l1_2.length c1_2] rfl hMq ?_;(with_reducible refine (zH.calls k _ _ l0_2 _ _ l1_2 false _ ?side1 ?side2 ?side3 ?side4 A3.out).mono ?_);(case side1 => exact hKq (Kd.C_below HR0_2.out HB.out));(case side2 => exact HC0_2.out);(case side3 => exact hKq (Kd.C_below HR1_2.out HB.out));(case side4 => exact HC1_2.out);rintro e w' ⟨rfl,⟨nd,rfl⟩⟩;refine ⟨_,rfl,?_⟩)))
  go_ret
  exact ⟨hHq,hCq⟩
theorem zgt (l : List ByteArray) (j : Nat) (h : j < l.length) : zD ByteArray.empty l (j : Int) = l[j] := by
 rw [zD,Int.toNat_natCast,List.getD_eq_getElem?_getD,List.getElem?_eq_getElem h];rfl
theorem zb9 (a b : ByteArray) : a.toList = b.toList ↔ a = b := by
 rw [zbB,zbB]
 exact ⟨fun h => zgr h,fun h => by rw [h]⟩
theorem zcV (a b : ByteArray) : (a.toList == b.toList) = decide (a = b) := by
 rw [Bool.eq_iff_iff];simp [zb9]
theorem zfi (a b : List ByteArray) (hl : a.length = b.length) (hb : a.length < 4611686018427387904) (d : Nat) : ∀ j,j + d = a.length →
  Ev (fun k => zH.l0 k a b (j : Int)) (decide (a.drop j = b.drop j)) := by
 induction d with
 | zero =>
  intro j hj
  refine Ev.step (fun k => by rw [zH.l0]) ?_
  refine zak (by omega) (zaC (Ev.now _) ?_)
  rw [List.drop_eq_nil_of_le (by omega),List.drop_eq_nil_of_le (by omega)];rfl
 | succ d ih =>
  intro j hj
  refine Ev.step (fun k => by rw [zH.l0]) ?_
  have h1 : j < a.length := by omega
  have h2 : j < b.length := by omega
  refine zS (by omega) (zS (by omega) (zS (by omega) ?_))
  rw [zgt a j h1,zgt b j h2,List.drop_eq_getElem_cons h1,List.drop_eq_getElem_cons h2,zav (by omega) (by omega)]
  by_cases h : a[j] = b[j]
  ·refine zS (by rw [h]) (zaC (ih (j + 1) (by omega)) ?_)
   simp only [List.cons.injEq,h,true_and]
  ·refine zak (by simpa [zb9] using h) (zaC (Ev.now _) ?_)
   simp only [List.cons.injEq,h,false_and,decide_false]
theorem zef (a b : List ByteArray) (hb : a.length < 4611686018427387904) : Ev (fun k => zH.f k a b) (decide (a = b)) := by
 by_cases hl : a.length = b.length
 ·exact zS (by omega) (zfi a b hl hb a.length 0 (by omega))
 ·refine zak (by omega) (zaC (Ev.now _) ?_)
  rw [eq_comm,decide_eq_false_iff_not]
  exact fun h => hl (by rw [h])
def ze0 (o q : Int) (l : List ByteArray) (o' q' : Int) (l' : List ByteArray) : Bool := decide (o = o' ∧ q = q' ∧ l = l')
theorem zdC (o q : Int) (l : List ByteArray) (o' q' : Int) (l' : List ByteArray) (hb : l.length < 4611686018427387904) : Ev (fun k => zay.f k o q l o' q' l') (ze0 o q l o' q' l') := by
 unfold ze0
 refine Ev.bind (zef l l' hb) ?_
 by_cases h3 : l = l'
 ·refine zS (by simp [h3]) ?_
  by_cases h1 : o = o'
  ·exact zS h1 (zaC (Ev.now _) (by simp [h1,h3,Bool.beq_eq_decide_eq]))
  ·exact zak h1 (zaC (Ev.now _) (by simp [h1]))
 ·exact zak (by simp [h3]) (zaC (Ev.now _) (by simp [h3]))
theorem zdc (l : List ByteArray) (m : Nat) (hm : m < 18446744073709551616) (h : ∀ t ∈ l,t.size ≤ m) : (zaR l).length ≤ l.length * (m + 9) := by
 induction l with
 | nil => simp [zaR]
 | cons t l ih =>
  have e : zaR (t :: l) = zen (ofB t) ++ zaR l := rfl
  have h1 := h t List.mem_cons_self
  have h2 := ih (fun x hx => h x (List.mem_cons_of_mem _ hx))
  have h3 := zaw (v := (ofB t).length) (by rw [zap];omega)
  rw [e,List.length_append,zen,List.length_append,zap,List.length_cons,Nat.succ_mul]
  rw [zap] at h3
  omega
theorem zfB (o q : Int) (l : List ByteArray) : zex o q l = true ↔ 1 ≤ o ∧ o ≤ 64 ∧ 1 ≤ q ∧ q ≤ 1073741824 ∧ 1 ≤ l.length ∧ l.length ≤ 4 ∧ ∀ t ∈ l,1 ≤ t.size ∧ t.size ≤ 48 := by
 unfold zex
 simp only [Bool.and_eq_true,decide_eq_true_eq,Bool.not_eq_true',List.any_eq_false]
 constructor
 ·rintro ⟨⟨⟨⟨⟨⟨h1,h2⟩,h3⟩,h4⟩,h5⟩,h6⟩,h7⟩
  refine ⟨h1,h2,h3,h4,h5,h6,fun t ht => ?_⟩
  have h8 := h7 t ht
  simp only [zcj,Bool.or_eq_true,decide_eq_true_eq,not_or] at h8
  omega
 ·rintro ⟨h1,h2,h3,h4,h5,h6,h7⟩
  refine ⟨⟨⟨⟨⟨⟨h1,h2⟩,h3⟩,h4⟩,h5⟩,h6⟩,fun t ht => ?_⟩
  have h8 := h7 t ht
  simp only [zcj,Bool.or_eq_true,decide_eq_true_eq,not_or]
  omega
def ze1 (o q : Int) (l : List ByteArray) : Bs := zcz o.toNat ++ zcz q.toNat ++ zcn l
theorem zdT (o q : Int) (l : List ByteArray) : zaj.f o q l = some (if zex o q l = true then (toB (ze1 o q l),0) else ((⟨#[]⟩ : ByteArray),1)) := by
 unfold zaj.f zam.f
 rw [Option.bind_some]
 by_cases h : zex o q l = true
 ·rw [if_pos h,if_pos h]
  obtain ⟨h1,h2,h3,h4,h5,h6,h7⟩ := (zfB o q l).1 h
  obtain ⟨a,rfl⟩ := Int.eq_ofNat_of_zero_le (show 0 ≤ o by omega)
  obtain ⟨b,rfl⟩ := Int.eq_ofNat_of_zero_le (show 0 ≤ q by omega)
  have r1 := zdc l 48 (by omega) (fun t ht => (h7 t ht).2)
  have r2 := zaw (v := l.length) (by omega)
  have r3 : (zcn l).length ≤ 300 := by rw [zcn,List.length_append];omega
  have n1 := zbi (v := a) (by omega)
  have n2 := zbi (v := b) (by omega)
  have r4 : zK.f l = some (toB (zcn l)) := by unfold zK.f;rw [if_pos (by omega)]
  rw [zbK (by omega) (by omega),zbK (by omega) (by omega),zb6 a (by omega),zb6 b (by omega)]
  simp only [Option.bind_some]
  rw [if_pos (by omega),r4]
  simp only [Option.bind_some]
  rw [if_pos (by rw [ByteArray.size_append,zbu];omega),ze1,zbe,zbe,Int.toNat_natCast,Int.toNat_natCast]
  rfl
 ·rw [if_neg h,if_neg h]
def bB (b : S72) : ByteArray := if zex b.f0 b.f1 b.f2 = true then toB (ze1 b.f0 b.f1 b.f2) else (⟨#[]⟩ : ByteArray)
theorem zae.one (b : S72) (A : Option Addr) (c : Nat) (w : World) (hr : Kd.C Kd.string w A b.f2.length b.f2) (hc : b.f2.length ≤ c) :
  Calls Try.prog 51 #[.agg #[.int .i64 b.f0,.int .i64 b.f1,.slice A b.f2.length c]] w fun e w' => e = .returned (.string (bB b)) ∧ Below w.heap.size w w' := by
 obtain ⟨e,he⟩ : ∃ e,zaj.f b.f0 b.f1 b.f2 = some (bB b,e) := by
  rw [zdT,bB]
  split
  ·exact ⟨_,rfl⟩
  ·exact ⟨_,rfl⟩
 have HE := zb.mk he
 have HR := zb.mk hr
 have HC := zb.mk hc
 clear he hr hc
 generalize bB b = s at *
 obtain ⟨b0,b1,b2⟩ := b
 go_enter Try.func51,Try.ntmps51
 go_wp2_with (first
  | ((with_reducible refine zC (N := 1) rfl ?_);refine zw ?hg (N := 1) ?hd (cs := #[.int .i64 b0,.int .i64 b1,.slice A b2.length c]) (t := 72) ?hr ?_;(case hd => rfl);(case hg => rfl);(case hr => first | (go_simp;done) | (go_simp;rfl));intro gb hg w2 hbox hb;have BK := zb.mk hbox;have HB := zb.mk hb;clear hb hbox hg;have hz0 := (za BK.out 0).trans rfl;have hz1 := (za BK.out 1).trans rfl;have hz2 := (za BK.out 2).trans rfl;have hf0 := zc BK.out 0;have hf1 := zc BK.out 1;have hf2 := zc BK.out 2)
  | (go_at_call 52;(with_reducible refine (zaj.calls b0 b1 _ _ b2 _ _ _ (Kd.C_below HR.out HB.out) HC.out HE.out).mono ?_);rintro e w3 ⟨rfl,hb⟩;have HB3 := zb.mk (zh HB.out hb);clear hb))
 go_ret
 exact ⟨rfl,HB3.out⟩
theorem zae.infoS : (Try.prog.info? 9).map (fun i => (i.zero,i.size,i.bytes)) = some (some (.string ⟨#[]⟩),1,16) := by kernel_rfl
set_option maxHeartbeats 4000000 in
set_option maxRecDepth 100000 in
theorem zae.walk (A : Option Addr) (c : Nat) (l : List S72) (w : World) (hr : Kd.C k72 w A l.length l) (hc : l.length ≤ c) (h4 : l.length ≤ 4) :
  Calls Try.prog 50 #[.slice A l.length c,.func (.func 51) #[] #[]] w fun e w' => ∃ v,e = .returned v ∧ Kd.R Kd.string 9 w' w.heap.size (fun _ => True) v (l.map bB) ∧ Below w.heap.size w w' := by
 have HR := zb.mk hr
 clear hr
 go_enter Try.func50,Try.ntmps50
 go_wp2_with fail
 have HB0 := zb.mk (Below.refl w.heap.size w)
 go_loopw [5,10] (fun v5 v10 wr => ∃ k : Nat,v10 = .int .i64 k ∧ k ≤ l.length ∧ zb (Kd.R Kd.string 9 wr w.heap.size (fun _ => True) v5 ((l.take k).map bB)) ∧ zb (Below w.heap.size w wr)) (fun _ v10 _ => l.length - (match v10 with | .int _ q => q | _ => 0).toNat)
 case atStart => exact ⟨0,rfl,Nat.zero_le _,⟨Kd.R_nil _ _ _ _ _⟩,HB0⟩
 case round =>
  obtain ⟨k,rfl,hk,HO,HB⟩ := hrel
  by_cases hlt : k < l.length
  ·obtain ⟨ad,A2,c2,rfl,hx0,hx1,hx2,hl2,hi2⟩ := zdg HR.out (k : Int) (by omega) (by omega)
   replace hx0 := (HB.out.cell (World.block_lt_of_cell? w _ hx0)).trans hx0
   replace hx1 := (HB.out.cell (World.block_lt_of_cell? w _ hx1)).trans hx1
   replace hx2 := (HB.out.cell (World.block_lt_of_cell? w _ hx2)).trans hx2
   rw [Int.toNat_natCast] at hx0 hx1 hx2
   have hb : decide (k < l.length) = true := decide_eq_true hlt
   have ht : l.take (k + 1) = l.take k ++ [zO l (k : Int)] := by
    rw [zO,Int.toNat_natCast,List.getD_eq_getElem?_getD,List.getElem?_eq_getElem hlt,List.take_add_one,List.getElem?_eq_getElem hlt];rfl
   have HT := zb.mk ht
   have HL2 := zb.mk hl2
   have HI2 := zb.mk (Kd.C_below hi2 HB.out)
   clear ht hl2 hi2
   generalize zO l (k : Int) = s at *
   obtain ⟨s0,s1,s2⟩ := s
   have HLN : zb ((((l.take k).map bB).length + 1) * 16 ≤ 140737488355328) := ⟨by rw [List.length_map,List.length_take];omega⟩
   have HM : zb ((l.take (k + 1)).map bB = (l.take k).map bB ++ [bB ⟨s0,s1,s2⟩]) := ⟨by rw [HT.out,List.map_append];rfl⟩
   go_wp2_with (first
    | (go_at_call 51;(with_reducible refine (zae.one ⟨s0,s1,s2⟩ _ _ _ (Kd.C_below HI2.out (zq (Below.refl _ _) _)) HL2.out).mono ?_);rintro e w1 ⟨rfl,hb1⟩;have HB1 := zb.mk (zh (zq HB.out _) hb1);have HO1 := zb.mk (Kd.R_below HO.out (zh (zq (Below.refl _ _) _) hb1));clear hb1)
    | (at_builtin;refine Kd.R_append Kd.string (w0 := w) w.heap.size rfl (.tmp 14) (.tmp 18) 26 9 (.string ⟨#[]⟩) 16 rfl Try.underlying26 zae.infoS rfl (by decide) (by omega) _ ((l.take k).map bB) (bB ⟨s0,s1,s2⟩) [.string (bB ⟨s0,s1,s2⟩)] (fun _ => True) (fun _ => False) rfl rfl ?aP (fun _ hk => hk.elim) ?aF ?aO ?aB ?aS ?aL ?_;(case aP => exact rfl);(case aF => exact (fun _ _ => trivial));(case aO => exact HO1.out);(case aB => exact HB1.out);(case aS => exact (zn HB1.out));(case aL => exact HLN.out);intro v3 w3 ho hb hg hat;have HX := zb.mk ho;have HB3 := zb.mk hb;clear ho hb hg hat))
   go_roundw
   case rel => exact ⟨k + 1,by go_num,by omega,⟨by rw [HM.out];exact HX.out⟩,HB3⟩
   case measure => simp;omega
  ·obtain rfl : k = l.length := by omega
   go_wp2_with fail
   go_ret
   exact ⟨_,rfl,by have := HO.out;rwa [List.take_length] at this,HB.out⟩
def zae.f (l0 : List S72) : Option (List ByteArray) := if l0.length ≤ 4 then some (l0.map bB) else none
theorem zae.calls (A0 : Option Addr) (c0 : Nat) (l0 : List S72) (r : List ByteArray) (w : World) (hr0 : Kd.C k72 w A0 l0.length l0) (hc0 : l0.length ≤ c0) (h : zae.f l0 = some r) :
  Calls Try.prog 50 #[.slice A0 l0.length c0,.func (.func 51) #[] #[]] w fun e w' => ∃ v0_ : Value,e = .returned v0_ ∧ Kd.R Kd.string 9 w' w.heap.size (fun _ => True) v0_ r ∧ Below w.heap.size w w' := by
 unfold zae.f at h
 split at h
 ·rename_i h4
  obtain rfl := Option.some.inj h
  exact zae.walk A0 c0 l0 w hr0 hc0 h4
 ·cases h
theorem z6.infoS : (Try.prog.info? 9).map (fun i => (i.zero,i.size,i.bytes)) = some (some (.string ⟨#[]⟩),1,16) := by kernel_rfl
theorem z6.num (k : Int) (w : World) (h0 : 0 ≤ k) (h1 : k < 9223372036854775808) :
  Calls Try.prog 54 #[.int .i64 k] w fun e w' => e = .returned (.string (za1 k.toNat)) ∧ Below w.heap.size w w' := by
 have hn : zV.f (IntKind.u64.wrap k) = some (za1 k.toNat) := by rw [zbK h0 (by omega),zV.f,if_pos h0,if_pos (by omega)]
 have HN := zb.mk hn
 clear hn h0 h1
 generalize za1 k.toNat = s at *
 go_enter Try.func54,Try.ntmps54
 go_wp2_with (go_at_call 55;(with_reducible refine (zV.calls _ _ _ HN.out).mono ?_);rintro e w3 ⟨rfl,hb⟩;have HB3 := zb.mk hb;clear hb)
 go_ret
 exact ⟨rfl,HB3.out⟩
set_option maxHeartbeats 4000000 in
set_option maxRecDepth 100000 in
theorem z6.walk (A : Option Addr) (c : Nat) (l : List Int) (w : World) (hr : Kd.C (Kd.int .i64) w A l.length l) (hc : l.length ≤ c) (h4 : l.length ≤ 4) (hp : ∀ k ∈ l,0 ≤ k ∧ k < 9223372036854775808) :
  Calls Try.prog 53 #[.slice A l.length c,.func (.func 54) #[] #[]] w fun e w' => ∃ v,e = .returned v ∧ Kd.R Kd.string 9 w' w.heap.size (fun _ => True) v (l.map (fun k => za1 k.toNat)) ∧ Below w.heap.size w w' := by
 have HR := zb.mk hr
 have HP := zb.mk hp
 clear hr hp
 go_enter Try.func53,Try.ntmps53
 go_wp2_with fail
 have HB0 := zb.mk (Below.refl w.heap.size w)
 go_loopw [5,10] (fun v5 v10 wr => ∃ k : Nat,v10 = .int .i64 k ∧ k ≤ l.length ∧ zb (Kd.R Kd.string 9 wr w.heap.size (fun _ => True) v5 ((l.take k).map (fun k => za1 k.toNat))) ∧ zb (Below w.heap.size w wr)) (fun _ v10 _ => l.length - (match v10 with | .int _ q => q | _ => 0).toNat)
 case atStart => exact ⟨0,rfl,Nat.zero_le _,⟨Kd.R_nil _ _ _ _ _⟩,HB0⟩
 case round =>
  obtain ⟨k,rfl,hk,HO,HB⟩ := hrel
  by_cases hlt : k < l.length
  ·obtain ⟨ad,rfl,hx0⟩ := Kd.at_int HR.out (k : Int) (by omega) (by omega)
   replace hx0 := (HB.out.cell (World.block_lt_of_cell? w _ hx0)).trans hx0
   rw [Int.toNat_natCast] at hx0
   have hb : decide (k < l.length) = true := decide_eq_true hlt
   have hd : rd l (k : Int) = l[k] := by
    rw [rd,Int.toNat_natCast,List.getD_eq_getElem?_getD,List.getElem?_eq_getElem hlt];rfl
   have hpk := HP.out _ (List.getElem_mem hlt)
   have ht : l.take (k + 1) = l.take k ++ [l[k]] := by
    rw [List.take_add_one,List.getElem?_eq_getElem hlt];rfl
   rw [hd] at hx0
   generalize l[k] = s at *
   have HM : zb ((l.take (k + 1)).map (fun k => za1 k.toNat) = (l.take k).map (fun k => za1 k.toNat) ++ [za1 s.toNat]) := ⟨by rw [ht,List.map_append];rfl⟩
   have HLN : zb ((((l.take k).map (fun k => za1 k.toNat)).length + 1) * 16 ≤ 140737488355328) := ⟨by rw [List.length_map,List.length_take];omega⟩
   have HPK := zb.mk hpk
   clear hpk ht hd
   go_wp2_with (first
    | (go_at_call 54;(with_reducible refine (z6.num s _ HPK.out.1 HPK.out.2).mono ?_);rintro e w1 ⟨rfl,hb1⟩;have HB1 := zb.mk (zh HB.out hb1);have HO1 := zb.mk (Kd.R_below HO.out hb1);clear hb1)
    | (at_builtin;refine Kd.R_append Kd.string (w0 := w) w.heap.size rfl (.tmp 14) (.tmp 18) 26 9 (.string ⟨#[]⟩) 16 rfl Try.underlying26 z6.infoS rfl (by decide) (by omega) _ ((l.take k).map (fun k => za1 k.toNat)) (za1 s.toNat) [.string (za1 s.toNat)] (fun _ => True) (fun _ => False) rfl rfl ?aP (fun _ hk => hk.elim) ?aF ?aO ?aB ?aS ?aL ?_;(case aP => exact rfl);(case aF => exact (fun _ _ => trivial));(case aO => exact HO1.out);(case aB => exact HB1.out);(case aS => exact (zn HB1.out));(case aL => exact HLN.out);intro v3 w3 ho hb hg hat;have HX := zb.mk ho;have HB3 := zb.mk hb;clear ho hb hg hat))
   go_roundw
   case rel => exact ⟨k + 1,by go_num,by omega,⟨by rw [HM.out];exact HX.out⟩,HB3⟩
   case measure => simp;omega
  ·obtain rfl : k = l.length := by omega
   go_wp2_with fail
   go_ret
   exact ⟨_,rfl,by have := HO.out;rwa [List.take_length] at this,HB.out⟩
def z6.f (l0 : List Int) : Option (List ByteArray) := if l0.length ≤ 4 ∧ ∀ k ∈ l0,0 ≤ k ∧ k < 9223372036854775808 then some (l0.map (fun k => za1 k.toNat)) else none
theorem z6.calls (A0 : Option Addr) (c0 : Nat) (l0 : List Int) (r : List ByteArray) (w : World) (hr0 : Kd.C (Kd.int .i64) w A0 l0.length l0) (hc0 : l0.length ≤ c0) (h : z6.f l0 = some r) :
  Calls Try.prog 53 #[.slice A0 l0.length c0,.func (.func 54) #[] #[]] w fun e w' => ∃ v0_ : Value,e = .returned v0_ ∧ Kd.R Kd.string 9 w' w.heap.size (fun _ => True) v0_ r ∧ Below w.heap.size w w' := by
 unfold z6.f at h
 split at h
 ·rename_i h4
  obtain rfl := Option.some.inj h
  exact z6.walk A0 c0 l0 w hr0 hc0 h4.1 h4.2
 ·cases h
end Go.Proofs.Ytklhjlaofkngcaa.Px