/- Part 16 of 35 of the proof of the law CertBytes: what is proved is the statement at the end of the last part; its conditions are those of the given row. -/
import Derived.Test.YtfhbeonhnhjikaaGreatZCertBytesO
namespace Go.Proofs.YtfhbeonhnhjikaaGreat.Px
open Go.RowKit Go.Proofs.YtfhbeonhnhjikaaGreatW.PrintWords Go.Proofs.YtfhbeonhnhjikaaGreatW.PrintLast Go.Proofs.YtfhbeonhnhjikaaGreatW.PrintMore
attribute [local go_sem] zz zB zI zJ zp zq zA zC
set_option linter.unusedVariables false
set_option linter.unusedSimpArgs false
mutual
def zH.j0 : Nat → Int → List ByteArray → List ByteArray → Bool → Int → Int → Int → Int → Option (Int × Int × (List (S73)) × List ByteArray × Int × Int × Int)
 | 0,_,_,_,_,_,_,_,_ => none
 | k + 1,x1,x8,x10,x60,x258000,x258001,x273000,x273001 => if x60 = true then (some (0,0,([] : List (S73)),([] : List ByteArray),0,0,3)) else (zH.l0 k x1 x8 (x8.length : Int) 0 x258000 x258001 ([] : List (S73)) x10 x273000 x273001)
def zH.l0 : Nat → Int → List ByteArray → Int → Int → Int → Int → List (S73) → List ByteArray → Int → Int → Option (Int × Int × (List (S73)) × List ByteArray × Int × Int × Int)
 | 0,_,_,_,_,_,_,_,_,_,_ => none
 | k + 1,x1,x73,x74,x75,x274000,x274001,x274002,x274003,x274004,x274005 => if x75 < x74 then (if 0 ≤ x75 then (if x75 < (x73.length : Int) then ((zas.f k (zG ByteArray.empty x73 x75)).bind fun bt275 => (if bt275.2.2.2 = 0 then (if x274002.length < 3518437208883 then (zH.l0 k x1 x73 x74 (wrap64 (x75 + 1)) x274000 x274001 (x274002 ++ [(⟨bt275.1,bt275.2.1,bt275.2.2.1⟩ : S73)]) x274003 x274004 x274005) else (none)) else (some (0,0,([] : List (S73)),([] : List ByteArray),0,0,3)))) else (none)) else (none)) else ((zao.f x274000 x274001 x274002 x274003 x274004 x274005 x1).bind fun t285 => (if t285 = true then (some (x274000,x274001,x274002,x274003,x274004,x274005,0)) else (some (0,0,([] : List (S73)),([] : List ByteArray),0,0,3))))
end
def zH.f (k : Nat) (a0 : ByteArray) (a1 : Int) : Option (Int × Int × (List (S73)) × List ByteArray × Int × Int × Int) := (z8.f a0).bind fun bt253 => ((zV.f bt253.2.2.1 4 65536).bind fun bt258 => ((zV.f bt258.2.1 64 32).bind fun bt263 => ((z8.f bt263.2.1).bind fun bt268 => (if bt253.2.2.2 = true then (if bt258.2.2 = 0 then (if bt263.2.2 = 0 then (if bt268.2.2.2 = true then (zH.j0 k a1 bt258.1 bt263.1 (bt268.2.2.1.toList != ([] : List UInt8)) bt253.1 bt253.2.1 bt268.1 bt268.2.1) else (zH.j0 k a1 bt258.1 bt263.1 true bt253.1 bt253.2.1 bt268.1 bt268.2.1)) else (zH.j0 k a1 bt258.1 bt263.1 true bt253.1 bt253.2.1 bt268.1 bt268.2.1)) else (zH.j0 k a1 bt258.1 bt263.1 true bt253.1 bt253.2.1 bt268.1 bt268.2.1)) else (zH.j0 k a1 bt258.1 bt263.1 true bt253.1 bt253.2.1 bt268.1 bt268.2.1)))))
set_option maxHeartbeats 8000000 in
set_option maxRecDepth 100000 in
theorem zH.calls (k : Nat) (a0 : ByteArray) (a1 : Int) (r1 : Int) (r2 : Int) (r3 : List (S73)) (r4 : List ByteArray) (r5 : Int) (r6 : Int) (r7 : Int) (w : World) (h : zH.f k a0 a1 = some (r1,r2,r3,r4,r5,r6,r7)) :
  Calls Tryz.prog 24 #[.string a0,.int .i64 a1] w fun e w' => ∃ v2_ v3_ : Value,e = .returned (.tuple #[.agg #[.int .i64 r1,.int .i64 r2,v2_,v3_,.int .i64 r5,.int .i64 r6],.int .i64 r7]) ∧ Kd.S k73 73 w' w.heap.size (fun k_ => some k_ ≠ (v3_ : Value).ownBlock) v2_ r3 ∧ Kd.R Kd.string 9 w' w.heap.size (fun _ => True) v3_ r4 ∧ Below w.heap.size w w' := by
 have hu27 := Tryz.underlying27
 have hu84 := Tryz.underlying84
 have hu25 := Tryz.underlying25
 have hu73 := Tryz.underlying73
 have HB := za.mk (Below.refl w.heap.size w)
 have H : ((z8.f a0).bind fun bt253 => ((zV.f bt253.2.2.1 4 65536).bind fun bt258 => ((zV.f bt258.2.1 64 32).bind fun bt263 => ((z8.f bt263.2.1).bind fun bt268 => (if bt253.2.2.2 = true then (if bt258.2.2 = 0 then (if bt263.2.2 = 0 then (if bt268.2.2.2 = true then (zH.j0 k a1 bt258.1 bt263.1 (bt268.2.2.1.toList != ([] : List UInt8)) bt253.1 bt253.2.1 bt268.1 bt268.2.1) else (zH.j0 k a1 bt258.1 bt263.1 true bt253.1 bt253.2.1 bt268.1 bt268.2.1)) else (zH.j0 k a1 bt258.1 bt263.1 true bt253.1 bt253.2.1 bt268.1 bt268.2.1)) else (zH.j0 k a1 bt258.1 bt263.1 true bt253.1 bt253.2.1 bt268.1 bt268.2.1)) else (zH.j0 k a1 bt258.1 bt263.1 true bt253.1 bt253.2.1 bt268.1 bt268.2.1)))))) = some (r1,r2,r3,r4,r5,r6,r7) := h
 clear h
 replace H := Option.bind_eq_some_iff.mp H
 obtain ⟨⟨t253,t254,t255,t256⟩,A30,H⟩ := H
 replace H : ((zV.f t255 4 65536).bind fun bt258 => ((zV.f bt258.2.1 64 32).bind fun bt263 => ((z8.f bt263.2.1).bind fun bt268 => (if t256 = true then (if bt258.2.2 = 0 then (if bt263.2.2 = 0 then (if bt268.2.2.2 = true then (zH.j0 k a1 bt258.1 bt263.1 (bt268.2.2.1.toList != ([] : List UInt8)) t253 t254 bt268.1 bt268.2.1) else (zH.j0 k a1 bt258.1 bt263.1 true t253 t254 bt268.1 bt268.2.1)) else (zH.j0 k a1 bt258.1 bt263.1 true t253 t254 bt268.1 bt268.2.1)) else (zH.j0 k a1 bt258.1 bt263.1 true t253 t254 bt268.1 bt268.2.1)) else (zH.j0 k a1 bt258.1 bt263.1 true t253 t254 bt268.1 bt268.2.1))))) = some (r1,r2,r3,r4,r5,r6,r7) := H
 have A3 := za.mk A30
 clear A30
 replace H := Option.bind_eq_some_iff.mp H
 obtain ⟨⟨t258,t259,t260⟩,A40,H⟩ := H
 replace H : ((zV.f t259 64 32).bind fun bt263 => ((z8.f bt263.2.1).bind fun bt268 => (if t256 = true then (if t260 = 0 then (if bt263.2.2 = 0 then (if bt268.2.2.2 = true then (zH.j0 k a1 t258 bt263.1 (bt268.2.2.1.toList != ([] : List UInt8)) t253 t254 bt268.1 bt268.2.1) else (zH.j0 k a1 t258 bt263.1 true t253 t254 bt268.1 bt268.2.1)) else (zH.j0 k a1 t258 bt263.1 true t253 t254 bt268.1 bt268.2.1)) else (zH.j0 k a1 t258 bt263.1 true t253 t254 bt268.1 bt268.2.1)) else (zH.j0 k a1 t258 bt263.1 true t253 t254 bt268.1 bt268.2.1)))) = some (r1,r2,r3,r4,r5,r6,r7) := H
 have A4 := za.mk A40
 clear A40
 replace H := Option.bind_eq_some_iff.mp H
 obtain ⟨⟨t263,t264,t265⟩,A50,H⟩ := H
 replace H : ((z8.f t264).bind fun bt268 => (if t256 = true then (if t260 = 0 then (if t265 = 0 then (if bt268.2.2.2 = true then (zH.j0 k a1 t258 t263 (bt268.2.2.1.toList != ([] : List UInt8)) t253 t254 bt268.1 bt268.2.1) else (zH.j0 k a1 t258 t263 true t253 t254 bt268.1 bt268.2.1)) else (zH.j0 k a1 t258 t263 true t253 t254 bt268.1 bt268.2.1)) else (zH.j0 k a1 t258 t263 true t253 t254 bt268.1 bt268.2.1)) else (zH.j0 k a1 t258 t263 true t253 t254 bt268.1 bt268.2.1))) = some (r1,r2,r3,r4,r5,r6,r7) := H
 have A5 := za.mk A50
 clear A50
 replace H := Option.bind_eq_some_iff.mp H
 obtain ⟨⟨t268,t269,t270,t271⟩,A60,H⟩ := H
 replace H : (if t256 = true then (if t260 = 0 then (if t265 = 0 then (if t271 = true then (zH.j0 k a1 t258 t263 (t270.toList != ([] : List UInt8)) t253 t254 t268 t269) else (zH.j0 k a1 t258 t263 true t253 t254 t268 t269)) else (zH.j0 k a1 t258 t263 true t253 t254 t268 t269)) else (zH.j0 k a1 t258 t263 true t253 t254 t268 t269)) else (zH.j0 k a1 t258 t263 true t253 t254 t268 t269)) = some (r1,r2,r3,r4,r5,r6,r7) := H
 have A6 := za.mk A60
 clear A60
 have HC7 := za.mk H
 clear H
 go_enter Tryz.func24,Tryz.ntmps24
 go_upto_region 5 with (first | ((with_reducible refine zy (N := 4) rfl ?_);refine zo ?hg (N := 4) ?hd (cs := #[.int .i64 0,.int .i64 0,.slice none 0 0,.slice none 0 0,.int .i64 0,.int .i64 0]) (t := 27) ?hr ?_;(case hd => rfl);(case hg => rfl);(case hr => first | (go_simp;done) | (go_simp;rfl));intro gb252 hg w8 hbox hb;have n_ := haq (zd hBq hb) <| haq (hbox) <| haq ((by rw [hg];exact (ze hBq) : w.heap.size ≤ gb252)) <| haq ((by rw [hg];exact (ze hBq) : w.heap.size ≤ gb252)) <| trivial;clear HB;obtain ⟨HB,BK252,GW252,GE252,_⟩ := n_;clear hb hbox hg) | ((with_reducible refine zj (f := 49) rfl ?_);refine zQ (some 21) rfl rfl Tryz.func49 (by kernel_rfl) rfl #[.string a0] rfl hMq ?_;(with_reducible refine (z8.calls a0 t253 t254 t255 t256 _ A3.out).mono ?_);rintro e w9 ⟨rfl,hb⟩;refine ⟨_,rfl,?_⟩;have n_ := haq (hbq BK252.out hb) <| haq (zd hCq hb) <| trivial;clear BK252 HB;obtain ⟨BK252,HB,_⟩ := n_;(try clear hb);(try clear hb2);(try clear hk);(try clear hi)) | ((with_reducible refine zy (N := 6) rfl ?_);refine zo ?hg (N := 6) ?hd (cs := #[.int .i64 0,.int .i64 0]) (t := 84) ?hr ?_;(case hd => rfl);(case hg => rfl);(case hr => first | (go_simp;done) | (go_simp;rfl));intro gb257 hg w10 hbox hb;have n_ := haq (hbq BK252.out hb) <| haq (zd hCq hb) <| haq (hbox) <| haq ((by rw [hg];exact (ze hCq) : w.heap.size ≤ gb257)) <| haq ((by rw [hg];exact (ze hCq) : w.heap.size ≤ gb257)) <| haq (hnq hg BK252.out) <| haq (hmq hg BK252.out) <| trivial;clear BK252 HB;obtain ⟨BK252,HB,BK257,GW257,GE257,NB252_257,NB257_252,_⟩ := n_;clear hb hbox hg;have hnb11 := NB257_252.out;have hnc11 := NB252_257.out;obtain ⟨hcz12_0,hcz12_1,hfz12_0,hfz12_1⟩ := hcq2 BK257.out) | ((with_reducible refine zj (f := 50) rfl ?_);refine zQ (some 27) rfl rfl Tryz.func50 (by kernel_rfl) rfl #[.string t255,.int .i64 4,.int .i64 65536] rfl hMq ?_;(with_reducible refine (zV.calls t255 4 65536 t258 t259 t260 _ A4.out).mono ?_);rintro e w13 ⟨v261,rfl,ho0,hb⟩;refine ⟨_,rfl,?_⟩;have n_ := haq (Kd.R_lower ho0 (ze hCq)) <| haq (zx (g := gb252) (o := .cells #[.int .i64 0,.int .i64 0,.slice none 0 0,.slice none 0 0,.int .i64 0,.int .i64 0] 27 (0,0)) (hxq1 NB252_257.out BK252.out) hb) <| haq (zx (g := gb257) (o := .cells #[.int .i64 t253,.int .i64 t254] 84 (0,0)) (hxq0p BK257.out) hb) <| haq (zd hCq hb) <| trivial;clear BK252 BK257 HB;obtain ⟨HO262,BK252,BK257,HB,_⟩ := n_;(try clear hb);(try clear hb2);(try clear hk);(try clear hi);(try clear ho0)) | ((with_reducible refine zj (f := 50) rfl ?_);refine zQ (some 33) rfl rfl Tryz.func50 (by kernel_rfl) rfl #[.string t259,.int .i64 64,.int .i64 32] rfl hMq ?_;(with_reducible refine (zV.calls t259 64 32 t263 t264 t265 _ A5.out).mono ?_);rintro e w14 ⟨v266,rfl,ho0,hb⟩;refine ⟨_,rfl,?_⟩;have n_ := haq (Kd.R_elder' (hRq HO262.out) (Kd.R_base ho0) hb) <| haq (Kd.R_lower (Kd.R_new' ho0 (Kd.R_lt (hRq HO262.out))) (ze hCq)) <| haq (hbq BK252.out hb) <| haq (hbq BK257.out hb) <| haq (zd hCq hb) <| trivial;clear HO262 BK252 BK257 HB;obtain ⟨HO262,HO267,BK252,BK257,HB,_⟩ := n_;(try clear hb);(try clear hb2);(try clear hk);(try clear hi);(try clear ho0)) | ((with_reducible refine zj (f := 49) rfl ?_);refine zQ (some 39) rfl rfl Tryz.func49 (by kernel_rfl) rfl #[.string t264] rfl hMq ?_;(with_reducible refine (z8.calls t264 t268 t269 t270 t271 _ A6.out).mono ?_);rintro e w15 ⟨rfl,hb⟩;refine ⟨_,rfl,?_⟩;have n_ := haq (Kd.R_below (hRq HO262.out) hb) <| haq (Kd.R_below (hRq HO267.out) hb) <| haq (hbq BK252.out hb) <| haq (hbq BK257.out hb) <| haq (zd hCq hb) <| trivial;clear HO262 HO267 BK252 BK257 HB;obtain ⟨HO262,HO267,BK252,BK257,HB,_⟩ := n_;(try clear hb);(try clear hb2);(try clear hk);(try clear hi)) | ((with_reducible refine zy (N := 12) rfl ?_);refine zo ?hg (N := 12) ?hd (cs := #[.int .i64 0,.int .i64 0]) (t := 84) ?hr ?_;(case hd => rfl);(case hg => rfl);(case hr => first | (go_simp;done) | (go_simp;rfl));intro gb272 hg w16 hbox hb;have n_ := haq (Kd.R_below (hRq HO262.out) hb) <| haq (Kd.R_below (hRq HO267.out) hb) <| haq (hbq BK252.out hb) <| haq (hbq BK257.out hb) <| haq (zd hCq hb) <| haq (hbox) <| haq ((by rw [hg];exact (ze hCq) : w.heap.size ≤ gb272)) <| haq ((by rw [hg];exact (ze hCq) : w.heap.size ≤ gb272)) <| haq (hnq hg BK252.out) <| haq (hmq hg BK252.out) <| haq (hnq hg BK257.out) <| haq (hmq hg BK257.out) <| trivial;clear HO262 HO267 BK252 BK257 HB;obtain ⟨HO262,HO267,BK252,BK257,HB,BK272,GW272,GE272,NB252_272,NB272_252,NB257_272,NB272_257,_⟩ := n_;clear hb hbox hg;have hnb17 := NB272_252.out;have hnc17 := NB252_272.out;have hnb18 := NB272_257.out;have hnc18 := NB257_272.out;obtain ⟨hcz19_0,hcz19_1,hfz19_0,hfz19_1⟩ := hcq2 BK272.out))
 (try simp only [Act.put,List.setIfInBounds_toArray,List.set_cons_zero,List.set_cons_succ])
 go_cut [60] (fun v60 wc => ∃ (kq : Nat) (x60_6 : Bool),v60 = .bool x60_6 ∧ za (zH.j0 kq a1 t258 t263 x60_6 t253 t254 t268 t269 = some (r1,r2,r3,r4,r5,r6,r7)) ∧ za (kq ≤ k) ∧ za (Kd.R Kd.string 9 wc w.heap.size (fun k_ => some k_ ≠ (v266 : Value).ownBlock) v261 t258) ∧ za (Kd.R Kd.string 9 wc w.heap.size (fun k_ => some k_ ≠ (v261 : Value).ownBlock) v266 t263) ∧ za (wc.heap[gb252]? = some (.cells #[.int .i64 0,.int .i64 0,(.slice none 0 0),(.slice none 0 0),.int .i64 0,.int .i64 0] 27 (0,0))) ∧ za (wc.heap[gb257]? = some (.cells #[.int .i64 t253,.int .i64 t254] 84 (0,0))) ∧ za (wc.heap[gb272]? = some (.cells #[.int .i64 t268,.int .i64 t269] 84 (0,0))) ∧ za (Below w.heap.size w wc))
 case first =>
  have H := HC7.out
  clear HC7
  by_cases c20 : t256 = true
  ·subst c20
   have H1 : (if t260 = 0 then (if t265 = 0 then (if t271 = true then (zH.j0 k a1 t258 t263 (t270.toList != ([] : List UInt8)) t253 t254 t268 t269) else (zH.j0 k a1 t258 t263 true t253 t254 t268 t269)) else (zH.j0 k a1 t258 t263 true t253 t254 t268 t269)) else (zH.j0 k a1 t258 t263 true t253 t254 t268 t269)) = some (r1,r2,r3,r4,r5,r6,r7) := by rw [if_pos rfl] at H;exact H
   clear H
   have H := H1
   clear H1
   by_cases c21 : t260 = 0
   ·rw [if_pos c21] at H
    have c21b0 : (t260 == 0) = true := beq_iff_eq.mpr c21
    have c21b1 : (t260 != 0) = false := bne_eq_false_iff_eq.mpr c21
    clear c21
    (first | rw [c21b0] | (simp only [zK,zL];rw [c21b0]) | skip)
    by_cases c22 : t265 = 0
    ·rw [if_pos c22] at H
     have c22b0 : (t265 == 0) = true := beq_iff_eq.mpr c22
     have c22b1 : (t265 != 0) = false := bne_eq_false_iff_eq.mpr c22
     clear c22
     by_cases c23 : t271 = true
     ·subst c23
      have H1 : (zH.j0 k a1 t258 t263 (t270.toList != ([] : List UInt8)) t253 t254 t268 t269) = some (r1,r2,r3,r4,r5,r6,r7) := by rw [if_pos rfl] at H;exact H
      clear H
      have H := H1
      clear H1
      have H' := za.mk H
      clear H
      go_wp2
      go_meet
      case rel => exact ⟨_,((t270.toList != ([] : List UInt8))),(by first | rfl | (simp;done) | (simp [*];done) | (cases t270.toList <;> simp;done)),H',⟨by first | omega | exact Nat.le_refl _⟩,⟨by (with_reducible repeat (first | apply Kd.R_alloc | apply Kd.R_drewN | apply Kd.R_drew));exact Kd.R_mono (Kd.R_far (p := ⟨gb272,1,none⟩) (Kd.R_far (p := ⟨gb272,0,none⟩) (Kd.R_types HO262.out BK272.out (by decide)) (fun _ hk => hk.2) (.int .i64 t268)) (fun _ hk => hk.2) (.int .i64 t269)) (fun _ hk => hk.1.2)⟩,⟨by (with_reducible repeat (first | apply Kd.R_alloc | apply Kd.R_drewN | apply Kd.R_drew));exact Kd.R_mono (Kd.R_far (p := ⟨gb272,1,none⟩) (Kd.R_far (p := ⟨gb272,0,none⟩) (Kd.R_types HO267.out BK272.out (by decide)) (fun _ hk => hk.2) (.int .i64 t268)) (fun _ hk => hk.2) (.int .i64 t269)) (fun _ hk => hk.1.2)⟩,⟨hxq1 NB252_272.out BK252.out⟩,⟨hxq1 NB257_272.out BK257.out⟩,⟨hxq0p BK272.out⟩,⟨by repeat (first | (with_reducible first | exact HB.out | apply zk | apply zf | apply zm | refine zw ?_ GE252.out | refine zw ?_ GE257.out | refine zw ?_ GE272.out) | exact HB.out)⟩⟩
     ·replace c23 := Bool.eq_false_iff.mpr c23
      subst c23
      have H1 : (zH.j0 k a1 t258 t263 true t253 t254 t268 t269) = some (r1,r2,r3,r4,r5,r6,r7) := by rw [if_neg (show ¬ (false = true) by decide)] at H;exact H
      clear H
      have H := H1
      clear H1
      have H' := za.mk H
      clear H
      go_wp2
      go_meet
      case rel => exact ⟨_,(true),(hDq),H',⟨by first | omega | exact Nat.le_refl _⟩,⟨by (with_reducible repeat (first | apply Kd.R_alloc | apply Kd.R_drewN | apply Kd.R_drew));exact Kd.R_mono (Kd.R_far (p := ⟨gb272,1,none⟩) (Kd.R_far (p := ⟨gb272,0,none⟩) (Kd.R_types HO262.out BK272.out (by decide)) (fun _ hk => hk.2) (.int .i64 t268)) (fun _ hk => hk.2) (.int .i64 t269)) (fun _ hk => hk.1.2)⟩,⟨by (with_reducible repeat (first | apply Kd.R_alloc | apply Kd.R_drewN | apply Kd.R_drew));exact Kd.R_mono (Kd.R_far (p := ⟨gb272,1,none⟩) (Kd.R_far (p := ⟨gb272,0,none⟩) (Kd.R_types HO267.out BK272.out (by decide)) (fun _ hk => hk.2) (.int .i64 t268)) (fun _ hk => hk.2) (.int .i64 t269)) (fun _ hk => hk.1.2)⟩,⟨hxq1 NB252_272.out BK252.out⟩,⟨hxq1 NB257_272.out BK257.out⟩,⟨hxq0p BK272.out⟩,⟨by repeat (first | (with_reducible first | exact HB.out | apply zk | apply zf | apply zm | refine zw ?_ GE252.out | refine zw ?_ GE257.out | refine zw ?_ GE272.out) | exact HB.out)⟩⟩
    ·rw [if_neg c22] at H
     have c22b0 : (t265 == 0) = false := beq_eq_false_iff_ne.mpr c22
     have c22b1 : (t265 != 0) = true := bne_iff_ne.mpr c22
     have H' := za.mk H
     clear H
     go_wp2
     go_meet
     case rel => exact ⟨_,(true),(hDq),H',⟨by first | omega | exact Nat.le_refl _⟩,⟨by (with_reducible repeat (first | apply Kd.R_alloc | apply Kd.R_drewN | apply Kd.R_drew));exact Kd.R_mono (Kd.R_far (p := ⟨gb272,1,none⟩) (Kd.R_far (p := ⟨gb272,0,none⟩) (Kd.R_types HO262.out BK272.out (by decide)) (fun _ hk => hk.2) (.int .i64 t268)) (fun _ hk => hk.2) (.int .i64 t269)) (fun _ hk => hk.1.2)⟩,⟨by (with_reducible repeat (first | apply Kd.R_alloc | apply Kd.R_drewN | apply Kd.R_drew));exact Kd.R_mono (Kd.R_far (p := ⟨gb272,1,none⟩) (Kd.R_far (p := ⟨gb272,0,none⟩) (Kd.R_types HO267.out BK272.out (by decide)) (fun _ hk => hk.2) (.int .i64 t268)) (fun _ hk => hk.2) (.int .i64 t269)) (fun _ hk => hk.1.2)⟩,⟨hxq1 NB252_272.out BK252.out⟩,⟨hxq1 NB257_272.out BK257.out⟩,⟨hxq0p BK272.out⟩,⟨by repeat (first | (with_reducible first | exact HB.out | apply zk | apply zf | apply zm | refine zw ?_ GE252.out | refine zw ?_ GE257.out | refine zw ?_ GE272.out) | exact HB.out)⟩⟩
   ·rw [if_neg c21] at H
    have c21b0 : (t260 == 0) = false := beq_eq_false_iff_ne.mpr c21
    have c21b1 : (t260 != 0) = true := bne_iff_ne.mpr c21
    (first | rw [c21b0] | (simp only [zK,zL];rw [c21b0]) | skip)
    have H' := za.mk H
    clear H
    go_wp2
    go_meet
    case rel => exact ⟨_,(true),(hDq),H',⟨by first | omega | exact Nat.le_refl _⟩,⟨by (with_reducible repeat (first | apply Kd.R_alloc | apply Kd.R_drewN | apply Kd.R_drew));exact Kd.R_mono (Kd.R_far (p := ⟨gb272,1,none⟩) (Kd.R_far (p := ⟨gb272,0,none⟩) (Kd.R_types HO262.out BK272.out (by decide)) (fun _ hk => hk.2) (.int .i64 t268)) (fun _ hk => hk.2) (.int .i64 t269)) (fun _ hk => hk.1.2)⟩,⟨by (with_reducible repeat (first | apply Kd.R_alloc | apply Kd.R_drewN | apply Kd.R_drew));exact Kd.R_mono (Kd.R_far (p := ⟨gb272,1,none⟩) (Kd.R_far (p := ⟨gb272,0,none⟩) (Kd.R_types HO267.out BK272.out (by decide)) (fun _ hk => hk.2) (.int .i64 t268)) (fun _ hk => hk.2) (.int .i64 t269)) (fun _ hk => hk.1.2)⟩,⟨hxq1 NB252_272.out BK252.out⟩,⟨hxq1 NB257_272.out BK257.out⟩,⟨hxq0p BK272.out⟩,⟨by repeat (first | (with_reducible first | exact HB.out | apply zk | apply zf | apply zm | refine zw ?_ GE252.out | refine zw ?_ GE257.out | refine zw ?_ GE272.out) | exact HB.out)⟩⟩
  ·replace c20 := Bool.eq_false_iff.mpr c20
   subst c20
   have H1 : (zH.j0 k a1 t258 t263 true t253 t254 t268 t269) = some (r1,r2,r3,r4,r5,r6,r7) := by rw [if_neg (show ¬ (false = true) by decide)] at H;exact H
   clear H
   have H := H1
   clear H1
   have H' := za.mk H
   clear H
   go_wp2
   go_meet
   case rel => exact ⟨_,(true),(hDq),H',⟨by first | omega | exact Nat.le_refl _⟩,⟨by (with_reducible repeat (first | apply Kd.R_alloc | apply Kd.R_drewN | apply Kd.R_drew));exact Kd.R_mono (Kd.R_far (p := ⟨gb272,1,none⟩) (Kd.R_far (p := ⟨gb272,0,none⟩) (Kd.R_types HO262.out BK272.out (by decide)) (fun _ hk => hk.2) (.int .i64 t268)) (fun _ hk => hk.2) (.int .i64 t269)) (fun _ hk => hk.1.2)⟩,⟨by (with_reducible repeat (first | apply Kd.R_alloc | apply Kd.R_drewN | apply Kd.R_drew));exact Kd.R_mono (Kd.R_far (p := ⟨gb272,1,none⟩) (Kd.R_far (p := ⟨gb272,0,none⟩) (Kd.R_types HO267.out BK272.out (by decide)) (fun _ hk => hk.2) (.int .i64 t268)) (fun _ hk => hk.2) (.int .i64 t269)) (fun _ hk => hk.1.2)⟩,⟨hxq1 NB252_272.out BK252.out⟩,⟨hxq1 NB257_272.out BK257.out⟩,⟨hxq0p BK272.out⟩,⟨by repeat (first | (with_reducible first | exact HB.out | apply zk | apply zf | apply zm | refine zw ?_ GE252.out | refine zw ?_ GE257.out | refine zw ?_ GE272.out) | exact HB.out)⟩⟩
 case rest =>
  clear HC7
  try clear c1;try clear c2;try clear p2;try clear c4;try clear c5;try clear c11;try clear c17;try clear c18;try clear c20;try clear c21;try clear c21b0;try clear c21b1;try clear c22;try clear c22b0;try clear c22b1;try clear c23;try clear hcz12_0;try clear hcz12_1;try clear hcz19_0;try clear hcz19_1;try clear hfz12_0;try clear hfz12_1;try clear hfz19_0;try clear hfz19_1
  obtain ⟨kq,x60_6,rfl,HA,HJ6,HO_8,HO_10,BK252,BK257,BK272,HB⟩ := hcut
  cases kq with
  | zero => exact absurd HA.out (by simp [zH.j0])
  | succ kj6 =>
   have H := HA.out
   clear HA
   simp only [zH.j0] at H
   by_cases c24 : x60_6 = true
   ·subst c24
    have H1 : (some (0,0,([] : List (S73)),([] : List ByteArray),0,0,3)) = some (r1,r2,r3,r4,r5,r6,r7) := by rw [if_pos rfl] at H;exact H
    clear H
    have H := H1
    clear H1
    simp only [Option.some.injEq,Prod.mk.injEq] at H
    obtain ⟨rfl,rfl,rfl,rfl,rfl,rfl,rfl⟩ := H
    have hnb25 := NB252_257.out
    have hnc25 := NB257_252.out
    have hnb26 := NB252_272.out
    have hnc26 := NB272_252.out
    obtain ⟨hcz27_0,hcz27_1,hcz27_2,hcz27_3,hcz27_4,hcz27_5,hfz27_0,hfz27_1,hfz27_2,hfz27_3,hfz27_4,hfz27_5⟩ := hcq6 BK252.out
    go_wp2
    refine bodyPost_ret (zaq rfl _ _ gb252 27 #[.int .i64 0,.int .i64 0,.slice none 0 0,.slice none 0 0,.int .i64 0,.int .i64 0] (0,0) _ rfl (hxq0p BK252.out) Tryz.underlying27 rfl (by kernel_rfl)) rfl ?_
    exact ⟨_,_,hHq,by first | exact Kd.S_nil _ _ _ _ _ | exact Kd.N_nil _ _ _ _ _ | exact Kd.V_nil _ _ _ _ _ | exact Kd.Q_nil _ _ _ _ _ | exact Kd.R_nil _ _ _ _ _,by first | exact Kd.R_nil _ _ _ _ _ | exact Kd.N_nil _ _ _ _ _ | exact Kd.V_nil _ _ _ _ _ | exact Kd.Q_nil _ _ _ _ _ | exact Kd.S_nil _ _ _ _ _,hCq⟩
   ·replace c24 := Bool.eq_false_iff.mpr c24
    subst c24
    have H1 : (zH.l0 kj6 a1 t258 (t258.length : Int) 0 t253 t254 ([] : List (S73)) t263 t268 t269) = some (r1,r2,r3,r4,r5,r6,r7) := by rw [if_neg (show ¬ (false = true) by decide)] at H;exact H
    clear H
    have H := H1
    clear H1
    have H' := za.mk H
    clear H
    have hnb28 := NB257_252.out
    have hnc28 := NB252_257.out
    have hnb29 := NB257_272.out
    have hnc29 := NB272_257.out
    obtain ⟨hcz30_0,hcz30_1,hfz30_0,hfz30_1⟩ := hcq2 BK257.out
    have hnb31 := NB272_252.out
    have hnc31 := NB252_272.out
    obtain ⟨hcz32_0,hcz32_1,hfz32_0,hfz32_1⟩ := hcq2 BK272.out
    obtain ⟨Ao33,co33,eo33⟩ := Kd.R_slice HO_10.out
    subst eo33
    go_wp2_with (first | ((with_reducible refine zy (N := 14) rfl ?_);refine zo ?hg (N := 14) ?hd (cs := #[.int .i64 0,.int .i64 0,.slice none 0 0,.slice none 0 0,.int .i64 0,.int .i64 0]) (t := 27) ?hr ?_;(case hd => rfl);(case hg => rfl);(case hr => first | (go_simp;done) | (go_simp;rfl));intro gb273 hg w34 hbox hb;have n_ := haq (Kd.R_below (hRq HO_8.out) hb) <| haq (Kd.R_below (hRq HO_10.out) hb) <| haq (hbq BK252.out hb) <| haq (hbq BK257.out hb) <| haq (hbq BK272.out hb) <| haq (zd hCq hb) <| haq (hbox) <| haq ((by rw [hg];exact (ze hCq) : w.heap.size ≤ gb273)) <| haq ((by rw [hg];exact (ze hCq) : w.heap.size ≤ gb273)) <| haq (hnq hg BK252.out) <| haq (hmq hg BK252.out) <| haq (hnq hg BK257.out) <| haq (hmq hg BK257.out) <| haq (hnq hg BK272.out) <| haq (hmq hg BK272.out) <| trivial;clear HO_8 HO_10 BK252 BK257 BK272 HB;obtain ⟨HO_8,HO_10,BK252,BK257,BK272,HB,BK273,GW273,GE273,NB252_273,NB273_252,NB257_273,NB273_257,NB272_273,NB273_272,_⟩ := n_;clear hb hbox hg;have hnb35 := NB273_252.out;have hnc35 := NB252_273.out;have hnb36 := NB273_257.out;have hnc36 := NB257_273.out;have hnb37 := NB273_272.out;have hnc37 := NB272_273.out;obtain ⟨hcz38_0,hcz38_1,hcz38_2,hcz38_3,hcz38_4,hcz38_5,hfz38_0,hfz38_1,hfz38_2,hfz38_3,hfz38_4,hfz38_5⟩ := hcq6 BK273.out;obtain ⟨Ao39,co39,eo39⟩ := Kd.R_slice HO_8.out;subst eo39))
    go_loopg [75] kj6 (fun kq v75 w' => ∃ (x75_2 : Int) (x253000_2 : Int) (x253001_2 : Int) (x253004_2 : Int) (x253005_2 : Int) (x274002_2 : List (S73)) (u274002 : Value),v75 = .int .i64 x75_2 ∧ za (zH.l0 kq a1 t258 (t258.length : Int) x75_2 t253 t254 x274002_2 t263 t268 t269 = some (r1,r2,r3,r4,r5,r6,r7)) ∧ za (kq ≤ kj6) ∧ za (Kd.R Kd.string 9 w' w.heap.size (fun k_ => some k_ ≠ ((.slice Ao33 t263.length co33) : Value).ownBlock) (.slice Ao39 t258.length co39) t258) ∧ za (Kd.S k73 73 w' w.heap.size (fun k_ => some k_ ≠ ((.slice Ao39 t258.length co39) : Value).ownBlock ∧ some k_ ≠ ((.slice Ao33 t263.length co33) : Value).ownBlock) u274002 x274002_2) ∧ za (Kd.R Kd.string 9 w' w.heap.size (fun k_ => some k_ ≠ ((.slice Ao39 t258.length co39) : Value).ownBlock) (.slice Ao33 t263.length co33) t263) ∧ za (w'.heap[gb252]? = some (.cells #[.int .i64 x253000_2,.int .i64 x253001_2,(.slice none 0 0),(.slice none 0 0),.int .i64 x253004_2,.int .i64 x253005_2] 27 (0,0))) ∧ za (w'.heap[gb257]? = some (.cells #[.int .i64 t253,.int .i64 t254] 84 (0,0))) ∧ za (w'.heap[gb272]? = some (.cells #[.int .i64 t268,.int .i64 t269] 84 (0,0))) ∧ za (w'.heap[gb273]? = some (.cells #[.int .i64 t253,.int .i64 t254,u274002,(.slice Ao33 t263.length co33),.int .i64 t268,.int .i64 t269] 27 (0,0))) ∧ za (Below w.heap.size w w'))
    case atStart => exact ⟨(0),(0),(0),(0),(0),(([] : List (S73))),(.slice none 0 0),(hDq),H',⟨Nat.le_refl _⟩,⟨by (with_reducible repeat (first | apply Kd.R_alloc | apply Kd.R_drewN | apply Kd.R_drew));exact Kd.R_mono (Kd.R_far (p := ⟨gb273,5,none⟩) (Kd.R_far (p := ⟨gb273,4,none⟩) (Kd.R_far (p := ⟨gb273,3,none⟩) (Kd.R_far (p := ⟨gb273,2,none⟩) (Kd.R_far (p := ⟨gb273,1,none⟩) (Kd.R_far (p := ⟨gb273,0,none⟩) (Kd.R_types HO_8.out BK273.out (by decide)) (fun _ hk => hk.2) (.int .i64 t253)) (fun _ hk => hk.2) (.int .i64 t254)) (fun _ hk => hk.2) (.slice none 0 0)) (fun _ hk => hk.2) (.slice Ao33 t263.length co33)) (fun _ hk => hk.2) (.int .i64 t268)) (fun _ hk => hk.2) (.int .i64 t269)) (fun _ hk => hk.1)⟩,⟨by first | exact Kd.S_nil _ _ _ _ _ | exact Kd.N_nil _ _ _ _ _ | exact Kd.V_nil _ _ _ _ _ | exact Kd.Q_nil _ _ _ _ _ | exact Kd.R_nil _ _ _ _ _⟩,⟨by (with_reducible repeat (first | apply Kd.R_alloc | apply Kd.R_drewN | apply Kd.R_drew));exact Kd.R_mono (Kd.R_far (p := ⟨gb273,5,none⟩) (Kd.R_far (p := ⟨gb273,4,none⟩) (Kd.R_far (p := ⟨gb273,3,none⟩) (Kd.R_far (p := ⟨gb273,2,none⟩) (Kd.R_far (p := ⟨gb273,1,none⟩) (Kd.R_far (p := ⟨gb273,0,none⟩) (Kd.R_types HO_10.out BK273.out (by decide)) (fun _ hk => hk.2) (.int .i64 t253)) (fun _ hk => hk.2) (.int .i64 t254)) (fun _ hk => hk.2) (.slice none 0 0)) (fun _ hk => hk.2) (.slice Ao33 t263.length co33)) (fun _ hk => hk.2) (.int .i64 t268)) (fun _ hk => hk.2) (.int .i64 t269)) (fun _ hk => hk.1)⟩,⟨hxq1 NB252_273.out BK252.out⟩,⟨hxq1 NB257_273.out BK257.out⟩,⟨hxq1 NB272_273.out BK272.out⟩,⟨hxq0p BK273.out⟩,⟨by repeat (first | (with_reducible first | exact HB.out | apply zk | apply zf | apply zm | refine zw ?_ GE252.out | refine zw ?_ GE257.out | refine zw ?_ GE272.out | refine zw ?_ GE273.out) | exact HB.out)⟩⟩
    case round =>
     clear H'
     try clear c1;try clear c2;try clear p2;try clear c3;try clear c4;try clear c5;try clear c11;try clear c17;try clear c18;try clear c20;try clear c21;try clear c21b0;try clear c21b1;try clear c22;try clear c22b0;try clear c22b1;try clear c23;try clear c24;try clear c25;try clear c26;try clear c28;try clear c29;try clear c31;try clear c35;try clear c36;try clear c37;try clear hcz12_0;try clear hcz12_1;try clear hcz19_0;try clear hcz19_1;try clear hcz27_0;try clear hcz27_1;try clear hcz27_2;try clear hcz27_3;try clear hcz27_4;try clear hcz27_5;try clear hcz30_0;try clear hcz30_1;try clear hcz32_0;try clear hcz32_1;try clear hcz38_0;try clear hcz38_1;try clear hcz38_2;try clear hcz38_3;try clear hcz38_4;try clear hcz38_5;try clear hfz12_0;try clear hfz12_1;try clear hfz19_0;try clear hfz19_1;try clear hfz27_0;try clear hfz27_1;try clear hfz27_2;try clear hfz27_3;try clear hfz27_4;try clear hfz27_5;try clear hfz30_0;try clear hfz30_1;try clear hfz32_0;try clear hfz32_1;try clear hfz38_0;try clear hfz38_1;try clear hfz38_2;try clear hfz38_3;try clear hfz38_4;try clear hfz38_5;try clear p2
     obtain ⟨x75_2,x253000_2,x253001_2,x253004_2,x253005_2,x274002_2,u274002,rfl,HA,HK2,HO_73,HO_274002,HO_274003,BK252,BK257,BK272,BK273,HB⟩ := hrel
     cases gk with
     | zero => exact absurd HA.out (by simp [zH.l0])
     | succ k2 =>
      have H := HA.out
      clear HA
      simp only [zH.l0] at H
      by_cases c40 : x75_2 < (t258.length : Int)
      ·rw [if_pos c40] at H
       have c40b0 : decide (x75_2 < (t258.length : Int)) = true := decide_eq_true c40
       clear c40
       by_cases c41 : 0 ≤ x75_2
       ·rw [if_pos c41] at H
        have c41b0 : decide (0 ≤ x75_2) = true := decide_eq_true c41
        clear c41
        by_cases c42 : x75_2 < (t258.length : Int)
        ·rw [if_pos c42] at H
         have c42b0 : decide (x75_2 < (t258.length : Int)) = true := decide_eq_true c42
         clear c42
         replace H := Option.bind_eq_some_iff.mp H
         obtain ⟨⟨t275,t276,t277,t280⟩,A430,H⟩ := H
         replace H : (if t280 = 0 then (if x274002_2.length < 3518437208883 then (zH.l0 k2 a1 t258 (t258.length : Int) (wrap64 (x75_2 + 1)) t253 t254 (x274002_2 ++ [(⟨t275,t276,t277⟩ : S73)]) t263 t268 t269) else (none)) else (some (0,0,([] : List (S73)),([] : List ByteArray),0,0,3))) = some (r1,r2,r3,r4,r5,r6,r7) := H
         have A43 := za.mk A430
         clear A430
         by_cases c44 : t280 = 0
         ·rw [if_pos c44] at H
          have c44b0 : (t280 == 0) = true := beq_iff_eq.mpr c44
          have c44b1 : (t280 != 0) = false := bne_eq_false_iff_eq.mpr c44
          clear c44
          by_cases c45 : x274002_2.length < 3518437208883
          ·rw [if_pos c45] at H
           have LMc45 := za.mk c45
           clear c45
           obtain ⟨y282,hy282⟩ : ∃ y_ : List (S73),y_ = (x274002_2 ++ [(⟨t275,t276,t277⟩ : S73)]) := ⟨_,rfl⟩
           replace H : (zH.l0 k2 a1 t258 (t258.length : Int) (wrap64 (x75_2 + 1)) t253 t254 y282 t263 t268 t269) = some (r1,r2,r3,r4,r5,r6,r7) := by first | (rw [hy282];with_reducible exact H) | (have H2_ := (Option.bind_some _ _).symm.trans H;rw [hy282];with_reducible exact H2_) | (have H2_ := (Option.bind_some _ _).symm.trans H;with_reducible exact H2_) | with_reducible exact H | (rw [hy282];exact H) | exact H
           have Ny282 := za.mk hy282
           clear hy282
           have H' := za.mk H
           clear H
           have p274 : 0 ≤ (x75_2 : Int) := hFq
           have q274 : x75_2 < (t258.length : Int) := hFq
           obtain ⟨ad274,e274,hx274_0⟩ := Kd.at_string (Kd.R_reads' HO_73.out).2.2 x75_2 p274 q274
           cases e274
           replace p274 := eq_true p274
           replace q274 := eq_true q274
           go_wp2_with (first | ((with_reducible refine zj (f := 51) rfl ?_);refine zQ (some 81) rfl rfl Tryz.func51 (by kernel_rfl) rfl #[.string (zG ByteArray.empty t258 x75_2)] rfl hMq ?_;(with_reducible refine (zas.calls k2 (zG ByteArray.empty t258 x75_2) t275 t276 t277 t280 _ A43.out).mono ?_);rintro e w46 ⟨v278,rfl,ho0,hb⟩;refine ⟨_,rfl,?_⟩;have n_ := haq (Kd.R_elder' (hRq HO_73.out) (Kd.R_base ho0) hb) <| haq (Kd.S_elder' (hSq HO_274002.out) (Kd.R_base ho0) hb) <| haq (Kd.R_elder' (hRq HO_274003.out) (Kd.R_base ho0) hb) <| haq (Kd.R_lower (Kd.R_new' (Kd.R_new' ho0 (Kd.R_lt (hRq HO_73.out))) (Kd.R_lt (hRq HO_274003.out))) (ze hCq)) <| haq (hbq BK252.out hb) <| haq (hbq BK257.out hb) <| haq (hbq BK272.out hb) <| haq (hbq BK273.out hb) <| haq (zd hCq hb) <| trivial;clear HO_73 HO_274002 HO_274003 BK252 BK257 BK272 BK273 HB;obtain ⟨HO_73,HO_274002,HO_274003,HO279,BK252,BK257,BK272,BK273,HB,_⟩ := n_;(try clear hb);(try clear hb2);(try clear hk);(try clear hi);(try clear ho0)) | ((with_reducible refine zy (N := 17) rfl ?_);refine zo ?hg (N := 17) ?hd (cs := #[.int .i64 0,.int .i64 0,.slice none 0 0]) (t := 73) ?hr ?_;(case hd => rfl);(case hg => rfl);(case hr => first | (go_simp;done) | (go_simp;rfl));intro gb281 hg w47 hbox hb;have n_ := haq (Kd.R_below (hRq HO_73.out) hb) <| haq (Kd.S_below (Kd.S_elderB (hSq HO_274002.out) gb281 (Nat.le_of_eq hg.symm)) hb) <| haq (Kd.R_below (hRq HO_274003.out) hb) <| haq (Kd.R_below (hRq HO279.out) hb) <| haq (hbq BK252.out hb) <| haq (hbq BK257.out hb) <| haq (hbq BK272.out hb) <| haq (hbq BK273.out hb) <| haq (zd hCq hb) <| haq (hbox) <| haq ((by rw [hg];exact (ze hCq) : w.heap.size ≤ gb281)) <| haq ((by rw [hg];exact (ze hCq) : w.heap.size ≤ gb281)) <| haq (hnq hg BK252.out) <| haq (hmq hg BK252.out) <| haq (hnq hg BK257.out) <| haq (hmq hg BK257.out) <| haq (hnq hg BK272.out) <| haq (hmq hg BK272.out) <| haq (hnq hg BK273.out) <| haq (hmq hg BK273.out) <| trivial;clear HO_73 HO_274002 HO_274003 HO279 BK252 BK257 BK272 BK273 HB;obtain ⟨HO_73,HO_274002,HO_274003,HO279,BK252,BK257,BK272,BK273,HB,BK281,GW281,GE281,NB252_281,NB281_252,NB257_281,NB281_257,NB272_281,NB281_272,NB273_281,NB281_273,_⟩ := n_;clear hb hbox hg;have hnb48 := NB281_252.out;have hnc48 := NB252_281.out;have hnb49 := NB281_257.out;have hnc49 := NB257_281.out;have hnb50 := NB281_272.out;have hnc50 := NB272_281.out;have hnb51 := NB281_273.out;have hnc51 := NB273_281.out;obtain ⟨hcz52_0,hcz52_1,hcz52_2,hfz52_0,hfz52_1,hfz52_2⟩ := hcq3 BK281.out;obtain ⟨Ao53,co53,eo53⟩ := Kd.R_slice HO279.out;subst eo53) | ((with_reducible refine zgw (t := 73) (p := 17) rfl ?_);refine zfR (t := 73) (p := 17) (v := ?vo_w54) (w1 := (((w47.setCell ⟨gb281,0,none⟩ (.int .i64 t275)).setCell ⟨gb281,1,none⟩ (.int .i64 t276)).setCell ⟨gb281,2,none⟩ (.slice Ao53 t277.length co53))) ?hg ?ho ?hn ?hr ?_;(case ho => rfl);(case hg => rfl);(case hn => rfl);(case hr => first | (go_simp;done) | (go_simp;rfl));intro w54 hw;have n_ := haq (((by rw [hw];exact (by (with_reducible repeat (first | apply Kd.R_alloc | apply Kd.R_drewN | apply Kd.R_drew));exact Kd.R_mono (Kd.R_far (p := ⟨gb281,2,none⟩) (Kd.R_far (p := ⟨gb281,1,none⟩) (Kd.R_far (p := ⟨gb281,0,none⟩) (Kd.R_types HO_73.out BK281.out (by decide)) (fun _ hk => hk.2) (.int .i64 t275)) (fun _ hk => hk.2) (.int .i64 t276)) (fun _ hk => hk.2) (.slice Ao53 t277.length co53)) (fun _ hk => ⟨hk.1.1,hk.1.2⟩))) : Kd.R Kd.string 9 w54 w.heap.size (fun k_ => some k_ ≠ (.slice Ao33 t263.length co33 : Value).ownBlock ∧ some k_ ≠ (.slice Ao53 t277.length co53 : Value).ownBlock) (.slice (some ad274) t258.length co39) t258)) <| haq (((by rw [hw];exact (by (with_reducible repeat (first | apply Kd.S_alloc | apply Kd.S_drewN | apply Kd.S_drew));exact Kd.S_mono (Kd.S_far (p := ⟨gb281,2,none⟩) (Kd.S_far (p := ⟨gb281,1,none⟩) (Kd.S_far (p := ⟨gb281,0,none⟩) (Kd.S_mono HO_274002.out (fun k_ hk => (⟨hk,hk.2⟩ : _ ∧ k_ ≠ gb281))) (fun _ hk => hk.2) (.int .i64 t275)) (fun _ hk => hk.2) (.int .i64 t276)) (fun _ hk => hk.2) (.slice Ao53 t277.length co53)) (fun _ hk => ⟨hk.1.1.1.1,⟨hk.1.1.1.2,⟨hk.1.1.2,hk.1.2⟩⟩⟩))) : Kd.S k73 73 w54 w.heap.size (fun k_ => some k_ ≠ (.slice (some ad274) t258.length co39 : Value).ownBlock ∧ some k_ ≠ (.slice Ao33 t263.length co33 : Value).ownBlock ∧ some k_ ≠ (.slice Ao53 t277.length co53 : Value).ownBlock ∧ k_ ≠ gb281) u274002 x274002_2)) <| haq (((by rw [hw];exact (by (with_reducible repeat (first | apply Kd.R_alloc | apply Kd.R_drewN | apply Kd.R_drew));exact Kd.R_mono (Kd.R_far (p := ⟨gb281,2,none⟩) (Kd.R_far (p := ⟨gb281,1,none⟩) (Kd.R_far (p := ⟨gb281,0,none⟩) (Kd.R_types HO_274003.out BK281.out (by decide)) (fun _ hk => hk.2) (.int .i64 t275)) (fun _ hk => hk.2) (.int .i64 t276)) (fun _ hk => hk.2) (.slice Ao53 t277.length co53)) (fun _ hk => ⟨hk.1.1,hk.1.2⟩))) : Kd.R Kd.string 9 w54 w.heap.size (fun k_ => some k_ ≠ (.slice (some ad274) t258.length co39 : Value).ownBlock ∧ some k_ ≠ (.slice Ao53 t277.length co53 : Value).ownBlock) (.slice Ao33 t263.length co33) t263)) <| haq (((by rw [hw];exact (by (with_reducible repeat (first | apply Kd.R_alloc | apply Kd.R_drewN | apply Kd.R_drew));exact Kd.R_mono (Kd.R_far (p := ⟨gb281,2,none⟩) (Kd.R_far (p := ⟨gb281,1,none⟩) (Kd.R_far (p := ⟨gb281,0,none⟩) (Kd.R_types HO279.out BK281.out (by decide)) (fun _ hk => hk.2) (.int .i64 t275)) (fun _ hk => hk.2) (.int .i64 t276)) (fun _ hk => hk.2) (.slice Ao53 t277.length co53)) (fun _ hk => ⟨hk.1.1.2,hk.1.2⟩))) : Kd.R Kd.string 9 w54 w.heap.size (fun k_ => some k_ ≠ (.slice (some ad274) t258.length co39 : Value).ownBlock ∧ some k_ ≠ (.slice Ao33 t263.length co33 : Value).ownBlock) (.slice Ao53 t277.length co53) t277)) <| haq (hfq hw NB252_281.out BK252.out) <| haq (hfq hw NB257_281.out BK257.out) <| haq (hfq hw NB272_281.out BK272.out) <| haq (hfq hw NB273_281.out BK273.out) <| haq (((by rw [hw];exact (hxq0p BK281.out)) : w54.heap[gb281]? = some (.cells #[.int .i64 t275,.int .i64 t276,.slice Ao53 t277.length co53] 73 (0,0)))) <| haq (((by rw [hw];exact hCq) : Below w.heap.size w w54)) <| trivial;clear hw HO_73 HO_274002 HO_274003 HO279 BK252 BK257 BK272 BK273 BK281 HB;obtain ⟨HO_73,HO_274002,HO_274003,HO279,BK252,BK257,BK272,BK273,BK281,HB,_⟩ := n_;have hnb55 := NB273_252.out;have hnc55 := NB252_273.out;have hnb56 := NB273_257.out;have hnc56 := NB257_273.out;have hnb57 := NB273_272.out;have hnc57 := NB272_273.out;obtain ⟨hcz58_0,hcz58_1,hcz58_2,hcz58_3,hcz58_4,hcz58_5,hfz58_0,hfz58_1,hfz58_2,hfz58_3,hfz58_4,hfz58_5⟩ := hcq6 BK273.out;obtain ⟨hcz59_0,hcz59_1,hcz59_2,hfz59_0,hfz59_1,hfz59_2⟩ := hcq3 BK281.out) | ((with_reducible refine zcN (b := .append) (xs := #[.tmp 88,.tmp 90]) rfl ?_);at_builtin;refine Kd.S_append k73 (w0 := w) w.heap.size rfl (.tmp 88) (.tmp 90) 22 73 (.agg #[(.int .i64 0),(.int .i64 0),(.slice none 0 0)]) 40 rfl Tryz.underlying22 info73 rfl (by decide) (by omega) u274002 x274002_2 (⟨t275,t276,t277⟩ : S73) [.int .i64 t275,.int .i64 t276,.slice Ao53 t277.length co53] (fun k_ => some k_ ≠ (.slice (some ad274) t258.length co39 : Value).ownBlock ∧ some k_ ≠ (.slice Ao33 t263.length co33 : Value).ownBlock ∧ k_ ≠ gb281) (fun k_ => some k_ = (.slice Ao53 t277.length co53 : Value).ownBlock) rfl rfl ?aP (fun k_ hk_ => ((Kd.R_mono (ok' := fun k_ => ((fun k_ => some k_ ≠ (.slice (some ad274) t258.length co39 : Value).ownBlock ∧ some k_ ≠ (.slice Ao33 t263.length co33 : Value).ownBlock ∧ k_ ≠ gb281)) k_ ∧ some k_ ≠ (u274002 : Value).ownBlock) (Kd.R_types (Kd.R_apart' (HO279.out) (Kd.S_typed HO_274002.out) (by decide)) BK281.out (by decide)) (fun k_ hk => ⟨⟨hk.1.1.1,⟨hk.1.1.2,hk.2⟩⟩,hk.1.2⟩))).1 k_ hk_.symm) ?aF ?aO ?aB ?aS ?aL ?_;(case aP => exact k73_mkM _ _ _ (⟨t275,t276,t277⟩ : S73) (Kd.R_mono (Kd.R_tight rfl (Kd.R_mono (ok' := fun k_ => ((fun k_ => some k_ ≠ (.slice (some ad274) t258.length co39 : Value).ownBlock ∧ some k_ ≠ (.slice Ao33 t263.length co33 : Value).ownBlock ∧ k_ ≠ gb281)) k_ ∧ some k_ ≠ (u274002 : Value).ownBlock) (Kd.R_types (Kd.R_apart' (HO279.out) (Kd.S_typed HO_274002.out) (by decide)) BK281.out (by decide)) (fun k_ hk => ⟨⟨hk.1.1.1,⟨hk.1.1.2,hk.2⟩⟩,hk.1.2⟩))) (fun _ h_ => h_)));(case aB => exact hCq);(case aF => exact (fun k_ hk => ⟨Kd.fresh' (Kd.R_lt (hRq HO_73.out)) k_ hk,Kd.fresh' (Kd.R_lt (hRq HO_274003.out)) k_ hk,Kd.freshB (g := gb281) (o := .cells #[.int .i64 t275,.int .i64 t276,.slice Ao53 t277.length co53] 73 (0,0)) (hGq BK281.out) k_ hk⟩));(case aO => exact (by (with_reducible repeat (first | apply Kd.S_alloc | apply Kd.S_drewN | apply Kd.S_drew));exact Kd.S_mono HO_274002.out (fun k_ hk => ⟨⟨hk.1,⟨hk.2.1,hk.2.2.2⟩⟩,fun e_ => hk.2.2.1 e_⟩)));(case aS => exact (ze hCq));(case aL => have := LMc45.out;omega);intro v283 w60 ho hb hg hat;rw [← Ny282.out] at ho;have n_ := haq (Kd.R_over' (hRq HO_73.out) (Kd.S_typed (hSq HO_274002.out)) (by decide) hg) <| haq (Kd.R_over' (hRq HO_274003.out) (Kd.S_typed (hSq HO_274002.out)) (by decide) hg) <| haq (zcn (g := gb252) (o := .cells #[.int .i64 x253000_2,.int .i64 x253001_2,.slice none 0 0,.slice none 0 0,.int .i64 x253004_2,.int .i64 x253005_2] 27 (0,0)) (hGq BK252.out) hg (Kd.S_ne HO_274002.out BK252.out (by decide))) <| haq (zcn (g := gb257) (o := .cells #[.int .i64 t253,.int .i64 t254] 84 (0,0)) (hGq BK257.out) hg (Kd.S_ne HO_274002.out BK257.out (by decide))) <| haq (zcn (g := gb272) (o := .cells #[.int .i64 t268,.int .i64 t269] 84 (0,0)) (hGq BK272.out) hg (Kd.S_ne HO_274002.out BK272.out (by decide))) <| haq (zcn (g := gb273) (o := .cells #[.int .i64 t253,.int .i64 t254,u274002,.slice Ao33 t263.length co33,.int .i64 t268,.int .i64 t269] 27 (0,0)) (hGq BK273.out) hg (Kd.S_ne HO_274002.out BK273.out (by decide))) <| haq (zcn (g := gb281) (o := .cells #[.int .i64 t275,.int .i64 t276,.slice Ao53 t277.length co53] 73 (0,0)) (hGq BK281.out) hg (Kd.S_away HO_274002.out (fun _ hk => hk.2.2.2))) <| haq (hb) <| haq (ho) <| trivial;clear HO_73 HO_274003 BK252 BK257 BK272 BK273 BK281 HB HO_274002 HO279;obtain ⟨HO_73,HO_274003,BK252,BK257,BK272,BK273,BK281,HB,HO284,_⟩ := n_;clear ho hb hg hat;obtain ⟨Ao61,co61,eo61⟩ := Kd.S_slice HO284.out;subst eo61;obtain ⟨hcz62_0,hcz62_1,hcz62_2,hcz62_3,hcz62_4,hcz62_5,hfz62_0,hfz62_1,hfz62_2,hfz62_3,hfz62_4,hfz62_5⟩ := hcq6 BK273.out))
           go_roundg k2
           case measure => have := HJ6.out;have := HK2.out;omega
           case rel => exact ⟨(wrap64 (x75_2 + 1)),(x253000_2),(x253001_2),(x253004_2),(x253005_2),(y282),(.slice Ao61 y282.length co61),(hDq),H',⟨by have := HJ6.out;have := HK2.out;omega⟩,⟨by (with_reducible repeat (first | apply Kd.R_alloc | apply Kd.R_drewN | apply Kd.R_drew));exact Kd.R_mono (Kd.R_far (p := ⟨gb273,2,none⟩) (Kd.R_types HO_73.out BK273.out (by decide)) (fun _ hk => hk.2) (.slice Ao61 y282.length co61)) (fun _ hk => hk.1.1)⟩,⟨by (with_reducible repeat (first | apply Kd.S_alloc | apply Kd.S_drewN | apply Kd.S_drew));exact Kd.S_mono (Kd.S_far (p := ⟨gb273,2,none⟩) (Kd.S_types HO284.out BK273.out (by decide)) (fun _ hk => hk.2) (.slice Ao61 y282.length co61)) (fun _ hk => ⟨hk.1.1,hk.1.2.1⟩)⟩,⟨by (with_reducible repeat (first | apply Kd.R_alloc | apply Kd.R_drewN | apply Kd.R_drew));exact Kd.R_mono (Kd.R_far (p := ⟨gb273,2,none⟩) (Kd.R_types HO_274003.out BK273.out (by decide)) (fun _ hk => hk.2) (.slice Ao61 y282.length co61)) (fun _ hk => hk.1.1)⟩,⟨hxq1 NB252_273.out BK252.out⟩,⟨hxq1 NB257_273.out BK257.out⟩,⟨hxq1 NB272_273.out BK272.out⟩,⟨hxq0p BK273.out⟩,⟨by repeat (first | (with_reducible first | exact HB.out | apply zk | apply zf | apply zm | refine zw ?_ GE252.out | refine zw ?_ GE257.out | refine zw ?_ GE272.out | refine zw ?_ GE273.out | refine zw ?_ GE281.out) | exact HB.out)⟩⟩
          ·rw [if_neg c45] at H
           exact absurd H (by simp)
         ·rw [if_neg c44] at H
          have c44b0 : (t280 == 0) = false := beq_eq_false_iff_ne.mpr c44
          have c44b1 : (t280 != 0) = true := bne_iff_ne.mpr c44
          simp only [Option.some.injEq,Prod.mk.injEq] at H
          obtain ⟨rfl,rfl,rfl,rfl,rfl,rfl,rfl⟩ := H
          have p274 : 0 ≤ (x75_2 : Int) := hFq
          have q274 : x75_2 < (t258.length : Int) := hFq
          obtain ⟨ad274,e274,hx274_0⟩ := Kd.at_string (Kd.R_reads' HO_73.out).2.2 x75_2 p274 q274
          cases e274
          replace p274 := eq_true p274
          replace q274 := eq_true q274
          go_wp2_with (first | ((with_reducible refine zj (f := 51) rfl ?_);refine zQ (some 81) rfl rfl Tryz.func51 (by kernel_rfl) rfl #[.string (zG ByteArray.empty t258 x75_2)] rfl hMq ?_;(with_reducible refine (zas.calls k2 (zG ByteArray.empty t258 x75_2) t275 t276 t277 t280 _ A43.out).mono ?_);rintro e w63 ⟨v278,rfl,ho0,hb⟩;refine ⟨_,rfl,?_⟩;have n_ := haq (Kd.R_elder' (hRq HO_73.out) (Kd.R_base ho0) hb) <| haq (Kd.S_elder' (hSq HO_274002.out) (Kd.R_base ho0) hb) <| haq (Kd.R_elder' (hRq HO_274003.out) (Kd.R_base ho0) hb) <| haq (Kd.R_lower (Kd.R_new' (Kd.R_new' ho0 (Kd.R_lt (hRq HO_73.out))) (Kd.R_lt (hRq HO_274003.out))) (ze hCq)) <| haq (hbq BK252.out hb) <| haq (hbq BK257.out hb) <| haq (hbq BK272.out hb) <| haq (hbq BK273.out hb) <| haq (zd hCq hb) <| trivial;clear HO_73 HO_274002 HO_274003 BK252 BK257 BK272 BK273 HB;obtain ⟨HO_73,HO_274002,HO_274003,HO279,BK252,BK257,BK272,BK273,HB,_⟩ := n_;(try clear hb);(try clear hb2);(try clear hk);(try clear hi);(try clear ho0)) | ((with_reducible refine zy (N := 17) rfl ?_);refine zo ?hg (N := 17) ?hd (cs := #[.int .i64 0,.int .i64 0,.slice none 0 0]) (t := 73) ?hr ?_;(case hd => rfl);(case hg => rfl);(case hr => first | (go_simp;done) | (go_simp;rfl));intro gb281 hg w64 hbox hb;have n_ := haq (Kd.R_below (hRq HO_73.out) hb) <| haq (Kd.S_below (Kd.S_elderB (hSq HO_274002.out) gb281 (Nat.le_of_eq hg.symm)) hb) <| haq (Kd.R_below (hRq HO_274003.out) hb) <| haq (Kd.R_below (hRq HO279.out) hb) <| haq (hbq BK252.out hb) <| haq (hbq BK257.out hb) <| haq (hbq BK272.out hb) <| haq (hbq BK273.out hb) <| haq (zd hCq hb) <| haq (hbox) <| haq ((by rw [hg];exact (ze hCq) : w.heap.size ≤ gb281)) <| haq ((by rw [hg];exact (ze hCq) : w.heap.size ≤ gb281)) <| haq (hnq hg BK252.out) <| haq (hmq hg BK252.out) <| haq (hnq hg BK257.out) <| haq (hmq hg BK257.out) <| haq (hnq hg BK272.out) <| haq (hmq hg BK272.out) <| haq (hnq hg BK273.out) <| haq (hmq hg BK273.out) <| trivial;clear HO_73 HO_274002 HO_274003 HO279 BK252 BK257 BK272 BK273 HB;obtain ⟨HO_73,HO_274002,HO_274003,HO279,BK252,BK257,BK272,BK273,HB,BK281,GW281,GE281,NB252_281,NB281_252,NB257_281,NB281_257,NB272_281,NB281_272,NB273_281,NB281_273,_⟩ := n_;clear hb hbox hg;have hnb65 := NB281_252.out;have hnc65 := NB252_281.out;have hnb66 := NB281_257.out;have hnc66 := NB257_281.out;have hnb67 := NB281_272.out;have hnc67 := NB272_281.out;have hnb68 := NB281_273.out;have hnc68 := NB273_281.out;obtain ⟨hcz69_0,hcz69_1,hcz69_2,hfz69_0,hfz69_1,hfz69_2⟩ := hcq3 BK281.out;obtain ⟨Ao70,co70,eo70⟩ := Kd.R_slice HO279.out;subst eo70;have hnb71 := NB252_257.out;have hnc71 := NB257_252.out;have hnb72 := NB252_272.out;have hnc72 := NB272_252.out;have hnb73 := NB252_273.out;have hnc73 := NB273_252.out;obtain ⟨hcz74_0,hcz74_1,hcz74_2,hcz74_3,hcz74_4,hcz74_5,hfz74_0,hfz74_1,hfz74_2,hfz74_3,hfz74_4,hfz74_5⟩ := hcq6 BK252.out))
          refine bodyPost_ret (zaq rfl _ _ gb252 27 #[.int .i64 0,.int .i64 0,.slice none 0 0,.slice none 0 0,.int .i64 0,.int .i64 0] (0,0) _ rfl (hxq1p NB252_281.out BK252.out) Tryz.underlying27 rfl (by kernel_rfl)) rfl ?_
          exact ⟨_,_,hHq,by first | exact Kd.S_nil _ _ _ _ _ | exact Kd.N_nil _ _ _ _ _ | exact Kd.V_nil _ _ _ _ _ | exact Kd.Q_nil _ _ _ _ _ | exact Kd.R_nil _ _ _ _ _,by first | exact Kd.R_nil _ _ _ _ _ | exact Kd.N_nil _ _ _ _ _ | exact Kd.V_nil _ _ _ _ _ | exact Kd.Q_nil _ _ _ _ _ | exact Kd.S_nil _ _ _ _ _,hCq⟩
        ·rw [if_neg c42] at H
         exact absurd H (by simp)
       ·rw [if_neg c41] at H
        exact absurd H (by simp)
      ·rw [if_neg c40] at H
       have c40b0 : decide (x75_2 < (t258.length : Int)) = false := decide_eq_false c40
       clear c40
       replace H := Option.bind_eq_some_iff.mp H
       obtain ⟨t285,A750,H⟩ := H
       replace H : (if t285 = true then (some (t253,t254,x274002_2,t263,t268,t269,0)) else (some (0,0,([] : List (S73)),([] : List ByteArray),0,0,3))) = some (r1,r2,r3,r4,r5,r6,r7) := H
       have A75 := za.mk A750
       clear A750
       by_cases c76 : t285 = true
       ·subst c76
        have H1 : (some (t253,t254,x274002_2,t263,t268,t269,0)) = some (r1,r2,r3,r4,r5,r6,r7) := by rw [if_pos rfl] at H;exact H
        clear H
        have H := H1
        clear H1
        simp only [Option.some.injEq,Prod.mk.injEq] at H
        obtain ⟨rfl,rfl,rfl,rfl,rfl,rfl,rfl⟩ := H
        have hnb77 := NB273_252.out
        have hnc77 := NB252_273.out
        have hnb78 := NB273_257.out
        have hnc78 := NB257_273.out
        have hnb79 := NB273_272.out
        have hnc79 := NB272_273.out
        obtain ⟨hcz80_0,hcz80_1,hcz80_2,hcz80_3,hcz80_4,hcz80_5,hfz80_0,hfz80_1,hfz80_2,hfz80_3,hfz80_4,hfz80_5⟩ := hcq6 BK273.out
        obtain ⟨Ao81,co81,eo81⟩ := Kd.S_slice HO_274002.out
        subst eo81
        go_wp2_with (first | ((with_reducible refine zj (f := 33) rfl ?_);refine zQ (some 96) rfl rfl Tryz.func33 (by kernel_rfl) rfl #[.agg #[.int .i64 t253,.int .i64 t254,.slice Ao81 x274002_2.length co81,.slice Ao33 t263.length co33,.int .i64 t268,.int .i64 t269],.int .i64 a1] rfl hMq ?_;(with_reducible refine (zao.calls t253 t254 _ _ x274002_2 _ _ t263 t268 t269 a1 true _ ?side1 ?side2 ?side3 ?side4 A75.out).mono ?_);(case side1 => repeat (first | exact (Kd.S_reads' HO_274002.out).2.2 | (with_reducible refine Kd.C_alloc ?_ _) | (with_reducible refine Kd.C_drewN ?_ _) | (with_reducible refine Kd.C_drew ?_)));(case side2 => exact (Kd.S_reads' HO_274002.out).2.1);(case side3 => repeat (first | exact (Kd.R_reads' HO_274003.out).2.2 | (with_reducible refine Kd.C_alloc ?_ _) | (with_reducible refine Kd.C_drewN ?_ _) | (with_reducible refine Kd.C_drew ?_)));(case side4 => exact (Kd.R_reads' HO_274003.out).2.1);rintro e w82 ⟨rfl,hb⟩;refine ⟨_,rfl,?_⟩;have n_ := haq (Kd.R_below (hRq HO_73.out) hb) <| haq (Kd.S_below (hSq HO_274002.out) hb) <| haq (Kd.R_below (hRq HO_274003.out) hb) <| haq (hbq BK252.out hb) <| haq (hbq BK257.out hb) <| haq (hbq BK272.out hb) <| haq (hbq BK273.out hb) <| haq (zd hCq hb) <| trivial;clear HO_73 HO_274002 HO_274003 BK252 BK257 BK272 BK273 HB;obtain ⟨HO_73,HO_274002,HO_274003,BK252,BK257,BK272,BK273,HB,_⟩ := n_;(try clear hb);(try clear hb2);(try clear hk);(try clear hi);obtain ⟨hcz83_0,hcz83_1,hcz83_2,hcz83_3,hcz83_4,hcz83_5,hfz83_0,hfz83_1,hfz83_2,hfz83_3,hfz83_4,hfz83_5⟩ := hcq6 BK273.out;have hnb84 := NB252_257.out;have hnc84 := NB257_252.out;have hnb85 := NB252_272.out;have hnc85 := NB272_252.out;obtain ⟨hcz86_0,hcz86_1,hcz86_2,hcz86_3,hcz86_4,hcz86_5,hfz86_0,hfz86_1,hfz86_2,hfz86_3,hfz86_4,hfz86_5⟩ := hcq6 BK252.out))
        refine bodyPost_ret (zaq rfl _ _ gb252 27 #[.int .i64 t253,.int .i64 t254,.slice Ao81 x274002_2.length co81,.slice Ao33 t263.length co33,.int .i64 t268,.int .i64 t269] (0,0) _ rfl (hxq0p BK252.out) Tryz.underlying27 rfl (by kernel_rfl)) rfl ?_
        exact ⟨_,_,hHq,by (with_reducible repeat (first | apply Kd.S_alloc | apply Kd.S_drewN | apply Kd.S_drew));exact Kd.S_mono (Kd.S_far (p := ⟨gb252,5,none⟩) (Kd.S_far (p := ⟨gb252,4,none⟩) (Kd.S_far (p := ⟨gb252,3,none⟩) (Kd.S_far (p := ⟨gb252,2,none⟩) (Kd.S_far (p := ⟨gb252,1,none⟩) (Kd.S_far (p := ⟨gb252,0,none⟩) (Kd.S_types HO_274002.out BK252.out (by decide)) (fun _ hk => hk.2) (.int .i64 t253)) (fun _ hk => hk.2) (.int .i64 t254)) (fun _ hk => hk.2) (.slice Ao81 x274002_2.length co81)) (fun _ hk => hk.2) (.slice Ao33 t263.length co33)) (fun _ hk => hk.2) (.int .i64 t268)) (fun _ hk => hk.2) (.int .i64 t269)) (fun _ hk => hk.1.2),by (with_reducible repeat (first | apply Kd.R_alloc | apply Kd.R_drewN | apply Kd.R_drew));exact Kd.R_mono (Kd.R_far (p := ⟨gb252,5,none⟩) (Kd.R_far (p := ⟨gb252,4,none⟩) (Kd.R_far (p := ⟨gb252,3,none⟩) (Kd.R_far (p := ⟨gb252,2,none⟩) (Kd.R_far (p := ⟨gb252,1,none⟩) (Kd.R_far (p := ⟨gb252,0,none⟩) (Kd.R_types HO_274003.out BK252.out (by decide)) (fun _ hk => hk.2) (.int .i64 t253)) (fun _ hk => hk.2) (.int .i64 t254)) (fun _ hk => hk.2) (.slice Ao81 x274002_2.length co81)) (fun _ hk => hk.2) (.slice Ao33 t263.length co33)) (fun _ hk => hk.2) (.int .i64 t268)) (fun _ hk => hk.2) (.int .i64 t269)) (fun _ hk => trivial),hCq⟩
       ·replace c76 := Bool.eq_false_iff.mpr c76
        subst c76
        have H1 : (some (0,0,([] : List (S73)),([] : List ByteArray),0,0,3)) = some (r1,r2,r3,r4,r5,r6,r7) := by rw [if_neg (show ¬ (false = true) by decide)] at H;exact H
        clear H
        have H := H1
        clear H1
        simp only [Option.some.injEq,Prod.mk.injEq] at H
        obtain ⟨rfl,rfl,rfl,rfl,rfl,rfl,rfl⟩ := H
        have hnb87 := NB273_252.out
        have hnc87 := NB252_273.out
        have hnb88 := NB273_257.out
        have hnc88 := NB257_273.out
        have hnb89 := NB273_272.out
        have hnc89 := NB272_273.out
        obtain ⟨hcz90_0,hcz90_1,hcz90_2,hcz90_3,hcz90_4,hcz90_5,hfz90_0,hfz90_1,hfz90_2,hfz90_3,hfz90_4,hfz90_5⟩ := hcq6 BK273.out
        obtain ⟨Ao91,co91,eo91⟩ := Kd.S_slice HO_274002.out
        subst eo91
        go_wp2_with (first | ((with_reducible refine zj (f := 33) rfl ?_);refine zQ (some 96) rfl rfl Tryz.func33 (by kernel_rfl) rfl #[.agg #[.int .i64 t253,.int .i64 t254,.slice Ao91 x274002_2.length co91,.slice Ao33 t263.length co33,.int .i64 t268,.int .i64 t269],.int .i64 a1] rfl hMq ?_;(with_reducible refine (zao.calls t253 t254 _ _ x274002_2 _ _ t263 t268 t269 a1 false _ ?side1 ?side2 ?side3 ?side4 A75.out).mono ?_);(case side1 => repeat (first | exact (Kd.S_reads' HO_274002.out).2.2 | (with_reducible refine Kd.C_alloc ?_ _) | (with_reducible refine Kd.C_drewN ?_ _) | (with_reducible refine Kd.C_drew ?_)));(case side2 => exact (Kd.S_reads' HO_274002.out).2.1);(case side3 => repeat (first | exact (Kd.R_reads' HO_274003.out).2.2 | (with_reducible refine Kd.C_alloc ?_ _) | (with_reducible refine Kd.C_drewN ?_ _) | (with_reducible refine Kd.C_drew ?_)));(case side4 => exact (Kd.R_reads' HO_274003.out).2.1);rintro e w92 ⟨rfl,hb⟩;refine ⟨_,rfl,?_⟩;have n_ := haq (Kd.R_below (hRq HO_73.out) hb) <| haq (Kd.S_below (hSq HO_274002.out) hb) <| haq (Kd.R_below (hRq HO_274003.out) hb) <| haq (hbq BK252.out hb) <| haq (hbq BK257.out hb) <| haq (hbq BK272.out hb) <| haq (hbq BK273.out hb) <| haq (zd hCq hb) <| trivial;clear HO_73 HO_274002 HO_274003 BK252 BK257 BK272 BK273 HB;obtain ⟨HO_73,HO_274002,HO_274003,BK252,BK257,BK272,BK273,HB,_⟩ := n_;(try clear hb);(try clear hb2);(try clear hk);(try clear hi);have hnb93 := NB252_257.out;have hnc93 := NB257_252.out;have hnb94 := NB252_272.out;have hnc94 := NB272_252.out;obtain ⟨hcz95_0,hcz95_1,hcz95_2,hcz95_3,hcz95_4,hcz95_5,hfz95_0,hfz95_1,hfz95_2,hfz95_3,hfz95_4,hfz95_5⟩ := hcq6 BK252.out))
        refine bodyPost_ret (zaq rfl _ _ gb252 27 #[.int .i64 0,.int .i64 0,.slice none 0 0,.slice none 0 0,.int .i64 0,.int .i64 0] (0,0) _ rfl (hxq0p BK252.out) Tryz.underlying27 rfl (by kernel_rfl)) rfl ?_
        exact ⟨_,_,hHq,by first | exact Kd.S_nil _ _ _ _ _ | exact Kd.N_nil _ _ _ _ _ | exact Kd.V_nil _ _ _ _ _ | exact Kd.Q_nil _ _ _ _ _ | exact Kd.R_nil _ _ _ _ _,by first | exact Kd.R_nil _ _ _ _ _ | exact Kd.N_nil _ _ _ _ _ | exact Kd.V_nil _ _ _ _ _ | exact Kd.Q_nil _ _ _ _ _ | exact Kd.S_nil _ _ _ _ _,hCq⟩
end Go.Proofs.YtfhbeonhnhjikaaGreat.Px