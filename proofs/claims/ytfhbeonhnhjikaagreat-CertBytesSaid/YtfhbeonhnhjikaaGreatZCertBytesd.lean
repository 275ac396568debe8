/- Part 30 of 35 of the proof of the law CertBytes: what is proved is the statement at the end of the last part; its conditions are those of the given row. -/
import Derived.Test.YtfhbeonhnhjikaaGreatZCertBytesc
namespace Go.Proofs.YtfhbeonhnhjikaaGreat.Px
open Go.RowKit Go.Proofs.YtfhbeonhnhjikaaGreatW.PrintWords Go.Proofs.YtfhbeonhnhjikaaGreatW.PrintLast Go.Proofs.YtfhbeonhnhjikaaGreatW.PrintMore
attribute [local go_sem] zz zB zI zJ zp zq zA zC
set_option linter.unusedVariables false
set_option linter.unusedSimpArgs false
mutual
def zh.j0 : Nat → Int → Int → Int → ByteArray → Bool → Option (Int × Int × (List (S73)) × List ByteArray × Int × Int × Int)
 | 0,_,_,_,_,_ => none
 | k + 1,x1,x6,x9,x10,x54 => if x54 = true then (some (0,0,([] : List (S73)),([] : List ByteArray),0,0,3)) else ((zu.f k x10 4 400).bind fun bt340 => (if bt340.2.2 = 0 then ((zu.f k bt340.2.1 64 32).bind fun bt345 => (if bt345.2.2 = 0 then ((zi.f k bt345.2.1).bind fun bt350 => (if bt350.2.2 = 0 then (zh.j1 k x1 x6 x9 bt340.1 bt345.1 bt350.1 bt350.2.1 (decide (bt350.1 > 10006))) else (zh.j1 k x1 x6 x9 bt340.1 bt345.1 bt350.1 bt350.2.1 true))) else (some (0,0,([] : List (S73)),([] : List ByteArray),0,0,3)))) else (some (0,0,([] : List (S73)),([] : List ByteArray),0,0,3))))
def zh.j1 : Nat → Int → Int → Int → List ByteArray → List ByteArray → Int → ByteArray → Bool → Option (Int × Int × (List (S73)) × List ByteArray × Int × Int × Int)
 | 0,_,_,_,_,_,_,_,_ => none
 | k + 1,x1,x6,x9,x12,x15,x18,x19,x85 => if x85 = true then (some (0,0,([] : List (S73)),([] : List ByteArray),0,0,3)) else ((zi.f k x19).bind fun bt353 => (if bt353.2.2 = 0 then (if bt353.1 > 10006 then (zh.j2 k x1 x6 x9 x12 x15 x18 bt353.1 true) else (zh.j2 k x1 x6 x9 x12 x15 x18 bt353.1 (decide ((bt353.2.1.size : Int) > 0)))) else (zh.j2 k x1 x6 x9 x12 x15 x18 bt353.1 true)))
def zh.j2 : Nat → Int → Int → Int → List ByteArray → List ByteArray → Int → Int → Bool → Option (Int × Int × (List (S73)) × List ByteArray × Int × Int × Int)
 | 0,_,_,_,_,_,_,_,_ => none
 | k + 1,x1,x6,x9,x12,x15,x18,x21,x103 => if x103 = true then (some (0,0,([] : List (S73)),([] : List ByteArray),0,0,3)) else (zh.l0 k x1 x12 0 (wrap64 (x6)) (wrap64 (x9)) ([] : List (S73)) x15 (wrap64 (x18)) (wrap64 (x21)))
def zh.l0 : Nat → Int → List ByteArray → Int → Int → Int → List (S73) → List ByteArray → Int → Int → Option (Int × Int × (List (S73)) × List ByteArray × Int × Int × Int)
 | 0,_,_,_,_,_,_,_,_,_ => none
 | k + 1,x1,x12,x25,x357000,x357001,x357002,x357003,x357004,x357005 => if x25 < (x12.length : Int) then (if 0 ≤ x25 then ((zO.f k (zG ByteArray.empty x12 x25)).bind fun bt358 => (if bt358.2.2.2 = 0 then (if x357002.length < 3518437208883 then (zh.l0 k x1 x12 (wrap64 (x25 + 1)) x357000 x357001 (x357002 ++ [(⟨bt358.1,bt358.2.1,bt358.2.2.1⟩ : S73)]) x357003 x357004 x357005) else (none)) else (some (0,0,([] : List (S73)),([] : List ByteArray),0,0,3)))) else (none)) else ((zg.f k x357000 x357001 x357002 x357003 x357004 x357005 x1).bind fun t368 => (if t368 = true then (some (x357000,x357001,x357002,x357003,x357004,x357005,0)) else (some (0,0,([] : List (S73)),([] : List ByteArray),0,0,3))))
end
def zh.f (k : Nat) (a0 : ByteArray) (a1 : Int) : Option (Int × Int × (List (S73)) × List ByteArray × Int × Int × Int) := (zi.f k a0).bind fun bt334 => ((zi.f k bt334.2.1).bind fun bt337 => (if bt334.2.2 = 0 then (if bt337.2.2 = 0 then (if bt334.1 > 64 then (zh.j0 k a1 bt334.1 bt337.1 bt337.2.1 true) else (zh.j0 k a1 bt334.1 bt337.1 bt337.2.1 (decide (bt337.1 > 1048576)))) else (zh.j0 k a1 bt334.1 bt337.1 bt337.2.1 true)) else (zh.j0 k a1 bt334.1 bt337.1 bt337.2.1 true)))
set_option maxHeartbeats 8000000 in
set_option maxRecDepth 100000 in
theorem zh.calls (k : Nat) (a0 : ByteArray) (a1 : Int) (r1 : Int) (r2 : Int) (r3 : List (S73)) (r4 : List ByteArray) (r5 : Int) (r6 : Int) (r7 : Int) (w : World) (h : zh.f k a0 a1 = some (r1,r2,r3,r4,r5,r6,r7)) :
  Calls Tryz.prog 27 #[.string a0,.int .i64 a1] w fun e w' => ∃ v2_ v3_ : Value,e = .returned (.tuple #[.agg #[.int .i64 r1,.int .i64 r2,v2_,v3_,.int .i64 r5,.int .i64 r6],.int .i64 r7]) ∧ Kd.S k73 73 w' w.heap.size (fun k_ => some k_ ≠ (v3_ : Value).ownBlock) v2_ r3 ∧ Kd.R Kd.string 9 w' w.heap.size (fun _ => True) v3_ r4 ∧ Below w.heap.size w w' := by
 have hu27 := Tryz.underlying27
 have hu25 := Tryz.underlying25
 have hu73 := Tryz.underlying73
 have HB := za.mk (Below.refl w.heap.size w)
 have H : ((zi.f k a0).bind fun bt334 => ((zi.f k bt334.2.1).bind fun bt337 => (if bt334.2.2 = 0 then (if bt337.2.2 = 0 then (if bt334.1 > 64 then (zh.j0 k a1 bt334.1 bt337.1 bt337.2.1 true) else (zh.j0 k a1 bt334.1 bt337.1 bt337.2.1 (decide (bt337.1 > 1048576)))) else (zh.j0 k a1 bt334.1 bt337.1 bt337.2.1 true)) else (zh.j0 k a1 bt334.1 bt337.1 bt337.2.1 true)))) = some (r1,r2,r3,r4,r5,r6,r7) := h
 clear h
 replace H := Option.bind_eq_some_iff.mp H
 obtain ⟨⟨t334,t335,t336⟩,A30,H⟩ := H
 replace H : ((zi.f k t335).bind fun bt337 => (if t336 = 0 then (if bt337.2.2 = 0 then (if t334 > 64 then (zh.j0 k a1 t334 bt337.1 bt337.2.1 true) else (zh.j0 k a1 t334 bt337.1 bt337.2.1 (decide (bt337.1 > 1048576)))) else (zh.j0 k a1 t334 bt337.1 bt337.2.1 true)) else (zh.j0 k a1 t334 bt337.1 bt337.2.1 true))) = some (r1,r2,r3,r4,r5,r6,r7) := H
 have A3 := za.mk A30
 clear A30
 replace H := Option.bind_eq_some_iff.mp H
 obtain ⟨⟨t337,t338,t339⟩,A40,H⟩ := H
 replace H : (if t336 = 0 then (if t339 = 0 then (if t334 > 64 then (zh.j0 k a1 t334 t337 t338 true) else (zh.j0 k a1 t334 t337 t338 (decide (t337 > 1048576)))) else (zh.j0 k a1 t334 t337 t338 true)) else (zh.j0 k a1 t334 t337 t338 true)) = some (r1,r2,r3,r4,r5,r6,r7) := H
 have A4 := za.mk A40
 clear A40
 have HC5 := za.mk H
 clear H
 go_enter Tryz.func27,Tryz.ntmps27
 go_upto_region 3 with (first | ((with_reducible refine zy (N := 4) rfl ?_);(try (refine zba (by rfl) ?_;dsimp only));refine zo ?hg (N := 4) ?hd (cs := #[.int .i64 0,.int .i64 0,.slice none 0 0,.slice none 0 0,.int .i64 0,.int .i64 0]) (t := 27) ?hr ?_;(case hd => rfl);(case hg => rfl);(case hr => first | (go_simp;done) | (go_simp;rfl));intro gb333 hg w6 hbox hb;have n_ := haq (zd hBq hb) <| haq (hbox) <| haq ((by rw [hg];exact (ze hBq) : w.heap.size ≤ gb333)) <| haq ((by rw [hg];exact (ze hBq) : w.heap.size ≤ gb333)) <| trivial;clear HB;obtain ⟨HB,BK333,GW333,GE333,_⟩ := n_;clear hb hbox hg) | ((with_reducible refine zj (f := 26) rfl ?_);refine zQ (some 31) rfl rfl Tryz.func26 (by kernel_rfl) rfl #[.string a0] rfl hMq ?_;(with_reducible refine (zi.calls k a0 t334 t335 t336 _ A3.out).mono ?_);rintro e w' ⟨rfl,⟨nd,rfl⟩⟩;refine ⟨_,rfl,?_⟩) | ((with_reducible refine zj (f := 26) rfl ?_);refine zQ (some 37) rfl rfl Tryz.func26 (by kernel_rfl) rfl #[.string t335] rfl hMq ?_;(with_reducible refine (zi.calls k t335 t337 t338 t339 _ A4.out).mono ?_);rintro e w' ⟨rfl,⟨nd,rfl⟩⟩;refine ⟨_,rfl,?_⟩))
 (try simp only [Act.put,List.setIfInBounds_toArray,List.set_cons_zero,List.set_cons_succ])
 go_cut [54] (fun v54 wc => ∃ (kq : Nat) (x54_4 : Bool),v54 = .bool x54_4 ∧ za (zh.j0 kq a1 t334 t337 t338 x54_4 = some (r1,r2,r3,r4,r5,r6,r7)) ∧ za (kq ≤ k) ∧ za (wc.heap[gb333]? = some (.cells #[.int .i64 0,.int .i64 0,(.slice none 0 0),(.slice none 0 0),.int .i64 0,.int .i64 0] 27 (0,0))) ∧ za (Below w.heap.size w wc))
 case first =>
  have H := HC5.out
  clear HC5
  by_cases c7 : t336 = 0
  ·rw [if_pos c7] at H
   have c7b0 : (t336 == 0) = true := beq_iff_eq.mpr c7
   have c7b1 : (t336 != 0) = false := bne_eq_false_iff_eq.mpr c7
   clear c7
   (first | rw [c7b0] | (simp only [zK,zL];rw [c7b0]) | skip)
   by_cases c8 : t339 = 0
   ·rw [if_pos c8] at H
    have c8b0 : (t339 == 0) = true := beq_iff_eq.mpr c8
    have c8b1 : (t339 != 0) = false := bne_eq_false_iff_eq.mpr c8
    clear c8
    by_cases c9 : t334 > 64
    ·rw [if_pos c9] at H
     have c9b0 : decide (64 < t334) = true := decide_eq_true c9
     clear c9
     have H' := za.mk H
     clear H
     go_wp2
     go_meet
     case rel => exact ⟨_,(true),(hDq),H',⟨by first | omega | exact Nat.le_refl _⟩,⟨hGq BK333.out⟩,⟨by repeat (first | (with_reducible first | exact HB.out | apply zk | apply zf | apply zm | refine zw ?_ GE333.out) | exact HB.out)⟩⟩
    ·rw [if_neg c9] at H
     have c9b0 : decide (64 < t334) = false := decide_eq_false c9
     clear c9
     have H' := za.mk H
     clear H
     go_wp2
     go_meet
     case rel => exact ⟨_,(decide (t337 > 1048576)),(hDq),H',⟨by first | omega | exact Nat.le_refl _⟩,⟨hGq BK333.out⟩,⟨by repeat (first | (with_reducible first | exact HB.out | apply zk | apply zf | apply zm | refine zw ?_ GE333.out) | exact HB.out)⟩⟩
   ·rw [if_neg c8] at H
    have c8b0 : (t339 == 0) = false := beq_eq_false_iff_ne.mpr c8
    have c8b1 : (t339 != 0) = true := bne_iff_ne.mpr c8
    have H' := za.mk H
    clear H
    go_wp2
    go_meet
    case rel => exact ⟨_,(true),(hDq),H',⟨by first | omega | exact Nat.le_refl _⟩,⟨hGq BK333.out⟩,⟨by repeat (first | (with_reducible first | exact HB.out | apply zk | apply zf | apply zm | refine zw ?_ GE333.out) | exact HB.out)⟩⟩
  ·rw [if_neg c7] at H
   have c7b0 : (t336 == 0) = false := beq_eq_false_iff_ne.mpr c7
   have c7b1 : (t336 != 0) = true := bne_iff_ne.mpr c7
   (first | rw [c7b0] | (simp only [zK,zL];rw [c7b0]) | skip)
   have H' := za.mk H
   clear H
   go_wp2
   go_meet
   case rel => exact ⟨_,(true),(hDq),H',⟨by first | omega | exact Nat.le_refl _⟩,⟨hGq BK333.out⟩,⟨by repeat (first | (with_reducible first | exact HB.out | apply zk | apply zf | apply zm | refine zw ?_ GE333.out) | exact HB.out)⟩⟩
 case rest =>
  clear HC5
  try clear c2;try clear p2;try clear c7;try clear c7b0;try clear c7b1;try clear c8;try clear c8b0;try clear c8b1;try clear c9;try clear c9b0
  obtain ⟨kq,x54_4,rfl,HA,HJ4,BK333,HB⟩ := hcut
  cases kq with
  | zero => exact absurd HA.out (by simp [zh.j0])
  | succ kj4 =>
   have H := HA.out
   clear HA
   simp only [zh.j0] at H
   by_cases c10 : x54_4 = true
   ·subst c10
    have H1 : (some (0,0,([] : List (S73)),([] : List ByteArray),0,0,3)) = some (r1,r2,r3,r4,r5,r6,r7) := by rw [if_pos rfl] at H;exact H
    clear H
    have H := H1
    clear H1
    simp only [Option.some.injEq,Prod.mk.injEq] at H
    obtain ⟨rfl,rfl,rfl,rfl,rfl,rfl,rfl⟩ := H
    obtain ⟨hcz11_0,hcz11_1,hcz11_2,hcz11_3,hcz11_4,hcz11_5,hfz11_0,hfz11_1,hfz11_2,hfz11_3,hfz11_4,hfz11_5⟩ := hcq6 BK333.out
    go_wp2
    refine bodyPost_ret (zaq rfl _ _ gb333 27 #[.int .i64 0,.int .i64 0,.slice none 0 0,.slice none 0 0,.int .i64 0,.int .i64 0] (0,0) _ rfl (hxq0p BK333.out) Tryz.underlying27 rfl (by kernel_rfl)) rfl ?_
    exact ⟨_,_,hHq,by first | exact Kd.S_nil _ _ _ _ _ | exact Kd.N_nil _ _ _ _ _ | exact Kd.V_nil _ _ _ _ _ | exact Kd.Q_nil _ _ _ _ _ | exact Kd.R_nil _ _ _ _ _,by first | exact Kd.R_nil _ _ _ _ _ | exact Kd.N_nil _ _ _ _ _ | exact Kd.V_nil _ _ _ _ _ | exact Kd.Q_nil _ _ _ _ _ | exact Kd.S_nil _ _ _ _ _,hCq⟩
   ·replace c10 := Bool.eq_false_iff.mpr c10
    subst c10
    have H1 : ((zu.f kj4 t338 4 400).bind fun bt340 => (if bt340.2.2 = 0 then ((zu.f kj4 bt340.2.1 64 32).bind fun bt345 => (if bt345.2.2 = 0 then ((zi.f kj4 bt345.2.1).bind fun bt350 => (if bt350.2.2 = 0 then (zh.j1 kj4 a1 t334 t337 bt340.1 bt345.1 bt350.1 bt350.2.1 (decide (bt350.1 > 10006))) else (zh.j1 kj4 a1 t334 t337 bt340.1 bt345.1 bt350.1 bt350.2.1 true))) else (some (0,0,([] : List (S73)),([] : List ByteArray),0,0,3)))) else (some (0,0,([] : List (S73)),([] : List ByteArray),0,0,3)))) = some (r1,r2,r3,r4,r5,r6,r7) := by rw [if_neg (show ¬ (false = true) by decide)] at H;exact H
    clear H
    have H := H1
    clear H1
    replace H := Option.bind_eq_some_iff.mp H
    obtain ⟨⟨t340,t341,t342⟩,A120,H⟩ := H
    replace H : (if t342 = 0 then ((zu.f kj4 t341 64 32).bind fun bt345 => (if bt345.2.2 = 0 then ((zi.f kj4 bt345.2.1).bind fun bt350 => (if bt350.2.2 = 0 then (zh.j1 kj4 a1 t334 t337 t340 bt345.1 bt350.1 bt350.2.1 (decide (bt350.1 > 10006))) else (zh.j1 kj4 a1 t334 t337 t340 bt345.1 bt350.1 bt350.2.1 true))) else (some (0,0,([] : List (S73)),([] : List ByteArray),0,0,3)))) else (some (0,0,([] : List (S73)),([] : List ByteArray),0,0,3))) = some (r1,r2,r3,r4,r5,r6,r7) := H
    have A12 := za.mk A120
    clear A120
    by_cases c13 : t342 = 0
    ·rw [if_pos c13] at H
     have c13b0 : (t342 == 0) = true := beq_iff_eq.mpr c13
     have c13b1 : (t342 != 0) = false := bne_eq_false_iff_eq.mpr c13
     clear c13
     replace H := Option.bind_eq_some_iff.mp H
     obtain ⟨⟨t345,t346,t347⟩,A140,H⟩ := H
     replace H : (if t347 = 0 then ((zi.f kj4 t346).bind fun bt350 => (if bt350.2.2 = 0 then (zh.j1 kj4 a1 t334 t337 t340 t345 bt350.1 bt350.2.1 (decide (bt350.1 > 10006))) else (zh.j1 kj4 a1 t334 t337 t340 t345 bt350.1 bt350.2.1 true))) else (some (0,0,([] : List (S73)),([] : List ByteArray),0,0,3))) = some (r1,r2,r3,r4,r5,r6,r7) := H
     have A14 := za.mk A140
     clear A140
     by_cases c15 : t347 = 0
     ·rw [if_pos c15] at H
      have c15b0 : (t347 == 0) = true := beq_iff_eq.mpr c15
      have c15b1 : (t347 != 0) = false := bne_eq_false_iff_eq.mpr c15
      clear c15
      replace H := Option.bind_eq_some_iff.mp H
      obtain ⟨⟨t350,t351,t352⟩,A160,H⟩ := H
      replace H : (if t352 = 0 then (zh.j1 kj4 a1 t334 t337 t340 t345 t350 t351 (decide (t350 > 10006))) else (zh.j1 kj4 a1 t334 t337 t340 t345 t350 t351 true)) = some (r1,r2,r3,r4,r5,r6,r7) := H
      have A16 := za.mk A160
      clear A160
      have HC17 := za.mk H
      clear H
      go_upto_region 12 with (first | ((with_reducible refine zj (f := 52) rfl ?_);refine zQ (some 58) rfl rfl Tryz.func52 (by kernel_rfl) rfl #[.string t338,.int .i64 4,.int .i64 400] rfl hMq ?_;(with_reducible refine (zu.calls kj4 t338 4 400 t340 t341 t342 _ A12.out).mono ?_);rintro e w18 ⟨v343,rfl,ho0,hb⟩;refine ⟨_,rfl,?_⟩;have n_ := haq (Kd.R_lower ho0 (ze hCq)) <| haq (hbq BK333.out hb) <| haq (zd hCq hb) <| trivial;clear BK333 HB;obtain ⟨HO344,BK333,HB,_⟩ := n_;(try clear hb);(try clear hb2);(try clear hk);(try clear hi);(try clear ho0)) | ((with_reducible refine zj (f := 52) rfl ?_);refine zQ (some 67) rfl rfl Tryz.func52 (by kernel_rfl) rfl #[.string t341,.int .i64 64,.int .i64 32] rfl hMq ?_;(with_reducible refine (zu.calls kj4 t341 64 32 t345 t346 t347 _ A14.out).mono ?_);rintro e w19 ⟨v348,rfl,ho0,hb⟩;refine ⟨_,rfl,?_⟩;have n_ := haq (Kd.R_elder' (hRq HO344.out) (Kd.R_base ho0) hb) <| haq (Kd.R_lower (Kd.R_new' ho0 (Kd.R_lt (hRq HO344.out))) (ze hCq)) <| haq (hbq BK333.out hb) <| haq (zd hCq hb) <| trivial;clear HO344 BK333 HB;obtain ⟨HO344,HO349,BK333,HB,_⟩ := n_;(try clear hb);(try clear hb2);(try clear hk);(try clear hi);(try clear ho0)) | ((with_reducible refine zj (f := 26) rfl ?_);refine zQ (some 76) rfl rfl Tryz.func26 (by kernel_rfl) rfl #[.string t346] rfl hMq ?_;(with_reducible refine (zi.calls kj4 t346 t350 t351 t352 _ A16.out).mono ?_);rintro e w' ⟨rfl,⟨nd,rfl⟩⟩;refine ⟨_,rfl,?_⟩))
      (try simp only [Act.put,List.setIfInBounds_toArray,List.set_cons_zero,List.set_cons_succ])
      go_cut [85] (fun v85 wc => ∃ (kq : Nat) (x85_16 : Bool),v85 = .bool x85_16 ∧ za (zh.j1 kq a1 t334 t337 t340 t345 t350 t351 x85_16 = some (r1,r2,r3,r4,r5,r6,r7)) ∧ za (kq ≤ kj4) ∧ za (Kd.R Kd.string 9 wc w.heap.size (fun k_ => some k_ ≠ (v348 : Value).ownBlock) v343 t340) ∧ za (Kd.R Kd.string 9 wc w.heap.size (fun k_ => some k_ ≠ (v343 : Value).ownBlock) v348 t345) ∧ za (wc.heap[gb333]? = some (.cells #[.int .i64 0,.int .i64 0,(.slice none 0 0),(.slice none 0 0),.int .i64 0,.int .i64 0] 27 (0,0))) ∧ za (Below w.heap.size w wc))
      case first =>
       have H := HC17.out
       clear HC17
       by_cases c20 : t352 = 0
       ·rw [if_pos c20] at H
        have c20b0 : (t352 == 0) = true := beq_iff_eq.mpr c20
        have c20b1 : (t352 != 0) = false := bne_eq_false_iff_eq.mpr c20
        clear c20
        (first | rw [c20b0] | (simp only [zK,zL];rw [c20b0]) | skip)
        have H' := za.mk H
        clear H
        go_wp2
        go_meet
        case rel => exact ⟨_,(decide (t350 > 10006)),(hDq),H',⟨by have := HJ4.out;first | omega | exact Nat.le_refl _⟩,⟨by (with_reducible repeat (first | apply Kd.R_alloc | apply Kd.R_drewN | apply Kd.R_drew));exact Kd.R_mono HO344.out (fun _ hk => hk.2)⟩,⟨by (with_reducible repeat (first | apply Kd.R_alloc | apply Kd.R_drewN | apply Kd.R_drew));exact Kd.R_mono HO349.out (fun _ hk => hk.2)⟩,⟨hGq BK333.out⟩,⟨by repeat (first | (with_reducible first | exact HB.out | apply zk | apply zf | apply zm | refine zw ?_ GE333.out) | exact HB.out)⟩⟩
       ·rw [if_neg c20] at H
        have c20b0 : (t352 == 0) = false := beq_eq_false_iff_ne.mpr c20
        have c20b1 : (t352 != 0) = true := bne_iff_ne.mpr c20
        (first | rw [c20b0] | (simp only [zK,zL];rw [c20b0]) | skip)
        have H' := za.mk H
        clear H
        go_wp2
        go_meet
        case rel => exact ⟨_,(true),(hDq),H',⟨by have := HJ4.out;first | omega | exact Nat.le_refl _⟩,⟨by (with_reducible repeat (first | apply Kd.R_alloc | apply Kd.R_drewN | apply Kd.R_drew));exact Kd.R_mono HO344.out (fun _ hk => hk.2)⟩,⟨by (with_reducible repeat (first | apply Kd.R_alloc | apply Kd.R_drewN | apply Kd.R_drew));exact Kd.R_mono HO349.out (fun _ hk => hk.2)⟩,⟨hGq BK333.out⟩,⟨by repeat (first | (with_reducible first | exact HB.out | apply zk | apply zf | apply zm | refine zw ?_ GE333.out) | exact HB.out)⟩⟩
      case rest =>
       clear HC17
       try clear c1;try clear c2;try clear p2;try clear c5;try clear c7;try clear c7b0;try clear c7b1;try clear c8;try clear c8b0;try clear c8b1;try clear c9;try clear c9b0;try clear c10;try clear c13;try clear c13b0;try clear c13b1;try clear c15;try clear c15b0;try clear c15b1;try clear c20;try clear c20b0;try clear c20b1;try clear hcz11_0;try clear hcz11_1;try clear hcz11_2;try clear hcz11_3;try clear hcz11_4;try clear hcz11_5;try clear hfz11_0;try clear hfz11_1;try clear hfz11_2;try clear hfz11_3;try clear hfz11_4;try clear hfz11_5;try clear p2
       obtain ⟨kq,x85_16,rfl,HA,HJ16,HO_12,HO_15,BK333,HB⟩ := hcut
       cases kq with
       | zero => exact absurd HA.out (by simp [zh.j1])
       | succ kj16 =>
        have H := HA.out
        clear HA
        simp only [zh.j1] at H
        by_cases c21 : x85_16 = true
        ·subst c21
         have H1 : (some (0,0,([] : List (S73)),([] : List ByteArray),0,0,3)) = some (r1,r2,r3,r4,r5,r6,r7) := by rw [if_pos rfl] at H;exact H
         clear H
         have H := H1
         clear H1
         simp only [Option.some.injEq,Prod.mk.injEq] at H
         obtain ⟨rfl,rfl,rfl,rfl,rfl,rfl,rfl⟩ := H
         obtain ⟨hcz22_0,hcz22_1,hcz22_2,hcz22_3,hcz22_4,hcz22_5,hfz22_0,hfz22_1,hfz22_2,hfz22_3,hfz22_4,hfz22_5⟩ := hcq6 BK333.out
         go_wp2
         refine bodyPost_ret (zaq rfl _ _ gb333 27 #[.int .i64 0,.int .i64 0,.slice none 0 0,.slice none 0 0,.int .i64 0,.int .i64 0] (0,0) _ rfl (hxq0p BK333.out) Tryz.underlying27 rfl (by kernel_rfl)) rfl ?_
         exact ⟨_,_,hHq,by first | exact Kd.S_nil _ _ _ _ _ | exact Kd.N_nil _ _ _ _ _ | exact Kd.V_nil _ _ _ _ _ | exact Kd.Q_nil _ _ _ _ _ | exact Kd.R_nil _ _ _ _ _,by first | exact Kd.R_nil _ _ _ _ _ | exact Kd.N_nil _ _ _ _ _ | exact Kd.V_nil _ _ _ _ _ | exact Kd.Q_nil _ _ _ _ _ | exact Kd.S_nil _ _ _ _ _,hCq⟩
        ·replace c21 := Bool.eq_false_iff.mpr c21
         subst c21
         have H1 : ((zi.f kj16 t351).bind fun bt353 => (if bt353.2.2 = 0 then (if bt353.1 > 10006 then (zh.j2 kj16 a1 t334 t337 t340 t345 t350 bt353.1 true) else (zh.j2 kj16 a1 t334 t337 t340 t345 t350 bt353.1 (decide ((bt353.2.1.size : Int) > 0)))) else (zh.j2 kj16 a1 t334 t337 t340 t345 t350 bt353.1 true))) = some (r1,r2,r3,r4,r5,r6,r7) := by rw [if_neg (show ¬ (false = true) by decide)] at H;exact H
         clear H
         have H := H1
         clear H1
         replace H := Option.bind_eq_some_iff.mp H
         obtain ⟨⟨t353,t354,t355⟩,A230,H⟩ := H
         replace H : (if t355 = 0 then (if t353 > 10006 then (zh.j2 kj16 a1 t334 t337 t340 t345 t350 t353 true) else (zh.j2 kj16 a1 t334 t337 t340 t345 t350 t353 (decide ((t354.size : Int) > 0)))) else (zh.j2 kj16 a1 t334 t337 t340 t345 t350 t353 true)) = some (r1,r2,r3,r4,r5,r6,r7) := H
         have A23 := za.mk A230
         clear A230
         have HC24 := za.mk H
         clear H
         go_upto_region 15 with (first | ((with_reducible refine zj (f := 26) rfl ?_);refine zQ (some 89) rfl rfl Tryz.func26 (by kernel_rfl) rfl #[.string t351] rfl hMq ?_;(with_reducible refine (zi.calls kj16 t351 t353 t354 t355 _ A23.out).mono ?_);rintro e w' ⟨rfl,⟨nd,rfl⟩⟩;refine ⟨_,rfl,?_⟩))
         (try simp only [Act.put,List.setIfInBounds_toArray,List.set_cons_zero,List.set_cons_succ])
         go_cut [103] (fun v103 wc => ∃ (kq : Nat) (x103_23 : Bool),v103 = .bool x103_23 ∧ za (zh.j2 kq a1 t334 t337 t340 t345 t350 t353 x103_23 = some (r1,r2,r3,r4,r5,r6,r7)) ∧ za (kq ≤ kj16) ∧ za (Kd.R Kd.string 9 wc w.heap.size (fun k_ => some k_ ≠ (v348 : Value).ownBlock) v343 t340) ∧ za (Kd.R Kd.string 9 wc w.heap.size (fun k_ => some k_ ≠ (v343 : Value).ownBlock) v348 t345) ∧ za (wc.heap[gb333]? = some (.cells #[.int .i64 0,.int .i64 0,(.slice none 0 0),(.slice none 0 0),.int .i64 0,.int .i64 0] 27 (0,0))) ∧ za (Below w.heap.size w wc))
         case first =>
          have H := HC24.out
          clear HC24
          by_cases c25 : t355 = 0
          ·rw [if_pos c25] at H
           have c25b0 : (t355 == 0) = true := beq_iff_eq.mpr c25
           have c25b1 : (t355 != 0) = false := bne_eq_false_iff_eq.mpr c25
           clear c25
           (first | rw [c25b0] | (simp only [zK,zL];rw [c25b0]) | skip)
           by_cases c26 : t353 > 10006
           ·rw [if_pos c26] at H
            have c26b0 : decide (10006 < t353) = true := decide_eq_true c26
            clear c26
            have H' := za.mk H
            clear H
            go_wp2
            go_meet
            case rel => exact ⟨_,(true),(hDq),H',⟨by have := HJ4.out;have := HJ16.out;first | omega | exact Nat.le_refl _⟩,⟨by (with_reducible repeat (first | apply Kd.R_alloc | apply Kd.R_drewN | apply Kd.R_drew));exact HO_12.out⟩,⟨by (with_reducible repeat (first | apply Kd.R_alloc | apply Kd.R_drewN | apply Kd.R_drew));exact HO_15.out⟩,⟨hGq BK333.out⟩,⟨by repeat (first | (with_reducible first | exact HB.out | apply zk | apply zf | apply zm | refine zw ?_ GE333.out) | exact HB.out)⟩⟩
           ·rw [if_neg c26] at H
            have c26b0 : decide (10006 < t353) = false := decide_eq_false c26
            clear c26
            have H' := za.mk H
            clear H
            go_wp2
            go_meet
            case rel => exact ⟨_,(decide ((t354.size : Int) > 0)),(hDq),H',⟨by have := HJ4.out;have := HJ16.out;first | omega | exact Nat.le_refl _⟩,⟨by (with_reducible repeat (first | apply Kd.R_alloc | apply Kd.R_drewN | apply Kd.R_drew));exact HO_12.out⟩,⟨by (with_reducible repeat (first | apply Kd.R_alloc | apply Kd.R_drewN | apply Kd.R_drew));exact HO_15.out⟩,⟨hGq BK333.out⟩,⟨by repeat (first | (with_reducible first | exact HB.out | apply zk | apply zf | apply zm | refine zw ?_ GE333.out) | exact HB.out)⟩⟩
          ·rw [if_neg c25] at H
           have c25b0 : (t355 == 0) = false := beq_eq_false_iff_ne.mpr c25
           have c25b1 : (t355 != 0) = true := bne_iff_ne.mpr c25
           (first | rw [c25b0] | (simp only [zK,zL];rw [c25b0]) | skip)
           have H' := za.mk H
           clear H
           go_wp2
           go_meet
           case rel => exact ⟨_,(true),(hDq),H',⟨by have := HJ4.out;have := HJ16.out;first | omega | exact Nat.le_refl _⟩,⟨by (with_reducible repeat (first | apply Kd.R_alloc | apply Kd.R_drewN | apply Kd.R_drew));exact HO_12.out⟩,⟨by (with_reducible repeat (first | apply Kd.R_alloc | apply Kd.R_drewN | apply Kd.R_drew));exact HO_15.out⟩,⟨hGq BK333.out⟩,⟨by repeat (first | (with_reducible first | exact HB.out | apply zk | apply zf | apply zm | refine zw ?_ GE333.out) | exact HB.out)⟩⟩
         case rest =>
          clear HC24
          try clear c1;try clear c2;try clear p2;try clear c5;try clear c7;try clear c7b0;try clear c7b1;try clear c8;try clear c8b0;try clear c8b1;try clear c9;try clear c9b0;try clear c10;try clear c13;try clear c13b0;try clear c13b1;try clear c15;try clear c15b0;try clear c15b1;try clear c20;try clear c20b0;try clear c20b1;try clear c21;try clear c25;try clear c25b0;try clear c25b1;try clear c26;try clear c26b0;try clear hcz11_0;try clear hcz11_1;try clear hcz11_2;try clear hcz11_3;try clear hcz11_4;try clear hcz11_5;try clear hcz22_0;try clear hcz22_1;try clear hcz22_2;try clear hcz22_3;try clear hcz22_4;try clear hcz22_5;try clear hfz11_0;try clear hfz11_1;try clear hfz11_2;try clear hfz11_3;try clear hfz11_4;try clear hfz11_5;try clear hfz22_0;try clear hfz22_1;try clear hfz22_2;try clear hfz22_3;try clear hfz22_4;try clear hfz22_5;try clear p2
          obtain ⟨kq,x103_23,rfl,HA,HJ23,HO_12,HO_15,BK333,HB⟩ := hcut
          cases kq with
          | zero => exact absurd HA.out (by simp [zh.j2])
          | succ kj23 =>
           have H := HA.out
           clear HA
           simp only [zh.j2] at H
           by_cases c27 : x103_23 = true
           ·subst c27
            have H1 : (some (0,0,([] : List (S73)),([] : List ByteArray),0,0,3)) = some (r1,r2,r3,r4,r5,r6,r7) := by rw [if_pos rfl] at H;exact H
            clear H
            have H := H1
            clear H1
            simp only [Option.some.injEq,Prod.mk.injEq] at H
            obtain ⟨rfl,rfl,rfl,rfl,rfl,rfl,rfl⟩ := H
            obtain ⟨hcz28_0,hcz28_1,hcz28_2,hcz28_3,hcz28_4,hcz28_5,hfz28_0,hfz28_1,hfz28_2,hfz28_3,hfz28_4,hfz28_5⟩ := hcq6 BK333.out
            go_wp2
            refine bodyPost_ret (zaq rfl _ _ gb333 27 #[.int .i64 0,.int .i64 0,.slice none 0 0,.slice none 0 0,.int .i64 0,.int .i64 0] (0,0) _ rfl (hxq0p BK333.out) Tryz.underlying27 rfl (by kernel_rfl)) rfl ?_
            exact ⟨_,_,hHq,by first | exact Kd.S_nil _ _ _ _ _ | exact Kd.N_nil _ _ _ _ _ | exact Kd.V_nil _ _ _ _ _ | exact Kd.Q_nil _ _ _ _ _ | exact Kd.R_nil _ _ _ _ _,by first | exact Kd.R_nil _ _ _ _ _ | exact Kd.N_nil _ _ _ _ _ | exact Kd.V_nil _ _ _ _ _ | exact Kd.Q_nil _ _ _ _ _ | exact Kd.S_nil _ _ _ _ _,hCq⟩
           ·replace c27 := Bool.eq_false_iff.mpr c27
            subst c27
            have H1 : (zh.l0 kj23 a1 t340 0 (wrap64 (t334)) (wrap64 (t337)) ([] : List (S73)) t345 (wrap64 (t350)) (wrap64 (t353))) = some (r1,r2,r3,r4,r5,r6,r7) := by rw [if_neg (show ¬ (false = true) by decide)] at H;exact H
            clear H
            have H := H1
            clear H1
            have H' := za.mk H
            clear H
            obtain ⟨Ao29,co29,eo29⟩ := Kd.R_slice HO_15.out
            subst eo29
            go_wp2_with (first | ((with_reducible refine zy (N := 24) rfl ?_);(try (refine zba (by rfl) ?_;dsimp only));refine zo ?hg (N := 24) ?hd (cs := #[.int .i64 0,.int .i64 0,.slice none 0 0,.slice none 0 0,.int .i64 0,.int .i64 0]) (t := 27) ?hr ?_;(case hd => rfl);(case hg => rfl);(case hr => first | (go_simp;done) | (go_simp;rfl));intro gb356 hg w30 hbox hb;have n_ := haq (Kd.R_below (hRq HO_12.out) hb) <| haq (Kd.R_below (hRq HO_15.out) hb) <| haq (hbq BK333.out hb) <| haq (zd hCq hb) <| haq (hbox) <| haq ((by rw [hg];exact (ze hCq) : w.heap.size ≤ gb356)) <| haq ((by rw [hg];exact (ze hCq) : w.heap.size ≤ gb356)) <| haq (hnq hg BK333.out) <| haq (hmq hg BK333.out) <| trivial;clear HO_12 HO_15 BK333 HB;obtain ⟨HO_12,HO_15,BK333,HB,BK356,GW356,GE356,NB333_356,NB356_333,_⟩ := n_;clear hb hbox hg;have hnb31 := NB356_333.out;have hnc31 := NB333_356.out;obtain ⟨hcz32_0,hcz32_1,hcz32_2,hcz32_3,hcz32_4,hcz32_5,hfz32_0,hfz32_1,hfz32_2,hfz32_3,hfz32_4,hfz32_5⟩ := hcq6 BK356.out))
            go_loopg [25] kj23 (fun kq v25 w' => ∃ (x25_4 : Int) (x334000_4 : Int) (x334001_4 : Int) (x334004_4 : Int) (x334005_4 : Int) (x357002_4 : List (S73)) (u357002 : Value),v25 = .int .i64 x25_4 ∧ za (zh.l0 kq a1 t340 x25_4 (wrap64 (t334)) (wrap64 (t337)) x357002_4 t345 (wrap64 (t350)) (wrap64 (t353)) = some (r1,r2,r3,r4,r5,r6,r7)) ∧ za (kq ≤ kj23) ∧ za (Kd.R Kd.string 9 w' w.heap.size (fun k_ => some k_ ≠ ((.slice Ao29 t345.length co29) : Value).ownBlock) v343 t340) ∧ za (Kd.S k73 73 w' w.heap.size (fun k_ => some k_ ≠ (v343 : Value).ownBlock ∧ some k_ ≠ ((.slice Ao29 t345.length co29) : Value).ownBlock) u357002 x357002_4) ∧ za (Kd.R Kd.string 9 w' w.heap.size (fun k_ => some k_ ≠ (v343 : Value).ownBlock) (.slice Ao29 t345.length co29) t345) ∧ za (w'.heap[gb333]? = some (.cells #[.int .i64 x334000_4,.int .i64 x334001_4,(.slice none 0 0),(.slice none 0 0),.int .i64 x334004_4,.int .i64 x334005_4] 27 (0,0))) ∧ za (w'.heap[gb356]? = some (.cells #[.int .i64 (wrap64 (t334)),.int .i64 (wrap64 (t337)),u357002,(.slice Ao29 t345.length co29),.int .i64 (wrap64 (t350)),.int .i64 (wrap64 (t353))] 27 (0,0))) ∧ za (Below w.heap.size w w'))
            case atStart => exact ⟨(0),(0),(0),(0),(0),(([] : List (S73))),(.slice none 0 0),(hDq),H',⟨Nat.le_refl _⟩,⟨by (with_reducible repeat (first | apply Kd.R_alloc | apply Kd.R_drewN | apply Kd.R_drew));exact Kd.R_mono (Kd.R_far (p := ⟨gb356,5,none⟩) (Kd.R_far (p := ⟨gb356,4,none⟩) (Kd.R_far (p := ⟨gb356,3,none⟩) (Kd.R_far (p := ⟨gb356,2,none⟩) (Kd.R_far (p := ⟨gb356,1,none⟩) (Kd.R_far (p := ⟨gb356,0,none⟩) (Kd.R_types HO_12.out BK356.out (by decide)) (fun _ hk => hk.2) (.int .i64 (wrap64 (t334)))) (fun _ hk => hk.2) (.int .i64 (wrap64 (t337)))) (fun _ hk => hk.2) (.slice none 0 0)) (fun _ hk => hk.2) (.slice Ao29 t345.length co29)) (fun _ hk => hk.2) (.int .i64 (wrap64 (t350)))) (fun _ hk => hk.2) (.int .i64 (wrap64 (t353)))) (fun _ hk => hk.1)⟩,⟨by first | exact Kd.S_nil _ _ _ _ _ | exact Kd.N_nil _ _ _ _ _ | exact Kd.V_nil _ _ _ _ _ | exact Kd.Q_nil _ _ _ _ _ | exact Kd.R_nil _ _ _ _ _⟩,⟨by (with_reducible repeat (first | apply Kd.R_alloc | apply Kd.R_drewN | apply Kd.R_drew));exact Kd.R_mono (Kd.R_far (p := ⟨gb356,5,none⟩) (Kd.R_far (p := ⟨gb356,4,none⟩) (Kd.R_far (p := ⟨gb356,3,none⟩) (Kd.R_far (p := ⟨gb356,2,none⟩) (Kd.R_far (p := ⟨gb356,1,none⟩) (Kd.R_far (p := ⟨gb356,0,none⟩) (Kd.R_types HO_15.out BK356.out (by decide)) (fun _ hk => hk.2) (.int .i64 (wrap64 (t334)))) (fun _ hk => hk.2) (.int .i64 (wrap64 (t337)))) (fun _ hk => hk.2) (.slice none 0 0)) (fun _ hk => hk.2) (.slice Ao29 t345.length co29)) (fun _ hk => hk.2) (.int .i64 (wrap64 (t350)))) (fun _ hk => hk.2) (.int .i64 (wrap64 (t353)))) (fun _ hk => hk.1)⟩,⟨hxq1 NB333_356.out BK333.out⟩,⟨hxq0p BK356.out⟩,⟨by repeat (first | (with_reducible first | exact HB.out | apply zk | apply zf | apply zm | refine zw ?_ GE333.out | refine zw ?_ GE356.out) | exact HB.out)⟩⟩
            case round =>
             clear H'
             try clear c1;try clear c2;try clear p2;try clear c3;try clear c5;try clear p6;try clear c7;try clear c7b0;try clear c7b1;try clear c8;try clear c8b0;try clear c8b1;try clear c9;try clear c9b0;try clear c10;try clear c13;try clear c13b0;try clear c13b1;try clear c15;try clear c15b0;try clear c15b1;try clear c20;try clear c20b0;try clear c20b1;try clear c21;try clear c25;try clear c25b0;try clear c25b1;try clear c26;try clear c26b0;try clear c27;try clear c31;try clear hcz11_0;try clear hcz11_1;try clear hcz11_2;try clear hcz11_3;try clear hcz11_4;try clear hcz11_5;try clear hcz22_0;try clear hcz22_1;try clear hcz22_2;try clear hcz22_3;try clear hcz22_4;try clear hcz22_5;try clear hcz28_0;try clear hcz28_1;try clear hcz28_2;try clear hcz28_3;try clear hcz28_4;try clear hcz28_5;try clear hcz32_0;try clear hcz32_1;try clear hcz32_2;try clear hcz32_3;try clear hcz32_4;try clear hcz32_5;try clear hfz11_0;try clear hfz11_1;try clear hfz11_2;try clear hfz11_3;try clear hfz11_4;try clear hfz11_5;try clear hfz22_0;try clear hfz22_1;try clear hfz22_2;try clear hfz22_3;try clear hfz22_4;try clear hfz22_5;try clear hfz28_0;try clear hfz28_1;try clear hfz28_2;try clear hfz28_3;try clear hfz28_4;try clear hfz28_5;try clear hfz32_0;try clear hfz32_1;try clear hfz32_2;try clear hfz32_3;try clear hfz32_4;try clear hfz32_5;try clear p2
             obtain ⟨x25_4,x334000_4,x334001_4,x334004_4,x334005_4,x357002_4,u357002,rfl,HA,HK4,HO_12,HO_357002,HO_357003,BK333,BK356,HB⟩ := hrel
             cases gk with
             | zero => exact absurd HA.out (by simp [zh.l0])
             | succ k4 =>
              have H := HA.out
              clear HA
              simp only [zh.l0] at H
              by_cases c33 : x25_4 < (t340.length : Int)
              ·rw [if_pos c33] at H
               have c33b0 : decide (x25_4 < (t340.length : Int)) = true := decide_eq_true c33
               clear c33
               by_cases c34 : 0 ≤ x25_4
               ·rw [if_pos c34] at H
                have c34b0 : decide (0 ≤ x25_4) = true := decide_eq_true c34
                clear c34
                replace H := Option.bind_eq_some_iff.mp H
                obtain ⟨⟨t358,t359,t360,t363⟩,A350,H⟩ := H
                replace H : (if t363 = 0 then (if x357002_4.length < 3518437208883 then (zh.l0 k4 a1 t340 (wrap64 (x25_4 + 1)) (wrap64 (t334)) (wrap64 (t337)) (x357002_4 ++ [(⟨t358,t359,t360⟩ : S73)]) t345 (wrap64 (t350)) (wrap64 (t353))) else (none)) else (some (0,0,([] : List (S73)),([] : List ByteArray),0,0,3))) = some (r1,r2,r3,r4,r5,r6,r7) := H
                have A35 := za.mk A350
                clear A350
                by_cases c36 : t363 = 0
                ·rw [if_pos c36] at H
                 have c36b0 : (t363 == 0) = true := beq_iff_eq.mpr c36
                 have c36b1 : (t363 != 0) = false := bne_eq_false_iff_eq.mpr c36
                 clear c36
                 by_cases c37 : x357002_4.length < 3518437208883
                 ·rw [if_pos c37] at H
                  have LMc37 := za.mk c37
                  clear c37
                  obtain ⟨y365,hy365⟩ : ∃ y_ : List (S73),y_ = (x357002_4 ++ [(⟨t358,t359,t360⟩ : S73)]) := ⟨_,rfl⟩
                  replace H : (zh.l0 k4 a1 t340 (wrap64 (x25_4 + 1)) (wrap64 (t334)) (wrap64 (t337)) y365 t345 (wrap64 (t350)) (wrap64 (t353))) = some (r1,r2,r3,r4,r5,r6,r7) := by first | (rw [hy365];with_reducible exact H) | (have H2_ := (Option.bind_some _ _).symm.trans H;rw [hy365];with_reducible exact H2_) | (have H2_ := (Option.bind_some _ _).symm.trans H;with_reducible exact H2_) | with_reducible exact H | (rw [hy365];exact H) | exact H
                  have Ny365 := za.mk hy365
                  clear hy365
                  have H' := za.mk H
                  clear H
                  obtain ⟨Ao38,co38,eo38⟩ := Kd.R_slice HO_12.out
                  subst eo38
                  have p357 : 0 ≤ (x25_4 : Int) := hFq
                  have q357 : x25_4 < (t340.length : Int) := hFq
                  obtain ⟨ad357,e357,hx357_0⟩ := Kd.at_string (Kd.R_reads' HO_12.out).2.2 x25_4 p357 q357
                  cases e357
                  replace p357 := eq_true p357
                  replace q357 := eq_true q357
                  go_wp2_with (first | ((with_reducible refine zj (f := 53) rfl ?_);refine zQ (some 127) rfl rfl Tryz.func53 (by kernel_rfl) rfl #[.string (zG ByteArray.empty t340 x25_4)] rfl hMq ?_;(with_reducible refine (zO.calls k4 (zG ByteArray.empty t340 x25_4) t358 t359 t360 t363 _ A35.out).mono ?_);rintro e w39 ⟨v361,rfl,ho0,hb⟩;refine ⟨_,rfl,?_⟩;have n_ := haq (Kd.R_elder' (hRq HO_12.out) (Kd.R_base ho0) hb) <| haq (Kd.S_elder' (hSq HO_357002.out) (Kd.R_base ho0) hb) <| haq (Kd.R_elder' (hRq HO_357003.out) (Kd.R_base ho0) hb) <| haq (Kd.R_lower (Kd.R_new' (Kd.R_new' ho0 (Kd.R_lt (hRq HO_12.out))) (Kd.R_lt (hRq HO_357003.out))) (ze hCq)) <| haq (hbq BK333.out hb) <| haq (hbq BK356.out hb) <| haq (zd hCq hb) <| trivial;clear HO_12 HO_357002 HO_357003 BK333 BK356 HB;obtain ⟨HO_12,HO_357002,HO_357003,HO362,BK333,BK356,HB,_⟩ := n_;(try clear hb);(try clear hb2);(try clear hk);(try clear hi);(try clear ho0)) | ((with_reducible refine zy (N := 26) rfl ?_);(try (refine zba (by rfl) ?_;dsimp only));refine zo ?hg (N := 26) ?hd (cs := #[.int .i64 0,.int .i64 0,.slice none 0 0]) (t := 73) ?hr ?_;(case hd => rfl);(case hg => rfl);(case hr => first | (go_simp;done) | (go_simp;rfl));intro gb364 hg w40 hbox hb;have n_ := haq (Kd.R_below (hRq HO_12.out) hb) <| haq (Kd.S_below (Kd.S_elderB (hSq HO_357002.out) gb364 (Nat.le_of_eq hg.symm)) hb) <| haq (Kd.R_below (hRq HO_357003.out) hb) <| haq (Kd.R_below (hRq HO362.out) hb) <| haq (hbq BK333.out hb) <| haq (hbq BK356.out hb) <| haq (zd hCq hb) <| haq (hbox) <| haq ((by rw [hg];exact (ze hCq) : w.heap.size ≤ gb364)) <| haq ((by rw [hg];exact (ze hCq) : w.heap.size ≤ gb364)) <| haq (hnq hg BK333.out) <| haq (hmq hg BK333.out) <| haq (hnq hg BK356.out) <| haq (hmq hg BK356.out) <| trivial;clear HO_12 HO_357002 HO_357003 HO362 BK333 BK356 HB;obtain ⟨HO_12,HO_357002,HO_357003,HO362,BK333,BK356,HB,BK364,GW364,GE364,NB333_364,NB364_333,NB356_364,NB364_356,_⟩ := n_;clear hb hbox hg;have hnb41 := NB364_333.out;have hnc41 := NB333_364.out;have hnb42 := NB364_356.out;have hnc42 := NB356_364.out;obtain ⟨hcz43_0,hcz43_1,hcz43_2,hfz43_0,hfz43_1,hfz43_2⟩ := hcq3 BK364.out;obtain ⟨Ao44,co44,eo44⟩ := Kd.R_slice HO362.out;subst eo44) | ((with_reducible refine zgw (t := 73) (p := 26) rfl ?_);refine zfR (t := 73) (p := 26) (v := ?vo_w45) (w1 := (((w40.setCell ⟨gb364,0,none⟩ (.int .i64 t358)).setCell ⟨gb364,1,none⟩ (.int .i64 t359)).setCell ⟨gb364,2,none⟩ (.slice Ao44 t360.length co44))) ?hg ?ho ?hn ?hr ?_;(case ho => rfl);(case hg => rfl);(case hn => rfl);(case hr => first | (go_simp;done) | (go_simp;rfl));intro w45 hw;have n_ := haq (((by rw [hw];exact (by (with_reducible repeat (first | apply Kd.R_alloc | apply Kd.R_drewN | apply Kd.R_drew));exact Kd.R_mono (Kd.R_far (p := ⟨gb364,2,none⟩) (Kd.R_far (p := ⟨gb364,1,none⟩) (Kd.R_far (p := ⟨gb364,0,none⟩) (Kd.R_types HO_12.out BK364.out (by decide)) (fun _ hk => hk.2) (.int .i64 t358)) (fun _ hk => hk.2) (.int .i64 t359)) (fun _ hk => hk.2) (.slice Ao44 t360.length co44)) (fun _ hk => ⟨hk.1.1,hk.1.2⟩))) : Kd.R Kd.string 9 w45 w.heap.size (fun k_ => some k_ ≠ (.slice Ao29 t345.length co29 : Value).ownBlock ∧ some k_ ≠ (.slice Ao44 t360.length co44 : Value).ownBlock) (.slice (some ad357) t340.length co38) t340)) <| haq (((by rw [hw];exact (by (with_reducible repeat (first | apply Kd.S_alloc | apply Kd.S_drewN | apply Kd.S_drew));exact Kd.S_mono (Kd.S_far (p := ⟨gb364,2,none⟩) (Kd.S_far (p := ⟨gb364,1,none⟩) (Kd.S_far (p := ⟨gb364,0,none⟩) (Kd.S_mono HO_357002.out (fun k_ hk => (⟨hk,hk.2⟩ : _ ∧ k_ ≠ gb364))) (fun _ hk => hk.2) (.int .i64 t358)) (fun _ hk => hk.2) (.int .i64 t359)) (fun _ hk => hk.2) (.slice Ao44 t360.length co44)) (fun _ hk => ⟨hk.1.1.1.1,⟨hk.1.1.1.2,⟨hk.1.1.2,hk.1.2⟩⟩⟩))) : Kd.S k73 73 w45 w.heap.size (fun k_ => some k_ ≠ (.slice (some ad357) t340.length co38 : Value).ownBlock ∧ some k_ ≠ (.slice Ao29 t345.length co29 : Value).ownBlock ∧ some k_ ≠ (.slice Ao44 t360.length co44 : Value).ownBlock ∧ k_ ≠ gb364) u357002 x357002_4)) <| haq (((by rw [hw];exact (by (with_reducible repeat (first | apply Kd.R_alloc | apply Kd.R_drewN | apply Kd.R_drew));exact Kd.R_mono (Kd.R_far (p := ⟨gb364,2,none⟩) (Kd.R_far (p := ⟨gb364,1,none⟩) (Kd.R_far (p := ⟨gb364,0,none⟩) (Kd.R_types HO_357003.out BK364.out (by decide)) (fun _ hk => hk.2) (.int .i64 t358)) (fun _ hk => hk.2) (.int .i64 t359)) (fun _ hk => hk.2) (.slice Ao44 t360.length co44)) (fun _ hk => ⟨hk.1.1,hk.1.2⟩))) : Kd.R Kd.string 9 w45 w.heap.size (fun k_ => some k_ ≠ (.slice (some ad357) t340.length co38 : Value).ownBlock ∧ some k_ ≠ (.slice Ao44 t360.length co44 : Value).ownBlock) (.slice Ao29 t345.length co29) t345)) <| haq (((by rw [hw];exact (by (with_reducible repeat (first | apply Kd.R_alloc | apply Kd.R_drewN | apply Kd.R_drew));exact Kd.R_mono (Kd.R_far (p := ⟨gb364,2,none⟩) (Kd.R_far (p := ⟨gb364,1,none⟩) (Kd.R_far (p := ⟨gb364,0,none⟩) (Kd.R_types HO362.out BK364.out (by decide)) (fun _ hk => hk.2) (.int .i64 t358)) (fun _ hk => hk.2) (.int .i64 t359)) (fun _ hk => hk.2) (.slice Ao44 t360.length co44)) (fun _ hk => ⟨hk.1.1.2,hk.1.2⟩))) : Kd.R Kd.string 9 w45 w.heap.size (fun k_ => some k_ ≠ (.slice (some ad357) t340.length co38 : Value).ownBlock ∧ some k_ ≠ (.slice Ao29 t345.length co29 : Value).ownBlock) (.slice Ao44 t360.length co44) t360)) <| haq (hfq hw NB333_364.out BK333.out) <| haq (hfq hw NB356_364.out BK356.out) <| haq (((by rw [hw];exact (hxq0p BK364.out)) : w45.heap[gb364]? = some (.cells #[.int .i64 t358,.int .i64 t359,.slice Ao44 t360.length co44] 73 (0,0)))) <| haq (((by rw [hw];exact hCq) : Below w.heap.size w w45)) <| trivial;clear hw HO_12 HO_357002 HO_357003 HO362 BK333 BK356 BK364 HB;obtain ⟨HO_12,HO_357002,HO_357003,HO362,BK333,BK356,BK364,HB,_⟩ := n_;have hnb46 := NB356_333.out;have hnc46 := NB333_356.out;obtain ⟨hcz47_0,hcz47_1,hcz47_2,hcz47_3,hcz47_4,hcz47_5,hfz47_0,hfz47_1,hfz47_2,hfz47_3,hfz47_4,hfz47_5⟩ := hcq6 BK356.out;obtain ⟨hcz48_0,hcz48_1,hcz48_2,hfz48_0,hfz48_1,hfz48_2⟩ := hcq3 BK364.out) | ((with_reducible refine zcN (b := .append) (xs := #[.tmp 134,.tmp 136]) rfl ?_);(try (refine zba (by rfl) ?_;dsimp only));at_builtin;refine Kd.S_append k73 (w0 := w) w.heap.size rfl (.tmp 134) (.tmp 136) 22 73 (.agg #[(.int .i64 0),(.int .i64 0),(.slice none 0 0)]) 40 rfl Tryz.underlying22 info73 rfl (by decide) (by omega) u357002 x357002_4 (⟨t358,t359,t360⟩ : S73) [.int .i64 t358,.int .i64 t359,.slice Ao44 t360.length co44] (fun k_ => some k_ ≠ (.slice (some ad357) t340.length co38 : Value).ownBlock ∧ some k_ ≠ (.slice Ao29 t345.length co29 : Value).ownBlock ∧ k_ ≠ gb364) (fun k_ => some k_ = (.slice Ao44 t360.length co44 : Value).ownBlock) rfl rfl ?aP (fun k_ hk_ => ((Kd.R_mono (ok' := fun k_ => ((fun k_ => some k_ ≠ (.slice (some ad357) t340.length co38 : Value).ownBlock ∧ some k_ ≠ (.slice Ao29 t345.length co29 : Value).ownBlock ∧ k_ ≠ gb364)) k_ ∧ some k_ ≠ (u357002 : Value).ownBlock) (Kd.R_types (Kd.R_apart' (HO362.out) (Kd.S_typed HO_357002.out) (by decide)) BK364.out (by decide)) (fun k_ hk => ⟨⟨hk.1.1.1,⟨hk.1.1.2,hk.2⟩⟩,hk.1.2⟩))).1 k_ hk_.symm) ?aF ?aO ?aB ?aS ?aL ?_;(case aP => exact k73_mkM _ _ _ (⟨t358,t359,t360⟩ : S73) (Kd.R_mono (Kd.R_tight rfl (Kd.R_mono (ok' := fun k_ => ((fun k_ => some k_ ≠ (.slice (some ad357) t340.length co38 : Value).ownBlock ∧ some k_ ≠ (.slice Ao29 t345.length co29 : Value).ownBlock ∧ k_ ≠ gb364)) k_ ∧ some k_ ≠ (u357002 : Value).ownBlock) (Kd.R_types (Kd.R_apart' (HO362.out) (Kd.S_typed HO_357002.out) (by decide)) BK364.out (by decide)) (fun k_ hk => ⟨⟨hk.1.1.1,⟨hk.1.1.2,hk.2⟩⟩,hk.1.2⟩))) (fun _ h_ => h_)));(case aB => exact hCq);(case aF => exact (fun k_ hk => ⟨Kd.fresh' (Kd.R_lt (hRq HO_12.out)) k_ hk,Kd.fresh' (Kd.R_lt (hRq HO_357003.out)) k_ hk,Kd.freshB (g := gb364) (o := .cells #[.int .i64 t358,.int .i64 t359,.slice Ao44 t360.length co44] 73 (0,0)) (hGq BK364.out) k_ hk⟩));(case aO => exact (by (with_reducible repeat (first | apply Kd.S_alloc | apply Kd.S_drewN | apply Kd.S_drew));exact Kd.S_mono HO_357002.out (fun k_ hk => ⟨⟨hk.1,⟨hk.2.1,hk.2.2.2⟩⟩,fun e_ => hk.2.2.1 e_⟩)));(case aS => exact (ze hCq));(case aL => have := LMc37.out;omega);intro v366 w49 ho hb hg hat;rw [← Ny365.out] at ho;have n_ := haq (Kd.R_over' (hRq HO_12.out) (Kd.S_typed (hSq HO_357002.out)) (by decide) hg) <| haq (Kd.R_over' (hRq HO_357003.out) (Kd.S_typed (hSq HO_357002.out)) (by decide) hg) <| haq (zcn (g := gb333) (o := .cells #[.int .i64 x334000_4,.int .i64 x334001_4,.slice none 0 0,.slice none 0 0,.int .i64 x334004_4,.int .i64 x334005_4] 27 (0,0)) (hGq BK333.out) hg (Kd.S_ne HO_357002.out BK333.out (by decide))) <| haq (zcn (g := gb356) (o := .cells #[.int .i64 (wrap64 (t334)),.int .i64 (wrap64 (t337)),u357002,.slice Ao29 t345.length co29,.int .i64 (wrap64 (t350)),.int .i64 (wrap64 (t353))] 27 (0,0)) (hGq BK356.out) hg (Kd.S_ne HO_357002.out BK356.out (by decide))) <| haq (zcn (g := gb364) (o := .cells #[.int .i64 t358,.int .i64 t359,.slice Ao44 t360.length co44] 73 (0,0)) (hGq BK364.out) hg (Kd.S_away HO_357002.out (fun _ hk => hk.2.2.2))) <| haq (hb) <| haq (ho) <| trivial;clear HO_12 HO_357003 BK333 BK356 BK364 HB HO_357002 HO362;obtain ⟨HO_12,HO_357003,BK333,BK356,BK364,HB,HO367,_⟩ := n_;clear ho hb hg hat;obtain ⟨Ao50,co50,eo50⟩ := Kd.S_slice HO367.out;subst eo50;obtain ⟨hcz51_0,hcz51_1,hcz51_2,hcz51_3,hcz51_4,hcz51_5,hfz51_0,hfz51_1,hfz51_2,hfz51_3,hfz51_4,hfz51_5⟩ := hcq6 BK356.out))
                  go_roundg k4
                  case measure => have := HJ4.out;have := HJ16.out;have := HJ23.out;have := HK4.out;omega
                  case rel => exact ⟨(wrap64 (x25_4 + 1)),(x334000_4),(x334001_4),(x334004_4),(x334005_4),(y365),(.slice Ao50 y365.length co50),(hDq),H',⟨by have := HJ4.out;have := HJ16.out;have := HJ23.out;have := HK4.out;omega⟩,⟨by (with_reducible repeat (first | apply Kd.R_alloc | apply Kd.R_drewN | apply Kd.R_drew));exact Kd.R_mono (Kd.R_far (p := ⟨gb356,2,none⟩) (Kd.R_types HO_12.out BK356.out (by decide)) (fun _ hk => hk.2) (.slice Ao50 y365.length co50)) (fun _ hk => hk.1.1)⟩,⟨by (with_reducible repeat (first | apply Kd.S_alloc | apply Kd.S_drewN | apply Kd.S_drew));exact Kd.S_mono (Kd.S_far (p := ⟨gb356,2,none⟩) (Kd.S_types HO367.out BK356.out (by decide)) (fun _ hk => hk.2) (.slice Ao50 y365.length co50)) (fun _ hk => ⟨hk.1.1,hk.1.2.1⟩)⟩,⟨by (with_reducible repeat (first | apply Kd.R_alloc | apply Kd.R_drewN | apply Kd.R_drew));exact Kd.R_mono (Kd.R_far (p := ⟨gb356,2,none⟩) (Kd.R_types HO_357003.out BK356.out (by decide)) (fun _ hk => hk.2) (.slice Ao50 y365.length co50)) (fun _ hk => hk.1.1)⟩,⟨hxq1 NB333_356.out BK333.out⟩,⟨hxq0p BK356.out⟩,⟨by repeat (first | (with_reducible first | exact HB.out | apply zk | apply zf | apply zm | refine zw ?_ GE333.out | refine zw ?_ GE356.out | refine zw ?_ GE364.out) | exact HB.out)⟩⟩
                 ·rw [if_neg c37] at H
                  exact absurd H (by simp)
                ·rw [if_neg c36] at H
                 have c36b0 : (t363 == 0) = false := beq_eq_false_iff_ne.mpr c36
                 have c36b1 : (t363 != 0) = true := bne_iff_ne.mpr c36
                 simp only [Option.some.injEq,Prod.mk.injEq] at H
                 obtain ⟨rfl,rfl,rfl,rfl,rfl,rfl,rfl⟩ := H
                 obtain ⟨Ao52,co52,eo52⟩ := Kd.R_slice HO_12.out
                 subst eo52
                 have p357 : 0 ≤ (x25_4 : Int) := hFq
                 have q357 : x25_4 < (t340.length : Int) := hFq
                 obtain ⟨ad357,e357,hx357_0⟩ := Kd.at_string (Kd.R_reads' HO_12.out).2.2 x25_4 p357 q357
                 cases e357
                 replace p357 := eq_true p357
                 replace q357 := eq_true q357
                 go_wp2_with (first | ((with_reducible refine zj (f := 53) rfl ?_);refine zQ (some 127) rfl rfl Tryz.func53 (by kernel_rfl) rfl #[.string (zG ByteArray.empty t340 x25_4)] rfl hMq ?_;(with_reducible refine (zO.calls k4 (zG ByteArray.empty t340 x25_4) t358 t359 t360 t363 _ A35.out).mono ?_);rintro e w53 ⟨v361,rfl,ho0,hb⟩;refine ⟨_,rfl,?_⟩;have n_ := haq (Kd.R_elder' (hRq HO_12.out) (Kd.R_base ho0) hb) <| haq (Kd.S_elder' (hSq HO_357002.out) (Kd.R_base ho0) hb) <| haq (Kd.R_elder' (hRq HO_357003.out) (Kd.R_base ho0) hb) <| haq (Kd.R_lower (Kd.R_new' (Kd.R_new' ho0 (Kd.R_lt (hRq HO_12.out))) (Kd.R_lt (hRq HO_357003.out))) (ze hCq)) <| haq (hbq BK333.out hb) <| haq (hbq BK356.out hb) <| haq (zd hCq hb) <| trivial;clear HO_12 HO_357002 HO_357003 BK333 BK356 HB;obtain ⟨HO_12,HO_357002,HO_357003,HO362,BK333,BK356,HB,_⟩ := n_;(try clear hb);(try clear hb2);(try clear hk);(try clear hi);(try clear ho0)) | ((with_reducible refine zy (N := 26) rfl ?_);(try (refine zba (by rfl) ?_;dsimp only));refine zo ?hg (N := 26) ?hd (cs := #[.int .i64 0,.int .i64 0,.slice none 0 0]) (t := 73) ?hr ?_;(case hd => rfl);(case hg => rfl);(case hr => first | (go_simp;done) | (go_simp;rfl));intro gb364 hg w54 hbox hb;have n_ := haq (Kd.R_below (hRq HO_12.out) hb) <| haq (Kd.S_below (Kd.S_elderB (hSq HO_357002.out) gb364 (Nat.le_of_eq hg.symm)) hb) <| haq (Kd.R_below (hRq HO_357003.out) hb) <| haq (Kd.R_below (hRq HO362.out) hb) <| haq (hbq BK333.out hb) <| haq (hbq BK356.out hb) <| haq (zd hCq hb) <| haq (hbox) <| haq ((by rw [hg];exact (ze hCq) : w.heap.size ≤ gb364)) <| haq ((by rw [hg];exact (ze hCq) : w.heap.size ≤ gb364)) <| haq (hnq hg BK333.out) <| haq (hmq hg BK333.out) <| haq (hnq hg BK356.out) <| haq (hmq hg BK356.out) <| trivial;clear HO_12 HO_357002 HO_357003 HO362 BK333 BK356 HB;obtain ⟨HO_12,HO_357002,HO_357003,HO362,BK333,BK356,HB,BK364,GW364,GE364,NB333_364,NB364_333,NB356_364,NB364_356,_⟩ := n_;clear hb hbox hg;have hnb55 := NB364_333.out;have hnc55 := NB333_364.out;have hnb56 := NB364_356.out;have hnc56 := NB356_364.out;obtain ⟨hcz57_0,hcz57_1,hcz57_2,hfz57_0,hfz57_1,hfz57_2⟩ := hcq3 BK364.out;obtain ⟨Ao58,co58,eo58⟩ := Kd.R_slice HO362.out;subst eo58;have hnb59 := NB333_356.out;have hnc59 := NB356_333.out;obtain ⟨hcz60_0,hcz60_1,hcz60_2,hcz60_3,hcz60_4,hcz60_5,hfz60_0,hfz60_1,hfz60_2,hfz60_3,hfz60_4,hfz60_5⟩ := hcq6 BK333.out))
                 refine bodyPost_ret (zaq rfl _ _ gb333 27 #[.int .i64 0,.int .i64 0,.slice none 0 0,.slice none 0 0,.int .i64 0,.int .i64 0] (0,0) _ rfl (hxq1p NB333_364.out BK333.out) Tryz.underlying27 rfl (by kernel_rfl)) rfl ?_
                 exact ⟨_,_,hHq,by first | exact Kd.S_nil _ _ _ _ _ | exact Kd.N_nil _ _ _ _ _ | exact Kd.V_nil _ _ _ _ _ | exact Kd.Q_nil _ _ _ _ _ | exact Kd.R_nil _ _ _ _ _,by first | exact Kd.R_nil _ _ _ _ _ | exact Kd.N_nil _ _ _ _ _ | exact Kd.V_nil _ _ _ _ _ | exact Kd.Q_nil _ _ _ _ _ | exact Kd.S_nil _ _ _ _ _,hCq⟩
               ·rw [if_neg c34] at H
                exact absurd H (by simp)
              ·rw [if_neg c33] at H
               have c33b0 : decide (x25_4 < (t340.length : Int)) = false := decide_eq_false c33
               clear c33
               replace H := Option.bind_eq_some_iff.mp H
               obtain ⟨t368,A610,H⟩ := H
               replace H : (if t368 = true then (some ((wrap64 (t334)),(wrap64 (t337)),x357002_4,t345,(wrap64 (t350)),(wrap64 (t353)),0)) else (some (0,0,([] : List (S73)),([] : List ByteArray),0,0,3))) = some (r1,r2,r3,r4,r5,r6,r7) := H
               have A61 := za.mk A610
               clear A610
               by_cases c62 : t368 = true
               ·subst c62
                have H1 : (some ((wrap64 (t334)),(wrap64 (t337)),x357002_4,t345,(wrap64 (t350)),(wrap64 (t353)),0)) = some (r1,r2,r3,r4,r5,r6,r7) := by rw [if_pos rfl] at H;exact H
                clear H
                have H := H1
                clear H1
                simp only [Option.some.injEq,Prod.mk.injEq] at H
                obtain ⟨rfl,rfl,rfl,rfl,rfl,rfl,rfl⟩ := H
                obtain ⟨Ao63,co63,eo63⟩ := Kd.R_slice HO_12.out
                subst eo63
                have hnb64 := NB356_333.out
                have hnc64 := NB333_356.out
                obtain ⟨hcz65_0,hcz65_1,hcz65_2,hcz65_3,hcz65_4,hcz65_5,hfz65_0,hfz65_1,hfz65_2,hfz65_3,hfz65_4,hfz65_5⟩ := hcq6 BK356.out
                obtain ⟨Ao66,co66,eo66⟩ := Kd.S_slice HO_357002.out
                subst eo66
                go_wp2_with (first | ((with_reducible refine zj (f := 43) rfl ?_);refine zQ (some 141) rfl rfl Tryz.func43 (by kernel_rfl) rfl #[.agg #[.int .i64 (wrap64 (t334)),.int .i64 (wrap64 (t337)),.slice Ao66 x357002_4.length co66,.slice Ao29 t345.length co29,.int .i64 (wrap64 (t350)),.int .i64 (wrap64 (t353))],.int .i64 a1] rfl hMq ?_;(with_reducible refine (zg.calls k4 (wrap64 (t334)) (wrap64 (t337)) _ _ x357002_4 _ _ t345 (wrap64 (t350)) (wrap64 (t353)) a1 true _ ?side1 ?side2 ?side3 ?side4 A61.out).mono ?_);(case side1 => repeat (first | exact (Kd.S_reads' HO_357002.out).2.2 | (with_reducible refine Kd.C_alloc ?_ _) | (with_reducible refine Kd.C_drewN ?_ _) | (with_reducible refine Kd.C_drew ?_)));(case side2 => exact (Kd.S_reads' HO_357002.out).2.1);(case side3 => repeat (first | exact (Kd.R_reads' HO_357003.out).2.2 | (with_reducible refine Kd.C_alloc ?_ _) | (with_reducible refine Kd.C_drewN ?_ _) | (with_reducible refine Kd.C_drew ?_)));(case side4 => exact (Kd.R_reads' HO_357003.out).2.1);rintro e w67 ⟨rfl,hb⟩;refine ⟨_,rfl,?_⟩;have n_ := haq (Kd.R_below (hRq HO_12.out) hb) <| haq (Kd.S_below (hSq HO_357002.out) hb) <| haq (Kd.R_below (hRq HO_357003.out) hb) <| haq (hbq BK333.out hb) <| haq (hbq BK356.out hb) <| haq (zd hCq hb) <| trivial;clear HO_12 HO_357002 HO_357003 BK333 BK356 HB;obtain ⟨HO_12,HO_357002,HO_357003,BK333,BK356,HB,_⟩ := n_;(try clear hb);(try clear hb2);(try clear hk);(try clear hi);obtain ⟨hcz68_0,hcz68_1,hcz68_2,hcz68_3,hcz68_4,hcz68_5,hfz68_0,hfz68_1,hfz68_2,hfz68_3,hfz68_4,hfz68_5⟩ := hcq6 BK356.out;obtain ⟨hcz69_0,hcz69_1,hcz69_2,hcz69_3,hcz69_4,hcz69_5,hfz69_0,hfz69_1,hfz69_2,hfz69_3,hfz69_4,hfz69_5⟩ := hcq6 BK333.out))
                refine bodyPost_ret (zaq rfl _ _ gb333 27 #[.int .i64 (wrap64 (t334)),.int .i64 (wrap64 (t337)),.slice Ao66 x357002_4.length co66,.slice Ao29 t345.length co29,.int .i64 (wrap64 (t350)),.int .i64 (wrap64 (t353))] (0,0) _ rfl (hxq0p BK333.out) Tryz.underlying27 rfl (by kernel_rfl)) rfl ?_
                exact ⟨_,_,hHq,by (with_reducible repeat (first | apply Kd.S_alloc | apply Kd.S_drewN | apply Kd.S_drew));exact Kd.S_mono (Kd.S_far (p := ⟨gb333,5,none⟩) (Kd.S_far (p := ⟨gb333,4,none⟩) (Kd.S_far (p := ⟨gb333,3,none⟩) (Kd.S_far (p := ⟨gb333,2,none⟩) (Kd.S_far (p := ⟨gb333,1,none⟩) (Kd.S_far (p := ⟨gb333,0,none⟩) (Kd.S_types HO_357002.out BK333.out (by decide)) (fun _ hk => hk.2) (.int .i64 (wrap64 (t334)))) (fun _ hk => hk.2) (.int .i64 (wrap64 (t337)))) (fun _ hk => hk.2) (.slice Ao66 x357002_4.length co66)) (fun _ hk => hk.2) (.slice Ao29 t345.length co29)) (fun _ hk => hk.2) (.int .i64 (wrap64 (t350)))) (fun _ hk => hk.2) (.int .i64 (wrap64 (t353)))) (fun _ hk => hk.1.2),by (with_reducible repeat (first | apply Kd.R_alloc | apply Kd.R_drewN | apply Kd.R_drew));exact Kd.R_mono (Kd.R_far (p := ⟨gb333,5,none⟩) (Kd.R_far (p := ⟨gb333,4,none⟩) (Kd.R_far (p := ⟨gb333,3,none⟩) (Kd.R_far (p := ⟨gb333,2,none⟩) (Kd.R_far (p := ⟨gb333,1,none⟩) (Kd.R_far (p := ⟨gb333,0,none⟩) (Kd.R_types HO_357003.out BK333.out (by decide)) (fun _ hk => hk.2) (.int .i64 (wrap64 (t334)))) (fun _ hk => hk.2) (.int .i64 (wrap64 (t337)))) (fun _ hk => hk.2) (.slice Ao66 x357002_4.length co66)) (fun _ hk => hk.2) (.slice Ao29 t345.length co29)) (fun _ hk => hk.2) (.int .i64 (wrap64 (t350)))) (fun _ hk => hk.2) (.int .i64 (wrap64 (t353)))) (fun _ hk => trivial),hCq⟩
               ·replace c62 := Bool.eq_false_iff.mpr c62
                subst c62
                have H1 : (some (0,0,([] : List (S73)),([] : List ByteArray),0,0,3)) = some (r1,r2,r3,r4,r5,r6,r7) := by rw [if_neg (show ¬ (false = true) by decide)] at H;exact H
                clear H
                have H := H1
                clear H1
                simp only [Option.some.injEq,Prod.mk.injEq] at H
                obtain ⟨rfl,rfl,rfl,rfl,rfl,rfl,rfl⟩ := H
                obtain ⟨Ao70,co70,eo70⟩ := Kd.R_slice HO_12.out
                subst eo70
                have hnb71 := NB356_333.out
                have hnc71 := NB333_356.out
                obtain ⟨hcz72_0,hcz72_1,hcz72_2,hcz72_3,hcz72_4,hcz72_5,hfz72_0,hfz72_1,hfz72_2,hfz72_3,hfz72_4,hfz72_5⟩ := hcq6 BK356.out
                obtain ⟨Ao73,co73,eo73⟩ := Kd.S_slice HO_357002.out
                subst eo73
                go_wp2_with (first | ((with_reducible refine zj (f := 43) rfl ?_);refine zQ (some 141) rfl rfl Tryz.func43 (by kernel_rfl) rfl #[.agg #[.int .i64 (wrap64 (t334)),.int .i64 (wrap64 (t337)),.slice Ao73 x357002_4.length co73,.slice Ao29 t345.length co29,.int .i64 (wrap64 (t350)),.int .i64 (wrap64 (t353))],.int .i64 a1] rfl hMq ?_;(with_reducible refine (zg.calls k4 (wrap64 (t334)) (wrap64 (t337)) _ _ x357002_4 _ _ t345 (wrap64 (t350)) (wrap64 (t353)) a1 false _ ?side1 ?side2 ?side3 ?side4 A61.out).mono ?_);(case side1 => repeat (first | exact (Kd.S_reads' HO_357002.out).2.2 | (with_reducible refine Kd.C_alloc ?_ _) | (with_reducible refine Kd.C_drewN ?_ _) | (with_reducible refine Kd.C_drew ?_)));(case side2 => exact (Kd.S_reads' HO_357002.out).2.1);(case side3 => repeat (first | exact (Kd.R_reads' HO_357003.out).2.2 | (with_reducible refine Kd.C_alloc ?_ _) | (with_reducible refine Kd.C_drewN ?_ _) | (with_reducible refine Kd.C_drew ?_)));(case side4 => exact (Kd.R_reads' HO_357003.out).2.1);rintro e w74 ⟨rfl,hb⟩;refine ⟨_,rfl,?_⟩;have n_ := haq (Kd.R_below (hRq HO_12.out) hb) <| haq (Kd.S_below (hSq HO_357002.out) hb) <| haq (Kd.R_below (hRq HO_357003.out) hb) <| haq (hbq BK333.out hb) <| haq (hbq BK356.out hb) <| haq (zd hCq hb) <| trivial;clear HO_12 HO_357002 HO_357003 BK333 BK356 HB;obtain ⟨HO_12,HO_357002,HO_357003,BK333,BK356,HB,_⟩ := n_;(try clear hb);(try clear hb2);(try clear hk);(try clear hi);obtain ⟨hcz75_0,hcz75_1,hcz75_2,hcz75_3,hcz75_4,hcz75_5,hfz75_0,hfz75_1,hfz75_2,hfz75_3,hfz75_4,hfz75_5⟩ := hcq6 BK333.out))
                refine bodyPost_ret (zaq rfl _ _ gb333 27 #[.int .i64 0,.int .i64 0,.slice none 0 0,.slice none 0 0,.int .i64 0,.int .i64 0] (0,0) _ rfl (hxq0p BK333.out) Tryz.underlying27 rfl (by kernel_rfl)) rfl ?_
                exact ⟨_,_,hHq,by first | exact Kd.S_nil _ _ _ _ _ | exact Kd.N_nil _ _ _ _ _ | exact Kd.V_nil _ _ _ _ _ | exact Kd.Q_nil _ _ _ _ _ | exact Kd.R_nil _ _ _ _ _,by first | exact Kd.R_nil _ _ _ _ _ | exact Kd.N_nil _ _ _ _ _ | exact Kd.V_nil _ _ _ _ _ | exact Kd.Q_nil _ _ _ _ _ | exact Kd.S_nil _ _ _ _ _,hCq⟩
     ·rw [if_neg c15] at H
      have c15b0 : (t347 == 0) = false := beq_eq_false_iff_ne.mpr c15
      have c15b1 : (t347 != 0) = true := bne_iff_ne.mpr c15
      simp only [Option.some.injEq,Prod.mk.injEq] at H
      obtain ⟨rfl,rfl,rfl,rfl,rfl,rfl,rfl⟩ := H
      go_wp2_with (first | ((with_reducible refine zj (f := 52) rfl ?_);refine zQ (some 58) rfl rfl Tryz.func52 (by kernel_rfl) rfl #[.string t338,.int .i64 4,.int .i64 400] rfl hMq ?_;(with_reducible refine (zu.calls kj4 t338 4 400 t340 t341 t342 _ A12.out).mono ?_);rintro e w76 ⟨v343,rfl,ho0,hb⟩;refine ⟨_,rfl,?_⟩;have n_ := haq (Kd.R_lower ho0 (ze hCq)) <| haq (hbq BK333.out hb) <| haq (zd hCq hb) <| trivial;clear BK333 HB;obtain ⟨HO344,BK333,HB,_⟩ := n_;(try clear hb);(try clear hb2);(try clear hk);(try clear hi);(try clear ho0)) | ((with_reducible refine zj (f := 52) rfl ?_);refine zQ (some 67) rfl rfl Tryz.func52 (by kernel_rfl) rfl #[.string t341,.int .i64 64,.int .i64 32] rfl hMq ?_;(with_reducible refine (zu.calls kj4 t341 64 32 t345 t346 t347 _ A14.out).mono ?_);rintro e w77 ⟨v348,rfl,ho0,hb⟩;refine ⟨_,rfl,?_⟩;have n_ := haq (Kd.R_elder' (hRq HO344.out) (Kd.R_base ho0) hb) <| haq (Kd.R_lower (Kd.R_new' ho0 (Kd.R_lt (hRq HO344.out))) (ze hCq)) <| haq (hbq BK333.out hb) <| haq (zd hCq hb) <| trivial;clear HO344 BK333 HB;obtain ⟨HO344,HO349,BK333,HB,_⟩ := n_;(try clear hb);(try clear hb2);(try clear hk);(try clear hi);(try clear ho0);obtain ⟨hcz78_0,hcz78_1,hcz78_2,hcz78_3,hcz78_4,hcz78_5,hfz78_0,hfz78_1,hfz78_2,hfz78_3,hfz78_4,hfz78_5⟩ := hcq6 BK333.out))
      refine bodyPost_ret (zaq rfl _ _ gb333 27 #[.int .i64 0,.int .i64 0,.slice none 0 0,.slice none 0 0,.int .i64 0,.int .i64 0] (0,0) _ rfl (hxq0p BK333.out) Tryz.underlying27 rfl (by kernel_rfl)) rfl ?_
      exact ⟨_,_,hHq,by first | exact Kd.S_nil _ _ _ _ _ | exact Kd.N_nil _ _ _ _ _ | exact Kd.V_nil _ _ _ _ _ | exact Kd.Q_nil _ _ _ _ _ | exact Kd.R_nil _ _ _ _ _,by first | exact Kd.R_nil _ _ _ _ _ | exact Kd.N_nil _ _ _ _ _ | exact Kd.V_nil _ _ _ _ _ | exact Kd.Q_nil _ _ _ _ _ | exact Kd.S_nil _ _ _ _ _,hCq⟩
    ·rw [if_neg c13] at H
     have c13b0 : (t342 == 0) = false := beq_eq_false_iff_ne.mpr c13
     have c13b1 : (t342 != 0) = true := bne_iff_ne.mpr c13
     simp only [Option.some.injEq,Prod.mk.injEq] at H
     obtain ⟨rfl,rfl,rfl,rfl,rfl,rfl,rfl⟩ := H
     go_wp2_with (first | ((with_reducible refine zj (f := 52) rfl ?_);refine zQ (some 58) rfl rfl Tryz.func52 (by kernel_rfl) rfl #[.string t338,.int .i64 4,.int .i64 400] rfl hMq ?_;(with_reducible refine (zu.calls kj4 t338 4 400 t340 t341 t342 _ A12.out).mono ?_);rintro e w79 ⟨v343,rfl,ho0,hb⟩;refine ⟨_,rfl,?_⟩;have n_ := haq (Kd.R_lower ho0 (ze hCq)) <| haq (hbq BK333.out hb) <| haq (zd hCq hb) <| trivial;clear BK333 HB;obtain ⟨HO344,BK333,HB,_⟩ := n_;(try clear hb);(try clear hb2);(try clear hk);(try clear hi);(try clear ho0);obtain ⟨hcz80_0,hcz80_1,hcz80_2,hcz80_3,hcz80_4,hcz80_5,hfz80_0,hfz80_1,hfz80_2,hfz80_3,hfz80_4,hfz80_5⟩ := hcq6 BK333.out))
     refine bodyPost_ret (zaq rfl _ _ gb333 27 #[.int .i64 0,.int .i64 0,.slice none 0 0,.slice none 0 0,.int .i64 0,.int .i64 0] (0,0) _ rfl (hxq0p BK333.out) Tryz.underlying27 rfl (by kernel_rfl)) rfl ?_
     exact ⟨_,_,hHq,by first | exact Kd.S_nil _ _ _ _ _ | exact Kd.N_nil _ _ _ _ _ | exact Kd.V_nil _ _ _ _ _ | exact Kd.Q_nil _ _ _ _ _ | exact Kd.R_nil _ _ _ _ _,by first | exact Kd.R_nil _ _ _ _ _ | exact Kd.N_nil _ _ _ _ _ | exact Kd.V_nil _ _ _ _ _ | exact Kd.Q_nil _ _ _ _ _ | exact Kd.S_nil _ _ _ _ _,hCq⟩
end Go.Proofs.YtfhbeonhnhjikaaGreat.Px