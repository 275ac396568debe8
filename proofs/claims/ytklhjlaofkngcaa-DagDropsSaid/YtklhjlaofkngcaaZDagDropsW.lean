/- Part 23 of 24 of the proof of the law DagDrops: what is proved is the statement at the end of the last part; its conditions are those of the given row. -/
import Derived.Test.YtklhjlaofkngcaaZDagDropsT
import Derived.Test.YtklhjlaofkngcaaZDagDropsV
namespace Go.Proofs.Ytklhjlaofkngcaa.Px
open Go.RowKit Go.Proofs.YtklhjlaofkngcaaW.PrintWords Go.Proofs.YtklhjlaofkngcaaW.PrintLast Go.Proofs.YtklhjlaofkngcaaW.PrintMore
attribute [local go_sem] zx zz zC zD zq zr zy zA
set_option linter.unusedVariables false
set_option linter.unusedSimpArgs false
mutual
def zf.j0 : Nat → Int → Int → Bool → Bool → Int → Int → List (S36) → Option (Bool)
 | 0,_,_,_,_,_,_,_ => none
 | k + 1,x1,x2,x7,x22,x419000,x419001,x419002 => if x22 = true then (some x7) else (if x2 > x1 then (zf.j1 k x1 x2 x2 x419000 x419001 x419002) else (zf.j1 k x1 x2 x1 x419000 x419001 x419002))
def zf.j1 : Nat → Int → Int → Int → Int → Int → List (S36) → Option (Bool)
 | 0,_,_,_,_,_,_ => none
 | k + 1,x1,x2,x9,x419000,x419001,x419002 => (zG.f x419000 x419001 x419002 x9).bind fun bt421 => ((zG.f x419000 x419001 x419002 x1).bind fun bt427 => ((zG.f bt427.1 bt427.2.1 bt427.2.2 x2).bind fun bt432 => ((zaj.f k bt432.1 bt432.2.1 bt432.2.2 bt421.1 bt421.2.1 bt421.2.2).bind fun t437 => (zf.l0 k x9 t437 0 0 x419000 x419001 x419002 bt421.1 bt421.2.1 bt421.2.2))))
def zf.l0 : Nat → Int → Bool → Int → Int → Int → Int → List (S36) → Int → Int → List (S36) → Option (Bool)
 | 0,_,_,_,_,_,_,_,_,_,_ => none
 | k + 1,x9,x11,x12,x13,x419000,x419001,x419002,x427000,x427001,x427002 => if x13 < (x419002.length : Int) then (if 0 ≤ x13 then (if ((ze x419002 x13).f1.f1) > x427001 then (zf.l0 k x9 x11 (wrap64 (x12 + 1)) (wrap64 (x13 + 1)) x419000 x419001 x419002 x427000 x427001 x427002) else (zf.l0 k x9 x11 x12 (wrap64 (x13 + 1)) x419000 x419001 x419002 x427000 x427001 x427002)) else (none)) else (if x11 = true then (if x9 ≤ x419001 then (some true) else (some ((x427002.length : Int) == x12))) else (some false))
end
def zf.f (k : Nat) (a0_0 : Int) (a0_1 : Int) (l0_2 : List (S36)) (a1 : Int) (a2 : Int) : Option (Bool) := (zak.f).bind fun t419 => ((zav.f a0_0 a0_1 l0_2).bind fun t420 => (if t419 = true then (zf.j0 k a1 a2 t419 (!t420) a0_0 a0_1 l0_2) else (zf.j0 k a1 a2 t419 true a0_0 a0_1 l0_2)))
def zf.T9 : Bool × List (List Nat × List Nat) := (true,[([],[]),([],[]),([0,1],[0,1]),([],[]),([2,3,2],[2,3]),([],[]),([4,5,4],[4,5]),([6,6,0,1,2,3,4,5,6],[6])])
def zf.B9 : List Nat := [0,0,3,0,15,0,63,127]
theorem zf.tab9 : zbv .any (zdA Try.f7 9) = zf.T9 := by kernel_rfl
theorem zf.bits9 : za9 zf.T9.2 zf.B9 = true := by kernel_rfl
def zf.T14 : Bool × List (List Nat × List Nat) := (true,[([],[]),([0],[0]),([],[]),([1,2],[1,2]),([3],[3]),([4],[4]),([5],[5]),([],[]),([7],[7]),([6,8],[6,8])])
def zf.B14 : List Nat := [0,1,0,7,15,31,63,0,128,511]
theorem zf.tab14 : zbv .any (zdA Try.f7 14) = zf.T14 := by kernel_rfl
theorem zf.bits14 : za9 zf.T14.2 zf.B14 = true := by kernel_rfl
set_option maxHeartbeats 8000000 in
set_option maxRecDepth 100000 in
theorem zf.calls (k : Nat) (a0_0 : Int) (a0_1 : Int) (A0_2 : Option Addr) (c0_2 : Nat) (l0_2 : List (S36)) (a1 : Int) (a2 : Int) (r : Bool) (w : World) (hr0_2 : Kd.C k36 w A0_2 l0_2.length l0_2) (hc0_2 : l0_2.length ≤ c0_2) (h : zf.f k a0_0 a0_1 l0_2 a1 a2 = some r) :
  Calls Try.prog 7 #[.agg #[.int .i64 a0_0,.int .i64 a0_1,.slice A0_2 l0_2.length c0_2],.int .i64 a1,.int .i64 a2] w fun e w' => e = .returned (.bool r) ∧ Below w.heap.size w w' := by
 have hu24 := Try.underlying24
 have HR0_2 := zb.mk hr0_2
 have HC0_2 := zb.mk hc0_2
 clear hr0_2 hc0_2
 have HB := zb.mk (Below.refl w.heap.size w)
 have H : ((zak.f).bind fun t419 => ((zav.f a0_0 a0_1 l0_2).bind fun t420 => (if t419 = true then (zf.j0 k a1 a2 t419 (!t420) a0_0 a0_1 l0_2) else (zf.j0 k a1 a2 t419 true a0_0 a0_1 l0_2)))) = some r := h
 clear h
 replace H := Option.bind_eq_some_iff.mp H
 obtain ⟨t419,A40,H⟩ := H
 replace H : ((zav.f a0_0 a0_1 l0_2).bind fun t420 => (if t419 = true then (zf.j0 k a1 a2 t419 (!t420) a0_0 a0_1 l0_2) else (zf.j0 k a1 a2 t419 true a0_0 a0_1 l0_2))) = some r := H
 have A4 := zb.mk A40
 clear A40
 replace H := Option.bind_eq_some_iff.mp H
 obtain ⟨t420,A50,H⟩ := H
 replace H : (if t419 = true then (zf.j0 k a1 a2 t419 (!t420) a0_0 a0_1 l0_2) else (zf.j0 k a1 a2 t419 true a0_0 a0_1 l0_2)) = some r := H
 have A5 := zb.mk A50
 clear A50
 have HC6 := zb.mk H
 clear H
 go_enter Try.func7,Try.ntmps7
 go_upto_region 3 with (first | ((with_reducible refine zw (N := 3) rfl ?_);(try (refine zb2 (by rfl) ?_;dsimp only));refine zt ?hg (N := 3) ?hd (cs := #[.int .i64 a0_0,.int .i64 a0_1,.slice A0_2 l0_2.length c0_2]) (t := 24) ?hr ?_;(case hd => rfl);(case hg => rfl);(case hr => first | (go_simp;done) | (go_simp;rfl));intro gb418 hg w7 hbox hb;have n_ := haq (zg hBq hb) <| haq (hbox) <| haq ((by rw [hg];exact (zo hBq) : w.heap.size ≤ gb418)) <| haq ((by rw [hg];exact (zo hBq) : w.heap.size ≤ gb418)) <| trivial;clear HB;obtain ⟨HB,BK418,GW418,GE418,_⟩ := n_;clear hb hbox hg) | ((with_reducible refine zK (f := 8) rfl ?_);refine zar (some 14) rfl rfl Try.func8 (by kernel_rfl) rfl #[] rfl hMq ?_;(with_reducible refine (zak.calls  t419 _ A4.out).mono ?_);rintro e w8 ⟨rfl,hb⟩;refine ⟨_,rfl,?_⟩;have n_ := haq (hbq BK418.out hb) <| haq (zg hCq hb) <| trivial;clear BK418 HB;obtain ⟨BK418,HB,_⟩ := n_;(try clear hb);(try clear hb2);(try clear hk);(try clear hi);obtain ⟨hcz9_0,hcz9_1,hcz9_2,hfz9_0,hfz9_1,hfz9_2⟩ := hcq3 BK418.out) | ((with_reducible refine zK (f := 9) rfl ?_);refine zar (some 16) rfl rfl Try.func9 (by kernel_rfl) rfl #[.agg #[.int .i64 a0_0,.int .i64 a0_1,.slice A0_2 l0_2.length c0_2]] rfl hMq ?_;(with_reducible refine (zav.calls a0_0 a0_1 _ _ l0_2 t420 _ ?side1 ?side2 A5.out).mono ?_);(case side1 => exact hKq (Kd.C_below HR0_2.out HB.out));(case side2 => exact HC0_2.out);rintro e w10 ⟨rfl,hb⟩;refine ⟨_,rfl,?_⟩;have n_ := haq (hbq BK418.out hb) <| haq (zg hCq hb) <| trivial;clear BK418 HB;obtain ⟨BK418,HB,_⟩ := n_;(try clear hb);(try clear hb2);(try clear hk);(try clear hi)))
 (try simp only [Act.put,List.setIfInBounds_toArray,List.set_cons_zero,List.set_cons_succ])
 go_cut [22] (fun v22 wc => ∃ (kq : Nat) (x22_5 : Bool),v22 = .bool x22_5 ∧ zb (zf.j0 kq a1 a2 t419 x22_5 a0_0 a0_1 l0_2 = some r) ∧ zb (kq ≤ k) ∧ zb (wc.heap[gb418]? = some (.cells #[.int .i64 a0_0,.int .i64 a0_1,(.slice A0_2 l0_2.length c0_2)] 24 (0,0))) ∧ zb (Below w.heap.size w wc))
 case first =>
  have H := HC6.out
  clear HC6
  by_cases c11 : t419 = true
  ·subst c11
   have H1 : (zf.j0 k a1 a2 true (!t420) a0_0 a0_1 l0_2) = some r := by rw [if_pos rfl] at H;exact H
   clear H
   have H := H1
   clear H1
   have H' := zb.mk H
   clear H
   go_wp2
   go_meet
   case rel => exact ⟨_,(!t420),(hDq),H',⟨by first | omega | exact Nat.le_refl _⟩,⟨hGq BK418.out⟩,⟨by repeat (first | (with_reducible first | exact HB.out | apply zn | apply zp | apply zE | refine zk ?_ GE418.out) | exact HB.out)⟩⟩
  ·replace c11 := Bool.eq_false_iff.mpr c11
   subst c11
   have H1 : (zf.j0 k a1 a2 false true a0_0 a0_1 l0_2) = some r := by rw [if_neg (show ¬ (false = true) by decide)] at H;exact H
   clear H
   have H := H1
   clear H1
   have H' := zb.mk H
   clear H
   go_wp2
   go_meet
   case rel => exact ⟨_,(true),(hDq),H',⟨by first | omega | exact Nat.le_refl _⟩,⟨hGq BK418.out⟩,⟨by repeat (first | (with_reducible first | exact HB.out | apply zn | apply zp | apply zE | refine zk ?_ GE418.out) | exact HB.out)⟩⟩
 case rest =>
  clear HC6
  try clear c1;try clear p2;try clear c7;try clear c8;try clear c9;try clear c11;try clear hcz9_0;try clear hcz9_1;try clear hcz9_2;try clear hfz9_0;try clear hfz9_1;try clear hfz9_2
  obtain ⟨kq,x22_5,rfl,HA,HJ5,BK418,HB⟩ := hcut
  cases kq with
  | zero => exact absurd HA.out (by simp [zf.j0])
  | succ kj5 =>
   have H := HA.out
   clear HA
   simp only [zf.j0] at H
   by_cases c12 : x22_5 = true
   ·subst c12
    have H1 : (some t419) = some r := by rw [if_pos rfl] at H;exact H
    clear H
    have H := H1
    clear H1
    obtain rfl := Option.some.inj H
    go_wp2
    go_ret
    exact ⟨hHq,hCq⟩
   ·replace c12 := Bool.eq_false_iff.mpr c12
    subst c12
    have H1 : (if a2 > a1 then (zf.j1 kj5 a1 a2 a2 a0_0 a0_1 l0_2) else (zf.j1 kj5 a1 a2 a1 a0_0 a0_1 l0_2)) = some r := by rw [if_neg (show ¬ (false = true) by decide)] at H;exact H
    clear H
    have H := H1
    clear H1
    have HC13 := zb.mk H
    clear H
    go_upto_if 27 with (fail)
    go_cut [9] (fun v9 wc => ∃ (kq : Nat) (x9_12 : Int),v9 = .int .i64 x9_12 ∧ zb (zf.j1 kq a1 a2 x9_12 a0_0 a0_1 l0_2 = some r) ∧ zb (kq ≤ kj5) ∧ zb (wc.heap[gb418]? = some (.cells #[.int .i64 a0_0,.int .i64 a0_1,(.slice A0_2 l0_2.length c0_2)] 24 (0,0))) ∧ zb (Below w.heap.size w wc))
    case first =>
     have H := HC13.out
     clear HC13
     by_cases c14 : a2 > a1
     ·rw [if_pos c14] at H
      have c14b0 : decide (a1 < a2) = true := decide_eq_true c14
      clear c14
      (first | rw [c14b0] | (simp only [zl,zm];rw [c14b0]) | skip)
      have H' := zb.mk H
      clear H
      go_wp2
      go_meet
      case rel => exact ⟨_,(a2),(hDq),H',⟨by have := HJ5.out;first | omega | exact Nat.le_refl _⟩,⟨hGq BK418.out⟩,⟨by repeat (first | (with_reducible first | exact HB.out | apply zn | apply zp | apply zE | refine zk ?_ GE418.out) | exact HB.out)⟩⟩
     ·rw [if_neg c14] at H
      have c14b0 : decide (a1 < a2) = false := decide_eq_false c14
      clear c14
      (first | rw [c14b0] | (simp only [zl,zm];rw [c14b0]) | skip)
      have H' := zb.mk H
      clear H
      go_wp2
      go_meet
      case rel => exact ⟨_,(a1),(hDq),H',⟨by have := HJ5.out;first | omega | exact Nat.le_refl _⟩,⟨hGq BK418.out⟩,⟨by repeat (first | (with_reducible first | exact HB.out | apply zn | apply zp | apply zE | refine zk ?_ GE418.out) | exact HB.out)⟩⟩
    case rest =>
     clear HC13
     try clear c1;try clear p2;try clear c7;try clear c8;try clear c9;try clear c11;try clear c12;try clear c14;try clear c14b0;try clear hcz9_0;try clear hcz9_1;try clear hcz9_2;try clear hfz9_0;try clear hfz9_1;try clear hfz9_2;try clear p2
     obtain ⟨kq,x9_12,rfl,HA,HJ12,BK418,HB⟩ := hcut
     cases kq with
     | zero => exact absurd HA.out (by simp [zf.j1])
     | succ kj12 =>
      have H := HA.out
      clear HA
      simp only [zf.j1] at H
      replace H := Option.bind_eq_some_iff.mp H
      obtain ⟨⟨t421,t422,t423⟩,A150,H⟩ := H
      replace H : ((zG.f a0_0 a0_1 l0_2 a1).bind fun bt427 => ((zG.f bt427.1 bt427.2.1 bt427.2.2 a2).bind fun bt432 => ((zaj.f kj12 bt432.1 bt432.2.1 bt432.2.2 t421 t422 t423).bind fun t437 => (zf.l0 kj12 x9_12 t437 0 0 a0_0 a0_1 l0_2 t421 t422 t423)))) = some r := H
      have A15 := zb.mk A150
      clear A150
      replace H := Option.bind_eq_some_iff.mp H
      obtain ⟨⟨t427,t428,t429⟩,A160,H⟩ := H
      replace H : ((zG.f t427 t428 t429 a2).bind fun bt432 => ((zaj.f kj12 bt432.1 bt432.2.1 bt432.2.2 t421 t422 t423).bind fun t437 => (zf.l0 kj12 x9_12 t437 0 0 a0_0 a0_1 l0_2 t421 t422 t423))) = some r := H
      have A16 := zb.mk A160
      clear A160
      replace H := Option.bind_eq_some_iff.mp H
      obtain ⟨⟨t432,t433,t434⟩,A170,H⟩ := H
      replace H : ((zaj.f kj12 t432 t433 t434 t421 t422 t423).bind fun t437 => (zf.l0 kj12 x9_12 t437 0 0 a0_0 a0_1 l0_2 t421 t422 t423)) = some r := H
      have A17 := zb.mk A170
      clear A170
      replace H := Option.bind_eq_some_iff.mp H
      obtain ⟨t437,A180,H⟩ := H
      replace H : (zf.l0 kj12 x9_12 t437 0 0 a0_0 a0_1 l0_2 t421 t422 t423) = some r := H
      have A18 := zb.mk A180
      clear A180
      have H' := zb.mk H
      clear H
      obtain ⟨hcz19_0,hcz19_1,hcz19_2,hfz19_0,hfz19_1,hfz19_2⟩ := hcq3 BK418.out
      try go_wp2_with (first | ((with_reducible refine zK (f := 24) rfl ?_);refine zar (some 31) rfl rfl Try.func24 (by kernel_rfl) rfl #[.agg #[.int .i64 a0_0,.int .i64 a0_1,.slice A0_2 l0_2.length c0_2],.int .i64 x9_12] rfl hMq ?_;(with_reducible refine (zG.calls a0_0 a0_1 (fun k_ => k_ < w.heap.size) _ _ l0_2 x9_12 t421 t422 t423 _ ?side1 A15.out).mono ?_);(case side1 => exact Kd.V_mk HC0_2.out (Kd.F_below (Kd.C_F zeb HR0_2.out) hCq));rintro e w20 ⟨v424,rfl,ho0,hb⟩;refine ⟨_,rfl,?_⟩;have n_ := haq (Kd.V_lower (Kd.V_mono (ok' := fun k_ => k_ ≠ gb418) ho0 (fun k_ hk_ => Or.elim hk_ (fun hs_ => fun e_ => Nat.not_le.2 hs_ (by rw [e_];exact GW418.out)) (fun hn_ => (Kd.freshB (g := gb418) (o := .cells #[.int .i64 a0_0,.int .i64 a0_1,.slice A0_2 l0_2.length c0_2] 24 (0,0)) (hGq BK418.out) k_ hn_)))) (zo hCq)) <| haq (hbq BK418.out hb) <| haq (zg hCq hb) <| trivial;clear BK418 HB;obtain ⟨HO425,BK418,HB,_⟩ := n_;(try clear hb);(try clear hb2);(try clear hk);(try clear hi);(try clear ho0)) | ((with_reducible refine zw (N := 10) rfl ?_);(try (refine zb2 (by rfl) ?_;dsimp only));refine zt ?hg (N := 10) ?hd (cs := #[.int .i64 0,.int .i64 0,.slice none 0 0]) (t := 24) ?hr ?_;(case hd => rfl);(case hg => rfl);(case hr => first | (go_simp;done) | (go_simp;rfl));intro gb426 hg w21 hbox hb;have n_ := haq (Kd.V_below (Kd.V_elderB (by (with_reducible repeat (first | apply Kd.V_alloc | apply Kd.V_drewN | apply Kd.V_drew));exact HO425.out) gb426 (Nat.le_of_eq hg.symm)) hb) <| haq (hbq BK418.out hb) <| haq (zg hCq hb) <| haq (hbox) <| haq ((by rw [hg];exact (zo hCq) : w.heap.size ≤ gb426)) <| haq ((by rw [hg];exact (zo hCq) : w.heap.size ≤ gb426)) <| haq (hnq hg BK418.out) <| haq (hmq hg BK418.out) <| trivial;clear HO425 BK418 HB;obtain ⟨HO425,BK418,HB,BK426,GW426,GE426,NB418_426,NB426_418,_⟩ := n_;clear hb hbox hg;have hnb22 := NB426_418.out;have hnc22 := NB418_426.out;obtain ⟨hcz23_0,hcz23_1,hcz23_2,hfz23_0,hfz23_1,hfz23_2⟩ := hcq3 BK426.out;obtain ⟨Ao24,co24,eo24⟩ := Kd.V_slice HO425.out;subst eo24))
      have n0_ : zb (Kd.V k36 36 (((w21.setCell ⟨gb426,0,none⟩ (.int .i64 t421)).setCell ⟨gb426,1,none⟩ (.int .i64 t422)).setCell ⟨gb426,2,none⟩ (.slice Ao24 t423.length co24)) w.heap.size (fun k_ => k_ ≠ gb418 ∧ k_ ≠ gb426) (.slice Ao24 t423.length co24) t423) := ⟨by (with_reducible repeat (first | apply Kd.V_alloc | apply Kd.V_drewN | apply Kd.V_drew));exact Kd.V_mono (Kd.V_far (p := ⟨gb426,2,none⟩) (Kd.V_far (p := ⟨gb426,1,none⟩) (Kd.V_far (p := ⟨gb426,0,none⟩) (Kd.V_mono HO425.out (fun k_ hk => (⟨hk,hk.2⟩ : _ ∧ k_ ≠ gb426))) (fun _ hk => hk.2) (.int .i64 t421)) (fun _ hk => hk.2) (.int .i64 t422)) (fun _ hk => hk.2) (.slice Ao24 t423.length co24)) (fun _ hk => ⟨hk.1.1,hk.1.2⟩)⟩
      have n1_ : zb ((((w21.setCell ⟨gb426,0,none⟩ (.int .i64 t421)).setCell ⟨gb426,1,none⟩ (.int .i64 t422)).setCell ⟨gb426,2,none⟩ (.slice Ao24 t423.length co24)).heap[gb418]? = some (.cells #[.int .i64 a0_0,.int .i64 a0_1,.slice A0_2 l0_2.length c0_2] 24 (0,0))) := ⟨hxq1 NB418_426.out BK418.out⟩
      have n2_ : zb ((((w21.setCell ⟨gb426,0,none⟩ (.int .i64 t421)).setCell ⟨gb426,1,none⟩ (.int .i64 t422)).setCell ⟨gb426,2,none⟩ (.slice Ao24 t423.length co24)).heap[gb426]? = some (.cells #[.int .i64 t421,.int .i64 t422,.slice Ao24 t423.length co24] 24 (0,0))) := ⟨hxq0p BK426.out⟩
      have n3_ : zb (Below w.heap.size w (((w21.setCell ⟨gb426,0,none⟩ (.int .i64 t421)).setCell ⟨gb426,1,none⟩ (.int .i64 t422)).setCell ⟨gb426,2,none⟩ (.slice Ao24 t423.length co24))) := ⟨by repeat (first | (with_reducible first | exact HB.out | apply zn | apply zp | apply zE | refine zk ?_ GE418.out | refine zk ?_ GE426.out) | exact HB.out)⟩
      (try clear HO425)
      (try clear BK418)
      (try clear BK426)
      (try clear HB)
      generalize (((w21.setCell ⟨gb426,0,none⟩ (.int .i64 t421)).setCell ⟨gb426,1,none⟩ (.int .i64 t422)).setCell ⟨gb426,2,none⟩ (.slice Ao24 t423.length co24)) = w25 at n0_ n1_ n2_ n3_ ⊢
      have HO425 := n0_
      have BK418 := n1_
      have BK426 := n2_
      have HB := n3_
      clear n0_ n1_ n2_ n3_
      have n0_ := zb.mk (Kd.V_drew HO425.out)
      have n1_ := zb.mk (zab BK418.out)
      have n2_ := zb.mk (zab BK426.out)
      have n3_ := zb.mk (zE HB.out)
      clear HO425
      clear BK418
      clear BK426
      clear HB
      have HO425 := n0_
      have BK418 := n1_
      have BK426 := n2_
      have HB := n3_
      clear n0_ n1_ n2_ n3_
      refine zbx (n := 8) (S := fun w' => w'.cell? ⟨gb418,0,none⟩ = some (.int .i64 a0_0) ∧ w'.cell? ⟨gb418,1,none⟩ = some (.int .i64 a0_1) ∧ w'.cell? ⟨gb418,2,none⟩ = some (.slice A0_2 l0_2.length c0_2) ∧ w'.cell? ⟨gb426,0,none⟩ = some (.int .i64 t421) ∧ w'.cell? ⟨gb426,1,none⟩ = some (.int .i64 t422) ∧ w'.cell? ⟨gb426,2,none⟩ = some (.slice Ao24 t423.length co24)) (ds := []) #[false,false,false,false,false,false,false,false] (by kernel_rfl) rfl rfl ⟨(za BK418.out 0).trans rfl,(za BK418.out 1).trans rfl,(za BK418.out 2).trans rfl,(za BK426.out 0).trans rfl,(za BK426.out 1).trans rfl,(za BK426.out 2).trans rfl⟩ (fun hHeld => ?_);refine zaA zf.tab9 zf.bits9 (fun HT_ HW_ => ?_)
      generalize w25.drew = w26 at HO425 BK418 BK426 HB hHeld ⊢
      refine zv (i := 1) (N := some 33) (v := ?_) (a' := ?_) #[false,true,false,false,false,false,false,false] rfl rfl (zj HT_.out (by kernel_rfl)) (fun _ _ _ h => h) (Or.inl ⟨by rfl,?_⟩) ?_ ?_
      rotate_left
      ·intro w'
       go_simp
       with_reducible rfl
      rotate_left
      ·simp only [Act.put,List.setIfInBounds_toArray,List.set_cons_zero,List.set_cons_succ,zl,zm]
       rfl
      refine zv (i := 3) (N := some 35) (v := ?_) (a' := ?_) #[false,true,false,true,false,false,false,false] rfl rfl (zj HT_.out (by kernel_rfl)) (fun _ _ _ h => h) (Or.inl ⟨by rfl,?_⟩) ?_ ?_
      rotate_left
      ·intro w'
       go_simp
       with_reducible rfl
      rotate_left
      ·simp only [Act.put,List.setIfInBounds_toArray,List.set_cons_zero,List.set_cons_succ,zl,zm]
       rfl
      refine take_ (i := 0) (N := some 32) (v := ?_) (a' := ?_) #[true,true,false,true,false,false,false,false] rfl rfl (zM HT_.out HW_.out (by kernel_rfl)) (fun _ _ _ h => h) (Or.inl ⟨by rfl,?_⟩) hHeld ?_ ?_
      rotate_left
      ·rintro w' ⟨s0,s1,s2,s3,s4,s5⟩
       go_simp
       with_reducible rfl
      rotate_left
      ·simp only [Act.put,List.setIfInBounds_toArray,List.set_cons_zero,List.set_cons_succ,zl,zm]
       rfl
      refine take_ (i := 5) (N := some 37) (v := ?_) (a' := ?_) #[true,true,false,true,false,true,false,false] rfl rfl (zM HT_.out HW_.out (by kernel_rfl)) (fun _ _ _ h => h) (Or.inl ⟨by rfl,?_⟩) hHeld ?_ ?_
      rotate_left
      ·rintro w' ⟨s0,s1,s2,s3,s4,s5⟩
       go_simp
       with_reducible rfl
      rotate_left
      ·simp only [Act.put,List.setIfInBounds_toArray,List.set_cons_zero,List.set_cons_succ,zl,zm]
       rfl
      refine zcU (i := 2) (N := some 34) #[true,true,true,true,false,true,false,false] rfl rfl (za5 HT_.out (by kernel_rfl)) (by decide) (fun K hK => ?_)
      refine zbT Try.func24 (by kernel_rfl) rfl #[.agg #[.int .i64 a0_0,.int .i64 a0_1,.slice A0_2 l0_2.length c0_2],.int .i64 a1] (by rfl) rfl rfl hMq ?_
      with_reducible refine (zG.calls a0_0 a0_1 (fun k_ => k_ < w.heap.size) _ _ l0_2 a1 t427 t428 t429 _ ?side1 A16.out).mono ?_
      (case side1 => exact Kd.V_mk HC0_2.out (Kd.F_below (Kd.C_F zeb HR0_2.out) hCq))
      rintro e w27 ⟨v430,rfl,ho0,hb⟩
      refine ⟨_,rfl,?_⟩
      have n0_ := zb.mk (Kd.V_below (by (with_reducible repeat (first | apply Kd.V_alloc | apply Kd.V_drewN | apply Kd.V_drew));exact HO425.out) hb)
      have n1_ := zb.mk (Kd.V_lower (Kd.V_mono (ok' := fun k_ => k_ ≠ gb418 ∧ k_ ≠ gb426) ho0 (fun k_ hk_ => ⟨Or.elim hk_ (fun hs_ => fun e_ => Nat.not_le.2 hs_ (by rw [e_];exact GW418.out)) (fun hn_ => (Kd.freshB (g := gb418) (o := .cells #[.int .i64 a0_0,.int .i64 a0_1,.slice A0_2 l0_2.length c0_2] 24 (0,0)) (hGq BK418.out) k_ hn_)),Or.elim hk_ (fun hs_ => fun e_ => Nat.not_le.2 hs_ (by rw [e_];exact GW426.out)) (fun hn_ => (Kd.freshB (g := gb426) (o := .cells #[.int .i64 t421,.int .i64 t422,.slice Ao24 t423.length co24] 24 (0,0)) (hGq BK426.out) k_ hn_))⟩)) (zo hCq))
      have n2_ := zb.mk (hbq BK418.out hb)
      have n3_ := zb.mk (hbq BK426.out hb)
      have n4_ := zb.mk (zg hCq hb)
      clear HO425
      clear BK418
      clear BK426
      clear HB
      have HO425 := n0_
      have HO431 := n1_
      have BK418 := n2_
      have BK426 := n3_
      have HB := n4_
      clear n0_ n1_ n2_ n3_ n4_
      (try clear hb)
      (try clear hb2)
      (try clear hk)
      (try clear hi)
      (try clear ho0)
      obtain ⟨Ao28,co28,eo28⟩ := Kd.V_slice HO431.out
      (first | subst eo28 | (injection eo28 with f1_ f2_ f3_;have f4_ := f1_.symm;have f5_ := f3_.symm;clear f1_ f2_ f3_;subst f4_;subst f5_))
      refine hK.out _ _ ⟨(za BK418.out 0).trans rfl,(za BK418.out 1).trans rfl,(za BK418.out 2).trans rfl,(za BK426.out 0).trans rfl,(za BK426.out 1).trans rfl,(za BK426.out 2).trans rfl⟩ (fun hHeld => ?_)
      clear hK K
      refine zbU (a' := ?_) ?_ ?_
      rotate_left
      ·show Act.put _ (some 34) _ = _
       simp only [Act.put,List.setIfInBounds_toArray,List.set_cons_zero,List.set_cons_succ,zl,zm]
       rfl
      refine zcU (i := 4) (N := some 36) #[true,true,true,true,true,true,false,false] rfl rfl (za5 HT_.out (by kernel_rfl)) (by decide) (fun K hK => ?_)
      refine zbT Try.func24 (by kernel_rfl) rfl #[.agg #[.int .i64 t427,.int .i64 t428,.slice Ao28 t429.length co28],.int .i64 a2] (by rfl) rfl rfl hMq ?_
      with_reducible refine (zG.calls t427 t428 (fun k_ => (k_ ≠ gb418 ∧ k_ ≠ gb426)) _ _ t429 a2 t432 t433 t434 _ ?side1 A17.out).mono ?_
      (case side1 => exact HO431.out)
      rintro e w29 ⟨v435,rfl,ho0,hb⟩
      refine ⟨_,rfl,?_⟩
      have n0_ := zb.mk (Kd.V_below (by (with_reducible repeat (first | apply Kd.V_alloc | apply Kd.V_drewN | apply Kd.V_drew));exact HO425.out) hb)
      have n1_ := zb.mk (Kd.V_below (by (with_reducible repeat (first | apply Kd.V_alloc | apply Kd.V_drewN | apply Kd.V_drew));exact HO431.out) hb)
      have n2_ := zb.mk (Kd.V_lower (Kd.V_mono (ok' := fun k_ => k_ ≠ gb418 ∧ k_ ≠ gb426) ho0 (fun k_ hk_ => ⟨Or.elim hk_ (fun hs_ => hs_.1) (fun hn_ => (Kd.freshB (g := gb418) (o := .cells #[.int .i64 a0_0,.int .i64 a0_1,.slice A0_2 l0_2.length c0_2] 24 (0,0)) (hGq BK418.out) k_ hn_)),Or.elim hk_ (fun hs_ => hs_.2) (fun hn_ => (Kd.freshB (g := gb426) (o := .cells #[.int .i64 t421,.int .i64 t422,.slice Ao24 t423.length co24] 24 (0,0)) (hGq BK426.out) k_ hn_))⟩)) (zo hCq))
      have n3_ := zb.mk (hbq BK418.out hb)
      have n4_ := zb.mk (hbq BK426.out hb)
      have n5_ := zb.mk (zg hCq hb)
      clear HO425
      clear HO431
      clear BK418
      clear BK426
      clear HB
      have HO425 := n0_
      have HO431 := n1_
      have HO436 := n2_
      have BK418 := n3_
      have BK426 := n4_
      have HB := n5_
      clear n0_ n1_ n2_ n3_ n4_ n5_
      (try clear hb)
      (try clear hb2)
      (try clear hk)
      (try clear hi)
      (try clear ho0)
      obtain ⟨Ao30,co30,eo30⟩ := Kd.V_slice HO436.out
      (first | subst eo30 | (injection eo30 with f1_ f2_ f3_;have f4_ := f1_.symm;have f5_ := f3_.symm;clear f1_ f2_ f3_;subst f4_;subst f5_))
      refine hK.out _ _ ⟨(za BK418.out 0).trans rfl,(za BK418.out 1).trans rfl,(za BK418.out 2).trans rfl,(za BK426.out 0).trans rfl,(za BK426.out 1).trans rfl,(za BK426.out 2).trans rfl⟩ (fun hHeld => ?_)
      clear hK K
      refine zbU (a' := ?_) ?_ ?_
      rotate_left
      ·show Act.put _ (some 36) _ = _
       simp only [Act.put,List.setIfInBounds_toArray,List.set_cons_zero,List.set_cons_succ,zl,zm]
       rfl
      refine zcU (i := 6) (N := some 38) #[true,true,true,true,true,true,true,false] rfl rfl (za5 HT_.out (by kernel_rfl)) (by decide) (fun K hK => ?_)
      refine zbT Try.func23 (by kernel_rfl) rfl #[.agg #[.int .i64 t432,.int .i64 t433,.slice Ao30 t434.length co30],.agg #[.int .i64 t421,.int .i64 t422,.slice Ao24 t423.length co24]] (by rfl) rfl rfl hMq ?_
      with_reducible refine (zaj.calls kj12 t432 t433 _ _ t434 t421 t422 _ _ t423 t437 _ ?side1 ?side2 ?side3 ?side4 A18.out).mono ?_
      (case side1 => repeat (first | exact (Kd.V_reads' HO436.out).2.2 | (with_reducible refine Kd.C_alloc ?_ _) | (with_reducible refine Kd.C_drewN ?_ _) | (with_reducible refine Kd.C_drew ?_)))
      (case side2 => exact (Kd.V_reads' HO436.out).2.1)
      (case side3 => repeat (first | exact (Kd.V_reads' HO425.out).2.2 | (with_reducible refine Kd.C_alloc ?_ _) | (with_reducible refine Kd.C_drewN ?_ _) | (with_reducible refine Kd.C_drew ?_)))
      (case side4 => exact (Kd.V_reads' HO425.out).2.1)
      rintro e w31 ⟨rfl,hb⟩
      refine ⟨_,rfl,?_⟩
      have n0_ := zb.mk (Kd.V_below (by (with_reducible repeat (first | apply Kd.V_alloc | apply Kd.V_drewN | apply Kd.V_drew));exact HO425.out) hb)
      have n1_ := zb.mk (Kd.V_below (by (with_reducible repeat (first | apply Kd.V_alloc | apply Kd.V_drewN | apply Kd.V_drew));exact HO431.out) hb)
      have n2_ := zb.mk (Kd.V_below (by (with_reducible repeat (first | apply Kd.V_alloc | apply Kd.V_drewN | apply Kd.V_drew));exact HO436.out) hb)
      have n3_ := zb.mk (hbq BK418.out hb)
      have n4_ := zb.mk (hbq BK426.out hb)
      have n5_ := zb.mk (zg hCq hb)
      clear HO425
      clear HO431
      clear HO436
      clear BK418
      clear BK426
      clear HB
      have HO425 := n0_
      have HO431 := n1_
      have HO436 := n2_
      have BK418 := n3_
      have BK426 := n4_
      have HB := n5_
      clear n0_ n1_ n2_ n3_ n4_ n5_
      (try clear hb)
      (try clear hb2)
      (try clear hk)
      (try clear hi)
      refine hK.out _ _ ⟨(za BK418.out 0).trans rfl,(za BK418.out 1).trans rfl,(za BK418.out 2).trans rfl,(za BK426.out 0).trans rfl,(za BK426.out 1).trans rfl,(za BK426.out 2).trans rfl⟩ (fun hHeld => ?_)
      clear hK K
      refine zbU (a' := ?_) ?_ ?_
      rotate_left
      ·show Act.put _ (some 38) _ = _
       simp only [Act.put,List.setIfInBounds_toArray,List.set_cons_zero,List.set_cons_succ,zl,zm]
       rfl
      refine zv (i := 7) (N := some 11) (v := ?_) (a' := ?_) #[true,true,true,true,true,true,true,true] rfl rfl (zj HT_.out (by kernel_rfl)) (fun _ _ _ h => h) (Or.inl ⟨by rfl,?_⟩) ?_ ?_
      rotate_left
      ·intro w'
       go_simp
       with_reducible rfl
      rotate_left
      ·simp only [Act.put,List.setIfInBounds_toArray,List.set_cons_zero,List.set_cons_succ,zl,zm]
       rfl
      refine zbi (zaz HT_.out (by kernel_rfl)) ?_
      try go_wp2
      go_loopg [12,13] kj12 (fun kq v12 v13 w' => ∃ (x12_3 : Int) (x13_3 : Int),v12 = .int .i64 x12_3 ∧ v13 = .int .i64 x13_3 ∧ zb (zf.l0 kq x9_12 t437 x12_3 x13_3 a0_0 a0_1 l0_2 t421 t422 t423 = some r) ∧ zb (kq ≤ kj12) ∧ zb (Kd.V k36 36 w' w.heap.size (fun k_ => k_ ≠ gb418 ∧ k_ ≠ gb426) (.slice Ao24 t423.length co24) t423) ∧ zb (w'.heap[gb418]? = some (.cells #[.int .i64 a0_0,.int .i64 a0_1,(.slice A0_2 l0_2.length c0_2)] 24 (0,0))) ∧ zb (w'.heap[gb426]? = some (.cells #[.int .i64 t421,.int .i64 t422,(.slice Ao24 t423.length co24)] 24 (0,0))) ∧ zb (Below w.heap.size w w'))
      case atStart => exact ⟨(0),(0),(hDq),(hDq),H',⟨Nat.le_refl _⟩,⟨by (with_reducible repeat (first | apply Kd.V_alloc | apply Kd.V_drewN | apply Kd.V_drew));exact HO425.out⟩,⟨hGq BK418.out⟩,⟨hGq BK426.out⟩,⟨by repeat (first | (with_reducible first | exact HB.out | apply zn | apply zp | apply zE | refine zk ?_ GE418.out | refine zk ?_ GE426.out) | exact HB.out)⟩⟩
      case round =>
       clear H'
       try clear c1;try clear c2;try clear p2;try clear c7;try clear c8;try clear c9;try clear c11;try clear c12;try clear c14;try clear c14b0;try clear c22;try clear c23;try clear c24;try clear hcz19_0;try clear hcz19_1;try clear hcz19_2;try clear hcz23_0;try clear hcz23_1;try clear hcz23_2;try clear hcz9_0;try clear hcz9_1;try clear hcz9_2;try clear hfz19_0;try clear hfz19_1;try clear hfz19_2;try clear hfz23_0;try clear hfz23_1;try clear hfz23_2;try clear hfz9_0;try clear hfz9_1;try clear hfz9_2;try clear p2
       obtain ⟨x12_3,x13_3,rfl,rfl,HA,HK3,HO_427002,BK418,BK426,HB⟩ := hrel
       cases gk with
       | zero => exact absurd HA.out (by simp [zf.l0])
       | succ k3 =>
        have H := HA.out
        clear HA
        simp only [zf.l0] at H
        by_cases c32 : x13_3 < (l0_2.length : Int)
        ·rw [if_pos c32] at H
         have c32b0 : decide (x13_3 < (l0_2.length : Int)) = true := decide_eq_true c32
         clear c32
         by_cases c33 : 0 ≤ x13_3
         ·rw [if_pos c33] at H
          have c33b0 : decide (0 ≤ x13_3) = true := decide_eq_true c33
          clear c33
          by_cases c34 : ((ze l0_2 x13_3).f1.f1) > t422
          ·rw [if_pos c34] at H
           have c34b0 : decide (t422 < ((ze l0_2 x13_3).f1.f1)) = true := decide_eq_true c34
           clear c34
           have H' := zb.mk H
           clear H
           have hnb35 := NB418_426.out
           have hnc35 := NB426_418.out
           obtain ⟨hcz36_0,hcz36_1,hcz36_2,hfz36_0,hfz36_1,hfz36_2⟩ := hcq3 BK418.out
           try go_wp2
           have n0_ := zb.mk (Kd.V_drew HO_427002.out)
           have n1_ := zb.mk (zab BK418.out)
           have n2_ := zb.mk (zab BK426.out)
           have n3_ := zb.mk (zE HB.out)
           clear HO_427002
           clear BK418
           clear BK426
           clear HB
           have HO_427002 := n0_
           have BK418 := n1_
           have BK426 := n2_
           have HB := n3_
           clear n0_ n1_ n2_ n3_
           have p438 : 0 ≤ (x13_3 : Int) := hFq
           have q438 : x13_3 < (l0_2.length : Int) := hFq
           obtain ⟨ad438,A438_3,c438_3,A438_4,c438_4,e438,hx438_0,hx438_1,hx438_2,hx438_3,hx438_4,hx438_5,hx438_6,hl438_3,hi438_3,hl438_4,hi438_4⟩ := zaD HR0_2.out x13_3 p438 q438
           have hw438_6 := hx438_6
           have hw438_5 := hx438_5
           have hw438_4 := hx438_4
           have hw438_3 := hx438_3
           have hw438_2 := hx438_2
           have hw438_1 := hx438_1
           have hw438_0 := hx438_0
           cases e438
           replace hx438_0 := (HB.out.cell (World.block_lt_of_cell? w _ hx438_0)).trans hx438_0
           replace hx438_1 := (HB.out.cell (World.block_lt_of_cell? w _ hx438_1)).trans hx438_1
           replace hx438_2 := (HB.out.cell (World.block_lt_of_cell? w _ hx438_2)).trans hx438_2
           replace hx438_3 := (HB.out.cell (World.block_lt_of_cell? w _ hx438_3)).trans hx438_3
           replace hx438_4 := (HB.out.cell (World.block_lt_of_cell? w _ hx438_4)).trans hx438_4
           replace hx438_5 := (HB.out.cell (World.block_lt_of_cell? w _ hx438_5)).trans hx438_5
           replace hx438_6 := (HB.out.cell (World.block_lt_of_cell? w _ hx438_6)).trans hx438_6
           have HR438_3 := zb.mk hi438_3
           have HC438_3 := zb.mk hl438_3
           clear hi438_3 hl438_3
           have HR438_4 := zb.mk hi438_4
           have HC438_4 := zb.mk hl438_4
           clear hi438_4 hl438_4
           replace p438 := eq_true p438
           replace q438 := eq_true q438
           refine zbx (n := 10) (S := fun w' => w'.cell? ⟨gb418,0,none⟩ = some (.int .i64 a0_0) ∧ w'.cell? ⟨gb418,1,none⟩ = some (.int .i64 a0_1) ∧ w'.cell? ⟨gb418,2,none⟩ = some (.slice (some ad438) l0_2.length c0_2) ∧ w'.cell? ⟨gb426,0,none⟩ = some (.int .i64 t421) ∧ w'.cell? ⟨gb426,1,none⟩ = some (.int .i64 t422) ∧ w'.cell? ⟨gb426,2,none⟩ = some (.slice Ao24 t423.length co24) ∧ w'.cell? (ad438.add ((x13_3).toNat * 7)) = some (.string ((ze l0_2 x13_3).f0)) ∧ w'.cell? ⟨(ad438.add ((x13_3).toNat * 7)).block,(ad438.add ((x13_3).toNat * 7)).off + 1,none⟩ = some (.int .i64 ((ze l0_2 x13_3).f1.f0)) ∧ w'.cell? ⟨(ad438.add ((x13_3).toNat * 7)).block,(ad438.add ((x13_3).toNat * 7)).off + 2,none⟩ = some (.int .i64 ((ze l0_2 x13_3).f1.f1)) ∧ w'.cell? ⟨(ad438.add ((x13_3).toNat * 7)).block,(ad438.add ((x13_3).toNat * 7)).off + 3,none⟩ = some (.slice A438_3 ((ze l0_2 x13_3).f1.f2).length c438_3) ∧ w'.cell? ⟨(ad438.add ((x13_3).toNat * 7)).block,(ad438.add ((x13_3).toNat * 7)).off + 4,none⟩ = some (.slice A438_4 ((ze l0_2 x13_3).f1.f3).length c438_4) ∧ w'.cell? ⟨(ad438.add ((x13_3).toNat * 7)).block,(ad438.add ((x13_3).toNat * 7)).off + 5,none⟩ = some (.int .i64 ((ze l0_2 x13_3).f1.f4.f0)) ∧ w'.cell? ⟨(ad438.add ((x13_3).toNat * 7)).block,(ad438.add ((x13_3).toNat * 7)).off + 6,none⟩ = some (.int .i64 ((ze l0_2 x13_3).f1.f4.f1))) (ds := []) #[false,false,false,false,false,false,false,false,false,false] (by kernel_rfl) rfl rfl ⟨(za BK418.out 0).trans rfl,(za BK418.out 1).trans rfl,(za BK418.out 2).trans rfl,(za BK426.out 0).trans rfl,(za BK426.out 1).trans rfl,(za BK426.out 2).trans rfl,((HB.out.cell (World.block_lt_of_cell? w _ hw438_0)).trans hw438_0),((HB.out.cell (World.block_lt_of_cell? w _ hw438_1)).trans hw438_1),((HB.out.cell (World.block_lt_of_cell? w _ hw438_2)).trans hw438_2),((HB.out.cell (World.block_lt_of_cell? w _ hw438_3)).trans hw438_3),((HB.out.cell (World.block_lt_of_cell? w _ hw438_4)).trans hw438_4),((HB.out.cell (World.block_lt_of_cell? w _ hw438_5)).trans hw438_5),((HB.out.cell (World.block_lt_of_cell? w _ hw438_6)).trans hw438_6)⟩ (fun hHeld => ?_);refine zaA zf.tab14 zf.bits14 (fun HT_ HW_ => ?_)
           generalize wr.drew = w37 at HO_427002 BK418 BK426 HB HR438_3 HR438_4 hx438_0 hx438_1 hx438_2 hx438_3 hx438_4 hx438_5 hx438_6 hHeld ⊢
           refine zv (i := 0) (N := some 46) (v := ?_) (a' := ?_) #[true,false,false,false,false,false,false,false,false,false] rfl rfl (zj HT_.out (by kernel_rfl)) (fun _ _ _ h => h) (Or.inl ⟨by rfl,?_⟩) ?_ ?_
           rotate_left
           ·intro w'
            go_simp
            with_reducible rfl
           rotate_left
           ·simp only [Act.put,List.setIfInBounds_toArray,List.set_cons_zero,List.set_cons_succ,zl,zm]
            rfl
           refine zv (i := 2) (N := some 48) (v := ?_) (a' := ?_) #[true,false,true,false,false,false,false,false,false,false] rfl rfl (zj HT_.out (by kernel_rfl)) (fun _ _ _ h => h) (Or.inl ⟨by rfl,?_⟩) ?_ ?_
           rotate_left
           ·intro w'
            go_simp
            with_reducible rfl
           rotate_left
           ·simp only [Act.put,List.setIfInBounds_toArray,List.set_cons_zero,List.set_cons_succ,zl,zm]
            rfl
           refine zv (i := 7) (N := some 53) (v := ?_) (a' := ?_) #[true,false,true,false,false,false,false,true,false,false] rfl rfl (zj HT_.out (by kernel_rfl)) (fun _ _ _ h => h) (Or.inl ⟨by rfl,?_⟩) ?_ ?_
           rotate_left
           ·intro w'
            go_simp
            with_reducible rfl
           rotate_left
           ·simp only [Act.put,List.setIfInBounds_toArray,List.set_cons_zero,List.set_cons_succ,zl,zm]
            rfl
           refine take_ (i := 1) (N := some 47) (v := ?_) (a' := ?_) #[true,true,true,false,false,false,false,true,false,false] rfl rfl (zM HT_.out HW_.out (by kernel_rfl)) (fun _ _ _ h => h) (Or.inl ⟨by rfl,?_⟩) hHeld ?_ ?_
           rotate_left
           ·rintro w' ⟨s0,s1,s2,s3,s4,s5,s6,s7,s8,s9,s10,s11,s12⟩
            go_simp
            with_reducible rfl
           rotate_left
           ·simp only [Act.put,List.setIfInBounds_toArray,List.set_cons_zero,List.set_cons_succ,zl,zm]
            rfl
           refine zv (i := 3) (N := some 49) (v := ?_) (a' := ?_) #[true,true,true,true,false,false,false,true,false,false] rfl rfl (zj HT_.out (by kernel_rfl)) (fun _ _ _ h => h) (Or.inl ⟨by rfl,?_⟩) ?_ ?_
           rotate_left
           ·intro w'
            go_simp
            with_reducible rfl
           rotate_left
           ·simp only [Act.put,List.setIfInBounds_toArray,List.set_cons_zero,List.set_cons_succ,zl,zm]
            rfl
           refine zv (i := 4) (N := some 50) (v := ?_) (a' := ?_) #[true,true,true,true,true,false,false,true,false,false] rfl rfl (zj HT_.out (by kernel_rfl)) (fun _ _ _ h => h) (Or.inl ⟨by rfl,?_⟩) ?_ ?_
           rotate_left
           ·intro w'
            go_simp
            with_reducible rfl
           rotate_left
           ·simp only [Act.put,List.setIfInBounds_toArray,List.set_cons_zero,List.set_cons_succ,zl,zm]
            rfl
           refine zv (i := 5) (N := some 51) (v := ?_) (a' := ?_) #[true,true,true,true,true,true,false,true,false,false] rfl rfl (zj HT_.out (by kernel_rfl)) (fun _ _ _ h => h) (Or.inl ⟨by rfl,?_⟩) ?_ ?_
           rotate_left
           ·intro w'
            go_simp
            with_reducible rfl
           rotate_left
           ·simp only [Act.put,List.setIfInBounds_toArray,List.set_cons_zero,List.set_cons_succ,zl,zm]
            rfl
           refine take_ (i := 6) (N := some 52) (v := ?_) (a' := ?_) #[true,true,true,true,true,true,true,true,false,false] rfl rfl (zM HT_.out HW_.out (by kernel_rfl)) (fun _ _ _ h => h) (Or.inl ⟨by rfl,?_⟩) hHeld ?_ ?_
           rotate_left
           ·rintro w' ⟨s0,s1,s2,s3,s4,s5,s6,s7,s8,s9,s10,s11,s12⟩
            go_simp
            with_reducible rfl
           rotate_left
           ·simp only [Act.put,List.setIfInBounds_toArray,List.set_cons_zero,List.set_cons_succ,zl,zm]
            rfl
           refine take_ (i := 8) (N := some 54) (v := ?_) (a' := ?_) #[true,true,true,true,true,true,true,true,true,false] rfl rfl (zM HT_.out HW_.out (by kernel_rfl)) (fun _ _ _ h => h) (Or.inl ⟨by rfl,?_⟩) hHeld ?_ ?_
           rotate_left
           ·rintro w' ⟨s0,s1,s2,s3,s4,s5,s6,s7,s8,s9,s10,s11,s12⟩
            go_simp
            with_reducible rfl
           rotate_left
           ·simp only [Act.put,List.setIfInBounds_toArray,List.set_cons_zero,List.set_cons_succ,zl,zm]
            rfl
           refine zv (i := 9) (N := some 55) (v := ?_) (a' := ?_) #[true,true,true,true,true,true,true,true,true,true] rfl rfl (zj HT_.out (by kernel_rfl)) (fun _ _ _ h => h) (Or.inl ⟨by rfl,?_⟩) ?_ ?_
           rotate_left
           ·intro w'
            go_simp
            with_reducible rfl
           rotate_left
           ·simp only [Act.put,List.setIfInBounds_toArray,List.set_cons_zero,List.set_cons_succ,zl,zm]
            rfl
           refine zbi (zaz HT_.out (by kernel_rfl)) ?_
           try go_wp2
           go_roundg k3
           case measure => have := HJ5.out;have := HJ12.out;have := HK3.out;omega
           case rel => exact ⟨(wrap64 (x12_3 + 1)),(wrap64 (x13_3 + 1)),(hDq),(hDq),H',⟨by have := HJ5.out;have := HJ12.out;have := HK3.out;omega⟩,⟨by (with_reducible repeat (first | apply Kd.V_alloc | apply Kd.V_drewN | apply Kd.V_drew));exact HO_427002.out⟩,⟨hGq BK418.out⟩,⟨hGq BK426.out⟩,⟨by repeat (first | (with_reducible first | exact HB.out | apply zn | apply zp | apply zE | refine zk ?_ GE418.out | refine zk ?_ GE426.out) | exact HB.out)⟩⟩
          ·rw [if_neg c34] at H
           have c34b0 : decide (t422 < ((ze l0_2 x13_3).f1.f1)) = false := decide_eq_false c34
           clear c34
           have H' := zb.mk H
           clear H
           have hnb38 := NB418_426.out
           have hnc38 := NB426_418.out
           obtain ⟨hcz39_0,hcz39_1,hcz39_2,hfz39_0,hfz39_1,hfz39_2⟩ := hcq3 BK418.out
           try go_wp2
           have n0_ := zb.mk (Kd.V_drew HO_427002.out)
           have n1_ := zb.mk (zab BK418.out)
           have n2_ := zb.mk (zab BK426.out)
           have n3_ := zb.mk (zE HB.out)
           clear HO_427002
           clear BK418
           clear BK426
           clear HB
           have HO_427002 := n0_
           have BK418 := n1_
           have BK426 := n2_
           have HB := n3_
           clear n0_ n1_ n2_ n3_
           have p438 : 0 ≤ (x13_3 : Int) := hFq
           have q438 : x13_3 < (l0_2.length : Int) := hFq
           obtain ⟨ad438,A438_3,c438_3,A438_4,c438_4,e438,hx438_0,hx438_1,hx438_2,hx438_3,hx438_4,hx438_5,hx438_6,hl438_3,hi438_3,hl438_4,hi438_4⟩ := zaD HR0_2.out x13_3 p438 q438
           have hw438_6 := hx438_6
           have hw438_5 := hx438_5
           have hw438_4 := hx438_4
           have hw438_3 := hx438_3
           have hw438_2 := hx438_2
           have hw438_1 := hx438_1
           have hw438_0 := hx438_0
           cases e438
           replace hx438_0 := (HB.out.cell (World.block_lt_of_cell? w _ hx438_0)).trans hx438_0
           replace hx438_1 := (HB.out.cell (World.block_lt_of_cell? w _ hx438_1)).trans hx438_1
           replace hx438_2 := (HB.out.cell (World.block_lt_of_cell? w _ hx438_2)).trans hx438_2
           replace hx438_3 := (HB.out.cell (World.block_lt_of_cell? w _ hx438_3)).trans hx438_3
           replace hx438_4 := (HB.out.cell (World.block_lt_of_cell? w _ hx438_4)).trans hx438_4
           replace hx438_5 := (HB.out.cell (World.block_lt_of_cell? w _ hx438_5)).trans hx438_5
           replace hx438_6 := (HB.out.cell (World.block_lt_of_cell? w _ hx438_6)).trans hx438_6
           have HR438_3 := zb.mk hi438_3
           have HC438_3 := zb.mk hl438_3
           clear hi438_3 hl438_3
           have HR438_4 := zb.mk hi438_4
           have HC438_4 := zb.mk hl438_4
           clear hi438_4 hl438_4
           replace p438 := eq_true p438
           replace q438 := eq_true q438
           refine zbx (n := 10) (S := fun w' => w'.cell? ⟨gb418,0,none⟩ = some (.int .i64 a0_0) ∧ w'.cell? ⟨gb418,1,none⟩ = some (.int .i64 a0_1) ∧ w'.cell? ⟨gb418,2,none⟩ = some (.slice (some ad438) l0_2.length c0_2) ∧ w'.cell? ⟨gb426,0,none⟩ = some (.int .i64 t421) ∧ w'.cell? ⟨gb426,1,none⟩ = some (.int .i64 t422) ∧ w'.cell? ⟨gb426,2,none⟩ = some (.slice Ao24 t423.length co24) ∧ w'.cell? (ad438.add ((x13_3).toNat * 7)) = some (.string ((ze l0_2 x13_3).f0)) ∧ w'.cell? ⟨(ad438.add ((x13_3).toNat * 7)).block,(ad438.add ((x13_3).toNat * 7)).off + 1,none⟩ = some (.int .i64 ((ze l0_2 x13_3).f1.f0)) ∧ w'.cell? ⟨(ad438.add ((x13_3).toNat * 7)).block,(ad438.add ((x13_3).toNat * 7)).off + 2,none⟩ = some (.int .i64 ((ze l0_2 x13_3).f1.f1)) ∧ w'.cell? ⟨(ad438.add ((x13_3).toNat * 7)).block,(ad438.add ((x13_3).toNat * 7)).off + 3,none⟩ = some (.slice A438_3 ((ze l0_2 x13_3).f1.f2).length c438_3) ∧ w'.cell? ⟨(ad438.add ((x13_3).toNat * 7)).block,(ad438.add ((x13_3).toNat * 7)).off + 4,none⟩ = some (.slice A438_4 ((ze l0_2 x13_3).f1.f3).length c438_4) ∧ w'.cell? ⟨(ad438.add ((x13_3).toNat * 7)).block,(ad438.add ((x13_3).toNat * 7)).off + 5,none⟩ = some (.int .i64 ((ze l0_2 x13_3).f1.f4.f0)) ∧ w'.cell? ⟨(ad438.add ((x13_3).toNat * 7)).block,(ad438.add ((x13_3).toNat * 7)).off + 6,none⟩ = some (.int .i64 ((ze l0_2 x13_3).f1.f4.f1))) (ds := []) #[false,false,false,false,false,false,false,false,false,false] (by kernel_rfl) rfl rfl ⟨(za BK418.out 0).trans rfl,(za BK418.out 1).trans rfl,(za BK418.out 2).trans rfl,(za BK426.out 0).trans rfl,(za BK426.out 1).trans rfl,(za BK426.out 2).trans rfl,((HB.out.cell (World.block_lt_of_cell? w _ hw438_0)).trans hw438_0),((HB.out.cell (World.block_lt_of_cell? w _ hw438_1)).trans hw438_1),((HB.out.cell (World.block_lt_of_cell? w _ hw438_2)).trans hw438_2),((HB.out.cell (World.block_lt_of_cell? w _ hw438_3)).trans hw438_3),((HB.out.cell (World.block_lt_of_cell? w _ hw438_4)).trans hw438_4),((HB.out.cell (World.block_lt_of_cell? w _ hw438_5)).trans hw438_5),((HB.out.cell (World.block_lt_of_cell? w _ hw438_6)).trans hw438_6)⟩ (fun hHeld => ?_);refine zaA zf.tab14 zf.bits14 (fun HT_ HW_ => ?_)
           generalize wr.drew = w40 at HO_427002 BK418 BK426 HB HR438_3 HR438_4 hx438_0 hx438_1 hx438_2 hx438_3 hx438_4 hx438_5 hx438_6 hHeld ⊢
           refine zv (i := 0) (N := some 46) (v := ?_) (a' := ?_) #[true,false,false,false,false,false,false,false,false,false] rfl rfl (zj HT_.out (by kernel_rfl)) (fun _ _ _ h => h) (Or.inl ⟨by rfl,?_⟩) ?_ ?_
           rotate_left
           ·intro w'
            go_simp
            with_reducible rfl
           rotate_left
           ·simp only [Act.put,List.setIfInBounds_toArray,List.set_cons_zero,List.set_cons_succ,zl,zm]
            rfl
           refine zv (i := 2) (N := some 48) (v := ?_) (a' := ?_) #[true,false,true,false,false,false,false,false,false,false] rfl rfl (zj HT_.out (by kernel_rfl)) (fun _ _ _ h => h) (Or.inl ⟨by rfl,?_⟩) ?_ ?_
           rotate_left
           ·intro w'
            go_simp
            with_reducible rfl
           rotate_left
           ·simp only [Act.put,List.setIfInBounds_toArray,List.set_cons_zero,List.set_cons_succ,zl,zm]
            rfl
           refine zv (i := 7) (N := some 53) (v := ?_) (a' := ?_) #[true,false,true,false,false,false,false,true,false,false] rfl rfl (zj HT_.out (by kernel_rfl)) (fun _ _ _ h => h) (Or.inl ⟨by rfl,?_⟩) ?_ ?_
           rotate_left
           ·intro w'
            go_simp
            with_reducible rfl
           rotate_left
           ·simp only [Act.put,List.setIfInBounds_toArray,List.set_cons_zero,List.set_cons_succ,zl,zm]
            rfl
           refine take_ (i := 1) (N := some 47) (v := ?_) (a' := ?_) #[true,true,true,false,false,false,false,true,false,false] rfl rfl (zM HT_.out HW_.out (by kernel_rfl)) (fun _ _ _ h => h) (Or.inl ⟨by rfl,?_⟩) hHeld ?_ ?_
           rotate_left
           ·rintro w' ⟨s0,s1,s2,s3,s4,s5,s6,s7,s8,s9,s10,s11,s12⟩
            go_simp
            with_reducible rfl
           rotate_left
           ·simp only [Act.put,List.setIfInBounds_toArray,List.set_cons_zero,List.set_cons_succ,zl,zm]
            rfl
           refine zv (i := 3) (N := some 49) (v := ?_) (a' := ?_) #[true,true,true,true,false,false,false,true,false,false] rfl rfl (zj HT_.out (by kernel_rfl)) (fun _ _ _ h => h) (Or.inl ⟨by rfl,?_⟩) ?_ ?_
           rotate_left
           ·intro w'
            go_simp
            with_reducible rfl
           rotate_left
           ·simp only [Act.put,List.setIfInBounds_toArray,List.set_cons_zero,List.set_cons_succ,zl,zm]
            rfl
           refine zv (i := 4) (N := some 50) (v := ?_) (a' := ?_) #[true,true,true,true,true,false,false,true,false,false] rfl rfl (zj HT_.out (by kernel_rfl)) (fun _ _ _ h => h) (Or.inl ⟨by rfl,?_⟩) ?_ ?_
           rotate_left
           ·intro w'
            go_simp
            with_reducible rfl
           rotate_left
           ·simp only [Act.put,List.setIfInBounds_toArray,List.set_cons_zero,List.set_cons_succ,zl,zm]
            rfl
           refine zv (i := 5) (N := some 51) (v := ?_) (a' := ?_) #[true,true,true,true,true,true,false,true,false,false] rfl rfl (zj HT_.out (by kernel_rfl)) (fun _ _ _ h => h) (Or.inl ⟨by rfl,?_⟩) ?_ ?_
           rotate_left
           ·intro w'
            go_simp
            with_reducible rfl
           rotate_left
           ·simp only [Act.put,List.setIfInBounds_toArray,List.set_cons_zero,List.set_cons_succ,zl,zm]
            rfl
           refine take_ (i := 6) (N := some 52) (v := ?_) (a' := ?_) #[true,true,true,true,true,true,true,true,false,false] rfl rfl (zM HT_.out HW_.out (by kernel_rfl)) (fun _ _ _ h => h) (Or.inl ⟨by rfl,?_⟩) hHeld ?_ ?_
           rotate_left
           ·rintro w' ⟨s0,s1,s2,s3,s4,s5,s6,s7,s8,s9,s10,s11,s12⟩
            go_simp
            with_reducible rfl
           rotate_left
           ·simp only [Act.put,List.setIfInBounds_toArray,List.set_cons_zero,List.set_cons_succ,zl,zm]
            rfl
           refine take_ (i := 8) (N := some 54) (v := ?_) (a' := ?_) #[true,true,true,true,true,true,true,true,true,false] rfl rfl (zM HT_.out HW_.out (by kernel_rfl)) (fun _ _ _ h => h) (Or.inl ⟨by rfl,?_⟩) hHeld ?_ ?_
           rotate_left
           ·rintro w' ⟨s0,s1,s2,s3,s4,s5,s6,s7,s8,s9,s10,s11,s12⟩
            go_simp
            with_reducible rfl
           rotate_left
           ·simp only [Act.put,List.setIfInBounds_toArray,List.set_cons_zero,List.set_cons_succ,zl,zm]
            rfl
           refine zv (i := 9) (N := some 55) (v := ?_) (a' := ?_) #[true,true,true,true,true,true,true,true,true,true] rfl rfl (zj HT_.out (by kernel_rfl)) (fun _ _ _ h => h) (Or.inl ⟨by rfl,?_⟩) ?_ ?_
           rotate_left
           ·intro w'
            go_simp
            with_reducible rfl
           rotate_left
           ·simp only [Act.put,List.setIfInBounds_toArray,List.set_cons_zero,List.set_cons_succ,zl,zm]
            rfl
           refine zbi (zaz HT_.out (by kernel_rfl)) ?_
           try go_wp2
           go_roundg k3
           case measure => have := HJ5.out;have := HJ12.out;have := HK3.out;omega
           case rel => exact ⟨(x12_3),(wrap64 (x13_3 + 1)),(hDq),(hDq),H',⟨by have := HJ5.out;have := HJ12.out;have := HK3.out;omega⟩,⟨by (with_reducible repeat (first | apply Kd.V_alloc | apply Kd.V_drewN | apply Kd.V_drew));exact HO_427002.out⟩,⟨hGq BK418.out⟩,⟨hGq BK426.out⟩,⟨by repeat (first | (with_reducible first | exact HB.out | apply zn | apply zp | apply zE | refine zk ?_ GE418.out | refine zk ?_ GE426.out) | exact HB.out)⟩⟩
         ·rw [if_neg c33] at H
          exact absurd H (by simp)
        ·rw [if_neg c32] at H
         have c32b0 : decide (x13_3 < (l0_2.length : Int)) = false := decide_eq_false c32
         clear c32
         by_cases c41 : t437 = true
         ·subst c41
          have H1 : (if x9_12 ≤ a0_1 then (some true) else (some ((t423.length : Int) == x12_3))) = some r := by rw [if_pos rfl] at H;exact H
          clear H
          have H := H1
          clear H1
          by_cases c42 : x9_12 ≤ a0_1
          ·rw [if_pos c42] at H
           have c42b0 : decide (x9_12 ≤ a0_1) = true := decide_eq_true c42
           clear c42
           obtain rfl := Option.some.inj H
           have hnb43 := NB418_426.out
           have hnc43 := NB426_418.out
           obtain ⟨hcz44_0,hcz44_1,hcz44_2,hfz44_0,hfz44_1,hfz44_2⟩ := hcq3 BK418.out
           go_wp2
           go_ret
           exact ⟨hHq,hCq⟩
          ·rw [if_neg c42] at H
           have c42b0 : decide (x9_12 ≤ a0_1) = false := decide_eq_false c42
           clear c42
           obtain rfl := Option.some.inj H
           have hnb45 := NB418_426.out
           have hnc45 := NB426_418.out
           obtain ⟨hcz46_0,hcz46_1,hcz46_2,hfz46_0,hfz46_1,hfz46_2⟩ := hcq3 BK418.out
           obtain ⟨hcz47_0,hcz47_1,hcz47_2,hfz47_0,hfz47_1,hfz47_2⟩ := hcq3 BK426.out
           go_wp2
           go_ret
           exact ⟨hHq,hCq⟩
         ·replace c41 := Bool.eq_false_iff.mpr c41
          subst c41
          have H1 : (some false) = some r := by rw [if_neg (show ¬ (false = true) by decide)] at H;exact H
          clear H
          have H := H1
          clear H1
          obtain rfl := Option.some.inj H
          have hnb48 := NB418_426.out
          have hnc48 := NB426_418.out
          obtain ⟨hcz49_0,hcz49_1,hcz49_2,hfz49_0,hfz49_1,hfz49_2⟩ := hcq3 BK418.out
          go_wp2
          go_ret
          exact ⟨hHq,hCq⟩
end Go.Proofs.Ytklhjlaofkngcaa.Px