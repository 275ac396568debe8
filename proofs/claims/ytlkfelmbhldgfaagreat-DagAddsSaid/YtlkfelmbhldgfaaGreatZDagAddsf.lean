/- Part 32 of 36 of the proof of the law DagAdds: what is proved is the statement at the end of the last part; its conditions are those of the given row. -/
import Derived.Test.YtlkfelmbhldgfaaGreatZDagAddsZ
import Derived.Test.YtlkfelmbhldgfaaGreatZDagAddsa
import Derived.Test.YtlkfelmbhldgfaaGreatZDagAddsc
import Derived.Test.YtlkfelmbhldgfaaGreatZDagAddsd
import Derived.Test.YtlkfelmbhldgfaaGreatZDagAddse
namespace Go.Proofs.YtlkfelmbhldgfaaGreat.Px
open Go.RowKit Go.Proofs.YtlkfelmbhldgfaaGreatW.PrintWords Go.Proofs.YtlkfelmbhldgfaaGreatW.PrintLast Go.Proofs.YtlkfelmbhldgfaaGreatW.PrintMore
attribute [local go_sem] zA zC zH zI zv zw zB zD
set_option linter.unusedVariables false
set_option linter.unusedSimpArgs false
def zV.f (k : Nat) (a0_0 : Int) (a0_1 : Int) (l0_2 : List (S42)) (a1_0 : Int) (a1_1 : Int) (l1_2 : List (S42)) : Option (Bool) := (zp.f k l0_2 l1_2).bind fun t251 => (if t251 = true then (if a0_0 = a1_0 then (some (a0_1 == a1_1)) else (some false)) else (some false))
set_option maxHeartbeats 8000000 in
set_option maxRecDepth 100000 in
theorem zV.calls (k : Nat) (a0_0 : Int) (a0_1 : Int) (A0_2 : Option Addr) (c0_2 : Nat) (l0_2 : List (S42)) (a1_0 : Int) (a1_1 : Int) (A1_2 : Option Addr) (c1_2 : Nat) (l1_2 : List (S42)) (r : Bool) (w : World) (hr0_2 : Kd.C k42 w A0_2 l0_2.length l0_2) (hc0_2 : l0_2.length ≤ c0_2) (hr1_2 : Kd.C k42 w A1_2 l1_2.length l1_2) (hc1_2 : l1_2.length ≤ c1_2) (h : zV.f k a0_0 a0_1 l0_2 a1_0 a1_1 l1_2 = some r) :
  Calls Tryz.prog 8 #[.agg #[.int .i64 a0_0,.int .i64 a0_1,.slice A0_2 l0_2.length c0_2],.agg #[.int .i64 a1_0,.int .i64 a1_1,.slice A1_2 l1_2.length c1_2]] w fun e w' => e = .returned (.bool r) ∧ Below w.heap.size w w' := by
 have hu24 := Tryz.underlying24
 have HR0_2 := za.mk hr0_2
 have HC0_2 := za.mk hc0_2
 clear hr0_2 hc0_2
 have HR1_2 := za.mk hr1_2
 have HC1_2 := za.mk hc1_2
 clear hr1_2 hc1_2
 have HB := za.mk (Below.refl w.heap.size w)
 have H : ((zp.f k l0_2 l1_2).bind fun t251 => (if t251 = true then (if a0_0 = a1_0 then (some (a0_1 == a1_1)) else (some false)) else (some false))) = some r := h
 clear h
 replace H := Option.bind_eq_some_iff.mp H
 obtain ⟨t251,A30,H⟩ := H
 replace H : (if t251 = true then (if a0_0 = a1_0 then (some (a0_1 == a1_1)) else (some false)) else (some false)) = some r := H
 have A3 := za.mk A30
 clear A30
 by_cases c4 : t251 = true
 focus
  subst c4
  have H1 : (if a0_0 = a1_0 then (some (a0_1 == a1_1)) else (some false)) = some r := by rw [if_pos rfl] at H;exact H
  clear H
  have H := H1
  clear H1
  by_cases c5 : a0_0 = a1_0
  focus
   rw [if_pos c5] at H
   have c5b0 : (a0_0 == a1_0) = true := beq_iff_eq.mpr c5
   have c5b1 : (a0_0 != a1_0) = false := bne_eq_false_iff_eq.mpr c5
   clear c5
   obtain rfl := Option.some.inj H
   have EQ0 := True.intro
  rotate_left
  focus
   rw [if_neg c5] at H
   have c5b0 : (a0_0 == a1_0) = false := beq_eq_false_iff_ne.mpr c5
   have c5b1 : (a0_0 != a1_0) = true := bne_iff_ne.mpr c5
   obtain rfl := Option.some.inj H
   have EQ0 := True.intro
 rotate_left 2
 focus
  replace c4 := Bool.eq_false_iff.mpr c4
  subst c4
  have H1 : (some false) = some r := by rw [if_neg (show ¬ (false = true) by decide)] at H;exact H
  clear H
  have H := H1
  clear H1
  obtain rfl := Option.some.inj H
  have EQ1 := True.intro
 all_goals
  go_enter Tryz.func8,Tryz.ntmps8
  go_wp2_with (first | ((with_reducible refine zn (N := 2) rfl ?_);refine zl rfl (N := 2) rfl (cs := #[.int .i64 a0_0,.int .i64 a0_1,.slice A0_2 l0_2.length c0_2]) (t := 24) hrq ?_;intro gb249 hg wQN22 hbox hb;have n_ := haq (ze hBq hb) <| haq (hbox) <| haq ((by rw [hg];exact (zg hBq) : w.heap.size ≤ gb249)) <| haq ((by rw [hg];exact (zg hBq) : w.heap.size ≤ gb249)) <| trivial;clear HB;obtain ⟨HB,BK249,GW249,GE249,_⟩ := n_;clear hb hbox hg) | ((with_reducible refine zn (N := 3) rfl ?_);refine zl rfl (N := 3) rfl (cs := #[.int .i64 a1_0,.int .i64 a1_1,.slice A1_2 l1_2.length c1_2]) (t := 24) hrq ?_;intro gb250 hg wQN32 hbox hb;have n_ := haq (hbq BK249.out hb) <| haq (ze hCq hb) <| haq (hbox) <| haq ((by rw [hg];exact (zg hCq) : w.heap.size ≤ gb250)) <| haq ((by rw [hg];exact (zg hCq) : w.heap.size ≤ gb250)) <| haq (hnq hg BK249.out) <| haq (hmq hg BK249.out) <| trivial;clear BK249 HB;obtain ⟨BK249,HB,BK250,GW250,GE250,NBQN37,NBQN38,_⟩ := n_;clear hb hbox hg;have hnbQN39 := NBQN37.out;have hncQN310 := NBQN38.out;obtain ⟨hczQN311,hczQN312,hczQN313,hfzQN314,hfzQN315,hfzQN316⟩ := hcq3 BK249.out;obtain ⟨hczQN317,hczQN318,hczQN319,hfzQN320,hfzQN321,hfzQN322⟩ := hcq3 BK250.out) | (have _ := EQ0;((with_reducible refine zL (f := 26) rfl ?_);refine zaq (some 10) rfl rfl Tryz.func26 (by kernel_rfl) rfl #[.slice A0_2 l0_2.length c0_2,.slice A1_2 l1_2.length c1_2] rfl hMq ?_;(with_reducible refine (zp.calls k _ _ l0_2 _ _ l1_2 true _ ?side1 ?side2 ?side3 ?side4 A3.out).mono ?_);(case side1 => exact hKq (Kd.C_below HR0_2.out HB.out));(case side2 => exact HC0_2.out);(case side3 => exact hKq (Kd.C_below HR1_2.out HB.out));(case side4 => exact HC1_2.out);rintro e wQF26A31 ⟨rfl,hb⟩;refine ⟨_,rfl,?_⟩;have n_ := haq (hbq BK249.out hb) <| haq (hbq BK250.out hb) <| haq (ze hCq hb) <| trivial;clear BK249 BK250 HB;obtain ⟨BK249,BK250,HB,_⟩ := n_;(try clear hb);(try clear hb2);(try clear hk);(try clear hi);obtain ⟨hczQF26A34,hczQF26A35,hczQF26A36,hfzQF26A37,hfzQF26A38,hfzQF26A39⟩ := hcq3 BK249.out;obtain ⟨hczQF26A310,hczQF26A311,hczQF26A312,hfzQF26A313,hfzQF26A314,hfzQF26A315⟩ := hcq3 BK250.out)) | (have _ := EQ1;((with_reducible refine zL (f := 26) rfl ?_);refine zaq (some 10) rfl rfl Tryz.func26 (by kernel_rfl) rfl #[.slice A0_2 l0_2.length c0_2,.slice A1_2 l1_2.length c1_2] rfl hMq ?_;(with_reducible refine (zp.calls k _ _ l0_2 _ _ l1_2 false _ ?side1 ?side2 ?side3 ?side4 A3.out).mono ?_);(case side1 => exact hKq (Kd.C_below HR0_2.out HB.out));(case side2 => exact HC0_2.out);(case side3 => exact hKq (Kd.C_below HR1_2.out HB.out));(case side4 => exact HC1_2.out);rintro e wQF26A31 ⟨rfl,hb⟩;refine ⟨_,rfl,?_⟩;have n_ := haq (hbq BK249.out hb) <| haq (hbq BK250.out hb) <| haq (ze hCq hb) <| trivial;clear BK249 BK250 HB;obtain ⟨BK249,BK250,HB,_⟩ := n_;(try clear hb);(try clear hb2);(try clear hk);(try clear hi))))
  go_ret
  exact ⟨hHq,hCq⟩
theorem zct (l : List Ent) (j : Nat) (h : j < l.length) : zd l (j : Int) = l[j] := by
 rw [zd,Int.toNat_natCast,List.getD_eq_getElem?_getD,List.getElem?_eq_getElem h];rfl
structure zhR (x : Ent) : Prop where
 bs : x.f1.f2.length < 4611686018427387904
 tx : ∀ b ∈ x.f1.f2,b.f2.length < 4611686018427387904
 ps : x.f1.f3.length ≤ 8796093022208
 t : ∀ t ∈ x.f1.f3,t.size < 4611686018427387904
instance decEnt : DecidableEq Ent := fun a b => decidable_of_iff (a.f0 = b.f0 ∧ zds a.f1.f0 a.f1.f1 a.f1.f2 a.f1.f3 a.f1.f4.f0 a.f1.f4.f1 b.f1.f0 b.f1.f1 b.f1.f2 b.f1.f3 b.f1.f4.f0 b.f1.f4.f1 = true) ⟨fun ⟨h0,h1⟩ => by
  rw [zcP] at h1
  obtain ⟨a0,⟨a1,a2,a3,a4,⟨a5,a6⟩⟩⟩ := a;obtain ⟨b0,⟨b1,b2,b3,b4,⟨b5,b6⟩⟩⟩ := b
  simp only at h0 h1
  obtain ⟨rfl,rfl,rfl,rfl,rfl,rfl⟩ := h1
  rw [h0],fun h => by rw [h,zcP];exact ⟨rfl,rfl,rfl,rfl,rfl,rfl,rfl⟩⟩
theorem zfn (a b : List Ent) (hl : a.length = b.length) (ha : a.length < 4611686018427387904) (hs : ∀ x ∈ a,zhR x) (d : Nat) : ∀ j,j + d = a.length →
  Ev (fun k => zp.l0 k a b (j : Int)) (decide (a.drop j = b.drop j)) := by
 induction d with
 | zero =>
  intro j hj
  refine Ev.step (fun k => by rw [zp.l0]) ?_
  refine zT (by omega) (zac (Ev.now _) ?_)
  rw [List.drop_eq_nil_of_le (by omega),List.drop_eq_nil_of_le (by omega)];rfl
 | succ d ih =>
  intro j hj
  refine Ev.step (fun k => by rw [zp.l0]) ?_
  have h1 : j < a.length := by omega
  have h2 : j < b.length := by omega
  refine zF (by omega) (zF (by omega) (zF (by omega) ?_))
  have hf := hs _ (List.getElem_mem h1)
  have hps := hf.ps
  rw [zct a j h1,zct b j h2,List.drop_eq_getElem_cons h1,List.drop_eq_getElem_cons h2,zaf (by omega) (by omega)]
  refine Ev.bind (ze1 _ _ _ _ _ _ _ _ _ _ _ _ hf.bs hf.tx (by omega)) ?_
  by_cases h : a[j] = b[j]
  ·refine zF (by rw [h,zcP];exact ⟨rfl,rfl,rfl,rfl,rfl,rfl⟩) (zF (by rw [h]) (zac (ih (j + 1) (by omega)) ?_))
   rw [h];exact decide_eq_decide.2 ⟨fun h => by rw [h],fun h => (List.cons.inj h).2⟩
  ·have hno : decide (a[j] :: a.drop (j + 1) = b[j] :: b.drop (j + 1)) = false := decide_eq_false (fun e => h (List.cons.inj e).1)
   rw [hno]
   by_cases hv : zds a[j].f1.f0 a[j].f1.f1 a[j].f1.f2 a[j].f1.f3 a[j].f1.f4.f0 a[j].f1.f4.f1 b[j].f1.f0 b[j].f1.f1 b[j].f1.f2 b[j].f1.f3 b[j].f1.f4.f0 b[j].f1.f4.f1 = true
   ·refine zF hv (zT (fun e => h ?_) (Ev.now _))
    rw [zb3] at e
    rw [zcP] at hv
    generalize a[j] = p at *
    generalize b[j] = q at *
    obtain ⟨a0,⟨a1,a2,a3,a4,⟨a5,a6⟩⟩⟩ := p;obtain ⟨b0,⟨b1,b2,b3,b4,⟨b5,b6⟩⟩⟩ := q
    simp only at e hv
    obtain ⟨rfl,rfl,rfl,rfl,rfl,rfl⟩ := hv
    rw [e]
   ·exact zT hv (Ev.now _)
theorem zgl (a b : List Ent) (ha : a.length < 4611686018427387904) (hs : ∀ x ∈ a,zhR x) : Ev (fun k => zp.f k a b) (decide (a = b)) := by
 by_cases h : a.length = b.length
 ·exact zF (by omega) (zfn a b h ha hs a.length 0 (by omega))
 ·refine zT (by omega) (zac (Ev.now _) ?_)
  have : ¬ a = b := fun e => h (by rw [e])
  simp [this]
theorem zed (n lo : Int) (L : List Ent) (n' lo' : Int) (M : List Ent) (ha : L.length < 4611686018427387904) (hs : ∀ x ∈ L,zhR x) : Ev (fun k => zV.f k n lo L n' lo' M) (decide (L = M ∧ n = n' ∧ lo = lo')) := by
 refine Ev.bind (zgl L M ha hs) ?_
 by_cases h1 : L = M
 ·refine zF (decide_eq_true h1) ?_
  by_cases h2 : n = n'
  ·refine zF h2 (zac (Ev.now _) ?_)
   by_cases h3 : lo = lo' <;> simp [h1,h2,h3]
  ·exact zT h2 (zac (Ev.now _) (by simp [h2]))
 ·exact zT (by simp [h1]) (zac (Ev.now _) (by simp [h1]))
theorem zgn (n lo r : Int) (L : List Ent) (hL : L.length < 1466015503701) (d : Nat) : ∀ (j : Nat) (acc : List Ent),j + d = L.length → acc.length ≤ j →
  Ev (fun k => zR.l0 k r acc (j : Int) n lo L) (acc ++ zdA (L.drop j) r) := by
 induction d with
 | zero =>
  intro j acc hj _
  refine Ev.step (fun k => by rw [zR.l0]) ?_
  refine zT (by omega) (zac (Ev.now _) ?_)
  rw [List.drop_eq_nil_of_le (by omega)];simp [zdA]
 | succ d ih =>
  intro j acc hj ha
  refine Ev.step (fun k => by rw [zR.l0]) ?_
  have h1 : j < L.length := by omega
  refine zF (by omega) (zF (by omega) ?_)
  rw [zct L j h1,zaf (by omega) (by omega),List.drop_eq_getElem_cons h1]
  by_cases h : L[j].f1.f1 = r
  ·refine zF h (zF (by omega) (zac (ih (j + 1) _ (by omega) (by simp;omega)) ?_))
   rw [zdA,zdA,show (L[j] :: L.drop (j + 1)).filter (fun x => decide (x.f1.f1 = r)) = L[j] :: (L.drop (j + 1)).filter (fun x => decide (x.f1.f1 = r)) from List.filter_cons_of_pos (by simpa using h),List.append_assoc];rfl
  ·refine zT h (zac (ih (j + 1) _ (by omega) (by omega)) ?_)
   rw [zdA,zdA,List.filter_cons_of_neg (by simpa using h)]
theorem zhH (n lo r : Int) (L : List Ent) (hL : L.length < 1466015503701) : Ev (fun k => zR.f k n lo L r) (zdA L r) :=
 zac (zgn n lo r L hL L.length 0 [] (by omega) (by simp)) (by simp)
theorem zg8 (n lo : Int) (g : ByteArray) (L : List Ent) (hL : L.length < 4611686018427387904) (d : Nat) : ∀ j : Nat,j + d = L.length →
  Ev (fun k => z4.l0 k g (j : Int) n lo L) (zd8 (zcB (L.drop j) g)) := by
 induction d with
 | zero =>
  intro j hj
  refine Ev.step (fun k => by rw [z4.l0]) ?_
  refine zT (by omega) (zac (Ev.now _) ?_)
  rw [List.drop_eq_nil_of_le (by omega)];rfl
 | succ d ih =>
  intro j hj
  refine Ev.step (fun k => by rw [z4.l0]) ?_
  have h1 : j < L.length := by omega
  refine zF (by omega) (zF (by omega) ?_)
  rw [zct L j h1,zaf (by omega) (by omega),List.drop_eq_getElem_cons h1,zcB]
  by_cases h : L[j].f0 = g
  ·rw [show (L[j] :: L.drop (j + 1)).find? (fun x => decide (x.f0 = g)) = some L[j] from List.find?_cons_of_pos (by simpa using h)]
   exact zF ((zb3 _ _).2 h) (Ev.now _)
  ·rw [List.find?_cons_of_neg (by simpa using h)]
   exact zT (fun e => h ((zb3 _ _).1 e)) (ih (j + 1) (by omega))
theorem zid (n lo : Int) (L : List Ent) (g : ByteArray) (hL : L.length < 4611686018427387904) : Ev (fun k => z4.f k n lo L g) (zd8 (zcB L g)) := zg8 n lo g L hL L.length 0 (by omega)
theorem zib (n lo a r : Int) (L : List Ent) (hL : L.length < 4611686018427387904) (d : Nat) : ∀ j : Nat,j + d = L.length →
  Ev (fun k => z9.l0 k a r (j : Int) n lo L) (zd8 (byE (L.drop j) a r)) := by
 induction d with
 | zero =>
  intro j hj
  refine Ev.step (fun k => by rw [z9.l0]) ?_
  refine zT (by omega) (zac (Ev.now _) ?_)
  rw [List.drop_eq_nil_of_le (by omega)];rfl
 | succ d ih =>
  intro j hj
  refine Ev.step (fun k => by rw [z9.l0]) ?_
  have h1 : j < L.length := by omega
  refine zF (by omega) (zF (by omega) ?_)
  rw [zct L j h1,zaf (by omega) (by omega),List.drop_eq_getElem_cons h1,byE]
  by_cases h : L[j].f1.f0 = a
  ·refine zF h ?_
   by_cases h2 : L[j].f1.f1 = r
   ·rw [show (L[j] :: L.drop (j + 1)).find? (fun x => decide (x.f1.f0 = a ∧ x.f1.f1 = r)) = some L[j] from List.find?_cons_of_pos (by simp [h,h2])]
    exact zF h2 (Ev.now _)
   ·rw [List.find?_cons_of_neg (by simp [h2])]
    exact zT h2 (ih (j + 1) (by omega))
  ·rw [List.find?_cons_of_neg (by simp [h])]
   exact zT h (ih (j + 1) (by omega))
theorem refBy_ev (n lo : Int) (L : List Ent) (a r : Int) (hL : L.length < 4611686018427387904) : Ev (fun k => z9.f k n lo L a r) (zd8 (byE L a r)) := zib n lo a r L hL L.length 0 (by omega)
theorem zie (a r : Int) (bs : List S67) (ps : List ByteArray) (x y : Int) (R : List Ent) (hR : R.length < 4611686018427387904) (hp : ps.length ≤ 8796093022208) (i : Nat) (hi : i < ps.length) (out : List ByteArray) (ho : out.length ≤ i) (V : List ByteArray)
  (hN : Ev (fun k => zt.l0 k R (if R.any (fun e => decide (e.f0 = ps[i])) = true then out else out ++ [ps[i]]) ((i + 1 : Nat) : Int) a r bs ps x y) V) (d : Nat) : ∀ (j : Nat) (has : Bool),j + d = R.length → (has || (R.drop j).any (fun e => decide (e.f0 = ps[i]))) = R.any (fun e => decide (e.f0 = ps[i])) →
  Ev (fun k => zt.l1 k R out (i : Int) has (j : Int) a r bs ps x y) V := by
 induction d with
 | zero =>
  intro j has hj hh
  refine Ev.step (fun k => by rw [zt.l1]) ?_
  refine zT (by omega) ?_
  rw [List.drop_eq_nil_of_le (by omega),List.any_nil,Bool.or_false] at hh
  rw [← hh] at hN
  rcases has with _ | _
  ·rw [zeF ps i hi,zaf (by omega) (by omega)]
   exact zT (by simp) (zF (by omega) (zF (by omega) (zF (by omega) (by simpa using hN))))
  ·rw [zaf (by omega) (by omega)]
   exact zF rfl (by simpa using hN)
 | succ d ih =>
  intro j has hj hh
  refine Ev.step (fun k => by rw [zt.l1]) ?_
  have h1 : j < R.length := by omega
  refine zF (by omega) ?_
  rw [zct R j h1,zaf (x := (j : Int) + 1) (by omega) (by omega)]
  rw [List.drop_eq_getElem_cons h1,List.any_cons] at hh
  rcases has with _ | _
  ·rw [zeF ps i hi]
   refine zT (by simp) (zF (by omega) (zF (by omega) (zF (by omega) (ih (j + 1) _ (by omega) ?_))))
   rw [← hh,zdv];simp
  ·exact zF rfl (ih (j + 1) true (by omega) (by simpa using hh))
theorem zhF (a r : Int) (bs : List S67) (ps : List ByteArray) (x y : Int) (R : List Ent) (hR : R.length < 4611686018427387904) (hp : ps.length ≤ 8796093022208) (d : Nat) : ∀ (i : Nat) (out : List ByteArray),i + d = ps.length → out.length ≤ i →
  Ev (fun k => zt.l0 k R out (i : Int) a r bs ps x y) (out ++ (ps.drop i).filter fun p => !R.any fun e => decide (e.f0 = p)) := by
 induction d with
 | zero =>
  intro i out hi ho
  refine Ev.step (fun k => by rw [zt.l0]) ?_
  refine zT (by omega) (zac (Ev.now _) ?_)
  rw [List.drop_eq_nil_of_le (by omega)];simp
 | succ d ih =>
  intro i out hi ho
  refine Ev.step (fun k => by rw [zt.l0]) ?_
  have h1 : i < ps.length := by omega
  refine zF (by omega) (zie a r bs ps x y R hR hp i h1 out ho _ (zac (ih (i + 1) _ (by omega) ?_) ?_) R.length 0 false (by omega) (by simp))
  ·split
   ·omega
   ·simp only [List.length_append,List.length_singleton];omega
  ·rw [List.drop_eq_getElem_cons h1,List.filter_cons]
   by_cases h : R.any (fun e => decide (e.f0 = ps[i])) = true
   ·rw [if_pos h,if_neg (by rw [h];simp)]
   ·rw [if_neg h,if_pos (by rw [Bool.not_eq_true] at h;rw [h];rfl),List.append_assoc];rfl
theorem zgm (n lo : Int) (L : List Ent) (a r : Int) (bs : List S67) (ps : List ByteArray) (x y : Int) (hL : L.length < 1466015503701) (hp : ps.length ≤ 8796093022208) :
  Ev (fun k => zt.f k n lo L a r bs ps x y) (zbQ L lo r ps) := by
 unfold zbQ
 by_cases h : wrap64 (r - 1) ≤ lo
 ·rw [if_pos h];exact zF h (Ev.now _)
 ·rw [if_neg h]
  have hR : (zdA L (wrap64 (r - 1))).length ≤ L.length := List.length_filter_le _ _
  refine zT h (Ev.bind (zhH n lo _ L hL) (zac (zhF a r bs ps x y _ (by omega) hp ps.length 0 [] (by omega) (by simp)) ?_))
  rw [List.drop_zero,List.nil_append]
  congr 1
  funext p
  rw [zdA,List.any_filter]
  congr 1
  refine congrArg (fun q => L.any q) (funext fun e => ?_)
  by_cases h1 : e.f1.f1 = wrap64 (r - 1) <;> by_cases h2 : e.f0 = p <;> simp [h1,h2]
def zgZ (n lo : Int) (L : List Ent) : Nat → Nat → Bool
 | 0,_ => true
 | d + 1,j => okE n lo L j (L.getD j z42) && zgZ n lo L d (j + 1)
theorem zfR (n lo : Int) (L : List Ent) : ∀ d j : Nat,zgZ n lo L d j = (List.range' j d).all fun i => okE n lo L i (L.getD i z42)
 | 0,_ => rfl
 | d + 1,j => by rw [zgZ,zfR n lo L d (j + 1),List.range'_succ,List.all_cons]
theorem zhI (n lo : Int) (L : List Ent) : zci n lo L = (zcZ n && decide (0 ≤ lo) && zgZ n lo L L.length 0) := by
 rw [zci,zfR,List.range_eq_range']
theorem zhD (a r : Int) (bs : List S67) (ps : List ByteArray) (x y a' r' : Int) (bs' : List S67) (ps' : List ByteArray) (x' y' : Int) : zbb.f a r bs ps x y a' r' bs' ps' x' y' = some (zbd a r a' r') := by
 unfold zbb.f zbd
 by_cases h : r = r'
 ·rw [if_pos h]
  exact congrArg some (decide_eq_decide.2 (by omega))
 ·rw [if_neg h]
  exact congrArg some (decide_eq_decide.2 (by omega))
theorem zdW : (zaa 2 1 [] [] 0 0 4).2 = 0 := by
 rw [zaa,if_pos]
 rw [zcH]
 simp [zcG,zeB,zb2]
theorem zhh {a r : Int} {bs : List S67} {ps : List ByteArray} {x y n : Int} (h : (zaa a r bs ps x y n).2 = 0) : (zaa a r bs ps x y n).1.size = 32 := by
 unfold zaa at h ⊢
 split
 ·exact shaB_size _
 ·next hm => rw [if_neg hm] at h;cases h
theorem zis : zaT.f = some true := by
 have hz := zhh zdW
 have hv := zdW
 have w1 : wrap64 (1 - 1) ≤ 0 := by rw [zaf (by decide) (by decide)];decide
 have l1 : ∀ L : List Ent,zbQ L 0 1 [] = [] := fun L => if_pos w1
 have y1 : zd9 4 0 [] 2 1 [] [] 0 0 = 0 := by
  unfold zd9
  rw [if_neg (by simp [hv]),if_neg (by decide),if_neg (by simp [zcB]),if_neg (by simp [byE]),l1,if_neg (by simp)]
 have a1 : zas.f 4 0 ([] : List Ent) 2 1 [] [] 0 0 = some (4,0,[⟨(zaa 2 1 [] [] 0 0 4).1,⟨2,1,[],[],⟨0,0⟩⟩⟩],0) := by
  unfold zas.f
  rw [if_pos (by simp),y1,zes,if_pos y1];rfl
 have y2 : zd9 4 0 [⟨(zaa 2 1 [] [] 0 0 4).1,⟨2,1,[],[],⟨0,0⟩⟩⟩] 2 1 [] [] 0 0 = 8 := by
  unfold zd9
  rw [if_neg (by simp [hv]),if_neg (by decide),if_pos (by simp [zcB])]
 have a2 : zas.f 4 0 [⟨(zaa 2 1 [] [] 0 0 4).1,⟨2,1,[],[],⟨0,0⟩⟩⟩] 2 1 [] [] 0 0 = some (4,0,[⟨(zaa 2 1 [] [] 0 0 4).1,⟨2,1,[],[],⟨0,0⟩⟩⟩],8) := by
  unfold zas.f
  rw [if_pos (by simp),y2,zes,if_neg (by rw [y2];decide)]
 have r1 : zci 4 0 [⟨(zaa 2 1 [] [] 0 0 4).1,⟨2,1,[],[],⟨0,0⟩⟩⟩] = true := by
  rw [zhI]
  show (zcZ 4 && decide ((0 : Int) ≤ 0) && (okE 4 0 _ 0 _ && true)) = true
  unfold okE
  simp [hv,l1,zcG,List.getD]
 unfold zaT.f
 rw [a1]
 simp only [Option.bind_some]
 rw [a2]
 simp only [Option.bind_some,if_true,List.length_cons,List.length_nil]
 have e0 : zd [(⟨(zaa 2 1 [] [] 0 0 4).1,⟨2,1,[],[],⟨0,0⟩⟩⟩ : Ent)] 0 = ⟨(zaa 2 1 [] [] 0 0 4).1,⟨2,1,[],[],⟨0,0⟩⟩⟩ := rfl
 rw [e0]
 rw [if_pos (by decide),if_pos (by decide),if_pos (by show ((zaa 2 1 [] [] 0 0 4).1.size : Int) = 32;omega)]
 unfold zaN.f
 rw [if_pos (by simp),r1];rfl
theorem adb {w0 w w1 : World} {g : Nat} {o : Obj} (x_ : w0.heap[g]? = some o) (hb_ : Below w.heap.size w w1) (h_ : w0.heap[g]? = some o → w.heap[g]? = some o := by intro x_;(with_reducible repeat (first | refine zaj ?_ _ | refine z6 ?_ | refine zf ?_ _));exact x_) : w1.heap[g]? = some o := zm (h_ x_) hb_
theorem adl {w w0 w1 w2 : World} (x_ : Below w.heap.size w w0) (hb_ : Below w1.heap.size w1 w2) (h_ : Below w.heap.size w w0 → Below w.heap.size w w1 := by intro x_;(repeat (with_reducible first | exact x_ | apply zk | apply zi | apply zo))) : Below w.heap.size w w2 := ze (h_ x_) hb_
theorem adw {w w0 w1 : World} (x_ : Below w.heap.size w w0) (h_ : Below w.heap.size w w0 → Below w.heap.size w w1 := by intro x_;(repeat (with_reducible first | exact x_ | apply zk | apply zi | apply zo))) : Below w.heap.size w w1 := h_ x_
theorem adg {w w0 w1 : World} {g : Nat} (x_ : Below w.heap.size w w0) (hg_ : g = w1.heap.size) (h_ : Below w.heap.size w w0 → Below w.heap.size w w1 := by intro x_;(repeat (with_reducible first | exact x_ | apply zk | apply zi | apply zo))) : w.heap.size ≤ g := by rw [hg_];exact zg (h_ x_)
theorem adn {w0 w : World} {g q : Nat} {o : Obj} (hg_ : q = w.heap.size) (x_ : w0.heap[g]? = some o) (h_ : w0.heap[g]? = some o → w.heap[g]? = some o := by intro x_;(with_reducible repeat (first | refine zaj ?_ _ | refine z6 ?_ | refine zf ?_ _));exact x_) : g ≠ q := by rw [hg_];exact Nat.ne_of_lt (zaJ (h_ x_))
theorem adf {w1 W W' : World} {g q : Nat} {o : Obj} (hw_ : W' = W) (n_ : g ≠ q) (x_ : w1.heap[g]? = some o) (h_ : g ≠ q → w1.heap[g]? = some o → W.heap[g]? = some o := by intro n_ x_;(repeat (first | (with_reducible exact x_) | (with_reducible refine zaj ?_ _) | (with_reducible refine z6 ?_) | (with_reducible refine zf ?_ _) | refine zbE ?_ n_ _))) : W'.heap[g]? = some o := by rw [hw_];exact h_ n_ x_
theorem adp {w1 W W' : World} {g : Nat} {o o' : Obj} (hw_ : W' = W) (x_ : w1.heap[g]? = some o) (h_ : w1.heap[g]? = some o → W.heap[g]? = some o' := by intro x_;(repeat (first | (with_reducible exact x_) | (with_reducible refine zaj ?_ _) | (with_reducible refine z6 ?_) | (with_reducible refine zf ?_ _) | apply zbj));all_goals first | (with_reducible rfl) | (simp only [List.setIfInBounds_toArray,List.set_cons_zero,List.set_cons_succ];done) | rfl) : W'.heap[g]? = some o' := by rw [hw_];exact h_ x_
theorem ads {w w0 W W' : World} {g : Nat} (hw_ : W' = W) (n_ : w.heap.size ≤ g) (x_ : Below w.heap.size w w0) (h_ : w.heap.size ≤ g → Below w.heap.size w w0 → Below w.heap.size w W := by intro n_ x_;(repeat (with_reducible first | exact x_ | apply zk | apply zi | apply zo | refine zj ?_ n_))) : Below w.heap.size w W' := by rw [hw_];exact h_ n_ x_
section
variable {P : Program} {ops : Array Oper} {rest : List Oper} {o : Oper} {a : Act} {Q : Exit → Act → World → Prop}
end
end Go.Proofs.YtlkfelmbhldgfaaGreat.Px