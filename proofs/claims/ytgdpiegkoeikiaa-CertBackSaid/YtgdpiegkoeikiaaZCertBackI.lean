/- Part 9 of 30 of the proof of the law CertBack: what is proved is the statement at the end of the last part; its conditions are those of the given row. -/
import Derived.Test.YtgdpiegkoeikiaaZCertBackH
namespace Go.Proofs.Ytgdpiegkoeikiaa.Px
open Go.RowKit Go.Proofs.YtgdpiegkoeikiaaW.PrintWords Go.Proofs.YtgdpiegkoeikiaaW.PrintLast Go.Proofs.YtgdpiegkoeikiaaW.PrintMore
attribute [local go_sem] zx zz zJ zK zn zo zy zA
set_option linter.unusedVariables false
set_option linter.unusedSimpArgs false
def zbc.f (k : Nat) (a0_0 : Int) (a0_1 : Int) (l0_2 : List ByteArray) (a1_0 : Int) (a1_1 : Int) (l1_2 : List ByteArray) : Option (Bool) := (zY.f k l0_2 l1_2).bind fun t387 => (if t387 = true then (if a0_0 = a1_0 then (some (a0_1 == a1_1)) else (some false)) else (some false))
set_option maxHeartbeats 8000000 in
set_option maxRecDepth 100000 in
theorem zbc.calls (k : Nat) (a0_0 : Int) (a0_1 : Int) (A0_2 : Option Addr) (c0_2 : Nat) (l0_2 : List ByteArray) (a1_0 : Int) (a1_1 : Int) (A1_2 : Option Addr) (c1_2 : Nat) (l1_2 : List ByteArray) (r : Bool) (w : World) (hr0_2 : Kd.C Kd.string w A0_2 l0_2.length l0_2) (hc0_2 : l0_2.length ≤ c0_2) (hr1_2 : Kd.C Kd.string w A1_2 l1_2.length l1_2) (hc1_2 : l1_2.length ≤ c1_2) (h : zbc.f k a0_0 a0_1 l0_2 a1_0 a1_1 l1_2 = some r) :
  Calls Try.prog 70 #[.agg #[.int .i64 a0_0,.int .i64 a0_1,.slice A0_2 l0_2.length c0_2],.agg #[.int .i64 a1_0,.int .i64 a1_1,.slice A1_2 l1_2.length c1_2]] w fun e w' => e = .returned (.bool r) ∧ Below w.heap.size w w' := by
 have hu107 := Try.underlying107
 have HR0_2 := zc.mk hr0_2
 have HC0_2 := zc.mk hc0_2
 clear hr0_2 hc0_2
 have HR1_2 := zc.mk hr1_2
 have HC1_2 := zc.mk hc1_2
 clear hr1_2 hc1_2
 have HB := zc.mk (Below.refl w.heap.size w)
 have H : ((zY.f k l0_2 l1_2).bind fun t387 => (if t387 = true then (if a0_0 = a1_0 then (some (a0_1 == a1_1)) else (some false)) else (some false))) = some r := h
 clear h
 replace H := Option.bind_eq_some_iff.mp H
 obtain ⟨t387,A30,H⟩ := H
 replace H : (if t387 = true then (if a0_0 = a1_0 then (some (a0_1 == a1_1)) else (some false)) else (some false)) = some r := H
 have A3 := zc.mk A30
 clear A30
 by_cases c4 : t387 = true
 focus
  subst c4
  have H1 : (if a0_0 = a1_0 then (some (a0_1 == a1_1)) else (some false)) = some r := by rw [if_pos rfl] at H;exact H
  clear H
  have H := H1
  clear H1
  by_cases c5 : a0_0 = a1_0
  focus
   rw [if_pos c5] at H
   have c5b0 : (a0_0 == a1_0) = true := beq_iff_eq.mpr c5
   have c5b1 : (a0_0 != a1_0) = false := bne_eq_false_iff_eq.mpr c5
   clear c5
   obtain rfl := Option.some.inj H
   have EQ0 := True.intro
  rotate_left
  focus
   rw [if_neg c5] at H
   have c5b0 : (a0_0 == a1_0) = false := beq_eq_false_iff_ne.mpr c5
   have c5b1 : (a0_0 != a1_0) = true := bne_iff_ne.mpr c5
   obtain rfl := Option.some.inj H
   have EQ0 := True.intro
 rotate_left 2
 focus
  replace c4 := Bool.eq_false_iff.mpr c4
  subst c4
  have H1 : (some false) = some r := by rw [if_neg (show ¬ (false = true) by decide)] at H;exact H
  clear H
  have H := H1
  clear H1
  obtain rfl := Option.some.inj H
  have EQ1 := True.intro
 all_goals
  go_enter Try.func70,Try.ntmps70
  go_wp2_with (first | ((with_reducible refine zD (N := 2) rfl ?_);refine zq ?hg (N := 2) ?hd (cs := #[.int .i64 a0_0,.int .i64 a0_1,.slice A0_2 l0_2.length c0_2]) (t := 107) ?hr ?_;(case hd => rfl);(case hg => rfl);(case hr => first | (go_simp;done) | (go_simp;rfl));intro gb385 hg wQN22 hbox hb;have n0_ := zc.mk (zg hBq hb);have n1_ := zc.mk (hbox);have n2_ := zc.mk ((by rw [hg];exact (zj hBq) : w.heap.size ≤ gb385));have n3_ := zc.mk ((by rw [hg];exact (zj hBq) : w.heap.size ≤ gb385));clear HB;have HB := n0_;have BK385 := n1_;have GW385 := n2_;have GE385 := n3_;clear n0_ n1_ n2_ n3_;clear hb hbox hg) | ((with_reducible refine zD (N := 3) rfl ?_);refine zq ?hg (N := 3) ?hd (cs := #[.int .i64 a1_0,.int .i64 a1_1,.slice A1_2 l1_2.length c1_2]) (t := 107) ?hr ?_;(case hd => rfl);(case hg => rfl);(case hr => first | (go_simp;done) | (go_simp;rfl));intro gb386 hg wQN32 hbox hb;have n0_ := zc.mk (zh (g := gb385) (o := .cells #[.int .i64 a0_0,.int .i64 a0_1,.slice A0_2 l0_2.length c0_2] 107 (0,0)) (hGq BK385.out) hb);have n1_ := zc.mk (zg hCq hb);have n2_ := zc.mk (hbox);have n3_ := zc.mk ((by rw [hg];exact (zj hCq) : w.heap.size ≤ gb386));have n4_ := zc.mk ((by rw [hg];exact (zj hCq) : w.heap.size ≤ gb386));have n5_ := zc.mk ((by rw [hg];exact Nat.ne_of_lt (z8 (g := gb385) (o := .cells #[.int .i64 a0_0,.int .i64 a0_1,.slice A0_2 l0_2.length c0_2] 107 (0,0)) (hGq BK385.out)) : gb385 ≠ gb386));have n6_ := zc.mk ((by rw [hg];exact Nat.ne_of_gt (z8 (g := gb385) (o := .cells #[.int .i64 a0_0,.int .i64 a0_1,.slice A0_2 l0_2.length c0_2] 107 (0,0)) (hGq BK385.out)) : gb386 ≠ gb385));clear BK385;clear HB;have BK385 := n0_;have HB := n1_;have BK386 := n2_;have GW386 := n3_;have GE386 := n4_;have NBQN37 := n5_;have NBQN38 := n6_;clear n0_ n1_ n2_ n3_ n4_ n5_ n6_;clear hb hbox hg;have hnbQN39 := NBQN37.out;have hncQN310 := NBQN38.out;have hczQN311 : wQN32.cell? ⟨gb385,0,none⟩ = some (.int .i64 a0_0) := (zb BK385.out 0).trans rfl;have hczQN312 : wQN32.cell? ⟨gb385,1,none⟩ = some (.int .i64 a0_1) := (zb BK385.out 1).trans rfl;have hczQN313 : wQN32.cell? ⟨gb385,2,none⟩ = some (.slice A0_2 l0_2.length c0_2) := (zb BK385.out 2).trans rfl;have hfzQN314 := za BK385.out 0;have hfzQN315 := za BK385.out 1;have hfzQN316 := za BK385.out 2;have hczQN317 : wQN32.cell? ⟨gb386,0,none⟩ = some (.int .i64 a1_0) := (zb BK386.out 0).trans rfl;have hczQN318 : wQN32.cell? ⟨gb386,1,none⟩ = some (.int .i64 a1_1) := (zb BK386.out 1).trans rfl;have hczQN319 : wQN32.cell? ⟨gb386,2,none⟩ = some (.slice A1_2 l1_2.length c1_2) := (zb BK386.out 2).trans rfl;have hfzQN320 := za BK386.out 0;have hfzQN321 := za BK386.out 1;have hfzQN322 := za BK386.out 2) | (have _ := EQ0;((with_reducible refine zp (f := 43) rfl ?_);refine z6 (some 10) rfl rfl Try.func43 (by kernel_rfl) rfl #[.slice A0_2 l0_2.length c0_2,.slice A1_2 l1_2.length c1_2] rfl (by (try simp only [List.map_toArray,List.map_cons,List.map_nil]);first | done | rfl | (simp only [List.length_drop,List.length_take];rfl)) ?_;(with_reducible refine (zY.calls k _ _ l0_2 _ _ l1_2 true _ ?side1 ?side2 ?side3 ?side4 A3.out).mono ?_);(case side1 => repeat (first | exact (Kd.C_below HR0_2.out HB.out) | (with_reducible refine Kd.C_alloc ?_ _) | (with_reducible refine Kd.C_drewN ?_ _) | (with_reducible refine Kd.C_drew ?_)));(case side2 => exact HC0_2.out);(case side3 => repeat (first | exact (Kd.C_below HR1_2.out HB.out) | (with_reducible refine Kd.C_alloc ?_ _) | (with_reducible refine Kd.C_drewN ?_ _) | (with_reducible refine Kd.C_drew ?_)));(case side4 => exact HC1_2.out);rintro e w' ⟨rfl,⟨nd,rfl⟩⟩;refine ⟨_,rfl,?_⟩)) | (have _ := EQ1;((with_reducible refine zp (f := 43) rfl ?_);refine z6 (some 10) rfl rfl Try.func43 (by kernel_rfl) rfl #[.slice A0_2 l0_2.length c0_2,.slice A1_2 l1_2.length c1_2] rfl (by (try simp only [List.map_toArray,List.map_cons,List.map_nil]);first | done | rfl | (simp only [List.length_drop,List.length_take];rfl)) ?_;(with_reducible refine (zY.calls k _ _ l0_2 _ _ l1_2 false _ ?side1 ?side2 ?side3 ?side4 A3.out).mono ?_);(case side1 => repeat (first | exact (Kd.C_below HR0_2.out HB.out) | (with_reducible refine Kd.C_alloc ?_ _) | (with_reducible refine Kd.C_drewN ?_ _) | (with_reducible refine Kd.C_drew ?_)));(case side2 => exact HC0_2.out);(case side3 => repeat (first | exact (Kd.C_below HR1_2.out HB.out) | (with_reducible refine Kd.C_alloc ?_ _) | (with_reducible refine Kd.C_drewN ?_ _) | (with_reducible refine Kd.C_drew ?_)));(case side4 => exact HC1_2.out);rintro e w' ⟨rfl,⟨nd,rfl⟩⟩;refine ⟨_,rfl,?_⟩)))
  go_ret
  exact ⟨hHq,hCq⟩
theorem zfH (l : List ByteArray) (j : Nat) (h : j < l.length) : zH ByteArray.empty l (j : Int) = l[j] := by
 rw [zH,Int.toNat_natCast,List.getD_eq_getElem?_getD,List.getElem?_eq_getElem h];rfl
theorem zen (a b : ByteArray) : a.toList = b.toList ↔ a = b := by
 rw [zbo,zbo]
 exact ⟨fun h => zeE h,fun h => by rw [h]⟩
theorem zhk (a b : List ByteArray) (hl : a.length = b.length) (hb : a.length < 4611686018427387904) (d : Nat) : ∀ j,j + d = a.length →
  Ev (fun k => zY.l0 k a b (j : Int)) (decide (a.drop j = b.drop j)) := by
 induction d with
 | zero =>
  intro j hj
  refine Ev.step (fun k => by rw [zY.l0]) ?_
  refine zU (by omega) (zap (Ev.now _) ?_)
  rw [List.drop_eq_nil_of_le (by omega),List.drop_eq_nil_of_le (by omega)];rfl
 | succ d ih =>
  intro j hj
  refine Ev.step (fun k => by rw [zY.l0]) ?_
  have h1 : j < a.length := by omega
  have h2 : j < b.length := by omega
  refine zF (by omega) (zF (by omega) (zF (by omega) ?_))
  rw [zfH a j h1,zfH b j h2,List.drop_eq_getElem_cons h1,List.drop_eq_getElem_cons h2,zak (by omega) (by omega)]
  by_cases h : a[j] = b[j]
  ·refine zF (by rw [h]) (zap (ih (j + 1) (by omega)) ?_)
   simp only [List.cons.injEq,h,true_and]
  ·refine zU (by simpa [zen] using h) (zap (Ev.now _) ?_)
   simp only [List.cons.injEq,h,false_and,decide_false]
theorem zf7 (a b : List ByteArray) (hb : a.length < 4611686018427387904) : Ev (fun k => zY.f k a b) (decide (a = b)) := by
 by_cases hl : a.length = b.length
 ·exact zF (by omega) (zhk a b hl hb a.length 0 (by omega))
 ·refine zU (by omega) (zap (Ev.now _) ?_)
  rw [eq_comm,decide_eq_false_iff_not]
  exact fun h => hl (by rw [h])
def zgZ (o q : Int) (l : List ByteArray) (o' q' : Int) (l' : List ByteArray) : Bool := decide (o = o' ∧ q = q' ∧ l = l')
theorem zfu (o q : Int) (l : List ByteArray) (o' q' : Int) (l' : List ByteArray) (hb : l.length < 4611686018427387904) : Ev (fun k => zbc.f k o q l o' q' l') (zgZ o q l o' q' l') := by
 unfold zgZ
 refine Ev.bind (zf7 l l' hb) ?_
 by_cases h3 : l = l'
 ·refine zF (by simp [h3]) ?_
  by_cases h1 : o = o'
  ·exact zF h1 (zap (Ev.now _) (by simp [h1,h3,Bool.beq_eq_decide_eq]))
  ·exact zU h1 (zap (Ev.now _) (by simp [h1]))
 ·exact zU (by simp [h3]) (zap (Ev.now _) (by simp [h3]))
theorem zc5 (l : List ByteArray) (m : Nat) (hm : m < 18446744073709551616) (h : ∀ t ∈ l,t.size ≤ m) : (zaV l).length ≤ l.length * (m + 9) := by
 induction l with
 | nil => simp [zaV]
 | cons t l ih =>
  have e : zaV (t :: l) = zbV (ofB t) ++ zaV l := rfl
  have h1 := h t List.mem_cons_self
  have h2 := ih (fun x hx => h x (List.mem_cons_of_mem _ hx))
  have h3 := zam (v := (ofB t).length) (by rw [zab];omega)
  rw [e,List.length_append,zbV,List.length_append,zab,List.length_cons,Nat.succ_mul]
  rw [zab] at h3
  omega
theorem zcN (o q : Int) (l : List ByteArray) : zcB o q l = true ↔ 1 ≤ o ∧ o ≤ 64 ∧ 1 ≤ q ∧ q ≤ 1073741824 ∧ 1 ≤ l.length ∧ l.length ≤ 4 ∧ ∀ t ∈ l,1 ≤ t.size ∧ t.size ≤ 48 := by
 unfold zcB
 simp only [Bool.and_eq_true,decide_eq_true_eq,Bool.not_eq_true',List.any_eq_false]
 constructor
 ·rintro ⟨⟨⟨⟨⟨⟨h1,h2⟩,h3⟩,h4⟩,h5⟩,h6⟩,h7⟩
  refine ⟨h1,h2,h3,h4,h5,h6,fun t ht => ?_⟩
  have h8 := h7 t ht
  simp only [zcz,Bool.or_eq_true,decide_eq_true_eq,not_or] at h8
  omega
 ·rintro ⟨h1,h2,h3,h4,h5,h6,h7⟩
  refine ⟨⟨⟨⟨⟨⟨h1,h2⟩,h3⟩,h4⟩,h5⟩,h6⟩,fun t ht => ?_⟩
  have h8 := h7 t ht
  simp only [zcz,Bool.or_eq_true,decide_eq_true_eq,not_or]
  omega
def zce (o q : Int) (l : List ByteArray) : Bs := zbx o.toNat ++ zbx q.toNat ++ zbq l
theorem zfN (o q : Int) (l : List ByteArray) : zaS.f o q l = some (if zcB o q l = true then (toB (zce o q l),0) else ((⟨#[]⟩ : ByteArray),1)) := by
 unfold zaS.f zaG.f
 rw [Option.bind_some]
 by_cases h : zcB o q l = true
 ·rw [if_pos h,if_pos h]
  obtain ⟨h1,h2,h3,h4,h5,h6,h7⟩ := (zcN o q l).1 h
  obtain ⟨a,rfl⟩ := Int.eq_ofNat_of_zero_le (show 0 ≤ o by omega)
  obtain ⟨b,rfl⟩ := Int.eq_ofNat_of_zero_le (show 0 ≤ q by omega)
  have r1 := zc5 l 48 (by omega) (fun t ht => (h7 t ht).2)
  have r2 := zam (v := l.length) (by omega)
  have r3 : (zbq l).length ≤ 300 := by rw [zbq,List.length_append];omega
  have n1 := zaX (v := a) (by omega)
  have n2 := zaX (v := b) (by omega)
  have r4 : zaa.f l = some (toB (zbq l)) := by unfold zaa.f;rw [if_pos (by omega)]
  rw [za4 (by omega) (by omega),za4 (by omega) (by omega),zcJ a (by omega),zcJ b (by omega)]
  simp only [Option.bind_some]
  rw [if_pos (by omega),r4]
  simp only [Option.bind_some]
  rw [if_pos (by rw [ByteArray.size_append,zX];omega),zce,za9,za9,Int.toNat_natCast,Int.toNat_natCast]
  rfl
 ·rw [if_neg h,if_neg h]
theorem zbv {v w : Nat} (hv : v < 18446744073709551616) (hw : w < 18446744073709551616) {r t : Bs} (h : zbx v ++ r = zbx w ++ t) : v = w ∧ r = t := by
 have h1 := zbA hv r
 rw [h,zbA hw t] at h1
 simp only [Prod.mk.injEq,and_true] at h1
 exact ⟨h1.1.symm,h1.2.symm⟩
theorem zhu {a b : ByteArray} (ha : a.size < 18446744073709551616) (hb : b.size < 18446744073709551616) {r t : Bs} (h : zbV (ofB a) ++ r = zbV (ofB b) ++ t) : a = b ∧ r = t := by
 rw [zbV,zbV,List.append_assoc,List.append_assoc,zab,zab] at h
 obtain ⟨h1,h2⟩ := zbv ha hb h
 have h3 := List.append_inj h2 (by rw [zab,zab,h1])
 exact ⟨zeE h3.1,h3.2⟩
theorem zeI : ∀ {a b : List ByteArray},a.length = b.length → (∀ t ∈ a,t.size < 18446744073709551616) → (∀ t ∈ b,t.size < 18446744073709551616) → ∀ {r t : Bs},zaV a ++ r = zaV b ++ t → a = b ∧ r = t
 | [],[],_,_,_,_,_,h => ⟨rfl,h⟩
 | x :: a,y :: b,hl,ha,hb,r,t,h => by
  have e1 : zaV (x :: a) = zbV (ofB x) ++ zaV a := rfl
  have e2 : zaV (y :: b) = zbV (ofB y) ++ zaV b := rfl
  rw [e1,e2,List.append_assoc,List.append_assoc] at h
  obtain ⟨h1,h2⟩ := zhu (ha x List.mem_cons_self) (hb y List.mem_cons_self) h
  obtain ⟨h3,h4⟩ := zeI (by simpa using hl) (fun z hz => ha z (List.mem_cons_of_mem _ hz)) (fun z hz => hb z (List.mem_cons_of_mem _ hz)) h2
  exact ⟨by rw [h1,h3],h4⟩
theorem zdX {a b : List ByteArray} (hla : a.length < 18446744073709551616) (hlb : b.length < 18446744073709551616) (ha : ∀ t ∈ a,t.size < 18446744073709551616) (hb : ∀ t ∈ b,t.size < 18446744073709551616) {r t : Bs} (h : zbq a ++ r = zbq b ++ t) : a = b ∧ r = t := by
 rw [zbq,zbq,List.append_assoc,List.append_assoc] at h
 obtain ⟨h1,h2⟩ := zbv hla hlb h
 exact zeI h1 ha hb h2
theorem zgn {o q : Int} {l : List ByteArray} {o' q' : Int} {l' : List ByteArray} (h : zcB o q l = true) (h' : zcB o' q' l' = true) {r t : Bs} (e : zce o q l ++ r = zce o' q' l' ++ t) : o = o' ∧ q = q' ∧ l = l' ∧ r = t := by
 obtain ⟨h1,h2,h3,h4,h5,h6,h7⟩ := (zcN o q l).1 h
 obtain ⟨k1,k2,k3,k4,k5,k6,k7⟩ := (zcN o' q' l').1 h'
 rw [zce,zce] at e
 simp only [List.append_assoc] at e
 obtain ⟨e1,e⟩ := zbv (by omega) (by omega) e
 obtain ⟨e2,e⟩ := zbv (by omega) (by omega) e
 obtain ⟨e3,e⟩ := zdX (by omega) (by omega) (fun t ht => by have := h7 t ht;omega) (fun t ht => by have := k7 t ht;omega) e
 exact ⟨by omega,by omega,e3,e⟩
def bB (b : zW) : ByteArray := if zcB b.f0 b.f1 b.f2 = true then toB (zce b.f0 b.f1 b.f2) else (⟨#[]⟩ : ByteArray)
theorem zaL.one (b : zW) (A : Option Addr) (c : Nat) (w : World) (hr : Kd.C Kd.string w A b.f2.length b.f2) (hc : b.f2.length ≤ c) :
  Calls Try.prog 79 #[.agg #[.int .i64 b.f0,.int .i64 b.f1,.slice A b.f2.length c]] w fun e w' => e = .returned (.string (bB b)) ∧ Below w.heap.size w w' := by
 obtain ⟨e,he⟩ : ∃ e,zaS.f b.f0 b.f1 b.f2 = some (bB b,e) := by
  rw [zfN,bB]
  split
  ·exact ⟨_,rfl⟩
  ·exact ⟨_,rfl⟩
 have HE := zc.mk he
 have HR := zc.mk hr
 have HC := zc.mk hc
 clear he hr hc
 generalize bB b = s at *
 obtain ⟨b0,b1,b2⟩ := b
 go_enter Try.func79,Try.ntmps79
 go_wp2_with (first
  | ((with_reducible refine zD (N := 1) rfl ?_);refine zq ?hg (N := 1) ?hd (cs := #[.int .i64 b0,.int .i64 b1,.slice A b2.length c]) (t := 107) ?hr ?_;(case hd => rfl);(case hg => rfl);(case hr => first | (go_simp;done) | (go_simp;rfl));intro gb hg w2 hbox hb;have BK := zc.mk hbox;have HB := zc.mk hb;clear hb hbox hg;have hz0 := (zb BK.out 0).trans rfl;have hz1 := (zb BK.out 1).trans rfl;have hz2 := (zb BK.out 2).trans rfl;have hf0 := za BK.out 0;have hf1 := za BK.out 1;have hf2 := za BK.out 2)
  | (go_at_call 80;(with_reducible refine (zaS.calls b0 b1 _ _ b2 _ _ _ (Kd.C_below HR.out HB.out) HC.out HE.out).mono ?_);rintro e w3 ⟨rfl,hb⟩;have HB3 := zc.mk (zg HB.out hb);clear hb))
 go_ret
 exact ⟨rfl,HB3.out⟩
theorem zaL.infoS : (Try.prog.info? 9).map (fun i => (i.zero,i.size,i.bytes)) = some (some (.string ⟨#[]⟩),1,16) := by kernel_rfl
set_option maxHeartbeats 4000000 in
set_option maxRecDepth 100000 in
theorem zaL.walk (A : Option Addr) (c : Nat) (l : List zW) (w : World) (hr : Kd.C zb0 w A l.length l) (hc : l.length ≤ c) (h4 : l.length ≤ 4) :
  Calls Try.prog 78 #[.slice A l.length c,.func (.func 79) #[] #[]] w fun e w' => ∃ v,e = .returned v ∧ Kd.R Kd.string 9 w' w.heap.size (fun _ => True) v (l.map bB) ∧ Below w.heap.size w w' := by
 have HR := zc.mk hr
 clear hr
 go_enter Try.func78,Try.ntmps78
 go_wp2_with fail
 have HB0 := zc.mk (Below.refl w.heap.size w)
 go_loopw [5,10] (fun v5 v10 wr => ∃ k : Nat,v10 = .int .i64 k ∧ k ≤ l.length ∧ zc (Kd.R Kd.string 9 wr w.heap.size (fun _ => True) v5 ((l.take k).map bB)) ∧ zc (Below w.heap.size w wr)) (fun _ v10 _ => l.length - (match v10 with | .int _ q => q | _ => 0).toNat)
 case atStart => exact ⟨0,rfl,Nat.zero_le _,⟨Kd.R_nil _ _ _ _ _⟩,HB0⟩
 case round =>
  obtain ⟨k,rfl,hk,HO,HB⟩ := hrel
  by_cases hlt : k < l.length
  ·obtain ⟨ad,A2,c2,rfl,hx0,hx1,hx2,hl2,hi2⟩ := zbH HR.out (k : Int) (by omega) (by omega)
   replace hx0 := (HB.out.cell (World.block_lt_of_cell? w _ hx0)).trans hx0
   replace hx1 := (HB.out.cell (World.block_lt_of_cell? w _ hx1)).trans hx1
   replace hx2 := (HB.out.cell (World.block_lt_of_cell? w _ hx2)).trans hx2
   rw [Int.toNat_natCast] at hx0 hx1 hx2
   have hb : decide (k < l.length) = true := decide_eq_true hlt
   have ht : l.take (k + 1) = l.take k ++ [zL l (k : Int)] := by
    rw [zL,Int.toNat_natCast,List.getD_eq_getElem?_getD,List.getElem?_eq_getElem hlt,List.take_add_one,List.getElem?_eq_getElem hlt];rfl
   have HT := zc.mk ht
   have HL2 := zc.mk hl2
   have HI2 := zc.mk (Kd.C_below hi2 HB.out)
   clear ht hl2 hi2
   generalize zL l (k : Int) = s at *
   obtain ⟨s0,s1,s2⟩ := s
   have HLN : zc ((((l.take k).map bB).length + 1) * 16 ≤ 140737488355328) := ⟨by rw [List.length_map,List.length_take];omega⟩
   have HM : zc ((l.take (k + 1)).map bB = (l.take k).map bB ++ [bB ⟨s0,s1,s2⟩]) := ⟨by rw [HT.out,List.map_append];rfl⟩
   go_wp2_with (first
    | (go_at_call 79;(with_reducible refine (zaL.one ⟨s0,s1,s2⟩ _ _ _ (Kd.C_below HI2.out (zI (Below.refl _ _) _)) HL2.out).mono ?_);rintro e w1 ⟨rfl,hb1⟩;have HB1 := zc.mk (zg (zI HB.out _) hb1);have HO1 := zc.mk (Kd.R_below HO.out (zg (zI (Below.refl _ _) _) hb1));clear hb1)
    | (at_builtin;refine Kd.R_append Kd.string (w0 := w) w.heap.size rfl (.tmp 14) (.tmp 18) 24 9 (.string ⟨#[]⟩) 16 rfl Try.underlying24 zaL.infoS rfl (by decide) (by omega) _ ((l.take k).map bB) (bB ⟨s0,s1,s2⟩) [.string (bB ⟨s0,s1,s2⟩)] (fun _ => True) (fun _ => False) rfl rfl ?aP (fun _ hk => hk.elim) ?aF ?aO ?aB ?aS ?aL ?_;(case aP => exact rfl);(case aF => exact (fun _ _ => trivial));(case aO => exact HO1.out);(case aB => exact HB1.out);(case aS => exact (zj HB1.out));(case aL => exact HLN.out);intro v3 w3 ho hb hg hat;have HX := zc.mk ho;have HB3 := zc.mk hb;clear ho hb hg hat))
   go_roundw
   case rel => exact ⟨k + 1,by go_num,by omega,⟨by rw [HM.out];exact HX.out⟩,HB3⟩
   case measure => simp;omega
  ·obtain rfl : k = l.length := by omega
   go_wp2_with fail
   go_ret
   exact ⟨_,rfl,by have := HO.out;rwa [List.take_length] at this,HB.out⟩
def zaL.f (l0 : List zW) : Option (List ByteArray) := if l0.length ≤ 4 then some (l0.map bB) else none
theorem zaL.calls (A0 : Option Addr) (c0 : Nat) (l0 : List zW) (r : List ByteArray) (w : World) (hr0 : Kd.C zb0 w A0 l0.length l0) (hc0 : l0.length ≤ c0) (h : zaL.f l0 = some r) :
  Calls Try.prog 78 #[.slice A0 l0.length c0,.func (.func 79) #[] #[]] w fun e w' => ∃ v0_ : Value,e = .returned v0_ ∧ Kd.R Kd.string 9 w' w.heap.size (fun _ => True) v0_ r ∧ Below w.heap.size w w' := by
 unfold zaL.f at h
 split at h
 ·rename_i h4
  obtain rfl := Option.some.inj h
  exact zaL.walk A0 c0 l0 w hr0 hc0 h4
 ·cases h
theorem zay.infoS : (Try.prog.info? 9).map (fun i => (i.zero,i.size,i.bytes)) = some (some (.string ⟨#[]⟩),1,16) := by kernel_rfl
theorem zay.num (k : Int) (w : World) (h0 : 0 ≤ k) (h1 : k < 9223372036854775808) :
  Calls Try.prog 82 #[.int .i64 k] w fun e w' => e = .returned (.string (zbt k.toNat)) ∧ Below w.heap.size w w' := by
 have hn : zag.f (IntKind.u64.wrap k) = some (zbt k.toNat) := by rw [za4 h0 (by omega),zag.f,if_pos h0,if_pos (by omega)]
 have HN := zc.mk hn
 clear hn h0 h1
 generalize zbt k.toNat = s at *
 go_enter Try.func82,Try.ntmps82
 go_wp2_with (go_at_call 51;(with_reducible refine (zag.calls _ _ _ HN.out).mono ?_);rintro e w3 ⟨rfl,hb⟩;have HB3 := zc.mk hb;clear hb)
 go_ret
 exact ⟨rfl,HB3.out⟩
set_option maxHeartbeats 4000000 in
set_option maxRecDepth 100000 in
theorem zay.walk (A : Option Addr) (c : Nat) (l : List Int) (w : World) (hr : Kd.C (Kd.int .i64) w A l.length l) (hc : l.length ≤ c) (h4 : l.length ≤ 4) (hp : ∀ k ∈ l,0 ≤ k ∧ k < 9223372036854775808) :
  Calls Try.prog 81 #[.slice A l.length c,.func (.func 82) #[] #[]] w fun e w' => ∃ v,e = .returned v ∧ Kd.R Kd.string 9 w' w.heap.size (fun _ => True) v (l.map (fun k => zbt k.toNat)) ∧ Below w.heap.size w w' := by
 have HR := zc.mk hr
 have HP := zc.mk hp
 clear hr hp
 go_enter Try.func81,Try.ntmps81
 go_wp2_with fail
 have HB0 := zc.mk (Below.refl w.heap.size w)
 go_loopw [5,10] (fun v5 v10 wr => ∃ k : Nat,v10 = .int .i64 k ∧ k ≤ l.length ∧ zc (Kd.R Kd.string 9 wr w.heap.size (fun _ => True) v5 ((l.take k).map (fun k => zbt k.toNat))) ∧ zc (Below w.heap.size w wr)) (fun _ v10 _ => l.length - (match v10 with | .int _ q => q | _ => 0).toNat)
 case atStart => exact ⟨0,rfl,Nat.zero_le _,⟨Kd.R_nil _ _ _ _ _⟩,HB0⟩
 case round =>
  obtain ⟨k,rfl,hk,HO,HB⟩ := hrel
  by_cases hlt : k < l.length
  ·obtain ⟨ad,rfl,hx0⟩ := Kd.at_int HR.out (k : Int) (by omega) (by omega)
   replace hx0 := (HB.out.cell (World.block_lt_of_cell? w _ hx0)).trans hx0
   rw [Int.toNat_natCast] at hx0
   have hb : decide (k < l.length) = true := decide_eq_true hlt
   have hd : rd l (k : Int) = l[k] := by
    rw [rd,Int.toNat_natCast,List.getD_eq_getElem?_getD,List.getElem?_eq_getElem hlt];rfl
   have hpk := HP.out _ (List.getElem_mem hlt)
   have ht : l.take (k + 1) = l.take k ++ [l[k]] := by
    rw [List.take_add_one,List.getElem?_eq_getElem hlt];rfl
   rw [hd] at hx0
   generalize l[k] = s at *
   have HM : zc ((l.take (k + 1)).map (fun k => zbt k.toNat) = (l.take k).map (fun k => zbt k.toNat) ++ [zbt s.toNat]) := ⟨by rw [ht,List.map_append];rfl⟩
   have HLN : zc ((((l.take k).map (fun k => zbt k.toNat)).length + 1) * 16 ≤ 140737488355328) := ⟨by rw [List.length_map,List.length_take];omega⟩
   have HPK := zc.mk hpk
   clear hpk ht hd
   go_wp2_with (first
    | (go_at_call 82;(with_reducible refine (zay.num s _ HPK.out.1 HPK.out.2).mono ?_);rintro e w1 ⟨rfl,hb1⟩;have HB1 := zc.mk (zg HB.out hb1);have HO1 := zc.mk (Kd.R_below HO.out hb1);clear hb1)
    | (at_builtin;refine Kd.R_append Kd.string (w0 := w) w.heap.size rfl (.tmp 14) (.tmp 18) 24 9 (.string ⟨#[]⟩) 16 rfl Try.underlying24 zay.infoS rfl (by decide) (by omega) _ ((l.take k).map (fun k => zbt k.toNat)) (zbt s.toNat) [.string (zbt s.toNat)] (fun _ => True) (fun _ => False) rfl rfl ?aP (fun _ hk => hk.elim) ?aF ?aO ?aB ?aS ?aL ?_;(case aP => exact rfl);(case aF => exact (fun _ _ => trivial));(case aO => exact HO1.out);(case aB => exact HB1.out);(case aS => exact (zj HB1.out));(case aL => exact HLN.out);intro v3 w3 ho hb hg hat;have HX := zc.mk ho;have HB3 := zc.mk hb;clear ho hb hg hat))
   go_roundw
   case rel => exact ⟨k + 1,by go_num,by omega,⟨by rw [HM.out];exact HX.out⟩,HB3⟩
   case measure => simp;omega
  ·obtain rfl : k = l.length := by omega
   go_wp2_with fail
   go_ret
   exact ⟨_,rfl,by have := HO.out;rwa [List.take_length] at this,HB.out⟩
def zay.f (l0 : List Int) : Option (List ByteArray) := if l0.length ≤ 4 ∧ ∀ k ∈ l0,0 ≤ k ∧ k < 9223372036854775808 then some (l0.map (fun k => zbt k.toNat)) else none
theorem zay.calls (A0 : Option Addr) (c0 : Nat) (l0 : List Int) (r : List ByteArray) (w : World) (hr0 : Kd.C (Kd.int .i64) w A0 l0.length l0) (hc0 : l0.length ≤ c0) (h : zay.f l0 = some r) :
  Calls Try.prog 81 #[.slice A0 l0.length c0,.func (.func 82) #[] #[]] w fun e w' => ∃ v0_ : Value,e = .returned v0_ ∧ Kd.R Kd.string 9 w' w.heap.size (fun _ => True) v0_ r ∧ Below w.heap.size w w' := by
 unfold zay.f at h
 split at h
 ·rename_i h4
  obtain rfl := Option.some.inj h
  exact zay.walk A0 c0 l0 w hr0 hc0 h4.1 h4.2
 ·cases h
end Go.Proofs.Ytgdpiegkoeikiaa.Px