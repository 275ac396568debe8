/- Part 7 of 35 of the proof of the law CertBytes: what is proved is the statement at the end of the last part; its conditions are those of the given row. -/
import Derived.Test.YtfhbeonhnhjikaaGreatZCertBytesF
namespace Go.Proofs.YtfhbeonhnhjikaaGreat.Px
open Go.RowKit Go.Proofs.YtfhbeonhnhjikaaGreatW.PrintWords Go.Proofs.YtfhbeonhnhjikaaGreatW.PrintLast Go.Proofs.YtfhbeonhnhjikaaGreatW.PrintMore
attribute [local go_sem] zz zB zI zJ zp zq zA zC
set_option linter.unusedVariables false
set_option linter.unusedSimpArgs false
def z6.l0 : Nat → List ByteArray → List ByteArray → Int → Option (Bool)
 | 0,_,_,_ => none
 | k + 1,x0,x1,x5 => if x5 < (x0.length : Int) then (if 0 ≤ x5 then (if x5 < (x1.length : Int) then (if (zG ByteArray.empty x0 x5).toList = (zG ByteArray.empty x1 x5).toList then (z6.l0 k x0 x1 (wrap64 (x5 + 1))) else (some false)) else (none)) else (none)) else (some true)
def z6.f (k : Nat) (l0 : List ByteArray) (l1 : List ByteArray) : Option (Bool) := if (l0.length : Int) = (l1.length : Int) then (z6.l0 k l0 l1 0) else (some false)
set_option maxHeartbeats 8000000 in
set_option maxRecDepth 100000 in
theorem z6.calls (k : Nat) (A0 : Option Addr) (c0 : Nat) (l0 : List ByteArray) (A1 : Option Addr) (c1 : Nat) (l1 : List ByteArray) (r : Bool) (w : World) (hr0 : Kd.C Kd.string w A0 l0.length l0) (hc0 : l0.length ≤ c0) (hr1 : Kd.C Kd.string w A1 l1.length l1) (hc1 : l1.length ≤ c1) (h : z6.f k l0 l1 = some r) :
  Calls Tryz.prog 54 #[.slice A0 l0.length c0,.slice A1 l1.length c1] w fun e w' => e = .returned (.bool r) ∧ zaB w w' := by
 have HR0 := za.mk hr0
 have HC0 := za.mk hc0
 clear hr0 hc0
 have HR1 := za.mk hr1
 have HC1 := za.mk hc1
 clear hr1 hc1
 have H : (if (l0.length : Int) = (l1.length : Int) then (z6.l0 k l0 l1 0) else (some false)) = some r := h
 clear h
 by_cases c3 : (l0.length : Int) = (l1.length : Int)
 ·rw [if_pos c3] at H
  have c3b0 : ((l0.length : Int) == (l1.length : Int)) = true := beq_iff_eq.mpr c3
  have c3b1 : ((l0.length : Int) != (l1.length : Int)) = false := bne_eq_false_iff_eq.mpr c3
  have c3b2 : (l0.length == l1.length) = true := by first | simpa using c3 | (simp at c3 ⊢;omega)
  clear c3
  have H' := za.mk H
  clear H
  go_enter Tryz.func54,Tryz.ntmps54
  go_wp2
  repeat (go_quiet (fail);try go_wp2)
  go_loopg [5] k (fun kq v5 w' => ∃ (x5_1 : Int),v5 = .int .i64 x5_1 ∧ za (z6.l0 kq l0 l1 x5_1 = some r) ∧ za (kq ≤ k) ∧ zaB w w')
  case atStart => exact ⟨(0),(hDq),H',⟨Nat.le_refl _⟩,hEq⟩
  case round =>
   clear H'
   try clear c1;try clear p2;try clear c3;try clear c3b0;try clear c3b1;try clear c3b2
   obtain ⟨x5_1,rfl,HA,HK1,⟨m1,rfl⟩⟩ := hrel
   cases gk with
   | zero => exact absurd HA.out (by simp [z6.l0])
   | succ k1 =>
    have H := HA.out
    clear HA
    simp only [z6.l0] at H
    by_cases c4 : x5_1 < (l0.length : Int)
    ·rw [if_pos c4] at H
     have c4b0 : decide (x5_1 < (l0.length : Int)) = true := decide_eq_true c4
     clear c4
     by_cases c5 : 0 ≤ x5_1
     ·rw [if_pos c5] at H
      have c5b0 : decide (0 ≤ x5_1) = true := decide_eq_true c5
      clear c5
      by_cases c6 : x5_1 < (l1.length : Int)
      ·rw [if_pos c6] at H
       have c6b0 : decide (x5_1 < (l1.length : Int)) = true := decide_eq_true c6
       clear c6
       by_cases c7 : (zG ByteArray.empty l0 x5_1).toList = (zG ByteArray.empty l1 x5_1).toList
       ·rw [if_pos c7] at H
        have c7b0 : ((zG ByteArray.empty l0 x5_1).toList == (zG ByteArray.empty l1 x5_1).toList) = true := beq_iff_eq.mpr c7
        have c7b1 : ((zG ByteArray.empty l0 x5_1).toList != (zG ByteArray.empty l1 x5_1).toList) = false := bne_eq_false_iff_eq.mpr c7
        clear c7
        have H' := za.mk H
        clear H
        have p390 : 0 ≤ (x5_1 : Int) := hFq
        have q390 : x5_1 < (l0.length : Int) := hFq
        obtain ⟨ad390,e390,hx390_0⟩ := Kd.at_string HR0.out x5_1 p390 q390
        cases e390
        replace p390 := eq_true p390
        replace q390 := eq_true q390
        have p391 : 0 ≤ (x5_1 : Int) := hFq
        have q391 : x5_1 < (l1.length : Int) := hFq
        obtain ⟨ad391,e391,hx391_0⟩ := Kd.at_string HR1.out x5_1 p391 q391
        cases e391
        replace p391 := eq_true p391
        replace q391 := eq_true q391
        go_wp2
        repeat (go_quiet (fail);try go_wp2)
        go_roundg k1
        case measure => have := HK1.out;omega
        case rel => exact ⟨(wrap64 (x5_1 + 1)),(hDq),H',⟨by have := HK1.out;omega⟩,hEq⟩
       ·rw [if_neg c7] at H
        have c7b0 : ((zG ByteArray.empty l0 x5_1).toList == (zG ByteArray.empty l1 x5_1).toList) = false := beq_eq_false_iff_ne.mpr c7
        have c7b1 : ((zG ByteArray.empty l0 x5_1).toList != (zG ByteArray.empty l1 x5_1).toList) = true := bne_iff_ne.mpr c7
        obtain rfl := Option.some.inj H
        have p390 : 0 ≤ (x5_1 : Int) := hFq
        have q390 : x5_1 < (l0.length : Int) := hFq
        obtain ⟨ad390,e390,hx390_0⟩ := Kd.at_string HR0.out x5_1 p390 q390
        cases e390
        replace p390 := eq_true p390
        replace q390 := eq_true q390
        have p391 : 0 ≤ (x5_1 : Int) := hFq
        have q391 : x5_1 < (l1.length : Int) := hFq
        obtain ⟨ad391,e391,hx391_0⟩ := Kd.at_string HR1.out x5_1 p391 q391
        cases e391
        replace p391 := eq_true p391
        replace q391 := eq_true q391
        go_wp2
        repeat (go_quiet (fail);try go_wp2)
        go_ret
        exact ⟨hDq,hEq⟩
      ·rw [if_neg c6] at H
       exact absurd H (by simp)
     ·rw [if_neg c5] at H
      exact absurd H (by simp)
    ·rw [if_neg c4] at H
     have c4b0 : decide (x5_1 < (l0.length : Int)) = false := decide_eq_false c4
     clear c4
     obtain rfl := Option.some.inj H
     go_wp2
     repeat (go_quiet (fail);try go_wp2)
     go_ret
     exact ⟨hDq,hEq⟩
 ·rw [if_neg c3] at H
  have c3b0 : ((l0.length : Int) == (l1.length : Int)) = false := beq_eq_false_iff_ne.mpr c3
  have c3b1 : ((l0.length : Int) != (l1.length : Int)) = true := bne_iff_ne.mpr c3
  have c3b2 : (l0.length == l1.length) = false := by first | simpa using c3 | (simp at c3 ⊢;omega)
  obtain rfl := Option.some.inj H
  go_enter Tryz.func54,Tryz.ntmps54
  go_wp2
  repeat (go_quiet (fail);try go_wp2)
  go_ret
  exact ⟨hDq,hEq⟩
def zbx.f (k : Nat) (a0_0 : Int) (a0_1 : Int) (l0_2 : List ByteArray) (a1_0 : Int) (a1_1 : Int) (l1_2 : List ByteArray) : Option (Bool) := (z6.f k l0_2 l1_2).bind fun t394 => (if t394 = true then (if a0_0 = a1_0 then (some (a0_1 == a1_1)) else (some false)) else (some false))
set_option maxHeartbeats 8000000 in
set_option maxRecDepth 100000 in
theorem zbx.calls (k : Nat) (a0_0 : Int) (a0_1 : Int) (A0_2 : Option Addr) (c0_2 : Nat) (l0_2 : List ByteArray) (a1_0 : Int) (a1_1 : Int) (A1_2 : Option Addr) (c1_2 : Nat) (l1_2 : List ByteArray) (r : Bool) (w : World) (hr0_2 : Kd.C Kd.string w A0_2 l0_2.length l0_2) (hc0_2 : l0_2.length ≤ c0_2) (hr1_2 : Kd.C Kd.string w A1_2 l1_2.length l1_2) (hc1_2 : l1_2.length ≤ c1_2) (h : zbx.f k a0_0 a0_1 l0_2 a1_0 a1_1 l1_2 = some r) :
  Calls Tryz.prog 83 #[.agg #[.int .i64 a0_0,.int .i64 a0_1,.slice A0_2 l0_2.length c0_2],.agg #[.int .i64 a1_0,.int .i64 a1_1,.slice A1_2 l1_2.length c1_2]] w fun e w' => e = .returned (.bool r) ∧ Below w.heap.size w w' := by
 have hu73 := Tryz.underlying73
 have HR0_2 := za.mk hr0_2
 have HC0_2 := za.mk hc0_2
 clear hr0_2 hc0_2
 have HR1_2 := za.mk hr1_2
 have HC1_2 := za.mk hc1_2
 clear hr1_2 hc1_2
 have HB := za.mk (Below.refl w.heap.size w)
 have H : ((z6.f k l0_2 l1_2).bind fun t394 => (if t394 = true then (if a0_0 = a1_0 then (some (a0_1 == a1_1)) else (some false)) else (some false))) = some r := h
 clear h
 replace H := Option.bind_eq_some_iff.mp H
 obtain ⟨t394,A30,H⟩ := H
 replace H : (if t394 = true then (if a0_0 = a1_0 then (some (a0_1 == a1_1)) else (some false)) else (some false)) = some r := H
 have A3 := za.mk A30
 clear A30
 by_cases c4 : t394 = true
 focus
  subst c4
  have H1 : (if a0_0 = a1_0 then (some (a0_1 == a1_1)) else (some false)) = some r := by rw [if_pos rfl] at H;exact H
  clear H
  have H := H1
  clear H1
  by_cases c5 : a0_0 = a1_0
  focus
   rw [if_pos c5] at H
   have c5b0 : (a0_0 == a1_0) = true := beq_iff_eq.mpr c5
   have c5b1 : (a0_0 != a1_0) = false := bne_eq_false_iff_eq.mpr c5
   clear c5
   obtain rfl := Option.some.inj H
   have EQ0 := True.intro
  rotate_left
  focus
   rw [if_neg c5] at H
   have c5b0 : (a0_0 == a1_0) = false := beq_eq_false_iff_ne.mpr c5
   have c5b1 : (a0_0 != a1_0) = true := bne_iff_ne.mpr c5
   obtain rfl := Option.some.inj H
   have EQ0 := True.intro
 rotate_left 2
 focus
  replace c4 := Bool.eq_false_iff.mpr c4
  subst c4
  have H1 : (some false) = some r := by rw [if_neg (show ¬ (false = true) by decide)] at H;exact H
  clear H
  have H := H1
  clear H1
  obtain rfl := Option.some.inj H
  have EQ1 := True.intro
 all_goals
  go_enter Tryz.func83,Tryz.ntmps83
  go_wp2_with (first | ((with_reducible refine zy (N := 2) rfl ?_);refine zo ?hg (N := 2) ?hd (cs := #[.int .i64 a0_0,.int .i64 a0_1,.slice A0_2 l0_2.length c0_2]) (t := 73) ?hr ?_;(case hd => rfl);(case hg => rfl);(case hr => first | (go_simp;done) | (go_simp;rfl));intro gb392 hg wQN22 hbox hb;have n_ := haq (zd hBq hb) <| haq (hbox) <| haq ((by rw [hg];exact (ze hBq) : w.heap.size ≤ gb392)) <| haq ((by rw [hg];exact (ze hBq) : w.heap.size ≤ gb392)) <| trivial;clear HB;obtain ⟨HB,BK392,GW392,GE392,_⟩ := n_;clear hb hbox hg) | ((with_reducible refine zy (N := 3) rfl ?_);refine zo ?hg (N := 3) ?hd (cs := #[.int .i64 a1_0,.int .i64 a1_1,.slice A1_2 l1_2.length c1_2]) (t := 73) ?hr ?_;(case hd => rfl);(case hg => rfl);(case hr => first | (go_simp;done) | (go_simp;rfl));intro gb393 hg wQN32 hbox hb;have n_ := haq (hbq BK392.out hb) <| haq (zd hCq hb) <| haq (hbox) <| haq ((by rw [hg];exact (ze hCq) : w.heap.size ≤ gb393)) <| haq ((by rw [hg];exact (ze hCq) : w.heap.size ≤ gb393)) <| haq (hnq hg BK392.out) <| haq (hmq hg BK392.out) <| trivial;clear BK392 HB;obtain ⟨BK392,HB,BK393,GW393,GE393,NBQN37,NBQN38,_⟩ := n_;clear hb hbox hg;have hnbQN39 := NBQN37.out;have hncQN310 := NBQN38.out;obtain ⟨hczQN311,hczQN312,hczQN313,hfzQN314,hfzQN315,hfzQN316⟩ := hcq3 BK392.out;obtain ⟨hczQN317,hczQN318,hczQN319,hfzQN320,hfzQN321,hfzQN322⟩ := hcq3 BK393.out) | (have _ := EQ0;((with_reducible refine zj (f := 54) rfl ?_);refine zQ (some 10) rfl rfl Tryz.func54 (by kernel_rfl) rfl #[.slice A0_2 l0_2.length c0_2,.slice A1_2 l1_2.length c1_2] rfl hMq ?_;(with_reducible refine (z6.calls k _ _ l0_2 _ _ l1_2 true _ ?side1 ?side2 ?side3 ?side4 A3.out).mono ?_);(case side1 => exact hKq (Kd.C_below HR0_2.out HB.out));(case side2 => exact HC0_2.out);(case side3 => exact hKq (Kd.C_below HR1_2.out HB.out));(case side4 => exact HC1_2.out);rintro e w' ⟨rfl,⟨nd,rfl⟩⟩;refine ⟨_,rfl,?_⟩)) | (have _ := EQ1;((with_reducible refine zj (f := 54) rfl ?_);refine zQ (some 10) rfl rfl Tryz.func54 (by kernel_rfl) rfl #[.slice A0_2 l0_2.length c0_2,.slice A1_2 l1_2.length c1_2] rfl hMq ?_;(with_reducible refine (z6.calls k _ _ l0_2 _ _ l1_2 false _ ?side1 ?side2 ?side3 ?side4 A3.out).mono ?_);(case side1 => exact hKq (Kd.C_below HR0_2.out HB.out));(case side2 => exact HC0_2.out);(case side3 => exact hKq (Kd.C_below HR1_2.out HB.out));(case side4 => exact HC1_2.out);rintro e w' ⟨rfl,⟨nd,rfl⟩⟩;refine ⟨_,rfl,?_⟩)))
  go_ret
  exact ⟨hHq,hCq⟩
theorem zd4 (l : List ByteArray) (j : Nat) (h : j < l.length) : zG ByteArray.empty l (j : Int) = l[j] := by
 rw [zG,Int.toNat_natCast,List.getD_eq_getElem?_getD,List.getElem?_eq_getElem h];rfl
theorem zdJ (a b : ByteArray) : a.toList = b.toList ↔ a = b := by
 rw [zbJ,zbJ]
 exact ⟨fun h => zgj h,fun h => by rw [h]⟩
theorem zh2 (a b : List ByteArray) (hl : a.length = b.length) (hb : a.length < 4611686018427387904) (d : Nat) : ∀ j,j + d = a.length →
  Ev (fun k => z6.l0 k a b (j : Int)) (decide (a.drop j = b.drop j)) := by
 induction d with
 | zero =>
  intro j hj
  refine Ev.step (fun k => by rw [z6.l0]) ?_
  refine zF (by omega) (zac (Ev.now _) ?_)
  rw [List.drop_eq_nil_of_le (by omega),List.drop_eq_nil_of_le (by omega)];rfl
 | succ d ih =>
  intro j hj
  refine Ev.step (fun k => by rw [z6.l0]) ?_
  have h1 : j < a.length := by omega
  have h2 : j < b.length := by omega
  refine zn (by omega) (zn (by omega) (zn (by omega) ?_))
  rw [zd4 a j h1,zd4 b j h2,List.drop_eq_getElem_cons h1,List.drop_eq_getElem_cons h2,z9 (by omega) (by omega)]
  by_cases h : a[j] = b[j]
  ·refine zn (by rw [h]) (zac (ih (j + 1) (by omega)) ?_)
   simp only [List.cons.injEq,h,true_and]
  ·refine zF (by simpa [zdJ] using h) (zac (Ev.now _) ?_)
   simp only [List.cons.injEq,h,false_and,decide_false]
theorem zgN (a b : List ByteArray) (hb : a.length < 4611686018427387904) : Ev (fun k => z6.f k a b) (decide (a = b)) := by
 by_cases hl : a.length = b.length
 ·exact zn (by omega) (zh2 a b hl hb a.length 0 (by omega))
 ·refine zF (by omega) (zac (Ev.now _) ?_)
  rw [eq_comm,decide_eq_false_iff_not]
  exact fun h => hl (by rw [h])
def zdV (o q : Int) (l : List ByteArray) (o' q' : Int) (l' : List ByteArray) : Bool := decide (o = o' ∧ q = q' ∧ l = l')
theorem zf5 (o q : Int) (l : List ByteArray) (o' q' : Int) (l' : List ByteArray) (hb : l.length < 4611686018427387904) : Ev (fun k => zbx.f k o q l o' q' l') (zdV o q l o' q' l') := by
 unfold zdV
 refine Ev.bind (zgN l l' hb) ?_
 by_cases h3 : l = l'
 ·refine zn (by simp [h3]) ?_
  by_cases h1 : o = o'
  ·exact zn h1 (zac (Ev.now _) (by simp [h1,h3,Bool.beq_eq_decide_eq]))
  ·exact zF h1 (zac (Ev.now _) (by simp [h1]))
 ·exact zF (by simp [h3]) (zac (Ev.now _) (by simp [h3]))
theorem zdr (l : List ByteArray) (m : Nat) (hm : m < 18446744073709551616) (h : ∀ t ∈ l,t.size ≤ m) : (zbv l).length ≤ l.length * (m + 9) := by
 induction l with
 | nil => simp [zbv]
 | cons t l ih =>
  have e : zbv (t :: l) = zdu (ofB t) ++ zbv l := rfl
  have h1 := h t List.mem_cons_self
  have h2 := ih (fun x hx => h x (List.mem_cons_of_mem _ hx))
  have h3 := zaL (v := (ofB t).length) (by rw [zae];omega)
  rw [e,List.length_append,zdu,List.length_append,zae,List.length_cons,Nat.succ_mul]
  rw [zae] at h3
  omega
theorem zdP (o q : Int) (l : List ByteArray) : zc8 o q l = true ↔ 1 ≤ o ∧ o ≤ 64 ∧ 1 ≤ q ∧ q ≤ 1073741824 ∧ 1 ≤ l.length ∧ l.length ≤ 4 ∧ ∀ t ∈ l,1 ≤ t.size ∧ t.size ≤ 48 := by
 unfold zc8
 simp only [Bool.and_eq_true,decide_eq_true_eq,Bool.not_eq_true',List.any_eq_false]
 constructor
 ·rintro ⟨⟨⟨⟨⟨⟨h1,h2⟩,h3⟩,h4⟩,h5⟩,h6⟩,h7⟩
  refine ⟨h1,h2,h3,h4,h5,h6,fun t ht => ?_⟩
  have h8 := h7 t ht
  simp only [zcW,Bool.or_eq_true,decide_eq_true_eq,not_or] at h8
  omega
 ·rintro ⟨h1,h2,h3,h4,h5,h6,h7⟩
  refine ⟨⟨⟨⟨⟨⟨h1,h2⟩,h3⟩,h4⟩,h5⟩,h6⟩,fun t ht => ?_⟩
  have h8 := h7 t ht
  simp only [zcW,Bool.or_eq_true,decide_eq_true_eq,not_or]
  omega
def zdn (o q : Int) (l : List ByteArray) : Bs := zbD o.toNat ++ zbD q.toNat ++ zbI l
theorem zgp (o q : Int) (l : List ByteArray) : za3.f o q l = some (if zc8 o q l = true then (toB (zdn o q l),0) else ((⟨#[]⟩ : ByteArray),1)) := by
 unfold za3.f zaP.f
 rw [Option.bind_some]
 by_cases h : zc8 o q l = true
 ·rw [if_pos h,if_pos h]
  obtain ⟨h1,h2,h3,h4,h5,h6,h7⟩ := (zdP o q l).1 h
  obtain ⟨a,rfl⟩ := Int.eq_ofNat_of_zero_le (show 0 ≤ o by omega)
  obtain ⟨b,rfl⟩ := Int.eq_ofNat_of_zero_le (show 0 ≤ q by omega)
  have r1 := zdr l 48 (by omega) (fun t ht => (h7 t ht).2)
  have r2 := zaL (v := l.length) (by omega)
  have r3 : (zbI l).length ≤ 300 := by rw [zbI,List.length_append];omega
  have n1 := za0 (v := a) (by omega)
  have n2 := za0 (v := b) (by omega)
  have r4 : zad.f l = some (toB (zbI l)) := by unfold zad.f;rw [if_pos (by omega)]
  rw [zaA (by omega) (by omega),zaA (by omega) (by omega),zc2 a (by omega),zc2 b (by omega)]
  simp only [Option.bind_some]
  rw [if_pos (by omega),r4]
  simp only [Option.bind_some]
  rw [if_pos (by rw [ByteArray.size_append,zP];omega),zdn,zbk,zbk,Int.toNat_natCast,Int.toNat_natCast]
  rfl
 ·rw [if_neg h,if_neg h]
theorem ziU (a b : List ByteArray) (hl : a.length = b.length) (hb : a.length < 4611686018427387904) (d : Nat) : ∀ j,j + d = a.length →
  Ev (fun k => zM.l0 k a b (a.length : Int) (j : Int)) (decide (a.drop j = b.drop j)) := by
 induction d with
 | zero =>
  intro j hj
  refine Ev.step (fun k => by rw [zM.l0]) ?_
  refine zF (by omega) (zac (Ev.now _) ?_)
  rw [List.drop_eq_nil_of_le (by omega),List.drop_eq_nil_of_le (by omega)];rfl
 | succ d ih =>
  intro j hj
  refine Ev.step (fun k => by rw [zM.l0]) ?_
  have h1 : j < a.length := by omega
  have h2 : j < b.length := by omega
  refine zn (by omega) (zn (by omega) (zn (by omega) (zn (by omega) ?_)))
  rw [zd4 a j h1,zd4 b j h2,List.drop_eq_getElem_cons h1,List.drop_eq_getElem_cons h2,z9 (by omega) (by omega)]
  by_cases h : a[j] = b[j]
  ·refine zn (by rw [h]) (zac (ih (j + 1) (by omega)) ?_)
   simp only [List.cons.injEq,h,true_and]
  ·refine zF (by simpa [zdJ] using h) (zac (Ev.now _) ?_)
   simp only [List.cons.injEq,h,false_and,decide_false]
theorem zir (a b : List ByteArray) (hb : a.length < 4611686018427387904) : Ev (fun k => zM.f k a b) (decide (a = b)) := by
 by_cases hl : a.length = b.length
 ·exact zn (by omega) (ziU a b hl hb a.length 0 (by omega))
 ·refine zF (by omega) (zac (Ev.now _) ?_)
  rw [eq_comm,decide_eq_false_iff_not]
  exact fun h => hl (by rw [h])
theorem zhI (o q : Int) (l : List ByteArray) (o' q' : Int) (l' : List ByteArray) (hb : l.length < 4611686018427387904) : Ev (fun k => zdW.f k o q l o' q' l') (zdV o q l o' q' l') := by
 unfold zdV
 by_cases h1 : o = o'
 ·refine zn h1 ?_
  by_cases h2 : q = q'
  ·exact zn h2 (Ev.bind (zir l l' hb) (zac (Ev.now _) (by simp [h1,h2])))
  ·exact zF h2 (zac (Ev.now _) (by simp [h2]))
 ·exact zF h1 (zac (Ev.now _) (by simp [h1]))
def zE.l0 : Nat → List (S73) → List (S73) → Int → Option (Bool)
 | 0,_,_,_ => none
 | k + 1,x0,x1,x5 => if x5 < (x0.length : Int) then (if 0 ≤ x5 then (if x5 < (x1.length : Int) then ((zbx.f k ((zW x0 x5).f0) ((zW x0 x5).f1) ((zW x0 x5).f2) ((zW x1 x5).f0) ((zW x1 x5).f1) ((zW x1 x5).f2)).bind fun t397 => (if t397 = true then (zE.l0 k x0 x1 (wrap64 (x5 + 1))) else (some false))) else (none)) else (none)) else (some true)
def zE.f (k : Nat) (l0 : List (S73)) (l1 : List (S73)) : Option (Bool) := if (l0.length : Int) = (l1.length : Int) then (zE.l0 k l0 l1 0) else (some false)
def zE.T6 : Bool × List (List Nat × List Nat) := (true,[([],[]),([],[]),([0,1],[0,1]),([2],[2]),([],[]),([],[]),([4,5],[4,5]),([6],[6]),([3,7],[3,7]),([8,8,0,1,2,3,4,5,6,7,8],[8])])
def zE.B6 : List Nat := [0,0,3,7,0,0,48,112,255,511]
theorem zE.tab6 : zcT .any (zfN Tryz.f55 6) = zE.T6 := by kernel_rfl
theorem zE.bits6 : zcB zE.T6.2 zE.B6 = true := by kernel_rfl
set_option maxHeartbeats 8000000 in
set_option maxRecDepth 100000 in
theorem zE.calls (k : Nat) (A0 : Option Addr) (c0 : Nat) (l0 : List (S73)) (A1 : Option Addr) (c1 : Nat) (l1 : List (S73)) (r : Bool) (w : World) (hr0 : Kd.C k73 w A0 l0.length l0) (hc0 : l0.length ≤ c0) (hr1 : Kd.C k73 w A1 l1.length l1) (hc1 : l1.length ≤ c1) (h : zE.f k l0 l1 = some r) :
  Calls Tryz.prog 55 #[.slice A0 l0.length c0,.slice A1 l1.length c1] w fun e w' => e = .returned (.bool r) ∧ Below w.heap.size w w' := by
 have hu73 := Tryz.underlying73
 have HR0 := za.mk hr0
 have HC0 := za.mk hc0
 clear hr0 hc0
 have HR1 := za.mk hr1
 have HC1 := za.mk hc1
 clear hr1 hc1
 have HB := za.mk (Below.refl w.heap.size w)
 have H : (if (l0.length : Int) = (l1.length : Int) then (zE.l0 k l0 l1 0) else (some false)) = some r := h
 clear h
 by_cases c3 : (l0.length : Int) = (l1.length : Int)
 ·rw [if_pos c3] at H
  have c3b0 : ((l0.length : Int) == (l1.length : Int)) = true := beq_iff_eq.mpr c3
  have c3b1 : ((l0.length : Int) != (l1.length : Int)) = false := bne_eq_false_iff_eq.mpr c3
  have c3b2 : (l0.length == l1.length) = true := by first | simpa using c3 | (simp at c3 ⊢;omega)
  clear c3
  have H' := za.mk H
  clear H
  go_enter Tryz.func55,Tryz.ntmps55
  go_wp2
  go_loopg [5] k (fun kq v5 w' => ∃ (x5_1 : Int),v5 = .int .i64 x5_1 ∧ za (zE.l0 kq l0 l1 x5_1 = some r) ∧ za (kq ≤ k) ∧ za (Below w.heap.size w w'))
  case atStart => exact ⟨(0),(hDq),H',⟨Nat.le_refl _⟩,⟨by repeat (first | (with_reducible first | exact HB.out | apply zk | apply zf | apply zm) | exact HB.out)⟩⟩
  case round =>
   clear H'
   try clear c1;try clear p2;try clear c3;try clear c3b0;try clear c3b1;try clear c3b2
   obtain ⟨x5_1,rfl,HA,HK1,HB⟩ := hrel
   cases gk with
   | zero => exact absurd HA.out (by simp [zE.l0])
   | succ k1 =>
    have H := HA.out
    clear HA
    simp only [zE.l0] at H
    by_cases c4 : x5_1 < (l0.length : Int)
    ·rw [if_pos c4] at H
     have c4b0 : decide (x5_1 < (l0.length : Int)) = true := decide_eq_true c4
     clear c4
     by_cases c5 : 0 ≤ x5_1
     ·rw [if_pos c5] at H
      have c5b0 : decide (0 ≤ x5_1) = true := decide_eq_true c5
      clear c5
      by_cases c6 : x5_1 < (l1.length : Int)
      ·rw [if_pos c6] at H
       have c6b0 : decide (x5_1 < (l1.length : Int)) = true := decide_eq_true c6
       clear c6
       replace H := Option.bind_eq_some_iff.mp H
       obtain ⟨t397,A70,H⟩ := H
       replace H : (if t397 = true then (zE.l0 k1 l0 l1 (wrap64 (x5_1 + 1))) else (some false)) = some r := H
       have A7 := za.mk A70
       clear A70
       by_cases c8 : t397 = true
       ·subst c8
        have H1 : (zE.l0 k1 l0 l1 (wrap64 (x5_1 + 1))) = some r := by rw [if_pos rfl] at H;exact H
        clear H
        have H := H1
        clear H1
        have H' := za.mk H
        clear H
        try go_wp2
        have n0_ := za.mk (zm HB.out)
        clear HB
        have HB := n0_
        clear n0_
        have p395 : 0 ≤ (x5_1 : Int) := hFq
        have q395 : x5_1 < (l0.length : Int) := hFq
        obtain ⟨ad395,A395_2,c395_2,e395,hx395_0,hx395_1,hx395_2,hl395_2,hi395_2⟩ := zcf HR0.out x5_1 p395 q395
        have hw395_2 := hx395_2
        have hw395_1 := hx395_1
        have hw395_0 := hx395_0
        cases e395
        replace hx395_0 := (HB.out.cell (World.block_lt_of_cell? w _ hx395_0)).trans hx395_0
        replace hx395_1 := (HB.out.cell (World.block_lt_of_cell? w _ hx395_1)).trans hx395_1
        replace hx395_2 := (HB.out.cell (World.block_lt_of_cell? w _ hx395_2)).trans hx395_2
        have HR395_2 := za.mk hi395_2
        have HC395_2 := za.mk hl395_2
        clear hi395_2 hl395_2
        replace p395 := eq_true p395
        replace q395 := eq_true q395
        have p396 : 0 ≤ (x5_1 : Int) := hFq
        have q396 : x5_1 < (l1.length : Int) := hFq
        obtain ⟨ad396,A396_2,c396_2,e396,hx396_0,hx396_1,hx396_2,hl396_2,hi396_2⟩ := zcf HR1.out x5_1 p396 q396
        have hw396_2 := hx396_2
        have hw396_1 := hx396_1
        have hw396_0 := hx396_0
        cases e396
        replace hx396_0 := (HB.out.cell (World.block_lt_of_cell? w _ hx396_0)).trans hx396_0
        replace hx396_1 := (HB.out.cell (World.block_lt_of_cell? w _ hx396_1)).trans hx396_1
        replace hx396_2 := (HB.out.cell (World.block_lt_of_cell? w _ hx396_2)).trans hx396_2
        have HR396_2 := za.mk hi396_2
        have HC396_2 := za.mk hl396_2
        clear hi396_2 hl396_2
        replace p396 := eq_true p396
        replace q396 := eq_true q396
        refine zds (n := 10) (S := fun w' => w'.cell? (ad395.add ((x5_1).toNat * 3)) = some (.int .i64 ((zW l0 x5_1).f0)) ∧ w'.cell? ⟨(ad395.add ((x5_1).toNat * 3)).block,(ad395.add ((x5_1).toNat * 3)).off + 1,none⟩ = some (.int .i64 ((zW l0 x5_1).f1)) ∧ w'.cell? ⟨(ad395.add ((x5_1).toNat * 3)).block,(ad395.add ((x5_1).toNat * 3)).off + 2,none⟩ = some (.slice A395_2 ((zW l0 x5_1).f2).length c395_2) ∧ w'.cell? (ad396.add ((x5_1).toNat * 3)) = some (.int .i64 ((zW l1 x5_1).f0)) ∧ w'.cell? ⟨(ad396.add ((x5_1).toNat * 3)).block,(ad396.add ((x5_1).toNat * 3)).off + 1,none⟩ = some (.int .i64 ((zW l1 x5_1).f1)) ∧ w'.cell? ⟨(ad396.add ((x5_1).toNat * 3)).block,(ad396.add ((x5_1).toNat * 3)).off + 2,none⟩ = some (.slice A396_2 ((zW l1 x5_1).f2).length c396_2)) (ds := []) #[false,false,false,false,false,false,false,false,false,false] (by kernel_rfl) rfl rfl ⟨((HB.out.cell (World.block_lt_of_cell? w _ hw395_0)).trans hw395_0),((HB.out.cell (World.block_lt_of_cell? w _ hw395_1)).trans hw395_1),((HB.out.cell (World.block_lt_of_cell? w _ hw395_2)).trans hw395_2),((HB.out.cell (World.block_lt_of_cell? w _ hw396_0)).trans hw396_0),((HB.out.cell (World.block_lt_of_cell? w _ hw396_1)).trans hw396_1),((HB.out.cell (World.block_lt_of_cell? w _ hw396_2)).trans hw396_2)⟩ (fun hHeld => ?_);refine zcq zE.tab6 zE.bits6 (fun HT_ HW_ => ?_)
        generalize wr.drew = w9 at HB HR395_2 HR396_2 hx395_0 hx395_1 hx395_2 hx396_0 hx396_1 hx396_2 hHeld ⊢
        refine zaj (i := 0) (N := some 18) (v := ?_) (a' := ?_) #[true,false,false,false,false,false,false,false,false,false] rfl rfl (zab HT_.out (by kernel_rfl)) (fun _ _ _ h => h) (Or.inl ⟨by rfl,?_⟩) ?_ ?_
        rotate_left
        ·intro w'
         go_simp
         with_reducible rfl
        rotate_left
        ·simp only [Act.put,List.setIfInBounds_toArray,List.set_cons_zero,List.set_cons_succ,zK,zL]
         rfl
        refine zaj (i := 1) (N := some 19) (v := ?_) (a' := ?_) #[true,true,false,false,false,false,false,false,false,false] rfl rfl (zab HT_.out (by kernel_rfl)) (fun _ _ _ h => h) (Or.inl ⟨by rfl,?_⟩) ?_ ?_
        rotate_left
        ·intro w'
         go_simp
         with_reducible rfl
        rotate_left
        ·simp only [Act.put,List.setIfInBounds_toArray,List.set_cons_zero,List.set_cons_succ,zK,zL]
         rfl
        refine zaj (i := 2) (N := some 20) (v := ?_) (a' := ?_) #[true,true,true,false,false,false,false,false,false,false] rfl rfl (zab HT_.out (by kernel_rfl)) (fun _ _ _ h => h) (Or.inl ⟨by rfl,?_⟩) ?_ ?_
        rotate_left
        ·intro w'
         go_simp
         with_reducible rfl
        rotate_left
        ·simp only [Act.put,List.setIfInBounds_toArray,List.set_cons_zero,List.set_cons_succ,zK,zL]
         rfl
        refine zaj (i := 4) (N := some 22) (v := ?_) (a' := ?_) #[true,true,true,false,true,false,false,false,false,false] rfl rfl (zab HT_.out (by kernel_rfl)) (fun _ _ _ h => h) (Or.inl ⟨by rfl,?_⟩) ?_ ?_
        rotate_left
        ·intro w'
         go_simp
         with_reducible rfl
        rotate_left
        ·simp only [Act.put,List.setIfInBounds_toArray,List.set_cons_zero,List.set_cons_succ,zK,zL]
         rfl
        refine zaj (i := 5) (N := some 23) (v := ?_) (a' := ?_) #[true,true,true,false,true,true,false,false,false,false] rfl rfl (zab HT_.out (by kernel_rfl)) (fun _ _ _ h => h) (Or.inl ⟨by rfl,?_⟩) ?_ ?_
        rotate_left
        ·intro w'
         go_simp
         with_reducible rfl
        rotate_left
        ·simp only [Act.put,List.setIfInBounds_toArray,List.set_cons_zero,List.set_cons_succ,zK,zL]
         rfl
        refine zaj (i := 6) (N := some 24) (v := ?_) (a' := ?_) #[true,true,true,false,true,true,true,false,false,false] rfl rfl (zab HT_.out (by kernel_rfl)) (fun _ _ _ h => h) (Or.inl ⟨by rfl,?_⟩) ?_ ?_
        rotate_left
        ·intro w'
         go_simp
         with_reducible rfl
        rotate_left
        ·simp only [Act.put,List.setIfInBounds_toArray,List.set_cons_zero,List.set_cons_succ,zK,zL]
         rfl
        refine take_ (i := 3) (N := some 21) (v := ?_) (a' := ?_) #[true,true,true,true,true,true,true,false,false,false] rfl rfl (za9 HT_.out HW_.out (by kernel_rfl)) (fun _ _ _ h => h) (Or.inl ⟨by rfl,?_⟩) hHeld ?_ ?_
        rotate_left
        ·rintro w' ⟨s0,s1,s2,s3,s4,s5⟩
         go_simp
         with_reducible rfl
        rotate_left
        ·simp only [Act.put,List.setIfInBounds_toArray,List.set_cons_zero,List.set_cons_succ,zK,zL]
         rfl
        refine take_ (i := 7) (N := some 25) (v := ?_) (a' := ?_) #[true,true,true,true,true,true,true,true,false,false] rfl rfl (za9 HT_.out HW_.out (by kernel_rfl)) (fun _ _ _ h => h) (Or.inl ⟨by rfl,?_⟩) hHeld ?_ ?_
        rotate_left
        ·rintro w' ⟨s0,s1,s2,s3,s4,s5⟩
         go_simp
         with_reducible rfl
        rotate_left
        ·simp only [Act.put,List.setIfInBounds_toArray,List.set_cons_zero,List.set_cons_succ,zK,zL]
         rfl
        refine zdl (i := 8) (N := some 26) #[true,true,true,true,true,true,true,true,true,false] rfl rfl (zb5 HT_.out (by kernel_rfl)) (by decide) (fun K hK => ?_)
        refine zci Tryz.func83 (by kernel_rfl) rfl #[.agg #[.int .i64 ((zW l0 x5_1).f0),.int .i64 ((zW l0 x5_1).f1),.slice A395_2 ((zW l0 x5_1).f2).length c395_2],.agg #[.int .i64 ((zW l1 x5_1).f0),.int .i64 ((zW l1 x5_1).f1),.slice A396_2 ((zW l1 x5_1).f2).length c396_2]] (by rfl) rfl rfl hMq ?_
        with_reducible refine (zbx.calls k1 ((zW l0 x5_1).f0) ((zW l0 x5_1).f1) _ _ ((zW l0 x5_1).f2) ((zW l1 x5_1).f0) ((zW l1 x5_1).f1) _ _ ((zW l1 x5_1).f2) true _ ?side1 ?side2 ?side3 ?side4 A7.out).mono ?_
        (case side1 => exact hKq (Kd.C_below HR395_2.out HB.out))
        (case side2 => exact HC395_2.out)
        (case side3 => exact hKq (Kd.C_below HR396_2.out HB.out))
        (case side4 => exact HC396_2.out)
        rintro e w10 ⟨rfl,hb⟩
        refine ⟨_,rfl,?_⟩
        have n0_ := za.mk (zd hBq hb)
        clear HB
        have HB := n0_
        clear n0_
        (try clear hb)
        (try clear hb2)
        (try clear hk)
        (try clear hi)
        refine hK.out _ _ ⟨((HB.out.cell (World.block_lt_of_cell? w _ hw395_0)).trans hw395_0),((HB.out.cell (World.block_lt_of_cell? w _ hw395_1)).trans hw395_1),((HB.out.cell (World.block_lt_of_cell? w _ hw395_2)).trans hw395_2),((HB.out.cell (World.block_lt_of_cell? w _ hw396_0)).trans hw396_0),((HB.out.cell (World.block_lt_of_cell? w _ hw396_1)).trans hw396_1),((HB.out.cell (World.block_lt_of_cell? w _ hw396_2)).trans hw396_2)⟩ (fun hHeld => ?_)
        clear hK K
        refine zck (a' := ?_) ?_ ?_
        rotate_left
        ·show Act.put _ (some 26) _ = _
         simp only [Act.put,List.setIfInBounds_toArray,List.set_cons_zero,List.set_cons_succ,zK,zL]
         rfl
        refine zaj (i := 9) (N := some 6) (v := ?_) (a' := ?_) #[true,true,true,true,true,true,true,true,true,true] rfl rfl (zab HT_.out (by kernel_rfl)) (fun _ _ _ h => h) (Or.inl ⟨by rfl,?_⟩) ?_ ?_
        rotate_left
        ·intro w'
         go_simp
         with_reducible rfl
        rotate_left
        ·simp only [Act.put,List.setIfInBounds_toArray,List.set_cons_zero,List.set_cons_succ,zK,zL]
         rfl
        refine zek (zdk HT_.out (by kernel_rfl)) ?_
        try go_wp2
        go_roundg k1
        case measure => have := HK1.out;omega
        case rel => exact ⟨(wrap64 (x5_1 + 1)),(hDq),H',⟨by have := HK1.out;omega⟩,⟨by repeat (first | (with_reducible first | exact HB.out | apply zk | apply zf | apply zm) | exact HB.out)⟩⟩
       ·replace c8 := Bool.eq_false_iff.mpr c8
        subst c8
        have H1 : (some false) = some r := by rw [if_neg (show ¬ (false = true) by decide)] at H;exact H
        clear H
        have H := H1
        clear H1
        obtain rfl := Option.some.inj H
        try go_wp2
        have n0_ := za.mk (zm HB.out)
        clear HB
        have HB := n0_
        clear n0_
        have p395 : 0 ≤ (x5_1 : Int) := hFq
        have q395 : x5_1 < (l0.length : Int) := hFq
        obtain ⟨ad395,A395_2,c395_2,e395,hx395_0,hx395_1,hx395_2,hl395_2,hi395_2⟩ := zcf HR0.out x5_1 p395 q395
        have hw395_2 := hx395_2
        have hw395_1 := hx395_1
        have hw395_0 := hx395_0
        cases e395
        replace hx395_0 := (HB.out.cell (World.block_lt_of_cell? w _ hx395_0)).trans hx395_0
        replace hx395_1 := (HB.out.cell (World.block_lt_of_cell? w _ hx395_1)).trans hx395_1
        replace hx395_2 := (HB.out.cell (World.block_lt_of_cell? w _ hx395_2)).trans hx395_2
        have HR395_2 := za.mk hi395_2
        have HC395_2 := za.mk hl395_2
        clear hi395_2 hl395_2
        replace p395 := eq_true p395
        replace q395 := eq_true q395
        have p396 : 0 ≤ (x5_1 : Int) := hFq
        have q396 : x5_1 < (l1.length : Int) := hFq
        obtain ⟨ad396,A396_2,c396_2,e396,hx396_0,hx396_1,hx396_2,hl396_2,hi396_2⟩ := zcf HR1.out x5_1 p396 q396
        have hw396_2 := hx396_2
        have hw396_1 := hx396_1
        have hw396_0 := hx396_0
        cases e396
        replace hx396_0 := (HB.out.cell (World.block_lt_of_cell? w _ hx396_0)).trans hx396_0
        replace hx396_1 := (HB.out.cell (World.block_lt_of_cell? w _ hx396_1)).trans hx396_1
        replace hx396_2 := (HB.out.cell (World.block_lt_of_cell? w _ hx396_2)).trans hx396_2
        have HR396_2 := za.mk hi396_2
        have HC396_2 := za.mk hl396_2
        clear hi396_2 hl396_2
        replace p396 := eq_true p396
        replace q396 := eq_true q396
        refine zds (n := 10) (S := fun w' => w'.cell? (ad395.add ((x5_1).toNat * 3)) = some (.int .i64 ((zW l0 x5_1).f0)) ∧ w'.cell? ⟨(ad395.add ((x5_1).toNat * 3)).block,(ad395.add ((x5_1).toNat * 3)).off + 1,none⟩ = some (.int .i64 ((zW l0 x5_1).f1)) ∧ w'.cell? ⟨(ad395.add ((x5_1).toNat * 3)).block,(ad395.add ((x5_1).toNat * 3)).off + 2,none⟩ = some (.slice A395_2 ((zW l0 x5_1).f2).length c395_2) ∧ w'.cell? (ad396.add ((x5_1).toNat * 3)) = some (.int .i64 ((zW l1 x5_1).f0)) ∧ w'.cell? ⟨(ad396.add ((x5_1).toNat * 3)).block,(ad396.add ((x5_1).toNat * 3)).off + 1,none⟩ = some (.int .i64 ((zW l1 x5_1).f1)) ∧ w'.cell? ⟨(ad396.add ((x5_1).toNat * 3)).block,(ad396.add ((x5_1).toNat * 3)).off + 2,none⟩ = some (.slice A396_2 ((zW l1 x5_1).f2).length c396_2)) (ds := []) #[false,false,false,false,false,false,false,false,false,false] (by kernel_rfl) rfl rfl ⟨((HB.out.cell (World.block_lt_of_cell? w _ hw395_0)).trans hw395_0),((HB.out.cell (World.block_lt_of_cell? w _ hw395_1)).trans hw395_1),((HB.out.cell (World.block_lt_of_cell? w _ hw395_2)).trans hw395_2),((HB.out.cell (World.block_lt_of_cell? w _ hw396_0)).trans hw396_0),((HB.out.cell (World.block_lt_of_cell? w _ hw396_1)).trans hw396_1),((HB.out.cell (World.block_lt_of_cell? w _ hw396_2)).trans hw396_2)⟩ (fun hHeld => ?_);refine zcq zE.tab6 zE.bits6 (fun HT_ HW_ => ?_)
        generalize wr.drew = w11 at HB HR395_2 HR396_2 hx395_0 hx395_1 hx395_2 hx396_0 hx396_1 hx396_2 hHeld ⊢
        refine zaj (i := 0) (N := some 18) (v := ?_) (a' := ?_) #[true,false,false,false,false,false,false,false,false,false] rfl rfl (zab HT_.out (by kernel_rfl)) (fun _ _ _ h => h) (Or.inl ⟨by rfl,?_⟩) ?_ ?_
        rotate_left
        ·intro w'
         go_simp
         with_reducible rfl
        rotate_left
        ·simp only [Act.put,List.setIfInBounds_toArray,List.set_cons_zero,List.set_cons_succ,zK,zL]
         rfl
        refine zaj (i := 1) (N := some 19) (v := ?_) (a' := ?_) #[true,true,false,false,false,false,false,false,false,false] rfl rfl (zab HT_.out (by kernel_rfl)) (fun _ _ _ h => h) (Or.inl ⟨by rfl,?_⟩) ?_ ?_
        rotate_left
        ·intro w'
         go_simp
         with_reducible rfl
        rotate_left
        ·simp only [Act.put,List.setIfInBounds_toArray,List.set_cons_zero,List.set_cons_succ,zK,zL]
         rfl
        refine zaj (i := 2) (N := some 20) (v := ?_) (a' := ?_) #[true,true,true,false,false,false,false,false,false,false] rfl rfl (zab HT_.out (by kernel_rfl)) (fun _ _ _ h => h) (Or.inl ⟨by rfl,?_⟩) ?_ ?_
        rotate_left
        ·intro w'
         go_simp
         with_reducible rfl
        rotate_left
        ·simp only [Act.put,List.setIfInBounds_toArray,List.set_cons_zero,List.set_cons_succ,zK,zL]
         rfl
        refine zaj (i := 4) (N := some 22) (v := ?_) (a' := ?_) #[true,true,true,false,true,false,false,false,false,false] rfl rfl (zab HT_.out (by kernel_rfl)) (fun _ _ _ h => h) (Or.inl ⟨by rfl,?_⟩) ?_ ?_
        rotate_left
        ·intro w'
         go_simp
         with_reducible rfl
        rotate_left
        ·simp only [Act.put,List.setIfInBounds_toArray,List.set_cons_zero,List.set_cons_succ,zK,zL]
         rfl
        refine zaj (i := 5) (N := some 23) (v := ?_) (a' := ?_) #[true,true,true,false,true,true,false,false,false,false] rfl rfl (zab HT_.out (by kernel_rfl)) (fun _ _ _ h => h) (Or.inl ⟨by rfl,?_⟩) ?_ ?_
        rotate_left
        ·intro w'
         go_simp
         with_reducible rfl
        rotate_left
        ·simp only [Act.put,List.setIfInBounds_toArray,List.set_cons_zero,List.set_cons_succ,zK,zL]
         rfl
        refine zaj (i := 6) (N := some 24) (v := ?_) (a' := ?_) #[true,true,true,false,true,true,true,false,false,false] rfl rfl (zab HT_.out (by kernel_rfl)) (fun _ _ _ h => h) (Or.inl ⟨by rfl,?_⟩) ?_ ?_
        rotate_left
        ·intro w'
         go_simp
         with_reducible rfl
        rotate_left
        ·simp only [Act.put,List.setIfInBounds_toArray,List.set_cons_zero,List.set_cons_succ,zK,zL]
         rfl
        refine take_ (i := 3) (N := some 21) (v := ?_) (a' := ?_) #[true,true,true,true,true,true,true,false,false,false] rfl rfl (za9 HT_.out HW_.out (by kernel_rfl)) (fun _ _ _ h => h) (Or.inl ⟨by rfl,?_⟩) hHeld ?_ ?_
        rotate_left
        ·rintro w' ⟨s0,s1,s2,s3,s4,s5⟩
         go_simp
         with_reducible rfl
        rotate_left
        ·simp only [Act.put,List.setIfInBounds_toArray,List.set_cons_zero,List.set_cons_succ,zK,zL]
         rfl
        refine take_ (i := 7) (N := some 25) (v := ?_) (a' := ?_) #[true,true,true,true,true,true,true,true,false,false] rfl rfl (za9 HT_.out HW_.out (by kernel_rfl)) (fun _ _ _ h => h) (Or.inl ⟨by rfl,?_⟩) hHeld ?_ ?_
        rotate_left
        ·rintro w' ⟨s0,s1,s2,s3,s4,s5⟩
         go_simp
         with_reducible rfl
        rotate_left
        ·simp only [Act.put,List.setIfInBounds_toArray,List.set_cons_zero,List.set_cons_succ,zK,zL]
         rfl
        refine zdl (i := 8) (N := some 26) #[true,true,true,true,true,true,true,true,true,false] rfl rfl (zb5 HT_.out (by kernel_rfl)) (by decide) (fun K hK => ?_)
        refine zci Tryz.func83 (by kernel_rfl) rfl #[.agg #[.int .i64 ((zW l0 x5_1).f0),.int .i64 ((zW l0 x5_1).f1),.slice A395_2 ((zW l0 x5_1).f2).length c395_2],.agg #[.int .i64 ((zW l1 x5_1).f0),.int .i64 ((zW l1 x5_1).f1),.slice A396_2 ((zW l1 x5_1).f2).length c396_2]] (by rfl) rfl rfl hMq ?_
        with_reducible refine (zbx.calls k1 ((zW l0 x5_1).f0) ((zW l0 x5_1).f1) _ _ ((zW l0 x5_1).f2) ((zW l1 x5_1).f0) ((zW l1 x5_1).f1) _ _ ((zW l1 x5_1).f2) false _ ?side1 ?side2 ?side3 ?side4 A7.out).mono ?_
        (case side1 => exact hKq (Kd.C_below HR395_2.out HB.out))
        (case side2 => exact HC395_2.out)
        (case side3 => exact hKq (Kd.C_below HR396_2.out HB.out))
        (case side4 => exact HC396_2.out)
        rintro e w12 ⟨rfl,hb⟩
        refine ⟨_,rfl,?_⟩
        have n0_ := za.mk (zd hBq hb)
        clear HB
        have HB := n0_
        clear n0_
        (try clear hb)
        (try clear hb2)
        (try clear hk)
        (try clear hi)
        refine hK.out _ _ ⟨((HB.out.cell (World.block_lt_of_cell? w _ hw395_0)).trans hw395_0),((HB.out.cell (World.block_lt_of_cell? w _ hw395_1)).trans hw395_1),((HB.out.cell (World.block_lt_of_cell? w _ hw395_2)).trans hw395_2),((HB.out.cell (World.block_lt_of_cell? w _ hw396_0)).trans hw396_0),((HB.out.cell (World.block_lt_of_cell? w _ hw396_1)).trans hw396_1),((HB.out.cell (World.block_lt_of_cell? w _ hw396_2)).trans hw396_2)⟩ (fun hHeld => ?_)
        clear hK K
        refine zck (a' := ?_) ?_ ?_
        rotate_left
        ·show Act.put _ (some 26) _ = _
         simp only [Act.put,List.setIfInBounds_toArray,List.set_cons_zero,List.set_cons_succ,zK,zL]
         rfl
        refine zaj (i := 9) (N := some 6) (v := ?_) (a' := ?_) #[true,true,true,true,true,true,true,true,true,true] rfl rfl (zab HT_.out (by kernel_rfl)) (fun _ _ _ h => h) (Or.inl ⟨by rfl,?_⟩) ?_ ?_
        rotate_left
        ·intro w'
         go_simp
         with_reducible rfl
        rotate_left
        ·simp only [Act.put,List.setIfInBounds_toArray,List.set_cons_zero,List.set_cons_succ,zK,zL]
         rfl
        refine zek (zdk HT_.out (by kernel_rfl)) ?_
        try go_wp2
        go_ret
        exact ⟨hHq,hBq⟩
      ·rw [if_neg c6] at H
       exact absurd H (by simp)
     ·rw [if_neg c5] at H
      exact absurd H (by simp)
    ·rw [if_neg c4] at H
     have c4b0 : decide (x5_1 < (l0.length : Int)) = false := decide_eq_false c4
     clear c4
     obtain rfl := Option.some.inj H
     go_wp2
     go_ret
     exact ⟨hHq,hBq⟩
 ·rw [if_neg c3] at H
  have c3b0 : ((l0.length : Int) == (l1.length : Int)) = false := beq_eq_false_iff_ne.mpr c3
  have c3b1 : ((l0.length : Int) != (l1.length : Int)) = true := bne_iff_ne.mpr c3
  have c3b2 : (l0.length == l1.length) = false := by first | simpa using c3 | (simp at c3 ⊢;omega)
  obtain rfl := Option.some.inj H
  go_enter Tryz.func55,Tryz.ntmps55
  go_wp2
  go_ret
  exact ⟨hHq,hBq⟩
theorem eqA25 (d : Nat) (w : World) (x0 y0 : Int) (x1 y1 : Int) :
  (Op.equalIn (d + 2) 25 (.agg #[.int .i64 x0,.int .i64 x1]) (.agg #[.int .i64 y0,.int .i64 y1])).run Tryz.prog w = .ok (x0 == y0 && (x1 == y1)) w := by
 refine eqA_of Tryz.underlying25 (by kernel_rfl) ?_
 refine eqf_cons (by rfl) (by go_simp;rfl) (by go_simp;rfl) (by go_simp) ?_
 exact eqf_last (by rfl) (by go_simp;rfl) (by go_simp;rfl) (by go_simp)
end Go.Proofs.YtfhbeonhnhjikaaGreat.Px