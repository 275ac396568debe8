/- Part 14 of 33 of the proof of the law DagAsks: what is proved is the statement at the end of the last part; its conditions are those of the given row. -/
import Derived.Test.YtklhjlaofkngcaaZDagAsksM
namespace Go.Proofs.Ytklhjlaofkngcaa.Px
open Go.RowKit Go.Proofs.YtklhjlaofkngcaaW.PrintWords Go.Proofs.YtklhjlaofkngcaaW.PrintLast Go.Proofs.YtklhjlaofkngcaaW.PrintMore
attribute [local go_sem] zF zH zM zN zB zC zG zI
set_option linter.unusedVariables false
set_option linter.unusedSimpArgs false
def zT.l0 : Nat → List ByteArray → List ByteArray → Int → Option (Bool)
 | 0,_,_,_ => none
 | k + 1,x0,x1,x5 => if x5 < (x0.length : Int) then (if 0 ≤ x5 then (if x5 < (x1.length : Int) then (if (zE ByteArray.empty x0 x5).toList = (zE ByteArray.empty x1 x5).toList then (zT.l0 k x0 x1 (wrap64 (x5 + 1))) else (some false)) else (none)) else (none)) else (some true)
def zT.f (k : Nat) (l0 : List ByteArray) (l1 : List ByteArray) : Option (Bool) := if (l0.length : Int) = (l1.length : Int) then (zT.l0 k l0 l1 0) else (some false)
set_option maxHeartbeats 8000000 in
set_option maxRecDepth 100000 in
theorem zT.calls (k : Nat) (A0 : Option Addr) (c0 : Nat) (l0 : List ByteArray) (A1 : Option Addr) (c1 : Nat) (l1 : List ByteArray) (r : Bool) (w : World) (hr0 : Kd.C Kd.string w A0 l0.length l0) (hc0 : l0.length ≤ c0) (hr1 : Kd.C Kd.string w A1 l1.length l1) (hc1 : l1.length ≤ c1) (h : zT.f k l0 l1 = some r) :
  Calls Try.prog 17 #[.slice A0 l0.length c0,.slice A1 l1.length c1] w fun e w' => e = .returned (.bool r) ∧ za1 w w' := by
 have HR0 := za.mk hr0
 have HC0 := za.mk hc0
 clear hr0 hc0
 have HR1 := za.mk hr1
 have HC1 := za.mk hc1
 clear hr1 hc1
 have H : (if (l0.length : Int) = (l1.length : Int) then (zT.l0 k l0 l1 0) else (some false)) = some r := h
 clear h
 by_cases c3 : (l0.length : Int) = (l1.length : Int)
 ·rw [if_pos c3] at H
  have c3b0 : ((l0.length : Int) == (l1.length : Int)) = true := beq_iff_eq.mpr c3
  have c3b1 : ((l0.length : Int) != (l1.length : Int)) = false := bne_eq_false_iff_eq.mpr c3
  have c3b2 : (l0.length == l1.length) = true := by first | simpa using c3 | (simp at c3 ⊢;omega)
  clear c3
  have H' := za.mk H
  clear H
  go_enter Try.func17,Try.ntmps17
  go_wp2
  repeat (go_quiet (fail);try go_wp2)
  go_loopg [5] k (fun kq v5 w' => ∃ (x5_1 : Int),v5 = .int .i64 x5_1 ∧ za (zT.l0 kq l0 l1 x5_1 = some r) ∧ za (kq ≤ k) ∧ za1 w w')
  case atStart => exact ⟨(0),(hDq),H',⟨Nat.le_refl _⟩,hEq⟩
  case round =>
   clear H'
   try clear c1;try clear p2;try clear c3;try clear c3b0;try clear c3b1;try clear c3b2
   obtain ⟨x5_1,rfl,HA,HK1,⟨m1,rfl⟩⟩ := hrel
   cases gk with
   | zero => exact absurd HA.out (by simp [zT.l0])
   | succ k1 =>
    have H := HA.out
    clear HA
    simp only [zT.l0] at H
    by_cases c4 : x5_1 < (l0.length : Int)
    ·rw [if_pos c4] at H
     have c4b0 : decide (x5_1 < (l0.length : Int)) = true := decide_eq_true c4
     clear c4
     by_cases c5 : 0 ≤ x5_1
     ·rw [if_pos c5] at H
      have c5b0 : decide (0 ≤ x5_1) = true := decide_eq_true c5
      clear c5
      by_cases c6 : x5_1 < (l1.length : Int)
      ·rw [if_pos c6] at H
       have c6b0 : decide (x5_1 < (l1.length : Int)) = true := decide_eq_true c6
       clear c6
       by_cases c7 : (zE ByteArray.empty l0 x5_1).toList = (zE ByteArray.empty l1 x5_1).toList
       ·rw [if_pos c7] at H
        have c7b0 : ((zE ByteArray.empty l0 x5_1).toList == (zE ByteArray.empty l1 x5_1).toList) = true := beq_iff_eq.mpr c7
        have c7b1 : ((zE ByteArray.empty l0 x5_1).toList != (zE ByteArray.empty l1 x5_1).toList) = false := bne_eq_false_iff_eq.mpr c7
        clear c7
        have H' := za.mk H
        clear H
        have p167 : 0 ≤ (x5_1 : Int) := hFq
        have q167 : x5_1 < (l0.length : Int) := hFq
        obtain ⟨ad167,e167,hx167_0⟩ := Kd.at_string HR0.out x5_1 p167 q167
        cases e167
        replace p167 := eq_true p167
        replace q167 := eq_true q167
        have p168 : 0 ≤ (x5_1 : Int) := hFq
        have q168 : x5_1 < (l1.length : Int) := hFq
        obtain ⟨ad168,e168,hx168_0⟩ := Kd.at_string HR1.out x5_1 p168 q168
        cases e168
        replace p168 := eq_true p168
        replace q168 := eq_true q168
        go_wp2
        repeat (go_quiet (fail);try go_wp2)
        go_roundg k1
        case measure => have := HK1.out;omega
        case rel => exact ⟨(wrap64 (x5_1 + 1)),(hDq),H',⟨by have := HK1.out;omega⟩,hEq⟩
       ·rw [if_neg c7] at H
        have c7b0 : ((zE ByteArray.empty l0 x5_1).toList == (zE ByteArray.empty l1 x5_1).toList) = false := beq_eq_false_iff_ne.mpr c7
        have c7b1 : ((zE ByteArray.empty l0 x5_1).toList != (zE ByteArray.empty l1 x5_1).toList) = true := bne_iff_ne.mpr c7
        obtain rfl := Option.some.inj H
        have p167 : 0 ≤ (x5_1 : Int) := hFq
        have q167 : x5_1 < (l0.length : Int) := hFq
        obtain ⟨ad167,e167,hx167_0⟩ := Kd.at_string HR0.out x5_1 p167 q167
        cases e167
        replace p167 := eq_true p167
        replace q167 := eq_true q167
        have p168 : 0 ≤ (x5_1 : Int) := hFq
        have q168 : x5_1 < (l1.length : Int) := hFq
        obtain ⟨ad168,e168,hx168_0⟩ := Kd.at_string HR1.out x5_1 p168 q168
        cases e168
        replace p168 := eq_true p168
        replace q168 := eq_true q168
        go_wp2
        repeat (go_quiet (fail);try go_wp2)
        go_ret
        exact ⟨hDq,hEq⟩
      ·rw [if_neg c6] at H
       exact absurd H (by simp)
     ·rw [if_neg c5] at H
      exact absurd H (by simp)
    ·rw [if_neg c4] at H
     have c4b0 : decide (x5_1 < (l0.length : Int)) = false := decide_eq_false c4
     clear c4
     obtain rfl := Option.some.inj H
     go_wp2
     repeat (go_quiet (fail);try go_wp2)
     go_ret
     exact ⟨hDq,hEq⟩
 ·rw [if_neg c3] at H
  have c3b0 : ((l0.length : Int) == (l1.length : Int)) = false := beq_eq_false_iff_ne.mpr c3
  have c3b1 : ((l0.length : Int) != (l1.length : Int)) = true := bne_iff_ne.mpr c3
  have c3b2 : (l0.length == l1.length) = false := by first | simpa using c3 | (simp at c3 ⊢;omega)
  obtain rfl := Option.some.inj H
  go_enter Try.func17,Try.ntmps17
  go_wp2
  repeat (go_quiet (fail);try go_wp2)
  go_ret
  exact ⟨hDq,hEq⟩
def zbb.f (k : Nat) (a0_0 : Int) (a0_1 : Int) (l0_2 : List ByteArray) (a1_0 : Int) (a1_1 : Int) (l1_2 : List ByteArray) : Option (Bool) := (zT.f k l0_2 l1_2).bind fun t171 => (if t171 = true then (if a0_0 = a1_0 then (some (a0_1 == a1_1)) else (some false)) else (some false))
set_option maxHeartbeats 8000000 in
set_option maxRecDepth 100000 in
theorem zbb.calls (k : Nat) (a0_0 : Int) (a0_1 : Int) (A0_2 : Option Addr) (c0_2 : Nat) (l0_2 : List ByteArray) (a1_0 : Int) (a1_1 : Int) (A1_2 : Option Addr) (c1_2 : Nat) (l1_2 : List ByteArray) (r : Bool) (w : World) (hr0_2 : Kd.C Kd.string w A0_2 l0_2.length l0_2) (hc0_2 : l0_2.length ≤ c0_2) (hr1_2 : Kd.C Kd.string w A1_2 l1_2.length l1_2) (hc1_2 : l1_2.length ≤ c1_2) (h : zbb.f k a0_0 a0_1 l0_2 a1_0 a1_1 l1_2 = some r) :
  Calls Try.prog 48 #[.agg #[.int .i64 a0_0,.int .i64 a0_1,.slice A0_2 l0_2.length c0_2],.agg #[.int .i64 a1_0,.int .i64 a1_1,.slice A1_2 l1_2.length c1_2]] w fun e w' => e = .returned (.bool r) ∧ Below w.heap.size w w' := by
 have hu72 := Try.underlying72
 have HR0_2 := za.mk hr0_2
 have HC0_2 := za.mk hc0_2
 clear hr0_2 hc0_2
 have HR1_2 := za.mk hr1_2
 have HC1_2 := za.mk hc1_2
 clear hr1_2 hc1_2
 have HB := za.mk (Below.refl w.heap.size w)
 have H : ((zT.f k l0_2 l1_2).bind fun t171 => (if t171 = true then (if a0_0 = a1_0 then (some (a0_1 == a1_1)) else (some false)) else (some false))) = some r := h
 clear h
 replace H := Option.bind_eq_some_iff.mp H
 obtain ⟨t171,A30,H⟩ := H
 replace H : (if t171 = true then (if a0_0 = a1_0 then (some (a0_1 == a1_1)) else (some false)) else (some false)) = some r := H
 have A3 := za.mk A30
 clear A30
 by_cases c4 : t171 = true
 focus
  subst c4
  have H1 : (if a0_0 = a1_0 then (some (a0_1 == a1_1)) else (some false)) = some r := by rw [if_pos rfl] at H;exact H
  clear H
  have H := H1
  clear H1
  by_cases c5 : a0_0 = a1_0
  focus
   rw [if_pos c5] at H
   have c5b0 : (a0_0 == a1_0) = true := beq_iff_eq.mpr c5
   have c5b1 : (a0_0 != a1_0) = false := bne_eq_false_iff_eq.mpr c5
   clear c5
   obtain rfl := Option.some.inj H
   have EQ0 := True.intro
  rotate_left
  focus
   rw [if_neg c5] at H
   have c5b0 : (a0_0 == a1_0) = false := beq_eq_false_iff_ne.mpr c5
   have c5b1 : (a0_0 != a1_0) = true := bne_iff_ne.mpr c5
   obtain rfl := Option.some.inj H
   have EQ0 := True.intro
 rotate_left 2
 focus
  replace c4 := Bool.eq_false_iff.mpr c4
  subst c4
  have H1 : (some false) = some r := by rw [if_neg (show ¬ (false = true) by decide)] at H;exact H
  clear H
  have H := H1
  clear H1
  obtain rfl := Option.some.inj H
  have EQ1 := True.intro
 all_goals
  go_enter Try.func48,Try.ntmps48
  go_wp2_with (first | ((with_reducible refine zu (N := 2) rfl ?_);refine zp ?hg (N := 2) ?hd (cs := #[.int .i64 a0_0,.int .i64 a0_1,.slice A0_2 l0_2.length c0_2]) (t := 72) ?hr ?_;(case hd => rfl);(case hg => rfl);(case hr => first | (go_simp;done) | (go_simp;rfl));intro gb169 hg wQN22 hbox hb;have n_ := haq (ze hBq hb) <| haq (hbox) <| haq ((by rw [hg];exact (zg hBq) : w.heap.size ≤ gb169)) <| haq ((by rw [hg];exact (zg hBq) : w.heap.size ≤ gb169)) <| trivial;clear HB;obtain ⟨HB,BK169,GW169,GE169,_⟩ := n_;clear hb hbox hg) | ((with_reducible refine zu (N := 3) rfl ?_);refine zp ?hg (N := 3) ?hd (cs := #[.int .i64 a1_0,.int .i64 a1_1,.slice A1_2 l1_2.length c1_2]) (t := 72) ?hr ?_;(case hd => rfl);(case hg => rfl);(case hr => first | (go_simp;done) | (go_simp;rfl));intro gb170 hg wQN32 hbox hb;have n_ := haq (hbq BK169.out hb) <| haq (ze hCq hb) <| haq (hbox) <| haq ((by rw [hg];exact (zg hCq) : w.heap.size ≤ gb170)) <| haq ((by rw [hg];exact (zg hCq) : w.heap.size ≤ gb170)) <| haq (hnq hg BK169.out) <| haq (hmq hg BK169.out) <| trivial;clear BK169 HB;obtain ⟨BK169,HB,BK170,GW170,GE170,NBQN37,NBQN38,_⟩ := n_;clear hb hbox hg;have hnbQN39 := NBQN37.out;have hncQN310 := NBQN38.out;obtain ⟨hczQN311,hczQN312,hczQN313,hfzQN314,hfzQN315,hfzQN316⟩ := hcq3 BK169.out;obtain ⟨hczQN317,hczQN318,hczQN319,hfzQN320,hfzQN321,hfzQN322⟩ := hcq3 BK170.out) | (have _ := EQ0;((with_reducible refine zV (f := 17) rfl ?_);refine zaF (some 10) rfl rfl Try.func17 (by kernel_rfl) rfl #[.slice A0_2 l0_2.length c0_2,.slice A1_2 l1_2.length c1_2] rfl hMq ?_;(with_reducible refine (zT.calls k _ _ l0_2 _ _ l1_2 true _ ?side1 ?side2 ?side3 ?side4 A3.out).mono ?_);(case side1 => exact hKq (Kd.C_below HR0_2.out HB.out));(case side2 => exact HC0_2.out);(case side3 => exact hKq (Kd.C_below HR1_2.out HB.out));(case side4 => exact HC1_2.out);rintro e w' ⟨rfl,⟨nd,rfl⟩⟩;refine ⟨_,rfl,?_⟩)) | (have _ := EQ1;((with_reducible refine zV (f := 17) rfl ?_);refine zaF (some 10) rfl rfl Try.func17 (by kernel_rfl) rfl #[.slice A0_2 l0_2.length c0_2,.slice A1_2 l1_2.length c1_2] rfl hMq ?_;(with_reducible refine (zT.calls k _ _ l0_2 _ _ l1_2 false _ ?side1 ?side2 ?side3 ?side4 A3.out).mono ?_);(case side1 => exact hKq (Kd.C_below HR0_2.out HB.out));(case side2 => exact HC0_2.out);(case side3 => exact hKq (Kd.C_below HR1_2.out HB.out));(case side4 => exact HC1_2.out);rintro e w' ⟨rfl,⟨nd,rfl⟩⟩;refine ⟨_,rfl,?_⟩)))
  go_ret
  exact ⟨hHq,hCq⟩
theorem zeq (l : List ByteArray) (j : Nat) (h : j < l.length) : zE ByteArray.empty l (j : Int) = l[j] := by
 rw [zE,Int.toNat_natCast,List.getD_eq_getElem?_getD,List.getElem?_eq_getElem h];rfl
theorem zbx (a b : ByteArray) : a.toList = b.toList ↔ a = b := by
 rw [zcs,zcs]
 exact ⟨fun h => zif h,fun h => by rw [h]⟩
theorem zdn (a b : ByteArray) : (a.toList == b.toList) = decide (a = b) := by
 rw [Bool.eq_iff_iff];simp [zbx]
theorem zgK (a b : List ByteArray) (hl : a.length = b.length) (hb : a.length < 4611686018427387904) (d : Nat) : ∀ j,j + d = a.length →
  Ev (fun k => zT.l0 k a b (j : Int)) (decide (a.drop j = b.drop j)) := by
 induction d with
 | zero =>
  intro j hj
  refine Ev.step (fun k => by rw [zT.l0]) ?_
  refine zU (by omega) (z9 (Ev.now _) ?_)
  rw [List.drop_eq_nil_of_le (by omega),List.drop_eq_nil_of_le (by omega)];rfl
 | succ d ih =>
  intro j hj
  refine Ev.step (fun k => by rw [zT.l0]) ?_
  have h1 : j < a.length := by omega
  have h2 : j < b.length := by omega
  refine zJ (by omega) (zJ (by omega) (zJ (by omega) ?_))
  rw [zeq a j h1,zeq b j h2,List.drop_eq_getElem_cons h1,List.drop_eq_getElem_cons h2,zad (by omega) (by omega)]
  by_cases h : a[j] = b[j]
  ·refine zJ (by rw [h]) (z9 (ih (j + 1) (by omega)) ?_)
   simp only [List.cons.injEq,h,true_and]
  ·refine zU (by simpa [zbx] using h) (z9 (Ev.now _) ?_)
   simp only [List.cons.injEq,h,false_and,decide_false]
theorem zeb (a b : List ByteArray) (hb : a.length < 4611686018427387904) : Ev (fun k => zT.f k a b) (decide (a = b)) := by
 by_cases hl : a.length = b.length
 ·exact zJ (by omega) (zgK a b hl hb a.length 0 (by omega))
 ·refine zU (by omega) (z9 (Ev.now _) ?_)
  rw [eq_comm,decide_eq_false_iff_not]
  exact fun h => hl (by rw [h])
def zgs (o q : Int) (l : List ByteArray) (o' q' : Int) (l' : List ByteArray) : Bool := decide (o = o' ∧ q = q' ∧ l = l')
theorem ze8 (o q : Int) (l : List ByteArray) (o' q' : Int) (l' : List ByteArray) (hb : l.length < 4611686018427387904) : Ev (fun k => zbb.f k o q l o' q' l') (zgs o q l o' q' l') := by
 unfold zgs
 refine Ev.bind (zeb l l' hb) ?_
 by_cases h3 : l = l'
 ·refine zJ (by simp [h3]) ?_
  by_cases h1 : o = o'
  ·exact zJ h1 (z9 (Ev.now _) (by simp [h1,h3,Bool.beq_eq_decide_eq]))
  ·exact zU h1 (z9 (Ev.now _) (by simp [h1]))
 ·exact zU (by simp [h3]) (z9 (Ev.now _) (by simp [h3]))
theorem zdM (l : List ByteArray) (m : Nat) (hm : m < 18446744073709551616) (h : ∀ t ∈ l,t.size ≤ m) : (zbr l).length ≤ l.length * (m + 9) := by
 induction l with
 | nil => simp [zbr]
 | cons t l ih =>
  have e : zbr (t :: l) = zfR (ofB t) ++ zbr l := rfl
  have h1 := h t List.mem_cons_self
  have h2 := ih (fun x hx => h x (List.mem_cons_of_mem _ hx))
  have h3 := za3 (v := (ofB t).length) (by rw [zau];omega)
  rw [e,List.length_append,zfR,List.length_append,zau,List.length_cons,Nat.succ_mul]
  rw [zau] at h3
  omega
theorem zdF (o q : Int) (l : List ByteArray) : zdE o q l = true ↔ 1 ≤ o ∧ o ≤ 64 ∧ 1 ≤ q ∧ q ≤ 1073741824 ∧ 1 ≤ l.length ∧ l.length ≤ 4 ∧ ∀ t ∈ l,1 ≤ t.size ∧ t.size ≤ 48 := by
 unfold zdE
 simp only [Bool.and_eq_true,decide_eq_true_eq,Bool.not_eq_true',List.any_eq_false]
 constructor
 ·rintro ⟨⟨⟨⟨⟨⟨h1,h2⟩,h3⟩,h4⟩,h5⟩,h6⟩,h7⟩
  refine ⟨h1,h2,h3,h4,h5,h6,fun t ht => ?_⟩
  have h8 := h7 t ht
  simp only [zcm,Bool.or_eq_true,decide_eq_true_eq,not_or] at h8
  omega
 ·rintro ⟨h1,h2,h3,h4,h5,h6,h7⟩
  refine ⟨⟨⟨⟨⟨⟨h1,h2⟩,h3⟩,h4⟩,h5⟩,h6⟩,fun t ht => ?_⟩
  have h8 := h7 t ht
  simp only [zcm,Bool.or_eq_true,decide_eq_true_eq,not_or]
  omega
def zey (o q : Int) (l : List ByteArray) : Bs := zc3 o.toNat ++ zc3 q.toNat ++ zb6 l
theorem zfr (o q : Int) (l : List ByteArray) : zaN.f o q l = some (if zdE o q l = true then (toB (zey o q l),0) else ((⟨#[]⟩ : ByteArray),1)) := by
 unfold zaN.f zaT.f
 rw [Option.bind_some]
 by_cases h : zdE o q l = true
 ·rw [if_pos h,if_pos h]
  obtain ⟨h1,h2,h3,h4,h5,h6,h7⟩ := (zdF o q l).1 h
  obtain ⟨a,rfl⟩ := Int.eq_ofNat_of_zero_le (show 0 ≤ o by omega)
  obtain ⟨b,rfl⟩ := Int.eq_ofNat_of_zero_le (show 0 ≤ q by omega)
  have r1 := zdM l 48 (by omega) (fun t ht => (h7 t ht).2)
  have r2 := za3 (v := l.length) (by omega)
  have r3 : (zb6 l).length ≤ 300 := by rw [zb6,List.length_append];omega
  have n1 := za9 (v := a) (by omega)
  have n2 := za9 (v := b) (by omega)
  have r4 : zZ.f l = some (toB (zb6 l)) := by unfold zZ.f;rw [if_pos (by omega)]
  rw [zbR (by omega) (by omega),zbR (by omega) (by omega),zc2 a (by omega),zc2 b (by omega)]
  simp only [Option.bind_some]
  rw [if_pos (by omega),r4]
  simp only [Option.bind_some]
  rw [if_pos (by rw [ByteArray.size_append,zax];omega),zey,zbc,zbc,Int.toNat_natCast,Int.toNat_natCast]
  rfl
 ·rw [if_neg h,if_neg h]
def bB (b : S72) : ByteArray := if zdE b.f0 b.f1 b.f2 = true then toB (zey b.f0 b.f1 b.f2) else (⟨#[]⟩ : ByteArray)
theorem zaE.one (b : S72) (A : Option Addr) (c : Nat) (w : World) (hr : Kd.C Kd.string w A b.f2.length b.f2) (hc : b.f2.length ≤ c) :
  Calls Try.prog 51 #[.agg #[.int .i64 b.f0,.int .i64 b.f1,.slice A b.f2.length c]] w fun e w' => e = .returned (.string (bB b)) ∧ Below w.heap.size w w' := by
 obtain ⟨e,he⟩ : ∃ e,zaN.f b.f0 b.f1 b.f2 = some (bB b,e) := by
  rw [zfr,bB]
  split
  ·exact ⟨_,rfl⟩
  ·exact ⟨_,rfl⟩
 have HE := za.mk he
 have HR := za.mk hr
 have HC := za.mk hc
 clear he hr hc
 generalize bB b = s at *
 obtain ⟨b0,b1,b2⟩ := b
 go_enter Try.func51,Try.ntmps51
 go_wp2_with (first
  | ((with_reducible refine zu (N := 1) rfl ?_);refine zp ?hg (N := 1) ?hd (cs := #[.int .i64 b0,.int .i64 b1,.slice A b2.length c]) (t := 72) ?hr ?_;(case hd => rfl);(case hg => rfl);(case hr => first | (go_simp;done) | (go_simp;rfl));intro gb hg w2 hbox hb;have BK := za.mk hbox;have HB := za.mk hb;clear hb hbox hg;have hz0 := (zb BK.out 0).trans rfl;have hz1 := (zb BK.out 1).trans rfl;have hz2 := (zb BK.out 2).trans rfl;have hf0 := zc BK.out 0;have hf1 := zc BK.out 1;have hf2 := zc BK.out 2)
  | (go_at_call 52;(with_reducible refine (zaN.calls b0 b1 _ _ b2 _ _ _ (Kd.C_below HR.out HB.out) HC.out HE.out).mono ?_);rintro e w3 ⟨rfl,hb⟩;have HB3 := za.mk (ze HB.out hb);clear hb))
 go_ret
 exact ⟨rfl,HB3.out⟩
theorem zaE.infoS : (Try.prog.info? 9).map (fun i => (i.zero,i.size,i.bytes)) = some (some (.string ⟨#[]⟩),1,16) := by kernel_rfl
set_option maxHeartbeats 4000000 in
set_option maxRecDepth 100000 in
theorem zaE.walk (A : Option Addr) (c : Nat) (l : List S72) (w : World) (hr : Kd.C k72 w A l.length l) (hc : l.length ≤ c) (h4 : l.length ≤ 4) :
  Calls Try.prog 50 #[.slice A l.length c,.func (.func 51) #[] #[]] w fun e w' => ∃ v,e = .returned v ∧ Kd.R Kd.string 9 w' w.heap.size (fun _ => True) v (l.map bB) ∧ Below w.heap.size w w' := by
 have HR := za.mk hr
 clear hr
 go_enter Try.func50,Try.ntmps50
 go_wp2_with fail
 have HB0 := za.mk (Below.refl w.heap.size w)
 go_loopw [5,10] (fun v5 v10 wr => ∃ k : Nat,v10 = .int .i64 k ∧ k ≤ l.length ∧ za (Kd.R Kd.string 9 wr w.heap.size (fun _ => True) v5 ((l.take k).map bB)) ∧ za (Below w.heap.size w wr)) (fun _ v10 _ => l.length - (match v10 with | .int _ q => q | _ => 0).toNat)
 case atStart => exact ⟨0,rfl,Nat.zero_le _,⟨Kd.R_nil _ _ _ _ _⟩,HB0⟩
 case round =>
  obtain ⟨k,rfl,hk,HO,HB⟩ := hrel
  by_cases hlt : k < l.length
  ·obtain ⟨ad,A2,c2,rfl,hx0,hx1,hx2,hl2,hi2⟩ := zbX HR.out (k : Int) (by omega) (by omega)
   replace hx0 := (HB.out.cell (World.block_lt_of_cell? w _ hx0)).trans hx0
   replace hx1 := (HB.out.cell (World.block_lt_of_cell? w _ hx1)).trans hx1
   replace hx2 := (HB.out.cell (World.block_lt_of_cell? w _ hx2)).trans hx2
   rw [Int.toNat_natCast] at hx0 hx1 hx2
   have hb : decide (k < l.length) = true := decide_eq_true hlt
   have ht : l.take (k + 1) = l.take k ++ [zQ l (k : Int)] := by
    rw [zQ,Int.toNat_natCast,List.getD_eq_getElem?_getD,List.getElem?_eq_getElem hlt,List.take_add_one,List.getElem?_eq_getElem hlt];rfl
   have HT := za.mk ht
   have HL2 := za.mk hl2
   have HI2 := za.mk (Kd.C_below hi2 HB.out)
   clear ht hl2 hi2
   generalize zQ l (k : Int) = s at *
   obtain ⟨s0,s1,s2⟩ := s
   have HLN : za ((((l.take k).map bB).length + 1) * 16 ≤ 140737488355328) := ⟨by rw [List.length_map,List.length_take];omega⟩
   have HM : za ((l.take (k + 1)).map bB = (l.take k).map bB ++ [bB ⟨s0,s1,s2⟩]) := ⟨by rw [HT.out,List.map_append];rfl⟩
   go_wp2_with (first
    | (go_at_call 51;(with_reducible refine (zaE.one ⟨s0,s1,s2⟩ _ _ _ (Kd.C_below HI2.out (zl (Below.refl _ _) _)) HL2.out).mono ?_);rintro e w1 ⟨rfl,hb1⟩;have HB1 := za.mk (ze (zl HB.out _) hb1);have HO1 := za.mk (Kd.R_below HO.out (ze (zl (Below.refl _ _) _) hb1));clear hb1)
    | (at_builtin;refine Kd.R_append Kd.string (w0 := w) w.heap.size rfl (.tmp 14) (.tmp 18) 26 9 (.string ⟨#[]⟩) 16 rfl Try.underlying26 zaE.infoS rfl (by decide) (by omega) _ ((l.take k).map bB) (bB ⟨s0,s1,s2⟩) [.string (bB ⟨s0,s1,s2⟩)] (fun _ => True) (fun _ => False) rfl rfl ?aP (fun _ hk => hk.elim) ?aF ?aO ?aB ?aS ?aL ?_;(case aP => exact rfl);(case aF => exact (fun _ _ => trivial));(case aO => exact HO1.out);(case aB => exact HB1.out);(case aS => exact (zg HB1.out));(case aL => exact HLN.out);intro v3 w3 ho hb hg hat;have HX := za.mk ho;have HB3 := za.mk hb;clear ho hb hg hat))
   go_roundw
   case rel => exact ⟨k + 1,by go_num,by omega,⟨by rw [HM.out];exact HX.out⟩,HB3⟩
   case measure => simp;omega
  ·obtain rfl : k = l.length := by omega
   go_wp2_with fail
   go_ret
   exact ⟨_,rfl,by have := HO.out;rwa [List.take_length] at this,HB.out⟩
def zaE.f (l0 : List S72) : Option (List ByteArray) := if l0.length ≤ 4 then some (l0.map bB) else none
theorem zaE.calls (A0 : Option Addr) (c0 : Nat) (l0 : List S72) (r : List ByteArray) (w : World) (hr0 : Kd.C k72 w A0 l0.length l0) (hc0 : l0.length ≤ c0) (h : zaE.f l0 = some r) :
  Calls Try.prog 50 #[.slice A0 l0.length c0,.func (.func 51) #[] #[]] w fun e w' => ∃ v0_ : Value,e = .returned v0_ ∧ Kd.R Kd.string 9 w' w.heap.size (fun _ => True) v0_ r ∧ Below w.heap.size w w' := by
 unfold zaE.f at h
 split at h
 ·rename_i h4
  obtain rfl := Option.some.inj h
  exact zaE.walk A0 c0 l0 w hr0 hc0 h4
 ·cases h
theorem zav.infoS : (Try.prog.info? 9).map (fun i => (i.zero,i.size,i.bytes)) = some (some (.string ⟨#[]⟩),1,16) := by kernel_rfl
theorem zav.num (k : Int) (w : World) (h0 : 0 ≤ k) (h1 : k < 9223372036854775808) :
  Calls Try.prog 54 #[.int .i64 k] w fun e w' => e = .returned (.string (zbl k.toNat)) ∧ Below w.heap.size w w' := by
 have hn : zar.f (IntKind.u64.wrap k) = some (zbl k.toNat) := by rw [zbR h0 (by omega),zar.f,if_pos h0,if_pos (by omega)]
 have HN := za.mk hn
 clear hn h0 h1
 generalize zbl k.toNat = s at *
 go_enter Try.func54,Try.ntmps54
 go_wp2_with (go_at_call 55;(with_reducible refine (zar.calls _ _ _ HN.out).mono ?_);rintro e w3 ⟨rfl,hb⟩;have HB3 := za.mk hb;clear hb)
 go_ret
 exact ⟨rfl,HB3.out⟩
set_option maxHeartbeats 4000000 in
set_option maxRecDepth 100000 in
theorem zav.walk (A : Option Addr) (c : Nat) (l : List Int) (w : World) (hr : Kd.C (Kd.int .i64) w A l.length l) (hc : l.length ≤ c) (h4 : l.length ≤ 4) (hp : ∀ k ∈ l,0 ≤ k ∧ k < 9223372036854775808) :
  Calls Try.prog 53 #[.slice A l.length c,.func (.func 54) #[] #[]] w fun e w' => ∃ v,e = .returned v ∧ Kd.R Kd.string 9 w' w.heap.size (fun _ => True) v (l.map (fun k => zbl k.toNat)) ∧ Below w.heap.size w w' := by
 have HR := za.mk hr
 have HP := za.mk hp
 clear hr hp
 go_enter Try.func53,Try.ntmps53
 go_wp2_with fail
 have HB0 := za.mk (Below.refl w.heap.size w)
 go_loopw [5,10] (fun v5 v10 wr => ∃ k : Nat,v10 = .int .i64 k ∧ k ≤ l.length ∧ za (Kd.R Kd.string 9 wr w.heap.size (fun _ => True) v5 ((l.take k).map (fun k => zbl k.toNat))) ∧ za (Below w.heap.size w wr)) (fun _ v10 _ => l.length - (match v10 with | .int _ q => q | _ => 0).toNat)
 case atStart => exact ⟨0,rfl,Nat.zero_le _,⟨Kd.R_nil _ _ _ _ _⟩,HB0⟩
 case round =>
  obtain ⟨k,rfl,hk,HO,HB⟩ := hrel
  by_cases hlt : k < l.length
  ·obtain ⟨ad,rfl,hx0⟩ := Kd.at_int HR.out (k : Int) (by omega) (by omega)
   replace hx0 := (HB.out.cell (World.block_lt_of_cell? w _ hx0)).trans hx0
   rw [Int.toNat_natCast] at hx0
   have hb : decide (k < l.length) = true := decide_eq_true hlt
   have hd : rd l (k : Int) = l[k] := by
    rw [rd,Int.toNat_natCast,List.getD_eq_getElem?_getD,List.getElem?_eq_getElem hlt];rfl
   have hpk := HP.out _ (List.getElem_mem hlt)
   have ht : l.take (k + 1) = l.take k ++ [l[k]] := by
    rw [List.take_add_one,List.getElem?_eq_getElem hlt];rfl
   rw [hd] at hx0
   generalize l[k] = s at *
   have HM : za ((l.take (k + 1)).map (fun k => zbl k.toNat) = (l.take k).map (fun k => zbl k.toNat) ++ [zbl s.toNat]) := ⟨by rw [ht,List.map_append];rfl⟩
   have HLN : za ((((l.take k).map (fun k => zbl k.toNat)).length + 1) * 16 ≤ 140737488355328) := ⟨by rw [List.length_map,List.length_take];omega⟩
   have HPK := za.mk hpk
   clear hpk ht hd
   go_wp2_with (first
    | (go_at_call 54;(with_reducible refine (zav.num s _ HPK.out.1 HPK.out.2).mono ?_);rintro e w1 ⟨rfl,hb1⟩;have HB1 := za.mk (ze HB.out hb1);have HO1 := za.mk (Kd.R_below HO.out hb1);clear hb1)
    | (at_builtin;refine Kd.R_append Kd.string (w0 := w) w.heap.size rfl (.tmp 14) (.tmp 18) 26 9 (.string ⟨#[]⟩) 16 rfl Try.underlying26 zav.infoS rfl (by decide) (by omega) _ ((l.take k).map (fun k => zbl k.toNat)) (zbl s.toNat) [.string (zbl s.toNat)] (fun _ => True) (fun _ => False) rfl rfl ?aP (fun _ hk => hk.elim) ?aF ?aO ?aB ?aS ?aL ?_;(case aP => exact rfl);(case aF => exact (fun _ _ => trivial));(case aO => exact HO1.out);(case aB => exact HB1.out);(case aS => exact (zg HB1.out));(case aL => exact HLN.out);intro v3 w3 ho hb hg hat;have HX := za.mk ho;have HB3 := za.mk hb;clear ho hb hg hat))
   go_roundw
   case rel => exact ⟨k + 1,by go_num,by omega,⟨by rw [HM.out];exact HX.out⟩,HB3⟩
   case measure => simp;omega
  ·obtain rfl : k = l.length := by omega
   go_wp2_with fail
   go_ret
   exact ⟨_,rfl,by have := HO.out;rwa [List.take_length] at this,HB.out⟩
def zav.f (l0 : List Int) : Option (List ByteArray) := if l0.length ≤ 4 ∧ ∀ k ∈ l0,0 ≤ k ∧ k < 9223372036854775808 then some (l0.map (fun k => zbl k.toNat)) else none
theorem zav.calls (A0 : Option Addr) (c0 : Nat) (l0 : List Int) (r : List ByteArray) (w : World) (hr0 : Kd.C (Kd.int .i64) w A0 l0.length l0) (hc0 : l0.length ≤ c0) (h : zav.f l0 = some r) :
  Calls Try.prog 53 #[.slice A0 l0.length c0,.func (.func 54) #[] #[]] w fun e w' => ∃ v0_ : Value,e = .returned v0_ ∧ Kd.R Kd.string 9 w' w.heap.size (fun _ => True) v0_ r ∧ Below w.heap.size w w' := by
 unfold zav.f at h
 split at h
 ·rename_i h4
  obtain rfl := Option.some.inj h
  exact zav.walk A0 c0 l0 w hr0 hc0 h4.1 h4.2
 ·cases h
end Go.Proofs.Ytklhjlaofkngcaa.Px