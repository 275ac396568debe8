/- Part 22 of 24 of the proof of the law CertGrows: what is proved is the statement at the end of the last part; its conditions are those of the given row. -/
import Derived.Test.YtcncoepijagadaaZCertGrowsU
namespace Go.Proofs.Ytcncoepijagadaa.Px
open Go.RowKit Go.Proofs.YtcncoepijagadaaW.PrintWords Go.Proofs.YtcncoepijagadaaW.PrintLast Go.Proofs.YtcncoepijagadaaW.PrintMore
attribute [local go_sem] zp zr zy zz zl zm zq zs
set_option linter.unusedVariables false
set_option linter.unusedSimpArgs false
attribute [local go_sem high] eqA40
def zM.l0 : Nat → List (S40) → Int → Int → ByteArray → Option (Bool)
 | 0,_,_,_,_ => none
 | k + 1,x0,x5,x232000,x232001 => if x5 < (x0.length : Int) then (if 0 ≤ x5 then (if (((zR x0 x5).f0) == x232000 && ((((zR x0 x5).f1).toList) == x232001.toList)) = true then (some true) else (zM.l0 k x0 (wrap64 (x5 + 1)) x232000 x232001)) else (none)) else (some false)
def zM.f (k : Nat) (l0 : List (S40)) (a1_0 : Int) (a1_1 : ByteArray) : Option (Bool) := zM.l0 k l0 0 a1_0 a1_1
set_option maxHeartbeats 8000000 in
set_option maxRecDepth 100000 in
theorem zM.calls (k : Nat) (A0 : Option Addr) (c0 : Nat) (l0 : List (S40)) (a1_0 : Int) (a1_1 : ByteArray) (r : Bool) (w : World) (hr0 : Kd.C k40 w A0 l0.length l0) (hc0 : l0.length ≤ c0) (h : zM.f k l0 a1_0 a1_1 = some r) :
  Calls Try.prog 17 #[.slice A0 l0.length c0,.agg #[.int .i64 a1_0,.string a1_1]] w fun e w' => e = .returned (.bool r) ∧ Below w.heap.size w w' := by
 have hu40 := Try.underlying40
 have HR0 := za.mk hr0
 have HC0 := za.mk hc0
 clear hr0 hc0
 have HB := za.mk (Below.refl w.heap.size w)
 have H : (zM.l0 k l0 0 a1_0 a1_1) = some r := h
 clear h
 have H' := za.mk H
 clear H
 go_enter Try.func17,Try.ntmps17
 go_wp2_with (first | ((with_reducible refine zo (N := 3) rfl ?_);refine zk rfl (N := 3) rfl (cs := #[.int .i64 a1_0,.string a1_1]) (t := 40) hrq ?_;intro gb231 hg w3 hbox hb;have n_ := haq (zd hBq hb) <| haq (hbox) <| haq ((by rw [hg];exact (zf hBq) : w.heap.size ≤ gb231)) <| haq ((by rw [hg];exact (zf hBq) : w.heap.size ≤ gb231)) <| trivial;clear HB;obtain ⟨HB,BK231,GW231,GE231,_⟩ := n_;clear hb hbox hg))
 repeat (go_quiet (first | ((with_reducible refine zo (N := 3) rfl ?_);refine zk rfl (N := 3) rfl (cs := #[.int .i64 a1_0,.string a1_1]) (t := 40) hrq ?_;intro gb231 hg w3 hbox hb;have n_ := haq (zd hBq hb) <| haq (hbox) <| haq ((by rw [hg];exact (zf hBq) : w.heap.size ≤ gb231)) <| haq ((by rw [hg];exact (zf hBq) : w.heap.size ≤ gb231)) <| trivial;clear HB;obtain ⟨HB,BK231,GW231,GE231,_⟩ := n_;clear hb hbox hg));try go_wp2_with (first | ((with_reducible refine zo (N := 3) rfl ?_);refine zk rfl (N := 3) rfl (cs := #[.int .i64 a1_0,.string a1_1]) (t := 40) hrq ?_;intro gb231 hg w3 hbox hb;have n_ := haq (zd hBq hb) <| haq (hbox) <| haq ((by rw [hg];exact (zf hBq) : w.heap.size ≤ gb231)) <| haq ((by rw [hg];exact (zf hBq) : w.heap.size ≤ gb231)) <| trivial;clear HB;obtain ⟨HB,BK231,GW231,GE231,_⟩ := n_;clear hb hbox hg)))
 go_loopg [5] k (fun kq v5 w' => ∃ (x5_1 : Int),v5 = .int .i64 x5_1 ∧ za (zM.l0 kq l0 x5_1 a1_0 a1_1 = some r) ∧ za (kq ≤ k) ∧ za (w'.heap[gb231]? = some (.cells #[.int .i64 a1_0,.string a1_1] 40 (0,0))) ∧ za (Below w.heap.size w w'))
 case atStart => exact ⟨(0),(hDq),H',⟨Nat.le_refl _⟩,⟨hGq BK231.out⟩,⟨by repeat (first | (with_reducible first | exact HB.out | apply zw | apply zg | apply zn | refine zE ?_ GE231.out) | exact HB.out)⟩⟩
 case round =>
  clear H'
  try clear c1;try clear p2
  obtain ⟨x5_1,rfl,HA,HK1,BK231,HB⟩ := hrel
  cases gk with
  | zero => exact absurd HA.out (by simp [zM.l0])
  | succ k1 =>
   have H := HA.out
   clear HA
   simp only [zM.l0] at H
   by_cases c4 : x5_1 < (l0.length : Int)
   ·rw [if_pos c4] at H
    have c4b0 : decide (x5_1 < (l0.length : Int)) = true := decide_eq_true c4
    clear c4
    by_cases c5 : 0 ≤ x5_1
    ·rw [if_pos c5] at H
     have c5b0 : decide (0 ≤ x5_1) = true := decide_eq_true c5
     clear c5
     by_cases c6 : (((zR l0 x5_1).f0) == a1_0 && ((((zR l0 x5_1).f1).toList) == a1_1.toList)) = true
     ·rw [if_pos c6] at H
      have c6b0 : (((zR l0 x5_1).f0) == a1_0 && ((((zR l0 x5_1).f1).toList) == a1_1.toList)) = true := c6
      (try (have c6b1 : decide (((zR l0 x5_1).f0) = a1_0 && ((((zR l0 x5_1).f1).toList) == a1_1.toList)) = true := by simpa using c6))
      (try (have c6b2 : (((zR l0 x5_1).f0) == a1_0 && ((((zR l0 x5_1).f1).toList) == a1_1.toList)) = true := by simpa using c6))
      clear c6
      obtain rfl := Option.some.inj H
      have p232 : 0 ≤ (x5_1 : Int) := hFq
      have q232 : x5_1 < (l0.length : Int) := hFq
      obtain ⟨ad232,e232,hx232_0,hx232_1⟩ := zcy HR0.out x5_1 p232 q232
      cases e232
      replace hx232_0 := (HB.out.cell (World.block_lt_of_cell? w _ hx232_0)).trans hx232_0
      replace hx232_1 := (HB.out.cell (World.block_lt_of_cell? w _ hx232_1)).trans hx232_1
      replace p232 := eq_true p232
      replace q232 := eq_true q232
      obtain ⟨hcz7_0,hcz7_1,hfz7_0,hfz7_1⟩ := hcq2 BK231.out
      go_wp2
      repeat (go_quiet (fail);try go_wp2)
      go_ret
      exact ⟨hHq,hCq⟩
     ·rw [if_neg c6] at H
      have c6b0 : (((zR l0 x5_1).f0) == a1_0 && ((((zR l0 x5_1).f1).toList) == a1_1.toList)) = false := by simpa using c6
      (try (have c6b1 : decide (((zR l0 x5_1).f0) = a1_0 && ((((zR l0 x5_1).f1).toList) == a1_1.toList)) = false := by simpa using c6))
      (try (have c6b2 : (((zR l0 x5_1).f0) == a1_0 && ((((zR l0 x5_1).f1).toList) == a1_1.toList)) = false := by simpa using c6))
      (try (have c6b3 : ¬ (((zR l0 x5_1).f0) = a1_0 && ((((zR l0 x5_1).f1).toList) == a1_1.toList)) := by simpa using c6))
      clear c6
      have H' := za.mk H
      clear H
      have p232 : 0 ≤ (x5_1 : Int) := hFq
      have q232 : x5_1 < (l0.length : Int) := hFq
      obtain ⟨ad232,e232,hx232_0,hx232_1⟩ := zcy HR0.out x5_1 p232 q232
      cases e232
      replace hx232_0 := (HB.out.cell (World.block_lt_of_cell? w _ hx232_0)).trans hx232_0
      replace hx232_1 := (HB.out.cell (World.block_lt_of_cell? w _ hx232_1)).trans hx232_1
      replace p232 := eq_true p232
      replace q232 := eq_true q232
      obtain ⟨hcz8_0,hcz8_1,hfz8_0,hfz8_1⟩ := hcq2 BK231.out
      go_wp2
      repeat (go_quiet (fail);try go_wp2)
      go_roundg k1
      case measure => have := HK1.out;omega
      case rel => exact ⟨(wrap64 (x5_1 + 1)),(hDq),H',⟨by have := HK1.out;omega⟩,⟨hGq BK231.out⟩,⟨by repeat (first | (with_reducible first | exact HB.out | apply zw | apply zg | apply zn | refine zE ?_ GE231.out) | exact HB.out)⟩⟩
    ·rw [if_neg c5] at H
     exact absurd H (by simp)
   ·rw [if_neg c4] at H
    have c4b0 : decide (x5_1 < (l0.length : Int)) = false := decide_eq_false c4
    clear c4
    obtain rfl := Option.some.inj H
    go_wp2
    repeat (go_quiet (fail);try go_wp2)
    go_ret
    exact ⟨hHq,hCq⟩
end Go.Proofs.Ytcncoepijagadaa.Px
namespace Go.Proofs.Ytcncoepijagadaa.Px
open Go.RowKit Go.Proofs.YtcncoepijagadaaW.PrintWords Go.Proofs.YtcncoepijagadaaW.PrintLast Go.Proofs.YtcncoepijagadaaW.PrintMore
attribute [local go_sem] zp zr zy zz zl zm zq zs
set_option linter.unusedVariables false
set_option linter.unusedSimpArgs false
theorem zes : zaU 1 1 [] [] 0 0 4 = true := by
 rw [zcm]
 simp [zcl,zdY,zbA]
theorem zfy : zdd 1 1 [] [] 0 0 7 4 = 0 := by
 rw [zgV]
 exact ⟨zes,by decide +kernel,by decide +kernel⟩
theorem zfx : zdd 1 1 [] [] 0 0 3 4 = 2 := by
 unfold zdd
 rw [if_pos zes,if_pos (by decide +kernel),if_pos (by decide +kernel)]
theorem zfz : zcZ 64 1 7 = [1,2,3] := by decide +kernel
theorem zgH (t : ByteArray) : zfT [(⟨1,t⟩ : S40),⟨2,t⟩,⟨3,t⟩] 7 t = true := by
 rw [zfT,zfz]
 simp [zbC]
theorem zhf : Ev (fun k => zaF.f k) true := by
 unfold zaF.f
 refine Ev.bind (zdP 1 1 [] [] 0 0 4 (by decide) (by simp) (by decide) (by simp)) ?_
 have hz := zc0 1 1 [] [] 0 0 4
 refine zF (by omega) ?_
 refine zS rfl ?_
 refine Ev.bind (zb7 4 _ (by decide) 1 1 [] [] 0 0 7 (by decide)) ?_
 refine Ev.bind (zb7 4 _ (by decide) 1 1 [] [] 0 0 3 (by decide)) ?_
 refine zS (show zaz.f (zaT 1 1 [] [] 0 0 4).1 = some (zgL (zaT 1 1 [] [] 0 0 4).1) from if_pos (by omega)) ?_
 refine zF rfl ?_
 refine zF ?_ (zat (Ev.now _) ?_)
 ·rw [zeo]
  exact ⟨zfy,zgH _⟩
 ·unfold zdJ
  rw [zfx];rfl
theorem zhM (b : List S40) (hb : b.length < 4611686018427387904) (i : Int) (t : ByteArray) (d : Nat) : ∀ j : Nat,j + d = b.length → Ev (fun k => zM.l0 k b (j : Int) i t) (zbC i t (b.drop j)) := by
 induction d with
 | zero =>
  intro j hj
  refine Ev.step (fun k => by rw [zM.l0]) ?_
  rw [List.drop_of_length_le (by omega)]
  exact zO (by omega) (Ev.now _)
 | succ d ih =>
  intro j hj
  refine Ev.step (fun k => by rw [zM.l0]) ?_
  have hlt : j < b.length := by omega
  rw [zdO b j hlt,List.drop_eq_getElem_cons hlt,z9 (by omega) (by omega)]
  refine zF (by omega) (zF (by omega) ?_)
  rw [show zbC i t (b[j] :: b.drop (j + 1)) = (decide (b[j].f0 = i ∧ b[j].f1 = t) || zbC i t (b.drop (j + 1))) from rfl]
  by_cases h : b[j].f0 = i ∧ b[j].f1 = t
  ·rw [decide_eq_true h]
   exact zF (by rw [h.1,h.2];simp) (Ev.now _)
  ·rw [decide_eq_false h,Bool.false_or]
   refine zO (fun hh => h ?_) (ih (j + 1) (by omega))
   rw [Bool.and_eq_true,beq_iff_eq,zeT,decide_eq_true_eq] at hh
   exact hh
theorem zhL (b : List S40) (hb : b.length < 4611686018427387904) (i : Int) (t : ByteArray) : Ev (fun k => zM.f k b i t) (zbC i t b) := by
 have := zhM b hb i t b.length 0 (by omega)
 rwa [List.drop_zero] at this
theorem zgp {o q : Int} {l : List ByteArray} (h : zcI o q l = true) : (toB (zck o q l)).size ≤ 400 := by
 obtain ⟨h1,h2,h3,h4,h5,h6,h7⟩ := (zcJ _ _ _).1 h
 have r1 := zcO l 48 (by omega) (fun t ht => (h7 t ht).2)
 have r2 := zan (v := l.length) (by omega)
 have r4 := zan (v := o.toNat) (by omega)
 have r5 := zan (v := q.toNat) (by omega)
 rw [zac,zck,List.length_append,List.length_append,zbB,List.length_append];omega
def zdH (o q : Int) (l : List ByteArray) : ByteArray × Int := if zcI o q l = true then (zeF ((⟨#[98]⟩ : ByteArray) ++ toB (zck o q l)),0) else ((⟨#[]⟩ : ByteArray),1)
theorem zex (o q : Int) (l : List ByteArray) : zbu.f o q l = some (zdH o q l) := by
 unfold zbu.f zdH
 rw [zc9]
 simp only [Option.bind_some]
 by_cases h : zcI o q l = true
 ·have hs := zgp h
  rw [if_pos h,if_pos h,if_pos rfl,if_pos (by show 1 + (toB (zck o q l)).size ≤ _;omega)]
  show (zbk.f ((⟨#[98]⟩ : ByteArray) ++ toB (zck o q l))).bind _ = _
  rw [zfi (by rw [ze4];omega)]
  rfl
 ·rw [if_neg h,if_neg h,if_neg (by simp)]
def zim (x : S50) : S40 := ⟨x.f0,(⟨#[111]⟩ : ByteArray) ++ (zdH x.f0 x.f1 x.f2).1⟩
def inB (b : List S40) (s : S40) : Bool := zbC s.f0 s.f1 b
def zd3 (b : List S40) (a r : Int) (bs : List S50) (ps : List ByteArray) (x y n : Int) : Int :=
 if zaU a r bs ps x y n = true then (if ((⟨a,(⟨#[104]⟩ : ByteArray) ++ (zaT a r bs ps x y n).1⟩ : S40) :: bs.map zim).all (inB b) = true then 0 else 10) else 1
theorem zgo (o q : Int) (l : List ByteArray) : (zdH o q l).1.size ≤ 32 := by
 unfold zdH
 split
 ·exact Nat.le_of_eq (zfO _)
 ·exact Nat.zero_le _
theorem zgt (b l : List S40) (hb : b.length < 4611686018427387904) : za3.f b l = some (l.all (inB b)) := by
 rw [za3.f,if_pos hb,List.all_eq_not_any_not]
 rfl
theorem zeU (b : List S40) (hb : b.length < 4611686018427387904) (bs : List S50) (hl : bs.length ≤ 4) (d : Nat) : ∀ (j : Nat) (acc : List S40),j + d = bs.length → acc.length ≤ j + 1 →
  Ev (fun k => zI.l0 k b acc bs (bs.length : Int) (j : Int)) (if (acc ++ (bs.drop j).map zim).all (inB b) = true then 0 else 10) := by
 induction d with
 | zero =>
  intro j acc hj ha
  refine Ev.step (fun k => by rw [zI.l0]) ?_
  rw [List.drop_of_length_le (by omega),List.map_nil,List.append_nil]
  refine zO (by omega) (zS (zgt b acc hb) ?_)
  exact zgS (fun _ => Ev.now _) (fun _ => Ev.now _)
 | succ d ih =>
  intro j acc hj ha
  refine Ev.step (fun k => by rw [zI.l0]) ?_
  have hlt : j < bs.length := by omega
  rw [zdj bs j hlt,List.drop_eq_getElem_cons hlt,List.map_cons,z9 (by omega) (by omega)]
  have hz := zgo bs[j].f0 bs[j].f1 bs[j].f2
  refine zF (by omega) (zF (by omega) (zF (by omega) (zS (zex _ _ _) (zS (show zbI.f (zdH bs[j].f0 bs[j].f1 bs[j].f2).1 = some ((⟨#[111]⟩ : ByteArray) ++ (zdH bs[j].f0 bs[j].f1 bs[j].f2).1) from if_pos (by omega)) (zF (by omega) ?_)))))
  have := ih (j + 1) (acc ++ [zim bs[j]]) (by omega) (by rw [List.length_append,List.length_cons,List.length_nil];omega)
  rw [List.append_assoc,List.singleton_append] at this
  exact this
theorem zda (b : List S40) (hb : b.length < 4611686018427387904) (a r : Int) (bs : List S50) (ps : List ByteArray) (x y n : Int) : Ev (fun k => zI.f k n b a r bs ps x y) (zd3 b a r bs ps x y n) := by
 unfold zI.f zd3
 refine zS (zcP ..) ?_
 by_cases h : zaU a r bs ps x y n = true
 ·have hl := ((zcm ..).1 h).2.2.2.2.2.1
  have hz := zc0 a r bs ps x y n
  rw [if_pos h]
  refine zF (by unfold zaT;rw [if_pos h]) ?_
  refine zS (show zbt.f (zaT a r bs ps x y n).1 = some ((⟨#[104]⟩ : ByteArray) ++ (zaT a r bs ps x y n).1) from if_pos (by omega)) ?_
  have := zeU b hb bs (by omega) bs.length 0 [⟨a,(⟨#[104]⟩ : ByteArray) ++ (zaT a r bs ps x y n).1⟩] (by omega) (by simp)
  rw [List.drop_zero,List.singleton_append] at this
  exact this
 ·rw [if_neg h]
  have e : (zaT a r bs ps x y n).2 = 1 := by unfold zaT;rw [if_neg h]
  rw [e]
  exact zO (by decide) (Ev.now _)
def zhi (a : Act) : List (Nat × Tmp) → Act
 | [] => a
 | p :: is => zhi (a.put (some p.2) undef) is
def zht (T : Bool × List (List Nat × List Nat)) (l' : List Bool) : List Bool → List (Nat × Tmp) → Bool
 | l,[] => l == l'
 | l,p :: is => T.1 && zfG T.2 l p.1 && zci T.2 l p.1 && zht T l' (l.set p.1 true) is
def zgZ (ops : Array Oper) : Act → List (Nat × Tmp) → Bool
 | _,[] => true
 | a,p :: is => (match ops[p.1]? with | some o => (o.dst == some p.2) && !Region.wanted o (yielded ops a.tmps) | none => false) && zgZ ops (a.put (some p.2) undef) is
theorem offs_ {P : Program} {ops : Array Oper} {Q : Exit → Act → World → Prop} {S : World → Prop} {ds : List Nat} {T : Bool × List (List Nat × List Nat)} {w : World} (hQ : ∀ c a d v w,Q (.panic c) (Act.put a (some d) v) w → Q (.panic c) a w) (hT : zbT .any ops = T) : ∀ (is : List (Nat × Tmp)) (fuel : Nat) {n : Nat} (_ : fuel + is.length = n) {l : Array Bool} (l' : Array Bool) {a : Act} (_ : zht T l'.toList l.toList is = true) (_ : zgZ ops a is = true) {a' : Act} (_ : zhi a is = a') (_ : zU P .any ops Q S ds fuel l' a' w),zU P .any ops Q S ds n l a w := by
 intro is
 induction is with
 | nil =>
  intro fuel n hn l l' a hc _ a' ha h
  subst hn;subst ha
  simp only [zht,beq_iff_eq] at hc
  have : l = l' := by rw [← Array.toArray_toList (xs := l),hc]
  subst this
  exact h
 | cons p is ih =>
  intro fuel n hn l l' a hc ho a' ha h
  subst hn
  simp only [zht,Bool.and_eq_true] at hc
  obtain ⟨⟨⟨h1,h2⟩,h3⟩,h4⟩ := hc
  simp only [zgZ,Bool.and_eq_true] at ho
  obtain ⟨ho,h5⟩ := ho
  rcases hi : ops[p.1]? with _ | o
  ·rw [hi] at ho;cases ho
  ·rw [hi] at ho
   simp only [Bool.and_eq_true,beq_iff_eq,Bool.not_eq_true'] at ho
   refine za4 (fuel := fuel + is.length) (l.setIfInBounds p.1 true) hi ho.1 (zbn hT ?_) (fun c a w => by rw [ho.1];exact hQ c a _ _ w) (Or.inr ⟨ho.2,rfl⟩) rfl (ih fuel rfl l' ?_ h5 ha h)
   ·simp only [ziI,h1,h2,h3,Bool.true_and]
    simp
   ·rw [Array.toList_setIfInBounds];exact h4
theorem adb {w0 w w1 : World} {g : Nat} {o : Obj} (x_ : w0.heap[g]? = some o) (hb_ : Below w.heap.size w w1) (h_ : w0.heap[g]? = some o → w.heap[g]? = some o := by intro x_;(with_reducible repeat (first | refine zX ?_ _ | refine zav ?_ | refine zaQ ?_ _));exact x_) : w1.heap[g]? = some o := zx (h_ x_) hb_
theorem adl {w w0 w1 w2 : World} (x_ : Below w.heap.size w w0) (hb_ : Below w1.heap.size w1 w2) (h_ : Below w.heap.size w w0 → Below w.heap.size w w1 := by intro x_;(repeat (with_reducible first | exact x_ | apply zw | apply zg | apply zn))) : Below w.heap.size w w2 := zd (h_ x_) hb_
theorem adw {w w0 w1 : World} (x_ : Below w.heap.size w w0) (h_ : Below w.heap.size w w0 → Below w.heap.size w w1 := by intro x_;(repeat (with_reducible first | exact x_ | apply zw | apply zg | apply zn))) : Below w.heap.size w w1 := h_ x_
theorem adg {w w0 w1 : World} {g : Nat} (x_ : Below w.heap.size w w0) (hg_ : g = w1.heap.size) (h_ : Below w.heap.size w w0 → Below w.heap.size w w1 := by intro x_;(repeat (with_reducible first | exact x_ | apply zw | apply zg | apply zn))) : w.heap.size ≤ g := by rw [hg_];exact zf (h_ x_)
theorem adn {w0 w : World} {g q : Nat} {o : Obj} (hg_ : q = w.heap.size) (x_ : w0.heap[g]? = some o) (h_ : w0.heap[g]? = some o → w.heap[g]? = some o := by intro x_;(with_reducible repeat (first | refine zX ?_ _ | refine zav ?_ | refine zaQ ?_ _));exact x_) : g ≠ q := by rw [hg_];exact Nat.ne_of_lt (za6 (h_ x_))
theorem adf {w1 W W' : World} {g q : Nat} {o : Obj} (hw_ : W' = W) (n_ : g ≠ q) (x_ : w1.heap[g]? = some o) (h_ : g ≠ q → w1.heap[g]? = some o → W.heap[g]? = some o := by intro n_ x_;(repeat (first | (with_reducible exact x_) | (with_reducible refine zX ?_ _) | (with_reducible refine zav ?_) | (with_reducible refine zaQ ?_ _) | refine zb6 ?_ n_ _))) : W'.heap[g]? = some o := by rw [hw_];exact h_ n_ x_
theorem adp {w1 W W' : World} {g : Nat} {o o' : Obj} (hw_ : W' = W) (x_ : w1.heap[g]? = some o) (h_ : w1.heap[g]? = some o → W.heap[g]? = some o' := by intro x_;(repeat (first | (with_reducible exact x_) | (with_reducible refine zX ?_ _) | (with_reducible refine zav ?_) | (with_reducible refine zaQ ?_ _) | apply za7));all_goals first | (with_reducible rfl) | (simp only [List.setIfInBounds_toArray,List.set_cons_zero,List.set_cons_succ];done) | rfl) : W'.heap[g]? = some o' := by rw [hw_];exact h_ x_
theorem ads {w w0 W W' : World} {g : Nat} (hw_ : W' = W) (n_ : w.heap.size ≤ g) (x_ : Below w.heap.size w w0) (h_ : w.heap.size ≤ g → Below w.heap.size w w0 → Below w.heap.size w W := by intro n_ x_;(repeat (with_reducible first | exact x_ | apply zw | apply zg | apply zn | refine zE ?_ n_))) : Below w.heap.size w W' := by rw [hw_];exact h_ n_ x_
section
variable {P : Program} {ops : Array Oper} {rest : List Oper} {o : Oper} {a : Act} {Q : Exit → Act → World → Prop}
end
end Go.Proofs.Ytcncoepijagadaa.Px