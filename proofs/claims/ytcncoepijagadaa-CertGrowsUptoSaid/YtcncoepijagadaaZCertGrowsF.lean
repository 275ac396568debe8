/- Part 6 of 24 of the proof of the law CertGrows: what is proved is the statement at the end of the last part; its conditions are those of the given row. -/
import Derived.Test.YtcncoepijagadaaZCertGrowsE
namespace Go.Proofs.Ytcncoepijagadaa.Px
open Go.RowKit Go.Proofs.YtcncoepijagadaaW.PrintWords Go.Proofs.YtcncoepijagadaaW.PrintLast Go.Proofs.YtcncoepijagadaaW.PrintMore
attribute [local go_sem] zp zr zy zz zl zm zq zs
set_option linter.unusedVariables false
set_option linter.unusedSimpArgs false
mutual
def zt.l0 : Nat → ByteArray → ByteArray → Int → Option (Bool)
 | 0,_,_,_ => none
 | k + 1,x0,x1,x5 => if x5 < (x0.size : Int) then (zt.j1 k x0 x1 x5 (decide (x5 < (x1.size : Int)))) else (zt.j1 k x0 x1 x5 false)
def zt.j1 : Nat → ByteArray → ByteArray → Int → Bool → Option (Bool)
 | 0,_,_,_,_ => none
 | k + 1,x0,x1,x5,x15 => if x15 = true then (if 0 ≤ x5 then (if x5 < (x0.size : Int) then (if x5 < (x1.size : Int) then (if (bt x0 x5) = (bt x1 x5) then (zt.l0 k x0 x1 (wrap64 (x5 + 1))) else (some (decide ((bt x0 x5) < (bt x1 x5))))) else (none)) else (none)) else (none)) else (some (decide ((x0.size : Int) < (x1.size : Int))))
end
def zt.f (k : Nat) (a0 : ByteArray) (a1 : ByteArray) : Option (Bool) := zt.l0 k a0 a1 0
set_option maxHeartbeats 8000000 in
set_option maxRecDepth 100000 in
theorem zt.calls (k : Nat) (a0 : ByteArray) (a1 : ByteArray) (r : Bool) (w : World) (h : zt.f k a0 a1 = some r) :
  Calls Try.prog 32 #[.string a0,.string a1] w fun e w' => e = .returned (.bool r) ∧ zaq w w' := by
 have H : (zt.l0 k a0 a1 0) = some r := h
 clear h
 have H' := za.mk H
 clear H
 go_enter Try.func32,Try.ntmps32
 go_wp2
 repeat (go_quiet (fail);try go_wp2)
 go_loopg [5] k (fun kq v5 w' => ∃ (x5_1 : Int),v5 = .int .i64 x5_1 ∧ za (zt.l0 kq a0 a1 x5_1 = some r) ∧ za (kq ≤ k) ∧ zaq w w')
 case atStart => exact ⟨(0),(hDq),H',⟨Nat.le_refl _⟩,hEq⟩
 case round =>
  clear H'
  try clear p2
  obtain ⟨x5_1,rfl,HA,HK1,⟨m1,rfl⟩⟩ := hrel
  cases gk with
  | zero => exact absurd HA.out (by simp [zt.l0])
  | succ k1 =>
   have H := HA.out
   clear HA
   simp only [zt.l0] at H
   have HC3 := za.mk H
   clear H
   go_upto_region 2 with (fail)
   repeat (go_quiet (fail);go_upto_region 2 with (fail))
   go_cut [15] (fun v15 wc => ∃ (kq : Nat) (x15_2 : Bool),v15 = .bool x15_2 ∧ za (zt.j1 kq a0 a1 x5_1 x15_2 = some r) ∧ za (kq ≤ k1) ∧ zaq w wc)
   case first =>
    have H := HC3.out
    clear HC3
    by_cases c4 : x5_1 < (a0.size : Int)
    ·rw [if_pos c4] at H
     have c4b0 : decide (x5_1 < (a0.size : Int)) = true := decide_eq_true c4
     clear c4
     (first | rw [c4b0] | (simp only [zaB,zaL];rw [c4b0]) | skip)
     have H' := za.mk H
     clear H
     go_wp2
     repeat (go_quiet (fail);try go_wp2)
     go_meet
     case rel => exact ⟨_,(decide (x5_1 < (a1.size : Int))),(hDq),H',⟨by have := HK1.out;first | omega | exact Nat.le_refl _⟩,hEq⟩
    ·rw [if_neg c4] at H
     have c4b0 : decide (x5_1 < (a0.size : Int)) = false := decide_eq_false c4
     clear c4
     (first | rw [c4b0] | (simp only [zaB,zaL];rw [c4b0]) | skip)
     have H' := za.mk H
     clear H
     go_wp2
     repeat (go_quiet (fail);try go_wp2)
     go_meet
     case rel => exact ⟨_,(false),(hDq),H',⟨by have := HK1.out;first | omega | exact Nat.le_refl _⟩,hEq⟩
   case rest =>
    clear HC3
    try clear p2;try clear c3;try clear c4;try clear c4b0;try clear p2
    obtain ⟨kq,x15_2,rfl,HA,HJ2,⟨mc2,rfl⟩⟩ := hcut
    cases kq with
    | zero => exact absurd HA.out (by simp [zt.j1])
    | succ kj2 =>
     have H := HA.out
     clear HA
     simp only [zt.j1] at H
     by_cases c5 : x15_2 = true
     ·subst c5
      have H1 : (if 0 ≤ x5_1 then (if x5_1 < (a0.size : Int) then (if x5_1 < (a1.size : Int) then (if (bt a0 x5_1) = (bt a1 x5_1) then (zt.l0 kj2 a0 a1 (wrap64 (x5_1 + 1))) else (some (decide ((bt a0 x5_1) < (bt a1 x5_1))))) else (none)) else (none)) else (none)) = some r := by rw [if_pos rfl] at H;exact H
      clear H
      have H := H1
      clear H1
      by_cases c6 : 0 ≤ x5_1
      ·rw [if_pos c6] at H
       have c6b0 : decide (0 ≤ x5_1) = true := decide_eq_true c6
       clear c6
       by_cases c7 : x5_1 < (a0.size : Int)
       ·rw [if_pos c7] at H
        have c7b0 : decide (x5_1 < (a0.size : Int)) = true := decide_eq_true c7
        clear c7
        by_cases c9 : x5_1 < (a1.size : Int)
        ·rw [if_pos c9] at H
         have c9b0 : decide (x5_1 < (a1.size : Int)) = true := decide_eq_true c9
         clear c9
         by_cases c11 : (bt a0 x5_1) = (bt a1 x5_1)
         ·rw [if_pos c11] at H
          have c11b0 : ((bt a0 x5_1) == (bt a1 x5_1)) = true := beq_iff_eq.mpr c11
          have c11b1 : ((bt a0 x5_1) != (bt a1 x5_1)) = false := bne_eq_false_iff_eq.mpr c11
          clear c11
          have H' := za.mk H
          clear H
          have p8 : 0 ≤ (x5_1 : Int) := hFq
          have q8 : x5_1 < (a0.size : Int) := hFq
          have hx8 := zct a0 x5_1
          replace p8 := eq_true p8
          replace q8 := eq_true q8
          have p10 : 0 ≤ (x5_1 : Int) := hFq
          have q10 : x5_1 < (a1.size : Int) := hFq
          have hx10 := zct a1 x5_1
          replace p10 := eq_true p10
          replace q10 := eq_true q10
          go_wp2
          repeat (go_quiet (fail);try go_wp2)
          go_roundg kj2
          case measure => have := HK1.out;have := HJ2.out;omega
          case rel => exact ⟨(wrap64 (x5_1 + 1)),(hDq),H',⟨by have := HK1.out;have := HJ2.out;omega⟩,hEq⟩
         ·rw [if_neg c11] at H
          have c11b0 : ((bt a0 x5_1) == (bt a1 x5_1)) = false := beq_eq_false_iff_ne.mpr c11
          have c11b1 : ((bt a0 x5_1) != (bt a1 x5_1)) = true := bne_iff_ne.mpr c11
          obtain rfl := Option.some.inj H
          have p8 : 0 ≤ (x5_1 : Int) := hFq
          have q8 : x5_1 < (a0.size : Int) := hFq
          have hx8 := zct a0 x5_1
          replace p8 := eq_true p8
          replace q8 := eq_true q8
          have p10 : 0 ≤ (x5_1 : Int) := hFq
          have q10 : x5_1 < (a1.size : Int) := hFq
          have hx10 := zct a1 x5_1
          replace p10 := eq_true p10
          replace q10 := eq_true q10
          have p12 : 0 ≤ (x5_1 : Int) := hFq
          have q12 : x5_1 < (a0.size : Int) := hFq
          have hx12 := zct a0 x5_1
          replace p12 := eq_true p12
          replace q12 := eq_true q12
          have p13 : 0 ≤ (x5_1 : Int) := hFq
          have q13 : x5_1 < (a1.size : Int) := hFq
          have hx13 := zct a1 x5_1
          replace p13 := eq_true p13
          replace q13 := eq_true q13
          go_wp2
          repeat (go_quiet (fail);try go_wp2)
          go_ret
          exact ⟨hDq,hEq⟩
        ·rw [if_neg c9] at H
         exact absurd H (by simp)
       ·rw [if_neg c7] at H
        exact absurd H (by simp)
      ·rw [if_neg c6] at H
       exact absurd H (by simp)
     ·replace c5 := Bool.eq_false_iff.mpr c5
      subst c5
      have H1 : (some (decide ((a0.size : Int) < (a1.size : Int)))) = some r := by rw [if_neg (show ¬ (false = true) by decide)] at H;exact H
      clear H
      have H := H1
      clear H1
      obtain rfl := Option.some.inj H
      go_wp2
      repeat (go_quiet (fail);try go_wp2)
      go_ret
      exact ⟨hDq,hEq⟩
def zde : Bs → Bs → Bool
 | [],b => !b.isEmpty
 | _ :: _,[] => false
 | x :: xs,y :: ys => if x = y then zde xs ys else decide (x.toNat < y.toNat)
theorem zh1 (l : Bs) (j : Nat) : bt (toB l) (j : Int) = ((l.getD j 0).toNat : Int) := by rw [bt_ofB,zcw]
theorem zd9 (l : Bs) (j : Nat) (h : j < l.length) : l.drop j = l.getD j 0 :: l.drop (j + 1) := by
 rw [List.drop_eq_getElem_cons h,List.getD_eq_getElem?_getD,List.getElem?_eq_getElem h];rfl
theorem zhE (a b : Bs) (ha : a.length < 4611686018427387904) (d : Nat) : ∀ j,j + d = a.length →
  Ev (fun k => zt.l0 k (toB a) (toB b) (j : Int)) (zde (a.drop j) (b.drop j)) := by
 induction d with
 | zero =>
  intro j hj
  have e : a.drop j = [] := List.drop_eq_nil_of_le (by omega)
  refine Ev.step (fun k => by rw [zt.l0]) ?_
  refine zO (by rw [zac];omega) (Ev.step (fun k => by rw [zt.j1]) ?_)
  refine zO (by simp) (zat (Ev.now _) ?_)
  rw [e,zde,zac,zac]
  by_cases h : j < b.length
  ·rw [zd9 b j h];simp;omega
  ·rw [List.drop_eq_nil_of_le (by omega)];simp;omega
 | succ d ih =>
  intro j hj
  have e := zd9 a j (by omega)
  refine Ev.step (fun k => by rw [zt.l0]) ?_
  refine zF (by rw [zac];omega) (Ev.step (fun k => by rw [zt.j1]) ?_)
  by_cases h : j < b.length
  ·have f := zd9 b j h
   refine zF (by rw [zac];simp;omega) (zF (by omega) (zF (by rw [zac];omega) (zF (by rw [zac];omega) ?_)))
   rw [zh1,zh1,z9 (by omega) (by omega),e,f,zde]
   by_cases hx : a.getD j 0 = b.getD j 0
   ·rw [if_pos hx]
    exact zF (by rw [hx]) (ih (j + 1) (by omega))
   ·rw [if_neg hx]
    exact zO (fun h => hx (UInt8.toNat_inj.1 (by omega))) (zat (Ev.now _) (by simp))
  ·have f : b.drop j = [] := List.drop_eq_nil_of_le (by omega)
   refine zO (by rw [zac];simp;omega) (zat (Ev.now _) ?_)
   rw [e,f,zde,zac,zac]
   simp;omega
theorem zhq (a b : ByteArray) (ha : a.size < 4611686018427387904) : Ev (fun k => zt.f k a b) (zde (ofB a) (ofB b)) := by
 have h := zhE (ofB a) (ofB b) (by rw [zaa];exact ha) (ofB a).length 0 (by omega)
 rw [zdu,zdu] at h
 exact h
theorem zc2 : ∀ a b : Bs,Op.bytesLess a b = zde a b
 | [],[] => rfl
 | [],_ :: _ => rfl
 | _ :: _,[] => rfl
 | x :: xs,y :: ys => by
  rw [Op.bytesLess,zde,zc2 xs ys]
  by_cases h : x = y
  ·subst h;simp
  ·rw [if_neg h]
   have hn : x.toNat ≠ y.toNat := fun e => h (UInt8.toNat_inj.1 e)
   by_cases h1 : x < y
   ·have := UInt8.lt_iff_toNat_lt.1 h1
    simp [h1,this]
   ·have h2 : ¬ x.toNat < y.toNat := fun e => h1 (UInt8.lt_iff_toNat_lt.2 e)
    have h3 : y < x := UInt8.lt_iff_toNat_lt.2 (by omega)
    simp [h1,h2]
    exact fun e => absurd e h
def zdf (n : Int) : Bool := decide (4 ≤ n) && decide (n ≤ 64) && decide (n % 3 = 1)
theorem zau (n : Int) : zaf.f n = some (zdf n) := by
 unfold zaf.f zdf
 by_cases h : n ≥ 4
 ·rw [if_pos h]
  by_cases h1 : n ≤ 64
  ·rw [if_pos h1,Int.tmod_eq_emod_of_nonneg (by omega)]
   by_cases h2 : n % 3 = 1
   ·simp [h1,h2];omega
   ·simp [h2]
  ·rw [if_neg h1];simp [h1]
 ·rw [if_neg h]
  have : ¬ 4 ≤ n := by omega
  simp [this]
theorem zcl (n : Int) : zdf n = true ↔ 4 ≤ n ∧ n ≤ 64 ∧ n % 3 = 1 := by
 unfold zdf;simp [and_assoc]
def za9 (n : Int) : Int := if zdf n = true then n - (n - 1) / 3 else 0
theorem zc3 (n : Int) : zak.f n = some (za9 n) := by
 unfold zak.f zba.f za9
 rw [zau]
 simp only [Option.bind_some]
 by_cases h : zdf n = true
 ·rw [if_pos h,if_pos h,if_pos h]
  obtain ⟨h1,h2,h3⟩ := (zcl n).1 h
  simp only [Option.bind_some]
  rw [z9 (x := n - 1) (by omega) (by omega),Int.tdiv_eq_ediv_of_nonneg (by omega),z9 (x := (n - 1) / 3) (by omega) (by omega),z9 (by omega) (by omega)]
 ·rw [if_neg h,if_neg h]
def zez (a b : Int) : Bool := decide (0 ≤ a) && decide (a < 10007) && decide (0 ≤ b) && decide (b < 10007)
theorem zdY (a b : Int) : zez a b = true ↔ 0 ≤ a ∧ a < 10007 ∧ 0 ≤ b ∧ b < 10007 := by
 unfold zez;simp [and_assoc]
theorem zbP (a b : Int) : zbw.f a b = some (zez a b) := by
 unfold zbw.f zez
 by_cases h1 : 0 ≤ a <;> by_cases h2 : a < 10007 <;> by_cases h3 : 0 ≤ b <;> simp [h1,h2,h3]
def zcD (r : Int) : Bool := decide (3 ≤ r) && decide (r % 3 = 0)
theorem zbF (r : Int) : zbc.f r = some (zcD r) := by
 unfold zbc.f zcD
 by_cases h : r ≥ 3
 ·rw [if_pos h,Int.tmod_eq_emod_of_nonneg (by omega)]
  have : 3 ≤ r := h
  by_cases h2 : r % 3 = 0 <;> simp [this,h2]
 ·rw [if_neg h]
  have : ¬ 3 ≤ r := by omega
  simp [this]
def zfA (l : List ByteArray) (j : Nat) : Bool := decide ((l.getD j ByteArray.empty).size = 32) && (decide (j = 0) || zde (ofB (l.getD (j - 1) ByteArray.empty)) (ofB (l.getD j ByteArray.empty)))
def zaP (l : List ByteArray) : Nat → Nat → Bool
 | 0,_ => true
 | d + 1,j => zfA l j && zaP l d (j + 1)
def zbA (l : List ByteArray) (r n : Int) : Bool :=
 if r = 1 then decide (l.length = 0) else zaP l l.length 0 && decide (za9 n ≤ l.length) && decide ((l.length : Int) ≤ n)
theorem zf9 (l : List ByteArray) (n : Int) (hl : l.length ≤ 9223372036854775807) (d : Nat) : ∀ j,j + d = l.length →
  Ev (fun k => zW.l0 k l n l (l.length : Int) (j : Int)) (zaP l d j && decide (za9 n ≤ l.length) && decide ((l.length : Int) ≤ n)) := by
 induction d with
 | zero =>
  intro j hj
  refine Ev.step (fun k => by rw [zW.l0]) ?_
  refine zO (by omega) (zS (zc3 n) ?_)
  by_cases h : za9 n ≤ l.length
  ·exact zF h (zat (Ev.now _) (by simp [zaP,h]))
  ·exact zO h (zat (Ev.now _) (by simp [zaP,h]))
 | succ d ih =>
  intro j hj
  refine Ev.step (fun k => by rw [zW.l0]) ?_
  refine zF (by omega) (zF (by omega) (zF (by omega) ?_))
  have e1 : zu ByteArray.empty l (j : Int) = l.getD j ByteArray.empty := by rw [zu,Int.toNat_natCast]
  rw [e1]
  by_cases h : (l.getD j ByteArray.empty).size = 32
  ·refine zF (by omega) ?_
   rw [z9 (x := (j : Int) + 1) (by omega) (by omega)]
   by_cases h0 : j = 0
   ·subst h0
    refine zO (by omega) (zat (ih 1 (by omega)) ?_)
    simp only [zaP,zfA,h];simp
   ·refine zF (by omega) ?_
    have e2 : wrap64 ((j : Int) - 1) = ((j - 1 : Nat) : Int) := by rw [z9 (by omega) (by omega)];omega
    rw [e2]
    refine zF (by omega) (zF (by omega) ?_)
    have e3 : zu ByteArray.empty l ((j - 1 : Nat) : Int) = l.getD (j - 1) ByteArray.empty := by rw [zu,Int.toNat_natCast]
    rw [e3,zb4,zb4,zc2]
    by_cases h2 : zde (ofB (l.getD (j - 1) ByteArray.empty)) (ofB (l.getD j ByteArray.empty)) = true
    ·refine zF h2 (zat (ih (j + 1) (by omega)) ?_)
     simp only [zaP,zfA,h,h2];simp
    ·refine zO h2 (zat (Ev.now _) ?_)
     rw [Bool.not_eq_true] at h2
     simp only [zaP,zfA,h,h0,h2];simp
  ·refine zO (by omega) (zat (Ev.now _) ?_)
   simp only [zaP,zfA,h];simp
theorem zg2 (l : List ByteArray) (r n : Int) (hl : l.length ≤ 9223372036854775807) : Ev (fun k => zW.f k l r n) (zbA l r n) := by
 unfold zbA
 by_cases h : r = 1
 ·rw [if_pos h]
  refine zF h (zat (Ev.now _) ?_)
  by_cases h0 : l.length = 0 <;> simp [h0]
 ·rw [if_neg h]
  exact zO h (zf9 l n hl l.length 0 (by omega))
end Go.Proofs.Ytcncoepijagadaa.Px