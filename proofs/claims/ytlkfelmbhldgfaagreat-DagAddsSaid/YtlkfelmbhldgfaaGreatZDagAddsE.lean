/- Part 5 of 36 of the proof of the law DagAdds: what is proved is the statement at the end of the last part; its conditions are those of the given row. -/
import Derived.Laws.BitsAllLaws
import Derived.Test.YtlkfelmbhldgfaaGreatZDagAddsD
namespace Go.Proofs.YtlkfelmbhldgfaaGreat.Px
open Go.RowKit Go.Proofs.YtlkfelmbhldgfaaGreatW.PrintWords Go.Proofs.YtlkfelmbhldgfaaGreatW.PrintLast Go.Proofs.YtlkfelmbhldgfaaGreatW.PrintMore
attribute [local go_sem] zA zC zH zI zv zw zB zD
set_option linter.unusedVariables false
set_option linter.unusedSimpArgs false
abbrev Bs := List UInt8
def toB (l : Bs) : ByteArray := ⟨l.toArray⟩
def ofB (s : ByteArray) : Bs := s.data.toList
theorem zc5 (l : Bs) : ofB (toB l) = l := by simp [ofB,toB]
theorem zd6 (s : ByteArray) : toB (ofB s) = s := by simp [ofB,toB]
theorem ziH {a b : ByteArray} (h : ofB a = ofB b) : a = b := by rw [← zd6 a,← zd6 b,h]
theorem zat (s : ByteArray) : (ofB s).length = s.size := by rw [ofB,Array.length_toList];rfl
theorem zax (l : Bs) : (toB l).size = l.length := by rw [← zat,zc5]
theorem zh5 (a b : ByteArray) : ofB (a ++ b) = ofB a ++ ofB b := by simp [ofB]
theorem zbg (a b : Bs) : toB (a ++ b) = toB a ++ toB b := ziH (by rw [zh5,zc5,zc5,zc5])
theorem zcw (s : ByteArray) : s.toList = ofB s := ByteArray.toList_eq s
theorem bt_ofB (s : ByteArray) (i : Nat) : bt s (i : Int) = (((ofB s).getD i 0).toNat : Int) := by
 unfold bt ofB
 split
 ·rename_i h
  have h' : i < s.data.toList.length := by rw [ze9];simpa using h
  simp [List.getD_eq_getElem?_getD,List.getElem?_eq_getElem h']
  rfl
 ·rename_i h
  have h' : s.data.toList.length ≤ i := by rw [ze9];simp at h;omega
  simp [List.getD_eq_getElem?_getD,List.getElem?_eq_none h']
theorem zbN (xs : List Int) : strOfNums xs = toB (xs.map fun n => UInt8.ofNat n.toNat) := rfl
def be (v : Nat) : Bs := if v = 0 then [] else be (v / 256) ++ [UInt8.ofNat (v % 256)]
termination_by v
decreasing_by omega
theorem zet : be 0 = [] := by rw [be];simp
theorem zgR {v : Nat} (h : 0 < v) : be v = be (v / 256) ++ [UInt8.ofNat (v % 256)] := by rw [be,if_neg (by omega)]
def val (l : Bs) : Nat := l.foldl (fun a c => a * 256 + c.toNat) 0
theorem ziQ (n : Nat) : ∀ v : Nat,(be v).length ≤ n ↔ v < 256 ^ n := by
 induction n with
 | zero =>
  intro v
  rcases Nat.eq_zero_or_pos v with h | h
  ·subst h;simp [zet]
  ·rw [zgR h];simp;omega
 | succ n ih =>
  intro v
  rcases Nat.eq_zero_or_pos v with h | h
  ·subst h;simp [zet,Nat.pow_pos]
  ·rw [zgR h,List.length_append,List.length_singleton,Nat.succ_le_succ_iff,ih,Nat.pow_succ,Nat.mul_comm,Nat.div_lt_iff_lt_mul (by omega),Nat.mul_comm]
theorem be_len8 {v : Nat} (h : v < 18446744073709551616) : (be v).length ≤ 8 := by
 have : (256 : Nat) ^ 8 = 18446744073709551616 := by decide
 exact (ziQ 8 v).2 (by rw [this];exact h)
def zda (v : Nat) : Bs := UInt8.ofNat (be v).length :: be v
def zbq (v : Nat) : ByteArray := toB (zda v)
def zf9 (t : Bs) : Bs := zda t.length ++ t
def zeh (t : ByteArray) : ByteArray := zbq t.size ++ t
theorem textB_eq (t : ByteArray) : zeh t = toB (zf9 (ofB t)) := by rw [zf9,zbg,zd6,zat];rfl
theorem za2 {v : Nat} (h : v < 18446744073709551616) : (zda v).length ≤ 9 := by
 have := be_len8 h
 simp only [zda,List.length_cons];omega
theorem za9 {v : Nat} (h : v < 18446744073709551616) : (zbq v).size ≤ 9 := by rw [zbq,zax];exact za2 h
theorem zfQ (v : Nat) (L : List Int) (h : L.map (fun n => UInt8.ofNat n.toNat) = be v) : strOfNums ((L.length : Int) :: L) = zbq v := by
 rw [zbN,List.map_cons,h,zbq,zda]
 have : L.length = (be v).length := by rw [← h,List.length_map]
 rw [this,Int.toNat_natCast]
mutual
def zG.l0 : Nat → ByteArray → ByteArray → Int → Option (Bool)
 | 0,_,_,_ => none
 | k + 1,x0,x1,x5 => if x5 < (x0.size : Int) then (zG.j1 k x0 x1 x5 (decide (x5 < (x1.size : Int)))) else (zG.j1 k x0 x1 x5 false)
def zG.j1 : Nat → ByteArray → ByteArray → Int → Bool → Option (Bool)
 | 0,_,_,_,_ => none
 | k + 1,x0,x1,x5,x15 => if x15 = true then (if 0 ≤ x5 then (if x5 < (x0.size : Int) then (if x5 < (x1.size : Int) then (if (bt x0 x5) = (bt x1 x5) then (zG.l0 k x0 x1 (wrap64 (x5 + 1))) else (some (decide ((bt x0 x5) < (bt x1 x5))))) else (none)) else (none)) else (none)) else (some (decide ((x0.size : Int) < (x1.size : Int))))
end
def zG.f (k : Nat) (a0 : ByteArray) (a1 : ByteArray) : Option (Bool) := zG.l0 k a0 a1 0
set_option maxHeartbeats 8000000 in
set_option maxRecDepth 100000 in
theorem zG.calls (k : Nat) (a0 : ByteArray) (a1 : ByteArray) (r : Bool) (w : World) (h : zG.f k a0 a1 = some r) :
  Calls Tryz.prog 79 #[.string a0,.string a1] w fun e w' => e = .returned (.bool r) ∧ za4 w w' := by
 have H : (zG.l0 k a0 a1 0) = some r := h
 clear h
 have H' := za.mk H
 clear H
 go_enter Tryz.func79,Tryz.ntmps79
 go_wp2
 repeat (go_quiet (fail);try go_wp2)
 go_loopg [5] k (fun kq v5 w' => ∃ (x5_1 : Int),v5 = .int .i64 x5_1 ∧ za (zG.l0 kq a0 a1 x5_1 = some r) ∧ za (kq ≤ k) ∧ za4 w w')
 case atStart => exact ⟨(0),(hDq),H',⟨Nat.le_refl _⟩,hEq⟩
 case round =>
  clear H'
  try clear p2
  obtain ⟨x5_1,rfl,HA,HK1,⟨m1,rfl⟩⟩ := hrel
  cases gk with
  | zero => exact absurd HA.out (by simp [zG.l0])
  | succ k1 =>
   have H := HA.out
   clear HA
   simp only [zG.l0] at H
   have HC3 := za.mk H
   clear H
   go_upto_region 2 with (fail)
   repeat (go_quiet (fail);go_upto_region 2 with (fail))
   go_cut [15] (fun v15 wc => ∃ (kq : Nat) (x15_2 : Bool),v15 = .bool x15_2 ∧ za (zG.j1 kq a0 a1 x5_1 x15_2 = some r) ∧ za (kq ≤ k1) ∧ za4 w wc)
   case first =>
    have H := HC3.out
    clear HC3
    by_cases c4 : x5_1 < (a0.size : Int)
    ·rw [if_pos c4] at H
     have c4b0 : decide (x5_1 < (a0.size : Int)) = true := decide_eq_true c4
     clear c4
     (first | rw [c4b0] | (simp only [zaw,zaB];rw [c4b0]) | skip)
     have H' := za.mk H
     clear H
     go_wp2
     repeat (go_quiet (fail);try go_wp2)
     go_meet
     case rel => exact ⟨_,(decide (x5_1 < (a1.size : Int))),(hDq),H',⟨by have := HK1.out;first | omega | exact Nat.le_refl _⟩,hEq⟩
    ·rw [if_neg c4] at H
     have c4b0 : decide (x5_1 < (a0.size : Int)) = false := decide_eq_false c4
     clear c4
     (first | rw [c4b0] | (simp only [zaw,zaB];rw [c4b0]) | skip)
     have H' := za.mk H
     clear H
     go_wp2
     repeat (go_quiet (fail);try go_wp2)
     go_meet
     case rel => exact ⟨_,(false),(hDq),H',⟨by have := HK1.out;first | omega | exact Nat.le_refl _⟩,hEq⟩
   case rest =>
    clear HC3
    try clear p2;try clear c4;try clear c4b0;try clear p2
    obtain ⟨kq,x15_2,rfl,HA,HJ2,⟨mc2,rfl⟩⟩ := hcut
    cases kq with
    | zero => exact absurd HA.out (by simp [zG.j1])
    | succ kj2 =>
     have H := HA.out
     clear HA
     simp only [zG.j1] at H
     by_cases c5 : x15_2 = true
     ·subst c5
      have H1 : (if 0 ≤ x5_1 then (if x5_1 < (a0.size : Int) then (if x5_1 < (a1.size : Int) then (if (bt a0 x5_1) = (bt a1 x5_1) then (zG.l0 kj2 a0 a1 (wrap64 (x5_1 + 1))) else (some (decide ((bt a0 x5_1) < (bt a1 x5_1))))) else (none)) else (none)) else (none)) = some r := by rw [if_pos rfl] at H;exact H
      clear H
      have H := H1
      clear H1
      by_cases c6 : 0 ≤ x5_1
      ·rw [if_pos c6] at H
       have c6b0 : decide (0 ≤ x5_1) = true := decide_eq_true c6
       clear c6
       by_cases c7 : x5_1 < (a0.size : Int)
       ·rw [if_pos c7] at H
        have c7b0 : decide (x5_1 < (a0.size : Int)) = true := decide_eq_true c7
        clear c7
        by_cases c9 : x5_1 < (a1.size : Int)
        ·rw [if_pos c9] at H
         have c9b0 : decide (x5_1 < (a1.size : Int)) = true := decide_eq_true c9
         clear c9
         by_cases c11 : (bt a0 x5_1) = (bt a1 x5_1)
         ·rw [if_pos c11] at H
          have c11b0 : ((bt a0 x5_1) == (bt a1 x5_1)) = true := beq_iff_eq.mpr c11
          have c11b1 : ((bt a0 x5_1) != (bt a1 x5_1)) = false := bne_eq_false_iff_eq.mpr c11
          clear c11
          have H' := za.mk H
          clear H
          have p8 : 0 ≤ (x5_1 : Int) := hFq
          have q8 : x5_1 < (a0.size : Int) := hFq
          have hx8 := zc2 a0 x5_1
          replace p8 := eq_true p8
          replace q8 := eq_true q8
          have p10 : 0 ≤ (x5_1 : Int) := hFq
          have q10 : x5_1 < (a1.size : Int) := hFq
          have hx10 := zc2 a1 x5_1
          replace p10 := eq_true p10
          replace q10 := eq_true q10
          go_wp2
          repeat (go_quiet (fail);try go_wp2)
          go_roundg kj2
          case measure => have := HK1.out;have := HJ2.out;omega
          case rel => exact ⟨(wrap64 (x5_1 + 1)),(hDq),H',⟨by have := HK1.out;have := HJ2.out;omega⟩,hEq⟩
         ·rw [if_neg c11] at H
          have c11b0 : ((bt a0 x5_1) == (bt a1 x5_1)) = false := beq_eq_false_iff_ne.mpr c11
          have c11b1 : ((bt a0 x5_1) != (bt a1 x5_1)) = true := bne_iff_ne.mpr c11
          obtain rfl := Option.some.inj H
          have p8 : 0 ≤ (x5_1 : Int) := hFq
          have q8 : x5_1 < (a0.size : Int) := hFq
          have hx8 := zc2 a0 x5_1
          replace p8 := eq_true p8
          replace q8 := eq_true q8
          have p10 : 0 ≤ (x5_1 : Int) := hFq
          have q10 : x5_1 < (a1.size : Int) := hFq
          have hx10 := zc2 a1 x5_1
          replace p10 := eq_true p10
          replace q10 := eq_true q10
          have p12 : 0 ≤ (x5_1 : Int) := hFq
          have q12 : x5_1 < (a0.size : Int) := hFq
          have hx12 := zc2 a0 x5_1
          replace p12 := eq_true p12
          replace q12 := eq_true q12
          have p13 : 0 ≤ (x5_1 : Int) := hFq
          have q13 : x5_1 < (a1.size : Int) := hFq
          have hx13 := zc2 a1 x5_1
          replace p13 := eq_true p13
          replace q13 := eq_true q13
          go_wp2
          repeat (go_quiet (fail);try go_wp2)
          go_ret
          exact ⟨hDq,hEq⟩
        ·rw [if_neg c9] at H
         exact absurd H (by simp)
       ·rw [if_neg c7] at H
        exact absurd H (by simp)
      ·rw [if_neg c6] at H
       exact absurd H (by simp)
     ·replace c5 := Bool.eq_false_iff.mpr c5
      subst c5
      have H1 : (some (decide ((a0.size : Int) < (a1.size : Int)))) = some r := by rw [if_neg (show ¬ (false = true) by decide)] at H;exact H
      clear H
      have H := H1
      clear H1
      obtain rfl := Option.some.inj H
      go_wp2
      repeat (go_quiet (fail);try go_wp2)
      go_ret
      exact ⟨hDq,hEq⟩
def zdN : Bs → Bs → Bool
 | [],b => !b.isEmpty
 | _ :: _,[] => false
 | x :: xs,y :: ys => if x = y then zdN xs ys else decide (x.toNat < y.toNat)
theorem bt_toB (l : Bs) (j : Nat) : bt (toB l) (j : Int) = ((l.getD j 0).toNat : Int) := by rw [bt_ofB,zc5]
theorem zeU (l : Bs) (j : Nat) (h : j < l.length) : l.drop j = l.getD j 0 :: l.drop (j + 1) := by
 rw [List.drop_eq_getElem_cons h,List.getD_eq_getElem?_getD,List.getElem?_eq_getElem h];rfl
theorem less_loop (a b : Bs) (ha : a.length < 4611686018427387904) (d : Nat) : ∀ j,j + d = a.length →
  Ev (fun k => zG.l0 k (toB a) (toB b) (j : Int)) (zdN (a.drop j) (b.drop j)) := by
 induction d with
 | zero =>
  intro j hj
  have e : a.drop j = [] := List.drop_eq_nil_of_le (by omega)
  refine Ev.step (fun k => by rw [zG.l0]) ?_
  refine zT (by rw [zax];omega) (Ev.step (fun k => by rw [zG.j1]) ?_)
  refine zT (by simp) (zac (Ev.now _) ?_)
  rw [e,zdN,zax,zax]
  by_cases h : j < b.length
  ·rw [zeU b j h];simp;omega
  ·rw [List.drop_eq_nil_of_le (by omega)];simp;omega
 | succ d ih =>
  intro j hj
  have e := zeU a j (by omega)
  refine Ev.step (fun k => by rw [zG.l0]) ?_
  refine zF (by rw [zax];omega) (Ev.step (fun k => by rw [zG.j1]) ?_)
  by_cases h : j < b.length
  ·have f := zeU b j h
   refine zF (by rw [zax];simp;omega) (zF (by omega) (zF (by rw [zax];omega) (zF (by rw [zax];omega) ?_)))
   rw [bt_toB,bt_toB,zaf (by omega) (by omega),e,f,zdN]
   by_cases hx : a.getD j 0 = b.getD j 0
   ·rw [if_pos hx]
    exact zF (by rw [hx]) (ih (j + 1) (by omega))
   ·rw [if_neg hx]
    exact zT (fun h => hx (UInt8.toNat_inj.1 (by omega))) (zac (Ev.now _) (by simp))
  ·have f : b.drop j = [] := List.drop_eq_nil_of_le (by omega)
   refine zT (by rw [zax];simp;omega) (zac (Ev.now _) ?_)
   rw [e,f,zdN,zax,zax]
   simp;omega
theorem less_ev (a b : ByteArray) (ha : a.size < 4611686018427387904) : Ev (fun k => zG.f k a b) (zdN (ofB a) (ofB b)) := by
 have h := less_loop (ofB a) (ofB b) (by rw [zat];exact ha) (ofB a).length 0 (by omega)
 rw [zd6,zd6] at h
 exact h
theorem zdE : ∀ a b : Bs,Op.bytesLess a b = zdN a b
 | [],[] => rfl
 | [],_ :: _ => rfl
 | _ :: _,[] => rfl
 | x :: xs,y :: ys => by
  rw [Op.bytesLess,zdN,zdE xs ys]
  by_cases h : x = y
  ·subst h;simp
  ·rw [if_neg h]
   have hn : x.toNat ≠ y.toNat := fun e => h (UInt8.toNat_inj.1 e)
   by_cases h1 : x < y
   ·have := UInt8.lt_iff_toNat_lt.1 h1
    simp [h1,this]
   ·have h2 : ¬ x.toNat < y.toNat := fun e => h1 (UInt8.lt_iff_toNat_lt.2 e)
    have h3 : y < x := UInt8.lt_iff_toNat_lt.2 (by omega)
    simp [h1,h2]
    exact fun e => absurd e h
def zcZ (n : Int) : Bool := decide (4 ≤ n) && decide (n ≤ 64) && decide (n % 3 = 1)
theorem zaL (n : Int) : zar.f n = some (zcZ n) := by
 unfold zar.f zcZ
 by_cases h : n ≥ 4
 ·rw [if_pos h]
  by_cases h1 : n ≤ 64
  ·rw [if_pos h1,Int.tmod_eq_emod_of_nonneg (by omega)]
   by_cases h2 : n % 3 = 1
   ·simp [h1,h2];omega
   ·simp [h2]
  ·rw [if_neg h1];simp [h1]
 ·rw [if_neg h]
  have : ¬ 4 ≤ n := by omega
  simp [this]
theorem zcG (n : Int) : zcZ n = true ↔ 4 ≤ n ∧ n ≤ 64 ∧ n % 3 = 1 := by
 unfold zcZ;simp [and_assoc]
def zbR (n : Int) : Int := if zcZ n = true then n - (n - 1) / 3 else 0
theorem zfr (n : Int) : zbL.f n = some (zbR n) := by
 unfold zbL.f zbA.f zbR
 rw [zaL]
 simp only [Option.bind_some]
 by_cases h : zcZ n = true
 ·rw [if_pos h,if_pos h,if_pos h]
  obtain ⟨h1,h2,h3⟩ := (zcG n).1 h
  simp only [Option.bind_some]
  rw [zaf (x := n - 1) (by omega) (by omega),Int.tdiv_eq_ediv_of_nonneg (by omega),zaf (x := (n - 1) / 3) (by omega) (by omega),zaf (by omega) (by omega)]
 ·rw [if_neg h,if_neg h]
def zfj (a b : Int) : Bool := decide (0 ≤ a) && decide (a < 10007) && decide (0 ≤ b) && decide (b < 10007)
theorem zeB (a b : Int) : zfj a b = true ↔ 0 ≤ a ∧ a < 10007 ∧ 0 ≤ b ∧ b < 10007 := by
 unfold zfj;simp [and_assoc]
theorem zcf (a b : Int) : zbV.f a b = some (zfj a b) := by
 unfold zbV.f zfj
 by_cases h1 : 0 ≤ a <;> by_cases h2 : a < 10007 <;> by_cases h3 : 0 ≤ b <;> simp [h1,h2,h3]
def zde (r : Int) : Bool := decide (3 ≤ r) && decide (r % 3 = 0)
theorem zb6 (r : Int) : zbB.f r = some (zde r) := by
 unfold zbB.f zde
 by_cases h : r ≥ 3
 ·rw [if_pos h,Int.tmod_eq_emod_of_nonneg (by omega)]
  have : 3 ≤ r := h
  by_cases h2 : r % 3 = 0 <;> simp [this,h2]
 ·rw [if_neg h]
  have : ¬ 3 ≤ r := by omega
  simp [this]
def zgr (l : List ByteArray) (j : Nat) : Bool := decide ((l.getD j ByteArray.empty).size = 32) && (decide (j = 0) || zdN (ofB (l.getD (j - 1) ByteArray.empty)) (ofB (l.getD j ByteArray.empty)))
def zbi (l : List ByteArray) : Nat → Nat → Bool
 | 0,_ => true
 | d + 1,j => zgr l j && zbi l d (j + 1)
def zb2 (l : List ByteArray) (r n : Int) : Bool :=
 if r = 1 then decide (l.length = 0) else zbi l l.length 0 && decide (zbR n ≤ l.length) && decide ((l.length : Int) ≤ n)
theorem zg3 (l : List ByteArray) (n : Int) (hl : l.length ≤ 9223372036854775807) (d : Nat) : ∀ j,j + d = l.length →
  Ev (fun k => zak.l0 k l n l (l.length : Int) (j : Int)) (zbi l d j && decide (zbR n ≤ l.length) && decide ((l.length : Int) ≤ n)) := by
 induction d with
 | zero =>
  intro j hj
  refine Ev.step (fun k => by rw [zak.l0]) ?_
  refine zT (by omega) (zaC (zfr n) ?_)
  by_cases h : zbR n ≤ l.length
  ·exact zF h (zac (Ev.now _) (by simp [zbi,h]))
  ·exact zT h (zac (Ev.now _) (by simp [zbi,h]))
 | succ d ih =>
  intro j hj
  refine Ev.step (fun k => by rw [zak.l0]) ?_
  refine zF (by omega) (zF (by omega) (zF (by omega) ?_))
  have e1 : zz ByteArray.empty l (j : Int) = l.getD j ByteArray.empty := by rw [zz,Int.toNat_natCast]
  rw [e1]
  by_cases h : (l.getD j ByteArray.empty).size = 32
  ·refine zF (by omega) ?_
   rw [zaf (x := (j : Int) + 1) (by omega) (by omega)]
   by_cases h0 : j = 0
   ·subst h0
    refine zT (by omega) (zac (ih 1 (by omega)) ?_)
    simp only [zbi,zgr,h];simp
   ·refine zF (by omega) ?_
    have e2 : wrap64 ((j : Int) - 1) = ((j - 1 : Nat) : Int) := by rw [zaf (by omega) (by omega)];omega
    rw [e2]
    refine zF (by omega) (zF (by omega) ?_)
    have e3 : zz ByteArray.empty l ((j - 1 : Nat) : Int) = l.getD (j - 1) ByteArray.empty := by rw [zz,Int.toNat_natCast]
    rw [e3,zcw,zcw,zdE]
    by_cases h2 : zdN (ofB (l.getD (j - 1) ByteArray.empty)) (ofB (l.getD j ByteArray.empty)) = true
    ·refine zF h2 (zac (ih (j + 1) (by omega)) ?_)
     simp only [zbi,zgr,h,h2];simp
    ·refine zT h2 (zac (Ev.now _) ?_)
     rw [Bool.not_eq_true] at h2
     simp only [zbi,zgr,h,h0,h2];simp
  ·refine zT (by omega) (zac (Ev.now _) ?_)
   simp only [zbi,zgr,h];simp
theorem zh8 (l : List ByteArray) (r n : Int) (hl : l.length ≤ 9223372036854775807) : Ev (fun k => zak.f k l r n) (zb2 l r n) := by
 unfold zb2
 by_cases h : r = 1
 ·rw [if_pos h]
  refine zF h (zac (Ev.now _) ?_)
  by_cases h0 : l.length = 0 <;> simp [h0]
 ·rw [if_neg h]
  exact zT h (zg3 l n hl l.length 0 (by omega))
def zae.l0 : Nat → Int → Int → Int → Option (Int)
 | 0,_,_,_ => none
 | k + 1,x0,x1,x5 => if x5 < x1 then (zae.l0 k ((Int.tdiv x0 2) % 4294967296) x1 (wrap64 (x5 + 1))) else (some x0)
def zae.f (k : Nat) (a0 : Int) (a1 : Int) : Option (Int) := zae.l0 k a0 a1 0
set_option maxHeartbeats 8000000 in
set_option maxRecDepth 100000 in
theorem zae.calls (k : Nat) (a0 : Int) (a1 : Int) (r : Int) (w : World) (h : zae.f k a0 a1 = some r) :
  Calls Tryz.prog 84 #[.int .u32 a0,.int .i64 a1] w fun e w' => e = .returned (.int .u32 r) ∧ za4 w w' := by
 have H : (zae.l0 k a0 a1 0) = some r := h
 clear h
 have H' := za.mk H
 clear H
 go_enter Tryz.func84,Tryz.ntmps84
 go_wp2
 go_loopg [0,5] k (fun kq v0 v5 w' => ∃ (x0_1 : Int) (x5_1 : Int),v0 = .int .u32 x0_1 ∧ v5 = .int .i64 x5_1 ∧ za (zae.l0 kq x0_1 a1 x5_1 = some r) ∧ za (kq ≤ k) ∧ za4 w w')
 case atStart => exact ⟨(a0),(0),(hDq),(hDq),H',⟨Nat.le_refl _⟩,hEq⟩
 case round =>
  clear H'
  try clear p2
  obtain ⟨x0_1,x5_1,rfl,rfl,HA,HK1,⟨m1,rfl⟩⟩ := hrel
  cases gk with
  | zero => exact absurd HA.out (by simp [zae.l0])
  | succ k1 =>
   have H := HA.out
   clear HA
   simp only [zae.l0] at H
   by_cases c3 : x5_1 < a1
   ·rw [if_pos c3] at H
    have c3b0 : decide (x5_1 < a1) = true := decide_eq_true c3
    clear c3
    have H' := za.mk H
    clear H
    go_wp2
    go_roundg k1
    case measure => have := HK1.out;omega
    case rel => exact ⟨((Int.tdiv x0_1 2) % 4294967296),(wrap64 (x5_1 + 1)),(hDq),(hDq),H',⟨by have := HK1.out;omega⟩,hEq⟩
   ·rw [if_neg c3] at H
    have c3b0 : decide (x5_1 < a1) = false := decide_eq_false c3
    clear c3
    obtain rfl := Option.some.inj H
    go_wp2
    go_ret
    exact ⟨hDq,hEq⟩
mutual
def zO.l0 : Nat → Int → Int → Int → Int → Option (Int)
 | 0,_,_,_,_ => none
 | k + 1,x0,x1,x5,x6 => if x6 < x1 then (zO.l0 k x0 x1 ((x5 * 2) % 4294967296) (wrap64 (x6 + 1))) else (if x5 = 0 then (none) else (zO.l1 k x0 x1 x5 (Int.tmod x0 x5) 0))
def zO.l1 : Nat → Int → Int → Int → Int → Int → Option (Int)
 | 0,_,_,_,_,_ => none
 | k + 1,x0,x1,x5,x7,x8 => if x8 < (wrap64 (32 - x1)) then (zO.l1 k x0 x1 x5 ((x7 * 2) % 4294967296) (wrap64 (x8 + 1))) else (if x5 = 0 then (none) else (some ((((Int.tdiv x0 x5) % 4294967296) + x7) % 4294967296)))
end
def zO.f (k : Nat) (a0 : Int) (a1 : Int) : Option (Int) := zO.l0 k a0 a1 1 0
set_option maxHeartbeats 8000000 in
set_option maxRecDepth 100000 in
theorem zO.calls (k : Nat) (a0 : Int) (a1 : Int) (r : Int) (w : World) (h : zO.f k a0 a1 = some r) :
  Calls Tryz.prog 83 #[.int .u32 a0,.int .i64 a1] w fun e w' => e = .returned (.int .u32 r) ∧ za4 w w' := by
 have H : (zO.l0 k a0 a1 1 0) = some r := h
 clear h
 have H' := za.mk H
 clear H
 go_enter Tryz.func83,Tryz.ntmps83
 go_wp2
 go_loopg [5,6] k (fun kq v5 v6 w' => ∃ (x5_1 : Int) (x6_1 : Int),v5 = .int .u32 x5_1 ∧ v6 = .int .i64 x6_1 ∧ za (zO.l0 kq a0 a1 x5_1 x6_1 = some r) ∧ za (kq ≤ k) ∧ za4 w w')
 case atStart => exact ⟨(1),(0),(hDq),(hDq),H',⟨Nat.le_refl _⟩,hEq⟩
 case round =>
  clear H'
  try clear p2
  obtain ⟨x5_1,x6_1,rfl,rfl,HA,HK1,⟨m1,rfl⟩⟩ := hrel
  cases gk with
  | zero => exact absurd HA.out (by simp [zO.l0])
  | succ k1 =>
   have H := HA.out
   clear HA
   simp only [zO.l0] at H
   by_cases c3 : x6_1 < a1
   ·rw [if_pos c3] at H
    have c3b0 : decide (x6_1 < a1) = true := decide_eq_true c3
    clear c3
    have H' := za.mk H
    clear H
    go_wp2
    go_roundg k1
    case measure => have := HK1.out;omega
    case rel => exact ⟨((x5_1 * 2) % 4294967296),(wrap64 (x6_1 + 1)),(hDq),(hDq),H',⟨by have := HK1.out;omega⟩,hEq⟩
   ·rw [if_neg c3] at H
    have c3b0 : decide (x6_1 < a1) = false := decide_eq_false c3
    clear c3
    by_cases c4 : x5_1 = 0
    ·rw [if_pos c4] at H
     exact absurd H (by simp)
    ·rw [if_neg c4] at H
     have c4b0 : (x5_1 == 0) = false := beq_eq_false_iff_ne.mpr c4
     have c4b1 : (x5_1 != 0) = true := bne_iff_ne.mpr c4
     have H' := za.mk H
     clear H
     go_wp2
     go_loopg [7,8] k1 (fun kq v7 v8 w' => ∃ (x7_2 : Int) (x8_2 : Int),v7 = .int .u32 x7_2 ∧ v8 = .int .i64 x8_2 ∧ za (zO.l1 kq a0 a1 x5_1 x7_2 x8_2 = some r) ∧ za (kq ≤ k1) ∧ za4 w w')
     case atStart => exact ⟨(Int.tmod a0 x5_1),(0),(hDq),(hDq),H',⟨Nat.le_refl _⟩,hEq⟩
     case round =>
      clear H'
      try clear p2;try clear c3;try clear c3b0;try clear c4;try clear c4b0;try clear c4b1;try clear p2
      obtain ⟨x7_2,x8_2,rfl,rfl,HA,HK2,⟨m2,rfl⟩⟩ := hrel
      cases gk with
      | zero => exact absurd HA.out (by simp [zO.l1])
      | succ k2 =>
       have H := HA.out
       clear HA
       simp only [zO.l1] at H
       by_cases c5 : x8_2 < (wrap64 (32 - a1))
       ·rw [if_pos c5] at H
        have c5b0 : decide (x8_2 < (wrap64 (32 - a1))) = true := decide_eq_true c5
        clear c5
        have H' := za.mk H
        clear H
        go_wp2
        go_roundg k2
        case measure => have := HK1.out;have := HK2.out;omega
        case rel => exact ⟨((x7_2 * 2) % 4294967296),(wrap64 (x8_2 + 1)),(hDq),(hDq),H',⟨by have := HK1.out;have := HK2.out;omega⟩,hEq⟩
       ·rw [if_neg c5] at H
        have c5b0 : decide (x8_2 < (wrap64 (32 - a1))) = false := decide_eq_false c5
        clear c5
        by_cases c6 : x5_1 = 0
        ·rw [if_pos c6] at H
         exact absurd H (by simp)
        ·rw [if_neg c6] at H
         have c6b0 : (x5_1 == 0) = false := beq_eq_false_iff_ne.mpr c6
         have c6b1 : (x5_1 != 0) = true := bne_iff_ne.mpr c6
         obtain rfl := Option.some.inj H
         go_wp2
         go_ret
         exact ⟨hDq,hEq⟩
def zce.f (a0 : Int) (a1 : Int) : Option (Int) := if 0 ≤ (Go.bits .and .u64 (IntKind.u64.wrap (a1)) 31) then (if 0 ≤ (IntKind.u64.wrap (32 - (Go.bits .and .u64 (IntKind.u64.wrap (a1)) 31))) then (some (Go.bits .or .u32 (shl .u32 a0 (Go.bits .and .u64 (IntKind.u64.wrap (a1)) 31)) (shr .u32 a0 (IntKind.u64.wrap (32 - (Go.bits .and .u64 (IntKind.u64.wrap (a1)) 31)))))) else (none)) else (none)
def zf8.f (a0 : Int) (a1 : Int) : Option (Int) := (zce.f a0 (wrap64 (-a1))).bind fun t130 => (some t130)
def zbw (x : Int) : Prop := 0 ≤ x ∧ x < 4294967296
def zcn (x : Int) : Int := IntKind.u32.wrap x
theorem zbS (x : Int) : zcn x = x % 4294967296 := IntKind.wrap_u32 x
theorem zfA (x : Int) : zbw (zcn x) := by rw [zbS];unfold zbw;omega
def zao (n : Nat) (x : Int) : Int := x / 2 ^ n + x % 2 ^ n * 2 ^ (32 - n)
def zcd (a b : Int) : Int := Go.bits .xor .u32 a b
def zdD (a b : Int) : Int := Go.bits .and .u32 a b
def ze2 (L : List Int) (k w : Int) : List Int :=
 let t := zcn (zcn (zcn (zcn (L.getD 7 0 + zcd (zcd (zao 6 (L.getD 4 0)) (zao 11 (L.getD 4 0))) (zao 25 (L.getD 4 0))) + zcd (zdD (L.getD 4 0) (L.getD 5 0)) (zdD (4294967295 - L.getD 4 0) (L.getD 6 0))) + k) + w)
 let u := zcn (zcd (zcd (zao 2 (L.getD 0 0)) (zao 13 (L.getD 0 0))) (zao 22 (L.getD 0 0)) + zcd (zcd (zdD (L.getD 0 0) (L.getD 1 0)) (zdD (L.getD 0 0) (L.getD 2 0))) (zdD (L.getD 1 0) (L.getD 2 0)))
 [zcn (t + u),L.getD 0 0,L.getD 1 0,L.getD 2 0,zcn (L.getD 3 0 + t),L.getD 4 0,L.getD 5 0,L.getD 6 0]
def okL (L : List Int) : Prop := ∀ i,zbw (L.getD i 0)
theorem zg0 : okL [] := fun i => by simp [zbw]
theorem zbn {x : Int} {L : List Int} (hx : zbw x) (hL : okL L) : okL (x :: L) := fun i => by
 rcases i with _ | i
 ·exact hx
 ·exact hL i
theorem zhz {x : Int} {L : List Int} (hL : okL L) (hx : zbw x) : okL (L ++ [x]) := fun i => by
 rw [List.getD_eq_getElem?_getD]
 rcases Nat.lt_trichotomy i L.length with h | h | h
 ·rw [List.getElem?_append_left h,← List.getD_eq_getElem?_getD];exact hL i
 ·subst h;simp;exact hx
 ·rw [List.getElem?_eq_none (by rw [List.length_append];simp;omega)];simp [zbw]
theorem roundL_ok {L : List Int} (h : okL L) (k w : Int) : okL (ze2 L k w) :=
 zbn (zfA _) (zbn (h 0) (zbn (h 1) (zbn (h 2) (zbn (zfA _) (zbn (h 4) (zbn (h 5) (zbn (h 6) zg0)))))))
def zga (b : ByteArray) (i : Nat) : Int := bt b ((4 * i : Nat) : Int) * 16777216 + bt b ((4 * i + 1 : Nat) : Int) * 65536 + bt b ((4 * i + 2 : Nat) : Int) * 256 + bt b ((4 * i + 3 : Nat) : Int)
theorem word4_ok (b : ByteArray) (i : Nat) : zbw (zga b i) := by
 have h0 := zbM b ((4 * i : Nat) : Int)
 have h1 := zbM b ((4 * i + 1 : Nat) : Int)
 have h2 := zbM b ((4 * i + 2 : Nat) : Int)
 have h3 := zbM b ((4 * i + 3 : Nat) : Int)
 unfold zbw zga;omega
def zcC (b : ByteArray) : Nat → List Int
 | 0 => []
 | n + 1 => zcC b n ++ [zga b n]
theorem zcc (b : ByteArray) : ∀ n,(zcC b n).length = n
 | 0 => rfl
 | n + 1 => by rw [zcC,List.length_append,zcc b n];rfl
theorem zhv (b : ByteArray) : ∀ n,okL (zcC b n)
 | 0 => zg0
 | n + 1 => zhz (zhv b n) (word4_ok b n)
def zdC (W : List Int) (i : Nat) : Int :=
 zcn (zcn (zcn (W.getD (i - 16) 0 + zcd (zcd (zao 7 (W.getD (i - 15) 0)) (zao 18 (W.getD (i - 15) 0))) (W.getD (i - 15) 0 / 8)) + W.getD (i - 7) 0) + zcd (zcd (zao 17 (W.getD (i - 2) 0)) (zao 19 (W.getD (i - 2) 0))) (W.getD (i - 2) 0 / 1024))
def zJ (b : ByteArray) : Nat → List Int
 | 0 => zcC b 16
 | n + 1 => zJ b n ++ [zdC (zJ b n) (16 + n)]
theorem za7 (b : ByteArray) : ∀ n,(zJ b n).length = 16 + n
 | 0 => zcc b 16
 | n + 1 => by rw [zJ,List.length_append,za7 b n];rfl
theorem ze3 (b : ByteArray) : ∀ n,okL (zJ b n)
 | 0 => zhv b 16
 | n + 1 => zhz (ze3 b n) (zfA _)
def za3 (S K W : List Int) : Nat → List Int
 | 0 => S
 | n + 1 => ze2 (za3 S K W n) (K.getD n 0) (W.getD n 0)
theorem zdB {S : List Int} (h : okL S) (K W : List Int) : ∀ n,okL (za3 S K W n)
 | 0 => h
 | n + 1 => roundL_ok (zdB h K W n) _ _
theorem zdU {S : List Int} (h : S.length = 8) (K W : List Int) : ∀ n,(za3 S K W n).length = 8
 | 0 => h
 | _ + 1 => rfl
def zcK (S H : List Int) (k : Nat) : List Int := (List.range 8).map fun j => if j < k then zcn (S.getD j 0 + H.getD j 0) else S.getD j 0
theorem zcv (S H : List Int) (k : Nat) : (zcK S H k).length = 8 := by simp [zcK]
theorem zcQ (S H : List Int) (k j : Nat) (hj : j < 8) : (zcK S H k).getD j 0 = if j < k then zcn (S.getD j 0 + H.getD j 0) else S.getD j 0 := by
 rw [zcK,List.getD_eq_getElem?_getD,List.getElem?_map,List.getElem?_range hj];rfl
theorem zfN {A B : List Int} (ha : A.length = 8) (hb : B.length = 8) (h : ∀ j,j < 8 → A.getD j 0 = B.getD j 0) : A = B := by
 apply List.ext_getElem (by rw [ha,hb])
 intro i h1 h2
 have := h i (by omega)
 rwa [List.getD_eq_getElem?_getD,List.getD_eq_getElem?_getD,List.getElem?_eq_getElem h1,List.getElem?_eq_getElem h2] at this
theorem ziu {S : List Int} (h : S.length = 8) (H : List Int) : zcK S H 0 = S :=
 zfN (zcv _ _ _) h (fun j hj => by rw [zcQ _ _ _ _ hj,if_neg (by omega)])
theorem getD_set (L : List Int) (k j : Nat) (v : Int) (hk : k < L.length) : (L.set k v).getD j 0 = if j = k then v else L.getD j 0 := by
 rw [List.getD_eq_getElem?_getD,List.getElem?_set]
 by_cases h : k = j
 ·subst h;rw [if_pos rfl,if_pos hk,if_pos rfl];rfl
 ·rw [if_neg h,if_neg (Ne.symm h),← List.getD_eq_getElem?_getD]
theorem zit (S H : List Int) (k : Nat) (hk : k < 8) : (zcK S H k).set k (zcn (S.getD k 0 + H.getD k 0)) = zcK S H (k + 1) := by
 refine zfN (by rw [List.length_set,zcv]) (zcv _ _ _) (fun j hj => ?_)
 rw [getD_set _ _ _ _ (by rw [zcv];exact hk),zcQ _ _ _ _ hj,zcQ _ _ _ _ hj]
 by_cases h : j = k
 ·subst h;rw [if_pos rfl,if_pos (by omega)]
 ·rw [if_neg h]
  by_cases h2 : j < k
  ·rw [if_pos h2,if_pos (by omega)]
  ·rw [if_neg h2,if_neg (by omega)]
def zen (S K : List Int) (b : ByteArray) : List Int := zcK (za3 S K (zJ b 48) 64) S 8
theorem zdm (S K : List Int) (b : ByteArray) : (zen S K b).length = 8 := zcv _ _ _
theorem mixL_ok (S K : List Int) (b : ByteArray) : okL (zen S K b) := fun i => by
 rcases Nat.lt_or_ge i 8 with h | h
 ·rw [zen,zcQ _ _ _ _ h,if_pos h];exact zfA _
 ·rw [List.getD_eq_getElem?_getD,List.getElem?_eq_none (by rw [zdm];exact h)];simp [zbw]
def kL : List Int := [1116352408,1899447441,3049323471,3921009573,961987163,1508970993,2453635748,2870763221,3624381080,310598401,607225278,1426881987,1925078388,2162078206,2614888103,3248222580,3835390401,4022224774,264347078,604807628,770255983,1249150122,1555081692,1996064986,2554220882,2821834349,2952996808,3210313671,3336571891,3584528711,113926993,338241895,666307205,773529912,1294757372,1396182291,1695183700,1986661051,2177026350,2456956037,2730485921,2820302411,3259730800,3345764771,3516065817,3600352804,4094571909,275423344,430227734,506948616,659060556,883997877,958139571,1322822218,1537002063,1747873779,1955562222,2024104815,2227730452,2361852424,2428436474,2756734187,3204031479,3329325298]
def hL : List Int := [1779033703,3144134277,1013904242,2773480762,1359893119,2600822924,528734635,1541459225]
theorem hL_ok : okL hL := by
 refine zbn ?_ (zbn ?_ (zbn ?_ (zbn ?_ (zbn ?_ (zbn ?_ (zbn ?_ (zbn ?_ zg0))))))) <;> (constructor <;> decide)
def zek (n : Nat) : Bs := [UInt8.ofNat (n / 72057594037927936 % 256),UInt8.ofNat (n / 281474976710656 % 256),UInt8.ofNat (n / 1099511627776 % 256),UInt8.ofNat (n / 4294967296 % 256),UInt8.ofNat (n / 16777216 % 256),UInt8.ofNat (n / 65536 % 256),UInt8.ofNat (n / 256 % 256),UInt8.ofNat (n % 256)]
def zcm (n : Nat) : Nat := (119 - n % 64) % 64
def zdR (s : Bs) : Bs := s ++ 128 :: (List.replicate (zcm s.length) 0 ++ zek (s.length * 8))
theorem zhB (s : Bs) : ∃ m,(zdR s).length = 64 * m := by
 refine ⟨(s.length + 9 + zcm s.length) / 64,?_⟩
 have : (zdR s).length = s.length + 9 + zcm s.length := by simp [zdR,zek];omega
 rw [this];unfold zcm;omega
def zaX (p : ByteArray) : Nat → List Int
 | 0 => hL
 | i + 1 => zen (zaX p i) kL (p.extract (64 * i) (64 * i + 64))
theorem zbr (p : ByteArray) : ∀ i,(zaX p i).length = 8
 | 0 => rfl
 | _ + 1 => zdm _ _ _
theorem zdw (p : ByteArray) : ∀ i,okL (zaX p i)
 | 0 => hL_ok
 | _ + 1 => mixL_ok _ _ _
def zcI (x : Int) : Bs := [UInt8.ofNat (x.toNat / 16777216 % 256),UInt8.ofNat (x.toNat / 65536 % 256),UInt8.ofNat (x.toNat / 256 % 256),UInt8.ofNat (x.toNat % 256)]
def zf7 (s : ByteArray) : ByteArray := toB ((zaX (toB (zdR (ofB s))) ((zdR (ofB s)).length / 64)).flatMap zcI)
theorem zew (l : List Int) : (l.flatMap zcI).length = 4 * l.length := by
 induction l with
 | nil => rfl
 | cons x l ih => rw [List.flatMap_cons,List.length_append,ih,List.length_cons];show 4 + _ = _;omega
theorem shaB_size (s : ByteArray) : (zf7 s).size = 32 := by
 rw [zf7,zax,zew,zbr]
def zK (L : List Int) : Array Value := (L.map (Value.int .u32)).toArray
theorem zaY (L : List Int) : (zK L).size = L.length := by simp [zK]
theorem zW (L : List Int) (i : Nat) (h : i < L.length) : (zK L)[i]? = some (.int .u32 (L.getD i 0)) := by
 rw [zK,List.getElem?_toArray,List.getElem?_map,List.getElem?_eq_getElem h,List.getD_eq_getElem?_getD,List.getElem?_eq_getElem h];rfl
theorem ze8 (L : List Int) (i : Nat) (v : Int) : (zK L).setIfInBounds i (.int .u32 v) = zK (L.set i v) := by
 simp [zK,List.map_set]
theorem ze7 (L : List Int) (h : L.length = 8) : zK L = #[.int .u32 (L.getD 0 0),.int .u32 (L.getD 1 0),.int .u32 (L.getD 2 0),.int .u32 (L.getD 3 0),.int .u32 (L.getD 4 0),.int .u32 (L.getD 5 0),.int .u32 (L.getD 6 0),.int .u32 (L.getD 7 0)] := by
 obtain ⟨a,b,c,d,e,f,g,k,rfl⟩ : ∃ a b c d e f g k,L = [a,b,c,d,e,f,g,k] := by
  match L,h with
  | [a,b,c,d,e,f,g,k],_ => exact ⟨a,b,c,d,e,f,g,k,rfl⟩
 rfl
def zbO (W : List Int) : List Int := W ++ List.replicate (64 - W.length) 0
theorem zdy {W : List Int} (h : W.length ≤ 64) : (zbO W).length = 64 := by simp [zbO];omega
theorem zfL {W : List Int} (i : Nat) (h : i < W.length) : (zbO W).getD i 0 = W.getD i 0 := by
 rw [zbO,List.getD_eq_getElem?_getD,List.getElem?_append_left h,← List.getD_eq_getElem?_getD]
theorem zhZ {W : List Int} (h : W.length < 64) (v : Int) : (zbO W).set W.length v = zbO (W ++ [v]) := by
 rw [zbO,zbO,List.set_append_right _ _ (Nat.le_refl _),Nat.sub_self,List.length_append]
 obtain ⟨m,hm⟩ : ∃ m,64 - W.length = m + 1 := ⟨63 - W.length,by omega⟩
 rw [hm,List.replicate_succ,List.set_cons_zero,show 64 - (W.length + [v].length) = m by simp;omega]
 simp
theorem zh9 (n : Nat) (h1 : n ≤ 32) : (2 : Int) ^ n * 2 ^ (32 - n) = 4294967296 := by
 rw [← Int.pow_add,show n + (32 - n) = 32 by omega];rfl
theorem zch (n : Nat) : (0 : Int) < 2 ^ n := Int.pow_pos (by decide)
theorem rot32_ok (n : Nat) (h1 : n ≤ 32) {x : Int} (hx : zbw x) : zbw (zao n x) := by
 have hpq := zh9 n h1
 have hp := zch n
 have hq := zch (32 - n)
 have h2 := Int.emod_nonneg x (Int.ne_of_gt hp)
 have h3 := Int.emod_lt_of_pos x hp
 have h4 : 0 ≤ x / 2 ^ n := Int.ediv_nonneg hx.1 (Int.le_of_lt hp)
 have h5 : x / 2 ^ n < 2 ^ (32 - n) := Int.ediv_lt_of_lt_mul hp (by rw [Int.mul_comm,hpq];exact hx.2)
 unfold zao
 generalize (2 : Int) ^ n = p at *
 generalize (2 : Int) ^ (32 - n) = q at *
 generalize x % p = m at *
 generalize x / p = d at *
 have h6 : m * q ≤ (p - 1) * q := Int.mul_le_mul_of_nonneg_right (by omega) (by omega)
 rw [Int.sub_mul,hpq,Int.one_mul] at h6
 have h7 : 0 ≤ m * q := Int.mul_nonneg h2 (by omega)
 unfold zbw;omega
theorem rot_join (n : Nat) (h1 : n ≤ 32) {x : Int} (hx : zbw x) : Go.bits .or .u32 (IntKind.u32.wrap (x * 2 ^ (32 - n))) (x / 2 ^ n) = zao n x := by
 have hpq := zh9 n h1
 have hp := zch n
 have hq := zch (32 - n)
 have h2 := Int.emod_nonneg x (Int.ne_of_gt hp)
 have h3 := Int.emod_lt_of_pos x hp
 have h4 : 0 ≤ x / 2 ^ n := Int.ediv_nonneg hx.1 (Int.le_of_lt hp)
 have h5 : x / 2 ^ n < 2 ^ (32 - n) := Int.ediv_lt_of_lt_mul hp (by rw [Int.mul_comm,hpq];exact hx.2)
 have h8 : x / 2 ^ n < 4294967296 := by
  have : x / 2 ^ n ≤ x := Int.ediv_le_self _ hx.1
  have := hx.2;omega
 have e : IntKind.u32.wrap (x * 2 ^ (32 - n)) = x % 2 ^ n * 2 ^ (32 - n) := by
  rw [IntKind.wrap_u32,← hpq,Int.mul_comm x,Int.mul_comm (2 ^ n),Int.mul_emod_mul_of_pos _ _ hq,Int.mul_comm]
 have h6 : x % 2 ^ n * 2 ^ (32 - n) ≤ (2 ^ n - 1) * 2 ^ (32 - n) := Int.mul_le_mul_of_nonneg_right (by omega) (by omega)
 rw [Int.sub_mul,hpq,Int.one_mul] at h6
 have h7 : 0 ≤ x % 2 ^ n * 2 ^ (32 - n) := Int.mul_nonneg h2 (by omega)
 rw [e,bits_join .u32 32 (by decide) (fun n h0 h1 => by rw [IntKind.wrap_u32];omega) (32 - n) _ _ h7 (Int.mul_emod_left _ _) (by omega) h4 h5 (by omega),zao,Int.add_comm]
theorem zhL (n : Nat) (h0 : 1 ≤ n) (h1 : n ≤ 31) {x : Int} (hx : zbw x) : zf8.f x (n : Int) = some (zao n x) := by
 unfold zf8.f zce.f
 have e1 : wrap64 (-(n : Int)) = -(n : Int) := zaf (by omega) (by omega)
 have e2 : IntKind.u64.wrap (-(n : Int)) = 18446744073709551616 - (n : Int) := by
  show (-(n : Int)) % 18446744073709551616 = _
  omega
 have e3 : Go.bits .and .u64 (18446744073709551616 - (n : Int)) 31 = ((32 - n : Nat) : Int) := by
  have := bits_mask .u64 64 (by decide) (fun n h0 h1 => zbU h0 (by omega)) 5 (by decide) (18446744073709551616 - (n : Int)) (by omega) (by omega)
  rw [show ((2 : Int) ^ 5 - 1) = 31 from rfl,show (2 : Int) ^ 5 = 32 from rfl] at this
  rw [this];omega
 have e4 : IntKind.u64.wrap (32 - ((32 - n : Nat) : Int)) = (n : Int) := by rw [zbU (by omega) (by omega)];omega
 rw [e1,e2,e3,e4,if_pos (by omega),if_pos (by omega)]
 simp only [Option.bind_some]
 congr 1
 unfold shl shr
 rw [Int.toNat_natCast,Int.toNat_natCast,Nat.min_eq_left (by show 32 - n ≤ 32;omega),Nat.min_eq_left (by show n ≤ 32;omega)]
 exact rot_join n (by omega) hx
theorem zij (x n p low : Int) (hp : p ≠ 0) (m : Nat) (hm : wrap64 (32 - n) = m) (d : Nat) : ∀ j : Nat,j + d = m → m ≤ 32 → 0 ≤ low → low * 2 ^ m < 4294967296 → Ev (fun k => zO.l1 k x n p (low * 2 ^ j) (j : Int)) (((Int.tdiv x p % 4294967296) + low * 2 ^ m) % 4294967296) := by
 induction d with
 | zero =>
  intro j hj hm2 h0 h1
  obtain rfl : j = m := by omega
  refine Ev.step (fun k => by rw [zO.l1]) ?_
  rw [hm]
  exact zT (by omega) (zT hp (Ev.now _))
 | succ d ih =>
  intro j hj hm2 h0 h1
  refine Ev.step (fun k => by rw [zO.l1]) ?_
  rw [hm]
  refine zF (by omega) ?_
  have h2 : low * 2 ^ (j + 1) ≤ low * 2 ^ m := Int.mul_le_mul_of_nonneg_left (by exact_mod_cast Nat.pow_le_pow_right (by omega) (by omega)) h0
  have h3 : 0 ≤ low * 2 ^ (j + 1) := Int.mul_nonneg h0 (Int.le_of_lt (zch _))
  have e1 : low * 2 ^ j * 2 % 4294967296 = low * 2 ^ (j + 1) := by
   rw [Int.mul_assoc,← Int.pow_succ]
   show low * 2 ^ (j + 1) % 4294967296 = low * 2 ^ (j + 1)
   omega
  rw [e1,zaf (by omega) (by omega)]
  exact ih (j + 1) (by omega) hm2 h0 h1
theorem zii (x : Int) (n : Nat) (hn : n ≤ 31) (r : Int) (hr : Ev (fun k => zO.l1 k x n (2 ^ n) (Int.tmod x (2 ^ n)) 0) r) (d : Nat) : ∀ j : Nat,j + d = n → Ev (fun k => zO.l0 k x (n : Int) (2 ^ j) (j : Int)) r := by
 induction d with
 | zero =>
  intro j hj
  obtain rfl : j = n := by omega
  refine Ev.step (fun k => by rw [zO.l0]) ?_
  exact zT (by omega) (zT (Int.ne_of_gt (zch _)) hr)
 | succ d ih =>
  intro j hj
  refine Ev.step (fun k => by rw [zO.l0]) ?_
  refine zF (by omega) ?_
  have h2 : (2 : Int) ^ (j + 1) ≤ 2 ^ 31 := by exact_mod_cast Nat.pow_le_pow_right (by omega : 0 < 2) (by omega : j + 1 ≤ 31)
  have h3 : (2 : Int) ^ 31 = 2147483648 := rfl
  have h4 := zch (j + 1)
  have e1 : (2 : Int) ^ j * 2 % 4294967296 = 2 ^ (j + 1) := by
   rw [← Int.pow_succ];omega
  rw [e1,zaf (by omega) (by omega)]
  exact ih (j + 1) (by omega)
theorem zih (n : Nat) (h0 : 1 ≤ n) (h1 : n ≤ 31) {x : Int} (hx : zbw x) : Ev (fun k => zO.f k x (n : Int)) (zao n x) := by
 have hpq := zh9 n (by omega)
 have hp := zch n
 have hq := zch (32 - n)
 have h2 := Int.emod_nonneg x (Int.ne_of_gt hp)
 have h3 := Int.emod_lt_of_pos x hp
 have h6 : x % 2 ^ n * 2 ^ (32 - n) ≤ (2 ^ n - 1) * 2 ^ (32 - n) := Int.mul_le_mul_of_nonneg_right (by omega) (by omega)
 rw [Int.sub_mul,hpq,Int.one_mul] at h6
 have hl := zij x n (2 ^ n) (x % 2 ^ n) (Int.ne_of_gt hp) (32 - n) (by rw [zaf (by omega) (by omega)];omega) (32 - n) 0 (by omega) (by omega) h2 (by omega)
 rw [Int.pow_zero,Int.mul_one] at hl
 rw [← Int.tmod_eq_emod_of_nonneg hx.1] at hl
 have := zii x n h1 _ hl n 0 (by omega)
 rw [Int.pow_zero] at this
 refine zac this ?_
 have ok := rot32_ok n (by omega) hx
 rw [Int.tmod_eq_emod_of_nonneg hx.1,Int.tdiv_eq_ediv_of_nonneg hx.1]
 have h4 : 0 ≤ x / 2 ^ n := Int.ediv_nonneg hx.1 (Int.le_of_lt hp)
 have h8 : x / 2 ^ n < 4294967296 := by
  have : x / 2 ^ n ≤ x := Int.ediv_le_self _ hx.1
  have := hx.2;omega
 rw [Int.emod_eq_of_lt h4 h8]
 exact Int.emod_eq_of_lt ok.1 ok.2
theorem zig (n : Nat) (hn : n ≤ 31) (d : Nat) : ∀ (j : Nat) (x : Int),j + d = n → zbw x → Ev (fun k => zae.l0 k x (n : Int) (j : Int)) (x / 2 ^ d) := by
 induction d with
 | zero =>
  intro j x hj hx
  refine Ev.step (fun k => by rw [zae.l0]) ?_
  exact zT (by omega) (zac (Ev.now _) (by simp))
 | succ d ih =>
  intro j x hj hx
  refine Ev.step (fun k => by rw [zae.l0]) ?_
  refine zF (by omega) ?_
  obtain ⟨x0,x1⟩ := hx
  have e1 : Int.tdiv x 2 % 4294967296 = x / 2 := by rw [Int.tdiv_eq_ediv_of_nonneg x0];omega
  rw [e1,zaf (by omega) (by omega)]
  refine zac (ih (j + 1) (x / 2) (by omega) ⟨by omega,by omega⟩) ?_
  rw [Int.pow_succ,Int.mul_comm,← Int.ediv_ediv_of_nonneg (by decide)]
theorem zif (n : Nat) (hn : n ≤ 31) {x : Int} (hx : zbw x) : Ev (fun k => zae.f k x (n : Int)) (x / 2 ^ n) := zig n hn n 0 x (by omega) hx
end Go.Proofs.YtlkfelmbhldgfaaGreat.Px