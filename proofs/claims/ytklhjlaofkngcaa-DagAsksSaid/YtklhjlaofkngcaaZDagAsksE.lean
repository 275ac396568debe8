/- Part 5 of 33 of the proof of the law DagAsks: what is proved is the statement at the end of the last part; its conditions are those of the given row. -/
import Derived.Laws.BitsAllLaws
import Derived.Test.YtklhjlaofkngcaaZDagAsksD
namespace Go.Proofs.Ytklhjlaofkngcaa.Px
open Go.RowKit Go.Proofs.YtklhjlaofkngcaaW.PrintWords Go.Proofs.YtklhjlaofkngcaaW.PrintLast Go.Proofs.YtklhjlaofkngcaaW.PrintMore
attribute [local go_sem] zF zH zM zN zB zC zG zI
set_option linter.unusedVariables false
set_option linter.unusedSimpArgs false
abbrev Bs := List UInt8
def toB (l : Bs) : ByteArray := ⟨l.toArray⟩
def ofB (s : ByteArray) : Bs := s.data.toList
theorem zcY (l : Bs) : ofB (toB l) = l := by simp [ofB,toB]
theorem zdV (s : ByteArray) : toB (ofB s) = s := by simp [ofB,toB]
theorem zif {a b : ByteArray} (h : ofB a = ofB b) : a = b := by rw [← zdV a,← zdV b,h]
theorem zau (s : ByteArray) : (ofB s).length = s.size := by rw [ofB,Array.length_toList];rfl
theorem zax (l : Bs) : (toB l).size = l.length := by rw [← zau,zcY]
theorem zhE (a b : ByteArray) : ofB (a ++ b) = ofB a ++ ofB b := by simp [ofB]
theorem zbc (a b : Bs) : toB (a ++ b) = toB a ++ toB b := zif (by rw [zhE,zcY,zcY,zcY])
theorem zcs (s : ByteArray) : s.toList = ofB s := ByteArray.toList_eq s
theorem bt_ofB (s : ByteArray) (i : Nat) : bt s (i : Int) = (((ofB s).getD i 0).toNat : Int) := by
 unfold bt ofB
 split
 ·rename_i h
  have h' : i < s.data.toList.length := by rw [zeU];simpa using h
  simp [List.getD_eq_getElem?_getD,List.getElem?_eq_getElem h']
  rfl
 ·rename_i h
  have h' : s.data.toList.length ≤ i := by rw [zeU];simp at h;omega
  simp [List.getD_eq_getElem?_getD,List.getElem?_eq_none h']
theorem zbK (xs : List Int) : strOfNums xs = toB (xs.map fun n => UInt8.ofNat n.toNat) := rfl
def be (v : Nat) : Bs := if v = 0 then [] else be (v / 256) ++ [UInt8.ofNat (v % 256)]
termination_by v
decreasing_by omega
theorem zei : be 0 = [] := by rw [be];simp
theorem zgv {v : Nat} (h : 0 < v) : be v = be (v / 256) ++ [UInt8.ofNat (v % 256)] := by rw [be,if_neg (by omega)]
def val (l : Bs) : Nat := l.foldl (fun a c => a * 256 + c.toNat) 0
theorem zip (n : Nat) : ∀ v : Nat,(be v).length ≤ n ↔ v < 256 ^ n := by
 induction n with
 | zero =>
  intro v
  rcases Nat.eq_zero_or_pos v with h | h
  ·subst h;simp [zei]
  ·rw [zgv h];simp;omega
 | succ n ih =>
  intro v
  rcases Nat.eq_zero_or_pos v with h | h
  ·subst h;simp [zei,Nat.pow_pos]
  ·rw [zgv h,List.length_append,List.length_singleton,Nat.succ_le_succ_iff,ih,Nat.pow_succ,Nat.mul_comm,Nat.div_lt_iff_lt_mul (by omega),Nat.mul_comm]
theorem be_len8 {v : Nat} (h : v < 18446744073709551616) : (be v).length ≤ 8 := by
 have : (256 : Nat) ^ 8 = 18446744073709551616 := by decide
 exact (zip 8 v).2 (by rw [this];exact h)
def zc3 (v : Nat) : Bs := UInt8.ofNat (be v).length :: be v
def zbl (v : Nat) : ByteArray := toB (zc3 v)
def zfR (t : Bs) : Bs := zc3 t.length ++ t
def zd4 (t : ByteArray) : ByteArray := zbl t.size ++ t
theorem textB_eq (t : ByteArray) : zd4 t = toB (zfR (ofB t)) := by rw [zfR,zbc,zdV,zau];rfl
theorem za3 {v : Nat} (h : v < 18446744073709551616) : (zc3 v).length ≤ 9 := by
 have := be_len8 h
 simp only [zc3,List.length_cons];omega
theorem za9 {v : Nat} (h : v < 18446744073709551616) : (zbl v).size ≤ 9 := by rw [zbl,zax];exact za3 h
theorem zfB (v : Nat) (L : List Int) (h : L.map (fun n => UInt8.ofNat n.toNat) = be v) : strOfNums ((L.length : Int) :: L) = zbl v := by
 rw [zbK,List.map_cons,h,zbl,zc3]
 have : L.length = (be v).length := by rw [← h,List.length_map]
 rw [this,Int.toNat_natCast]
mutual
def zK.l0 : Nat → ByteArray → ByteArray → Int → Option (Bool)
 | 0,_,_,_ => none
 | k + 1,x0,x1,x5 => if x5 < (x0.size : Int) then (zK.j1 k x0 x1 x5 (decide (x5 < (x1.size : Int)))) else (zK.j1 k x0 x1 x5 false)
def zK.j1 : Nat → ByteArray → ByteArray → Int → Bool → Option (Bool)
 | 0,_,_,_,_ => none
 | k + 1,x0,x1,x5,x15 => if x15 = true then (if 0 ≤ x5 then (if x5 < (x0.size : Int) then (if x5 < (x1.size : Int) then (if (bt x0 x5) = (bt x1 x5) then (zK.l0 k x0 x1 (wrap64 (x5 + 1))) else (some (decide ((bt x0 x5) < (bt x1 x5))))) else (none)) else (none)) else (none)) else (some (decide ((x0.size : Int) < (x1.size : Int))))
end
def zK.f (k : Nat) (a0 : ByteArray) (a1 : ByteArray) : Option (Bool) := zK.l0 k a0 a1 0
set_option maxHeartbeats 8000000 in
set_option maxRecDepth 100000 in
theorem zK.calls (k : Nat) (a0 : ByteArray) (a1 : ByteArray) (r : Bool) (w : World) (h : zK.f k a0 a1 = some r) :
  Calls Try.prog 82 #[.string a0,.string a1] w fun e w' => e = .returned (.bool r) ∧ za1 w w' := by
 have H : (zK.l0 k a0 a1 0) = some r := h
 clear h
 have H' := za.mk H
 clear H
 go_enter Try.func82,Try.ntmps82
 go_wp2
 repeat (go_quiet (fail);try go_wp2)
 go_loopg [5] k (fun kq v5 w' => ∃ (x5_1 : Int),v5 = .int .i64 x5_1 ∧ za (zK.l0 kq a0 a1 x5_1 = some r) ∧ za (kq ≤ k) ∧ za1 w w')
 case atStart => exact ⟨(0),(hDq),H',⟨Nat.le_refl _⟩,hEq⟩
 case round =>
  clear H'
  try clear p2
  obtain ⟨x5_1,rfl,HA,HK1,⟨m1,rfl⟩⟩ := hrel
  cases gk with
  | zero => exact absurd HA.out (by simp [zK.l0])
  | succ k1 =>
   have H := HA.out
   clear HA
   simp only [zK.l0] at H
   have HC3 := za.mk H
   clear H
   go_upto_region 2 with (fail)
   repeat (go_quiet (fail);go_upto_region 2 with (fail))
   go_cut [15] (fun v15 wc => ∃ (kq : Nat) (x15_2 : Bool),v15 = .bool x15_2 ∧ za (zK.j1 kq a0 a1 x5_1 x15_2 = some r) ∧ za (kq ≤ k1) ∧ za1 w wc)
   case first =>
    have H := HC3.out
    clear HC3
    by_cases c4 : x5_1 < (a0.size : Int)
    ·rw [if_pos c4] at H
     have c4b0 : decide (x5_1 < (a0.size : Int)) = true := decide_eq_true c4
     clear c4
     (first | rw [c4b0] | (simp only [zk,zm];rw [c4b0]) | skip)
     have H' := za.mk H
     clear H
     go_wp2
     repeat (go_quiet (fail);try go_wp2)
     go_meet
     case rel => exact ⟨_,(decide (x5_1 < (a1.size : Int))),(hDq),H',⟨by have := HK1.out;first | omega | exact Nat.le_refl _⟩,hEq⟩
    ·rw [if_neg c4] at H
     have c4b0 : decide (x5_1 < (a0.size : Int)) = false := decide_eq_false c4
     clear c4
     (first | rw [c4b0] | (simp only [zk,zm];rw [c4b0]) | skip)
     have H' := za.mk H
     clear H
     go_wp2
     repeat (go_quiet (fail);try go_wp2)
     go_meet
     case rel => exact ⟨_,(false),(hDq),H',⟨by have := HK1.out;first | omega | exact Nat.le_refl _⟩,hEq⟩
   case rest =>
    clear HC3
    try clear p2;try clear c4;try clear c4b0;try clear p2
    obtain ⟨kq,x15_2,rfl,HA,HJ2,⟨mc2,rfl⟩⟩ := hcut
    cases kq with
    | zero => exact absurd HA.out (by simp [zK.j1])
    | succ kj2 =>
     have H := HA.out
     clear HA
     simp only [zK.j1] at H
     by_cases c5 : x15_2 = true
     ·subst c5
      have H1 : (if 0 ≤ x5_1 then (if x5_1 < (a0.size : Int) then (if x5_1 < (a1.size : Int) then (if (bt a0 x5_1) = (bt a1 x5_1) then (zK.l0 kj2 a0 a1 (wrap64 (x5_1 + 1))) else (some (decide ((bt a0 x5_1) < (bt a1 x5_1))))) else (none)) else (none)) else (none)) = some r := by rw [if_pos rfl] at H;exact H
      clear H
      have H := H1
      clear H1
      by_cases c6 : 0 ≤ x5_1
      ·rw [if_pos c6] at H
       have c6b0 : decide (0 ≤ x5_1) = true := decide_eq_true c6
       clear c6
       by_cases c7 : x5_1 < (a0.size : Int)
       ·rw [if_pos c7] at H
        have c7b0 : decide (x5_1 < (a0.size : Int)) = true := decide_eq_true c7
        clear c7
        by_cases c9 : x5_1 < (a1.size : Int)
        ·rw [if_pos c9] at H
         have c9b0 : decide (x5_1 < (a1.size : Int)) = true := decide_eq_true c9
         clear c9
         by_cases c11 : (bt a0 x5_1) = (bt a1 x5_1)
         ·rw [if_pos c11] at H
          have c11b0 : ((bt a0 x5_1) == (bt a1 x5_1)) = true := beq_iff_eq.mpr c11
          have c11b1 : ((bt a0 x5_1) != (bt a1 x5_1)) = false := bne_eq_false_iff_eq.mpr c11
          clear c11
          have H' := za.mk H
          clear H
          have p8 : 0 ≤ (x5_1 : Int) := hFq
          have q8 : x5_1 < (a0.size : Int) := hFq
          have hx8 := zcV a0 x5_1
          replace p8 := eq_true p8
          replace q8 := eq_true q8
          have p10 : 0 ≤ (x5_1 : Int) := hFq
          have q10 : x5_1 < (a1.size : Int) := hFq
          have hx10 := zcV a1 x5_1
          replace p10 := eq_true p10
          replace q10 := eq_true q10
          go_wp2
          repeat (go_quiet (fail);try go_wp2)
          go_roundg kj2
          case measure => have := HK1.out;have := HJ2.out;omega
          case rel => exact ⟨(wrap64 (x5_1 + 1)),(hDq),H',⟨by have := HK1.out;have := HJ2.out;omega⟩,hEq⟩
         ·rw [if_neg c11] at H
          have c11b0 : ((bt a0 x5_1) == (bt a1 x5_1)) = false := beq_eq_false_iff_ne.mpr c11
          have c11b1 : ((bt a0 x5_1) != (bt a1 x5_1)) = true := bne_iff_ne.mpr c11
          obtain rfl := Option.some.inj H
          have p8 : 0 ≤ (x5_1 : Int) := hFq
          have q8 : x5_1 < (a0.size : Int) := hFq
          have hx8 := zcV a0 x5_1
          replace p8 := eq_true p8
          replace q8 := eq_true q8
          have p10 : 0 ≤ (x5_1 : Int) := hFq
          have q10 : x5_1 < (a1.size : Int) := hFq
          have hx10 := zcV a1 x5_1
          replace p10 := eq_true p10
          replace q10 := eq_true q10
          have p12 : 0 ≤ (x5_1 : Int) := hFq
          have q12 : x5_1 < (a0.size : Int) := hFq
          have hx12 := zcV a0 x5_1
          replace p12 := eq_true p12
          replace q12 := eq_true q12
          have p13 : 0 ≤ (x5_1 : Int) := hFq
          have q13 : x5_1 < (a1.size : Int) := hFq
          have hx13 := zcV a1 x5_1
          replace p13 := eq_true p13
          replace q13 := eq_true q13
          go_wp2
          repeat (go_quiet (fail);try go_wp2)
          go_ret
          exact ⟨hDq,hEq⟩
        ·rw [if_neg c9] at H
         exact absurd H (by simp)
       ·rw [if_neg c7] at H
        exact absurd H (by simp)
      ·rw [if_neg c6] at H
       exact absurd H (by simp)
     ·replace c5 := Bool.eq_false_iff.mpr c5
      subst c5
      have H1 : (some (decide ((a0.size : Int) < (a1.size : Int)))) = some r := by rw [if_neg (show ¬ (false = true) by decide)] at H;exact H
      clear H
      have H := H1
      clear H1
      obtain rfl := Option.some.inj H
      go_wp2
      repeat (go_quiet (fail);try go_wp2)
      go_ret
      exact ⟨hDq,hEq⟩
def zdD : Bs → Bs → Bool
 | [],b => !b.isEmpty
 | _ :: _,[] => false
 | x :: xs,y :: ys => if x = y then zdD xs ys else decide (x.toNat < y.toNat)
theorem bt_toB (l : Bs) (j : Nat) : bt (toB l) (j : Int) = ((l.getD j 0).toNat : Int) := by rw [bt_ofB,zcY]
theorem zeB (l : Bs) (j : Nat) (h : j < l.length) : l.drop j = l.getD j 0 :: l.drop (j + 1) := by
 rw [List.drop_eq_getElem_cons h,List.getD_eq_getElem?_getD,List.getElem?_eq_getElem h];rfl
theorem zix (a b : Bs) (ha : a.length < 4611686018427387904) (d : Nat) : ∀ j,j + d = a.length →
  Ev (fun k => zK.l0 k (toB a) (toB b) (j : Int)) (zdD (a.drop j) (b.drop j)) := by
 induction d with
 | zero =>
  intro j hj
  have e : a.drop j = [] := List.drop_eq_nil_of_le (by omega)
  refine Ev.step (fun k => by rw [zK.l0]) ?_
  refine zU (by rw [zax];omega) (Ev.step (fun k => by rw [zK.j1]) ?_)
  refine zU (by simp) (z9 (Ev.now _) ?_)
  rw [e,zdD,zax,zax]
  by_cases h : j < b.length
  ·rw [zeB b j h];simp;omega
  ·rw [List.drop_eq_nil_of_le (by omega)];simp;omega
 | succ d ih =>
  intro j hj
  have e := zeB a j (by omega)
  refine Ev.step (fun k => by rw [zK.l0]) ?_
  refine zJ (by rw [zax];omega) (Ev.step (fun k => by rw [zK.j1]) ?_)
  by_cases h : j < b.length
  ·have f := zeB b j h
   refine zJ (by rw [zax];simp;omega) (zJ (by omega) (zJ (by rw [zax];omega) (zJ (by rw [zax];omega) ?_)))
   rw [bt_toB,bt_toB,zad (by omega) (by omega),e,f,zdD]
   by_cases hx : a.getD j 0 = b.getD j 0
   ·rw [if_pos hx]
    exact zJ (by rw [hx]) (ih (j + 1) (by omega))
   ·rw [if_neg hx]
    exact zU (fun h => hx (UInt8.toNat_inj.1 (by omega))) (z9 (Ev.now _) (by simp))
  ·have f : b.drop j = [] := List.drop_eq_nil_of_le (by omega)
   refine zU (by rw [zax];simp;omega) (z9 (Ev.now _) ?_)
   rw [e,f,zdD,zax,zax]
   simp;omega
theorem less_ev (a b : ByteArray) (ha : a.size < 4611686018427387904) : Ev (fun k => zK.f k a b) (zdD (ofB a) (ofB b)) := by
 have h := zix (ofB a) (ofB b) (by rw [zau];exact ha) (ofB a).length 0 (by omega)
 rw [zdV,zdV] at h
 exact h
theorem zdy : ∀ a b : Bs,Op.bytesLess a b = zdD a b
 | [],[] => rfl
 | [],_ :: _ => rfl
 | _ :: _,[] => rfl
 | x :: xs,y :: ys => by
  rw [Op.bytesLess,zdD,zdy xs ys]
  by_cases h : x = y
  ·subst h;simp
  ·rw [if_neg h]
   have hn : x.toNat ≠ y.toNat := fun e => h (UInt8.toNat_inj.1 e)
   by_cases h1 : x < y
   ·have := UInt8.lt_iff_toNat_lt.1 h1
    simp [h1,this]
   ·have h2 : ¬ x.toNat < y.toNat := fun e => h1 (UInt8.lt_iff_toNat_lt.2 e)
    have h3 : y < x := UInt8.lt_iff_toNat_lt.2 (by omega)
    simp [h1,h2]
    exact fun e => absurd e h
def zcO (n : Int) : Bool := decide (4 ≤ n) && decide (n ≤ 64) && decide (n % 3 = 1)
theorem zaJ (n : Int) : zat.f n = some (zcO n) := by
 unfold zat.f zcO
 by_cases h : n ≥ 4
 ·rw [if_pos h]
  by_cases h1 : n ≤ 64
  ·rw [if_pos h1,Int.tmod_eq_emod_of_nonneg (by omega)]
   by_cases h2 : n % 3 = 1
   ·simp [h1,h2];omega
   ·simp [h2]
  ·rw [if_neg h1];simp [h1]
 ·rw [if_neg h]
  have : ¬ 4 ≤ n := by omega
  simp [this]
theorem zcB (n : Int) : zcO n = true ↔ 4 ≤ n ∧ n ≤ 64 ∧ n % 3 = 1 := by
 unfold zcO;simp [and_assoc]
def zbN (n : Int) : Int := if zcO n = true then n - (n - 1) / 3 else 0
theorem zfd (n : Int) : zbI.f n = some (zbN n) := by
 unfold zbI.f zbu.f zbN
 rw [zaJ]
 simp only [Option.bind_some]
 by_cases h : zcO n = true
 ·rw [if_pos h,if_pos h,if_pos h]
  obtain ⟨h1,h2,h3⟩ := (zcB n).1 h
  simp only [Option.bind_some]
  rw [zad (x := n - 1) (by omega) (by omega),Int.tdiv_eq_ediv_of_nonneg (by omega),zad (x := (n - 1) / 3) (by omega) (by omega),zad (by omega) (by omega)]
 ·rw [if_neg h,if_neg h]
def ze5 (a b : Int) : Bool := decide (0 ≤ a) && decide (a < 10007) && decide (0 ≤ b) && decide (b < 10007)
theorem zen (a b : Int) : ze5 a b = true ↔ 0 ≤ a ∧ a < 10007 ∧ 0 ≤ b ∧ b < 10007 := by
 unfold ze5;simp [and_assoc]
theorem zch (a b : Int) : zbT.f a b = some (ze5 a b) := by
 unfold zbT.f ze5
 by_cases h1 : 0 ≤ a <;> by_cases h2 : a < 10007 <;> by_cases h3 : 0 ≤ b <;> simp [h1,h2,h3]
def zc6 (r : Int) : Bool := decide (3 ≤ r) && decide (r % 3 = 0)
theorem zb4 (r : Int) : zbv.f r = some (zc6 r) := by
 unfold zbv.f zc6
 by_cases h : r ≥ 3
 ·rw [if_pos h,Int.tmod_eq_emod_of_nonneg (by omega)]
  have : 3 ≤ r := h
  by_cases h2 : r % 3 = 0 <;> simp [this,h2]
 ·rw [if_neg h]
  have : ¬ 3 ≤ r := by omega
  simp [this]
def zf6 (l : List ByteArray) (j : Nat) : Bool := decide ((l.getD j ByteArray.empty).size = 32) && (decide (j = 0) || zdD (ofB (l.getD (j - 1) ByteArray.empty)) (ofB (l.getD j ByteArray.empty)))
def zbe (l : List ByteArray) : Nat → Nat → Bool
 | 0,_ => true
 | d + 1,j => zf6 l j && zbe l d (j + 1)
def zb1 (l : List ByteArray) (r n : Int) : Bool :=
 if r = 1 then decide (l.length = 0) else zbe l l.length 0 && decide (zbN n ≤ l.length) && decide ((l.length : Int) ≤ n)
theorem zgF (l : List ByteArray) (n : Int) (hl : l.length ≤ 9223372036854775807) (d : Nat) : ∀ j,j + d = l.length →
  Ev (fun k => zan.l0 k l n l (l.length : Int) (j : Int)) (zbe l d j && decide (zbN n ≤ l.length) && decide ((l.length : Int) ≤ n)) := by
 induction d with
 | zero =>
  intro j hj
  refine Ev.step (fun k => by rw [zan.l0]) ?_
  refine zU (by omega) (zaX (zfd n) ?_)
  by_cases h : zbN n ≤ l.length
  ·exact zJ h (z9 (Ev.now _) (by simp [zbe,h]))
  ·exact zU h (z9 (Ev.now _) (by simp [zbe,h]))
 | succ d ih =>
  intro j hj
  refine Ev.step (fun k => by rw [zan.l0]) ?_
  refine zJ (by omega) (zJ (by omega) (zJ (by omega) ?_))
  have e1 : zE ByteArray.empty l (j : Int) = l.getD j ByteArray.empty := by rw [zE,Int.toNat_natCast]
  rw [e1]
  by_cases h : (l.getD j ByteArray.empty).size = 32
  ·refine zJ (by omega) ?_
   rw [zad (x := (j : Int) + 1) (by omega) (by omega)]
   by_cases h0 : j = 0
   ·subst h0
    refine zU (by omega) (z9 (ih 1 (by omega)) ?_)
    simp only [zbe,zf6,h];simp
   ·refine zJ (by omega) ?_
    have e2 : wrap64 ((j : Int) - 1) = ((j - 1 : Nat) : Int) := by rw [zad (by omega) (by omega)];omega
    rw [e2]
    refine zJ (by omega) (zJ (by omega) ?_)
    have e3 : zE ByteArray.empty l ((j - 1 : Nat) : Int) = l.getD (j - 1) ByteArray.empty := by rw [zE,Int.toNat_natCast]
    rw [e3,zcs,zcs,zdy]
    by_cases h2 : zdD (ofB (l.getD (j - 1) ByteArray.empty)) (ofB (l.getD j ByteArray.empty)) = true
    ·refine zJ h2 (z9 (ih (j + 1) (by omega)) ?_)
     simp only [zbe,zf6,h,h2];simp
    ·refine zU h2 (z9 (Ev.now _) ?_)
     rw [Bool.not_eq_true] at h2
     simp only [zbe,zf6,h,h0,h2];simp
  ·refine zU (by omega) (z9 (Ev.now _) ?_)
   simp only [zbe,zf6,h];simp
theorem zhH (l : List ByteArray) (r n : Int) (hl : l.length ≤ 9223372036854775807) : Ev (fun k => zan.f k l r n) (zb1 l r n) := by
 unfold zb1
 by_cases h : r = 1
 ·rw [if_pos h]
  refine zJ h (z9 (Ev.now _) ?_)
  by_cases h0 : l.length = 0 <;> simp [h0]
 ·rw [if_neg h]
  exact zU h (zgF l n hl l.length 0 (by omega))
def zaf.l0 : Nat → Int → Int → Int → Option (Int)
 | 0,_,_,_ => none
 | k + 1,x0,x1,x5 => if x5 < x1 then (zaf.l0 k ((Int.tdiv x0 2) % 4294967296) x1 (wrap64 (x5 + 1))) else (some x0)
def zaf.f (k : Nat) (a0 : Int) (a1 : Int) : Option (Int) := zaf.l0 k a0 a1 0
set_option maxHeartbeats 8000000 in
set_option maxRecDepth 100000 in
theorem zaf.calls (k : Nat) (a0 : Int) (a1 : Int) (r : Int) (w : World) (h : zaf.f k a0 a1 = some r) :
  Calls Try.prog 87 #[.int .u32 a0,.int .i64 a1] w fun e w' => e = .returned (.int .u32 r) ∧ za1 w w' := by
 have H : (zaf.l0 k a0 a1 0) = some r := h
 clear h
 have H' := za.mk H
 clear H
 go_enter Try.func87,Try.ntmps87
 go_wp2
 go_loopg [0,5] k (fun kq v0 v5 w' => ∃ (x0_1 : Int) (x5_1 : Int),v0 = .int .u32 x0_1 ∧ v5 = .int .i64 x5_1 ∧ za (zaf.l0 kq x0_1 a1 x5_1 = some r) ∧ za (kq ≤ k) ∧ za1 w w')
 case atStart => exact ⟨(a0),(0),(hDq),(hDq),H',⟨Nat.le_refl _⟩,hEq⟩
 case round =>
  clear H'
  try clear p2
  obtain ⟨x0_1,x5_1,rfl,rfl,HA,HK1,⟨m1,rfl⟩⟩ := hrel
  cases gk with
  | zero => exact absurd HA.out (by simp [zaf.l0])
  | succ k1 =>
   have H := HA.out
   clear HA
   simp only [zaf.l0] at H
   by_cases c3 : x5_1 < a1
   ·rw [if_pos c3] at H
    have c3b0 : decide (x5_1 < a1) = true := decide_eq_true c3
    clear c3
    have H' := za.mk H
    clear H
    go_wp2
    go_roundg k1
    case measure => have := HK1.out;omega
    case rel => exact ⟨((Int.tdiv x0_1 2) % 4294967296),(wrap64 (x5_1 + 1)),(hDq),(hDq),H',⟨by have := HK1.out;omega⟩,hEq⟩
   ·rw [if_neg c3] at H
    have c3b0 : decide (x5_1 < a1) = false := decide_eq_false c3
    clear c3
    obtain rfl := Option.some.inj H
    go_wp2
    go_ret
    exact ⟨hDq,hEq⟩
mutual
def zR.l0 : Nat → Int → Int → Int → Int → Option (Int)
 | 0,_,_,_,_ => none
 | k + 1,x0,x1,x5,x6 => if x6 < x1 then (zR.l0 k x0 x1 ((x5 * 2) % 4294967296) (wrap64 (x6 + 1))) else (if x5 = 0 then (none) else (zR.l1 k x0 x1 x5 (Int.tmod x0 x5) 0))
def zR.l1 : Nat → Int → Int → Int → Int → Int → Option (Int)
 | 0,_,_,_,_,_ => none
 | k + 1,x0,x1,x5,x7,x8 => if x8 < (wrap64 (32 - x1)) then (zR.l1 k x0 x1 x5 ((x7 * 2) % 4294967296) (wrap64 (x8 + 1))) else (if x5 = 0 then (none) else (some ((((Int.tdiv x0 x5) % 4294967296) + x7) % 4294967296)))
end
def zR.f (k : Nat) (a0 : Int) (a1 : Int) : Option (Int) := zR.l0 k a0 a1 1 0
set_option maxHeartbeats 8000000 in
set_option maxRecDepth 100000 in
theorem zR.calls (k : Nat) (a0 : Int) (a1 : Int) (r : Int) (w : World) (h : zR.f k a0 a1 = some r) :
  Calls Try.prog 86 #[.int .u32 a0,.int .i64 a1] w fun e w' => e = .returned (.int .u32 r) ∧ za1 w w' := by
 have H : (zR.l0 k a0 a1 1 0) = some r := h
 clear h
 have H' := za.mk H
 clear H
 go_enter Try.func86,Try.ntmps86
 go_wp2
 go_loopg [5,6] k (fun kq v5 v6 w' => ∃ (x5_1 : Int) (x6_1 : Int),v5 = .int .u32 x5_1 ∧ v6 = .int .i64 x6_1 ∧ za (zR.l0 kq a0 a1 x5_1 x6_1 = some r) ∧ za (kq ≤ k) ∧ za1 w w')
 case atStart => exact ⟨(1),(0),(hDq),(hDq),H',⟨Nat.le_refl _⟩,hEq⟩
 case round =>
  clear H'
  try clear p2
  obtain ⟨x5_1,x6_1,rfl,rfl,HA,HK1,⟨m1,rfl⟩⟩ := hrel
  cases gk with
  | zero => exact absurd HA.out (by simp [zR.l0])
  | succ k1 =>
   have H := HA.out
   clear HA
   simp only [zR.l0] at H
   by_cases c3 : x6_1 < a1
   ·rw [if_pos c3] at H
    have c3b0 : decide (x6_1 < a1) = true := decide_eq_true c3
    clear c3
    have H' := za.mk H
    clear H
    go_wp2
    go_roundg k1
    case measure => have := HK1.out;omega
    case rel => exact ⟨((x5_1 * 2) % 4294967296),(wrap64 (x6_1 + 1)),(hDq),(hDq),H',⟨by have := HK1.out;omega⟩,hEq⟩
   ·rw [if_neg c3] at H
    have c3b0 : decide (x6_1 < a1) = false := decide_eq_false c3
    clear c3
    by_cases c4 : x5_1 = 0
    ·rw [if_pos c4] at H
     exact absurd H (by simp)
    ·rw [if_neg c4] at H
     have c4b0 : (x5_1 == 0) = false := beq_eq_false_iff_ne.mpr c4
     have c4b1 : (x5_1 != 0) = true := bne_iff_ne.mpr c4
     have H' := za.mk H
     clear H
     go_wp2
     go_loopg [7,8] k1 (fun kq v7 v8 w' => ∃ (x7_2 : Int) (x8_2 : Int),v7 = .int .u32 x7_2 ∧ v8 = .int .i64 x8_2 ∧ za (zR.l1 kq a0 a1 x5_1 x7_2 x8_2 = some r) ∧ za (kq ≤ k1) ∧ za1 w w')
     case atStart => exact ⟨(Int.tmod a0 x5_1),(0),(hDq),(hDq),H',⟨Nat.le_refl _⟩,hEq⟩
     case round =>
      clear H'
      try clear p2;try clear c3;try clear c3b0;try clear c4;try clear c4b0;try clear c4b1;try clear p2
      obtain ⟨x7_2,x8_2,rfl,rfl,HA,HK2,⟨m2,rfl⟩⟩ := hrel
      cases gk with
      | zero => exact absurd HA.out (by simp [zR.l1])
      | succ k2 =>
       have H := HA.out
       clear HA
       simp only [zR.l1] at H
       by_cases c5 : x8_2 < (wrap64 (32 - a1))
       ·rw [if_pos c5] at H
        have c5b0 : decide (x8_2 < (wrap64 (32 - a1))) = true := decide_eq_true c5
        clear c5
        have H' := za.mk H
        clear H
        go_wp2
        go_roundg k2
        case measure => have := HK1.out;have := HK2.out;omega
        case rel => exact ⟨((x7_2 * 2) % 4294967296),(wrap64 (x8_2 + 1)),(hDq),(hDq),H',⟨by have := HK1.out;have := HK2.out;omega⟩,hEq⟩
       ·rw [if_neg c5] at H
        have c5b0 : decide (x8_2 < (wrap64 (32 - a1))) = false := decide_eq_false c5
        clear c5
        by_cases c6 : x5_1 = 0
        ·rw [if_pos c6] at H
         exact absurd H (by simp)
        ·rw [if_neg c6] at H
         have c6b0 : (x5_1 == 0) = false := beq_eq_false_iff_ne.mpr c6
         have c6b1 : (x5_1 != 0) = true := bne_iff_ne.mpr c6
         obtain rfl := Option.some.inj H
         go_wp2
         go_ret
         exact ⟨hDq,hEq⟩
def zcf.f (a0 : Int) (a1 : Int) : Option (Int) := if 0 ≤ (Go.bits .and .u64 (IntKind.u64.wrap (a1)) 31) then (if 0 ≤ (IntKind.u64.wrap (32 - (Go.bits .and .u64 (IntKind.u64.wrap (a1)) 31))) then (some (Go.bits .or .u32 (shl .u32 a0 (Go.bits .and .u64 (IntKind.u64.wrap (a1)) 31)) (shr .u32 a0 (IntKind.u64.wrap (32 - (Go.bits .and .u64 (IntKind.u64.wrap (a1)) 31)))))) else (none)) else (none)
def zfQ.f (a0 : Int) (a1 : Int) : Option (Int) := (zcf.f a0 (wrap64 (-a1))).bind fun t136 => (some t136)
def zbp (x : Int) : Prop := 0 ≤ x ∧ x < 4294967296
def zcl (x : Int) : Int := IntKind.u32.wrap x
theorem zbO (x : Int) : zcl x = x % 4294967296 := IntKind.wrap_u32 x
theorem zfo (x : Int) : zbp (zcl x) := by rw [zbO];unfold zbp;omega
def zas (n : Nat) (x : Int) : Int := x / 2 ^ n + x % 2 ^ n * 2 ^ (32 - n)
def zce (a b : Int) : Int := Go.bits .xor .u32 a b
def zdx (a b : Int) : Int := Go.bits .and .u32 a b
def zeM (L : List Int) (k w : Int) : List Int :=
 let t := zcl (zcl (zcl (zcl (L.getD 7 0 + zce (zce (zas 6 (L.getD 4 0)) (zas 11 (L.getD 4 0))) (zas 25 (L.getD 4 0))) + zce (zdx (L.getD 4 0) (L.getD 5 0)) (zdx (4294967295 - L.getD 4 0) (L.getD 6 0))) + k) + w)
 let u := zcl (zce (zce (zas 2 (L.getD 0 0)) (zas 13 (L.getD 0 0))) (zas 22 (L.getD 0 0)) + zce (zce (zdx (L.getD 0 0) (L.getD 1 0)) (zdx (L.getD 0 0) (L.getD 2 0))) (zdx (L.getD 1 0) (L.getD 2 0)))
 [zcl (t + u),L.getD 0 0,L.getD 1 0,L.getD 2 0,zcl (L.getD 3 0 + t),L.getD 4 0,L.getD 5 0,L.getD 6 0]
def okL (L : List Int) : Prop := ∀ i,zbp (L.getD i 0)
theorem zgC : okL [] := fun i => by simp [zbp]
theorem zbh {x : Int} {L : List Int} (hx : zbp x) (hL : okL L) : okL (x :: L) := fun i => by
 rcases i with _ | i
 ·exact hx
 ·exact hL i
theorem zg9 {x : Int} {L : List Int} (hL : okL L) (hx : zbp x) : okL (L ++ [x]) := fun i => by
 rw [List.getD_eq_getElem?_getD]
 rcases Nat.lt_trichotomy i L.length with h | h | h
 ·rw [List.getElem?_append_left h,← List.getD_eq_getElem?_getD];exact hL i
 ·subst h;simp;exact hx
 ·rw [List.getElem?_eq_none (by rw [List.length_append];simp;omega)];simp [zbp]
theorem ziG {L : List Int} (h : okL L) (k w : Int) : okL (zeM L k w) :=
 zbh (zfo _) (zbh (h 0) (zbh (h 1) (zbh (h 2) (zbh (zfo _) (zbh (h 4) (zbh (h 5) (zbh (h 6) zgC)))))))
def zfS (b : ByteArray) (i : Nat) : Int := bt b ((4 * i : Nat) : Int) * 16777216 + bt b ((4 * i + 1 : Nat) : Int) * 65536 + bt b ((4 * i + 2 : Nat) : Int) * 256 + bt b ((4 * i + 3 : Nat) : Int)
theorem word4_ok (b : ByteArray) (i : Nat) : zbp (zfS b i) := by
 have h0 := zbJ b ((4 * i : Nat) : Int)
 have h1 := zbJ b ((4 * i + 1 : Nat) : Int)
 have h2 := zbJ b ((4 * i + 2 : Nat) : Int)
 have h3 := zbJ b ((4 * i + 3 : Nat) : Int)
 unfold zbp zfS;omega
def zcz (b : ByteArray) : Nat → List Int
 | 0 => []
 | n + 1 => zcz b n ++ [zfS b n]
theorem zcc (b : ByteArray) : ∀ n,(zcz b n).length = n
 | 0 => rfl
 | n + 1 => by rw [zcz,List.length_append,zcc b n];rfl
theorem zg5 (b : ByteArray) : ∀ n,okL (zcz b n)
 | 0 => zgC
 | n + 1 => zg9 (zg5 b n) (word4_ok b n)
def zdw (W : List Int) (i : Nat) : Int :=
 zcl (zcl (zcl (W.getD (i - 16) 0 + zce (zce (zas 7 (W.getD (i - 15) 0)) (zas 18 (W.getD (i - 15) 0))) (W.getD (i - 15) 0 / 8)) + W.getD (i - 7) 0) + zce (zce (zas 17 (W.getD (i - 2) 0)) (zas 19 (W.getD (i - 2) 0))) (W.getD (i - 2) 0 / 1024))
def zL (b : ByteArray) : Nat → List Int
 | 0 => zcz b 16
 | n + 1 => zL b n ++ [zdw (zL b n) (16 + n)]
theorem za8 (b : ByteArray) : ∀ n,(zL b n).length = 16 + n
 | 0 => zcc b 16
 | n + 1 => by rw [zL,List.length_append,za8 b n];rfl
theorem zeN (b : ByteArray) : ∀ n,okL (zL b n)
 | 0 => zg5 b 16
 | n + 1 => zg9 (zeN b n) (zfo _)
def za5 (S K W : List Int) : Nat → List Int
 | 0 => S
 | n + 1 => zeM (za5 S K W n) (K.getD n 0) (W.getD n 0)
theorem zdu {S : List Int} (h : okL S) (K W : List Int) : ∀ n,okL (za5 S K W n)
 | 0 => h
 | n + 1 => ziG (zdu h K W n) _ _
theorem zdL {S : List Int} (h : S.length = 8) (K W : List Int) : ∀ n,(za5 S K W n).length = 8
 | 0 => h
 | _ + 1 => rfl
def zcH (S H : List Int) (k : Nat) : List Int := (List.range 8).map fun j => if j < k then zcl (S.getD j 0 + H.getD j 0) else S.getD j 0
theorem zcr (S H : List Int) (k : Nat) : (zcH S H k).length = 8 := by simp [zcH]
theorem zcN (S H : List Int) (k j : Nat) (hj : j < 8) : (zcH S H k).getD j 0 = if j < k then zcl (S.getD j 0 + H.getD j 0) else S.getD j 0 := by
 rw [zcH,List.getD_eq_getElem?_getD,List.getElem?_map,List.getElem?_range hj];rfl
theorem zfy {A B : List Int} (ha : A.length = 8) (hb : B.length = 8) (h : ∀ j,j < 8 → A.getD j 0 = B.getD j 0) : A = B := by
 apply List.ext_getElem (by rw [ha,hb])
 intro i h1 h2
 have := h i (by omega)
 rwa [List.getD_eq_getElem?_getD,List.getD_eq_getElem?_getD,List.getElem?_eq_getElem h1,List.getElem?_eq_getElem h2] at this
theorem zh1 {S : List Int} (h : S.length = 8) (H : List Int) : zcH S H 0 = S :=
 zfy (zcr _ _ _) h (fun j hj => by rw [zcN _ _ _ _ hj,if_neg (by omega)])
theorem getD_set (L : List Int) (k j : Nat) (v : Int) (hk : k < L.length) : (L.set k v).getD j 0 = if j = k then v else L.getD j 0 := by
 rw [List.getD_eq_getElem?_getD,List.getElem?_set]
 by_cases h : k = j
 ·subst h;rw [if_pos rfl,if_pos hk,if_pos rfl];rfl
 ·rw [if_neg h,if_neg (Ne.symm h),← List.getD_eq_getElem?_getD]
theorem zh0 (S H : List Int) (k : Nat) (hk : k < 8) : (zcH S H k).set k (zcl (S.getD k 0 + H.getD k 0)) = zcH S H (k + 1) := by
 refine zfy (by rw [List.length_set,zcr]) (zcr _ _ _) (fun j hj => ?_)
 rw [getD_set _ _ _ _ (by rw [zcr];exact hk),zcN _ _ _ _ hj,zcN _ _ _ _ hj]
 by_cases h : j = k
 ·subst h;rw [if_pos rfl,if_pos (by omega)]
 ·rw [if_neg h]
  by_cases h2 : j < k
  ·rw [if_pos h2,if_pos (by omega)]
  ·rw [if_neg h2,if_neg (by omega)]
def zd8 (S K : List Int) (b : ByteArray) : List Int := zcH (za5 S K (zL b 48) 64) S 8
theorem zde (S K : List Int) (b : ByteArray) : (zd8 S K b).length = 8 := zcr _ _ _
theorem mixL_ok (S K : List Int) (b : ByteArray) : okL (zd8 S K b) := fun i => by
 rcases Nat.lt_or_ge i 8 with h | h
 ·rw [zd8,zcN _ _ _ _ h,if_pos h];exact zfo _
 ·rw [List.getD_eq_getElem?_getD,List.getElem?_eq_none (by rw [zde];exact h)];simp [zbp]
def kL : List Int := [1116352408,1899447441,3049323471,3921009573,961987163,1508970993,2453635748,2870763221,3624381080,310598401,607225278,1426881987,1925078388,2162078206,2614888103,3248222580,3835390401,4022224774,264347078,604807628,770255983,1249150122,1555081692,1996064986,2554220882,2821834349,2952996808,3210313671,3336571891,3584528711,113926993,338241895,666307205,773529912,1294757372,1396182291,1695183700,1986661051,2177026350,2456956037,2730485921,2820302411,3259730800,3345764771,3516065817,3600352804,4094571909,275423344,430227734,506948616,659060556,883997877,958139571,1322822218,1537002063,1747873779,1955562222,2024104815,2227730452,2361852424,2428436474,2756734187,3204031479,3329325298]
def hL : List Int := [1779033703,3144134277,1013904242,2773480762,1359893119,2600822924,528734635,1541459225]
theorem hL_ok : okL hL := by
 refine zbh ?_ (zbh ?_ (zbh ?_ (zbh ?_ (zbh ?_ (zbh ?_ (zbh ?_ (zbh ?_ zgC))))))) <;> (constructor <;> decide)
def zd6 (n : Nat) : Bs := [UInt8.ofNat (n / 72057594037927936 % 256),UInt8.ofNat (n / 281474976710656 % 256),UInt8.ofNat (n / 1099511627776 % 256),UInt8.ofNat (n / 4294967296 % 256),UInt8.ofNat (n / 16777216 % 256),UInt8.ofNat (n / 65536 % 256),UInt8.ofNat (n / 256 % 256),UInt8.ofNat (n % 256)]
def zck (n : Nat) : Nat := (119 - n % 64) % 64
def zdJ (s : Bs) : Bs := s ++ 128 :: (List.replicate (zck s.length) 0 ++ zd6 (s.length * 8))
theorem zhb (s : Bs) : ∃ m,(zdJ s).length = 64 * m := by
 refine ⟨(s.length + 9 + zck s.length) / 64,?_⟩
 have : (zdJ s).length = s.length + 9 + zck s.length := by simp [zdJ,zd6];omega
 rw [this];unfold zck;omega
def zaZ (p : ByteArray) : Nat → List Int
 | 0 => hL
 | i + 1 => zd8 (zaZ p i) kL (p.extract (64 * i) (64 * i + 64))
theorem zbm (p : ByteArray) : ∀ i,(zaZ p i).length = 8
 | 0 => rfl
 | _ + 1 => zde _ _ _
theorem zdo (p : ByteArray) : ∀ i,okL (zaZ p i)
 | 0 => hL_ok
 | _ + 1 => mixL_ok _ _ _
def zcD (x : Int) : Bs := [UInt8.ofNat (x.toNat / 16777216 % 256),UInt8.ofNat (x.toNat / 65536 % 256),UInt8.ofNat (x.toNat / 256 % 256),UInt8.ofNat (x.toNat % 256)]
def zfP (s : ByteArray) : ByteArray := toB ((zaZ (toB (zdJ (ofB s))) ((zdJ (ofB s)).length / 64)).flatMap zcD)
theorem zej (l : List Int) : (l.flatMap zcD).length = 4 * l.length := by
 induction l with
 | nil => rfl
 | cons x l ih => rw [List.flatMap_cons,List.length_append,ih,List.length_cons];show 4 + _ = _;omega
theorem ziJ (s : ByteArray) : (zfP s).size = 32 := by
 rw [zfP,zax,zej,zbm]
def zO (L : List Int) : Array Value := (L.map (Value.int .u32)).toArray
theorem za0 (L : List Int) : (zO L).size = L.length := by simp [zO]
theorem zX (L : List Int) (i : Nat) (h : i < L.length) : (zO L)[i]? = some (.int .u32 (L.getD i 0)) := by
 rw [zO,List.getElem?_toArray,List.getElem?_map,List.getElem?_eq_getElem h,List.getD_eq_getElem?_getD,List.getElem?_eq_getElem h];rfl
theorem zeS (L : List Int) (i : Nat) (v : Int) : (zO L).setIfInBounds i (.int .u32 v) = zO (L.set i v) := by
 simp [zO,List.map_set]
theorem zeR (L : List Int) (h : L.length = 8) : zO L = #[.int .u32 (L.getD 0 0),.int .u32 (L.getD 1 0),.int .u32 (L.getD 2 0),.int .u32 (L.getD 3 0),.int .u32 (L.getD 4 0),.int .u32 (L.getD 5 0),.int .u32 (L.getD 6 0),.int .u32 (L.getD 7 0)] := by
 obtain ⟨a,b,c,d,e,f,g,k,rfl⟩ : ∃ a b c d e f g k,L = [a,b,c,d,e,f,g,k] := by
  match L,h with
  | [a,b,c,d,e,f,g,k],_ => exact ⟨a,b,c,d,e,f,g,k,rfl⟩
 rfl
def zbL (W : List Int) : List Int := W ++ List.replicate (64 - W.length) 0
theorem zdp {W : List Int} (h : W.length ≤ 64) : (zbL W).length = 64 := by simp [zbL];omega
theorem zfw {W : List Int} (i : Nat) (h : i < W.length) : (zbL W).getD i 0 = W.getD i 0 := by
 rw [zbL,List.getD_eq_getElem?_getD,List.getElem?_append_left h,← List.getD_eq_getElem?_getD]
theorem zhx {W : List Int} (h : W.length < 64) (v : Int) : (zbL W).set W.length v = zbL (W ++ [v]) := by
 rw [zbL,zbL,List.set_append_right _ _ (Nat.le_refl _),Nat.sub_self,List.length_append]
 obtain ⟨m,hm⟩ : ∃ m,64 - W.length = m + 1 := ⟨63 - W.length,by omega⟩
 rw [hm,List.replicate_succ,List.set_cons_zero,show 64 - (W.length + [v].length) = m by simp;omega]
 simp
theorem zhI (n : Nat) (h1 : n ≤ 32) : (2 : Int) ^ n * 2 ^ (32 - n) = 4294967296 := by
 rw [← Int.pow_add,show n + (32 - n) = 32 by omega];rfl
theorem zcj (n : Nat) : (0 : Int) < 2 ^ n := Int.pow_pos (by decide)
theorem rot32_ok (n : Nat) (h1 : n ≤ 32) {x : Int} (hx : zbp x) : zbp (zas n x) := by
 have hpq := zhI n h1
 have hp := zcj n
 have hq := zcj (32 - n)
 have h2 := Int.emod_nonneg x (Int.ne_of_gt hp)
 have h3 := Int.emod_lt_of_pos x hp
 have h4 : 0 ≤ x / 2 ^ n := Int.ediv_nonneg hx.1 (Int.le_of_lt hp)
 have h5 : x / 2 ^ n < 2 ^ (32 - n) := Int.ediv_lt_of_lt_mul hp (by rw [Int.mul_comm,hpq];exact hx.2)
 unfold zas
 generalize (2 : Int) ^ n = p at *
 generalize (2 : Int) ^ (32 - n) = q at *
 generalize x % p = m at *
 generalize x / p = d at *
 have h6 : m * q ≤ (p - 1) * q := Int.mul_le_mul_of_nonneg_right (by omega) (by omega)
 rw [Int.sub_mul,hpq,Int.one_mul] at h6
 have h7 : 0 ≤ m * q := Int.mul_nonneg h2 (by omega)
 unfold zbp;omega
theorem rot_join (n : Nat) (h1 : n ≤ 32) {x : Int} (hx : zbp x) : Go.bits .or .u32 (IntKind.u32.wrap (x * 2 ^ (32 - n))) (x / 2 ^ n) = zas n x := by
 have hpq := zhI n h1
 have hp := zcj n
 have hq := zcj (32 - n)
 have h2 := Int.emod_nonneg x (Int.ne_of_gt hp)
 have h3 := Int.emod_lt_of_pos x hp
 have h4 : 0 ≤ x / 2 ^ n := Int.ediv_nonneg hx.1 (Int.le_of_lt hp)
 have h5 : x / 2 ^ n < 2 ^ (32 - n) := Int.ediv_lt_of_lt_mul hp (by rw [Int.mul_comm,hpq];exact hx.2)
 have h8 : x / 2 ^ n < 4294967296 := by
  have : x / 2 ^ n ≤ x := Int.ediv_le_self _ hx.1
  have := hx.2;omega
 have e : IntKind.u32.wrap (x * 2 ^ (32 - n)) = x % 2 ^ n * 2 ^ (32 - n) := by
  rw [IntKind.wrap_u32,← hpq,Int.mul_comm x,Int.mul_comm (2 ^ n),Int.mul_emod_mul_of_pos _ _ hq,Int.mul_comm]
 have h6 : x % 2 ^ n * 2 ^ (32 - n) ≤ (2 ^ n - 1) * 2 ^ (32 - n) := Int.mul_le_mul_of_nonneg_right (by omega) (by omega)
 rw [Int.sub_mul,hpq,Int.one_mul] at h6
 have h7 : 0 ≤ x % 2 ^ n * 2 ^ (32 - n) := Int.mul_nonneg h2 (by omega)
 rw [e,bits_join .u32 32 (by decide) (fun n h0 h1 => by rw [IntKind.wrap_u32];omega) (32 - n) _ _ h7 (Int.mul_emod_left _ _) (by omega) h4 h5 (by omega),zas,Int.add_comm]
theorem zhk (n : Nat) (h0 : 1 ≤ n) (h1 : n ≤ 31) {x : Int} (hx : zbp x) : zfQ.f x (n : Int) = some (zas n x) := by
 unfold zfQ.f zcf.f
 have e1 : wrap64 (-(n : Int)) = -(n : Int) := zad (by omega) (by omega)
 have e2 : IntKind.u64.wrap (-(n : Int)) = 18446744073709551616 - (n : Int) := by
  show (-(n : Int)) % 18446744073709551616 = _
  omega
 have e3 : Go.bits .and .u64 (18446744073709551616 - (n : Int)) 31 = ((32 - n : Nat) : Int) := by
  have := bits_mask .u64 64 (by decide) (fun n h0 h1 => zbR h0 (by omega)) 5 (by decide) (18446744073709551616 - (n : Int)) (by omega) (by omega)
  rw [show ((2 : Int) ^ 5 - 1) = 31 from rfl,show (2 : Int) ^ 5 = 32 from rfl] at this
  rw [this];omega
 have e4 : IntKind.u64.wrap (32 - ((32 - n : Nat) : Int)) = (n : Int) := by rw [zbR (by omega) (by omega)];omega
 rw [e1,e2,e3,e4,if_pos (by omega),if_pos (by omega)]
 simp only [Option.bind_some]
 congr 1
 unfold shl shr
 rw [Int.toNat_natCast,Int.toNat_natCast,Nat.min_eq_left (by show 32 - n ≤ 32;omega),Nat.min_eq_left (by show n ≤ 32;omega)]
 exact rot_join n (by omega) hx
theorem zhR (x n p low : Int) (hp : p ≠ 0) (m : Nat) (hm : wrap64 (32 - n) = m) (d : Nat) : ∀ j : Nat,j + d = m → m ≤ 32 → 0 ≤ low → low * 2 ^ m < 4294967296 → Ev (fun k => zR.l1 k x n p (low * 2 ^ j) (j : Int)) (((Int.tdiv x p % 4294967296) + low * 2 ^ m) % 4294967296) := by
 induction d with
 | zero =>
  intro j hj hm2 h0 h1
  obtain rfl : j = m := by omega
  refine Ev.step (fun k => by rw [zR.l1]) ?_
  rw [hm]
  exact zU (by omega) (zU hp (Ev.now _))
 | succ d ih =>
  intro j hj hm2 h0 h1
  refine Ev.step (fun k => by rw [zR.l1]) ?_
  rw [hm]
  refine zJ (by omega) ?_
  have h2 : low * 2 ^ (j + 1) ≤ low * 2 ^ m := Int.mul_le_mul_of_nonneg_left (by exact_mod_cast Nat.pow_le_pow_right (by omega) (by omega)) h0
  have h3 : 0 ≤ low * 2 ^ (j + 1) := Int.mul_nonneg h0 (Int.le_of_lt (zcj _))
  have e1 : low * 2 ^ j * 2 % 4294967296 = low * 2 ^ (j + 1) := by
   rw [Int.mul_assoc,← Int.pow_succ]
   show low * 2 ^ (j + 1) % 4294967296 = low * 2 ^ (j + 1)
   omega
  rw [e1,zad (by omega) (by omega)]
  exact ih (j + 1) (by omega) hm2 h0 h1
theorem zhQ (x : Int) (n : Nat) (hn : n ≤ 31) (r : Int) (hr : Ev (fun k => zR.l1 k x n (2 ^ n) (Int.tmod x (2 ^ n)) 0) r) (d : Nat) : ∀ j : Nat,j + d = n → Ev (fun k => zR.l0 k x (n : Int) (2 ^ j) (j : Int)) r := by
 induction d with
 | zero =>
  intro j hj
  obtain rfl : j = n := by omega
  refine Ev.step (fun k => by rw [zR.l0]) ?_
  exact zU (by omega) (zU (Int.ne_of_gt (zcj _)) hr)
 | succ d ih =>
  intro j hj
  refine Ev.step (fun k => by rw [zR.l0]) ?_
  refine zJ (by omega) ?_
  have h2 : (2 : Int) ^ (j + 1) ≤ 2 ^ 31 := by exact_mod_cast Nat.pow_le_pow_right (by omega : 0 < 2) (by omega : j + 1 ≤ 31)
  have h3 : (2 : Int) ^ 31 = 2147483648 := rfl
  have h4 := zcj (j + 1)
  have e1 : (2 : Int) ^ j * 2 % 4294967296 = 2 ^ (j + 1) := by
   rw [← Int.pow_succ];omega
  rw [e1,zad (by omega) (by omega)]
  exact ih (j + 1) (by omega)
theorem zhP (n : Nat) (h0 : 1 ≤ n) (h1 : n ≤ 31) {x : Int} (hx : zbp x) : Ev (fun k => zR.f k x (n : Int)) (zas n x) := by
 have hpq := zhI n (by omega)
 have hp := zcj n
 have hq := zcj (32 - n)
 have h2 := Int.emod_nonneg x (Int.ne_of_gt hp)
 have h3 := Int.emod_lt_of_pos x hp
 have h6 : x % 2 ^ n * 2 ^ (32 - n) ≤ (2 ^ n - 1) * 2 ^ (32 - n) := Int.mul_le_mul_of_nonneg_right (by omega) (by omega)
 rw [Int.sub_mul,hpq,Int.one_mul] at h6
 have hl := zhR x n (2 ^ n) (x % 2 ^ n) (Int.ne_of_gt hp) (32 - n) (by rw [zad (by omega) (by omega)];omega) (32 - n) 0 (by omega) (by omega) h2 (by omega)
 rw [Int.pow_zero,Int.mul_one] at hl
 rw [← Int.tmod_eq_emod_of_nonneg hx.1] at hl
 have := zhQ x n h1 _ hl n 0 (by omega)
 rw [Int.pow_zero] at this
 refine z9 this ?_
 have ok := rot32_ok n (by omega) hx
 rw [Int.tmod_eq_emod_of_nonneg hx.1,Int.tdiv_eq_ediv_of_nonneg hx.1]
 have h4 : 0 ≤ x / 2 ^ n := Int.ediv_nonneg hx.1 (Int.le_of_lt hp)
 have h8 : x / 2 ^ n < 4294967296 := by
  have : x / 2 ^ n ≤ x := Int.ediv_le_self _ hx.1
  have := hx.2;omega
 rw [Int.emod_eq_of_lt h4 h8]
 exact Int.emod_eq_of_lt ok.1 ok.2
theorem zhO (n : Nat) (hn : n ≤ 31) (d : Nat) : ∀ (j : Nat) (x : Int),j + d = n → zbp x → Ev (fun k => zaf.l0 k x (n : Int) (j : Int)) (x / 2 ^ d) := by
 induction d with
 | zero =>
  intro j x hj hx
  refine Ev.step (fun k => by rw [zaf.l0]) ?_
  exact zU (by omega) (z9 (Ev.now _) (by simp))
 | succ d ih =>
  intro j x hj hx
  refine Ev.step (fun k => by rw [zaf.l0]) ?_
  refine zJ (by omega) ?_
  obtain ⟨x0,x1⟩ := hx
  have e1 : Int.tdiv x 2 % 4294967296 = x / 2 := by rw [Int.tdiv_eq_ediv_of_nonneg x0];omega
  rw [e1,zad (by omega) (by omega)]
  refine z9 (ih (j + 1) (x / 2) (by omega) ⟨by omega,by omega⟩) ?_
  rw [Int.pow_succ,Int.mul_comm,← Int.ediv_ediv_of_nonneg (by decide)]
theorem zhN (n : Nat) (hn : n ≤ 31) {x : Int} (hx : zbp x) : Ev (fun k => zaf.f k x (n : Int)) (x / 2 ^ n) := zhO n hn n 0 x (by omega) hx
end Go.Proofs.Ytklhjlaofkngcaa.Px