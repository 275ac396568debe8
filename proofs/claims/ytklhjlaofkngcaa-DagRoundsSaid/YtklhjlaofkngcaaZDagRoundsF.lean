/- Part 6 of 33 of the proof of the law DagRounds: what is proved is the statement at the end of the last part; its conditions are those of the given row. -/
import Derived.Test.YtklhjlaofkngcaaZDagRoundsE
namespace Go.Proofs.Ytklhjlaofkngcaa.Px
open Go.RowKit Go.Proofs.YtklhjlaofkngcaaW.PrintWords Go.Proofs.YtklhjlaofkngcaaW.PrintLast Go.Proofs.YtklhjlaofkngcaaW.PrintMore
attribute [local go_sem] zG zI zM zN zB zC zH zJ
set_option linter.unusedVariables false
set_option linter.unusedSimpArgs false
def zag.l0 : Nat → List ByteArray → Int → List ByteArray → Int → Int → Option (Bool)
 | 0,_,_,_,_,_ => none
 | k + 1,x0,x2,x14,x15,x16 => if x16 < x15 then (if 0 ≤ x16 then (if x16 < (x14.length : Int) then (if ((zE ByteArray.empty x14 x16).size : Int) = 32 then (if x16 > 0 then (if 0 ≤ (wrap64 (x16 - 1)) then (if (wrap64 (x16 - 1)) < (x0.length : Int) then (if ((Op.bytesLess ((zE ByteArray.empty x0 (wrap64 (x16 - 1))).toList) ((zE ByteArray.empty x14 x16).toList)) = true) then (zag.l0 k x0 x2 x14 x15 (wrap64 (x16 + 1))) else (some false)) else (none)) else (none)) else (zag.l0 k x0 x2 x14 x15 (wrap64 (x16 + 1)))) else (some false)) else (none)) else (none)) else ((zbz.f x2).bind fun t113 => (if (x0.length : Int) ≥ t113 then (some (decide ((x0.length : Int) ≤ x2))) else (some false)))
def zag.f (k : Nat) (l0 : List ByteArray) (a1 : Int) (a2 : Int) : Option (Bool) := if a1 = 1 then (some ((l0.length : Int) == 0)) else (zag.l0 k l0 a2 l0 (l0.length : Int) 0)
set_option maxHeartbeats 8000000 in
set_option maxRecDepth 100000 in
theorem zag.calls (k : Nat) (A0 : Option Addr) (c0 : Nat) (l0 : List ByteArray) (a1 : Int) (a2 : Int) (r : Bool) (w : World) (hr0 : Kd.C Kd.string w A0 l0.length l0) (hc0 : l0.length ≤ c0) (h : zag.f k l0 a1 a2 = some r) :
  Calls Try.prog 74 #[.slice A0 l0.length c0,.int .i64 a1,.int .i64 a2] w fun e w' => e = .returned (.bool r) ∧ zaU w w' := by
 have HR0 := za.mk hr0
 have HC0 := za.mk hc0
 clear hr0 hc0
 have H : (if a1 = 1 then (some ((l0.length : Int) == 0)) else (zag.l0 k l0 a2 l0 (l0.length : Int) 0)) = some r := h
 clear h
 by_cases c4 : a1 = 1
 ·rw [if_pos c4] at H
  have c4b0 : (a1 == 1) = true := beq_iff_eq.mpr c4
  have c4b1 : (a1 != 1) = false := bne_eq_false_iff_eq.mpr c4
  clear c4
  obtain rfl := Option.some.inj H
  go_enter Try.func74,Try.ntmps74
  go_wp2
  go_ret
  exact ⟨hDq,hEq⟩
 ·rw [if_neg c4] at H
  have c4b0 : (a1 == 1) = false := beq_eq_false_iff_ne.mpr c4
  have c4b1 : (a1 != 1) = true := bne_iff_ne.mpr c4
  have H' := za.mk H
  clear H
  go_enter Try.func74,Try.ntmps74
  go_wp2
  go_loopg [16] k (fun kq v16 w' => ∃ (x16_1 : Int),v16 = .int .i64 x16_1 ∧ za (zag.l0 kq l0 a2 l0 (l0.length : Int) x16_1 = some r) ∧ za (kq ≤ k) ∧ zaU w w')
  case atStart => exact ⟨(0),(hDq),H',⟨Nat.le_refl _⟩,hEq⟩
  case round =>
   clear H'
   try clear p2;try clear c4;try clear c4b0;try clear c4b1
   obtain ⟨x16_1,rfl,HA,HK1,⟨m1,rfl⟩⟩ := hrel
   cases gk with
   | zero => exact absurd HA.out (by simp [zag.l0])
   | succ k1 =>
    have H := HA.out
    clear HA
    simp only [zag.l0] at H
    by_cases c5 : x16_1 < (l0.length : Int)
    ·rw [if_pos c5] at H
     have c5b0 : decide (x16_1 < (l0.length : Int)) = true := decide_eq_true c5
     clear c5
     by_cases c6 : 0 ≤ x16_1
     ·rw [if_pos c6] at H
      have c6b0 : decide (0 ≤ x16_1) = true := decide_eq_true c6
      clear c6
      by_cases c7 : x16_1 < (l0.length : Int)
      ·rw [if_pos c7] at H
       have c7b0 : decide (x16_1 < (l0.length : Int)) = true := decide_eq_true c7
       clear c7
       by_cases c8 : ((zE ByteArray.empty l0 x16_1).size : Int) = 32
       ·rw [if_pos c8] at H
        have c8b0 : (((zE ByteArray.empty l0 x16_1).size : Int) == 32) = true := beq_iff_eq.mpr c8
        have c8b1 : (((zE ByteArray.empty l0 x16_1).size : Int) != 32) = false := bne_eq_false_iff_eq.mpr c8
        clear c8
        by_cases c9 : x16_1 > 0
        ·rw [if_pos c9] at H
         have c9b0 : decide (0 < x16_1) = true := decide_eq_true c9
         clear c9
         obtain ⟨ji10,hji10⟩ : ∃ j_ : Int,(wrap64 (x16_1 - 1)) = j_ := ⟨_,rfl⟩
         replace H : (if 0 ≤ (ji10) then (if (ji10) < (l0.length : Int) then (if ((Op.bytesLess ((zE ByteArray.empty l0 (ji10)).toList) ((zE ByteArray.empty l0 x16_1).toList)) = true) then (zag.l0 k1 l0 a2 l0 (l0.length : Int) (wrap64 (x16_1 + 1))) else (some false)) else (none)) else (none)) = some r := by first | (rw [hji10] at H;exact H) | (simp only [hji10] at H ⊢;exact H)
         have hji10w : (IntKind.i64.wrap (x16_1 - 1)) = ji10 := (zn _).trans hji10
         by_cases c11 : 0 ≤ (ji10)
         ·rw [if_pos c11] at H
          have c11b0 : decide (0 ≤ (ji10)) = true := decide_eq_true c11
          clear c11
          by_cases c12 : (ji10) < (l0.length : Int)
          ·rw [if_pos c12] at H
           have c12b0 : decide ((ji10) < (l0.length : Int)) = true := decide_eq_true c12
           clear c12
           by_cases c13 : ((Op.bytesLess ((zE ByteArray.empty l0 (ji10)).toList) ((zE ByteArray.empty l0 x16_1).toList)) = true)
           ·rw [if_pos c13] at H
            have c13b0 : (Op.bytesLess ((zE ByteArray.empty l0 (ji10)).toList) ((zE ByteArray.empty l0 x16_1).toList)) = true := c13
            clear c13
            have H' := za.mk H
            clear H
            have p111 : 0 ≤ (x16_1 : Int) := hFq
            have q111 : x16_1 < (l0.length : Int) := hFq
            obtain ⟨ad111,e111,hx111_0⟩ := Kd.at_string HR0.out x16_1 p111 q111
            cases e111
            replace p111 := eq_true p111
            replace q111 := eq_true q111
            have p112 : 0 ≤ ((ji10) : Int) := hFq
            have q112 : (ji10) < (l0.length : Int) := hFq
            obtain ⟨ad112,e112,hx112_0⟩ := Kd.at_string HR0.out (ji10) p112 q112
            obtain rfl : ad111 = ad112 := (by injection e112)
            replace p112 := eq_true p112
            replace q112 := eq_true q112
            go_wp2
            go_roundg k1
            case measure => have := HK1.out;omega
            case rel => exact ⟨(wrap64 (x16_1 + 1)),(hDq),H',⟨by have := HK1.out;omega⟩,hEq⟩
           ·rw [if_neg c13] at H
            have c13b0 : (Op.bytesLess ((zE ByteArray.empty l0 (ji10)).toList) ((zE ByteArray.empty l0 x16_1).toList)) = false := by simpa using c13
            clear c13
            obtain rfl := Option.some.inj H
            have p111 : 0 ≤ (x16_1 : Int) := hFq
            have q111 : x16_1 < (l0.length : Int) := hFq
            obtain ⟨ad111,e111,hx111_0⟩ := Kd.at_string HR0.out x16_1 p111 q111
            cases e111
            replace p111 := eq_true p111
            replace q111 := eq_true q111
            have p112 : 0 ≤ ((ji10) : Int) := hFq
            have q112 : (ji10) < (l0.length : Int) := hFq
            obtain ⟨ad112,e112,hx112_0⟩ := Kd.at_string HR0.out (ji10) p112 q112
            obtain rfl : ad111 = ad112 := (by injection e112)
            replace p112 := eq_true p112
            replace q112 := eq_true q112
            go_wp2
            go_ret
            exact ⟨by first | rfl | (simp;done) | (simp only [← hji10] <;> (first | rfl | simp)) | (simp [*];done),hEq⟩
          ·rw [if_neg c12] at H
           exact absurd H (by simp)
         ·rw [if_neg c11] at H
          exact absurd H (by simp)
        ·rw [if_neg c9] at H
         have c9b0 : decide (0 < x16_1) = false := decide_eq_false c9
         clear c9
         have H' := za.mk H
         clear H
         have p111 : 0 ≤ (x16_1 : Int) := hFq
         have q111 : x16_1 < (l0.length : Int) := hFq
         obtain ⟨ad111,e111,hx111_0⟩ := Kd.at_string HR0.out x16_1 p111 q111
         cases e111
         replace p111 := eq_true p111
         replace q111 := eq_true q111
         go_wp2
         go_roundg k1
         case measure => have := HK1.out;omega
         case rel => exact ⟨(wrap64 (x16_1 + 1)),(hDq),H',⟨by have := HK1.out;omega⟩,hEq⟩
       ·rw [if_neg c8] at H
        have c8b0 : (((zE ByteArray.empty l0 x16_1).size : Int) == 32) = false := beq_eq_false_iff_ne.mpr c8
        have c8b1 : (((zE ByteArray.empty l0 x16_1).size : Int) != 32) = true := bne_iff_ne.mpr c8
        obtain rfl := Option.some.inj H
        have p111 : 0 ≤ (x16_1 : Int) := hFq
        have q111 : x16_1 < (l0.length : Int) := hFq
        obtain ⟨ad111,e111,hx111_0⟩ := Kd.at_string HR0.out x16_1 p111 q111
        cases e111
        replace p111 := eq_true p111
        replace q111 := eq_true q111
        go_wp2
        go_ret
        exact ⟨hDq,hEq⟩
      ·rw [if_neg c7] at H
       exact absurd H (by simp)
     ·rw [if_neg c6] at H
      exact absurd H (by simp)
    ·rw [if_neg c5] at H
     have c5b0 : decide (x16_1 < (l0.length : Int)) = false := decide_eq_false c5
     clear c5
     replace H := Option.bind_eq_some_iff.mp H
     obtain ⟨t113,A140,H⟩ := H
     replace H : (if (l0.length : Int) ≥ t113 then (some (decide ((l0.length : Int) ≤ a2))) else (some false)) = some r := H
     have A14 := za.mk A140
     clear A140
     by_cases c15 : (l0.length : Int) ≥ t113
     ·rw [if_pos c15] at H
      have c15b0 : decide (t113 ≤ (l0.length : Int)) = true := decide_eq_true c15
      clear c15
      obtain rfl := Option.some.inj H
      go_wp2_with (first | ((with_reducible refine zS (f := 93) rfl ?_);refine zav (some 41) rfl rfl Try.func93 (by kernel_rfl) rfl #[.int .i64 a2] rfl hMq ?_;(with_reducible refine (zbz.calls a2 t113 _ A14.out).mono ?_);rintro e w' ⟨rfl,⟨nd,rfl⟩⟩;refine ⟨_,rfl,?_⟩))
      go_ret
      exact ⟨hDq,hEq⟩
     ·rw [if_neg c15] at H
      have c15b0 : decide (t113 ≤ (l0.length : Int)) = false := decide_eq_false c15
      clear c15
      obtain rfl := Option.some.inj H
      go_wp2_with (first | ((with_reducible refine zS (f := 93) rfl ?_);refine zav (some 41) rfl rfl Try.func93 (by kernel_rfl) rfl #[.int .i64 a2] rfl hMq ?_;(with_reducible refine (zbz.calls a2 t113 _ A14.out).mono ?_);rintro e w' ⟨rfl,⟨nd,rfl⟩⟩;refine ⟨_,rfl,?_⟩))
      go_ret
      exact ⟨hDq,hEq⟩
def zbm.f (a0 : Int) : Option (Bool) := if a0 ≥ 3 then (some ((Int.tmod a0 3) == 0)) else (some false)
set_option maxHeartbeats 8000000 in
set_option maxRecDepth 100000 in
theorem zbm.calls (a0 : Int) (r : Bool) (w : World) (h : zbm.f a0 = some r) :
  Calls Try.prog 73 #[.int .i64 a0] w fun e w' => e = .returned (.bool r) ∧ zaU w w' := by
 have H : (if a0 ≥ 3 then (some ((Int.tmod a0 3) == 0)) else (some false)) = some r := h
 clear h
 by_cases c2 : a0 ≥ 3
 ·rw [if_pos c2] at H
  have c2b0 : decide (3 ≤ a0) = true := decide_eq_true c2
  clear c2
  obtain rfl := Option.some.inj H
  go_enter Try.func73,Try.ntmps73
  go_wp2
  go_ret
  exact ⟨hDq,hEq⟩
 ·rw [if_neg c2] at H
  have c2b0 : decide (3 ≤ a0) = false := decide_eq_false c2
  clear c2
  obtain rfl := Option.some.inj H
  go_enter Try.func73,Try.ntmps73
  go_wp2
  go_ret
  exact ⟨hDq,hEq⟩
theorem zF {α : Type} {c : Prop} [Decidable c] {f g : Nat → Option α} {r : α} (h : c) (e : Ev f r) : Ev (fun k => if c then f k else g k) r := by
 simp only [if_pos h]
 exact e
theorem zT {α : Type} {c : Prop} [Decidable c] {f g : Nat → Option α} {r : α} (h : ¬ c) (e : Ev g r) : Ev (fun k => if c then f k else g k) r := by
 simp only [if_neg h]
 exact e
theorem ev_ite {α : Type} {c : Prop} [Decidable c] {f g : Nat → Option α} {a b : α} (h : c → Ev f a) (h' : ¬ c → Ev g b) : Ev (fun k => if c then f k else g k) (if c then a else b) := by
 by_cases hc : c
 ·rw [if_pos hc];exact zF hc (h hc)
 ·rw [if_neg hc];exact zT hc (h' hc)
theorem z6 {α : Type} {f : Nat → Option α} {a b : α} (h : Ev f a) (e : a = b) : Ev f b := e ▸ h
theorem zaB {α β : Type} {o : Option α} {f : Nat → α → Option β} {a : α} {r : β} (h : o = some a) (k : Ev (fun n => f n a) r) : Ev (fun n => o.bind (f n)) r := by
 subst h
 exact k
theorem zbN {x : Int} (h0 : 0 ≤ x) (h1 : x < 18446744073709551616) : IntKind.u64.wrap x = x := by
 show x % 18446744073709551616 = x
 omega
theorem zZ {x : Int} (h0 : -9223372036854775808 ≤ x) (h1 : x < 9223372036854775808) : wrap64 x = x := by
 unfold wrap64
 omega
abbrev Bs := List UInt8
def toB (l : Bs) : ByteArray := ⟨l.toArray⟩
def ofB (s : ByteArray) : Bs := s.data.toList
theorem zcS (l : Bs) : ofB (toB l) = l := by simp [ofB,toB]
theorem zdS (s : ByteArray) : toB (ofB s) = s := by simp [ofB,toB]
theorem zh9 {a b : ByteArray} (h : ofB a = ofB b) : a = b := by rw [← zdS a,← zdS b,h]
theorem zan (s : ByteArray) : (ofB s).length = s.size := by rw [ofB,Array.length_toList];rfl
theorem zas (l : Bs) : (toB l).size = l.length := by rw [← zan,zcS]
theorem zhC (a b : ByteArray) : ofB (a ++ b) = ofB a ++ ofB b := by simp [ofB]
theorem za5 (a b : Bs) : toB (a ++ b) = toB a ++ toB b := zh9 (by rw [zhC,zcS,zcS,zcS])
theorem zcm (s : ByteArray) : s.toList = ofB s := ByteArray.toList_eq s
theorem bt_ofB (s : ByteArray) (i : Nat) : bt s (i : Int) = (((ofB s).getD i 0).toNat : Int) := by
 unfold bt ofB
 split
 ·rename_i h
  have h' : i < s.data.toList.length := by rw [zeQ];simpa using h
  simp [List.getD_eq_getElem?_getD,List.getElem?_eq_getElem h']
  rfl
 ·rename_i h
  have h' : s.data.toList.length ≤ i := by rw [zeQ];simp at h;omega
  simp [List.getD_eq_getElem?_getD,List.getElem?_eq_none h']
theorem zbB (xs : List Int) : strOfNums xs = toB (xs.map fun n => UInt8.ofNat n.toNat) := rfl
def be (v : Nat) : Bs := if v = 0 then [] else be (v / 256) ++ [UInt8.ofNat (v % 256)]
termination_by v
decreasing_by omega
theorem zed : be 0 = [] := by rw [be];simp
theorem zgw {v : Nat} (h : 0 < v) : be v = be (v / 256) ++ [UInt8.ofNat (v % 256)] := by rw [be,if_neg (by omega)]
def val (l : Bs) : Nat := l.foldl (fun a c => a * 256 + c.toNat) 0
theorem zim (n : Nat) : ∀ v : Nat,(be v).length ≤ n ↔ v < 256 ^ n := by
 induction n with
 | zero =>
  intro v
  rcases Nat.eq_zero_or_pos v with h | h
  ·subst h;simp [zed]
  ·rw [zgw h];simp;omega
 | succ n ih =>
  intro v
  rcases Nat.eq_zero_or_pos v with h | h
  ·subst h;simp [zed,Nat.pow_pos]
  ·rw [zgw h,List.length_append,List.length_singleton,Nat.succ_le_succ_iff,ih,Nat.pow_succ,Nat.mul_comm,Nat.div_lt_iff_lt_mul (by omega),Nat.mul_comm]
theorem be_len8 {v : Nat} (h : v < 18446744073709551616) : (be v).length ≤ 8 := by
 have : (256 : Nat) ^ 8 = 18446744073709551616 := by decide
 exact (zim 8 v).2 (by rw [this];exact h)
def zcX (v : Nat) : Bs := UInt8.ofNat (be v).length :: be v
def zbd (v : Nat) : ByteArray := toB (zcX v)
def zfR (t : Bs) : Bs := zcX t.length ++ t
def zd2 (t : ByteArray) : ByteArray := zbd t.size ++ t
theorem textB_eq (t : ByteArray) : zd2 t = toB (zfR (ofB t)) := by rw [zfR,za5,zdS,zan];rfl
theorem zaQ {v : Nat} (h : v < 18446744073709551616) : (zcX v).length ≤ 9 := by
 have := be_len8 h
 simp only [zcX,List.length_cons];omega
theorem zaZ {v : Nat} (h : v < 18446744073709551616) : (zbd v).size ≤ 9 := by rw [zbd,zas];exact zaQ h
theorem zfz (v : Nat) (L : List Int) (h : L.map (fun n => UInt8.ofNat n.toNat) = be v) : strOfNums ((L.length : Int) :: L) = zbd v := by
 rw [zbB,List.map_cons,h,zbd,zcX]
 have : L.length = (be v).length := by rw [← h,List.length_map]
 rw [this,Int.toNat_natCast]
mutual
def zK.l0 : Nat → ByteArray → ByteArray → Int → Option (Bool)
 | 0,_,_,_ => none
 | k + 1,x0,x1,x5 => if x5 < (x0.size : Int) then (zK.j1 k x0 x1 x5 (decide (x5 < (x1.size : Int)))) else (zK.j1 k x0 x1 x5 false)
def zK.j1 : Nat → ByteArray → ByteArray → Int → Bool → Option (Bool)
 | 0,_,_,_,_ => none
 | k + 1,x0,x1,x5,x15 => if x15 = true then (if 0 ≤ x5 then (if x5 < (x0.size : Int) then (if x5 < (x1.size : Int) then (if (bt x0 x5) = (bt x1 x5) then (zK.l0 k x0 x1 (wrap64 (x5 + 1))) else (some (decide ((bt x0 x5) < (bt x1 x5))))) else (none)) else (none)) else (none)) else (some (decide ((x0.size : Int) < (x1.size : Int))))
end
def zK.f (k : Nat) (a0 : ByteArray) (a1 : ByteArray) : Option (Bool) := zK.l0 k a0 a1 0
set_option maxHeartbeats 8000000 in
set_option maxRecDepth 100000 in
theorem zK.calls (k : Nat) (a0 : ByteArray) (a1 : ByteArray) (r : Bool) (w : World) (h : zK.f k a0 a1 = some r) :
  Calls Try.prog 82 #[.string a0,.string a1] w fun e w' => e = .returned (.bool r) ∧ zaU w w' := by
 have H : (zK.l0 k a0 a1 0) = some r := h
 clear h
 have H' := za.mk H
 clear H
 go_enter Try.func82,Try.ntmps82
 go_wp2
 repeat (go_quiet (fail);try go_wp2)
 go_loopg [5] k (fun kq v5 w' => ∃ (x5_1 : Int),v5 = .int .i64 x5_1 ∧ za (zK.l0 kq a0 a1 x5_1 = some r) ∧ za (kq ≤ k) ∧ zaU w w')
 case atStart => exact ⟨(0),(hDq),H',⟨Nat.le_refl _⟩,hEq⟩
 case round =>
  clear H'
  try clear p2
  obtain ⟨x5_1,rfl,HA,HK1,⟨m1,rfl⟩⟩ := hrel
  cases gk with
  | zero => exact absurd HA.out (by simp [zK.l0])
  | succ k1 =>
   have H := HA.out
   clear HA
   simp only [zK.l0] at H
   have HC3 := za.mk H
   clear H
   go_upto_region 2 with (fail)
   repeat (go_quiet (fail);go_upto_region 2 with (fail))
   go_cut [15] (fun v15 wc => ∃ (kq : Nat) (x15_2 : Bool),v15 = .bool x15_2 ∧ za (zK.j1 kq a0 a1 x5_1 x15_2 = some r) ∧ za (kq ≤ k1) ∧ zaU w wc)
   case first =>
    have H := HC3.out
    clear HC3
    by_cases c4 : x5_1 < (a0.size : Int)
    ·rw [if_pos c4] at H
     have c4b0 : decide (x5_1 < (a0.size : Int)) = true := decide_eq_true c4
     clear c4
     (first | rw [c4b0] | (simp only [zn,zp];rw [c4b0]) | skip)
     have H' := za.mk H
     clear H
     go_wp2
     repeat (go_quiet (fail);try go_wp2)
     go_meet
     case rel => exact ⟨_,(decide (x5_1 < (a1.size : Int))),(hDq),H',⟨by have := HK1.out;first | omega | exact Nat.le_refl _⟩,hEq⟩
    ·rw [if_neg c4] at H
     have c4b0 : decide (x5_1 < (a0.size : Int)) = false := decide_eq_false c4
     clear c4
     (first | rw [c4b0] | (simp only [zn,zp];rw [c4b0]) | skip)
     have H' := za.mk H
     clear H
     go_wp2
     repeat (go_quiet (fail);try go_wp2)
     go_meet
     case rel => exact ⟨_,(false),(hDq),H',⟨by have := HK1.out;first | omega | exact Nat.le_refl _⟩,hEq⟩
   case rest =>
    clear HC3
    try clear p2;try clear c4;try clear c4b0;try clear p2
    obtain ⟨kq,x15_2,rfl,HA,HJ2,⟨mc2,rfl⟩⟩ := hcut
    cases kq with
    | zero => exact absurd HA.out (by simp [zK.j1])
    | succ kj2 =>
     have H := HA.out
     clear HA
     simp only [zK.j1] at H
     by_cases c5 : x15_2 = true
     ·subst c5
      have H1 : (if 0 ≤ x5_1 then (if x5_1 < (a0.size : Int) then (if x5_1 < (a1.size : Int) then (if (bt a0 x5_1) = (bt a1 x5_1) then (zK.l0 kj2 a0 a1 (wrap64 (x5_1 + 1))) else (some (decide ((bt a0 x5_1) < (bt a1 x5_1))))) else (none)) else (none)) else (none)) = some r := by rw [if_pos rfl] at H;exact H
      clear H
      have H := H1
      clear H1
      by_cases c6 : 0 ≤ x5_1
      ·rw [if_pos c6] at H
       have c6b0 : decide (0 ≤ x5_1) = true := decide_eq_true c6
       clear c6
       by_cases c7 : x5_1 < (a0.size : Int)
       ·rw [if_pos c7] at H
        have c7b0 : decide (x5_1 < (a0.size : Int)) = true := decide_eq_true c7
        clear c7
        by_cases c9 : x5_1 < (a1.size : Int)
        ·rw [if_pos c9] at H
         have c9b0 : decide (x5_1 < (a1.size : Int)) = true := decide_eq_true c9
         clear c9
         by_cases c11 : (bt a0 x5_1) = (bt a1 x5_1)
         ·rw [if_pos c11] at H
          have c11b0 : ((bt a0 x5_1) == (bt a1 x5_1)) = true := beq_iff_eq.mpr c11
          have c11b1 : ((bt a0 x5_1) != (bt a1 x5_1)) = false := bne_eq_false_iff_eq.mpr c11
          clear c11
          have H' := za.mk H
          clear H
          have p8 : 0 ≤ (x5_1 : Int) := hFq
          have q8 : x5_1 < (a0.size : Int) := hFq
          have hx8 := zcO a0 x5_1
          replace p8 := eq_true p8
          replace q8 := eq_true q8
          have p10 : 0 ≤ (x5_1 : Int) := hFq
          have q10 : x5_1 < (a1.size : Int) := hFq
          have hx10 := zcO a1 x5_1
          replace p10 := eq_true p10
          replace q10 := eq_true q10
          go_wp2
          repeat (go_quiet (fail);try go_wp2)
          go_roundg kj2
          case measure => have := HK1.out;have := HJ2.out;omega
          case rel => exact ⟨(wrap64 (x5_1 + 1)),(hDq),H',⟨by have := HK1.out;have := HJ2.out;omega⟩,hEq⟩
         ·rw [if_neg c11] at H
          have c11b0 : ((bt a0 x5_1) == (bt a1 x5_1)) = false := beq_eq_false_iff_ne.mpr c11
          have c11b1 : ((bt a0 x5_1) != (bt a1 x5_1)) = true := bne_iff_ne.mpr c11
          obtain rfl := Option.some.inj H
          have p8 : 0 ≤ (x5_1 : Int) := hFq
          have q8 : x5_1 < (a0.size : Int) := hFq
          have hx8 := zcO a0 x5_1
          replace p8 := eq_true p8
          replace q8 := eq_true q8
          have p10 : 0 ≤ (x5_1 : Int) := hFq
          have q10 : x5_1 < (a1.size : Int) := hFq
          have hx10 := zcO a1 x5_1
          replace p10 := eq_true p10
          replace q10 := eq_true q10
          have p12 : 0 ≤ (x5_1 : Int) := hFq
          have q12 : x5_1 < (a0.size : Int) := hFq
          have hx12 := zcO a0 x5_1
          replace p12 := eq_true p12
          replace q12 := eq_true q12
          have p13 : 0 ≤ (x5_1 : Int) := hFq
          have q13 : x5_1 < (a1.size : Int) := hFq
          have hx13 := zcO a1 x5_1
          replace p13 := eq_true p13
          replace q13 := eq_true q13
          go_wp2
          repeat (go_quiet (fail);try go_wp2)
          go_ret
          exact ⟨hDq,hEq⟩
        ·rw [if_neg c9] at H
         exact absurd H (by simp)
       ·rw [if_neg c7] at H
        exact absurd H (by simp)
      ·rw [if_neg c6] at H
       exact absurd H (by simp)
     ·replace c5 := Bool.eq_false_iff.mpr c5
      subst c5
      have H1 : (some (decide ((a0.size : Int) < (a1.size : Int)))) = some r := by rw [if_neg (show ¬ (false = true) by decide)] at H;exact H
      clear H
      have H := H1
      clear H1
      obtain rfl := Option.some.inj H
      go_wp2
      repeat (go_quiet (fail);try go_wp2)
      go_ret
      exact ⟨hDq,hEq⟩
def zdz : Bs → Bs → Bool
 | [],b => !b.isEmpty
 | _ :: _,[] => false
 | x :: xs,y :: ys => if x = y then zdz xs ys else decide (x.toNat < y.toNat)
theorem bt_toB (l : Bs) (j : Nat) : bt (toB l) (j : Int) = ((l.getD j 0).toNat : Int) := by rw [bt_ofB,zcS]
theorem zey (l : Bs) (j : Nat) (h : j < l.length) : l.drop j = l.getD j 0 :: l.drop (j + 1) := by
 rw [List.drop_eq_getElem_cons h,List.getD_eq_getElem?_getD,List.getElem?_eq_getElem h];rfl
theorem ziu (a b : Bs) (ha : a.length < 4611686018427387904) (d : Nat) : ∀ j,j + d = a.length →
  Ev (fun k => zK.l0 k (toB a) (toB b) (j : Int)) (zdz (a.drop j) (b.drop j)) := by
 induction d with
 | zero =>
  intro j hj
  have e : a.drop j = [] := List.drop_eq_nil_of_le (by omega)
  refine Ev.step (fun k => by rw [zK.l0]) ?_
  refine zT (by rw [zas];omega) (Ev.step (fun k => by rw [zK.j1]) ?_)
  refine zT (by simp) (z6 (Ev.now _) ?_)
  rw [e,zdz,zas,zas]
  by_cases h : j < b.length
  ·rw [zey b j h];simp;omega
  ·rw [List.drop_eq_nil_of_le (by omega)];simp;omega
 | succ d ih =>
  intro j hj
  have e := zey a j (by omega)
  refine Ev.step (fun k => by rw [zK.l0]) ?_
  refine zF (by rw [zas];omega) (Ev.step (fun k => by rw [zK.j1]) ?_)
  by_cases h : j < b.length
  ·have f := zey b j h
   refine zF (by rw [zas];simp;omega) (zF (by omega) (zF (by rw [zas];omega) (zF (by rw [zas];omega) ?_)))
   rw [bt_toB,bt_toB,zZ (by omega) (by omega),e,f,zdz]
   by_cases hx : a.getD j 0 = b.getD j 0
   ·rw [if_pos hx]
    exact zF (by rw [hx]) (ih (j + 1) (by omega))
   ·rw [if_neg hx]
    exact zT (fun h => hx (UInt8.toNat_inj.1 (by omega))) (z6 (Ev.now _) (by simp))
  ·have f : b.drop j = [] := List.drop_eq_nil_of_le (by omega)
   refine zT (by rw [zas];simp;omega) (z6 (Ev.now _) ?_)
   rw [e,f,zdz,zas,zas]
   simp;omega
theorem less_ev (a b : ByteArray) (ha : a.size < 4611686018427387904) : Ev (fun k => zK.f k a b) (zdz (ofB a) (ofB b)) := by
 have h := ziu (ofB a) (ofB b) (by rw [zan];exact ha) (ofB a).length 0 (by omega)
 rw [zdS,zdS] at h
 exact h
theorem zdr : ∀ a b : Bs,Op.bytesLess a b = zdz a b
 | [],[] => rfl
 | [],_ :: _ => rfl
 | _ :: _,[] => rfl
 | x :: xs,y :: ys => by
  rw [Op.bytesLess,zdz,zdr xs ys]
  by_cases h : x = y
  ·subst h;simp
  ·rw [if_neg h]
   have hn : x.toNat ≠ y.toNat := fun e => h (UInt8.toNat_inj.1 e)
   by_cases h1 : x < y
   ·have := UInt8.lt_iff_toNat_lt.1 h1
    simp [h1,this]
   ·have h2 : ¬ x.toNat < y.toNat := fun e => h1 (UInt8.lt_iff_toNat_lt.2 e)
    have h3 : y < x := UInt8.lt_iff_toNat_lt.2 (by omega)
    simp [h1,h2]
    exact fun e => absurd e h
def zcB (n : Int) : Bool := decide (4 ≤ n) && decide (n ≤ 64) && decide (n % 3 = 1)
theorem zaC (n : Int) : zam.f n = some (zcB n) := by
 unfold zam.f zcB
 by_cases h : n ≥ 4
 ·rw [if_pos h]
  by_cases h1 : n ≤ 64
  ·rw [if_pos h1,Int.tmod_eq_emod_of_nonneg (by omega)]
   by_cases h2 : n % 3 = 1
   ·simp [h1,h2];omega
   ·simp [h2]
  ·rw [if_neg h1];simp [h1]
 ·rw [if_neg h]
  have : ¬ 4 ≤ n := by omega
  simp [this]
theorem zcu (n : Int) : zcB n = true ↔ 4 ≤ n ∧ n ≤ 64 ∧ n % 3 = 1 := by
 unfold zcB;simp [and_assoc]
def zbH (n : Int) : Int := if zcB n = true then n - (n - 1) / 3 else 0
theorem ze8 (n : Int) : zbz.f n = some (zbH n) := by
 unfold zbz.f zbl.f zbH
 rw [zaC]
 simp only [Option.bind_some]
 by_cases h : zcB n = true
 ·rw [if_pos h,if_pos h,if_pos h]
  obtain ⟨h1,h2,h3⟩ := (zcu n).1 h
  simp only [Option.bind_some]
  rw [zZ (x := n - 1) (by omega) (by omega),Int.tdiv_eq_ediv_of_nonneg (by omega),zZ (x := (n - 1) / 3) (by omega) (by omega),zZ (by omega) (by omega)]
 ·rw [if_neg h,if_neg h]
def ze0 (a b : Int) : Bool := decide (0 ≤ a) && decide (a < 10007) && decide (0 ≤ b) && decide (b < 10007)
theorem zei (a b : Int) : ze0 a b = true ↔ 0 ≤ a ∧ a < 10007 ∧ 0 ≤ b ∧ b < 10007 := by
 unfold ze0;simp [and_assoc]
theorem zcc (a b : Int) : zbP.f a b = some (ze0 a b) := by
 unfold zbP.f ze0
 by_cases h1 : 0 ≤ a <;> by_cases h2 : a < 10007 <;> by_cases h3 : 0 ≤ b <;> simp [h1,h2,h3]
def zc0 (r : Int) : Bool := decide (3 ≤ r) && decide (r % 3 = 0)
theorem zbZ (r : Int) : zbm.f r = some (zc0 r) := by
 unfold zbm.f zc0
 by_cases h : r ≥ 3
 ·rw [if_pos h,Int.tmod_eq_emod_of_nonneg (by omega)]
  have : 3 ≤ r := h
  by_cases h2 : r % 3 = 0 <;> simp [this,h2]
 ·rw [if_neg h]
  have : ¬ 3 ≤ r := by omega
  simp [this]
def zf7 (l : List ByteArray) (j : Nat) : Bool := decide ((l.getD j ByteArray.empty).size = 32) && (decide (j = 0) || zdz (ofB (l.getD (j - 1) ByteArray.empty)) (ofB (l.getD j ByteArray.empty)))
def za8 (l : List ByteArray) : Nat → Nat → Bool
 | 0,_ => true
 | d + 1,j => zf7 l j && za8 l d (j + 1)
def zbV (l : List ByteArray) (r n : Int) : Bool :=
 if r = 1 then decide (l.length = 0) else za8 l l.length 0 && decide (zbH n ≤ l.length) && decide ((l.length : Int) ≤ n)
theorem zgH (l : List ByteArray) (n : Int) (hl : l.length ≤ 9223372036854775807) (d : Nat) : ∀ j,j + d = l.length →
  Ev (fun k => zag.l0 k l n l (l.length : Int) (j : Int)) (za8 l d j && decide (zbH n ≤ l.length) && decide ((l.length : Int) ≤ n)) := by
 induction d with
 | zero =>
  intro j hj
  refine Ev.step (fun k => by rw [zag.l0]) ?_
  refine zT (by omega) (zaB (ze8 n) ?_)
  by_cases h : zbH n ≤ l.length
  ·exact zF h (z6 (Ev.now _) (by simp [za8,h]))
  ·exact zT h (z6 (Ev.now _) (by simp [za8,h]))
 | succ d ih =>
  intro j hj
  refine Ev.step (fun k => by rw [zag.l0]) ?_
  refine zF (by omega) (zF (by omega) (zF (by omega) ?_))
  have e1 : zE ByteArray.empty l (j : Int) = l.getD j ByteArray.empty := by rw [zE,Int.toNat_natCast]
  rw [e1]
  by_cases h : (l.getD j ByteArray.empty).size = 32
  ·refine zF (by omega) ?_
   rw [zZ (x := (j : Int) + 1) (by omega) (by omega)]
   by_cases h0 : j = 0
   ·subst h0
    refine zT (by omega) (z6 (ih 1 (by omega)) ?_)
    simp only [za8,zf7,h];simp
   ·refine zF (by omega) ?_
    have e2 : wrap64 ((j : Int) - 1) = ((j - 1 : Nat) : Int) := by rw [zZ (by omega) (by omega)];omega
    rw [e2]
    refine zF (by omega) (zF (by omega) ?_)
    have e3 : zE ByteArray.empty l ((j - 1 : Nat) : Int) = l.getD (j - 1) ByteArray.empty := by rw [zE,Int.toNat_natCast]
    rw [e3,zcm,zcm,zdr]
    by_cases h2 : zdz (ofB (l.getD (j - 1) ByteArray.empty)) (ofB (l.getD j ByteArray.empty)) = true
    ·refine zF h2 (z6 (ih (j + 1) (by omega)) ?_)
     simp only [za8,zf7,h,h2];simp
    ·refine zT h2 (z6 (Ev.now _) ?_)
     rw [Bool.not_eq_true] at h2
     simp only [za8,zf7,h,h0,h2];simp
  ·refine zT (by omega) (z6 (Ev.now _) ?_)
   simp only [za8,zf7,h];simp
theorem zhF (l : List ByteArray) (r n : Int) (hl : l.length ≤ 9223372036854775807) : Ev (fun k => zag.f k l r n) (zbV l r n) := by
 unfold zbV
 by_cases h : r = 1
 ·rw [if_pos h]
  refine zF h (z6 (Ev.now _) ?_)
  by_cases h0 : l.length = 0 <;> simp [h0]
 ·rw [if_neg h]
  exact zT h (zgH l n hl l.length 0 (by omega))
def zac.l0 : Nat → Int → Int → Int → Option (Int)
 | 0,_,_,_ => none
 | k + 1,x0,x1,x5 => if x5 < x1 then (zac.l0 k ((Int.tdiv x0 2) % 4294967296) x1 (wrap64 (x5 + 1))) else (some x0)
def zac.f (k : Nat) (a0 : Int) (a1 : Int) : Option (Int) := zac.l0 k a0 a1 0
set_option maxHeartbeats 8000000 in
set_option maxRecDepth 100000 in
theorem zac.calls (k : Nat) (a0 : Int) (a1 : Int) (r : Int) (w : World) (h : zac.f k a0 a1 = some r) :
  Calls Try.prog 87 #[.int .u32 a0,.int .i64 a1] w fun e w' => e = .returned (.int .u32 r) ∧ zaU w w' := by
 have H : (zac.l0 k a0 a1 0) = some r := h
 clear h
 have H' := za.mk H
 clear H
 go_enter Try.func87,Try.ntmps87
 go_wp2
 go_loopg [0,5] k (fun kq v0 v5 w' => ∃ (x0_1 : Int) (x5_1 : Int),v0 = .int .u32 x0_1 ∧ v5 = .int .i64 x5_1 ∧ za (zac.l0 kq x0_1 a1 x5_1 = some r) ∧ za (kq ≤ k) ∧ zaU w w')
 case atStart => exact ⟨(a0),(0),(hDq),(hDq),H',⟨Nat.le_refl _⟩,hEq⟩
 case round =>
  clear H'
  try clear p2
  obtain ⟨x0_1,x5_1,rfl,rfl,HA,HK1,⟨m1,rfl⟩⟩ := hrel
  cases gk with
  | zero => exact absurd HA.out (by simp [zac.l0])
  | succ k1 =>
   have H := HA.out
   clear HA
   simp only [zac.l0] at H
   by_cases c3 : x5_1 < a1
   ·rw [if_pos c3] at H
    have c3b0 : decide (x5_1 < a1) = true := decide_eq_true c3
    clear c3
    have H' := za.mk H
    clear H
    go_wp2
    go_roundg k1
    case measure => have := HK1.out;omega
    case rel => exact ⟨((Int.tdiv x0_1 2) % 4294967296),(wrap64 (x5_1 + 1)),(hDq),(hDq),H',⟨by have := HK1.out;omega⟩,hEq⟩
   ·rw [if_neg c3] at H
    have c3b0 : decide (x5_1 < a1) = false := decide_eq_false c3
    clear c3
    obtain rfl := Option.some.inj H
    go_wp2
    go_ret
    exact ⟨hDq,hEq⟩
mutual
def zR.l0 : Nat → Int → Int → Int → Int → Option (Int)
 | 0,_,_,_,_ => none
 | k + 1,x0,x1,x5,x6 => if x6 < x1 then (zR.l0 k x0 x1 ((x5 * 2) % 4294967296) (wrap64 (x6 + 1))) else (if x5 = 0 then (none) else (zR.l1 k x0 x1 x5 (Int.tmod x0 x5) 0))
def zR.l1 : Nat → Int → Int → Int → Int → Int → Option (Int)
 | 0,_,_,_,_,_ => none
 | k + 1,x0,x1,x5,x7,x8 => if x8 < (wrap64 (32 - x1)) then (zR.l1 k x0 x1 x5 ((x7 * 2) % 4294967296) (wrap64 (x8 + 1))) else (if x5 = 0 then (none) else (some ((((Int.tdiv x0 x5) % 4294967296) + x7) % 4294967296)))
end
def zR.f (k : Nat) (a0 : Int) (a1 : Int) : Option (Int) := zR.l0 k a0 a1 1 0
set_option maxHeartbeats 8000000 in
set_option maxRecDepth 100000 in
theorem zR.calls (k : Nat) (a0 : Int) (a1 : Int) (r : Int) (w : World) (h : zR.f k a0 a1 = some r) :
  Calls Try.prog 86 #[.int .u32 a0,.int .i64 a1] w fun e w' => e = .returned (.int .u32 r) ∧ zaU w w' := by
 have H : (zR.l0 k a0 a1 1 0) = some r := h
 clear h
 have H' := za.mk H
 clear H
 go_enter Try.func86,Try.ntmps86
 go_wp2
 go_loopg [5,6] k (fun kq v5 v6 w' => ∃ (x5_1 : Int) (x6_1 : Int),v5 = .int .u32 x5_1 ∧ v6 = .int .i64 x6_1 ∧ za (zR.l0 kq a0 a1 x5_1 x6_1 = some r) ∧ za (kq ≤ k) ∧ zaU w w')
 case atStart => exact ⟨(1),(0),(hDq),(hDq),H',⟨Nat.le_refl _⟩,hEq⟩
 case round =>
  clear H'
  try clear p2
  obtain ⟨x5_1,x6_1,rfl,rfl,HA,HK1,⟨m1,rfl⟩⟩ := hrel
  cases gk with
  | zero => exact absurd HA.out (by simp [zR.l0])
  | succ k1 =>
   have H := HA.out
   clear HA
   simp only [zR.l0] at H
   by_cases c3 : x6_1 < a1
   ·rw [if_pos c3] at H
    have c3b0 : decide (x6_1 < a1) = true := decide_eq_true c3
    clear c3
    have H' := za.mk H
    clear H
    go_wp2
    go_roundg k1
    case measure => have := HK1.out;omega
    case rel => exact ⟨((x5_1 * 2) % 4294967296),(wrap64 (x6_1 + 1)),(hDq),(hDq),H',⟨by have := HK1.out;omega⟩,hEq⟩
   ·rw [if_neg c3] at H
    have c3b0 : decide (x6_1 < a1) = false := decide_eq_false c3
    clear c3
    by_cases c4 : x5_1 = 0
    ·rw [if_pos c4] at H
     exact absurd H (by simp)
    ·rw [if_neg c4] at H
     have c4b0 : (x5_1 == 0) = false := beq_eq_false_iff_ne.mpr c4
     have c4b1 : (x5_1 != 0) = true := bne_iff_ne.mpr c4
     have H' := za.mk H
     clear H
     go_wp2
     go_loopg [7,8] k1 (fun kq v7 v8 w' => ∃ (x7_2 : Int) (x8_2 : Int),v7 = .int .u32 x7_2 ∧ v8 = .int .i64 x8_2 ∧ za (zR.l1 kq a0 a1 x5_1 x7_2 x8_2 = some r) ∧ za (kq ≤ k1) ∧ zaU w w')
     case atStart => exact ⟨(Int.tmod a0 x5_1),(0),(hDq),(hDq),H',⟨Nat.le_refl _⟩,hEq⟩
     case round =>
      clear H'
      try clear p2;try clear c3;try clear c3b0;try clear c4;try clear c4b0;try clear c4b1;try clear p2
      obtain ⟨x7_2,x8_2,rfl,rfl,HA,HK2,⟨m2,rfl⟩⟩ := hrel
      cases gk with
      | zero => exact absurd HA.out (by simp [zR.l1])
      | succ k2 =>
       have H := HA.out
       clear HA
       simp only [zR.l1] at H
       by_cases c5 : x8_2 < (wrap64 (32 - a1))
       ·rw [if_pos c5] at H
        have c5b0 : decide (x8_2 < (wrap64 (32 - a1))) = true := decide_eq_true c5
        clear c5
        have H' := za.mk H
        clear H
        go_wp2
        go_roundg k2
        case measure => have := HK1.out;have := HK2.out;omega
        case rel => exact ⟨((x7_2 * 2) % 4294967296),(wrap64 (x8_2 + 1)),(hDq),(hDq),H',⟨by have := HK1.out;have := HK2.out;omega⟩,hEq⟩
       ·rw [if_neg c5] at H
        have c5b0 : decide (x8_2 < (wrap64 (32 - a1))) = false := decide_eq_false c5
        clear c5
        by_cases c6 : x5_1 = 0
        ·rw [if_pos c6] at H
         exact absurd H (by simp)
        ·rw [if_neg c6] at H
         have c6b0 : (x5_1 == 0) = false := beq_eq_false_iff_ne.mpr c6
         have c6b1 : (x5_1 != 0) = true := bne_iff_ne.mpr c6
         obtain rfl := Option.some.inj H
         go_wp2
         go_ret
         exact ⟨hDq,hEq⟩
def zcb.f (a0 : Int) (a1 : Int) : Option (Int) := if 0 ≤ (Go.bits .and .u64 (IntKind.u64.wrap (a1)) 31) then (if 0 ≤ (IntKind.u64.wrap (32 - (Go.bits .and .u64 (IntKind.u64.wrap (a1)) 31))) then (some (Go.bits .or .u32 (shl .u32 a0 (Go.bits .and .u64 (IntKind.u64.wrap (a1)) 31)) (shr .u32 a0 (IntKind.u64.wrap (32 - (Go.bits .and .u64 (IntKind.u64.wrap (a1)) 31)))))) else (none)) else (none)
def zfQ.f (a0 : Int) (a1 : Int) : Option (Int) := (zcb.f a0 (wrap64 (-a1))).bind fun t136 => (some t136)
end Go.Proofs.Ytklhjlaofkngcaa.Px