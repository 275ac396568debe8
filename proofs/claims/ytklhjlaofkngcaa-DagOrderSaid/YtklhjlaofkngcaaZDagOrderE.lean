/- Part 5 of 25 of the proof of the law DagOrder: what is proved is the statement at the end of the last part; its conditions are those of the given row. -/
import Derived.Laws.BitsAllLaws
import Derived.Test.YtklhjlaofkngcaaZDagOrderD
namespace Go.Proofs.Ytklhjlaofkngcaa.Px
open Go.RowKit Go.Proofs.YtklhjlaofkngcaaW.PrintWords Go.Proofs.YtklhjlaofkngcaaW.PrintLast Go.Proofs.YtklhjlaofkngcaaW.PrintMore
attribute [local go_sem] zx zz zE zF zr zt zy zA
set_option linter.unusedVariables false
set_option linter.unusedSimpArgs false
abbrev Bs := List UInt8
def toB (l : Bs) : ByteArray := ⟨l.toArray⟩
def ofB (s : ByteArray) : Bs := s.data.toList
theorem zcL (l : Bs) : ofB (toB l) = l := by simp [ofB,toB]
theorem zdO (s : ByteArray) : toB (ofB s) = s := by simp [ofB,toB]
theorem zgr {a b : ByteArray} (h : ofB a = ofB b) : a = b := by rw [← zdO a,← zdO b,h]
theorem zap (s : ByteArray) : (ofB s).length = s.size := by rw [ofB,Array.length_toList];rfl
theorem zbu (l : Bs) : (toB l).size = l.length := by rw [← zap,zcL]
theorem zf4 (a b : ByteArray) : ofB (a ++ b) = ofB a ++ ofB b := by simp [ofB]
theorem zbe (a b : Bs) : toB (a ++ b) = toB a ++ toB b := zgr (by rw [zf4,zcL,zcL,zcL])
theorem zbB (s : ByteArray) : s.toList = ofB s := ByteArray.toList_eq s
theorem zcT (xs : List Int) : strOfNums xs = toB (xs.map fun n => UInt8.ofNat n.toNat) := rfl
def be (v : Nat) : Bs := if v = 0 then [] else be (v / 256) ++ [UInt8.ofNat (v % 256)]
termination_by v
decreasing_by omega
theorem ze3 : be 0 = [] := by rw [be];simp
theorem zfU {v : Nat} (h : 0 < v) : be v = be (v / 256) ++ [UInt8.ofNat (v % 256)] := by rw [be,if_neg (by omega)]
def val (l : Bs) : Nat := l.foldl (fun a c => a * 256 + c.toNat) 0
theorem zgC (n : Nat) : ∀ v : Nat,(be v).length ≤ n ↔ v < 256 ^ n := by
 induction n with
 | zero =>
  intro v
  rcases Nat.eq_zero_or_pos v with h | h
  ·subst h;simp [ze3]
  ·rw [zfU h];simp;omega
 | succ n ih =>
  intro v
  rcases Nat.eq_zero_or_pos v with h | h
  ·subst h;simp [ze3,Nat.pow_pos]
  ·rw [zfU h,List.length_append,List.length_singleton,Nat.succ_le_succ_iff,ih,Nat.pow_succ,Nat.mul_comm,Nat.div_lt_iff_lt_mul (by omega),Nat.mul_comm]
theorem zhY {v : Nat} (h : v < 18446744073709551616) : (be v).length ≤ 8 := by
 have : (256 : Nat) ^ 8 = 18446744073709551616 := by decide
 exact (zgC 8 v).2 (by rw [this];exact h)
def zcz (v : Nat) : Bs := UInt8.ofNat (be v).length :: be v
def za1 (v : Nat) : ByteArray := toB (zcz v)
def zen (t : Bs) : Bs := zcz t.length ++ t
def zem (t : ByteArray) : ByteArray := za1 t.size ++ t
theorem zhJ (t : ByteArray) : zem t = toB (zen (ofB t)) := by rw [zen,zbe,zdO,zap];rfl
theorem zaw {v : Nat} (h : v < 18446744073709551616) : (zcz v).length ≤ 9 := by
 have := zhY h
 simp only [zcz,List.length_cons];omega
theorem zbi {v : Nat} (h : v < 18446744073709551616) : (za1 v).size ≤ 9 := by rw [za1,zbu];exact zaw h
theorem zd8 (v : Nat) (L : List Int) (h : L.map (fun n => UInt8.ofNat n.toNat) = be v) : strOfNums ((L.length : Int) :: L) = za1 v := by
 rw [zcT,List.map_cons,h,za1,zcz]
 have : L.length = (be v).length := by rw [← h,List.length_map]
 rw [this,Int.toNat_natCast]
def zfz : Bs → Bs → Bool
 | [],b => !b.isEmpty
 | _ :: _,[] => false
 | x :: xs,y :: ys => if x = y then zfz xs ys else decide (x.toNat < y.toNat)
theorem zcx : ∀ a b : Bs,Op.bytesLess a b = zfz a b
 | [],[] => rfl
 | [],_ :: _ => rfl
 | _ :: _,[] => rfl
 | x :: xs,y :: ys => by
  rw [Op.bytesLess,zfz,zcx xs ys]
  by_cases h : x = y
  ·subst h;simp
  ·rw [if_neg h]
   have hn : x.toNat ≠ y.toNat := fun e => h (UInt8.toNat_inj.1 e)
   by_cases h1 : x < y
   ·have := UInt8.lt_iff_toNat_lt.1 h1
    simp [h1,this]
   ·have h2 : ¬ x.toNat < y.toNat := fun e => h1 (UInt8.lt_iff_toNat_lt.2 e)
    have h3 : y < x := UInt8.lt_iff_toNat_lt.2 (by omega)
    simp [h1,h2]
    exact fun e => absurd e h
def zcZ (n : Int) : Bool := decide (4 ≤ n) && decide (n ≤ 64) && decide (n % 3 = 1)
theorem zag (n : Int) : z4.f n = some (zcZ n) := by
 unfold z4.f zcZ
 by_cases h : n ≥ 4
 ·rw [if_pos h]
  by_cases h1 : n ≤ 64
  ·rw [if_pos h1,Int.tmod_eq_emod_of_nonneg (by omega)]
   by_cases h2 : n % 3 = 1
   ·simp [h1,h2];omega
   ·simp [h2]
  ·rw [if_neg h1];simp [h1]
 ·rw [if_neg h]
  have : ¬ 4 ≤ n := by omega
  simp [this]
theorem zci (n : Int) : zcZ n = true ↔ 4 ≤ n ∧ n ≤ 64 ∧ n % 3 = 1 := by
 unfold zcZ;simp [and_assoc]
def zc9 (n : Int) : Int := if zcZ n = true then n - (n - 1) / 3 else 0
theorem zdH (n : Int) : zaY.f n = some (zc9 n) := by
 unfold zaY.f zaH.f zc9
 rw [zag]
 simp only [Option.bind_some]
 by_cases h : zcZ n = true
 ·rw [if_pos h,if_pos h,if_pos h]
  obtain ⟨h1,h2,h3⟩ := (zci n).1 h
  simp only [Option.bind_some]
  rw [zav (x := n - 1) (by omega) (by omega),Int.tdiv_eq_ediv_of_nonneg (by omega),zav (x := (n - 1) / 3) (by omega) (by omega),zav (by omega) (by omega)]
 ·rw [if_neg h,if_neg h]
def zf3 (a b : Int) : Bool := decide (0 ≤ a) && decide (a < 10007) && decide (0 ≤ b) && decide (b < 10007)
theorem zd6 (a b : Int) : zf3 a b = true ↔ 0 ≤ a ∧ a < 10007 ∧ 0 ≤ b ∧ b < 10007 := by
 unfold zf3;simp [and_assoc]
theorem zbm (a b : Int) : za5.f a b = some (zf3 a b) := by
 unfold za5.f zf3
 by_cases h1 : 0 ≤ a <;> by_cases h2 : a < 10007 <;> by_cases h3 : 0 ≤ b <;> simp [h1,h2,h3]
def zeo (r : Int) : Bool := decide (3 ≤ r) && decide (r % 3 = 0)
theorem za9 (r : Int) : zaI.f r = some (zeo r) := by
 unfold zaI.f zeo
 by_cases h : r ≥ 3
 ·rw [if_pos h,Int.tmod_eq_emod_of_nonneg (by omega)]
  have : 3 ≤ r := h
  by_cases h2 : r % 3 = 0 <;> simp [this,h2]
 ·rw [if_neg h]
  have : ¬ 3 ≤ r := by omega
  simp [this]
def zg1 (l : List ByteArray) (j : Nat) : Bool := decide ((l.getD j ByteArray.empty).size = 32) && (decide (j = 0) || zfz (ofB (l.getD (j - 1) ByteArray.empty)) (ofB (l.getD j ByteArray.empty)))
def zb1 (l : List ByteArray) : Nat → Nat → Bool
 | 0,_ => true
 | d + 1,j => zg1 l j && zb1 l d (j + 1)
def zbo (l : List ByteArray) (r n : Int) : Bool :=
 if r = 1 then decide (l.length = 0) else zb1 l l.length 0 && decide (zc9 n ≤ l.length) && decide ((l.length : Int) ≤ n)
theorem zfh (l : List ByteArray) (n : Int) (hl : l.length ≤ 9223372036854775807) (d : Nat) : ∀ j,j + d = l.length →
  Ev (fun k => zQ.l0 k l n l (l.length : Int) (j : Int)) (zb1 l d j && decide (zc9 n ≤ l.length) && decide ((l.length : Int) ≤ n)) := by
 induction d with
 | zero =>
  intro j hj
  refine Ev.step (fun k => by rw [zQ.l0]) ?_
  refine zak (by omega) (zbD (zdH n) ?_)
  by_cases h : zc9 n ≤ l.length
  ·exact zS h (zaC (Ev.now _) (by simp [zb1,h]))
  ·exact zak h (zaC (Ev.now _) (by simp [zb1,h]))
 | succ d ih =>
  intro j hj
  refine Ev.step (fun k => by rw [zQ.l0]) ?_
  refine zS (by omega) (zS (by omega) (zS (by omega) ?_))
  have e1 : zD ByteArray.empty l (j : Int) = l.getD j ByteArray.empty := by rw [zD,Int.toNat_natCast]
  rw [e1]
  by_cases h : (l.getD j ByteArray.empty).size = 32
  ·refine zS (by omega) ?_
   rw [zav (x := (j : Int) + 1) (by omega) (by omega)]
   by_cases h0 : j = 0
   ·subst h0
    refine zak (by omega) (zaC (ih 1 (by omega)) ?_)
    simp only [zb1,zg1,h];simp
   ·refine zS (by omega) ?_
    have e2 : wrap64 ((j : Int) - 1) = ((j - 1 : Nat) : Int) := by rw [zav (by omega) (by omega)];omega
    rw [e2]
    refine zS (by omega) (zS (by omega) ?_)
    have e3 : zD ByteArray.empty l ((j - 1 : Nat) : Int) = l.getD (j - 1) ByteArray.empty := by rw [zD,Int.toNat_natCast]
    rw [e3,zbB,zbB,zcx]
    by_cases h2 : zfz (ofB (l.getD (j - 1) ByteArray.empty)) (ofB (l.getD j ByteArray.empty)) = true
    ·refine zS h2 (zaC (ih (j + 1) (by omega)) ?_)
     simp only [zb1,zg1,h,h2];simp
    ·refine zak h2 (zaC (Ev.now _) ?_)
     rw [Bool.not_eq_true] at h2
     simp only [zb1,zg1,h,h0,h2];simp
  ·refine zak (by omega) (zaC (Ev.now _) ?_)
   simp only [zb1,zg1,h];simp
theorem zf7 (l : List ByteArray) (r n : Int) (hl : l.length ≤ 9223372036854775807) : Ev (fun k => zQ.f k l r n) (zbo l r n) := by
 unfold zbo
 by_cases h : r = 1
 ·rw [if_pos h]
  refine zS h (zaC (Ev.now _) ?_)
  by_cases h0 : l.length = 0 <;> simp [h0]
 ·rw [if_neg h]
  exact zak h (zfh l n hl l.length 0 (by omega))
def zbl.f (a0 : Int) (a1 : Int) : Option (Int) := if 0 ≤ (Go.bits .and .u64 (IntKind.u64.wrap (a1)) 31) then (if 0 ≤ (IntKind.u64.wrap (32 - (Go.bits .and .u64 (IntKind.u64.wrap (a1)) 31))) then (some (Go.bits .or .u32 (shl .u32 a0 (Go.bits .and .u64 (IntKind.u64.wrap (a1)) 31)) (shr .u32 a0 (IntKind.u64.wrap (32 - (Go.bits .and .u64 (IntKind.u64.wrap (a1)) 31)))))) else (none)) else (none)
def zel.f (a0 : Int) (a1 : Int) : Option (Int) := (zbl.f a0 (wrap64 (-a1))).bind fun t136 => (some t136)
def zbJ (x : Int) : Prop := 0 ≤ x ∧ x < 4294967296
def zbO (x : Int) : Int := IntKind.u32.wrap x
theorem zdP (x : Int) : zbO x = x % 4294967296 := IntKind.wrap_u32 x
theorem zdQ (x : Int) : zbJ (zbO x) := by rw [zdP];unfold zbJ;omega
def zaf (n : Nat) (x : Int) : Int := x / 2 ^ n + x % 2 ^ n * 2 ^ (32 - n)
def zbv (a b : Int) : Int := Go.bits .xor .u32 a b
def zcA (a b : Int) : Int := Go.bits .and .u32 a b
def zfk (L : List Int) (k w : Int) : List Int :=
 let t := zbO (zbO (zbO (zbO (L.getD 7 0 + zbv (zbv (zaf 6 (L.getD 4 0)) (zaf 11 (L.getD 4 0))) (zaf 25 (L.getD 4 0))) + zbv (zcA (L.getD 4 0) (L.getD 5 0)) (zcA (4294967295 - L.getD 4 0) (L.getD 6 0))) + k) + w)
 let u := zbO (zbv (zbv (zaf 2 (L.getD 0 0)) (zaf 13 (L.getD 0 0))) (zaf 22 (L.getD 0 0)) + zbv (zbv (zcA (L.getD 0 0) (L.getD 1 0)) (zcA (L.getD 0 0) (L.getD 2 0))) (zcA (L.getD 1 0) (L.getD 2 0)))
 [zbO (t + u),L.getD 0 0,L.getD 1 0,L.getD 2 0,zbO (L.getD 3 0 + t),L.getD 4 0,L.getD 5 0,L.getD 6 0]
def okL (L : List Int) : Prop := ∀ i,zbJ (L.getD i 0)
theorem zfd : okL [] := fun i => by simp [zbJ]
theorem zaD {x : Int} {L : List Int} (hx : zbJ x) (hL : okL L) : okL (x :: L) := fun i => by
 rcases i with _ | i
 ·exact hx
 ·exact hL i
theorem zfD {x : Int} {L : List Int} (hL : okL L) (hx : zbJ x) : okL (L ++ [x]) := fun i => by
 rw [List.getD_eq_getElem?_getD]
 rcases Nat.lt_trichotomy i L.length with h | h | h
 ·rw [List.getElem?_append_left h,← List.getD_eq_getElem?_getD];exact hL i
 ·subst h;simp;exact hx
 ·rw [List.getElem?_eq_none (by rw [List.length_append];simp;omega)];simp [zbJ]
theorem zgS {L : List Int} (h : okL L) (k w : Int) : okL (zfk L k w) :=
 zaD (zdQ _) (zaD (h 0) (zaD (h 1) (zaD (h 2) (zaD (zdQ _) (zaD (h 4) (zaD (h 5) (zaD (h 6) zfd)))))))
def zfL (b : ByteArray) (i : Nat) : Int := bt b ((4 * i : Nat) : Int) * 16777216 + bt b ((4 * i + 1 : Nat) : Int) * 65536 + bt b ((4 * i + 2 : Nat) : Int) * 256 + bt b ((4 * i + 3 : Nat) : Int)
theorem zhM (b : ByteArray) (i : Nat) : zbJ (zfL b i) := by
 have h0 := zbH b ((4 * i : Nat) : Int)
 have h1 := zbH b ((4 * i + 1 : Nat) : Int)
 have h2 := zbH b ((4 * i + 2 : Nat) : Int)
 have h3 := zbH b ((4 * i + 3 : Nat) : Int)
 unfold zbJ zfL;omega
def zdt (b : ByteArray) : Nat → List Int
 | 0 => []
 | n + 1 => zdt b n ++ [zfL b n]
theorem zca (b : ByteArray) : ∀ n,(zdt b n).length = n
 | 0 => rfl
 | n + 1 => by rw [zdt,List.length_append,zca b n];rfl
theorem zfw (b : ByteArray) : ∀ n,okL (zdt b n)
 | 0 => zfd
 | n + 1 => zfD (zfw b n) (zhM b n)
def zej (W : List Int) (i : Nat) : Int :=
 zbO (zbO (zbO (W.getD (i - 16) 0 + zbv (zbv (zaf 7 (W.getD (i - 15) 0)) (zaf 18 (W.getD (i - 15) 0))) (W.getD (i - 15) 0 / 8)) + W.getD (i - 7) 0) + zbv (zbv (zaf 17 (W.getD (i - 2) 0)) (zaf 19 (W.getD (i - 2) 0))) (W.getD (i - 2) 0 / 1024))
def zT (b : ByteArray) : Nat → List Int
 | 0 => zdt b 16
 | n + 1 => zT b n ++ [zej (zT b n) (16 + n)]
theorem zbd (b : ByteArray) : ∀ n,(zT b n).length = 16 + n
 | 0 => zca b 16
 | n + 1 => by rw [zT,List.length_append,zbd b n];rfl
theorem zeT (b : ByteArray) : ∀ n,okL (zT b n)
 | 0 => zfw b 16
 | n + 1 => zfD (zeT b n) (zdQ _)
def zbs (S K W : List Int) : Nat → List Int
 | 0 => S
 | n + 1 => zfk (zbs S K W n) (K.getD n 0) (W.getD n 0)
theorem zeh {S : List Int} (h : okL S) (K W : List Int) : ∀ n,okL (zbs S K W n)
 | 0 => h
 | n + 1 => zgS (zeh h K W n) _ _
theorem zdy {S : List Int} (h : S.length = 8) (K W : List Int) : ∀ n,(zbs S K W n).length = 8
 | 0 => h
 | _ + 1 => rfl
def zbZ (S H : List Int) (k : Nat) : List Int := (List.range 8).map fun j => if j < k then zbO (S.getD j 0 + H.getD j 0) else S.getD j 0
theorem zbU (S H : List Int) (k : Nat) : (zbZ S H k).length = 8 := by simp [zbZ]
theorem zco (S H : List Int) (k j : Nat) (hj : j < 8) : (zbZ S H k).getD j 0 = if j < k then zbO (S.getD j 0 + H.getD j 0) else S.getD j 0 := by
 rw [zbZ,List.getD_eq_getElem?_getD,List.getElem?_map,List.getElem?_range hj];rfl
theorem zfA {A B : List Int} (ha : A.length = 8) (hb : B.length = 8) (h : ∀ j,j < 8 → A.getD j 0 = B.getD j 0) : A = B := by
 apply List.ext_getElem (by rw [ha,hb])
 intro i h1 h2
 have := h i (by omega)
 rwa [List.getD_eq_getElem?_getD,List.getD_eq_getElem?_getD,List.getElem?_eq_getElem h1,List.getElem?_eq_getElem h2] at this
theorem zgg {S : List Int} (h : S.length = 8) (H : List Int) : zbZ S H 0 = S :=
 zfA (zbU _ _ _) h (fun j hj => by rw [zco _ _ _ _ hj,if_neg (by omega)])
theorem zhf (L : List Int) (k j : Nat) (v : Int) (hk : k < L.length) : (L.set k v).getD j 0 = if j = k then v else L.getD j 0 := by
 rw [List.getD_eq_getElem?_getD,List.getElem?_set]
 by_cases h : k = j
 ·subst h;rw [if_pos rfl,if_pos hk,if_pos rfl];rfl
 ·rw [if_neg h,if_neg (Ne.symm h),← List.getD_eq_getElem?_getD]
theorem zgf (S H : List Int) (k : Nat) (hk : k < 8) : (zbZ S H k).set k (zbO (S.getD k 0 + H.getD k 0)) = zbZ S H (k + 1) := by
 refine zfA (by rw [List.length_set,zbU]) (zbU _ _ _) (fun j hj => ?_)
 rw [zhf _ _ _ _ (by rw [zbU];exact hk),zco _ _ _ _ hj,zco _ _ _ _ hj]
 by_cases h : j = k
 ·subst h;rw [if_pos rfl,if_pos (by omega)]
 ·rw [if_neg h]
  by_cases h2 : j < k
  ·rw [if_pos h2,if_pos (by omega)]
  ·rw [if_neg h2,if_neg (by omega)]
def zfb (S K : List Int) (b : ByteArray) : List Int := zbZ (zbs S K (zT b 48) 64) S 8
theorem zc8 (S K : List Int) (b : ByteArray) : (zfb S K b).length = 8 := zbU _ _ _
theorem zh7 (S K : List Int) (b : ByteArray) : okL (zfb S K b) := fun i => by
 rcases Nat.lt_or_ge i 8 with h | h
 ·rw [zfb,zco _ _ _ _ h,if_pos h];exact zdQ _
 ·rw [List.getD_eq_getElem?_getD,List.getElem?_eq_none (by rw [zc8];exact h)];simp [zbJ]
def kL : List Int := [1116352408,1899447441,3049323471,3921009573,961987163,1508970993,2453635748,2870763221,3624381080,310598401,607225278,1426881987,1925078388,2162078206,2614888103,3248222580,3835390401,4022224774,264347078,604807628,770255983,1249150122,1555081692,1996064986,2554220882,2821834349,2952996808,3210313671,3336571891,3584528711,113926993,338241895,666307205,773529912,1294757372,1396182291,1695183700,1986661051,2177026350,2456956037,2730485921,2820302411,3259730800,3345764771,3516065817,3600352804,4094571909,275423344,430227734,506948616,659060556,883997877,958139571,1322822218,1537002063,1747873779,1955562222,2024104815,2227730452,2361852424,2428436474,2756734187,3204031479,3329325298]
def hL : List Int := [1779033703,3144134277,1013904242,2773480762,1359893119,2600822924,528734635,1541459225]
theorem ziU : okL hL := by
 refine zaD ?_ (zaD ?_ (zaD ?_ (zaD ?_ (zaD ?_ (zaD ?_ (zaD ?_ (zaD ?_ zfd))))))) <;> (constructor <;> decide)
def zdU (n : Nat) : Bs := [UInt8.ofNat (n / 72057594037927936 % 256),UInt8.ofNat (n / 281474976710656 % 256),UInt8.ofNat (n / 1099511627776 % 256),UInt8.ofNat (n / 4294967296 % 256),UInt8.ofNat (n / 16777216 % 256),UInt8.ofNat (n / 65536 % 256),UInt8.ofNat (n / 256 % 256),UInt8.ofNat (n % 256)]
def zc0 (n : Nat) : Nat := (119 - n % 64) % 64
def zdB (s : Bs) : Bs := s ++ 128 :: (List.replicate (zc0 s.length) 0 ++ zdU (s.length * 8))
theorem zhw (s : Bs) : ∃ m,(zdB s).length = 64 * m := by
 refine ⟨(s.length + 9 + zc0 s.length) / 64,?_⟩
 have : (zdB s).length = s.length + 9 + zc0 s.length := by simp [zdB,zdU];omega
 rw [this];unfold zc0;omega
def zaW (p : ByteArray) : Nat → List Int
 | 0 => hL
 | i + 1 => zfb (zaW p i) kL (p.extract (64 * i) (64 * i + 64))
theorem zbf (p : ByteArray) : ∀ i,(zaW p i).length = 8
 | 0 => rfl
 | _ + 1 => zc8 _ _ _
theorem zdW (p : ByteArray) : ∀ i,okL (zaW p i)
 | 0 => ziU
 | _ + 1 => zh7 _ _ _
def zcs (x : Int) : Bs := [UInt8.ofNat (x.toNat / 16777216 % 256),UInt8.ofNat (x.toNat / 65536 % 256),UInt8.ofNat (x.toNat / 256 % 256),UInt8.ofNat (x.toNat % 256)]
def zgc (s : ByteArray) : ByteArray := toB ((zaW (toB (zdB (ofB s))) ((zdB (ofB s)).length / 64)).flatMap zcs)
theorem zc5 (l : List Int) : (l.flatMap zcs).length = 4 * l.length := by
 induction l with
 | nil => rfl
 | cons x l ih => rw [List.flatMap_cons,List.length_append,ih,List.length_cons];show 4 + _ = _;omega
theorem zgV (s : ByteArray) : (zgc s).size = 32 := by
 rw [zgc,zbu,zc5,zbf]
def zJ (L : List Int) : Array Value := (L.map (Value.int .u32)).toArray
theorem zaX (L : List Int) : (zJ L).size = L.length := by simp [zJ]
theorem zac (L : List Int) (i : Nat) (h : i < L.length) : (zJ L)[i]? = some (.int .u32 (L.getD i 0)) := by
 rw [zJ,List.getElem?_toArray,List.getElem?_map,List.getElem?_eq_getElem h,List.getD_eq_getElem?_getD,List.getElem?_eq_getElem h];rfl
theorem zdr (L : List Int) (i : Nat) (v : Int) : (zJ L).setIfInBounds i (.int .u32 v) = zJ (L.set i v) := by
 simp [zJ,List.map_set]
theorem zdq (L : List Int) (h : L.length = 8) : zJ L = #[.int .u32 (L.getD 0 0),.int .u32 (L.getD 1 0),.int .u32 (L.getD 2 0),.int .u32 (L.getD 3 0),.int .u32 (L.getD 4 0),.int .u32 (L.getD 5 0),.int .u32 (L.getD 6 0),.int .u32 (L.getD 7 0)] := by
 obtain ⟨a,b,c,d,e,f,g,k,rfl⟩ : ∃ a b c d e f g k,L = [a,b,c,d,e,f,g,k] := by
  match L,h with
  | [a,b,c,d,e,f,g,k],_ => exact ⟨a,b,c,d,e,f,g,k,rfl⟩
 rfl
def zbb (W : List Int) : List Int := W ++ List.replicate (64 - W.length) 0
theorem zcu {W : List Int} (h : W.length ≤ 64) : (zbb W).length = 64 := by simp [zbb];omega
theorem zd0 {W : List Int} (i : Nat) (h : i < W.length) : (zbb W).getD i 0 = W.getD i 0 := by
 rw [zbb,List.getD_eq_getElem?_getD,List.getElem?_append_left h,← List.getD_eq_getElem?_getD]
theorem zfY {W : List Int} (h : W.length < 64) (v : Int) : (zbb W).set W.length v = zbb (W ++ [v]) := by
 rw [zbb,zbb,List.set_append_right _ _ (Nat.le_refl _),Nat.sub_self,List.length_append]
 obtain ⟨m,hm⟩ : ∃ m,64 - W.length = m + 1 := ⟨63 - W.length,by omega⟩
 rw [hm,List.replicate_succ,List.set_cons_zero,show 64 - (W.length + [v].length) = m by simp;omega]
 simp
theorem ziA (n : Nat) (h1 : n ≤ 32) : (2 : Int) ^ n * 2 ^ (32 - n) = 4294967296 := by
 rw [← Int.pow_add,show n + (32 - n) = 32 by omega];rfl
theorem zfE (n : Nat) : (0 : Int) < 2 ^ n := Int.pow_pos (by decide)
theorem zhD (n : Nat) (h1 : n ≤ 32) {x : Int} (hx : zbJ x) : Go.bits .or .u32 (IntKind.u32.wrap (x * 2 ^ (32 - n))) (x / 2 ^ n) = zaf n x := by
 have hpq := ziA n h1
 have hp := zfE n
 have hq := zfE (32 - n)
 have h2 := Int.emod_nonneg x (Int.ne_of_gt hp)
 have h3 := Int.emod_lt_of_pos x hp
 have h4 : 0 ≤ x / 2 ^ n := Int.ediv_nonneg hx.1 (Int.le_of_lt hp)
 have h5 : x / 2 ^ n < 2 ^ (32 - n) := Int.ediv_lt_of_lt_mul hp (by rw [Int.mul_comm,hpq];exact hx.2)
 have h8 : x / 2 ^ n < 4294967296 := by
  have : x / 2 ^ n ≤ x := Int.ediv_le_self _ hx.1
  have := hx.2;omega
 have e : IntKind.u32.wrap (x * 2 ^ (32 - n)) = x % 2 ^ n * 2 ^ (32 - n) := by
  rw [IntKind.wrap_u32,← hpq,Int.mul_comm x,Int.mul_comm (2 ^ n),Int.mul_emod_mul_of_pos _ _ hq,Int.mul_comm]
 have h6 : x % 2 ^ n * 2 ^ (32 - n) ≤ (2 ^ n - 1) * 2 ^ (32 - n) := Int.mul_le_mul_of_nonneg_right (by omega) (by omega)
 rw [Int.sub_mul,hpq,Int.one_mul] at h6
 have h7 : 0 ≤ x % 2 ^ n * 2 ^ (32 - n) := Int.mul_nonneg h2 (by omega)
 rw [e,bits_join .u32 32 (by decide) (fun n h0 h1 => by rw [IntKind.wrap_u32];omega) (32 - n) _ _ h7 (Int.mul_emod_left _ _) (by omega) h4 h5 (by omega),zaf,Int.add_comm]
theorem zfI (n : Nat) (h0 : 1 ≤ n) (h1 : n ≤ 31) {x : Int} (hx : zbJ x) : zel.f x (n : Int) = some (zaf n x) := by
 unfold zel.f zbl.f
 have e1 : wrap64 (-(n : Int)) = -(n : Int) := zav (by omega) (by omega)
 have e2 : IntKind.u64.wrap (-(n : Int)) = 18446744073709551616 - (n : Int) := by
  show (-(n : Int)) % 18446744073709551616 = _
  omega
 have e3 : Go.bits .and .u64 (18446744073709551616 - (n : Int)) 31 = ((32 - n : Nat) : Int) := by
  have := bits_mask .u64 64 (by decide) (fun n h0 h1 => zbK h0 (by omega)) 5 (by decide) (18446744073709551616 - (n : Int)) (by omega) (by omega)
  rw [show ((2 : Int) ^ 5 - 1) = 31 from rfl,show (2 : Int) ^ 5 = 32 from rfl] at this
  rw [this];omega
 have e4 : IntKind.u64.wrap (32 - ((32 - n : Nat) : Int)) = (n : Int) := by rw [zbK (by omega) (by omega)];omega
 rw [e1,e2,e3,e4,if_pos (by omega),if_pos (by omega)]
 simp only [Option.bind_some]
 congr 1
 unfold shl shr
 rw [Int.toNat_natCast,Int.toNat_natCast,Nat.min_eq_left (by show 32 - n ≤ 32;omega),Nat.min_eq_left (by show n ≤ 32;omega)]
 exact zhD n (by omega) hx
end Go.Proofs.Ytklhjlaofkngcaa.Px