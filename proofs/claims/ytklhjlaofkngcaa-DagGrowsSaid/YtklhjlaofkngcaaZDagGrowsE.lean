/- Part 5 of 25 of the proof of the law DagGrows: what is proved is the statement at the end of the last part; its conditions are those of the given row. -/
import Derived.Laws.BitsAllLaws
import Derived.Test.YtklhjlaofkngcaaZDagGrowsD
namespace Go.Proofs.Ytklhjlaofkngcaa.Px
open Go.RowKit Go.Proofs.YtklhjlaofkngcaaW.PrintWords Go.Proofs.YtklhjlaofkngcaaW.PrintLast Go.Proofs.YtklhjlaofkngcaaW.PrintMore
attribute [local go_sem] zw zy zC zD zr zt zx zz
set_option linter.unusedVariables false
set_option linter.unusedSimpArgs false
def zfz : Bs → Bs → Bool
 | [],b => !b.isEmpty
 | _ :: _,[] => false
 | x :: xs,y :: ys => if x = y then zfz xs ys else decide (x.toNat < y.toNat)
theorem zcz : ∀ a b : Bs,Op.bytesLess a b = zfz a b
 | [],[] => rfl
 | [],_ :: _ => rfl
 | _ :: _,[] => rfl
 | x :: xs,y :: ys => by
  rw [Op.bytesLess,zfz,zcz xs ys]
  by_cases h : x = y
  ·subst h;simp
  ·rw [if_neg h]
   have hn : x.toNat ≠ y.toNat := fun e => h (UInt8.toNat_inj.1 e)
   by_cases h1 : x < y
   ·have := UInt8.lt_iff_toNat_lt.1 h1
    simp [h1,this]
   ·have h2 : ¬ x.toNat < y.toNat := fun e => h1 (UInt8.lt_iff_toNat_lt.2 e)
    have h3 : y < x := UInt8.lt_iff_toNat_lt.2 (by omega)
    simp [h1,h2]
    exact fun e => absurd e h
def zc1 (n : Int) : Bool := decide (4 ≤ n) && decide (n ≤ 64) && decide (n % 3 = 1)
theorem zah (n : Int) : zU.f n = some (zc1 n) := by
 unfold zU.f zc1
 by_cases h : n ≥ 4
 ·rw [if_pos h]
  by_cases h1 : n ≤ 64
  ·rw [if_pos h1,Int.tmod_eq_emod_of_nonneg (by omega)]
   by_cases h2 : n % 3 = 1
   ·simp [h1,h2];omega
   ·simp [h2]
  ·rw [if_neg h1];simp [h1]
 ·rw [if_neg h]
  have : ¬ 4 ≤ n := by omega
  simp [this]
theorem zcm (n : Int) : zc1 n = true ↔ 4 ≤ n ∧ n ≤ 64 ∧ n % 3 = 1 := by
 unfold zc1;simp [and_assoc]
def zda (n : Int) : Int := if zc1 n = true then n - (n - 1) / 3 else 0
theorem zdG (n : Int) : zaX.f n = some (zda n) := by
 unfold zaX.f zaI.f zda
 rw [zah]
 simp only [Option.bind_some]
 by_cases h : zc1 n = true
 ·rw [if_pos h,if_pos h,if_pos h]
  obtain ⟨h1,h2,h3⟩ := (zcm n).1 h
  simp only [Option.bind_some]
  rw [zaz (x := n - 1) (by omega) (by omega),Int.tdiv_eq_ediv_of_nonneg (by omega),zaz (x := (n - 1) / 3) (by omega) (by omega),zaz (by omega) (by omega)]
 ·rw [if_neg h,if_neg h]
def zf3 (a b : Int) : Bool := decide (0 ≤ a) && decide (a < 10007) && decide (0 ≤ b) && decide (b < 10007)
theorem zd3 (a b : Int) : zf3 a b = true ↔ 0 ≤ a ∧ a < 10007 ∧ 0 ≤ b ∧ b < 10007 := by
 unfold zf3;simp [and_assoc]
theorem zbj (a b : Int) : za2.f a b = some (zf3 a b) := by
 unfold za2.f zf3
 by_cases h1 : 0 ≤ a <;> by_cases h2 : a < 10007 <;> by_cases h3 : 0 ≤ b <;> simp [h1,h2,h3]
def zeo (r : Int) : Bool := decide (3 ≤ r) && decide (r % 3 = 0)
theorem za8 (r : Int) : zaJ.f r = some (zeo r) := by
 unfold zaJ.f zeo
 by_cases h : r ≥ 3
 ·rw [if_pos h,Int.tmod_eq_emod_of_nonneg (by omega)]
  have : 3 ≤ r := h
  by_cases h2 : r % 3 = 0 <;> simp [this,h2]
 ·rw [if_neg h]
  have : ¬ 3 ≤ r := by omega
  simp [this]
def zg1 (l : List ByteArray) (j : Nat) : Bool := decide ((l.getD j ByteArray.empty).size = 32) && (decide (j = 0) || zfz (ofB (l.getD (j - 1) ByteArray.empty)) (ofB (l.getD j ByteArray.empty)))
def zb6 (l : List ByteArray) : Nat → Nat → Bool
 | 0,_ => true
 | d + 1,j => zg1 l j && zb6 l d (j + 1)
def zbk (l : List ByteArray) (r n : Int) : Bool :=
 if r = 1 then decide (l.length = 0) else zb6 l l.length 0 && decide (zda n ≤ l.length) && decide ((l.length : Int) ≤ n)
theorem zfe (l : List ByteArray) (n : Int) (hl : l.length ≤ 9223372036854775807) (d : Nat) : ∀ j,j + d = l.length →
  Ev (fun k => zN.l0 k l n l (l.length : Int) (j : Int)) (zb6 l d j && decide (zda n ≤ l.length) && decide ((l.length : Int) ≤ n)) := by
 induction d with
 | zero =>
  intro j hj
  refine Ev.step (fun k => by rw [zN.l0]) ?_
  refine zam (by omega) (zaM (zdG n) ?_)
  by_cases h : zda n ≤ l.length
  ·exact zT h (zaA (Ev.now _) (by simp [zb6,h]))
  ·exact zam h (zaA (Ev.now _) (by simp [zb6,h]))
 | succ d ih =>
  intro j hj
  refine Ev.step (fun k => by rw [zN.l0]) ?_
  refine zT (by omega) (zT (by omega) (zT (by omega) ?_))
  have e1 : zB ByteArray.empty l (j : Int) = l.getD j ByteArray.empty := by rw [zB,Int.toNat_natCast]
  rw [e1]
  by_cases h : (l.getD j ByteArray.empty).size = 32
  ·refine zT (by omega) ?_
   rw [zaz (x := (j : Int) + 1) (by omega) (by omega)]
   by_cases h0 : j = 0
   ·subst h0
    refine zam (by omega) (zaA (ih 1 (by omega)) ?_)
    simp only [zb6,zg1,h];simp
   ·refine zT (by omega) ?_
    have e2 : wrap64 ((j : Int) - 1) = ((j - 1 : Nat) : Int) := by rw [zaz (by omega) (by omega)];omega
    rw [e2]
    refine zT (by omega) (zT (by omega) ?_)
    have e3 : zB ByteArray.empty l ((j - 1 : Nat) : Int) = l.getD (j - 1) ByteArray.empty := by rw [zB,Int.toNat_natCast]
    rw [e3,zbz,zbz,zcz]
    by_cases h2 : zfz (ofB (l.getD (j - 1) ByteArray.empty)) (ofB (l.getD j ByteArray.empty)) = true
    ·refine zT h2 (zaA (ih (j + 1) (by omega)) ?_)
     simp only [zb6,zg1,h,h2];simp
    ·refine zam h2 (zaA (Ev.now _) ?_)
     rw [Bool.not_eq_true] at h2
     simp only [zb6,zg1,h,h0,h2];simp
  ·refine zam (by omega) (zaA (Ev.now _) ?_)
   simp only [zb6,zg1,h];simp
theorem zf7 (l : List ByteArray) (r n : Int) (hl : l.length ≤ 9223372036854775807) : Ev (fun k => zN.f k l r n) (zbk l r n) := by
 unfold zbk
 by_cases h : r = 1
 ·rw [if_pos h]
  refine zT h (zaA (Ev.now _) ?_)
  by_cases h0 : l.length = 0 <;> simp [h0]
 ·rw [if_neg h]
  exact zam h (zfe l n hl l.length 0 (by omega))
def zbi.f (a0 : Int) (a1 : Int) : Option (Int) := if 0 ≤ (Go.bits .and .u64 (IntKind.u64.wrap (a1)) 31) then (if 0 ≤ (IntKind.u64.wrap (32 - (Go.bits .and .u64 (IntKind.u64.wrap (a1)) 31))) then (some (Go.bits .or .u32 (shl .u32 a0 (Go.bits .and .u64 (IntKind.u64.wrap (a1)) 31)) (shr .u32 a0 (IntKind.u64.wrap (32 - (Go.bits .and .u64 (IntKind.u64.wrap (a1)) 31)))))) else (none)) else (none)
def zel.f (a0 : Int) (a1 : Int) : Option (Int) := (zbi.f a0 (wrap64 (-a1))).bind fun t136 => (some t136)
def zbJ (x : Int) : Prop := 0 ≤ x ∧ x < 4294967296
def zbO (x : Int) : Int := IntKind.u32.wrap x
theorem zdO (x : Int) : zbO x = x % 4294967296 := IntKind.wrap_u32 x
theorem zdP (x : Int) : zbJ (zbO x) := by rw [zdO];unfold zbJ;omega
def zag (n : Nat) (x : Int) : Int := x / 2 ^ n + x % 2 ^ n * 2 ^ (32 - n)
def zbr (a b : Int) : Int := Go.bits .xor .u32 a b
def zcC (a b : Int) : Int := Go.bits .and .u32 a b
def zfj (L : List Int) (k w : Int) : List Int :=
 let t := zbO (zbO (zbO (zbO (L.getD 7 0 + zbr (zbr (zag 6 (L.getD 4 0)) (zag 11 (L.getD 4 0))) (zag 25 (L.getD 4 0))) + zbr (zcC (L.getD 4 0) (L.getD 5 0)) (zcC (4294967295 - L.getD 4 0) (L.getD 6 0))) + k) + w)
 let u := zbO (zbr (zbr (zag 2 (L.getD 0 0)) (zag 13 (L.getD 0 0))) (zag 22 (L.getD 0 0)) + zbr (zbr (zcC (L.getD 0 0) (L.getD 1 0)) (zcC (L.getD 0 0) (L.getD 2 0))) (zcC (L.getD 1 0) (L.getD 2 0)))
 [zbO (t + u),L.getD 0 0,L.getD 1 0,L.getD 2 0,zbO (L.getD 3 0 + t),L.getD 4 0,L.getD 5 0,L.getD 6 0]
def okL (L : List Int) : Prop := ∀ i,zbJ (L.getD i 0)
theorem zfa : okL [] := fun i => by simp [zbJ]
theorem zaE {x : Int} {L : List Int} (hx : zbJ x) (hL : okL L) : okL (x :: L) := fun i => by
 rcases i with _ | i
 ·exact hx
 ·exact hL i
theorem zfE {x : Int} {L : List Int} (hL : okL L) (hx : zbJ x) : okL (L ++ [x]) := fun i => by
 rw [List.getD_eq_getElem?_getD]
 rcases Nat.lt_trichotomy i L.length with h | h | h
 ·rw [List.getElem?_append_left h,← List.getD_eq_getElem?_getD];exact hL i
 ·subst h;simp;exact hx
 ·rw [List.getElem?_eq_none (by rw [List.length_append];simp;omega)];simp [zbJ]
theorem zgS {L : List Int} (h : okL L) (k w : Int) : okL (zfj L k w) :=
 zaE (zdP _) (zaE (h 0) (zaE (h 1) (zaE (h 2) (zaE (zdP _) (zaE (h 4) (zaE (h 5) (zaE (h 6) zfa)))))))
def zfM (b : ByteArray) (i : Nat) : Int := bt b ((4 * i : Nat) : Int) * 16777216 + bt b ((4 * i + 1 : Nat) : Int) * 65536 + bt b ((4 * i + 2 : Nat) : Int) * 256 + bt b ((4 * i + 3 : Nat) : Int)
theorem zhK (b : ByteArray) (i : Nat) : zbJ (zfM b i) := by
 have h0 := zbG b ((4 * i : Nat) : Int)
 have h1 := zbG b ((4 * i + 1 : Nat) : Int)
 have h2 := zbG b ((4 * i + 2 : Nat) : Int)
 have h3 := zbG b ((4 * i + 3 : Nat) : Int)
 unfold zbJ zfM;omega
def zdu (b : ByteArray) : Nat → List Int
 | 0 => []
 | n + 1 => zdu b n ++ [zfM b n]
theorem zcg (b : ByteArray) : ∀ n,(zdu b n).length = n
 | 0 => rfl
 | n + 1 => by rw [zdu,List.length_append,zcg b n];rfl
theorem zfw (b : ByteArray) : ∀ n,okL (zdu b n)
 | 0 => zfa
 | n + 1 => zfE (zfw b n) (zhK b n)
def zek (W : List Int) (i : Nat) : Int :=
 zbO (zbO (zbO (W.getD (i - 16) 0 + zbr (zbr (zag 7 (W.getD (i - 15) 0)) (zag 18 (W.getD (i - 15) 0))) (W.getD (i - 15) 0 / 8)) + W.getD (i - 7) 0) + zbr (zbr (zag 17 (W.getD (i - 2) 0)) (zag 19 (W.getD (i - 2) 0))) (W.getD (i - 2) 0 / 1024))
def zP (b : ByteArray) : Nat → List Int
 | 0 => zdu b 16
 | n + 1 => zP b n ++ [zek (zP b n) (16 + n)]
theorem zbb (b : ByteArray) : ∀ n,(zP b n).length = 16 + n
 | 0 => zcg b 16
 | n + 1 => by rw [zP,List.length_append,zbb b n];rfl
theorem zeS (b : ByteArray) : ∀ n,okL (zP b n)
 | 0 => zfw b 16
 | n + 1 => zfE (zeS b n) (zdP _)
def zbp (S K W : List Int) : Nat → List Int
 | 0 => S
 | n + 1 => zfj (zbp S K W n) (K.getD n 0) (W.getD n 0)
theorem zei {S : List Int} (h : okL S) (K W : List Int) : ∀ n,okL (zbp S K W n)
 | 0 => h
 | n + 1 => zgS (zei h K W n) _ _
theorem zdy {S : List Int} (h : S.length = 8) (K W : List Int) : ∀ n,(zbp S K W n).length = 8
 | 0 => h
 | _ + 1 => rfl
def zb4 (S H : List Int) (k : Nat) : List Int := (List.range 8).map fun j => if j < k then zbO (S.getD j 0 + H.getD j 0) else S.getD j 0
theorem zbT (S H : List Int) (k : Nat) : (zb4 S H k).length = 8 := by simp [zb4]
theorem zcs (S H : List Int) (k j : Nat) (hj : j < 8) : (zb4 S H k).getD j 0 = if j < k then zbO (S.getD j 0 + H.getD j 0) else S.getD j 0 := by
 rw [zb4,List.getD_eq_getElem?_getD,List.getElem?_map,List.getElem?_range hj];rfl
theorem zfA {A B : List Int} (ha : A.length = 8) (hb : B.length = 8) (h : ∀ j,j < 8 → A.getD j 0 = B.getD j 0) : A = B := by
 apply List.ext_getElem (by rw [ha,hb])
 intro i h1 h2
 have := h i (by omega)
 rwa [List.getD_eq_getElem?_getD,List.getD_eq_getElem?_getD,List.getElem?_eq_getElem h1,List.getElem?_eq_getElem h2] at this
theorem zgh {S : List Int} (h : S.length = 8) (H : List Int) : zb4 S H 0 = S :=
 zfA (zbT _ _ _) h (fun j hj => by rw [zcs _ _ _ _ hj,if_neg (by omega)])
theorem zhf (L : List Int) (k j : Nat) (v : Int) (hk : k < L.length) : (L.set k v).getD j 0 = if j = k then v else L.getD j 0 := by
 rw [List.getD_eq_getElem?_getD,List.getElem?_set]
 by_cases h : k = j
 ·subst h;rw [if_pos rfl,if_pos hk,if_pos rfl];rfl
 ·rw [if_neg h,if_neg (Ne.symm h),← List.getD_eq_getElem?_getD]
theorem zgg (S H : List Int) (k : Nat) (hk : k < 8) : (zb4 S H k).set k (zbO (S.getD k 0 + H.getD k 0)) = zb4 S H (k + 1) := by
 refine zfA (by rw [List.length_set,zbT]) (zbT _ _ _) (fun j hj => ?_)
 rw [zhf _ _ _ _ (by rw [zbT];exact hk),zcs _ _ _ _ hj,zcs _ _ _ _ hj]
 by_cases h : j = k
 ·subst h;rw [if_pos rfl,if_pos (by omega)]
 ·rw [if_neg h]
  by_cases h2 : j < k
  ·rw [if_pos h2,if_pos (by omega)]
  ·rw [if_neg h2,if_neg (by omega)]
def ze8 (S K : List Int) (b : ByteArray) : List Int := zb4 (zbp S K (zP b 48) 64) S 8
theorem zc9 (S K : List Int) (b : ByteArray) : (ze8 S K b).length = 8 := zbT _ _ _
theorem zh7 (S K : List Int) (b : ByteArray) : okL (ze8 S K b) := fun i => by
 rcases Nat.lt_or_ge i 8 with h | h
 ·rw [ze8,zcs _ _ _ _ h,if_pos h];exact zdP _
 ·rw [List.getD_eq_getElem?_getD,List.getElem?_eq_none (by rw [zc9];exact h)];simp [zbJ]
def kL : List Int := [1116352408,1899447441,3049323471,3921009573,961987163,1508970993,2453635748,2870763221,3624381080,310598401,607225278,1426881987,1925078388,2162078206,2614888103,3248222580,3835390401,4022224774,264347078,604807628,770255983,1249150122,1555081692,1996064986,2554220882,2821834349,2952996808,3210313671,3336571891,3584528711,113926993,338241895,666307205,773529912,1294757372,1396182291,1695183700,1986661051,2177026350,2456956037,2730485921,2820302411,3259730800,3345764771,3516065817,3600352804,4094571909,275423344,430227734,506948616,659060556,883997877,958139571,1322822218,1537002063,1747873779,1955562222,2024104815,2227730452,2361852424,2428436474,2756734187,3204031479,3329325298]
def hL : List Int := [1779033703,3144134277,1013904242,2773480762,1359893119,2600822924,528734635,1541459225]
theorem ziT : okL hL := by
 refine zaE ?_ (zaE ?_ (zaE ?_ (zaE ?_ (zaE ?_ (zaE ?_ (zaE ?_ (zaE ?_ zfa))))))) <;> (constructor <;> decide)
def zdS (n : Nat) : Bs := [UInt8.ofNat (n / 72057594037927936 % 256),UInt8.ofNat (n / 281474976710656 % 256),UInt8.ofNat (n / 1099511627776 % 256),UInt8.ofNat (n / 4294967296 % 256),UInt8.ofNat (n / 16777216 % 256),UInt8.ofNat (n / 65536 % 256),UInt8.ofNat (n / 256 % 256),UInt8.ofNat (n % 256)]
def zc2 (n : Nat) : Nat := (119 - n % 64) % 64
def zdA (s : Bs) : Bs := s ++ 128 :: (List.replicate (zc2 s.length) 0 ++ zdS (s.length * 8))
theorem zhw (s : Bs) : ∃ m,(zdA s).length = 64 * m := by
 refine ⟨(s.length + 9 + zc2 s.length) / 64,?_⟩
 have : (zdA s).length = s.length + 9 + zc2 s.length := by simp [zdA,zdS];omega
 rw [this];unfold zc2;omega
def zaV (p : ByteArray) : Nat → List Int
 | 0 => hL
 | i + 1 => ze8 (zaV p i) kL (p.extract (64 * i) (64 * i + 64))
theorem zbe (p : ByteArray) : ∀ i,(zaV p i).length = 8
 | 0 => rfl
 | _ + 1 => zc9 _ _ _
theorem zdU (p : ByteArray) : ∀ i,okL (zaV p i)
 | 0 => ziT
 | _ + 1 => zh7 _ _ _
def zcv (x : Int) : Bs := [UInt8.ofNat (x.toNat / 16777216 % 256),UInt8.ofNat (x.toNat / 65536 % 256),UInt8.ofNat (x.toNat / 256 % 256),UInt8.ofNat (x.toNat % 256)]
def zgd (s : ByteArray) : ByteArray := toB ((zaV (toB (zdA (ofB s))) ((zdA (ofB s)).length / 64)).flatMap zcv)
theorem zc6 (l : List Int) : (l.flatMap zcv).length = 4 * l.length := by
 induction l with
 | nil => rfl
 | cons x l ih => rw [List.flatMap_cons,List.length_append,ih,List.length_cons];show 4 + _ = _;omega
theorem zgV (s : ByteArray) : (zgd s).size = 32 := by
 rw [zgd,zbq,zc6,zbe]
def zG (L : List Int) : Array Value := (L.map (Value.int .u32)).toArray
theorem zaW (L : List Int) : (zG L).size = L.length := by simp [zG]
theorem zab (L : List Int) (i : Nat) (h : i < L.length) : (zG L)[i]? = some (.int .u32 (L.getD i 0)) := by
 rw [zG,List.getElem?_toArray,List.getElem?_map,List.getElem?_eq_getElem h,List.getD_eq_getElem?_getD,List.getElem?_eq_getElem h];rfl
theorem zds (L : List Int) (i : Nat) (v : Int) : (zG L).setIfInBounds i (.int .u32 v) = zG (L.set i v) := by
 simp [zG,List.map_set]
theorem zdr (L : List Int) (h : L.length = 8) : zG L = #[.int .u32 (L.getD 0 0),.int .u32 (L.getD 1 0),.int .u32 (L.getD 2 0),.int .u32 (L.getD 3 0),.int .u32 (L.getD 4 0),.int .u32 (L.getD 5 0),.int .u32 (L.getD 6 0),.int .u32 (L.getD 7 0)] := by
 obtain ⟨a,b,c,d,e,f,g,k,rfl⟩ : ∃ a b c d e f g k,L = [a,b,c,d,e,f,g,k] := by
  match L,h with
  | [a,b,c,d,e,f,g,k],_ => exact ⟨a,b,c,d,e,f,g,k,rfl⟩
 rfl
def za9 (W : List Int) : List Int := W ++ List.replicate (64 - W.length) 0
theorem zcx {W : List Int} (h : W.length ≤ 64) : (za9 W).length = 64 := by simp [za9];omega
theorem zdY {W : List Int} (i : Nat) (h : i < W.length) : (za9 W).getD i 0 = W.getD i 0 := by
 rw [za9,List.getD_eq_getElem?_getD,List.getElem?_append_left h,← List.getD_eq_getElem?_getD]
theorem zfY {W : List Int} (h : W.length < 64) (v : Int) : (za9 W).set W.length v = za9 (W ++ [v]) := by
 rw [za9,za9,List.set_append_right _ _ (Nat.le_refl _),Nat.sub_self,List.length_append]
 obtain ⟨m,hm⟩ : ∃ m,64 - W.length = m + 1 := ⟨63 - W.length,by omega⟩
 rw [hm,List.replicate_succ,List.set_cons_zero,show 64 - (W.length + [v].length) = m by simp;omega]
 simp
theorem ziA (n : Nat) (h1 : n ≤ 32) : (2 : Int) ^ n * 2 ^ (32 - n) = 4294967296 := by
 rw [← Int.pow_add,show n + (32 - n) = 32 by omega];rfl
theorem zfF (n : Nat) : (0 : Int) < 2 ^ n := Int.pow_pos (by decide)
theorem zhC (n : Nat) (h1 : n ≤ 32) {x : Int} (hx : zbJ x) : Go.bits .or .u32 (IntKind.u32.wrap (x * 2 ^ (32 - n))) (x / 2 ^ n) = zag n x := by
 have hpq := ziA n h1
 have hp := zfF n
 have hq := zfF (32 - n)
 have h2 := Int.emod_nonneg x (Int.ne_of_gt hp)
 have h3 := Int.emod_lt_of_pos x hp
 have h4 : 0 ≤ x / 2 ^ n := Int.ediv_nonneg hx.1 (Int.le_of_lt hp)
 have h5 : x / 2 ^ n < 2 ^ (32 - n) := Int.ediv_lt_of_lt_mul hp (by rw [Int.mul_comm,hpq];exact hx.2)
 have h8 : x / 2 ^ n < 4294967296 := by
  have : x / 2 ^ n ≤ x := Int.ediv_le_self _ hx.1
  have := hx.2;omega
 have e : IntKind.u32.wrap (x * 2 ^ (32 - n)) = x % 2 ^ n * 2 ^ (32 - n) := by
  rw [IntKind.wrap_u32,← hpq,Int.mul_comm x,Int.mul_comm (2 ^ n),Int.mul_emod_mul_of_pos _ _ hq,Int.mul_comm]
 have h6 : x % 2 ^ n * 2 ^ (32 - n) ≤ (2 ^ n - 1) * 2 ^ (32 - n) := Int.mul_le_mul_of_nonneg_right (by omega) (by omega)
 rw [Int.sub_mul,hpq,Int.one_mul] at h6
 have h7 : 0 ≤ x % 2 ^ n * 2 ^ (32 - n) := Int.mul_nonneg h2 (by omega)
 rw [e,bits_join .u32 32 (by decide) (fun n h0 h1 => by rw [IntKind.wrap_u32];omega) (32 - n) _ _ h7 (Int.mul_emod_left _ _) (by omega) h4 h5 (by omega),zag,Int.add_comm]
theorem zfJ (n : Nat) (h0 : 1 ≤ n) (h1 : n ≤ 31) {x : Int} (hx : zbJ x) : zel.f x (n : Int) = some (zag n x) := by
 unfold zel.f zbi.f
 have e1 : wrap64 (-(n : Int)) = -(n : Int) := zaz (by omega) (by omega)
 have e2 : IntKind.u64.wrap (-(n : Int)) = 18446744073709551616 - (n : Int) := by
  show (-(n : Int)) % 18446744073709551616 = _
  omega
 have e3 : Go.bits .and .u64 (18446744073709551616 - (n : Int)) 31 = ((32 - n : Nat) : Int) := by
  have := bits_mask .u64 64 (by decide) (fun n h0 h1 => zbK h0 (by omega)) 5 (by decide) (18446744073709551616 - (n : Int)) (by omega) (by omega)
  rw [show ((2 : Int) ^ 5 - 1) = 31 from rfl,show (2 : Int) ^ 5 = 32 from rfl] at this
  rw [this];omega
 have e4 : IntKind.u64.wrap (32 - ((32 - n : Nat) : Int)) = (n : Int) := by rw [zbK (by omega) (by omega)];omega
 rw [e1,e2,e3,e4,if_pos (by omega),if_pos (by omega)]
 simp only [Option.bind_some]
 congr 1
 unfold shl shr
 rw [Int.toNat_natCast,Int.toNat_natCast,Nat.min_eq_left (by show 32 - n ≤ 32;omega),Nat.min_eq_left (by show n ≤ 32;omega)]
 exact zhC n (by omega) hx
end Go.Proofs.Ytklhjlaofkngcaa.Px