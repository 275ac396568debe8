/- Part 7 of 33 of the proof of the law DagRounds: what is proved is the statement at the end of the last part; its conditions are those of the given row. -/
import Derived.Laws.BitsAllLaws
import Derived.Test.YtklhjlaofkngcaaZDagRoundsF
namespace Go.Proofs.Ytklhjlaofkngcaa.Px
open Go.RowKit Go.Proofs.YtklhjlaofkngcaaW.PrintWords Go.Proofs.YtklhjlaofkngcaaW.PrintLast Go.Proofs.YtklhjlaofkngcaaW.PrintMore
attribute [local go_sem] zG zI zM zN zB zC zH zJ
set_option linter.unusedVariables false
set_option linter.unusedSimpArgs false
def zbi (x : Int) : Prop := 0 ≤ x ∧ x < 4294967296
def zcg (x : Int) : Int := IntKind.u32.wrap x
theorem zbI (x : Int) : zcg x = x % 4294967296 := IntKind.wrap_u32 x
theorem zfj (x : Int) : zbi (zcg x) := by rw [zbI];unfold zbi;omega
def zak (n : Nat) (x : Int) : Int := x / 2 ^ n + x % 2 ^ n * 2 ^ (32 - n)
def zca (a b : Int) : Int := Go.bits .xor .u32 a b
def zdq (a b : Int) : Int := Go.bits .and .u32 a b
def zeJ (L : List Int) (k w : Int) : List Int :=
 let t := zcg (zcg (zcg (zcg (L.getD 7 0 + zca (zca (zak 6 (L.getD 4 0)) (zak 11 (L.getD 4 0))) (zak 25 (L.getD 4 0))) + zca (zdq (L.getD 4 0) (L.getD 5 0)) (zdq (4294967295 - L.getD 4 0) (L.getD 6 0))) + k) + w)
 let u := zcg (zca (zca (zak 2 (L.getD 0 0)) (zak 13 (L.getD 0 0))) (zak 22 (L.getD 0 0)) + zca (zca (zdq (L.getD 0 0) (L.getD 1 0)) (zdq (L.getD 0 0) (L.getD 2 0))) (zdq (L.getD 1 0) (L.getD 2 0)))
 [zcg (t + u),L.getD 0 0,L.getD 1 0,L.getD 2 0,zcg (L.getD 3 0 + t),L.getD 4 0,L.getD 5 0,L.getD 6 0]
def okL (L : List Int) : Prop := ∀ i,zbi (L.getD i 0)
theorem zgE : okL [] := fun i => by simp [zbi]
theorem zbb {x : Int} {L : List Int} (hx : zbi x) (hL : okL L) : okL (x :: L) := fun i => by
 rcases i with _ | i
 ·exact hx
 ·exact hL i
theorem zg7 {x : Int} {L : List Int} (hL : okL L) (hx : zbi x) : okL (L ++ [x]) := fun i => by
 rw [List.getD_eq_getElem?_getD]
 rcases Nat.lt_trichotomy i L.length with h | h | h
 ·rw [List.getElem?_append_left h,← List.getD_eq_getElem?_getD];exact hL i
 ·subst h;simp;exact hx
 ·rw [List.getElem?_eq_none (by rw [List.length_append];simp;omega)];simp [zbi]
theorem ziE {L : List Int} (h : okL L) (k w : Int) : okL (zeJ L k w) :=
 zbb (zfj _) (zbb (h 0) (zbb (h 1) (zbb (h 2) (zbb (zfj _) (zbb (h 4) (zbb (h 5) (zbb (h 6) zgE)))))))
def zfS (b : ByteArray) (i : Nat) : Int := bt b ((4 * i : Nat) : Int) * 16777216 + bt b ((4 * i + 1 : Nat) : Int) * 65536 + bt b ((4 * i + 2 : Nat) : Int) * 256 + bt b ((4 * i + 3 : Nat) : Int)
theorem word4_ok (b : ByteArray) (i : Nat) : zbi (zfS b i) := by
 have h0 := zbA b ((4 * i : Nat) : Int)
 have h1 := zbA b ((4 * i + 1 : Nat) : Int)
 have h2 := zbA b ((4 * i + 2 : Nat) : Int)
 have h3 := zbA b ((4 * i + 3 : Nat) : Int)
 unfold zbi zfS;omega
def zcs (b : ByteArray) : Nat → List Int
 | 0 => []
 | n + 1 => zcs b n ++ [zfS b n]
theorem zb9 (b : ByteArray) : ∀ n,(zcs b n).length = n
 | 0 => rfl
 | n + 1 => by rw [zcs,List.length_append,zb9 b n];rfl
theorem zg4 (b : ByteArray) : ∀ n,okL (zcs b n)
 | 0 => zgE
 | n + 1 => zg7 (zg4 b n) (word4_ok b n)
def zdp (W : List Int) (i : Nat) : Int :=
 zcg (zcg (zcg (W.getD (i - 16) 0 + zca (zca (zak 7 (W.getD (i - 15) 0)) (zak 18 (W.getD (i - 15) 0))) (W.getD (i - 15) 0 / 8)) + W.getD (i - 7) 0) + zca (zca (zak 17 (W.getD (i - 2) 0)) (zak 19 (W.getD (i - 2) 0))) (W.getD (i - 2) 0 / 1024))
def zL (b : ByteArray) : Nat → List Int
 | 0 => zcs b 16
 | n + 1 => zL b n ++ [zdp (zL b n) (16 + n)]
theorem zaY (b : ByteArray) : ∀ n,(zL b n).length = 16 + n
 | 0 => zb9 b 16
 | n + 1 => by rw [zL,List.length_append,zaY b n];rfl
theorem zeK (b : ByteArray) : ∀ n,okL (zL b n)
 | 0 => zg4 b 16
 | n + 1 => zg7 (zeK b n) (zfj _)
def zaT (S K W : List Int) : Nat → List Int
 | 0 => S
 | n + 1 => zeJ (zaT S K W n) (K.getD n 0) (W.getD n 0)
theorem zdn {S : List Int} (h : okL S) (K W : List Int) : ∀ n,okL (zaT S K W n)
 | 0 => h
 | n + 1 => ziE (zdn h K W n) _ _
theorem zdH {S : List Int} (h : S.length = 8) (K W : List Int) : ∀ n,(zaT S K W n).length = 8
 | 0 => h
 | _ + 1 => rfl
def zcz (S H : List Int) (k : Nat) : List Int := (List.range 8).map fun j => if j < k then zcg (S.getD j 0 + H.getD j 0) else S.getD j 0
theorem zcl (S H : List Int) (k : Nat) : (zcz S H k).length = 8 := by simp [zcz]
theorem zcG (S H : List Int) (k j : Nat) (hj : j < 8) : (zcz S H k).getD j 0 = if j < k then zcg (S.getD j 0 + H.getD j 0) else S.getD j 0 := by
 rw [zcz,List.getD_eq_getElem?_getD,List.getElem?_map,List.getElem?_range hj];rfl
theorem zfw {A B : List Int} (ha : A.length = 8) (hb : B.length = 8) (h : ∀ j,j < 8 → A.getD j 0 = B.getD j 0) : A = B := by
 apply List.ext_getElem (by rw [ha,hb])
 intro i h1 h2
 have := h i (by omega)
 rwa [List.getD_eq_getElem?_getD,List.getD_eq_getElem?_getD,List.getElem?_eq_getElem h1,List.getElem?_eq_getElem h2] at this
theorem zhY {S : List Int} (h : S.length = 8) (H : List Int) : zcz S H 0 = S :=
 zfw (zcl _ _ _) h (fun j hj => by rw [zcG _ _ _ _ hj,if_neg (by omega)])
theorem getD_set (L : List Int) (k j : Nat) (v : Int) (hk : k < L.length) : (L.set k v).getD j 0 = if j = k then v else L.getD j 0 := by
 rw [List.getD_eq_getElem?_getD,List.getElem?_set]
 by_cases h : k = j
 ·subst h;rw [if_pos rfl,if_pos hk,if_pos rfl];rfl
 ·rw [if_neg h,if_neg (Ne.symm h),← List.getD_eq_getElem?_getD]
theorem zhX (S H : List Int) (k : Nat) (hk : k < 8) : (zcz S H k).set k (zcg (S.getD k 0 + H.getD k 0)) = zcz S H (k + 1) := by
 refine zfw (by rw [List.length_set,zcl]) (zcl _ _ _) (fun j hj => ?_)
 rw [getD_set _ _ _ _ (by rw [zcl];exact hk),zcG _ _ _ _ hj,zcG _ _ _ _ hj]
 by_cases h : j = k
 ·subst h;rw [if_pos rfl,if_pos (by omega)]
 ·rw [if_neg h]
  by_cases h2 : j < k
  ·rw [if_pos h2,if_pos (by omega)]
  ·rw [if_neg h2,if_neg (by omega)]
def zd7 (S K : List Int) (b : ByteArray) : List Int := zcz (zaT S K (zL b 48) 64) S 8
theorem zc8 (S K : List Int) (b : ByteArray) : (zd7 S K b).length = 8 := zcl _ _ _
theorem mixL_ok (S K : List Int) (b : ByteArray) : okL (zd7 S K b) := fun i => by
 rcases Nat.lt_or_ge i 8 with h | h
 ·rw [zd7,zcG _ _ _ _ h,if_pos h];exact zfj _
 ·rw [List.getD_eq_getElem?_getD,List.getElem?_eq_none (by rw [zc8];exact h)];simp [zbi]
def kL : List Int := [1116352408,1899447441,3049323471,3921009573,961987163,1508970993,2453635748,2870763221,3624381080,310598401,607225278,1426881987,1925078388,2162078206,2614888103,3248222580,3835390401,4022224774,264347078,604807628,770255983,1249150122,1555081692,1996064986,2554220882,2821834349,2952996808,3210313671,3336571891,3584528711,113926993,338241895,666307205,773529912,1294757372,1396182291,1695183700,1986661051,2177026350,2456956037,2730485921,2820302411,3259730800,3345764771,3516065817,3600352804,4094571909,275423344,430227734,506948616,659060556,883997877,958139571,1322822218,1537002063,1747873779,1955562222,2024104815,2227730452,2361852424,2428436474,2756734187,3204031479,3329325298]
def hL : List Int := [1779033703,3144134277,1013904242,2773480762,1359893119,2600822924,528734635,1541459225]
theorem hL_ok : okL hL := by
 refine zbb ?_ (zbb ?_ (zbb ?_ (zbb ?_ (zbb ?_ (zbb ?_ (zbb ?_ (zbb ?_ zgE))))))) <;> (constructor <;> decide)
def zd4 (n : Nat) : Bs := [UInt8.ofNat (n / 72057594037927936 % 256),UInt8.ofNat (n / 281474976710656 % 256),UInt8.ofNat (n / 1099511627776 % 256),UInt8.ofNat (n / 4294967296 % 256),UInt8.ofNat (n / 16777216 % 256),UInt8.ofNat (n / 65536 % 256),UInt8.ofNat (n / 256 % 256),UInt8.ofNat (n % 256)]
def zcf (n : Nat) : Nat := (119 - n % 64) % 64
def zdF (s : Bs) : Bs := s ++ 128 :: (List.replicate (zcf s.length) 0 ++ zd4 (s.length * 8))
theorem zg9 (s : Bs) : ∃ m,(zdF s).length = 64 * m := by
 refine ⟨(s.length + 9 + zcf s.length) / 64,?_⟩
 have : (zdF s).length = s.length + 9 + zcf s.length := by simp [zdF,zd4];omega
 rw [this];unfold zcf;omega
def zaN (p : ByteArray) : Nat → List Int
 | 0 => hL
 | i + 1 => zd7 (zaN p i) kL (p.extract (64 * i) (64 * i + 64))
theorem zbf (p : ByteArray) : ∀ i,(zaN p i).length = 8
 | 0 => rfl
 | _ + 1 => zc8 _ _ _
theorem zdi (p : ByteArray) : ∀ i,okL (zaN p i)
 | 0 => hL_ok
 | _ + 1 => mixL_ok _ _ _
def zcw (x : Int) : Bs := [UInt8.ofNat (x.toNat / 16777216 % 256),UInt8.ofNat (x.toNat / 65536 % 256),UInt8.ofNat (x.toNat / 256 % 256),UInt8.ofNat (x.toNat % 256)]
def zfP (s : ByteArray) : ByteArray := toB ((zaN (toB (zdF (ofB s))) ((zdF (ofB s)).length / 64)).flatMap zcw)
theorem zee (l : List Int) : (l.flatMap zcw).length = 4 * l.length := by
 induction l with
 | nil => rfl
 | cons x l ih => rw [List.flatMap_cons,List.length_append,ih,List.length_cons];show 4 + _ = _;omega
theorem ziH (s : ByteArray) : (zfP s).size = 32 := by
 rw [zfP,zas,zee,zbf]
def zO (L : List Int) : Array Value := (L.map (Value.int .u32)).toArray
theorem zaO (L : List Int) : (zO L).size = L.length := by simp [zO]
theorem zW (L : List Int) (i : Nat) (h : i < L.length) : (zO L)[i]? = some (.int .u32 (L.getD i 0)) := by
 rw [zO,List.getElem?_toArray,List.getElem?_map,List.getElem?_eq_getElem h,List.getD_eq_getElem?_getD,List.getElem?_eq_getElem h];rfl
theorem zeP (L : List Int) (i : Nat) (v : Int) : (zO L).setIfInBounds i (.int .u32 v) = zO (L.set i v) := by
 simp [zO,List.map_set]
theorem zeO (L : List Int) (h : L.length = 8) : zO L = #[.int .u32 (L.getD 0 0),.int .u32 (L.getD 1 0),.int .u32 (L.getD 2 0),.int .u32 (L.getD 3 0),.int .u32 (L.getD 4 0),.int .u32 (L.getD 5 0),.int .u32 (L.getD 6 0),.int .u32 (L.getD 7 0)] := by
 obtain ⟨a,b,c,d,e,f,g,k,rfl⟩ : ∃ a b c d e f g k,L = [a,b,c,d,e,f,g,k] := by
  match L,h with
  | [a,b,c,d,e,f,g,k],_ => exact ⟨a,b,c,d,e,f,g,k,rfl⟩
 rfl
def zbC (W : List Int) : List Int := W ++ List.replicate (64 - W.length) 0
theorem zdk {W : List Int} (h : W.length ≤ 64) : (zbC W).length = 64 := by simp [zbC];omega
theorem zft {W : List Int} (i : Nat) (h : i < W.length) : (zbC W).getD i 0 = W.getD i 0 := by
 rw [zbC,List.getD_eq_getElem?_getD,List.getElem?_append_left h,← List.getD_eq_getElem?_getD]
theorem zhw {W : List Int} (h : W.length < 64) (v : Int) : (zbC W).set W.length v = zbC (W ++ [v]) := by
 rw [zbC,zbC,List.set_append_right _ _ (Nat.le_refl _),Nat.sub_self,List.length_append]
 obtain ⟨m,hm⟩ : ∃ m,64 - W.length = m + 1 := ⟨63 - W.length,by omega⟩
 rw [hm,List.replicate_succ,List.set_cons_zero,show 64 - (W.length + [v].length) = m by simp;omega]
 simp
theorem zhG (n : Nat) (h1 : n ≤ 32) : (2 : Int) ^ n * 2 ^ (32 - n) = 4294967296 := by
 rw [← Int.pow_add,show n + (32 - n) = 32 by omega];rfl
theorem zce (n : Nat) : (0 : Int) < 2 ^ n := Int.pow_pos (by decide)
theorem rot32_ok (n : Nat) (h1 : n ≤ 32) {x : Int} (hx : zbi x) : zbi (zak n x) := by
 have hpq := zhG n h1
 have hp := zce n
 have hq := zce (32 - n)
 have h2 := Int.emod_nonneg x (Int.ne_of_gt hp)
 have h3 := Int.emod_lt_of_pos x hp
 have h4 : 0 ≤ x / 2 ^ n := Int.ediv_nonneg hx.1 (Int.le_of_lt hp)
 have h5 : x / 2 ^ n < 2 ^ (32 - n) := Int.ediv_lt_of_lt_mul hp (by rw [Int.mul_comm,hpq];exact hx.2)
 unfold zak
 generalize (2 : Int) ^ n = p at *
 generalize (2 : Int) ^ (32 - n) = q at *
 generalize x % p = m at *
 generalize x / p = d at *
 have h6 : m * q ≤ (p - 1) * q := Int.mul_le_mul_of_nonneg_right (by omega) (by omega)
 rw [Int.sub_mul,hpq,Int.one_mul] at h6
 have h7 : 0 ≤ m * q := Int.mul_nonneg h2 (by omega)
 unfold zbi;omega
theorem rot_join (n : Nat) (h1 : n ≤ 32) {x : Int} (hx : zbi x) : Go.bits .or .u32 (IntKind.u32.wrap (x * 2 ^ (32 - n))) (x / 2 ^ n) = zak n x := by
 have hpq := zhG n h1
 have hp := zce n
 have hq := zce (32 - n)
 have h2 := Int.emod_nonneg x (Int.ne_of_gt hp)
 have h3 := Int.emod_lt_of_pos x hp
 have h4 : 0 ≤ x / 2 ^ n := Int.ediv_nonneg hx.1 (Int.le_of_lt hp)
 have h5 : x / 2 ^ n < 2 ^ (32 - n) := Int.ediv_lt_of_lt_mul hp (by rw [Int.mul_comm,hpq];exact hx.2)
 have h8 : x / 2 ^ n < 4294967296 := by
  have : x / 2 ^ n ≤ x := Int.ediv_le_self _ hx.1
  have := hx.2;omega
 have e : IntKind.u32.wrap (x * 2 ^ (32 - n)) = x % 2 ^ n * 2 ^ (32 - n) := by
  rw [IntKind.wrap_u32,← hpq,Int.mul_comm x,Int.mul_comm (2 ^ n),Int.mul_emod_mul_of_pos _ _ hq,Int.mul_comm]
 have h6 : x % 2 ^ n * 2 ^ (32 - n) ≤ (2 ^ n - 1) * 2 ^ (32 - n) := Int.mul_le_mul_of_nonneg_right (by omega) (by omega)
 rw [Int.sub_mul,hpq,Int.one_mul] at h6
 have h7 : 0 ≤ x % 2 ^ n * 2 ^ (32 - n) := Int.mul_nonneg h2 (by omega)
 rw [e,bits_join .u32 32 (by decide) (fun n h0 h1 => by rw [IntKind.wrap_u32];omega) (32 - n) _ _ h7 (Int.mul_emod_left _ _) (by omega) h4 h5 (by omega),zak,Int.add_comm]
theorem zhk (n : Nat) (h0 : 1 ≤ n) (h1 : n ≤ 31) {x : Int} (hx : zbi x) : zfQ.f x (n : Int) = some (zak n x) := by
 unfold zfQ.f zcb.f
 have e1 : wrap64 (-(n : Int)) = -(n : Int) := zZ (by omega) (by omega)
 have e2 : IntKind.u64.wrap (-(n : Int)) = 18446744073709551616 - (n : Int) := by
  show (-(n : Int)) % 18446744073709551616 = _
  omega
 have e3 : Go.bits .and .u64 (18446744073709551616 - (n : Int)) 31 = ((32 - n : Nat) : Int) := by
  have := bits_mask .u64 64 (by decide) (fun n h0 h1 => zbN h0 (by omega)) 5 (by decide) (18446744073709551616 - (n : Int)) (by omega) (by omega)
  rw [show ((2 : Int) ^ 5 - 1) = 31 from rfl,show (2 : Int) ^ 5 = 32 from rfl] at this
  rw [this];omega
 have e4 : IntKind.u64.wrap (32 - ((32 - n : Nat) : Int)) = (n : Int) := by rw [zbN (by omega) (by omega)];omega
 rw [e1,e2,e3,e4,if_pos (by omega),if_pos (by omega)]
 simp only [Option.bind_some]
 congr 1
 unfold shl shr
 rw [Int.toNat_natCast,Int.toNat_natCast,Nat.min_eq_left (by show 32 - n ≤ 32;omega),Nat.min_eq_left (by show n ≤ 32;omega)]
 exact rot_join n (by omega) hx
theorem zhN (x n p low : Int) (hp : p ≠ 0) (m : Nat) (hm : wrap64 (32 - n) = m) (d : Nat) : ∀ j : Nat,j + d = m → m ≤ 32 → 0 ≤ low → low * 2 ^ m < 4294967296 → Ev (fun k => zR.l1 k x n p (low * 2 ^ j) (j : Int)) (((Int.tdiv x p % 4294967296) + low * 2 ^ m) % 4294967296) := by
 induction d with
 | zero =>
  intro j hj hm2 h0 h1
  obtain rfl : j = m := by omega
  refine Ev.step (fun k => by rw [zR.l1]) ?_
  rw [hm]
  exact zT (by omega) (zT hp (Ev.now _))
 | succ d ih =>
  intro j hj hm2 h0 h1
  refine Ev.step (fun k => by rw [zR.l1]) ?_
  rw [hm]
  refine zF (by omega) ?_
  have h2 : low * 2 ^ (j + 1) ≤ low * 2 ^ m := Int.mul_le_mul_of_nonneg_left (by exact_mod_cast Nat.pow_le_pow_right (by omega) (by omega)) h0
  have h3 : 0 ≤ low * 2 ^ (j + 1) := Int.mul_nonneg h0 (Int.le_of_lt (zce _))
  have e1 : low * 2 ^ j * 2 % 4294967296 = low * 2 ^ (j + 1) := by
   rw [Int.mul_assoc,← Int.pow_succ]
   show low * 2 ^ (j + 1) % 4294967296 = low * 2 ^ (j + 1)
   omega
  rw [e1,zZ (by omega) (by omega)]
  exact ih (j + 1) (by omega) hm2 h0 h1
theorem zhM (x : Int) (n : Nat) (hn : n ≤ 31) (r : Int) (hr : Ev (fun k => zR.l1 k x n (2 ^ n) (Int.tmod x (2 ^ n)) 0) r) (d : Nat) : ∀ j : Nat,j + d = n → Ev (fun k => zR.l0 k x (n : Int) (2 ^ j) (j : Int)) r := by
 induction d with
 | zero =>
  intro j hj
  obtain rfl : j = n := by omega
  refine Ev.step (fun k => by rw [zR.l0]) ?_
  exact zT (by omega) (zT (Int.ne_of_gt (zce _)) hr)
 | succ d ih =>
  intro j hj
  refine Ev.step (fun k => by rw [zR.l0]) ?_
  refine zF (by omega) ?_
  have h2 : (2 : Int) ^ (j + 1) ≤ 2 ^ 31 := by exact_mod_cast Nat.pow_le_pow_right (by omega : 0 < 2) (by omega : j + 1 ≤ 31)
  have h3 : (2 : Int) ^ 31 = 2147483648 := rfl
  have h4 := zce (j + 1)
  have e1 : (2 : Int) ^ j * 2 % 4294967296 = 2 ^ (j + 1) := by
   rw [← Int.pow_succ];omega
  rw [e1,zZ (by omega) (by omega)]
  exact ih (j + 1) (by omega)
theorem zhL (n : Nat) (h0 : 1 ≤ n) (h1 : n ≤ 31) {x : Int} (hx : zbi x) : Ev (fun k => zR.f k x (n : Int)) (zak n x) := by
 have hpq := zhG n (by omega)
 have hp := zce n
 have hq := zce (32 - n)
 have h2 := Int.emod_nonneg x (Int.ne_of_gt hp)
 have h3 := Int.emod_lt_of_pos x hp
 have h6 : x % 2 ^ n * 2 ^ (32 - n) ≤ (2 ^ n - 1) * 2 ^ (32 - n) := Int.mul_le_mul_of_nonneg_right (by omega) (by omega)
 rw [Int.sub_mul,hpq,Int.one_mul] at h6
 have hl := zhN x n (2 ^ n) (x % 2 ^ n) (Int.ne_of_gt hp) (32 - n) (by rw [zZ (by omega) (by omega)];omega) (32 - n) 0 (by omega) (by omega) h2 (by omega)
 rw [Int.pow_zero,Int.mul_one] at hl
 rw [← Int.tmod_eq_emod_of_nonneg hx.1] at hl
 have := zhM x n h1 _ hl n 0 (by omega)
 rw [Int.pow_zero] at this
 refine z6 this ?_
 have ok := rot32_ok n (by omega) hx
 rw [Int.tmod_eq_emod_of_nonneg hx.1,Int.tdiv_eq_ediv_of_nonneg hx.1]
 have h4 : 0 ≤ x / 2 ^ n := Int.ediv_nonneg hx.1 (Int.le_of_lt hp)
 have h8 : x / 2 ^ n < 4294967296 := by
  have : x / 2 ^ n ≤ x := Int.ediv_le_self _ hx.1
  have := hx.2;omega
 rw [Int.emod_eq_of_lt h4 h8]
 exact Int.emod_eq_of_lt ok.1 ok.2
theorem zhK (n : Nat) (hn : n ≤ 31) (d : Nat) : ∀ (j : Nat) (x : Int),j + d = n → zbi x → Ev (fun k => zac.l0 k x (n : Int) (j : Int)) (x / 2 ^ d) := by
 induction d with
 | zero =>
  intro j x hj hx
  refine Ev.step (fun k => by rw [zac.l0]) ?_
  exact zT (by omega) (z6 (Ev.now _) (by simp))
 | succ d ih =>
  intro j x hj hx
  refine Ev.step (fun k => by rw [zac.l0]) ?_
  refine zF (by omega) ?_
  obtain ⟨x0,x1⟩ := hx
  have e1 : Int.tdiv x 2 % 4294967296 = x / 2 := by rw [Int.tdiv_eq_ediv_of_nonneg x0];omega
  rw [e1,zZ (by omega) (by omega)]
  refine z6 (ih (j + 1) (x / 2) (by omega) ⟨by omega,by omega⟩) ?_
  rw [Int.pow_succ,Int.mul_comm,← Int.ediv_ediv_of_nonneg (by decide)]
theorem zhJ (n : Nat) (hn : n ≤ 31) {x : Int} (hx : zbi x) : Ev (fun k => zac.f k x (n : Int)) (x / 2 ^ n) := zhK n hn n 0 x (by omega) hx
end Go.Proofs.Ytklhjlaofkngcaa.Px