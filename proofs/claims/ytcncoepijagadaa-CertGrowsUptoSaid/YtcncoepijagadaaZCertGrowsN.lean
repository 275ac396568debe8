/- Part 14 of 24 of the proof of the law CertGrows: what is proved is the statement at the end of the last part; its conditions are those of the given row. -/
import Derived.Test.YtcncoepijagadaaZCertGrowsH
import Derived.Test.YtcncoepijagadaaZCertGrowsL
namespace Go.Proofs.Ytcncoepijagadaa.Px
open Go.RowKit Go.Proofs.YtcncoepijagadaaW.PrintWords Go.Proofs.YtcncoepijagadaaW.PrintLast Go.Proofs.YtcncoepijagadaaW.PrintMore
attribute [local go_sem] zp zr zy zz zl zm zq zs
set_option linter.unusedVariables false
set_option linter.unusedSimpArgs false
def zbE (a r : Int) (bs : List S50) (ps : List ByteArray) (x y : Int) : Bs :=
 zcA a.toNat ++ zcA r.toNat ++ zbB (bs.map bB) ++ zbB ps ++ zcA x.toNat ++ zcA y.toNat
theorem zcm (a r : Int) (bs : List S50) (ps : List ByteArray) (x y n : Int) : zaU a r bs ps x y n = true ↔ zdf n = true ∧ 1 ≤ a ∧ a ≤ n ∧ 1 ≤ r ∧ r ≤ 1048576 ∧ bs.length ≤ 4 ∧ bs.any (zcs n) = false ∧ zez x y = true ∧ (zcD r = true ∨ x = 0 ∧ y = 0) ∧ zbA ps r n = true := by
 unfold zaU
 simp [and_assoc]
theorem zgK (l : List ByteArray) (d : Nat) : ∀ j,zaP l d j = true → ∀ i,j ≤ i → i < j + d → (l.getD i ByteArray.empty).size = 32 := by
 induction d with
 | zero => intro j _ i h1 h2;omega
 | succ d ih =>
  intro j h i h1 h2
  rw [zaP,Bool.and_eq_true] at h
  rcases Nat.lt_or_ge j i with h3 | h3
  ·exact ih (j + 1) h.2 i (by omega) (by omega)
  ·obtain rfl : i = j := by omega
   have := h.1
   rw [zfA,Bool.and_eq_true] at this
   exact of_decide_eq_true this.1
theorem zbQ {l : List ByteArray} {r n : Int} (hn : zdf n = true) (h : zbA l r n = true) : l.length ≤ 64 ∧ ∀ t ∈ l,t.size = 32 := by
 unfold zbA at h
 split at h
 ·have h0 := of_decide_eq_true h
  obtain rfl := List.eq_nil_of_length_eq_zero h0
  simp
 ·obtain ⟨_,h2,_⟩ := (zcl n).1 hn
  rw [Bool.and_eq_true,Bool.and_eq_true] at h
  have h3 := of_decide_eq_true h.2
  refine ⟨by omega,fun t ht => ?_⟩
  obtain ⟨i,hi,rfl⟩ := List.mem_iff_getElem.1 ht
  have := zgK l l.length 0 h.1.1 i (by omega) (by omega)
  rwa [List.getD_eq_getElem?_getD,List.getElem?_eq_getElem hi] at this
theorem ziK (b : S50) : (bB b).size ≤ 400 := by
 unfold bB
 split
 ·rename_i h
  obtain ⟨h1,h2,h3,h4,h5,h6,h7⟩ := (zcJ _ _ _).1 h
  have r1 := zcO b.f2 48 (by omega) (fun t ht => (h7 t ht).2)
  have r2 := zan (v := b.f2.length) (by omega)
  have r4 := zan (v := b.f0.toNat) (by omega)
  have r5 := zan (v := b.f1.toNat) (by omega)
  rw [zac,zck,List.length_append,List.length_append,zbB,List.length_append];omega
 ·show 0 ≤ 400;omega
theorem zgf {bs : List S50} (h : bs.length ≤ 4) : (zbB (bs.map bB)).length ≤ 1700 := by
 have r1 := zcO (bs.map bB) 400 (by omega) (fun t ht => by obtain ⟨b,_,rfl⟩ := List.mem_map.1 ht;exact ziK b)
 rw [List.length_map] at r1
 have r2 := zan (v := (bs.map bB).length) (by rw [List.length_map];omega)
 rw [zbB,List.length_append];omega
theorem zgg {ps : List ByteArray} (h : ps.length ≤ 64 ∧ ∀ t ∈ ps,t.size = 32) : (zbB ps).length ≤ 2700 := by
 have r1 := zcO ps 32 (by omega) (fun t ht => by have := h.2 t ht;omega)
 have r2 := zan (v := ps.length) (by have := h.1;omega)
 rw [zbB,List.length_append];have := h.1;omega
theorem ziJ {n : Int} {bs : List S50} (h : bs.any (zcs n) = false) : ∀ b ∈ bs,zcI b.f0 b.f1 b.f2 = true ∧ b.f0 ≤ n := by
 intro b hb
 rw [List.any_eq_false] at h
 have := h b hb
 rw [zcs] at this
 simp at this
 exact ⟨this.1,by omega⟩
theorem rd_four (a b c d : ByteArray) : zu ByteArray.empty [a,b,c,d] 0 = a ∧ zu ByteArray.empty [a,b,c,d] 1 = b ∧ zu ByteArray.empty [a,b,c,d] 2 = c ∧ zu ByteArray.empty [a,b,c,d] 3 = d := ⟨rfl,rfl,rfl,rfl⟩
theorem zeG (a r : Int) (bs : List S50) (ps : List ByteArray) (x y n : Int) :
  zae.f a r bs ps x y n = some (if zaU a r bs ps x y n = true then (toB (zbE a r bs ps x y),0) else ((⟨#[]⟩ : ByteArray),1)) := by
 unfold zae.f
 rw [show zV.f a r bs ps x y n = some (zaU a r bs ps x y n) from rfl]
 simp only [Option.bind_some]
 by_cases h : zaU a r bs ps x y n = true
 ·rw [if_pos h,if_pos h]
  obtain ⟨h0,h1,h2,h3,h4,h5,h6,h7,h8,h9⟩ := (zcm ..).1 h
  obtain ⟨k1,k2,k3⟩ := (zcl n).1 h0
  obtain ⟨x1,x2,y1,y2⟩ := (zdY x y).1 h7
  have e1 : zal.f bs = some (bs.map bB) := if_pos h5
  have e2 : zab.f [a,r,x,y] = some [zaZ a.toNat,zaZ r.toNat,zaZ x.toNat,zaZ y.toNat] := by
   rw [zab.f,if_pos]
   ·rfl
   ·refine ⟨Nat.le_refl 4,fun k hk => ?_⟩
    simp only [List.mem_cons,List.not_mem_nil,or_false] at hk
    rcases hk with rfl | rfl | rfl | rfl <;> omega
  have s0 := zaE (v := a.toNat) (by omega)
  have s1 := zaE (v := r.toNat) (by omega)
  have s2 := zaE (v := x.toNat) (by omega)
  have s3 := zaE (v := y.toNat) (by omega)
  have r1 := zgf h5
  have r2 := zgg (zbQ h0 h9)
  have d1 : zJ.f (bs.map bB) = some (toB (zbB (bs.map bB))) := if_pos (by omega)
  have d2 : zJ.f ps = some (toB (zbB ps)) := if_pos (by omega)
  rw [e1,e2]
  simp only [Option.bind_some,d1,d2]
  obtain ⟨q0,q1,q2,q3⟩ := rd_four (zaZ a.toNat) (zaZ r.toNat) (zaZ x.toNat) (zaZ y.toNat)
  rw [q0,q1,q2,q3]
  simp only [ByteArray.size_append,zac]
  rw [if_pos (by simp),if_pos (by simp),if_pos (by omega),if_pos (by omega),if_pos (by omega),if_pos (by simp),if_pos (by omega),if_pos (by simp),if_pos (by omega)]
  simp only [zbE,zaZ,zaK]
 ·rw [if_neg h,if_neg h]
instance decBatch : DecidableEq S50 := fun a b => decidable_of_iff (a.f0 = b.f0 ∧ a.f1 = b.f1 ∧ a.f2 = b.f2) ⟨fun ⟨h0,h1,h2⟩ => by obtain ⟨a0,a1,a2⟩ := a;obtain ⟨b0,b1,b2⟩ := b;simp only at h0 h1 h2;rw [h0,h1,h2],fun h => by rw [h];exact ⟨rfl,rfl,rfl⟩⟩
theorem zdj (l : List S50) (j : Nat) (h : j < l.length) : zG l (j : Int) = l[j] := by
 rw [zG,Int.toNat_natCast,List.getD_eq_getElem?_getD,List.getElem?_eq_getElem h];rfl
theorem zgX {a r : Int} {bs : List S50} {ps : List ByteArray} {x y n : Int} (h : zaU a r bs ps x y n = true) : bs.length < 4611686018427387904 ∧ (∀ b ∈ bs,b.f2.length < 4611686018427387904) ∧ ps.length < 4611686018427387904 := by
 obtain ⟨h0,_,_,_,_,h5,h6,_,_,h9⟩ := (zcm ..).1 h
 refine ⟨by omega,fun b hb => ?_,by have := (zbQ h0 h9).1;omega⟩
 obtain ⟨_,_,_,_,_,k,_⟩ := (zcJ _ _ _).1 (ziJ h6 b hb).1
 omega
def zbe : Nat → Nat → Nat
 | 0,_ => 0
 | d + 1,s => s % 2 + zbe d (s / 2)
theorem zch : ∀ (d s : Nat),zbe d s ≤ d
 | 0,_ => Nat.le_refl _
 | d + 1,s => by have := zch d (s / 2);rw [zbe];omega
theorem zb9 : ∀ (d e b r : Nat),b < 2 ^ d → zbe (d + e) (b + 2 ^ d * r) = zbe d b + zbe e r
 | 0,e,b,r,h => by
  obtain rfl : b = 0 := by simpa using h
  rw [Nat.zero_add,Nat.zero_add,Nat.pow_zero,Nat.one_mul];simp [zbe]
 | d + 1,e,b,r,h => by
  rw [Nat.pow_succ] at h
  have e1 : (b + 2 ^ (d + 1) * r) / 2 = b / 2 + 2 ^ d * r := by
   rw [Nat.pow_succ,Nat.mul_assoc,Nat.mul_left_comm,Nat.add_mul_div_left _ _ (by omega)]
  have e2 : (b + 2 ^ (d + 1) * r) % 2 = b % 2 := by
   rw [Nat.pow_succ,Nat.mul_assoc,Nat.mul_left_comm,Nat.add_mul_mod_self_left]
  rw [show d + 1 + e = (d + e) + 1 by omega,zbe,zbe,e1,e2,zb9 d e (b / 2) r (by omega)]
  omega
def zag : List Nat → Nat
 | [] => 0
 | b :: l => b + 256 * zag l
theorem zc8 (a b c d : Nat) (hb : b < 256) (hd : d < 256) : (b + 256 * a) &&& (d + 256 * c) = (b &&& d) + 256 * (a &&& c) := by
 have hx : b &&& d < 2 ^ 8 := Nat.and_lt_two_pow _ (by omega)
 apply Nat.eq_of_testBit_eq
 intro i
 rw [Nat.testBit_and,Nat.add_comm b,Nat.add_comm d,Nat.add_comm (b &&& d)]
 rw [show (256 : Nat) = 2 ^ 8 from rfl,Nat.testBit_two_pow_mul_add _ (by omega),Nat.testBit_two_pow_mul_add _ (by omega),Nat.testBit_two_pow_mul_add _ hx]
 split <;> rw [Nat.testBit_and]
theorem low_1 : ∀ (b : Fin 256) (t : Fin 2),(b.val / 2 + 128 * t.val) &&& 85 = b.val / 2 &&& 85 := by decide +kernel
theorem low_2 : ∀ (b : Fin 256) (t : Fin 4),(b.val / 4 + 64 * t.val) &&& 51 = b.val / 4 &&& 51 := by decide +kernel
def zdy (b : Nat) : Nat := (b / 2 &&& 85) + (b &&& 85)
def zeB (b : Nat) : Nat := (b / 4 &&& 51) + (b &&& 51)
def ziV (b : Nat) : Nat := b % 16 + b / 16
theorem ze6 : ∀ b : Fin 256,zdy b.val < 256 ∧ zeB (zdy b.val) < 256 ∧ zeB (zdy b.val) % 16 ≤ 4 ∧ zeB (zdy b.val) / 16 ≤ 4 ∧ ziV (zeB (zdy b.val)) = zbe 8 b.val := by decide +kernel
theorem zia : ∀ l : List Nat,(∀ b ∈ l,b < 256) → (zag l / 2 &&& zag (List.replicate l.length 85)) + (zag l &&& zag (List.replicate l.length 85)) = zag (l.map zdy)
 | [],_ => rfl
 | b :: l,h => by
  have hb := h b List.mem_cons_self
  have ih := zia l (fun c hc => h c (List.mem_cons_of_mem _ hc))
  have k := low_1 ⟨b,hb⟩ ⟨zag l % 2,Nat.mod_lt _ (by omega)⟩
  simp only at k
  rw [List.length_cons,List.replicate_succ,zag,zag,List.map_cons,zag,← ih]
  rw [show (b + 256 * zag l) / 2 = (b / 2 + 128 * (zag l % 2)) + 256 * (zag l / 2) by omega,zc8 _ _ _ _ (by omega) (by omega),zc8 _ _ _ _ hb (by omega),k,zdy]
  omega
theorem zib : ∀ l : List Nat,(∀ b ∈ l,b < 256) → (zag l / 4 &&& zag (List.replicate l.length 51)) + (zag l &&& zag (List.replicate l.length 51)) = zag (l.map zeB)
 | [],_ => rfl
 | b :: l,h => by
  have hb := h b List.mem_cons_self
  have ih := zib l (fun c hc => h c (List.mem_cons_of_mem _ hc))
  have k := low_2 ⟨b,hb⟩ ⟨zag l % 4,Nat.mod_lt _ (by omega)⟩
  simp only at k
  rw [List.length_cons,List.replicate_succ,zag,zag,List.map_cons,zag,← ih]
  rw [show (b + 256 * zag l) / 4 = (b / 4 + 64 * (zag l % 4)) + 256 * (zag l / 4) by omega,zc8 _ _ _ _ (by omega) (by omega),zc8 _ _ _ _ hb (by omega),k,zeB]
  omega
theorem zid (l : List Nat) (h : ∀ b ∈ l,b % 16 ≤ 4 ∧ b / 16 ≤ 4) : zag l % 16 ≤ 4 := by
 cases l with
 | nil => simp [zag]
 | cons b l => have := (h b List.mem_cons_self).1;rw [zag];omega
theorem zic : ∀ l : List Nat,(∀ b ∈ l,b % 16 ≤ 4 ∧ b / 16 ≤ 4) → ((zag l / 16 + zag l) &&& zag (List.replicate l.length 15)) = zag (l.map ziV)
 | [],_ => rfl
 | b :: l,h => by
  obtain ⟨h1,h2⟩ := h b List.mem_cons_self
  have hl := fun c hc => h c (List.mem_cons_of_mem b hc)
  have ih := zic l hl
  have k := zid l hl
  rw [List.length_cons,List.replicate_succ,zag,zag,List.map_cons,zag,← ih]
  rw [show (b + 256 * zag l) / 16 + (b + 256 * zag l) = (b / 16 + 16 * (zag l % 16) + b) + 256 * (zag l / 16 + zag l) by omega,zc8 _ _ _ _ (by omega) (by omega)]
  rw [show (15 : Nat) = 2 ^ 4 - 1 from rfl,Nat.and_two_pow_sub_one_eq_mod,ziV]
  omega
theorem zf4 : ∀ l : List Nat,(∀ b ∈ l,b < 256) → zag l < 256 ^ l.length
 | [],_ => by simp [zag]
 | b :: l,h => by
  have := zf4 l (fun c hc => h c (List.mem_cons_of_mem _ hc))
  have hb := h b List.mem_cons_self
  rw [zag,List.length_cons,Nat.pow_succ];omega
set_option maxRecDepth 10000 in
theorem zho (m : Nat) : ∀ l : List Nat,(∀ b ∈ l,b ≤ m) → zag l * 255 + m ≤ m * 256 ^ l.length
 | [],_ => by simp [zag]
 | b :: l,h => by
  have := zho m l (fun c hc => h c (List.mem_cons_of_mem _ hc))
  have hb := h b List.mem_cons_self
  rw [zag,List.length_cons,Nat.pow_succ,← Nat.mul_assoc]
  generalize m * 256 ^ l.length = X at *
  omega
theorem zdv (a b : Nat) (h : a + b < 18446744073709551616) : IntKind.u64.wrap ((a : Int) + (b : Int)) = ((a + b : Nat) : Int) := by
 rw [zbb (by omega) (by omega)];omega
theorem pop_e2 {q0 q1 q2 r1 r2 r3 z : Nat} (g0 : q0 ≤ 8) (g1 : q1 ≤ 8) (g2 : q2 ≤ 8) (e0 : z = q0 + 256 * r1) (e1 : r1 = q1 + 256 * r2) (e2 : r2 = q2 + 256 * r3) : z / 256 = r1 ∧ (z + r1) / 65536 = r2 + r3 := by
 constructor <;> omega
theorem pop_e3 {q0 q1 q2 q3 q4 q5 q6 q7 r1 r2 r3 r4 r5 r6 z : Nat} (g0 : q0 ≤ 8) (g1 : q1 ≤ 8) (g2 : q2 ≤ 8) (g3 : q3 ≤ 8) (g4 : q4 ≤ 8) (g5 : q5 ≤ 8) (g6 : q6 ≤ 8) (e0 : z = q0 + 256 * q1 + 65536 * q2 + 16777216 * q3 + 4294967296 * r4) (e1 : r1 = q1 + 256 * q2 + 65536 * q3 + 16777216 * q4 + 4294967296 * r5) (e2 : r2 = q2 + 256 * q3 + 65536 * q4 + 16777216 * q5 + 4294967296 * r6) (e3 : r3 = q3 + 256 * q4 + 65536 * q5 + 16777216 * q6 + 4294967296 * q7) :
  (z + r1 + (r2 + r3)) / 4294967296 = r4 + r5 + r6 + q7 := by
 generalize hx : q0 + 256 * q1 + 65536 * q2 + 16777216 * q3 = x at *
 have lx : x ≤ 134744072 := by omega
 generalize hy : q1 + 256 * q2 + 65536 * q3 + 16777216 * q4 = y at *
 have ly : y ≤ 134744072 := by omega
 generalize hu : q2 + 256 * q3 + 65536 * q4 + 16777216 * q5 = u at *
 have lu : u ≤ 134744072 := by omega
 generalize hv : q3 + 256 * q4 + 65536 * q5 + 16777216 * q6 = v at *
 have lv : v ≤ 134744072 := by omega
 clear hx hy hu hv g0 g1 g2 g3 g4 g5 g6
 omega
theorem pop_end (q0 q1 q2 q3 q4 q5 q6 q7 z z1 z2 z3 : Nat) (g0 : q0 ≤ 8) (g1 : q1 ≤ 8) (g2 : q2 ≤ 8) (g3 : q3 ≤ 8) (g4 : q4 ≤ 8) (g5 : q5 ≤ 8) (g6 : q6 ≤ 8) (g7 : q7 ≤ 8)
  (hz : z = q0 + 256 * (q1 + 256 * (q2 + 256 * (q3 + 256 * (q4 + 256 * (q5 + 256 * (q6 + 256 * q7))))))) (h1 : z1 = z + z / 256) (h2 : z2 = z1 + z1 / 65536) (h3 : z3 = z2 + z2 / 4294967296) :
  z3 % 128 = q0 + (q1 + (q2 + (q3 + (q4 + (q5 + (q6 + q7)))))) := by
 obtain ⟨r6,e6⟩ : ∃ r,r = q6 + 256 * q7 := ⟨_,rfl⟩
 obtain ⟨r5,e5⟩ : ∃ r,r = q5 + 256 * r6 := ⟨_,rfl⟩
 obtain ⟨r4,e4⟩ : ∃ r,r = q4 + 256 * r5 := ⟨_,rfl⟩
 obtain ⟨r3,e3⟩ : ∃ r,r = q3 + 256 * r4 := ⟨_,rfl⟩
 obtain ⟨r2,e2⟩ : ∃ r,r = q2 + 256 * r3 := ⟨_,rfl⟩
 obtain ⟨r1,e1⟩ : ∃ r,r = q1 + 256 * r2 := ⟨_,rfl⟩
 rw [← e6,← e5,← e4,← e3,← e2,← e1] at hz
 obtain ⟨a1,a2⟩ := pop_e2 g0 g1 g2 hz e1 e2
 rw [a1] at h1
 rw [h1,a2] at h2
 have a3 := pop_e3 (z := z) (q7 := q7) (r1 := r1) (r2 := r2) (r3 := r3) (r4 := r4) (r5 := r5) (r6 := r6) g0 g1 g2 g3 g4 g5 g6 (by rw [hz,e1,e2,e3];omega) (by rw [e1,e2,e3,e4];omega) (by rw [e2,e3,e4,e5];omega) (by rw [e3,e4,e5,e6];omega)
 rw [h2,a3] at h3
 clear a1 a2 a3 h1 h2
 omega
set_option maxHeartbeats 1000000 in
theorem zdx (x : Nat) (hx : x < 18446744073709551616) : zaI.f (x : Int) = some ((zbe 64 x : Nat) : Int) := by
 obtain ⟨b0,b1,b2,b3,b4,b5,b6,b7,h0,h1,h2,h3,h4,h5,h6,h7,e⟩ : ∃ b0 b1 b2 b3 b4 b5 b6 b7 : Nat,b0 < 256 ∧ b1 < 256 ∧ b2 < 256 ∧ b3 < 256 ∧ b4 < 256 ∧ b5 < 256 ∧ b6 < 256 ∧ b7 < 256 ∧ x = zag [b0,b1,b2,b3,b4,b5,b6,b7] :=
  ⟨x % 256,x / 256 % 256,x / 65536 % 256,x / 16777216 % 256,x / 4294967296 % 256,x / 1099511627776 % 256,x / 281474976710656 % 256,x / 72057594037927936,by omega,by omega,by omega,by omega,by omega,by omega,by omega,by omega,by simp only [zag];omega⟩
 generalize hl : [b0,b1,b2,b3,b4,b5,b6,b7] = l at e
 have hlen : l.length = 8 := by rw [← hl];rfl
 have hb : ∀ b ∈ l,b < 256 := by rw [← hl];simp only [List.mem_cons,List.not_mem_nil,or_false];rintro b (rfl | rfl | rfl | rfl | rfl | rfl | rfl | rfl) <;> assumption
 have q1 := zia l hb
 have hb1 : ∀ b ∈ l.map zdy,b < 256 := fun b hm => by obtain ⟨c,hc,rfl⟩ := List.mem_map.1 hm;exact (ze6 ⟨c,hb c hc⟩).1
 have q2 := zib (l.map zdy) hb1
 have hb2 : ∀ b ∈ (l.map zdy).map zeB,b % 16 ≤ 4 ∧ b / 16 ≤ 4 := fun b hm => by
  obtain ⟨c,hc,rfl⟩ := List.mem_map.1 hm
  obtain ⟨d,hd,rfl⟩ := List.mem_map.1 hc
  have := ze6 ⟨d,hb d hd⟩
  exact ⟨this.2.2.1,this.2.2.2.1⟩
 have q3 := zic ((l.map zdy).map zeB) hb2
 have e4 : ((l.map zdy).map zeB).map ziV = l.map (zbe 8) := by
  rw [List.map_map,List.map_map]
  refine List.map_congr_left (fun c hc => ?_)
  exact (ze6 ⟨c,hb c hc⟩).2.2.2.2
 rw [e4] at q3
 rw [List.length_map] at q2
 rw [List.length_map,List.length_map] at q3
 rw [hlen] at q1 q2 q3
 have p8 : (256 : Nat) ^ 8 = 18446744073709551616 := by decide
 have l1 := zf4 _ hb1
 rw [List.length_map,hlen,p8] at l1
 have l2 := zf4 ((l.map zdy).map zeB) (fun b hm => by have := hb2 b hm;omega)
 rw [List.length_map,List.length_map,hlen,p8] at l2
 have l2' := zho 68 ((l.map zdy).map zeB) (fun b hm => by have := hb2 b hm;omega)
 rw [List.length_map,List.length_map,hlen,p8] at l2'
 rw [show zag (List.replicate 8 85) = 6148914691236517205 from rfl,← e] at q1
 rw [show zag (List.replicate 8 51) = 3689348814741910323 from rfl] at q2
 rw [show zag (List.replicate 8 15) = 1085102592571150095 from rfl] at q3
 generalize zag (l.map zdy) = y1 at *
 generalize zag ((l.map zdy).map zeB) = y2 at *
 have hz : zag (l.map (zbe 8)) = zbe 8 b0 + 256 * (zbe 8 b1 + 256 * (zbe 8 b2 + 256 * (zbe 8 b3 + 256 * (zbe 8 b4 + 256 * (zbe 8 b5 + 256 * (zbe 8 b6 + 256 * zbe 8 b7)))))) := by rw [← hl];simp only [List.map,zag,Nat.mul_zero,Nat.add_zero]
 have hp : zbe 64 x = zbe 8 b0 + (zbe 8 b1 + (zbe 8 b2 + (zbe 8 b3 + (zbe 8 b4 + (zbe 8 b5 + (zbe 8 b6 + zbe 8 b7)))))) := by
  rw [e,← hl]
  simp only [zag,Nat.mul_zero,Nat.add_zero]
  rw [show (64 : Nat) = 8 + 56 from rfl,show (256 : Nat) = 2 ^ 8 from rfl,zb9 _ _ _ _ h0,show (56 : Nat) = 8 + 48 from rfl,zb9 _ _ _ _ h1,show (48 : Nat) = 8 + 40 from rfl,zb9 _ _ _ _ h2,show (40 : Nat) = 8 + 32 from rfl,zb9 _ _ _ _ h3,show (32 : Nat) = 8 + 24 from rfl,zb9 _ _ _ _ h4,show (24 : Nat) = 8 + 16 from rfl,zb9 _ _ _ _ h5,show (16 : Nat) = 8 + 8 from rfl,zb9 _ _ _ _ h6]
 have g0 := zch 8 b0
 have g1 := zch 8 b1
 have g2 := zch 8 b2
 have g3 := zch 8 b3
 have g4 := zch 8 b4
 have g5 := zch 8 b5
 have g6 := zch 8 b6
 have g7 := zch 8 b7
 generalize zag (l.map (zbe 8)) = z at *
 have d2 : (x : Int) / 2 = ((x / 2 : Nat) : Int) := by omega
 have d4 : (y1 : Int) / 4 = ((y1 / 4 : Nat) : Int) := by omega
 have d16 : (y2 : Int) / 16 = ((y2 / 16 : Nat) : Int) := by omega
 have i1 : IntKind.u64.wrap (Go.bits .and .u64 ((x : Int) / 2) 6148914691236517205 + Go.bits .and .u64 (x : Int) 6148914691236517205) = (y1 : Int) := by
  have k1 : Go.bits .and .u64 ((x / 2 : Nat) : Int) 6148914691236517205 = ((x / 2 &&& 6148914691236517205 : Nat) : Int) := u64_and_nat (x / 2) 6148914691236517205 (by omega) (by omega)
  have k2 : Go.bits .and .u64 (x : Int) 6148914691236517205 = ((x &&& 6148914691236517205 : Nat) : Int) := u64_and_nat x 6148914691236517205 hx (by omega)
  rw [d2,k1,k2,zdv _ _ (by rw [q1];exact l1),q1]
 have i2 : IntKind.u64.wrap (Go.bits .and .u64 ((y1 : Int) / 4) 3689348814741910323 + Go.bits .and .u64 (y1 : Int) 3689348814741910323) = (y2 : Int) := by
  have k1 : Go.bits .and .u64 ((y1 / 4 : Nat) : Int) 3689348814741910323 = ((y1 / 4 &&& 3689348814741910323 : Nat) : Int) := u64_and_nat (y1 / 4) 3689348814741910323 (by omega) (by omega)
  have k2 : Go.bits .and .u64 (y1 : Int) 3689348814741910323 = ((y1 &&& 3689348814741910323 : Nat) : Int) := u64_and_nat y1 3689348814741910323 l1 (by omega)
  rw [d4,k1,k2,zdv _ _ (by rw [q2];exact l2),q2]
 have l3 : y2 / 16 + y2 < 18446744073709551616 := by omega
 have i3 : Go.bits .and .u64 (IntKind.u64.wrap ((y2 : Int) / 16 + (y2 : Int))) 1085102592571150095 = (z : Int) := by
  have k1 : Go.bits .and .u64 ((y2 / 16 + y2 : Nat) : Int) 1085102592571150095 = ((y2 / 16 + y2 &&& 1085102592571150095 : Nat) : Int) := u64_and_nat (y2 / 16 + y2) 1085102592571150095 l3 (by omega)
  rw [d16,zdv _ _ l3,k1,q3]
 unfold zaI.f
 rw [i1,i2,i3]
 have i4 : IntKind.u64.wrap ((z : Int) + (z : Int) / 256) = ((z + z / 256 : Nat) : Int) := by
  rw [show (z : Int) / 256 = ((z / 256 : Nat) : Int) by omega];exact zdv _ _ (by omega)
 rw [i4]
 generalize hz1 : z + z / 256 = z1
 have i5 : IntKind.u64.wrap ((z1 : Int) + (z1 : Int) / 65536) = ((z1 + z1 / 65536 : Nat) : Int) := by
  rw [show (z1 : Int) / 65536 = ((z1 / 65536 : Nat) : Int) by omega];exact zdv _ _ (by omega)
 rw [i5]
 generalize hz2 : z1 + z1 / 65536 = z2
 have i6 : IntKind.u64.wrap ((z2 : Int) + (z2 : Int) / 4294967296) = ((z2 + z2 / 4294967296 : Nat) : Int) := by
  rw [show (z2 : Int) / 4294967296 = ((z2 / 4294967296 : Nat) : Int) by omega];exact zdv _ _ (by omega)
 rw [i6]
 generalize hz3 : z2 + z2 / 4294967296 = z3
 have l4 : z3 < 9223372036854775808 := by omega
 have i7 : Go.bits .and .i64 (wrap64 (z3 : Int)) 127 = ((z3 % 128 : Nat) : Int) := by
  rw [z9 (by omega) (by omega)]
  have := bits_mask .i64 63 (by decide) (fun n h0 h1 => by rw [IntKind.wrap_i64];omega) 7 (by decide) (z3 : Int) (by omega) (by omega)
  rw [show ((2 : Int) ^ 7 - 1) = 127 from rfl] at this
  rw [this];omega
 rw [i7,hp]
 have hq : z3 % 128 = zbe 8 b0 + (zbe 8 b1 + (zbe 8 b2 + (zbe 8 b3 + (zbe 8 b4 + (zbe 8 b5 + (zbe 8 b6 + zbe 8 b7)))))) := pop_end _ _ _ _ _ _ _ _ _ _ _ _ g0 g1 g2 g3 g4 g5 g6 g7 hz hz1.symm hz2.symm hz3.symm
 rw [hq]
def zbV (s : Nat) (n : Int) : Bool := decide (0 ≤ n) && decide (n ≤ 64) && decide (s < 2 ^ n.toNat)
theorem zcb (s : Nat) (n : Int) : zbV s n = true ↔ 0 ≤ n ∧ n ≤ 64 ∧ s < 2 ^ n.toNat := by
 unfold zbV;simp [and_assoc]
theorem zf2 (s p : Nat) (hp : 0 < p) : s / p = 0 ↔ s < p := by
 rw [Nat.div_eq_zero_iff];omega
theorem zeE (s : Nat) (n : Int) : zaM.f (s : Int) n = some (zbV s n) := by
 unfold zaM.f
 by_cases h1 : n < 0
 ·rw [if_pos h1]
  have : zbV s n = false := by rw [← Bool.not_eq_true,zcb];omega
  rw [this]
 rw [if_neg h1]
 by_cases h2 : n > 64
 ·rw [if_pos h2]
  have : zbV s n = false := by rw [← Bool.not_eq_true,zcb];omega
  rw [this]
 rw [if_neg h2,z9 (by omega) (by omega)]
 by_cases h3 : n > 0
 ·obtain ⟨m,rfl⟩ : ∃ m : Nat,n = ((m + 1 : Nat) : Int) := ⟨(n - 1).toNat,by omega⟩
  have hm : mx (((m + 1 : Nat) : Int) - 1) 0 = (m : Int) := by unfold mx;split <;> omega
  have hs : shr .u64 ((s : Int) / 2) (m : Int) = ((s / 2 / 2 ^ m : Nat) : Int) := by
   unfold shr
   rw [Int.toNat_natCast,Nat.min_eq_left (by show m ≤ 64;omega),show (s : Int) / 2 = ((s / 2 : Nat) : Int) by omega]
   norm_cast
  have he : s / 2 / 2 ^ m = s / 2 ^ (m + 1) := by rw [Nat.div_div_eq_div_mul,Nat.pow_succ,Nat.mul_comm]
  rw [hm,hs,he]
  have key := zf2 s (2 ^ (m + 1)) (Nat.two_pow_pos _)
  by_cases h4 : s / 2 ^ (m + 1) = 0
  ·rw [if_pos (by omega),if_pos h3]
   have : zbV s ((m + 1 : Nat) : Int) = true := by rw [zcb];exact ⟨by omega,by omega,key.1 h4⟩
   rw [this]
  ·rw [if_neg (by omega)]
   have : zbV s ((m + 1 : Nat) : Int) = false := by
    rw [← Bool.not_eq_true,zcb]
    exact fun hh => h4 (key.2 hh.2.2)
   rw [this]
 ·obtain rfl : n = 0 := by omega
  have hm : mx ((0 : Int) - 1) 0 = 0 := by decide
  have hs : shr .u64 ((s : Int) / 2) 0 = (s : Int) / 2 := by unfold shr;simp
  have hw : zbV s 0 = decide (s = 0) := by
   rw [Bool.eq_iff_iff,zcb];simp
  rw [hm,hs,hw]
  by_cases h4 : s = 0
  ·subst h4;rfl
  ·by_cases h5 : (s : Int) / 2 = 0
   ·rw [if_pos h5,if_neg (by omega)]
    congr 1
    rw [Bool.eq_iff_iff];simp
   ·rw [if_neg h5];simp [h4]
theorem zfh (s : Nat) (hs : s < 18446744073709551616) : zaO.f (s : Int) = some ((zbe 64 s : Nat) : Int) := by
 unfold zaO.f
 rw [zdx s hs];rfl
def zcZ : Nat → Nat → Nat → List Int
 | 0,_,_ => []
 | d + 1,id,s => (if s % 2 = 1 then [(id : Int)] else []) ++ zcZ d (id + 1) (s / 2)
def zdd (a r : Int) (bs : List S50) (ps : List ByteArray) (x y : Int) (s : Nat) (n : Int) : Int :=
 if zaU a r bs ps x y n = true then if zbV s n = true then if ((zbe 64 s : Nat) : Int) < za9 n then 2 else 0 else 4 else 1
theorem zfZ (a r : Int) (bs : List S50) (ps : List ByteArray) (x y : Int) (s : Nat) (hs : s < 18446744073709551616) (n : Int) : zbv.f a r bs ps x y (s : Int) n = some (zdd a r bs ps x y s n) := by
 unfold zbv.f zdd
 rw [show zV.f a r bs ps x y n = some (zaU a r bs ps x y n) from rfl,zeE,zfh s hs,zc3]
 simp only [Option.bind_some]
 split
 ·split
  ·split <;> rfl
  ·rfl
 ·rfl
theorem zgV {a r : Int} {bs : List S50} {ps : List ByteArray} {x y : Int} {s : Nat} {n : Int} : zdd a r bs ps x y s n = 0 ↔ zaU a r bs ps x y n = true ∧ zbV s n = true ∧ za9 n ≤ ((zbe 64 s : Nat) : Int) := by
 unfold zdd
 by_cases h1 : zaU a r bs ps x y n = true
 ·rw [if_pos h1]
  by_cases h2 : zbV s n = true
  ·rw [if_pos h2]
   by_cases h3 : ((zbe 64 s : Nat) : Int) < za9 n
   ·rw [if_pos h3];simp;omega
   ·rw [if_neg h3];simp [h1,h2];omega
  ·rw [if_neg h2];simp [h2]
 ·rw [if_neg h1];simp [h1]
theorem zdR : ∀ (d id s : Nat) (x : Int),x ∈ zcZ d id s ↔ ∃ j,j < d ∧ s.testBit j = true ∧ x = ((id + j : Nat) : Int)
 | 0,id,s,x => by simp [zcZ]
 | d + 1,id,s,x => by
  have ih := zdR d (id + 1) (s / 2) x
  have t0 : s.testBit 0 = decide (s % 2 = 1) := Nat.testBit_zero s
  have ts : ∀ j,s.testBit (j + 1) = (s / 2).testBit j := fun j => Nat.testBit_succ s j
  constructor
  ·intro h
   have h' : (s % 2 = 1 ∧ x = (id : Int)) ∨ x ∈ zcZ d (id + 1) (s / 2) := by
    rw [zcZ] at h
    split at h
    ·rename_i h1
     rcases List.mem_cons.1 h with h2 | h2
     ·exact .inl ⟨h1,h2⟩
     ·exact .inr h2
    ·exact .inr h
   rcases h' with ⟨h1,h2⟩ | h2
   ·exact ⟨0,by omega,by rw [t0];simp [h1],by rw [h2];rfl⟩
   ·obtain ⟨j,hj,h3,h4⟩ := ih.1 h2
    exact ⟨j + 1,by omega,by rw [ts];exact h3,by rw [h4];congr 1;omega⟩
  ·rintro ⟨j,hj,h3,h4⟩
   rw [zcZ]
   rcases j with _ | j
   ·rw [t0] at h3
    rw [if_pos (of_decide_eq_true h3)]
    exact List.mem_cons.2 (.inl h4)
   ·have : x ∈ zcZ d (id + 1) (s / 2) := ih.2 ⟨j,by omega,by rw [← ts];exact h3,by rw [h4];congr 1;omega⟩
    split
    ·exact List.mem_cons.2 (.inr this)
    ·exact this
def zbC (i : Int) (t : ByteArray) (b : List S40) : Bool := b.any fun x => decide (x.f0 = i ∧ x.f1 = t)
theorem zdt {i : Int} {t : ByteArray} {b : List S40} : zbC i t b = true ↔ ∃ x ∈ b,x.f0 = i ∧ x.f1 = t := by
 simp [zbC]
def ze7 (s : Nat) (i : Int) : Nat := if 1 ≤ i ∧ i ≤ 64 then s ||| 2 ^ (i.toNat - 1) else s
def byN (t : ByteArray) : List S40 → Nat → Nat
 | [],s => s
 | x :: b,s => byN t b (if x.f1 = t then ze7 s x.f0 else s)
theorem zhv {s : Nat} (h : s < 18446744073709551616) (i : Int) : ze7 s i < 18446744073709551616 := by
 unfold ze7
 split
 ·have h1 : s < 2 ^ 64 := h
  have h2 : 2 ^ (i.toNat - 1) < 2 ^ 64 := Nat.pow_lt_pow_right (by decide) (by omega)
  exact Nat.or_lt_two_pow h1 h2
 ·exact h
theorem zh2 (t : ByteArray) : ∀ (b : List S40) (s : Nat),s < 18446744073709551616 → byN t b s < 18446744073709551616
 | [],_,h => h
 | x :: b,s,h => by
  rw [byN]
  refine zh2 t b _ ?_
  split
  ·exact zhv h _
  ·exact h
theorem zis (s : Nat) (i : Int) (j : Nat) : (ze7 s i).testBit j = true ↔ s.testBit j = true ∨ (i = ((j + 1 : Nat) : Int) ∧ j < 64) := by
 unfold ze7
 split
 ·rename_i h
  rw [Nat.testBit_or,Nat.testBit_two_pow,Bool.or_eq_true,decide_eq_true_eq]
  constructor
  ·rintro (h1 | h1)
   ·exact .inl h1
   ·exact .inr ⟨by omega,by omega⟩
  ·rintro (h1 | h1)
   ·exact .inl h1
   ·exact .inr (by omega)
 ·rename_i h
  constructor
  ·exact fun h1 => .inl h1
  ·rintro (h1 | h1)
   ·exact h1
   ·exact absurd ⟨by omega,by omega⟩ h
theorem zfY (t : ByteArray) : ∀ (b : List S40) (s j : Nat),(byN t b s).testBit j = true ↔ s.testBit j = true ∨ (zbC ((j + 1 : Nat) : Int) t b = true ∧ j < 64)
 | [],s,j => by simp [byN,zbC]
 | x :: b,s,j => by
  rw [byN,zfY t b]
  rw [show zbC ((j + 1 : Nat) : Int) t (x :: b) = (decide (x.f0 = ((j + 1 : Nat) : Int) ∧ x.f1 = t) || zbC ((j + 1 : Nat) : Int) t b) from rfl,Bool.or_eq_true,decide_eq_true_eq]
  split
  ·rename_i h
   rw [zis]
   constructor
   ·rintro ((h1 | ⟨h1,h2⟩) | ⟨h1,h2⟩)
    ·exact .inl h1
    ·exact .inr ⟨.inl ⟨h1,h⟩,h2⟩
    ·exact .inr ⟨.inr h1,h2⟩
   ·rintro (h1 | ⟨h1 | h1,h2⟩)
    ·exact .inl (.inl h1)
    ·exact .inl (.inr ⟨h1.1,h2⟩)
    ·exact .inr ⟨h1,h2⟩
  ·rename_i h
   constructor
   ·rintro (h1 | ⟨h1,h2⟩)
    ·exact .inl h1
    ·exact .inr ⟨.inr h1,h2⟩
   ·rintro (h1 | ⟨h1 | h1,h2⟩)
    ·exact .inl h1
    ·exact absurd h1.2 h
    ·exact .inr ⟨h1,h2⟩
def zfT (b : List S40) (s : Nat) (t : ByteArray) : Bool := (zcZ 64 1 s).all fun id => zbC id t b
theorem zeR {b : List S40} {s : Nat} {t : ByteArray} : zfT b s t = true ↔ ∀ j,j < 64 → s.testBit j = true → zbC ((j + 1 : Nat) : Int) t b = true := by
 rw [zfT,List.all_eq_true]
 constructor
 ·intro h j hj hs
  exact h _ ((zdR 64 1 s _).2 ⟨j,hj,hs,by rw [Nat.add_comm]⟩)
 ·intro h x hx
  obtain ⟨j,hj,hs,rfl⟩ := (zdR 64 1 s x).1 hx
  have := h j hj hs
  rwa [Nat.add_comm] at this
theorem zgn (s m : Nat) (hs : s < 18446744073709551616) (hm : m < 18446744073709551616) : Go.bits .andNot .u64 (s : Int) (m : Int) = 0 ↔ ∀ j,j < 64 → s.testBit j = true → m.testBit j = true := by
 rw [u64_andNot_nat s m hs hm]
 have e : ((s &&& (18446744073709551615 - m) : Nat) : Int) = 0 ↔ (s &&& (18446744073709551615 - m)) = 0 := by omega
 have tb : ∀ j,(18446744073709551615 - m).testBit j = (decide (j < 64) && !m.testBit j) := fun j => by
  have := Nat.testBit_two_pow_sub_succ (x := m) (n := 64) hm j
  rwa [show 2 ^ 64 - (m + 1) = 18446744073709551615 - m by omega] at this
 rw [e]
 constructor
 ·intro h j hj h1
  have h2 : (s &&& (18446744073709551615 - m)).testBit j = false := by rw [h];exact Nat.zero_testBit j
  rw [Nat.testBit_and,tb,h1,decide_eq_true hj] at h2
  simpa using h2
 ·intro h
  apply Nat.eq_of_testBit_eq
  intro j
  rw [Nat.zero_testBit,Nat.testBit_and,tb]
  by_cases hj : j < 64
  ·cases h1 : s.testBit j
   ·simp
   ·rw [h j hj h1];simp
  ·simp [hj]
theorem all_by (b : List S40) (s : Nat) (hs : s < 18446744073709551616) (t : ByteArray) : decide (Go.bits .andNot .u64 (s : Int) ((byN t b 0 : Nat) : Int) = 0) = zfT b s t := by
 rw [Bool.eq_iff_iff,decide_eq_true_eq,zgn s _ hs (zh2 t b 0 (by decide)),zeR]
 constructor
 ·intro h j hj h1
  have := (zfY t b 0 j).1 (h j hj h1)
  rcases this with h2 | h2
  ·rw [Nat.zero_testBit] at h2;cases h2
  ·exact h2.1
 ·intro h j hj h1
  exact (zfY t b 0 j).2 (.inr ⟨h j hj h1,hj⟩)
def zar (w : World) (base : Nat) (e : TypeId) (v : Value) (l : Bs) : Prop :=
 ∃ g cap cur fz,v = .slice (some ⟨g,0,none⟩) l.length cap ∧ base ≤ g ∧ w.heap[g]? = some (.cells cur e fz) ∧ (fz.2 ≤ l.length ∨ cap ≤ fz.1) ∧ l.length ≤ cap ∧ cap ≤ maxLen ∧ cur.size = cap ∧ cur.toList.take l.length = Lib.byteCells l
theorem zar.below {w w' : World} {base : Nat} {e : TypeId} {v : Value} {l : Bs} (h : zar w base e v l) (hb : Below w.heap.size w w') : zar w' base e v l := by
 obtain ⟨g,cap,cur,fz,rfl,hg,hh,r⟩ := h
 exact ⟨g,cap,cur,fz,rfl,hg,(hb.block g (Array.getElem?_eq_some_iff.1 hh).1).trans hh,r⟩
theorem zar.start (W : World) (base : Nat) (e : TypeId) (s : ByteArray) (hb : base ≤ W.heap.size) (hs : s.size ≤ maxLen) : zar (Lib.bytesWorld W e s) base e (.slice (some ⟨W.heap.size,0,none⟩) s.size (grownCap W s.size 0 e)) (ofB s) := by
 have hc := grownCap_ge W s.size 0 e
 have hd : s.data.size = s.size := rfl
 have hz : (Lib.bytesCells W e s).size = grownCap W s.size 0 e := by
  rw [Lib.bytesCells,Array.size_append,Array.size_map,Array.size_replicate,hd];omega
 refine ⟨W.heap.size,grownCap W s.size 0 e,Lib.bytesCells W e s,_,by rw [zaa],hb,Lib.bytesWorld_at_new W e s,.inr (by rw [hz];exact Nat.le_refl _),by rw [zaa];exact hc,grownCap_le_maxLen W s.size 0 e hs,hz,?_⟩
 rw [Lib.bytesCells,Array.toList_append,List.take_left' (by rw [Array.length_toList,Array.size_map,hd,zaa])]
 simp [Lib.byteCells,ofB]
theorem zbG (P : Program) (g o : Nat) (t : TypeId) (fz : Nat × Nat) : ∀ (vs : List Value) (i : Nat) (cur : Array Value) (w : World),w.heap[g]? = some (.cells cur t fz) → (fz.2 ≤ o + i ∨ cur.size ≤ fz.1) → o + i + vs.length ≤ cur.size → (∀ v ∈ vs,v.oneCell' = true) →
  (storeCells ⟨g,o,none⟩ vs i).run P w = .ok () (w.setRow g (cur.toList.take (o + i) ++ vs ++ cur.toList.drop (o + i + vs.length)).toArray)
 | [],i,cur,w,hg,_,_,_ => by
  simp only [storeCells,List.append_nil,List.length_nil,Nat.add_zero,List.take_append_drop,Array.toArray_toList]
  rw [setRow_self w g cur t fz hg]
  rfl
 | v :: rest,i,cur,w,hg,hfz,hl,h1 => by
  have hi : o + i < cur.size := by simp at hl;omega
  have hadd : (⟨g,o,none⟩ : Addr).add i = ⟨g,o + i,none⟩ := by unfold Addr.add;split <;> simp_all
  have hcell : w.cell? ⟨g,o + i,none⟩ = some cur[o + i] := by simp [World.cell?,hg,hi]
  have hfro : w.frozen? ⟨g,o + i,none⟩ = false := by
   obtain ⟨lo,hi'⟩ := fz
   simp only [World.frozen?,hg,Bool.and_eq_false_iff,decide_eq_false_iff_not]
   simp only at hfz
   omega
  have hst : (store ((⟨g,o,none⟩ : Addr).add i) v).run P w = .ok () (w.setRow g (cur.setIfInBounds (o + i) v)) := by
   rw [hadd,run_store P w _ v _ (h1 v (by simp)),hcell]
   simp [hfro,setCell_eq_setRow w g (o + i) cur t fz v hg]
  have ih := zbG P g o t fz rest (i + 1) (cur.setIfInBounds (o + i) v) (w.setRow g (cur.setIfInBounds (o + i) v)) (setRow_heap w g cur _ t _ hg) (by rw [Array.size_setIfInBounds];omega) (by simp at hl ⊢;omega) (fun x hx => h1 x (by simp [hx]))
  simp only [storeCells,Sem.run_bind,hst,Result.andThen_ok,ih,setRow_setRow]
  congr 3
  have e := list_seg_step cur.toList (o + i) v rest (by simp at hl ⊢;omega)
  simpa [Array.toList_setIfInBounds,Nat.add_assoc] using e
theorem zd0 {P : Program} {w : World} (base : Nat) (t u ty e : TypeId) (i : TypeInfo) (ht : P.underlying t = some (.slice e)) (hu : P.underlying u = some .string) (hi : P.info? e = some i) (hz : i.zero = some (.int .u8 0))
  (hsize : i.size = 1) (hby : i.bytes = 1) (v : Value) (l : Bs) (hown : zar w base e v l) (s : ByteArray) (hbytes : l.length + s.size ≤ 140737488355328) (hbase : base ≤ w.heap.size) :
  ∃ v' w',(Builtin.append_ #[t,u] ty #[v,.string s]).run P w = .ok v' w' ∧ zar w' base e v' (l ++ ofB s) ∧ Below base w w' := by
 obtain ⟨g,cap,cur,fz,rfl,hbg,hg,hfz,hnc,hcm,hcs,htake⟩ := hown
 have hsmall : l.length + s.size ≤ maxLen := by unfold maxLen;omega
 have hlen : (l ++ ofB s).length = l.length + s.size := by rw [List.length_append,zaa]
 have hcells : Lib.byteCells (l ++ ofB s) = Lib.byteCells l ++ Lib.strCells s := by rw [Lib.strCells_eq];simp [Lib.byteCells,ofB]
 have hcl : (Lib.byteCells l ++ Lib.strCells s).length = l.length + s.size := by rw [List.length_append,Lib.byteCells_length,Lib.strCells_length]
 by_cases hroom : l.length + s.size ≤ cap
 ·have hf := Lib.run_firstCells_string (P := P) w 1 s
  have hst := zbG P g l.length e fz (Lib.strCells s) 0 cur w hg (by omega) (by rw [Lib.strCells_length];omega) (Lib.strCells_oneCell s)
  simp only [Nat.add_zero,Lib.strCells_length] at hst
  refine ⟨.slice (some ⟨g,0,none⟩) (l.length + s.size) cap,w.setRow g (cur.toList.take l.length ++ Lib.strCells s ++ cur.toList.drop (l.length + s.size)).toArray,?_,?_,?_⟩
  ·simp [Builtin.append_,run_underlying ht,run_underlying hu,sizeOf,typeInfo,hi,hsize,Builtin.lenOf,hroom,hf,Addr.add_lit,hst]
  ·refine ⟨g,cap,_,fz,by rw [hlen],hbg,setRow_heap w g cur _ e _ hg,by rw [hlen];omega,by rw [hlen];exact hroom,hcm,?_,?_⟩
   ·simp only [List.size_toArray,List.length_append,List.length_take,List.length_drop,Array.length_toList,Lib.strCells_length]
    omega
   ·rw [htake,hlen,hcells,← hcl]
    exact List.take_left
  ·exact ⟨rfl,rfl,rfl,by simp,fun k hk => setRow_other w g k _ (by omega)⟩
 ·have holds : ∀ j u,(Lib.byteCells l)[j]? = some u → w.cell? ((⟨g,0,none⟩ : Addr).add j) = some u := by
   intro j u hu
   rw [← htake,List.getElem?_take] at hu
   split at hu
   ·rw [zcF]
    simp [World.cell?,hg]
    simpa using hu
   ·cases hu
  have hr := Lib.run_append_grow_string (P := P) w t u ty e i (.int .u8 0) ht hu hi hz ⟨g,0,none⟩ l.length cap (Lib.byteCells l) (by rw [hsize,Lib.byteCells_length];omega) holds s (by omega) (by omega) (by rw [hby];exact growslice_fits (by omega) (by omega))
  have hge := grownCap_ge w (l.length + s.size) cap e
  have hcm2 : grownCap w (l.length + s.size) cap e ≤ maxLen := grownCap_le_maxLen w (l.length + s.size) cap e hsmall
  refine ⟨_,_,hr,⟨w.heap.size,_,_,(0,0),by rw [hlen],hbase,heap_alloc_new w.drew _,.inl (Nat.zero_le _),by rw [hlen];exact hge,hcm2,?_,?_⟩,⟨rfl,rfl,rfl,by simp,fun k hk => Lib.alloc_old w.drew _ k (Nat.lt_of_lt_of_le hk hbase)⟩⟩
  ·have hz1 : (Value.int IntKind.u8 0).cells.size = 1 := rfl
   simp only [Array.size_append,List.size_toArray,size_zeroCells,hz1,Lib.byteCells_length,Lib.strCells_length]
   omega
  ·simp only [Array.toList_append,List.append_assoc]
   rw [← List.append_assoc,hlen,hcells,← hcl]
   exact List.take_left
theorem zd6 {P : Program} {w w0 : World} {ops : Array Oper} {rest : List Oper} {o : Oper} {a : Act} {Q : Exit → Act → World → Prop} (hgd : o.guard = none) (sl x : Operand) (t u : TypeId)
  (ho : o.op = .call { callee := .builtin .append,args := #[sl,x],argTypes := #[t,u] })
  (base : Nat) (e : TypeId) (ht : P.underlying t = some (.slice e)) (hu : P.underlying u = some .string) (hinfo : (P.info? e).map (fun i => (i.zero,i.size,i.bytes)) = some (some (.int .u8 0),1,1))
  (v : Value) (l : Bs) (hs : a.eval sl = v) (hown : zar w base e v l) (s : ByteArray) (hx : a.eval x = .string s) (HB : Below base w0 w) (hbytes : l.length + s.size ≤ 140737488355328) (hbase : base ≤ w.heap.size)
  (h : ∀ v' w',zar w' base e v' (l ++ ofB s) → Below base w0 w' → wpList P ops Q rest (a.put o.dst v') w') : wpList P ops Q (o :: rest) a w := by
 obtain ⟨i0,hi,hzz⟩ := Option.map_eq_some_iff.1 hinfo
 simp only [Prod.mk.injEq] at hzz
 obtain ⟨hz0,hz1,hz2⟩ := hzz
 refine wpList_plain hgd fun K hK => ?_
 obtain ⟨v',w',hr,h2,h3⟩ := zd0 (P := P) base t u o.type e i0 ht hu hi hz0 hz1 hz2 v l hown s hbytes hbase
 unfold Oper.wp execOp
 simp only [ho,resolve,invoke,builtin,Sem.run_bind,Sem.run_pure,Result.andThen_ok,List.map_toArray,List.map_cons,List.map_nil,hs,hx,hr]
 exact hK _ _ (h v' w' h2 (HB.trans h3))
theorem zar.string {P : Program} {w : World} {base : Nat} {e src : TypeId} {v : Value} {l : Bs} (hown : zar w base e v l) (hs : P.underlying src = some (.slice e)) (he : P.underlying e = some (.int .u8)) :
  ∀ dst,P.underlying dst = some .string → (convert src dst v).run P w = .ok (.string (toB l)) w := by
 obtain ⟨g,cap,cur,fz,rfl,hbg,hg,hfz,hnc,hcm,hcs,htake⟩ := hown
 intro dst hd
 have h := run_convert_bytes_arg (P := P) w src e hs he g 0 l.length cap (l.map fun b => (b.toNat : Int)) (by simp) (fun i hi => by
  have h1 : (Lib.byteCells l)[i]? = some (.int .u8 ((l.map fun b => (b.toNat : Int)).getD i 0)) := by
   simp [Lib.byteCells,List.getElem?_eq_getElem hi]
  rw [← htake,List.getElem?_take,if_pos hi] at h1
  rw [Nat.zero_add]
  simp [World.cell?,hg]
  simpa using h1) dst hd
 rw [h]
 congr 3
 rw [zbm,List.map_map]
 congr 1
 rw [List.map_congr_left (g := id) (fun b _ => by simp),List.map_id]
end Go.Proofs.Ytcncoepijagadaa.Px