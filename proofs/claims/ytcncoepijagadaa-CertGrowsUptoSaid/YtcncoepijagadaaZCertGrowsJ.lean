/- Part 10 of 24 of the proof of the law CertGrows: what is proved is the statement at the end of the last part; its conditions are those of the given row. -/
import Derived.ScopeJumps
import Derived.WalkMore
import Derived.Lib.Builder
import Derived.Lib.UnsafeStr
import Derived.Lib.Strings
import Derived.Lib.Slices
import Derived.Lib.Walk
import Derived.RegionTactic
import Derived.ChangeAlike
import Derived.Test.YtcncoepijagadaaZCertGrowsE
namespace Go.Proofs.Ytcncoepijagadaa.Px
open Go.RowKit Go.Proofs.YtcncoepijagadaaW.PrintWords Go.Proofs.YtcncoepijagadaaW.PrintLast Go.Proofs.YtcncoepijagadaaW.PrintMore
attribute [local go_sem] zp zr zy zz zl zm zq zs
set_option linter.unusedVariables false
set_option linter.unusedSimpArgs false
def beL (v : Nat) : List Int := if v = 0 then [] else beL (v / 256) ++ [((v % 256 : Nat) : Int)]
termination_by v
decreasing_by omega
theorem zeS : beL 0 = [] := by rw [beL];simp
theorem zfV {v : Nat} (h : 0 < v) : beL v = beL (v / 256) ++ [((v % 256 : Nat) : Int)] := by rw [beL,if_neg (by omega)]
theorem beL_be (v : Nat) : (beL v).map (fun n => UInt8.ofNat n.toNat) = be v := by
 induction v using Nat.strongRecOn with
 | _ v ih =>
  rcases Nat.eq_zero_or_pos v with h | h
  ·subst h;rw [zeS,zdU];rfl
  ·rw [zfV h,zfW h,List.map_append,ih _ (by omega)];rfl
theorem zgx (v : Nat) : zaZ v = strOfNums (((beL v).length : Int) :: beL v) := (ze3 v _ (beL_be v)).symm
def zfJ : Value → Int | .int _ q => q | _ => 0
def zhz (cs : Array Value) (p : Nat) (L : List Int) : Prop := cs.size = 9 ∧ p + L.length = 9 ∧ ∀ i,i < L.length → cs[p + i]? = some (.int .u8 (L.getD i 0))
theorem zhz.cell {cs : Array Value} {p : Nat} {L : List Int} (h : zhz cs p L) (i : Nat) (hi : i < 9) : ∃ v,cs[i]? = some v :=
 ⟨cs[i]'(by rw [h.1];exact hi),Array.getElem?_eq_getElem _⟩
theorem zhz.set {cs : Array Value} {q : Nat} {L : List Int} (h : zhz cs (q + 1) L) (x : Int) : zhz (cs.setIfInBounds q (.int .u8 x)) q (x :: L) := by
 refine ⟨by simp [h.1],by have := h.2.1;simp only [List.length_cons];omega,fun i hi => ?_⟩
 rcases i with _ | i
 ·rw [Nat.add_zero,Array.getElem?_setIfInBounds_self_of_lt (by rw [h.1];have := h.2.1;omega)];rfl
 ·have h2 := h.2.2 i (by simpa using hi)
  rw [Array.getElem?_setIfInBounds_ne (by omega),← Nat.add_assoc,Nat.add_right_comm,h2];simp
theorem zir {v q : Nat} (h : v < 256 ^ (q + 1)) : v / 256 < 256 ^ q := by
 rw [Nat.pow_succ] at h
 exact Nat.div_lt_of_lt_mul (by rw [Nat.mul_comm];exact h)
set_option maxHeartbeats 1000000 in
set_option maxRecDepth 100000 in
theorem z4.walk (a0 : Nat) (w : World) (h1 : a0 < 18446744073709551616) :
  Calls Try.prog 53 #[.int .u64 a0] w fun e w' => e = .returned (.string (zaZ a0)) ∧ Below w.heap.size w w' := by
 go_enter Try.func53,Try.ntmps53
 go_wp2
 refine wp_scope_jumps 0 (fun a' w' => ∃ (v p n : Nat) (L : List Int) (cs : Array Value) (u6 u7 u8 u9 u10 u11 u12 u13 u14 u15 u16 u17 : Value),
   zhz cs p L ∧ v < 256 ^ (p - 1) ∧ 1 ≤ p ∧ L.length = n ∧ beL a0 = beL v ++ L ∧
   w' = w.alloc (.cells cs 95) ∧
   a' = { tmps := #[.int .u64 v,undef,.string ⟨#[]⟩,.pointer (some ⟨w.heap.size,0,none⟩),.int .i64 p,.int .u8 n,u6,u7,u8,u9,u10,u11,u12,u13,u14,u15,u16,u17,undef,undef,undef,undef,undef,undef,undef,undef],defers := [] })
   (fun a' _ => (zfJ (a'.tmps.getD 4 undef)).toNat) rfl ?_ ?_
 ·rcases Nat.eq_zero_or_pos a0 with h0 | h0
  ·subst h0
   have hcv := fun W => run_convert_bytes_arg (P := Try.prog) (w.alloc W) 71 5 Try.underlying71 Try.underlying5 w.heap.size 8 1 1 [0] rfl
   go_wp2
   go_step3
   go_wp2
   simp only [Exit.jump]
   go_ret
   exact ⟨by rw [zgx,zeS];rfl,(Below.refl _ _).alloc (Nat.le_refl _) _⟩
  ·go_wp2
   go_step3
   go_wp2
   go_step3
   refine ⟨rfl,a0 / 256,8,1,[(a0 % 256 : Nat)],_,_,_,_,_,_,_,_,_,_,_,_,_,?_,?_,?_,rfl,zfV h0,rfl,rfl⟩
   ·refine ⟨rfl,rfl,fun i hi => ?_⟩
    obtain rfl : i = 0 := by simpa using hi
    rfl
   ·have : (256:Nat) ^ (8 - 1) = 72057594037927936 := by decide
    omega
   ·omega
 ·rintro a' w' ⟨v,p,n,L,cs,u6,u7,u8,u9,u10,u11,u12,u13,u14,u15,u16,u17,hN,hv,hp,hn,hb,rfl,rfl⟩
  obtain ⟨q,rfl⟩ : ∃ q,p = q + 1 := ⟨p - 1,by omega⟩
  have hq : q < 9 := by have := hN.2.1;omega
  have hnq : n + q = 8 := by have := hN.2.1;omega
  have hnn : n ≤ 8 := by omega
  have hvb : v < 18446744073709551616 := by
   have : 256 ^ (q + 1 - 1) ≤ 256 ^ 8 := Nat.pow_le_pow_right (by omega) (by omega)
   have : (256:Nat) ^ 8 = 18446744073709551616 := by decide
   omega
  obtain ⟨v0,hc⟩ := hN.cell q hq
  have HN := za.mk hN
  have HB := za.mk hb
  have HV := za.mk hv
  have HL := za.mk hn
  have HQ := za.mk hnq
  clear hN hb hv hn hnq h1
  rcases Nat.eq_zero_or_pos v with h0 | h0
  ·subst h0
   have hq9 : q ≤ 9 := by omega
   have hsl : ∀ W : World,(Instr.sliceAt 95 (.pointer (some ⟨w.heap.size,0,none⟩)) (some (.int .i64 (q : Int))) none none).run Try.prog W = .ok (.slice (some ⟨w.heap.size,q,none⟩) (9 - q) (9 - q)) W := by
    intro W
    rw [run_sliceAt_array_l W 95 _ (by kernel_rfl) .i64 q (by omega) (by show (q : Int) ≤ 9;omega)]
    have e1 : (sizeOf (Try.prog.elem 95)).run Try.prog W = .ok 1 W := by kernel_rfl
    have e2 : Try.prog.arrayLen 95 = 9 := by kernel_rfl
    rw [e1,e2]
    simp only [Result.andThen,slicedAt,Int.toNat_natCast,Nat.mul_one]
    rw [if_neg (by omega),zcF]
   have hS := HN.out.set n
   have hcv := run_convert_bytes_arg (P := Try.prog) (w.alloc (.cells (cs.setIfInBounds q (.int .u8 (n : Int))) 95)) 71 5 Try.underlying71 Try.underlying5 w.heap.size q (9 - q) (9 - q) ((n : Int) :: L) (by rw [List.length_cons,HL.out];have := HQ.out;omega)
    (fun i hi => by
     have h2 := hS.2.2 i (by have := hS.2.1;omega)
     rw [World.cell?_alloc_new];exact h2) 9 Try.underlying9
   clear hS
   go_wp2
   simp only [Exit.jump]
   go_ret
   exact ⟨by rw [zgx,HB.out,zeS,List.nil_append,HL.out];rfl,(Below.refl _ _).alloc (Nat.le_refl _) _⟩
  ·obtain ⟨q',rfl⟩ : ∃ q',q = q' + 1 := ⟨q - 1,by
    rcases Nat.eq_zero_or_pos q with hz | hz
    ·have := HV.out;subst hz;simp at this;omega
    ·omega⟩
   go_wp2
   go_step3
   refine ⟨rfl,⟨v / 256,q' + 1,n + 1,((v % 256 : Nat) : Int) :: L,_,_,_,_,_,_,_,_,_,_,_,_,_,HN.out.set _,zir HV.out,by omega,by rw [List.length_cons,HL.out],?_,rfl,rfl⟩,?_⟩
   ·rw [HB.out,zfV h0];simp
   ·simp [zfJ];omega
def z4.f (a0 : Int) : Option (ByteArray) := if 0 ≤ a0 then (if a0 < 18446744073709551616 then (some (zaZ a0.toNat)) else (none)) else (none)
theorem z4.calls (a0 : Int) (r : ByteArray) (w : World) (h : z4.f a0 = some r) :
  Calls Try.prog 53 #[.int .u64 a0] w fun e w' => e = .returned (.string r) ∧ Below w.heap.size w w' := by
 unfold z4.f at h
 split at h
 ·rename_i h0
  split at h
  ·rename_i h1
   obtain ⟨n,rfl⟩ := Int.eq_ofNat_of_zero_le h0
   obtain rfl := Option.some.inj h
   rw [Int.toNat_natCast]
   exact z4.walk n w (by omega)
  ·cases h
 ·cases h
def zbJ.f (a0 : ByteArray) : Option (ByteArray) := if a0.size ≤ 1152921504606846976 then (some (zdE a0)) else (none)
theorem zbJ.calls (a0 : ByteArray) (r : ByteArray) (w : World) (h : zbJ.f a0 = some r) :
  Calls Try.prog 74 #[.string a0] w fun e w' => e = .returned (.string r) ∧ Below w.heap.size w w' := by
 unfold zbJ.f at h
 split at h
 ·rename_i h0
  obtain rfl := Option.some.inj h
  clear h
  have hn : (zaZ a0.size).size ≤ 9 := zaE (by omega)
  have hn2 : (zaZ a0.size).size + a0.size ≤ 9223372036854775807 := by omega
  have HN := za.mk (show z4.f (a0.size : Int) = some (zaZ a0.size) by unfold z4.f;rw [if_pos (by omega),if_pos (by omega),Int.toNat_natCast])
  go_enter Try.func74,Try.ntmps74
  go_wp2_with (go_at_call 53;(with_reducible refine (z4.calls _ _ _ HN.out).mono ?_);rintro e w1 ⟨rfl,hb⟩)
  go_ret
  exact ⟨rfl,by assumption⟩
 ·cases h
def zh.l0 : Nat → Int → ByteArray → Option (ByteArray)
 | 0,_,_ => none
 | k + 1,x0,x3 => if x0 > 0 then ((some (([(Int.tmod x0 256) % 256] : List Int) : List Int)).bind fun y170 => (if (strOfNums y170).size + x3.size ≤ 9223372036854775807 then (zh.l0 k (IntKind.u64.wrap (Int.tdiv x0 256)) ((strOfNums y170) ++ x3)) else (none))) else ((some (([((x3.size : Int)) % 256] : List Int) : List Int)).bind fun y173 => (if (strOfNums y173).size + x3.size ≤ 9223372036854775807 then (some ((strOfNums y173) ++ x3)) else (none)))
def zh.f (k : Nat) (a0 : Int) : Option (ByteArray) := zh.l0 k a0 (⟨#[]⟩ : ByteArray)
set_option maxHeartbeats 8000000 in
set_option maxRecDepth 100000 in
theorem zh.calls (k : Nat) (a0 : Int) (r : ByteArray) (w : World) (h : zh.f k a0 = some r) :
  Calls Try.prog 35 #[.int .u64 a0] w fun e w' => e = .returned (.string r) ∧ Below w.heap.size w w' := by
 have HB := za.mk (Below.refl w.heap.size w)
 have H : (zh.l0 k a0 (⟨#[]⟩ : ByteArray)) = some r := h
 clear h
 have H' := za.mk H
 clear H
 go_enter Try.func35,Try.ntmps35
 go_wp2
 go_loopg [0,3] k (fun kq v0 v3 w' => ∃ (x0_1 : Int) (x3_1 : ByteArray),v0 = .int .u64 x0_1 ∧ v3 = .string x3_1 ∧ za (zh.l0 kq x0_1 x3_1 = some r) ∧ za (kq ≤ k) ∧ za (Below w.heap.size w w'))
 case atStart => exact ⟨(a0),((⟨#[]⟩ : ByteArray)),(hDq),(hDq),H',⟨Nat.le_refl _⟩,⟨by repeat (first | (with_reducible first | exact HB.out | apply zw | apply zg | apply zn) | exact HB.out)⟩⟩
 case round =>
  clear H'
  obtain ⟨x0_1,x3_1,rfl,rfl,HA,HK1,HB⟩ := hrel
  cases gk with
  | zero => exact absurd HA.out (by simp [zh.l0])
  | succ k1 =>
   have H := HA.out
   clear HA
   simp only [zh.l0] at H
   by_cases c2 : x0_1 > 0
   ·rw [if_pos c2] at H
    have c2b0 : decide (0 < x0_1) = true := decide_eq_true c2
    clear c2
    obtain ⟨y170,hy170⟩ : ∃ y_ : List Int,y_ = (([(Int.tmod x0_1 256) % 256] : List Int)) := ⟨_,rfl⟩
    replace H : (if (strOfNums y170).size + x3_1.size ≤ 9223372036854775807 then (zh.l0 k1 (IntKind.u64.wrap (Int.tdiv x0_1 256)) ((strOfNums y170) ++ x3_1)) else (none)) = some r := by first | (rw [hy170];with_reducible exact H) | (have H2_ := (Option.bind_some _ _).symm.trans H;rw [hy170];with_reducible exact H2_) | (have H2_ := (Option.bind_some _ _).symm.trans H;with_reducible exact H2_) | with_reducible exact H | (rw [hy170];exact H) | exact H
    have Ny170 := za.mk hy170
    clear hy170
    by_cases c3 : (strOfNums y170).size + x3_1.size ≤ 9223372036854775807
    ·rw [if_pos c3] at H
     have c3b0 := eq_true c3
     have c3b1 : decide ((strOfNums y170).size + x3_1.size ≤ 9223372036854775807) = true := decide_eq_true c3
     try have c3b2 : (9223372036854775807 < (strOfNums y170).size + x3_1.size) = False := eq_false (Nat.not_lt.2 c3)
     have H' := za.mk H
     clear H
     go_wp2_with (first | ((with_reducible refine zo (N := 9) rfl ?_);refine Kd.R_lit (Kd.int .u8) _ 5 ?hg (N := 9) ?hd (xs := ([(Int.tmod x0_1 256) % 256] : List Int)) (inner := [.int .u8 ((Int.tmod x0_1 256) % 256)]) (ok := fun _ => True) (okp := fun _ => True) ?hr ?hp (fun _ hk => hk) trivial (Below.refl _ _) (Nat.le_refl _) (by simp) ?_;(case hd => rfl);(case hg => rfl);(case hr => first | (go_simp;done) | (go_simp;rfl));(case hp => exact (zah.one (show Kd.M (Kd.int .u8) _ _ _ ((Int.tmod x0_1 256) % 256) [.int .u8 ((Int.tmod x0_1 256) % 256)] from rfl) (zah.none _ _)));intro v171 w4 ho5 hb hg_ hnew_;clear hg_ hnew_;(first | rw [← Ny170.out] at ho5 | (simp only [Int.reduceToNat] at ho5;rw [← Ny170.out] at ho5));have n_ := haq (Kd.R_lower ho5 (zf hBq)) <| haq (zd hBq hb) <| trivial;clear HB;obtain ⟨HO172,HB,_⟩ := n_;clear hb ho5;have hcv6 := zcW (P := Try.prog) Try.underlying71 Try.underlying5 Try.underlying9 (Kd.own_of_R HO172.out)))
     go_roundg k1
     case measure => have := HK1.out;omega
     case rel => exact ⟨(IntKind.u64.wrap (Int.tdiv x0_1 256)),((strOfNums y170) ++ x3_1),(hDq),(hDq),H',⟨by have := HK1.out;omega⟩,⟨by repeat (first | (with_reducible first | exact HB.out | apply zw | apply zg | apply zn) | exact HB.out)⟩⟩
    ·rw [if_neg c3] at H
     exact absurd H (by simp)
   ·rw [if_neg c2] at H
    have c2b0 : decide (0 < x0_1) = false := decide_eq_false c2
    clear c2
    obtain ⟨y173,hy173⟩ : ∃ y_ : List Int,y_ = (([((x3_1.size : Int)) % 256] : List Int)) := ⟨_,rfl⟩
    replace H : (if (strOfNums y173).size + x3_1.size ≤ 9223372036854775807 then (some ((strOfNums y173) ++ x3_1)) else (none)) = some r := by first | (rw [hy173];with_reducible exact H) | (have H2_ := (Option.bind_some _ _).symm.trans H;rw [hy173];with_reducible exact H2_) | (have H2_ := (Option.bind_some _ _).symm.trans H;with_reducible exact H2_) | with_reducible exact H | (rw [hy173];exact H) | exact H
    have Ny173 := za.mk hy173
    clear hy173
    by_cases c7 : (strOfNums y173).size + x3_1.size ≤ 9223372036854775807
    ·rw [if_pos c7] at H
     have c7b0 := eq_true c7
     have c7b1 : decide ((strOfNums y173).size + x3_1.size ≤ 9223372036854775807) = true := decide_eq_true c7
     try have c7b2 : (9223372036854775807 < (strOfNums y173).size + x3_1.size) = False := eq_false (Nat.not_lt.2 c7)
     obtain rfl := Option.some.inj H
     go_wp2_with (first | ((with_reducible refine zo (N := 18) rfl ?_);refine Kd.R_lit (Kd.int .u8) _ 5 ?hg (N := 18) ?hd (xs := ([((x3_1.size : Int)) % 256] : List Int)) (inner := [.int .u8 (((x3_1.size : Int)) % 256)]) (ok := fun _ => True) (okp := fun _ => True) ?hr ?hp (fun _ hk => hk) trivial (Below.refl _ _) (Nat.le_refl _) (by simp) ?_;(case hd => rfl);(case hg => rfl);(case hr => first | (go_simp;done) | (go_simp;rfl));(case hp => exact (zah.one (show Kd.M (Kd.int .u8) _ _ _ (((x3_1.size : Int)) % 256) [.int .u8 (((x3_1.size : Int)) % 256)] from rfl) (zah.none _ _)));intro v174 w8 ho9 hb hg_ hnew_;clear hg_ hnew_;(first | rw [← Ny173.out] at ho9 | (simp only [Int.reduceToNat] at ho9;rw [← Ny173.out] at ho9));have n_ := haq (Kd.R_lower ho9 (zf hBq)) <| haq (zd hBq hb) <| trivial;clear HB;obtain ⟨HO175,HB,_⟩ := n_;clear hb ho9;have hcv10 := zcW (P := Try.prog) Try.underlying71 Try.underlying5 Try.underlying9 (Kd.own_of_R HO175.out)))
     go_ret
     exact ⟨hHq,hBq⟩
    ·rw [if_neg c7] at H
     exact absurd H (by simp)
theorem zfe (acc : Bs) (hl : acc.length ≤ 200) : Ev (fun k => zh.l0 k ((0 : Nat) : Int) (toB acc)) (toB (UInt8.ofNat acc.length :: acc)) := by
 refine Ev.step (fun k => by rw [zh.l0]) ?_
 refine zO (by simp) ?_
 simp only [Option.bind_some,zbm,List.map_cons,List.map_nil,zac,List.length_cons,List.length_nil]
 refine zF (by omega) ?_
 have e : ((acc.length : Int) % 256).toNat = acc.length := by omega
 rw [e]
 exact zat (Ev.now _) (by rw [← zaK];rfl)
theorem zgC (n : Nat) : ∀ (v : Nat) (acc : Bs),v < 256 ^ n → n + acc.length ≤ 200 → v < 18446744073709551616 →
  Ev (fun k => zh.l0 k (v : Int) (toB acc)) (toB (UInt8.ofNat (be v ++ acc).length :: (be v ++ acc))) := by
 induction n with
 | zero =>
  intro v acc hv hl _
  obtain rfl : v = 0 := by simpa using hv
  rw [zdU,List.nil_append]
  exact zfe acc (by omega)
 | succ n ih =>
  intro v acc hv hl hm
  rcases Nat.eq_zero_or_pos v with h | h
  ·subst h
   rw [zdU,List.nil_append]
   exact zfe acc (by omega)
  ·refine Ev.step (fun k => by rw [zh.l0]) ?_
   refine zF (by omega) ?_
   simp only [Option.bind_some,zbm,List.map_cons,List.map_nil,zac,List.length_cons,List.length_nil]
   refine zF (by omega) ?_
   have e1 : IntKind.u64.wrap (Int.tdiv (v : Int) 256) = ((v / 256 : Nat) : Int) := by
    rw [Int.tdiv_eq_ediv_of_nonneg (by omega),zbb (by omega) (by omega)];omega
   have e2 : (Int.tmod (v : Int) 256 % 256).toNat = v % 256 := by
    rw [Int.tmod_eq_emod_of_nonneg (by omega)];omega
   rw [e1,e2]
   have := ih (v / 256) ([UInt8.ofNat (v % 256)] ++ acc) (by rw [Nat.pow_succ] at hv;omega) (by simp;omega) (by omega)
   rw [zfW h,List.append_assoc]
   rw [zaK [UInt8.ofNat (v % 256)] acc] at this
   exact this
theorem zeg (v : Nat) (hv : v < 18446744073709551616) : Ev (fun k => zh.f k (v : Int)) (zaZ v) := by
 have e8 : (256 : Nat) ^ 8 = 18446744073709551616 := by decide
 have h := zgC 8 v [] (by omega) (by simp) hv
 rw [List.append_nil] at h
 exact h
def zaJ.f (a0 : ByteArray) : Option (ByteArray) := if a0.size ≤ 1152921504606846976 then (some (zdE a0)) else (none)
theorem zaJ.calls (a0 : ByteArray) (r : ByteArray) (w : World) (h : zaJ.f a0 = some r) :
  Calls Try.prog 66 #[.string a0] w fun e w' => e = .returned (.string r) ∧ Below w.heap.size w w' := by
 unfold zaJ.f at h
 split at h
 ·rename_i h0
  obtain rfl := Option.some.inj h
  clear h
  have hn : (zaZ a0.size).size ≤ 9 := zaE (by omega)
  have hn2 : (zaZ a0.size).size + a0.size ≤ 9223372036854775807 := by omega
  obtain ⟨k,hk⟩ := (zeg a0.size (by omega)).rounds
  have HN := za.mk hk
  clear hk
  go_enter Try.func66,Try.ntmps66
  go_wp2_with (go_at_call 35;(with_reducible refine (zh.calls _ _ _ _ HN.out).mono ?_);rintro e w1 ⟨rfl,hb⟩)
  go_ret
  exact ⟨rfl,by assumption⟩
 ·cases h
theorem zcz (v : Nat) (hv : v < 18446744073709551616) : z4.f (v : Int) = some (zaZ v) := by
 unfold z4.f
 rw [if_pos (by omega),if_pos (by omega),Int.toNat_natCast]
theorem zeW (t : ByteArray) (h : t.size ≤ 1152921504606846976) : zbJ.f t = some (zdE t) := by unfold zbJ.f;rw [if_pos h]
theorem zc7 (t : ByteArray) (h : t.size ≤ 1152921504606846976) : zaJ.f t = some (zdE t) := by unfold zaJ.f;rw [if_pos h]
theorem zh0 : (Try.prog.info? 5).map (fun i => (i.zero,i.size,i.bytes)) = some (some (.int .u8 0),1,1) := by kernel_rfl
theorem zfF : (Try.prog.info? 98).map (·.size) = some 2 := by kernel_rfl
theorem ziM : liesAt Try.prog Try.prog.depth 98 (2 / Try.prog.cellsOf 98) 0 98 1 = true := by kernel_rfl
abbrev zdA (B b : Nat) (l : Bs) (w : World) : Prop := Lib.IsBuilder 98 5 B b (Lib.byteCells l) w
theorem zdA.below {B b : Nat} {l : Bs} {w w' : World} (h : zdA B b l w) (hb : Below w.heap.size w w') : zdA B b l w' := by
 have key : ∀ p,Lib.BuilderAt 98 5 B b p (Lib.byteCells l) w → Lib.BuilderAt 98 5 B b p (Lib.byteCells l) w' := by
  rintro p ⟨hB,v,hk,hown,hne⟩
  have hlt : b < w.heap.size := Lib.BuilderAt.lt ⟨hB,v,hk,hown,hne⟩
  exact ⟨hB,v,(hb.block b hlt).trans hk,zbS hown hb,hne⟩
 exact h.imp (key _) (key _)
set_option maxHeartbeats 1000000 in
set_option maxRecDepth 100000 in
theorem zeV (b : Nat) (w : World) (h0 : w.cell? ⟨b,0,none⟩ = some (.pointer (some ⟨b,0,none⟩))) :
  Calls Try.prog 80 #[.pointer (some ⟨b,0,none⟩)] w fun e w' => e = .returned (.tuple #[]) ∧ w = w' := by
 obtain ⟨j,hj,_⟩ := Option.map_eq_some_iff.1 zfF
 go_enter Try.func80,Try.ntmps80
 go_wp2
 rw [Lib.run_neq_ptr_same w _ Try.underlying96 hj]
 go_wp2
 go_end0
 exact ⟨rfl,rfl⟩
set_option maxHeartbeats 1000000 in
set_option maxRecDepth 100000 in
theorem zey (b : Nat) (w : World) (h0 : w.cell? ⟨b,0,none⟩ = some (.pointer none)) (hsh : w.shape? b = some (98,2)) (hfz : w.frozen? ⟨b,0,none⟩ = false) :
  Calls Try.prog 80 #[.pointer (some ⟨b,0,none⟩)] w fun e w' => e = .returned (.tuple #[]) ∧ w.setCell ⟨b,0,none⟩ (.pointer (some ⟨b,0,none⟩)) = w' := by
 obtain ⟨j,hj,hjs⟩ := Option.map_eq_some_iff.1 zfF
 go_enter Try.func80,Try.ntmps80
 go_wp2
 rw [Lib.run_to_unsafe w ⟨b,0,none⟩ Try.underlying96 Try.underlying112 hj (by rw [hjs];decide) hsh (Nat.zero_lt_succ 1)]
 simp only [Result.andThen]
 rw [Oper.upon_value]
 go_wp2
 rw [run_callFunc_extern Try.func86 (by kernel_rfl) (by kernel_rfl) (by kernel_rfl) (e := Extern.AbiNoEscape.same) (by kernel_rfl)]
 rw [Lib.run_noEscape]
 simp only [Result.andThen]
 rw [Oper.upon_value]
 go_wp2
 rw [Lib.run_from_unsafe w ⟨b,0,none⟩ Try.underlying112 Try.underlying96 hj hsh ziM]
 simp only [Result.andThen]
 rw [Oper.upon_value]
 go_wp2
 go_end0
 exact ⟨rfl,rfl⟩
theorem zfs (B b : Nat) (bs : List Value) (w : World) (h : Lib.IsBuilder 98 5 B b bs w) :
  Calls Try.prog 80 #[.pointer (some ⟨b,0,none⟩)] w fun e w' => e = .returned (.tuple #[]) ∧ (Lib.BuilderAt 98 5 B b (.pointer (some ⟨b,0,none⟩)) bs w' ∧ Below B w w') := by
 rcases h with h | h
 ·refine (zey b w h.cell0 h.shape h.frozen0).mono ?_
  rintro e w' ⟨rfl,rfl⟩
  exact ⟨rfl,h.used _,(Below.refl B w).setCell (p := ⟨b,0,none⟩) h.1 _⟩
 ·refine (zeV b w h.cell0).mono ?_
  rintro e w' ⟨rfl,rfl⟩
  exact ⟨rfl,h,Below.refl B _⟩
set_option maxHeartbeats 2000000 in
set_option maxRecDepth 100000 in
theorem zc5 (B b : Nat) (l : Bs) (s : ByteArray) (w : World) (h : zdA B b l w) (hlen : l.length + s.size ≤ 140737488355328) (hBw : B ≤ w.heap.size) :
  Calls Try.prog 73 #[.pointer (some ⟨b,0,none⟩),.string s] w fun e w' => e = .returned (.tuple #[.int .i64 s.size,.nilIface]) ∧ zdA B b (l ++ ofB s) w' ∧ Below B w w' := by
 obtain ⟨i0,hi,hz0,hz1,hz2⟩ := info_parts zh0
 have hlc : (Lib.byteCells l).length = l.length := Lib.byteCells_length l
 go_enter Try.func73,Try.ntmps73
 go_wp2_with (go_at_call 80;refine (zfs B b _ _ h).mono ?_)
 rintro e w1 ⟨rfl,h1,hb1⟩
 obtain ⟨hB,v,hbk,hown,hne⟩ := h1
 have c0 : w1.cell? ⟨b,0,none⟩ = some (.pointer (some ⟨b,0,none⟩)) := by rw [Lib.cell_of_heap hbk];rfl
 have c1 : w1.cell? ⟨b,1,none⟩ = some v := by rw [Lib.cell_of_heap hbk];rfl
 go_wp2_with (at_builtin;refine Lib.wpList_append_own_string _ rfl _ _ 71 9 rfl B 5 i0 Try.underlying71 Try.underlying9 hi hz0 hz1 hz2 _ _ _ rfl hown s rfl ?c3 ?c4 ?c5 ?_)
 case c3 => unfold maxLen;omega
 case c4 => omega
 case c5 => have := hb1.size;omega
 intro v' w2 hown' hgrow _
 have hlt : b < w1.heap.size := by
  rcases Nat.lt_or_ge b w1.heap.size with h' | h'
  ·exact h'
  ·simp [Array.getElem?_eq_none h'] at hbk
 have hb2 : w2.heap[b]? = some (.cells #[.pointer (some ⟨b,0,none⟩),v] 98 (0,0)) := by
  rw [hgrow.block b hlt (fun e => hne e.symm)]
  exact hbk
 have d0 : w2.cell? ⟨b,0,none⟩ = some (.pointer (some ⟨b,0,none⟩)) := by rw [Lib.cell_of_heap hb2];rfl
 have d1 : w2.cell? ⟨b,1,none⟩ = some v := by rw [Lib.cell_of_heap hb2];rfl
 have f1 : w2.frozen? ⟨b,1,none⟩ = false := Lib.frozen_of_heap hb2 1
 obtain ⟨ao,n',cap,rfl⟩ : ∃ ao n' cap,v' = .slice ao n' cap := by
  rcases hown'.2 with ⟨hv,_⟩ | ⟨g,cap,cur,hv,_⟩
  ·exact ⟨_,_,_,hv⟩
  ·exact ⟨_,_,_,hv⟩
 go_wp2
 go_ret2
 refine ⟨rfl,.inr ?_,?_⟩
 ·have e1 : Lib.byteCells l ++ Lib.strCells s = Lib.byteCells (l ++ ofB s) := by rw [Lib.strCells_eq];simp [Lib.byteCells,ofB]
  rw [e1] at hown'
  refine Lib.BuilderAt.put (T := 98) (e := 5) hB hb2 (bs' := Lib.byteCells (l ++ ofB s)) ?_ (by decide)
  rw [Lib.byteCells_length,List.length_append,zaa]
  exact hown'
 ·exact (hb1.grown hgrow (by have := hb1.size;omega) (fun k hk => (hown.lt k hk).1)).setCell (p := ⟨b,1,none⟩) hB _
set_option maxHeartbeats 1000000 in
set_option maxRecDepth 100000 in
theorem zfr (B b : Nat) (l : Bs) (w : World) (h : zdA B b l w) (h0 : l ≠ []) :
  Calls Try.prog 75 #[.pointer (some ⟨b,0,none⟩)] w fun e w' => e = .returned (.string (toB l)) ∧ Below B w w' := by
 obtain ⟨p,hB,v,hbk,hown,hne⟩ : ∃ p,Lib.BuilderAt 98 5 B b p (Lib.byteCells l) w := by
  rcases h with h | h
  ·exact ⟨_,h⟩
  ·exact ⟨_,h⟩
 have hl0 : l.length ≠ 0 := by simpa using h0
 rw [Lib.byteCells_length] at hown
 obtain ⟨g,cap,cur,rfl,hbg,hg,hnc,hcm,hcs,htake⟩ : ∃ g cap cur,v = .slice (some ⟨g,0,none⟩) l.length cap ∧ B ≤ g ∧ w.heap[g]? = some (.cells cur 5 (0,0)) ∧ l.length ≤ cap ∧ cap ≤ maxLen ∧ cur.size = cap * 1 ∧ cur.toList.take (l.length * 1) = Lib.byteCells l := by
  rcases hown.2 with ⟨_,hz⟩ | ⟨g,cap,cur,hv,r⟩
  ·exact absurd hz hl0
  ·exact ⟨g,cap,cur,hv,r⟩
 have c1 : w.drew.cell? ⟨b,1,none⟩ = some (.slice (some ⟨g,0,none⟩) l.length cap) := by
  have : w.drew.heap[b]? = some (.cells #[p,.slice (some ⟨g,0,none⟩) l.length cap] 98 (0,0)) := hbk
  rw [Lib.cell_of_heap this];rfl
 have hSD : (Builtin.unsafeSliceData_ #[71] 107 #[.slice (some ⟨g,0,none⟩) l.length cap]).run Try.prog w.drew = .ok (.pointer (some ⟨g,0,none⟩)) w.drew :=
  Lib.run_unsafeSliceData_row _ _ _ _ _ _ (by omega)
 have hUS : (Builtin.unsafeString_ #[107,3] 9 #[.pointer (some ⟨g,0,none⟩),.int .i64 l.length]).run Try.prog w.drew = .ok (.string ⟨l.toArray⟩) (w.drew.freeze ⟨g,0,none⟩ l.length) := by
  refine Lib.run_unsafeString_row w.drew 107 3 9 5 Try.underlying107 (by kernel_rfl) g cur.size (by have hg' : w.drew.heap[g]? = some (.cells cur 5 (0,0)) := hg;simp [World.shape?,hg']) l h0 (by omega) (by unfold maxLen at hcm;omega) ?_
  intro j x hx
  have := hown.cells (g := g) rfl j (.int .u8 x.toNat) (by simp [Lib.byteCells,hx])
  exact this
 go_enter Try.func75,Try.ntmps75
 go_wp2
 go_region
 all_goals (go_wp2;go_ret;exact ⟨rfl,Lib.below_freeze (Below.drew (Below.refl B w)) (p := ⟨g,0,none⟩) hbg _⟩)
def za5 (l : List ByteArray) : Bs := l.flatMap (fun t => zfk (ofB t))
def zbB (l : List ByteArray) : Bs := zcA l.length ++ za5 l
theorem zdQ (l : List ByteArray) (k : Nat) (t : ByteArray) (h : l[k]? = some t) : za5 (l.take (k + 1)) = za5 (l.take k) ++ ofB (zdE t) := by
 have hk := (List.getElem?_eq_some_iff.1 h)
 obtain ⟨hk,rfl⟩ := hk
 rw [List.take_succ_eq_append_getElem hk,za5,za5,List.flatMap_append,ziC,zcw]
 simp
theorem zcC (l : List ByteArray) (k : Nat) : (za5 (l.take k)).length ≤ (za5 l).length := by
 have : za5 l = za5 (l.take k) ++ za5 (l.drop k) := by rw [za5,za5,za5,← List.flatMap_append,List.take_append_drop]
 rw [this,List.length_append];omega
theorem zgE (l : List ByteArray) : l.length ≤ (za5 l).length := by
 induction l with
 | nil => simp
 | cons t l ih =>
  have : za5 (t :: l) = zfk (ofB t) ++ za5 l := rfl
  rw [this,List.length_append,List.length_cons,zfk,zcA]
  simp only [List.length_cons,List.length_append]
  omega
theorem zdZ (l : List ByteArray) (k : Nat) (t : ByteArray) (h : l[k]? = some t) : t.size ≤ (za5 l).length := by
 have h1 := zdQ l k t h
 have h2 := zcC l (k + 1)
 rw [h1,List.length_append,zaa,zdE,ByteArray.size_append] at h2
 omega
def zJ.Bld (B : Nat) (l : List ByteArray) (k : Nat) (w0 wr : World) : Prop := zdA B w0.heap.size (zcA l.length ++ za5 (l.take k)) wr ∧ Below w0.heap.size w0 wr
theorem zJ.walk (A : Option Addr) (c : Nat) (l : List ByteArray) (w : World) (hr : Kd.C Kd.string w A l.length l) (hc : l.length ≤ c) (hs : (zbB l).length ≤ 140737488355328) :
  Calls Try.prog 54 #[.slice A l.length c] w fun e w' => e = .returned (.string (toB (zbB l))) ∧ Below w.heap.size w w' := by
 have hm := hr.2.1
 have hll := zgE l
 have hsum : (zbB l).length = (zcA l.length).length + (za5 l).length := by rw [zbB,List.length_append]
 have hlen : l.length ≤ 140737488355328 := by omega
 have HN := za.mk (zcz l.length (by omega))
 have HR := za.mk hr
 have HF : za (zdA w.heap.size w.heap.size [] (w.alloc (.cells #[.pointer none,.slice none 0 0] 98))) := ⟨Lib.fresh_isBuilder 98 5 w⟩
 have HS := za.mk hs
 have HU := za.mk hsum
 clear hr hs hll hsum
 go_enter Try.func54,Try.ntmps54
 go_wp2_with (go_at_call 53;(with_reducible refine (z4.calls _ _ _ HN.out).mono ?_);rintro e w1 ⟨rfl,hb1⟩)
 have hB1 := zdA.below HF.out hb1
 have hw1 : Below w.heap.size w w1 := zd ((Below.refl _ _).alloc (Nat.le_refl _) _) hb1
 have hsz1 := hw1.size
 clear hb1
 refine (zc5 w.heap.size w.heap.size [] (zaZ l.length) w1 hB1 (by have := zaE (v := l.length) (by omega);simp;omega) hsz1).mono ?_
 rintro e w2 ⟨rfl,hB2,hw2⟩
 have HL : za (zJ.Bld w.heap.size l 0 w w2) := ⟨by rw [zaZ,zcw,List.nil_append] at hB2;rw [List.take_zero,show za5 [] = [] from rfl,List.append_nil];exact hB2,hw1.trans hw2⟩
 clear hB1 hB2 hw1 hw2 hsz1
 go_wp2_with fail
 go_loopw [5,13] (fun _ v13 wr => ∃ k : Nat,v13 = .int .i64 k ∧ k ≤ l.length ∧ za (zJ.Bld w.heap.size l k w wr)) (fun _ v13 _ => l.length - (match v13 with | .int _ q => q | _ => 0).toNat)
 case atStart => exact ⟨0,rfl,Nat.zero_le _,HL⟩
 case round =>
  obtain ⟨k,rfl,hk,HK⟩ := hrel
  by_cases hlt : k < l.length
  ·obtain ⟨ad,rfl,hcell⟩ := Kd.at_string (Kd.C_below HR.out HK.out.2) (k : Int) (by omega) (by omega)
   rw [Int.toNat_natCast] at hcell
   have hb : decide (k < l.length) = true := decide_eq_true hlt
   have hx : l[k]? = some (zu ByteArray.empty l (k : Int)) := by
    rw [zu,Int.toNat_natCast,List.getD_eq_getElem?_getD,List.getElem?_eq_getElem hlt];rfl
   have HX := za.mk hx
   clear hx
   generalize zu ByteArray.empty l (k : Int) = s at *
   have hs := zdZ l k s HX.out
   have HT := za.mk (zeW s (by have := HS.out;have := HU.out;omega))
   have h2 := zdQ l k s HX.out
   have h3 := zcC l (k + 1)
   rw [h2,List.length_append,zaa] at h3
   have H2 := za.mk h2
   have H3 : za ((zcA l.length ++ za5 (l.take k)).length + (zdE s).size ≤ 140737488355328) := ⟨by rw [List.length_append];have := HS.out;have := HU.out;omega⟩
   clear h2 h3 hs
   go_wp2_with (go_at_call 74;(with_reducible refine (zbJ.calls _ _ _ HT.out).mono ?_);rintro e w3 ⟨rfl,hb3⟩)
   refine (zc5 w.heap.size w.heap.size _ (zdE s) w3 (zdA.below HK.out.1 hb3) H3.out (Nat.le_trans HK.out.2.size hb3.size)).mono ?_
   rintro e w4 ⟨rfl,hB4,hw4⟩
   have HL4 : za (zJ.Bld w.heap.size l (k + 1) w w4) := ⟨by rw [H2.out,← List.append_assoc];exact hB4,(zd HK.out.2 hb3).trans hw4⟩
   clear hB4 hw4 hb3
   go_wp2
   go_roundw
   case rel => exact ⟨k + 1,by go_num,by omega,HL4⟩
   case measure => simp;omega
  ·obtain rfl : k = l.length := by omega
   have HE : za (zcA l.length ++ za5 (l.take l.length) = zbB l) := ⟨by rw [List.take_of_length_le (Nat.le_refl _)];rfl⟩
   go_wp2_with (go_at_call 75;refine (zfr w.heap.size w.heap.size _ _ HK.out.1 (by simp [zcA])).mono ?_;rintro e w3 ⟨rfl,hb3⟩)
   go_ret
   exact ⟨rfl,HK.out.2.trans hb3⟩
def zJ.f (l0 : List ByteArray) : Option (ByteArray) := if (zbB l0).length ≤ 140737488355328 then (some (toB (zbB l0))) else (none)
theorem zJ.calls (A0 : Option Addr) (c0 : Nat) (l0 : List ByteArray) (r : ByteArray) (w : World) (hr0 : Kd.C Kd.string w A0 l0.length l0) (hc0 : l0.length ≤ c0) (h : zJ.f l0 = some r) :
  Calls Try.prog 54 #[.slice A0 l0.length c0] w fun e w' => e = .returned (.string r) ∧ Below w.heap.size w w' := by
 unfold zJ.f at h
 split at h
 ·rename_i hs
  obtain rfl := Option.some.inj h
  exact zJ.walk A0 c0 l0 w hr0 hc0 hs
 ·cases h
end Go.Proofs.Ytcncoepijagadaa.Px