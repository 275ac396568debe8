/- Part 9 of 33 of the proof of the law DagAsks: what is proved is the statement at the end of the last part; its conditions are those of the given row. -/
import Derived.ScopeJumps
import Derived.WalkMore
import Derived.Test.YtklhjlaofkngcaaZDagAsksG
namespace Go.Proofs.Ytklhjlaofkngcaa.Px
open Go.RowKit Go.Proofs.YtklhjlaofkngcaaW.PrintWords Go.Proofs.YtklhjlaofkngcaaW.PrintLast Go.Proofs.YtklhjlaofkngcaaW.PrintMore
attribute [local go_sem] zF zH zM zN zB zC zG zI
set_option linter.unusedVariables false
set_option linter.unusedSimpArgs false
def zw.l0 : Nat → Int → ByteArray → Option (ByteArray)
 | 0,_,_ => none
 | k + 1,x0,x3 => if x0 > 0 then ((some (([(Int.tmod x0 256) % 256] : List Int) : List Int)).bind fun y218 => (if (strOfNums y218).size + x3.size ≤ 9223372036854775807 then (zw.l0 k (IntKind.u64.wrap (Int.tdiv x0 256)) ((strOfNums y218) ++ x3)) else (none))) else ((some (([((x3.size : Int)) % 256] : List Int) : List Int)).bind fun y221 => (if (strOfNums y221).size + x3.size ≤ 9223372036854775807 then (some ((strOfNums y221) ++ x3)) else (none)))
def zw.f (k : Nat) (a0 : Int) : Option (ByteArray) := zw.l0 k a0 (⟨#[]⟩ : ByteArray)
set_option maxHeartbeats 8000000 in
set_option maxRecDepth 100000 in
theorem zw.calls (k : Nat) (a0 : Int) (r : ByteArray) (w : World) (h : zw.f k a0 = some r) :
  Calls Try.prog 63 #[.int .u64 a0] w fun e w' => e = .returned (.string r) ∧ Below w.heap.size w w' := by
 have HB := za.mk (Below.refl w.heap.size w)
 have H : (zw.l0 k a0 (⟨#[]⟩ : ByteArray)) = some r := h
 clear h
 have H' := za.mk H
 clear H
 go_enter Try.func63,Try.ntmps63
 go_wp2
 go_loopg [0,3] k (fun kq v0 v3 w' => ∃ (x0_1 : Int) (x3_1 : ByteArray),v0 = .int .u64 x0_1 ∧ v3 = .string x3_1 ∧ za (zw.l0 kq x0_1 x3_1 = some r) ∧ za (kq ≤ k) ∧ za (Below w.heap.size w w'))
 case atStart => exact ⟨(a0),((⟨#[]⟩ : ByteArray)),(hDq),(hDq),H',⟨Nat.le_refl _⟩,⟨by repeat (first | (with_reducible first | exact HB.out | apply zl | apply zi | apply zq) | exact HB.out)⟩⟩
 case round =>
  clear H'
  obtain ⟨x0_1,x3_1,rfl,rfl,HA,HK1,HB⟩ := hrel
  cases gk with
  | zero => exact absurd HA.out (by simp [zw.l0])
  | succ k1 =>
   have H := HA.out
   clear HA
   simp only [zw.l0] at H
   by_cases c2 : x0_1 > 0
   ·rw [if_pos c2] at H
    have c2b0 : decide (0 < x0_1) = true := decide_eq_true c2
    clear c2
    obtain ⟨y218,hy218⟩ : ∃ y_ : List Int,y_ = (([(Int.tmod x0_1 256) % 256] : List Int)) := ⟨_,rfl⟩
    replace H : (if (strOfNums y218).size + x3_1.size ≤ 9223372036854775807 then (zw.l0 k1 (IntKind.u64.wrap (Int.tdiv x0_1 256)) ((strOfNums y218) ++ x3_1)) else (none)) = some r := by first | (rw [hy218];with_reducible exact H) | (have H2_ := (Option.bind_some _ _).symm.trans H;rw [hy218];with_reducible exact H2_) | (have H2_ := (Option.bind_some _ _).symm.trans H;with_reducible exact H2_) | with_reducible exact H | (rw [hy218];exact H) | exact H
    have Ny218 := za.mk hy218
    clear hy218
    by_cases c3 : (strOfNums y218).size + x3_1.size ≤ 9223372036854775807
    ·rw [if_pos c3] at H
     have c3b0 := eq_true c3
     have c3b1 : decide ((strOfNums y218).size + x3_1.size ≤ 9223372036854775807) = true := decide_eq_true c3
     try have c3b2 : (9223372036854775807 < (strOfNums y218).size + x3_1.size) = False := eq_false (Nat.not_lt.2 c3)
     have H' := za.mk H
     clear H
     go_wp2_with (first | ((with_reducible refine zu (N := 9) rfl ?_);refine Kd.R_lit (Kd.int .u8) _ 5 ?hg (N := 9) ?hd (xs := ([(Int.tmod x0_1 256) % 256] : List Int)) (inner := [.int .u8 ((Int.tmod x0_1 256) % 256)]) (ok := fun _ => True) (okp := fun _ => True) ?hr ?hp (fun _ hk => hk) trivial (Below.refl _ _) (Nat.le_refl _) (by simp) ?_;(case hd => rfl);(case hg => rfl);(case hr => first | (go_simp;done) | (go_simp;rfl));(case hp => exact (zaD.one (show Kd.M (Kd.int .u8) _ _ _ ((Int.tmod x0_1 256) % 256) [.int .u8 ((Int.tmod x0_1 256) % 256)] from rfl) (zaD.none _ _)));intro v219 w4 ho5 hb hg_ hnew_;clear hg_ hnew_;(first | rw [← Ny218.out] at ho5 | (simp only [Int.reduceToNat] at ho5;rw [← Ny218.out] at ho5));have n_ := haq (Kd.R_lower ho5 (zg hBq)) <| haq (ze hBq hb) <| trivial;clear HB;obtain ⟨HO220,HB,_⟩ := n_;clear hb ho5;have hcv6 := zdr (P := Try.prog) Try.underlying91 Try.underlying5 Try.underlying9 (Kd.own_of_R HO220.out)))
     go_roundg k1
     case measure => have := HK1.out;omega
     case rel => exact ⟨(IntKind.u64.wrap (Int.tdiv x0_1 256)),((strOfNums y218) ++ x3_1),(hDq),(hDq),H',⟨by have := HK1.out;omega⟩,⟨by repeat (first | (with_reducible first | exact HB.out | apply zl | apply zi | apply zq) | exact HB.out)⟩⟩
    ·rw [if_neg c3] at H
     exact absurd H (by simp)
   ·rw [if_neg c2] at H
    have c2b0 : decide (0 < x0_1) = false := decide_eq_false c2
    clear c2
    obtain ⟨y221,hy221⟩ : ∃ y_ : List Int,y_ = (([((x3_1.size : Int)) % 256] : List Int)) := ⟨_,rfl⟩
    replace H : (if (strOfNums y221).size + x3_1.size ≤ 9223372036854775807 then (some ((strOfNums y221) ++ x3_1)) else (none)) = some r := by first | (rw [hy221];with_reducible exact H) | (have H2_ := (Option.bind_some _ _).symm.trans H;rw [hy221];with_reducible exact H2_) | (have H2_ := (Option.bind_some _ _).symm.trans H;with_reducible exact H2_) | with_reducible exact H | (rw [hy221];exact H) | exact H
    have Ny221 := za.mk hy221
    clear hy221
    by_cases c7 : (strOfNums y221).size + x3_1.size ≤ 9223372036854775807
    ·rw [if_pos c7] at H
     have c7b0 := eq_true c7
     have c7b1 : decide ((strOfNums y221).size + x3_1.size ≤ 9223372036854775807) = true := decide_eq_true c7
     try have c7b2 : (9223372036854775807 < (strOfNums y221).size + x3_1.size) = False := eq_false (Nat.not_lt.2 c7)
     obtain rfl := Option.some.inj H
     go_wp2_with (first | ((with_reducible refine zu (N := 18) rfl ?_);refine Kd.R_lit (Kd.int .u8) _ 5 ?hg (N := 18) ?hd (xs := ([((x3_1.size : Int)) % 256] : List Int)) (inner := [.int .u8 (((x3_1.size : Int)) % 256)]) (ok := fun _ => True) (okp := fun _ => True) ?hr ?hp (fun _ hk => hk) trivial (Below.refl _ _) (Nat.le_refl _) (by simp) ?_;(case hd => rfl);(case hg => rfl);(case hr => first | (go_simp;done) | (go_simp;rfl));(case hp => exact (zaD.one (show Kd.M (Kd.int .u8) _ _ _ (((x3_1.size : Int)) % 256) [.int .u8 (((x3_1.size : Int)) % 256)] from rfl) (zaD.none _ _)));intro v222 w8 ho9 hb hg_ hnew_;clear hg_ hnew_;(first | rw [← Ny221.out] at ho9 | (simp only [Int.reduceToNat] at ho9;rw [← Ny221.out] at ho9));have n_ := haq (Kd.R_lower ho9 (zg hBq)) <| haq (ze hBq hb) <| trivial;clear HB;obtain ⟨HO223,HB,_⟩ := n_;clear hb ho9;have hcv10 := zdr (P := Try.prog) Try.underlying91 Try.underlying5 Try.underlying9 (Kd.own_of_R HO223.out)))
     go_ret
     exact ⟨hHq,hBq⟩
    ·rw [if_neg c7] at H
     exact absurd H (by simp)
theorem zfM (acc : Bs) (hl : acc.length ≤ 200) : Ev (fun k => zw.l0 k ((0 : Nat) : Int) (toB acc)) (toB (UInt8.ofNat acc.length :: acc)) := by
 refine Ev.step (fun k => by rw [zw.l0]) ?_
 refine zU (by simp) ?_
 simp only [Option.bind_some,zbK,List.map_cons,List.map_nil,zax,List.length_cons,List.length_nil]
 refine zJ (by omega) ?_
 have e : ((acc.length : Int) % 256).toNat = acc.length := by omega
 rw [e]
 exact z9 (Ev.now _) (by rw [← zbc];rfl)
theorem zhg (n : Nat) : ∀ (v : Nat) (acc : Bs),v < 256 ^ n → n + acc.length ≤ 200 → v < 18446744073709551616 →
  Ev (fun k => zw.l0 k (v : Int) (toB acc)) (toB (UInt8.ofNat (be v ++ acc).length :: (be v ++ acc))) := by
 induction n with
 | zero =>
  intro v acc hv hl _
  obtain rfl : v = 0 := by simpa using hv
  rw [zei,List.nil_append]
  exact zfM acc (by omega)
 | succ n ih =>
  intro v acc hv hl hm
  rcases Nat.eq_zero_or_pos v with h | h
  ·subst h
   rw [zei,List.nil_append]
   exact zfM acc (by omega)
  ·refine Ev.step (fun k => by rw [zw.l0]) ?_
   refine zJ (by omega) ?_
   simp only [Option.bind_some,zbK,List.map_cons,List.map_nil,zax,List.length_cons,List.length_nil]
   refine zJ (by omega) ?_
   have e1 : IntKind.u64.wrap (Int.tdiv (v : Int) 256) = ((v / 256 : Nat) : Int) := by
    rw [Int.tdiv_eq_ediv_of_nonneg (by omega),zbR (by omega) (by omega)];omega
   have e2 : (Int.tmod (v : Int) 256 % 256).toNat = v % 256 := by
    rw [Int.tmod_eq_emod_of_nonneg (by omega)];omega
   rw [e1,e2]
   have := ih (v / 256) ([UInt8.ofNat (v % 256)] ++ acc) (by rw [Nat.pow_succ] at hv;omega) (by simp;omega) (by omega)
   rw [zgv h,List.append_assoc]
   rw [zbc [UInt8.ofNat (v % 256)] acc] at this
   exact this
theorem zeK (v : Nat) (hv : v < 18446744073709551616) : Ev (fun k => zw.f k (v : Int)) (zbl v) := by
 have e8 : (256 : Nat) ^ 8 = 18446744073709551616 := by decide
 have h := zhg 8 v [] (by omega) (by simp) hv
 rw [List.append_nil] at h
 exact h
def zba.f (a0 : ByteArray) : Option (ByteArray) := if a0.size ≤ 1152921504606846976 then (some (zd4 a0)) else (none)
theorem zba.calls (a0 : ByteArray) (r : ByteArray) (w : World) (h : zba.f a0 = some r) :
  Calls Try.prog 85 #[.string a0] w fun e w' => e = .returned (.string r) ∧ Below w.heap.size w w' := by
 unfold zba.f at h
 split at h
 ·rename_i h0
  obtain rfl := Option.some.inj h
  clear h
  have hn : (zbl a0.size).size ≤ 9 := za9 (by omega)
  have hn2 : (zbl a0.size).size + a0.size ≤ 9223372036854775807 := by omega
  obtain ⟨k,hk⟩ := (zeK a0.size (by omega)).rounds
  have HN := za.mk hk
  clear hk
  go_enter Try.func85,Try.ntmps85
  go_wp2_with (go_at_call 63;(with_reducible refine (zw.calls _ _ _ _ HN.out).mono ?_);rintro e w1 ⟨rfl,hb⟩)
  go_ret
  exact ⟨rfl,by assumption⟩
 ·cases h
def beL (v : Nat) : List Int := if v = 0 then [] else beL (v / 256) ++ [((v % 256 : Nat) : Int)]
termination_by v
decreasing_by omega
theorem zfs : beL 0 = [] := by rw [beL];simp
theorem zgu {v : Nat} (h : 0 < v) : beL v = beL (v / 256) ++ [((v % 256 : Nat) : Int)] := by rw [beL,if_neg (by omega)]
theorem beL_be (v : Nat) : (beL v).map (fun n => UInt8.ofNat n.toNat) = be v := by
 induction v using Nat.strongRecOn with
 | _ v ih =>
  rcases Nat.eq_zero_or_pos v with h | h
  ·subst h;rw [zfs,zei];rfl
  ·rw [zgu h,zgv h,List.map_append,ih _ (by omega)];rfl
theorem zg8 (v : Nat) : zbl v = strOfNums (((beL v).length : Int) :: beL v) := (zfB v _ (beL_be v)).symm
def zgi : Value → Int | .int _ q => q | _ => 0
def zil (cs : Array Value) (p : Nat) (L : List Int) : Prop := cs.size = 9 ∧ p + L.length = 9 ∧ ∀ i,i < L.length → cs[p + i]? = some (.int .u8 (L.getD i 0))
theorem zil.cell {cs : Array Value} {p : Nat} {L : List Int} (h : zil cs p L) (i : Nat) (hi : i < 9) : ∃ v,cs[i]? = some v :=
 ⟨cs[i]'(by rw [h.1];exact hi),Array.getElem?_eq_getElem _⟩
theorem zil.set {cs : Array Value} {q : Nat} {L : List Int} (h : zil cs (q + 1) L) (x : Int) : zil (cs.setIfInBounds q (.int .u8 x)) q (x :: L) := by
 refine ⟨by simp [h.1],by have := h.2.1;simp only [List.length_cons];omega,fun i hi => ?_⟩
 rcases i with _ | i
 ·rw [Nat.add_zero,Array.getElem?_setIfInBounds_self_of_lt (by rw [h.1];have := h.2.1;omega)];rfl
 ·have h2 := h.2.2 i (by simpa using hi)
  rw [Array.getElem?_setIfInBounds_ne (by omega),← Nat.add_assoc,Nat.add_right_comm,h2];simp
theorem pow_step {v q : Nat} (h : v < 256 ^ (q + 1)) : v / 256 < 256 ^ q := by
 rw [Nat.pow_succ] at h
 exact Nat.div_lt_of_lt_mul (by rw [Nat.mul_comm];exact h)
set_option maxHeartbeats 1000000 in
set_option maxRecDepth 100000 in
theorem zar.walk (a0 : Nat) (w : World) (h1 : a0 < 18446744073709551616) :
  Calls Try.prog 55 #[.int .u64 a0] w fun e w' => e = .returned (.string (zbl a0)) ∧ Below w.heap.size w w' := by
 go_enter Try.func55,Try.ntmps55
 go_wp2
 refine wp_scope_jumps 0 (fun a' w' => ∃ (v p n : Nat) (L : List Int) (cs : Array Value) (u6 u7 u8 u9 u10 u11 u12 u13 u14 u15 u16 u17 : Value),
   zil cs p L ∧ v < 256 ^ (p - 1) ∧ 1 ≤ p ∧ L.length = n ∧ beL a0 = beL v ++ L ∧
   w' = w.alloc (.cells cs 99) ∧
   a' = { tmps := #[.int .u64 v,undef,.string ⟨#[]⟩,.pointer (some ⟨w.heap.size,0,none⟩),.int .i64 p,.int .u8 n,u6,u7,u8,u9,u10,u11,u12,u13,u14,u15,u16,u17,undef,undef,undef,undef,undef,undef,undef,undef],defers := [] })
   (fun a' _ => (zgi (a'.tmps.getD 4 undef)).toNat) rfl ?_ ?_
 ·rcases Nat.eq_zero_or_pos a0 with h0 | h0
  ·subst h0
   have hcv := fun W => run_convert_bytes_arg (P := Try.prog) (w.alloc W) 91 5 Try.underlying91 Try.underlying5 w.heap.size 8 1 1 [0] rfl
   go_wp2
   go_step3
   go_wp2
   simp only [Exit.jump]
   go_ret
   exact ⟨by rw [zg8,zfs];rfl,(Below.refl _ _).alloc (Nat.le_refl _) _⟩
  ·go_wp2
   go_step3
   go_wp2
   go_step3
   refine ⟨rfl,a0 / 256,8,1,[(a0 % 256 : Nat)],_,_,_,_,_,_,_,_,_,_,_,_,_,?_,?_,?_,rfl,zgu h0,rfl,rfl⟩
   ·refine ⟨rfl,rfl,fun i hi => ?_⟩
    obtain rfl : i = 0 := by simpa using hi
    rfl
   ·have : (256:Nat) ^ (8 - 1) = 72057594037927936 := by decide
    omega
   ·omega
 ·rintro a' w' ⟨v,p,n,L,cs,u6,u7,u8,u9,u10,u11,u12,u13,u14,u15,u16,u17,hN,hv,hp,hn,hb,rfl,rfl⟩
  obtain ⟨q,rfl⟩ : ∃ q,p = q + 1 := ⟨p - 1,by omega⟩
  have hq : q < 9 := by have := hN.2.1;omega
  have hnq : n + q = 8 := by have := hN.2.1;omega
  have hnn : n ≤ 8 := by omega
  have hvb : v < 18446744073709551616 := by
   have : 256 ^ (q + 1 - 1) ≤ 256 ^ 8 := Nat.pow_le_pow_right (by omega) (by omega)
   have : (256:Nat) ^ 8 = 18446744073709551616 := by decide
   omega
  obtain ⟨v0,hc⟩ := hN.cell q hq
  have HN := za.mk hN
  have HB := za.mk hb
  have HV := za.mk hv
  have HL := za.mk hn
  have HQ := za.mk hnq
  clear hN hb hv hn hnq h1
  rcases Nat.eq_zero_or_pos v with h0 | h0
  ·subst h0
   have hq9 : q ≤ 9 := by omega
   have hsl : ∀ W : World,(Instr.sliceAt 99 (.pointer (some ⟨w.heap.size,0,none⟩)) (some (.int .i64 (q : Int))) none none).run Try.prog W = .ok (.slice (some ⟨w.heap.size,q,none⟩) (9 - q) (9 - q)) W := by
    intro W
    rw [run_sliceAt_array_l W 99 _ (by kernel_rfl) .i64 q (by omega) (by show (q : Int) ≤ 9;omega)]
    have e1 : (sizeOf (Try.prog.elem 99)).run Try.prog W = .ok 1 W := by kernel_rfl
    have e2 : Try.prog.arrayLen 99 = 9 := by kernel_rfl
    rw [e1,e2]
    simp only [Result.andThen,slicedAt,Int.toNat_natCast,Nat.mul_one]
    rw [if_neg (by omega),zbB]
   have hS := HN.out.set n
   have hcv := run_convert_bytes_arg (P := Try.prog) (w.alloc (.cells (cs.setIfInBounds q (.int .u8 (n : Int))) 99)) 91 5 Try.underlying91 Try.underlying5 w.heap.size q (9 - q) (9 - q) ((n : Int) :: L) (by rw [List.length_cons,HL.out];have := HQ.out;omega)
    (fun i hi => by
     have h2 := hS.2.2 i (by have := hS.2.1;omega)
     rw [World.cell?_alloc_new];exact h2) 9 Try.underlying9
   clear hS
   go_wp2
   simp only [Exit.jump]
   go_ret
   exact ⟨by rw [zg8,HB.out,zfs,List.nil_append,HL.out];rfl,(Below.refl _ _).alloc (Nat.le_refl _) _⟩
  ·obtain ⟨q',rfl⟩ : ∃ q',q = q' + 1 := ⟨q - 1,by
    rcases Nat.eq_zero_or_pos q with hz | hz
    ·have := HV.out;subst hz;simp at this;omega
    ·omega⟩
   go_wp2
   go_step3
   refine ⟨rfl,⟨v / 256,q' + 1,n + 1,((v % 256 : Nat) : Int) :: L,_,_,_,_,_,_,_,_,_,_,_,_,_,HN.out.set _,pow_step HV.out,by omega,by rw [List.length_cons,HL.out],?_,rfl,rfl⟩,?_⟩
   ·rw [HB.out,zgu h0];simp
   ·simp [zgi];omega
def zar.f (a0 : Int) : Option (ByteArray) := if 0 ≤ a0 then (if a0 < 18446744073709551616 then (some (zbl a0.toNat)) else (none)) else (none)
theorem zar.calls (a0 : Int) (r : ByteArray) (w : World) (h : zar.f a0 = some r) :
  Calls Try.prog 55 #[.int .u64 a0] w fun e w' => e = .returned (.string r) ∧ Below w.heap.size w w' := by
 unfold zar.f at h
 split at h
 ·rename_i h0
  split at h
  ·rename_i h1
   obtain ⟨n,rfl⟩ := Int.eq_ofNat_of_zero_le h0
   obtain rfl := Option.some.inj h
   rw [Int.toNat_natCast]
   exact zar.walk n w (by omega)
  ·cases h
 ·cases h
def zb9.f (a0 : ByteArray) : Option (ByteArray) := if a0.size ≤ 1152921504606846976 then (some (zd4 a0)) else (none)
theorem zb9.calls (a0 : ByteArray) (r : ByteArray) (w : World) (h : zb9.f a0 = some r) :
  Calls Try.prog 76 #[.string a0] w fun e w' => e = .returned (.string r) ∧ Below w.heap.size w w' := by
 unfold zb9.f at h
 split at h
 ·rename_i h0
  obtain rfl := Option.some.inj h
  clear h
  have hn : (zbl a0.size).size ≤ 9 := za9 (by omega)
  have hn2 : (zbl a0.size).size + a0.size ≤ 9223372036854775807 := by omega
  have HN := za.mk (show zar.f (a0.size : Int) = some (zbl a0.size) by unfold zar.f;rw [if_pos (by omega),if_pos (by omega),Int.toNat_natCast])
  go_enter Try.func76,Try.ntmps76
  go_wp2_with (go_at_call 55;(with_reducible refine (zar.calls _ _ _ HN.out).mono ?_);rintro e w1 ⟨rfl,hb⟩)
  go_ret
  exact ⟨rfl,by assumption⟩
 ·cases h
theorem zc2 (v : Nat) (hv : v < 18446744073709551616) : zar.f (v : Int) = some (zbl v) := by
 unfold zar.f
 rw [if_pos (by omega),if_pos (by omega),Int.toNat_natCast]
theorem zfv (t : ByteArray) (h : t.size ≤ 1152921504606846976) : zb9.f t = some (zd4 t) := by unfold zb9.f;rw [if_pos h]
theorem zdB (t : ByteArray) (h : t.size ≤ 1152921504606846976) : zba.f t = some (zd4 t) := by unfold zba.f;rw [if_pos h]
def zbr (l : List ByteArray) : Bs := l.flatMap (fun t => zfR (ofB t))
def zb6 (l : List ByteArray) : Bs := zc3 l.length ++ zbr l
theorem zed (l : List ByteArray) (k : Nat) (t : ByteArray) (h : l[k]? = some t) : zbr (l.take (k + 1)) = zbr (l.take k) ++ ofB (zd4 t) := by
 have hk := (List.getElem?_eq_some_iff.1 h)
 obtain ⟨hk,rfl⟩ := hk
 rw [List.take_succ_eq_append_getElem hk,zbr,zbr,List.flatMap_append,textB_eq,zcY]
 simp
theorem zc5 (l : List ByteArray) (k : Nat) : (zbr (l.take k)).length ≤ (zbr l).length := by
 have : zbr l = zbr (l.take k) ++ zbr (l.drop k) := by rw [zbr,zbr,zbr,← List.flatMap_append,List.take_append_drop]
 rw [this,List.length_append];omega
theorem zhi (l : List ByteArray) : l.length ≤ (zbr l).length := by
 induction l with
 | nil => simp
 | cons t l ih =>
  have : zbr (t :: l) = zfR (ofB t) ++ zbr l := rfl
  rw [this,List.length_append,List.length_cons,zfR,zc3]
  simp only [List.length_cons,List.length_append]
  omega
theorem zeo (l : List ByteArray) (k : Nat) (t : ByteArray) (h : l[k]? = some t) : t.size ≤ (zbr l).length := by
 have h1 := zed l k t h
 have h2 := zc5 l (k + 1)
 rw [h1,List.length_append,zau,zd4,ByteArray.size_append] at h2
 omega
theorem rrInfo5 : (Try.prog.info? 5).map (fun i => (i.zero,i.size,i.bytes)) = some (some (.int .u8 0),1,1) := by kernel_rfl
def zP.Rel (l : List ByteArray) (k : Nat) (w0 wr : World) (v : Value) : Prop := zaM wr w0.heap.size 5 v (zc3 l.length ++ zbr (l.take k)) ∧ Below w0.heap.size w0 wr
set_option maxRecDepth 100000 in
theorem zP.walk (A : Option Addr) (c : Nat) (l : List ByteArray) (w : World) (hr : Kd.C Kd.string w A l.length l) (hc : l.length ≤ c) (hs : (zb6 l).length ≤ 140737488355328) :
  Calls Try.prog 64 #[.slice A l.length c] w fun e w' => e = .returned (.string (toB (zb6 l))) ∧ Below w.heap.size w w' := by
 have hm := hr.2.1
 have hll := zhi l
 have hsum : (zb6 l).length = (zc3 l.length).length + (zbr l).length := by rw [zb6,List.length_append]
 have hlen : l.length ≤ 140737488355328 := by omega
 obtain ⟨k0,hk0⟩ := (zeK l.length (by omega)).rounds
 have HN := za.mk hk0
 have HR := za.mk hr
 have HS := za.mk hs
 have HU := za.mk hsum
 have kb := fun (W : World) (s : ByteArray) => Lib.run_convert_string_bytes (P := Try.prog) W 9 91 5 s Try.underlying9 Try.underlying91 Try.underlying5
 clear hr hs hll hsum hk0
 go_enter Try.func64,Try.ntmps64
 go_wp2_with (go_at_call 63;(with_reducible refine (zw.calls _ _ _ _ HN.out).mono ?_);rintro e w1 ⟨rfl,hb1⟩)
 have hw1 : Below w.heap.size w w1 := by assumption
 have HL : za (zP.Rel l 0 w (Lib.bytesWorld w1 5 (zbl l.length)) (.slice (some ⟨w1.heap.size,0,none⟩) (zbl l.length).size (grownCap w1 (zbl l.length).size 0 5))) := ⟨by
  have h := zaM.start w1 w.heap.size 5 (zbl l.length) hw1.size (by have := za9 (v := l.length) (by omega);unfold maxLen;omega)
  rw [List.take_zero,show zbr [] = [] from rfl,List.append_nil]
  rw [zbl,zcY] at h
  exact h,zeQ hw1 hw1.size 5 _⟩
 generalize Lib.bytesWorld w1 5 (zbl l.length) = wb at *
 generalize Value.slice (some ⟨w1.heap.size,0,none⟩) (zbl l.length).size (grownCap w1 (zbl l.length).size 0 5) = vb at *
 clear hw1
 go_loopw [3,4] (fun v3 v4 wr => ∃ k : Nat,v4 = .int .i64 k ∧ k ≤ l.length ∧ za (zP.Rel l k w wr v3)) (fun _ v4 _ => l.length - (match v4 with | .int _ q => q | _ => 0).toNat)
 case atStart => exact ⟨0,rfl,Nat.zero_le _,HL⟩
 case round =>
  obtain ⟨k,rfl,hk,HK⟩ := hrel
  by_cases hlt : k < l.length
  ·obtain ⟨ad,rfl,hcell⟩ := Kd.at_string (Kd.C_below HR.out HK.out.2) (k : Int) (by omega) (by omega)
   rw [Int.toNat_natCast] at hcell
   have hb : decide (k < l.length) = true := decide_eq_true hlt
   have hx : l[k]? = some (zE ByteArray.empty l (k : Int)) := by
    rw [zE,Int.toNat_natCast,List.getD_eq_getElem?_getD,List.getElem?_eq_getElem hlt];rfl
   have HX := za.mk hx
   clear hx
   generalize zE ByteArray.empty l (k : Int) = s at *
   have hs := zeo l k s HX.out
   have HT := za.mk (zdB s (by have := HS.out;have := HU.out;omega))
   have h2 := zed l k s HX.out
   have h3 := zc5 l (k + 1)
   rw [h2,List.length_append,zau] at h3
   have H2 := za.mk h2
   have H3 : za ((zc3 l.length ++ zbr (l.take k)).length + (zd4 s).size ≤ 140737488355328) := ⟨by rw [List.length_append];have := HS.out;have := HU.out;omega⟩
   clear h2 h3 hs
   go_wp2_with (first | (go_at_call 85;(with_reducible refine (zba.calls _ _ _ HT.out).mono ?_);rintro e w3 ⟨rfl,hb3⟩;have HO := za.mk (zaM.below HK.out.1 hb3);have HB := za.mk (ze HK.out.2 hb3);clear hb3) | (at_builtin;refine zeu rfl _ _ 91 9 rfl w.heap.size 5 Try.underlying91 Try.underlying9 rrInfo5 _ _ rfl HO.out _ rfl HB.out H3.out HB.out.size ?_;intro v5 w5 ho5 hb5;have HL5 : za (zP.Rel l (k + 1) w w5 v5) := ⟨by rw [H2.out,← List.append_assoc];exact ho5,hb5⟩;clear ho5 hb5))
   go_roundw
   case rel => exact ⟨k + 1,by go_num,by omega,HL5⟩
   case measure => simp;omega
  ·obtain rfl : k = l.length := by omega
   have hs2 := HK.out.1.string Try.underlying91 Try.underlying5 9 Try.underlying9
   rw [List.take_of_length_le (Nat.le_refl _)] at hs2
   go_wp2
   go_ret
   exact ⟨rfl,HK.out.2⟩
def zP.f (l0 : List ByteArray) : Option (ByteArray) := if (zb6 l0).length ≤ 140737488355328 then (some (toB (zb6 l0))) else (none)
theorem zP.calls (A0 : Option Addr) (c0 : Nat) (l0 : List ByteArray) (r : ByteArray) (w : World) (hr0 : Kd.C Kd.string w A0 l0.length l0) (hc0 : l0.length ≤ c0) (h : zP.f l0 = some r) :
  Calls Try.prog 64 #[.slice A0 l0.length c0] w fun e w' => e = .returned (.string r) ∧ Below w.heap.size w w' := by
 unfold zP.f at h
 split at h
 ·rename_i hs
  obtain rfl := Option.some.inj h
  exact zP.walk A0 c0 l0 w hr0 hc0 hs
 ·cases h
mutual
def zy.j0 : Nat → Bool → Int → Int → List ByteArray → Option (Bool)
 | 0,_,_,_,_ => none
 | k + 1,x33,x202000,x202001,x202002 => if x33 = true then (some false) else (zy.l0 k 0 x202000 x202001 x202002)
def zy.l0 : Nat → Int → Int → Int → List ByteArray → Option (Bool)
 | 0,_,_,_,_ => none
 | k + 1,x3,x202000,x202001,x202002 => if x3 < (x202002.length : Int) then (if 0 ≤ x3 then (if ((zE ByteArray.empty x202002 x3).size : Int) < 1 then (some false) else (if ((zE ByteArray.empty x202002 x3).size : Int) > 48 then (some false) else (zy.l0 k (wrap64 (x3 + 1)) x202000 x202001 x202002))) else (none)) else (some true)
end
def zy.f (k : Nat) (a0_0 : Int) (a0_1 : Int) (l0_2 : List ByteArray) : Option (Bool) := if a0_0 < 1 then (zy.j0 k true a0_0 a0_1 l0_2) else (if a0_0 > 64 then (zy.j0 k true a0_0 a0_1 l0_2) else (if a0_1 < 1 then (zy.j0 k true a0_0 a0_1 l0_2) else (if a0_1 > 1073741824 then (zy.j0 k true a0_0 a0_1 l0_2) else (if (l0_2.length : Int) < 1 then (zy.j0 k true a0_0 a0_1 l0_2) else (zy.j0 k (decide ((l0_2.length : Int) > 4)) a0_0 a0_1 l0_2)))))
set_option maxHeartbeats 8000000 in
set_option maxRecDepth 100000 in
theorem zy.calls (k : Nat) (a0_0 : Int) (a0_1 : Int) (A0_2 : Option Addr) (c0_2 : Nat) (l0_2 : List ByteArray) (r : Bool) (w : World) (hr0_2 : Kd.C Kd.string w A0_2 l0_2.length l0_2) (hc0_2 : l0_2.length ≤ c0_2) (h : zy.f k a0_0 a0_1 l0_2 = some r) :
  Calls Try.prog 80 #[.agg #[.int .i64 a0_0,.int .i64 a0_1,.slice A0_2 l0_2.length c0_2]] w fun e w' => e = .returned (.bool r) ∧ Below w.heap.size w w' := by
 have hu72 := Try.underlying72
 have HR0_2 := za.mk hr0_2
 have HC0_2 := za.mk hc0_2
 clear hr0_2 hc0_2
 have HB := za.mk (Below.refl w.heap.size w)
 have H : (if a0_0 < 1 then (zy.j0 k true a0_0 a0_1 l0_2) else (if a0_0 > 64 then (zy.j0 k true a0_0 a0_1 l0_2) else (if a0_1 < 1 then (zy.j0 k true a0_0 a0_1 l0_2) else (if a0_1 > 1073741824 then (zy.j0 k true a0_0 a0_1 l0_2) else (if (l0_2.length : Int) < 1 then (zy.j0 k true a0_0 a0_1 l0_2) else (zy.j0 k (decide ((l0_2.length : Int) > 4)) a0_0 a0_1 l0_2)))))) = some r := h
 clear h
 have HC2 := za.mk H
 clear H
 go_enter Try.func80,Try.ntmps80
 go_upto_region 1 with (first | ((with_reducible refine zu (N := 1) rfl ?_);(try (refine zbH (by rfl) ?_;dsimp only));refine zp ?hg (N := 1) ?hd (cs := #[.int .i64 a0_0,.int .i64 a0_1,.slice A0_2 l0_2.length c0_2]) (t := 72) ?hr ?_;(case hd => rfl);(case hg => rfl);(case hr => first | (go_simp;done) | (go_simp;rfl));intro gb201 hg w3 hbox hb;have n_ := haq (ze hBq hb) <| haq (hbox) <| haq ((by rw [hg];exact (zg hBq) : w.heap.size ≤ gb201)) <| haq ((by rw [hg];exact (zg hBq) : w.heap.size ≤ gb201)) <| trivial;clear HB;obtain ⟨HB,BK201,GW201,GE201,_⟩ := n_;clear hb hbox hg))
 (try simp only [Act.put,List.setIfInBounds_toArray,List.set_cons_zero,List.set_cons_succ])
 go_cut [33] (fun v33 wc => ∃ (kq : Nat) (x33_1 : Bool),v33 = .bool x33_1 ∧ za (zy.j0 kq x33_1 a0_0 a0_1 l0_2 = some r) ∧ za (kq ≤ k) ∧ za (wc.heap[gb201]? = some (.cells #[.int .i64 a0_0,.int .i64 a0_1,(.slice A0_2 l0_2.length c0_2)] 72 (0,0))) ∧ za (Below w.heap.size w wc))
 case first =>
  have H := HC2.out
  clear HC2
  by_cases c4 : a0_0 < 1
  ·rw [if_pos c4] at H
   have c4b0 : decide (a0_0 < 1) = true := decide_eq_true c4
   clear c4
   (first | rw [c4b0] | (simp only [zk,zm];rw [c4b0]) | skip)
   have H' := za.mk H
   clear H
   obtain ⟨hcz5_0,hcz5_1,hcz5_2,hfz5_0,hfz5_1,hfz5_2⟩ := hcq3 BK201.out
   go_wp2
   go_meet
   case rel => exact ⟨_,(true),(hDq),H',⟨by first | omega | exact Nat.le_refl _⟩,⟨hGq BK201.out⟩,⟨by repeat (first | (with_reducible first | exact HB.out | apply zl | apply zi | apply zq | refine zo ?_ GE201.out) | exact HB.out)⟩⟩
  ·rw [if_neg c4] at H
   have c4b0 : decide (a0_0 < 1) = false := decide_eq_false c4
   clear c4
   (first | rw [c4b0] | (simp only [zk,zm];rw [c4b0]) | skip)
   by_cases c6 : a0_0 > 64
   ·rw [if_pos c6] at H
    have c6b0 : decide (64 < a0_0) = true := decide_eq_true c6
    clear c6
    have H' := za.mk H
    clear H
    obtain ⟨hcz7_0,hcz7_1,hcz7_2,hfz7_0,hfz7_1,hfz7_2⟩ := hcq3 BK201.out
    go_wp2
    go_meet
    case rel => exact ⟨_,(true),(hDq),H',⟨by first | omega | exact Nat.le_refl _⟩,⟨hGq BK201.out⟩,⟨by repeat (first | (with_reducible first | exact HB.out | apply zl | apply zi | apply zq | refine zo ?_ GE201.out) | exact HB.out)⟩⟩
   ·rw [if_neg c6] at H
    have c6b0 : decide (64 < a0_0) = false := decide_eq_false c6
    clear c6
    by_cases c8 : a0_1 < 1
    ·rw [if_pos c8] at H
     have c8b0 : decide (a0_1 < 1) = true := decide_eq_true c8
     clear c8
     have H' := za.mk H
     clear H
     obtain ⟨hcz9_0,hcz9_1,hcz9_2,hfz9_0,hfz9_1,hfz9_2⟩ := hcq3 BK201.out
     go_wp2
     go_meet
     case rel => exact ⟨_,(true),(hDq),H',⟨by first | omega | exact Nat.le_refl _⟩,⟨hGq BK201.out⟩,⟨by repeat (first | (with_reducible first | exact HB.out | apply zl | apply zi | apply zq | refine zo ?_ GE201.out) | exact HB.out)⟩⟩
    ·rw [if_neg c8] at H
     have c8b0 : decide (a0_1 < 1) = false := decide_eq_false c8
     clear c8
     by_cases c10 : a0_1 > 1073741824
     ·rw [if_pos c10] at H
      have c10b0 : decide (1073741824 < a0_1) = true := decide_eq_true c10
      clear c10
      have H' := za.mk H
      clear H
      obtain ⟨hcz11_0,hcz11_1,hcz11_2,hfz11_0,hfz11_1,hfz11_2⟩ := hcq3 BK201.out
      go_wp2
      go_meet
      case rel => exact ⟨_,(true),(hDq),H',⟨by first | omega | exact Nat.le_refl _⟩,⟨hGq BK201.out⟩,⟨by repeat (first | (with_reducible first | exact HB.out | apply zl | apply zi | apply zq | refine zo ?_ GE201.out) | exact HB.out)⟩⟩
     ·rw [if_neg c10] at H
      have c10b0 : decide (1073741824 < a0_1) = false := decide_eq_false c10
      clear c10
      by_cases c12 : (l0_2.length : Int) < 1
      ·rw [if_pos c12] at H
       have c12b0 : decide ((l0_2.length : Int) < 1) = true := decide_eq_true c12
       have c12b1 : decide (l0_2.length < 1) = true := decide_eq_true (by omega)
       clear c12
       have H' := za.mk H
       clear H
       obtain ⟨hcz13_0,hcz13_1,hcz13_2,hfz13_0,hfz13_1,hfz13_2⟩ := hcq3 BK201.out
       go_wp2
       go_meet
       case rel => exact ⟨_,(true),(hDq),H',⟨by first | omega | exact Nat.le_refl _⟩,⟨hGq BK201.out⟩,⟨by repeat (first | (with_reducible first | exact HB.out | apply zl | apply zi | apply zq | refine zo ?_ GE201.out) | exact HB.out)⟩⟩
      ·rw [if_neg c12] at H
       have c12b0 : decide ((l0_2.length : Int) < 1) = false := decide_eq_false c12
       have c12b1 : decide (l0_2.length < 1) = false := decide_eq_false (by omega)
       clear c12
       have H' := za.mk H
       clear H
       obtain ⟨hcz14_0,hcz14_1,hcz14_2,hfz14_0,hfz14_1,hfz14_2⟩ := hcq3 BK201.out
       go_wp2
       go_meet
       case rel => exact ⟨_,(decide ((l0_2.length : Int) > 4)),(hDq),H',⟨by first | omega | exact Nat.le_refl _⟩,⟨hGq BK201.out⟩,⟨by repeat (first | (with_reducible first | exact HB.out | apply zl | apply zi | apply zq | refine zo ?_ GE201.out) | exact HB.out)⟩⟩
 case rest =>
  clear HC2
  try clear c1;try clear p2;try clear c4;try clear c4b0;try clear c6;try clear c6b0;try clear c8;try clear c8b0;try clear c10;try clear c10b0;try clear c12;try clear c12b0;try clear c12b1;try clear hcz11_0;try clear hcz11_1;try clear hcz11_2;try clear hcz13_0;try clear hcz13_1;try clear hcz13_2;try clear hcz14_0;try clear hcz14_1;try clear hcz14_2;try clear hcz5_0;try clear hcz5_1;try clear hcz5_2;try clear hcz7_0;try clear hcz7_1;try clear hcz7_2;try clear hcz9_0;try clear hcz9_1;try clear hcz9_2;try clear hfz11_0;try clear hfz11_1;try clear hfz11_2;try clear hfz13_0;try clear hfz13_1;try clear hfz13_2;try clear hfz14_0;try clear hfz14_1;try clear hfz14_2;try clear hfz5_0;try clear hfz5_1;try clear hfz5_2;try clear hfz7_0;try clear hfz7_1;try clear hfz7_2;try clear hfz9_0;try clear hfz9_1;try clear hfz9_2
  obtain ⟨kq,x33_1,rfl,HA,HJ1,BK201,HB⟩ := hcut
  cases kq with
  | zero => exact absurd HA.out (by simp [zy.j0])
  | succ kj1 =>
   have H := HA.out
   clear HA
   simp only [zy.j0] at H
   by_cases c15 : x33_1 = true
   ·subst c15
    have H1 : (some false) = some r := by rw [if_pos rfl] at H;exact H
    clear H
    have H := H1
    clear H1
    obtain rfl := Option.some.inj H
    go_wp2
    go_ret
    exact ⟨hHq,hCq⟩
   ·replace c15 := Bool.eq_false_iff.mpr c15
    subst c15
    have H1 : (zy.l0 kj1 0 a0_0 a0_1 l0_2) = some r := by rw [if_neg (show ¬ (false = true) by decide)] at H;exact H
    clear H
    have H := H1
    clear H1
    have H' := za.mk H
    clear H
    go_wp2
    go_loopg [3] kj1 (fun kq v3 w' => ∃ (x3_2 : Int),v3 = .int .i64 x3_2 ∧ za (zy.l0 kq x3_2 a0_0 a0_1 l0_2 = some r) ∧ za (kq ≤ kj1) ∧ za (w'.heap[gb201]? = some (.cells #[.int .i64 a0_0,.int .i64 a0_1,(.slice A0_2 l0_2.length c0_2)] 72 (0,0))) ∧ za (Below w.heap.size w w'))
    case atStart => exact ⟨(0),(hDq),H',⟨Nat.le_refl _⟩,⟨hGq BK201.out⟩,⟨by repeat (first | (with_reducible first | exact HB.out | apply zl | apply zi | apply zq | refine zo ?_ GE201.out) | exact HB.out)⟩⟩
    case round =>
     clear H'
     try clear c1;try clear p2;try clear c4;try clear c4b0;try clear c6;try clear c6b0;try clear c8;try clear c8b0;try clear c10;try clear c10b0;try clear c12;try clear c12b0;try clear c12b1;try clear c15;try clear hcz11_0;try clear hcz11_1;try clear hcz11_2;try clear hcz13_0;try clear hcz13_1;try clear hcz13_2;try clear hcz14_0;try clear hcz14_1;try clear hcz14_2;try clear hcz5_0;try clear hcz5_1;try clear hcz5_2;try clear hcz7_0;try clear hcz7_1;try clear hcz7_2;try clear hcz9_0;try clear hcz9_1;try clear hcz9_2;try clear hfz11_0;try clear hfz11_1;try clear hfz11_2;try clear hfz13_0;try clear hfz13_1;try clear hfz13_2;try clear hfz14_0;try clear hfz14_1;try clear hfz14_2;try clear hfz5_0;try clear hfz5_1;try clear hfz5_2;try clear hfz7_0;try clear hfz7_1;try clear hfz7_2;try clear hfz9_0;try clear hfz9_1;try clear hfz9_2;try clear p2
     obtain ⟨x3_2,rfl,HA,HK2,BK201,HB⟩ := hrel
     cases gk with
     | zero => exact absurd HA.out (by simp [zy.l0])
     | succ k2 =>
      have H := HA.out
      clear HA
      simp only [zy.l0] at H
      by_cases c16 : x3_2 < (l0_2.length : Int)
      ·rw [if_pos c16] at H
       have c16b0 : decide (x3_2 < (l0_2.length : Int)) = true := decide_eq_true c16
       clear c16
       by_cases c17 : 0 ≤ x3_2
       ·rw [if_pos c17] at H
        have c17b0 : decide (0 ≤ x3_2) = true := decide_eq_true c17
        clear c17
        by_cases c18 : ((zE ByteArray.empty l0_2 x3_2).size : Int) < 1
        ·rw [if_pos c18] at H
         have c18b0 : decide (((zE ByteArray.empty l0_2 x3_2).size : Int) < 1) = true := decide_eq_true c18
         have c18b1 : decide ((zE ByteArray.empty l0_2 x3_2).size < 1) = true := decide_eq_true (by omega)
         clear c18
         obtain rfl := Option.some.inj H
         obtain ⟨hcz19_0,hcz19_1,hcz19_2,hfz19_0,hfz19_1,hfz19_2⟩ := hcq3 BK201.out
         have p202 : 0 ≤ (x3_2 : Int) := hFq
         have q202 : x3_2 < (l0_2.length : Int) := hFq
         obtain ⟨ad202,e202,hx202_0⟩ := Kd.at_string HR0_2.out x3_2 p202 q202
         cases e202
         replace hx202_0 := (HB.out.cell (World.block_lt_of_cell? w _ hx202_0)).trans hx202_0
         replace p202 := eq_true p202
         replace q202 := eq_true q202
         go_wp2
         go_ret
         exact ⟨hHq,hCq⟩
        ·rw [if_neg c18] at H
         have c18b0 : decide (((zE ByteArray.empty l0_2 x3_2).size : Int) < 1) = false := decide_eq_false c18
         have c18b1 : decide ((zE ByteArray.empty l0_2 x3_2).size < 1) = false := decide_eq_false (by omega)
         clear c18
         by_cases c20 : ((zE ByteArray.empty l0_2 x3_2).size : Int) > 48
         ·rw [if_pos c20] at H
          have c20b0 : decide (48 < ((zE ByteArray.empty l0_2 x3_2).size : Int)) = true := decide_eq_true c20
          have c20b1 : decide (48 < (zE ByteArray.empty l0_2 x3_2).size) = true := decide_eq_true (by omega)
          clear c20
          obtain rfl := Option.some.inj H
          obtain ⟨hcz21_0,hcz21_1,hcz21_2,hfz21_0,hfz21_1,hfz21_2⟩ := hcq3 BK201.out
          have p202 : 0 ≤ (x3_2 : Int) := hFq
          have q202 : x3_2 < (l0_2.length : Int) := hFq
          obtain ⟨ad202,e202,hx202_0⟩ := Kd.at_string HR0_2.out x3_2 p202 q202
          cases e202
          replace hx202_0 := (HB.out.cell (World.block_lt_of_cell? w _ hx202_0)).trans hx202_0
          replace p202 := eq_true p202
          replace q202 := eq_true q202
          have p203 : 0 ≤ (x3_2 : Int) := hFq
          have q203 : x3_2 < (l0_2.length : Int) := hFq
          obtain ⟨ad203,e203,hx203_0⟩ := Kd.at_string HR0_2.out x3_2 p203 q203
          obtain rfl : ad202 = ad203 := (by injection e203)
          replace hx203_0 := (HB.out.cell (World.block_lt_of_cell? w _ hx203_0)).trans hx203_0
          replace p203 := eq_true p203
          replace q203 := eq_true q203
          go_wp2
          go_ret
          exact ⟨hHq,hCq⟩
         ·rw [if_neg c20] at H
          have c20b0 : decide (48 < ((zE ByteArray.empty l0_2 x3_2).size : Int)) = false := decide_eq_false c20
          have c20b1 : decide (48 < (zE ByteArray.empty l0_2 x3_2).size) = false := decide_eq_false (by omega)
          clear c20
          have H' := za.mk H
          clear H
          obtain ⟨hcz22_0,hcz22_1,hcz22_2,hfz22_0,hfz22_1,hfz22_2⟩ := hcq3 BK201.out
          have p202 : 0 ≤ (x3_2 : Int) := hFq
          have q202 : x3_2 < (l0_2.length : Int) := hFq
          obtain ⟨ad202,e202,hx202_0⟩ := Kd.at_string HR0_2.out x3_2 p202 q202
          cases e202
          replace hx202_0 := (HB.out.cell (World.block_lt_of_cell? w _ hx202_0)).trans hx202_0
          replace p202 := eq_true p202
          replace q202 := eq_true q202
          have p203 : 0 ≤ (x3_2 : Int) := hFq
          have q203 : x3_2 < (l0_2.length : Int) := hFq
          obtain ⟨ad203,e203,hx203_0⟩ := Kd.at_string HR0_2.out x3_2 p203 q203
          obtain rfl : ad202 = ad203 := (by injection e203)
          replace hx203_0 := (HB.out.cell (World.block_lt_of_cell? w _ hx203_0)).trans hx203_0
          replace p203 := eq_true p203
          replace q203 := eq_true q203
          go_wp2
          go_roundg k2
          case measure => have := HJ1.out;have := HK2.out;omega
          case rel => exact ⟨(wrap64 (x3_2 + 1)),(hDq),H',⟨by have := HJ1.out;have := HK2.out;omega⟩,⟨hGq BK201.out⟩,⟨by repeat (first | (with_reducible first | exact HB.out | apply zl | apply zi | apply zq | refine zo ?_ GE201.out) | exact HB.out)⟩⟩
       ·rw [if_neg c17] at H
        exact absurd H (by simp)
      ·rw [if_neg c16] at H
       have c16b0 : decide (x3_2 < (l0_2.length : Int)) = false := decide_eq_false c16
       clear c16
       obtain rfl := Option.some.inj H
       obtain ⟨hcz23_0,hcz23_1,hcz23_2,hfz23_0,hfz23_1,hfz23_2⟩ := hcq3 BK201.out
       go_wp2
       go_ret
       exact ⟨hHq,hCq⟩
end Go.Proofs.Ytklhjlaofkngcaa.Px