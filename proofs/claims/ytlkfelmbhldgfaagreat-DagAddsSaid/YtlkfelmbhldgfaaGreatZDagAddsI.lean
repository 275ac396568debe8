/- Part 9 of 36 of the proof of the law DagAdds: what is proved is the statement at the end of the last part; its conditions are those of the given row. -/
import Derived.ScopeJumps
import Derived.WalkMore
import Derived.Test.YtlkfelmbhldgfaaGreatZDagAddsG
namespace Go.Proofs.YtlkfelmbhldgfaaGreat.Px
open Go.RowKit Go.Proofs.YtlkfelmbhldgfaaGreatW.PrintWords Go.Proofs.YtlkfelmbhldgfaaGreatW.PrintLast Go.Proofs.YtlkfelmbhldgfaaGreatW.PrintMore
attribute [local go_sem] zA zC zH zI zv zw zB zD
set_option linter.unusedVariables false
set_option linter.unusedSimpArgs false
def zq.l0 : Nat → Int → ByteArray → Option (ByteArray)
 | 0,_,_ => none
 | k + 1,x0,x3 => if x0 > 0 then ((some (([(Int.tmod x0 256) % 256] : List Int) : List Int)).bind fun y175 => (if (strOfNums y175).size + x3.size ≤ 9223372036854775807 then (zq.l0 k (IntKind.u64.wrap (Int.tdiv x0 256)) ((strOfNums y175) ++ x3)) else (none))) else ((some (([((x3.size : Int)) % 256] : List Int) : List Int)).bind fun y178 => (if (strOfNums y178).size + x3.size ≤ 9223372036854775807 then (some ((strOfNums y178) ++ x3)) else (none)))
def zq.f (k : Nat) (a0 : Int) : Option (ByteArray) := zq.l0 k a0 (⟨#[]⟩ : ByteArray)
set_option maxHeartbeats 8000000 in
set_option maxRecDepth 100000 in
theorem zq.calls (k : Nat) (a0 : Int) (r : ByteArray) (w : World) (h : zq.f k a0 = some r) :
  Calls Tryz.prog 57 #[.int .u64 a0] w fun e w' => e = .returned (.string r) ∧ Below w.heap.size w w' := by
 have HB := za.mk (Below.refl w.heap.size w)
 have H : (zq.l0 k a0 (⟨#[]⟩ : ByteArray)) = some r := h
 clear h
 have H' := za.mk H
 clear H
 go_enter Tryz.func57,Tryz.ntmps57
 go_wp2
 go_loopg [0,3] k (fun kq v0 v3 w' => ∃ (x0_1 : Int) (x3_1 : ByteArray),v0 = .int .u64 x0_1 ∧ v3 = .string x3_1 ∧ za (zq.l0 kq x0_1 x3_1 = some r) ∧ za (kq ≤ k) ∧ za (Below w.heap.size w w'))
 case atStart => exact ⟨(a0),((⟨#[]⟩ : ByteArray)),(hDq),(hDq),H',⟨Nat.le_refl _⟩,⟨by repeat (first | (with_reducible first | exact HB.out | apply zk | apply zi | apply zo) | exact HB.out)⟩⟩
 case round =>
  clear H'
  obtain ⟨x0_1,x3_1,rfl,rfl,HA,HK1,HB⟩ := hrel
  cases gk with
  | zero => exact absurd HA.out (by simp [zq.l0])
  | succ k1 =>
   have H := HA.out
   clear HA
   simp only [zq.l0] at H
   by_cases c2 : x0_1 > 0
   ·rw [if_pos c2] at H
    have c2b0 : decide (0 < x0_1) = true := decide_eq_true c2
    clear c2
    obtain ⟨y175,hy175⟩ : ∃ y_ : List Int,y_ = (([(Int.tmod x0_1 256) % 256] : List Int)) := ⟨_,rfl⟩
    replace H : (if (strOfNums y175).size + x3_1.size ≤ 9223372036854775807 then (zq.l0 k1 (IntKind.u64.wrap (Int.tdiv x0_1 256)) ((strOfNums y175) ++ x3_1)) else (none)) = some r := by first | (rw [hy175];with_reducible exact H) | (have H2_ := (Option.bind_some _ _).symm.trans H;rw [hy175];with_reducible exact H2_) | (have H2_ := (Option.bind_some _ _).symm.trans H;with_reducible exact H2_) | with_reducible exact H | (rw [hy175];exact H) | exact H
    have Ny175 := za.mk hy175
    clear hy175
    by_cases c3 : (strOfNums y175).size + x3_1.size ≤ 9223372036854775807
    ·rw [if_pos c3] at H
     have c3b0 := eq_true c3
     have c3b1 : decide ((strOfNums y175).size + x3_1.size ≤ 9223372036854775807) = true := decide_eq_true c3
     try have c3b2 : (9223372036854775807 < (strOfNums y175).size + x3_1.size) = False := eq_false (Nat.not_lt.2 c3)
     have H' := za.mk H
     clear H
     go_wp2_with (first | ((with_reducible refine zn (N := 9) rfl ?_);refine Kd.R_lit (Kd.int .u8) _ 5 ?hg (N := 9) ?hd (xs := ([(Int.tmod x0_1 256) % 256] : List Int)) (inner := [.int .u8 ((Int.tmod x0_1 256) % 256)]) (ok := fun _ => True) (okp := fun _ => True) ?hr ?hp (fun _ hk => hk) trivial (Below.refl _ _) (Nat.le_refl _) (by simp) ?_;(case hd => rfl);(case hg => rfl);(case hr => first | (go_simp;done) | (go_simp;rfl));(case hp => exact (zaA.one (show Kd.M (Kd.int .u8) _ _ _ ((Int.tmod x0_1 256) % 256) [.int .u8 ((Int.tmod x0_1 256) % 256)] from rfl) (zaA.none _ _)));intro v176 w4 ho5 hb hg_ hnew_;clear hg_ hnew_;(first | rw [← Ny175.out] at ho5 | (simp only [Int.reduceToNat] at ho5;rw [← Ny175.out] at ho5));have n_ := haq (Kd.R_lower ho5 (zg hBq)) <| haq (ze hBq hb) <| trivial;clear HB;obtain ⟨HO177,HB,_⟩ := n_;clear hb ho5;have hcv6 := zdz (P := Tryz.prog) Tryz.underlying84 Tryz.underlying5 Tryz.underlying9 (Kd.own_of_R HO177.out)))
     go_roundg k1
     case measure => have := HK1.out;omega
     case rel => exact ⟨(IntKind.u64.wrap (Int.tdiv x0_1 256)),((strOfNums y175) ++ x3_1),(hDq),(hDq),H',⟨by have := HK1.out;omega⟩,⟨by repeat (first | (with_reducible first | exact HB.out | apply zk | apply zi | apply zo) | exact HB.out)⟩⟩
    ·rw [if_neg c3] at H
     exact absurd H (by simp)
   ·rw [if_neg c2] at H
    have c2b0 : decide (0 < x0_1) = false := decide_eq_false c2
    clear c2
    obtain ⟨y178,hy178⟩ : ∃ y_ : List Int,y_ = (([((x3_1.size : Int)) % 256] : List Int)) := ⟨_,rfl⟩
    replace H : (if (strOfNums y178).size + x3_1.size ≤ 9223372036854775807 then (some ((strOfNums y178) ++ x3_1)) else (none)) = some r := by first | (rw [hy178];with_reducible exact H) | (have H2_ := (Option.bind_some _ _).symm.trans H;rw [hy178];with_reducible exact H2_) | (have H2_ := (Option.bind_some _ _).symm.trans H;with_reducible exact H2_) | with_reducible exact H | (rw [hy178];exact H) | exact H
    have Ny178 := za.mk hy178
    clear hy178
    by_cases c7 : (strOfNums y178).size + x3_1.size ≤ 9223372036854775807
    ·rw [if_pos c7] at H
     have c7b0 := eq_true c7
     have c7b1 : decide ((strOfNums y178).size + x3_1.size ≤ 9223372036854775807) = true := decide_eq_true c7
     try have c7b2 : (9223372036854775807 < (strOfNums y178).size + x3_1.size) = False := eq_false (Nat.not_lt.2 c7)
     obtain rfl := Option.some.inj H
     go_wp2_with (first | ((with_reducible refine zn (N := 18) rfl ?_);refine Kd.R_lit (Kd.int .u8) _ 5 ?hg (N := 18) ?hd (xs := ([((x3_1.size : Int)) % 256] : List Int)) (inner := [.int .u8 (((x3_1.size : Int)) % 256)]) (ok := fun _ => True) (okp := fun _ => True) ?hr ?hp (fun _ hk => hk) trivial (Below.refl _ _) (Nat.le_refl _) (by simp) ?_;(case hd => rfl);(case hg => rfl);(case hr => first | (go_simp;done) | (go_simp;rfl));(case hp => exact (zaA.one (show Kd.M (Kd.int .u8) _ _ _ (((x3_1.size : Int)) % 256) [.int .u8 (((x3_1.size : Int)) % 256)] from rfl) (zaA.none _ _)));intro v179 w8 ho9 hb hg_ hnew_;clear hg_ hnew_;(first | rw [← Ny178.out] at ho9 | (simp only [Int.reduceToNat] at ho9;rw [← Ny178.out] at ho9));have n_ := haq (Kd.R_lower ho9 (zg hBq)) <| haq (ze hBq hb) <| trivial;clear HB;obtain ⟨HO180,HB,_⟩ := n_;clear hb ho9;have hcv10 := zdz (P := Tryz.prog) Tryz.underlying84 Tryz.underlying5 Tryz.underlying9 (Kd.own_of_R HO180.out)))
     go_ret
     exact ⟨hHq,hBq⟩
    ·rw [if_neg c7] at H
     exact absurd H (by simp)
theorem zf3 (acc : Bs) (hl : acc.length ≤ 200) : Ev (fun k => zq.l0 k ((0 : Nat) : Int) (toB acc)) (toB (UInt8.ofNat acc.length :: acc)) := by
 refine Ev.step (fun k => by rw [zq.l0]) ?_
 refine zT (by simp) ?_
 simp only [Option.bind_some,zbN,List.map_cons,List.map_nil,zax,List.length_cons,List.length_nil]
 refine zF (by omega) ?_
 have e : ((acc.length : Int) % 256).toNat = acc.length := by omega
 rw [e]
 exact zac (Ev.now _) (by rw [← zbg];rfl)
theorem zhG (n : Nat) : ∀ (v : Nat) (acc : Bs),v < 256 ^ n → n + acc.length ≤ 200 → v < 18446744073709551616 →
  Ev (fun k => zq.l0 k (v : Int) (toB acc)) (toB (UInt8.ofNat (be v ++ acc).length :: (be v ++ acc))) := by
 induction n with
 | zero =>
  intro v acc hv hl _
  obtain rfl : v = 0 := by simpa using hv
  rw [zet,List.nil_append]
  exact zf3 acc (by omega)
 | succ n ih =>
  intro v acc hv hl hm
  rcases Nat.eq_zero_or_pos v with h | h
  ·subst h
   rw [zet,List.nil_append]
   exact zf3 acc (by omega)
  ·refine Ev.step (fun k => by rw [zq.l0]) ?_
   refine zF (by omega) ?_
   simp only [Option.bind_some,zbN,List.map_cons,List.map_nil,zax,List.length_cons,List.length_nil]
   refine zF (by omega) ?_
   have e1 : IntKind.u64.wrap (Int.tdiv (v : Int) 256) = ((v / 256 : Nat) : Int) := by
    rw [Int.tdiv_eq_ediv_of_nonneg (by omega),zbU (by omega) (by omega)];omega
   have e2 : (Int.tmod (v : Int) 256 % 256).toNat = v % 256 := by
    rw [Int.tmod_eq_emod_of_nonneg (by omega)];omega
   rw [e1,e2]
   have := ih (v / 256) ([UInt8.ofNat (v % 256)] ++ acc) (by rw [Nat.pow_succ] at hv;omega) (by simp;omega) (by omega)
   rw [zgR h,List.append_assoc]
   rw [zbg [UInt8.ofNat (v % 256)] acc] at this
   exact this
theorem ze0 (v : Nat) (hv : v < 18446744073709551616) : Ev (fun k => zq.f k (v : Int)) (zbq v) := by
 have e8 : (256 : Nat) ^ 8 = 18446744073709551616 := by decide
 have h := zhG 8 v [] (by omega) (by simp) hv
 rw [List.append_nil] at h
 exact h
def zbe.f (a0 : ByteArray) : Option (ByteArray) := if a0.size ≤ 1152921504606846976 then (some (zeh a0)) else (none)
theorem zbe.calls (a0 : ByteArray) (r : ByteArray) (w : World) (h : zbe.f a0 = some r) :
  Calls Tryz.prog 82 #[.string a0] w fun e w' => e = .returned (.string r) ∧ Below w.heap.size w w' := by
 unfold zbe.f at h
 split at h
 ·rename_i h0
  obtain rfl := Option.some.inj h
  clear h
  have hn : (zbq a0.size).size ≤ 9 := za9 (by omega)
  have hn2 : (zbq a0.size).size + a0.size ≤ 9223372036854775807 := by omega
  obtain ⟨k,hk⟩ := (ze0 a0.size (by omega)).rounds
  have HN := za.mk hk
  clear hk
  go_enter Tryz.func82,Tryz.ntmps82
  go_wp2_with (go_at_call 57;(with_reducible refine (zq.calls _ _ _ _ HN.out).mono ?_);rintro e w1 ⟨rfl,hb⟩)
  go_ret
  exact ⟨rfl,by assumption⟩
 ·cases h
def beL (v : Nat) : List Int := if v = 0 then [] else beL (v / 256) ++ [((v % 256 : Nat) : Int)]
termination_by v
decreasing_by omega
theorem zfH : beL 0 = [] := by rw [beL];simp
theorem zgQ {v : Nat} (h : 0 < v) : beL v = beL (v / 256) ++ [((v % 256 : Nat) : Int)] := by rw [beL,if_neg (by omega)]
theorem beL_be (v : Nat) : (beL v).map (fun n => UInt8.ofNat n.toNat) = be v := by
 induction v using Nat.strongRecOn with
 | _ v ih =>
  rcases Nat.eq_zero_or_pos v with h | h
  ·subst h;rw [zfH,zet];rfl
  ·rw [zgQ h,zgR h,List.map_append,ih _ (by omega)];rfl
theorem zhy (v : Nat) : zbq v = strOfNums (((beL v).length : Int) :: beL v) := (zfQ v _ (beL_be v)).symm
def zgF : Value → Int | .int _ q => q | _ => 0
def ziN (cs : Array Value) (p : Nat) (L : List Int) : Prop := cs.size = 9 ∧ p + L.length = 9 ∧ ∀ i,i < L.length → cs[p + i]? = some (.int .u8 (L.getD i 0))
theorem ziN.cell {cs : Array Value} {p : Nat} {L : List Int} (h : ziN cs p L) (i : Nat) (hi : i < 9) : ∃ v,cs[i]? = some v :=
 ⟨cs[i]'(by rw [h.1];exact hi),Array.getElem?_eq_getElem _⟩
theorem ziN.set {cs : Array Value} {q : Nat} {L : List Int} (h : ziN cs (q + 1) L) (x : Int) : ziN (cs.setIfInBounds q (.int .u8 x)) q (x :: L) := by
 refine ⟨by simp [h.1],by have := h.2.1;simp only [List.length_cons];omega,fun i hi => ?_⟩
 rcases i with _ | i
 ·rw [Nat.add_zero,Array.getElem?_setIfInBounds_self_of_lt (by rw [h.1];have := h.2.1;omega)];rfl
 ·have h2 := h.2.2 i (by simpa using hi)
  rw [Array.getElem?_setIfInBounds_ne (by omega),← Nat.add_assoc,Nat.add_right_comm,h2];simp
theorem pow_step {v q : Nat} (h : v < 256 ^ (q + 1)) : v / 256 < 256 ^ q := by
 rw [Nat.pow_succ] at h
 exact Nat.div_lt_of_lt_mul (by rw [Nat.mul_comm];exact h)
set_option maxHeartbeats 1000000 in
set_option maxRecDepth 100000 in
theorem zan.walk (a0 : Nat) (w : World) (h1 : a0 < 18446744073709551616) :
  Calls Tryz.prog 48 #[.int .u64 a0] w fun e w' => e = .returned (.string (zbq a0)) ∧ Below w.heap.size w w' := by
 go_enter Tryz.func48,Tryz.ntmps48
 go_wp2
 refine wp_scope_jumps 0 (fun a' w' => ∃ (v p n : Nat) (L : List Int) (cs : Array Value) (u6 u7 u8 u9 u10 u11 u12 u13 u14 u15 u16 u17 : Value),
   ziN cs p L ∧ v < 256 ^ (p - 1) ∧ 1 ≤ p ∧ L.length = n ∧ beL a0 = beL v ++ L ∧
   w' = w.alloc (.cells cs 94) ∧
   a' = { tmps := #[.int .u64 v,undef,.string ⟨#[]⟩,.pointer (some ⟨w.heap.size,0,none⟩),.int .i64 p,.int .u8 n,u6,u7,u8,u9,u10,u11,u12,u13,u14,u15,u16,u17,undef,undef,undef,undef,undef,undef,undef,undef],defers := [] })
   (fun a' _ => (zgF (a'.tmps.getD 4 undef)).toNat) rfl ?_ ?_
 ·rcases Nat.eq_zero_or_pos a0 with h0 | h0
  ·subst h0
   have hcv := fun W => run_convert_bytes_arg (P := Tryz.prog) (w.alloc W) 84 5 Tryz.underlying84 Tryz.underlying5 w.heap.size 8 1 1 [0] rfl
   go_wp2
   go_step3
   go_wp2
   simp only [Exit.jump]
   go_ret
   exact ⟨by rw [zhy,zfH];rfl,(Below.refl _ _).alloc (Nat.le_refl _) _⟩
  ·go_wp2
   go_step3
   go_wp2
   go_step3
   refine ⟨rfl,a0 / 256,8,1,[(a0 % 256 : Nat)],_,_,_,_,_,_,_,_,_,_,_,_,_,?_,?_,?_,rfl,zgQ h0,rfl,rfl⟩
   ·refine ⟨rfl,rfl,fun i hi => ?_⟩
    obtain rfl : i = 0 := by simpa using hi
    rfl
   ·have : (256:Nat) ^ (8 - 1) = 72057594037927936 := by decide
    omega
   ·omega
 ·rintro a' w' ⟨v,p,n,L,cs,u6,u7,u8,u9,u10,u11,u12,u13,u14,u15,u16,u17,hN,hv,hp,hn,hb,rfl,rfl⟩
  obtain ⟨q,rfl⟩ : ∃ q,p = q + 1 := ⟨p - 1,by omega⟩
  have hq : q < 9 := by have := hN.2.1;omega
  have hnq : n + q = 8 := by have := hN.2.1;omega
  have hnn : n ≤ 8 := by omega
  have hvb : v < 18446744073709551616 := by
   have : 256 ^ (q + 1 - 1) ≤ 256 ^ 8 := Nat.pow_le_pow_right (by omega) (by omega)
   have : (256:Nat) ^ 8 = 18446744073709551616 := by decide
   omega
  obtain ⟨v0,hc⟩ := hN.cell q hq
  have HN := za.mk hN
  have HB := za.mk hb
  have HV := za.mk hv
  have HL := za.mk hn
  have HQ := za.mk hnq
  clear hN hb hv hn hnq h1
  rcases Nat.eq_zero_or_pos v with h0 | h0
  ·subst h0
   have hq9 : q ≤ 9 := by omega
   have hsl : ∀ W : World,(Instr.sliceAt 94 (.pointer (some ⟨w.heap.size,0,none⟩)) (some (.int .i64 (q : Int))) none none).run Tryz.prog W = .ok (.slice (some ⟨w.heap.size,q,none⟩) (9 - q) (9 - q)) W := by
    intro W
    rw [run_sliceAt_array_l W 94 _ (by kernel_rfl) .i64 q (by omega) (by show (q : Int) ≤ 9;omega)]
    have e1 : (sizeOf (Tryz.prog.elem 94)).run Tryz.prog W = .ok 1 W := by kernel_rfl
    have e2 : Tryz.prog.arrayLen 94 = 9 := by kernel_rfl
    rw [e1,e2]
    simp only [Result.andThen,slicedAt,Int.toNat_natCast,Nat.mul_one]
    rw [if_neg (by omega),zbz]
   have hS := HN.out.set n
   have hcv := run_convert_bytes_arg (P := Tryz.prog) (w.alloc (.cells (cs.setIfInBounds q (.int .u8 (n : Int))) 94)) 84 5 Tryz.underlying84 Tryz.underlying5 w.heap.size q (9 - q) (9 - q) ((n : Int) :: L) (by rw [List.length_cons,HL.out];have := HQ.out;omega)
    (fun i hi => by
     have h2 := hS.2.2 i (by have := hS.2.1;omega)
     rw [World.cell?_alloc_new];exact h2) 9 Tryz.underlying9
   clear hS
   go_wp2
   simp only [Exit.jump]
   go_ret
   exact ⟨by rw [zhy,HB.out,zfH,List.nil_append,HL.out];rfl,(Below.refl _ _).alloc (Nat.le_refl _) _⟩
  ·obtain ⟨q',rfl⟩ : ∃ q',q = q' + 1 := ⟨q - 1,by
    rcases Nat.eq_zero_or_pos q with hz | hz
    ·have := HV.out;subst hz;simp at this;omega
    ·omega⟩
   go_wp2
   go_step3
   refine ⟨rfl,⟨v / 256,q' + 1,n + 1,((v % 256 : Nat) : Int) :: L,_,_,_,_,_,_,_,_,_,_,_,_,_,HN.out.set _,pow_step HV.out,by omega,by rw [List.length_cons,HL.out],?_,rfl,rfl⟩,?_⟩
   ·rw [HB.out,zgQ h0];simp
   ·simp [zgF];omega
def zan.f (a0 : Int) : Option (ByteArray) := if 0 ≤ a0 then (if a0 < 18446744073709551616 then (some (zbq a0.toNat)) else (none)) else (none)
theorem zan.calls (a0 : Int) (r : ByteArray) (w : World) (h : zan.f a0 = some r) :
  Calls Tryz.prog 48 #[.int .u64 a0] w fun e w' => e = .returned (.string r) ∧ Below w.heap.size w w' := by
 unfold zan.f at h
 split at h
 ·rename_i h0
  split at h
  ·rename_i h1
   obtain ⟨n,rfl⟩ := Int.eq_ofNat_of_zero_le h0
   obtain rfl := Option.some.inj h
   rw [Int.toNat_natCast]
   exact zan.walk n w (by omega)
  ·cases h
 ·cases h
def zcb.f (a0 : ByteArray) : Option (ByteArray) := if a0.size ≤ 1152921504606846976 then (some (zeh a0)) else (none)
theorem zcb.calls (a0 : ByteArray) (r : ByteArray) (w : World) (h : zcb.f a0 = some r) :
  Calls Tryz.prog 71 #[.string a0] w fun e w' => e = .returned (.string r) ∧ Below w.heap.size w w' := by
 unfold zcb.f at h
 split at h
 ·rename_i h0
  obtain rfl := Option.some.inj h
  clear h
  have hn : (zbq a0.size).size ≤ 9 := za9 (by omega)
  have hn2 : (zbq a0.size).size + a0.size ≤ 9223372036854775807 := by omega
  have HN := za.mk (show zan.f (a0.size : Int) = some (zbq a0.size) by unfold zan.f;rw [if_pos (by omega),if_pos (by omega),Int.toNat_natCast])
  go_enter Tryz.func71,Tryz.ntmps71
  go_wp2_with (go_at_call 48;(with_reducible refine (zan.calls _ _ _ HN.out).mono ?_);rintro e w1 ⟨rfl,hb⟩)
  go_ret
  exact ⟨rfl,by assumption⟩
 ·cases h
theorem zc9 (v : Nat) (hv : v < 18446744073709551616) : zan.f (v : Int) = some (zbq v) := by
 unfold zan.f
 rw [if_pos (by omega),if_pos (by omega),Int.toNat_natCast]
theorem zfJ (t : ByteArray) (h : t.size ≤ 1152921504606846976) : zcb.f t = some (zeh t) := by unfold zcb.f;rw [if_pos h]
theorem zdK (t : ByteArray) (h : t.size ≤ 1152921504606846976) : zbe.f t = some (zeh t) := by unfold zbe.f;rw [if_pos h]
def zby (l : List ByteArray) : Bs := l.flatMap (fun t => zf9 (ofB t))
def zb9 (l : List ByteArray) : Bs := zda l.length ++ zby l
theorem zeq (l : List ByteArray) (k : Nat) (t : ByteArray) (h : l[k]? = some t) : zby (l.take (k + 1)) = zby (l.take k) ++ ofB (zeh t) := by
 have hk := (List.getElem?_eq_some_iff.1 h)
 obtain ⟨hk,rfl⟩ := hk
 rw [List.take_succ_eq_append_getElem hk,zby,zby,List.flatMap_append,textB_eq,zc5]
 simp
theorem zdd (l : List ByteArray) (k : Nat) : (zby (l.take k)).length ≤ (zby l).length := by
 have : zby l = zby (l.take k) ++ zby (l.drop k) := by rw [zby,zby,zby,← List.flatMap_append,List.take_append_drop]
 rw [this,List.length_append];omega
theorem zhJ (l : List ByteArray) : l.length ≤ (zby l).length := by
 induction l with
 | nil => simp
 | cons t l ih =>
  have : zby (t :: l) = zf9 (ofB t) ++ zby l := rfl
  rw [this,List.length_append,List.length_cons,zf9,zda]
  simp only [List.length_cons,List.length_append]
  omega
theorem zeC (l : List ByteArray) (k : Nat) (t : ByteArray) (h : l[k]? = some t) : t.size ≤ (zby l).length := by
 have h1 := zeq l k t h
 have h2 := zdd l (k + 1)
 rw [h1,List.length_append,zat,zeh,ByteArray.size_append] at h2
 omega
theorem rrInfo5 : (Tryz.prog.info? 5).map (fun i => (i.zero,i.size,i.bytes)) = some (some (.int .u8 0),1,1) := by kernel_rfl
def zM.Rel (l : List ByteArray) (k : Nat) (w0 wr : World) (v : Value) : Prop := zaP wr w0.heap.size 5 v (zda l.length ++ zby (l.take k)) ∧ Below w0.heap.size w0 wr
set_option maxRecDepth 100000 in
theorem zM.walk (A : Option Addr) (c : Nat) (l : List ByteArray) (w : World) (hr : Kd.C Kd.string w A l.length l) (hc : l.length ≤ c) (hs : (zb9 l).length ≤ 140737488355328) :
  Calls Tryz.prog 58 #[.slice A l.length c] w fun e w' => e = .returned (.string (toB (zb9 l))) ∧ Below w.heap.size w w' := by
 have hm := hr.2.1
 have hll := zhJ l
 have hsum : (zb9 l).length = (zda l.length).length + (zby l).length := by rw [zb9,List.length_append]
 have hlen : l.length ≤ 140737488355328 := by omega
 obtain ⟨k0,hk0⟩ := (ze0 l.length (by omega)).rounds
 have HN := za.mk hk0
 have HR := za.mk hr
 have HS := za.mk hs
 have HU := za.mk hsum
 have kb := fun (W : World) (s : ByteArray) => Lib.run_convert_string_bytes (P := Tryz.prog) W 9 84 5 s Tryz.underlying9 Tryz.underlying84 Tryz.underlying5
 clear hr hs hll hsum hk0
 go_enter Tryz.func58,Tryz.ntmps58
 go_wp2_with (go_at_call 57;(with_reducible refine (zq.calls _ _ _ _ HN.out).mono ?_);rintro e w1 ⟨rfl,hb1⟩)
 have hw1 : Below w.heap.size w w1 := by assumption
 have HL : za (zM.Rel l 0 w (Lib.bytesWorld w1 5 (zbq l.length)) (.slice (some ⟨w1.heap.size,0,none⟩) (zbq l.length).size (grownCap w1 (zbq l.length).size 0 5))) := ⟨by
  have h := zaP.start w1 w.heap.size 5 (zbq l.length) hw1.size (by have := za9 (v := l.length) (by omega);unfold maxLen;omega)
  rw [List.take_zero,show zby [] = [] from rfl,List.append_nil]
  rw [zbq,zc5] at h
  exact h,ze6 hw1 hw1.size 5 _⟩
 generalize Lib.bytesWorld w1 5 (zbq l.length) = wb at *
 generalize Value.slice (some ⟨w1.heap.size,0,none⟩) (zbq l.length).size (grownCap w1 (zbq l.length).size 0 5) = vb at *
 clear hw1
 go_loopw [3,4] (fun v3 v4 wr => ∃ k : Nat,v4 = .int .i64 k ∧ k ≤ l.length ∧ za (zM.Rel l k w wr v3)) (fun _ v4 _ => l.length - (match v4 with | .int _ q => q | _ => 0).toNat)
 case atStart => exact ⟨0,rfl,Nat.zero_le _,HL⟩
 case round =>
  obtain ⟨k,rfl,hk,HK⟩ := hrel
  by_cases hlt : k < l.length
  ·obtain ⟨ad,rfl,hcell⟩ := Kd.at_string (Kd.C_below HR.out HK.out.2) (k : Int) (by omega) (by omega)
   rw [Int.toNat_natCast] at hcell
   have hb : decide (k < l.length) = true := decide_eq_true hlt
   have hx : l[k]? = some (zz ByteArray.empty l (k : Int)) := by
    rw [zz,Int.toNat_natCast,List.getD_eq_getElem?_getD,List.getElem?_eq_getElem hlt];rfl
   have HX := za.mk hx
   clear hx
   generalize zz ByteArray.empty l (k : Int) = s at *
   have hs := zeC l k s HX.out
   have HT := za.mk (zdK s (by have := HS.out;have := HU.out;omega))
   have h2 := zeq l k s HX.out
   have h3 := zdd l (k + 1)
   rw [h2,List.length_append,zat] at h3
   have H2 := za.mk h2
   have H3 : za ((zda l.length ++ zby (l.take k)).length + (zeh s).size ≤ 140737488355328) := ⟨by rw [List.length_append];have := HS.out;have := HU.out;omega⟩
   clear h2 h3 hs
   go_wp2_with (first | (go_at_call 82;(with_reducible refine (zbe.calls _ _ _ HT.out).mono ?_);rintro e w3 ⟨rfl,hb3⟩;have HO := za.mk (zaP.below HK.out.1 hb3);have HB := za.mk (ze HK.out.2 hb3);clear hb3) | (at_builtin;refine zeN rfl _ _ 84 9 rfl w.heap.size 5 Tryz.underlying84 Tryz.underlying9 rrInfo5 _ _ rfl HO.out _ rfl HB.out H3.out HB.out.size ?_;intro v5 w5 ho5 hb5;have HL5 : za (zM.Rel l (k + 1) w w5 v5) := ⟨by rw [H2.out,← List.append_assoc];exact ho5,hb5⟩;clear ho5 hb5))
   go_roundw
   case rel => exact ⟨k + 1,by go_num,by omega,HL5⟩
   case measure => simp;omega
  ·obtain rfl : k = l.length := by omega
   have hs2 := HK.out.1.string Tryz.underlying84 Tryz.underlying5 9 Tryz.underlying9
   rw [List.take_of_length_le (Nat.le_refl _)] at hs2
   go_wp2
   go_ret
   exact ⟨rfl,HK.out.2⟩
def zM.f (l0 : List ByteArray) : Option (ByteArray) := if (zb9 l0).length ≤ 140737488355328 then (some (toB (zb9 l0))) else (none)
theorem zM.calls (A0 : Option Addr) (c0 : Nat) (l0 : List ByteArray) (r : ByteArray) (w : World) (hr0 : Kd.C Kd.string w A0 l0.length l0) (hc0 : l0.length ≤ c0) (h : zM.f l0 = some r) :
  Calls Tryz.prog 58 #[.slice A0 l0.length c0] w fun e w' => e = .returned (.string r) ∧ Below w.heap.size w w' := by
 unfold zM.f at h
 split at h
 ·rename_i hs
  obtain rfl := Option.some.inj h
  exact zM.walk A0 c0 l0 w hr0 hc0 hs
 ·cases h
mutual
def zr.j0 : Nat → Bool → Int → Int → List ByteArray → Option (Bool)
 | 0,_,_,_,_ => none
 | k + 1,x33,x159000,x159001,x159002 => if x33 = true then (some false) else (zr.l0 k 0 x159000 x159001 x159002)
def zr.l0 : Nat → Int → Int → Int → List ByteArray → Option (Bool)
 | 0,_,_,_,_ => none
 | k + 1,x3,x159000,x159001,x159002 => if x3 < (x159002.length : Int) then (if 0 ≤ x3 then (if ((zz ByteArray.empty x159002 x3).size : Int) < 1 then (some false) else (if ((zz ByteArray.empty x159002 x3).size : Int) > 48 then (some false) else (zr.l0 k (wrap64 (x3 + 1)) x159000 x159001 x159002))) else (none)) else (some true)
end
def zr.f (k : Nat) (a0_0 : Int) (a0_1 : Int) (l0_2 : List ByteArray) : Option (Bool) := if a0_0 < 1 then (zr.j0 k true a0_0 a0_1 l0_2) else (if a0_0 > 64 then (zr.j0 k true a0_0 a0_1 l0_2) else (if a0_1 < 1 then (zr.j0 k true a0_0 a0_1 l0_2) else (if a0_1 > 1073741824 then (zr.j0 k true a0_0 a0_1 l0_2) else (if (l0_2.length : Int) < 1 then (zr.j0 k true a0_0 a0_1 l0_2) else (zr.j0 k (decide ((l0_2.length : Int) > 4)) a0_0 a0_1 l0_2)))))
set_option maxHeartbeats 8000000 in
set_option maxRecDepth 100000 in
theorem zr.calls (k : Nat) (a0_0 : Int) (a0_1 : Int) (A0_2 : Option Addr) (c0_2 : Nat) (l0_2 : List ByteArray) (r : Bool) (w : World) (hr0_2 : Kd.C Kd.string w A0_2 l0_2.length l0_2) (hc0_2 : l0_2.length ≤ c0_2) (h : zr.f k a0_0 a0_1 l0_2 = some r) :
  Calls Tryz.prog 77 #[.agg #[.int .i64 a0_0,.int .i64 a0_1,.slice A0_2 l0_2.length c0_2]] w fun e w' => e = .returned (.bool r) ∧ Below w.heap.size w w' := by
 have hu67 := Tryz.underlying67
 have HR0_2 := za.mk hr0_2
 have HC0_2 := za.mk hc0_2
 clear hr0_2 hc0_2
 have HB := za.mk (Below.refl w.heap.size w)
 have H : (if a0_0 < 1 then (zr.j0 k true a0_0 a0_1 l0_2) else (if a0_0 > 64 then (zr.j0 k true a0_0 a0_1 l0_2) else (if a0_1 < 1 then (zr.j0 k true a0_0 a0_1 l0_2) else (if a0_1 > 1073741824 then (zr.j0 k true a0_0 a0_1 l0_2) else (if (l0_2.length : Int) < 1 then (zr.j0 k true a0_0 a0_1 l0_2) else (zr.j0 k (decide ((l0_2.length : Int) > 4)) a0_0 a0_1 l0_2)))))) = some r := h
 clear h
 have HC2 := za.mk H
 clear H
 go_enter Tryz.func77,Tryz.ntmps77
 go_upto_region 1 with (first | ((with_reducible refine zn (N := 1) rfl ?_);(try (refine zb7 (by rfl) ?_;dsimp only));refine zl rfl (N := 1) rfl (cs := #[.int .i64 a0_0,.int .i64 a0_1,.slice A0_2 l0_2.length c0_2]) (t := 67) hrq ?_;intro gb158 hg w3 hbox hb;have n_ := haq (ze hBq hb) <| haq (hbox) <| haq ((by rw [hg];exact (zg hBq) : w.heap.size ≤ gb158)) <| haq ((by rw [hg];exact (zg hBq) : w.heap.size ≤ gb158)) <| trivial;clear HB;obtain ⟨HB,BK158,GW158,GE158,_⟩ := n_;clear hb hbox hg))
 (try simp only [Act.put,List.setIfInBounds_toArray,List.set_cons_zero,List.set_cons_succ])
 go_cut [33] (fun v33 wc => ∃ (kq : Nat) (x33_1 : Bool),v33 = .bool x33_1 ∧ za (zr.j0 kq x33_1 a0_0 a0_1 l0_2 = some r) ∧ za (kq ≤ k) ∧ za (wc.heap[gb158]? = some (.cells #[.int .i64 a0_0,.int .i64 a0_1,(.slice A0_2 l0_2.length c0_2)] 67 (0,0))) ∧ za (Below w.heap.size w wc))
 case first =>
  have H := HC2.out
  clear HC2
  by_cases c4 : a0_0 < 1
  ·rw [if_pos c4] at H
   have c4b0 : decide (a0_0 < 1) = true := decide_eq_true c4
   clear c4
   (first | rw [c4b0] | (simp only [zaw,zaB];rw [c4b0]) | skip)
   have H' := za.mk H
   clear H
   obtain ⟨hcz5_0,hcz5_1,hcz5_2,hfz5_0,hfz5_1,hfz5_2⟩ := hcq3 BK158.out
   go_wp2
   go_meet
   case rel => exact ⟨_,(true),(hDq),H',⟨by first | omega | exact Nat.le_refl _⟩,⟨hGq BK158.out⟩,⟨by repeat (first | (with_reducible first | exact HB.out | apply zk | apply zi | apply zo | refine zj ?_ GE158.out) | exact HB.out)⟩⟩
  ·rw [if_neg c4] at H
   have c4b0 : decide (a0_0 < 1) = false := decide_eq_false c4
   clear c4
   (first | rw [c4b0] | (simp only [zaw,zaB];rw [c4b0]) | skip)
   by_cases c6 : a0_0 > 64
   ·rw [if_pos c6] at H
    have c6b0 : decide (64 < a0_0) = true := decide_eq_true c6
    clear c6
    have H' := za.mk H
    clear H
    obtain ⟨hcz7_0,hcz7_1,hcz7_2,hfz7_0,hfz7_1,hfz7_2⟩ := hcq3 BK158.out
    go_wp2
    go_meet
    case rel => exact ⟨_,(true),(hDq),H',⟨by first | omega | exact Nat.le_refl _⟩,⟨hGq BK158.out⟩,⟨by repeat (first | (with_reducible first | exact HB.out | apply zk | apply zi | apply zo | refine zj ?_ GE158.out) | exact HB.out)⟩⟩
   ·rw [if_neg c6] at H
    have c6b0 : decide (64 < a0_0) = false := decide_eq_false c6
    clear c6
    by_cases c8 : a0_1 < 1
    ·rw [if_pos c8] at H
     have c8b0 : decide (a0_1 < 1) = true := decide_eq_true c8
     clear c8
     have H' := za.mk H
     clear H
     obtain ⟨hcz9_0,hcz9_1,hcz9_2,hfz9_0,hfz9_1,hfz9_2⟩ := hcq3 BK158.out
     go_wp2
     go_meet
     case rel => exact ⟨_,(true),(hDq),H',⟨by first | omega | exact Nat.le_refl _⟩,⟨hGq BK158.out⟩,⟨by repeat (first | (with_reducible first | exact HB.out | apply zk | apply zi | apply zo | refine zj ?_ GE158.out) | exact HB.out)⟩⟩
    ·rw [if_neg c8] at H
     have c8b0 : decide (a0_1 < 1) = false := decide_eq_false c8
     clear c8
     by_cases c10 : a0_1 > 1073741824
     ·rw [if_pos c10] at H
      have c10b0 : decide (1073741824 < a0_1) = true := decide_eq_true c10
      clear c10
      have H' := za.mk H
      clear H
      obtain ⟨hcz11_0,hcz11_1,hcz11_2,hfz11_0,hfz11_1,hfz11_2⟩ := hcq3 BK158.out
      go_wp2
      go_meet
      case rel => exact ⟨_,(true),(hDq),H',⟨by first | omega | exact Nat.le_refl _⟩,⟨hGq BK158.out⟩,⟨by repeat (first | (with_reducible first | exact HB.out | apply zk | apply zi | apply zo | refine zj ?_ GE158.out) | exact HB.out)⟩⟩
     ·rw [if_neg c10] at H
      have c10b0 : decide (1073741824 < a0_1) = false := decide_eq_false c10
      clear c10
      by_cases c12 : (l0_2.length : Int) < 1
      ·rw [if_pos c12] at H
       have c12b0 : decide ((l0_2.length : Int) < 1) = true := decide_eq_true c12
       have c12b1 : decide (l0_2.length < 1) = true := decide_eq_true (by omega)
       clear c12
       have H' := za.mk H
       clear H
       obtain ⟨hcz13_0,hcz13_1,hcz13_2,hfz13_0,hfz13_1,hfz13_2⟩ := hcq3 BK158.out
       go_wp2
       go_meet
       case rel => exact ⟨_,(true),(hDq),H',⟨by first | omega | exact Nat.le_refl _⟩,⟨hGq BK158.out⟩,⟨by repeat (first | (with_reducible first | exact HB.out | apply zk | apply zi | apply zo | refine zj ?_ GE158.out) | exact HB.out)⟩⟩
      ·rw [if_neg c12] at H
       have c12b0 : decide ((l0_2.length : Int) < 1) = false := decide_eq_false c12
       have c12b1 : decide (l0_2.length < 1) = false := decide_eq_false (by omega)
       clear c12
       have H' := za.mk H
       clear H
       obtain ⟨hcz14_0,hcz14_1,hcz14_2,hfz14_0,hfz14_1,hfz14_2⟩ := hcq3 BK158.out
       go_wp2
       go_meet
       case rel => exact ⟨_,(decide ((l0_2.length : Int) > 4)),(hDq),H',⟨by first | omega | exact Nat.le_refl _⟩,⟨hGq BK158.out⟩,⟨by repeat (first | (with_reducible first | exact HB.out | apply zk | apply zi | apply zo | refine zj ?_ GE158.out) | exact HB.out)⟩⟩
 case rest =>
  clear HC2
  try clear c1;try clear p2;try clear c4;try clear c4b0;try clear c6;try clear c6b0;try clear c7;try clear c8;try clear c8b0;try clear c10;try clear c10b0;try clear c12;try clear c12b0;try clear c12b1;try clear hcz11_0;try clear hcz11_1;try clear hcz11_2;try clear hcz13_0;try clear hcz13_1;try clear hcz13_2;try clear hcz14_0;try clear hcz14_1;try clear hcz14_2;try clear hcz5_0;try clear hcz5_1;try clear hcz5_2;try clear hcz7_0;try clear hcz7_1;try clear hcz7_2;try clear hcz9_0;try clear hcz9_1;try clear hcz9_2;try clear hfz11_0;try clear hfz11_1;try clear hfz11_2;try clear hfz13_0;try clear hfz13_1;try clear hfz13_2;try clear hfz14_0;try clear hfz14_1;try clear hfz14_2;try clear hfz5_0;try clear hfz5_1;try clear hfz5_2;try clear hfz7_0;try clear hfz7_1;try clear hfz7_2;try clear hfz9_0;try clear hfz9_1;try clear hfz9_2
  obtain ⟨kq,x33_1,rfl,HA,HJ1,BK158,HB⟩ := hcut
  cases kq with
  | zero => exact absurd HA.out (by simp [zr.j0])
  | succ kj1 =>
   have H := HA.out
   clear HA
   simp only [zr.j0] at H
   by_cases c15 : x33_1 = true
   ·subst c15
    have H1 : (some false) = some r := by rw [if_pos rfl] at H;exact H
    clear H
    have H := H1
    clear H1
    obtain rfl := Option.some.inj H
    go_wp2
    go_ret
    exact ⟨hHq,hCq⟩
   ·replace c15 := Bool.eq_false_iff.mpr c15
    subst c15
    have H1 : (zr.l0 kj1 0 a0_0 a0_1 l0_2) = some r := by rw [if_neg (show ¬ (false = true) by decide)] at H;exact H
    clear H
    have H := H1
    clear H1
    have H' := za.mk H
    clear H
    go_wp2
    go_loopg [3] kj1 (fun kq v3 w' => ∃ (x3_2 : Int),v3 = .int .i64 x3_2 ∧ za (zr.l0 kq x3_2 a0_0 a0_1 l0_2 = some r) ∧ za (kq ≤ kj1) ∧ za (w'.heap[gb158]? = some (.cells #[.int .i64 a0_0,.int .i64 a0_1,(.slice A0_2 l0_2.length c0_2)] 67 (0,0))) ∧ za (Below w.heap.size w w'))
    case atStart => exact ⟨(0),(hDq),H',⟨Nat.le_refl _⟩,⟨hGq BK158.out⟩,⟨by repeat (first | (with_reducible first | exact HB.out | apply zk | apply zi | apply zo | refine zj ?_ GE158.out) | exact HB.out)⟩⟩
    case round =>
     clear H'
     try clear c1;try clear p2;try clear c4;try clear c4b0;try clear c6;try clear c6b0;try clear c7;try clear c8;try clear c8b0;try clear c10;try clear c10b0;try clear c12;try clear c12b0;try clear c12b1;try clear c15;try clear hcz11_0;try clear hcz11_1;try clear hcz11_2;try clear hcz13_0;try clear hcz13_1;try clear hcz13_2;try clear hcz14_0;try clear hcz14_1;try clear hcz14_2;try clear hcz5_0;try clear hcz5_1;try clear hcz5_2;try clear hcz7_0;try clear hcz7_1;try clear hcz7_2;try clear hcz9_0;try clear hcz9_1;try clear hcz9_2;try clear hfz11_0;try clear hfz11_1;try clear hfz11_2;try clear hfz13_0;try clear hfz13_1;try clear hfz13_2;try clear hfz14_0;try clear hfz14_1;try clear hfz14_2;try clear hfz5_0;try clear hfz5_1;try clear hfz5_2;try clear hfz7_0;try clear hfz7_1;try clear hfz7_2;try clear hfz9_0;try clear hfz9_1;try clear hfz9_2;try clear p2
     obtain ⟨x3_2,rfl,HA,HK2,BK158,HB⟩ := hrel
     cases gk with
     | zero => exact absurd HA.out (by simp [zr.l0])
     | succ k2 =>
      have H := HA.out
      clear HA
      simp only [zr.l0] at H
      by_cases c16 : x3_2 < (l0_2.length : Int)
      ·rw [if_pos c16] at H
       have c16b0 : decide (x3_2 < (l0_2.length : Int)) = true := decide_eq_true c16
       clear c16
       by_cases c17 : 0 ≤ x3_2
       ·rw [if_pos c17] at H
        have c17b0 : decide (0 ≤ x3_2) = true := decide_eq_true c17
        clear c17
        by_cases c18 : ((zz ByteArray.empty l0_2 x3_2).size : Int) < 1
        ·rw [if_pos c18] at H
         have c18b0 : decide (((zz ByteArray.empty l0_2 x3_2).size : Int) < 1) = true := decide_eq_true c18
         have c18b1 : decide ((zz ByteArray.empty l0_2 x3_2).size < 1) = true := decide_eq_true (by omega)
         clear c18
         obtain rfl := Option.some.inj H
         obtain ⟨hcz19_0,hcz19_1,hcz19_2,hfz19_0,hfz19_1,hfz19_2⟩ := hcq3 BK158.out
         have p159 : 0 ≤ (x3_2 : Int) := hFq
         have q159 : x3_2 < (l0_2.length : Int) := hFq
         obtain ⟨ad159,e159,hx159_0⟩ := Kd.at_string HR0_2.out x3_2 p159 q159
         cases e159
         replace hx159_0 := (HB.out.cell (World.block_lt_of_cell? w _ hx159_0)).trans hx159_0
         replace p159 := eq_true p159
         replace q159 := eq_true q159
         go_wp2
         go_ret
         exact ⟨hHq,hCq⟩
        ·rw [if_neg c18] at H
         have c18b0 : decide (((zz ByteArray.empty l0_2 x3_2).size : Int) < 1) = false := decide_eq_false c18
         have c18b1 : decide ((zz ByteArray.empty l0_2 x3_2).size < 1) = false := decide_eq_false (by omega)
         clear c18
         by_cases c20 : ((zz ByteArray.empty l0_2 x3_2).size : Int) > 48
         ·rw [if_pos c20] at H
          have c20b0 : decide (48 < ((zz ByteArray.empty l0_2 x3_2).size : Int)) = true := decide_eq_true c20
          have c20b1 : decide (48 < (zz ByteArray.empty l0_2 x3_2).size) = true := decide_eq_true (by omega)
          clear c20
          obtain rfl := Option.some.inj H
          obtain ⟨hcz21_0,hcz21_1,hcz21_2,hfz21_0,hfz21_1,hfz21_2⟩ := hcq3 BK158.out
          have p159 : 0 ≤ (x3_2 : Int) := hFq
          have q159 : x3_2 < (l0_2.length : Int) := hFq
          obtain ⟨ad159,e159,hx159_0⟩ := Kd.at_string HR0_2.out x3_2 p159 q159
          cases e159
          replace hx159_0 := (HB.out.cell (World.block_lt_of_cell? w _ hx159_0)).trans hx159_0
          replace p159 := eq_true p159
          replace q159 := eq_true q159
          have p160 : 0 ≤ (x3_2 : Int) := hFq
          have q160 : x3_2 < (l0_2.length : Int) := hFq
          obtain ⟨ad160,e160,hx160_0⟩ := Kd.at_string HR0_2.out x3_2 p160 q160
          obtain rfl : ad159 = ad160 := (by injection e160)
          replace hx160_0 := (HB.out.cell (World.block_lt_of_cell? w _ hx160_0)).trans hx160_0
          replace p160 := eq_true p160
          replace q160 := eq_true q160
          go_wp2
          go_ret
          exact ⟨hHq,hCq⟩
         ·rw [if_neg c20] at H
          have c20b0 : decide (48 < ((zz ByteArray.empty l0_2 x3_2).size : Int)) = false := decide_eq_false c20
          have c20b1 : decide (48 < (zz ByteArray.empty l0_2 x3_2).size) = false := decide_eq_false (by omega)
          clear c20
          have H' := za.mk H
          clear H
          obtain ⟨hcz22_0,hcz22_1,hcz22_2,hfz22_0,hfz22_1,hfz22_2⟩ := hcq3 BK158.out
          have p159 : 0 ≤ (x3_2 : Int) := hFq
          have q159 : x3_2 < (l0_2.length : Int) := hFq
          obtain ⟨ad159,e159,hx159_0⟩ := Kd.at_string HR0_2.out x3_2 p159 q159
          cases e159
          replace hx159_0 := (HB.out.cell (World.block_lt_of_cell? w _ hx159_0)).trans hx159_0
          replace p159 := eq_true p159
          replace q159 := eq_true q159
          have p160 : 0 ≤ (x3_2 : Int) := hFq
          have q160 : x3_2 < (l0_2.length : Int) := hFq
          obtain ⟨ad160,e160,hx160_0⟩ := Kd.at_string HR0_2.out x3_2 p160 q160
          obtain rfl : ad159 = ad160 := (by injection e160)
          replace hx160_0 := (HB.out.cell (World.block_lt_of_cell? w _ hx160_0)).trans hx160_0
          replace p160 := eq_true p160
          replace q160 := eq_true q160
          go_wp2
          go_roundg k2
          case measure => have := HJ1.out;have := HK2.out;omega
          case rel => exact ⟨(wrap64 (x3_2 + 1)),(hDq),H',⟨by have := HJ1.out;have := HK2.out;omega⟩,⟨hGq BK158.out⟩,⟨by repeat (first | (with_reducible first | exact HB.out | apply zk | apply zi | apply zo | refine zj ?_ GE158.out) | exact HB.out)⟩⟩
       ·rw [if_neg c17] at H
        exact absurd H (by simp)
      ·rw [if_neg c16] at H
       have c16b0 : decide (x3_2 < (l0_2.length : Int)) = false := decide_eq_false c16
       clear c16
       obtain rfl := Option.some.inj H
       obtain ⟨hcz23_0,hcz23_1,hcz23_2,hfz23_0,hfz23_1,hfz23_2⟩ := hcq3 BK158.out
       go_wp2
       go_ret
       exact ⟨hHq,hCq⟩
end Go.Proofs.YtlkfelmbhldgfaaGreat.Px