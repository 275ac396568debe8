/- Part 5 of 35 of the proof of the law CertBytes: what is proved is the statement at the end of the last part; its conditions are those of the given row. -/
import Derived.ScopeJumps
import Derived.WalkMore
import Derived.Test.YtfhbeonhnhjikaaGreatZCertBytesD
namespace Go.Proofs.YtfhbeonhnhjikaaGreat.Px
open Go.RowKit Go.Proofs.YtfhbeonhnhjikaaGreatW.PrintWords Go.Proofs.YtfhbeonhnhjikaaGreatW.PrintLast Go.Proofs.YtfhbeonhnhjikaaGreatW.PrintMore
attribute [local go_sem] zz zB zI zJ zp zq zA zC
set_option linter.unusedVariables false
set_option linter.unusedSimpArgs false
def beL (v : Nat) : List Int := if v = 0 then [] else beL (v / 256) ++ [((v % 256 : Nat) : Int)]
termination_by v
decreasing_by omega
theorem zgq : beL 0 = [] := by rw [beL];simp
theorem zhL {v : Nat} (h : 0 < v) : beL v = beL (v / 256) ++ [((v % 256 : Nat) : Int)] := by rw [beL,if_neg (by omega)]
theorem beL_be (v : Nat) : (beL v).map (fun n => UInt8.ofNat n.toNat) = be v := by
 induction v using Nat.strongRecOn with
 | _ v ih =>
  rcases Nat.eq_zero_or_pos v with h | h
  ·subst h;rw [zgq,zdj];rfl
  ·rw [zhL h,zeU h,List.map_append,ih _ (by omega)];rfl
theorem zix (v : Nat) : zbO v = strOfNums (((beL v).length : Int) :: beL v) := (zgA v _ (beL_be v)).symm
def zhu : Value → Int | .int _ q => q | _ => 0
def Nine (cs : Array Value) (p : Nat) (L : List Int) : Prop := cs.size = 9 ∧ p + L.length = 9 ∧ ∀ i,i < L.length → cs[p + i]? = some (.int .u8 (L.getD i 0))
theorem Nine.cell {cs : Array Value} {p : Nat} {L : List Int} (h : Nine cs p L) (i : Nat) (hi : i < 9) : ∃ v,cs[i]? = some v :=
 ⟨cs[i]'(by rw [h.1];exact hi),Array.getElem?_eq_getElem _⟩
theorem Nine.set {cs : Array Value} {q : Nat} {L : List Int} (h : Nine cs (q + 1) L) (x : Int) : Nine (cs.setIfInBounds q (.int .u8 x)) q (x :: L) := by
 refine ⟨by simp [h.1],by have := h.2.1;simp only [List.length_cons];omega,fun i hi => ?_⟩
 rcases i with _ | i
 ·rw [Nat.add_zero,Array.getElem?_setIfInBounds_self_of_lt (by rw [h.1];have := h.2.1;omega)];rfl
 ·have h2 := h.2.2 i (by simpa using hi)
  rw [Array.getElem?_setIfInBounds_ne (by omega),← Nat.add_assoc,Nat.add_right_comm,h2];simp
theorem pow_step {v q : Nat} (h : v < 256 ^ (q + 1)) : v / 256 < 256 ^ q := by
 rw [Nat.pow_succ] at h
 exact Nat.div_lt_of_lt_mul (by rw [Nat.mul_comm];exact h)
set_option maxHeartbeats 1000000 in
set_option maxRecDepth 100000 in
theorem zal.walk (a0 : Nat) (w : World) (h1 : a0 < 18446744073709551616) :
  Calls Tryz.prog 17 #[.int .u64 a0] w fun e w' => e = .returned (.string (zbO a0)) ∧ Below w.heap.size w w' := by
 go_enter Tryz.func17,Tryz.ntmps17
 go_wp2
 refine wp_scope_jumps 0 (fun a' w' => ∃ (v p n : Nat) (L : List Int) (cs : Array Value) (u6 u7 u8 u9 u10 u11 u12 u13 u14 u15 u16 u17 : Value),
   Nine cs p L ∧ v < 256 ^ (p - 1) ∧ 1 ≤ p ∧ L.length = n ∧ beL a0 = beL v ++ L ∧
   w' = w.alloc (.cells cs 80) ∧
   a' = { tmps := #[.int .u64 v,undef,.string ⟨#[]⟩,.pointer (some ⟨w.heap.size,0,none⟩),.int .i64 p,.int .u8 n,u6,u7,u8,u9,u10,u11,u12,u13,u14,u15,u16,u17,undef,undef,undef,undef,undef,undef,undef,undef],defers := [] })
   (fun a' _ => (zhu (a'.tmps.getD 4 undef)).toNat) rfl ?_ ?_
 ·rcases Nat.eq_zero_or_pos a0 with h0 | h0
  ·subst h0
   have hcv := fun W => run_convert_bytes_arg (P := Tryz.prog) (w.alloc W) 82 5 Tryz.underlying82 Tryz.underlying5 w.heap.size 8 1 1 [0] rfl
   go_wp2
   go_step3
   go_wp2
   simp only [Exit.jump]
   go_ret
   exact ⟨by rw [zix,zgq];rfl,(Below.refl _ _).alloc (Nat.le_refl _) _⟩
  ·go_wp2
   go_step3
   go_wp2
   go_step3
   refine ⟨rfl,a0 / 256,8,1,[(a0 % 256 : Nat)],_,_,_,_,_,_,_,_,_,_,_,_,_,?_,?_,?_,rfl,zhL h0,rfl,rfl⟩
   ·refine ⟨rfl,rfl,fun i hi => ?_⟩
    obtain rfl : i = 0 := by simpa using hi
    rfl
   ·have : (256:Nat) ^ (8 - 1) = 72057594037927936 := by decide
    omega
   ·omega
 ·rintro a' w' ⟨v,p,n,L,cs,u6,u7,u8,u9,u10,u11,u12,u13,u14,u15,u16,u17,hN,hv,hp,hn,hb,rfl,rfl⟩
  obtain ⟨q,rfl⟩ : ∃ q,p = q + 1 := ⟨p - 1,by omega⟩
  have hq : q < 9 := by have := hN.2.1;omega
  have hnq : n + q = 8 := by have := hN.2.1;omega
  have hnn : n ≤ 8 := by omega
  have hvb : v < 18446744073709551616 := by
   have : 256 ^ (q + 1 - 1) ≤ 256 ^ 8 := Nat.pow_le_pow_right (by omega) (by omega)
   have : (256:Nat) ^ 8 = 18446744073709551616 := by decide
   omega
  obtain ⟨v0,hc⟩ := hN.cell q hq
  have HN := za.mk hN
  have HB := za.mk hb
  have HV := za.mk hv
  have HL := za.mk hn
  have HQ := za.mk hnq
  clear hN hb hv hn hnq h1
  rcases Nat.eq_zero_or_pos v with h0 | h0
  ·subst h0
   have hq9 : q ≤ 9 := by omega
   have hsl : ∀ W : World,(Instr.sliceAt 80 (.pointer (some ⟨w.heap.size,0,none⟩)) (some (.int .i64 (q : Int))) none none).run Tryz.prog W = .ok (.slice (some ⟨w.heap.size,q,none⟩) (9 - q) (9 - q)) W := by
    intro W
    rw [run_sliceAt_array_l W 80 _ (by kernel_rfl) .i64 q (by omega) (by show (q : Int) ≤ 9;omega)]
    have e1 : (sizeOf (Tryz.prog.elem 80)).run Tryz.prog W = .ok 1 W := by kernel_rfl
    have e2 : Tryz.prog.arrayLen 80 = 9 := by kernel_rfl
    rw [e1,e2]
    simp only [Result.andThen,slicedAt,Int.toNat_natCast,Nat.mul_one]
    rw [if_neg (by omega),zdL]
   have hS := HN.out.set n
   have hcv := run_convert_bytes_arg (P := Tryz.prog) (w.alloc (.cells (cs.setIfInBounds q (.int .u8 (n : Int))) 80)) 82 5 Tryz.underlying82 Tryz.underlying5 w.heap.size q (9 - q) (9 - q) ((n : Int) :: L) (by rw [List.length_cons,HL.out];have := HQ.out;omega)
    (fun i hi => by
     have h2 := hS.2.2 i (by have := hS.2.1;omega)
     rw [World.cell?_alloc_new];exact h2) 9 Tryz.underlying9
   clear hS
   go_wp2
   simp only [Exit.jump]
   go_ret
   exact ⟨by rw [zix,HB.out,zgq,List.nil_append,HL.out];rfl,(Below.refl _ _).alloc (Nat.le_refl _) _⟩
  ·obtain ⟨q',rfl⟩ : ∃ q',q = q' + 1 := ⟨q - 1,by
    rcases Nat.eq_zero_or_pos q with hz | hz
    ·have := HV.out;subst hz;simp at this;omega
    ·omega⟩
   go_wp2
   go_step3
   refine ⟨rfl,⟨v / 256,q' + 1,n + 1,((v % 256 : Nat) : Int) :: L,_,_,_,_,_,_,_,_,_,_,_,_,_,HN.out.set _,pow_step HV.out,by omega,by rw [List.length_cons,HL.out],?_,rfl,rfl⟩,?_⟩
   ·rw [HB.out,zhL h0];simp
   ·simp [zhu];omega
def zal.f (a0 : Int) : Option (ByteArray) := if 0 ≤ a0 then (if a0 < 18446744073709551616 then (some (zbO a0.toNat)) else (none)) else (none)
theorem zal.calls (a0 : Int) (r : ByteArray) (w : World) (h : zal.f a0 = some r) :
  Calls Tryz.prog 17 #[.int .u64 a0] w fun e w' => e = .returned (.string r) ∧ Below w.heap.size w w' := by
 unfold zal.f at h
 split at h
 ·rename_i h0
  split at h
  ·rename_i h1
   obtain ⟨n,rfl⟩ := Int.eq_ofNat_of_zero_le h0
   obtain rfl := Option.some.inj h
   rw [Int.toNat_natCast]
   exact zal.walk n w (by omega)
  ·cases h
 ·cases h
def zbC.f (a0 : ByteArray) : Option (ByteArray) := if a0.size ≤ 1152921504606846976 then (some (zdU a0)) else (none)
theorem zbC.calls (a0 : ByteArray) (r : ByteArray) (w : World) (h : zbC.f a0 = some r) :
  Calls Tryz.prog 16 #[.string a0] w fun e w' => e = .returned (.string r) ∧ Below w.heap.size w w' := by
 unfold zbC.f at h
 split at h
 ·rename_i h0
  obtain rfl := Option.some.inj h
  clear h
  have hn : (zbO a0.size).size ≤ 9 := za0 (by omega)
  have hn2 : (zbO a0.size).size + a0.size ≤ 9223372036854775807 := by omega
  have HN := za.mk (show zal.f (a0.size : Int) = some (zbO a0.size) by unfold zal.f;rw [if_pos (by omega),if_pos (by omega),Int.toNat_natCast])
  go_enter Tryz.func16,Tryz.ntmps16
  go_wp2_with (go_at_call 17;(with_reducible refine (zal.calls _ _ _ HN.out).mono ?_);rintro e w1 ⟨rfl,hb⟩)
  go_ret
  exact ⟨rfl,by assumption⟩
 ·cases h
mutual
def zD.j0 : Nat → ByteArray → Int → Option (Int × ByteArray × Int)
 | 0,_,_ => none
 | k + 1,x0,x5 => zD.l0 k x0 x5 0 1
def zD.l0 : Nat → ByteArray → Int → Int → Int → Option (Int × ByteArray × Int)
 | 0,_,_,_,_ => none
 | k + 1,x0,x5,x6,x7 => if x7 ≤ x5 then (if 0 ≤ x7 then (if x7 < (x0.size : Int) then (zD.l0 k x0 x5 (Go.bits .or .u64 (IntKind.u64.wrap (x6 * 256)) (IntKind.u64.wrap (bt x0 x7))) (wrap64 (x7 + 1))) else (none)) else (none)) else (if 0 ≤ (wrap64 (x5 + 1)) then (if (wrap64 (x5 + 1)) ≤ (x0.size : Int) then (some (x6,x0.extract ((wrap64 (x5 + 1)) : Int).toNat x0.size,0)) else (none)) else (none))
end
def zD.f (k : Nat) (a0 : ByteArray) : Option (Int × ByteArray × Int) := if a0.toList = ([] : List UInt8) then (some (0,(⟨#[]⟩ : ByteArray),2)) else (if 0 < (a0.size : Int) then (if (wrap64 (bt a0 0)) > 8 then (some (0,(⟨#[]⟩ : ByteArray),3)) else (if (a0.size : Int) ≤ (wrap64 (bt a0 0)) then (some (0,(⟨#[]⟩ : ByteArray),2)) else (if (wrap64 (bt a0 0)) > 0 then (if 1 < (a0.size : Int) then (if (bt a0 1) = 0 then (some (0,(⟨#[]⟩ : ByteArray),3)) else (zD.j0 k a0 (wrap64 (bt a0 0)))) else (none)) else (zD.j0 k a0 (wrap64 (bt a0 0)))))) else (none))
set_option maxHeartbeats 8000000 in
set_option maxRecDepth 100000 in
theorem zD.calls (k : Nat) (a0 : ByteArray) (r1 : Int) (r2 : ByteArray) (r3 : Int) (w : World) (h : zD.f k a0 = some (r1,r2,r3)) :
  Calls Tryz.prog 23 #[.string a0] w fun e w' => e = .returned (.tuple #[.int .u64 r1,.string r2,.int .i64 r3]) ∧ zaB w w' := by
 have H : (if a0.toList = ([] : List UInt8) then (some (0,(⟨#[]⟩ : ByteArray),2)) else (if 0 < (a0.size : Int) then (if (wrap64 (bt a0 0)) > 8 then (some (0,(⟨#[]⟩ : ByteArray),3)) else (if (a0.size : Int) ≤ (wrap64 (bt a0 0)) then (some (0,(⟨#[]⟩ : ByteArray),2)) else (if (wrap64 (bt a0 0)) > 0 then (if 1 < (a0.size : Int) then (if (bt a0 1) = 0 then (some (0,(⟨#[]⟩ : ByteArray),3)) else (zD.j0 k a0 (wrap64 (bt a0 0)))) else (none)) else (zD.j0 k a0 (wrap64 (bt a0 0)))))) else (none))) = some (r1,r2,r3) := h
 clear h
 by_cases c2 : a0.toList = ([] : List UInt8)
 ·rw [if_pos c2] at H
  have c2b0 : (a0.toList == ([] : List UInt8)) = true := beq_iff_eq.mpr c2
  have c2b1 : (a0.toList != ([] : List UInt8)) = false := bne_eq_false_iff_eq.mpr c2
  clear c2
  simp only [Option.some.injEq,Prod.mk.injEq] at H
  obtain ⟨rfl,rfl,rfl⟩ := H
  go_enter Tryz.func23,Tryz.ntmps23
  go_wp2
  repeat (go_quiet (fail);try go_wp2)
  go_ret3
  exact ⟨hDq,hEq⟩
 ·rw [if_neg c2] at H
  have c2b0 : (a0.toList == ([] : List UInt8)) = false := beq_eq_false_iff_ne.mpr c2
  have c2b1 : (a0.toList != ([] : List UInt8)) = true := bne_iff_ne.mpr c2
  by_cases c3 : 0 < (a0.size : Int)
  ·rw [if_pos c3] at H
   have c3b0 : decide (0 < (a0.size : Int)) = true := decide_eq_true c3
   have c3b1 : decide (0 < a0.size) = true := decide_eq_true (by omega)
   clear c3
   have HC5 := za.mk H
   clear H
   have p4 : 0 ≤ (0 : Int) := (by omega)
   have q4 : 0 < a0.size := (by have : (0 : Int) < (a0.size : Int) := hFq;omega)
   have hx4 : ∀ h : 0 < a0.size,((a0[0]'h).toNat : Int) = bt a0 0 := zcm a0 0
   clear p4
   have qi4 : (0 < (a0.size : Int)) = True := eq_true (hFq)
   replace q4 := eq_true q4
   go_enter Tryz.func23,Tryz.ntmps23
   go_upto_block 0 with (fail)
   repeat (go_quiet (fail);go_upto_block 0 with (fail))
   go_cut [] (fun wc => ∃ (kq : Nat),za (zD.j0 kq a0 (wrap64 (bt a0 0)) = some (r1,r2,r3)) ∧ za (kq ≤ k) ∧ zaB w wc)
   case first =>
    have H := HC5.out
    clear HC5
    by_cases c6 : (wrap64 (bt a0 0)) > 8
    ·rw [if_pos c6] at H
     have c6b0 : decide (8 < (wrap64 (bt a0 0))) = true := decide_eq_true c6
     clear c6
     (first | rw [c6b0] | (simp only [zK,zL];rw [c6b0]) | skip)
     simp only [Option.some.injEq,Prod.mk.injEq] at H
     obtain ⟨rfl,rfl,rfl⟩ := H
     go_wp2
     repeat (go_quiet (fail);try go_wp2)
     go_ret3
     exact ⟨hDq,hEq⟩
    ·rw [if_neg c6] at H
     have c6b0 : decide (8 < (wrap64 (bt a0 0))) = false := decide_eq_false c6
     clear c6
     (first | rw [c6b0] | (simp only [zK,zL];rw [c6b0]) | skip)
     by_cases c7 : (a0.size : Int) ≤ (wrap64 (bt a0 0))
     ·rw [if_pos c7] at H
      have c7b0 : decide ((a0.size : Int) ≤ (wrap64 (bt a0 0))) = true := decide_eq_true c7
      clear c7
      simp only [Option.some.injEq,Prod.mk.injEq] at H
      obtain ⟨rfl,rfl,rfl⟩ := H
      go_wp2
      repeat (go_quiet (fail);try go_wp2)
      go_ret3
      exact ⟨hDq,hEq⟩
     ·rw [if_neg c7] at H
      have c7b0 : decide ((a0.size : Int) ≤ (wrap64 (bt a0 0))) = false := decide_eq_false c7
      clear c7
      by_cases c8 : (wrap64 (bt a0 0)) > 0
      ·rw [if_pos c8] at H
       have c8b0 : decide (0 < (wrap64 (bt a0 0))) = true := decide_eq_true c8
       clear c8
       by_cases c9 : 1 < (a0.size : Int)
       ·rw [if_pos c9] at H
        have c9b0 : decide (1 < (a0.size : Int)) = true := decide_eq_true c9
        have c9b1 : decide (1 < a0.size) = true := decide_eq_true (by omega)
        clear c9
        by_cases c11 : (bt a0 1) = 0
        ·rw [if_pos c11] at H
         have c11b0 : ((bt a0 1) == 0) = true := beq_iff_eq.mpr c11
         have c11b1 : ((bt a0 1) != 0) = false := bne_eq_false_iff_eq.mpr c11
         clear c11
         simp only [Option.some.injEq,Prod.mk.injEq] at H
         obtain ⟨rfl,rfl,rfl⟩ := H
         have p10 : 0 ≤ (1 : Int) := (by omega)
         have q10 : 1 < a0.size := (by have : (1 : Int) < (a0.size : Int) := hFq;omega)
         have hx10 : ∀ h : 1 < a0.size,((a0[1]'h).toNat : Int) = bt a0 1 := zcm a0 1
         clear p10
         have qi10 : (1 < (a0.size : Int)) = True := eq_true (hFq)
         replace q10 := eq_true q10
         go_wp2
         repeat (go_quiet (fail);try go_wp2)
         go_ret3
         exact ⟨hDq,hEq⟩
        ·rw [if_neg c11] at H
         have c11b0 : ((bt a0 1) == 0) = false := beq_eq_false_iff_ne.mpr c11
         have c11b1 : ((bt a0 1) != 0) = true := bne_iff_ne.mpr c11
         have H' := za.mk H
         clear H
         have p10 : 0 ≤ (1 : Int) := (by omega)
         have q10 : 1 < a0.size := (by have : (1 : Int) < (a0.size : Int) := hFq;omega)
         have hx10 : ∀ h : 1 < a0.size,((a0[1]'h).toNat : Int) = bt a0 1 := zcm a0 1
         clear p10
         have qi10 : (1 < (a0.size : Int)) = True := eq_true (hFq)
         replace q10 := eq_true q10
         go_wp2
         repeat (go_quiet (fail);try go_wp2)
         go_meet
         case rel => exact ⟨_,H',⟨by first | omega | exact Nat.le_refl _⟩,hEq⟩
       ·rw [if_neg c9] at H
        exact absurd H (by simp)
      ·rw [if_neg c8] at H
       have c8b0 : decide (0 < (wrap64 (bt a0 0))) = false := decide_eq_false c8
       clear c8
       have H' := za.mk H
       clear H
       go_wp2
       repeat (go_quiet (fail);try go_wp2)
       go_meet
       case rel => exact ⟨_,H',⟨by first | omega | exact Nat.le_refl _⟩,hEq⟩
   case rest =>
    clear HC5
    try clear c1;try clear p1;try clear q1;try clear hx1;try clear qi1;try clear c2;try clear c2b0;try clear c2b1;try clear p2;try clear c3;try clear c3b0;try clear c3b1;try clear p4;try clear q4;try clear hx4;try clear qi4;try clear c6;try clear c6b0;try clear p6;try clear c7;try clear c7b0;try clear c8;try clear c8b0;try clear c9;try clear c9b0;try clear c9b1;try clear p10;try clear q10;try clear hx10;try clear qi10;try clear c11;try clear c11b0;try clear c11b1;try clear p10;try clear p4;try clear q10;try clear q4
    obtain ⟨kq,HA,HJ4,⟨mc4,rfl⟩⟩ := hcut
    cases kq with
    | zero => exact absurd HA.out (by simp [zD.j0])
    | succ kj4 =>
     have H := HA.out
     clear HA
     simp only [zD.j0] at H
     have H' := za.mk H
     clear H
     go_wp2
     repeat (go_quiet (fail);try go_wp2)
     go_loopg [6,7] kj4 (fun kq v6 v7 w' => ∃ (x6_2 : Int) (x7_2 : Int),v6 = .int .u64 x6_2 ∧ v7 = .int .i64 x7_2 ∧ za (zD.l0 kq a0 (wrap64 (bt a0 0)) x6_2 x7_2 = some (r1,r2,r3)) ∧ za (kq ≤ kj4) ∧ zaB w w')
     case atStart => exact ⟨(0),(1),(hDq),(hDq),H',⟨Nat.le_refl _⟩,hEq⟩
     case round =>
      clear H'
      try clear c1;try clear p1;try clear q1;try clear hx1;try clear qi1;try clear c2;try clear c2b0;try clear c2b1;try clear p2;try clear c3;try clear c3b0;try clear c3b1;try clear c4;try clear p4;try clear q4;try clear hx4;try clear qi4;try clear c6;try clear c6b0;try clear p6;try clear c7;try clear c7b0;try clear c8;try clear c8b0;try clear c9;try clear c9b0;try clear c9b1;try clear p10;try clear q10;try clear hx10;try clear qi10;try clear c11;try clear c11b0;try clear c11b1;try clear p1;try clear p10;try clear p2;try clear p4;try clear p6;try clear q1;try clear q10;try clear q4
      obtain ⟨x6_2,x7_2,rfl,rfl,HA,HK2,⟨m2,rfl⟩⟩ := hrel
      cases gk with
      | zero => exact absurd HA.out (by simp [zD.l0])
      | succ k2 =>
       have H := HA.out
       clear HA
       simp only [zD.l0] at H
       by_cases c12 : x7_2 ≤ (wrap64 (bt a0 0))
       ·rw [if_pos c12] at H
        have c12b0 : decide (x7_2 ≤ (wrap64 (bt a0 0))) = true := decide_eq_true c12
        clear c12
        by_cases c13 : 0 ≤ x7_2
        ·rw [if_pos c13] at H
         have c13b0 : decide (0 ≤ x7_2) = true := decide_eq_true c13
         clear c13
         by_cases c14 : x7_2 < (a0.size : Int)
         ·rw [if_pos c14] at H
          have c14b0 : decide (x7_2 < (a0.size : Int)) = true := decide_eq_true c14
          clear c14
          have H' := za.mk H
          clear H
          have p15 : 0 ≤ (x7_2 : Int) := hFq
          have q15 : x7_2 < (a0.size : Int) := hFq
          have hx15 := zcm a0 x7_2
          replace p15 := eq_true p15
          replace q15 := eq_true q15
          go_wp2
          repeat (go_quiet (fail);try go_wp2)
          go_roundg k2
          case measure => have := HJ4.out;have := HK2.out;omega
          case rel => exact ⟨(Go.bits .or .u64 (IntKind.u64.wrap (x6_2 * 256)) (IntKind.u64.wrap (bt a0 x7_2))),(wrap64 (x7_2 + 1)),(hDq),(hDq),H',⟨by have := HJ4.out;have := HK2.out;omega⟩,hEq⟩
         ·rw [if_neg c14] at H
          exact absurd H (by simp)
        ·rw [if_neg c13] at H
         exact absurd H (by simp)
       ·rw [if_neg c12] at H
        have c12b0 : decide (x7_2 ≤ (wrap64 (bt a0 0))) = false := decide_eq_false c12
        clear c12
        obtain ⟨ji16,hji16⟩ : ∃ j_ : Int,(wrap64 ((wrap64 (bt a0 0)) + 1)) = j_ := ⟨_,rfl⟩
        replace H : (if 0 ≤ (ji16) then (if (ji16) ≤ (a0.size : Int) then (some (x6_2,a0.extract ((ji16) : Int).toNat a0.size,0)) else (none)) else (none)) = some (r1,r2,r3) := by first | (rw [hji16] at H;exact H) | (simp only [hji16] at H ⊢;exact H)
        have hji16w : (IntKind.i64.wrap ((wrap64 (bt a0 0)) + 1)) = ji16 := (zK _).trans hji16
        by_cases c17 : 0 ≤ (ji16)
        ·rw [if_pos c17] at H
         have c17b0 := eq_true c17
         have c17b1 : decide (0 ≤ (ji16)) = true := decide_eq_true c17
         clear c17
         by_cases c18 : (ji16) ≤ (a0.size : Int)
         ·rw [if_pos c18] at H
          have c18b0 := eq_true c18
          have c18b1 : decide ((ji16) ≤ (a0.size : Int)) = true := decide_eq_true c18
          clear c18
          simp only [Option.some.injEq,Prod.mk.injEq] at H
          obtain ⟨rfl,rfl,rfl⟩ := H
          go_wp2
          repeat (go_quiet (fail);try go_wp2)
          go_ret3
          exact ⟨by first | rfl | (simp;done) | (simp only [← hji16] <;> (first | rfl | simp)) | (simp [*];done),hEq⟩
         ·rw [if_neg c18] at H
          exact absurd H (by simp)
        ·rw [if_neg c17] at H
         exact absurd H (by simp)
  ·rw [if_neg c3] at H
   exact absurd H (by simp)
mutual
def zi.j0 : Nat → ByteArray → Int → Bool → Option (Int × ByteArray × Int)
 | 0,_,_,_ => none
 | k + 1,x0,x5,x27 => if x27 = true then (some (0,(⟨#[]⟩ : ByteArray),3)) else (zi.l0 k x0 x5 0 1)
def zi.l0 : Nat → ByteArray → Int → Int → Int → Option (Int × ByteArray × Int)
 | 0,_,_,_,_ => none
 | k + 1,x0,x5,x6,x7 => if x7 ≤ x5 then (if 0 ≤ x7 then (if x7 < (x0.size : Int) then (zi.l0 k x0 x5 (IntKind.u64.wrap ((IntKind.u64.wrap (x6 * 256)) + (IntKind.u64.wrap (bt x0 x7)))) (wrap64 (x7 + 1))) else (none)) else (none)) else (if 0 ≤ (wrap64 (1 + x5)) then (if (wrap64 (1 + x5)) ≤ (x0.size : Int) then (some (x6,x0.extract ((wrap64 (1 + x5)) : Int).toNat x0.size,0)) else (none)) else (none))
end
def zi.f (k : Nat) (a0 : ByteArray) : Option (Int × ByteArray × Int) := if (a0.size : Int) = 0 then (some (0,(⟨#[]⟩ : ByteArray),2)) else (if 0 < (a0.size : Int) then (if (wrap64 (bt a0 0)) > 8 then (some (0,(⟨#[]⟩ : ByteArray),3)) else (if (a0.size : Int) < (wrap64 (1 + (wrap64 (bt a0 0)))) then (some (0,(⟨#[]⟩ : ByteArray),2)) else (if (wrap64 (bt a0 0)) > 0 then (if 1 < (a0.size : Int) then (zi.j0 k a0 (wrap64 (bt a0 0)) ((bt a0 1) == 0)) else (none)) else (zi.j0 k a0 (wrap64 (bt a0 0)) false)))) else (none))
set_option maxHeartbeats 8000000 in
set_option maxRecDepth 100000 in
theorem zi.calls (k : Nat) (a0 : ByteArray) (r1 : Int) (r2 : ByteArray) (r3 : Int) (w : World) (h : zi.f k a0 = some (r1,r2,r3)) :
  Calls Tryz.prog 26 #[.string a0] w fun e w' => e = .returned (.tuple #[.int .u64 r1,.string r2,.int .i64 r3]) ∧ zaB w w' := by
 have H : (if (a0.size : Int) = 0 then (some (0,(⟨#[]⟩ : ByteArray),2)) else (if 0 < (a0.size : Int) then (if (wrap64 (bt a0 0)) > 8 then (some (0,(⟨#[]⟩ : ByteArray),3)) else (if (a0.size : Int) < (wrap64 (1 + (wrap64 (bt a0 0)))) then (some (0,(⟨#[]⟩ : ByteArray),2)) else (if (wrap64 (bt a0 0)) > 0 then (if 1 < (a0.size : Int) then (zi.j0 k a0 (wrap64 (bt a0 0)) ((bt a0 1) == 0)) else (none)) else (zi.j0 k a0 (wrap64 (bt a0 0)) false)))) else (none))) = some (r1,r2,r3) := h
 clear h
 by_cases c2 : (a0.size : Int) = 0
 ·rw [if_pos c2] at H
  have c2b0 : ((a0.size : Int) == 0) = true := beq_iff_eq.mpr c2
  have c2b1 : ((a0.size : Int) != 0) = false := bne_eq_false_iff_eq.mpr c2
  clear c2
  simp only [Option.some.injEq,Prod.mk.injEq] at H
  obtain ⟨rfl,rfl,rfl⟩ := H
  go_enter Tryz.func26,Tryz.ntmps26
  go_wp2
  repeat (go_quiet (fail);try go_wp2)
  go_ret3
  exact ⟨hDq,hEq⟩
 ·rw [if_neg c2] at H
  have c2b0 : ((a0.size : Int) == 0) = false := beq_eq_false_iff_ne.mpr c2
  have c2b1 : ((a0.size : Int) != 0) = true := bne_iff_ne.mpr c2
  by_cases c3 : 0 < (a0.size : Int)
  ·rw [if_pos c3] at H
   have c3b0 : decide (0 < (a0.size : Int)) = true := decide_eq_true c3
   have c3b1 : decide (0 < a0.size) = true := decide_eq_true (by omega)
   clear c3
   by_cases c5 : (wrap64 (bt a0 0)) > 8
   ·rw [if_pos c5] at H
    have c5b0 : decide (8 < (wrap64 (bt a0 0))) = true := decide_eq_true c5
    clear c5
    simp only [Option.some.injEq,Prod.mk.injEq] at H
    obtain ⟨rfl,rfl,rfl⟩ := H
    have p4 : 0 ≤ (0 : Int) := (by omega)
    have q4 : 0 < a0.size := (by have : (0 : Int) < (a0.size : Int) := hFq;omega)
    have hx4 : ∀ h : 0 < a0.size,((a0[0]'h).toNat : Int) = bt a0 0 := zcm a0 0
    clear p4
    have qi4 : (0 < (a0.size : Int)) = True := eq_true (hFq)
    replace q4 := eq_true q4
    go_enter Tryz.func26,Tryz.ntmps26
    go_wp2
    repeat (go_quiet (fail);try go_wp2)
    go_ret3
    exact ⟨hDq,hEq⟩
   ·rw [if_neg c5] at H
    have c5b0 : decide (8 < (wrap64 (bt a0 0))) = false := decide_eq_false c5
    clear c5
    by_cases c6 : (a0.size : Int) < (wrap64 (1 + (wrap64 (bt a0 0))))
    ·rw [if_pos c6] at H
     have c6b0 : decide ((a0.size : Int) < (wrap64 (1 + (wrap64 (bt a0 0))))) = true := decide_eq_true c6
     clear c6
     simp only [Option.some.injEq,Prod.mk.injEq] at H
     obtain ⟨rfl,rfl,rfl⟩ := H
     have p4 : 0 ≤ (0 : Int) := (by omega)
     have q4 : 0 < a0.size := (by have : (0 : Int) < (a0.size : Int) := hFq;omega)
     have hx4 : ∀ h : 0 < a0.size,((a0[0]'h).toNat : Int) = bt a0 0 := zcm a0 0
     clear p4
     have qi4 : (0 < (a0.size : Int)) = True := eq_true (hFq)
     replace q4 := eq_true q4
     go_enter Tryz.func26,Tryz.ntmps26
     go_wp2
     repeat (go_quiet (fail);try go_wp2)
     go_ret3
     exact ⟨hDq,hEq⟩
    ·rw [if_neg c6] at H
     have c6b0 : decide ((a0.size : Int) < (wrap64 (1 + (wrap64 (bt a0 0))))) = false := decide_eq_false c6
     clear c6
     have HC7 := za.mk H
     clear H
     have p4 : 0 ≤ (0 : Int) := (by omega)
     have q4 : 0 < a0.size := (by have : (0 : Int) < (a0.size : Int) := hFq;omega)
     have hx4 : ∀ h : 0 < a0.size,((a0[0]'h).toNat : Int) = bt a0 0 := zcm a0 0
     clear p4
     have qi4 : (0 < (a0.size : Int)) = True := eq_true (hFq)
     replace q4 := eq_true q4
     go_enter Tryz.func26,Tryz.ntmps26
     go_upto_region 8 with (fail)
     repeat (go_quiet (fail);go_upto_region 8 with (fail))
     go_cut [27] (fun v27 wc => ∃ (kq : Nat) (x27_6 : Bool),v27 = .bool x27_6 ∧ za (zi.j0 kq a0 (wrap64 (bt a0 0)) x27_6 = some (r1,r2,r3)) ∧ za (kq ≤ k) ∧ zaB w wc)
     case first =>
      have H := HC7.out
      clear HC7
      by_cases c8 : (wrap64 (bt a0 0)) > 0
      ·rw [if_pos c8] at H
       have c8b0 : decide (0 < (wrap64 (bt a0 0))) = true := decide_eq_true c8
       clear c8
       (first | rw [c8b0] | (simp only [zK,zL];rw [c8b0]) | skip)
       by_cases c9 : 1 < (a0.size : Int)
       ·rw [if_pos c9] at H
        have c9b0 : decide (1 < (a0.size : Int)) = true := decide_eq_true c9
        have c9b1 : decide (1 < a0.size) = true := decide_eq_true (by omega)
        clear c9
        have H' := za.mk H
        clear H
        have p10 : 0 ≤ (1 : Int) := (by omega)
        have q10 : 1 < a0.size := (by have : (1 : Int) < (a0.size : Int) := hFq;omega)
        have hx10 : ∀ h : 1 < a0.size,((a0[1]'h).toNat : Int) = bt a0 1 := zcm a0 1
        clear p10
        have qi10 : (1 < (a0.size : Int)) = True := eq_true (hFq)
        replace q10 := eq_true q10
        go_wp2
        repeat (go_quiet (fail);try go_wp2)
        go_meet
        case rel => exact ⟨_,(((bt a0 1) == 0)),(hDq),H',⟨by first | omega | exact Nat.le_refl _⟩,hEq⟩
       ·rw [if_neg c9] at H
        exact absurd H (by simp)
      ·rw [if_neg c8] at H
       have c8b0 : decide (0 < (wrap64 (bt a0 0))) = false := decide_eq_false c8
       clear c8
       (first | rw [c8b0] | (simp only [zK,zL];rw [c8b0]) | skip)
       have H' := za.mk H
       clear H
       go_wp2
       repeat (go_quiet (fail);try go_wp2)
       go_meet
       case rel => exact ⟨_,(false),(hDq),H',⟨by first | omega | exact Nat.le_refl _⟩,hEq⟩
     case rest =>
      clear HC7
      try clear p1;try clear q1;try clear hx1;try clear qi1;try clear c2;try clear c2b0;try clear c2b1;try clear p2;try clear c3;try clear c3b0;try clear c3b1;try clear p4;try clear q4;try clear hx4;try clear qi4;try clear c5;try clear c5b0;try clear c6;try clear c6b0;try clear p6;try clear c8;try clear c8b0;try clear c9;try clear c9b0;try clear c9b1;try clear p10;try clear q10;try clear hx10;try clear qi10;try clear p10;try clear p4;try clear q10;try clear q4
      obtain ⟨kq,x27_6,rfl,HA,HJ6,⟨mc6,rfl⟩⟩ := hcut
      cases kq with
      | zero => exact absurd HA.out (by simp [zi.j0])
      | succ kj6 =>
       have H := HA.out
       clear HA
       simp only [zi.j0] at H
       by_cases c11 : x27_6 = true
       ·subst c11
        have H1 : (some (0,(⟨#[]⟩ : ByteArray),3)) = some (r1,r2,r3) := by rw [if_pos rfl] at H;exact H
        clear H
        have H := H1
        clear H1
        simp only [Option.some.injEq,Prod.mk.injEq] at H
        obtain ⟨rfl,rfl,rfl⟩ := H
        go_wp2
        repeat (go_quiet (fail);try go_wp2)
        go_ret3
        exact ⟨hDq,hEq⟩
       ·replace c11 := Bool.eq_false_iff.mpr c11
        subst c11
        have H1 : (zi.l0 kj6 a0 (wrap64 (bt a0 0)) 0 1) = some (r1,r2,r3) := by rw [if_neg (show ¬ (false = true) by decide)] at H;exact H
        clear H
        have H := H1
        clear H1
        have H' := za.mk H
        clear H
        go_wp2
        repeat (go_quiet (fail);try go_wp2)
        go_loopg [6,7] kj6 (fun kq v6 v7 w' => ∃ (x6_2 : Int) (x7_2 : Int),v6 = .int .u64 x6_2 ∧ v7 = .int .i64 x7_2 ∧ za (zi.l0 kq a0 (wrap64 (bt a0 0)) x6_2 x7_2 = some (r1,r2,r3)) ∧ za (kq ≤ kj6) ∧ zaB w w')
        case atStart => exact ⟨(0),(1),(hDq),(hDq),H',⟨Nat.le_refl _⟩,hEq⟩
        case round =>
         clear H'
         try clear c1;try clear p1;try clear q1;try clear hx1;try clear qi1;try clear c2;try clear c2b0;try clear c2b1;try clear p2;try clear c3;try clear c3b0;try clear c3b1;try clear p4;try clear q4;try clear hx4;try clear qi4;try clear c5;try clear c5b0;try clear c6;try clear c6b0;try clear p6;try clear c8;try clear c8b0;try clear c9;try clear c9b0;try clear c9b1;try clear p10;try clear q10;try clear hx10;try clear qi10;try clear c11;try clear p1;try clear p10;try clear p2;try clear p4;try clear p6;try clear q1;try clear q10;try clear q4
         obtain ⟨x6_2,x7_2,rfl,rfl,HA,HK2,⟨m2,rfl⟩⟩ := hrel
         cases gk with
         | zero => exact absurd HA.out (by simp [zi.l0])
         | succ k2 =>
          have H := HA.out
          clear HA
          simp only [zi.l0] at H
          by_cases c12 : x7_2 ≤ (wrap64 (bt a0 0))
          ·rw [if_pos c12] at H
           have c12b0 : decide (x7_2 ≤ (wrap64 (bt a0 0))) = true := decide_eq_true c12
           clear c12
           by_cases c13 : 0 ≤ x7_2
           ·rw [if_pos c13] at H
            have c13b0 : decide (0 ≤ x7_2) = true := decide_eq_true c13
            clear c13
            by_cases c14 : x7_2 < (a0.size : Int)
            ·rw [if_pos c14] at H
             have c14b0 : decide (x7_2 < (a0.size : Int)) = true := decide_eq_true c14
             clear c14
             have H' := za.mk H
             clear H
             have p15 : 0 ≤ (x7_2 : Int) := hFq
             have q15 : x7_2 < (a0.size : Int) := hFq
             have hx15 := zcm a0 x7_2
             replace p15 := eq_true p15
             replace q15 := eq_true q15
             go_wp2
             repeat (go_quiet (fail);try go_wp2)
             go_roundg k2
             case measure => have := HJ6.out;have := HK2.out;omega
             case rel => exact ⟨(IntKind.u64.wrap ((IntKind.u64.wrap (x6_2 * 256)) + (IntKind.u64.wrap (bt a0 x7_2)))),(wrap64 (x7_2 + 1)),(hDq),(hDq),H',⟨by have := HJ6.out;have := HK2.out;omega⟩,hEq⟩
            ·rw [if_neg c14] at H
             exact absurd H (by simp)
           ·rw [if_neg c13] at H
            exact absurd H (by simp)
          ·rw [if_neg c12] at H
           have c12b0 : decide (x7_2 ≤ (wrap64 (bt a0 0))) = false := decide_eq_false c12
           clear c12
           obtain ⟨ji16,hji16⟩ : ∃ j_ : Int,(wrap64 (1 + (wrap64 (bt a0 0)))) = j_ := ⟨_,rfl⟩
           replace H : (if 0 ≤ (ji16) then (if (ji16) ≤ (a0.size : Int) then (some (x6_2,a0.extract ((ji16) : Int).toNat a0.size,0)) else (none)) else (none)) = some (r1,r2,r3) := by first | (rw [hji16] at H;exact H) | (simp only [hji16] at H ⊢;exact H)
           (try rw [hji16] at c6b0)
           have hji16w : (IntKind.i64.wrap (1 + (wrap64 (bt a0 0)))) = ji16 := (zK _).trans hji16
           by_cases c17 : 0 ≤ (ji16)
           ·rw [if_pos c17] at H
            have c17b0 := eq_true c17
            have c17b1 : decide (0 ≤ (ji16)) = true := decide_eq_true c17
            clear c17
            by_cases c18 : (ji16) ≤ (a0.size : Int)
            ·rw [if_pos c18] at H
             have c18b0 := eq_true c18
             have c18b1 : decide ((ji16) ≤ (a0.size : Int)) = true := decide_eq_true c18
             clear c18
             simp only [Option.some.injEq,Prod.mk.injEq] at H
             obtain ⟨rfl,rfl,rfl⟩ := H
             go_wp2
             repeat (go_quiet (fail);try go_wp2)
             go_ret3
             exact ⟨by first | rfl | (simp;done) | (simp only [← hji16] <;> (first | rfl | simp)) | (simp [*];done),hEq⟩
            ·rw [if_neg c18] at H
             exact absurd H (by simp)
           ·rw [if_neg c17] at H
            exact absurd H (by simp)
  ·rw [if_neg c3] at H
   exact absurd H (by simp)
def zr.l0 : Nat → Int → ByteArray → Option (ByteArray)
 | 0,_,_ => none
 | k + 1,x0,x3 => if x0 > 0 then ((some (([(Int.tmod x0 256) % 256] : List Int) : List Int)).bind fun y101 => (if (strOfNums y101).size + x3.size ≤ 9223372036854775807 then (zr.l0 k (IntKind.u64.wrap (Int.tdiv x0 256)) ((strOfNums y101) ++ x3)) else (none))) else ((some (([((x3.size : Int)) % 256] : List Int) : List Int)).bind fun y104 => (if (strOfNums y104).size + x3.size ≤ 9223372036854775807 then (some ((strOfNums y104) ++ x3)) else (none)))
def zr.f (k : Nat) (a0 : Int) : Option (ByteArray) := zr.l0 k a0 (⟨#[]⟩ : ByteArray)
set_option maxHeartbeats 8000000 in
set_option maxRecDepth 100000 in
theorem zr.calls (k : Nat) (a0 : Int) (r : ByteArray) (w : World) (h : zr.f k a0 = some r) :
  Calls Tryz.prog 21 #[.int .u64 a0] w fun e w' => e = .returned (.string r) ∧ Below w.heap.size w w' := by
 have HB := za.mk (Below.refl w.heap.size w)
 have H : (zr.l0 k a0 (⟨#[]⟩ : ByteArray)) = some r := h
 clear h
 have H' := za.mk H
 clear H
 go_enter Tryz.func21,Tryz.ntmps21
 go_wp2
 go_loopg [0,3] k (fun kq v0 v3 w' => ∃ (x0_1 : Int) (x3_1 : ByteArray),v0 = .int .u64 x0_1 ∧ v3 = .string x3_1 ∧ za (zr.l0 kq x0_1 x3_1 = some r) ∧ za (kq ≤ k) ∧ za (Below w.heap.size w w'))
 case atStart => exact ⟨(a0),((⟨#[]⟩ : ByteArray)),(hDq),(hDq),H',⟨Nat.le_refl _⟩,⟨by repeat (first | (with_reducible first | exact HB.out | apply zk | apply zf | apply zm) | exact HB.out)⟩⟩
 case round =>
  clear H'
  obtain ⟨x0_1,x3_1,rfl,rfl,HA,HK1,HB⟩ := hrel
  cases gk with
  | zero => exact absurd HA.out (by simp [zr.l0])
  | succ k1 =>
   have H := HA.out
   clear HA
   simp only [zr.l0] at H
   by_cases c2 : x0_1 > 0
   ·rw [if_pos c2] at H
    have c2b0 : decide (0 < x0_1) = true := decide_eq_true c2
    clear c2
    obtain ⟨y101,hy101⟩ : ∃ y_ : List Int,y_ = (([(Int.tmod x0_1 256) % 256] : List Int)) := ⟨_,rfl⟩
    replace H : (if (strOfNums y101).size + x3_1.size ≤ 9223372036854775807 then (zr.l0 k1 (IntKind.u64.wrap (Int.tdiv x0_1 256)) ((strOfNums y101) ++ x3_1)) else (none)) = some r := by first | (rw [hy101];with_reducible exact H) | (have H2_ := (Option.bind_some _ _).symm.trans H;rw [hy101];with_reducible exact H2_) | (have H2_ := (Option.bind_some _ _).symm.trans H;with_reducible exact H2_) | with_reducible exact H | (rw [hy101];exact H) | exact H
    have Ny101 := za.mk hy101
    clear hy101
    by_cases c3 : (strOfNums y101).size + x3_1.size ≤ 9223372036854775807
    ·rw [if_pos c3] at H
     have c3b0 := eq_true c3
     have c3b1 : decide ((strOfNums y101).size + x3_1.size ≤ 9223372036854775807) = true := decide_eq_true c3
     try have c3b2 : (9223372036854775807 < (strOfNums y101).size + x3_1.size) = False := eq_false (Nat.not_lt.2 c3)
     have H' := za.mk H
     clear H
     go_wp2_with (first | ((with_reducible refine zy (N := 9) rfl ?_);refine Kd.R_lit (Kd.int .u8) _ 5 ?hg (N := 9) ?hd (xs := ([(Int.tmod x0_1 256) % 256] : List Int)) (inner := [.int .u8 ((Int.tmod x0_1 256) % 256)]) (ok := fun _ => True) (okp := fun _ => True) ?hr ?hp (fun _ hk => hk) trivial (Below.refl _ _) (Nat.le_refl _) (by simp) ?_;(case hd => rfl);(case hg => rfl);(case hr => first | (go_simp;done) | (go_simp;rfl));(case hp => exact (za2.one (show Kd.M (Kd.int .u8) _ _ _ ((Int.tmod x0_1 256) % 256) [.int .u8 ((Int.tmod x0_1 256) % 256)] from rfl) (za2.none _ _)));intro v102 w4 ho5 hb hg_ hnew_;clear hg_ hnew_;(first | rw [← Ny101.out] at ho5 | (simp only [Int.reduceToNat] at ho5;rw [← Ny101.out] at ho5));have n_ := haq (Kd.R_lower ho5 (ze hBq)) <| haq (zd hBq hb) <| trivial;clear HB;obtain ⟨HO103,HB,_⟩ := n_;clear hb ho5;have hcv6 := zd3 (P := Tryz.prog) Tryz.underlying82 Tryz.underlying5 Tryz.underlying9 (Kd.own_of_R HO103.out)))
     go_roundg k1
     case measure => have := HK1.out;omega
     case rel => exact ⟨(IntKind.u64.wrap (Int.tdiv x0_1 256)),((strOfNums y101) ++ x3_1),(hDq),(hDq),H',⟨by have := HK1.out;omega⟩,⟨by repeat (first | (with_reducible first | exact HB.out | apply zk | apply zf | apply zm) | exact HB.out)⟩⟩
    ·rw [if_neg c3] at H
     exact absurd H (by simp)
   ·rw [if_neg c2] at H
    have c2b0 : decide (0 < x0_1) = false := decide_eq_false c2
    clear c2
    obtain ⟨y104,hy104⟩ : ∃ y_ : List Int,y_ = (([((x3_1.size : Int)) % 256] : List Int)) := ⟨_,rfl⟩
    replace H : (if (strOfNums y104).size + x3_1.size ≤ 9223372036854775807 then (some ((strOfNums y104) ++ x3_1)) else (none)) = some r := by first | (rw [hy104];with_reducible exact H) | (have H2_ := (Option.bind_some _ _).symm.trans H;rw [hy104];with_reducible exact H2_) | (have H2_ := (Option.bind_some _ _).symm.trans H;with_reducible exact H2_) | with_reducible exact H | (rw [hy104];exact H) | exact H
    have Ny104 := za.mk hy104
    clear hy104
    by_cases c7 : (strOfNums y104).size + x3_1.size ≤ 9223372036854775807
    ·rw [if_pos c7] at H
     have c7b0 := eq_true c7
     have c7b1 : decide ((strOfNums y104).size + x3_1.size ≤ 9223372036854775807) = true := decide_eq_true c7
     try have c7b2 : (9223372036854775807 < (strOfNums y104).size + x3_1.size) = False := eq_false (Nat.not_lt.2 c7)
     obtain rfl := Option.some.inj H
     go_wp2_with (first | ((with_reducible refine zy (N := 18) rfl ?_);refine Kd.R_lit (Kd.int .u8) _ 5 ?hg (N := 18) ?hd (xs := ([((x3_1.size : Int)) % 256] : List Int)) (inner := [.int .u8 (((x3_1.size : Int)) % 256)]) (ok := fun _ => True) (okp := fun _ => True) ?hr ?hp (fun _ hk => hk) trivial (Below.refl _ _) (Nat.le_refl _) (by simp) ?_;(case hd => rfl);(case hg => rfl);(case hr => first | (go_simp;done) | (go_simp;rfl));(case hp => exact (za2.one (show Kd.M (Kd.int .u8) _ _ _ (((x3_1.size : Int)) % 256) [.int .u8 (((x3_1.size : Int)) % 256)] from rfl) (za2.none _ _)));intro v105 w8 ho9 hb hg_ hnew_;clear hg_ hnew_;(first | rw [← Ny104.out] at ho9 | (simp only [Int.reduceToNat] at ho9;rw [← Ny104.out] at ho9));have n_ := haq (Kd.R_lower ho9 (ze hBq)) <| haq (zd hBq hb) <| trivial;clear HB;obtain ⟨HO106,HB,_⟩ := n_;clear hb ho9;have hcv10 := zd3 (P := Tryz.prog) Tryz.underlying82 Tryz.underlying5 Tryz.underlying9 (Kd.own_of_R HO106.out)))
     go_ret
     exact ⟨hHq,hBq⟩
    ·rw [if_neg c7] at H
     exact absurd H (by simp)
theorem zn {α : Type} {c : Prop} [Decidable c] {f g : Nat → Option α} {r : α} (h : c) (e : Ev f r) : Ev (fun k => if c then f k else g k) r := by
 simp only [if_pos h]
 exact e
theorem zF {α : Type} {c : Prop} [Decidable c] {f g : Nat → Option α} {r : α} (h : ¬ c) (e : Ev g r) : Ev (fun k => if c then f k else g k) r := by
 simp only [if_neg h]
 exact e
theorem zgu {α : Type} {c : Prop} [Decidable c] {f g : Nat → Option α} {a b : α} (h : c → Ev f a) (h' : ¬ c → Ev g b) : Ev (fun k => if c then f k else g k) (if c then a else b) := by
 by_cases hc : c
 ·rw [if_pos hc];exact zn hc (h hc)
 ·rw [if_neg hc];exact zF hc (h' hc)
theorem zac {α : Type} {f : Nat → Option α} {a b : α} (h : Ev f a) (e : a = b) : Ev f b := e ▸ h
theorem zaf {α β : Type} {o : Option α} {f : Nat → α → Option β} {a : α} {r : β} (h : o = some a) (k : Ev (fun n => f n a) r) : Ev (fun n => o.bind (f n)) r := by
 subst h
 exact k
theorem zaA {x : Int} (h0 : 0 ≤ x) (h1 : x < 18446744073709551616) : IntKind.u64.wrap x = x := by
 show x % 18446744073709551616 = x
 omega
theorem z9 {x : Int} (h0 : -9223372036854775808 ≤ x) (h1 : x < 9223372036854775808) : wrap64 x = x := by
 unfold wrap64
 omega
theorem u64_wf {x : Int} (h : (Lit.int .u64 x).wf = true) : 0 ≤ x ∧ x < 18446744073709551616 := by
 simp [Lit.wf,IntKind.min,IntKind.max,IntKind.signed,IntKind.bits] at h
 omega
theorem zhR {x : Int} (h : (Lit.int .i64 x).wf = true) : -9223372036854775808 ≤ x ∧ x ≤ 9223372036854775807 := by
 simp [Lit.wf,IntKind.min,IntKind.max,IntKind.signed,IntKind.bits] at h
 omega
theorem zgM (acc : Bs) (hl : acc.length ≤ 200) : Ev (fun k => zr.l0 k ((0 : Nat) : Int) (toB acc)) (toB (UInt8.ofNat acc.length :: acc)) := by
 refine Ev.step (fun k => by rw [zr.l0]) ?_
 refine zF (by simp) ?_
 simp only [Option.bind_some,zce,List.map_cons,List.map_nil,zP,List.length_cons,List.length_nil]
 refine zn (by omega) ?_
 have e : ((acc.length : Int) % 256).toNat = acc.length := by omega
 rw [e]
 exact zac (Ev.now _) (by rw [← zbk];rfl)
theorem ziE (n : Nat) : ∀ (v : Nat) (acc : Bs),v < 256 ^ n → n + acc.length ≤ 200 → v < 18446744073709551616 →
  Ev (fun k => zr.l0 k (v : Int) (toB acc)) (toB (UInt8.ofNat (be v ++ acc).length :: (be v ++ acc))) := by
 induction n with
 | zero =>
  intro v acc hv hl _
  obtain rfl : v = 0 := by simpa using hv
  rw [zdj,List.nil_append]
  exact zgM acc (by omega)
 | succ n ih =>
  intro v acc hv hl hm
  rcases Nat.eq_zero_or_pos v with h | h
  ·subst h
   rw [zdj,List.nil_append]
   exact zgM acc (by omega)
  ·refine Ev.step (fun k => by rw [zr.l0]) ?_
   refine zn (by omega) ?_
   simp only [Option.bind_some,zce,List.map_cons,List.map_nil,zP,List.length_cons,List.length_nil]
   refine zn (by omega) ?_
   have e1 : IntKind.u64.wrap (Int.tdiv (v : Int) 256) = ((v / 256 : Nat) : Int) := by
    rw [Int.tdiv_eq_ediv_of_nonneg (by omega),zaA (by omega) (by omega)];omega
   have e2 : (Int.tmod (v : Int) 256 % 256).toNat = v % 256 := by
    rw [Int.tmod_eq_emod_of_nonneg (by omega)];omega
   rw [e1,e2]
   have := ih (v / 256) ([UInt8.ofNat (v % 256)] ++ acc) (by rw [Nat.pow_succ] at hv;omega) (by simp;omega) (by omega)
   rw [zeU h,List.append_assoc]
   rw [zbk [UInt8.ofNat (v % 256)] acc] at this
   exact this
theorem zeC (v : Nat) (hv : v < 18446744073709551616) : Ev (fun k => zr.f k (v : Int)) (zbO v) := by
 have e8 : (256 : Nat) ^ 8 = 18446744073709551616 := by decide
 have h := ziE 8 v [] (by omega) (by simp) hv
 rw [List.append_nil] at h
 exact h
def zaD.f (a0 : ByteArray) : Option (ByteArray) := if a0.size ≤ 1152921504606846976 then (some (zdU a0)) else (none)
theorem zaD.calls (a0 : ByteArray) (r : ByteArray) (w : World) (h : zaD.f a0 = some r) :
  Calls Tryz.prog 20 #[.string a0] w fun e w' => e = .returned (.string r) ∧ Below w.heap.size w w' := by
 unfold zaD.f at h
 split at h
 ·rename_i h0
  obtain rfl := Option.some.inj h
  clear h
  have hn : (zbO a0.size).size ≤ 9 := za0 (by omega)
  have hn2 : (zbO a0.size).size + a0.size ≤ 9223372036854775807 := by omega
  obtain ⟨k,hk⟩ := (zeC a0.size (by omega)).rounds
  have HN := za.mk hk
  clear hk
  go_enter Tryz.func20,Tryz.ntmps20
  go_wp2_with (go_at_call 21;(with_reducible refine (zr.calls _ _ _ _ HN.out).mono ?_);rintro e w1 ⟨rfl,hb⟩)
  go_ret
  exact ⟨rfl,by assumption⟩
 ·cases h
end Go.Proofs.YtfhbeonhnhjikaaGreat.Px