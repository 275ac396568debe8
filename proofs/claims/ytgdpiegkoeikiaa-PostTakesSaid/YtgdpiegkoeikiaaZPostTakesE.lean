/- Part 5 of 35 of the proof of the law PostTakes: what is proved is the statement at the end of the last part; its conditions are those of the given row. -/
import Derived.ScopeJumps
import Derived.WalkMore
import Derived.Test.YtgdpiegkoeikiaaZPostTakesD
namespace Go.Proofs.Ytgdpiegkoeikiaa.Px
open Go.RowKit Go.Proofs.YtgdpiegkoeikiaaW.PrintWords Go.Proofs.YtgdpiegkoeikiaaW.PrintLast Go.Proofs.YtgdpiegkoeikiaaW.PrintMore
attribute [local go_sem] zF zH zQ zR zy zz zG zI
set_option linter.unusedVariables false
set_option linter.unusedSimpArgs false
def beL (v : Nat) : List Int := if v = 0 then [] else beL (v / 256) ++ [((v % 256 : Nat) : Int)]
termination_by v
decreasing_by omega
theorem zeI : beL 0 = [] := by rw [beL];simp
theorem zfF {v : Nat} (h : 0 < v) : beL v = beL (v / 256) ++ [((v % 256 : Nat) : Int)] := by rw [beL,if_neg (by omega)]
theorem zhW (v : Nat) : (beL v).map (fun n => UInt8.ofNat n.toNat) = be v := by
 induction v using Nat.strongRecOn with
 | _ v ih =>
  rcases Nat.eq_zero_or_pos v with h | h
  ·subst h;rw [zeI,zch];rfl
  ·rw [zfF h,zc2 h,List.map_append,ih _ (by omega)];rfl
theorem zge (v : Nat) : zep v = strOfNums (((beL v).length : Int) :: beL v) := (zeP v _ (zhW v)).symm
def zfv : Value → Int | .int _ q => q | _ => 0
def zgP (cs : Array Value) (p : Nat) (L : List Int) : Prop := cs.size = 9 ∧ p + L.length = 9 ∧ ∀ i,i < L.length → cs[p + i]? = some (.int .u8 (L.getD i 0))
theorem zgP.cell {cs : Array Value} {p : Nat} {L : List Int} (h : zgP cs p L) (i : Nat) (hi : i < 9) : ∃ v,cs[i]? = some v :=
 ⟨cs[i]'(by rw [h.1];exact hi),Array.getElem?_eq_getElem _⟩
theorem zgP.set {cs : Array Value} {q : Nat} {L : List Int} (h : zgP cs (q + 1) L) (x : Int) : zgP (cs.setIfInBounds q (.int .u8 x)) q (x :: L) := by
 refine ⟨by simp [h.1],by have := h.2.1;simp only [List.length_cons];omega,fun i hi => ?_⟩
 rcases i with _ | i
 ·rw [Nat.add_zero,Array.getElem?_setIfInBounds_self_of_lt (by rw [h.1];have := h.2.1;omega)];rfl
 ·have h2 := h.2.2 i (by simpa using hi)
  rw [Array.getElem?_setIfInBounds_ne (by omega),← Nat.add_assoc,Nat.add_right_comm,h2];simp
theorem zhj {v q : Nat} (h : v < 256 ^ (q + 1)) : v / 256 < 256 ^ q := by
 rw [Nat.pow_succ] at h
 exact Nat.div_lt_of_lt_mul (by rw [Nat.mul_comm];exact h)
set_option maxHeartbeats 1000000 in
set_option maxRecDepth 100000 in
theorem zaN.walk (a0 : Nat) (w : World) (h1 : a0 < 18446744073709551616) :
  Calls Try.prog 51 #[.int .u64 a0] w fun e w' => e = .returned (.string (zep a0)) ∧ Below w.heap.size w w' := by
 go_enter Try.func51,Try.ntmps51
 go_wp2
 refine wp_scope_jumps 0 (fun a' w' => ∃ (v p n : Nat) (L : List Int) (cs : Array Value) (u6 u7 u8 u9 u10 u11 u12 u13 u14 u15 u16 u17 : Value),
   zgP cs p L ∧ v < 256 ^ (p - 1) ∧ 1 ≤ p ∧ L.length = n ∧ beL a0 = beL v ++ L ∧
   w' = w.alloc (.cells cs 132) ∧
   a' = { tmps := #[.int .u64 v,undef,.string ⟨#[]⟩,.pointer (some ⟨w.heap.size,0,none⟩),.int .i64 p,.int .u8 n,u6,u7,u8,u9,u10,u11,u12,u13,u14,u15,u16,u17,undef,undef,undef,undef,undef,undef,undef,undef],defers := [] })
   (fun a' _ => (zfv (a'.tmps.getD 4 undef)).toNat) rfl ?_ ?_
 ·rcases Nat.eq_zero_or_pos a0 with h0 | h0
  ·subst h0
   have hcv := fun W => run_convert_bytes_arg (P := Try.prog) (w.alloc W) 62 5 Try.underlying62 Try.underlying5 w.heap.size 8 1 1 [0] rfl
   go_wp2
   go_step3
   go_wp2
   simp only [Exit.jump]
   go_ret
   exact ⟨by rw [zge,zeI];rfl,(Below.refl _ _).alloc (Nat.le_refl _) _⟩
  ·go_wp2
   go_step3
   go_wp2
   go_step3
   refine ⟨rfl,a0 / 256,8,1,[(a0 % 256 : Nat)],_,_,_,_,_,_,_,_,_,_,_,_,_,?_,?_,?_,rfl,zfF h0,rfl,rfl⟩
   ·refine ⟨rfl,rfl,fun i hi => ?_⟩
    obtain rfl : i = 0 := by simpa using hi
    rfl
   ·have : (256:Nat) ^ (8 - 1) = 72057594037927936 := by decide
    omega
   ·omega
 ·rintro a' w' ⟨v,p,n,L,cs,u6,u7,u8,u9,u10,u11,u12,u13,u14,u15,u16,u17,hN,hv,hp,hn,hb,rfl,rfl⟩
  obtain ⟨q,rfl⟩ : ∃ q,p = q + 1 := ⟨p - 1,by omega⟩
  have hq : q < 9 := by have := hN.2.1;omega
  have hnq : n + q = 8 := by have := hN.2.1;omega
  have hnn : n ≤ 8 := by omega
  have hvb : v < 18446744073709551616 := by
   have : 256 ^ (q + 1 - 1) ≤ 256 ^ 8 := Nat.pow_le_pow_right (by omega) (by omega)
   have : (256:Nat) ^ 8 = 18446744073709551616 := by decide
   omega
  obtain ⟨v0,hc⟩ := hN.cell q hq
  have HN := zc.mk hN
  have HB := zc.mk hb
  have HV := zc.mk hv
  have HL := zc.mk hn
  have HQ := zc.mk hnq
  clear hN hb hv hn hnq h1
  rcases Nat.eq_zero_or_pos v with h0 | h0
  ·subst h0
   have hq9 : q ≤ 9 := by omega
   have hsl : ∀ W : World,(Instr.sliceAt 132 (.pointer (some ⟨w.heap.size,0,none⟩)) (some (.int .i64 (q : Int))) none none).run Try.prog W = .ok (.slice (some ⟨w.heap.size,q,none⟩) (9 - q) (9 - q)) W := by
    intro W
    rw [run_sliceAt_array_l W 132 _ (by kernel_rfl) .i64 q (by omega) (by show (q : Int) ≤ 9;omega)]
    have e1 : (sizeOf (Try.prog.elem 132)).run Try.prog W = .ok 1 W := by kernel_rfl
    have e2 : Try.prog.arrayLen 132 = 9 := by kernel_rfl
    rw [e1,e2]
    simp only [Result.andThen,slicedAt,Int.toNat_natCast,Nat.mul_one]
    rw [if_neg (by omega),zgQ]
   have hS := HN.out.set n
   have hcv := run_convert_bytes_arg (P := Try.prog) (w.alloc (.cells (cs.setIfInBounds q (.int .u8 (n : Int))) 132)) 62 5 Try.underlying62 Try.underlying5 w.heap.size q (9 - q) (9 - q) ((n : Int) :: L) (by rw [List.length_cons,HL.out];have := HQ.out;omega)
    (fun i hi => by
     have h2 := hS.2.2 i (by have := hS.2.1;omega)
     rw [World.cell?_alloc_new];exact h2) 9 Try.underlying9
   clear hS
   go_wp2
   simp only [Exit.jump]
   go_ret
   exact ⟨by rw [zge,HB.out,zeI,List.nil_append,HL.out];rfl,(Below.refl _ _).alloc (Nat.le_refl _) _⟩
  ·obtain ⟨q',rfl⟩ : ∃ q',q = q' + 1 := ⟨q - 1,by
    rcases Nat.eq_zero_or_pos q with hz | hz
    ·have := HV.out;subst hz;simp at this;omega
    ·omega⟩
   go_wp2
   go_step3
   refine ⟨rfl,⟨v / 256,q' + 1,n + 1,((v % 256 : Nat) : Int) :: L,_,_,_,_,_,_,_,_,_,_,_,_,_,HN.out.set _,zhj HV.out,by omega,by rw [List.length_cons,HL.out],?_,rfl,rfl⟩,?_⟩
   ·rw [HB.out,zfF h0];simp
   ·simp [zfv];omega
def zaN.f (a0 : Int) : Option (ByteArray) := if 0 ≤ a0 then (if a0 < 18446744073709551616 then (some (zep a0.toNat)) else (none)) else (none)
theorem zaN.calls (a0 : Int) (r : ByteArray) (w : World) (h : zaN.f a0 = some r) :
  Calls Try.prog 51 #[.int .u64 a0] w fun e w' => e = .returned (.string r) ∧ Below w.heap.size w w' := by
 unfold zaN.f at h
 split at h
 ·rename_i h0
  split at h
  ·rename_i h1
   obtain ⟨n,rfl⟩ := Int.eq_ofNat_of_zero_le h0
   obtain rfl := Option.some.inj h
   rw [Int.toNat_natCast]
   exact zaN.walk n w (by omega)
  ·cases h
 ·cases h
mutual
def zp.j0 : Nat → ByteArray → Int → Bool → Option (Int × ByteArray × Int)
 | 0,_,_,_ => none
 | k + 1,x0,x5,x27 => if x27 = true then (some (0,(⟨#[]⟩ : ByteArray),3)) else (zp.l0 k x0 x5 0 1)
def zp.l0 : Nat → ByteArray → Int → Int → Int → Option (Int × ByteArray × Int)
 | 0,_,_,_,_ => none
 | k + 1,x0,x5,x6,x7 => if x7 ≤ x5 then (if 0 ≤ x7 then (if x7 < (x0.size : Int) then (zp.l0 k x0 x5 (IntKind.u64.wrap ((IntKind.u64.wrap (x6 * 256)) + (IntKind.u64.wrap (bt x0 x7)))) (wrap64 (x7 + 1))) else (none)) else (none)) else (if 0 ≤ (wrap64 (1 + x5)) then (if (wrap64 (1 + x5)) ≤ (x0.size : Int) then (some (x6,x0.extract ((wrap64 (1 + x5)) : Int).toNat x0.size,0)) else (none)) else (none))
end
def zp.f (k : Nat) (a0 : ByteArray) : Option (Int × ByteArray × Int) := if (a0.size : Int) = 0 then (some (0,(⟨#[]⟩ : ByteArray),2)) else (if 0 < (a0.size : Int) then (if (wrap64 (bt a0 0)) > 8 then (some (0,(⟨#[]⟩ : ByteArray),3)) else (if (a0.size : Int) < (wrap64 (1 + (wrap64 (bt a0 0)))) then (some (0,(⟨#[]⟩ : ByteArray),2)) else (if (wrap64 (bt a0 0)) > 0 then (if 1 < (a0.size : Int) then (zp.j0 k a0 (wrap64 (bt a0 0)) ((bt a0 1) == 0)) else (none)) else (zp.j0 k a0 (wrap64 (bt a0 0)) false)))) else (none))
set_option maxHeartbeats 8000000 in
set_option maxRecDepth 100000 in
theorem zp.calls (k : Nat) (a0 : ByteArray) (r1 : Int) (r2 : ByteArray) (r3 : Int) (w : World) (h : zp.f k a0 = some (r1,r2,r3)) :
  Calls Try.prog 60 #[.string a0] w fun e w' => e = .returned (.tuple #[.int .u64 r1,.string r2,.int .i64 r3]) ∧ zax w w' := by
 have H : (if (a0.size : Int) = 0 then (some (0,(⟨#[]⟩ : ByteArray),2)) else (if 0 < (a0.size : Int) then (if (wrap64 (bt a0 0)) > 8 then (some (0,(⟨#[]⟩ : ByteArray),3)) else (if (a0.size : Int) < (wrap64 (1 + (wrap64 (bt a0 0)))) then (some (0,(⟨#[]⟩ : ByteArray),2)) else (if (wrap64 (bt a0 0)) > 0 then (if 1 < (a0.size : Int) then (zp.j0 k a0 (wrap64 (bt a0 0)) ((bt a0 1) == 0)) else (none)) else (zp.j0 k a0 (wrap64 (bt a0 0)) false)))) else (none))) = some (r1,r2,r3) := h
 clear h
 by_cases c2 : (a0.size : Int) = 0
 ·rw [if_pos c2] at H
  have c2b0 : ((a0.size : Int) == 0) = true := beq_iff_eq.mpr c2
  have c2b1 : ((a0.size : Int) != 0) = false := bne_eq_false_iff_eq.mpr c2
  clear c2
  simp only [Option.some.injEq,Prod.mk.injEq] at H
  obtain ⟨rfl,rfl,rfl⟩ := H
  go_enter Try.func60,Try.ntmps60
  go_wp2
  repeat (go_quiet (fail);try go_wp2)
  go_ret3
  exact ⟨hDq,hEq⟩
 ·rw [if_neg c2] at H
  have c2b0 : ((a0.size : Int) == 0) = false := beq_eq_false_iff_ne.mpr c2
  have c2b1 : ((a0.size : Int) != 0) = true := bne_iff_ne.mpr c2
  by_cases c3 : 0 < (a0.size : Int)
  ·rw [if_pos c3] at H
   have c3b0 : decide (0 < (a0.size : Int)) = true := decide_eq_true c3
   have c3b1 : decide (0 < a0.size) = true := decide_eq_true (by omega)
   clear c3
   by_cases c5 : (wrap64 (bt a0 0)) > 8
   ·rw [if_pos c5] at H
    have c5b0 : decide (8 < (wrap64 (bt a0 0))) = true := decide_eq_true c5
    clear c5
    simp only [Option.some.injEq,Prod.mk.injEq] at H
    obtain ⟨rfl,rfl,rfl⟩ := H
    have p4 : 0 ≤ (0 : Int) := (by omega)
    have q4 : 0 < a0.size := (by have : (0 : Int) < (a0.size : Int) := hFq;omega)
    have hx4 : ∀ h : 0 < a0.size,((a0[0]'h).toNat : Int) = bt a0 0 := zcn a0 0
    clear p4
    have qi4 : (0 < (a0.size : Int)) = True := eq_true (hFq)
    replace q4 := eq_true q4
    go_enter Try.func60,Try.ntmps60
    go_wp2
    repeat (go_quiet (fail);try go_wp2)
    go_ret3
    exact ⟨hDq,hEq⟩
   ·rw [if_neg c5] at H
    have c5b0 : decide (8 < (wrap64 (bt a0 0))) = false := decide_eq_false c5
    clear c5
    by_cases c6 : (a0.size : Int) < (wrap64 (1 + (wrap64 (bt a0 0))))
    ·rw [if_pos c6] at H
     have c6b0 : decide ((a0.size : Int) < (wrap64 (1 + (wrap64 (bt a0 0))))) = true := decide_eq_true c6
     clear c6
     simp only [Option.some.injEq,Prod.mk.injEq] at H
     obtain ⟨rfl,rfl,rfl⟩ := H
     have p4 : 0 ≤ (0 : Int) := (by omega)
     have q4 : 0 < a0.size := (by have : (0 : Int) < (a0.size : Int) := hFq;omega)
     have hx4 : ∀ h : 0 < a0.size,((a0[0]'h).toNat : Int) = bt a0 0 := zcn a0 0
     clear p4
     have qi4 : (0 < (a0.size : Int)) = True := eq_true (hFq)
     replace q4 := eq_true q4
     go_enter Try.func60,Try.ntmps60
     go_wp2
     repeat (go_quiet (fail);try go_wp2)
     go_ret3
     exact ⟨hDq,hEq⟩
    ·rw [if_neg c6] at H
     have c6b0 : decide ((a0.size : Int) < (wrap64 (1 + (wrap64 (bt a0 0))))) = false := decide_eq_false c6
     clear c6
     have HC7 := zc.mk H
     clear H
     have p4 : 0 ≤ (0 : Int) := (by omega)
     have q4 : 0 < a0.size := (by have : (0 : Int) < (a0.size : Int) := hFq;omega)
     have hx4 : ∀ h : 0 < a0.size,((a0[0]'h).toNat : Int) = bt a0 0 := zcn a0 0
     clear p4
     have qi4 : (0 < (a0.size : Int)) = True := eq_true (hFq)
     replace q4 := eq_true q4
     go_enter Try.func60,Try.ntmps60
     go_upto_region 8 with (fail)
     repeat (go_quiet (fail);go_upto_region 8 with (fail))
     go_cut [27] (fun v27 wc => ∃ (kq : Nat) (x27_6 : Bool),v27 = .bool x27_6 ∧ zc (zp.j0 kq a0 (wrap64 (bt a0 0)) x27_6 = some (r1,r2,r3)) ∧ zc (kq ≤ k) ∧ zax w wc)
     case first =>
      have H := HC7.out
      clear HC7
      by_cases c8 : (wrap64 (bt a0 0)) > 0
      ·rw [if_pos c8] at H
       have c8b0 : decide (0 < (wrap64 (bt a0 0))) = true := decide_eq_true c8
       clear c8
       (first | rw [c8b0] | (simp only [zan,zaq];rw [c8b0]) | skip)
       by_cases c9 : 1 < (a0.size : Int)
       ·rw [if_pos c9] at H
        have c9b0 : decide (1 < (a0.size : Int)) = true := decide_eq_true c9
        have c9b1 : decide (1 < a0.size) = true := decide_eq_true (by omega)
        clear c9
        have H' := zc.mk H
        clear H
        have p10 : 0 ≤ (1 : Int) := (by omega)
        have q10 : 1 < a0.size := (by have : (1 : Int) < (a0.size : Int) := hFq;omega)
        have hx10 : ∀ h : 1 < a0.size,((a0[1]'h).toNat : Int) = bt a0 1 := zcn a0 1
        clear p10
        have qi10 : (1 < (a0.size : Int)) = True := eq_true (hFq)
        replace q10 := eq_true q10
        go_wp2
        repeat (go_quiet (fail);try go_wp2)
        go_meet
        case rel => exact ⟨_,(((bt a0 1) == 0)),(hDq),H',⟨by first | omega | exact Nat.le_refl _⟩,hEq⟩
       ·rw [if_neg c9] at H
        exact absurd H (by simp)
      ·rw [if_neg c8] at H
       have c8b0 : decide (0 < (wrap64 (bt a0 0))) = false := decide_eq_false c8
       clear c8
       (first | rw [c8b0] | (simp only [zan,zaq];rw [c8b0]) | skip)
       have H' := zc.mk H
       clear H
       go_wp2
       repeat (go_quiet (fail);try go_wp2)
       go_meet
       case rel => exact ⟨_,(false),(hDq),H',⟨by first | omega | exact Nat.le_refl _⟩,hEq⟩
     case rest =>
      clear HC7
      try clear p1
      try clear q1
      try clear hx1
      try clear qi1
      try clear c2
      try clear c2b0
      try clear c2b1
      try clear p2
      try clear c3
      try clear c3b0
      try clear c3b1
      try clear p4
      try clear q4
      try clear hx4
      try clear qi4
      try clear c5
      try clear c5b0
      try clear c6
      try clear c6b0
      try clear p6
      try clear c8
      try clear c8b0
      try clear c9
      try clear c9b0
      try clear c9b1
      try clear p10
      try clear q10
      try clear hx10
      try clear qi10
      try clear p10
      try clear p4
      try clear q10
      try clear q4
      obtain ⟨kq,x27_6,rfl,HA,HJ6,⟨mc6,rfl⟩⟩ := hcut
      cases kq with
      | zero => exact absurd HA.out (by simp [zp.j0])
      | succ kj6 =>
       have H := HA.out
       clear HA
       simp only [zp.j0] at H
       by_cases c11 : x27_6 = true
       ·subst c11
        have H1 : (some (0,(⟨#[]⟩ : ByteArray),3)) = some (r1,r2,r3) := by rw [if_pos rfl] at H;exact H
        clear H
        have H := H1
        clear H1
        simp only [Option.some.injEq,Prod.mk.injEq] at H
        obtain ⟨rfl,rfl,rfl⟩ := H
        go_wp2
        repeat (go_quiet (fail);try go_wp2)
        go_ret3
        exact ⟨hDq,hEq⟩
       ·replace c11 := Bool.eq_false_iff.mpr c11
        subst c11
        have H1 : (zp.l0 kj6 a0 (wrap64 (bt a0 0)) 0 1) = some (r1,r2,r3) := by rw [if_neg (show ¬ (false = true) by decide)] at H;exact H
        clear H
        have H := H1
        clear H1
        have H' := zc.mk H
        clear H
        go_wp2
        repeat (go_quiet (fail);try go_wp2)
        go_loopg [6,7] kj6 (fun kq v6 v7 w' => ∃ (x6_2 : Int) (x7_2 : Int),v6 = .int .u64 x6_2 ∧ v7 = .int .i64 x7_2 ∧ zc (zp.l0 kq a0 (wrap64 (bt a0 0)) x6_2 x7_2 = some (r1,r2,r3)) ∧ zc (kq ≤ kj6) ∧ zax w w')
        case atStart => exact ⟨(0),(1),(hDq),(hDq),H',⟨Nat.le_refl _⟩,hEq⟩
        case round =>
         clear H'
         try clear c1
         try clear p1
         try clear q1
         try clear hx1
         try clear qi1
         try clear c2
         try clear c2b0
         try clear c2b1
         try clear p2
         try clear c3
         try clear c3b0
         try clear c3b1
         try clear p4
         try clear q4
         try clear hx4
         try clear qi4
         try clear c5
         try clear c5b0
         try clear c6
         try clear c6b0
         try clear p6
         try clear c8
         try clear c8b0
         try clear c9
         try clear c9b0
         try clear c9b1
         try clear p10
         try clear q10
         try clear hx10
         try clear qi10
         try clear c11
         try clear p1
         try clear p10
         try clear p2
         try clear p4
         try clear p6
         try clear q1
         try clear q10
         try clear q4
         obtain ⟨x6_2,x7_2,rfl,rfl,HA,HK2,⟨m2,rfl⟩⟩ := hrel
         cases gk with
         | zero => exact absurd HA.out (by simp [zp.l0])
         | succ k2 =>
          have H := HA.out
          clear HA
          simp only [zp.l0] at H
          by_cases c12 : x7_2 ≤ (wrap64 (bt a0 0))
          ·rw [if_pos c12] at H
           have c12b0 : decide (x7_2 ≤ (wrap64 (bt a0 0))) = true := decide_eq_true c12
           clear c12
           by_cases c13 : 0 ≤ x7_2
           ·rw [if_pos c13] at H
            have c13b0 : decide (0 ≤ x7_2) = true := decide_eq_true c13
            clear c13
            by_cases c14 : x7_2 < (a0.size : Int)
            ·rw [if_pos c14] at H
             have c14b0 : decide (x7_2 < (a0.size : Int)) = true := decide_eq_true c14
             clear c14
             have H' := zc.mk H
             clear H
             have p15 : 0 ≤ (x7_2 : Int) := hFq
             have q15 : x7_2 < (a0.size : Int) := hFq
             have hx15 := zcn a0 x7_2
             replace p15 := eq_true p15
             replace q15 := eq_true q15
             go_wp2
             repeat (go_quiet (fail);try go_wp2)
             go_roundg k2
             case measure => have := HJ6.out;have := HK2.out;omega
             case rel => exact ⟨(IntKind.u64.wrap ((IntKind.u64.wrap (x6_2 * 256)) + (IntKind.u64.wrap (bt a0 x7_2)))),(wrap64 (x7_2 + 1)),(hDq),(hDq),H',⟨by have := HJ6.out;have := HK2.out;omega⟩,hEq⟩
            ·rw [if_neg c14] at H
             exact absurd H (by simp)
           ·rw [if_neg c13] at H
            exact absurd H (by simp)
          ·rw [if_neg c12] at H
           have c12b0 : decide (x7_2 ≤ (wrap64 (bt a0 0))) = false := decide_eq_false c12
           clear c12
           obtain ⟨ji16,hji16⟩ : ∃ j_ : Int,(wrap64 (1 + (wrap64 (bt a0 0)))) = j_ := ⟨_,rfl⟩
           replace H : (if 0 ≤ (ji16) then (if (ji16) ≤ (a0.size : Int) then (some (x6_2,a0.extract ((ji16) : Int).toNat a0.size,0)) else (none)) else (none)) = some (r1,r2,r3) := by first | (rw [hji16] at H;exact H) | (simp only [hji16] at H ⊢;exact H)
           (try rw [hji16] at c6b0)
           have hji16w : (IntKind.i64.wrap (1 + (wrap64 (bt a0 0)))) = ji16 := (zan _).trans hji16
           by_cases c17 : 0 ≤ (ji16)
           ·rw [if_pos c17] at H
            have c17b0 := eq_true c17
            have c17b1 : decide (0 ≤ (ji16)) = true := decide_eq_true c17
            clear c17
            by_cases c18 : (ji16) ≤ (a0.size : Int)
            ·rw [if_pos c18] at H
             have c18b0 := eq_true c18
             have c18b1 : decide ((ji16) ≤ (a0.size : Int)) = true := decide_eq_true c18
             clear c18
             simp only [Option.some.injEq,Prod.mk.injEq] at H
             obtain ⟨rfl,rfl,rfl⟩ := H
             go_wp2
             repeat (go_quiet (fail);try go_wp2)
             go_ret3
             exact ⟨by first | rfl | (simp;done) | (simp only [← hji16] <;> (first | rfl | simp)) | (simp [*];done),hEq⟩
            ·rw [if_neg c18] at H
             exact absurd H (by simp)
           ·rw [if_neg c17] at H
            exact absurd H (by simp)
  ·rw [if_neg c3] at H
   exact absurd H (by simp)
theorem zhI (v : Nat) (c : UInt8) (hv : v < 72057594037927936) : Go.bits .or .u64 (IntKind.u64.wrap ((v : Int) * 256)) (IntKind.u64.wrap (c.toNat : Int)) = ((v * 256 + c.toNat : Nat) : Int) := by
 have hc := c.toNat_lt
 rw [zaY (by omega) (by omega),zaY (by omega) (by omega),show (v : Int) * 256 = ((v * 256 : Nat) : Int) by omega,u64_or_nat _ _ (by omega) (by omega)]
 have := Nat.two_pow_add_eq_or_of_lt (i := 8) (b := c.toNat) (by omega) v
 rw [Nat.mul_comm v 256,show (256 : Nat) = 2 ^ 8 from rfl,this]
theorem zg6 (v : Nat) (c : UInt8) (hv : v < 72057594037927936) : IntKind.u64.wrap (IntKind.u64.wrap ((v : Int) * 256) + IntKind.u64.wrap (c.toNat : Int)) = ((v * 256 + c.toNat : Nat) : Int) := by
 have hc := c.toNat_lt
 rw [zaY (x := (v : Int) * 256) (by omega) (by omega),zaY (x := (c.toNat : Int)) (by omega) (by omega),zaY (by omega) (by omega)]
 omega
theorem zdz (t : Bs) (j : Nat) (h : j < t.length) : val (t.take (j + 1)) = val (t.take j) * 256 + (t.getD j 0).toNat := by
 rw [List.take_succ_eq_append_getElem h,zdn,List.getD_eq_getElem?_getD,List.getElem?_eq_getElem h];rfl
theorem zen (t : Bs) (j : Nat) (h : j < 8) : val (t.take j) < 72057594037927936 := by
 have h1 := zhv (t.take j)
 have h2 : 256 ^ (t.take j).length ≤ 256 ^ 7 := Nat.pow_le_pow_right (by omega) (by rw [List.length_take];omega)
 have : (256 : Nat) ^ 7 = 72057594037927936 := by decide
 omega
def zbd (s : ByteArray) : Int × ByteArray × Int := (((zv (ofB s)).1 : Int),toB (zv (ofB s)).2.1,(zv (ofB s)).2.2)
theorem zdS (l : Bs) : zbd (toB l) = (((zv l).1 : Int),toB (zv l).2.1,(zv l).2.2) := by rw [zbd,zae]
theorem zcN (c : UInt8) (t : Bs) (j : Nat) : bt (toB (c :: t)) ((j + 1 : Nat) : Int) = ((t.getD j 0).toNat : Int) := by
 rw [zdZ,zae];rfl
theorem zf0 (c : UInt8) (t : Bs) (n : Nat) : (toB (c :: t)).extract (n + 1) (toB (c :: t)).size = toB (t.drop n) := by
 apply zdp
 rw [zcp,zae,zae,zV,List.drop_succ_cons,List.take_of_length_le (by simp)]
theorem zfV (c : UInt8) (t : Bs) (hc : c.toNat ≤ 8) (hl : c.toNat ≤ t.length) (hs : t.length < 4611686018427387904) (d : Nat) : ∀ j,j + d = c.toNat →
  Ev (fun k => zC.l0 k (toB (c :: t)) (c.toNat : Int) (val (t.take j) : Int) ((j + 1 : Nat) : Int)) ((val (t.take c.toNat) : Int),toB (t.drop c.toNat),0) := by
 induction d with
 | zero =>
  intro j hj
  refine Ev.step (fun k => by rw [zC.l0]) ?_
  rw [zag (x := (c.toNat : Int) + 1) (by omega) (by omega)]
  refine zO (by omega) (zw (by omega) (zw (by rw [zV,List.length_cons];omega) ?_))
  rw [show ((c.toNat : Int) + 1).toNat = c.toNat + 1 by omega,zf0]
  obtain rfl : j = c.toNat := by omega
  exact Ev.now _
 | succ d ih =>
  intro j hj
  refine Ev.step (fun k => by rw [zC.l0]) ?_
  refine zw (by omega) (zw (by omega) (zw (by rw [zV,List.length_cons];omega) ?_))
  rw [zcN,zhI _ _ (zen t j (by omega)),← zdz t j (by omega),zag (by omega) (by omega)]
  exact ih (j + 1) (by omega)
theorem zbU (s : ByteArray) (hs : s.size < 4611686018427387904) : Ev (fun k => zC.f k s) (zbd s) := by
 obtain ⟨l,rfl⟩ : ∃ l,s = toB l := ⟨_,(zcl s).symm⟩
 rw [zV] at hs
 rw [zdS]
 rcases l with _ | ⟨c,t⟩
 ·exact zw (by rw [zaT,zae]) (Ev.now _)
 ·have hc := c.toNat_lt
  rw [List.length_cons] at hs
  have e0 : bt (toB (c :: t)) 0 = (c.toNat : Int) := by rw [show (0 : Int) = ((0 : Nat) : Int) from rfl,zdZ,zae];rfl
  have e1 : bt (toB (c :: t)) 1 = ((t.getD 0 0).toNat : Int) := zcN c t 0
  refine zO (by rw [zaT,zae];simp) (zw (by rw [zV,List.length_cons];omega) ?_)
  rw [e0,e1,zag (by omega) (by omega),zV,List.length_cons]
  have hj : c.toNat ≤ 8 → c.toNat ≤ t.length → Ev (fun k => zC.j0 k (toB (c :: t)) (c.toNat : Int)) ((val (t.take c.toNat) : Int),toB (t.drop c.toNat),0) := fun h8 hl => by
   refine Ev.step (fun k => by rw [zC.j0]) ?_
   exact zfV c t h8 hl (by omega) c.toNat 0 (by omega)
  by_cases h8 : 8 < c.toNat
  ·refine zw (by omega) ?_
   simp only [zv,if_pos h8]
   exact Ev.now _
  refine zO (by omega) ?_
  by_cases hl : t.length < c.toNat
  ·refine zw (by omega) ?_
   simp only [zv,if_neg h8,if_pos hl]
   exact Ev.now _
  refine zO (by omega) ?_
  by_cases h0 : 0 < c.toNat
  ·refine zw (by omega) (zw (by omega) ?_)
   by_cases hz : t.getD 0 0 = 0
   ·refine zw (by rw [hz];rfl) ?_
    simp only [zv,if_neg h8,if_neg hl,if_pos (And.intro h0 hz)]
    exact Ev.now _
   ·refine zO (fun h => hz (UInt8.toNat_inj.1 (by show _ = 0;omega))) ?_
    simp only [zv,if_neg h8,if_neg hl,if_neg (fun h : _ ∧ _ => hz h.2)]
    exact hj (by omega) (by omega)
  ·refine zO (by omega) ?_
   simp only [zv,if_neg h8,if_neg hl,if_neg (fun h : _ ∧ _ => h0 h.1)]
   exact hj (by omega) (by omega)
theorem zew (c : UInt8) (t : Bs) (hc : c.toNat ≤ 8) (hl : c.toNat ≤ t.length) (hs : t.length < 4611686018427387904) (d : Nat) : ∀ j,j + d = c.toNat →
  Ev (fun k => zp.l0 k (toB (c :: t)) (c.toNat : Int) (val (t.take j) : Int) ((j + 1 : Nat) : Int)) ((val (t.take c.toNat) : Int),toB (t.drop c.toNat),0) := by
 induction d with
 | zero =>
  intro j hj
  refine Ev.step (fun k => by rw [zp.l0]) ?_
  rw [zag (x := 1 + (c.toNat : Int)) (by omega) (by omega)]
  refine zO (by omega) (zw (by omega) (zw (by rw [zV,List.length_cons];omega) ?_))
  rw [show (1 + (c.toNat : Int)).toNat = c.toNat + 1 by omega,zf0]
  obtain rfl : j = c.toNat := by omega
  exact Ev.now _
 | succ d ih =>
  intro j hj
  refine Ev.step (fun k => by rw [zp.l0]) ?_
  refine zw (by omega) (zw (by omega) (zw (by rw [zV,List.length_cons];omega) ?_))
  rw [zcN,zg6 _ _ (zen t j (by omega)),← zdz t j (by omega),zag (by omega) (by omega)]
  exact ih (j + 1) (by omega)
theorem za9 (s : ByteArray) (hs : s.size < 4611686018427387904) : Ev (fun k => zp.f k s) (zbd s) := by
 obtain ⟨l,rfl⟩ : ∃ l,s = toB l := ⟨_,(zcl s).symm⟩
 rw [zV] at hs
 rw [zdS]
 rcases l with _ | ⟨c,t⟩
 ·exact zw (by rw [zV];rfl) (Ev.now _)
 ·have hc := c.toNat_lt
  rw [List.length_cons] at hs
  have e0 : bt (toB (c :: t)) 0 = (c.toNat : Int) := by rw [show (0 : Int) = ((0 : Nat) : Int) from rfl,zdZ,zae];rfl
  have e1 : bt (toB (c :: t)) 1 = ((t.getD 0 0).toNat : Int) := zcN c t 0
  have eb : ((c.toNat : Int) < 0) = False := eq_false (by omega)
  refine zO (by rw [zV,List.length_cons];omega) (zw (by rw [zV,List.length_cons];omega) ?_)
  rw [e0,e1,zag (x := (c.toNat : Int)) (by omega) (by omega),zag (x := 1 + (c.toNat : Int)) (by omega) (by omega),zV,List.length_cons]
  have hj : c.toNat ≤ 8 → c.toNat ≤ t.length → Ev (fun k => zp.j0 k (toB (c :: t)) (c.toNat : Int) false) ((val (t.take c.toNat) : Int),toB (t.drop c.toNat),0) := fun h8 hl => by
   refine Ev.step (fun k => by rw [zp.j0]) ?_
   exact zO (by simp) (zew c t h8 hl (by omega) c.toNat 0 (by omega))
  by_cases h8 : 8 < c.toNat
  ·refine zw (by omega) ?_
   simp only [zv,if_pos h8]
   exact Ev.now _
  refine zO (by omega) ?_
  by_cases hl : t.length < c.toNat
  ·refine zw (by omega) ?_
   simp only [zv,if_neg h8,if_pos hl]
   exact Ev.now _
  refine zO (by omega) ?_
  by_cases h0 : 0 < c.toNat
  ·refine zw (by omega) (zw (by omega) ?_)
   by_cases hz : t.getD 0 0 = 0
   ·rw [hz]
    simp only [zv,if_neg h8,if_neg hl,if_pos (And.intro h0 hz)]
    refine Ev.step (fun k => by rw [zp.j0]) ?_
    exact zw rfl (Ev.now _)
   ·have hz' : (((t.getD 0 0).toNat : Int) == 0) = false := beq_eq_false_iff_ne.2 (fun h => hz (UInt8.toNat_inj.1 (by show _ = 0;omega)))
    rw [hz']
    simp only [zv,if_neg h8,if_neg hl,if_neg (fun h : _ ∧ _ => hz h.2)]
    exact hj (by omega) (by omega)
  ·refine zO (by omega) ?_
   simp only [zv,if_neg h8,if_neg hl,if_neg (fun h : _ ∧ _ => h0 h.1)]
   exact hj (by omega) (by omega)
theorem ziq : be 2 = [2] := by
 rw [zc2 (by omega)]
 simp [zch]
def zca : Value := .iface 97 (.agg #[])
def zcE : List PanicEntry := [{ v := .iface 97 (.agg #[]),recovered := false }]
theorem zaJ.yes (w : World) : Calls Try.prog 26 #[.bool true] w fun e w' => e = .returned (.tuple #[]) ∧ w' = w := by
 go_enter Try.func26,Try.ntmps26
 go_wp2
 exact ⟨rfl,.tuple #[],by simp [results,Try.results26],rfl,rfl⟩
theorem zaJ.no (w : World) : Calls Try.prog 26 #[.bool false] w fun e w' => e = .panicked zcE ∧ w' = w := by
 go_enter Try.func26,Try.ntmps26
 go_wp2
 exact ⟨rfl,rfl,rfl⟩
set_option maxHeartbeats 2000000 in
set_option maxRecDepth 100000 in
theorem zaD.good (s : ByteArray) (b v : Nat) (r : Bs) (w : World) (hs : s.size < 4611686018427387904) (h : zas (ofB s) = some (v,r)) (hc : w.cell? ⟨b,0,none⟩ = some (.string s)) (hf : w.frozen? ⟨b,0,none⟩ = false) :
  Calls Try.prog 34 #[.pointer (some ⟨b,0,none⟩)] w fun e w' => e = .returned (.int .i64 v) ∧ ∃ m,w' = (w.drewN m).setCell ⟨b,0,none⟩ (.string (toB r)) := by
 obtain ⟨k,hk⟩ := (zbU s hs).rounds
 unfold zas at h
 split at h
 ·rename_i h0
  have hi := Option.some.inj h
  simp only [zbd] at hk
  rw [h0.1,show (zv (ofB s)).1 = v from congrArg Prod.fst hi,show (zv (ofB s)).2.1 = r from congrArg Prod.snd hi] at hk
  have hv : v ≤ 1048576 := by have := h0.2;rwa [show (zv (ofB s)).1 = v from congrArg Prod.fst hi] at this
  have hb : decide (v ≤ 1048576) = true := decide_eq_true hv
  have hb2 : decide ((v : Int) ≤ 1048576) = true := decide_eq_true (by omega)
  have hw : wrap64 (v : Int) = v := zag (by omega) (by omega)
  have HK := zc.mk hk
  clear hk h h0 hi hs hv
  go_enter Try.func34,Try.ntmps34
  go_wp2_with (first
   | (go_at_call 53;(with_reducible refine (zC.calls _ _ _ _ _ _ HK.out).mono ?_);rintro e w1 ⟨rfl,⟨nd,rfl⟩⟩)
   | (go_at_call 26;(with_reducible refine (zaJ.yes _).mono ?_);rintro e w1 ⟨rfl,rfl⟩))
  go_ret
  rw [hw]
  exact ⟨rfl,_,rfl⟩
 ·cases h
set_option maxHeartbeats 2000000 in
set_option maxRecDepth 100000 in
theorem zaD.bad (s : ByteArray) (b : Nat) (w : World) (hs : s.size < 4611686018427387904) (h : zas (ofB s) = none) (hc : w.cell? ⟨b,0,none⟩ = some (.string s)) (hf : w.frozen? ⟨b,0,none⟩ = false) :
  Calls Try.prog 34 #[.pointer (some ⟨b,0,none⟩)] w fun e w' => e = .panicked zcE ∧ ∃ m,w' = w.drewN m := by
 obtain ⟨k,hk⟩ := (zbU s hs).rounds
 unfold zas at h
 split at h
 ·cases h
 ·rename_i h0
  simp only [zbd] at hk
  generalize zv (ofB s) = q at *
  obtain ⟨v,r,e⟩ := q
  simp only at hk h0
  have HK := zc.mk hk
  clear hk h hs
  by_cases he : e = 0
  ·subst he
   have hv : ¬ v ≤ 1048576 := fun hh => h0 ⟨rfl,hh⟩
   have hb : decide (v ≤ 1048576) = false := decide_eq_false hv
   have hb2 : decide ((v : Int) ≤ 1048576) = false := decide_eq_false (by omega)
   clear h0 hv
   go_enter Try.func34,Try.ntmps34
   go_wp2_with (first
    | (go_at_call 53;(with_reducible refine (zC.calls _ _ _ _ _ _ HK.out).mono ?_);rintro e w1 ⟨rfl,⟨nd,rfl⟩⟩)
    | (go_at_call 26;(with_reducible refine (zaJ.no _).mono ?_);rintro e w1 ⟨rfl,rfl⟩))
   exact ⟨rfl,rfl,_,rfl⟩
  ·have hb : (e == 0) = false := beq_eq_false_iff_ne.2 he
   clear h0 he
   go_enter Try.func34,Try.ntmps34
   go_wp2_with (first
    | (go_at_call 53;(with_reducible refine (zC.calls _ _ _ _ _ _ HK.out).mono ?_);rintro e w1 ⟨rfl,⟨nd,rfl⟩⟩)
    | (go_at_call 26;(with_reducible refine (zaJ.no _).mono ?_);rintro e w1 ⟨rfl,rfl⟩))
   exact ⟨rfl,rfl,_,rfl⟩
theorem zaD.upd {w w' : World} {b m : Nat} {t : TypeId} {s u : Value} (hb : w.heap[b]? = some (.cells #[s] t (0,0))) (he : w' = (w.drewN m).setCell ⟨b,0,none⟩ u) :
  w'.heap[b]? = some (.cells #[u] t (0,0)) ∧ (∀ (i : Nat) (t' : TypeId) (cs : Array Value),i ≠ b → w.heap[i]? = some (.cells cs t' (0,0)) → w'.heap[i]? = some (.cells cs t' (0,0))) ∧ ∀ W0 : World,Below W0.heap.size W0 w → W0.heap.size ≤ b → Below W0.heap.size W0 w' := by
 subst he
 refine ⟨zi (zd hb m) 0 u rfl,fun i t' cs hi h => zk (zd h m) hi u,fun W0 h hg => zg (zm h m) hg⟩
theorem zaD.goodU (s : ByteArray) (b v : Nat) (r : Bs) (w : World) (t : TypeId) (hs : s.size < 4611686018427387904) (h : zas (ofB s) = some (v,r)) (hb : w.heap[b]? = some (.cells #[.string s] t (0,0))) :
  Calls Try.prog 34 #[.pointer (some ⟨b,0,none⟩)] w fun e w' => e = .returned (.int .i64 v) ∧ w'.heap[b]? = some (.cells #[.string (toB r)] t (0,0)) ∧ (∀ (i : Nat) (t' : TypeId) (cs : Array Value),i ≠ b → w.heap[i]? = some (.cells cs t' (0,0)) → w'.heap[i]? = some (.cells cs t' (0,0))) ∧ ∀ W0 : World,Below W0.heap.size W0 w → W0.heap.size ≤ b → Below W0.heap.size W0 w' := by
 refine (zaD.good s b v r w hs h ((zb hb 0).trans rfl) (za hb 0)).mono ?_
 rintro e w' ⟨rfl,m,he⟩
 exact ⟨rfl,zaD.upd hb he⟩
theorem zaD.badU (s : ByteArray) (b : Nat) (w : World) (t : TypeId) (hs : s.size < 4611686018427387904) (h : zas (ofB s) = none) (hb : w.heap[b]? = some (.cells #[.string s] t (0,0))) :
  Calls Try.prog 34 #[.pointer (some ⟨b,0,none⟩)] w fun e w' => e = .panicked zcE ∧ ∀ W0 : World,Below W0.heap.size W0 w → Below W0.heap.size W0 w' := by
 refine (zaD.bad s b w hs h ((zb hb 0).trans rfl) (za hb 0)).mono ?_
 rintro e w' ⟨rfl,m,rfl⟩
 exact ⟨rfl,fun W0 hb => zm hb m⟩
theorem zdJ (s : ByteArray) (c : UInt8) : zaI.f s (toB [c]) = some (decide ((ofB s).head? = some c)) := by
 unfold zaI.f
 rw [zV]
 rcases hq : ofB s with _ | ⟨x,t⟩
 ·have hz : s.size = 0 := by rw [← zah,hq];rfl
  rw [hz,if_neg (by simp)];simp
 ·have hz : s.size = t.length + 1 := by rw [← zah,hq];rfl
  rw [hz,if_pos (by simp;omega),if_pos (by simp),if_pos (by simp;omega)]
  have e1 : (s.extract 0 ((([c] : Bs).length : Int) : Int).toNat).toList = [x] := by
   rw [zaT,zcp,hq];rfl
  rw [e1,zaT,zae]
  by_cases h : x = c
  ·subst h;simp
  ·simp [h]
theorem zb0 (s : ByteArray) (c : UInt8) (t : Bs) (h : ofB s = c :: t) : zN.f s (toB [c]) = some (toB t,true) := by
 unfold zN.f zaR.f
 rw [zdJ,h]
 have hz : s.size = t.length + 1 := by rw [← zah,h];rfl
 simp only [List.head?_cons,decide_true,Option.bind_some,if_true]
 rw [zV,hz,if_pos (by simp),if_pos (by simp;omega)]
 simp only [Option.bind_some]
 have e : s.extract ((([c] : Bs).length : Int) : Int).toNat (t.length + 1) = toB t := by
  apply zdp
  rw [zcp,h,zae]
  show List.take (t.length + 1 - 1) t = t
  rw [Nat.add_sub_cancel,List.take_length]
 rw [e]
theorem zbm (s : ByteArray) (c : UInt8) (h : (ofB s).head? ≠ some c) : zN.f s (toB [c]) = some (s,false) := by
 unfold zN.f zaR.f
 rw [zdJ,decide_eq_false h]
 simp only [Option.bind_some]
 rw [if_neg (by simp)]
 rfl
end Go.Proofs.Ytgdpiegkoeikiaa.Px