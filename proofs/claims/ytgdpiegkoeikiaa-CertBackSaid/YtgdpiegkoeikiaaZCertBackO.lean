/- Part 15 of 30 of the proof of the law CertBack: what is proved is the statement at the end of the last part; its conditions are those of the given row. -/
import Derived.Laws.BitsAllLaws
import Derived.Test.YtgdpiegkoeikiaaZCertBackE
namespace Go.Proofs.Ytgdpiegkoeikiaa.Px
open Go.RowKit Go.Proofs.YtgdpiegkoeikiaaW.PrintWords Go.Proofs.YtgdpiegkoeikiaaW.PrintLast Go.Proofs.YtgdpiegkoeikiaaW.PrintMore
attribute [local go_sem] zx zz zJ zK zn zo zy zA
set_option linter.unusedVariables false
set_option linter.unusedSimpArgs false
def zbD.f (a0 : Int) : Option (Bool) := if a0 ≥ 1 then (some (decide (a0 ≤ 64))) else (some false)
set_option maxHeartbeats 8000000 in
set_option maxRecDepth 100000 in
theorem zbD.calls (a0 : Int) (r : Bool) (w : World) (h : zbD.f a0 = some r) :
  Calls Try.prog 132 #[.int .i64 a0] w fun e w' => e = .returned (.bool r) ∧ zaF w w' := by
 have H : (if a0 ≥ 1 then (some (decide (a0 ≤ 64))) else (some false)) = some r := h
 clear h
 by_cases c2 : a0 ≥ 1
 ·rw [if_pos c2] at H
  have c2b0 : decide (1 ≤ a0) = true := decide_eq_true c2
  clear c2
  obtain rfl := Option.some.inj H
  go_enter Try.func132,Try.ntmps132
  go_wp2
  go_ret
  exact ⟨hDq,hEq⟩
 ·rw [if_neg c2] at H
  have c2b0 : decide (1 ≤ a0) = false := decide_eq_false c2
  clear c2
  obtain rfl := Option.some.inj H
  go_enter Try.func132,Try.ntmps132
  go_wp2
  go_ret
  exact ⟨hDq,hEq⟩
def zcj.f (a0 : Int) (a1 : Int) : Option (Int × Int) := (zbD.f a1).bind fun t454 => (if t454 = true then (if 0 ≤ (wrap64 (a1 - 1)) then (some (Go.bits .or .u64 a0 (shl .u64 1 (wrap64 (a1 - 1))),0)) else (none)) else (some (0,1)))
set_option maxHeartbeats 8000000 in
set_option maxRecDepth 100000 in
theorem zcj.calls (a0 : Int) (a1 : Int) (r1 : Int) (r2 : Int) (w : World) (h : zcj.f a0 a1 = some (r1,r2)) :
  Calls Try.prog 127 #[.int .u64 a0,.int .i64 a1] w fun e w' => e = .returned (.tuple #[.int .u64 r1,.int .i64 r2]) ∧ zaF w w' := by
 have H : ((zbD.f a1).bind fun t454 => (if t454 = true then (if 0 ≤ (wrap64 (a1 - 1)) then (some (Go.bits .or .u64 a0 (shl .u64 1 (wrap64 (a1 - 1))),0)) else (none)) else (some (0,1)))) = some (r1,r2) := h
 clear h
 replace H := Option.bind_eq_some_iff.mp H
 obtain ⟨t454,A30,H⟩ := H
 replace H : (if t454 = true then (if 0 ≤ (wrap64 (a1 - 1)) then (some (Go.bits .or .u64 a0 (shl .u64 1 (wrap64 (a1 - 1))),0)) else (none)) else (some (0,1))) = some (r1,r2) := H
 have A3 := zc.mk A30
 clear A30
 by_cases c4 : t454 = true
 ·subst c4
  have H1 : (if 0 ≤ (wrap64 (a1 - 1)) then (some (Go.bits .or .u64 a0 (shl .u64 1 (wrap64 (a1 - 1))),0)) else (none)) = some (r1,r2) := by rw [if_pos rfl] at H;exact H
  clear H
  have H := H1
  clear H1
  obtain ⟨ji5,hji5⟩ : ∃ j_ : Int,(wrap64 (a1 - 1)) = j_ := ⟨_,rfl⟩
  replace H : (if 0 ≤ (ji5) then (some (Go.bits .or .u64 a0 (shl .u64 1 (ji5)),0)) else (none)) = some (r1,r2) := by first | (rw [hji5] at H;exact H) | (simp only [hji5] at H ⊢;exact H)
  (try rw [hji5] at A3)
  have hji5w : (IntKind.i64.wrap (a1 - 1)) = ji5 := (zN _).trans hji5
  by_cases c6 : 0 ≤ (ji5)
  ·rw [if_pos c6] at H
   have c6b0 := eq_true c6
   have c6b1 : decide (0 ≤ (ji5)) = true := decide_eq_true c6
   clear c6
   obtain ⟨ji7,hji7⟩ : ∃ j_ : Int,(shl .u64 1 (ji5)) = j_ := ⟨_,rfl⟩
   replace H : (some (Go.bits .or .u64 a0 (ji7),0)) = some (r1,r2) := by first | (rw [hji7] at H;exact H) | (simp only [hji7] at H ⊢;exact H)
   (try rw [hji7] at A3)
   have hji7_ : (IntKind.u64.wrap (1 * 2 ^ min (ji5).toNat 64)) = ji7 := hji7
   have hji7z : (ji5) ≤ 64 → (IntKind.u64.wrap (1 * 2 ^ (ji5).toNat)) = ji7 := zgR hji7
   have hji7u : (IntKind.u64.wrap (2 ^ min (ji5).toNat 64)) = ji7 := by have h_ := hji7_;rw [Int.one_mul] at h_;exact h_
   have hji7v : (ji5) ≤ 64 → (IntKind.u64.wrap (2 ^ (ji5).toNat)) = ji7 := fun hle_ => by have h_ := hji7z hle_;rw [Int.one_mul] at h_;exact h_
   simp only [Option.some.injEq,Prod.mk.injEq] at H
   obtain ⟨rfl,rfl⟩ := H
   go_enter Try.func127,Try.ntmps127
   go_wp2_with (first | ((with_reducible refine zp (f := 132) rfl ?_);refine z6 (some 7) rfl rfl Try.func132 (by kernel_rfl) rfl #[.int .i64 a1] rfl (by (try simp only [List.map_toArray,List.map_cons,List.map_nil]);first | done | rfl | (simp only [List.length_drop,List.length_take];rfl)) ?_;(with_reducible refine (zbD.calls a1 true _ A3.out).mono ?_);rintro e w' ⟨rfl,⟨nd,rfl⟩⟩;refine ⟨_,rfl,?_⟩))
   go_ret2
   exact ⟨by first | rfl | (simp;done) | (simp only [← hji5,← hji7] <;> (first | rfl | simp)) | (simp [*];done),hEq⟩
  ·rw [if_neg c6] at H
   exact absurd H (by simp)
 ·replace c4 := Bool.eq_false_iff.mpr c4
  subst c4
  have H1 : (some (0,1)) = some (r1,r2) := by rw [if_neg (show ¬ (false = true) by decide)] at H;exact H
  clear H
  have H := H1
  clear H1
  simp only [Option.some.injEq,Prod.mk.injEq] at H
  obtain ⟨rfl,rfl⟩ := H
  go_enter Try.func127,Try.ntmps127
  go_wp2_with (first | ((with_reducible refine zp (f := 132) rfl ?_);refine z6 (some 7) rfl rfl Try.func132 (by kernel_rfl) rfl #[.int .i64 a1] rfl (by (try simp only [List.map_toArray,List.map_cons,List.map_nil]);first | done | rfl | (simp only [List.length_drop,List.length_take];rfl)) ?_;(with_reducible refine (zbD.calls a1 false _ A3.out).mono ?_);rintro e w' ⟨rfl,⟨nd,rfl⟩⟩;refine ⟨_,rfl,?_⟩))
  go_ret2
  exact ⟨hDq,hEq⟩
def zbs.l0 : Nat → ByteArray → Int → List (S86) → Int → Int → Option (Int)
 | 0,_,_,_,_,_ => none
 | k + 1,x1,x5,x10,x11,x12 => if x12 < x11 then (if 0 ≤ x12 then (if x12 < (x10.length : Int) then (if ((zcf x10 x12).f1).toList = x1.toList then ((zcj.f x5 ((zcf x10 x12).f0)).bind fun bt457 => (if bt457.2 = 0 then (zbs.l0 k x1 bt457.1 x10 x11 (wrap64 (x12 + 1))) else (zbs.l0 k x1 x5 x10 x11 (wrap64 (x12 + 1))))) else (zbs.l0 k x1 x5 x10 x11 (wrap64 (x12 + 1)))) else (none)) else (none)) else (some x5)
def zbs.f (k : Nat) (l0 : List (S86)) (a1 : ByteArray) : Option (Int) := zbs.l0 k a1 0 l0 (l0.length : Int) 0
set_option maxHeartbeats 8000000 in
set_option maxRecDepth 100000 in
theorem zbs.calls (k : Nat) (A0 : Option Addr) (c0 : Nat) (l0 : List (S86)) (a1 : ByteArray) (r : Int) (w : World) (hr0 : Kd.C k86 w A0 l0.length l0) (hc0 : l0.length ≤ c0) (h : zbs.f k l0 a1 = some r) :
  Calls Try.prog 109 #[.slice A0 l0.length c0,.string a1] w fun e w' => e = .returned (.int .u64 r) ∧ Below w.heap.size w w' := by
 have hu86 := Try.underlying86
 have HR0 := zc.mk hr0
 have HC0 := zc.mk hc0
 clear hr0 hc0
 have HB := zc.mk (Below.refl w.heap.size w)
 have H : (zbs.l0 k a1 0 l0 (l0.length : Int) 0) = some r := h
 clear h
 have H' := zc.mk H
 clear H
 go_enter Try.func109,Try.ntmps109
 go_wp2
 go_loopg [5,12] k (fun kq v5 v12 w' => ∃ (x5_1 : Int) (x12_1 : Int),v5 = .int .u64 x5_1 ∧ v12 = .int .i64 x12_1 ∧ zc (zbs.l0 kq a1 x5_1 l0 (l0.length : Int) x12_1 = some r) ∧ zc (kq ≤ k) ∧ zc (Below w.heap.size w w'))
 case atStart => exact ⟨(0),(0),(hDq),(hDq),H',⟨Nat.le_refl _⟩,⟨by repeat (first | (with_reducible first | exact HB.out | apply zI | apply zk | apply zB) | exact HB.out)⟩⟩
 case round =>
  clear H'
  try clear c1
  try clear p2
  obtain ⟨x5_1,x12_1,rfl,rfl,HA,HK1,HB⟩ := hrel
  cases gk with
  | zero => exact absurd HA.out (by simp [zbs.l0])
  | succ k1 =>
   have H := HA.out
   clear HA
   simp only [zbs.l0] at H
   by_cases c3 : x12_1 < (l0.length : Int)
   ·rw [if_pos c3] at H
    have c3b0 : decide (x12_1 < (l0.length : Int)) = true := decide_eq_true c3
    clear c3
    by_cases c4 : 0 ≤ x12_1
    ·rw [if_pos c4] at H
     have c4b0 : decide (0 ≤ x12_1) = true := decide_eq_true c4
     clear c4
     by_cases c5 : x12_1 < (l0.length : Int)
     ·rw [if_pos c5] at H
      have c5b0 : decide (x12_1 < (l0.length : Int)) = true := decide_eq_true c5
      clear c5
      by_cases c6 : ((zcf l0 x12_1).f1).toList = a1.toList
      ·rw [if_pos c6] at H
       have c6b0 : (((zcf l0 x12_1).f1).toList == a1.toList) = true := beq_iff_eq.mpr c6
       have c6b1 : (((zcf l0 x12_1).f1).toList != a1.toList) = false := bne_eq_false_iff_eq.mpr c6
       clear c6
       replace H := Option.bind_eq_some_iff.mp H
       obtain ⟨⟨t457,t458⟩,A70,H⟩ := H
       replace H : (if t458 = 0 then (zbs.l0 k1 a1 t457 l0 (l0.length : Int) (wrap64 (x12_1 + 1))) else (zbs.l0 k1 a1 x5_1 l0 (l0.length : Int) (wrap64 (x12_1 + 1)))) = some r := H
       have A7 := zc.mk A70
       clear A70
       by_cases c8 : t458 = 0
       ·rw [if_pos c8] at H
        have c8b0 : (t458 == 0) = true := beq_iff_eq.mpr c8
        have c8b1 : (t458 != 0) = false := bne_eq_false_iff_eq.mpr c8
        clear c8
        have H' := zc.mk H
        clear H
        have p455 : 0 ≤ (x12_1 : Int) := hFq
        have q455 : x12_1 < (l0.length : Int) := hFq
        obtain ⟨ad455,e455,hx455_0,hx455_1⟩ := zh3 HR0.out x12_1 p455 q455
        cases e455
        replace hx455_0 := (HB.out.cell (World.block_lt_of_cell? w _ hx455_0)).trans hx455_0
        replace hx455_1 := (HB.out.cell (World.block_lt_of_cell? w _ hx455_1)).trans hx455_1
        replace p455 := eq_true p455
        replace q455 := eq_true q455
        go_wp2_with (first | ((with_reducible refine zD (N := 7) rfl ?_);refine zq ?hg (N := 7) ?hd (cs := #[.int .i64 0,.string (⟨#[]⟩ : ByteArray)]) (t := 86) ?hr ?_;(case hd => rfl);(case hg => rfl);(case hr => first | (go_simp;done) | (go_simp;rfl));intro gb456 hg w9 hbox hb;have n0_ := zc.mk (zg hBq hb);have n1_ := zc.mk (hbox);have n2_ := zc.mk ((by rw [hg];exact (zj hBq) : w.heap.size ≤ gb456));have n3_ := zc.mk ((by rw [hg];exact (zj hBq) : w.heap.size ≤ gb456));clear HB;have HB := n0_;have BK456 := n1_;have GW456 := n2_;have GE456 := n3_;clear n0_ n1_ n2_ n3_;clear hb hbox hg;have hcz10_0 : w9.cell? ⟨gb456,0,none⟩ = some (.int .i64 0) := (zb BK456.out 0).trans rfl;have hcz10_1 : w9.cell? ⟨gb456,1,none⟩ = some (.string (⟨#[]⟩ : ByteArray)) := (zb BK456.out 1).trans rfl;have hfz10_0 := za BK456.out 0;have hfz10_1 := za BK456.out 1) | ((with_reducible refine zp (f := 127) rfl ?_);refine z6 (some 24) rfl rfl Try.func127 (by kernel_rfl) rfl #[.int .u64 x5_1,.int .i64 ((zcf l0 x12_1).f0)] rfl (by (try simp only [List.map_toArray,List.map_cons,List.map_nil]);first | done | rfl | (simp only [List.length_drop,List.length_take];rfl)) ?_;(with_reducible refine (zcj.calls x5_1 ((zcf l0 x12_1).f0) t457 t458 _ A7.out).mono ?_);rintro e w' ⟨rfl,⟨nd,rfl⟩⟩;refine ⟨_,rfl,?_⟩))
        go_roundg k1
        case measure => have := HK1.out;omega
        case rel => exact ⟨(t457),(wrap64 (x12_1 + 1)),(hDq),(hDq),H',⟨by have := HK1.out;omega⟩,⟨by repeat (first | (with_reducible first | exact HB.out | apply zI | apply zk | apply zB | refine zw ?_ GE456.out) | exact HB.out)⟩⟩
       ·rw [if_neg c8] at H
        have c8b0 : (t458 == 0) = false := beq_eq_false_iff_ne.mpr c8
        have c8b1 : (t458 != 0) = true := bne_iff_ne.mpr c8
        have H' := zc.mk H
        clear H
        have p455 : 0 ≤ (x12_1 : Int) := hFq
        have q455 : x12_1 < (l0.length : Int) := hFq
        obtain ⟨ad455,e455,hx455_0,hx455_1⟩ := zh3 HR0.out x12_1 p455 q455
        cases e455
        replace hx455_0 := (HB.out.cell (World.block_lt_of_cell? w _ hx455_0)).trans hx455_0
        replace hx455_1 := (HB.out.cell (World.block_lt_of_cell? w _ hx455_1)).trans hx455_1
        replace p455 := eq_true p455
        replace q455 := eq_true q455
        go_wp2_with (first | ((with_reducible refine zD (N := 7) rfl ?_);refine zq ?hg (N := 7) ?hd (cs := #[.int .i64 0,.string (⟨#[]⟩ : ByteArray)]) (t := 86) ?hr ?_;(case hd => rfl);(case hg => rfl);(case hr => first | (go_simp;done) | (go_simp;rfl));intro gb456 hg w11 hbox hb;have n0_ := zc.mk (zg hBq hb);have n1_ := zc.mk (hbox);have n2_ := zc.mk ((by rw [hg];exact (zj hBq) : w.heap.size ≤ gb456));have n3_ := zc.mk ((by rw [hg];exact (zj hBq) : w.heap.size ≤ gb456));clear HB;have HB := n0_;have BK456 := n1_;have GW456 := n2_;have GE456 := n3_;clear n0_ n1_ n2_ n3_;clear hb hbox hg;have hcz12_0 : w11.cell? ⟨gb456,0,none⟩ = some (.int .i64 0) := (zb BK456.out 0).trans rfl;have hcz12_1 : w11.cell? ⟨gb456,1,none⟩ = some (.string (⟨#[]⟩ : ByteArray)) := (zb BK456.out 1).trans rfl;have hfz12_0 := za BK456.out 0;have hfz12_1 := za BK456.out 1) | ((with_reducible refine zp (f := 127) rfl ?_);refine z6 (some 24) rfl rfl Try.func127 (by kernel_rfl) rfl #[.int .u64 x5_1,.int .i64 ((zcf l0 x12_1).f0)] rfl (by (try simp only [List.map_toArray,List.map_cons,List.map_nil]);first | done | rfl | (simp only [List.length_drop,List.length_take];rfl)) ?_;(with_reducible refine (zcj.calls x5_1 ((zcf l0 x12_1).f0) t457 t458 _ A7.out).mono ?_);rintro e w' ⟨rfl,⟨nd,rfl⟩⟩;refine ⟨_,rfl,?_⟩))
        go_roundg k1
        case measure => have := HK1.out;omega
        case rel => exact ⟨(x5_1),(wrap64 (x12_1 + 1)),(hDq),(hDq),H',⟨by have := HK1.out;omega⟩,⟨by repeat (first | (with_reducible first | exact HB.out | apply zI | apply zk | apply zB | refine zw ?_ GE456.out) | exact HB.out)⟩⟩
      ·rw [if_neg c6] at H
       have c6b0 : (((zcf l0 x12_1).f1).toList == a1.toList) = false := beq_eq_false_iff_ne.mpr c6
       have c6b1 : (((zcf l0 x12_1).f1).toList != a1.toList) = true := bne_iff_ne.mpr c6
       have H' := zc.mk H
       clear H
       have p455 : 0 ≤ (x12_1 : Int) := hFq
       have q455 : x12_1 < (l0.length : Int) := hFq
       obtain ⟨ad455,e455,hx455_0,hx455_1⟩ := zh3 HR0.out x12_1 p455 q455
       cases e455
       replace hx455_0 := (HB.out.cell (World.block_lt_of_cell? w _ hx455_0)).trans hx455_0
       replace hx455_1 := (HB.out.cell (World.block_lt_of_cell? w _ hx455_1)).trans hx455_1
       replace p455 := eq_true p455
       replace q455 := eq_true q455
       go_wp2_with (first | ((with_reducible refine zD (N := 7) rfl ?_);refine zq ?hg (N := 7) ?hd (cs := #[.int .i64 0,.string (⟨#[]⟩ : ByteArray)]) (t := 86) ?hr ?_;(case hd => rfl);(case hg => rfl);(case hr => first | (go_simp;done) | (go_simp;rfl));intro gb456 hg w13 hbox hb;have n0_ := zc.mk (zg hBq hb);have n1_ := zc.mk (hbox);have n2_ := zc.mk ((by rw [hg];exact (zj hBq) : w.heap.size ≤ gb456));have n3_ := zc.mk ((by rw [hg];exact (zj hBq) : w.heap.size ≤ gb456));clear HB;have HB := n0_;have BK456 := n1_;have GW456 := n2_;have GE456 := n3_;clear n0_ n1_ n2_ n3_;clear hb hbox hg;have hcz14_0 : w13.cell? ⟨gb456,0,none⟩ = some (.int .i64 0) := (zb BK456.out 0).trans rfl;have hcz14_1 : w13.cell? ⟨gb456,1,none⟩ = some (.string (⟨#[]⟩ : ByteArray)) := (zb BK456.out 1).trans rfl;have hfz14_0 := za BK456.out 0;have hfz14_1 := za BK456.out 1))
       go_roundg k1
       case measure => have := HK1.out;omega
       case rel => exact ⟨(x5_1),(wrap64 (x12_1 + 1)),(hDq),(hDq),H',⟨by have := HK1.out;omega⟩,⟨by repeat (first | (with_reducible first | exact HB.out | apply zI | apply zk | apply zB | refine zw ?_ GE456.out) | exact HB.out)⟩⟩
     ·rw [if_neg c5] at H
      exact absurd H (by simp)
    ·rw [if_neg c4] at H
     exact absurd H (by simp)
   ·rw [if_neg c3] at H
    have c3b0 : decide (x12_1 < (l0.length : Int)) = false := decide_eq_false c3
    clear c3
    obtain rfl := Option.some.inj H
    go_wp2
    go_ret
    exact ⟨hHq,hBq⟩
def zb7.f (k : Nat) (l0 : List (S86)) (a1 : Int) (a2 : ByteArray) : Option (Bool) := (zbs.f k l0 a2).bind fun t459 => (some ((Go.bits .andNot .u64 a1 t459) == 0))
set_option maxHeartbeats 8000000 in
set_option maxRecDepth 100000 in
theorem zb7.calls (k : Nat) (A0 : Option Addr) (c0 : Nat) (l0 : List (S86)) (a1 : Int) (a2 : ByteArray) (r : Bool) (w : World) (hr0 : Kd.C k86 w A0 l0.length l0) (hc0 : l0.length ≤ c0) (h : zb7.f k l0 a1 a2 = some r) :
  Calls Try.prog 74 #[.slice A0 l0.length c0,.int .u64 a1,.string a2] w fun e w' => e = .returned (.bool r) ∧ Below w.heap.size w w' := by
 have HR0 := zc.mk hr0
 have HC0 := zc.mk hc0
 clear hr0 hc0
 have HB := zc.mk (Below.refl w.heap.size w)
 have H : ((zbs.f k l0 a2).bind fun t459 => (some ((Go.bits .andNot .u64 a1 t459) == 0))) = some r := h
 clear h
 replace H := Option.bind_eq_some_iff.mp H
 obtain ⟨t459,A40,H⟩ := H
 replace H : (some ((Go.bits .andNot .u64 a1 t459) == 0)) = some r := H
 have A4 := zc.mk A40
 clear A40
 obtain rfl := Option.some.inj H
 go_enter Try.func74,Try.ntmps74
 go_wp2_with (first | ((with_reducible refine zp (f := 109) rfl ?_);refine z6 (some 10) rfl rfl Try.func109 (by kernel_rfl) rfl #[.slice A0 l0.length c0,.string a2] rfl (by (try simp only [List.map_toArray,List.map_cons,List.map_nil]);first | done | rfl | (simp only [List.length_drop,List.length_take];rfl)) ?_;(with_reducible refine (zbs.calls k _ _ l0 a2 t459 _ ?side1 ?side2 A4.out).mono ?_);(case side1 => repeat (first | exact HR0.out | (with_reducible refine Kd.C_alloc ?_ _) | (with_reducible refine Kd.C_drewN ?_ _) | (with_reducible refine Kd.C_drew ?_)));(case side2 => exact HC0.out);rintro e w5 ⟨rfl,hb⟩;refine ⟨_,rfl,?_⟩;have n0_ := zc.mk (zg hBq hb);clear HB;have HB := n0_;clear n0_;(try clear hb);(try clear hb2);(try clear hk);(try clear hi)))
 go_ret
 exact ⟨hHq,hBq⟩
def za3.f (a0 : ByteArray) : Option (ByteArray) := if 1 + a0.size ≤ 9223372036854775807 then (some ((⟨#[121]⟩ : ByteArray) ++ a0)) else (none)
set_option maxHeartbeats 8000000 in
set_option maxRecDepth 100000 in
theorem za3.calls (a0 : ByteArray) (r : ByteArray) (w : World) (h : za3.f a0 = some r) :
  Calls Try.prog 47 #[.string a0] w fun e w' => e = .returned (.string r) ∧ zaF w w' := by
 have H : (if 1 + a0.size ≤ 9223372036854775807 then (some ((⟨#[121]⟩ : ByteArray) ++ a0)) else (none)) = some r := h
 clear h
 by_cases c2 : 1 + a0.size ≤ 9223372036854775807
 ·rw [if_pos c2] at H
  have c2b0 := eq_true c2
  have c2b1 : decide (1 + a0.size ≤ 9223372036854775807) = true := decide_eq_true c2
  try have c2b2 : (9223372036854775807 < 1 + a0.size) = False := eq_false (Nat.not_lt.2 c2)
  obtain rfl := Option.some.inj H
  go_enter Try.func47,Try.ntmps47
  go_wp2
  go_ret
  exact ⟨hDq,hEq⟩
 ·rw [if_neg c2] at H
  exact absurd H (by simp)
def zcm.f (a0 : Int) (a1 : Int) : Option (Int) := if 0 ≤ (Go.bits .and .u64 (IntKind.u64.wrap (a1)) 31) then (if 0 ≤ (IntKind.u64.wrap (32 - (Go.bits .and .u64 (IntKind.u64.wrap (a1)) 31))) then (some (Go.bits .or .u32 (shl .u32 a0 (Go.bits .and .u64 (IntKind.u64.wrap (a1)) 31)) (shr .u32 a0 (IntKind.u64.wrap (32 - (Go.bits .and .u64 (IntKind.u64.wrap (a1)) 31)))))) else (none)) else (none)
def zgd.f (a0 : Int) (a1 : Int) : Option (Int) := (zcm.f a0 (wrap64 (-a1))).bind fun t423 => (some t423)
def zbw (x : Int) : Prop := 0 ≤ x ∧ x < 4294967296
def zcx (x : Int) : Int := IntKind.u32.wrap x
theorem zbW (x : Int) : zcx x = x % 4294967296 := IntKind.wrap_u32 x
theorem zfL (x : Int) : zbw (zcx x) := by rw [zbW];unfold zbw;omega
def zaw (n : Nat) (x : Int) : Int := x / 2 ^ n + x % 2 ^ n * 2 ^ (32 - n)
def zcl (a b : Int) : Int := Go.bits .xor .u32 a b
def zdA (a b : Int) : Int := Go.bits .and .u32 a b
def zeZ (L : List Int) (k w : Int) : List Int :=
 let t := zcx (zcx (zcx (zcx (L.getD 7 0 + zcl (zcl (zaw 6 (L.getD 4 0)) (zaw 11 (L.getD 4 0))) (zaw 25 (L.getD 4 0))) + zcl (zdA (L.getD 4 0) (L.getD 5 0)) (zdA (4294967295 - L.getD 4 0) (L.getD 6 0))) + k) + w)
 let u := zcx (zcl (zcl (zaw 2 (L.getD 0 0)) (zaw 13 (L.getD 0 0))) (zaw 22 (L.getD 0 0)) + zcl (zcl (zdA (L.getD 0 0) (L.getD 1 0)) (zdA (L.getD 0 0) (L.getD 2 0))) (zdA (L.getD 1 0) (L.getD 2 0)))
 [zcx (t + u),L.getD 0 0,L.getD 1 0,L.getD 2 0,zcx (L.getD 3 0 + t),L.getD 4 0,L.getD 5 0,L.getD 6 0]
def okL (L : List Int) : Prop := ∀ i,zbw (L.getD i 0)
theorem zhc : okL [] := fun i => by simp [zbw]
theorem zbp {x : Int} {L : List Int} (hx : zbw x) (hL : okL L) : okL (x :: L) := fun i => by
 rcases i with _ | i
 ·exact hx
 ·exact hL i
theorem zhL {x : Int} {L : List Int} (hL : okL L) (hx : zbw x) : okL (L ++ [x]) := fun i => by
 rw [List.getD_eq_getElem?_getD]
 rcases Nat.lt_trichotomy i L.length with h | h | h
 ·rw [List.getElem?_append_left h,← List.getD_eq_getElem?_getD];exact hL i
 ·subst h;simp;exact hx
 ·rw [List.getElem?_eq_none (by rw [List.length_append];simp;omega)];simp [zbw]
theorem ziR {L : List Int} (h : okL L) (k w : Int) : okL (zeZ L k w) :=
 zbp (zfL _) (zbp (h 0) (zbp (h 1) (zbp (h 2) (zbp (zfL _) (zbp (h 4) (zbp (h 5) (zbp (h 6) zhc)))))))
def zgj (b : ByteArray) (i : Nat) : Int := bt b ((4 * i : Nat) : Int) * 16777216 + bt b ((4 * i + 1 : Nat) : Int) * 65536 + bt b ((4 * i + 2 : Nat) : Int) * 256 + bt b ((4 * i + 3 : Nat) : Int)
theorem word4_ok (b : ByteArray) (i : Nat) : zbw (zgj b i) := by
 have h0 := zbP b ((4 * i : Nat) : Int)
 have h1 := zbP b ((4 * i + 1 : Nat) : Int)
 have h2 := zbP b ((4 * i + 2 : Nat) : Int)
 have h3 := zbP b ((4 * i + 3 : Nat) : Int)
 unfold zbw zgj;omega
def zcM (b : ByteArray) : Nat → List Int
 | 0 => []
 | n + 1 => zcM b n ++ [zgj b n]
theorem zci (b : ByteArray) : ∀ n,(zcM b n).length = n
 | 0 => rfl
 | n + 1 => by rw [zcM,List.length_append,zci b n];rfl
theorem zhG (b : ByteArray) : ∀ n,okL (zcM b n)
 | 0 => zhc
 | n + 1 => zhL (zhG b n) (word4_ok b n)
def zdw (W : List Int) (i : Nat) : Int :=
 zcx (zcx (zcx (W.getD (i - 16) 0 + zcl (zcl (zaw 7 (W.getD (i - 15) 0)) (zaw 18 (W.getD (i - 15) 0))) (W.getD (i - 15) 0 / 8)) + W.getD (i - 7) 0) + zcl (zcl (zaw 17 (W.getD (i - 2) 0)) (zaw 19 (W.getD (i - 2) 0))) (W.getD (i - 2) 0 / 1024))
def zO (b : ByteArray) : Nat → List Int
 | 0 => zcM b 16
 | n + 1 => zO b n ++ [zdw (zO b n) (16 + n)]
theorem za8 (b : ByteArray) : ∀ n,(zO b n).length = 16 + n
 | 0 => zci b 16
 | n + 1 => by rw [zO,List.length_append,za8 b n];rfl
theorem ze0 (b : ByteArray) : ∀ n,okL (zO b n)
 | 0 => zhG b 16
 | n + 1 => zhL (ze0 b n) (zfL _)
def za5 (S K W : List Int) : Nat → List Int
 | 0 => S
 | n + 1 => zeZ (za5 S K W n) (K.getD n 0) (W.getD n 0)
theorem zdv {S : List Int} (h : okL S) (K W : List Int) : ∀ n,okL (za5 S K W n)
 | 0 => h
 | n + 1 => ziR (zdv h K W n) _ _
theorem zdW {S : List Int} (h : S.length = 8) (K W : List Int) : ∀ n,(za5 S K W n).length = 8
 | 0 => h
 | _ + 1 => rfl
def zcU (S H : List Int) (k : Nat) : List Int := (List.range 8).map fun j => if j < k then zcx (S.getD j 0 + H.getD j 0) else S.getD j 0
theorem zcE (S H : List Int) (k : Nat) : (zcU S H k).length = 8 := by simp [zcU]
theorem zc2 (S H : List Int) (k j : Nat) (hj : j < 8) : (zcU S H k).getD j 0 = if j < k then zcx (S.getD j 0 + H.getD j 0) else S.getD j 0 := by
 rw [zcU,List.getD_eq_getElem?_getD,List.getElem?_map,List.getElem?_range hj];rfl
theorem zfW {A B : List Int} (ha : A.length = 8) (hb : B.length = 8) (h : ∀ j,j < 8 → A.getD j 0 = B.getD j 0) : A = B := by
 apply List.ext_getElem (by rw [ha,hb])
 intro i h1 h2
 have := h i (by omega)
 rwa [List.getD_eq_getElem?_getD,List.getD_eq_getElem?_getD,List.getElem?_eq_getElem h1,List.getElem?_eq_getElem h2] at this
theorem zit {S : List Int} (h : S.length = 8) (H : List Int) : zcU S H 0 = S :=
 zfW (zcE _ _ _) h (fun j hj => by rw [zc2 _ _ _ _ hj,if_neg (by omega)])
theorem getD_set (L : List Int) (k j : Nat) (v : Int) (hk : k < L.length) : (L.set k v).getD j 0 = if j = k then v else L.getD j 0 := by
 rw [List.getD_eq_getElem?_getD,List.getElem?_set]
 by_cases h : k = j
 ·subst h;rw [if_pos rfl,if_pos hk,if_pos rfl];rfl
 ·rw [if_neg h,if_neg (Ne.symm h),← List.getD_eq_getElem?_getD]
theorem zis (S H : List Int) (k : Nat) (hk : k < 8) : (zcU S H k).set k (zcx (S.getD k 0 + H.getD k 0)) = zcU S H (k + 1) := by
 refine zfW (by rw [List.length_set,zcE]) (zcE _ _ _) (fun j hj => ?_)
 rw [getD_set _ _ _ _ (by rw [zcE];exact hk),zc2 _ _ _ _ hj,zc2 _ _ _ _ hj]
 by_cases h : j = k
 ·subst h;rw [if_pos rfl,if_pos (by omega)]
 ·rw [if_neg h]
  by_cases h2 : j < k
  ·rw [if_pos h2,if_pos (by omega)]
  ·rw [if_neg h2,if_neg (by omega)]
def zes (S K : List Int) (b : ByteArray) : List Int := zcU (za5 S K (zO b 48) 64) S 8
theorem zdl (S K : List Int) (b : ByteArray) : (zes S K b).length = 8 := zcE _ _ _
theorem mixL_ok (S K : List Int) (b : ByteArray) : okL (zes S K b) := fun i => by
 rcases Nat.lt_or_ge i 8 with h | h
 ·rw [zes,zc2 _ _ _ _ h,if_pos h];exact zfL _
 ·rw [List.getD_eq_getElem?_getD,List.getElem?_eq_none (by rw [zdl];exact h)];simp [zbw]
def kL : List Int := [1116352408,1899447441,3049323471,3921009573,961987163,1508970993,2453635748,2870763221,3624381080,310598401,607225278,1426881987,1925078388,2162078206,2614888103,3248222580,3835390401,4022224774,264347078,604807628,770255983,1249150122,1555081692,1996064986,2554220882,2821834349,2952996808,3210313671,3336571891,3584528711,113926993,338241895,666307205,773529912,1294757372,1396182291,1695183700,1986661051,2177026350,2456956037,2730485921,2820302411,3259730800,3345764771,3516065817,3600352804,4094571909,275423344,430227734,506948616,659060556,883997877,958139571,1322822218,1537002063,1747873779,1955562222,2024104815,2227730452,2361852424,2428436474,2756734187,3204031479,3329325298]
def hL : List Int := [1779033703,3144134277,1013904242,2773480762,1359893119,2600822924,528734635,1541459225]
theorem hL_ok : okL hL := by
 refine zbp ?_ (zbp ?_ (zbp ?_ (zbp ?_ (zbp ?_ (zbp ?_ (zbp ?_ (zbp ?_ zhc))))))) <;> (constructor <;> decide)
def zep (n : Nat) : Bs := [UInt8.ofNat (n / 72057594037927936 % 256),UInt8.ofNat (n / 281474976710656 % 256),UInt8.ofNat (n / 1099511627776 % 256),UInt8.ofNat (n / 4294967296 % 256),UInt8.ofNat (n / 16777216 % 256),UInt8.ofNat (n / 65536 % 256),UInt8.ofNat (n / 256 % 256),UInt8.ofNat (n % 256)]
def zcw (n : Nat) : Nat := (119 - n % 64) % 64
def zdS (s : Bs) : Bs := s ++ 128 :: (List.replicate (zcw s.length) 0 ++ zep (s.length * 8))
theorem zhN (s : Bs) : ∃ m,(zdS s).length = 64 * m := by
 refine ⟨(s.length + 9 + zcw s.length) / 64,?_⟩
 have : (zdS s).length = s.length + 9 + zcw s.length := by simp [zdS,zep];omega
 rw [this];unfold zcw;omega
def zaZ (p : ByteArray) : Nat → List Int
 | 0 => hL
 | i + 1 => zes (zaZ p i) kL (p.extract (64 * i) (64 * i + 64))
theorem zbu (p : ByteArray) : ∀ i,(zaZ p i).length = 8
 | 0 => rfl
 | _ + 1 => zdl _ _ _
theorem zdp (p : ByteArray) : ∀ i,okL (zaZ p i)
 | 0 => hL_ok
 | _ + 1 => mixL_ok _ _ _
def zcS (x : Int) : Bs := [UInt8.ofNat (x.toNat / 16777216 % 256),UInt8.ofNat (x.toNat / 65536 % 256),UInt8.ofNat (x.toNat / 256 % 256),UInt8.ofNat (x.toNat % 256)]
def zgc (s : ByteArray) : ByteArray := toB ((zaZ (toB (zdS (ofB s))) ((zdS (ofB s)).length / 64)).flatMap zcS)
theorem zez (l : List Int) : (l.flatMap zcS).length = 4 * l.length := by
 induction l with
 | nil => rfl
 | cons x l ih => rw [List.flatMap_cons,List.length_append,ih,List.length_cons];show 4 + _ = _;omega
theorem ziT (s : ByteArray) : (zgc s).size = 32 := by
 rw [zgc,zX,zez,zbu]
def zP (L : List Int) : Array Value := (L.map (Value.int .u32)).toArray
theorem za0 (L : List Int) : (zP L).size = L.length := by simp [zP]
theorem z4 (L : List Int) (i : Nat) (h : i < L.length) : (zP L)[i]? = some (.int .u32 (L.getD i 0)) := by
 rw [zP,List.getElem?_toArray,List.getElem?_map,List.getElem?_eq_getElem h,List.getD_eq_getElem?_getD,List.getElem?_eq_getElem h];rfl
theorem zfc (L : List Int) (i : Nat) (v : Int) : (zP L).setIfInBounds i (.int .u32 v) = zP (L.set i v) := by
 simp [zP,List.map_set]
theorem zfb (L : List Int) (h : L.length = 8) : zP L = #[.int .u32 (L.getD 0 0),.int .u32 (L.getD 1 0),.int .u32 (L.getD 2 0),.int .u32 (L.getD 3 0),.int .u32 (L.getD 4 0),.int .u32 (L.getD 5 0),.int .u32 (L.getD 6 0),.int .u32 (L.getD 7 0)] := by
 obtain ⟨a,b,c,d,e,f,g,k,rfl⟩ : ∃ a b c d e f g k,L = [a,b,c,d,e,f,g,k] := by
  match L,h with
  | [a,b,c,d,e,f,g,k],_ => exact ⟨a,b,c,d,e,f,g,k,rfl⟩
 rfl
def zbS (W : List Int) : List Int := W ++ List.replicate (64 - W.length) 0
theorem zds {W : List Int} (h : W.length ≤ 64) : (zbS W).length = 64 := by simp [zbS];omega
theorem zfT {W : List Int} (i : Nat) (h : i < W.length) : (zbS W).getD i 0 = W.getD i 0 := by
 rw [zbS,List.getD_eq_getElem?_getD,List.getElem?_append_left h,← List.getD_eq_getElem?_getD]
theorem zh7 {W : List Int} (h : W.length < 64) (v : Int) : (zbS W).set W.length v = zbS (W ++ [v]) := by
 rw [zbS,zbS,List.set_append_right _ _ (Nat.le_refl _),Nat.sub_self,List.length_append]
 obtain ⟨m,hm⟩ : ∃ m,64 - W.length = m + 1 := ⟨63 - W.length,by omega⟩
 rw [hm,List.replicate_succ,List.set_cons_zero,show 64 - (W.length + [v].length) = m by simp;omega]
 simp
def zal.l0 : Nat → Int → Int → Int → Option (Int)
 | 0,_,_,_ => none
 | k + 1,x0,x1,x5 => if x5 < x1 then (zal.l0 k ((Int.tdiv x0 2) % 4294967296) x1 (wrap64 (x5 + 1))) else (some x0)
def zal.f (k : Nat) (a0 : Int) (a1 : Int) : Option (Int) := zal.l0 k a0 a1 0
set_option maxHeartbeats 8000000 in
set_option maxRecDepth 100000 in
theorem zal.calls (k : Nat) (a0 : Int) (a1 : Int) (r : Int) (w : World) (h : zal.f k a0 a1 = some r) :
  Calls Try.prog 121 #[.int .u32 a0,.int .i64 a1] w fun e w' => e = .returned (.int .u32 r) ∧ zaF w w' := by
 have H : (zal.l0 k a0 a1 0) = some r := h
 clear h
 have H' := zc.mk H
 clear H
 go_enter Try.func121,Try.ntmps121
 go_wp2
 go_loopg [0,5] k (fun kq v0 v5 w' => ∃ (x0_1 : Int) (x5_1 : Int),v0 = .int .u32 x0_1 ∧ v5 = .int .i64 x5_1 ∧ zc (zal.l0 kq x0_1 a1 x5_1 = some r) ∧ zc (kq ≤ k) ∧ zaF w w')
 case atStart => exact ⟨(a0),(0),(hDq),(hDq),H',⟨Nat.le_refl _⟩,hEq⟩
 case round =>
  clear H'
  try clear c1
  try clear p2
  obtain ⟨x0_1,x5_1,rfl,rfl,HA,HK1,⟨m1,rfl⟩⟩ := hrel
  cases gk with
  | zero => exact absurd HA.out (by simp [zal.l0])
  | succ k1 =>
   have H := HA.out
   clear HA
   simp only [zal.l0] at H
   by_cases c3 : x5_1 < a1
   ·rw [if_pos c3] at H
    have c3b0 : decide (x5_1 < a1) = true := decide_eq_true c3
    clear c3
    have H' := zc.mk H
    clear H
    go_wp2
    go_roundg k1
    case measure => have := HK1.out;omega
    case rel => exact ⟨((Int.tdiv x0_1 2) % 4294967296),(wrap64 (x5_1 + 1)),(hDq),(hDq),H',⟨by have := HK1.out;omega⟩,hEq⟩
   ·rw [if_neg c3] at H
    have c3b0 : decide (x5_1 < a1) = false := decide_eq_false c3
    clear c3
    obtain rfl := Option.some.inj H
    go_wp2
    go_ret
    exact ⟨hDq,hEq⟩
mutual
def zV.l0 : Nat → Int → Int → Int → Int → Option (Int)
 | 0,_,_,_,_ => none
 | k + 1,x0,x1,x5,x6 => if x6 < x1 then (zV.l0 k x0 x1 ((x5 * 2) % 4294967296) (wrap64 (x6 + 1))) else (if x5 = 0 then (none) else (zV.l1 k x0 x1 x5 (Int.tmod x0 x5) 0))
def zV.l1 : Nat → Int → Int → Int → Int → Int → Option (Int)
 | 0,_,_,_,_,_ => none
 | k + 1,x0,x1,x5,x7,x8 => if x8 < (wrap64 (32 - x1)) then (zV.l1 k x0 x1 x5 ((x7 * 2) % 4294967296) (wrap64 (x8 + 1))) else (if x5 = 0 then (none) else (some ((((Int.tdiv x0 x5) % 4294967296) + x7) % 4294967296)))
end
def zV.f (k : Nat) (a0 : Int) (a1 : Int) : Option (Int) := zV.l0 k a0 a1 1 0
set_option maxHeartbeats 8000000 in
set_option maxRecDepth 100000 in
theorem zV.calls (k : Nat) (a0 : Int) (a1 : Int) (r : Int) (w : World) (h : zV.f k a0 a1 = some r) :
  Calls Try.prog 120 #[.int .u32 a0,.int .i64 a1] w fun e w' => e = .returned (.int .u32 r) ∧ zaF w w' := by
 have H : (zV.l0 k a0 a1 1 0) = some r := h
 clear h
 have H' := zc.mk H
 clear H
 go_enter Try.func120,Try.ntmps120
 go_wp2
 go_loopg [5,6] k (fun kq v5 v6 w' => ∃ (x5_1 : Int) (x6_1 : Int),v5 = .int .u32 x5_1 ∧ v6 = .int .i64 x6_1 ∧ zc (zV.l0 kq a0 a1 x5_1 x6_1 = some r) ∧ zc (kq ≤ k) ∧ zaF w w')
 case atStart => exact ⟨(1),(0),(hDq),(hDq),H',⟨Nat.le_refl _⟩,hEq⟩
 case round =>
  clear H'
  try clear c1
  try clear p2
  obtain ⟨x5_1,x6_1,rfl,rfl,HA,HK1,⟨m1,rfl⟩⟩ := hrel
  cases gk with
  | zero => exact absurd HA.out (by simp [zV.l0])
  | succ k1 =>
   have H := HA.out
   clear HA
   simp only [zV.l0] at H
   by_cases c3 : x6_1 < a1
   ·rw [if_pos c3] at H
    have c3b0 : decide (x6_1 < a1) = true := decide_eq_true c3
    clear c3
    have H' := zc.mk H
    clear H
    go_wp2
    go_roundg k1
    case measure => have := HK1.out;omega
    case rel => exact ⟨((x5_1 * 2) % 4294967296),(wrap64 (x6_1 + 1)),(hDq),(hDq),H',⟨by have := HK1.out;omega⟩,hEq⟩
   ·rw [if_neg c3] at H
    have c3b0 : decide (x6_1 < a1) = false := decide_eq_false c3
    clear c3
    by_cases c4 : x5_1 = 0
    ·rw [if_pos c4] at H
     exact absurd H (by simp)
    ·rw [if_neg c4] at H
     have c4b0 : (x5_1 == 0) = false := beq_eq_false_iff_ne.mpr c4
     have c4b1 : (x5_1 != 0) = true := bne_iff_ne.mpr c4
     have H' := zc.mk H
     clear H
     go_wp2
     go_loopg [7,8] k1 (fun kq v7 v8 w' => ∃ (x7_2 : Int) (x8_2 : Int),v7 = .int .u32 x7_2 ∧ v8 = .int .i64 x8_2 ∧ zc (zV.l1 kq a0 a1 x5_1 x7_2 x8_2 = some r) ∧ zc (kq ≤ k1) ∧ zaF w w')
     case atStart => exact ⟨(Int.tmod a0 x5_1),(0),(hDq),(hDq),H',⟨Nat.le_refl _⟩,hEq⟩
     case round =>
      clear H'
      try clear c1
      try clear p2
      try clear c3
      try clear c3b0
      try clear c4
      try clear c4b0
      try clear c4b1
      try clear p2
      obtain ⟨x7_2,x8_2,rfl,rfl,HA,HK2,⟨m2,rfl⟩⟩ := hrel
      cases gk with
      | zero => exact absurd HA.out (by simp [zV.l1])
      | succ k2 =>
       have H := HA.out
       clear HA
       simp only [zV.l1] at H
       by_cases c5 : x8_2 < (wrap64 (32 - a1))
       ·rw [if_pos c5] at H
        have c5b0 : decide (x8_2 < (wrap64 (32 - a1))) = true := decide_eq_true c5
        clear c5
        have H' := zc.mk H
        clear H
        go_wp2
        go_roundg k2
        case measure => have := HK1.out;have := HK2.out;omega
        case rel => exact ⟨((x7_2 * 2) % 4294967296),(wrap64 (x8_2 + 1)),(hDq),(hDq),H',⟨by have := HK1.out;have := HK2.out;omega⟩,hEq⟩
       ·rw [if_neg c5] at H
        have c5b0 : decide (x8_2 < (wrap64 (32 - a1))) = false := decide_eq_false c5
        clear c5
        by_cases c6 : x5_1 = 0
        ·rw [if_pos c6] at H
         exact absurd H (by simp)
        ·rw [if_neg c6] at H
         have c6b0 : (x5_1 == 0) = false := beq_eq_false_iff_ne.mpr c6
         have c6b1 : (x5_1 != 0) = true := bne_iff_ne.mpr c6
         obtain rfl := Option.some.inj H
         go_wp2
         go_ret
         exact ⟨hDq,hEq⟩
theorem zid (n : Nat) (h1 : n ≤ 32) : (2 : Int) ^ n * 2 ^ (32 - n) = 4294967296 := by
 rw [← Int.pow_add,show n + (32 - n) = 32 by omega];rfl
theorem zcr (n : Nat) : (0 : Int) < 2 ^ n := Int.pow_pos (by decide)
theorem rot32_ok (n : Nat) (h1 : n ≤ 32) {x : Int} (hx : zbw x) : zbw (zaw n x) := by
 have hpq := zid n h1
 have hp := zcr n
 have hq := zcr (32 - n)
 have h2 := Int.emod_nonneg x (Int.ne_of_gt hp)
 have h3 := Int.emod_lt_of_pos x hp
 have h4 : 0 ≤ x / 2 ^ n := Int.ediv_nonneg hx.1 (Int.le_of_lt hp)
 have h5 : x / 2 ^ n < 2 ^ (32 - n) := Int.ediv_lt_of_lt_mul hp (by rw [Int.mul_comm,hpq];exact hx.2)
 unfold zaw
 generalize (2 : Int) ^ n = p at *
 generalize (2 : Int) ^ (32 - n) = q at *
 generalize x % p = m at *
 generalize x / p = d at *
 have h6 : m * q ≤ (p - 1) * q := Int.mul_le_mul_of_nonneg_right (by omega) (by omega)
 rw [Int.sub_mul,hpq,Int.one_mul] at h6
 have h7 : 0 ≤ m * q := Int.mul_nonneg h2 (by omega)
 unfold zbw;omega
theorem rot_join (n : Nat) (h1 : n ≤ 32) {x : Int} (hx : zbw x) : Go.bits .or .u32 (IntKind.u32.wrap (x * 2 ^ (32 - n))) (x / 2 ^ n) = zaw n x := by
 have hpq := zid n h1
 have hp := zcr n
 have hq := zcr (32 - n)
 have h2 := Int.emod_nonneg x (Int.ne_of_gt hp)
 have h3 := Int.emod_lt_of_pos x hp
 have h4 : 0 ≤ x / 2 ^ n := Int.ediv_nonneg hx.1 (Int.le_of_lt hp)
 have h5 : x / 2 ^ n < 2 ^ (32 - n) := Int.ediv_lt_of_lt_mul hp (by rw [Int.mul_comm,hpq];exact hx.2)
 have h8 : x / 2 ^ n < 4294967296 := by
  have : x / 2 ^ n ≤ x := Int.ediv_le_self _ hx.1
  have := hx.2;omega
 have e : IntKind.u32.wrap (x * 2 ^ (32 - n)) = x % 2 ^ n * 2 ^ (32 - n) := by
  rw [IntKind.wrap_u32,← hpq,Int.mul_comm x,Int.mul_comm (2 ^ n),Int.mul_emod_mul_of_pos _ _ hq,Int.mul_comm]
 have h6 : x % 2 ^ n * 2 ^ (32 - n) ≤ (2 ^ n - 1) * 2 ^ (32 - n) := Int.mul_le_mul_of_nonneg_right (by omega) (by omega)
 rw [Int.sub_mul,hpq,Int.one_mul] at h6
 have h7 : 0 ≤ x % 2 ^ n * 2 ^ (32 - n) := Int.mul_nonneg h2 (by omega)
 rw [e,bits_join .u32 32 (by decide) (fun n h0 h1 => by rw [IntKind.wrap_u32];omega) (32 - n) _ _ h7 (Int.mul_emod_left _ _) (by omega) h4 h5 (by omega),zaw,Int.add_comm]
theorem zhT (n : Nat) (h0 : 1 ≤ n) (h1 : n ≤ 31) {x : Int} (hx : zbw x) : zgd.f x (n : Int) = some (zaw n x) := by
 unfold zgd.f zcm.f
 have e1 : wrap64 (-(n : Int)) = -(n : Int) := zak (by omega) (by omega)
 have e2 : IntKind.u64.wrap (-(n : Int)) = 18446744073709551616 - (n : Int) := by
  show (-(n : Int)) % 18446744073709551616 = _
  omega
 have e3 : Go.bits .and .u64 (18446744073709551616 - (n : Int)) 31 = ((32 - n : Nat) : Int) := by
  have := bits_mask .u64 64 (by decide) (fun n h0 h1 => za4 h0 (by omega)) 5 (by decide) (18446744073709551616 - (n : Int)) (by omega) (by omega)
  rw [show ((2 : Int) ^ 5 - 1) = 31 from rfl,show (2 : Int) ^ 5 = 32 from rfl] at this
  rw [this];omega
 have e4 : IntKind.u64.wrap (32 - ((32 - n : Nat) : Int)) = (n : Int) := by rw [za4 (by omega) (by omega)];omega
 rw [e1,e2,e3,e4,if_pos (by omega),if_pos (by omega)]
 simp only [Option.bind_some]
 congr 1
 unfold shl shr
 rw [Int.toNat_natCast,Int.toNat_natCast,Nat.min_eq_left (by show 32 - n ≤ 32;omega),Nat.min_eq_left (by show n ≤ 32;omega)]
 exact rot_join n (by omega) hx
theorem zil (x n p low : Int) (hp : p ≠ 0) (m : Nat) (hm : wrap64 (32 - n) = m) (d : Nat) : ∀ j : Nat,j + d = m → m ≤ 32 → 0 ≤ low → low * 2 ^ m < 4294967296 → Ev (fun k => zV.l1 k x n p (low * 2 ^ j) (j : Int)) (((Int.tdiv x p % 4294967296) + low * 2 ^ m) % 4294967296) := by
 induction d with
 | zero =>
  intro j hj hm2 h0 h1
  obtain rfl : j = m := by omega
  refine Ev.step (fun k => by rw [zV.l1]) ?_
  rw [hm]
  exact zU (by omega) (zU hp (Ev.now _))
 | succ d ih =>
  intro j hj hm2 h0 h1
  refine Ev.step (fun k => by rw [zV.l1]) ?_
  rw [hm]
  refine zF (by omega) ?_
  have h2 : low * 2 ^ (j + 1) ≤ low * 2 ^ m := Int.mul_le_mul_of_nonneg_left (by exact_mod_cast Nat.pow_le_pow_right (by omega) (by omega)) h0
  have h3 : 0 ≤ low * 2 ^ (j + 1) := Int.mul_nonneg h0 (Int.le_of_lt (zcr _))
  have e1 : low * 2 ^ j * 2 % 4294967296 = low * 2 ^ (j + 1) := by
   rw [Int.mul_assoc,← Int.pow_succ]
   show low * 2 ^ (j + 1) % 4294967296 = low * 2 ^ (j + 1)
   omega
  rw [e1,zak (by omega) (by omega)]
  exact ih (j + 1) (by omega) hm2 h0 h1
theorem zik (x : Int) (n : Nat) (hn : n ≤ 31) (r : Int) (hr : Ev (fun k => zV.l1 k x n (2 ^ n) (Int.tmod x (2 ^ n)) 0) r) (d : Nat) : ∀ j : Nat,j + d = n → Ev (fun k => zV.l0 k x (n : Int) (2 ^ j) (j : Int)) r := by
 induction d with
 | zero =>
  intro j hj
  obtain rfl : j = n := by omega
  refine Ev.step (fun k => by rw [zV.l0]) ?_
  exact zU (by omega) (zU (Int.ne_of_gt (zcr _)) hr)
 | succ d ih =>
  intro j hj
  refine Ev.step (fun k => by rw [zV.l0]) ?_
  refine zF (by omega) ?_
  have h2 : (2 : Int) ^ (j + 1) ≤ 2 ^ 31 := by exact_mod_cast Nat.pow_le_pow_right (by omega : 0 < 2) (by omega : j + 1 ≤ 31)
  have h3 : (2 : Int) ^ 31 = 2147483648 := rfl
  have h4 := zcr (j + 1)
  have e1 : (2 : Int) ^ j * 2 % 4294967296 = 2 ^ (j + 1) := by
   rw [← Int.pow_succ];omega
  rw [e1,zak (by omega) (by omega)]
  exact ih (j + 1) (by omega)
theorem zij (n : Nat) (h0 : 1 ≤ n) (h1 : n ≤ 31) {x : Int} (hx : zbw x) : Ev (fun k => zV.f k x (n : Int)) (zaw n x) := by
 have hpq := zid n (by omega)
 have hp := zcr n
 have hq := zcr (32 - n)
 have h2 := Int.emod_nonneg x (Int.ne_of_gt hp)
 have h3 := Int.emod_lt_of_pos x hp
 have h6 : x % 2 ^ n * 2 ^ (32 - n) ≤ (2 ^ n - 1) * 2 ^ (32 - n) := Int.mul_le_mul_of_nonneg_right (by omega) (by omega)
 rw [Int.sub_mul,hpq,Int.one_mul] at h6
 have hl := zil x n (2 ^ n) (x % 2 ^ n) (Int.ne_of_gt hp) (32 - n) (by rw [zak (by omega) (by omega)];omega) (32 - n) 0 (by omega) (by omega) h2 (by omega)
 rw [Int.pow_zero,Int.mul_one] at hl
 rw [← Int.tmod_eq_emod_of_nonneg hx.1] at hl
 have := zik x n h1 _ hl n 0 (by omega)
 rw [Int.pow_zero] at this
 refine zap this ?_
 have ok := rot32_ok n (by omega) hx
 rw [Int.tmod_eq_emod_of_nonneg hx.1,Int.tdiv_eq_ediv_of_nonneg hx.1]
 have h4 : 0 ≤ x / 2 ^ n := Int.ediv_nonneg hx.1 (Int.le_of_lt hp)
 have h8 : x / 2 ^ n < 4294967296 := by
  have : x / 2 ^ n ≤ x := Int.ediv_le_self _ hx.1
  have := hx.2;omega
 rw [Int.emod_eq_of_lt h4 h8]
 exact Int.emod_eq_of_lt ok.1 ok.2
theorem zii (n : Nat) (hn : n ≤ 31) (d : Nat) : ∀ (j : Nat) (x : Int),j + d = n → zbw x → Ev (fun k => zal.l0 k x (n : Int) (j : Int)) (x / 2 ^ d) := by
 induction d with
 | zero =>
  intro j x hj hx
  refine Ev.step (fun k => by rw [zal.l0]) ?_
  exact zU (by omega) (zap (Ev.now _) (by simp))
 | succ d ih =>
  intro j x hj hx
  refine Ev.step (fun k => by rw [zal.l0]) ?_
  refine zF (by omega) ?_
  obtain ⟨x0,x1⟩ := hx
  have e1 : Int.tdiv x 2 % 4294967296 = x / 2 := by rw [Int.tdiv_eq_ediv_of_nonneg x0];omega
  rw [e1,zak (by omega) (by omega)]
  refine zap (ih (j + 1) (x / 2) (by omega) ⟨by omega,by omega⟩) ?_
  rw [Int.pow_succ,Int.mul_comm,← Int.ediv_ediv_of_nonneg (by decide)]
theorem zih (n : Nat) (hn : n ≤ 31) {x : Int} (hx : zbw x) : Ev (fun k => zal.f k x (n : Int)) (x / 2 ^ n) := zii n hn n 0 x (by omega) hx
end Go.Proofs.Ytgdpiegkoeikiaa.Px