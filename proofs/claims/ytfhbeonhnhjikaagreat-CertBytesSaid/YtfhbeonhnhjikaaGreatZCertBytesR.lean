/- Part 18 of 35 of the proof of the law CertBytes: what is proved is the statement at the end of the last part; its conditions are those of the given row. -/
import Derived.Laws.BitsAllLaws
import Derived.Test.YtfhbeonhnhjikaaGreatZCertBytesQ
namespace Go.Proofs.YtfhbeonhnhjikaaGreat.Px
open Go.RowKit Go.Proofs.YtfhbeonhnhjikaaGreatW.PrintWords Go.Proofs.YtfhbeonhnhjikaaGreatW.PrintLast Go.Proofs.YtfhbeonhnhjikaaGreatW.PrintMore
attribute [local go_sem] zz zB zI zJ zp zq zA zC
set_option linter.unusedVariables false
set_option linter.unusedSimpArgs false
def zbN.l0 : Nat → ByteArray → Int → List (S45) → Int → Int → Option (Int)
 | 0,_,_,_,_,_ => none
 | k + 1,x1,x5,x10,x11,x12 => if x12 < x11 then (if 0 ≤ x12 then (if x12 < (x10.length : Int) then (if ((zcC x10 x12).f1).toList = x1.toList then ((zcH.f x5 ((zcC x10 x12).f0)).bind fun bt190 => (if bt190.2 = 0 then (zbN.l0 k x1 bt190.1 x10 x11 (wrap64 (x12 + 1))) else (zbN.l0 k x1 x5 x10 x11 (wrap64 (x12 + 1))))) else (zbN.l0 k x1 x5 x10 x11 (wrap64 (x12 + 1)))) else (none)) else (none)) else (some x5)
def zbN.f (k : Nat) (l0 : List (S45)) (a1 : ByteArray) : Option (Int) := zbN.l0 k a1 0 l0 (l0.length : Int) 0
set_option maxHeartbeats 8000000 in
set_option maxRecDepth 100000 in
theorem zbN.calls (k : Nat) (A0 : Option Addr) (c0 : Nat) (l0 : List (S45)) (a1 : ByteArray) (r : Int) (w : World) (hr0 : Kd.C k45 w A0 l0.length l0) (hc0 : l0.length ≤ c0) (h : zbN.f k l0 a1 = some r) :
  Calls Tryz.prog 63 #[.slice A0 l0.length c0,.string a1] w fun e w' => e = .returned (.int .u64 r) ∧ Below w.heap.size w w' := by
 have hu45 := Tryz.underlying45
 have HR0 := za.mk hr0
 have HC0 := za.mk hc0
 clear hr0 hc0
 have HB := za.mk (Below.refl w.heap.size w)
 have H : (zbN.l0 k a1 0 l0 (l0.length : Int) 0) = some r := h
 clear h
 have H' := za.mk H
 clear H
 go_enter Tryz.func63,Tryz.ntmps63
 go_wp2
 go_loopg [5,12] k (fun kq v5 v12 w' => ∃ (x5_1 : Int) (x12_1 : Int),v5 = .int .u64 x5_1 ∧ v12 = .int .i64 x12_1 ∧ za (zbN.l0 kq a1 x5_1 l0 (l0.length : Int) x12_1 = some r) ∧ za (kq ≤ k) ∧ za (Below w.heap.size w w'))
 case atStart => exact ⟨(0),(0),(hDq),(hDq),H',⟨Nat.le_refl _⟩,⟨by repeat (first | (with_reducible first | exact HB.out | apply zk | apply zf | apply zm) | exact HB.out)⟩⟩
 case round =>
  clear H'
  try clear p2
  obtain ⟨x5_1,x12_1,rfl,rfl,HA,HK1,HB⟩ := hrel
  cases gk with
  | zero => exact absurd HA.out (by simp [zbN.l0])
  | succ k1 =>
   have H := HA.out
   clear HA
   simp only [zbN.l0] at H
   by_cases c3 : x12_1 < (l0.length : Int)
   ·rw [if_pos c3] at H
    have c3b0 : decide (x12_1 < (l0.length : Int)) = true := decide_eq_true c3
    clear c3
    by_cases c4 : 0 ≤ x12_1
    ·rw [if_pos c4] at H
     have c4b0 : decide (0 ≤ x12_1) = true := decide_eq_true c4
     clear c4
     by_cases c5 : x12_1 < (l0.length : Int)
     ·rw [if_pos c5] at H
      have c5b0 : decide (x12_1 < (l0.length : Int)) = true := decide_eq_true c5
      clear c5
      by_cases c6 : ((zcC l0 x12_1).f1).toList = a1.toList
      ·rw [if_pos c6] at H
       have c6b0 : (((zcC l0 x12_1).f1).toList == a1.toList) = true := beq_iff_eq.mpr c6
       have c6b1 : (((zcC l0 x12_1).f1).toList != a1.toList) = false := bne_eq_false_iff_eq.mpr c6
       clear c6
       replace H := Option.bind_eq_some_iff.mp H
       obtain ⟨⟨t190,t191⟩,A70,H⟩ := H
       replace H : (if t191 = 0 then (zbN.l0 k1 a1 t190 l0 (l0.length : Int) (wrap64 (x12_1 + 1))) else (zbN.l0 k1 a1 x5_1 l0 (l0.length : Int) (wrap64 (x12_1 + 1)))) = some r := H
       have A7 := za.mk A70
       clear A70
       by_cases c8 : t191 = 0
       ·rw [if_pos c8] at H
        have c8b0 : (t191 == 0) = true := beq_iff_eq.mpr c8
        have c8b1 : (t191 != 0) = false := bne_eq_false_iff_eq.mpr c8
        clear c8
        have H' := za.mk H
        clear H
        have p188 : 0 ≤ (x12_1 : Int) := hFq
        have q188 : x12_1 < (l0.length : Int) := hFq
        obtain ⟨ad188,e188,hx188_0,hx188_1⟩ := ziR HR0.out x12_1 p188 q188
        cases e188
        replace hx188_0 := (HB.out.cell (World.block_lt_of_cell? w _ hx188_0)).trans hx188_0
        replace hx188_1 := (HB.out.cell (World.block_lt_of_cell? w _ hx188_1)).trans hx188_1
        replace p188 := eq_true p188
        replace q188 := eq_true q188
        go_wp2_with (first | ((with_reducible refine zy (N := 7) rfl ?_);refine zo ?hg (N := 7) ?hd (cs := #[.int .i64 0,.string (⟨#[]⟩ : ByteArray)]) (t := 45) ?hr ?_;(case hd => rfl);(case hg => rfl);(case hr => first | (go_simp;done) | (go_simp;rfl));intro gb189 hg w9 hbox hb;have n_ := haq (zd hBq hb) <| haq (hbox) <| haq ((by rw [hg];exact (ze hBq) : w.heap.size ≤ gb189)) <| haq ((by rw [hg];exact (ze hBq) : w.heap.size ≤ gb189)) <| trivial;clear HB;obtain ⟨HB,BK189,GW189,GE189,_⟩ := n_;clear hb hbox hg;obtain ⟨hcz10_0,hcz10_1,hfz10_0,hfz10_1⟩ := hcq2 BK189.out) | ((with_reducible refine zj (f := 91) rfl ?_);refine zQ (some 24) rfl rfl Tryz.func91 (by kernel_rfl) rfl #[.int .u64 x5_1,.int .i64 ((zcC l0 x12_1).f0)] rfl hMq ?_;(with_reducible refine (zcH.calls x5_1 ((zcC l0 x12_1).f0) t190 t191 _ A7.out).mono ?_);rintro e w' ⟨rfl,⟨nd,rfl⟩⟩;refine ⟨_,rfl,?_⟩))
        go_roundg k1
        case measure => have := HK1.out;omega
        case rel => exact ⟨(t190),(wrap64 (x12_1 + 1)),(hDq),(hDq),H',⟨by have := HK1.out;omega⟩,⟨by repeat (first | (with_reducible first | exact HB.out | apply zk | apply zf | apply zm | refine zw ?_ GE189.out) | exact HB.out)⟩⟩
       ·rw [if_neg c8] at H
        have c8b0 : (t191 == 0) = false := beq_eq_false_iff_ne.mpr c8
        have c8b1 : (t191 != 0) = true := bne_iff_ne.mpr c8
        have H' := za.mk H
        clear H
        have p188 : 0 ≤ (x12_1 : Int) := hFq
        have q188 : x12_1 < (l0.length : Int) := hFq
        obtain ⟨ad188,e188,hx188_0,hx188_1⟩ := ziR HR0.out x12_1 p188 q188
        cases e188
        replace hx188_0 := (HB.out.cell (World.block_lt_of_cell? w _ hx188_0)).trans hx188_0
        replace hx188_1 := (HB.out.cell (World.block_lt_of_cell? w _ hx188_1)).trans hx188_1
        replace p188 := eq_true p188
        replace q188 := eq_true q188
        go_wp2_with (first | ((with_reducible refine zy (N := 7) rfl ?_);refine zo ?hg (N := 7) ?hd (cs := #[.int .i64 0,.string (⟨#[]⟩ : ByteArray)]) (t := 45) ?hr ?_;(case hd => rfl);(case hg => rfl);(case hr => first | (go_simp;done) | (go_simp;rfl));intro gb189 hg w11 hbox hb;have n_ := haq (zd hBq hb) <| haq (hbox) <| haq ((by rw [hg];exact (ze hBq) : w.heap.size ≤ gb189)) <| haq ((by rw [hg];exact (ze hBq) : w.heap.size ≤ gb189)) <| trivial;clear HB;obtain ⟨HB,BK189,GW189,GE189,_⟩ := n_;clear hb hbox hg;obtain ⟨hcz12_0,hcz12_1,hfz12_0,hfz12_1⟩ := hcq2 BK189.out) | ((with_reducible refine zj (f := 91) rfl ?_);refine zQ (some 24) rfl rfl Tryz.func91 (by kernel_rfl) rfl #[.int .u64 x5_1,.int .i64 ((zcC l0 x12_1).f0)] rfl hMq ?_;(with_reducible refine (zcH.calls x5_1 ((zcC l0 x12_1).f0) t190 t191 _ A7.out).mono ?_);rintro e w' ⟨rfl,⟨nd,rfl⟩⟩;refine ⟨_,rfl,?_⟩))
        go_roundg k1
        case measure => have := HK1.out;omega
        case rel => exact ⟨(x5_1),(wrap64 (x12_1 + 1)),(hDq),(hDq),H',⟨by have := HK1.out;omega⟩,⟨by repeat (first | (with_reducible first | exact HB.out | apply zk | apply zf | apply zm | refine zw ?_ GE189.out) | exact HB.out)⟩⟩
      ·rw [if_neg c6] at H
       have c6b0 : (((zcC l0 x12_1).f1).toList == a1.toList) = false := beq_eq_false_iff_ne.mpr c6
       have c6b1 : (((zcC l0 x12_1).f1).toList != a1.toList) = true := bne_iff_ne.mpr c6
       have H' := za.mk H
       clear H
       have p188 : 0 ≤ (x12_1 : Int) := hFq
       have q188 : x12_1 < (l0.length : Int) := hFq
       obtain ⟨ad188,e188,hx188_0,hx188_1⟩ := ziR HR0.out x12_1 p188 q188
       cases e188
       replace hx188_0 := (HB.out.cell (World.block_lt_of_cell? w _ hx188_0)).trans hx188_0
       replace hx188_1 := (HB.out.cell (World.block_lt_of_cell? w _ hx188_1)).trans hx188_1
       replace p188 := eq_true p188
       replace q188 := eq_true q188
       go_wp2_with (first | ((with_reducible refine zy (N := 7) rfl ?_);refine zo ?hg (N := 7) ?hd (cs := #[.int .i64 0,.string (⟨#[]⟩ : ByteArray)]) (t := 45) ?hr ?_;(case hd => rfl);(case hg => rfl);(case hr => first | (go_simp;done) | (go_simp;rfl));intro gb189 hg w13 hbox hb;have n_ := haq (zd hBq hb) <| haq (hbox) <| haq ((by rw [hg];exact (ze hBq) : w.heap.size ≤ gb189)) <| haq ((by rw [hg];exact (ze hBq) : w.heap.size ≤ gb189)) <| trivial;clear HB;obtain ⟨HB,BK189,GW189,GE189,_⟩ := n_;clear hb hbox hg;obtain ⟨hcz14_0,hcz14_1,hfz14_0,hfz14_1⟩ := hcq2 BK189.out))
       go_roundg k1
       case measure => have := HK1.out;omega
       case rel => exact ⟨(x5_1),(wrap64 (x12_1 + 1)),(hDq),(hDq),H',⟨by have := HK1.out;omega⟩,⟨by repeat (first | (with_reducible first | exact HB.out | apply zk | apply zf | apply zm | refine zw ?_ GE189.out) | exact HB.out)⟩⟩
     ·rw [if_neg c5] at H
      exact absurd H (by simp)
    ·rw [if_neg c4] at H
     exact absurd H (by simp)
   ·rw [if_neg c3] at H
    have c3b0 : decide (x12_1 < (l0.length : Int)) = false := decide_eq_false c3
    clear c3
    obtain rfl := Option.some.inj H
    go_wp2
    go_ret
    exact ⟨hHq,hBq⟩
def zcs.f (k : Nat) (l0 : List (S45)) (a1 : Int) (a2 : ByteArray) : Option (Bool) := (zbN.f k l0 a2).bind fun t192 => (some ((Go.bits .andNot .u64 a1 t192) == 0))
set_option maxHeartbeats 8000000 in
set_option maxRecDepth 100000 in
theorem zcs.calls (k : Nat) (A0 : Option Addr) (c0 : Nat) (l0 : List (S45)) (a1 : Int) (a2 : ByteArray) (r : Bool) (w : World) (hr0 : Kd.C k45 w A0 l0.length l0) (hc0 : l0.length ≤ c0) (h : zcs.f k l0 a1 a2 = some r) :
  Calls Tryz.prog 32 #[.slice A0 l0.length c0,.int .u64 a1,.string a2] w fun e w' => e = .returned (.bool r) ∧ Below w.heap.size w w' := by
 have HR0 := za.mk hr0
 have HC0 := za.mk hc0
 clear hr0 hc0
 have HB := za.mk (Below.refl w.heap.size w)
 have H : ((zbN.f k l0 a2).bind fun t192 => (some ((Go.bits .andNot .u64 a1 t192) == 0))) = some r := h
 clear h
 replace H := Option.bind_eq_some_iff.mp H
 obtain ⟨t192,A40,H⟩ := H
 replace H : (some ((Go.bits .andNot .u64 a1 t192) == 0)) = some r := H
 have A4 := za.mk A40
 clear A40
 obtain rfl := Option.some.inj H
 go_enter Tryz.func32,Tryz.ntmps32
 go_wp2_with (first | ((with_reducible refine zj (f := 63) rfl ?_);refine zQ (some 10) rfl rfl Tryz.func63 (by kernel_rfl) rfl #[.slice A0 l0.length c0,.string a2] rfl hMq ?_;(with_reducible refine (zbN.calls k _ _ l0 a2 t192 _ ?side1 ?side2 A4.out).mono ?_);(case side1 => exact hKq HR0.out);(case side2 => exact HC0.out);rintro e w5 ⟨rfl,hb⟩;refine ⟨_,rfl,?_⟩;have n_ := haq (zd hBq hb) <| trivial;clear HB;obtain ⟨HB,_⟩ := n_;(try clear hb);(try clear hb2);(try clear hk);(try clear hi)))
 go_ret
 exact ⟨hHq,hBq⟩
def zbl.f (a0 : ByteArray) : Option (ByteArray) := if 1 + a0.size ≤ 9223372036854775807 then (some ((⟨#[121]⟩ : ByteArray) ++ a0)) else (none)
set_option maxHeartbeats 8000000 in
set_option maxRecDepth 100000 in
theorem zbl.calls (a0 : ByteArray) (r : ByteArray) (w : World) (h : zbl.f a0 = some r) :
  Calls Tryz.prog 13 #[.string a0] w fun e w' => e = .returned (.string r) ∧ zaB w w' := by
 have H : (if 1 + a0.size ≤ 9223372036854775807 then (some ((⟨#[121]⟩ : ByteArray) ++ a0)) else (none)) = some r := h
 clear h
 by_cases c2 : 1 + a0.size ≤ 9223372036854775807
 ·rw [if_pos c2] at H
  have c2b0 := eq_true c2
  have c2b1 : decide (1 + a0.size ≤ 9223372036854775807) = true := decide_eq_true c2
  try have c2b2 : (9223372036854775807 < 1 + a0.size) = False := eq_false (Nat.not_lt.2 c2)
  obtain rfl := Option.some.inj H
  go_enter Tryz.func13,Tryz.ntmps13
  go_wp2
  go_ret
  exact ⟨hDq,hEq⟩
 ·rw [if_neg c2] at H
  exact absurd H (by simp)
def zcL.f (a0 : Int) (a1 : Int) : Option (Int) := if 0 ≤ (Go.bits .and .u64 (IntKind.u64.wrap (a1)) 31) then (if 0 ≤ (IntKind.u64.wrap (32 - (Go.bits .and .u64 (IntKind.u64.wrap (a1)) 31))) then (some (Go.bits .or .u32 (shl .u32 a0 (Go.bits .and .u64 (IntKind.u64.wrap (a1)) 31)) (shr .u32 a0 (IntKind.u64.wrap (32 - (Go.bits .and .u64 (IntKind.u64.wrap (a1)) 31)))))) else (none)) else (none)
def zgU.f (a0 : Int) (a1 : Int) : Option (Int) := (zcL.f a0 (wrap64 (-a1))).bind fun t143 => (some t143)
def zbS (x : Int) : Prop := 0 ≤ x ∧ x < 4294967296
def zcU (x : Int) : Int := IntKind.u32.wrap x
theorem zcl (x : Int) : zcU x = x % 4294967296 := IntKind.wrap_u32 x
theorem zgm (x : Int) : zbS (zcU x) := by rw [zcl];unfold zbS;omega
def zaz (n : Nat) (x : Int) : Int := x / 2 ^ n + x % 2 ^ n * 2 ^ (32 - n)
def zcK (a b : Int) : Int := Go.bits .xor .u32 a b
def zd7 (a b : Int) : Int := Go.bits .and .u32 a b
def zfv (L : List Int) (k w : Int) : List Int :=
 let t := zcU (zcU (zcU (zcU (L.getD 7 0 + zcK (zcK (zaz 6 (L.getD 4 0)) (zaz 11 (L.getD 4 0))) (zaz 25 (L.getD 4 0))) + zcK (zd7 (L.getD 4 0) (L.getD 5 0)) (zd7 (4294967295 - L.getD 4 0) (L.getD 6 0))) + k) + w)
 let u := zcU (zcK (zcK (zaz 2 (L.getD 0 0)) (zaz 13 (L.getD 0 0))) (zaz 22 (L.getD 0 0)) + zcK (zcK (zd7 (L.getD 0 0) (L.getD 1 0)) (zd7 (L.getD 0 0) (L.getD 2 0))) (zd7 (L.getD 1 0) (L.getD 2 0)))
 [zcU (t + u),L.getD 0 0,L.getD 1 0,L.getD 2 0,zcU (L.getD 3 0 + t),L.getD 4 0,L.getD 5 0,L.getD 6 0]
def okL (L : List Int) : Prop := ∀ i,zbS (L.getD i 0)
theorem zhV : okL [] := fun i => by simp [zbS]
theorem zbK {x : Int} {L : List Int} (hx : zbS x) (hL : okL L) : okL (x :: L) := fun i => by
 rcases i with _ | i
 ·exact hx
 ·exact hL i
theorem ziy {x : Int} {L : List Int} (hL : okL L) (hx : zbS x) : okL (L ++ [x]) := fun i => by
 rw [List.getD_eq_getElem?_getD]
 rcases Nat.lt_trichotomy i L.length with h | h | h
 ·rw [List.getElem?_append_left h,← List.getD_eq_getElem?_getD];exact hL i
 ·subst h;simp;exact hx
 ·rw [List.getElem?_eq_none (by rw [List.length_append];simp;omega)];simp [zbS]
theorem roundL_ok {L : List Int} (h : okL L) (k w : Int) : okL (zfv L k w) :=
 zbK (zgm _) (zbK (h 0) (zbK (h 1) (zbK (h 2) (zbK (zgm _) (zbK (h 4) (zbK (h 5) (zbK (h 6) zhV)))))))
def zg0 (b : ByteArray) (i : Nat) : Int := bt b ((4 * i : Nat) : Int) * 16777216 + bt b ((4 * i + 1 : Nat) : Int) * 65536 + bt b ((4 * i + 2 : Nat) : Int) * 256 + bt b ((4 * i + 3 : Nat) : Int)
theorem word4_ok (b : ByteArray) (i : Nat) : zbS (zg0 b i) := by
 have h0 := zcc b ((4 * i : Nat) : Int)
 have h1 := zcc b ((4 * i + 1 : Nat) : Int)
 have h2 := zcc b ((4 * i + 2 : Nat) : Int)
 have h3 := zcc b ((4 * i + 3 : Nat) : Int)
 unfold zbS zg0;omega
def zc7 (b : ByteArray) : Nat → List Int
 | 0 => []
 | n + 1 => zc7 b n ++ [zg0 b n]
theorem zcG (b : ByteArray) : ∀ n,(zc7 b n).length = n
 | 0 => rfl
 | n + 1 => by rw [zc7,List.length_append,zcG b n];rfl
theorem zit (b : ByteArray) : ∀ n,okL (zc7 b n)
 | 0 => zhV
 | n + 1 => ziy (zit b n) (word4_ok b n)
def zd6 (W : List Int) (i : Nat) : Int :=
 zcU (zcU (zcU (W.getD (i - 16) 0 + zcK (zcK (zaz 7 (W.getD (i - 15) 0)) (zaz 18 (W.getD (i - 15) 0))) (W.getD (i - 15) 0 / 8)) + W.getD (i - 7) 0) + zcK (zcK (zaz 17 (W.getD (i - 2) 0)) (zaz 19 (W.getD (i - 2) 0))) (W.getD (i - 2) 0 / 1024))
def zS (b : ByteArray) : Nat → List Int
 | 0 => zc7 b 16
 | n + 1 => zS b n ++ [zd6 (zS b n) (16 + n)]
theorem zbt (b : ByteArray) : ∀ n,(zS b n).length = 16 + n
 | 0 => zcG b 16
 | n + 1 => by rw [zS,List.length_append,zbt b n];rfl
theorem zfw (b : ByteArray) : ∀ n,okL (zS b n)
 | 0 => zit b 16
 | n + 1 => ziy (zfw b n) (zgm _)
def zbo (S K W : List Int) : Nat → List Int
 | 0 => S
 | n + 1 => zfv (zbo S K W n) (K.getD n 0) (W.getD n 0)
theorem zd5 {S : List Int} (h : okL S) (K W : List Int) : ∀ n,okL (zbo S K W n)
 | 0 => h
 | n + 1 => roundL_ok (zd5 h K W n) _ _
theorem zet {S : List Int} (h : S.length = 8) (K W : List Int) : ∀ n,(zbo S K W n).length = 8
 | 0 => h
 | _ + 1 => rfl
def zdg (S H : List Int) (k : Nat) : List Int := (List.range 8).map fun j => if j < k then zcU (S.getD j 0 + H.getD j 0) else S.getD j 0
theorem zcZ (S H : List Int) (k : Nat) : (zdg S H k).length = 8 := by simp [zdg]
theorem zdm (S H : List Int) (k j : Nat) (hj : j < 8) : (zdg S H k).getD j 0 = if j < k then zcU (S.getD j 0 + H.getD j 0) else S.getD j 0 := by
 rw [zdg,List.getD_eq_getElem?_getD,List.getElem?_map,List.getElem?_range hj];rfl
theorem zgy {A B : List Int} (ha : A.length = 8) (hb : B.length = 8) (h : ∀ j,j < 8 → A.getD j 0 = B.getD j 0) : A = B := by
 apply List.ext_getElem (by rw [ha,hb])
 intro i h1 h2
 have := h i (by omega)
 rwa [List.getD_eq_getElem?_getD,List.getD_eq_getElem?_getD,List.getElem?_eq_getElem h1,List.getElem?_eq_getElem h2] at this
theorem sumsL_zero {S : List Int} (h : S.length = 8) (H : List Int) : zdg S H 0 = S :=
 zgy (zcZ _ _ _) h (fun j hj => by rw [zdm _ _ _ _ hj,if_neg (by omega)])
theorem getD_set (L : List Int) (k j : Nat) (v : Int) (hk : k < L.length) : (L.set k v).getD j 0 = if j = k then v else L.getD j 0 := by
 rw [List.getD_eq_getElem?_getD,List.getElem?_set]
 by_cases h : k = j
 ·subst h;rw [if_pos rfl,if_pos hk,if_pos rfl];rfl
 ·rw [if_neg h,if_neg (Ne.symm h),← List.getD_eq_getElem?_getD]
theorem sumsL_step (S H : List Int) (k : Nat) (hk : k < 8) : (zdg S H k).set k (zcU (S.getD k 0 + H.getD k 0)) = zdg S H (k + 1) := by
 refine zgy (by rw [List.length_set,zcZ]) (zcZ _ _ _) (fun j hj => ?_)
 rw [getD_set _ _ _ _ (by rw [zcZ];exact hk),zdm _ _ _ _ hj,zdm _ _ _ _ hj]
 by_cases h : j = k
 ·subst h;rw [if_pos rfl,if_pos (by omega)]
 ·rw [if_neg h]
  by_cases h2 : j < k
  ·rw [if_pos h2,if_pos (by omega)]
  ·rw [if_neg h2,if_neg (by omega)]
def zeZ (S K : List Int) (b : ByteArray) : List Int := zdg (zbo S K (zS b 48) 64) S 8
theorem zdQ (S K : List Int) (b : ByteArray) : (zeZ S K b).length = 8 := zcZ _ _ _
theorem mixL_ok (S K : List Int) (b : ByteArray) : okL (zeZ S K b) := fun i => by
 rcases Nat.lt_or_ge i 8 with h | h
 ·rw [zeZ,zdm _ _ _ _ h,if_pos h];exact zgm _
 ·rw [List.getD_eq_getElem?_getD,List.getElem?_eq_none (by rw [zdQ];exact h)];simp [zbS]
def kL : List Int := [1116352408,1899447441,3049323471,3921009573,961987163,1508970993,2453635748,2870763221,3624381080,310598401,607225278,1426881987,1925078388,2162078206,2614888103,3248222580,3835390401,4022224774,264347078,604807628,770255983,1249150122,1555081692,1996064986,2554220882,2821834349,2952996808,3210313671,3336571891,3584528711,113926993,338241895,666307205,773529912,1294757372,1396182291,1695183700,1986661051,2177026350,2456956037,2730485921,2820302411,3259730800,3345764771,3516065817,3600352804,4094571909,275423344,430227734,506948616,659060556,883997877,958139571,1322822218,1537002063,1747873779,1955562222,2024104815,2227730452,2361852424,2428436474,2756734187,3204031479,3329325298]
def hL : List Int := [1779033703,3144134277,1013904242,2773480762,1359893119,2600822924,528734635,1541459225]
theorem hL_ok : okL hL := by
 refine zbK ?_ (zbK ?_ (zbK ?_ (zbK ?_ (zbK ?_ (zbK ?_ (zbK ?_ (zbK ?_ zhV))))))) <;> (constructor <;> decide)
def zeT (n : Nat) : Bs := [UInt8.ofNat (n / 72057594037927936 % 256),UInt8.ofNat (n / 281474976710656 % 256),UInt8.ofNat (n / 1099511627776 % 256),UInt8.ofNat (n / 4294967296 % 256),UInt8.ofNat (n / 16777216 % 256),UInt8.ofNat (n / 65536 % 256),UInt8.ofNat (n / 256 % 256),UInt8.ofNat (n % 256)]
def zcS (n : Nat) : Nat := (119 - n % 64) % 64
def zep (s : Bs) : Bs := s ++ 128 :: (List.replicate (zcS s.length) 0 ++ zeT (s.length * 8))
theorem ziA (s : Bs) : ∃ m,(zep s).length = 64 * m := by
 refine ⟨(s.length + 9 + zcS s.length) / 64,?_⟩
 have : (zep s).length = s.length + 9 + zcS s.length := by simp [zep,zeT];omega
 rw [this];unfold zcS;omega
def zbc (p : ByteArray) : Nat → List Int
 | 0 => hL
 | i + 1 => zeZ (zbc p i) kL (p.extract (64 * i) (64 * i + 64))
theorem zbR (p : ByteArray) : ∀ i,(zbc p i).length = 8
 | 0 => rfl
 | _ + 1 => zdQ _ _ _
theorem zdY (p : ByteArray) : ∀ i,okL (zbc p i)
 | 0 => hL_ok
 | _ + 1 => mixL_ok _ _ _
def zdd (x : Int) : Bs := [UInt8.ofNat (x.toNat / 16777216 % 256),UInt8.ofNat (x.toNat / 65536 % 256),UInt8.ofNat (x.toNat / 256 % 256),UInt8.ofNat (x.toNat % 256)]
def zgT (s : ByteArray) : ByteArray := toB ((zbc (toB (zep (ofB s))) ((zep (ofB s)).length / 64)).flatMap zdd)
theorem ze8 (l : List Int) : (l.flatMap zdd).length = 4 * l.length := by
 induction l with
 | nil => rfl
 | cons x l ih => rw [List.flatMap_cons,List.length_append,ih,List.length_cons];show 4 + _ = _;omega
theorem shaB_size (s : ByteArray) : (zgT s).size = 32 := by
 rw [zgT,zP,ze8,zbR]
def zT (L : List Int) : Array Value := (L.map (Value.int .u32)).toArray
theorem zbd (L : List Int) : (zT L).size = L.length := by simp [zT]
theorem zaa (L : List Int) (i : Nat) (h : i < L.length) : (zT L)[i]? = some (.int .u32 (L.getD i 0)) := by
 rw [zT,List.getElem?_toArray,List.getElem?_map,List.getElem?_eq_getElem h,List.getD_eq_getElem?_getD,List.getElem?_eq_getElem h];rfl
theorem zfH (L : List Int) (i : Nat) (v : Int) : (zT L).setIfInBounds i (.int .u32 v) = zT (L.set i v) := by
 simp [zT,List.map_set]
theorem zfG (L : List Int) (h : L.length = 8) : zT L = #[.int .u32 (L.getD 0 0),.int .u32 (L.getD 1 0),.int .u32 (L.getD 2 0),.int .u32 (L.getD 3 0),.int .u32 (L.getD 4 0),.int .u32 (L.getD 5 0),.int .u32 (L.getD 6 0),.int .u32 (L.getD 7 0)] := by
 obtain ⟨a,b,c,d,e,f,g,k,rfl⟩ : ∃ a b c d e f g k,L = [a,b,c,d,e,f,g,k] := by
  match L,h with
  | [a,b,c,d,e,f,g,k],_ => exact ⟨a,b,c,d,e,f,g,k,rfl⟩
 rfl
def zcg (W : List Int) : List Int := W ++ List.replicate (64 - W.length) 0
theorem zd1 {W : List Int} (h : W.length ≤ 64) : (zcg W).length = 64 := by simp [zcg];omega
theorem zgv {W : List Int} (i : Nat) (h : i < W.length) : (zcg W).getD i 0 = W.getD i 0 := by
 rw [zcg,List.getD_eq_getElem?_getD,List.getElem?_append_left h,← List.getD_eq_getElem?_getD]
theorem ziV {W : List Int} (h : W.length < 64) (v : Int) : (zcg W).set W.length v = zcg (W ++ [v]) := by
 rw [zcg,zcg,List.set_append_right _ _ (Nat.le_refl _),Nat.sub_self,List.length_append]
 obtain ⟨m,hm⟩ : ∃ m,64 - W.length = m + 1 := ⟨63 - W.length,by omega⟩
 rw [hm,List.replicate_succ,List.set_cons_zero,show 64 - (W.length + [v].length) = m by simp;omega]
 simp
def zar.l0 : Nat → Int → Int → Int → Option (Int)
 | 0,_,_,_ => none
 | k + 1,x0,x1,x5 => if x5 < x1 then (zar.l0 k ((Int.tdiv x0 2) % 4294967296) x1 (wrap64 (x5 + 1))) else (some x0)
def zar.f (k : Nat) (a0 : Int) (a1 : Int) : Option (Int) := zar.l0 k a0 a1 0
set_option maxHeartbeats 8000000 in
set_option maxRecDepth 100000 in
theorem zar.calls (k : Nat) (a0 : Int) (a1 : Int) (r : Int) (w : World) (h : zar.f k a0 a1 = some r) :
  Calls Tryz.prog 85 #[.int .u32 a0,.int .i64 a1] w fun e w' => e = .returned (.int .u32 r) ∧ zaB w w' := by
 have H : (zar.l0 k a0 a1 0) = some r := h
 clear h
 have H' := za.mk H
 clear H
 go_enter Tryz.func85,Tryz.ntmps85
 go_wp2
 go_loopg [0,5] k (fun kq v0 v5 w' => ∃ (x0_1 : Int) (x5_1 : Int),v0 = .int .u32 x0_1 ∧ v5 = .int .i64 x5_1 ∧ za (zar.l0 kq x0_1 a1 x5_1 = some r) ∧ za (kq ≤ k) ∧ zaB w w')
 case atStart => exact ⟨(a0),(0),(hDq),(hDq),H',⟨Nat.le_refl _⟩,hEq⟩
 case round =>
  clear H'
  try clear p2
  obtain ⟨x0_1,x5_1,rfl,rfl,HA,HK1,⟨m1,rfl⟩⟩ := hrel
  cases gk with
  | zero => exact absurd HA.out (by simp [zar.l0])
  | succ k1 =>
   have H := HA.out
   clear HA
   simp only [zar.l0] at H
   by_cases c3 : x5_1 < a1
   ·rw [if_pos c3] at H
    have c3b0 : decide (x5_1 < a1) = true := decide_eq_true c3
    clear c3
    have H' := za.mk H
    clear H
    go_wp2
    go_roundg k1
    case measure => have := HK1.out;omega
    case rel => exact ⟨((Int.tdiv x0_1 2) % 4294967296),(wrap64 (x5_1 + 1)),(hDq),(hDq),H',⟨by have := HK1.out;omega⟩,hEq⟩
   ·rw [if_neg c3] at H
    have c3b0 : decide (x5_1 < a1) = false := decide_eq_false c3
    clear c3
    obtain rfl := Option.some.inj H
    go_wp2
    go_ret
    exact ⟨hDq,hEq⟩
mutual
def zX.l0 : Nat → Int → Int → Int → Int → Option (Int)
 | 0,_,_,_,_ => none
 | k + 1,x0,x1,x5,x6 => if x6 < x1 then (zX.l0 k x0 x1 ((x5 * 2) % 4294967296) (wrap64 (x6 + 1))) else (if x5 = 0 then (none) else (zX.l1 k x0 x1 x5 (Int.tmod x0 x5) 0))
def zX.l1 : Nat → Int → Int → Int → Int → Int → Option (Int)
 | 0,_,_,_,_,_ => none
 | k + 1,x0,x1,x5,x7,x8 => if x8 < (wrap64 (32 - x1)) then (zX.l1 k x0 x1 x5 ((x7 * 2) % 4294967296) (wrap64 (x8 + 1))) else (if x5 = 0 then (none) else (some ((((Int.tdiv x0 x5) % 4294967296) + x7) % 4294967296)))
end
def zX.f (k : Nat) (a0 : Int) (a1 : Int) : Option (Int) := zX.l0 k a0 a1 1 0
set_option maxHeartbeats 8000000 in
set_option maxRecDepth 100000 in
theorem zX.calls (k : Nat) (a0 : Int) (a1 : Int) (r : Int) (w : World) (h : zX.f k a0 a1 = some r) :
  Calls Tryz.prog 84 #[.int .u32 a0,.int .i64 a1] w fun e w' => e = .returned (.int .u32 r) ∧ zaB w w' := by
 have H : (zX.l0 k a0 a1 1 0) = some r := h
 clear h
 have H' := za.mk H
 clear H
 go_enter Tryz.func84,Tryz.ntmps84
 go_wp2
 go_loopg [5,6] k (fun kq v5 v6 w' => ∃ (x5_1 : Int) (x6_1 : Int),v5 = .int .u32 x5_1 ∧ v6 = .int .i64 x6_1 ∧ za (zX.l0 kq a0 a1 x5_1 x6_1 = some r) ∧ za (kq ≤ k) ∧ zaB w w')
 case atStart => exact ⟨(1),(0),(hDq),(hDq),H',⟨Nat.le_refl _⟩,hEq⟩
 case round =>
  clear H'
  try clear p2
  obtain ⟨x5_1,x6_1,rfl,rfl,HA,HK1,⟨m1,rfl⟩⟩ := hrel
  cases gk with
  | zero => exact absurd HA.out (by simp [zX.l0])
  | succ k1 =>
   have H := HA.out
   clear HA
   simp only [zX.l0] at H
   by_cases c3 : x6_1 < a1
   ·rw [if_pos c3] at H
    have c3b0 : decide (x6_1 < a1) = true := decide_eq_true c3
    clear c3
    have H' := za.mk H
    clear H
    go_wp2
    go_roundg k1
    case measure => have := HK1.out;omega
    case rel => exact ⟨((x5_1 * 2) % 4294967296),(wrap64 (x6_1 + 1)),(hDq),(hDq),H',⟨by have := HK1.out;omega⟩,hEq⟩
   ·rw [if_neg c3] at H
    have c3b0 : decide (x6_1 < a1) = false := decide_eq_false c3
    clear c3
    by_cases c4 : x5_1 = 0
    ·rw [if_pos c4] at H
     exact absurd H (by simp)
    ·rw [if_neg c4] at H
     have c4b0 : (x5_1 == 0) = false := beq_eq_false_iff_ne.mpr c4
     have c4b1 : (x5_1 != 0) = true := bne_iff_ne.mpr c4
     have H' := za.mk H
     clear H
     go_wp2
     go_loopg [7,8] k1 (fun kq v7 v8 w' => ∃ (x7_2 : Int) (x8_2 : Int),v7 = .int .u32 x7_2 ∧ v8 = .int .i64 x8_2 ∧ za (zX.l1 kq a0 a1 x5_1 x7_2 x8_2 = some r) ∧ za (kq ≤ k1) ∧ zaB w w')
     case atStart => exact ⟨(Int.tmod a0 x5_1),(0),(hDq),(hDq),H',⟨Nat.le_refl _⟩,hEq⟩
     case round =>
      clear H'
      try clear p2;try clear c3;try clear c3b0;try clear c4;try clear c4b0;try clear c4b1;try clear p2
      obtain ⟨x7_2,x8_2,rfl,rfl,HA,HK2,⟨m2,rfl⟩⟩ := hrel
      cases gk with
      | zero => exact absurd HA.out (by simp [zX.l1])
      | succ k2 =>
       have H := HA.out
       clear HA
       simp only [zX.l1] at H
       by_cases c5 : x8_2 < (wrap64 (32 - a1))
       ·rw [if_pos c5] at H
        have c5b0 : decide (x8_2 < (wrap64 (32 - a1))) = true := decide_eq_true c5
        clear c5
        have H' := za.mk H
        clear H
        go_wp2
        go_roundg k2
        case measure => have := HK1.out;have := HK2.out;omega
        case rel => exact ⟨((x7_2 * 2) % 4294967296),(wrap64 (x8_2 + 1)),(hDq),(hDq),H',⟨by have := HK1.out;have := HK2.out;omega⟩,hEq⟩
       ·rw [if_neg c5] at H
        have c5b0 : decide (x8_2 < (wrap64 (32 - a1))) = false := decide_eq_false c5
        clear c5
        by_cases c6 : x5_1 = 0
        ·rw [if_pos c6] at H
         exact absurd H (by simp)
        ·rw [if_neg c6] at H
         have c6b0 : (x5_1 == 0) = false := beq_eq_false_iff_ne.mpr c6
         have c6b1 : (x5_1 != 0) = true := bne_iff_ne.mpr c6
         obtain rfl := Option.some.inj H
         go_wp2
         go_ret
         exact ⟨hDq,hEq⟩
theorem pow_pq (n : Nat) (h1 : n ≤ 32) : (2 : Int) ^ n * 2 ^ (32 - n) = 4294967296 := by
 rw [← Int.pow_add,show n + (32 - n) = 32 by omega];rfl
theorem zcP (n : Nat) : (0 : Int) < 2 ^ n := Int.pow_pos (by decide)
theorem rot32_ok (n : Nat) (h1 : n ≤ 32) {x : Int} (hx : zbS x) : zbS (zaz n x) := by
 have hpq := pow_pq n h1
 have hp := zcP n
 have hq := zcP (32 - n)
 have h2 := Int.emod_nonneg x (Int.ne_of_gt hp)
 have h3 := Int.emod_lt_of_pos x hp
 have h4 : 0 ≤ x / 2 ^ n := Int.ediv_nonneg hx.1 (Int.le_of_lt hp)
 have h5 : x / 2 ^ n < 2 ^ (32 - n) := Int.ediv_lt_of_lt_mul hp (by rw [Int.mul_comm,hpq];exact hx.2)
 unfold zaz
 generalize (2 : Int) ^ n = p at *
 generalize (2 : Int) ^ (32 - n) = q at *
 generalize x % p = m at *
 generalize x / p = d at *
 have h6 : m * q ≤ (p - 1) * q := Int.mul_le_mul_of_nonneg_right (by omega) (by omega)
 rw [Int.sub_mul,hpq,Int.one_mul] at h6
 have h7 : 0 ≤ m * q := Int.mul_nonneg h2 (by omega)
 unfold zbS;omega
theorem rot_join (n : Nat) (h1 : n ≤ 32) {x : Int} (hx : zbS x) : Go.bits .or .u32 (IntKind.u32.wrap (x * 2 ^ (32 - n))) (x / 2 ^ n) = zaz n x := by
 have hpq := pow_pq n h1
 have hp := zcP n
 have hq := zcP (32 - n)
 have h2 := Int.emod_nonneg x (Int.ne_of_gt hp)
 have h3 := Int.emod_lt_of_pos x hp
 have h4 : 0 ≤ x / 2 ^ n := Int.ediv_nonneg hx.1 (Int.le_of_lt hp)
 have h5 : x / 2 ^ n < 2 ^ (32 - n) := Int.ediv_lt_of_lt_mul hp (by rw [Int.mul_comm,hpq];exact hx.2)
 have h8 : x / 2 ^ n < 4294967296 := by
  have : x / 2 ^ n ≤ x := Int.ediv_le_self _ hx.1
  have := hx.2;omega
 have e : IntKind.u32.wrap (x * 2 ^ (32 - n)) = x % 2 ^ n * 2 ^ (32 - n) := by
  rw [IntKind.wrap_u32,← hpq,Int.mul_comm x,Int.mul_comm (2 ^ n),Int.mul_emod_mul_of_pos _ _ hq,Int.mul_comm]
 have h6 : x % 2 ^ n * 2 ^ (32 - n) ≤ (2 ^ n - 1) * 2 ^ (32 - n) := Int.mul_le_mul_of_nonneg_right (by omega) (by omega)
 rw [Int.sub_mul,hpq,Int.one_mul] at h6
 have h7 : 0 ≤ x % 2 ^ n * 2 ^ (32 - n) := Int.mul_nonneg h2 (by omega)
 rw [e,bits_join .u32 32 (by decide) (fun n h0 h1 => by rw [IntKind.wrap_u32];omega) (32 - n) _ _ h7 (Int.mul_emod_left _ _) (by omega) h4 h5 (by omega),zaz,Int.add_comm]
theorem ziK (n : Nat) (h0 : 1 ≤ n) (h1 : n ≤ 31) {x : Int} (hx : zbS x) : zgU.f x (n : Int) = some (zaz n x) := by
 unfold zgU.f zcL.f
 have e1 : wrap64 (-(n : Int)) = -(n : Int) := z9 (by omega) (by omega)
 have e2 : IntKind.u64.wrap (-(n : Int)) = 18446744073709551616 - (n : Int) := by
  show (-(n : Int)) % 18446744073709551616 = _
  omega
 have e3 : Go.bits .and .u64 (18446744073709551616 - (n : Int)) 31 = ((32 - n : Nat) : Int) := by
  have := bits_mask .u64 64 (by decide) (fun n h0 h1 => zaA h0 (by omega)) 5 (by decide) (18446744073709551616 - (n : Int)) (by omega) (by omega)
  rw [show ((2 : Int) ^ 5 - 1) = 31 from rfl,show (2 : Int) ^ 5 = 32 from rfl] at this
  rw [this];omega
 have e4 : IntKind.u64.wrap (32 - ((32 - n : Nat) : Int)) = (n : Int) := by rw [zaA (by omega) (by omega)];omega
 rw [e1,e2,e3,e4,if_pos (by omega),if_pos (by omega)]
 simp only [Option.bind_some]
 congr 1
 unfold shl shr
 rw [Int.toNat_natCast,Int.toNat_natCast,Nat.min_eq_left (by show 32 - n ≤ 32;omega),Nat.min_eq_left (by show n ≤ 32;omega)]
 exact rot_join n (by omega) hx
theorem refTurn_l1 (x n p low : Int) (hp : p ≠ 0) (m : Nat) (hm : wrap64 (32 - n) = m) (d : Nat) : ∀ j : Nat,j + d = m → m ≤ 32 → 0 ≤ low → low * 2 ^ m < 4294967296 → Ev (fun k => zX.l1 k x n p (low * 2 ^ j) (j : Int)) (((Int.tdiv x p % 4294967296) + low * 2 ^ m) % 4294967296) := by
 induction d with
 | zero =>
  intro j hj hm2 h0 h1
  obtain rfl : j = m := by omega
  refine Ev.step (fun k => by rw [zX.l1]) ?_
  rw [hm]
  exact zF (by omega) (zF hp (Ev.now _))
 | succ d ih =>
  intro j hj hm2 h0 h1
  refine Ev.step (fun k => by rw [zX.l1]) ?_
  rw [hm]
  refine zn (by omega) ?_
  have h2 : low * 2 ^ (j + 1) ≤ low * 2 ^ m := Int.mul_le_mul_of_nonneg_left (by exact_mod_cast Nat.pow_le_pow_right (by omega) (by omega)) h0
  have h3 : 0 ≤ low * 2 ^ (j + 1) := Int.mul_nonneg h0 (Int.le_of_lt (zcP _))
  have e1 : low * 2 ^ j * 2 % 4294967296 = low * 2 ^ (j + 1) := by
   rw [Int.mul_assoc,← Int.pow_succ]
   show low * 2 ^ (j + 1) % 4294967296 = low * 2 ^ (j + 1)
   omega
  rw [e1,z9 (by omega) (by omega)]
  exact ih (j + 1) (by omega) hm2 h0 h1
theorem refTurn_l0 (x : Int) (n : Nat) (hn : n ≤ 31) (r : Int) (hr : Ev (fun k => zX.l1 k x n (2 ^ n) (Int.tmod x (2 ^ n)) 0) r) (d : Nat) : ∀ j : Nat,j + d = n → Ev (fun k => zX.l0 k x (n : Int) (2 ^ j) (j : Int)) r := by
 induction d with
 | zero =>
  intro j hj
  obtain rfl : j = n := by omega
  refine Ev.step (fun k => by rw [zX.l0]) ?_
  exact zF (by omega) (zF (Int.ne_of_gt (zcP _)) hr)
 | succ d ih =>
  intro j hj
  refine Ev.step (fun k => by rw [zX.l0]) ?_
  refine zn (by omega) ?_
  have h2 : (2 : Int) ^ (j + 1) ≤ 2 ^ 31 := by exact_mod_cast Nat.pow_le_pow_right (by omega : 0 < 2) (by omega : j + 1 ≤ 31)
  have h3 : (2 : Int) ^ 31 = 2147483648 := rfl
  have h4 := zcP (j + 1)
  have e1 : (2 : Int) ^ j * 2 % 4294967296 = 2 ^ (j + 1) := by
   rw [← Int.pow_succ];omega
  rw [e1,z9 (by omega) (by omega)]
  exact ih (j + 1) (by omega)
theorem refTurn_ev (n : Nat) (h0 : 1 ≤ n) (h1 : n ≤ 31) {x : Int} (hx : zbS x) : Ev (fun k => zX.f k x (n : Int)) (zaz n x) := by
 have hpq := pow_pq n (by omega)
 have hp := zcP n
 have hq := zcP (32 - n)
 have h2 := Int.emod_nonneg x (Int.ne_of_gt hp)
 have h3 := Int.emod_lt_of_pos x hp
 have h6 : x % 2 ^ n * 2 ^ (32 - n) ≤ (2 ^ n - 1) * 2 ^ (32 - n) := Int.mul_le_mul_of_nonneg_right (by omega) (by omega)
 rw [Int.sub_mul,hpq,Int.one_mul] at h6
 have hl := refTurn_l1 x n (2 ^ n) (x % 2 ^ n) (Int.ne_of_gt hp) (32 - n) (by rw [z9 (by omega) (by omega)];omega) (32 - n) 0 (by omega) (by omega) h2 (by omega)
 rw [Int.pow_zero,Int.mul_one] at hl
 rw [← Int.tmod_eq_emod_of_nonneg hx.1] at hl
 have := refTurn_l0 x n h1 _ hl n 0 (by omega)
 rw [Int.pow_zero] at this
 refine zac this ?_
 have ok := rot32_ok n (by omega) hx
 rw [Int.tmod_eq_emod_of_nonneg hx.1,Int.tdiv_eq_ediv_of_nonneg hx.1]
 have h4 : 0 ≤ x / 2 ^ n := Int.ediv_nonneg hx.1 (Int.le_of_lt hp)
 have h8 : x / 2 ^ n < 4294967296 := by
  have : x / 2 ^ n ≤ x := Int.ediv_le_self _ hx.1
  have := hx.2;omega
 rw [Int.emod_eq_of_lt h4 h8]
 exact Int.emod_eq_of_lt ok.1 ok.2
theorem refOver_l0 (n : Nat) (hn : n ≤ 31) (d : Nat) : ∀ (j : Nat) (x : Int),j + d = n → zbS x → Ev (fun k => zar.l0 k x (n : Int) (j : Int)) (x / 2 ^ d) := by
 induction d with
 | zero =>
  intro j x hj hx
  refine Ev.step (fun k => by rw [zar.l0]) ?_
  exact zF (by omega) (zac (Ev.now _) (by simp))
 | succ d ih =>
  intro j x hj hx
  refine Ev.step (fun k => by rw [zar.l0]) ?_
  refine zn (by omega) ?_
  obtain ⟨x0,x1⟩ := hx
  have e1 : Int.tdiv x 2 % 4294967296 = x / 2 := by rw [Int.tdiv_eq_ediv_of_nonneg x0];omega
  rw [e1,z9 (by omega) (by omega)]
  refine zac (ih (j + 1) (x / 2) (by omega) ⟨by omega,by omega⟩) ?_
  rw [Int.pow_succ,Int.mul_comm,← Int.ediv_ediv_of_nonneg (by decide)]
theorem refOver_ev (n : Nat) (hn : n ≤ 31) {x : Int} (hx : zbS x) : Ev (fun k => zar.f k x (n : Int)) (x / 2 ^ n) := refOver_l0 n hn n 0 x (by omega) hx
end Go.Proofs.YtfhbeonhnhjikaaGreat.Px