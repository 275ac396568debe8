/- Part 8 of 24 of the proof of the law CertGrows: what is proved is the statement at the end of the last part; its conditions are those of the given row. -/
import Derived.Laws.BitsAllLaws
import Derived.Test.YtcncoepijagadaaZCertGrowsG
namespace Go.Proofs.Ytcncoepijagadaa.Px
open Go.RowKit Go.Proofs.YtcncoepijagadaaW.PrintWords Go.Proofs.YtcncoepijagadaaW.PrintLast Go.Proofs.YtcncoepijagadaaW.PrintMore
attribute [local go_sem] zp zr zy zz zl zm zq zs
set_option linter.unusedVariables false
set_option linter.unusedSimpArgs false
def zbv.f (a0_0 : Int) (a0_1 : Int) (l0_2 : List (S50)) (l0_3 : List ByteArray) (a0_4 : Int) (a0_5 : Int) (a0_6 : Int) (a1 : Int) : Option (Int) := (zV.f a0_0 a0_1 l0_2 l0_3 a0_4 a0_5 a1).bind fun t110 => (if t110 = true then ((zaM.f a0_6 a1).bind fun t111 => (if t111 = true then ((zaO.f a0_6).bind fun t112 => ((zak.f a1).bind fun t113 => (if t112 < t113 then (some 2) else (some 0)))) else (some 4))) else (some 1))
set_option maxHeartbeats 8000000 in
set_option maxRecDepth 100000 in
theorem zbv.calls (a0_0 : Int) (a0_1 : Int) (A0_2 : Option Addr) (c0_2 : Nat) (l0_2 : List (S50)) (A0_3 : Option Addr) (c0_3 : Nat) (l0_3 : List ByteArray) (a0_4 : Int) (a0_5 : Int) (a0_6 : Int) (a1 : Int) (r : Int) (w : World) (hr0_2 : Kd.C k50 w A0_2 l0_2.length l0_2) (hc0_2 : l0_2.length ≤ c0_2) (hr0_3 : Kd.C Kd.string w A0_3 l0_3.length l0_3) (hc0_3 : l0_3.length ≤ c0_3) (h : zbv.f a0_0 a0_1 l0_2 l0_3 a0_4 a0_5 a0_6 a1 = some r) :
  Calls Try.prog 10 #[.agg #[.int .i64 a0_0,.int .i64 a0_1,.slice A0_2 l0_2.length c0_2,.slice A0_3 l0_3.length c0_3,.int .i64 a0_4,.int .i64 a0_5,.int .u64 a0_6],.int .i64 a1] w fun e w' => e = .returned (.int .i64 r) ∧ Below w.heap.size w w' := by
 have hu31 := Try.underlying31
 have hu28 := Try.underlying28
 have HR0_2 := za.mk hr0_2
 have HC0_2 := za.mk hc0_2
 clear hr0_2 hc0_2
 have HR0_3 := za.mk hr0_3
 have HC0_3 := za.mk hc0_3
 clear hr0_3 hc0_3
 have HB := za.mk (Below.refl w.heap.size w)
 have H : ((zV.f a0_0 a0_1 l0_2 l0_3 a0_4 a0_5 a1).bind fun t110 => (if t110 = true then ((zaM.f a0_6 a1).bind fun t111 => (if t111 = true then ((zaO.f a0_6).bind fun t112 => ((zak.f a1).bind fun t113 => (if t112 < t113 then (some 2) else (some 0)))) else (some 4))) else (some 1))) = some r := h
 clear h
 replace H := Option.bind_eq_some_iff.mp H
 obtain ⟨t110,A30,H⟩ := H
 replace H : (if t110 = true then ((zaM.f a0_6 a1).bind fun t111 => (if t111 = true then ((zaO.f a0_6).bind fun t112 => ((zak.f a1).bind fun t113 => (if t112 < t113 then (some 2) else (some 0)))) else (some 4))) else (some 1)) = some r := H
 have A3 := za.mk A30
 clear A30
 by_cases c4 : t110 = true
 focus
  subst c4
  have H1 : ((zaM.f a0_6 a1).bind fun t111 => (if t111 = true then ((zaO.f a0_6).bind fun t112 => ((zak.f a1).bind fun t113 => (if t112 < t113 then (some 2) else (some 0)))) else (some 4))) = some r := by rw [if_pos rfl] at H;exact H
  clear H
  have H := H1
  clear H1
  replace H := Option.bind_eq_some_iff.mp H
  obtain ⟨t111,A50,H⟩ := H
  replace H : (if t111 = true then ((zaO.f a0_6).bind fun t112 => ((zak.f a1).bind fun t113 => (if t112 < t113 then (some 2) else (some 0)))) else (some 4)) = some r := H
  have A5 := za.mk A50
  clear A50
  by_cases c6 : t111 = true
  focus
   subst c6
   have H1 : ((zaO.f a0_6).bind fun t112 => ((zak.f a1).bind fun t113 => (if t112 < t113 then (some 2) else (some 0)))) = some r := by rw [if_pos rfl] at H;exact H
   clear H
   have H := H1
   clear H1
   replace H := Option.bind_eq_some_iff.mp H
   obtain ⟨t112,A70,H⟩ := H
   replace H : ((zak.f a1).bind fun t113 => (if t112 < t113 then (some 2) else (some 0))) = some r := H
   have A7 := za.mk A70
   clear A70
   replace H := Option.bind_eq_some_iff.mp H
   obtain ⟨t113,A80,H⟩ := H
   replace H : (if t112 < t113 then (some 2) else (some 0)) = some r := H
   have A8 := za.mk A80
   clear A80
   by_cases c9 : t112 < t113
   focus
    rw [if_pos c9] at H
    have c9b0 : decide (t112 < t113) = true := decide_eq_true c9
    clear c9
    obtain rfl := Option.some.inj H
    have EQ0 := True.intro
    have EQ1 := True.intro
   rotate_left
   focus
    rw [if_neg c9] at H
    have c9b0 : decide (t112 < t113) = false := decide_eq_false c9
    clear c9
    obtain rfl := Option.some.inj H
    have EQ0 := True.intro
    have EQ1 := True.intro
  rotate_left 2
  focus
   replace c6 := Bool.eq_false_iff.mpr c6
   subst c6
   have H1 : (some 4) = some r := by rw [if_neg (show ¬ (false = true) by decide)] at H;exact H
   clear H
   have H := H1
   clear H1
   obtain rfl := Option.some.inj H
   have EQ0 := True.intro
   have EQ2 := True.intro
 rotate_left 3
 focus
  replace c4 := Bool.eq_false_iff.mpr c4
  subst c4
  have H1 : (some 1) = some r := by rw [if_neg (show ¬ (false = true) by decide)] at H;exact H
  clear H
  have H := H1
  clear H1
  obtain rfl := Option.some.inj H
  have EQ3 := True.intro
 all_goals
  go_enter Try.func10,Try.ntmps10
  go_wp2_with (first | ((with_reducible refine zo (N := 2) rfl ?_);refine zk rfl (N := 2) rfl (cs := #[.int .i64 a0_0,.int .i64 a0_1,.slice A0_2 l0_2.length c0_2,.slice A0_3 l0_3.length c0_3,.int .i64 a0_4,.int .i64 a0_5,.int .u64 a0_6]) (t := 31) hrq ?_;intro gb109 hg wQN22 hbox hb;have n_ := haq (zd hBq hb) <| haq (hbox) <| haq ((by rw [hg];exact (zf hBq) : w.heap.size ≤ gb109)) <| haq ((by rw [hg];exact (zf hBq) : w.heap.size ≤ gb109)) <| trivial;clear HB;obtain ⟨HB,BK109,GW109,GE109,_⟩ := n_;clear hb hbox hg;obtain ⟨hczQN26,hczQN27,hczQN28,hczQN29,hczQN210,hczQN211,hczQN212,hfzQN213,hfzQN214,hfzQN215,hfzQN216,hfzQN217,hfzQN218,hfzQN219⟩ := hcq7 BK109.out) | (have _ := EQ0;((with_reducible refine zv (f := 21) rfl ?_);refine zT (some 9) rfl rfl Try.func21 (by kernel_rfl) rfl #[.agg #[.int .i64 a0_0,.int .i64 a0_1,.slice A0_2 l0_2.length c0_2,.slice A0_3 l0_3.length c0_3,.int .i64 a0_4,.int .i64 a0_5],.int .i64 a1] rfl hMq ?_;(with_reducible refine (zV.calls a0_0 a0_1 _ _ l0_2 _ _ l0_3 a0_4 a0_5 a1 true _ ?side1 ?side2 ?side3 ?side4 A3.out).mono ?_);(case side1 => exact hKq (Kd.C_below HR0_2.out HB.out));(case side2 => exact HC0_2.out);(case side3 => exact hKq (Kd.C_below HR0_3.out HB.out));(case side4 => exact HC0_3.out);rintro e wQF21A31 ⟨rfl,hb⟩;refine ⟨_,rfl,?_⟩;have n_ := haq (hbq BK109.out hb) <| haq (zd hCq hb) <| trivial;clear BK109 HB;obtain ⟨BK109,HB,_⟩ := n_;(try clear hb);(try clear hb2);(try clear hk);(try clear hi);obtain ⟨hczQF21A33,hczQF21A34,hczQF21A35,hczQF21A36,hczQF21A37,hczQF21A38,hczQF21A39,hfzQF21A310,hfzQF21A311,hfzQF21A312,hfzQF21A313,hfzQF21A314,hfzQF21A315,hfzQF21A316⟩ := hcq7 BK109.out)) | (have _ := EQ1;((with_reducible refine zv (f := 22) rfl ?_);refine zT (some 15) rfl rfl Try.func22 (by kernel_rfl) rfl #[.int .u64 a0_6,.int .i64 a1] rfl hMq ?_;(with_reducible refine (zaM.calls a0_6 a1 true _ A5.out).mono ?_);rintro e wQF22A51 ⟨rfl,hb⟩;refine ⟨_,rfl,?_⟩;have n_ := haq (hbq BK109.out hb) <| haq (zd hCq hb) <| trivial;clear BK109 HB;obtain ⟨BK109,HB,_⟩ := n_;(try clear hb);(try clear hb2);(try clear hk);(try clear hi);obtain ⟨hczQF22A53,hczQF22A54,hczQF22A55,hczQF22A56,hczQF22A57,hczQF22A58,hczQF22A59,hfzQF22A510,hfzQF22A511,hfzQF22A512,hfzQF22A513,hfzQF22A514,hfzQF22A515,hfzQF22A516⟩ := hcq7 BK109.out)) | (have _ := EQ1;((with_reducible refine zv (f := 23) rfl ?_);refine zT (some 20) rfl rfl Try.func23 (by kernel_rfl) rfl #[.int .u64 a0_6] rfl hMq ?_;(with_reducible refine (zaO.calls a0_6 t112 _ A7.out).mono ?_);rintro e w' ⟨rfl,⟨nd,rfl⟩⟩;refine ⟨_,rfl,?_⟩)) | (have _ := EQ1;((with_reducible refine zv (f := 24) rfl ?_);refine zT (some 22) rfl rfl Try.func24 (by kernel_rfl) rfl #[.int .i64 a1] rfl hMq ?_;(with_reducible refine (zak.calls a1 t113 _ A8.out).mono ?_);rintro e w' ⟨rfl,⟨nd,rfl⟩⟩;refine ⟨_,rfl,?_⟩)) | (have _ := EQ2;((with_reducible refine zv (f := 22) rfl ?_);refine zT (some 15) rfl rfl Try.func22 (by kernel_rfl) rfl #[.int .u64 a0_6,.int .i64 a1] rfl hMq ?_;(with_reducible refine (zaM.calls a0_6 a1 false _ A5.out).mono ?_);rintro e wQF22A51 ⟨rfl,hb⟩;refine ⟨_,rfl,?_⟩;have n_ := haq (hbq BK109.out hb) <| haq (zd hCq hb) <| trivial;clear BK109 HB;obtain ⟨BK109,HB,_⟩ := n_;(try clear hb);(try clear hb2);(try clear hk);(try clear hi))) | (have _ := EQ3;((with_reducible refine zv (f := 21) rfl ?_);refine zT (some 9) rfl rfl Try.func21 (by kernel_rfl) rfl #[.agg #[.int .i64 a0_0,.int .i64 a0_1,.slice A0_2 l0_2.length c0_2,.slice A0_3 l0_3.length c0_3,.int .i64 a0_4,.int .i64 a0_5],.int .i64 a1] rfl hMq ?_;(with_reducible refine (zV.calls a0_0 a0_1 _ _ l0_2 _ _ l0_3 a0_4 a0_5 a1 false _ ?side1 ?side2 ?side3 ?side4 A3.out).mono ?_);(case side1 => exact hKq (Kd.C_below HR0_2.out HB.out));(case side2 => exact HC0_2.out);(case side3 => exact hKq (Kd.C_below HR0_3.out HB.out));(case side4 => exact HC0_3.out);rintro e wQF21A31 ⟨rfl,hb⟩;refine ⟨_,rfl,?_⟩;have n_ := haq (hbq BK109.out hb) <| haq (zd hCq hb) <| trivial;clear BK109 HB;obtain ⟨BK109,HB,_⟩ := n_;(try clear hb);(try clear hb2);(try clear hk);(try clear hi))))
  go_ret
  exact ⟨hHq,hCq⟩
def zaz.f (a0 : ByteArray) : Option (ByteArray) := if 1 + a0.size ≤ 9223372036854775807 then (some ((⟨#[121]⟩ : ByteArray) ++ a0)) else (none)
set_option maxHeartbeats 8000000 in
set_option maxRecDepth 100000 in
theorem zaz.calls (a0 : ByteArray) (r : ByteArray) (w : World) (h : zaz.f a0 = some r) :
  Calls Try.prog 9 #[.string a0] w fun e w' => e = .returned (.string r) ∧ zaq w w' := by
 have H : (if 1 + a0.size ≤ 9223372036854775807 then (some ((⟨#[121]⟩ : ByteArray) ++ a0)) else (none)) = some r := h
 clear h
 by_cases c2 : 1 + a0.size ≤ 9223372036854775807
 ·rw [if_pos c2] at H
  have c2b0 := eq_true c2
  have c2b1 : decide (1 + a0.size ≤ 9223372036854775807) = true := decide_eq_true c2
  try have c2b2 : (9223372036854775807 < 1 + a0.size) = False := eq_false (Nat.not_lt.2 c2)
  obtain rfl := Option.some.inj H
  go_enter Try.func9,Try.ntmps9
  go_wp2
  go_ret
  exact ⟨hDq,hEq⟩
 ·rw [if_neg c2] at H
  exact absurd H (by simp)
def zbO.f (a0 : Int) (a1 : Int) : Option (Int) := if 0 ≤ (Go.bits .and .u64 (IntKind.u64.wrap (a1)) 31) then (if 0 ≤ (IntKind.u64.wrap (32 - (Go.bits .and .u64 (IntKind.u64.wrap (a1)) 31))) then (some (Go.bits .or .u32 (shl .u32 a0 (Go.bits .and .u64 (IntKind.u64.wrap (a1)) 31)) (shr .u32 a0 (IntKind.u64.wrap (32 - (Go.bits .and .u64 (IntKind.u64.wrap (a1)) 31)))))) else (none)) else (none)
def zfj.f (a0 : Int) (a1 : Int) : Option (Int) := (zbO.f a0 (wrap64 (-a1))).bind fun t136 => (some t136)
def za2 (x : Int) : Prop := 0 ≤ x ∧ x < 4294967296
def zbX (x : Int) : Int := IntKind.u32.wrap x
theorem zbs (x : Int) : zbX x = x % 4294967296 := IntKind.wrap_u32 x
theorem zeN (x : Int) : za2 (zbX x) := by rw [zbs];unfold za2;omega
def z6 (n : Nat) (x : Int) : Int := x / 2 ^ n + x % 2 ^ n * 2 ^ (32 - n)
def zbN (a b : Int) : Int := Go.bits .xor .u32 a b
def zc1 (a b : Int) : Int := Go.bits .and .u32 a b
def zeh (L : List Int) (k w : Int) : List Int :=
 let t := zbX (zbX (zbX (zbX (L.getD 7 0 + zbN (zbN (z6 6 (L.getD 4 0)) (z6 11 (L.getD 4 0))) (z6 25 (L.getD 4 0))) + zbN (zc1 (L.getD 4 0) (L.getD 5 0)) (zc1 (4294967295 - L.getD 4 0) (L.getD 6 0))) + k) + w)
 let u := zbX (zbN (zbN (z6 2 (L.getD 0 0)) (z6 13 (L.getD 0 0))) (z6 22 (L.getD 0 0)) + zbN (zbN (zc1 (L.getD 0 0) (L.getD 1 0)) (zc1 (L.getD 0 0) (L.getD 2 0))) (zc1 (L.getD 1 0) (L.getD 2 0)))
 [zbX (t + u),L.getD 0 0,L.getD 1 0,L.getD 2 0,zbX (L.getD 3 0 + t),L.getD 4 0,L.getD 5 0,L.getD 6 0]
def okL (L : List Int) : Prop := ∀ i,za2 (L.getD i 0)
theorem zf6 : okL [] := fun i => by simp [za2]
theorem zaV {x : Int} {L : List Int} (hx : za2 x) (hL : okL L) : okL (x :: L) := fun i => by
 rcases i with _ | i
 ·exact hx
 ·exact hL i
theorem zgy {x : Int} {L : List Int} (hL : okL L) (hx : za2 x) : okL (L ++ [x]) := fun i => by
 rw [List.getD_eq_getElem?_getD]
 rcases Nat.lt_trichotomy i L.length with h | h | h
 ·rw [List.getElem?_append_left h,← List.getD_eq_getElem?_getD];exact hL i
 ·subst h;simp;exact hx
 ·rw [List.getElem?_eq_none (by rw [List.length_append];simp;omega)];simp [za2]
theorem zhO {L : List Int} (h : okL L) (k w : Int) : okL (zeh L k w) :=
 zaV (zeN _) (zaV (h 0) (zaV (h 1) (zaV (h 2) (zaV (zeN _) (zaV (h 4) (zaV (h 5) (zaV (h 6) zf6)))))))
def zfl (b : ByteArray) (i : Nat) : Int := bt b ((4 * i : Nat) : Int) * 16777216 + bt b ((4 * i + 1 : Nat) : Int) * 65536 + bt b ((4 * i + 2 : Nat) : Int) * 256 + bt b ((4 * i + 3 : Nat) : Int)
theorem ziD (b : ByteArray) (i : Nat) : za2 (zfl b i) := by
 have h0 := zbl b ((4 * i : Nat) : Int)
 have h1 := zbl b ((4 * i + 1 : Nat) : Int)
 have h2 := zbl b ((4 * i + 2 : Nat) : Int)
 have h3 := zbl b ((4 * i + 3 : Nat) : Int)
 unfold za2 zfl;omega
def zb8 (b : ByteArray) : Nat → List Int
 | 0 => []
 | n + 1 => zb8 b n ++ [zfl b n]
theorem zbK (b : ByteArray) : ∀ n,(zb8 b n).length = n
 | 0 => rfl
 | n + 1 => by rw [zb8,List.length_append,zbK b n];rfl
theorem zgw (b : ByteArray) : ∀ n,okL (zb8 b n)
 | 0 => zf6
 | n + 1 => zgy (zgw b n) (ziD b n)
def zcY (W : List Int) (i : Nat) : Int :=
 zbX (zbX (zbX (W.getD (i - 16) 0 + zbN (zbN (z6 7 (W.getD (i - 15) 0)) (z6 18 (W.getD (i - 15) 0))) (W.getD (i - 15) 0 / 8)) + W.getD (i - 7) 0) + zbN (zbN (z6 17 (W.getD (i - 2) 0)) (z6 19 (W.getD (i - 2) 0))) (W.getD (i - 2) 0 / 1024))
def zA (b : ByteArray) : Nat → List Int
 | 0 => zb8 b 16
 | n + 1 => zA b n ++ [zcY (zA b n) (16 + n)]
theorem zaC (b : ByteArray) : ∀ n,(zA b n).length = 16 + n
 | 0 => zbK b 16
 | n + 1 => by rw [zA,List.length_append,zaC b n];rfl
theorem zei (b : ByteArray) : ∀ n,okL (zA b n)
 | 0 => zgw b 16
 | n + 1 => zgy (zei b n) (zeN _)
def zaA (S K W : List Int) : Nat → List Int
 | 0 => S
 | n + 1 => zeh (zaA S K W n) (K.getD n 0) (W.getD n 0)
theorem zcX {S : List Int} (h : okL S) (K W : List Int) : ∀ n,okL (zaA S K W n)
 | 0 => h
 | n + 1 => zhO (zcX h K W n) _ _
theorem zdk {S : List Int} (h : S.length = 8) (K W : List Int) : ∀ n,(zaA S K W n).length = 8
 | 0 => h
 | _ + 1 => rfl
def zcd (S H : List Int) (k : Nat) : List Int := (List.range 8).map fun j => if j < k then zbX (S.getD j 0 + H.getD j 0) else S.getD j 0
theorem zb3 (S H : List Int) (k : Nat) : (zcd S H k).length = 8 := by simp [zcd]
theorem zcj (S H : List Int) (k j : Nat) (hj : j < 8) : (zcd S H k).getD j 0 = if j < k then zbX (S.getD j 0 + H.getD j 0) else S.getD j 0 := by
 rw [zcd,List.getD_eq_getElem?_getD,List.getElem?_map,List.getElem?_range hj];rfl
theorem ze2 {A B : List Int} (ha : A.length = 8) (hb : B.length = 8) (h : ∀ j,j < 8 → A.getD j 0 = B.getD j 0) : A = B := by
 apply List.ext_getElem (by rw [ha,hb])
 intro i h1 h2
 have := h i (by omega)
 rwa [List.getD_eq_getElem?_getD,List.getD_eq_getElem?_getD,List.getElem?_eq_getElem h1,List.getElem?_eq_getElem h2] at this
theorem zhh {S : List Int} (h : S.length = 8) (H : List Int) : zcd S H 0 = S :=
 ze2 (zb3 _ _ _) h (fun j hj => by rw [zcj _ _ _ _ hj,if_neg (by omega)])
theorem zh8 (L : List Int) (k j : Nat) (v : Int) (hk : k < L.length) : (L.set k v).getD j 0 = if j = k then v else L.getD j 0 := by
 rw [List.getD_eq_getElem?_getD,List.getElem?_set]
 by_cases h : k = j
 ·subst h;rw [if_pos rfl,if_pos hk,if_pos rfl];rfl
 ·rw [if_neg h,if_neg (Ne.symm h),← List.getD_eq_getElem?_getD]
theorem zhg (S H : List Int) (k : Nat) (hk : k < 8) : (zcd S H k).set k (zbX (S.getD k 0 + H.getD k 0)) = zcd S H (k + 1) := by
 refine ze2 (by rw [List.length_set,zb3]) (zb3 _ _ _) (fun j hj => ?_)
 rw [zh8 _ _ _ _ (by rw [zb3];exact hk),zcj _ _ _ _ hj,zcj _ _ _ _ hj]
 by_cases h : j = k
 ·subst h;rw [if_pos rfl,if_pos (by omega)]
 ·rw [if_neg h]
  by_cases h2 : j < k
  ·rw [if_pos h2,if_pos (by omega)]
  ·rw [if_neg h2,if_neg (by omega)]
def zdL (S K : List Int) (b : ByteArray) : List Int := zcd (zaA S K (zA b 48) 64) S 8
theorem zcK (S K : List Int) (b : ByteArray) : (zdL S K b).length = 8 := zb3 _ _ _
theorem ziU (S K : List Int) (b : ByteArray) : okL (zdL S K b) := fun i => by
 rcases Nat.lt_or_ge i 8 with h | h
 ·rw [zdL,zcj _ _ _ _ h,if_pos h];exact zeN _
 ·rw [List.getD_eq_getElem?_getD,List.getElem?_eq_none (by rw [zcK];exact h)];simp [za2]
def kL : List Int := [1116352408,1899447441,3049323471,3921009573,961987163,1508970993,2453635748,2870763221,3624381080,310598401,607225278,1426881987,1925078388,2162078206,2614888103,3248222580,3835390401,4022224774,264347078,604807628,770255983,1249150122,1555081692,1996064986,2554220882,2821834349,2952996808,3210313671,3336571891,3584528711,113926993,338241895,666307205,773529912,1294757372,1396182291,1695183700,1986661051,2177026350,2456956037,2730485921,2820302411,3259730800,3345764771,3516065817,3600352804,4094571909,275423344,430227734,506948616,659060556,883997877,958139571,1322822218,1537002063,1747873779,1955562222,2024104815,2227730452,2361852424,2428436474,2756734187,3204031479,3329325298]
def hL : List Int := [1779033703,3144134277,1013904242,2773480762,1359893119,2600822924,528734635,1541459225]
theorem hL_ok : okL hL := by
 refine zaV ?_ (zaV ?_ (zaV ?_ (zaV ?_ (zaV ?_ (zaV ?_ (zaV ?_ (zaV ?_ zf6))))))) <;> (constructor <;> decide)
def zdI (n : Nat) : Bs := [UInt8.ofNat (n / 72057594037927936 % 256),UInt8.ofNat (n / 281474976710656 % 256),UInt8.ofNat (n / 1099511627776 % 256),UInt8.ofNat (n / 4294967296 % 256),UInt8.ofNat (n / 16777216 % 256),UInt8.ofNat (n / 65536 % 256),UInt8.ofNat (n / 256 % 256),UInt8.ofNat (n % 256)]
def zbW (n : Nat) : Nat := (119 - n % 64) % 64
def zdh (s : Bs) : Bs := s ++ 128 :: (List.replicate (zbW s.length) 0 ++ zdI (s.length * 8))
theorem zgz (s : Bs) : ∃ m,(zdh s).length = 64 * m := by
 refine ⟨(s.length + 9 + zbW s.length) / 64,?_⟩
 have : (zdh s).length = s.length + 9 + zbW s.length := by simp [zdh,zdI];omega
 rw [this];unfold zbW;omega
def zax (p : ByteArray) : Nat → List Int
 | 0 => hL
 | i + 1 => zdL (zax p i) kL (p.extract (64 * i) (64 * i + 64))
theorem za0 (p : ByteArray) : ∀ i,(zax p i).length = 8
 | 0 => rfl
 | _ + 1 => zcK _ _ _
theorem zcR (p : ByteArray) : ∀ i,okL (zax p i)
 | 0 => hL_ok
 | _ + 1 => ziU _ _ _
def zcc (x : Int) : Bs := [UInt8.ofNat (x.toNat / 16777216 % 256),UInt8.ofNat (x.toNat / 65536 % 256),UInt8.ofNat (x.toNat / 256 % 256),UInt8.ofNat (x.toNat % 256)]
def zeF (s : ByteArray) : ByteArray := toB ((zax (toB (zdh (ofB s))) ((zdh (ofB s)).length / 64)).flatMap zcc)
theorem zdV (l : List Int) : (l.flatMap zcc).length = 4 * l.length := by
 induction l with
 | nil => rfl
 | cons x l ih => rw [List.flatMap_cons,List.length_append,ih,List.length_cons];show 4 + _ = _;omega
theorem zfO (s : ByteArray) : (zeF s).size = 32 := by
 rw [zeF,zac,zdV,za0]
def zB (L : List Int) : Array Value := (L.map (Value.int .u32)).toArray
theorem zay (L : List Int) : (zB L).size = L.length := by simp [zB]
theorem zH (L : List Int) (i : Nat) (h : i < L.length) : (zB L)[i]? = some (.int .u32 (L.getD i 0)) := by
 rw [zB,List.getElem?_toArray,List.getElem?_map,List.getElem?_eq_getElem h,List.getD_eq_getElem?_getD,List.getElem?_eq_getElem h];rfl
theorem zen (L : List Int) (i : Nat) (v : Int) : (zB L).setIfInBounds i (.int .u32 v) = zB (L.set i v) := by
 simp [zB,List.map_set]
theorem zem (L : List Int) (h : L.length = 8) : zB L = #[.int .u32 (L.getD 0 0),.int .u32 (L.getD 1 0),.int .u32 (L.getD 2 0),.int .u32 (L.getD 3 0),.int .u32 (L.getD 4 0),.int .u32 (L.getD 5 0),.int .u32 (L.getD 6 0),.int .u32 (L.getD 7 0)] := by
 obtain ⟨a,b,c,d,e,f,g,k,rfl⟩ : ∃ a b c d e f g k,L = [a,b,c,d,e,f,g,k] := by
  match L,h with
  | [a,b,c,d,e,f,g,k],_ => exact ⟨a,b,c,d,e,f,g,k,rfl⟩
 rfl
def zbo (W : List Int) : List Int := W ++ List.replicate (64 - W.length) 0
theorem zcT {W : List Int} (h : W.length ≤ 64) : (zbo W).length = 64 := by simp [zbo];omega
theorem zeX {W : List Int} (i : Nat) (h : i < W.length) : (zbo W).getD i 0 = W.getD i 0 := by
 rw [zbo,List.getD_eq_getElem?_getD,List.getElem?_append_left h,← List.getD_eq_getElem?_getD]
theorem zgU {W : List Int} (h : W.length < 64) (v : Int) : (zbo W).set W.length v = zbo (W ++ [v]) := by
 rw [zbo,zbo,List.set_append_right _ _ (Nat.le_refl _),Nat.sub_self,List.length_append]
 obtain ⟨m,hm⟩ : ∃ m,64 - W.length = m + 1 := ⟨63 - W.length,by omega⟩
 rw [hm,List.replicate_succ,List.set_cons_zero,show 64 - (W.length + [v].length) = m by simp;omega]
 simp
def zP.l0 : Nat → Int → Int → Int → Option (Int)
 | 0,_,_,_ => none
 | k + 1,x0,x1,x5 => if x5 < x1 then (zP.l0 k ((Int.tdiv x0 2) % 4294967296) x1 (wrap64 (x5 + 1))) else (some x0)
def zP.f (k : Nat) (a0 : Int) (a1 : Int) : Option (Int) := zP.l0 k a0 a1 0
set_option maxHeartbeats 8000000 in
set_option maxRecDepth 100000 in
theorem zP.calls (k : Nat) (a0 : Int) (a1 : Int) (r : Int) (w : World) (h : zP.f k a0 a1 = some r) :
  Calls Try.prog 68 #[.int .u32 a0,.int .i64 a1] w fun e w' => e = .returned (.int .u32 r) ∧ zaq w w' := by
 have H : (zP.l0 k a0 a1 0) = some r := h
 clear h
 have H' := za.mk H
 clear H
 go_enter Try.func68,Try.ntmps68
 go_wp2
 go_loopg [0,5] k (fun kq v0 v5 w' => ∃ (x0_1 : Int) (x5_1 : Int),v0 = .int .u32 x0_1 ∧ v5 = .int .i64 x5_1 ∧ za (zP.l0 kq x0_1 a1 x5_1 = some r) ∧ za (kq ≤ k) ∧ zaq w w')
 case atStart => exact ⟨(a0),(0),(hDq),(hDq),H',⟨Nat.le_refl _⟩,hEq⟩
 case round =>
  clear H'
  try clear p2
  obtain ⟨x0_1,x5_1,rfl,rfl,HA,HK1,⟨m1,rfl⟩⟩ := hrel
  cases gk with
  | zero => exact absurd HA.out (by simp [zP.l0])
  | succ k1 =>
   have H := HA.out
   clear HA
   simp only [zP.l0] at H
   by_cases c3 : x5_1 < a1
   ·rw [if_pos c3] at H
    have c3b0 : decide (x5_1 < a1) = true := decide_eq_true c3
    clear c3
    have H' := za.mk H
    clear H
    go_wp2
    go_roundg k1
    case measure => have := HK1.out;omega
    case rel => exact ⟨((Int.tdiv x0_1 2) % 4294967296),(wrap64 (x5_1 + 1)),(hDq),(hDq),H',⟨by have := HK1.out;omega⟩,hEq⟩
   ·rw [if_neg c3] at H
    have c3b0 : decide (x5_1 < a1) = false := decide_eq_false c3
    clear c3
    obtain rfl := Option.some.inj H
    go_wp2
    go_ret
    exact ⟨hDq,hEq⟩
mutual
def zD.l0 : Nat → Int → Int → Int → Int → Option (Int)
 | 0,_,_,_,_ => none
 | k + 1,x0,x1,x5,x6 => if x6 < x1 then (zD.l0 k x0 x1 ((x5 * 2) % 4294967296) (wrap64 (x6 + 1))) else (if x5 = 0 then (none) else (zD.l1 k x0 x1 x5 (Int.tmod x0 x5) 0))
def zD.l1 : Nat → Int → Int → Int → Int → Int → Option (Int)
 | 0,_,_,_,_,_ => none
 | k + 1,x0,x1,x5,x7,x8 => if x8 < (wrap64 (32 - x1)) then (zD.l1 k x0 x1 x5 ((x7 * 2) % 4294967296) (wrap64 (x8 + 1))) else (if x5 = 0 then (none) else (some ((((Int.tdiv x0 x5) % 4294967296) + x7) % 4294967296)))
end
def zD.f (k : Nat) (a0 : Int) (a1 : Int) : Option (Int) := zD.l0 k a0 a1 1 0
set_option maxHeartbeats 8000000 in
set_option maxRecDepth 100000 in
theorem zD.calls (k : Nat) (a0 : Int) (a1 : Int) (r : Int) (w : World) (h : zD.f k a0 a1 = some r) :
  Calls Try.prog 67 #[.int .u32 a0,.int .i64 a1] w fun e w' => e = .returned (.int .u32 r) ∧ zaq w w' := by
 have H : (zD.l0 k a0 a1 1 0) = some r := h
 clear h
 have H' := za.mk H
 clear H
 go_enter Try.func67,Try.ntmps67
 go_wp2
 go_loopg [5,6] k (fun kq v5 v6 w' => ∃ (x5_1 : Int) (x6_1 : Int),v5 = .int .u32 x5_1 ∧ v6 = .int .i64 x6_1 ∧ za (zD.l0 kq a0 a1 x5_1 x6_1 = some r) ∧ za (kq ≤ k) ∧ zaq w w')
 case atStart => exact ⟨(1),(0),(hDq),(hDq),H',⟨Nat.le_refl _⟩,hEq⟩
 case round =>
  clear H'
  try clear p2
  obtain ⟨x5_1,x6_1,rfl,rfl,HA,HK1,⟨m1,rfl⟩⟩ := hrel
  cases gk with
  | zero => exact absurd HA.out (by simp [zD.l0])
  | succ k1 =>
   have H := HA.out
   clear HA
   simp only [zD.l0] at H
   by_cases c3 : x6_1 < a1
   ·rw [if_pos c3] at H
    have c3b0 : decide (x6_1 < a1) = true := decide_eq_true c3
    clear c3
    have H' := za.mk H
    clear H
    go_wp2
    go_roundg k1
    case measure => have := HK1.out;omega
    case rel => exact ⟨((x5_1 * 2) % 4294967296),(wrap64 (x6_1 + 1)),(hDq),(hDq),H',⟨by have := HK1.out;omega⟩,hEq⟩
   ·rw [if_neg c3] at H
    have c3b0 : decide (x6_1 < a1) = false := decide_eq_false c3
    clear c3
    by_cases c4 : x5_1 = 0
    ·rw [if_pos c4] at H
     exact absurd H (by simp)
    ·rw [if_neg c4] at H
     have c4b0 : (x5_1 == 0) = false := beq_eq_false_iff_ne.mpr c4
     have c4b1 : (x5_1 != 0) = true := bne_iff_ne.mpr c4
     have H' := za.mk H
     clear H
     go_wp2
     go_loopg [7,8] k1 (fun kq v7 v8 w' => ∃ (x7_2 : Int) (x8_2 : Int),v7 = .int .u32 x7_2 ∧ v8 = .int .i64 x8_2 ∧ za (zD.l1 kq a0 a1 x5_1 x7_2 x8_2 = some r) ∧ za (kq ≤ k1) ∧ zaq w w')
     case atStart => exact ⟨(Int.tmod a0 x5_1),(0),(hDq),(hDq),H',⟨Nat.le_refl _⟩,hEq⟩
     case round =>
      clear H'
      try clear p2;try clear c3;try clear c3b0;try clear c4;try clear c4b0;try clear c4b1;try clear p2
      obtain ⟨x7_2,x8_2,rfl,rfl,HA,HK2,⟨m2,rfl⟩⟩ := hrel
      cases gk with
      | zero => exact absurd HA.out (by simp [zD.l1])
      | succ k2 =>
       have H := HA.out
       clear HA
       simp only [zD.l1] at H
       by_cases c5 : x8_2 < (wrap64 (32 - a1))
       ·rw [if_pos c5] at H
        have c5b0 : decide (x8_2 < (wrap64 (32 - a1))) = true := decide_eq_true c5
        clear c5
        have H' := za.mk H
        clear H
        go_wp2
        go_roundg k2
        case measure => have := HK1.out;have := HK2.out;omega
        case rel => exact ⟨((x7_2 * 2) % 4294967296),(wrap64 (x8_2 + 1)),(hDq),(hDq),H',⟨by have := HK1.out;have := HK2.out;omega⟩,hEq⟩
       ·rw [if_neg c5] at H
        have c5b0 : decide (x8_2 < (wrap64 (32 - a1))) = false := decide_eq_false c5
        clear c5
        by_cases c6 : x5_1 = 0
        ·rw [if_pos c6] at H
         exact absurd H (by simp)
        ·rw [if_neg c6] at H
         have c6b0 : (x5_1 == 0) = false := beq_eq_false_iff_ne.mpr c6
         have c6b1 : (x5_1 != 0) = true := bne_iff_ne.mpr c6
         obtain rfl := Option.some.inj H
         go_wp2
         go_ret
         exact ⟨hDq,hEq⟩
theorem zg3 (n : Nat) (h1 : n ≤ 32) : (2 : Int) ^ n * 2 ^ (32 - n) = 4294967296 := by
 rw [← Int.pow_add,show n + (32 - n) = 32 by omega];rfl
theorem zbR (n : Nat) : (0 : Int) < 2 ^ n := Int.pow_pos (by decide)
theorem zix (n : Nat) (h1 : n ≤ 32) {x : Int} (hx : za2 x) : za2 (z6 n x) := by
 have hpq := zg3 n h1
 have hp := zbR n
 have hq := zbR (32 - n)
 have h2 := Int.emod_nonneg x (Int.ne_of_gt hp)
 have h3 := Int.emod_lt_of_pos x hp
 have h4 : 0 ≤ x / 2 ^ n := Int.ediv_nonneg hx.1 (Int.le_of_lt hp)
 have h5 : x / 2 ^ n < 2 ^ (32 - n) := Int.ediv_lt_of_lt_mul hp (by rw [Int.mul_comm,hpq];exact hx.2)
 unfold z6
 generalize (2 : Int) ^ n = p at *
 generalize (2 : Int) ^ (32 - n) = q at *
 generalize x % p = m at *
 generalize x / p = d at *
 have h6 : m * q ≤ (p - 1) * q := Int.mul_le_mul_of_nonneg_right (by omega) (by omega)
 rw [Int.sub_mul,hpq,Int.one_mul] at h6
 have h7 : 0 ≤ m * q := Int.mul_nonneg h2 (by omega)
 unfold za2;omega
theorem ziy (n : Nat) (h1 : n ≤ 32) {x : Int} (hx : za2 x) : Go.bits .or .u32 (IntKind.u32.wrap (x * 2 ^ (32 - n))) (x / 2 ^ n) = z6 n x := by
 have hpq := zg3 n h1
 have hp := zbR n
 have hq := zbR (32 - n)
 have h2 := Int.emod_nonneg x (Int.ne_of_gt hp)
 have h3 := Int.emod_lt_of_pos x hp
 have h4 : 0 ≤ x / 2 ^ n := Int.ediv_nonneg hx.1 (Int.le_of_lt hp)
 have h5 : x / 2 ^ n < 2 ^ (32 - n) := Int.ediv_lt_of_lt_mul hp (by rw [Int.mul_comm,hpq];exact hx.2)
 have h8 : x / 2 ^ n < 4294967296 := by
  have : x / 2 ^ n ≤ x := Int.ediv_le_self _ hx.1
  have := hx.2;omega
 have e : IntKind.u32.wrap (x * 2 ^ (32 - n)) = x % 2 ^ n * 2 ^ (32 - n) := by
  rw [IntKind.wrap_u32,← hpq,Int.mul_comm x,Int.mul_comm (2 ^ n),Int.mul_emod_mul_of_pos _ _ hq,Int.mul_comm]
 have h6 : x % 2 ^ n * 2 ^ (32 - n) ≤ (2 ^ n - 1) * 2 ^ (32 - n) := Int.mul_le_mul_of_nonneg_right (by omega) (by omega)
 rw [Int.sub_mul,hpq,Int.one_mul] at h6
 have h7 : 0 ≤ x % 2 ^ n * 2 ^ (32 - n) := Int.mul_nonneg h2 (by omega)
 rw [e,bits_join .u32 32 (by decide) (fun n h0 h1 => by rw [IntKind.wrap_u32];omega) (32 - n) _ _ h7 (Int.mul_emod_left _ _) (by omega) h4 h5 (by omega),z6,Int.add_comm]
theorem zgG (n : Nat) (h0 : 1 ≤ n) (h1 : n ≤ 31) {x : Int} (hx : za2 x) : zfj.f x (n : Int) = some (z6 n x) := by
 unfold zfj.f zbO.f
 have e1 : wrap64 (-(n : Int)) = -(n : Int) := z9 (by omega) (by omega)
 have e2 : IntKind.u64.wrap (-(n : Int)) = 18446744073709551616 - (n : Int) := by
  show (-(n : Int)) % 18446744073709551616 = _
  omega
 have e3 : Go.bits .and .u64 (18446744073709551616 - (n : Int)) 31 = ((32 - n : Nat) : Int) := by
  have := bits_mask .u64 64 (by decide) (fun n h0 h1 => zbb h0 (by omega)) 5 (by decide) (18446744073709551616 - (n : Int)) (by omega) (by omega)
  rw [show ((2 : Int) ^ 5 - 1) = 31 from rfl,show (2 : Int) ^ 5 = 32 from rfl] at this
  rw [this];omega
 have e4 : IntKind.u64.wrap (32 - ((32 - n : Nat) : Int)) = (n : Int) := by rw [zbb (by omega) (by omega)];omega
 rw [e1,e2,e3,e4,if_pos (by omega),if_pos (by omega)]
 simp only [Option.bind_some]
 congr 1
 unfold shl shr
 rw [Int.toNat_natCast,Int.toNat_natCast,Nat.min_eq_left (by show 32 - n ≤ 32;omega),Nat.min_eq_left (by show n ≤ 32;omega)]
 exact ziy n (by omega) hx
theorem zg9 (x n p low : Int) (hp : p ≠ 0) (m : Nat) (hm : wrap64 (32 - n) = m) (d : Nat) : ∀ j : Nat,j + d = m → m ≤ 32 → 0 ≤ low → low * 2 ^ m < 4294967296 → Ev (fun k => zD.l1 k x n p (low * 2 ^ j) (j : Int)) (((Int.tdiv x p % 4294967296) + low * 2 ^ m) % 4294967296) := by
 induction d with
 | zero =>
  intro j hj hm2 h0 h1
  obtain rfl : j = m := by omega
  refine Ev.step (fun k => by rw [zD.l1]) ?_
  rw [hm]
  exact zO (by omega) (zO hp (Ev.now _))
 | succ d ih =>
  intro j hj hm2 h0 h1
  refine Ev.step (fun k => by rw [zD.l1]) ?_
  rw [hm]
  refine zF (by omega) ?_
  have h2 : low * 2 ^ (j + 1) ≤ low * 2 ^ m := Int.mul_le_mul_of_nonneg_left (by exact_mod_cast Nat.pow_le_pow_right (by omega) (by omega)) h0
  have h3 : 0 ≤ low * 2 ^ (j + 1) := Int.mul_nonneg h0 (Int.le_of_lt (zbR _))
  have e1 : low * 2 ^ j * 2 % 4294967296 = low * 2 ^ (j + 1) := by
   rw [Int.mul_assoc,← Int.pow_succ]
   show low * 2 ^ (j + 1) % 4294967296 = low * 2 ^ (j + 1)
   omega
  rw [e1,z9 (by omega) (by omega)]
  exact ih (j + 1) (by omega) hm2 h0 h1
theorem zg8 (x : Int) (n : Nat) (hn : n ≤ 31) (r : Int) (hr : Ev (fun k => zD.l1 k x n (2 ^ n) (Int.tmod x (2 ^ n)) 0) r) (d : Nat) : ∀ j : Nat,j + d = n → Ev (fun k => zD.l0 k x (n : Int) (2 ^ j) (j : Int)) r := by
 induction d with
 | zero =>
  intro j hj
  obtain rfl : j = n := by omega
  refine Ev.step (fun k => by rw [zD.l0]) ?_
  exact zO (by omega) (zO (Int.ne_of_gt (zbR _)) hr)
 | succ d ih =>
  intro j hj
  refine Ev.step (fun k => by rw [zD.l0]) ?_
  refine zF (by omega) ?_
  have h2 : (2 : Int) ^ (j + 1) ≤ 2 ^ 31 := by exact_mod_cast Nat.pow_le_pow_right (by omega : 0 < 2) (by omega : j + 1 ≤ 31)
  have h3 : (2 : Int) ^ 31 = 2147483648 := rfl
  have h4 := zbR (j + 1)
  have e1 : (2 : Int) ^ j * 2 % 4294967296 = 2 ^ (j + 1) := by
   rw [← Int.pow_succ];omega
  rw [e1,z9 (by omega) (by omega)]
  exact ih (j + 1) (by omega)
theorem zg7 (n : Nat) (h0 : 1 ≤ n) (h1 : n ≤ 31) {x : Int} (hx : za2 x) : Ev (fun k => zD.f k x (n : Int)) (z6 n x) := by
 have hpq := zg3 n (by omega)
 have hp := zbR n
 have hq := zbR (32 - n)
 have h2 := Int.emod_nonneg x (Int.ne_of_gt hp)
 have h3 := Int.emod_lt_of_pos x hp
 have h6 : x % 2 ^ n * 2 ^ (32 - n) ≤ (2 ^ n - 1) * 2 ^ (32 - n) := Int.mul_le_mul_of_nonneg_right (by omega) (by omega)
 rw [Int.sub_mul,hpq,Int.one_mul] at h6
 have hl := zg9 x n (2 ^ n) (x % 2 ^ n) (Int.ne_of_gt hp) (32 - n) (by rw [z9 (by omega) (by omega)];omega) (32 - n) 0 (by omega) (by omega) h2 (by omega)
 rw [Int.pow_zero,Int.mul_one] at hl
 rw [← Int.tmod_eq_emod_of_nonneg hx.1] at hl
 have := zg8 x n h1 _ hl n 0 (by omega)
 rw [Int.pow_zero] at this
 refine zat this ?_
 have ok := zix n (by omega) hx
 rw [Int.tmod_eq_emod_of_nonneg hx.1,Int.tdiv_eq_ediv_of_nonneg hx.1]
 have h4 : 0 ≤ x / 2 ^ n := Int.ediv_nonneg hx.1 (Int.le_of_lt hp)
 have h8 : x / 2 ^ n < 4294967296 := by
  have : x / 2 ^ n ≤ x := Int.ediv_le_self _ hx.1
  have := hx.2;omega
 rw [Int.emod_eq_of_lt h4 h8]
 exact Int.emod_eq_of_lt ok.1 ok.2
theorem zg6 (n : Nat) (hn : n ≤ 31) (d : Nat) : ∀ (j : Nat) (x : Int),j + d = n → za2 x → Ev (fun k => zP.l0 k x (n : Int) (j : Int)) (x / 2 ^ d) := by
 induction d with
 | zero =>
  intro j x hj hx
  refine Ev.step (fun k => by rw [zP.l0]) ?_
  exact zO (by omega) (zat (Ev.now _) (by simp))
 | succ d ih =>
  intro j x hj hx
  refine Ev.step (fun k => by rw [zP.l0]) ?_
  refine zF (by omega) ?_
  obtain ⟨x0,x1⟩ := hx
  have e1 : Int.tdiv x 2 % 4294967296 = x / 2 := by rw [Int.tdiv_eq_ediv_of_nonneg x0];omega
  rw [e1,z9 (by omega) (by omega)]
  refine zat (ih (j + 1) (x / 2) (by omega) ⟨by omega,by omega⟩) ?_
  rw [Int.pow_succ,Int.mul_comm,← Int.ediv_ediv_of_nonneg (by decide)]
theorem zg5 (n : Nat) (hn : n ≤ 31) {x : Int} (hx : za2 x) : Ev (fun k => zP.f k x (n : Int)) (x / 2 ^ n) := zg6 n hn n 0 x (by omega) hx
end Go.Proofs.Ytcncoepijagadaa.Px