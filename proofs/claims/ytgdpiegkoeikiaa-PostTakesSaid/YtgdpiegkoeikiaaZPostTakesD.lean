/- Part 4 of 35 of the proof of the law PostTakes: what is proved is the statement at the end of the last part; its conditions are those of the given row. -/
import Derived.Test.YtgdpiegkoeikiaaProg
import Derived.WalkLawsBesides
import Derived.Test.YtgdpiegkoeikiaaZPostTakesC
namespace Go.Proofs.Ytgdpiegkoeikiaa.Px
open Go.RowKit Go.Proofs.YtgdpiegkoeikiaaW.PrintWords Go.Proofs.YtgdpiegkoeikiaaW.PrintLast Go.Proofs.YtgdpiegkoeikiaaW.PrintMore
attribute [local go_sem] zF zH zQ zR zy zz zG zI
set_option linter.unusedVariables false
set_option linter.unusedSimpArgs false
theorem hBq {B_ : Nat} {w_ w_' : World} (h_ : Below B_ w_ w_' := by repeat (first | (with_reducible first | exact HB.out | apply zA | apply zm | apply zJ) | exact HB.out)) : Below B_ w_ w_' := h_
theorem hCq {B_ : Nat} {w_ w_' : World} (h_ : Below B_ w_ w_' := by repeat (first | (with_reducible first | exact HB.out | apply zA | apply zm | apply zJ | refine zg ?_ (zc.out (by with_reducible assumption))) | exact HB.out)) : Below B_ w_ w_' := h_
def zih : Option Int → Value
 | none => .nilIface
 | some c => .iface 0 (.int .i64 c)
theorem za4 : zih none = .nilIface := rfl
theorem za5 (c : Int) : zih (some c) = .iface 0 (.int .i64 c) := rfl
theorem zii : (Try.prog.info? 3).map (fun i => (i.zero,i.size,i.bytes)) = some (some (.int .i64 0),1,8) := by kernel_rfl
theorem zij : (Try.prog.info? 5).map (fun i => (i.zero,i.size,i.bytes)) = some (some (.int .u8 0),1,1) := by kernel_rfl
theorem zik : (Try.prog.info? 9).map (fun i => (i.zero,i.size,i.bytes)) = some (some (.string ⟨#[]⟩),1,16) := by kernel_rfl
theorem zgK : (Try.prog.info? 107).map (fun i => (i.zero,i.size,i.bytes)) = some (some (.agg #[(.int .i64 0),(.int .i64 0),(.slice none 0 0)]),3,40) := by kernel_rfl
structure S101 where
 f0 : Int
 f1 : Int
structure zY where
 f0 : Int
 f1 : Int
 f2 : (List ByteArray)
def zin : zY := ⟨(0 : Int),(0 : Int),([] : List ByteArray)⟩
def zb1 : Kd zY := Kd.iso (Kd.pair (Kd.int .i64) (Kd.pair (Kd.int .i64) (Kd.slice 9 Kd.string))) (fun x : zY => (x.f0,x.f1,x.f2))
theorem zgV {w : World} {x : zY} {cs : List Value} (h : zb1.K w x cs) : ∃ A2 c2,cs = [.int .i64 x.f0,.int .i64 x.f1,.slice A2 x.f2.length c2] ∧ x.f2.length ≤ c2 ∧ Kd.string.C w A2 x.f2.length x.f2 := by
 obtain ⟨_,_,rfl,rfl,⟨_,_,rfl,rfl,⟨A2,c2,rfl,l2,g2⟩⟩⟩ := h
 exact ⟨A2,c2,rfl,l2,g2⟩
theorem zga (w : World) (base : Nat) (ok : Nat → Prop) (x : zY) {v2 : Value} (g2 : Kd.string.R 9 w base ok v2 x.f2) : zb1.M w base ok x [.int .i64 x.f0,.int .i64 x.f1,v2] := ⟨[.int .i64 x.f0],[.int .i64 x.f1,v2],rfl,rfl,⟨[.int .i64 x.f1],[v2],rfl,rfl,⟨v2,rfl,g2⟩⟩⟩
def zX (xs : List zY) (i : Int) : zY := xs.getD i.toNat zin
theorem zbS {w : World} {A : Option Addr} {n : Nat} {xs : List zY} (h : Kd.C zb1 w A n xs) (i : Int) (h0 : 0 ≤ i) (h1 : i < n) : ∃ ad A2 c2,A = some ad ∧ w.cell? (ad.add (i.toNat * 3)) = some (.int .i64 (zX xs i).f0) ∧ w.cell? ⟨(ad.add (i.toNat * 3)).block,(ad.add (i.toNat * 3)).off + 1,none⟩ = some (.int .i64 (zX xs i).f1) ∧ w.cell? ⟨(ad.add (i.toNat * 3)).block,(ad.add (i.toNat * 3)).off + 2,none⟩ = some (.slice A2 (zX xs i).f2.length c2) ∧ (zX xs i).f2.length ≤ c2 ∧ Kd.string.C w A2 (zX xs i).f2.length (zX xs i).f2 := by
 obtain ⟨ad,c,e,_,hK,hc0⟩ := Kd.C_get h zin i h0 h1
 have hc : ∀ j u,c[j]? = some u → w.cell? (ad.add (i.toNat * 3 + j)) = some u := hc0
 obtain ⟨A2,c2,rfl,l2,g2⟩ := zgV hK
 exact ⟨ad,A2,c2,e,hc 0 _ rfl,by rw [← zfr _ _ 1 (by omega)];exact hc 1 _ rfl,by rw [← zfr _ _ 2 (by omega)];exact hc 2 _ rfl,l2,g2⟩
structure S26 where
 f0 : Int
 f1 : Int
structure S28 where
 f0 : Int
 f1 : Int
 f2 : (List zY)
 f3 : (List ByteArray)
 f4 : S26
structure S36 where
 f0 : S28
 f1 : Int
structure S42 where
 f0 : Int
 f1 : Int
 f2 : Int
 f3 : ByteArray
structure S48 where
 f0 : Int
 f1 : Int
 f2 : ByteArray
structure S86 where
 f0 : Int
 f1 : ByteArray
theorem hGq {A_ B_ : Prop} (x_ : A_) (h_ : A_ → B_ := by intro x_;(with_reducible repeat (first | refine zd ?_ _ | refine zf ?_ | refine ze ?_ _));exact x_) : B_ := h_ x_
theorem hDq {B_ : Prop} (h_ : B_ := by first | rfl | (simp;done) | (simp [*];done)) : B_ := h_
theorem hEq {B_ : Prop} (h_ : B_ := by repeat (first | exact zax.refl _ | apply zax.step)) : B_ := h_
theorem hHq {B_ : Prop} (h_ : B_ := by first | rfl | (simp [za4,za5] <;> rfl) | (simp [*,za4,za5] <;> rfl)) : B_ := h_
theorem hFq {p_ : Prop} [Decidable p_] (h_ : decide p_ = true := by first | (with_reducible assumption) | assumption) : p_ := of_decide_eq_true h_
def za6.f (a0 : Int) : Option (Bool) := if a0 ≥ 1 then (some (decide (a0 ≤ 64))) else (some false)
set_option maxHeartbeats 8000000 in
set_option maxRecDepth 100000 in
theorem za6.calls (a0 : Int) (r : Bool) (w : World) (h : za6.f a0 = some r) :
  Calls Try.prog 36 #[.int .i64 a0] w fun e w' => e = .returned (.bool r) ∧ zax w w' := by
 have H : (if a0 ≥ 1 then (some (decide (a0 ≤ 64))) else (some false)) = some r := h
 clear h
 by_cases c2 : a0 ≥ 1
 ·rw [if_pos c2] at H
  have c2b0 : decide (1 ≤ a0) = true := decide_eq_true c2
  clear c2
  obtain rfl := Option.some.inj H
  go_enter Try.func36,Try.ntmps36
  go_wp2
  go_ret
  exact ⟨hDq,hEq⟩
 ·rw [if_neg c2] at H
  have c2b0 : decide (1 ≤ a0) = false := decide_eq_false c2
  clear c2
  obtain rfl := Option.some.inj H
  go_enter Try.func36,Try.ntmps36
  go_wp2
  go_ret
  exact ⟨hDq,hEq⟩
def zbL.f (a0 : Int) (a1 : Int) (a2 : ByteArray) : Option (Bool) := (za6.f a0).bind fun t101 => (if t101 = true then (if a1 ≥ 1 then (if a1 ≤ 1048576 then (some ((a2.size : Int) == 32)) else (some false)) else (some false)) else (some false))
set_option maxHeartbeats 8000000 in
set_option maxRecDepth 100000 in
theorem zbL.calls (a0 : Int) (a1 : Int) (a2 : ByteArray) (r : Bool) (w : World) (h : zbL.f a0 a1 a2 = some r) :
  Calls Try.prog 35 #[.int .i64 a0,.int .i64 a1,.string a2] w fun e w' => e = .returned (.bool r) ∧ zax w w' := by
 have H : ((za6.f a0).bind fun t101 => (if t101 = true then (if a1 ≥ 1 then (if a1 ≤ 1048576 then (some ((a2.size : Int) == 32)) else (some false)) else (some false)) else (some false))) = some r := h
 clear h
 replace H := Option.bind_eq_some_iff.mp H
 obtain ⟨t101,A40,H⟩ := H
 replace H : (if t101 = true then (if a1 ≥ 1 then (if a1 ≤ 1048576 then (some ((a2.size : Int) == 32)) else (some false)) else (some false)) else (some false)) = some r := H
 have A4 := zc.mk A40
 clear A40
 by_cases c5 : t101 = true
 ·subst c5
  have H1 : (if a1 ≥ 1 then (if a1 ≤ 1048576 then (some ((a2.size : Int) == 32)) else (some false)) else (some false)) = some r := by rw [if_pos rfl] at H;exact H
  clear H
  have H := H1
  clear H1
  by_cases c6 : a1 ≥ 1
  ·rw [if_pos c6] at H
   have c6b0 : decide (1 ≤ a1) = true := decide_eq_true c6
   clear c6
   by_cases c7 : a1 ≤ 1048576
   ·rw [if_pos c7] at H
    have c7b0 : decide (a1 ≤ 1048576) = true := decide_eq_true c7
    clear c7
    obtain rfl := Option.some.inj H
    go_enter Try.func35,Try.ntmps35
    go_wp2_with (first | ((with_reducible refine zt (f := 36) rfl ?_);refine zU (some 8) rfl rfl Try.func36 (by kernel_rfl) rfl #[.int .i64 a0] rfl (by (try simp only [List.map_toArray,List.map_cons,List.map_nil]);first | done | rfl | (simp only [List.length_drop,List.length_take];rfl)) ?_;(with_reducible refine (za6.calls a0 true _ A4.out).mono ?_);rintro e w' ⟨rfl,⟨nd,rfl⟩⟩;refine ⟨_,rfl,?_⟩))
    go_ret
    exact ⟨hDq,hEq⟩
   ·rw [if_neg c7] at H
    have c7b0 : decide (a1 ≤ 1048576) = false := decide_eq_false c7
    clear c7
    obtain rfl := Option.some.inj H
    go_enter Try.func35,Try.ntmps35
    go_wp2_with (first | ((with_reducible refine zt (f := 36) rfl ?_);refine zU (some 8) rfl rfl Try.func36 (by kernel_rfl) rfl #[.int .i64 a0] rfl (by (try simp only [List.map_toArray,List.map_cons,List.map_nil]);first | done | rfl | (simp only [List.length_drop,List.length_take];rfl)) ?_;(with_reducible refine (za6.calls a0 true _ A4.out).mono ?_);rintro e w' ⟨rfl,⟨nd,rfl⟩⟩;refine ⟨_,rfl,?_⟩))
    go_ret
    exact ⟨hDq,hEq⟩
  ·rw [if_neg c6] at H
   have c6b0 : decide (1 ≤ a1) = false := decide_eq_false c6
   clear c6
   obtain rfl := Option.some.inj H
   go_enter Try.func35,Try.ntmps35
   go_wp2_with (first | ((with_reducible refine zt (f := 36) rfl ?_);refine zU (some 8) rfl rfl Try.func36 (by kernel_rfl) rfl #[.int .i64 a0] rfl (by (try simp only [List.map_toArray,List.map_cons,List.map_nil]);first | done | rfl | (simp only [List.length_drop,List.length_take];rfl)) ?_;(with_reducible refine (za6.calls a0 true _ A4.out).mono ?_);rintro e w' ⟨rfl,⟨nd,rfl⟩⟩;refine ⟨_,rfl,?_⟩))
   go_ret
   exact ⟨hDq,hEq⟩
 ·replace c5 := Bool.eq_false_iff.mpr c5
  subst c5
  have H1 : (some false) = some r := by rw [if_neg (show ¬ (false = true) by decide)] at H;exact H
  clear H
  have H := H1
  clear H1
  obtain rfl := Option.some.inj H
  go_enter Try.func35,Try.ntmps35
  go_wp2_with (first | ((with_reducible refine zt (f := 36) rfl ?_);refine zU (some 8) rfl rfl Try.func36 (by kernel_rfl) rfl #[.int .i64 a0] rfl (by (try simp only [List.map_toArray,List.map_cons,List.map_nil]);first | done | rfl | (simp only [List.length_drop,List.length_take];rfl)) ?_;(with_reducible refine (za6.calls a0 false _ A4.out).mono ?_);rintro e w' ⟨rfl,⟨nd,rfl⟩⟩;refine ⟨_,rfl,?_⟩))
  go_ret
  exact ⟨hDq,hEq⟩
def zaI.f (a0 : ByteArray) (a1 : ByteArray) : Option (Bool) := if (a0.size : Int) ≥ (a1.size : Int) then (if 0 ≤ (a1.size : Int) then (if (a1.size : Int) ≤ (a0.size : Int) then (some ((a0.extract 0 ((a1.size : Int) : Int).toNat).toList == a1.toList)) else (none)) else (none)) else (some false)
set_option maxHeartbeats 8000000 in
set_option maxRecDepth 100000 in
theorem zaI.calls (a0 : ByteArray) (a1 : ByteArray) (r : Bool) (w : World) (h : zaI.f a0 a1 = some r) :
  Calls Try.prog 114 #[.string a0,.string a1] w fun e w' => e = .returned (.bool r) ∧ zax w w' := by
 have H : (if (a0.size : Int) ≥ (a1.size : Int) then (if 0 ≤ (a1.size : Int) then (if (a1.size : Int) ≤ (a0.size : Int) then (some ((a0.extract 0 ((a1.size : Int) : Int).toNat).toList == a1.toList)) else (none)) else (none)) else (some false)) = some r := h
 clear h
 by_cases c3 : (a0.size : Int) ≥ (a1.size : Int)
 ·rw [if_pos c3] at H
  have c3b0 : decide ((a1.size : Int) ≤ (a0.size : Int)) = true := decide_eq_true c3
  have c3b1 : decide (a1.size ≤ a0.size) = true := decide_eq_true (Int.ofNat_le.mp c3)
  clear c3
  by_cases c4 : 0 ≤ (a1.size : Int)
  ·rw [if_pos c4] at H
   have c4b0 := eq_true c4
   have c4b1 : decide (0 ≤ (a1.size : Int)) = true := decide_eq_true c4
   clear c4
   by_cases c5 : (a1.size : Int) ≤ (a0.size : Int)
   ·rw [if_pos c5] at H
    have c5b0 := eq_true c5
    have c5b1 : decide ((a1.size : Int) ≤ (a0.size : Int)) = true := decide_eq_true c5
    clear c5
    obtain rfl := Option.some.inj H
    go_enter Try.func114,Try.ntmps114
    go_wp2
    go_ret
    exact ⟨hDq,hEq⟩
   ·rw [if_neg c5] at H
    exact absurd H (by simp)
  ·rw [if_neg c4] at H
   exact absurd H (by simp)
 ·rw [if_neg c3] at H
  have c3b0 : decide ((a1.size : Int) ≤ (a0.size : Int)) = false := decide_eq_false c3
  have c3b1 : decide (a1.size ≤ a0.size) = false := decide_eq_false (fun h => c3 (Int.ofNat_le.mpr h))
  clear c3
  obtain rfl := Option.some.inj H
  go_enter Try.func114,Try.ntmps114
  go_wp2
  go_ret
  exact ⟨hDq,hEq⟩
def zaR.f (a0 : ByteArray) (a1 : ByteArray) : Option (ByteArray × Bool) := (zaI.f a0 a1).bind fun t115 => (if t115 = true then (if 0 ≤ (a1.size : Int) then (if (a1.size : Int) ≤ (a0.size : Int) then (some (a0.extract ((a1.size : Int) : Int).toNat a0.size,true)) else (none)) else (none)) else (some (a0,false)))
set_option maxHeartbeats 8000000 in
set_option maxRecDepth 100000 in
theorem zaR.calls (a0 : ByteArray) (a1 : ByteArray) (r1 : ByteArray) (r2 : Bool) (w : World) (h : zaR.f a0 a1 = some (r1,r2)) :
  Calls Try.prog 84 #[.string a0,.string a1] w fun e w' => e = .returned (.tuple #[.string r1,.bool r2]) ∧ zax w w' := by
 have H : ((zaI.f a0 a1).bind fun t115 => (if t115 = true then (if 0 ≤ (a1.size : Int) then (if (a1.size : Int) ≤ (a0.size : Int) then (some (a0.extract ((a1.size : Int) : Int).toNat a0.size,true)) else (none)) else (none)) else (some (a0,false)))) = some (r1,r2) := h
 clear h
 replace H := Option.bind_eq_some_iff.mp H
 obtain ⟨t115,A30,H⟩ := H
 replace H : (if t115 = true then (if 0 ≤ (a1.size : Int) then (if (a1.size : Int) ≤ (a0.size : Int) then (some (a0.extract ((a1.size : Int) : Int).toNat a0.size,true)) else (none)) else (none)) else (some (a0,false))) = some (r1,r2) := H
 have A3 := zc.mk A30
 clear A30
 by_cases c4 : t115 = true
 ·subst c4
  have H1 : (if 0 ≤ (a1.size : Int) then (if (a1.size : Int) ≤ (a0.size : Int) then (some (a0.extract ((a1.size : Int) : Int).toNat a0.size,true)) else (none)) else (none)) = some (r1,r2) := by rw [if_pos rfl] at H;exact H
  clear H
  have H := H1
  clear H1
  by_cases c5 : 0 ≤ (a1.size : Int)
  ·rw [if_pos c5] at H
   have c5b0 := eq_true c5
   have c5b1 : decide (0 ≤ (a1.size : Int)) = true := decide_eq_true c5
   clear c5
   by_cases c6 : (a1.size : Int) ≤ (a0.size : Int)
   ·rw [if_pos c6] at H
    have c6b0 := eq_true c6
    have c6b1 : decide ((a1.size : Int) ≤ (a0.size : Int)) = true := decide_eq_true c6
    clear c6
    simp only [Option.some.injEq,Prod.mk.injEq] at H
    obtain ⟨rfl,rfl⟩ := H
    go_enter Try.func84,Try.ntmps84
    go_wp2_with (first | ((with_reducible refine zt (f := 114) rfl ?_);refine zU (some 8) rfl rfl Try.func114 (by kernel_rfl) rfl #[.string a0,.string a1] rfl (by (try simp only [List.map_toArray,List.map_cons,List.map_nil]);first | done | rfl | (simp only [List.length_drop,List.length_take];rfl)) ?_;(with_reducible refine (zaI.calls a0 a1 true _ A3.out).mono ?_);rintro e w' ⟨rfl,⟨nd,rfl⟩⟩;refine ⟨_,rfl,?_⟩))
    go_ret2
    exact ⟨hDq,hEq⟩
   ·rw [if_neg c6] at H
    exact absurd H (by simp)
  ·rw [if_neg c5] at H
   exact absurd H (by simp)
 ·replace c4 := Bool.eq_false_iff.mpr c4
  subst c4
  have H1 : (some (a0,false)) = some (r1,r2) := by rw [if_neg (show ¬ (false = true) by decide)] at H;exact H
  clear H
  have H := H1
  clear H1
  simp only [Option.some.injEq,Prod.mk.injEq] at H
  obtain ⟨rfl,rfl⟩ := H
  go_enter Try.func84,Try.ntmps84
  go_wp2_with (first | ((with_reducible refine zt (f := 114) rfl ?_);refine zU (some 8) rfl rfl Try.func114 (by kernel_rfl) rfl #[.string a0,.string a1] rfl (by (try simp only [List.map_toArray,List.map_cons,List.map_nil]);first | done | rfl | (simp only [List.length_drop,List.length_take];rfl)) ?_;(with_reducible refine (zaI.calls a0 a1 false _ A3.out).mono ?_);rintro e w' ⟨rfl,⟨nd,rfl⟩⟩;refine ⟨_,rfl,?_⟩))
  go_ret2
  exact ⟨hDq,hEq⟩
def zN.f (a0 : ByteArray) (a1 : ByteArray) : Option (ByteArray × Bool) := (zaR.f a0 a1).bind fun bt116 => (some (bt116.1,bt116.2))
set_option maxHeartbeats 8000000 in
set_option maxRecDepth 100000 in
theorem zN.calls (a0 : ByteArray) (a1 : ByteArray) (r1 : ByteArray) (r2 : Bool) (w : World) (h : zN.f a0 a1 = some (r1,r2)) :
  Calls Try.prog 55 #[.string a0,.string a1] w fun e w' => e = .returned (.tuple #[.string r1,.bool r2]) ∧ zax w w' := by
 have H : ((zaR.f a0 a1).bind fun bt116 => (some (bt116.1,bt116.2))) = some (r1,r2) := h
 clear h
 replace H := Option.bind_eq_some_iff.mp H
 obtain ⟨⟨t116,t117⟩,A30,H⟩ := H
 replace H : (some (t116,t117)) = some (r1,r2) := H
 have A3 := zc.mk A30
 clear A30
 simp only [Option.some.injEq,Prod.mk.injEq] at H
 obtain ⟨rfl,rfl⟩ := H
 go_enter Try.func55,Try.ntmps55
 go_wp2_with (first | ((with_reducible refine zt (f := 84) rfl ?_);refine zU (some 8) rfl rfl Try.func84 (by kernel_rfl) rfl #[.string a0,.string a1] rfl (by (try simp only [List.map_toArray,List.map_cons,List.map_nil]);first | done | rfl | (simp only [List.length_drop,List.length_take];rfl)) ?_;(with_reducible refine (zaR.calls a0 a1 t116 t117 _ A3.out).mono ?_);rintro e w' ⟨rfl,⟨nd,rfl⟩⟩;refine ⟨_,rfl,?_⟩))
 go_ret2
 exact ⟨hDq,hEq⟩
abbrev Bs := List UInt8
def toB (l : Bs) : ByteArray := ⟨l.toArray⟩
def ofB (s : ByteArray) : Bs := s.data.toList
theorem zae (l : Bs) : ofB (toB l) = l := by simp [ofB,toB]
theorem zcl (s : ByteArray) : toB (ofB s) = s := by simp [ofB,toB]
theorem zdp {a b : ByteArray} (h : ofB a = ofB b) : a = b := by rw [← zcl a,← zcl b,h]
theorem zah (s : ByteArray) : (ofB s).length = s.size := by rw [ofB,Array.length_toList];rfl
theorem zV (l : Bs) : (toB l).size = l.length := by rw [← zah,zae]
theorem zeQ (a b : ByteArray) : ofB (a ++ b) = ofB a ++ ofB b := by simp [ofB]
theorem zaT (s : ByteArray) : s.toList = ofB s := ByteArray.toList_eq s
theorem zcp (s : ByteArray) (i j : Nat) : ofB (s.extract i j) = ((ofB s).drop i).take (j - i) := by
 simp only [ofB,ByteArray.data_extract,Array.toList_extract,List.extract]
theorem zdZ (s : ByteArray) (i : Nat) : bt s (i : Int) = (((ofB s).getD i 0).toNat : Int) := by
 unfold bt ofB
 split
 ·rename_i h
  have h' : i < s.data.toList.length := by rw [zed];simpa using h
  simp [List.getD_eq_getElem?_getD,List.getElem?_eq_getElem h']
  rfl
 ·rename_i h
  have h' : s.data.toList.length ≤ i := by rw [zed];simp at h;omega
  simp [List.getD_eq_getElem?_getD,List.getElem?_eq_none h']
theorem zdw (xs : List Int) : strOfNums xs = toB (xs.map fun n => UInt8.ofNat n.toNat) := rfl
def be (v : Nat) : Bs := if v = 0 then [] else be (v / 256) ++ [UInt8.ofNat (v % 256)]
termination_by v
decreasing_by omega
theorem zch : be 0 = [] := by rw [be];simp
theorem zc2 {v : Nat} (h : 0 < v) : be v = be (v / 256) ++ [UInt8.ofNat (v % 256)] := by rw [be,if_neg (by omega)]
def val (l : Bs) : Nat := l.foldl (fun a c => a * 256 + c.toNat) 0
theorem zdn (l : Bs) (c : UInt8) : val (l ++ [c]) = val l * 256 + c.toNat := by simp [val]
theorem zh5 (v : Nat) : val (be v) = v := by
 induction v using Nat.strongRecOn with
 | _ v ih =>
  rcases Nat.eq_zero_or_pos v with h | h
  ·subst h;rw [zch];rfl
  ·rw [zc2 h,zdn,ih _ (by omega)]
   have : (UInt8.ofNat (v % 256)).toNat = v % 256 := by simp
   omega
theorem zgR (n : Nat) : ∀ v : Nat,(be v).length ≤ n ↔ v < 256 ^ n := by
 induction n with
 | zero =>
  intro v
  rcases Nat.eq_zero_or_pos v with h | h
  ·subst h;simp [zch]
  ·rw [zc2 h];simp;omega
 | succ n ih =>
  intro v
  rcases Nat.eq_zero_or_pos v with h | h
  ·subst h;simp [zch,Nat.pow_pos]
  ·rw [zc2 h,List.length_append,List.length_singleton,Nat.succ_le_succ_iff,ih,Nat.pow_succ,Nat.mul_comm,Nat.div_lt_iff_lt_mul (by omega),Nat.mul_comm]
theorem zgG {v : Nat} (h : v < 18446744073709551616) : (be v).length ≤ 8 := by
 have : (256 : Nat) ^ 8 = 18446744073709551616 := by decide
 exact (zgR 8 v).2 (by rw [this];exact h)
theorem zhB (v : Nat) (h : 0 < v) : ∃ c t,be v = c :: t ∧ c ≠ 0 := by
 induction v using Nat.strongRecOn with
 | _ v ih =>
  rw [zc2 h]
  rcases Nat.eq_zero_or_pos (v / 256) with h0 | h0
  ·rw [h0,zch]
   refine ⟨_,_,rfl,?_⟩
   have e : v % 256 = v := Nat.mod_eq_of_lt (by omega)
   intro hz
   have := congrArg UInt8.toNat hz
   simp at this
   omega
  ·obtain ⟨c,t,e,hc⟩ := ih (v / 256) (by omega) h0
   exact ⟨c,t ++ [_],by rw [e];rfl,hc⟩
theorem zhv (l : Bs) : val l < 256 ^ l.length := by
 suffices h : ∀ (r : Bs),val r.reverse < 256 ^ r.length by
  have := h l.reverse;rwa [List.reverse_reverse,List.length_reverse] at this
 intro r
 induction r with
 | nil => simp [val]
 | cons c r ih =>
  rw [List.reverse_cons,zdn,List.length_cons,Nat.pow_succ]
  have := c.toNat_lt
  omega
theorem zhX (l : Bs) (h : ∀ c t,l = c :: t → c ≠ 0) : be (val l) = l := by
 suffices k : ∀ (n : Nat) (l : Bs),l.length = n → (∀ c t,l = c :: t → c ≠ 0) → be (val l) = l ∧ (l ≠ [] → 0 < val l) from (k _ l rfl h).1
 intro n
 induction n with
 | zero => intro l hl _;obtain rfl := List.eq_nil_of_length_eq_zero hl;exact ⟨zch,fun h => absurd rfl h⟩
 | succ n ih =>
  intro l hl hh
  obtain ⟨r,x,rfl⟩ : ∃ r x,l = r ++ [x] := ⟨l.dropLast,l.getLast (by intro e;subst e;simp at hl),(List.dropLast_concat_getLast _).symm⟩
  have hr : r.length = n := by simpa using hl
  have hrh : ∀ c t,r = c :: t → c ≠ 0 := fun c t e => hh c (t ++ [x]) (by rw [e];rfl)
  obtain ⟨h1,h2⟩ := ih r hr hrh
  have hx := x.toNat_lt
  have hp : 0 < val (r ++ [x]) := by
   rw [zdn]
   rcases r with _ | ⟨c,t⟩
   ·have := hh x [] rfl
    have h0 : x.toNat ≠ 0 := fun e => this (UInt8.toNat_inj.1 (by simpa using e))
    simp [val];omega
   ·have := h2 (by simp);omega
  refine ⟨?_,fun _ => hp⟩
  rw [zc2 hp,zdn]
  have e1 : (val r * 256 + x.toNat) / 256 = val r := by omega
  have e2 : (val r * 256 + x.toNat) % 256 = x.toNat := by omega
  rw [e1,e2,h1];simp
def zbb (v : Nat) : Bs := UInt8.ofNat (be v).length :: be v
def zep (v : Nat) : ByteArray := toB (zbb v)
def zv : Bs → Nat × Bs × Int
 | [] => (0,[],2)
 | c :: t => if 8 < c.toNat then (0,[],3) else if t.length < c.toNat then (0,[],2) else if 0 < c.toNat ∧ t.getD 0 0 = 0 then (0,[],3) else (val (t.take c.toNat),t.drop c.toNat,0)
theorem zbt {v : Nat} (hv : v < 18446744073709551616) (r : Bs) : zv (zbb v ++ r) = (v,r,0) := by
 have hl := zgG hv
 have hc : (UInt8.ofNat (be v).length).toNat = (be v).length := by simp;omega
 rw [show zbb v ++ r = UInt8.ofNat (be v).length :: (be v ++ r) from rfl,zv]
 rw [hc,if_neg (by omega),if_neg (by rw [List.length_append];omega),if_neg ?_]
 ·rw [List.take_left,List.drop_left,zh5]
 ·rintro ⟨h1,h2⟩
  have hv0 : 0 < v := by
   rcases Nat.eq_zero_or_pos v with h | h
   ·subst h;simp [zch] at h1
   ·exact h
  obtain ⟨c,t,e,hc⟩ := zhB v hv0
  rw [e] at h2
  exact hc h2
theorem zbf {s r : Bs} {v : Nat} (h : zv s = (v,r,0)) : s = zbb v ++ r ∧ v < 18446744073709551616 := by
 match s,h with
 | [],h => simp [zv] at h
 | c :: t,h =>
  simp only [zv] at h
  split at h
  ·simp at h
  ·rename_i h8
   split at h
   ·simp at h
   ·rename_i hlen
    split at h
    ·simp at h
    ·rename_i hz
     simp only [Prod.mk.injEq,and_true] at h
     obtain ⟨rfl,rfl⟩ := h
     have hb : be (val (t.take c.toNat)) = t.take c.toNat := zhX _ (by
      intro x y e hx
      apply hz
      rcases Nat.eq_zero_or_pos c.toNat with h0 | h0
      ·rw [h0] at e;simp at e
      ·refine ⟨h0,?_⟩
       rcases t with _ | ⟨z,t⟩
       ·simp at e
       ·obtain ⟨m,hm⟩ : ∃ m,c.toNat = m + 1 := ⟨c.toNat - 1,by omega⟩
        rw [hm,List.take_succ_cons] at e
        injection e with e1 _
        simp [e1,hx])
     have hn : (be (val (t.take c.toNat))).length = c.toNat := by rw [hb,List.length_take];omega
     refine ⟨?_,?_⟩
     ·rw [zbb,hn,hb,List.cons_append,List.take_append_drop];simp
     ·have := zhv (t.take c.toNat)
      rw [List.length_take,Nat.min_eq_left (by omega)] at this
      have h2 : 256 ^ c.toNat ≤ 256 ^ 8 := Nat.pow_le_pow_right (by omega) (by omega)
      have : (256 : Nat) ^ 8 = 18446744073709551616 := by decide
      omega
theorem zfU {s r : Bs} {v : Nat} {e : Int} (h : zv s = (v,r,e)) : e = 0 ∨ (v = 0 ∧ r = [] ∧ (e = 2 ∨ e = 3)) := by
 match s,h with
 | [],h => simp [zv] at h;obtain ⟨rfl,rfl,rfl⟩ := h;simp
 | c :: t,h =>
  simp only [zv] at h
  (repeat' split at h) <;> (simp only [Prod.mk.injEq] at h;obtain ⟨rfl,rfl,rfl⟩ := h;simp)
def zdy (t : Bs) : Bs := zbb t.length ++ t
theorem zco {v : Nat} (h : v < 18446744073709551616) : (zbb v).length ≤ 9 := by
 have := zgG h
 simp only [zbb,List.length_cons];omega
theorem zd1 {v : Nat} (h : v < 18446744073709551616) : (zep v).size ≤ 9 := by rw [zep,zV];exact zco h
theorem zeP (v : Nat) (L : List Int) (h : L.map (fun n => UInt8.ofNat n.toNat) = be v) : strOfNums ((L.length : Int) :: L) = zep v := by
 rw [zdw,List.map_cons,h,zep,zbb]
 have : L.length = (be v).length := by rw [← h,List.length_map]
 rw [this,Int.toNat_natCast]
def zas (s : Bs) : Option (Nat × Bs) := if (zv s).2.2 = 0 ∧ (zv s).1 ≤ 1048576 then some ((zv s).1,(zv s).2.1) else none
theorem zd7 {s r : Bs} {v : Nat} (h : zas s = some (v,r)) : s = zbb v ++ r ∧ v ≤ 1048576 := by
 unfold zas at h
 split at h
 ·rename_i h0
  have hi := Option.some.inj h
  obtain ⟨h1,h2⟩ := zbf (s := s) (v := (zv s).1) (r := (zv s).2.1) (by rw [← h0.1])
  rw [show (zv s).1 = v from congrArg Prod.fst hi] at h1 h0
  rw [show (zv s).2.1 = r from congrArg Prod.snd hi] at h1
  exact ⟨h1,h0.2⟩
 ·cases h
theorem zbs {s r : Bs} {v : Nat} (h : zas s = some (v,r)) : r.length ≤ s.length := by
 rw [(zd7 h).1,List.length_append];omega
theorem ze8 {v : Nat} (hv : v ≤ 1048576) (r : Bs) : zas (zbb v ++ r) = some (v,r) := by
 rw [zas,zbt (by omega),if_pos ⟨rfl,hv⟩]
def zbK (a r : Int) (d : ByteArray) : Bool := decide (1 ≤ a) && decide (a ≤ 64) && decide (1 ≤ r) && decide (r ≤ 1048576) && decide (d.size = 32)
def zcZ (a : Int) : Bool := decide (1 ≤ a) && decide (a ≤ 64)
theorem zcD (a : Int) : za6.f a = some (zcZ a) := by
 unfold za6.f zcZ
 by_cases h : a ≥ 1
 ·rw [if_pos h];have : 1 ≤ a := h;simp [this]
 ·rw [if_neg h];have : ¬ 1 ≤ a := h;simp [this]
theorem zb8 (a r : Int) (d : ByteArray) : zbL.f a r d = some (zbK a r d) := by
 unfold zbL.f zbK
 rw [zcD]
 simp only [Option.bind_some,zcZ]
 by_cases h1 : 1 ≤ a <;> by_cases h2 : a ≤ 64 <;> by_cases h3 : 1 ≤ r <;> by_cases h4 : r ≤ 1048576 <;> simp [h1,h2,h3,h4]
 by_cases h5 : d.size = 32
 ·simp [h5]
 ·have : ¬ (d.size : Int) = 32 := by omega
  rw [decide_eq_false h5];exact beq_eq_false_iff_ne.2 this
mutual
def zC.j0 : Nat → ByteArray → Int → Option (Int × ByteArray × Int)
 | 0,_,_ => none
 | k + 1,x0,x5 => zC.l0 k x0 x5 0 1
def zC.l0 : Nat → ByteArray → Int → Int → Int → Option (Int × ByteArray × Int)
 | 0,_,_,_,_ => none
 | k + 1,x0,x5,x6,x7 => if x7 ≤ x5 then (if 0 ≤ x7 then (if x7 < (x0.size : Int) then (zC.l0 k x0 x5 (Go.bits .or .u64 (IntKind.u64.wrap (x6 * 256)) (IntKind.u64.wrap (bt x0 x7))) (wrap64 (x7 + 1))) else (none)) else (none)) else (if 0 ≤ (wrap64 (x5 + 1)) then (if (wrap64 (x5 + 1)) ≤ (x0.size : Int) then (some (x6,x0.extract ((wrap64 (x5 + 1)) : Int).toNat x0.size,0)) else (none)) else (none))
end
def zC.f (k : Nat) (a0 : ByteArray) : Option (Int × ByteArray × Int) := if a0.toList = ([] : List UInt8) then (some (0,(⟨#[]⟩ : ByteArray),2)) else (if 0 < (a0.size : Int) then (if (wrap64 (bt a0 0)) > 8 then (some (0,(⟨#[]⟩ : ByteArray),3)) else (if (a0.size : Int) ≤ (wrap64 (bt a0 0)) then (some (0,(⟨#[]⟩ : ByteArray),2)) else (if (wrap64 (bt a0 0)) > 0 then (if 1 < (a0.size : Int) then (if (bt a0 1) = 0 then (some (0,(⟨#[]⟩ : ByteArray),3)) else (zC.j0 k a0 (wrap64 (bt a0 0)))) else (none)) else (zC.j0 k a0 (wrap64 (bt a0 0)))))) else (none))
set_option maxHeartbeats 8000000 in
set_option maxRecDepth 100000 in
theorem zC.calls (k : Nat) (a0 : ByteArray) (r1 : Int) (r2 : ByteArray) (r3 : Int) (w : World) (h : zC.f k a0 = some (r1,r2,r3)) :
  Calls Try.prog 53 #[.string a0] w fun e w' => e = .returned (.tuple #[.int .u64 r1,.string r2,.int .i64 r3]) ∧ zax w w' := by
 have H : (if a0.toList = ([] : List UInt8) then (some (0,(⟨#[]⟩ : ByteArray),2)) else (if 0 < (a0.size : Int) then (if (wrap64 (bt a0 0)) > 8 then (some (0,(⟨#[]⟩ : ByteArray),3)) else (if (a0.size : Int) ≤ (wrap64 (bt a0 0)) then (some (0,(⟨#[]⟩ : ByteArray),2)) else (if (wrap64 (bt a0 0)) > 0 then (if 1 < (a0.size : Int) then (if (bt a0 1) = 0 then (some (0,(⟨#[]⟩ : ByteArray),3)) else (zC.j0 k a0 (wrap64 (bt a0 0)))) else (none)) else (zC.j0 k a0 (wrap64 (bt a0 0)))))) else (none))) = some (r1,r2,r3) := h
 clear h
 by_cases c2 : a0.toList = ([] : List UInt8)
 ·rw [if_pos c2] at H
  have c2b0 : (a0.toList == ([] : List UInt8)) = true := beq_iff_eq.mpr c2
  have c2b1 : (a0.toList != ([] : List UInt8)) = false := bne_eq_false_iff_eq.mpr c2
  clear c2
  simp only [Option.some.injEq,Prod.mk.injEq] at H
  obtain ⟨rfl,rfl,rfl⟩ := H
  go_enter Try.func53,Try.ntmps53
  go_wp2
  repeat (go_quiet (fail);try go_wp2)
  go_ret3
  exact ⟨hDq,hEq⟩
 ·rw [if_neg c2] at H
  have c2b0 : (a0.toList == ([] : List UInt8)) = false := beq_eq_false_iff_ne.mpr c2
  have c2b1 : (a0.toList != ([] : List UInt8)) = true := bne_iff_ne.mpr c2
  by_cases c3 : 0 < (a0.size : Int)
  ·rw [if_pos c3] at H
   have c3b0 : decide (0 < (a0.size : Int)) = true := decide_eq_true c3
   have c3b1 : decide (0 < a0.size) = true := decide_eq_true (by omega)
   clear c3
   have HC5 := zc.mk H
   clear H
   have p4 : 0 ≤ (0 : Int) := (by omega)
   have q4 : 0 < a0.size := (by have : (0 : Int) < (a0.size : Int) := hFq;omega)
   have hx4 : ∀ h : 0 < a0.size,((a0[0]'h).toNat : Int) = bt a0 0 := zcn a0 0
   clear p4
   have qi4 : (0 < (a0.size : Int)) = True := eq_true (hFq)
   replace q4 := eq_true q4
   go_enter Try.func53,Try.ntmps53
   go_upto_block 0 with (fail)
   repeat (go_quiet (fail);go_upto_block 0 with (fail))
   go_cut [] (fun wc => ∃ (kq : Nat),zc (zC.j0 kq a0 (wrap64 (bt a0 0)) = some (r1,r2,r3)) ∧ zc (kq ≤ k) ∧ zax w wc)
   case first =>
    have H := HC5.out
    clear HC5
    by_cases c6 : (wrap64 (bt a0 0)) > 8
    ·rw [if_pos c6] at H
     have c6b0 : decide (8 < (wrap64 (bt a0 0))) = true := decide_eq_true c6
     clear c6
     (first | rw [c6b0] | (simp only [zan,zaq];rw [c6b0]) | skip)
     simp only [Option.some.injEq,Prod.mk.injEq] at H
     obtain ⟨rfl,rfl,rfl⟩ := H
     go_wp2
     repeat (go_quiet (fail);try go_wp2)
     go_ret3
     exact ⟨hDq,hEq⟩
    ·rw [if_neg c6] at H
     have c6b0 : decide (8 < (wrap64 (bt a0 0))) = false := decide_eq_false c6
     clear c6
     (first | rw [c6b0] | (simp only [zan,zaq];rw [c6b0]) | skip)
     by_cases c7 : (a0.size : Int) ≤ (wrap64 (bt a0 0))
     ·rw [if_pos c7] at H
      have c7b0 : decide ((a0.size : Int) ≤ (wrap64 (bt a0 0))) = true := decide_eq_true c7
      clear c7
      simp only [Option.some.injEq,Prod.mk.injEq] at H
      obtain ⟨rfl,rfl,rfl⟩ := H
      go_wp2
      repeat (go_quiet (fail);try go_wp2)
      go_ret3
      exact ⟨hDq,hEq⟩
     ·rw [if_neg c7] at H
      have c7b0 : decide ((a0.size : Int) ≤ (wrap64 (bt a0 0))) = false := decide_eq_false c7
      clear c7
      by_cases c8 : (wrap64 (bt a0 0)) > 0
      ·rw [if_pos c8] at H
       have c8b0 : decide (0 < (wrap64 (bt a0 0))) = true := decide_eq_true c8
       clear c8
       by_cases c9 : 1 < (a0.size : Int)
       ·rw [if_pos c9] at H
        have c9b0 : decide (1 < (a0.size : Int)) = true := decide_eq_true c9
        have c9b1 : decide (1 < a0.size) = true := decide_eq_true (by omega)
        clear c9
        by_cases c11 : (bt a0 1) = 0
        ·rw [if_pos c11] at H
         have c11b0 : ((bt a0 1) == 0) = true := beq_iff_eq.mpr c11
         have c11b1 : ((bt a0 1) != 0) = false := bne_eq_false_iff_eq.mpr c11
         clear c11
         simp only [Option.some.injEq,Prod.mk.injEq] at H
         obtain ⟨rfl,rfl,rfl⟩ := H
         have p10 : 0 ≤ (1 : Int) := (by omega)
         have q10 : 1 < a0.size := (by have : (1 : Int) < (a0.size : Int) := hFq;omega)
         have hx10 : ∀ h : 1 < a0.size,((a0[1]'h).toNat : Int) = bt a0 1 := zcn a0 1
         clear p10
         have qi10 : (1 < (a0.size : Int)) = True := eq_true (hFq)
         replace q10 := eq_true q10
         go_wp2
         repeat (go_quiet (fail);try go_wp2)
         go_ret3
         exact ⟨hDq,hEq⟩
        ·rw [if_neg c11] at H
         have c11b0 : ((bt a0 1) == 0) = false := beq_eq_false_iff_ne.mpr c11
         have c11b1 : ((bt a0 1) != 0) = true := bne_iff_ne.mpr c11
         have H' := zc.mk H
         clear H
         have p10 : 0 ≤ (1 : Int) := (by omega)
         have q10 : 1 < a0.size := (by have : (1 : Int) < (a0.size : Int) := hFq;omega)
         have hx10 : ∀ h : 1 < a0.size,((a0[1]'h).toNat : Int) = bt a0 1 := zcn a0 1
         clear p10
         have qi10 : (1 < (a0.size : Int)) = True := eq_true (hFq)
         replace q10 := eq_true q10
         go_wp2
         repeat (go_quiet (fail);try go_wp2)
         go_meet
         case rel => exact ⟨_,H',⟨by first | omega | exact Nat.le_refl _⟩,hEq⟩
       ·rw [if_neg c9] at H
        exact absurd H (by simp)
      ·rw [if_neg c8] at H
       have c8b0 : decide (0 < (wrap64 (bt a0 0))) = false := decide_eq_false c8
       clear c8
       have H' := zc.mk H
       clear H
       go_wp2
       repeat (go_quiet (fail);try go_wp2)
       go_meet
       case rel => exact ⟨_,H',⟨by first | omega | exact Nat.le_refl _⟩,hEq⟩
   case rest =>
    clear HC5
    try clear c1
    try clear p1
    try clear q1
    try clear hx1
    try clear qi1
    try clear c2
    try clear c2b0
    try clear c2b1
    try clear p2
    try clear c3
    try clear c3b0
    try clear c3b1
    try clear p4
    try clear q4
    try clear hx4
    try clear qi4
    try clear c5
    try clear c6
    try clear c6b0
    try clear p6
    try clear c7
    try clear c7b0
    try clear c8
    try clear c8b0
    try clear c9
    try clear c9b0
    try clear c9b1
    try clear p10
    try clear q10
    try clear hx10
    try clear qi10
    try clear c11
    try clear c11b0
    try clear c11b1
    try clear p10
    try clear p4
    try clear q10
    try clear q4
    obtain ⟨kq,HA,HJ4,⟨mc4,rfl⟩⟩ := hcut
    cases kq with
    | zero => exact absurd HA.out (by simp [zC.j0])
    | succ kj4 =>
     have H := HA.out
     clear HA
     simp only [zC.j0] at H
     have H' := zc.mk H
     clear H
     go_wp2
     repeat (go_quiet (fail);try go_wp2)
     go_loopg [6,7] kj4 (fun kq v6 v7 w' => ∃ (x6_2 : Int) (x7_2 : Int),v6 = .int .u64 x6_2 ∧ v7 = .int .i64 x7_2 ∧ zc (zC.l0 kq a0 (wrap64 (bt a0 0)) x6_2 x7_2 = some (r1,r2,r3)) ∧ zc (kq ≤ kj4) ∧ zax w w')
     case atStart => exact ⟨(0),(1),(hDq),(hDq),H',⟨Nat.le_refl _⟩,hEq⟩
     case round =>
      clear H'
      try clear c1
      try clear p1
      try clear q1
      try clear hx1
      try clear qi1
      try clear c2
      try clear c2b0
      try clear c2b1
      try clear p2
      try clear c3
      try clear c3b0
      try clear c3b1
      try clear c4
      try clear p4
      try clear q4
      try clear hx4
      try clear qi4
      try clear c5
      try clear c6
      try clear c6b0
      try clear p6
      try clear c7
      try clear c7b0
      try clear c8
      try clear c8b0
      try clear c9
      try clear c9b0
      try clear c9b1
      try clear p10
      try clear q10
      try clear hx10
      try clear qi10
      try clear c11
      try clear c11b0
      try clear c11b1
      try clear p1
      try clear p10
      try clear p2
      try clear p4
      try clear p6
      try clear q1
      try clear q10
      try clear q4
      obtain ⟨x6_2,x7_2,rfl,rfl,HA,HK2,⟨m2,rfl⟩⟩ := hrel
      cases gk with
      | zero => exact absurd HA.out (by simp [zC.l0])
      | succ k2 =>
       have H := HA.out
       clear HA
       simp only [zC.l0] at H
       by_cases c12 : x7_2 ≤ (wrap64 (bt a0 0))
       ·rw [if_pos c12] at H
        have c12b0 : decide (x7_2 ≤ (wrap64 (bt a0 0))) = true := decide_eq_true c12
        clear c12
        by_cases c13 : 0 ≤ x7_2
        ·rw [if_pos c13] at H
         have c13b0 : decide (0 ≤ x7_2) = true := decide_eq_true c13
         clear c13
         by_cases c14 : x7_2 < (a0.size : Int)
         ·rw [if_pos c14] at H
          have c14b0 : decide (x7_2 < (a0.size : Int)) = true := decide_eq_true c14
          clear c14
          have H' := zc.mk H
          clear H
          have p15 : 0 ≤ (x7_2 : Int) := hFq
          have q15 : x7_2 < (a0.size : Int) := hFq
          have hx15 := zcn a0 x7_2
          replace p15 := eq_true p15
          replace q15 := eq_true q15
          go_wp2
          repeat (go_quiet (fail);try go_wp2)
          go_roundg k2
          case measure => have := HJ4.out;have := HK2.out;omega
          case rel => exact ⟨(Go.bits .or .u64 (IntKind.u64.wrap (x6_2 * 256)) (IntKind.u64.wrap (bt a0 x7_2))),(wrap64 (x7_2 + 1)),(hDq),(hDq),H',⟨by have := HJ4.out;have := HK2.out;omega⟩,hEq⟩
         ·rw [if_neg c14] at H
          exact absurd H (by simp)
        ·rw [if_neg c13] at H
         exact absurd H (by simp)
       ·rw [if_neg c12] at H
        have c12b0 : decide (x7_2 ≤ (wrap64 (bt a0 0))) = false := decide_eq_false c12
        clear c12
        obtain ⟨ji16,hji16⟩ : ∃ j_ : Int,(wrap64 ((wrap64 (bt a0 0)) + 1)) = j_ := ⟨_,rfl⟩
        replace H : (if 0 ≤ (ji16) then (if (ji16) ≤ (a0.size : Int) then (some (x6_2,a0.extract ((ji16) : Int).toNat a0.size,0)) else (none)) else (none)) = some (r1,r2,r3) := by first | (rw [hji16] at H;exact H) | (simp only [hji16] at H ⊢;exact H)
        have hji16w : (IntKind.i64.wrap ((wrap64 (bt a0 0)) + 1)) = ji16 := (zan _).trans hji16
        by_cases c17 : 0 ≤ (ji16)
        ·rw [if_pos c17] at H
         have c17b0 := eq_true c17
         have c17b1 : decide (0 ≤ (ji16)) = true := decide_eq_true c17
         clear c17
         by_cases c18 : (ji16) ≤ (a0.size : Int)
         ·rw [if_pos c18] at H
          have c18b0 := eq_true c18
          have c18b1 : decide ((ji16) ≤ (a0.size : Int)) = true := decide_eq_true c18
          clear c18
          simp only [Option.some.injEq,Prod.mk.injEq] at H
          obtain ⟨rfl,rfl,rfl⟩ := H
          go_wp2
          repeat (go_quiet (fail);try go_wp2)
          go_ret3
          exact ⟨by first | rfl | (simp;done) | (simp only [← hji16] <;> (first | rfl | simp)) | (simp [*];done),hEq⟩
         ·rw [if_neg c18] at H
          exact absurd H (by simp)
        ·rw [if_neg c17] at H
         exact absurd H (by simp)
  ·rw [if_neg c3] at H
   exact absurd H (by simp)
theorem zw {α : Type} {c : Prop} [Decidable c] {f g : Nat → Option α} {r : α} (h : c) (e : Ev f r) : Ev (fun k => if c then f k else g k) r := by
 simp only [if_pos h]
 exact e
theorem zO {α : Type} {c : Prop} [Decidable c] {f g : Nat → Option α} {r : α} (h : ¬ c) (e : Ev g r) : Ev (fun k => if c then f k else g k) r := by
 simp only [if_neg h]
 exact e
theorem zgr {α : Type} {c : Prop} [Decidable c] {f g : Nat → Option α} {a b : α} (h : c → Ev f a) (h' : ¬ c → Ev g b) : Ev (fun k => if c then f k else g k) (if c then a else b) := by
 by_cases hc : c
 ·rw [if_pos hc];exact zw hc (h hc)
 ·rw [if_neg hc];exact zO hc (h' hc)
theorem zao {α : Type} {f : Nat → Option α} {a b : α} (h : Ev f a) (e : a = b) : Ev f b := e ▸ h
theorem zad {α β : Type} {o : Option α} {f : Nat → α → Option β} {a : α} {r : β} (h : o = some a) (k : Ev (fun n => f n a) r) : Ev (fun n => o.bind (f n)) r := by
 subst h
 exact k
theorem zaY {x : Int} (h0 : 0 ≤ x) (h1 : x < 18446744073709551616) : IntKind.u64.wrap x = x := by
 show x % 18446744073709551616 = x
 omega
theorem zag {x : Int} (h0 : -9223372036854775808 ≤ x) (h1 : x < 9223372036854775808) : wrap64 x = x := by
 unfold wrap64
 omega
theorem zfK {x : Int} (h : (Lit.int .i64 x).wf = true) : -9223372036854775808 ≤ x ∧ x ≤ 9223372036854775807 := by
 simp [Lit.wf,IntKind.min,IntKind.max,IntKind.signed,IntKind.bits] at h
 omega
end Go.Proofs.Ytgdpiegkoeikiaa.Px