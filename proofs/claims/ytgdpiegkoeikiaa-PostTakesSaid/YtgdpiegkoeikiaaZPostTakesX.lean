/- Part 24 of 35 of the proof of the law PostTakes: what is proved is the statement at the end of the last part; its conditions are those of the given row. -/
import Derived.Test.YtgdpiegkoeikiaaZPostTakesW
namespace Go.Proofs.Ytgdpiegkoeikiaa.Px
open Go.RowKit Go.Proofs.YtgdpiegkoeikiaaW.PrintWords Go.Proofs.YtgdpiegkoeikiaaW.PrintLast Go.Proofs.YtgdpiegkoeikiaaW.PrintMore
attribute [local go_sem] zF zH zQ zR zy zz zG zI
set_option linter.unusedVariables false
set_option linter.unusedSimpArgs false
def zbQ (s : Nat) (n : Int) : Bool := decide (0 ≤ n) && decide (n ≤ 64) && decide (s < 2 ^ n.toNat)
theorem zbG (s : Nat) (n : Int) : zbQ s n = true ↔ 0 ≤ n ∧ n ≤ 64 ∧ s < 2 ^ n.toNat := by
 unfold zbQ;simp [and_assoc]
theorem zfI (s p : Nat) (hp : 0 < p) : s / p = 0 ↔ s < p := by
 rw [Nat.div_eq_zero_iff];omega
theorem zez (s : Nat) (n : Int) : zbo.f (s : Int) n = some (zbQ s n) := by
 unfold zbo.f
 by_cases h1 : n < 0
 ·rw [if_pos h1]
  have : zbQ s n = false := by rw [← Bool.not_eq_true,zbG];omega
  rw [this]
 rw [if_neg h1]
 by_cases h2 : n > 64
 ·rw [if_pos h2]
  have : zbQ s n = false := by rw [← Bool.not_eq_true,zbG];omega
  rw [this]
 rw [if_neg h2,zag (by omega) (by omega)]
 by_cases h3 : n > 0
 ·obtain ⟨m,rfl⟩ : ∃ m : Nat,n = ((m + 1 : Nat) : Int) := ⟨(n - 1).toNat,by omega⟩
  have hm : mx (((m + 1 : Nat) : Int) - 1) 0 = (m : Int) := by unfold mx;split <;> omega
  have hs : shr .u64 ((s : Int) / 2) (m : Int) = ((s / 2 / 2 ^ m : Nat) : Int) := by
   unfold shr
   rw [Int.toNat_natCast,Nat.min_eq_left (by show m ≤ 64;omega),show (s : Int) / 2 = ((s / 2 : Nat) : Int) by omega]
   norm_cast
  have he : s / 2 / 2 ^ m = s / 2 ^ (m + 1) := by rw [Nat.div_div_eq_div_mul,Nat.pow_succ,Nat.mul_comm]
  rw [hm,hs,he]
  have key := zfI s (2 ^ (m + 1)) (Nat.two_pow_pos _)
  by_cases h4 : s / 2 ^ (m + 1) = 0
  ·rw [if_pos (by omega),if_pos h3]
   have : zbQ s ((m + 1 : Nat) : Int) = true := by rw [zbG];exact ⟨by omega,by omega,key.1 h4⟩
   rw [this]
  ·rw [if_neg (by omega)]
   have : zbQ s ((m + 1 : Nat) : Int) = false := by
    rw [← Bool.not_eq_true,zbG]
    exact fun hh => h4 (key.2 hh.2.2)
   rw [this]
 ·obtain rfl : n = 0 := by omega
  have hm : mx ((0 : Int) - 1) 0 = 0 := by decide
  have hs : shr .u64 ((s : Int) / 2) 0 = (s : Int) / 2 := by unfold shr;simp
  have hw : zbQ s 0 = decide (s = 0) := by
   rw [Bool.eq_iff_iff,zbG];simp
  rw [hm,hs,hw]
  by_cases h4 : s = 0
  ·subst h4;rfl
  ·by_cases h5 : (s : Int) / 2 = 0
   ·rw [if_pos h5,if_neg (by omega)]
    congr 1
    rw [Bool.eq_iff_iff];simp
   ·rw [if_neg h5];simp [h4]
theorem ze6 (s : Nat) (hs : s < 18446744073709551616) : zbq.f (s : Int) = some ((zby 64 s : Nat) : Int) := by
 unfold zbq.f
 rw [zdt s hs];rfl
def zbX : Nat → Nat → Nat → List Int
 | 0,_,_ => []
 | d + 1,id,s => (if s % 2 = 1 then [(id : Int)] else []) ++ zbX d (id + 1) (s / 2)
theorem zcT : ∀ d id s,(zbX d id s).length = zby d s
 | 0,_,_ => rfl
 | d + 1,id,s => by
  rw [zbX,zby,List.length_append,zcT d]
  split
  ·rename_i h;rw [h];rfl
  ·rename_i h;have : s % 2 = 0 := by omega
   rw [this];rfl
theorem zgy (d : Nat) : ∀ (id s : Nat) (acc : List Int),id + d = 65 → acc.length ≤ id → s < 18446744073709551616 → Ev (fun k => z8.l0 k (s : Int) acc (id : Int)) (acc ++ zbX d id s) := by
 induction d with
 | zero =>
  intro id s acc h ha hs
  refine Ev.step (fun k => by rw [z8.l0]) ?_
  exact zO (by omega) (zao (Ev.now _) (by simp [zbX]))
 | succ d ih =>
  intro id s acc h ha hs
  refine Ev.step (fun k => by rw [z8.l0]) ?_
  refine zw (by omega) ?_
  have e1 : IntKind.u64.wrap (Int.tdiv (s : Int) 2) = ((s / 2 : Nat) : Int) := by
   rw [Int.tdiv_eq_ediv_of_nonneg (by omega),zaY (by omega) (by omega)];omega
  have e2 : wrap64 ((id : Int) + 1) = ((id + 1 : Nat) : Int) := by rw [zag (by omega) (by omega)];omega
  have e3 : Int.tmod (s : Int) 2 = ((s % 2 : Nat) : Int) := by rw [Int.tmod_eq_emod_of_nonneg (by omega)];omega
  rw [e1,e2,e3]
  by_cases hb : s % 2 = 1
  ·refine zw (by omega) (zw (by omega) (zao (ih (id + 1) (s / 2) (acc ++ [(id : Int)]) (by omega) (by rw [List.length_append];simp;omega) (by omega)) ?_))
   rw [zbX,if_pos hb,List.append_assoc]
  ·refine zO (by omega) (zao (ih (id + 1) (s / 2) acc (by omega) (by omega) (by omega)) ?_)
   rw [zbX,if_neg hb,List.nil_append]
theorem ze2 (s : Nat) (hs : s < 18446744073709551616) : Ev (fun k => z8.f k (s : Int)) (zbX 64 1 s) :=
 zgy 64 1 s [] (by omega) (by simp) hs
theorem zgh (s : Nat) (hs : s < 18446744073709551616) : Ev (fun k => zaC.f k (s : Int)) ((zby 64 s : Nat) : Int) :=
 Ev.bind (ze2 s hs) (zao (Ev.now _) (by rw [zcT]))
theorem zdj : ∀ d id,zbX d id 0 = []
 | 0,_ => rfl
 | d + 1,id => by rw [zbX,zdj d];rfl
theorem zej : ∀ d id s,s < 2 ^ d → 0 < s → ∃ t : Nat,(zbX d id s).getLast? = some ((id + t : Nat) : Int) ∧ 2 ^ t ≤ s ∧ s < 2 ^ (t + 1)
 | 0,_,s,h,h0 => by simp at h;omega
 | d + 1,id,s,h,h0 => by
  rw [Nat.pow_succ] at h
  rcases Nat.eq_zero_or_pos (s / 2) with hz | hz
  ·refine ⟨0,?_,by show 1 ≤ s;omega,by simp;omega⟩
   rw [zbX,hz,zdj,List.append_nil,if_pos (by omega)];rfl
  ·obtain ⟨t,h1,h2,h3⟩ := zej d (id + 1) (s / 2) (by omega) hz
   refine ⟨t + 1,?_,by rw [Nat.pow_succ];omega,by rw [Nat.pow_succ];omega⟩
   rw [zbX,List.getLast?_append,h1]
   simp only [Option.some_or]
   congr 2;omega
theorem zfS (s : Nat) (hs : s < 18446744073709551616) (n : Int) : Ev (fun k => zaE.f k (s : Int) n) (zbQ s n) := by
 by_cases h1 : n < 0
 ·have : zbQ s n = false := by rw [← Bool.not_eq_true,zbG];omega
  rw [this];exact zw h1 (Ev.now _)
 refine zO h1 ?_
 by_cases h2 : n > 64
 ·have : zbQ s n = false := by rw [← Bool.not_eq_true,zbG];omega
  rw [this];exact zw h2 (Ev.now _)
 refine zO h2 (Ev.bind (ze2 s hs) ?_)
 have h64 : s < 2 ^ 64 := hs
 rcases Nat.eq_zero_or_pos s with h0 | h0
 ·subst h0
  rw [zdj]
  have : zbQ 0 n = true := by rw [zbG];exact ⟨by omega,by omega,Nat.two_pow_pos _⟩
  rw [this];exact zw rfl (Ev.now _)
 ·obtain ⟨t,k1,k2,k3⟩ := zej 64 1 s h64 h0
  have hne : zbX 64 1 s ≠ [] := fun hh => by rw [hh] at k1;cases k1
  have hl := zcT 64 1 s
  have hp := zci 64 s
  have hlp : 0 < (zbX 64 1 s).length := List.length_pos_iff.2 hne
  generalize zbX 64 1 s = L at *
  have e1 : wrap64 ((L.length : Int) - 1) = ((L.length - 1 : Nat) : Int) := by rw [zag (by omega) (by omega)];omega
  refine zO (by omega) ?_
  rw [e1]
  refine zw (by omega) (zw (by omega) (zao (Ev.now _) ?_))
  have e2 : rd L ((L.length - 1 : Nat) : Int) = ((1 + t : Nat) : Int) := by
   rw [List.getLast?_eq_getElem?] at k1
   unfold rd
   rw [Int.toNat_natCast,List.getD_eq_getElem?_getD,k1];rfl
  rw [e2,Bool.eq_iff_iff,decide_eq_true_iff,zbG]
  constructor
  ·intro hh
   exact ⟨by omega,by omega,Nat.lt_of_lt_of_le k3 (Nat.pow_le_pow_right (by omega) (by omega))⟩
  ·rintro ⟨_,_,hh⟩
   have : t < n.toNat := (Nat.pow_lt_pow_iff_right (by omega : 1 < 2)).1 (Nat.lt_of_le_of_lt k2 hh)
   omega
def zef (a r : Int) (bs : List zY) (ps : List ByteArray) (x y : Int) (s : Nat) (n : Int) : Int :=
 if zbv a r bs ps x y n = true then if zbQ s n = true then if ((zby 64 s : Nat) : Int) < zbC n then 2 else 0 else 4 else 1
theorem zfG (a r : Int) (bs : List zY) (ps : List ByteArray) (x y : Int) (s : Nat) (hs : s < 18446744073709551616) (n : Int) : zbB.f a r bs ps x y (s : Int) n = some (zef a r bs ps x y s n) := by
 unfold zbB.f zef
 rw [show zaw.f a r bs ps x y n = some (zbv a r bs ps x y n) from rfl,zez,ze6 s hs,zc8]
 simp only [Option.bind_some]
 split
 ·split
  ·split <;> rfl
  ·rfl
 ·rfl
theorem zgx (a r : Int) (bs : List zY) (ps : List ByteArray) (x y : Int) (s : Nat) (hs : s < 18446744073709551616) (n : Int) (hb : bs.length < 4611686018427387904) (hbs : ∀ b ∈ bs,b.f2.length < 4611686018427387904) (hl : ps.length < 4611686018427387904) (hp : ∀ t ∈ ps,t.size < 4611686018427387904) :
  Ev (fun k => zaS.f k a r bs ps x y (s : Int) n) (zef a r bs ps x y s n) := by
 refine Ev.bind (ze4 a r bs ps x y n hb hbs hl hp) ?_
 unfold zef
 refine zgr (fun _ => Ev.bind (zfS s hs n) (zgr (fun _ => Ev.bind (zgh s hs) (zad (zc7 n) (zgr (fun _ => Ev.now _) (fun _ => Ev.now _)))) (fun _ => Ev.now _))) (fun _ => Ev.now _)
theorem zgt {a r : Int} {bs : List zY} {ps : List ByteArray} {x y : Int} {s : Nat} {n : Int} : zef a r bs ps x y s n = 0 ↔ zbv a r bs ps x y n = true ∧ zbQ s n = true ∧ zbC n ≤ ((zby 64 s : Nat) : Int) := by
 unfold zef
 by_cases h1 : zbv a r bs ps x y n = true
 ·rw [if_pos h1]
  by_cases h2 : zbQ s n = true
  ·rw [if_pos h2]
   by_cases h3 : ((zby 64 s : Nat) : Int) < zbC n
   ·rw [if_pos h3];simp;omega
   ·rw [if_neg h3];simp [h1,h2];omega
  ·rw [if_neg h2];simp [h2]
 ·rw [if_neg h1];simp [h1]
def zhk (a r : Int) (bs : List zY) (ps : List ByteArray) (x y : Int) (s : Nat) : Bs := zdy (zbp a r bs ps x y) ++ zbb s
abbrev PT := Int × Int × List zY × List ByteArray × Int × Int × Int × Int
def zcV : PT := (0,0,[],[],0,0,0,3)
def pA (s : Bs) : Bs × Bs × Int := zaB s 65536
def pB (s : Bs) : Nat × Bs × Int := zv (pA s).2.1
def pV (s : Bs) (n : Int) : VT := zcQ (pA s).1 n
def zh1 (s : Bs) (n : Int) : Int := zef (pV s n).1 (pV s n).2.1 (pV s n).2.2.1 (pV s n).2.2.2.1 (pV s n).2.2.2.2.1 (pV s n).2.2.2.2.2.1 (pB s).1 n
def okP (s : Bs) (n : Int) : Prop := (pA s).2.2 = 0 ∧ (pB s).2.2 = 0 ∧ (pV s n).2.2.2.2.2.2 = 0 ∧ (pB s).2.1 = [] ∧ zh1 s n = 0
instance decOkP (s : Bs) (n : Int) : Decidable (okP s n) := by unfold okP;infer_instance
def zdT (s : Bs) (n : Int) : PT := if okP s n then ((pV s n).1,(pV s n).2.1,(pV s n).2.2.1,(pV s n).2.2.2.1,(pV s n).2.2.2.2.1,(pV s n).2.2.2.2.2.1,((pB s).1 : Int),0) else zcV
theorem zea {s : Bs} {n : Int} (h : okP s n) : zdT s n = ((pV s n).1,(pV s n).2.1,(pV s n).2.2.1,(pV s n).2.2.2.1,(pV s n).2.2.2.2.1,(pV s n).2.2.2.2.2.1,((pB s).1 : Int),0) := if_pos h
theorem zd9 {s : Bs} {n : Int} (h : ¬ okP s n) : zdT s n = zcV := if_neg h
theorem zgm (s : Bs) (n : Int) : zdT s n = zcV ∨ ∃ a r bs ps x y,∃ z : Nat,zdT s n = (a,r,bs,ps,x,y,(z : Int),0) ∧ zef a r bs ps x y z n = 0 ∧ z < 18446744073709551616 ∧ s = zhk a r bs ps x y z := by
 by_cases h : okP s n
 ·refine .inr ⟨_,_,_,_,_,_,_,zea h,h.2.2.2.2,?_,?_⟩
  ·exact zaQ _
  ·obtain ⟨h1,h2,h3,h4,h5⟩ := h
   obtain ⟨e1,_,_⟩ := zdV (s := s) (t := (pA s).1) (r := (pA s).2.1) (most := 65536) (by rw [← h1];rfl)
   obtain ⟨e2,_⟩ := zbf (s := (pA s).2.1) (v := (pB s).1) (r := (pB s).2.1) (by rw [← h2];rfl)
   rcases zdm (pA s).1 n with h6 | ⟨a,r,bs,ps,x,y,h6,hm,h7⟩
   ·exfalso
    rw [show zcQ (pA s).1 n = pV s n from rfl] at h6
    rw [h6] at h3;exact absurd h3 (by decide)
   ·have h6' : pV s n = (a,r,bs,ps,x,y,0) := h6
    rw [h6']
    simp only
    rw [h4,List.append_nil] at e2
    rw [zhk,← h7,← e2,← e1]
 ·exact .inl (zd9 h)
def zbx.f (k : Nat) (a0_0 : Int) (a0_1 : Int) (l0_2 : List (zY)) (l0_3 : List ByteArray) (a0_4 : Int) (a0_5 : Int) (a0_6 : Int) (a1_0 : Int) (a1_1 : Int) (l1_2 : List (zY)) (l1_3 : List ByteArray) (a1_4 : Int) (a1_5 : Int) (a1_6 : Int) : Option (Bool) := (zaP.f k a0_0 a0_1 l0_2 l0_3 a0_4 a0_5 a1_0 a1_1 l1_2 l1_3 a1_4 a1_5).bind fun t397 => (if t397 = true then (some (a0_6 == a1_6)) else (some false))
set_option maxHeartbeats 8000000 in
set_option maxRecDepth 100000 in
theorem zbx.calls (k : Nat) (a0_0 : Int) (a0_1 : Int) (A0_2 : Option Addr) (c0_2 : Nat) (l0_2 : List (zY)) (A0_3 : Option Addr) (c0_3 : Nat) (l0_3 : List ByteArray) (a0_4 : Int) (a0_5 : Int) (a0_6 : Int) (a1_0 : Int) (a1_1 : Int) (A1_2 : Option Addr) (c1_2 : Nat) (l1_2 : List (zY)) (A1_3 : Option Addr) (c1_3 : Nat) (l1_3 : List ByteArray) (a1_4 : Int) (a1_5 : Int) (a1_6 : Int) (r : Bool) (w : World) (hr0_2 : Kd.C zb1 w A0_2 l0_2.length l0_2) (hc0_2 : l0_2.length ≤ c0_2) (hr0_3 : Kd.C Kd.string w A0_3 l0_3.length l0_3) (hc0_3 : l0_3.length ≤ c0_3) (hr1_2 : Kd.C zb1 w A1_2 l1_2.length l1_2) (hc1_2 : l1_2.length ≤ c1_2) (hr1_3 : Kd.C Kd.string w A1_3 l1_3.length l1_3) (hc1_3 : l1_3.length ≤ c1_3) (h : zbx.f k a0_0 a0_1 l0_2 l0_3 a0_4 a0_5 a0_6 a1_0 a1_1 l1_2 l1_3 a1_4 a1_5 a1_6 = some r) :
  Calls Try.prog 17 #[.agg #[.int .i64 a0_0,.int .i64 a0_1,.slice A0_2 l0_2.length c0_2,.slice A0_3 l0_3.length c0_3,.int .i64 a0_4,.int .i64 a0_5,.int .u64 a0_6],.agg #[.int .i64 a1_0,.int .i64 a1_1,.slice A1_2 l1_2.length c1_2,.slice A1_3 l1_3.length c1_3,.int .i64 a1_4,.int .i64 a1_5,.int .u64 a1_6]] w fun e w' => e = .returned (.bool r) ∧ Below w.heap.size w w' := by
 have hu36 := Try.underlying36
 have hu28 := Try.underlying28
 have HR0_2 := zc.mk hr0_2
 have HC0_2 := zc.mk hc0_2
 clear hr0_2 hc0_2
 have HR0_3 := zc.mk hr0_3
 have HC0_3 := zc.mk hc0_3
 clear hr0_3 hc0_3
 have HR1_2 := zc.mk hr1_2
 have HC1_2 := zc.mk hc1_2
 clear hr1_2 hc1_2
 have HR1_3 := zc.mk hr1_3
 have HC1_3 := zc.mk hc1_3
 clear hr1_3 hc1_3
 have HB := zc.mk (Below.refl w.heap.size w)
 have H : ((zaP.f k a0_0 a0_1 l0_2 l0_3 a0_4 a0_5 a1_0 a1_1 l1_2 l1_3 a1_4 a1_5).bind fun t397 => (if t397 = true then (some (a0_6 == a1_6)) else (some false))) = some r := h
 clear h
 replace H := Option.bind_eq_some_iff.mp H
 obtain ⟨t397,A30,H⟩ := H
 replace H : (if t397 = true then (some (a0_6 == a1_6)) else (some false)) = some r := H
 have A3 := zc.mk A30
 clear A30
 by_cases c4 : t397 = true
 focus
  subst c4
  have H1 : (some (a0_6 == a1_6)) = some r := by rw [if_pos rfl] at H;exact H
  clear H
  have H := H1
  clear H1
  obtain rfl := Option.some.inj H
  go_enter Try.func17,Try.ntmps17
  have EQ0 := True.intro
 rotate_left
 focus
  replace c4 := Bool.eq_false_iff.mpr c4
  subst c4
  have H1 : (some false) = some r := by rw [if_neg (show ¬ (false = true) by decide)] at H;exact H
  clear H
  have H := H1
  clear H1
  obtain rfl := Option.some.inj H
  go_enter Try.func17,Try.ntmps17
  have EQ1 := True.intro
 all_goals
  go_wp2_with (first | ((with_reducible refine zu (N := 2) rfl ?_);refine zr ?hg (N := 2) ?hd (cs := #[.int .i64 a0_0,.int .i64 a0_1,.slice A0_2 l0_2.length c0_2,.slice A0_3 l0_3.length c0_3,.int .i64 a0_4,.int .i64 a0_5,.int .u64 a0_6]) (t := 36) ?hr ?_;(case hd => rfl);(case hg => rfl);(case hr => first | (go_simp;done) | (go_simp;rfl));intro gb395 hg wQN22 hbox hb;have n0_ := zc.mk (zj hBq hb);have n1_ := zc.mk (hbox);have n2_ := zc.mk ((by rw [hg];exact (zl hBq) : w.heap.size ≤ gb395));have n3_ := zc.mk ((by rw [hg];exact (zl hBq) : w.heap.size ≤ gb395));clear HB;have HB := n0_;have BK395 := n1_;have GW395 := n2_;have GE395 := n3_;clear n0_ n1_ n2_ n3_;clear hb hbox hg) | ((with_reducible refine zu (N := 3) rfl ?_);refine zr ?hg (N := 3) ?hd (cs := #[.int .i64 a1_0,.int .i64 a1_1,.slice A1_2 l1_2.length c1_2,.slice A1_3 l1_3.length c1_3,.int .i64 a1_4,.int .i64 a1_5,.int .u64 a1_6]) (t := 36) ?hr ?_;(case hd => rfl);(case hg => rfl);(case hr => first | (go_simp;done) | (go_simp;rfl));intro gb396 hg wQN32 hbox hb;have n0_ := zc.mk (zh (g := gb395) (o := .cells #[.int .i64 a0_0,.int .i64 a0_1,.slice A0_2 l0_2.length c0_2,.slice A0_3 l0_3.length c0_3,.int .i64 a0_4,.int .i64 a0_5,.int .u64 a0_6] 36 (0,0)) (hGq BK395.out) hb);have n1_ := zc.mk (zj hCq hb);have n2_ := zc.mk (hbox);have n3_ := zc.mk ((by rw [hg];exact (zl hCq) : w.heap.size ≤ gb396));have n4_ := zc.mk ((by rw [hg];exact (zl hCq) : w.heap.size ≤ gb396));have n5_ := zc.mk ((by rw [hg];exact Nat.ne_of_lt (zP (g := gb395) (o := .cells #[.int .i64 a0_0,.int .i64 a0_1,.slice A0_2 l0_2.length c0_2,.slice A0_3 l0_3.length c0_3,.int .i64 a0_4,.int .i64 a0_5,.int .u64 a0_6] 36 (0,0)) (hGq BK395.out)) : gb395 ≠ gb396));have n6_ := zc.mk ((by rw [hg];exact Nat.ne_of_gt (zP (g := gb395) (o := .cells #[.int .i64 a0_0,.int .i64 a0_1,.slice A0_2 l0_2.length c0_2,.slice A0_3 l0_3.length c0_3,.int .i64 a0_4,.int .i64 a0_5,.int .u64 a0_6] 36 (0,0)) (hGq BK395.out)) : gb396 ≠ gb395));clear BK395;clear HB;have BK395 := n0_;have HB := n1_;have BK396 := n2_;have GW396 := n3_;have GE396 := n4_;have NBQN37 := n5_;have NBQN38 := n6_;clear n0_ n1_ n2_ n3_ n4_ n5_ n6_;clear hb hbox hg;have hnbQN39 := NBQN37.out;have hncQN310 := NBQN38.out;have hczQN311 : wQN32.cell? ⟨gb395,0,none⟩ = some (.int .i64 a0_0) := (zb BK395.out 0).trans rfl;have hczQN312 : wQN32.cell? ⟨gb395,1,none⟩ = some (.int .i64 a0_1) := (zb BK395.out 1).trans rfl;have hczQN313 : wQN32.cell? ⟨gb395,2,none⟩ = some (.slice A0_2 l0_2.length c0_2) := (zb BK395.out 2).trans rfl;have hczQN314 : wQN32.cell? ⟨gb395,3,none⟩ = some (.slice A0_3 l0_3.length c0_3) := (zb BK395.out 3).trans rfl;have hczQN315 : wQN32.cell? ⟨gb395,4,none⟩ = some (.int .i64 a0_4) := (zb BK395.out 4).trans rfl;have hczQN316 : wQN32.cell? ⟨gb395,5,none⟩ = some (.int .i64 a0_5) := (zb BK395.out 5).trans rfl;have hczQN317 : wQN32.cell? ⟨gb395,6,none⟩ = some (.int .u64 a0_6) := (zb BK395.out 6).trans rfl;have hfzQN318 := za BK395.out 0;have hfzQN319 := za BK395.out 1;have hfzQN320 := za BK395.out 2;have hfzQN321 := za BK395.out 3;have hfzQN322 := za BK395.out 4;have hfzQN323 := za BK395.out 5;have hfzQN324 := za BK395.out 6;have hczQN325 : wQN32.cell? ⟨gb396,0,none⟩ = some (.int .i64 a1_0) := (zb BK396.out 0).trans rfl;have hczQN326 : wQN32.cell? ⟨gb396,1,none⟩ = some (.int .i64 a1_1) := (zb BK396.out 1).trans rfl;have hczQN327 : wQN32.cell? ⟨gb396,2,none⟩ = some (.slice A1_2 l1_2.length c1_2) := (zb BK396.out 2).trans rfl;have hczQN328 : wQN32.cell? ⟨gb396,3,none⟩ = some (.slice A1_3 l1_3.length c1_3) := (zb BK396.out 3).trans rfl;have hczQN329 : wQN32.cell? ⟨gb396,4,none⟩ = some (.int .i64 a1_4) := (zb BK396.out 4).trans rfl;have hczQN330 : wQN32.cell? ⟨gb396,5,none⟩ = some (.int .i64 a1_5) := (zb BK396.out 5).trans rfl;have hczQN331 : wQN32.cell? ⟨gb396,6,none⟩ = some (.int .u64 a1_6) := (zb BK396.out 6).trans rfl;have hfzQN332 := za BK396.out 0;have hfzQN333 := za BK396.out 1;have hfzQN334 := za BK396.out 2;have hfzQN335 := za BK396.out 3;have hfzQN336 := za BK396.out 4;have hfzQN337 := za BK396.out 5;have hfzQN338 := za BK396.out 6) | (have _ := EQ0;((with_reducible refine zt (f := 16) rfl ?_);refine zU (some 10) rfl rfl Try.func16 (by kernel_rfl) rfl #[.agg #[.int .i64 a0_0,.int .i64 a0_1,.slice A0_2 l0_2.length c0_2,.slice A0_3 l0_3.length c0_3,.int .i64 a0_4,.int .i64 a0_5],.agg #[.int .i64 a1_0,.int .i64 a1_1,.slice A1_2 l1_2.length c1_2,.slice A1_3 l1_3.length c1_3,.int .i64 a1_4,.int .i64 a1_5]] rfl (by (try simp only [List.map_toArray,List.map_cons,List.map_nil]);first | done | rfl | (simp only [List.length_drop,List.length_take];rfl)) ?_;(with_reducible refine (zaP.calls k a0_0 a0_1 _ _ l0_2 _ _ l0_3 a0_4 a0_5 a1_0 a1_1 _ _ l1_2 _ _ l1_3 a1_4 a1_5 true _ ?side1 ?side2 ?side3 ?side4 ?side5 ?side6 ?side7 ?side8 A3.out).mono ?_);(case side1 => repeat (first | exact (Kd.C_below HR0_2.out HB.out) | (with_reducible refine Kd.C_alloc ?_ _) | (with_reducible refine Kd.C_drewN ?_ _) | (with_reducible refine Kd.C_drew ?_)));(case side2 => exact HC0_2.out);(case side3 => repeat (first | exact (Kd.C_below HR0_3.out HB.out) | (with_reducible refine Kd.C_alloc ?_ _) | (with_reducible refine Kd.C_drewN ?_ _) | (with_reducible refine Kd.C_drew ?_)));(case side4 => exact HC0_3.out);(case side5 => repeat (first | exact (Kd.C_below HR1_2.out HB.out) | (with_reducible refine Kd.C_alloc ?_ _) | (with_reducible refine Kd.C_drewN ?_ _) | (with_reducible refine Kd.C_drew ?_)));(case side6 => exact HC1_2.out);(case side7 => repeat (first | exact (Kd.C_below HR1_3.out HB.out) | (with_reducible refine Kd.C_alloc ?_ _) | (with_reducible refine Kd.C_drewN ?_ _) | (with_reducible refine Kd.C_drew ?_)));(case side8 => exact HC1_3.out);rintro e wQF16A31 ⟨rfl,hb⟩;refine ⟨_,rfl,?_⟩;have n0_ := zc.mk (zh (g := gb395) (o := .cells #[.int .i64 a0_0,.int .i64 a0_1,.slice A0_2 l0_2.length c0_2,.slice A0_3 l0_3.length c0_3,.int .i64 a0_4,.int .i64 a0_5,.int .u64 a0_6] 36 (0,0)) (hGq BK395.out) hb);have n1_ := zc.mk (zh (g := gb396) (o := .cells #[.int .i64 a1_0,.int .i64 a1_1,.slice A1_2 l1_2.length c1_2,.slice A1_3 l1_3.length c1_3,.int .i64 a1_4,.int .i64 a1_5,.int .u64 a1_6] 36 (0,0)) (hGq BK396.out) hb);have n2_ := zc.mk (zj hCq hb);clear BK395;clear BK396;clear HB;have BK395 := n0_;have BK396 := n1_;have HB := n2_;clear n0_ n1_ n2_;(try clear hb);(try clear hb2);(try clear hk);(try clear hi);have hczQF16A34 : wQF16A31.cell? ⟨gb395,0,none⟩ = some (.int .i64 a0_0) := (zb BK395.out 0).trans rfl;have hczQF16A35 : wQF16A31.cell? ⟨gb395,1,none⟩ = some (.int .i64 a0_1) := (zb BK395.out 1).trans rfl;have hczQF16A36 : wQF16A31.cell? ⟨gb395,2,none⟩ = some (.slice A0_2 l0_2.length c0_2) := (zb BK395.out 2).trans rfl;have hczQF16A37 : wQF16A31.cell? ⟨gb395,3,none⟩ = some (.slice A0_3 l0_3.length c0_3) := (zb BK395.out 3).trans rfl;have hczQF16A38 : wQF16A31.cell? ⟨gb395,4,none⟩ = some (.int .i64 a0_4) := (zb BK395.out 4).trans rfl;have hczQF16A39 : wQF16A31.cell? ⟨gb395,5,none⟩ = some (.int .i64 a0_5) := (zb BK395.out 5).trans rfl;have hczQF16A310 : wQF16A31.cell? ⟨gb395,6,none⟩ = some (.int .u64 a0_6) := (zb BK395.out 6).trans rfl;have hfzQF16A311 := za BK395.out 0;have hfzQF16A312 := za BK395.out 1;have hfzQF16A313 := za BK395.out 2;have hfzQF16A314 := za BK395.out 3;have hfzQF16A315 := za BK395.out 4;have hfzQF16A316 := za BK395.out 5;have hfzQF16A317 := za BK395.out 6;have hczQF16A318 : wQF16A31.cell? ⟨gb396,0,none⟩ = some (.int .i64 a1_0) := (zb BK396.out 0).trans rfl;have hczQF16A319 : wQF16A31.cell? ⟨gb396,1,none⟩ = some (.int .i64 a1_1) := (zb BK396.out 1).trans rfl;have hczQF16A320 : wQF16A31.cell? ⟨gb396,2,none⟩ = some (.slice A1_2 l1_2.length c1_2) := (zb BK396.out 2).trans rfl;have hczQF16A321 : wQF16A31.cell? ⟨gb396,3,none⟩ = some (.slice A1_3 l1_3.length c1_3) := (zb BK396.out 3).trans rfl;have hczQF16A322 : wQF16A31.cell? ⟨gb396,4,none⟩ = some (.int .i64 a1_4) := (zb BK396.out 4).trans rfl;have hczQF16A323 : wQF16A31.cell? ⟨gb396,5,none⟩ = some (.int .i64 a1_5) := (zb BK396.out 5).trans rfl;have hczQF16A324 : wQF16A31.cell? ⟨gb396,6,none⟩ = some (.int .u64 a1_6) := (zb BK396.out 6).trans rfl;have hfzQF16A325 := za BK396.out 0;have hfzQF16A326 := za BK396.out 1;have hfzQF16A327 := za BK396.out 2;have hfzQF16A328 := za BK396.out 3;have hfzQF16A329 := za BK396.out 4;have hfzQF16A330 := za BK396.out 5;have hfzQF16A331 := za BK396.out 6)) | (have _ := EQ1;((with_reducible refine zt (f := 16) rfl ?_);refine zU (some 10) rfl rfl Try.func16 (by kernel_rfl) rfl #[.agg #[.int .i64 a0_0,.int .i64 a0_1,.slice A0_2 l0_2.length c0_2,.slice A0_3 l0_3.length c0_3,.int .i64 a0_4,.int .i64 a0_5],.agg #[.int .i64 a1_0,.int .i64 a1_1,.slice A1_2 l1_2.length c1_2,.slice A1_3 l1_3.length c1_3,.int .i64 a1_4,.int .i64 a1_5]] rfl (by (try simp only [List.map_toArray,List.map_cons,List.map_nil]);first | done | rfl | (simp only [List.length_drop,List.length_take];rfl)) ?_;(with_reducible refine (zaP.calls k a0_0 a0_1 _ _ l0_2 _ _ l0_3 a0_4 a0_5 a1_0 a1_1 _ _ l1_2 _ _ l1_3 a1_4 a1_5 false _ ?side1 ?side2 ?side3 ?side4 ?side5 ?side6 ?side7 ?side8 A3.out).mono ?_);(case side1 => repeat (first | exact (Kd.C_below HR0_2.out HB.out) | (with_reducible refine Kd.C_alloc ?_ _) | (with_reducible refine Kd.C_drewN ?_ _) | (with_reducible refine Kd.C_drew ?_)));(case side2 => exact HC0_2.out);(case side3 => repeat (first | exact (Kd.C_below HR0_3.out HB.out) | (with_reducible refine Kd.C_alloc ?_ _) | (with_reducible refine Kd.C_drewN ?_ _) | (with_reducible refine Kd.C_drew ?_)));(case side4 => exact HC0_3.out);(case side5 => repeat (first | exact (Kd.C_below HR1_2.out HB.out) | (with_reducible refine Kd.C_alloc ?_ _) | (with_reducible refine Kd.C_drewN ?_ _) | (with_reducible refine Kd.C_drew ?_)));(case side6 => exact HC1_2.out);(case side7 => repeat (first | exact (Kd.C_below HR1_3.out HB.out) | (with_reducible refine Kd.C_alloc ?_ _) | (with_reducible refine Kd.C_drewN ?_ _) | (with_reducible refine Kd.C_drew ?_)));(case side8 => exact HC1_3.out);rintro e wQF16A31 ⟨rfl,hb⟩;refine ⟨_,rfl,?_⟩;have n0_ := zc.mk (zh (g := gb395) (o := .cells #[.int .i64 a0_0,.int .i64 a0_1,.slice A0_2 l0_2.length c0_2,.slice A0_3 l0_3.length c0_3,.int .i64 a0_4,.int .i64 a0_5,.int .u64 a0_6] 36 (0,0)) (hGq BK395.out) hb);have n1_ := zc.mk (zh (g := gb396) (o := .cells #[.int .i64 a1_0,.int .i64 a1_1,.slice A1_2 l1_2.length c1_2,.slice A1_3 l1_3.length c1_3,.int .i64 a1_4,.int .i64 a1_5,.int .u64 a1_6] 36 (0,0)) (hGq BK396.out) hb);have n2_ := zc.mk (zj hCq hb);clear BK395;clear BK396;clear HB;have BK395 := n0_;have BK396 := n1_;have HB := n2_;clear n0_ n1_ n2_;(try clear hb);(try clear hb2);(try clear hk);(try clear hi))))
  go_ret
  exact ⟨hHq,hCq⟩
end Go.Proofs.Ytgdpiegkoeikiaa.Px