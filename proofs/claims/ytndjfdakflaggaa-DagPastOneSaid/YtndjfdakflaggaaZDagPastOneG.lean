/- Part 7 of 15 of the proof of the law DagPastOne: what is proved is the statement at the end of the last part; its conditions are those of the given row. -/
import Derived.Test.YtndjfdakflaggaaZDagPastOneD
namespace Go.Proofs.Ytndjfdakflaggaa.Px
open Go.RowKit Go.Proofs.YtndjfdakflaggaaW.PrintWords Go.Proofs.YtndjfdakflaggaaW.PrintLast Go.Proofs.YtndjfdakflaggaaW.PrintMore
attribute [local go_sem] zC zE zI zJ zu zv zD zF
set_option linter.unusedVariables false
set_option linter.unusedSimpArgs false
def bB (b : S78) : ByteArray := if zd4 b.f0 b.f1 b.f2 = true then toB (ze4 b.f0 b.f1 b.f2) else (⟨#[]⟩ : ByteArray)
theorem zaH.one (b : S78) (A : Option Addr) (c : Nat) (w : World) (hr : Kd.C Kd.string w A b.f2.length b.f2) (hc : b.f2.length ≤ c) :
  Calls Try.prog 66 #[.agg #[.int .i64 b.f0,.int .i64 b.f1,.slice A b.f2.length c]] w fun e w' => e = .returned (.string (bB b)) ∧ Below w.heap.size w w' := by
 obtain ⟨e,he⟩ : ∃ e,zaO.f b.f0 b.f1 b.f2 = some (bB b,e) := by
  rw [zf4,bB]
  split
  ·exact ⟨_,rfl⟩
  ·exact ⟨_,rfl⟩
 have HE := za.mk he
 have HR := za.mk hr
 have HC := za.mk hc
 clear he hr hc
 generalize bB b = s at *
 obtain ⟨b0,b1,b2⟩ := b
 go_enter Try.func66,Try.ntmps66
 go_wp2_with (first
  | ((with_reducible refine zq (N := 1) rfl ?_);refine zn rfl (N := 1) rfl (cs := #[.int .i64 b0,.int .i64 b1,.slice A b2.length c]) (t := 78) hrq ?_;intro gb hg w2 hbox hb;have BK := za.mk hbox;have HB := za.mk hb;clear hb hbox hg;have hz0 := (zb BK.out 0).trans rfl;have hz1 := (zb BK.out 1).trans rfl;have hz2 := (zb BK.out 2).trans rfl;have hf0 := zc BK.out 0;have hf1 := zc BK.out 1;have hf2 := zc BK.out 2)
  | (go_at_call 67;(with_reducible refine (zaO.calls b0 b1 _ _ b2 _ _ _ (Kd.C_below HR.out HB.out) HC.out HE.out).mono ?_);rintro e w3 ⟨rfl,hb⟩;have HB3 := za.mk (zf HB.out hb);clear hb))
 go_ret
 exact ⟨rfl,HB3.out⟩
theorem zaH.infoS : (Try.prog.info? 9).map (fun i => (i.zero,i.size,i.bytes)) = some (some (.string ⟨#[]⟩),1,16) := by kernel_rfl
set_option maxHeartbeats 4000000 in
set_option maxRecDepth 100000 in
theorem zaH.walk (A : Option Addr) (c : Nat) (l : List S78) (w : World) (hr : Kd.C k78 w A l.length l) (hc : l.length ≤ c) (h4 : l.length ≤ 4) :
  Calls Try.prog 65 #[.slice A l.length c,.func (.func 66) #[] #[]] w fun e w' => ∃ v,e = .returned v ∧ Kd.R Kd.string 9 w' w.heap.size (fun _ => True) v (l.map bB) ∧ Below w.heap.size w w' := by
 have HR := za.mk hr
 clear hr
 go_enter Try.func65,Try.ntmps65
 go_wp2_with fail
 have HB0 := za.mk (Below.refl w.heap.size w)
 go_loopw [5,10] (fun v5 v10 wr => ∃ k : Nat,v10 = .int .i64 k ∧ k ≤ l.length ∧ za (Kd.R Kd.string 9 wr w.heap.size (fun _ => True) v5 ((l.take k).map bB)) ∧ za (Below w.heap.size w wr)) (fun _ v10 _ => l.length - (match v10 with | .int _ q => q | _ => 0).toNat)
 case atStart => exact ⟨0,rfl,Nat.zero_le _,⟨Kd.R_nil _ _ _ _ _⟩,HB0⟩
 case round =>
  obtain ⟨k,rfl,hk,HO,HB⟩ := hrel
  by_cases hlt : k < l.length
  ·obtain ⟨ad,A2,c2,rfl,hx0,hx1,hx2,hl2,hi2⟩ := zca HR.out (k : Int) (by omega) (by omega)
   replace hx0 := (HB.out.cell (World.block_lt_of_cell? w _ hx0)).trans hx0
   replace hx1 := (HB.out.cell (World.block_lt_of_cell? w _ hx1)).trans hx1
   replace hx2 := (HB.out.cell (World.block_lt_of_cell? w _ hx2)).trans hx2
   rw [Int.toNat_natCast] at hx0 hx1 hx2
   have hb : decide (k < l.length) = true := decide_eq_true hlt
   have ht : l.take (k + 1) = l.take k ++ [zO l (k : Int)] := by
    rw [zO,Int.toNat_natCast,List.getD_eq_getElem?_getD,List.getElem?_eq_getElem hlt,List.take_add_one,List.getElem?_eq_getElem hlt];rfl
   have HT := za.mk ht
   have HL2 := za.mk hl2
   have HI2 := za.mk (Kd.C_below hi2 HB.out)
   clear ht hl2 hi2
   generalize zO l (k : Int) = s at *
   obtain ⟨s0,s1,s2⟩ := s
   have HLN : za ((((l.take k).map bB).length + 1) * 16 ≤ 140737488355328) := ⟨by rw [List.length_map,List.length_take];omega⟩
   have HM : za ((l.take (k + 1)).map bB = (l.take k).map bB ++ [bB ⟨s0,s1,s2⟩]) := ⟨by rw [HT.out,List.map_append];rfl⟩
   go_wp2_with (first
    | (go_at_call 66;(with_reducible refine (zaH.one ⟨s0,s1,s2⟩ _ _ _ (Kd.C_below HI2.out (zm (Below.refl _ _) _)) HL2.out).mono ?_);rintro e w1 ⟨rfl,hb1⟩;have HB1 := za.mk (zf (zm HB.out _) hb1);have HO1 := za.mk (Kd.R_below HO.out (zf (zm (Below.refl _ _) _) hb1));clear hb1)
    | (at_builtin;refine Kd.R_append Kd.string (w0 := w) w.heap.size rfl (.tmp 14) (.tmp 18) 28 9 (.string ⟨#[]⟩) 16 rfl Try.underlying28 zaH.infoS rfl (by decide) (by omega) _ ((l.take k).map bB) (bB ⟨s0,s1,s2⟩) [.string (bB ⟨s0,s1,s2⟩)] (fun _ => True) (fun _ => False) rfl rfl ?aP (fun _ hk => hk.elim) ?aF ?aO ?aB ?aS ?aL ?_;(case aP => exact rfl);(case aF => exact (fun _ _ => trivial));(case aO => exact HO1.out);(case aB => exact HB1.out);(case aS => exact (zh HB1.out));(case aL => exact HLN.out);intro v3 w3 ho hb hg hat;have HX := za.mk ho;have HB3 := za.mk hb;clear ho hb hg hat))
   go_roundw
   case rel => exact ⟨k + 1,by go_num,by omega,⟨by rw [HM.out];exact HX.out⟩,HB3⟩
   case measure => simp;omega
  ·obtain rfl : k = l.length := by omega
   go_wp2_with fail
   go_ret
   exact ⟨_,rfl,by have := HO.out;rwa [List.take_length] at this,HB.out⟩
def zaH.f (l0 : List S78) : Option (List ByteArray) := if l0.length ≤ 4 then some (l0.map bB) else none
theorem zaH.calls (A0 : Option Addr) (c0 : Nat) (l0 : List S78) (r : List ByteArray) (w : World) (hr0 : Kd.C k78 w A0 l0.length l0) (hc0 : l0.length ≤ c0) (h : zaH.f l0 = some r) :
  Calls Try.prog 65 #[.slice A0 l0.length c0,.func (.func 66) #[] #[]] w fun e w' => ∃ v0_ : Value,e = .returned v0_ ∧ Kd.R Kd.string 9 w' w.heap.size (fun _ => True) v0_ r ∧ Below w.heap.size w w' := by
 unfold zaH.f at h
 split at h
 ·rename_i h4
  obtain rfl := Option.some.inj h
  exact zaH.walk A0 c0 l0 w hr0 hc0 h4
 ·cases h
theorem zav.infoS : (Try.prog.info? 9).map (fun i => (i.zero,i.size,i.bytes)) = some (some (.string ⟨#[]⟩),1,16) := by kernel_rfl
theorem zav.num (k : Int) (w : World) (h0 : 0 ≤ k) (h1 : k < 9223372036854775808) :
  Calls Try.prog 69 #[.int .i64 k] w fun e w' => e = .returned (.string (zbm k.toNat)) ∧ Below w.heap.size w w' := by
 have hn : zao.f (IntKind.u64.wrap k) = some (zbm k.toNat) := by rw [zb4 h0 (by omega),zao.f,if_pos h0,if_pos (by omega)]
 have HN := za.mk hn
 clear hn h0 h1
 generalize zbm k.toNat = s at *
 go_enter Try.func69,Try.ntmps69
 go_wp2_with (go_at_call 70;(with_reducible refine (zao.calls _ _ _ HN.out).mono ?_);rintro e w3 ⟨rfl,hb⟩;have HB3 := za.mk hb;clear hb)
 go_ret
 exact ⟨rfl,HB3.out⟩
set_option maxHeartbeats 4000000 in
set_option maxRecDepth 100000 in
theorem zav.walk (A : Option Addr) (c : Nat) (l : List Int) (w : World) (hr : Kd.C (Kd.int .i64) w A l.length l) (hc : l.length ≤ c) (h4 : l.length ≤ 4) (hp : ∀ k ∈ l,0 ≤ k ∧ k < 9223372036854775808) :
  Calls Try.prog 68 #[.slice A l.length c,.func (.func 69) #[] #[]] w fun e w' => ∃ v,e = .returned v ∧ Kd.R Kd.string 9 w' w.heap.size (fun _ => True) v (l.map (fun k => zbm k.toNat)) ∧ Below w.heap.size w w' := by
 have HR := za.mk hr
 have HP := za.mk hp
 clear hr hp
 go_enter Try.func68,Try.ntmps68
 go_wp2_with fail
 have HB0 := za.mk (Below.refl w.heap.size w)
 go_loopw [5,10] (fun v5 v10 wr => ∃ k : Nat,v10 = .int .i64 k ∧ k ≤ l.length ∧ za (Kd.R Kd.string 9 wr w.heap.size (fun _ => True) v5 ((l.take k).map (fun k => zbm k.toNat))) ∧ za (Below w.heap.size w wr)) (fun _ v10 _ => l.length - (match v10 with | .int _ q => q | _ => 0).toNat)
 case atStart => exact ⟨0,rfl,Nat.zero_le _,⟨Kd.R_nil _ _ _ _ _⟩,HB0⟩
 case round =>
  obtain ⟨k,rfl,hk,HO,HB⟩ := hrel
  by_cases hlt : k < l.length
  ·obtain ⟨ad,rfl,hx0⟩ := Kd.at_int HR.out (k : Int) (by omega) (by omega)
   replace hx0 := (HB.out.cell (World.block_lt_of_cell? w _ hx0)).trans hx0
   rw [Int.toNat_natCast] at hx0
   have hb : decide (k < l.length) = true := decide_eq_true hlt
   have hd : rd l (k : Int) = l[k] := by
    rw [rd,Int.toNat_natCast,List.getD_eq_getElem?_getD,List.getElem?_eq_getElem hlt];rfl
   have hpk := HP.out _ (List.getElem_mem hlt)
   have ht : l.take (k + 1) = l.take k ++ [l[k]] := by
    rw [List.take_add_one,List.getElem?_eq_getElem hlt];rfl
   rw [hd] at hx0
   generalize l[k] = s at *
   have HM : za ((l.take (k + 1)).map (fun k => zbm k.toNat) = (l.take k).map (fun k => zbm k.toNat) ++ [zbm s.toNat]) := ⟨by rw [ht,List.map_append];rfl⟩
   have HLN : za ((((l.take k).map (fun k => zbm k.toNat)).length + 1) * 16 ≤ 140737488355328) := ⟨by rw [List.length_map,List.length_take];omega⟩
   have HPK := za.mk hpk
   clear hpk ht hd
   go_wp2_with (first
    | (go_at_call 69;(with_reducible refine (zav.num s _ HPK.out.1 HPK.out.2).mono ?_);rintro e w1 ⟨rfl,hb1⟩;have HB1 := za.mk (zf HB.out hb1);have HO1 := za.mk (Kd.R_below HO.out hb1);clear hb1)
    | (at_builtin;refine Kd.R_append Kd.string (w0 := w) w.heap.size rfl (.tmp 14) (.tmp 18) 28 9 (.string ⟨#[]⟩) 16 rfl Try.underlying28 zav.infoS rfl (by decide) (by omega) _ ((l.take k).map (fun k => zbm k.toNat)) (zbm s.toNat) [.string (zbm s.toNat)] (fun _ => True) (fun _ => False) rfl rfl ?aP (fun _ hk => hk.elim) ?aF ?aO ?aB ?aS ?aL ?_;(case aP => exact rfl);(case aF => exact (fun _ _ => trivial));(case aO => exact HO1.out);(case aB => exact HB1.out);(case aS => exact (zh HB1.out));(case aL => exact HLN.out);intro v3 w3 ho hb hg hat;have HX := za.mk ho;have HB3 := za.mk hb;clear ho hb hg hat))
   go_roundw
   case rel => exact ⟨k + 1,by go_num,by omega,⟨by rw [HM.out];exact HX.out⟩,HB3⟩
   case measure => simp;omega
  ·obtain rfl : k = l.length := by omega
   go_wp2_with fail
   go_ret
   exact ⟨_,rfl,by have := HO.out;rwa [List.take_length] at this,HB.out⟩
def zav.f (l0 : List Int) : Option (List ByteArray) := if l0.length ≤ 4 ∧ ∀ k ∈ l0,0 ≤ k ∧ k < 9223372036854775808 then some (l0.map (fun k => zbm k.toNat)) else none
theorem zav.calls (A0 : Option Addr) (c0 : Nat) (l0 : List Int) (r : List ByteArray) (w : World) (hr0 : Kd.C (Kd.int .i64) w A0 l0.length l0) (hc0 : l0.length ≤ c0) (h : zav.f l0 = some r) :
  Calls Try.prog 68 #[.slice A0 l0.length c0,.func (.func 69) #[] #[]] w fun e w' => ∃ v0_ : Value,e = .returned v0_ ∧ Kd.R Kd.string 9 w' w.heap.size (fun _ => True) v0_ r ∧ Below w.heap.size w w' := by
 unfold zav.f at h
 split at h
 ·rename_i h4
  obtain rfl := Option.some.inj h
  exact zav.walk A0 c0 l0 w hr0 hc0 h4.1 h4.2
 ·cases h
def zdg (n : Int) (b : S78) : Bool := !zd4 b.f0 b.f1 b.f2 || decide (n < b.f0)
theorem zaA.odd (n : Int) (g : Nat) (a0 a1 : Int) (A : Option Addr) (c : Nat) (l : List ByteArray) (w : World) (hr : Kd.C Kd.string w A l.length l) (hc : l.length ≤ c)
  (hn : w.heap[g]? = some (.cells #[.int .i64 n] 3 (0,0))) :
  Calls Try.prog 86 #[.agg #[.int .i64 a0,.int .i64 a1,.slice A l.length c],.pointer (some ⟨g,0,none⟩)] w fun e w' => e = .returned (.bool (zdg n ⟨a0,a1,l⟩)) ∧ Below w.heap.size w w' := by
 have HR := za.mk hr
 have HC := za.mk hc
 have HN := za.mk hn
 clear hr hc hn
 rcases hm : zd4 a0 a1 l with _ | _
 ·have HO : za (zdg n ⟨a0,a1,l⟩ = true) := ⟨by simp [zdg,hm]⟩
  have HM := za.mk hm
  clear hm
  go_enter Try.func86,Try.ntmps86
  go_wp2_with (first
   | ((with_reducible refine zq (N := 2) rfl ?_);refine zn rfl (N := 2) rfl (cs := #[.int .i64 a0,.int .i64 a1,.slice A l.length c]) (t := 78) hrq ?_;intro gb hg w2 hbox hb;have BK := za.mk hbox;have HB := za.mk hb;clear hb hbox hg;have hz0 := (zb BK.out 0).trans rfl;have hz1 := (zb BK.out 1).trans rfl;have hz2 := (zb BK.out 2).trans rfl;have hf0 := zc BK.out 0;have hf1 := zc BK.out 1;have hf2 := zc BK.out 2)
   | (go_at_call 87;(with_reducible refine (zaU.calls a0 a1 _ _ l _ _ (Kd.C_below HR.out HB.out) HC.out rfl).mono ?_);rintro e w3 ⟨rfl,hb⟩;rw [HM.out];have HB3 := za.mk (zf HB.out hb);clear hb))
  go_ret
  exact ⟨by rw [HO.out];rfl,HB3.out⟩
 ·have HO : za (zdg n ⟨a0,a1,l⟩ = decide (n < a0)) := ⟨by simp [zdg,hm]⟩
  have HM := za.mk hm
  clear hm
  go_enter Try.func86,Try.ntmps86
  go_wp2_with (first
   | ((with_reducible refine zq (N := 2) rfl ?_);refine zn rfl (N := 2) rfl (cs := #[.int .i64 a0,.int .i64 a1,.slice A l.length c]) (t := 78) hrq ?_;intro gb hg w2 hbox hb;have BK := za.mk hbox;have HB := za.mk hb;clear hb hbox hg;have hz0 := (zb BK.out 0).trans rfl;have hz1 := (zb BK.out 1).trans rfl;have hz2 := (zb BK.out 2).trans rfl;have hf0 := zc BK.out 0;have hf1 := zc BK.out 1;have hf2 := zc BK.out 2)
   | (go_at_call 87;(with_reducible refine (zaU.calls a0 a1 _ _ l _ _ (Kd.C_below HR.out HB.out) HC.out rfl).mono ?_);rintro e w3 ⟨rfl,hb⟩;rw [HM.out];have HB3 := za.mk (zf HB.out hb);have BK3 := za.mk (zr BK.out hb);have BN3 := za.mk (zr HN.out HB3.out);clear hb;have hy0 := (zb BK3.out 0).trans rfl;have hyf := zc BK3.out 0;have hn0 := (zb BN3.out 0).trans rfl;have hnf := zc BN3.out 0))
  go_ret
  exact ⟨by rw [HO.out];rfl,HB3.out⟩
theorem zaA.idx (n : Int) (g : Nat) (A : Option Addr) (c : Nat) (l : List S78) (w : World) (hr : Kd.C k78 w A l.length l) (hc : l.length ≤ c)
  (hn : w.heap[g]? = some (.cells #[.int .i64 n] 3 (0,0))) :
  Calls Try.prog 100 #[.slice A l.length c,.func (.func 86) #[] #[.pointer (some ⟨g,0,none⟩)]] w fun e w' => e = .returned (.int .i64 (zcX (zdg n) l)) ∧ Below w.heap.size w w' := by
 have hm := hr.2.1
 have HR := za.mk hr
 have HN := za.mk hn
 clear hr hn
 go_enter Try.func100,Try.ntmps100
 go_wp2_with fail
 have HB0 := za.mk (Below.refl w.heap.size w)
 go_loopw [5,8] (fun v5 v8 wr => ∃ k : Nat,v8 = .int .i64 k ∧ k ≤ l.length ∧ za (∀ (j : Nat) (y : S78),j < k → l[j]? = some y → zdg n y = false) ∧ za (Below w.heap.size w wr)) (fun _ v8 _ => l.length - (match v8 with | .int _ q => q | _ => 0).toNat)
 case atStart => exact ⟨0,rfl,Nat.zero_le _,⟨fun j y hj => absurd hj (Nat.not_lt_zero _)⟩,⟨by repeat (first | (with_reducible first | exact HB0.out | apply zm | apply zj | apply zp) | exact HB0.out)⟩⟩
 case round =>
  obtain ⟨k,rfl,hk,HF,HB⟩ := hrel
  by_cases hlt : k < l.length
  ·obtain ⟨ad,A2,c2,rfl,hx0,hx1,hx2,hl2,hi2⟩ := zca HR.out (k : Int) (by omega) (by omega)
   replace hx0 := (HB.out.cell (World.block_lt_of_cell? w _ hx0)).trans hx0
   replace hx1 := (HB.out.cell (World.block_lt_of_cell? w _ hx1)).trans hx1
   replace hx2 := (HB.out.cell (World.block_lt_of_cell? w _ hx2)).trans hx2
   rw [Int.toNat_natCast] at hx0 hx1 hx2
   have hb : decide (k < l.length) = true := decide_eq_true hlt
   have hx : l[k]? = some (zO l (k : Int)) := by
    rw [zO,Int.toNat_natCast,List.getD_eq_getElem?_getD,List.getElem?_eq_getElem hlt];rfl
   have HX := za.mk hx
   have HL2 := za.mk hl2
   have HI2 := za.mk (Kd.C_below hi2 HB.out)
   have HNW := za.mk (zr HN.out HB.out)
   clear hx hl2 hi2
   generalize zO l (k : Int) = s at *
   obtain ⟨s0,s1,s2⟩ := s
   rcases ho : zdg n ⟨s0,s1,s2⟩ with _ | _
   ·have HO := za.mk ho
    clear ho
    go_wp2_with (go_at_call 86;(with_reducible refine (zaA.odd n g s0 s1 _ _ s2 _ HI2.out HL2.out HNW.out).mono ?_);rintro e w1 ⟨rfl,hb1⟩;rw [HO.out];have HB1 := za.mk (zf HB.out hb1);clear hb1)
    go_roundw
    case rel =>
     refine ⟨k + 1,by go_num,by omega,⟨fun j y hj hy => ?_⟩,HB1⟩
     rcases Nat.lt_succ_iff_lt_or_eq.1 hj with h | h
     ·exact HF.out j y h hy
     ·subst h
      rw [HX.out] at hy
      injection hy with hy
      subst hy
      exact HO.out
    case measure => simp;omega
   ·have HO := za.mk ho
    clear ho
    go_wp2_with (go_at_call 86;(with_reducible refine (zaA.odd n g s0 s1 _ _ s2 _ HI2.out HL2.out HNW.out).mono ?_);rintro e w1 ⟨rfl,hb1⟩;rw [HO.out];have HB1 := za.mk (zf HB.out hb1);clear hb1)
    go_ret
    exact ⟨by rw [zdx HX.out HO.out HF.out];rfl,HB1.out⟩
  ·obtain rfl : k = l.length := by omega
   go_wp2_with fail
   go_ret
   exact ⟨by rw [zdy (fun j y hy => HF.out j y (List.getElem?_eq_some_iff.1 hy).1 hy)];rfl,HB.out⟩
theorem zaA.contains (n : Int) (g : Nat) (A : Option Addr) (c : Nat) (l : List S78) (w : World) (hr : Kd.C k78 w A l.length l) (hc : l.length ≤ c)
  (hn : w.heap[g]? = some (.cells #[.int .i64 n] 3 (0,0))) :
  Calls Try.prog 88 #[.slice A l.length c,.func (.func 86) #[] #[.pointer (some ⟨g,0,none⟩)]] w fun e w' => e = .returned (.bool (l.any (zdg n))) ∧ Below w.heap.size w w' := by
 have HR := za.mk hr
 have HC := za.mk hc
 have HN := za.mk hn
 clear hr hc hn
 have HA := za.mk (zh2 (zdg n) l)
 go_enter Try.func88,Try.ntmps88
 go_wp2_with (go_at_call 100;(with_reducible refine (zaA.idx n g _ _ l _ HR.out HC.out HN.out).mono ?_);rintro e w1 ⟨rfl,hb1⟩;have HB1 := za.mk hb1;clear hb1)
 go_ret
 exact ⟨by rw [← HA.out];rfl,HB1.out⟩
def zbt (a r : Int) (bs : List S78) (ps : List ByteArray) (x y n : Int) : Bool :=
 zc1 n && decide (1 ≤ a) && decide (a ≤ n) && decide (1 ≤ r) && decide (r ≤ 1048576) && decide (bs.length ≤ 4) && !bs.any (zdg n) && zfH x y && (zdt r || (decide (x = 0) && decide (y = 0))) && zce ps r n
def zaA.f (a0_0 : Int) (a0_1 : Int) (l0_2 : List S78) (l0_3 : List ByteArray) (a0_4 : Int) (a0_5 : Int) (a1 : Int) : Option (Bool) := some (zbt a0_0 a0_1 l0_2 l0_3 a0_4 a0_5 a1)
set_option maxHeartbeats 4000000 in
set_option maxRecDepth 100000 in
theorem zaA.walk (a r : Int) (A2 : Option Addr) (c2 : Nat) (bs : List S78) (A3 : Option Addr) (c3 : Nat) (ps : List ByteArray) (x y n : Int) (w : World) (hr2 : Kd.C k78 w A2 bs.length bs) (hc2 : bs.length ≤ c2) (hr3 : Kd.C Kd.string w A3 ps.length ps) (hc3 : ps.length ≤ c3) :
  Calls Try.prog 64 #[.agg #[.int .i64 a,.int .i64 r,.slice A2 bs.length c2,.slice A3 ps.length c3,.int .i64 x,.int .i64 y],.int .i64 n] w fun e w' => e = .returned (.bool (zbt a r bs ps x y n)) ∧ Below w.heap.size w w' := by
 obtain ⟨N,hN⟩ := ziJ ps r n hr3.2.1
 have HP := za.mk (hN N (Nat.le_refl _))
 have HR2 := za.mk hr2
 have HC2 := za.mk hc2
 have HR3 := za.mk hr3
 have HC3 := za.mk hc3
 clear hr2 hc2 hr3 hc3 hN
 rcases hm : zc1 n with _ | _
 ·have HM := za.mk hm
  have HE : za (zbt a r bs ps x y n = false) := ⟨by simp only [zbt,hm];simp⟩
  clear hm
  go_enter Try.func64,Try.ntmps64
  go_wp2_with (first
   | ((with_reducible refine zq (N := 2) rfl ?_);refine zn rfl (N := 2) rfl (cs := #[.int .i64 a,.int .i64 r,.slice A2 bs.length c2,.slice A3 ps.length c3,.int .i64 x,.int .i64 y]) (t := 32) hrq ?_;intro gv hg w2 hbox hb;have BV := za.mk hbox;have HB2 := za.mk hb;clear hb hbox hg;have hv0 := (zb BV.out 0).trans rfl;have fv0 := zc BV.out 0;have hv1 := (zb BV.out 1).trans rfl;have fv1 := zc BV.out 1;have hv2 := (zb BV.out 2).trans rfl;have fv2 := zc BV.out 2;have hv3 := (zb BV.out 3).trans rfl;have fv3 := zc BV.out 3;have hv4 := (zb BV.out 4).trans rfl;have fv4 := zc BV.out 4;have hv5 := (zb BV.out 5).trans rfl;have fv5 := zc BV.out 5)
   | ((with_reducible refine zq (N := 3) rfl ?_);refine zn rfl (N := 3) rfl (cs := #[.int .i64 n]) (t := 3) hrq ?_;intro gn hg w3 hbox hb;have BN := za.mk hbox;have BV3 := za.mk (zr BV.out hb);have HB3 := za.mk (zf HB2.out hb);clear hb hbox hg;have hn0 := (zb BN.out 0).trans rfl;have fn0 := zc BN.out 0;have hu0 := (zb BV3.out 0).trans rfl;have fu0 := zc BV3.out 0;have hu1 := (zb BV3.out 1).trans rfl;have fu1 := zc BV3.out 1;have hu2 := (zb BV3.out 2).trans rfl;have fu2 := zc BV3.out 2;have hu3 := (zb BV3.out 3).trans rfl;have fu3 := zc BV3.out 3;have hu4 := (zb BV3.out 4).trans rfl;have fu4 := zc BV3.out 4;have hu5 := (zb BV3.out 5).trans rfl;have fu5 := zc BV3.out 5)
   | (go_at_call 39;(with_reducible refine (zas.calls n _ _ (zaJ n)).mono ?_);rintro e w1 ⟨rfl,⟨nd,rfl⟩⟩;rw [HM.out]))
  go_ret
  exact ⟨by rw [HE.out];rfl,by repeat (first | exact HB3.out | apply zj)⟩
 have HM := za.mk hm
 by_cases h1 : a < 1
 ·have h1d : decide (a < 1) = true := decide_eq_true h1
  have h1e : decide (1 ≤ a) = false := decide_eq_false (by omega)
  have HE : za (zbt a r bs ps x y n = false) := ⟨by simp only [zbt,h1e];simp⟩
  clear hm h1 h1e
  go_enter Try.func64,Try.ntmps64
  go_wp2_with (first
   | ((with_reducible refine zq (N := 2) rfl ?_);refine zn rfl (N := 2) rfl (cs := #[.int .i64 a,.int .i64 r,.slice A2 bs.length c2,.slice A3 ps.length c3,.int .i64 x,.int .i64 y]) (t := 32) hrq ?_;intro gv hg w2 hbox hb;have BV := za.mk hbox;have HB2 := za.mk hb;clear hb hbox hg;have hv0 := (zb BV.out 0).trans rfl;have fv0 := zc BV.out 0;have hv1 := (zb BV.out 1).trans rfl;have fv1 := zc BV.out 1;have hv2 := (zb BV.out 2).trans rfl;have fv2 := zc BV.out 2;have hv3 := (zb BV.out 3).trans rfl;have fv3 := zc BV.out 3;have hv4 := (zb BV.out 4).trans rfl;have fv4 := zc BV.out 4;have hv5 := (zb BV.out 5).trans rfl;have fv5 := zc BV.out 5)
   | ((with_reducible refine zq (N := 3) rfl ?_);refine zn rfl (N := 3) rfl (cs := #[.int .i64 n]) (t := 3) hrq ?_;intro gn hg w3 hbox hb;have BN := za.mk hbox;have BV3 := za.mk (zr BV.out hb);have HB3 := za.mk (zf HB2.out hb);clear hb hbox hg;have hn0 := (zb BN.out 0).trans rfl;have fn0 := zc BN.out 0;have hu0 := (zb BV3.out 0).trans rfl;have fu0 := zc BV3.out 0;have hu1 := (zb BV3.out 1).trans rfl;have fu1 := zc BV3.out 1;have hu2 := (zb BV3.out 2).trans rfl;have fu2 := zc BV3.out 2;have hu3 := (zb BV3.out 3).trans rfl;have fu3 := zc BV3.out 3;have hu4 := (zb BV3.out 4).trans rfl;have fu4 := zc BV3.out 4;have hu5 := (zb BV3.out 5).trans rfl;have fu5 := zc BV3.out 5)
   | (go_at_call 39;(with_reducible refine (zas.calls n _ _ (zaJ n)).mono ?_);rintro e w1 ⟨rfl,⟨nd,rfl⟩⟩;rw [HM.out]))
  go_ret
  exact ⟨by rw [HE.out];rfl,by repeat (first | exact HB3.out | apply zj)⟩
 have h1d : decide (a < 1) = false := decide_eq_false h1
 have h1e : decide (1 ≤ a) = true := decide_eq_true (by omega)
 clear h1
 by_cases h2 : n < a
 ·have h2d : decide (n < a) = true := decide_eq_true h2
  have h2e : decide (a ≤ n) = false := decide_eq_false (by omega)
  have HE : za (zbt a r bs ps x y n = false) := ⟨by simp only [zbt,h2e];simp⟩
  clear hm h2 h2e
  go_enter Try.func64,Try.ntmps64
  go_wp2_with (first
   | ((with_reducible refine zq (N := 2) rfl ?_);refine zn rfl (N := 2) rfl (cs := #[.int .i64 a,.int .i64 r,.slice A2 bs.length c2,.slice A3 ps.length c3,.int .i64 x,.int .i64 y]) (t := 32) hrq ?_;intro gv hg w2 hbox hb;have BV := za.mk hbox;have HB2 := za.mk hb;clear hb hbox hg;have hv0 := (zb BV.out 0).trans rfl;have fv0 := zc BV.out 0;have hv1 := (zb BV.out 1).trans rfl;have fv1 := zc BV.out 1;have hv2 := (zb BV.out 2).trans rfl;have fv2 := zc BV.out 2;have hv3 := (zb BV.out 3).trans rfl;have fv3 := zc BV.out 3;have hv4 := (zb BV.out 4).trans rfl;have fv4 := zc BV.out 4;have hv5 := (zb BV.out 5).trans rfl;have fv5 := zc BV.out 5)
   | ((with_reducible refine zq (N := 3) rfl ?_);refine zn rfl (N := 3) rfl (cs := #[.int .i64 n]) (t := 3) hrq ?_;intro gn hg w3 hbox hb;have BN := za.mk hbox;have BV3 := za.mk (zr BV.out hb);have HB3 := za.mk (zf HB2.out hb);clear hb hbox hg;have hn0 := (zb BN.out 0).trans rfl;have fn0 := zc BN.out 0;have hu0 := (zb BV3.out 0).trans rfl;have fu0 := zc BV3.out 0;have hu1 := (zb BV3.out 1).trans rfl;have fu1 := zc BV3.out 1;have hu2 := (zb BV3.out 2).trans rfl;have fu2 := zc BV3.out 2;have hu3 := (zb BV3.out 3).trans rfl;have fu3 := zc BV3.out 3;have hu4 := (zb BV3.out 4).trans rfl;have fu4 := zc BV3.out 4;have hu5 := (zb BV3.out 5).trans rfl;have fu5 := zc BV3.out 5)
   | (go_at_call 39;(with_reducible refine (zas.calls n _ _ (zaJ n)).mono ?_);rintro e w1 ⟨rfl,⟨nd,rfl⟩⟩;rw [HM.out]))
  go_ret
  exact ⟨by rw [HE.out];rfl,by repeat (first | exact HB3.out | apply zj)⟩
 have h2d : decide (n < a) = false := decide_eq_false h2
 have h2e : decide (a ≤ n) = true := decide_eq_true (by omega)
 clear h2
 by_cases h3 : r < 1
 ·have h3d : decide (r < 1) = true := decide_eq_true h3
  have h3e : decide (1 ≤ r) = false := decide_eq_false (by omega)
  have HE : za (zbt a r bs ps x y n = false) := ⟨by simp only [zbt,h3e];simp⟩
  clear hm h3 h3e
  go_enter Try.func64,Try.ntmps64
  go_wp2_with (first
   | ((with_reducible refine zq (N := 2) rfl ?_);refine zn rfl (N := 2) rfl (cs := #[.int .i64 a,.int .i64 r,.slice A2 bs.length c2,.slice A3 ps.length c3,.int .i64 x,.int .i64 y]) (t := 32) hrq ?_;intro gv hg w2 hbox hb;have BV := za.mk hbox;have HB2 := za.mk hb;clear hb hbox hg;have hv0 := (zb BV.out 0).trans rfl;have fv0 := zc BV.out 0;have hv1 := (zb BV.out 1).trans rfl;have fv1 := zc BV.out 1;have hv2 := (zb BV.out 2).trans rfl;have fv2 := zc BV.out 2;have hv3 := (zb BV.out 3).trans rfl;have fv3 := zc BV.out 3;have hv4 := (zb BV.out 4).trans rfl;have fv4 := zc BV.out 4;have hv5 := (zb BV.out 5).trans rfl;have fv5 := zc BV.out 5)
   | ((with_reducible refine zq (N := 3) rfl ?_);refine zn rfl (N := 3) rfl (cs := #[.int .i64 n]) (t := 3) hrq ?_;intro gn hg w3 hbox hb;have BN := za.mk hbox;have BV3 := za.mk (zr BV.out hb);have HB3 := za.mk (zf HB2.out hb);clear hb hbox hg;have hn0 := (zb BN.out 0).trans rfl;have fn0 := zc BN.out 0;have hu0 := (zb BV3.out 0).trans rfl;have fu0 := zc BV3.out 0;have hu1 := (zb BV3.out 1).trans rfl;have fu1 := zc BV3.out 1;have hu2 := (zb BV3.out 2).trans rfl;have fu2 := zc BV3.out 2;have hu3 := (zb BV3.out 3).trans rfl;have fu3 := zc BV3.out 3;have hu4 := (zb BV3.out 4).trans rfl;have fu4 := zc BV3.out 4;have hu5 := (zb BV3.out 5).trans rfl;have fu5 := zc BV3.out 5)
   | (go_at_call 39;(with_reducible refine (zas.calls n _ _ (zaJ n)).mono ?_);rintro e w1 ⟨rfl,⟨nd,rfl⟩⟩;rw [HM.out]))
  go_ret
  exact ⟨by rw [HE.out];rfl,by repeat (first | exact HB3.out | apply zj)⟩
 have h3d : decide (r < 1) = false := decide_eq_false h3
 have h3e : decide (1 ≤ r) = true := decide_eq_true (by omega)
 clear h3
 by_cases h4 : 1048576 < r
 ·have h4d : decide (1048576 < r) = true := decide_eq_true h4
  have h4e : decide (r ≤ 1048576) = false := decide_eq_false (by omega)
  have HE : za (zbt a r bs ps x y n = false) := ⟨by simp only [zbt,h4e];simp⟩
  clear hm h4 h4e
  go_enter Try.func64,Try.ntmps64
  go_wp2_with (first
   | ((with_reducible refine zq (N := 2) rfl ?_);refine zn rfl (N := 2) rfl (cs := #[.int .i64 a,.int .i64 r,.slice A2 bs.length c2,.slice A3 ps.length c3,.int .i64 x,.int .i64 y]) (t := 32) hrq ?_;intro gv hg w2 hbox hb;have BV := za.mk hbox;have HB2 := za.mk hb;clear hb hbox hg;have hv0 := (zb BV.out 0).trans rfl;have fv0 := zc BV.out 0;have hv1 := (zb BV.out 1).trans rfl;have fv1 := zc BV.out 1;have hv2 := (zb BV.out 2).trans rfl;have fv2 := zc BV.out 2;have hv3 := (zb BV.out 3).trans rfl;have fv3 := zc BV.out 3;have hv4 := (zb BV.out 4).trans rfl;have fv4 := zc BV.out 4;have hv5 := (zb BV.out 5).trans rfl;have fv5 := zc BV.out 5)
   | ((with_reducible refine zq (N := 3) rfl ?_);refine zn rfl (N := 3) rfl (cs := #[.int .i64 n]) (t := 3) hrq ?_;intro gn hg w3 hbox hb;have BN := za.mk hbox;have BV3 := za.mk (zr BV.out hb);have HB3 := za.mk (zf HB2.out hb);clear hb hbox hg;have hn0 := (zb BN.out 0).trans rfl;have fn0 := zc BN.out 0;have hu0 := (zb BV3.out 0).trans rfl;have fu0 := zc BV3.out 0;have hu1 := (zb BV3.out 1).trans rfl;have fu1 := zc BV3.out 1;have hu2 := (zb BV3.out 2).trans rfl;have fu2 := zc BV3.out 2;have hu3 := (zb BV3.out 3).trans rfl;have fu3 := zc BV3.out 3;have hu4 := (zb BV3.out 4).trans rfl;have fu4 := zc BV3.out 4;have hu5 := (zb BV3.out 5).trans rfl;have fu5 := zc BV3.out 5)
   | (go_at_call 39;(with_reducible refine (zas.calls n _ _ (zaJ n)).mono ?_);rintro e w1 ⟨rfl,⟨nd,rfl⟩⟩;rw [HM.out]))
  go_ret
  exact ⟨by rw [HE.out];rfl,by repeat (first | exact HB3.out | apply zj)⟩
 have h4d : decide (1048576 < r) = false := decide_eq_false h4
 have h4e : decide (r ≤ 1048576) = true := decide_eq_true (by omega)
 clear h4
 by_cases h5 : 4 < (bs.length : Int)
 ·have h5d : decide (4 < (bs.length : Int)) = true := decide_eq_true h5
  have h5e : decide (bs.length ≤ 4) = false := decide_eq_false (by omega)
  have HE : za (zbt a r bs ps x y n = false) := ⟨by simp only [zbt,h5e];simp⟩
  clear hm h5 h5e
  go_enter Try.func64,Try.ntmps64
  go_wp2_with (first
   | ((with_reducible refine zq (N := 2) rfl ?_);refine zn rfl (N := 2) rfl (cs := #[.int .i64 a,.int .i64 r,.slice A2 bs.length c2,.slice A3 ps.length c3,.int .i64 x,.int .i64 y]) (t := 32) hrq ?_;intro gv hg w2 hbox hb;have BV := za.mk hbox;have HB2 := za.mk hb;clear hb hbox hg;have hv0 := (zb BV.out 0).trans rfl;have fv0 := zc BV.out 0;have hv1 := (zb BV.out 1).trans rfl;have fv1 := zc BV.out 1;have hv2 := (zb BV.out 2).trans rfl;have fv2 := zc BV.out 2;have hv3 := (zb BV.out 3).trans rfl;have fv3 := zc BV.out 3;have hv4 := (zb BV.out 4).trans rfl;have fv4 := zc BV.out 4;have hv5 := (zb BV.out 5).trans rfl;have fv5 := zc BV.out 5)
   | ((with_reducible refine zq (N := 3) rfl ?_);refine zn rfl (N := 3) rfl (cs := #[.int .i64 n]) (t := 3) hrq ?_;intro gn hg w3 hbox hb;have BN := za.mk hbox;have BV3 := za.mk (zr BV.out hb);have HB3 := za.mk (zf HB2.out hb);clear hb hbox hg;have hn0 := (zb BN.out 0).trans rfl;have fn0 := zc BN.out 0;have hu0 := (zb BV3.out 0).trans rfl;have fu0 := zc BV3.out 0;have hu1 := (zb BV3.out 1).trans rfl;have fu1 := zc BV3.out 1;have hu2 := (zb BV3.out 2).trans rfl;have fu2 := zc BV3.out 2;have hu3 := (zb BV3.out 3).trans rfl;have fu3 := zc BV3.out 3;have hu4 := (zb BV3.out 4).trans rfl;have fu4 := zc BV3.out 4;have hu5 := (zb BV3.out 5).trans rfl;have fu5 := zc BV3.out 5)
   | (go_at_call 39;(with_reducible refine (zas.calls n _ _ (zaJ n)).mono ?_);rintro e w1 ⟨rfl,⟨nd,rfl⟩⟩;rw [HM.out]))
  go_ret
  exact ⟨by rw [HE.out];rfl,by repeat (first | exact HB3.out | apply zj)⟩
 have h5d : decide (4 < (bs.length : Int)) = false := decide_eq_false h5
 have h5e : decide (bs.length ≤ 4) = true := decide_eq_true (by omega)
 clear h5
 rcases ha : bs.any (zdg n) with _ | _
 rotate_left
 ·have HA := za.mk ha
  have HE : za (zbt a r bs ps x y n = false) := ⟨by simp only [zbt,ha];simp⟩
  clear hm ha h1e h2e h3e h4e h5e
  go_enter Try.func64,Try.ntmps64
  go_wp2_with (first
   | ((with_reducible refine zq (N := 2) rfl ?_);refine zn rfl (N := 2) rfl (cs := #[.int .i64 a,.int .i64 r,.slice A2 bs.length c2,.slice A3 ps.length c3,.int .i64 x,.int .i64 y]) (t := 32) hrq ?_;intro gv hg w2 hbox hb;have BV := za.mk hbox;have HB2 := za.mk hb;clear hb hbox hg;have hv0 := (zb BV.out 0).trans rfl;have fv0 := zc BV.out 0;have hv1 := (zb BV.out 1).trans rfl;have fv1 := zc BV.out 1;have hv2 := (zb BV.out 2).trans rfl;have fv2 := zc BV.out 2;have hv3 := (zb BV.out 3).trans rfl;have fv3 := zc BV.out 3;have hv4 := (zb BV.out 4).trans rfl;have fv4 := zc BV.out 4;have hv5 := (zb BV.out 5).trans rfl;have fv5 := zc BV.out 5)
   | ((with_reducible refine zq (N := 3) rfl ?_);refine zn rfl (N := 3) rfl (cs := #[.int .i64 n]) (t := 3) hrq ?_;intro gn hg w3 hbox hb;have BN := za.mk hbox;have BV3 := za.mk (zr BV.out hb);have HB3 := za.mk (zf HB2.out hb);clear hb hbox hg;have hn0 := (zb BN.out 0).trans rfl;have fn0 := zc BN.out 0;have hu0 := (zb BV3.out 0).trans rfl;have fu0 := zc BV3.out 0;have hu1 := (zb BV3.out 1).trans rfl;have fu1 := zc BV3.out 1;have hu2 := (zb BV3.out 2).trans rfl;have fu2 := zc BV3.out 2;have hu3 := (zb BV3.out 3).trans rfl;have fu3 := zc BV3.out 3;have hu4 := (zb BV3.out 4).trans rfl;have fu4 := zc BV3.out 4;have hu5 := (zb BV3.out 5).trans rfl;have fu5 := zc BV3.out 5)
   | (go_at_call 39;(with_reducible refine (zas.calls n _ _ (zaJ n)).mono ?_);rintro e w1 ⟨rfl,⟨nd,rfl⟩⟩;rw [HM.out])
   | (go_at_call 88;(with_reducible refine (zaA.contains n gn _ _ bs _ (Kd.C_below HR2.out (zj HB3.out _)) HC2.out (zam BN.out _)).mono ?_);rintro e w4 ⟨rfl,hb⟩;rw [HA.out];have BV4 := za.mk (zr (zam BV3.out _) hb);have BN4 := za.mk (zr (zam BN.out _) hb);have HB4 := za.mk (zf (zj HB3.out _) hb);clear hb;have hm0 := (zb BN4.out 0).trans rfl;have fm0 := zc BN4.out 0;have hs0 := (zb BV4.out 0).trans rfl;have fs0 := zc BV4.out 0;have hs1 := (zb BV4.out 1).trans rfl;have fs1 := zc BV4.out 1;have hs2 := (zb BV4.out 2).trans rfl;have fs2 := zc BV4.out 2;have hs3 := (zb BV4.out 3).trans rfl;have fs3 := zc BV4.out 3;have hs4 := (zb BV4.out 4).trans rfl;have fs4 := zc BV4.out 4;have hs5 := (zb BV4.out 5).trans rfl;have fs5 := zc BV4.out 5))
  go_ret
  exact ⟨by rw [HE.out];rfl,by repeat (first | exact HB4.out | apply zj)⟩
 have HA := za.mk ha
 rcases hg : zfH x y with _ | _
 ·have HG := za.mk hg
  have HE : za (zbt a r bs ps x y n = false) := ⟨by simp only [zbt,hg];simp⟩
  clear hm ha hg h1e h2e h3e h4e h5e
  go_enter Try.func64,Try.ntmps64
  go_wp2_with (first
   | ((with_reducible refine zq (N := 2) rfl ?_);refine zn rfl (N := 2) rfl (cs := #[.int .i64 a,.int .i64 r,.slice A2 bs.length c2,.slice A3 ps.length c3,.int .i64 x,.int .i64 y]) (t := 32) hrq ?_;intro gv hg w2 hbox hb;have BV := za.mk hbox;have HB2 := za.mk hb;clear hb hbox hg;have hv0 := (zb BV.out 0).trans rfl;have fv0 := zc BV.out 0;have hv1 := (zb BV.out 1).trans rfl;have fv1 := zc BV.out 1;have hv2 := (zb BV.out 2).trans rfl;have fv2 := zc BV.out 2;have hv3 := (zb BV.out 3).trans rfl;have fv3 := zc BV.out 3;have hv4 := (zb BV.out 4).trans rfl;have fv4 := zc BV.out 4;have hv5 := (zb BV.out 5).trans rfl;have fv5 := zc BV.out 5)
   | ((with_reducible refine zq (N := 3) rfl ?_);refine zn rfl (N := 3) rfl (cs := #[.int .i64 n]) (t := 3) hrq ?_;intro gn hg w3 hbox hb;have BN := za.mk hbox;have BV3 := za.mk (zr BV.out hb);have HB3 := za.mk (zf HB2.out hb);clear hb hbox hg;have hn0 := (zb BN.out 0).trans rfl;have fn0 := zc BN.out 0;have hu0 := (zb BV3.out 0).trans rfl;have fu0 := zc BV3.out 0;have hu1 := (zb BV3.out 1).trans rfl;have fu1 := zc BV3.out 1;have hu2 := (zb BV3.out 2).trans rfl;have fu2 := zc BV3.out 2;have hu3 := (zb BV3.out 3).trans rfl;have fu3 := zc BV3.out 3;have hu4 := (zb BV3.out 4).trans rfl;have fu4 := zc BV3.out 4;have hu5 := (zb BV3.out 5).trans rfl;have fu5 := zc BV3.out 5)
   | (go_at_call 39;(with_reducible refine (zas.calls n _ _ (zaJ n)).mono ?_);rintro e w1 ⟨rfl,⟨nd,rfl⟩⟩;rw [HM.out])
   | (go_at_call 88;(with_reducible refine (zaA.contains n gn _ _ bs _ (Kd.C_below HR2.out (zj HB3.out _)) HC2.out (zam BN.out _)).mono ?_);rintro e w4 ⟨rfl,hb⟩;rw [HA.out];have BV4 := za.mk (zr (zam BV3.out _) hb);have BN4 := za.mk (zr (zam BN.out _) hb);have HB4 := za.mk (zf (zj HB3.out _) hb);clear hb;have hm0 := (zb BN4.out 0).trans rfl;have fm0 := zc BN4.out 0;have hs0 := (zb BV4.out 0).trans rfl;have fs0 := zc BV4.out 0;have hs1 := (zb BV4.out 1).trans rfl;have fs1 := zc BV4.out 1;have hs2 := (zb BV4.out 2).trans rfl;have fs2 := zc BV4.out 2;have hs3 := (zb BV4.out 3).trans rfl;have fs3 := zc BV4.out 3;have hs4 := (zb BV4.out 4).trans rfl;have fs4 := zc BV4.out 4;have hs5 := (zb BV4.out 5).trans rfl;have fs5 := zc BV4.out 5)
   | (go_at_call 89;(with_reducible refine (zb5.calls x y _ _ (zcx x y)).mono ?_);rintro e w5 ⟨rfl,hb⟩;rw [HG.out];have BV5 := za.mk (zr BV4.out hb);have BN5 := za.mk (zr BN4.out hb);have HB5 := za.mk (zf HB4.out hb);clear hb;have hk0 := (zb BN5.out 0).trans rfl;have fk0 := zc BN5.out 0;have hq0 := (zb BV5.out 0).trans rfl;have fq0 := zc BV5.out 0;have hq1 := (zb BV5.out 1).trans rfl;have fq1 := zc BV5.out 1;have hq2 := (zb BV5.out 2).trans rfl;have fq2 := zc BV5.out 2;have hq3 := (zb BV5.out 3).trans rfl;have fq3 := zc BV5.out 3;have hq4 := (zb BV5.out 4).trans rfl;have fq4 := zc BV5.out 4;have hq5 := (zb BV5.out 5).trans rfl;have fq5 := zc BV5.out 5))
  go_ret
  exact ⟨by rw [HE.out];rfl,by repeat (first | exact HB5.out | apply zj)⟩
 have HG := za.mk hg
 rcases ht : zdt r with _ | _
 ·have HT := za.mk ht
  by_cases h6 : x = 0
  ·have h6b : (x == 0) = true := beq_iff_eq.mpr h6
   have h6e : decide (x = 0) = true := decide_eq_true h6
   by_cases h7 : y = 0
   ·have h7b : (y == 0) = true := beq_iff_eq.mpr h7
    have h7e : decide (y = 0) = true := decide_eq_true h7
    have HE : za (zbt a r bs ps x y n = zce ps r n) := ⟨by simp only [zbt,hm,h1e,h2e,h3e,h4e,h5e,ha,hg,ht,h6e,h7e];simp⟩
    clear hm ha hg ht h1e h2e h3e h4e h5e h6 h6e h7 h7e
    go_enter Try.func64,Try.ntmps64
    go_wp2_with (first
     | ((with_reducible refine zq (N := 2) rfl ?_);refine zn rfl (N := 2) rfl (cs := #[.int .i64 a,.int .i64 r,.slice A2 bs.length c2,.slice A3 ps.length c3,.int .i64 x,.int .i64 y]) (t := 32) hrq ?_;intro gv hg w2 hbox hb;have BV := za.mk hbox;have HB2 := za.mk hb;clear hb hbox hg;have hv0 := (zb BV.out 0).trans rfl;have fv0 := zc BV.out 0;have hv1 := (zb BV.out 1).trans rfl;have fv1 := zc BV.out 1;have hv2 := (zb BV.out 2).trans rfl;have fv2 := zc BV.out 2;have hv3 := (zb BV.out 3).trans rfl;have fv3 := zc BV.out 3;have hv4 := (zb BV.out 4).trans rfl;have fv4 := zc BV.out 4;have hv5 := (zb BV.out 5).trans rfl;have fv5 := zc BV.out 5)
     | ((with_reducible refine zq (N := 3) rfl ?_);refine zn rfl (N := 3) rfl (cs := #[.int .i64 n]) (t := 3) hrq ?_;intro gn hg w3 hbox hb;have BN := za.mk hbox;have BV3 := za.mk (zr BV.out hb);have HB3 := za.mk (zf HB2.out hb);clear hb hbox hg;have hn0 := (zb BN.out 0).trans rfl;have fn0 := zc BN.out 0;have hu0 := (zb BV3.out 0).trans rfl;have fu0 := zc BV3.out 0;have hu1 := (zb BV3.out 1).trans rfl;have fu1 := zc BV3.out 1;have hu2 := (zb BV3.out 2).trans rfl;have fu2 := zc BV3.out 2;have hu3 := (zb BV3.out 3).trans rfl;have fu3 := zc BV3.out 3;have hu4 := (zb BV3.out 4).trans rfl;have fu4 := zc BV3.out 4;have hu5 := (zb BV3.out 5).trans rfl;have fu5 := zc BV3.out 5)
     | (go_at_call 39;(with_reducible refine (zas.calls n _ _ (zaJ n)).mono ?_);rintro e w1 ⟨rfl,⟨nd,rfl⟩⟩;rw [HM.out])
     | (go_at_call 88;(with_reducible refine (zaA.contains n gn _ _ bs _ (Kd.C_below HR2.out (zj HB3.out _)) HC2.out (zam BN.out _)).mono ?_);rintro e w4 ⟨rfl,hb⟩;rw [HA.out];have BV4 := za.mk (zr (zam BV3.out _) hb);have BN4 := za.mk (zr (zam BN.out _) hb);have HB4 := za.mk (zf (zj HB3.out _) hb);clear hb;have hm0 := (zb BN4.out 0).trans rfl;have fm0 := zc BN4.out 0;have hs0 := (zb BV4.out 0).trans rfl;have fs0 := zc BV4.out 0;have hs1 := (zb BV4.out 1).trans rfl;have fs1 := zc BV4.out 1;have hs2 := (zb BV4.out 2).trans rfl;have fs2 := zc BV4.out 2;have hs3 := (zb BV4.out 3).trans rfl;have fs3 := zc BV4.out 3;have hs4 := (zb BV4.out 4).trans rfl;have fs4 := zc BV4.out 4;have hs5 := (zb BV4.out 5).trans rfl;have fs5 := zc BV4.out 5)
     | (go_at_call 89;(with_reducible refine (zb5.calls x y _ _ (zcx x y)).mono ?_);rintro e w5 ⟨rfl,hb⟩;rw [HG.out];have BV5 := za.mk (zr BV4.out hb);have BN5 := za.mk (zr BN4.out hb);have HB5 := za.mk (zf HB4.out hb);clear hb;have hk0 := (zb BN5.out 0).trans rfl;have fk0 := zc BN5.out 0;have hq0 := (zb BV5.out 0).trans rfl;have fq0 := zc BV5.out 0;have hq1 := (zb BV5.out 1).trans rfl;have fq1 := zc BV5.out 1;have hq2 := (zb BV5.out 2).trans rfl;have fq2 := zc BV5.out 2;have hq3 := (zb BV5.out 3).trans rfl;have fq3 := zc BV5.out 3;have hq4 := (zb BV5.out 4).trans rfl;have fq4 := zc BV5.out 4;have hq5 := (zb BV5.out 5).trans rfl;have fq5 := zc BV5.out 5)
     | (go_at_call 90;(with_reducible refine (zbC.calls r _ _ (zck r)).mono ?_);rintro e w6 ⟨rfl,⟨nt,rfl⟩⟩;rw [HT.out])
     | (go_at_call 91;(with_reducible refine (zal.calls N _ _ ps r n _ _ (Kd.C_below HR3.out (by repeat (first | exact HB5.out | apply zj))) HC3.out HP.out).mono ?_);rintro e w7 ⟨rfl,⟨np,rfl⟩⟩))
    go_ret
    exact ⟨by rw [HE.out];rfl,by repeat (first | exact HB5.out | apply zj)⟩
   ·have h7b : (y == 0) = false := beq_eq_false_iff_ne.mpr h7
    have h7e : decide (y = 0) = false := decide_eq_false h7
    have HE : za (zbt a r bs ps x y n = false) := ⟨by simp only [zbt,ht,h7e];simp⟩
    clear hm ha hg ht h1e h2e h3e h4e h5e h6 h6e h7 h7e
    go_enter Try.func64,Try.ntmps64
    go_wp2_with (first
     | ((with_reducible refine zq (N := 2) rfl ?_);refine zn rfl (N := 2) rfl (cs := #[.int .i64 a,.int .i64 r,.slice A2 bs.length c2,.slice A3 ps.length c3,.int .i64 x,.int .i64 y]) (t := 32) hrq ?_;intro gv hg w2 hbox hb;have BV := za.mk hbox;have HB2 := za.mk hb;clear hb hbox hg;have hv0 := (zb BV.out 0).trans rfl;have fv0 := zc BV.out 0;have hv1 := (zb BV.out 1).trans rfl;have fv1 := zc BV.out 1;have hv2 := (zb BV.out 2).trans rfl;have fv2 := zc BV.out 2;have hv3 := (zb BV.out 3).trans rfl;have fv3 := zc BV.out 3;have hv4 := (zb BV.out 4).trans rfl;have fv4 := zc BV.out 4;have hv5 := (zb BV.out 5).trans rfl;have fv5 := zc BV.out 5)
     | ((with_reducible refine zq (N := 3) rfl ?_);refine zn rfl (N := 3) rfl (cs := #[.int .i64 n]) (t := 3) hrq ?_;intro gn hg w3 hbox hb;have BN := za.mk hbox;have BV3 := za.mk (zr BV.out hb);have HB3 := za.mk (zf HB2.out hb);clear hb hbox hg;have hn0 := (zb BN.out 0).trans rfl;have fn0 := zc BN.out 0;have hu0 := (zb BV3.out 0).trans rfl;have fu0 := zc BV3.out 0;have hu1 := (zb BV3.out 1).trans rfl;have fu1 := zc BV3.out 1;have hu2 := (zb BV3.out 2).trans rfl;have fu2 := zc BV3.out 2;have hu3 := (zb BV3.out 3).trans rfl;have fu3 := zc BV3.out 3;have hu4 := (zb BV3.out 4).trans rfl;have fu4 := zc BV3.out 4;have hu5 := (zb BV3.out 5).trans rfl;have fu5 := zc BV3.out 5)
     | (go_at_call 39;(with_reducible refine (zas.calls n _ _ (zaJ n)).mono ?_);rintro e w1 ⟨rfl,⟨nd,rfl⟩⟩;rw [HM.out])
     | (go_at_call 88;(with_reducible refine (zaA.contains n gn _ _ bs _ (Kd.C_below HR2.out (zj HB3.out _)) HC2.out (zam BN.out _)).mono ?_);rintro e w4 ⟨rfl,hb⟩;rw [HA.out];have BV4 := za.mk (zr (zam BV3.out _) hb);have BN4 := za.mk (zr (zam BN.out _) hb);have HB4 := za.mk (zf (zj HB3.out _) hb);clear hb;have hm0 := (zb BN4.out 0).trans rfl;have fm0 := zc BN4.out 0;have hs0 := (zb BV4.out 0).trans rfl;have fs0 := zc BV4.out 0;have hs1 := (zb BV4.out 1).trans rfl;have fs1 := zc BV4.out 1;have hs2 := (zb BV4.out 2).trans rfl;have fs2 := zc BV4.out 2;have hs3 := (zb BV4.out 3).trans rfl;have fs3 := zc BV4.out 3;have hs4 := (zb BV4.out 4).trans rfl;have fs4 := zc BV4.out 4;have hs5 := (zb BV4.out 5).trans rfl;have fs5 := zc BV4.out 5)
     | (go_at_call 89;(with_reducible refine (zb5.calls x y _ _ (zcx x y)).mono ?_);rintro e w5 ⟨rfl,hb⟩;rw [HG.out];have BV5 := za.mk (zr BV4.out hb);have BN5 := za.mk (zr BN4.out hb);have HB5 := za.mk (zf HB4.out hb);clear hb;have hk0 := (zb BN5.out 0).trans rfl;have fk0 := zc BN5.out 0;have hq0 := (zb BV5.out 0).trans rfl;have fq0 := zc BV5.out 0;have hq1 := (zb BV5.out 1).trans rfl;have fq1 := zc BV5.out 1;have hq2 := (zb BV5.out 2).trans rfl;have fq2 := zc BV5.out 2;have hq3 := (zb BV5.out 3).trans rfl;have fq3 := zc BV5.out 3;have hq4 := (zb BV5.out 4).trans rfl;have fq4 := zc BV5.out 4;have hq5 := (zb BV5.out 5).trans rfl;have fq5 := zc BV5.out 5)
     | (go_at_call 90;(with_reducible refine (zbC.calls r _ _ (zck r)).mono ?_);rintro e w6 ⟨rfl,⟨nt,rfl⟩⟩;rw [HT.out]))
    go_ret
    exact ⟨by rw [HE.out];rfl,by repeat (first | exact HB5.out | apply zj)⟩
  ·have h6b : (x == 0) = false := beq_eq_false_iff_ne.mpr h6
   have h6e : decide (x = 0) = false := decide_eq_false h6
   have HE : za (zbt a r bs ps x y n = false) := ⟨by simp only [zbt,ht,h6e];simp⟩
   clear hm ha hg ht h1e h2e h3e h4e h5e h6 h6e
   go_enter Try.func64,Try.ntmps64
   go_wp2_with (first
    | ((with_reducible refine zq (N := 2) rfl ?_);refine zn rfl (N := 2) rfl (cs := #[.int .i64 a,.int .i64 r,.slice A2 bs.length c2,.slice A3 ps.length c3,.int .i64 x,.int .i64 y]) (t := 32) hrq ?_;intro gv hg w2 hbox hb;have BV := za.mk hbox;have HB2 := za.mk hb;clear hb hbox hg;have hv0 := (zb BV.out 0).trans rfl;have fv0 := zc BV.out 0;have hv1 := (zb BV.out 1).trans rfl;have fv1 := zc BV.out 1;have hv2 := (zb BV.out 2).trans rfl;have fv2 := zc BV.out 2;have hv3 := (zb BV.out 3).trans rfl;have fv3 := zc BV.out 3;have hv4 := (zb BV.out 4).trans rfl;have fv4 := zc BV.out 4;have hv5 := (zb BV.out 5).trans rfl;have fv5 := zc BV.out 5)
    | ((with_reducible refine zq (N := 3) rfl ?_);refine zn rfl (N := 3) rfl (cs := #[.int .i64 n]) (t := 3) hrq ?_;intro gn hg w3 hbox hb;have BN := za.mk hbox;have BV3 := za.mk (zr BV.out hb);have HB3 := za.mk (zf HB2.out hb);clear hb hbox hg;have hn0 := (zb BN.out 0).trans rfl;have fn0 := zc BN.out 0;have hu0 := (zb BV3.out 0).trans rfl;have fu0 := zc BV3.out 0;have hu1 := (zb BV3.out 1).trans rfl;have fu1 := zc BV3.out 1;have hu2 := (zb BV3.out 2).trans rfl;have fu2 := zc BV3.out 2;have hu3 := (zb BV3.out 3).trans rfl;have fu3 := zc BV3.out 3;have hu4 := (zb BV3.out 4).trans rfl;have fu4 := zc BV3.out 4;have hu5 := (zb BV3.out 5).trans rfl;have fu5 := zc BV3.out 5)
    | (go_at_call 39;(with_reducible refine (zas.calls n _ _ (zaJ n)).mono ?_);rintro e w1 ⟨rfl,⟨nd,rfl⟩⟩;rw [HM.out])
    | (go_at_call 88;(with_reducible refine (zaA.contains n gn _ _ bs _ (Kd.C_below HR2.out (zj HB3.out _)) HC2.out (zam BN.out _)).mono ?_);rintro e w4 ⟨rfl,hb⟩;rw [HA.out];have BV4 := za.mk (zr (zam BV3.out _) hb);have BN4 := za.mk (zr (zam BN.out _) hb);have HB4 := za.mk (zf (zj HB3.out _) hb);clear hb;have hm0 := (zb BN4.out 0).trans rfl;have fm0 := zc BN4.out 0;have hs0 := (zb BV4.out 0).trans rfl;have fs0 := zc BV4.out 0;have hs1 := (zb BV4.out 1).trans rfl;have fs1 := zc BV4.out 1;have hs2 := (zb BV4.out 2).trans rfl;have fs2 := zc BV4.out 2;have hs3 := (zb BV4.out 3).trans rfl;have fs3 := zc BV4.out 3;have hs4 := (zb BV4.out 4).trans rfl;have fs4 := zc BV4.out 4;have hs5 := (zb BV4.out 5).trans rfl;have fs5 := zc BV4.out 5)
    | (go_at_call 89;(with_reducible refine (zb5.calls x y _ _ (zcx x y)).mono ?_);rintro e w5 ⟨rfl,hb⟩;rw [HG.out];have BV5 := za.mk (zr BV4.out hb);have BN5 := za.mk (zr BN4.out hb);have HB5 := za.mk (zf HB4.out hb);clear hb;have hk0 := (zb BN5.out 0).trans rfl;have fk0 := zc BN5.out 0;have hq0 := (zb BV5.out 0).trans rfl;have fq0 := zc BV5.out 0;have hq1 := (zb BV5.out 1).trans rfl;have fq1 := zc BV5.out 1;have hq2 := (zb BV5.out 2).trans rfl;have fq2 := zc BV5.out 2;have hq3 := (zb BV5.out 3).trans rfl;have fq3 := zc BV5.out 3;have hq4 := (zb BV5.out 4).trans rfl;have fq4 := zc BV5.out 4;have hq5 := (zb BV5.out 5).trans rfl;have fq5 := zc BV5.out 5)
    | (go_at_call 90;(with_reducible refine (zbC.calls r _ _ (zck r)).mono ?_);rintro e w6 ⟨rfl,⟨nt,rfl⟩⟩;rw [HT.out]))
   go_ret
   exact ⟨by rw [HE.out];rfl,by repeat (first | exact HB5.out | apply zj)⟩
 ·have HT := za.mk ht
  have HE : za (zbt a r bs ps x y n = zce ps r n) := ⟨by simp only [zbt,hm,h1e,h2e,h3e,h4e,h5e,ha,hg,ht];simp⟩
  clear hm ha hg ht h1e h2e h3e h4e h5e
  go_enter Try.func64,Try.ntmps64
  go_wp2_with (first
   | ((with_reducible refine zq (N := 2) rfl ?_);refine zn rfl (N := 2) rfl (cs := #[.int .i64 a,.int .i64 r,.slice A2 bs.length c2,.slice A3 ps.length c3,.int .i64 x,.int .i64 y]) (t := 32) hrq ?_;intro gv hg w2 hbox hb;have BV := za.mk hbox;have HB2 := za.mk hb;clear hb hbox hg;have hv0 := (zb BV.out 0).trans rfl;have fv0 := zc BV.out 0;have hv1 := (zb BV.out 1).trans rfl;have fv1 := zc BV.out 1;have hv2 := (zb BV.out 2).trans rfl;have fv2 := zc BV.out 2;have hv3 := (zb BV.out 3).trans rfl;have fv3 := zc BV.out 3;have hv4 := (zb BV.out 4).trans rfl;have fv4 := zc BV.out 4;have hv5 := (zb BV.out 5).trans rfl;have fv5 := zc BV.out 5)
   | ((with_reducible refine zq (N := 3) rfl ?_);refine zn rfl (N := 3) rfl (cs := #[.int .i64 n]) (t := 3) hrq ?_;intro gn hg w3 hbox hb;have BN := za.mk hbox;have BV3 := za.mk (zr BV.out hb);have HB3 := za.mk (zf HB2.out hb);clear hb hbox hg;have hn0 := (zb BN.out 0).trans rfl;have fn0 := zc BN.out 0;have hu0 := (zb BV3.out 0).trans rfl;have fu0 := zc BV3.out 0;have hu1 := (zb BV3.out 1).trans rfl;have fu1 := zc BV3.out 1;have hu2 := (zb BV3.out 2).trans rfl;have fu2 := zc BV3.out 2;have hu3 := (zb BV3.out 3).trans rfl;have fu3 := zc BV3.out 3;have hu4 := (zb BV3.out 4).trans rfl;have fu4 := zc BV3.out 4;have hu5 := (zb BV3.out 5).trans rfl;have fu5 := zc BV3.out 5)
   | (go_at_call 39;(with_reducible refine (zas.calls n _ _ (zaJ n)).mono ?_);rintro e w1 ⟨rfl,⟨nd,rfl⟩⟩;rw [HM.out])
   | (go_at_call 88;(with_reducible refine (zaA.contains n gn _ _ bs _ (Kd.C_below HR2.out (zj HB3.out _)) HC2.out (zam BN.out _)).mono ?_);rintro e w4 ⟨rfl,hb⟩;rw [HA.out];have BV4 := za.mk (zr (zam BV3.out _) hb);have BN4 := za.mk (zr (zam BN.out _) hb);have HB4 := za.mk (zf (zj HB3.out _) hb);clear hb;have hm0 := (zb BN4.out 0).trans rfl;have fm0 := zc BN4.out 0;have hs0 := (zb BV4.out 0).trans rfl;have fs0 := zc BV4.out 0;have hs1 := (zb BV4.out 1).trans rfl;have fs1 := zc BV4.out 1;have hs2 := (zb BV4.out 2).trans rfl;have fs2 := zc BV4.out 2;have hs3 := (zb BV4.out 3).trans rfl;have fs3 := zc BV4.out 3;have hs4 := (zb BV4.out 4).trans rfl;have fs4 := zc BV4.out 4;have hs5 := (zb BV4.out 5).trans rfl;have fs5 := zc BV4.out 5)
   | (go_at_call 89;(with_reducible refine (zb5.calls x y _ _ (zcx x y)).mono ?_);rintro e w5 ⟨rfl,hb⟩;rw [HG.out];have BV5 := za.mk (zr BV4.out hb);have BN5 := za.mk (zr BN4.out hb);have HB5 := za.mk (zf HB4.out hb);clear hb;have hk0 := (zb BN5.out 0).trans rfl;have fk0 := zc BN5.out 0;have hq0 := (zb BV5.out 0).trans rfl;have fq0 := zc BV5.out 0;have hq1 := (zb BV5.out 1).trans rfl;have fq1 := zc BV5.out 1;have hq2 := (zb BV5.out 2).trans rfl;have fq2 := zc BV5.out 2;have hq3 := (zb BV5.out 3).trans rfl;have fq3 := zc BV5.out 3;have hq4 := (zb BV5.out 4).trans rfl;have fq4 := zc BV5.out 4;have hq5 := (zb BV5.out 5).trans rfl;have fq5 := zc BV5.out 5)
   | (go_at_call 90;(with_reducible refine (zbC.calls r _ _ (zck r)).mono ?_);rintro e w6 ⟨rfl,⟨nt,rfl⟩⟩;rw [HT.out])
   | (go_at_call 91;(with_reducible refine (zal.calls N _ _ ps r n _ _ (Kd.C_below HR3.out (by repeat (first | exact HB5.out | apply zj))) HC3.out HP.out).mono ?_);rintro e w7 ⟨rfl,⟨np,rfl⟩⟩))
  go_ret
  exact ⟨by rw [HE.out];rfl,by repeat (first | exact HB5.out | apply zj)⟩
theorem zaA.calls (a0_0 : Int) (a0_1 : Int) (A0_2 : Option Addr) (c0_2 : Nat) (l0_2 : List S78) (A0_3 : Option Addr) (c0_3 : Nat) (l0_3 : List ByteArray) (a0_4 : Int) (a0_5 : Int) (a1 : Int) (r : Bool) (w : World) (hr0_2 : Kd.C k78 w A0_2 l0_2.length l0_2) (hc0_2 : l0_2.length ≤ c0_2) (hr0_3 : Kd.C Kd.string w A0_3 l0_3.length l0_3) (hc0_3 : l0_3.length ≤ c0_3) (h : zaA.f a0_0 a0_1 l0_2 l0_3 a0_4 a0_5 a1 = some r) :
  Calls Try.prog 64 #[.agg #[.int .i64 a0_0,.int .i64 a0_1,.slice A0_2 l0_2.length c0_2,.slice A0_3 l0_3.length c0_3,.int .i64 a0_4,.int .i64 a0_5],.int .i64 a1] w fun e w' => e = .returned (.bool r) ∧ Below w.heap.size w w' := by
 obtain rfl := Option.some.inj h
 exact zaA.walk a0_0 a0_1 A0_2 c0_2 l0_2 A0_3 c0_3 l0_3 a0_4 a0_5 a1 w hr0_2 hc0_2 hr0_3 hc0_3
def zaz.f (a0_0 : Int) (a0_1 : Int) (l0_2 : List (S78)) (l0_3 : List ByteArray) (a0_4 : Int) (a0_5 : Int) (a1 : Int) : Option (ByteArray × Int) := (zaA.f a0_0 a0_1 l0_2 l0_3 a0_4 a0_5 a1).bind fun yp => (if yp = true then ((zaH.f l0_2).bind fun yj => ((zav.f (([a0_0,a0_1,a0_4,a0_5] : List Int))).bind fun ya => (if 0 < (ya.length : Int) then (if 1 < (ya.length : Int) then (if (zB ByteArray.empty ya 0).size + (zB ByteArray.empty ya 1).size ≤ 9223372036854775807 then ((zV.f yj).bind fun yc => (if ((zB ByteArray.empty ya 0) ++ (zB ByteArray.empty ya 1)).size + yc.size ≤ 9223372036854775807 then ((zV.f l0_3).bind fun yd => (if (((zB ByteArray.empty ya 0) ++ (zB ByteArray.empty ya 1)) ++ yc).size + yd.size ≤ 9223372036854775807 then (if 2 < (ya.length : Int) then (if ((((zB ByteArray.empty ya 0) ++ (zB ByteArray.empty ya 1)) ++ yc) ++ yd).size + (zB ByteArray.empty ya 2).size ≤ 9223372036854775807 then (if 3 < (ya.length : Int) then (if (((((zB ByteArray.empty ya 0) ++ (zB ByteArray.empty ya 1)) ++ yc) ++ yd) ++ (zB ByteArray.empty ya 2)).size + (zB ByteArray.empty ya 3).size ≤ 9223372036854775807 then (some ((((((zB ByteArray.empty ya 0) ++ (zB ByteArray.empty ya 1)) ++ yc) ++ yd) ++ (zB ByteArray.empty ya 2)) ++ (zB ByteArray.empty ya 3),0)) else (none)) else (none)) else (none)) else (none)) else (none))) else (none))) else (none)) else (none)) else (none)))) else (some ((⟨#[]⟩ : ByteArray),1)))
def zaz.T5 : Bool × List (List Nat × List Nat) := (true,[([],[]),([0],[0]),([1],[1]),([],[]),([3],[3]),([4],[4]),([2,5],[2,5]),([],[]),([7],[7]),([6,8],[6,8]),([],[]),([10],[10]),([11,8],[11]),([9,12],[9,12]),([],[]),([14],[14]),([15],[15]),([13,16],[13,16]),([],[]),([18],[18]),([19],[19]),([17,20],[17,20]),([21,12,0,1,2,3,4,5,6,7,8,9,10,11,12,13,14,15,16,17,18,19,20,21],[21]),([22,0,1,2,3,4,5,6,7,8,9,10,11,12,13,14,15,16,17,18,19,20,21,22],[])])
def zaz.B5 : List Nat := [0,1,3,0,8,24,63,0,128,511,0,1024,3456,8191,0,16384,49152,131071,0,262144,786432,2097151,4194303,8388607]
theorem zaz.tab5 : zb3 .any (zdC Try.f49 5) = zaz.T5 := by kernel_rfl
theorem zaz.bits5 : zbD zaz.T5.2 zaz.B5 = true := by kernel_rfl
set_option maxHeartbeats 8000000 in
set_option maxRecDepth 100000 in
theorem zaz.calls (a0_0 : Int) (a0_1 : Int) (A0_2 : Option Addr) (c0_2 : Nat) (l0_2 : List (S78)) (A0_3 : Option Addr) (c0_3 : Nat) (l0_3 : List ByteArray) (a0_4 : Int) (a0_5 : Int) (a1 : Int) (r1 : ByteArray) (r2 : Int) (w : World) (hr0_2 : Kd.C k78 w A0_2 l0_2.length l0_2) (hc0_2 : l0_2.length ≤ c0_2) (hr0_3 : Kd.C Kd.string w A0_3 l0_3.length l0_3) (hc0_3 : l0_3.length ≤ c0_3) (h : zaz.f a0_0 a0_1 l0_2 l0_3 a0_4 a0_5 a1 = some (r1,r2)) :
  Calls Try.prog 49 #[.agg #[.int .i64 a0_0,.int .i64 a0_1,.slice A0_2 l0_2.length c0_2,.slice A0_3 l0_3.length c0_3,.int .i64 a0_4,.int .i64 a0_5],.int .i64 a1] w fun e w' => e = .returned (.tuple #[.string r1,.int .i64 r2]) ∧ Below w.heap.size w w' := by
 have hu32 := Try.underlying32
 have HR0_2 := za.mk hr0_2
 have HC0_2 := za.mk hc0_2
 clear hr0_2 hc0_2
 have HR0_3 := za.mk hr0_3
 have HC0_3 := za.mk hc0_3
 clear hr0_3 hc0_3
 have HB := za.mk (Below.refl w.heap.size w)
 have H : ((zaA.f a0_0 a0_1 l0_2 l0_3 a0_4 a0_5 a1).bind fun yp => (if yp = true then ((zaH.f l0_2).bind fun yj => ((zav.f (([a0_0,a0_1,a0_4,a0_5] : List Int))).bind fun ya => (if 0 < (ya.length : Int) then (if 1 < (ya.length : Int) then (if (zB ByteArray.empty ya 0).size + (zB ByteArray.empty ya 1).size ≤ 9223372036854775807 then ((zV.f yj).bind fun yc => (if ((zB ByteArray.empty ya 0) ++ (zB ByteArray.empty ya 1)).size + yc.size ≤ 9223372036854775807 then ((zV.f l0_3).bind fun yd => (if (((zB ByteArray.empty ya 0) ++ (zB ByteArray.empty ya 1)) ++ yc).size + yd.size ≤ 9223372036854775807 then (if 2 < (ya.length : Int) then (if ((((zB ByteArray.empty ya 0) ++ (zB ByteArray.empty ya 1)) ++ yc) ++ yd).size + (zB ByteArray.empty ya 2).size ≤ 9223372036854775807 then (if 3 < (ya.length : Int) then (if (((((zB ByteArray.empty ya 0) ++ (zB ByteArray.empty ya 1)) ++ yc) ++ yd) ++ (zB ByteArray.empty ya 2)).size + (zB ByteArray.empty ya 3).size ≤ 9223372036854775807 then (some ((((((zB ByteArray.empty ya 0) ++ (zB ByteArray.empty ya 1)) ++ yc) ++ yd) ++ (zB ByteArray.empty ya 2)) ++ (zB ByteArray.empty ya 3),0)) else (none)) else (none)) else (none)) else (none)) else (none))) else (none))) else (none)) else (none)) else (none)))) else (some ((⟨#[]⟩ : ByteArray),1)))) = some (r1,r2) := h
 clear h
 replace H := Option.bind_eq_some_iff.mp H
 obtain ⟨yp,A30,H⟩ := H
 replace H : (if yp = true then ((zaH.f l0_2).bind fun yj => ((zav.f (([a0_0,a0_1,a0_4,a0_5] : List Int))).bind fun ya => (if 0 < (ya.length : Int) then (if 1 < (ya.length : Int) then (if (zB ByteArray.empty ya 0).size + (zB ByteArray.empty ya 1).size ≤ 9223372036854775807 then ((zV.f yj).bind fun yc => (if ((zB ByteArray.empty ya 0) ++ (zB ByteArray.empty ya 1)).size + yc.size ≤ 9223372036854775807 then ((zV.f l0_3).bind fun yd => (if (((zB ByteArray.empty ya 0) ++ (zB ByteArray.empty ya 1)) ++ yc).size + yd.size ≤ 9223372036854775807 then (if 2 < (ya.length : Int) then (if ((((zB ByteArray.empty ya 0) ++ (zB ByteArray.empty ya 1)) ++ yc) ++ yd).size + (zB ByteArray.empty ya 2).size ≤ 9223372036854775807 then (if 3 < (ya.length : Int) then (if (((((zB ByteArray.empty ya 0) ++ (zB ByteArray.empty ya 1)) ++ yc) ++ yd) ++ (zB ByteArray.empty ya 2)).size + (zB ByteArray.empty ya 3).size ≤ 9223372036854775807 then (some ((((((zB ByteArray.empty ya 0) ++ (zB ByteArray.empty ya 1)) ++ yc) ++ yd) ++ (zB ByteArray.empty ya 2)) ++ (zB ByteArray.empty ya 3),0)) else (none)) else (none)) else (none)) else (none)) else (none))) else (none))) else (none)) else (none)) else (none)))) else (some ((⟨#[]⟩ : ByteArray),1))) = some (r1,r2) := H
 have A3 := za.mk A30
 clear A30
 by_cases c4 : yp = true
 ·subst c4
  have H1 : ((zaH.f l0_2).bind fun yj => ((zav.f (([a0_0,a0_1,a0_4,a0_5] : List Int))).bind fun ya => (if 0 < (ya.length : Int) then (if 1 < (ya.length : Int) then (if (zB ByteArray.empty ya 0).size + (zB ByteArray.empty ya 1).size ≤ 9223372036854775807 then ((zV.f yj).bind fun yc => (if ((zB ByteArray.empty ya 0) ++ (zB ByteArray.empty ya 1)).size + yc.size ≤ 9223372036854775807 then ((zV.f l0_3).bind fun yd => (if (((zB ByteArray.empty ya 0) ++ (zB ByteArray.empty ya 1)) ++ yc).size + yd.size ≤ 9223372036854775807 then (if 2 < (ya.length : Int) then (if ((((zB ByteArray.empty ya 0) ++ (zB ByteArray.empty ya 1)) ++ yc) ++ yd).size + (zB ByteArray.empty ya 2).size ≤ 9223372036854775807 then (if 3 < (ya.length : Int) then (if (((((zB ByteArray.empty ya 0) ++ (zB ByteArray.empty ya 1)) ++ yc) ++ yd) ++ (zB ByteArray.empty ya 2)).size + (zB ByteArray.empty ya 3).size ≤ 9223372036854775807 then (some ((((((zB ByteArray.empty ya 0) ++ (zB ByteArray.empty ya 1)) ++ yc) ++ yd) ++ (zB ByteArray.empty ya 2)) ++ (zB ByteArray.empty ya 3),0)) else (none)) else (none)) else (none)) else (none)) else (none))) else (none))) else (none)) else (none)) else (none)))) = some (r1,r2) := by rw [if_pos rfl] at H;exact H
  clear H
  have H := H1
  clear H1
  replace H := Option.bind_eq_some_iff.mp H
  obtain ⟨yj,A50,H⟩ := H
  replace H : ((zav.f (([a0_0,a0_1,a0_4,a0_5] : List Int))).bind fun ya => (if 0 < (ya.length : Int) then (if 1 < (ya.length : Int) then (if (zB ByteArray.empty ya 0).size + (zB ByteArray.empty ya 1).size ≤ 9223372036854775807 then ((zV.f yj).bind fun yc => (if ((zB ByteArray.empty ya 0) ++ (zB ByteArray.empty ya 1)).size + yc.size ≤ 9223372036854775807 then ((zV.f l0_3).bind fun yd => (if (((zB ByteArray.empty ya 0) ++ (zB ByteArray.empty ya 1)) ++ yc).size + yd.size ≤ 9223372036854775807 then (if 2 < (ya.length : Int) then (if ((((zB ByteArray.empty ya 0) ++ (zB ByteArray.empty ya 1)) ++ yc) ++ yd).size + (zB ByteArray.empty ya 2).size ≤ 9223372036854775807 then (if 3 < (ya.length : Int) then (if (((((zB ByteArray.empty ya 0) ++ (zB ByteArray.empty ya 1)) ++ yc) ++ yd) ++ (zB ByteArray.empty ya 2)).size + (zB ByteArray.empty ya 3).size ≤ 9223372036854775807 then (some ((((((zB ByteArray.empty ya 0) ++ (zB ByteArray.empty ya 1)) ++ yc) ++ yd) ++ (zB ByteArray.empty ya 2)) ++ (zB ByteArray.empty ya 3),0)) else (none)) else (none)) else (none)) else (none)) else (none))) else (none))) else (none)) else (none)) else (none))) = some (r1,r2) := H
  have A5 := za.mk A50
  clear A50
  obtain ⟨yA,yo⟩ : ∃ y_ : List Int,y_ = (([a0_0,a0_1,a0_4,a0_5] : List Int)) := ⟨_,rfl⟩
  replace H : ((zav.f yA).bind fun ya => (if 0 < (ya.length : Int) then (if 1 < (ya.length : Int) then (if (zB ByteArray.empty ya 0).size + (zB ByteArray.empty ya 1).size ≤ 9223372036854775807 then ((zV.f yj).bind fun yc => (if ((zB ByteArray.empty ya 0) ++ (zB ByteArray.empty ya 1)).size + yc.size ≤ 9223372036854775807 then ((zV.f l0_3).bind fun yd => (if (((zB ByteArray.empty ya 0) ++ (zB ByteArray.empty ya 1)) ++ yc).size + yd.size ≤ 9223372036854775807 then (if 2 < (ya.length : Int) then (if ((((zB ByteArray.empty ya 0) ++ (zB ByteArray.empty ya 1)) ++ yc) ++ yd).size + (zB ByteArray.empty ya 2).size ≤ 9223372036854775807 then (if 3 < (ya.length : Int) then (if (((((zB ByteArray.empty ya 0) ++ (zB ByteArray.empty ya 1)) ++ yc) ++ yd) ++ (zB ByteArray.empty ya 2)).size + (zB ByteArray.empty ya 3).size ≤ 9223372036854775807 then (some ((((((zB ByteArray.empty ya 0) ++ (zB ByteArray.empty ya 1)) ++ yc) ++ yd) ++ (zB ByteArray.empty ya 2)) ++ (zB ByteArray.empty ya 3),0)) else (none)) else (none)) else (none)) else (none)) else (none))) else (none))) else (none)) else (none)) else (none))) = some (r1,r2) := by first | (rw [yo];with_reducible exact H) | (have H2_ := (Option.bind_some _ _).symm.trans H;rw [yo];with_reducible exact H2_) | (have H2_ := (Option.bind_some _ _).symm.trans H;with_reducible exact H2_) | with_reducible exact H | (rw [yo];exact H) | exact H
  have yq := za.mk yo
  clear yo
  replace H := Option.bind_eq_some_iff.mp H
  obtain ⟨ya,A60,H⟩ := H
  replace H : (if 0 < (ya.length : Int) then (if 1 < (ya.length : Int) then (if (zB ByteArray.empty ya 0).size + (zB ByteArray.empty ya 1).size ≤ 9223372036854775807 then ((zV.f yj).bind fun yc => (if ((zB ByteArray.empty ya 0) ++ (zB ByteArray.empty ya 1)).size + yc.size ≤ 9223372036854775807 then ((zV.f l0_3).bind fun yd => (if (((zB ByteArray.empty ya 0) ++ (zB ByteArray.empty ya 1)) ++ yc).size + yd.size ≤ 9223372036854775807 then (if 2 < (ya.length : Int) then (if ((((zB ByteArray.empty ya 0) ++ (zB ByteArray.empty ya 1)) ++ yc) ++ yd).size + (zB ByteArray.empty ya 2).size ≤ 9223372036854775807 then (if 3 < (ya.length : Int) then (if (((((zB ByteArray.empty ya 0) ++ (zB ByteArray.empty ya 1)) ++ yc) ++ yd) ++ (zB ByteArray.empty ya 2)).size + (zB ByteArray.empty ya 3).size ≤ 9223372036854775807 then (some ((((((zB ByteArray.empty ya 0) ++ (zB ByteArray.empty ya 1)) ++ yc) ++ yd) ++ (zB ByteArray.empty ya 2)) ++ (zB ByteArray.empty ya 3),0)) else (none)) else (none)) else (none)) else (none)) else (none))) else (none))) else (none)) else (none)) else (none)) = some (r1,r2) := H
  have A6 := za.mk A60
  clear A60
  by_cases c7 : 0 < (ya.length : Int)
  ·rw [if_pos c7] at H
   have c7b0 : decide (0 < (ya.length : Int)) = true := decide_eq_true c7
   have c7b1 : decide (0 < ya.length) = true := decide_eq_true (by omega)
   clear c7
   by_cases c8 : 1 < (ya.length : Int)
   ·rw [if_pos c8] at H
    have c8b0 : decide (1 < (ya.length : Int)) = true := decide_eq_true c8
    have c8b1 : decide (1 < ya.length) = true := decide_eq_true (by omega)
    clear c8
    by_cases c9 : (zB ByteArray.empty ya 0).size + (zB ByteArray.empty ya 1).size ≤ 9223372036854775807
    ·rw [if_pos c9] at H
     have c9b0 := eq_true c9
     have c9b1 : decide ((zB ByteArray.empty ya 0).size + (zB ByteArray.empty ya 1).size ≤ 9223372036854775807) = true := decide_eq_true c9
     try have c9b2 : (9223372036854775807 < (zB ByteArray.empty ya 0).size + (zB ByteArray.empty ya 1).size) = False := eq_false (Nat.not_lt.2 c9)
     replace H := Option.bind_eq_some_iff.mp H
     obtain ⟨yc,yB,H⟩ := H
     replace H : (if ((zB ByteArray.empty ya 0) ++ (zB ByteArray.empty ya 1)).size + yc.size ≤ 9223372036854775807 then ((zV.f l0_3).bind fun yd => (if (((zB ByteArray.empty ya 0) ++ (zB ByteArray.empty ya 1)) ++ yc).size + yd.size ≤ 9223372036854775807 then (if 2 < (ya.length : Int) then (if ((((zB ByteArray.empty ya 0) ++ (zB ByteArray.empty ya 1)) ++ yc) ++ yd).size + (zB ByteArray.empty ya 2).size ≤ 9223372036854775807 then (if 3 < (ya.length : Int) then (if (((((zB ByteArray.empty ya 0) ++ (zB ByteArray.empty ya 1)) ++ yc) ++ yd) ++ (zB ByteArray.empty ya 2)).size + (zB ByteArray.empty ya 3).size ≤ 9223372036854775807 then (some ((((((zB ByteArray.empty ya 0) ++ (zB ByteArray.empty ya 1)) ++ yc) ++ yd) ++ (zB ByteArray.empty ya 2)) ++ (zB ByteArray.empty ya 3),0)) else (none)) else (none)) else (none)) else (none)) else (none))) else (none)) = some (r1,r2) := H
     have A10 := za.mk yB
     clear yB
     by_cases c11 : ((zB ByteArray.empty ya 0) ++ (zB ByteArray.empty ya 1)).size + yc.size ≤ 9223372036854775807
     ·rw [if_pos c11] at H
      have c11b0 := eq_true c11
      have c11b1 : decide (((zB ByteArray.empty ya 0) ++ (zB ByteArray.empty ya 1)).size + yc.size ≤ 9223372036854775807) = true := decide_eq_true c11
      try have c11b2 : (9223372036854775807 < ((zB ByteArray.empty ya 0) ++ (zB ByteArray.empty ya 1)).size + yc.size) = False := eq_false (Nat.not_lt.2 c11)
      try (have c11b3 := c11;simp [ByteArray.size_append] at c11b3;have c11b4 := eq_false (Nat.not_lt.2 c11b3);clear c11b3)
      replace H := Option.bind_eq_some_iff.mp H
      obtain ⟨yd,yC,H⟩ := H
      replace H : (if (((zB ByteArray.empty ya 0) ++ (zB ByteArray.empty ya 1)) ++ yc).size + yd.size ≤ 9223372036854775807 then (if 2 < (ya.length : Int) then (if ((((zB ByteArray.empty ya 0) ++ (zB ByteArray.empty ya 1)) ++ yc) ++ yd).size + (zB ByteArray.empty ya 2).size ≤ 9223372036854775807 then (if 3 < (ya.length : Int) then (if (((((zB ByteArray.empty ya 0) ++ (zB ByteArray.empty ya 1)) ++ yc) ++ yd) ++ (zB ByteArray.empty ya 2)).size + (zB ByteArray.empty ya 3).size ≤ 9223372036854775807 then (some ((((((zB ByteArray.empty ya 0) ++ (zB ByteArray.empty ya 1)) ++ yc) ++ yd) ++ (zB ByteArray.empty ya 2)) ++ (zB ByteArray.empty ya 3),0)) else (none)) else (none)) else (none)) else (none)) else (none)) = some (r1,r2) := H
      have A12 := za.mk yC
      clear yC
      by_cases c13 : (((zB ByteArray.empty ya 0) ++ (zB ByteArray.empty ya 1)) ++ yc).size + yd.size ≤ 9223372036854775807
      ·rw [if_pos c13] at H
       have c13b0 := eq_true c13
       have c13b1 : decide ((((zB ByteArray.empty ya 0) ++ (zB ByteArray.empty ya 1)) ++ yc).size + yd.size ≤ 9223372036854775807) = true := decide_eq_true c13
       try have c13b2 : (9223372036854775807 < (((zB ByteArray.empty ya 0) ++ (zB ByteArray.empty ya 1)) ++ yc).size + yd.size) = False := eq_false (Nat.not_lt.2 c13)
       try (have c13b3 := c13;simp [ByteArray.size_append] at c13b3;have c13b4 := eq_false (Nat.not_lt.2 c13b3);clear c13b3)
       by_cases c14 : 2 < (ya.length : Int)
       ·rw [if_pos c14] at H
        have c14b0 : decide (2 < (ya.length : Int)) = true := decide_eq_true c14
        have c14b1 : decide (2 < ya.length) = true := decide_eq_true (by omega)
        clear c14
        by_cases c15 : ((((zB ByteArray.empty ya 0) ++ (zB ByteArray.empty ya 1)) ++ yc) ++ yd).size + (zB ByteArray.empty ya 2).size ≤ 9223372036854775807
        ·rw [if_pos c15] at H
         have c15b0 := eq_true c15
         have c15b1 : decide (((((zB ByteArray.empty ya 0) ++ (zB ByteArray.empty ya 1)) ++ yc) ++ yd).size + (zB ByteArray.empty ya 2).size ≤ 9223372036854775807) = true := decide_eq_true c15
         try have c15b2 : (9223372036854775807 < ((((zB ByteArray.empty ya 0) ++ (zB ByteArray.empty ya 1)) ++ yc) ++ yd).size + (zB ByteArray.empty ya 2).size) = False := eq_false (Nat.not_lt.2 c15)
         try (have c15b3 := c15;simp [ByteArray.size_append] at c15b3;have c15b4 := eq_false (Nat.not_lt.2 c15b3);clear c15b3)
         by_cases c16 : 3 < (ya.length : Int)
         ·rw [if_pos c16] at H
          have c16b0 : decide (3 < (ya.length : Int)) = true := decide_eq_true c16
          have c16b1 : decide (3 < ya.length) = true := decide_eq_true (by omega)
          clear c16
          by_cases c17 : (((((zB ByteArray.empty ya 0) ++ (zB ByteArray.empty ya 1)) ++ yc) ++ yd) ++ (zB ByteArray.empty ya 2)).size + (zB ByteArray.empty ya 3).size ≤ 9223372036854775807
          ·rw [if_pos c17] at H
           have c17b0 := eq_true c17
           have c17b1 : decide ((((((zB ByteArray.empty ya 0) ++ (zB ByteArray.empty ya 1)) ++ yc) ++ yd) ++ (zB ByteArray.empty ya 2)).size + (zB ByteArray.empty ya 3).size ≤ 9223372036854775807) = true := decide_eq_true c17
           try have c17b2 : (9223372036854775807 < (((((zB ByteArray.empty ya 0) ++ (zB ByteArray.empty ya 1)) ++ yc) ++ yd) ++ (zB ByteArray.empty ya 2)).size + (zB ByteArray.empty ya 3).size) = False := eq_false (Nat.not_lt.2 c17)
           try (have c17b3 := c17;simp [ByteArray.size_append] at c17b3;have c17b4 := eq_false (Nat.not_lt.2 c17b3);clear c17b3)
           simp only [Option.some.injEq,Prod.mk.injEq] at H
           obtain ⟨rfl,rfl⟩ := H
           go_enter Try.func49,Try.ntmps49
           try go_wp2_with (first | ((with_reducible refine zq (N := 2) rfl ?_);refine zn rfl (N := 2) rfl (cs := #[.int .i64 a0_0,.int .i64 a0_1,.slice A0_2 l0_2.length c0_2,.slice A0_3 l0_3.length c0_3,.int .i64 a0_4,.int .i64 a0_5]) (t := 32) hrq ?_;intro yh hg w18 hbox hb;have n_ := haq (zf hBq hb) <| haq (hbox) <| haq ((by rw [hg];exact (zh hBq) : w.heap.size ≤ yh)) <| haq ((by rw [hg];exact (zh hBq) : w.heap.size ≤ yh)) <| trivial;clear HB;obtain ⟨HB,yb,yE,yD,_⟩ := n_;clear hb hbox hg;obtain ⟨hcz19_0,hcz19_1,hcz19_2,hcz19_3,hcz19_4,hcz19_5,hfz19_0,hfz19_1,hfz19_2,hfz19_3,hfz19_4,hfz19_5⟩ := hcq6 yb.out) | ((with_reducible refine zN (f := 64) rfl ?_);refine zax (some 10) rfl rfl Try.func64 (by kernel_rfl) rfl #[.agg #[.int .i64 a0_0,.int .i64 a0_1,.slice A0_2 l0_2.length c0_2,.slice A0_3 l0_3.length c0_3,.int .i64 a0_4,.int .i64 a0_5],.int .i64 a1] rfl hMq ?_;(with_reducible refine (zaA.calls a0_0 a0_1 _ _ l0_2 _ _ l0_3 a0_4 a0_5 a1 true _ ?side1 ?side2 ?side3 ?side4 A3.out).mono ?_);(case side1 => exact hKq (Kd.C_below HR0_2.out HB.out));(case side2 => exact HC0_2.out);(case side3 => exact hKq (Kd.C_below HR0_3.out HB.out));(case side4 => exact HC0_3.out);rintro e w20 ⟨rfl,hb⟩;refine ⟨_,rfl,?_⟩;have n_ := haq (hbq yb.out hb) <| haq (zf hCq hb) <| trivial;clear yb HB;obtain ⟨yb,HB,_⟩ := n_;(try clear hb);(try clear hb2);(try clear hk);(try clear hi);obtain ⟨hcz21_0,hcz21_1,hcz21_2,hcz21_3,hcz21_4,hcz21_5,hfz21_0,hfz21_1,hfz21_2,hfz21_3,hfz21_4,hfz21_5⟩ := hcq6 yb.out) | ((with_reducible refine zN (f := 65) rfl ?_);refine zax (some 14) rfl rfl Try.func65 (by kernel_rfl) rfl #[.slice A0_2 l0_2.length c0_2,.func (.func 66) #[] #[]] rfl hMq ?_;(with_reducible refine (zaH.calls _ _ l0_2 yj _ ?side1 ?side2 A5.out).mono ?_);(case side1 => exact hKq (Kd.C_below HR0_2.out HB.out));(case side2 => exact HC0_2.out);rintro e w22 ⟨yQ,rfl,ho0,hb⟩;refine ⟨_,rfl,?_⟩;have n_ := haq (Kd.R_lower ho0 (zh hCq)) <| haq (hbq yb.out hb) <| haq (zf hCq hb) <| trivial;clear yb HB;obtain ⟨ye,yb,HB,_⟩ := n_;(try clear hb);(try clear hb2);(try clear hk);(try clear hi);(try clear ho0);obtain ⟨hcz23_0,hcz23_1,hcz23_2,hcz23_3,hcz23_4,hcz23_5,hfz23_0,hfz23_1,hfz23_2,hfz23_3,hfz23_4,hfz23_5⟩ := hcq6 yb.out) | ((with_reducible refine zq (N := 25) rfl ?_);refine Kd.R_lit (Kd.int .i64) _ 3 ?hg (N := 25) ?hd (xs := ([a0_0,a0_1,a0_4,a0_5] : List Int)) (inner := [.int .i64 a0_0,.int .i64 a0_1,.int .i64 a0_4,.int .i64 a0_5]) (ok := fun _ => True) (okp := fun _ => True) ?hr ?hp (fun _ hk => hk) trivial (Below.refl _ _) (Nat.le_refl _) (by simp) ?_;(case hd => rfl);(case hg => rfl);(case hr => first | (go_simp;done) | (go_simp;rfl));(case hp => exact (zaC.one (show Kd.M (Kd.int .i64) _ _ _ a0_0 [.int .i64 a0_0] from rfl) (zaC.one (show Kd.M (Kd.int .i64) _ _ _ a0_1 [.int .i64 a0_1] from rfl) (zaC.one (show Kd.M (Kd.int .i64) _ _ _ a0_4 [.int .i64 a0_4] from rfl) (zaC.one (show Kd.M (Kd.int .i64) _ _ _ a0_5 [.int .i64 a0_5] from rfl) (zaC.none _ _))))));intro yR w24 ho25 hb hg_ hnew_;clear hg_ hnew_;(first | rw [← yq.out] at ho25 | (simp only [Int.reduceToNat] at ho25;rw [← yq.out] at ho25));have n_ := haq (Kd.R_below (hRq ye.out) hb) <| haq (Kd.R_lower ho25 (zh hCq)) <| haq (hbq yb.out hb) <| haq (zf hCq hb) <| trivial;clear ye yb HB;obtain ⟨ye,yf,yb,HB,_⟩ := n_;clear hb ho25;obtain ⟨Ao26,co26,eo26⟩ := Kd.R_slice yf.out;subst eo26) | ((with_reducible refine zN (f := 68) rfl ?_);refine zax (some 26) rfl rfl Try.func68 (by kernel_rfl) rfl #[.slice Ao26 yA.length co26,.func (.func 69) #[] #[]] rfl hMq ?_;(with_reducible refine (zav.calls _ _ yA ya _ ?side1 ?side2 A6.out).mono ?_);(case side1 => repeat (first | exact (Kd.R_reads' yf.out).2.2 | (with_reducible refine Kd.C_alloc ?_ _) | (with_reducible refine Kd.C_drewN ?_ _) | (with_reducible refine Kd.C_drew ?_)));(case side2 => exact (Kd.R_reads' yf.out).2.1);rintro e w27 ⟨yS,rfl,ho0,hb⟩;refine ⟨_,rfl,?_⟩;have n_ := haq (Kd.R_elder' (hRq ye.out) (Kd.R_base ho0) hb) <| haq (Kd.R_below (hRq yf.out) hb) <| haq (Kd.R_lower (Kd.R_new' ho0 (Kd.R_lt (hRq ye.out))) (zh hCq)) <| haq (hbq yb.out hb) <| haq (zf hCq hb) <| trivial;clear ye yf yb HB;obtain ⟨ye,yf,yg,yb,HB,_⟩ := n_;(try clear hb);(try clear hb2);(try clear hk);(try clear hi);(try clear ho0)))
           have n0_ := za.mk (Kd.R_drew ye.out)
           have n1_ := za.mk (Kd.R_drew yf.out)
           have n2_ := za.mk (Kd.R_drew yg.out)
           have n3_ := za.mk (zaa yb.out)
           have n4_ := za.mk (zp HB.out)
           clear ye
           clear yf
           clear yg
           clear yb
           clear HB
           have ye := n0_
           have yf := n1_
           have yg := n2_
           have yb := n3_
           have HB := n4_
           clear n0_ n1_ n2_ n3_ n4_
           obtain ⟨Ao29,co29,eo29⟩ := Kd.R_slice yg.out
           (first | subst eo29 | (injection eo29 with f1_ f2_ f3_;have f4_ := f1_.symm;have f5_ := f3_.symm;clear f1_ f2_ f3_;subst f4_;subst f5_))
           have yr : 0 ≤ (0 : Int) := (by omega)
           have yw : 0 < (ya.length : Int) := hFq
           obtain ⟨yi,yI,yk⟩ := Kd.at_string (Kd.R_reads' yg.out).2.2 0 yr yw
           cases yI
           have yM : (0 < ya.length) = True := eq_true (by omega)
           (try rw [show ((0 : Int)).toNat = 0 from rfl] at yk)
           (try rw [Addr.add_zero'] at yk)
           replace yr := eq_true yr
           replace yw := eq_true yw
           have yt : 0 ≤ (1 : Int) := (by omega)
           have yx : 1 < (ya.length : Int) := hFq
           obtain ⟨yF,yJ,yl⟩ := Kd.at_string (Kd.R_reads' yg.out).2.2 1 yt yx
           obtain rfl : yi = yF := (by injection yJ)
           (try simp only [show (1 : Int).toNat = 1 from rfl,Nat.reduceMul,Nat.reduceEqDiff,Go.Addr.add,↓reduceIte] at yl)
           have yN : (1 < ya.length) = True := eq_true (by omega)
           (try rw [show ((1 : Int)).toNat = 1 from rfl] at yl)
           replace yt := eq_true yt
           replace yx := eq_true yx
           have yu : 0 ≤ (2 : Int) := (by omega)
           have yy : 2 < (ya.length : Int) := hFq
           obtain ⟨yG,yK,ym⟩ := Kd.at_string (Kd.R_reads' yg.out).2.2 2 yu yy
           obtain rfl : yi = yG := (by injection yK)
           (try simp only [show (2 : Int).toNat = 2 from rfl,Nat.reduceMul,Nat.reduceEqDiff,Go.Addr.add,↓reduceIte] at ym)
           have yO : (2 < ya.length) = True := eq_true (by omega)
           (try rw [show ((2 : Int)).toNat = 2 from rfl] at ym)
           replace yu := eq_true yu
           replace yy := eq_true yy
           have yv : 0 ≤ (3 : Int) := (by omega)
           have yz : 3 < (ya.length : Int) := hFq
           obtain ⟨yH,yL,yn⟩ := Kd.at_string (Kd.R_reads' yg.out).2.2 3 yv yz
           obtain rfl : yi = yH := (by injection yL)
           (try simp only [show (3 : Int).toNat = 3 from rfl,Nat.reduceMul,Nat.reduceEqDiff,Go.Addr.add,↓reduceIte] at yn)
           have yP : (3 < ya.length) = True := eq_true (by omega)
           (try rw [show ((3 : Int)).toNat = 3 from rfl] at yn)
           replace yv := eq_true yv
           replace yz := eq_true yz
           obtain ⟨Ao30,co30,eo30⟩ := Kd.R_slice ye.out
           (first | subst eo30 | (injection eo30 with f1_ f2_ f3_;have f4_ := f1_.symm;have f5_ := f3_.symm;clear f1_ f2_ f3_;subst f4_;subst f5_))
           refine zbx (n := 24) (S := fun w' => w'.cell? ⟨yh,0,none⟩ = some (.int .i64 a0_0) ∧ w'.cell? ⟨yh,1,none⟩ = some (.int .i64 a0_1) ∧ w'.cell? ⟨yh,2,none⟩ = some (.slice A0_2 l0_2.length c0_2) ∧ w'.cell? ⟨yh,3,none⟩ = some (.slice A0_3 l0_3.length c0_3) ∧ w'.cell? ⟨yh,4,none⟩ = some (.int .i64 a0_4) ∧ w'.cell? ⟨yh,5,none⟩ = some (.int .i64 a0_5) ∧ w'.cell? yi = some (.string (zB ByteArray.empty ya 0)) ∧ w'.cell? ⟨yi.block,yi.off + 1,none⟩ = some (.string (zB ByteArray.empty ya 1)) ∧ w'.cell? ⟨yi.block,yi.off + 2,none⟩ = some (.string (zB ByteArray.empty ya 2)) ∧ w'.cell? ⟨yi.block,yi.off + 3,none⟩ = some (.string (zB ByteArray.empty ya 3))) (ds := []) (uQ 24 0) (by kernel_rfl) rfl rfl ⟨(zb yb.out 0).trans rfl,(zb yb.out 1).trans rfl,(zb yb.out 2).trans rfl,(zb yb.out 3).trans rfl,(zb yb.out 4).trans rfl,(zb yb.out 5).trans rfl,yk,yl,ym,yn⟩ (fun hHeld => ?_);refine zaG zaz.tab5 zaz.bits5 (fun HT_ HW_ => ?_)
           generalize w27.drew = w28 at ye yf yg yb HB yk yl ym yn hHeld ⊢
           refine puq (i := 0) (N := some 27) HT_.out (uQ 24 1) ?_
           refine puq (i := 1) (N := some 28) HT_.out (uQ 24 2) ?_
           refine puq (i := 3) (N := some 30) HT_.out #[true,true,false,true,false,false,false,false,false,false,false,false,false,false,false,false,false,false,false,false,false,false,false,false] ?_
           refine puq (i := 4) (N := some 31) HT_.out #[true,true,false,true,true,false,false,false,false,false,false,false,false,false,false,false,false,false,false,false,false,false,false,false] ?_
           refine puq (i := 7) (N := some 34) HT_.out #[true,true,false,true,true,false,false,true,false,false,false,false,false,false,false,false,false,false,false,false,false,false,false,false] ?_
           refine puq (i := 10) (N := some 37) HT_.out #[true,true,false,true,true,false,false,true,false,false,true,false,false,false,false,false,false,false,false,false,false,false,false,false] ?_
           refine puq (i := 14) (N := some 41) HT_.out #[true,true,false,true,true,false,false,true,false,false,true,false,false,false,true,false,false,false,false,false,false,false,false,false] ?_
           refine puq (i := 15) (N := some 42) HT_.out #[true,true,false,true,true,false,false,true,false,false,true,false,false,false,true,true,false,false,false,false,false,false,false,false] ?_
           refine puq (i := 18) (N := some 45) HT_.out #[true,true,false,true,true,false,false,true,false,false,true,false,false,false,true,true,false,false,true,false,false,false,false,false] ?_
           refine puq (i := 19) (N := some 46) HT_.out #[true,true,false,true,true,false,false,true,false,false,true,false,false,false,true,true,false,false,true,true,false,false,false,false] ?_
           refine take_ (i := 2) (N := some 29) #[true,true,true,true,true,false,false,true,false,false,true,false,false,false,true,true,false,false,true,true,false,false,false,false] rfl rfl (zU HT_.out HW_.out (by kernel_rfl)) (fun _ _ _ h => h) (Or.inl ⟨by rfl,by rintro w' ⟨s0,s1,s2,s3,s4,s5,s6,s7,s8,s9⟩;go_simp;with_reducible rfl⟩) hHeld hPq ?_
           refine take_ (i := 5) (N := some 32) #[true,true,true,true,true,true,false,true,false,false,true,false,false,false,true,true,false,false,true,true,false,false,false,false] rfl rfl (zU HT_.out HW_.out (by kernel_rfl)) (fun _ _ _ h => h) (Or.inl ⟨by rfl,by rintro w' ⟨s0,s1,s2,s3,s4,s5,s6,s7,s8,s9⟩;go_simp;with_reducible rfl⟩) hHeld hPq ?_
           refine puq (i := 6) (N := some 33) HT_.out #[true,true,true,true,true,true,true,true,false,false,true,false,false,false,true,true,false,false,true,true,false,false,false,false] ?_
           refine take_ (i := 11) (N := some 38) #[true,true,true,true,true,true,true,true,false,false,true,true,false,false,true,true,false,false,true,true,false,false,false,false] rfl rfl (zU HT_.out HW_.out (by kernel_rfl)) (fun _ _ _ h => h) (Or.inl ⟨by rfl,by rintro w' ⟨s0,s1,s2,s3,s4,s5,s6,s7,s8,s9⟩;go_simp;with_reducible rfl⟩) hHeld hPq ?_
           refine take_ (i := 16) (N := some 43) #[true,true,true,true,true,true,true,true,false,false,true,true,false,false,true,true,true,false,true,true,false,false,false,false] rfl rfl (zU HT_.out HW_.out (by kernel_rfl)) (fun _ _ _ h => h) (Or.inl ⟨by rfl,by rintro w' ⟨s0,s1,s2,s3,s4,s5,s6,s7,s8,s9⟩;go_simp;with_reducible rfl⟩) hHeld hPq ?_
           refine take_ (i := 20) (N := some 47) #[true,true,true,true,true,true,true,true,false,false,true,true,false,false,true,true,true,false,true,true,true,false,false,false] rfl rfl (zU HT_.out HW_.out (by kernel_rfl)) (fun _ _ _ h => h) (Or.inl ⟨by rfl,by rintro w' ⟨s0,s1,s2,s3,s4,s5,s6,s7,s8,s9⟩;go_simp;with_reducible rfl⟩) hHeld hPq ?_
           refine zcl (i := 8) (N := some 35) #[true,true,true,true,true,true,true,true,true,false,true,true,false,false,true,true,true,false,true,true,true,false,false,false] rfl rfl (zaY HT_.out (by kernel_rfl)) (by decide) (fun K hK => ?_)
           refine zbs Try.func71 (by kernel_rfl) rfl #[.slice Ao30 yj.length co30] (by rfl) rfl rfl hMq ?_
           with_reducible refine (zV.calls _ _ yj yc _ ?side1 ?side2 A10.out).mono ?_
           (case side1 => repeat (first | exact (Kd.R_reads' ye.out).2.2 | (with_reducible refine Kd.C_alloc ?_ _) | (with_reducible refine Kd.C_drewN ?_ _) | (with_reducible refine Kd.C_drew ?_)))
           (case side2 => exact (Kd.R_reads' ye.out).2.1)
           rintro e w31 ⟨rfl,hb⟩
           have HS6_ := (hb.cell (World.block_lt_of_cell? _ _ (hHeld.2.2.2.2.2.2.1))).trans (hHeld.2.2.2.2.2.2.1)
           have HS7_ := (hb.cell (World.block_lt_of_cell? _ _ (hHeld.2.2.2.2.2.2.2.1))).trans (hHeld.2.2.2.2.2.2.2.1)
           have HS8_ := (hb.cell (World.block_lt_of_cell? _ _ (hHeld.2.2.2.2.2.2.2.2.1))).trans (hHeld.2.2.2.2.2.2.2.2.1)
           have HS9_ := (hb.cell (World.block_lt_of_cell? _ _ (hHeld.2.2.2.2.2.2.2.2.2))).trans (hHeld.2.2.2.2.2.2.2.2.2)
           refine ⟨_,rfl,?_⟩
           have n0_ := za.mk (Kd.R_below (hRq ye.out) hb)
           have n1_ := za.mk (Kd.R_below (hRq yf.out) hb)
           have n2_ := za.mk (Kd.R_below (hRq yg.out) hb)
           have n3_ := za.mk (hbq yb.out hb)
           have n4_ := za.mk (zf hCq hb)
           clear ye
           clear yf
           clear yg
           clear yb
           clear HB
           have ye := n0_
           have yf := n1_
           have yg := n2_
           have yb := n3_
           have HB := n4_
           clear n0_ n1_ n2_ n3_ n4_
           (try clear hb)
           (try clear hb2)
           (try clear hk)
           (try clear hi)
           refine hK.out _ _ ⟨(zb yb.out 0).trans rfl,(zb yb.out 1).trans rfl,(zb yb.out 2).trans rfl,(zb yb.out 3).trans rfl,(zb yb.out 4).trans rfl,(zb yb.out 5).trans rfl,HS6_,HS7_,HS8_,HS9_⟩ (fun hHeld => ?_)
           clear hK K
           refine zbu (a' := ?_) ?_ ?_
           rotate_left
           ·show Act.put _ (some 35) _ = _
            simp only [Act.put,List.setIfInBounds_toArray,List.set_cons_zero,List.set_cons_succ,zah,zaj]
            rfl
           refine puq (i := 9) (N := some 36) HT_.out #[true,true,true,true,true,true,true,true,true,true,true,true,false,false,true,true,true,false,true,true,true,false,false,false] ?_
           refine zcl (i := 12) (N := some 39) #[true,true,true,true,true,true,true,true,true,true,true,true,true,false,true,true,true,false,true,true,true,false,false,false] rfl rfl (zaY HT_.out (by kernel_rfl)) (by decide) (fun K hK => ?_)
           refine zbs Try.func71 (by kernel_rfl) rfl #[.slice A0_3 l0_3.length c0_3] (by rfl) rfl rfl hMq ?_
           with_reducible refine (zV.calls _ _ l0_3 yd _ ?side1 ?side2 A12.out).mono ?_
           (case side1 => exact hKq (Kd.C_below HR0_3.out HB.out))
           (case side2 => exact HC0_3.out)
           rintro e w32 ⟨rfl,hb⟩
           have HS6_ := (hb.cell (World.block_lt_of_cell? _ _ (hHeld.2.2.2.2.2.2.1))).trans (hHeld.2.2.2.2.2.2.1)
           have HS7_ := (hb.cell (World.block_lt_of_cell? _ _ (hHeld.2.2.2.2.2.2.2.1))).trans (hHeld.2.2.2.2.2.2.2.1)
           have HS8_ := (hb.cell (World.block_lt_of_cell? _ _ (hHeld.2.2.2.2.2.2.2.2.1))).trans (hHeld.2.2.2.2.2.2.2.2.1)
           have HS9_ := (hb.cell (World.block_lt_of_cell? _ _ (hHeld.2.2.2.2.2.2.2.2.2))).trans (hHeld.2.2.2.2.2.2.2.2.2)
           refine ⟨_,rfl,?_⟩
           have n0_ := za.mk (Kd.R_below (hRq ye.out) hb)
           have n1_ := za.mk (Kd.R_below (hRq yf.out) hb)
           have n2_ := za.mk (Kd.R_below (hRq yg.out) hb)
           have n3_ := za.mk (hbq yb.out hb)
           have n4_ := za.mk (zf hCq hb)
           clear ye
           clear yf
           clear yg
           clear yb
           clear HB
           have ye := n0_
           have yf := n1_
           have yg := n2_
           have yb := n3_
           have HB := n4_
           clear n0_ n1_ n2_ n3_ n4_
           (try clear hb)
           (try clear hb2)
           (try clear hk)
           (try clear hi)
           refine hK.out _ _ ⟨(zb yb.out 0).trans rfl,(zb yb.out 1).trans rfl,(zb yb.out 2).trans rfl,(zb yb.out 3).trans rfl,(zb yb.out 4).trans rfl,(zb yb.out 5).trans rfl,HS6_,HS7_,HS8_,HS9_⟩ (fun hHeld => ?_)
           clear hK K
           refine zbu (a' := ?_) ?_ ?_
           rotate_left
           ·show Act.put _ (some 39) _ = _
            simp only [Act.put,List.setIfInBounds_toArray,List.set_cons_zero,List.set_cons_succ,zah,zaj]
            rfl
           refine puq (i := 13) (N := some 40) HT_.out #[true,true,true,true,true,true,true,true,true,true,true,true,true,true,true,true,true,false,true,true,true,false,false,false] ?_
           refine puq (i := 17) (N := some 44) HT_.out (uQ 24 21) ?_
           refine puq (i := 21) (N := some 48) HT_.out (uQ 24 22) ?_
           refine puq (i := 22) (N := some 4) HT_.out (uQ 24 23) ?_
           refine puq (i := 23) (N := some 5) HT_.out (uQ 24 24) ?_
           refine zbG (zaM HT_.out (by kernel_rfl)) ?_
           try go_wp2
           go_ret2
           exact ⟨hHq,hCq⟩
          ·rw [if_neg c17] at H
           exact absurd H (by simp)
         ·rw [if_neg c16] at H
          exact absurd H (by simp)
        ·rw [if_neg c15] at H
         exact absurd H (by simp)
       ·rw [if_neg c14] at H
        exact absurd H (by simp)
      ·rw [if_neg c13] at H
       exact absurd H (by simp)
     ·rw [if_neg c11] at H
      exact absurd H (by simp)
    ·rw [if_neg c9] at H
     exact absurd H (by simp)
   ·rw [if_neg c8] at H
    exact absurd H (by simp)
  ·rw [if_neg c7] at H
   exact absurd H (by simp)
 ·replace c4 := Bool.eq_false_iff.mpr c4
  subst c4
  have H1 : (some ((⟨#[]⟩ : ByteArray),1)) = some (r1,r2) := by rw [if_neg (show ¬ (false = true) by decide)] at H;exact H
  clear H
  have H := H1
  clear H1
  simp only [Option.some.injEq,Prod.mk.injEq] at H
  obtain ⟨rfl,rfl⟩ := H
  go_enter Try.func49,Try.ntmps49
  go_wp2_with (first | ((with_reducible refine zq (N := 2) rfl ?_);refine zn rfl (N := 2) rfl (cs := #[.int .i64 a0_0,.int .i64 a0_1,.slice A0_2 l0_2.length c0_2,.slice A0_3 l0_3.length c0_3,.int .i64 a0_4,.int .i64 a0_5]) (t := 32) hrq ?_;intro yh hg w33 hbox hb;have n_ := haq (zf hBq hb) <| haq (hbox) <| haq ((by rw [hg];exact (zh hBq) : w.heap.size ≤ yh)) <| haq ((by rw [hg];exact (zh hBq) : w.heap.size ≤ yh)) <| trivial;clear HB;obtain ⟨HB,yb,yE,yD,_⟩ := n_;clear hb hbox hg;obtain ⟨hcz34_0,hcz34_1,hcz34_2,hcz34_3,hcz34_4,hcz34_5,hfz34_0,hfz34_1,hfz34_2,hfz34_3,hfz34_4,hfz34_5⟩ := hcq6 yb.out) | ((with_reducible refine zN (f := 64) rfl ?_);refine zax (some 10) rfl rfl Try.func64 (by kernel_rfl) rfl #[.agg #[.int .i64 a0_0,.int .i64 a0_1,.slice A0_2 l0_2.length c0_2,.slice A0_3 l0_3.length c0_3,.int .i64 a0_4,.int .i64 a0_5],.int .i64 a1] rfl hMq ?_;(with_reducible refine (zaA.calls a0_0 a0_1 _ _ l0_2 _ _ l0_3 a0_4 a0_5 a1 false _ ?side1 ?side2 ?side3 ?side4 A3.out).mono ?_);(case side1 => exact hKq (Kd.C_below HR0_2.out HB.out));(case side2 => exact HC0_2.out);(case side3 => exact hKq (Kd.C_below HR0_3.out HB.out));(case side4 => exact HC0_3.out);rintro e w35 ⟨rfl,hb⟩;refine ⟨_,rfl,?_⟩;have n_ := haq (hbq yb.out hb) <| haq (zf hCq hb) <| trivial;clear yb HB;obtain ⟨yb,HB,_⟩ := n_;(try clear hb);(try clear hb2);(try clear hk);(try clear hi)))
  go_ret2
  exact ⟨hHq,hCq⟩
def za4.f (a0_0 : Int) (a0_1 : Int) (l0_2 : List (S78)) (l0_3 : List ByteArray) (a0_4 : Int) (a0_5 : Int) (a1 : Int) : Option (ByteArray × Int) := (zaz.f a0_0 a0_1 l0_2 l0_3 a0_4 a0_5 a1).bind fun yb => (if yb.2 = 0 then (if 1 + yb.1.size ≤ 9223372036854775807 then ((zcN.f ((⟨#[118]⟩ : ByteArray) ++ yb.1)).bind fun yf => (some (yf,0))) else (none)) else (some ((⟨#[]⟩ : ByteArray),yb.2)))
set_option maxHeartbeats 8000000 in
set_option maxRecDepth 100000 in
theorem za4.calls (a0_0 : Int) (a0_1 : Int) (A0_2 : Option Addr) (c0_2 : Nat) (l0_2 : List (S78)) (A0_3 : Option Addr) (c0_3 : Nat) (l0_3 : List ByteArray) (a0_4 : Int) (a0_5 : Int) (a1 : Int) (r1 : ByteArray) (r2 : Int) (w : World) (hr0_2 : Kd.C k78 w A0_2 l0_2.length l0_2) (hc0_2 : l0_2.length ≤ c0_2) (hr0_3 : Kd.C Kd.string w A0_3 l0_3.length l0_3) (hc0_3 : l0_3.length ≤ c0_3) (h : za4.f a0_0 a0_1 l0_2 l0_3 a0_4 a0_5 a1 = some (r1,r2)) :
  Calls Try.prog 31 #[.agg #[.int .i64 a0_0,.int .i64 a0_1,.slice A0_2 l0_2.length c0_2,.slice A0_3 l0_3.length c0_3,.int .i64 a0_4,.int .i64 a0_5],.int .i64 a1] w fun e w' => e = .returned (.tuple #[.string r1,.int .i64 r2]) ∧ Below w.heap.size w w' := by
 have hu32 := Try.underlying32
 have HR0_2 := za.mk hr0_2
 have HC0_2 := za.mk hc0_2
 clear hr0_2 hc0_2
 have HR0_3 := za.mk hr0_3
 have HC0_3 := za.mk hc0_3
 clear hr0_3 hc0_3
 have HB := za.mk (Below.refl w.heap.size w)
 have H : ((zaz.f a0_0 a0_1 l0_2 l0_3 a0_4 a0_5 a1).bind fun yb => (if yb.2 = 0 then (if 1 + yb.1.size ≤ 9223372036854775807 then ((zcN.f ((⟨#[118]⟩ : ByteArray) ++ yb.1)).bind fun yf => (some (yf,0))) else (none)) else (some ((⟨#[]⟩ : ByteArray),yb.2)))) = some (r1,r2) := h
 clear h
 replace H := Option.bind_eq_some_iff.mp H
 obtain ⟨⟨yc,yd⟩,A30,H⟩ := H
 replace H : (if yd = 0 then (if 1 + yc.size ≤ 9223372036854775807 then ((zcN.f ((⟨#[118]⟩ : ByteArray) ++ yc)).bind fun yf => (some (yf,0))) else (none)) else (some ((⟨#[]⟩ : ByteArray),yd))) = some (r1,r2) := H
 have A3 := za.mk A30
 clear A30
 by_cases c4 : yd = 0
 ·rw [if_pos c4] at H
  have c4b0 : (yd == 0) = true := beq_iff_eq.mpr c4
  have c4b1 : (yd != 0) = false := bne_eq_false_iff_eq.mpr c4
  clear c4
  by_cases c5 : 1 + yc.size ≤ 9223372036854775807
  ·rw [if_pos c5] at H
   have c5b0 := eq_true c5
   have c5b1 : decide (1 + yc.size ≤ 9223372036854775807) = true := decide_eq_true c5
   try have c5b2 : (9223372036854775807 < 1 + yc.size) = False := eq_false (Nat.not_lt.2 c5)
   replace H := Option.bind_eq_some_iff.mp H
   obtain ⟨yf,A60,H⟩ := H
   replace H : (some (yf,0)) = some (r1,r2) := H
   have A6 := za.mk A60
   clear A60
   simp only [Option.some.injEq,Prod.mk.injEq] at H
   obtain ⟨rfl,rfl⟩ := H
   go_enter Try.func31,Try.ntmps31
   go_wp2_with (first | ((with_reducible refine zq (N := 2) rfl ?_);refine zn rfl (N := 2) rfl (cs := #[.int .i64 a0_0,.int .i64 a0_1,.slice A0_2 l0_2.length c0_2,.slice A0_3 l0_3.length c0_3,.int .i64 a0_4,.int .i64 a0_5]) (t := 32) hrq ?_;intro ye hg w7 hbox hb;have n_ := haq (zf hBq hb) <| haq (hbox) <| haq ((by rw [hg];exact (zh hBq) : w.heap.size ≤ ye)) <| haq ((by rw [hg];exact (zh hBq) : w.heap.size ≤ ye)) <| trivial;clear HB;obtain ⟨HB,ya,yh,yg,_⟩ := n_;clear hb hbox hg;obtain ⟨hcz8_0,hcz8_1,hcz8_2,hcz8_3,hcz8_4,hcz8_5,hfz8_0,hfz8_1,hfz8_2,hfz8_3,hfz8_4,hfz8_5⟩ := hcq6 ya.out) | ((with_reducible refine zN (f := 49) rfl ?_);refine zax (some 11) rfl rfl Try.func49 (by kernel_rfl) rfl #[.agg #[.int .i64 a0_0,.int .i64 a0_1,.slice A0_2 l0_2.length c0_2,.slice A0_3 l0_3.length c0_3,.int .i64 a0_4,.int .i64 a0_5],.int .i64 a1] rfl hMq ?_;(with_reducible refine (zaz.calls a0_0 a0_1 _ _ l0_2 _ _ l0_3 a0_4 a0_5 a1 yc yd _ ?side1 ?side2 ?side3 ?side4 A3.out).mono ?_);(case side1 => exact hKq (Kd.C_below HR0_2.out HB.out));(case side2 => exact HC0_2.out);(case side3 => exact hKq (Kd.C_below HR0_3.out HB.out));(case side4 => exact HC0_3.out);rintro e w9 ⟨rfl,hb⟩;refine ⟨_,rfl,?_⟩;have n_ := haq (hbq ya.out hb) <| haq (zf hCq hb) <| trivial;clear ya HB;obtain ⟨ya,HB,_⟩ := n_;(try clear hb);(try clear hb2);(try clear hk);(try clear hi)) | ((with_reducible refine zN (f := 50) rfl ?_);refine zax (some 19) rfl rfl Try.func50 (by kernel_rfl) rfl #[.string ((⟨#[118]⟩ : ByteArray) ++ yc)] rfl hMq ?_;(with_reducible refine (zcN.calls ((⟨#[118]⟩ : ByteArray) ++ yc) yf _ A6.out).mono ?_);rintro e w10 ⟨rfl,hb⟩;refine ⟨_,rfl,?_⟩;have n_ := haq (hbq ya.out hb) <| haq (zf hCq hb) <| trivial;clear ya HB;obtain ⟨ya,HB,_⟩ := n_;(try clear hb);(try clear hb2);(try clear hk);(try clear hi)))
   go_ret2
   exact ⟨hHq,hCq⟩
  ·rw [if_neg c5] at H
   exact absurd H (by simp)
 ·rw [if_neg c4] at H
  have c4b0 : (yd == 0) = false := beq_eq_false_iff_ne.mpr c4
  have c4b1 : (yd != 0) = true := bne_iff_ne.mpr c4
  simp only [Option.some.injEq,Prod.mk.injEq] at H
  obtain ⟨rfl,rfl⟩ := H
  go_enter Try.func31,Try.ntmps31
  go_wp2_with (first | ((with_reducible refine zq (N := 2) rfl ?_);refine zn rfl (N := 2) rfl (cs := #[.int .i64 a0_0,.int .i64 a0_1,.slice A0_2 l0_2.length c0_2,.slice A0_3 l0_3.length c0_3,.int .i64 a0_4,.int .i64 a0_5]) (t := 32) hrq ?_;intro ye hg w11 hbox hb;have n_ := haq (zf hBq hb) <| haq (hbox) <| haq ((by rw [hg];exact (zh hBq) : w.heap.size ≤ ye)) <| haq ((by rw [hg];exact (zh hBq) : w.heap.size ≤ ye)) <| trivial;clear HB;obtain ⟨HB,ya,yh,yg,_⟩ := n_;clear hb hbox hg;obtain ⟨hcz12_0,hcz12_1,hcz12_2,hcz12_3,hcz12_4,hcz12_5,hfz12_0,hfz12_1,hfz12_2,hfz12_3,hfz12_4,hfz12_5⟩ := hcq6 ya.out) | ((with_reducible refine zN (f := 49) rfl ?_);refine zax (some 11) rfl rfl Try.func49 (by kernel_rfl) rfl #[.agg #[.int .i64 a0_0,.int .i64 a0_1,.slice A0_2 l0_2.length c0_2,.slice A0_3 l0_3.length c0_3,.int .i64 a0_4,.int .i64 a0_5],.int .i64 a1] rfl hMq ?_;(with_reducible refine (zaz.calls a0_0 a0_1 _ _ l0_2 _ _ l0_3 a0_4 a0_5 a1 yc yd _ ?side1 ?side2 ?side3 ?side4 A3.out).mono ?_);(case side1 => exact hKq (Kd.C_below HR0_2.out HB.out));(case side2 => exact HC0_2.out);(case side3 => exact hKq (Kd.C_below HR0_3.out HB.out));(case side4 => exact HC0_3.out);rintro e w13 ⟨rfl,hb⟩;refine ⟨_,rfl,?_⟩;have n_ := haq (hbq ya.out hb) <| haq (zf hCq hb) <| trivial;clear ya HB;obtain ⟨ya,HB,_⟩ := n_;(try clear hb);(try clear hb2);(try clear hk);(try clear hi)))
  go_ret2
  exact ⟨hHq,hCq⟩
def zz.l0 : Nat → List (S78) → List (S78) → Int → Option (Bool)
 | 0,_,_,_ => none
 | k + 1,x0,x1,x5 => if x5 < (x0.length : Int) then (if 0 ≤ x5 then (if x5 < (x1.length : Int) then ((zbb.f k ((zO x0 x5).f0) ((zO x0 x5).f1) ((zO x0 x5).f2) ((zO x1 x5).f0) ((zO x1 x5).f1) ((zO x1 x5).f2)).bind fun yF => (if yF = true then (zz.l0 k x0 x1 (wrap64 (x5 + 1))) else (some false))) else (none)) else (none)) else (some true)
def zz.f (k : Nat) (l0 : List (S78)) (l1 : List (S78)) : Option (Bool) := if (l0.length : Int) = (l1.length : Int) then (zz.l0 k l0 l1 0) else (some false)
def zz.T6 : Bool × List (List Nat × List Nat) := (true,[([],[]),([],[]),([0,1],[0,1]),([2],[2]),([],[]),([],[]),([4,5],[4,5]),([6],[6]),([3,7],[3,7]),([8,8,0,1,2,3,4,5,6,7,8],[8])])
def zz.B6 : List Nat := [0,0,3,7,0,0,48,112,255,511]
theorem zz.tab6 : zb3 .any (zdC Try.f44 6) = zz.T6 := by kernel_rfl
theorem zz.bits6 : zbD zz.T6.2 zz.B6 = true := by kernel_rfl
set_option maxHeartbeats 8000000 in
set_option maxRecDepth 100000 in
theorem zz.calls (k : Nat) (A0 : Option Addr) (c0 : Nat) (l0 : List (S78)) (A1 : Option Addr) (c1 : Nat) (l1 : List (S78)) (r : Bool) (w : World) (hr0 : Kd.C k78 w A0 l0.length l0) (hc0 : l0.length ≤ c0) (hr1 : Kd.C k78 w A1 l1.length l1) (hc1 : l1.length ≤ c1) (h : zz.f k l0 l1 = some r) :
  Calls Try.prog 44 #[.slice A0 l0.length c0,.slice A1 l1.length c1] w fun e w' => e = .returned (.bool r) ∧ Below w.heap.size w w' := by
 have hu78 := Try.underlying78
 have HR0 := za.mk hr0
 have HC0 := za.mk hc0
 clear hr0 hc0
 have HR1 := za.mk hr1
 have HC1 := za.mk hc1
 clear hr1 hc1
 have HB := za.mk (Below.refl w.heap.size w)
 have H : (if (l0.length : Int) = (l1.length : Int) then (zz.l0 k l0 l1 0) else (some false)) = some r := h
 clear h
 by_cases c3 : (l0.length : Int) = (l1.length : Int)
 ·rw [if_pos c3] at H
  have c3b0 : ((l0.length : Int) == (l1.length : Int)) = true := beq_iff_eq.mpr c3
  have c3b1 : ((l0.length : Int) != (l1.length : Int)) = false := bne_eq_false_iff_eq.mpr c3
  have c3b2 : (l0.length == l1.length) = true := by first | simpa using c3 | (simp at c3 ⊢;omega)
  clear c3
  have H' := za.mk H
  clear H
  go_enter Try.func44,Try.ntmps44
  go_wp2
  go_loopg [5] k (fun kq v5 w' => ∃ (x5_1 : Int),v5 = .int .i64 x5_1 ∧ za (zz.l0 kq l0 l1 x5_1 = some r) ∧ za (kq ≤ k) ∧ za (Below w.heap.size w w'))
  case atStart => exact ⟨(0),(hDq),H',⟨Nat.le_refl _⟩,⟨by repeat (first | (with_reducible first | exact HB.out | apply zm | apply zj | apply zp) | exact HB.out)⟩⟩
  case round =>
   clear H'
   try clear c1;try clear p2;try clear c3;try clear c3b0;try clear c3b1;try clear c3b2
   obtain ⟨x5_1,rfl,HA,HK1,HB⟩ := hrel
   cases gk with
   | zero => exact absurd HA.out (by simp [zz.l0])
   | succ k1 =>
    have H := HA.out
    clear HA
    simp only [zz.l0] at H
    by_cases c4 : x5_1 < (l0.length : Int)
    ·rw [if_pos c4] at H
     have c4b0 : decide (x5_1 < (l0.length : Int)) = true := decide_eq_true c4
     clear c4
     by_cases c5 : 0 ≤ x5_1
     ·rw [if_pos c5] at H
      have c5b0 : decide (0 ≤ x5_1) = true := decide_eq_true c5
      clear c5
      by_cases c6 : x5_1 < (l1.length : Int)
      ·rw [if_pos c6] at H
       have c6b0 : decide (x5_1 < (l1.length : Int)) = true := decide_eq_true c6
       clear c6
       replace H := Option.bind_eq_some_iff.mp H
       obtain ⟨yF,A70,H⟩ := H
       replace H : (if yF = true then (zz.l0 k1 l0 l1 (wrap64 (x5_1 + 1))) else (some false)) = some r := H
       have A7 := za.mk A70
       clear A70
       by_cases c8 : yF = true
       ·subst c8
        have H1 : (zz.l0 k1 l0 l1 (wrap64 (x5_1 + 1))) = some r := by rw [if_pos rfl] at H;exact H
        clear H
        have H := H1
        clear H1
        have H' := za.mk H
        clear H
        try go_wp2
        have n0_ := za.mk (zp HB.out)
        clear HB
        have HB := n0_
        clear n0_
        have yB : 0 ≤ (x5_1 : Int) := hFq
        have yD : x5_1 < (l0.length : Int) := hFq
        obtain ⟨ym,yv,yx,yG,ya,yb,yc,yt,yq⟩ := zca HR0.out x5_1 yB yD
        have yi := yc
        have yh := yb
        have yg := ya
        cases yG
        replace ya := (HB.out.cell (World.block_lt_of_cell? w _ ya)).trans ya
        replace yb := (HB.out.cell (World.block_lt_of_cell? w _ yb)).trans yb
        replace yc := (HB.out.cell (World.block_lt_of_cell? w _ yc)).trans yc
        have yo := za.mk yq
        have yz := za.mk yt
        clear yq yt
        replace yB := eq_true yB
        replace yD := eq_true yD
        have yC : 0 ≤ (x5_1 : Int) := hFq
        have yE : x5_1 < (l1.length : Int) := hFq
        obtain ⟨yn,yw,yy,yH,yd,ye,yf,yu,yr⟩ := zca HR1.out x5_1 yC yE
        have yl := yf
        have yk := ye
        have yj := yd
        cases yH
        replace yd := (HB.out.cell (World.block_lt_of_cell? w _ yd)).trans yd
        replace ye := (HB.out.cell (World.block_lt_of_cell? w _ ye)).trans ye
        replace yf := (HB.out.cell (World.block_lt_of_cell? w _ yf)).trans yf
        have yp := za.mk yr
        have yA := za.mk yu
        clear yr yu
        replace yC := eq_true yC
        replace yE := eq_true yE
        refine zbx (n := 10) (S := fun w' => w'.cell? (ym.add ((x5_1).toNat * 3)) = some (.int .i64 ((zO l0 x5_1).f0)) ∧ w'.cell? ⟨(ym.add ((x5_1).toNat * 3)).block,(ym.add ((x5_1).toNat * 3)).off + 1,none⟩ = some (.int .i64 ((zO l0 x5_1).f1)) ∧ w'.cell? ⟨(ym.add ((x5_1).toNat * 3)).block,(ym.add ((x5_1).toNat * 3)).off + 2,none⟩ = some (.slice yv ((zO l0 x5_1).f2).length yx) ∧ w'.cell? (yn.add ((x5_1).toNat * 3)) = some (.int .i64 ((zO l1 x5_1).f0)) ∧ w'.cell? ⟨(yn.add ((x5_1).toNat * 3)).block,(yn.add ((x5_1).toNat * 3)).off + 1,none⟩ = some (.int .i64 ((zO l1 x5_1).f1)) ∧ w'.cell? ⟨(yn.add ((x5_1).toNat * 3)).block,(yn.add ((x5_1).toNat * 3)).off + 2,none⟩ = some (.slice yw ((zO l1 x5_1).f2).length yy)) (ds := []) (uQ 10 0) (by kernel_rfl) rfl rfl ⟨((HB.out.cell (World.block_lt_of_cell? w _ yg)).trans yg),((HB.out.cell (World.block_lt_of_cell? w _ yh)).trans yh),((HB.out.cell (World.block_lt_of_cell? w _ yi)).trans yi),((HB.out.cell (World.block_lt_of_cell? w _ yj)).trans yj),((HB.out.cell (World.block_lt_of_cell? w _ yk)).trans yk),((HB.out.cell (World.block_lt_of_cell? w _ yl)).trans yl)⟩ (fun hHeld => ?_);refine zaG zz.tab6 zz.bits6 (fun HT_ HW_ => ?_)
        generalize wr.drew = w9 at HB yo yp ya yb yc yd ye yf hHeld ⊢
        refine puq (i := 0) (N := some 18) HT_.out (uQ 10 1) ?_
        refine puq (i := 1) (N := some 19) HT_.out (uQ 10 2) ?_
        refine puq (i := 2) (N := some 20) HT_.out (uQ 10 3) ?_
        refine puq (i := 4) (N := some 22) HT_.out #[true,true,true,false,true,false,false,false,false,false] ?_
        refine puq (i := 5) (N := some 23) HT_.out #[true,true,true,false,true,true,false,false,false,false] ?_
        refine puq (i := 6) (N := some 24) HT_.out #[true,true,true,false,true,true,true,false,false,false] ?_
        refine take_ (i := 3) (N := some 21) (uQ 10 7) rfl rfl (zU HT_.out HW_.out (by kernel_rfl)) (fun _ _ _ h => h) (Or.inl ⟨by rfl,by rintro w' ⟨s0,s1,s2,s3,s4,s5⟩;go_simp;with_reducible rfl⟩) hHeld hPq ?_
        refine take_ (i := 7) (N := some 25) (uQ 10 8) rfl rfl (zU HT_.out HW_.out (by kernel_rfl)) (fun _ _ _ h => h) (Or.inl ⟨by rfl,by rintro w' ⟨s0,s1,s2,s3,s4,s5⟩;go_simp;with_reducible rfl⟩) hHeld hPq ?_
        refine zcl (i := 8) (N := some 26) (uQ 10 9) rfl rfl (zaY HT_.out (by kernel_rfl)) (by decide) (fun K hK => ?_)
        refine zbs Try.func62 (by kernel_rfl) rfl #[.agg #[.int .i64 ((zO l0 x5_1).f0),.int .i64 ((zO l0 x5_1).f1),.slice yv ((zO l0 x5_1).f2).length yx],.agg #[.int .i64 ((zO l1 x5_1).f0),.int .i64 ((zO l1 x5_1).f1),.slice yw ((zO l1 x5_1).f2).length yy]] (by rfl) rfl rfl hMq ?_
        with_reducible refine (zbb.calls k1 ((zO l0 x5_1).f0) ((zO l0 x5_1).f1) _ _ ((zO l0 x5_1).f2) ((zO l1 x5_1).f0) ((zO l1 x5_1).f1) _ _ ((zO l1 x5_1).f2) true _ ?side1 ?side2 ?side3 ?side4 A7.out).mono ?_
        (case side1 => exact hKq (Kd.C_below yo.out HB.out))
        (case side2 => exact yz.out)
        (case side3 => exact hKq (Kd.C_below yp.out HB.out))
        (case side4 => exact yA.out)
        rintro e w10 ⟨rfl,hb⟩
        refine ⟨_,rfl,?_⟩
        have n0_ := za.mk (zf hBq hb)
        clear HB
        have HB := n0_
        clear n0_
        (try clear hb)
        (try clear hb2)
        (try clear hk)
        (try clear hi)
        refine hK.out _ _ ⟨((HB.out.cell (World.block_lt_of_cell? w _ yg)).trans yg),((HB.out.cell (World.block_lt_of_cell? w _ yh)).trans yh),((HB.out.cell (World.block_lt_of_cell? w _ yi)).trans yi),((HB.out.cell (World.block_lt_of_cell? w _ yj)).trans yj),((HB.out.cell (World.block_lt_of_cell? w _ yk)).trans yk),((HB.out.cell (World.block_lt_of_cell? w _ yl)).trans yl)⟩ (fun hHeld => ?_)
        clear hK K
        refine zbu (a' := ?_) ?_ ?_
        rotate_left
        ·show Act.put _ (some 26) _ = _
         simp only [Act.put,List.setIfInBounds_toArray,List.set_cons_zero,List.set_cons_succ,zah,zaj]
         rfl
        refine puq (i := 9) (N := some 6) HT_.out (uQ 10 10) ?_
        refine zbG (zaM HT_.out (by kernel_rfl)) ?_
        try go_wp2
        go_roundg k1
        case measure => have := HK1.out;omega
        case rel => exact ⟨(wrap64 (x5_1 + 1)),(hDq),H',⟨by have := HK1.out;omega⟩,⟨by repeat (first | (with_reducible first | exact HB.out | apply zm | apply zj | apply zp) | exact HB.out)⟩⟩
       ·replace c8 := Bool.eq_false_iff.mpr c8
        subst c8
        have H1 : (some false) = some r := by rw [if_neg (show ¬ (false = true) by decide)] at H;exact H
        clear H
        have H := H1
        clear H1
        obtain rfl := Option.some.inj H
        try go_wp2
        have n0_ := za.mk (zp HB.out)
        clear HB
        have HB := n0_
        clear n0_
        have yB : 0 ≤ (x5_1 : Int) := hFq
        have yD : x5_1 < (l0.length : Int) := hFq
        obtain ⟨ym,yv,yx,yG,ya,yb,yc,yt,yq⟩ := zca HR0.out x5_1 yB yD
        have yi := yc
        have yh := yb
        have yg := ya
        cases yG
        replace ya := (HB.out.cell (World.block_lt_of_cell? w _ ya)).trans ya
        replace yb := (HB.out.cell (World.block_lt_of_cell? w _ yb)).trans yb
        replace yc := (HB.out.cell (World.block_lt_of_cell? w _ yc)).trans yc
        have yo := za.mk yq
        have yz := za.mk yt
        clear yq yt
        replace yB := eq_true yB
        replace yD := eq_true yD
        have yC : 0 ≤ (x5_1 : Int) := hFq
        have yE : x5_1 < (l1.length : Int) := hFq
        obtain ⟨yn,yw,yy,yH,yd,ye,yf,yu,yr⟩ := zca HR1.out x5_1 yC yE
        have yl := yf
        have yk := ye
        have yj := yd
        cases yH
        replace yd := (HB.out.cell (World.block_lt_of_cell? w _ yd)).trans yd
        replace ye := (HB.out.cell (World.block_lt_of_cell? w _ ye)).trans ye
        replace yf := (HB.out.cell (World.block_lt_of_cell? w _ yf)).trans yf
        have yp := za.mk yr
        have yA := za.mk yu
        clear yr yu
        replace yC := eq_true yC
        replace yE := eq_true yE
        refine zbx (n := 10) (S := fun w' => w'.cell? (ym.add ((x5_1).toNat * 3)) = some (.int .i64 ((zO l0 x5_1).f0)) ∧ w'.cell? ⟨(ym.add ((x5_1).toNat * 3)).block,(ym.add ((x5_1).toNat * 3)).off + 1,none⟩ = some (.int .i64 ((zO l0 x5_1).f1)) ∧ w'.cell? ⟨(ym.add ((x5_1).toNat * 3)).block,(ym.add ((x5_1).toNat * 3)).off + 2,none⟩ = some (.slice yv ((zO l0 x5_1).f2).length yx) ∧ w'.cell? (yn.add ((x5_1).toNat * 3)) = some (.int .i64 ((zO l1 x5_1).f0)) ∧ w'.cell? ⟨(yn.add ((x5_1).toNat * 3)).block,(yn.add ((x5_1).toNat * 3)).off + 1,none⟩ = some (.int .i64 ((zO l1 x5_1).f1)) ∧ w'.cell? ⟨(yn.add ((x5_1).toNat * 3)).block,(yn.add ((x5_1).toNat * 3)).off + 2,none⟩ = some (.slice yw ((zO l1 x5_1).f2).length yy)) (ds := []) (uQ 10 0) (by kernel_rfl) rfl rfl ⟨((HB.out.cell (World.block_lt_of_cell? w _ yg)).trans yg),((HB.out.cell (World.block_lt_of_cell? w _ yh)).trans yh),((HB.out.cell (World.block_lt_of_cell? w _ yi)).trans yi),((HB.out.cell (World.block_lt_of_cell? w _ yj)).trans yj),((HB.out.cell (World.block_lt_of_cell? w _ yk)).trans yk),((HB.out.cell (World.block_lt_of_cell? w _ yl)).trans yl)⟩ (fun hHeld => ?_);refine zaG zz.tab6 zz.bits6 (fun HT_ HW_ => ?_)
        generalize wr.drew = w11 at HB yo yp ya yb yc yd ye yf hHeld ⊢
        refine puq (i := 0) (N := some 18) HT_.out (uQ 10 1) ?_
        refine puq (i := 1) (N := some 19) HT_.out (uQ 10 2) ?_
        refine puq (i := 2) (N := some 20) HT_.out (uQ 10 3) ?_
        refine puq (i := 4) (N := some 22) HT_.out #[true,true,true,false,true,false,false,false,false,false] ?_
        refine puq (i := 5) (N := some 23) HT_.out #[true,true,true,false,true,true,false,false,false,false] ?_
        refine puq (i := 6) (N := some 24) HT_.out #[true,true,true,false,true,true,true,false,false,false] ?_
        refine take_ (i := 3) (N := some 21) (uQ 10 7) rfl rfl (zU HT_.out HW_.out (by kernel_rfl)) (fun _ _ _ h => h) (Or.inl ⟨by rfl,by rintro w' ⟨s0,s1,s2,s3,s4,s5⟩;go_simp;with_reducible rfl⟩) hHeld hPq ?_
        refine take_ (i := 7) (N := some 25) (uQ 10 8) rfl rfl (zU HT_.out HW_.out (by kernel_rfl)) (fun _ _ _ h => h) (Or.inl ⟨by rfl,by rintro w' ⟨s0,s1,s2,s3,s4,s5⟩;go_simp;with_reducible rfl⟩) hHeld hPq ?_
        refine zcl (i := 8) (N := some 26) (uQ 10 9) rfl rfl (zaY HT_.out (by kernel_rfl)) (by decide) (fun K hK => ?_)
        refine zbs Try.func62 (by kernel_rfl) rfl #[.agg #[.int .i64 ((zO l0 x5_1).f0),.int .i64 ((zO l0 x5_1).f1),.slice yv ((zO l0 x5_1).f2).length yx],.agg #[.int .i64 ((zO l1 x5_1).f0),.int .i64 ((zO l1 x5_1).f1),.slice yw ((zO l1 x5_1).f2).length yy]] (by rfl) rfl rfl hMq ?_
        with_reducible refine (zbb.calls k1 ((zO l0 x5_1).f0) ((zO l0 x5_1).f1) _ _ ((zO l0 x5_1).f2) ((zO l1 x5_1).f0) ((zO l1 x5_1).f1) _ _ ((zO l1 x5_1).f2) false _ ?side1 ?side2 ?side3 ?side4 A7.out).mono ?_
        (case side1 => exact hKq (Kd.C_below yo.out HB.out))
        (case side2 => exact yz.out)
        (case side3 => exact hKq (Kd.C_below yp.out HB.out))
        (case side4 => exact yA.out)
        rintro e w12 ⟨rfl,hb⟩
        refine ⟨_,rfl,?_⟩
        have n0_ := za.mk (zf hBq hb)
        clear HB
        have HB := n0_
        clear n0_
        (try clear hb)
        (try clear hb2)
        (try clear hk)
        (try clear hi)
        refine hK.out _ _ ⟨((HB.out.cell (World.block_lt_of_cell? w _ yg)).trans yg),((HB.out.cell (World.block_lt_of_cell? w _ yh)).trans yh),((HB.out.cell (World.block_lt_of_cell? w _ yi)).trans yi),((HB.out.cell (World.block_lt_of_cell? w _ yj)).trans yj),((HB.out.cell (World.block_lt_of_cell? w _ yk)).trans yk),((HB.out.cell (World.block_lt_of_cell? w _ yl)).trans yl)⟩ (fun hHeld => ?_)
        clear hK K
        refine zbu (a' := ?_) ?_ ?_
        rotate_left
        ·show Act.put _ (some 26) _ = _
         simp only [Act.put,List.setIfInBounds_toArray,List.set_cons_zero,List.set_cons_succ,zah,zaj]
         rfl
        refine puq (i := 9) (N := some 6) HT_.out (uQ 10 10) ?_
        refine zbG (zaM HT_.out (by kernel_rfl)) ?_
        try go_wp2
        go_ret
        exact ⟨hHq,hBq⟩
      ·rw [if_neg c6] at H
       exact absurd H (by simp)
     ·rw [if_neg c5] at H
      exact absurd H (by simp)
    ·rw [if_neg c4] at H
     have c4b0 : decide (x5_1 < (l0.length : Int)) = false := decide_eq_false c4
     clear c4
     obtain rfl := Option.some.inj H
     go_wp2
     go_ret
     exact ⟨hHq,hBq⟩
 ·rw [if_neg c3] at H
  have c3b0 : ((l0.length : Int) == (l1.length : Int)) = false := beq_eq_false_iff_ne.mpr c3
  have c3b1 : ((l0.length : Int) != (l1.length : Int)) = true := bne_iff_ne.mpr c3
  have c3b2 : (l0.length == l1.length) = false := by first | simpa using c3 | (simp at c3 ⊢;omega)
  obtain rfl := Option.some.inj H
  go_enter Try.func44,Try.ntmps44
  go_wp2
  go_ret
  exact ⟨hHq,hBq⟩
theorem eqA30 (d : Nat) (w : World) (x0 y0 : Int) (x1 y1 : Int) :
  (Op.equalIn (d + 2) 30 (.agg #[.int .i64 x0,.int .i64 x1]) (.agg #[.int .i64 y0,.int .i64 y1])).run Try.prog w = .ok (x0 == y0 && (x1 == y1)) w := by
 refine eqA_of Try.underlying30 (by kernel_rfl) ?_
 refine eqf_cons (by rfl) (by go_simp;rfl) (by go_simp;rfl) (by go_simp) ?_
 exact eqf_last (by rfl) (by go_simp;rfl) (by go_simp;rfl) (by go_simp)
end Go.Proofs.Ytndjfdakflaggaa.Px