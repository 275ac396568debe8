/- Part 9 of 15 of the proof of the law DagPastOne: what is proved is the statement at the end of the last part; its conditions are those of the given row. -/
import Derived.RangeFuncNested
import Derived.RangeFuncLeaves
import Derived.TacticsIn
import Derived.LoopIn
import Derived.TacticsInMore
import Derived.OwnWalkIn
import Derived.Test.YtndjfdakflaggaaZDagPastOneH
namespace Go.Proofs.Ytndjfdakflaggaa.Px
open Go.RowKit Go.Proofs.YtndjfdakflaggaaW.PrintWords Go.Proofs.YtndjfdakflaggaaW.PrintLast Go.Proofs.YtndjfdakflaggaaW.PrintMore
attribute [local go_sem] zC zE zI zJ zu zv zD zF
set_option linter.unusedVariables false
set_option linter.unusedSimpArgs false
def zcb (L : List Ent) (r : Int) : List Ent := L.filter fun x => decide (x.f1.f1 = r)
theorem zft (x : Ent) (L : List Ent) (r : Int) : zcb (x :: L) r = if x.f1.f1 = r then x :: zcb L r else zcb L r := by
 unfold zcb;rw [List.filter_cons];simp
theorem rdE_at (L : List Ent) (j : Nat) (h : j < L.length) : zd L (j : Int) = L[j] := by
 rw [zd,Int.toNat_natCast,List.getD_eq_getElem?_getD,List.getElem?_eq_getElem h];rfl
theorem zhX (L : List Ent) (r : Int) (hl : L.length < 1466015503701) (d : Nat) : ∀ (j : Nat) (acc : List Ent),j + d = L.length → acc.length ≤ j → Ev (fun k => zaS.l0 k r acc L (L.length : Int) (j : Int)) (acc ++ zcb (L.drop j) r) := by
 induction d with
 | zero =>
  intro j acc h ha
  refine Ev.step (fun k => by rw [zaS.l0]) ?_
  rw [List.drop_of_length_le (by omega)]
  exact zQ (by omega) (z4 (Ev.now _) (by simp [zcb]))
 | succ d ih =>
  intro j acc h ha
  refine Ev.step (fun k => by rw [zaS.l0]) ?_
  have hlt : j < L.length := by omega
  have e2 : wrap64 ((j : Int) + 1) = ((j + 1 : Nat) : Int) := by rw [zab (by omega) (by omega)];omega
  rw [rdE_at L j hlt,e2,List.drop_eq_getElem_cons hlt]
  refine zG (by omega) (zG (by omega) (zG (by omega) ?_))
  by_cases hb : L[j].f1.f1 = r
  ·refine zG hb (zG (by omega) (z4 (ih (j + 1) (acc ++ [L[j]]) (by omega) (by rw [List.length_append];simp;omega)) ?_))
   rw [zft,if_pos hb,List.append_assoc];rfl
  ·refine zQ hb (z4 (ih (j + 1) acc (by omega) (by omega)) ?_)
   rw [zft,if_neg hb]
theorem zfr (n low : Int) (L : List Ent) (r : Int) (hl : L.length < 1466015503701) : Ev (fun k => zaS.f k n low L r) (zcb L r) := by
 have := zhX L r hl L.length 0 [] (by omega) (by simp)
 rwa [List.drop_zero,List.nil_append] at this
theorem zes (L : List Ent) (r : Int) : (zcb L r).length ≤ L.length := List.length_filter_le _ _
def zhm (R : List Ent) (k : Nat) (s : ByteArray) : Option Value := if (R.take k).any (fun x => decide (x.f0 = s)) = true then some (.bool true) else none
theorem hadF_zero (R : List Ent) (s : ByteArray) : none = zhm R 0 s := by simp [zhm]
theorem hadF_succ (R : List Ent) (k : Nat) (x : Ent) (hx : R[k]? = some x) (s : ByteArray) : (if s = x.f0 then some (Value.bool true) else zhm R k s) = zhm R (k + 1) s := by
 unfold zhm
 rw [List.take_add_one,hx,List.any_append]
 by_cases h : s = x.f0
 ·subst h;simp
 ·have : ¬ x.f0 = s := fun e => h e.symm
  simp [h,this]
theorem had_get (R : List Ent) (s : ByteArray) : (zhm R R.length s).getD (.bool false) = .bool (R.any fun x => decide (x.f0 = s)) := by
 unfold zhm
 rw [List.take_length]
 cases h : R.any fun x => decide (x.f0 = s) <;> simp
def zdA (R : List Ent) (ps : List ByteArray) : List ByteArray := ps.filter fun p => !(R.any fun x => decide (x.f0 = p))
theorem lostL_eq (L : List Ent) (low r : Int) (ps : List ByteArray) (h : ¬ wrap64 (r - 1) ≤ low) : zdA (zcb L (wrap64 (r - 1))) ps = zbM L low r ps := by
 unfold zdA zbM zcb
 rw [if_neg h]
 congr 1
 funext p
 rw [List.any_filter]
 congr 2
 funext x
 simp
theorem zaf.infoS : (Try.prog.info? 9).map (fun i => (i.zero,i.size,i.bytes)) = some (some (.string ⟨#[]⟩),1,16) := by kernel_rfl
theorem zaf.zeroB : ∀ w : World,(zeroValue 4).run Try.prog w = .ok (.bool false) w := fun _ => by kernel_rfl
set_option maxHeartbeats 8000000 in
set_option maxRecDepth 100000 in
theorem zaf.walk0 (a0_0 : Int) (a0_1 : Int) (A0_2 : Option Addr) (n0_2 c0_2 : Nat) (a1_0 : Int) (a1_1 : Int) (A1_2 : Option Addr) (n1_2 c1_2 : Nat) (A1_3 : Option Addr) (n1_3 c1_3 : Nat) (a1_4 : Int) (a1_5 : Int) (w : World) (h : wrap64 (a1_1 - 1) ≤ a0_1) :
  Calls Try.prog 33 #[.agg #[.int .i64 a0_0,.int .i64 a0_1,.slice A0_2 n0_2 c0_2],.agg #[.int .i64 a1_0,.int .i64 a1_1,.slice A1_2 n1_2 c1_2,.slice A1_3 n1_3 c1_3,.int .i64 a1_4,.int .i64 a1_5]] w fun e w' => e = .returned (.slice none 0 0) ∧ Below w.heap.size w w' := by
 have hd : decide (wrap64 (a1_1 - 1) ≤ a0_1) = true := decide_eq_true h
 clear h
 go_enter Try.func33,Try.ntmps33
 go_wp2_with fail
 go_ret
 exact ⟨rfl,zm (zm (Below.refl _ _) _) _⟩
set_option maxHeartbeats 8000000 in
set_option maxRecDepth 100000 in
theorem zaf.walk (a0_0 : Int) (a0_1 : Int) (A0_2 : Option Addr) (c0_2 : Nat) (l0_2 : List (S34)) (a1_0 : Int) (a1_1 : Int) (A1_2 : Option Addr) (n1_2 c1_2 : Nat) (A1_3 : Option Addr) (c1_3 : Nat) (l1_3 : List ByteArray) (a1_4 : Int) (a1_5 : Int) (w : World) (hr0_2 : Kd.C k34 w A0_2 l0_2.length l0_2) (hc0_2 : l0_2.length ≤ c0_2) (hr1_3 : Kd.C Kd.string w A1_3 l1_3.length l1_3) (hc1_3 : l1_3.length ≤ c1_3)
  (h : ¬ wrap64 (a1_1 - 1) ≤ a0_1) (hl : l0_2.length < 1466015503701) (hp : l1_3.length ≤ 8796093022208) :
  Calls Try.prog 33 #[.agg #[.int .i64 a0_0,.int .i64 a0_1,.slice A0_2 l0_2.length c0_2],.agg #[.int .i64 a1_0,.int .i64 a1_1,.slice A1_2 n1_2 c1_2,.slice A1_3 l1_3.length c1_3,.int .i64 a1_4,.int .i64 a1_5]] w fun e w' => ∃ v0_ : Value,e = .returned (v0_) ∧ Kd.R Kd.string 9 w' w.heap.size (fun _ => True) v0_ (zdA (zcb l0_2 (wrap64 (a1_1 - 1))) l1_3) ∧ Below w.heap.size w w' := by
 obtain ⟨kr,hkr⟩ := (zfr a0_0 a0_1 l0_2 (wrap64 (a1_1 - 1)) hl).rounds
 have HK := za.mk hkr
 have HRL : za ((zcb l0_2 (wrap64 (a1_1 - 1))).length < 1466015503701) := ⟨Nat.lt_of_le_of_lt (zes _ _) hl⟩
 have HR := za.mk hr0_2
 have HC := za.mk hc0_2
 have HRP := za.mk hr1_3
 have HCP := za.mk hc1_3
 have HP := za.mk hp
 have hd : decide (wrap64 (a1_1 - 1) ≤ a0_1) = false := decide_eq_false h
 clear hkr hr0_2 hc0_2 hr1_3 hc1_3 h hl hp
 have HF : za (Kd.F k34 w (fun k_ => k_ < w.heap.size) A0_2 l0_2.length l0_2) := ⟨Kd.C_F zbS HR.out⟩
 generalize zcb l0_2 (wrap64 (a1_1 - 1)) = R at *
 have hmm := @run_makeMap Try.prog
 go_enter Try.func33,Try.ntmps33
 go_wp2_with (first
  | ((with_reducible refine zq (N := 2) rfl ?_);refine zn rfl (N := 2) rfl (cs := #[.int .i64 a0_0,.int .i64 a0_1,.slice A0_2 l0_2.length c0_2]) (t := 24) hrq ?_;intro g2 hg w2 hbox hb;have B2 := za.mk hbox;have HB2 := za.mk hb;clear hb hbox hg)
  | ((with_reducible refine zq (N := 3) rfl ?_);refine zn rfl (N := 3) rfl (cs := #[.int .i64 a1_0,.int .i64 a1_1,.slice A1_2 n1_2 c1_2,.slice A1_3 l1_3.length c1_3,.int .i64 a1_4,.int .i64 a1_5]) (t := 32) hrq ?_;intro g3 hg w3 hbox hb;have B3 := za.mk hbox;have C2 := za.mk (zr B2.out hb);have HB3 := za.mk (zf HB2.out hb);clear hb hbox hg B2;have x2_0 := (zb C2.out 0).trans rfl;have x2_1 := (zb C2.out 1).trans rfl;have x2_2 := (zb C2.out 2).trans rfl;have x3_1 := (zb B3.out 1).trans rfl;have y2_0 := fun o => (zb (zg C2.out o) 0).trans rfl;have y2_1 := fun o => (zb (zg C2.out o) 1).trans rfl;have y2_2 := fun o => (zb (zg C2.out o) 2).trans rfl;have y3_1 := fun o => (zb (zg B3.out o) 1).trans rfl)
  | (go_at_call 52;(with_reducible refine (zaS.calls kr a0_0 a0_1 (fun k_ => k_ < w.heap.size) A0_2 c0_2 l0_2 _ R _ (Kd.V_mk HC.out (Kd.F_below HF.out (zm HB3.out _))) HK.out).mono ?_);rintro e w5 ⟨v22,rfl,hN,hb⟩;obtain ⟨A22,c22,rfl⟩ := Kd.N_slice hN;have HV := za.mk (Kd.N_F hN);have HB5 := za.mk (zf (zm HB3.out _) hb);have C3 := za.mk (zr (zg B3.out _) hb);have HM := za.mk (zaP (zh7 w3) hb);have HG0 : za (w.heap.size ≤ w3.heap.size) := ⟨zh HB3.out⟩;have HLT : za (w3.heap.size < w5.heap.size) := ⟨za8 HM.out⟩;clear hb hN))
 clear hmm x2_0 x2_1 x2_2 x3_1 y2_0 y2_1 y2_2 y3_1 hd
 have HG := za.mk (World.grownBy.refl w5 (some w3.heap.size))
 have HM0 := za.mk (zbX HM.out (hadF_zero R))
 go_loopw [24] (fun v24 wr => ∃ k : Nat,v24 = .int .i64 k ∧ k ≤ R.length ∧ za (zbq wr w3.heap.size (zhm R k)) ∧ za (w5.grownBy wr (some w3.heap.size))) (fun v24 _ => R.length - (intOf v24).toNat)
 case atStart => exact ⟨0,rfl,Nat.zero_le _,HM0,HG⟩
 case round =>
  clear HG HM0 HM
  obtain ⟨k,rfl,hk,HM,HG⟩ := hrel
  have HRI := HRL.out
  have HV1 : za (Kd.F k34 wr _ A22 R.length R) := ⟨Kd.F_grown HV.out HG.out (fun k_ hk_ he => by injection he with he;subst he;rcases hk_ with hk_ | hk_ <;> have := HG0.out <;> (try simp at hk_) <;> omega)⟩
  by_cases hlt : k < R.length
  ·obtain ⟨ad,A3,c3,A4,c4,rfl,hx0,hx1,hx2,hx3,hx4,hx5,hx6,_,_,_,_⟩ := za7 (Kd.F_now HV1.out) (k : Int) (by omega) (by omega)
   rw [Int.toNat_natCast] at hx0 hx1 hx2 hx3 hx4 hx5 hx6
   have hb : decide (k < R.length) = true := decide_eq_true hlt
   have HX : za (R[k]? = some (zd R (k : Int))) := ⟨by rw [zd,Int.toNat_natCast,List.getD_eq_getElem?_getD,List.getElem?_eq_getElem hlt];rfl⟩
   clear HV1
   generalize zd R (k : Int) = s at *
   obtain ⟨s0,⟨s1,s2,s3,s4,⟨s5,s6⟩⟩⟩ := s
   go_wp2_with (at_mapUpdate;refine zcV _ rfl _ _ _ 72 rfl (ziC HM.out _) Try.underlying72 Try.underlying9 s0 (.bool true) rfl rfl rfl ?_;intro w7 hm7 hg7;have HM7 := za.mk (zbX hm7 (hadF_succ R k _ HX.out));have HG7 := za.mk (HG.out.trans ((World.grownBy_alloc wr _ _).trans hg7));clear hm7 hg7)
   go_roundw
   case rel => exact ⟨k + 1,by go_num,by omega,HM7,HG7⟩
   case measure => simp [intOf];omega
  ·obtain rfl : k = R.length := by omega
   have hb : decide (R.length < R.length) = false := decide_eq_false hlt
   have HNE : za (some g3 ≠ some w3.heap.size) := ⟨fun he => by injection he with he;have := zaF B3.out;omega⟩
   have B3r := za.mk (zaV C3.out HG.out HNE.out)
   have HBr : za (Below w.heap.size w wr) := ⟨zde HB5.out (some w3.heap.size) (zh HB5.out) HG.out (fun k_ e_ => by injection e_ with e_;subst e_;exact HG0.out)⟩
   have z3_3 := (zb B3r.out 3).trans rfl
   have hm3 := HRP.out.2.1
   clear HV1
   go_wp2_with fail
   clear z3_3
   go_loopw [8,35] (fun v8 v35 wq => ∃ j : Nat,v35 = .int .i64 j ∧ j ≤ l1_3.length ∧ za (Kd.R Kd.string 9 wq w.heap.size (fun k_ => k_ ≠ w3.heap.size) v8 (zdA R (l1_3.take j))) ∧ za (zbq wq w3.heap.size (zhm R R.length)) ∧ za (Below w.heap.size w wq)) (fun _ v35 _ => l1_3.length - (intOf v35).toNat)
   case atStart => exact ⟨0,rfl,Nat.zero_le _,⟨Kd.R_nil _ _ _ _ _⟩,HM,HBr⟩
   case round =>
    clear HM HBr B3r HG
    obtain ⟨j,rfl,hj,HO,HM,HB⟩ := hrel
    by_cases hlt2 : j < l1_3.length
    ·obtain ⟨ad,rfl,hcell⟩ := Kd.at_string HRP.out (j : Int) (by omega) (by omega)
     rw [Int.toNat_natCast] at hcell
     replace hcell := (HB.out.cell (World.block_lt_of_cell? w _ hcell)).trans hcell
     have hb2 : decide (j < l1_3.length) = true := decide_eq_true hlt2
     have HT : za (l1_3.take (j + 1) = l1_3.take j ++ [zB ByteArray.empty l1_3 (j : Int)]) := ⟨by
      rw [zB,Int.toNat_natCast,List.getD_eq_getElem?_getD,List.getElem?_eq_getElem hlt2,List.take_add_one,List.getElem?_eq_getElem hlt2];rfl⟩
     generalize zB ByteArray.empty l1_3 (j : Int) = s at *
     rcases hq : R.any (fun x => decide (x.f0 = s)) with _ | _
     ·have HQ := za.mk hq
      clear hq
      have HLN : za (((zdA R (l1_3.take j)).length + 1) * 16 ≤ 140737488355328) := ⟨by
       have h1 : (zdA R (l1_3.take j)).length ≤ (l1_3.take j).length := List.length_filter_le _ _
       rw [List.length_take] at h1
       have := HP.out
       omega⟩
      have HL : za (zdA R (l1_3.take (j + 1)) = zdA R (l1_3.take j) ++ [s]) := ⟨by
       rw [HT.out,zdA,List.filter_append]
       show _ ++ List.filter (fun p => !R.any fun x => decide (x.f0 = p)) [s] = _
       rw [List.filter_cons,HQ.out];rfl⟩
      go_wp2_with (first
       | (at_lookup;refine zb8 _ rfl _ _ 72 rfl HM.out Try.underlying72 Try.underlying9 (zaf.zeroB _) s rfl rfl ?_;rw [had_get,HQ.out])
       | (at_builtin;refine Kd.R_append Kd.string (w0 := w) w.heap.size rfl (.tmp 43) (.tmp 45) 28 9 (.string ⟨#[]⟩) 16 rfl Try.underlying28 zaf.infoS rfl (by decide) (by omega) _ (zdA R (l1_3.take j)) s [.string s] (fun k_ => k_ ≠ w3.heap.size) (fun _ => False) rfl rfl ?aP (fun _ hk => hk.elim) ?aF ?aO ?aB ?aS ?aL ?_;(case aP => exact rfl);(case aF => exact (fun k_ hk he => by subst he;have := za8 HM.out;omega));(case aO => exact HO.out);(case aB => exact HB.out);(case aS => exact (zh HB.out));(case aL => exact HLN.out);intro v3 w8 ho hb hg hat;have HO3 := za.mk ho;have HB3' := za.mk hb;have HM3 := za.mk (zgg HM.out hg (Kd.R_away HO.out (fun _ hk => hk)));clear ho hb hg hat))
      go_roundw
      case rel => exact ⟨j + 1,by go_num,by omega,⟨by rw [HL.out];exact HO3.out⟩,HM3,HB3'⟩
      case measure => simp [intOf];omega
     ·have HQ := za.mk hq
      clear hq
      have HL : za (zdA R (l1_3.take (j + 1)) = zdA R (l1_3.take j)) := ⟨by
       rw [HT.out,zdA,List.filter_append]
       show _ ++ List.filter (fun p => !R.any fun x => decide (x.f0 = p)) [s] = _
       rw [List.filter_cons,HQ.out];simp;rfl⟩
      go_wp2_with (at_lookup;refine zb8 _ rfl _ _ 72 rfl HM.out Try.underlying72 Try.underlying9 (zaf.zeroB _) s rfl rfl ?_;rw [had_get,HQ.out])
      go_roundw
      case rel => exact ⟨j + 1,by go_num,by omega,⟨by rw [HL.out];exact HO.out⟩,HM,HB⟩
      case measure => simp [intOf];omega
    ·obtain rfl : j = l1_3.length := by omega
     have hb2 : decide (l1_3.length < l1_3.length) = false := decide_eq_false hlt2
     go_wp2_with fail
     go_ret
     exact ⟨_,rfl,by have h_ := Kd.R_mono HO.out (fun _ _ => trivial);rwa [List.take_length] at h_,HB.out⟩
def zaf.f (a0_0 : Int) (a0_1 : Int) (l0_2 : List (S34)) (a1_0 : Int) (a1_1 : Int) (l1_2 : List (S78)) (l1_3 : List ByteArray) (a1_4 : Int) (a1_5 : Int) : Option (List ByteArray) := if l0_2.length < 1466015503701 ∧ l1_3.length ≤ 8796093022208 then some (zbM l0_2 a0_1 a1_1 l1_3) else none
theorem zaf.calls (a0_0 : Int) (a0_1 : Int) (A0_2 : Option Addr) (c0_2 : Nat) (l0_2 : List (S34)) (a1_0 : Int) (a1_1 : Int) (A1_2 : Option Addr) (c1_2 : Nat) (l1_2 : List (S78)) (A1_3 : Option Addr) (c1_3 : Nat) (l1_3 : List ByteArray) (a1_4 : Int) (a1_5 : Int) (r : List ByteArray) (w : World) (hr0_2 : Kd.C k34 w A0_2 l0_2.length l0_2) (hc0_2 : l0_2.length ≤ c0_2) (hr1_2 : Kd.C k78 w A1_2 l1_2.length l1_2) (hc1_2 : l1_2.length ≤ c1_2) (hr1_3 : Kd.C Kd.string w A1_3 l1_3.length l1_3) (hc1_3 : l1_3.length ≤ c1_3) (h : zaf.f a0_0 a0_1 l0_2 a1_0 a1_1 l1_2 l1_3 a1_4 a1_5 = some r) :
  Calls Try.prog 33 #[.agg #[.int .i64 a0_0,.int .i64 a0_1,.slice A0_2 l0_2.length c0_2],.agg #[.int .i64 a1_0,.int .i64 a1_1,.slice A1_2 l1_2.length c1_2,.slice A1_3 l1_3.length c1_3,.int .i64 a1_4,.int .i64 a1_5]] w fun e w' => ∃ v0_ : Value,e = .returned (v0_) ∧ Kd.R Kd.string 9 w' w.heap.size (fun _ => True) v0_ r ∧ Below w.heap.size w w' := by
 unfold zaf.f at h
 split at h
 ·rename_i hh
  obtain rfl := Option.some.inj h
  by_cases hw : wrap64 (a1_1 - 1) ≤ a0_1
  ·refine (zaf.walk0 a0_0 a0_1 A0_2 _ c0_2 a1_0 a1_1 A1_2 _ c1_2 A1_3 _ c1_3 a1_4 a1_5 w hw).mono ?_
   rintro e w' ⟨rfl,hb⟩
   rw [zbM,if_pos hw]
   exact ⟨_,rfl,Kd.R_nil _ _ _ _ _,hb⟩
  ·rw [← lostL_eq _ _ _ _ hw]
   exact zaf.walk a0_0 a0_1 A0_2 c0_2 l0_2 a1_0 a1_1 A1_2 _ c1_2 A1_3 c1_3 l1_3 a1_4 a1_5 w hr0_2 hc0_2 hr1_3 hc1_3 hw hh.1 hh.2
 ·cases h
theorem zhF {n : Nat} {P : Program} {row : String} {args : Array Value} {w : World} {R : Value → World → Prop} (h : Rows P row args w R) : RowsIn Fence.wide n P row args w R :=
 fun c cs _ => let ⟨v,w',r,s⟩ := h c cs;⟨v,w',r,stepsIn_wide.2 s⟩
theorem zco {P : Program} {ops : Array Oper} {Q : Exit → Act → World → Prop} (hQ : ¬ LetsOut Q) (l n : Nat) : ∀ (L : List Oper) (a : Act) (w : World),(∀ o ∈ L,∀ c,o.op ≠ .defer c) → wpList P ops Q L a w → wpListIn (Fence.wide.inRound l) n P ops Q L a w
 | [],_,_,_,h => h
 | o :: rest,a,w,hd,h => by
  have ih := fun a w => zco (P := P) (ops := ops) hQ l n rest a w (fun o' ho => hd o' (List.mem_cons_of_mem _ ho))
  unfold wpList at h
  unfold wpListIn
  split at h
  ·rename_i hw
   rw [if_pos hw]
   rcases h with h | ⟨_,h⟩
   ·refine ⟨fun _ _ => trivial,?_⟩
    rw [Fence.inRound_round,Oper.semAt_some l _ _ (hd o List.mem_cons_self)]
    unfold Oper.wp at h
    cases hr : (execOp a.eval o).run P w with
    | halt x w' =>
     rw [hr] at h
     cases x <;> first | exact h | exact h.elim
    | ok x w' =>
     rw [hr] at h
     cases x with
     | value v => exact ih _ _ h
     | skip => exact ih _ _ h
     | defer d => exact ih _ _ h
     | enter f args =>
      refine ⟨fun hh => absurd hh (by simp [Fence.wide]),?_⟩
      refine (show CallsIn (Fence.wide.inRound l) _ P f args w' _ from (callsIn_wide (n := n - 1)).2 (h.mono ?_))
      intro e w'' he
      cases e with
      | returned v => exact ih _ _ he
      | panicked c => exact he
      | outgrown => exact he
     | row r args =>
      refine ⟨fun hh => absurd hh (by simp [Fence.wide]),?_⟩
      exact (show RowsIn (Fence.wide.inRound l) _ P r args w' _ from zhF (n := n - 1) (Rows.mono h (fun v w'' he => ih _ _ he)))
     | round l' f tmps assign body => exact h.elim
     | _ => exact h.elim
   ·exact absurd h hQ
  ·rename_i hw
   rw [if_neg hw]
   exact ⟨fun _ _ => trivial,ih _ _ h⟩
def SeqN {α : Type} (P : Program) (gf : Nat) (lb : Array Value) (zfG : Nat → α → Array Value) (G : Nat → α → World → World → Prop) (D : World → Prop) (K B : Nat) : Prop :=
 ∀ (l : Nat) (J : Nat → World → Prop) (W : World),B ≤ W.heap.size →
  (∀ k A C,J k A → Below A.heap.size A C → J k C) → (∀ k A,J k A → D A) → (∀ k A,J k A → B ≤ A.heap.size) →
  (∀ n k x W0 W1,k < K → J k W0 → Below W0.heap.size W0 W1 → J k W1 → G k x W0 W1 → YieldAt Fence.wide n P l (zfG k x) W1 fun e W' => e = .returned (.bool true) ∧ J (k + 1) W') →
  J 0 W → Calls P gf (#[.func (.yield l) #[] #[]] ++ lb) W fun e W' => (∃ v,e = .returned v) ∧ J K W'
def postN (I : World → Prop) (B : Nat) (W : World) : Exit → Act → World → Prop
 | .normal,_,W' => W.heap.size ≤ W'.heap.size ∧ W'.heap[B]? = W.heap[B]? ∧ W'.heap[B + 1]? = W.heap[B + 1]? ∧ I W'
 | .ret,_,_ => False
 | .exit _,_,_ => False
 | .goto _,_,_ => False
 | .panic _,_,_ => False
 | .outgrown,_,_ => False
theorem zgF {α : Type} {P : Program} {g : Operand} {ps : Array Tmp} {assign body : Code} {Q : Exit → Act → World → Prop} {a : Act} {w : World}
  {gf : Nat} {lb : Array Value} (hg : a.eval g = .func (.func gf) #[] lb) (eg : ∀ args w,(callFunc gf args).run P w = .ok (.enter gf args) w)
  {zfG : Nat → α → Array Value} {G : Nat → α → World → World → Prop} {D : World → Prop} {K : Nat} (hseq : SeqN P gf lb zfG G D K (w.heap.size + 2)) (hps : ∀ k x,(zfG k x).size = ps.size)
  (I : Nat → World → Prop) (hIb : ∀ k A C,I k A → Below A.heap.size A C → I k C)
  (hIp : ∀ k A l o o',I k A → (l = w.heap.size ∨ l = w.heap.size + 1) → A.heap[l]? = some o → o.isCells = false → o.isWalk = false → I k (A.putObj l o'))
  (hGp : ∀ k x W0 A o',w.heap.size + 2 ≤ W0.heap.size → G k x W0 A → G k x W0 (A.putObj (w.heap.size + 1) o'))
  (hID : ∀ k A,I k A → D A) (h0 : I 0 w) (a₁ : Nat → α → Act)
  (hassign : ∀ (l n k : Nat) (x : α) (W : World) (Kq : Act → World → Prop),Kq (a₁ k x) W →
   assign.wpIn (Fence.wide.inRound l) n P (Exit.then Kq (fun _ _ _ => False)) { tmps := (ps.zip (zfG k x)).foldl (fun t (p,v) => t.setIfInBounds p v) a.tmps,defers := [] } W)
  (hbody : ∀ (n k : Nat) (x : α) (W0 W : World),k < K → w.heap.size + 2 ≤ W0.heap.size → W0.heap.size ≤ W.heap.size → I k W0 → (∀ j,j < W0.heap.size → j ≠ w.heap.size + 1 → W.heap[j]? = W0.heap[j]?) → I k W → G k x W0 W → body.wpIn (Fence.wide.inRound (w.heap.size + 1)) n P (postN (I (k + 1)) w.heap.size W) (a₁ k x) W)
  (hdone : ∀ (W : World),w.heap.size + 2 ≤ W.heap.size → I K W → W.heap[w.heap.size]? = some (.deferred (some [])) → Q .normal { a with defers := { target := .collected w.heap.size,args := #[] } :: a.defers } W) :
  (Code.rangeFunc g ps assign body).wp P Q a w := by
 refine (wpIn_wide (n := 0)).1 (wpIn_rangeFunc ?_)
 intro fn hfn
 rw [Fence.wide_round]
 obtain ⟨rec,hrec⟩ : ∃ rec : LoopState → Option Code → Loop,rec = fun st pe => { state := st,pending := pe,fn,tmps := a.tmps,params := ps,assign,body,defers := w.heap.size } := ⟨_,rfl⟩
 obtain ⟨W1,hW1⟩ : ∃ W1,(w.alloc (.deferred (some []))).alloc (.loop (rec .ready none)) = W1 := ⟨_,rfl⟩
 have hL1 : W1.heap[w.heap.size + 1]? = some (.loop (rec .ready none)) := by
  rw [← hW1];have := World.alloc_heap_new (w.alloc (.deferred (some []))) (.loop (rec .ready none));rwa [World.size_alloc] at this
 have hK1 : W1.heap[w.heap.size]? = some (.deferred (some [])) := by
  rw [← hW1];exact (Below.heap_alloc _ _ _ (by simp)).trans (World.alloc_heap_new w _)
 have hb1 : Below w.heap.size w W1 := by
  rw [← hW1];exact ((Below.refl _ w).alloc (Nat.le_refl _) _).alloc (by simp) _
 have hs1 : W1.heap.size = w.heap.size + 2 := by rw [← hW1];simp
 have hI1 : I 0 W1 := hIb _ _ _ h0 hb1
 refine ⟨w.heap.size + 1,[{ target := .collected w.heap.size,args := #[] }],W1,{ target := .fn (.func gf) lb,args := #[.func (.yield (w.heap.size + 1)) #[] #[]] },W1,gf,
  #[.func (.yield (w.heap.size + 1)) #[] #[]] ++ lb,W1,?_,?_,?_,?_,fun h => absurd h (by simp [Fence.wide]),?_⟩
 ·rw [← hW1,hrec];exact run_enterLoop_outer _ _ _ _ _
 ·simp only [resolve,hg]
  simp [go_sem]
 ·intro f' hf';trivial
 ·simp [invoke,go_sem,eg]
 ·refine callsIn_wide.2 ((hseq (w.heap.size + 1)
   (fun k W => I k W ∧ w.heap.size + 2 ≤ W.heap.size ∧ W.heap[w.heap.size + 1]? = some (.loop (rec .ready none)) ∧ W.heap[w.heap.size]? = some (.deferred (some [])))
   W1 (Nat.le_of_eq hs1.symm) (fun k A C h hb => ⟨hIb _ _ _ h.1 hb,Nat.le_trans h.2.1 hb.size,(hb.block _ (by omega)).trans h.2.2.1,(hb.block _ (by omega)).trans h.2.2.2⟩)
   (fun k A h => hID _ _ h.1) (fun k A h => h.2.1) ?_ ⟨hI1,Nat.le_of_eq hs1.symm,hL1,hK1⟩).mono ?_)
  ·rintro n k x W0 W hk ⟨hi0,hsz0,_,_⟩ hb0 ⟨hi,hsz,hl,hd⟩ hgx
   have hy := run_yield (P := P) (args := zfG k x) hl (by rw [hrec];exact hps k x)
   rw [hrec] at hy
   refine ⟨fn,_,assign,body,hy,roundIn_of_wpIn hfn (hassign _ _ k x W _ ⟨_,run_beginRound hl (by rw [hrec]),?_⟩)⟩
   have hl2 : (W.putObj (w.heap.size + 1) (.loop { rec .ready none with state := .busy })).heap[w.heap.size + 1]? = some (.loop { rec .ready none with state := .busy }) := World.putObj_heap_same (by omega)
   have hk2 : (W.putObj (w.heap.size + 1) (.loop { rec .ready none with state := .busy })).heap[w.heap.size]? = some (.deferred (some [])) := (World.putObj_heap_other (by omega)).trans hd
   refine wpIn_mono (hbody _ k x W0 _ hk hsz0 (by rw [World.putObj_size];exact hb0.size) hi0 (fun j hj hne => (World.putObj_heap_other hne).trans (hb0.block j hj)) (hIp _ _ _ _ _ hi (.inr rfl) hl rfl rfl) (hGp _ _ _ _ _ hsz0 hgx)) ?_
   rintro e a3 W3 hp
   cases e with
   | normal =>
    obtain ⟨hs3,hd3,hl3,hi3⟩ := hp
    rw [World.putObj_size] at hs3
    replace hl3 := hl3.trans hl2
    replace hd3 := hd3.trans hk2
    have hr := run_endRound (P := P) none hl3
    rw [hrec] at hr
    refine ⟨_,_,hr,rfl,hIp _ _ _ _ _ hi3 (.inr rfl) hl3 rfl rfl,by rw [World.putObj_size];omega,?_,(World.putObj_heap_other (by omega)).trans hd3⟩
    rw [hrec];exact World.putObj_heap_same (by omega)
   | ret => exact hp.elim
   | exit id => exact hp.elim
   | goto t => exact hp.elim
   | panic ch => exact hp.elim
   | outgrown => exact hp.elim
  ·rintro e W2 ⟨⟨v,rfl⟩,hi,hs2,hl,hd⟩
   exact ⟨none,_,by have := run_endLoop (P := P) hl (by rw [hrec];simp);rw [hrec] at this;exact this,hdone _ (by rw [World.putObj_size];exact hs2) (hIp _ _ _ _ _ hi (.inr rfl) hl rfl rfl) ((World.putObj_heap_other (by omega)).trans hd)⟩
theorem zeA {P : Program} {f : FuncId} {fn : Func} {c : Code} {args : Array Value} {w : World} {R : Ending → World → Prop}
  (hf : P.funcs[f]? = some fn) (hb : fn.body = some c)
  (h : c.wp P (bodyPostM Fence.wide 0 P fn R) { tmps := args ++ Array.replicate (fn.ntmps - args.size) undef,defers := [] } w) : Calls P f args w R :=
 callsIn_wide.1 (callsIn_of_wp_marks (n := 0) hf hb trivial (wpIn_wide.2 h))
theorem gate_wide {P : Program} {Q : Exit → Act → World → Prop} {id : Nat} {ops : Array Oper} {dr : Bool} {a : Act} {w : World} (h : (Code.region id ops dr).wpIn Fence.wide 1 P Q a w) : (Code.region id ops dr).wp P Q a w := wpIn_wide.1 h
section
variable {P : Program} {ops : Array Oper} {rest : List Oper} {o : Oper} {a : Act} {Q : Exit → Act → World → Prop}
theorem zis (w : World) (hg : o.guard = none) (m x v : Operand) (t : TypeId) (hop : o.op = Op.insert t m x v) {k e : TypeId} {g : Nat} {F : ByteArray → Option Value} (h : zbq w g F) (ht : P.underlying t = some (.map k e)) (hk : P.underlying k = some .string)
  (s : ByteArray) (u : Value) (hm : a.eval m = .map (some g)) (hx : a.eval x = .string s) (hv : a.eval v = u) (hK : ∀ w',zbq w' g (fun y => if y = s then some u else F y) → w.grownBy w' (some g) → wpList P ops Q rest (a.put o.dst undef) w') : wpList P ops Q (o :: rest) a w := by
 refine wpList_plain hg fun K' hK' => ?_
 obtain ⟨w',hrun,r1,r2⟩ := zh8 h ht hk s u
 unfold Oper.wp
 simp [execOp,hop,hm,hx,hv,hrun,Result.andThen]
 exact hK' _ _ (hK w' r1 r2)
theorem zfE (w : World) (hg : o.guard = none) (m x : Operand) (t k : TypeId) (hop : o.op = Op.call { callee := Callee.builtin Builtin.delete,args := #[m,x],argTypes := #[t,k] }) {e : TypeId} {g : Nat} {F : ByteArray → Option Value} (h : zbq w g F) (ht : P.underlying t = some (.map k e)) (hk : P.underlying k = some .string)
  (s : ByteArray) (hm : a.eval m = .map (some g)) (hx : a.eval x = .string s) (hK : ∀ w',zbq w' g (fun y => if y = s then none else F y) → w.grownBy w' (some g) → wpList P ops Q rest (a.put o.dst (.tuple #[])) w') : wpList P ops Q (o :: rest) a w := by
 refine wpList_plain hg fun K' hK' => ?_
 obtain ⟨w',hrun,r1,r2⟩ := mapF_del h ht hk o.type s
 unfold Oper.wp
 simp [execOp,hop,resolve,invoke,builtin,hm,hx,hrun,Result.andThen]
 exact hK' _ _ (hK w' r1 r2)
end
structure Trod (S : Nat → Prop) (A C : World) : Prop where
 os : C.os = A.os
 tape : C.tape = A.tape
 output : C.output = A.output
 size : A.heap.size ≤ C.heap.size
 block : ∀ j,j < A.heap.size → ¬ S j → C.heap[j]? = A.heap[j]?
theorem Trod.refl (S : Nat → Prop) (A : World) : Trod S A A := ⟨rfl,rfl,rfl,Nat.le_refl _,fun _ _ _ => rfl⟩
theorem Trod.trans {S : Nat → Prop} {A C E : World} (h : Trod S A C) (k : Trod S C E) : Trod S A E :=
 ⟨k.os.trans h.os,k.tape.trans h.tape,k.output.trans h.output,Nat.le_trans h.size k.size,fun j hj hn => (k.block j (Nat.lt_of_lt_of_le hj h.size) hn).trans (h.block j hj hn)⟩
theorem Trod.wide {S S' : Nat → Prop} {A C : World} (h : Trod S A C) (hs : ∀ j,S j → S' j) : Trod S' A C := ⟨h.os,h.tape,h.output,h.size,fun j hj hn => h.block j hj (fun hs' => hn (hs j hs'))⟩
theorem Trod.below {S : Nat → Prop} {A C E : World} (h : Trod S A C) (k : Below C.heap.size C E) : Trod S A E := h.trans ⟨k.os,k.tape,k.output,k.size,fun j hj _ => k.block j hj⟩
theorem Trod.grown {S : Nat → Prop} {A C E : World} (h : Trod S A C) {g : Nat} (k : C.grownBy E (some g)) (hg : S g ∨ A.heap.size ≤ g) : Trod S A E :=
 ⟨k.os.trans h.os,k.tape.trans h.tape,k.output.trans h.output,Nat.le_trans h.size k.size,fun j hj hn => (k.block j (Nat.lt_of_lt_of_le hj h.size) (fun e => by injection e with e;subst e;exact hg.elim hn (fun h => by omega))).trans (h.block j hj hn)⟩
theorem Trod.to_below {S : Nat → Prop} {A C : World} (h : Trod S A C) {B : Nat} (hB : B ≤ A.heap.size) (hs : ∀ j,S j → B ≤ j) : Below B A C := ⟨h.os,h.tape,h.output,h.size,fun j hj => h.block j (Nat.lt_of_lt_of_le hj hB) (fun hj' => by have := hs j hj';omega)⟩
theorem zau {S : Nat → Prop} {A C : World} {g : Nat} {o : Obj} (h : Trod S A C) (hb : A.heap[g]? = some o) (hg : ¬ S g) : C.heap[g]? = some o := (h.block g (zaF hb) hg).trans hb
theorem za1 {S : Nat → Prop} {A C : World} {g : Nat} {F : ByteArray → Option Value} (h : Trod S A C) (hb : zbq A g F) (hg : ¬ S g) : zbq C g F := zfa hb (h.block g (za8 hb) hg)
def zhq (L : List Oper) : Bool := L.all fun o => match o.op with | .defer _ => false | _ => true
theorem zgh {L : List Oper} (h : zhq L = true) : ∀ o ∈ L,∀ c,o.op ≠ .defer c := by
 intro o ho c hc
 have := List.all_eq_true.1 h o ho
 rw [hc] at this
 cases this
theorem zbT {P : Program} {ops : Array Oper} {Q : Exit → Act → World → Prop} {l n : Nat} {o : Oper} {rest : List Oper} {a : Act} {w : World} {N : Tmp} (_hN : o.dst = some N) (hQ : ¬ LetsOut Q) (hd : zhq (o :: rest) = true) (h : wpList P ops Q (o :: rest) a w) : wpListIn (Fence.wide.inRound l) n P ops Q (o :: rest) a w := zco hQ l n _ a w (zgh hd) h
section
variable {P : Program} {ops : Array Oper} {rest : List Oper} {o : Oper} {a : Act} {Q : Exit → Act → World → Prop} {W : World}
theorem gate_ins {t : TypeId} {m x v : Operand} (_ho : o.op = .insert t m x v) (h : wpList P ops Q (o :: rest) a W) : wpList P ops Q (o :: rest) a W := h
theorem zh0 {m x : Operand} {t k : TypeId} (_ho : o.op = .call { callee := .builtin .delete,args := #[m,x],argTypes := #[t,k] }) (h : wpList P ops Q (o :: rest) a W) : wpList P ops Q (o :: rest) a W := h
end
section
variable {P : Program} {ops : Array Oper} {rest : List Oper} {o : Oper} {a : Act} {Q : Exit → Act → World → Prop}
theorem zfb {W : World} (hgd : o.guard = none) {N : Tmp} (_hd : o.dst = some N)
  (hrun : (execOp a.eval o).run P W = .ok (.value (.map (some W.heap.size))) (W.alloc (.map #[] 0)))
  (h : ∀ g,g = W.heap.size → ∀ w1,zbq w1 g (fun _ => none) → Below W.heap.size W w1 → wpList P ops Q rest (a.put o.dst (.map (some g))) w1) : wpList P ops Q (o :: rest) a W :=
 Kd.event_run hgd hrun (h _ rfl _ (zh7 W) (zm (Below.refl _ _) _))
end
theorem far1 {W : World} {g q i : Nat} {v : Value} {o : Obj} (x : W.heap[g]? = some o) (n : g ≠ q) : (W.setCell ⟨q,i,none⟩ v).heap[g]? = some o := (Below.heap_setCell _ _ _ _ n).trans x
theorem adm {w1 W W' : World} {g q : Nat} {F : ByteArray → Option Value} (hw_ : W' = W) (n_ : g ≠ q) (x_ : zbq w1 g F) (h_ : g ≠ q → ∀ o,w1.heap[g]? = some o → W.heap[g]? = some o := by intro n_ o_ x_;(repeat (first | (with_reducible exact x_) | (with_reducible refine far1 ?_ n_)))) : zbq W' g F := by
 rw [hw_]
 obtain ⟨es,c,l,h1,h2⟩ := x_
 exact ⟨es,c,l,h_ n_ _ h1,h2⟩
theorem Trod.setS {S : Nat → Prop} {A C : World} (h : Trod S A C) {g : Nat} (hg : S g ∨ A.heap.size ≤ g) (i : Nat) (v : Value) : Trod S A (C.setCell ⟨g,i,none⟩ v) :=
 ⟨h.os,h.tape,h.output,Nat.le_trans h.size (by simp [World.setCell]),fun j hj hn => (Below.heap_setCell _ _ _ _ (by show j ≠ g;rintro rfl;exact hg.elim hn (fun h_ => by omega))).trans (h.block j hj hn)⟩
theorem Trod.set {S : Nat → Prop} {A C : World} (h : Trod S A C) {g : Nat} (hg : A.heap.size ≤ g) (i : Nat) (v : Value) : Trod S A (C.setCell ⟨g,i,none⟩ v) := h.setS (.inr hg) i v
theorem adt {S : Nat → Prop} {A w1 W W' : World} {g : Nat} (hw_ : W' = W) (n_ : A.heap.size ≤ g) (x_ : Trod S A w1) (h_ : A.heap.size ≤ g → Trod S A w1 → Trod S A W := by intro n_ x_;(repeat (with_reducible first | exact x_ | refine Trod.set ?_ n_ _ _))) : Trod S A W' := by rw [hw_];exact h_ n_ x_
theorem zeW (A : World) (l : Nat) (o' : Obj) : Trod (fun j => j = l) A (A.putObj l o') := ⟨rfl,rfl,rfl,by rw [World.putObj_size];exact Nat.le_refl _,fun _ _ hn => World.putObj_heap_other hn⟩
theorem Trod.of_below {A C : World} (h : Below A.heap.size A C) (S : Nat → Prop) : Trod S A C := (Trod.refl S A).below h
theorem zdv {α : Type} {d : Kd α} {S ok : Nat → Prop} {A C : World} {ad : Option Addr} {m : Nat} {xs : List α} (h : Trod S A C) (hf : Kd.F d A ok ad m xs) (hs : ∀ j,ok j → ¬ S j) : Kd.F d C ok ad m xs := Kd.F_step hf (fun j hj hlt => h.block j hlt (hs j hj))
theorem zf9 {P : Program} {ops : Array Oper} {Q : Exit → Act → World → Prop} {l n : Nat} {o : Oper} {rest : List Oper} {a : Act} {w : World} {t : TypeId} {m x v : Operand} (_ho : o.op = .mapUpdate t m x v) (hQ : ¬ LetsOut Q) (hd : zhq (o :: rest) = true) (h : wpList P ops Q (o :: rest) a w) : wpListIn (Fence.wide.inRound l) n P ops Q (o :: rest) a w := zco hQ l n _ a w (zgh hd) h
theorem Trod.join {S S' : Nat → Prop} {A C E : World} (h : Trod S A C) (k : Trod S' C E) (hs : ∀ j,S' j → S j ∨ A.heap.size ≤ j) : Trod S A E :=
 ⟨k.os.trans h.os,k.tape.trans h.tape,k.output.trans h.output,Nat.le_trans h.size k.size,fun j hj hn => (k.block j (Nat.lt_of_lt_of_le hj h.size) (fun hc => (hs j hc).elim hn (fun h_ => by omega))).trans (h.block j hj hn)⟩
end Go.Proofs.Ytndjfdakflaggaa.Px
namespace Go.Proofs.Ytndjfdakflaggaa.Px
open Go.RowKit Go.Proofs.YtndjfdakflaggaaW.PrintWords Go.Proofs.YtndjfdakflaggaaW.PrintLast Go.Proofs.YtndjfdakflaggaaW.PrintMore
attribute [local go_sem] zC zE zI zJ zu zv zD zF
set_option linter.unusedVariables false
set_option linter.unusedSimpArgs false
def zcc (r : Int) : Nat → Int
 | 0 => r
 | k + 1 => wrap64 (zcc r k - 1)
def zb2 (L : List Ent) (r : Int) (k : Nat) : List Ent := zcb L (zcc r k)
set_option maxHeartbeats 4000000 in
theorem zhk (n low r : Int) (A0 : Option Addr) (m c0 : Nat) (w : World) :
  Calls Try.prog 45 #[.agg #[.int .i64 n,.int .i64 low,.slice A0 m c0],.int .i64 r] w fun e w' => ∃ gd gf,e = .returned (.func (.func 63) #[] #[.pointer (some ⟨gf,0,none⟩),.pointer (some ⟨gd,0,none⟩)]) ∧ w.heap.size ≤ gd ∧ w.heap.size ≤ gf ∧ w'.heap[gd]? = some (.cells #[.int .i64 n,.int .i64 low,.slice A0 m c0] 24 (0,0)) ∧ w'.heap[gf]? = some (.cells #[.int .i64 r] 3 (0,0)) ∧ Below w.heap.size w w' := by
 have Hw := za.mk (Below.refl w.heap.size w)
 go_enter Try.func45,Try.ntmps45
 go_wp2_with (first
  | ((with_reducible refine zq (N := 2) rfl ?_);refine zn rfl (N := 2) rfl (cs := #[.int .i64 n,.int .i64 low,.slice A0 m c0]) (t := 24) hrq ?_;intro gd hg w2 hbox hb;have Gw_gd := za.mk (adg Hw.out hg);replace Hw := za.mk (adl Hw.out hb);have Bgd := za.mk hbox;clear hbox hb hg)
  | ((with_reducible refine zq (N := 3) rfl ?_);refine zn rfl (N := 3) rfl (cs := #[.int .i64 r]) (t := 3) hrq ?_;intro gf hg w3 hbox hb;have Gw_gf := za.mk (adg Hw.out hg);have Ngd_gf := za.mk (adn hg Bgd.out);replace Bgd := za.mk (adb Bgd.out hb);replace Hw := za.mk (adl Hw.out hb);have Bgf := za.mk hbox;clear hbox hb hg))
 go_ret
 exact ⟨_,_,rfl,Gw_gd.out,Gw_gf.out,Bgd.out,Bgf.out,Hw.out⟩
set_option maxHeartbeats 4000000 in
theorem zhW (n low r : Int) (A0 : Option Addr) (c0 : Nat) (L : List Ent) (gd gf n0 B K : Nat) (hl : L.length < 1466015503701) (hne : ∀ j,j < K → zb2 L r j ≠ []) (hK : zb2 L r K = []) :
  SeqN (α := Option Addr × Nat) Try.prog 63 #[.pointer (some ⟨gf,0,none⟩),.pointer (some ⟨gd,0,none⟩)] (fun k x => #[.int .i64 (zcc r k),.slice x.1 (zb2 L r k).length x.2])
   (fun k x W0 W => Kd.F k34 W (fun j => j < n0 ∨ W0.heap.size ≤ j) x.1 (zb2 L r k).length (zb2 L r k))
   (fun W => W.heap[gd]? = some (.cells #[.int .i64 n,.int .i64 low,.slice A0 L.length c0] 24 (0,0)) ∧ W.heap[gf]? = some (.cells #[.int .i64 r] 3 (0,0)) ∧ Kd.V k34 34 W W.heap.size (fun j => j < n0) (.slice A0 L.length c0) L) K B := by
 intro l J W hBW hJb hJD hJB hY h0
 show Calls _ _ #[.func (.yield l) #[] #[],.pointer (some ⟨gf,0,none⟩),.pointer (some ⟨gd,0,none⟩)] W _
 have HJb := za.mk hJb
 have HJD := za.mk hJD
 have HJB := za.mk hJB
 have HY := za.mk hY
 have HL := za.mk hl
 have HNE := za.mk hne
 have HKE := za.mk hK
 have H0 := za.mk h0
 have hx0 := (zb (hJD _ _ h0).2.1 0).trans rfl
 clear hJb hJD hJB hY hl hne hK h0
 go_enter Try.func63,Try.ntmps63
 go_wp2_with fail
 go_loopg [4] (K + 1) (fun kq v4 wr => ∃ k : Nat,v4 = .int .i64 (zcc r k) ∧ za (k + kq = K + 1) ∧ za (k ≤ K) ∧ za (J k wr))
 case atStart => exact ⟨0,rfl,⟨by omega⟩,⟨Nat.zero_le _⟩,H0⟩
 case round =>
  clear H0 hx0
  obtain ⟨k,rfl,HKQ,HK,HJ⟩ := hrel
  cases gk with
  | zero => have := HKQ.out;have := HK.out;omega
  | succ kq =>
  obtain ⟨hd,_,hv⟩ := HJD.out _ _ HJ.out
  have HV := za.mk hv
  have hd0 := (zb hd 0).trans rfl
  have hd1 := (zb hd 1).trans rfl
  have hd2 := (zb hd 2).trans rfl
  clear hd hv
  obtain ⟨kr,hkr⟩ := (zfr n low L (zcc r k) HL.out).rounds
  have HR : za (zaS.f kr n low L (zcc r k) = some (zb2 L r k)) := ⟨hkr⟩
  have HLL : za ((zb2 L r k).length ≤ L.length) := ⟨zes _ _⟩
  clear hkr
  have hrn : zcc r (k + 1) = wrap64 (zcc r k - 1) := rfl
  have HRN := za.mk hrn
  clear hrn
  rcases Nat.lt_or_ge k K with hlt | hge
  ·have hz : (((zb2 L r k).length : Int) == 0) = false := beq_eq_false_iff_ne.2 (fun h => HNE.out k hlt (List.eq_nil_of_length_eq_zero (by omega)))
   have HLT := za.mk hlt
   clear hlt
   refine wp_seq_k (fun K1 hK1 => ?_)
   refine wp_block ?_
   refine wp_seq_k (fun K2 hK2 => ?_)
   have HK2 := za.mk hK2
   clear hK2
   go_wp2_with (go_at_call 52;(with_reducible refine (zaS.calls kr n low (fun j => j < n0) A0 c0 L (zcc r k) (zb2 L r k) _ (Kd.V_lower HV.out (Nat.le_refl _)) HR.out).mono ?_);rintro e w5 ⟨v22,rfl,hN,hb⟩;obtain ⟨A22,c22,rfl⟩ := Kd.N_slice hN;have HG := za.mk (Kd.N_F hN);have HB5 := za.mk hb;have HJ5 := za.mk (HJb.out _ _ _ HJ.out hb);clear hb hN;clear hd0 hd1 hd2)
   refine HK2.out _ _ ?_
   clear HK2
   refine wp_seq_k (fun K3 hK3 => ?_)
   refine gate_wide ?_
   obtain ⟨fn,tmps,assign,body,hy,hR⟩ := HY.out 0 k (A22,c22) wr w5 HLT.out HJ.out HB5.out HJ5.out HG.out
   dsimp only at hy
   gi_wp2
   refine hR.mono ?_
   rintro e w6 ⟨rfl,hJ6⟩
   have HJ6 := za.mk hJ6
   clear hJ6 hy hR
   gi_wp2
   go_wp2_with fail
   go_roundg kq
   case measure => omega
   case rel => exact ⟨k + 1,rfl,⟨by have := HKQ.out;omega⟩,⟨HLT.out⟩,HJ6⟩
  ·obtain rfl : k = K := Nat.le_antisymm HK.out hge
   have hz : (((zb2 L r k).length : Int) == 0) = true := beq_iff_eq.2 (by rw [HKE.out];rfl)
   go_wp2_with (go_at_call 52;(with_reducible refine (zaS.calls kr n low (fun j => j < n0) A0 c0 L (zcc r k) (zb2 L r k) _ (Kd.V_lower HV.out (Nat.le_refl _)) HR.out).mono ?_);rintro e w5 ⟨v22,rfl,hN,hb⟩;obtain ⟨A22,c22,rfl⟩ := Kd.N_slice hN;have HJ5 := za.mk (HJb.out _ _ _ HJ.out hb);clear hb hN;clear hd0 hd1 hd2)
   refine bodyPost_ret (results_none rfl _ _ _) rfl ?_
   exact ⟨⟨_,rfl⟩,HJ5.out⟩
attribute [local go_sem] Oper.semAt_some
abbrev StP := (ByteArray → Option Int) × (ByteArray → Bool)
def zdc (r0 : Int) (g : ByteArray) (r : Int) (W : ByteArray → Bool) (x : Ent) : Bool := W x.f0 && !(decide (r = r0) && decide (x.f0 ≠ g))
def zbB (r0 : Int) (g : ByteArray) (r : Int) (s : StP × (ByteArray → Bool)) (x : Ent) : StP × (ByteArray → Bool) :=
 if zdc r0 g r s.1.2 x = true then ((fun y => if y = x.f0 then some r else s.1.1 y,fun y => if y = x.f0 then false else s.1.2 y),fun y => s.2 y || x.f1.f3.any fun p => decide (p = y)) else s
def levP (r0 : Int) (g : ByteArray) (r : Int) (s : StP) (l : List Ent) : StP := ((l.foldl (zbB r0 g r) (s,fun _ => false)).1.1,(l.foldl (zbB r0 g r) (s,fun _ => false)).2)
def zbv (L : List Ent) (r0 : Int) (g : ByteArray) : Nat → StP
 | 0 => (fun _ => none,fun y => decide (y = g))
 | k + 1 => levP r0 g (zcc r0 k) (zbv L r0 g k) (zb2 L r0 k)
def inV (I : ByteArray → Option Int) (y : ByteArray) : Option Value := (I y).map (Value.int .i64)
def zcD (W : ByteArray → Bool) (y : ByteArray) : Option Value := cond (W y) (some (.bool true)) none
theorem zeY (W : ByteArray → Bool) (y : ByteArray) : (zcD W y).getD (.bool false) = .bool (W y) := by unfold zcD;cases W y <;> rfl
theorem ziq (W : ByteArray → Bool) (s : ByteArray) (y : ByteArray) : (if y = s then none else zcD W y) = zcD (fun y => if y = s then false else W y) y := by unfold zcD;by_cases h : y = s <;> simp [h]
theorem in_put (I : ByteArray → Option Int) (s : ByteArray) (r : Int) (y : ByteArray) : (if y = s then some (Value.int .i64 r) else inV I y) = inV (fun y => if y = s then some r else I y) y := by unfold inV;by_cases h : y = s <;> simp [h]
theorem zir (N : ByteArray → Bool) (ps : List ByteArray) (j : Nat) (p : ByteArray) (hp : ps[j]? = some p) (y : ByteArray) : (if y = p then some (Value.bool true) else zcD (fun y => N y || (ps.take j).any fun p => decide (p = y)) y) = zcD (fun y => N y || (ps.take (j + 1)).any fun p => decide (p = y)) y := by
 have e : (ps.take (j + 1)).any (fun p => decide (p = y)) = ((ps.take j).any (fun p => decide (p = y)) || decide (p = y)) := by
  rw [List.take_add_one,hp,Option.toList_some,List.any_append,List.any_cons,List.any_nil,Bool.or_false]
 unfold zcD
 dsimp only
 rw [e]
 by_cases h : y = p
 ·subst h;simp
 ·have : ¬ p = y := fun e => h e.symm
  rw [if_neg h,decide_eq_false this,Bool.or_false]
theorem ent_F {W : World} {ok : Nat → Prop} {A : Option Addr} {L : List Ent} (h : Kd.F k34 W ok A L.length L) (i : Nat) (hi : i < L.length) (x : Ent) (hx : L[i]? = some x) :
  ∃ ad A3 c3 A4 c4,A = some ad ∧ W.cell? (ad.add (i * 7)) = some (.string x.f0) ∧ W.cell? ⟨(ad.add (i * 7)).block,(ad.add (i * 7)).off + 1,none⟩ = some (.int .i64 x.f1.f0) ∧ W.cell? ⟨(ad.add (i * 7)).block,(ad.add (i * 7)).off + 2,none⟩ = some (.int .i64 x.f1.f1) ∧ W.cell? ⟨(ad.add (i * 7)).block,(ad.add (i * 7)).off + 3,none⟩ = some (.slice A3 x.f1.f2.length c3) ∧
   W.cell? ⟨(ad.add (i * 7)).block,(ad.add (i * 7)).off + 4,none⟩ = some (.slice A4 x.f1.f3.length c4) ∧ W.cell? ⟨(ad.add (i * 7)).block,(ad.add (i * 7)).off + 5,none⟩ = some (.int .i64 x.f1.f4.f0) ∧ W.cell? ⟨(ad.add (i * 7)).block,(ad.add (i * 7)).off + 6,none⟩ = some (.int .i64 x.f1.f4.f1) ∧ Kd.F Kd.string W ok A4 x.f1.f3.length x.f1.f3 := by
 obtain ⟨ad,cs,rfl,_,hF,hc0,_⟩ := Kd.F_get h z34 (i : Int) (by omega) (by omega)
 rw [List.getD_eq_getElem?_getD,Int.toNat_natCast,hx] at hF
 have hc : ∀ j u,cs[j]? = some u → W.cell? (ad.add (i * 7 + j)) = some u := fun j u hj => by have := hc0 j u hj;rwa [Int.toNat_natCast] at this
 obtain ⟨A3,c3,A4,c4,rfl,l3,g3,l4,g4⟩ := zbJ hF
 exact ⟨ad,A3,c3,A4,c4,rfl,hc 0 _ rfl,by rw [← zW _ _ 1 (by omega)];exact hc 1 _ rfl,by rw [← zW _ _ 2 (by omega)];exact hc 2 _ rfl,by rw [← zW _ _ 3 (by omega)];exact hc 3 _ rfl,by rw [← zW _ _ 4 (by omega)];exact hc 4 _ rfl,by rw [← zW _ _ 5 (by omega)];exact hc 5 _ rfl,by rw [← zW _ _ 6 (by omega)];exact hc 6 _ rfl,g4⟩
structure InvP (w : World) (o3 o5 od of : Obj) (base : Nat) (A0 : Option Addr) (c0 : Nat) (L : List Ent) (B gi g3 g5 g6 gd gf : Nat) (s : StP) (bw : Nat) (W : World) : Prop where
 mi : zbq W gi (inV s.1)
 mw : zbq W bw (zcD s.2)
 b3 : W.heap[g3]? = some o3
 b5 : W.heap[g5]? = some o5
 b6 : W.heap[g6]? = some (.cells #[.map (some bw)] 72 (0,0))
 bd : W.heap[gd]? = some od
 bf : W.heap[gf]? = some of
 hv : Kd.V k34 34 W W.heap.size (fun j => j < w.heap.size) (.slice A0 L.length c0) L
 hb : Below w.heap.size w W
 nb : bw ≠ B ∧ bw ≠ B + 1
 ni : bw ≠ gi
 lb : w.heap.size ≤ bw
theorem InvP.move {w : World} {o3 o5 od of : Obj} {base : Nat} {A0 : Option Addr} {c0 : Nat} {L : List Ent} {B gi g3 g5 g6 gd gf : Nat} {s : StP} {bw : Nat} {W C : World} (h : InvP w o3 o5 od of base A0 c0 L B gi g3 g5 g6 gd gf s bw W) {S : Nat → Prop} (t : Trod S W C)
  (hs : ∀ j,S j → j ≠ gi ∧ j ≠ bw ∧ j ≠ g3 ∧ j ≠ g5 ∧ j ≠ g6 ∧ j ≠ gd ∧ j ≠ gf ∧ w.heap.size ≤ j) : InvP w o3 o5 od of base A0 c0 L B gi g3 g5 g6 gd gf s bw C :=
 ⟨za1 t h.mi (fun h_ => (hs _ h_).1 rfl),za1 t h.mw (fun h_ => (hs _ h_).2.1 rfl),zau t h.b3 (fun h_ => (hs _ h_).2.2.1 rfl),zau t h.b5 (fun h_ => (hs _ h_).2.2.2.1 rfl),zau t h.b6 (fun h_ => (hs _ h_).2.2.2.2.1 rfl),zau t h.bd (fun h_ => (hs _ h_).2.2.2.2.2.1 rfl),zau t h.bf (fun h_ => (hs _ h_).2.2.2.2.2.2.1 rfl),
  Kd.V_map h.hv (fun _ hf => zdv t hf (fun j hj h_ => by have := (hs _ h_).2.2.2.2.2.2.2;omega)),h.hb.trans (t.to_below h.hb.size (fun j h_ => (hs _ h_).2.2.2.2.2.2.2)),h.nb,h.ni,h.lb⟩
theorem zeB {W : World} {b q : Nat} {F : ByteArray → Option Value} {cs : Array Value} {t : TypeId} (h : zbq W b F) (hq : W.heap[q]? = some (.cells cs t (0,0))) : b ≠ q := by
 rintro rfl
 obtain ⟨es,c,l,h1,_⟩ := h
 rw [h1] at hq
 cases hq
set_option maxHeartbeats 8000000 in
set_option maxRecDepth 100000 in
theorem zeK (n low : Int) (A0 : Option Addr) (c0 : Nat) (L : List Ent) (g : ByteArray) (a1 r : Int) (A3 : Option Addr) (n3 c3 : Nat) (A4 : Option Addr) (n4 c4 : Nat) (b1 b2 : Int) (K : Nat) (w : World) (hv : Kd.V k34 34 w w.heap.size (fun j => j < w.heap.size) (.slice A0 L.length c0) L)
  (hl : L.length < 1466015503701) (hne : ∀ j,j < K → zb2 L r j ≠ []) (hK : zb2 L r K = []) :
  Calls Try.prog 26 #[.agg #[.int .i64 n,.int .i64 low,.slice A0 L.length c0],.agg #[.string g,.int .i64 a1,.int .i64 r,.slice A3 n3 c3,.slice A4 n4 c4,.int .i64 b1,.int .i64 b2]] w fun e w' => ∃ gm,e = .returned (.map (some gm)) ∧ zbq w' gm (inV (zbv L r g K).1) ∧ Below w.heap.size w w' := by
 have HKV := za.mk hv
 have HL := za.mk hl
 have HNE := za.mk hne
 have HKE := za.mk hK
 have Hw := za.mk (Below.refl w.heap.size w)
 clear hv hl hne hK
 have hmm := @run_makeMap Try.prog
 refine zeA Try.func26 rfl ?_
 simp only [Try.ntmps26,List.size_toArray,List.length_cons,List.length_nil,Nat.reduceAdd,Nat.reduceSub,Array.replicate_succ,Array.replicate_zero,List.push_toArray,List.append_toArray,List.nil_append,List.cons_append]
 go_wp2_with (first
  | ((with_reducible refine zq (N := 2) rfl ?_);refine zn rfl (N := 2) rfl (cs := #[.int .i64 n,.int .i64 low,.slice A0 L.length c0]) (t := 24) hrq ?_;intro g2 hg w2 hbox hb;have Gw_g2 := za.mk (adg Hw.out hg);replace Hw := za.mk (adl Hw.out hb);have Bg2 := za.mk hbox;clear hbox hb hg)
  | ((with_reducible refine zq (N := 3) rfl ?_);refine zn rfl (N := 3) rfl (cs := #[.string g,.int .i64 a1,.int .i64 r,.slice A3 n3 c3,.slice A4 n4 c4,.int .i64 b1,.int .i64 b2]) (t := 34) hrq ?_;intro g3 hg w3 hbox hb;have Gw_g3 := za.mk (adg Hw.out hg);have Ng2_g3 := za.mk (adn hg Bg2.out);replace Bg2 := za.mk (adb Bg2.out hb);replace Hw := za.mk (adl Hw.out hb);have Bg3 := za.mk hbox;clear hbox hb hg)
  | ((with_reducible refine zq (N := 14) rfl ?_);refine zfb ?hg (N := 14) ?hd ?hr ?_;(case hd => rfl);(case hg => rfl);(case hr => first | (go_simp;done) | (go_simp;rfl));intro gi hg w4 hm hb;have Gw_gi := za.mk (adg Hw.out hg);have Ng2_gi := za.mk (adn hg Bg2.out);have Ngi_g2 := za.mk (Ne.symm Ng2_gi.out);have Ng3_gi := za.mk (adn hg Bg3.out);have Ngi_g3 := za.mk (Ne.symm Ng3_gi.out);replace Bg2 := za.mk (adb Bg2.out hb);replace Bg3 := za.mk (adb Bg3.out hb);replace Hw := za.mk (adl Hw.out hb);have Mgi := za.mk hm;clear hm hb hg)
  | ((with_reducible refine zq (N := 5) rfl ?_);refine zn rfl (N := 5) rfl (cs := #[.map none]) (t := 55) hrq ?_;intro g5 hg w5 hbox hb;have Ngi_g5 := za.mk (show gi ≠ g5 from by rw [hg];exact Nat.ne_of_lt (za8 Mgi.out));have Ng5_gi := za.mk (Ne.symm Ngi_g5.out);have Gw_g5 := za.mk (adg Hw.out hg);have Ng2_g5 := za.mk (adn hg Bg2.out);have Ng3_g5 := za.mk (adn hg Bg3.out);replace Bg2 := za.mk (adb Bg2.out hb);replace Bg3 := za.mk (adb Bg3.out hb);replace Hw := za.mk (adl Hw.out hb);replace Mgi := za.mk (zaP Mgi.out hb);have Bg5 := za.mk hbox;clear hbox hb hg;obtain ⟨zg5_0,fg5_0⟩ := hcq1 Bg5.out)
  | ((with_reducible refine zaD (t := 55) (p := 5) rfl ?_);refine zaw (t := 55) (p := 5) (v := _) (w1 := (World.setCell w5 ⟨g5,0,none⟩ (.map (some gi)))) rfl rfl rfl hrq ?_;intro w6 hw;clear zg5_0 fg5_0;replace Bg2 := za.mk (adf hw Ng2_g5.out Bg2.out);replace Bg3 := za.mk (adf hw Ng3_g5.out Bg3.out);replace Bg5 : za (w6.heap[g5]? = some (.cells #[.map (some gi)] 55 (0,0))) := ⟨adp hw Bg5.out⟩;replace Hw := za.mk (ads hw Gw_g5.out Hw.out);replace Mgi := za.mk (adm hw Ngi_g5.out Mgi.out);clear hw)
  | ((with_reducible refine zq (N := 15) rfl ?_);refine zfb ?hg (N := 15) ?hd ?hr ?_;(case hd => rfl);(case hg => rfl);(case hr => first | (go_simp;done) | (go_simp;rfl));intro gw hg w7 hm hb;have Gw_gw := za.mk (adg Hw.out hg);have Ng2_gw := za.mk (adn hg Bg2.out);have Ngw_g2 := za.mk (Ne.symm Ng2_gw.out);have Ng3_gw := za.mk (adn hg Bg3.out);have Ngw_g3 := za.mk (Ne.symm Ng3_gw.out);have Ng5_gw := za.mk (adn hg Bg5.out);have Ngw_g5 := za.mk (Ne.symm Ng5_gw.out);have Ngi_gw := za.mk (show gi ≠ gw from by rw [hg];exact Nat.ne_of_lt (za8 Mgi.out));have Ngw_gi := za.mk (Ne.symm Ngi_gw.out);replace Bg2 := za.mk (adb Bg2.out hb);replace Bg3 := za.mk (adb Bg3.out hb);replace Bg5 := za.mk (adb Bg5.out hb);replace Hw := za.mk (adl Hw.out hb);replace Mgi := za.mk (zaP Mgi.out hb);have Mgw := za.mk hm;clear hm hb hg;obtain ⟨zg3_0,zg3_1,zg3_2,zg3_3,zg3_4,zg3_5,zg3_6,fg3_0,fg3_1,fg3_2,fg3_3,fg3_4,fg3_5,fg3_6⟩ := hcq7 Bg3.out)
  | ((with_reducible refine gate_ins (t := 72) rfl ?_);refine zis _ rfl _ _ _ 72 rfl Mgw.out Try.underlying72 Try.underlying9 g (.bool true) rfl rfl rfl ?_;intro w8 hm8 hg8;have hT := Trod.grown (Trod.refl (fun j => j = gw) _) hg8 (.inl rfl);clear zg3_0 zg3_1 zg3_2 zg3_3 zg3_4 zg3_5 zg3_6 fg3_0 fg3_1 fg3_2 fg3_3 fg3_4 fg3_5 fg3_6;replace Bg2 := za.mk (zau hT Bg2.out Ng2_gw.out);replace Bg3 := za.mk (zau hT Bg3.out Ng3_gw.out);replace Bg5 := za.mk (zau hT Bg5.out Ng5_gw.out);replace Hw := za.mk (Hw.out.trans (hT.to_below (zh Hw.out) (fun j e => by rw [e];exact Gw_gw.out)));replace Mgi := za.mk (za1 hT Mgi.out Ngi_gw.out);replace Mgw := za.mk hm8;clear hT hm8 hg8)
  | ((with_reducible refine zq (N := 6) rfl ?_);refine zn rfl (N := 6) rfl (cs := #[.map none]) (t := 72) hrq ?_;intro g6 hg w9 hbox hb;have Ngi_g6 := za.mk (show gi ≠ g6 from by rw [hg];exact Nat.ne_of_lt (za8 Mgi.out));have Ng6_gi := za.mk (Ne.symm Ngi_g6.out);have Ngw_g6 := za.mk (show gw ≠ g6 from by rw [hg];exact Nat.ne_of_lt (za8 Mgw.out));have Ng6_gw := za.mk (Ne.symm Ngw_g6.out);have Gw_g6 := za.mk (adg Hw.out hg);have Ng2_g6 := za.mk (adn hg Bg2.out);have Ng3_g6 := za.mk (adn hg Bg3.out);have Ng5_g6 := za.mk (adn hg Bg5.out);replace Bg2 := za.mk (adb Bg2.out hb);replace Bg3 := za.mk (adb Bg3.out hb);replace Bg5 := za.mk (adb Bg5.out hb);replace Hw := za.mk (adl Hw.out hb);replace Mgi := za.mk (zaP Mgi.out hb);replace Mgw := za.mk (zaP Mgw.out hb);have Bg6 := za.mk hbox;clear hbox hb hg;obtain ⟨zg6_0,fg6_0⟩ := hcq1 Bg6.out)
  | ((with_reducible refine zaD (t := 72) (p := 6) rfl ?_);refine zaw (t := 72) (p := 6) (v := _) (w1 := (World.setCell w9 ⟨g6,0,none⟩ (.map (some gw)))) rfl rfl rfl hrq ?_;intro w10 hw;clear zg6_0 fg6_0;replace Bg2 := za.mk (adf hw Ng2_g6.out Bg2.out);replace Bg3 := za.mk (adf hw Ng3_g6.out Bg3.out);replace Bg5 := za.mk (adf hw Ng5_g6.out Bg5.out);replace Bg6 : za (w10.heap[g6]? = some (.cells #[.map (some gw)] 72 (0,0))) := ⟨adp hw Bg6.out⟩;replace Hw := za.mk (ads hw Gw_g6.out Hw.out);replace Mgi := za.mk (adm hw Ngi_g6.out Mgi.out);replace Mgw := za.mk (adm hw Ngw_g6.out Mgw.out);clear hw;obtain ⟨zg2_0,zg2_1,zg2_2,fg2_0,fg2_1,fg2_2⟩ := hcq3 Bg2.out;obtain ⟨zg3_0,zg3_1,zg3_2,zg3_3,zg3_4,zg3_5,zg3_6,fg3_0,fg3_1,fg3_2,fg3_3,fg3_4,fg3_5,fg3_6⟩ := hcq7 Bg3.out;have L6 := za.mk (zaF Bg6.out))
  | (go_at_call 45;refine (zhk n low r A0 L.length c0 _).mono ?_;rintro e w11 ⟨gd,gf,rfl,hgd,hgf,hbd,hbf,hb⟩;clear zg2_0 zg2_1 zg2_2 fg2_0 fg2_1 fg2_2 zg3_0 zg3_1 zg3_2 zg3_3 zg3_4 zg3_5 zg3_6 fg3_0 fg3_1 fg3_2 fg3_3 fg3_4 fg3_5 fg3_6;replace Bg2 := za.mk (adb Bg2.out hb);replace Bg3 := za.mk (adb Bg3.out hb);replace Bg5 := za.mk (adb Bg5.out hb);replace Bg6 := za.mk (adb Bg6.out hb);replace Hw := za.mk (adl Hw.out hb);replace Mgi := za.mk (zaP Mgi.out hb);replace Mgw := za.mk (zaP Mgw.out hb);have HKW := za.mk (Kd.V_below HKV.out Hw.out);have BD := za.mk hbd;have BF := za.mk hbf;have LD := za.mk (Nat.le_trans (zh (Below.refl _ _)) hgd);have LF := za.mk hgf;have Ng6_gd := za.mk (show g6 ≠ gd from Nat.ne_of_lt (Nat.lt_of_lt_of_le L6.out hgd));have Ng6_gf := za.mk (show g6 ≠ gf from Nat.ne_of_lt (Nat.lt_of_lt_of_le L6.out hgf));clear hbd hbf hgd hgf;clear hb))
 clear hmm
 obtain ⟨l3,l5,l6⟩ : g3 < w11.heap.size ∧ g5 < w11.heap.size ∧ g6 < w11.heap.size := ⟨zaF Bg3.out,zaF Bg5.out,zaF Bg6.out⟩
 obtain ⟨li,lw,ld,lf⟩ : gi < w11.heap.size ∧ gw < w11.heap.size ∧ gd < w11.heap.size ∧ gf < w11.heap.size := ⟨za8 Mgi.out,za8 Mgw.out,zaF BD.out,zaF BF.out⟩
 have hsz := zh Hw.out
 refine zgF (α := Option Addr × Nat) (gf := 63) (lb := #[.pointer (some ⟨gf,0,none⟩),.pointer (some ⟨gd,0,none⟩)]) rfl (enters_of Try.func63 (by kernel_rfl) rfl)
  (zhW n low r A0 c0 L gd gf w.heap.size (w11.heap.size + 2) K HL.out HNE.out HKE.out) (fun _ _ => rfl)
  (fun k W => ∃ bw,InvP w (.cells #[.string g,.int .i64 a1,.int .i64 r,.slice A3 n3 c3,.slice A4 n4 c4,.int .i64 b1,.int .i64 b2] 34 (0,0)) (.cells #[.map (some gi)] 55 (0,0)) (.cells #[.int .i64 n,.int .i64 low,.slice A0 L.length c0] 24 (0,0)) (.cells #[.int .i64 r] 3 (0,0)) 0 A0 c0 L w11.heap.size gi g3 g5 g6 gd gf (zbv L r g k) bw W)
  (fun k A C h hb => by obtain ⟨bw,h⟩ := h;exact ⟨bw,h.move (Trod.of_below hb (fun _ => False)) (fun _ h_ => h_.elim)⟩)
  (fun k A l o o' h hl _ _ _ => by obtain ⟨bw,h⟩ := h;have hnb := h.nb;exact ⟨bw,h.move (zeW A l o') (fun j h_ => by subst h_;refine ⟨?_,?_,?_,?_,?_,?_,?_,?_⟩ <;> rcases hl with hl | hl <;> omega)⟩)
  (fun k x W0 A o' hs0 h => zdv (zeW A _ o') h (fun j hj h_ => by rcases hj with hj | hj <;> omega))
  (fun k A h => by obtain ⟨bw,h⟩ := h;exact ⟨h.bd,h.bf,h.hv⟩)
  ⟨gw,⟨Mgi.out,zbX Mgw.out (fun y => by simp [zcD,zbv]),Bg3.out,Bg5.out,Bg6.out,BD.out,BF.out,HKW.out,Hw.out,⟨by omega,by omega⟩,Ngw_gi.out,Gw_gw.out⟩⟩
  (fun k x => { tmps := #[.agg #[.int .i64 n,.int .i64 low,.slice A0 L.length c0],.agg #[.string g,.int .i64 a1,.int .i64 r,.slice A3 n3 c3,.slice A4 n4 c4,.int .i64 b1,.int .i64 b2],.pointer (some ⟨g2,0,none⟩),.pointer (some ⟨g3,0,none⟩),.map none,.pointer (some ⟨g5,0,none⟩),.pointer (some ⟨g6,0,none⟩),.int .i64 (zcc r k),.slice x.1 (zb2 L r k).length x.2,undef,undef,undef,undef,undef,.map (some gi),.map (some gw),.pointer (some ⟨g3,0,none⟩),.string g,.map (some gw),.agg #[.int .i64 n,.int .i64 low,.slice A0 L.length c0],.pointer (some ⟨g3,1,none⟩),.pointer (some ⟨g3,2,none⟩),.int .i64 r,.func (.func 63) #[] #[.pointer (some ⟨gf,0,none⟩),.pointer (some ⟨gd,0,none⟩)],.int .i64 (zcc r k),.slice x.1 (zb2 L r k).length x.2,undef,undef,undef,undef,undef,undef,undef,undef,undef,undef,undef,undef,undef,undef,undef,undef,undef,undef,undef,undef,undef,undef,undef,undef,undef,undef,undef,undef,undef,undef,undef,undef,undef,undef,undef,undef,undef,undef,undef,undef,undef,undef,undef,undef,undef,undef,undef],defers := [] }) ?assign ?body ?done
 case assign =>
  intro l_ n_ k x W Kq hK
  gi_wp2
  exact hK
 case body =>
  rintro n_ k ⟨Ax,cx⟩ W0 W hk hs0 hs1 ⟨bw,h0⟩ hkeep ⟨bw',h1⟩ hF
  obtain rfl : bw = bw' := by
   have e := (hkeep g6 (by omega) (by omega)).symm.trans h1.b6
   rw [h0.b6] at e
   injection e with e
   injection e with e _
   simp at e
   exact e
  have lbw : bw < W0.heap.size := za8 h0.mw
  have nbw := h1.nb
  have hnext : zbv L r g (k + 1) = levP r g (zcc r k) (zbv L r g k) (zb2 L r k) := rfl
  have HF := za.mk (Kd.F_bound hF)
  have H1 := za.mk h1
  have HNX := za.mk hnext
  have q1 := Gw_gi.out
  have q2 := h1.lb
  have q3 := zaF h1.b3
  have q5 := zaF h1.b5
  have q6 := zaF h1.b6
  have qi := za8 h1.mi
  have qw := za8 h1.mw
  have hlm := (Kd.F_now hF).2.1
  have Ng3_bw := za.mk (Ne.symm (zeB h1.mw h1.b3))
  have Ng5_bw := za.mk (Ne.symm (zeB h1.mw h1.b5))
  have Ng6_bw := za.mk (Ne.symm (zeB h1.mw h1.b6))
  have Nbw_gi := za.mk h1.ni
  have Nbw_gd := za.mk (zeB h1.mw h1.bd)
  have Nbw_gf := za.mk (zeB h1.mw h1.bf)
  have Ngi_gd := za.mk (zeB h1.mi h1.bd)
  have Ngi_gf := za.mk (zeB h1.mi h1.bf)
  have Ngi_bw := za.mk (Ne.symm h1.ni)
  clear hF hnext h0 h1 hkeep
  generalize zcc r k = rk at *
  generalize zb2 L r k = l at *
  generalize zbv L r g k = s at *
  gi_wp2_with ((with_reducible refine zbT (N := 26) rfl ?hQ ?hd ?_);(case hQ => rintro ⟨_,_,h_⟩;exact h_);(case hd => rfl))
  go_wp2_with ((with_reducible refine zq (N := 26) rfl ?_);refine zfb ?hg (N := 26) ?hd ?hr ?_;(case hd => rfl);(case hg => rfl);(case hr => first | (go_simp;done) | (go_simp;rfl));intro gn hg wa hm hb;have Mn := za.mk hm;have Tn := za.mk (Trod.of_below hb (fun j => j = gi ∨ j = bw));have GN := za.mk (Nat.le_of_eq hg.symm);have Mi := za.mk (zaP H1.out.mi hb);have Mw := za.mk (zaP H1.out.mw hb);clear hm hb hg)
  gi_wp2
  have gN := GN.out
  have Ng3_gn : za (g3 ≠ gn) := ⟨by omega⟩
  have Ng5_gn : za (g5 ≠ gn) := ⟨by omega⟩
  have Ng6_gn : za (g6 ≠ gn) := ⟨by omega⟩
  have Ngi_gn : za (gi ≠ gn) := ⟨by omega⟩
  have Nbw_gn : za (bw ≠ gn) := ⟨by omega⟩
  have Ngn_gi : za (gn ≠ gi) := ⟨by omega⟩
  have Ngn_bw : za (gn ≠ bw) := ⟨by omega⟩
  gi_loopw [29] (fun v29 wr => ∃ i : Nat,v29 = .int .i64 i ∧ i ≤ l.length ∧ za (Trod (fun j => j = gi ∨ j = bw) W wr) ∧ za (zbq wr gi (inV ((l.take i).foldl (zbB r g rk) (s,fun _ => false)).1.1)) ∧ za (zbq wr bw (zcD ((l.take i).foldl (zbB r g rk) (s,fun _ => false)).1.2)) ∧ za (zbq wr gn (zcD ((l.take i).foldl (zbB r g rk) (s,fun _ => false)).2))) (fun v29 _ => l.length - (intOf v29).toNat)
  case atStart => exact ⟨0,rfl,Nat.zero_le _,Tn,Mi,Mw,⟨zbX Mn.out (fun y => by simp [zcD])⟩⟩
  case round =>
   clear Tn Mi Mw Mn
   obtain ⟨i,rfl,hi,HT,HMi,HMw,HMn⟩ := hrel
   have HF1 := za.mk (zdv HT.out HF.out (fun j hj h_ => by rcases hj with ⟨hj | hj,_⟩ <;> rcases h_ with h_ | h_ <;> omega))
   have Bg3 := za.mk (zau HT.out H1.out.b3 (fun h_ => h_.elim Ng3_gi.out Ng3_bw.out))
   have Bg5 := za.mk (zau HT.out H1.out.b5 (fun h_ => h_.elim Ng5_gi.out Ng5_bw.out))
   have Bg6 := za.mk (zau HT.out H1.out.b6 (fun h_ => h_.elim Ng6_gi.out Ng6_bw.out))
   by_cases hlt : i < l.length
   ·obtain ⟨x,hx⟩ : ∃ x,l[i]? = some x := ⟨_,List.getElem?_eq_getElem hlt⟩
    obtain ⟨adx,AX3,cx3,AX4,cx4,rfl,hx0,hx1,hx2,hx3,hx4,hx5,hx6,hps⟩ := ent_F HF1.out i hlt x hx
    have hst : (l.take (i + 1)).foldl (zbB r g rk) (s,fun _ => false) = zbB r g rk ((l.take i).foldl (zbB r g rk) (s,fun _ => false)) x := by rw [List.take_add_one,hx,Option.toList_some,List.foldl_append];rfl
    have HST := za.mk hst
    have hb : decide (i < l.length) = true := decide_eq_true hlt
    have HU := za.mk (Trod.refl (fun j => j = gi ∨ j = bw) wr)
    obtain ⟨x0,⟨x1,x2,x3,x4,⟨x5,x6⟩⟩⟩ := x
    have HPS := za.mk hps
    clear hst hps hx
    dsimp only at hx0 hx1 hx2 hx3 hx4 hx5 hx6
    generalize (l.take i).foldl (zbB r g rk) (s,fun _ => false) = q at *
    obtain ⟨⟨Iq,Wq⟩,Nq⟩ := q
    have Mgi : za (zbq wr gi (inV Iq)) := HMi
    have Mbw : za (zbq wr bw (zcD Wq)) := HMw
    have Mgn : za (zbq wr gn (zcD Nq)) := HMn
    gi_wp2_with ((with_reducible refine zbT (N := 31) rfl ?hQ ?hd ?_);(case hQ => rintro ⟨_,_,h_⟩;exact h_);(case hd => rfl))
    go_wp2_with (first
  | ((with_reducible refine zq (N := 11) rfl ?_);refine zn rfl (N := 11) rfl (cs := #[.string (⟨#[]⟩ : ByteArray),.int .i64 0,.int .i64 0,.slice none 0 0,.slice none 0 0,.int .i64 0,.int .i64 0]) (t := 34) hrq ?_;intro gx hg wx hbox hb;have GHT_gx := za.mk (show W.heap.size ≤ gx from by rw [hg];exact HT.out.size);have GHU_gx := za.mk (show wr.heap.size ≤ gx from by rw [hg];exact HU.out.size);have Ngi_gx := za.mk (show gi ≠ gx from by rw [hg];exact Nat.ne_of_lt (za8 Mgi.out));have Ngx_gi := za.mk (Ne.symm Ngi_gx.out);have Nbw_gx := za.mk (show bw ≠ gx from by rw [hg];exact Nat.ne_of_lt (za8 Mbw.out));have Ngx_bw := za.mk (Ne.symm Nbw_gx.out);have Ngn_gx := za.mk (show gn ≠ gx from by rw [hg];exact Nat.ne_of_lt (za8 Mgn.out));have Ngx_gn := za.mk (Ne.symm Ngn_gx.out);have Ng3_gx := za.mk (adn hg Bg3.out);have Ng5_gx := za.mk (adn hg Bg5.out);have Ng6_gx := za.mk (adn hg Bg6.out);replace Bg3 := za.mk (adb Bg3.out hb);replace Bg5 := za.mk (adb Bg5.out hb);replace Bg6 := za.mk (adb Bg6.out hb);replace Mgi := za.mk (zaP Mgi.out hb);replace Mbw := za.mk (zaP Mbw.out hb);replace Mgn := za.mk (zaP Mgn.out hb);replace HT := za.mk (HT.out.below hb);replace HU := za.mk (HU.out.below hb);have Bgx := za.mk hbox;clear hbox hb hg;have zgx_0 : wx.cell? ⟨gx,0,none⟩ = some (.string (⟨#[]⟩ : ByteArray)) := (zb Bgx.out 0).trans rfl;have zgx_1 : wx.cell? ⟨gx,1,none⟩ = some (.int .i64 0) := (zb Bgx.out 1).trans rfl;have zgx_2 : wx.cell? ⟨gx,2,none⟩ = some (.int .i64 0) := (zb Bgx.out 2).trans rfl;have zgx_3 : wx.cell? ⟨gx,3,none⟩ = some (.slice none 0 0) := (zb Bgx.out 3).trans rfl;have zgx_4 : wx.cell? ⟨gx,4,none⟩ = some (.slice none 0 0) := (zb Bgx.out 4).trans rfl;have zgx_5 : wx.cell? ⟨gx,5,none⟩ = some (.int .i64 0) := (zb Bgx.out 5).trans rfl;have zgx_6 : wx.cell? ⟨gx,6,none⟩ = some (.int .i64 0) := (zb Bgx.out 6).trans rfl;have fgx_0 := zc Bgx.out 0;have fgx_1 := zc Bgx.out 1;have fgx_2 := zc Bgx.out 2;have fgx_3 := zc Bgx.out 3;have fgx_4 := zc Bgx.out 4;have fgx_5 := zc Bgx.out 5;have fgx_6 := zc Bgx.out 6)
  | ((with_reducible refine zaD (t := 34) (p := 11) rfl ?_);refine zaw (t := 34) (p := 11) (v := _) (w1 := (World.setCell (World.setCell (World.setCell (World.setCell (World.setCell (World.setCell (World.setCell wx ⟨gx,0,none⟩ (.string x0)) ⟨gx,1,none⟩ (.int .i64 x1)) ⟨gx,2,none⟩ (.int .i64 x2)) ⟨gx,3,none⟩ (.slice AX3 x3.length cx3)) ⟨gx,4,none⟩ (.slice AX4 x4.length cx4)) ⟨gx,5,none⟩ (.int .i64 x5)) ⟨gx,6,none⟩ (.int .i64 x6))) rfl rfl rfl hrq ?_;intro wy hw;clear zgx_0 zgx_1 zgx_2 zgx_3 zgx_4 zgx_5 zgx_6 fgx_0 fgx_1 fgx_2 fgx_3 fgx_4 fgx_5 fgx_6;replace Bg3 := za.mk (adf hw Ng3_gx.out Bg3.out);replace Bg5 := za.mk (adf hw Ng5_gx.out Bg5.out);replace Bg6 := za.mk (adf hw Ng6_gx.out Bg6.out);replace Bgx : za (wy.heap[gx]? = some (.cells #[.string x0,.int .i64 x1,.int .i64 x2,.slice AX3 x3.length cx3,.slice AX4 x4.length cx4,.int .i64 x5,.int .i64 x6] 34 (0,0))) := ⟨adp hw Bgx.out⟩;replace Mgi := za.mk (adm hw Ngi_gx.out Mgi.out);replace Mbw := za.mk (adm hw Nbw_gx.out Mbw.out);replace Mgn := za.mk (adm hw Ngn_gx.out Mgn.out);replace HT := za.mk (adt hw GHT_gx.out HT.out);replace HU := za.mk (adt hw GHU_gx.out HU.out);clear hw;have zgx_0 : wy.cell? ⟨gx,0,none⟩ = some (.string x0) := (zb Bgx.out 0).trans rfl;have zgx_1 : wy.cell? ⟨gx,1,none⟩ = some (.int .i64 x1) := (zb Bgx.out 1).trans rfl;have zgx_2 : wy.cell? ⟨gx,2,none⟩ = some (.int .i64 x2) := (zb Bgx.out 2).trans rfl;have zgx_3 : wy.cell? ⟨gx,3,none⟩ = some (.slice AX3 x3.length cx3) := (zb Bgx.out 3).trans rfl;have zgx_4 : wy.cell? ⟨gx,4,none⟩ = some (.slice AX4 x4.length cx4) := (zb Bgx.out 4).trans rfl;have zgx_5 : wy.cell? ⟨gx,5,none⟩ = some (.int .i64 x5) := (zb Bgx.out 5).trans rfl;have zgx_6 : wy.cell? ⟨gx,6,none⟩ = some (.int .i64 x6) := (zb Bgx.out 6).trans rfl;have fgx_0 := zc Bgx.out 0;have fgx_1 := zc Bgx.out 1;have fgx_2 := zc Bgx.out 2;have fgx_3 := zc Bgx.out 3;have fgx_4 := zc Bgx.out 4;have fgx_5 := zc Bgx.out 5;have fgx_6 := zc Bgx.out 6;obtain ⟨zg6_0,fg6_0⟩ := hcq1 Bg6.out;obtain ⟨zg3_0,zg3_1,zg3_2,zg3_3,zg3_4,zg3_5,zg3_6,fg3_0,fg3_1,fg3_2,fg3_3,fg3_4,fg3_5,fg3_6⟩ := hcq7 Bg3.out;obtain ⟨zg5_0,fg5_0⟩ := hcq1 Bg5.out))
    clear hx0 hx1 hx2 hx3 hx4 hx5 hx6
    rcases hq : Wq x0 with _ | _
    ·have HQ := za.mk hq
     clear hq
     gi_wp2_with ((with_reducible refine zbT (N := 33) rfl ?hQ ?hd ?_);(case hQ => rintro ⟨_,_,h_⟩;exact h_);(case hd => rfl))
     go_wp2_with (at_lookup;refine zb8 _ rfl _ _ 72 rfl Mbw.out Try.underlying72 Try.underlying9 (zaf.zeroB _) x0 rfl rfl ?_;rw [zeY,HQ.out])
     clear zgx_0 zgx_1 zgx_2 zgx_3 zgx_4 zgx_5 zgx_6 fgx_0 fgx_1 fgx_2 fgx_3 fgx_4 fgx_5 fgx_6 zg6_0 fg6_0 zg3_0 zg3_1 zg3_2 zg3_3 zg3_4 zg3_5 zg3_6 fg3_0 fg3_1 fg3_2 fg3_3 fg3_4 fg3_5 fg3_6 zg5_0 fg5_0
     have hok : ¬ zdc r g rk Wq ⟨x0,⟨x1,x2,x3,x4,⟨x5,x6⟩⟩⟩ = true := by simp [zdc,HQ.out]
     have HOK := za.mk hok
     clear hok
     gi_wp2
     go_roundw
     case rel =>
      refine ⟨i + 1,by go_num,by omega,HT,?_,?_,?_⟩
      ·refine ⟨?_⟩;rw [HST.out,zbB,if_neg HOK.out];exact Mgi.out
      ·refine ⟨?_⟩;rw [HST.out,zbB,if_neg HOK.out];exact Mbw.out
      ·refine ⟨?_⟩;rw [HST.out,zbB,if_neg HOK.out];exact Mgn.out
     case measure => simp [intOf];omega
    ·have HQ := za.mk hq
     clear hq
     by_cases hr : rk = r
     ·by_cases hd : x0 = g
      ·have e1 : (rk == r) = true := beq_iff_eq.2 hr
       have e2 : (x0.toList == g.toList) = true := by rw [zb1];exact decide_eq_true hd
       have e3 : (x0.toList != g.toList) = false := by rw [bne,e2];rfl
       have HRD : za (rk = r ∧ x0 = g) := ⟨hr,hd⟩
       clear hr hd
       gi_wp2_with ((with_reducible refine zbT (N := 33) rfl ?hQ ?hd ?_);(case hQ => rintro ⟨_,_,h_⟩;exact h_);(case hd => rfl))
       go_wp2_with (at_lookup;refine zb8 _ rfl _ _ 72 rfl Mbw.out Try.underlying72 Try.underlying9 (zaf.zeroB _) x0 rfl rfl ?_;rw [zeY,HQ.out])
       gi_wp2_with ((with_reducible refine zbT (N := 52) rfl ?hQ ?hd ?_);(case hQ => rintro ⟨_,_,h_⟩;exact h_);(case hd => rfl))
       go_wp2_with ((with_reducible refine zh0 rfl ?_);refine zfE _ rfl _ _ 72 9 rfl Mbw.out Try.underlying72 Try.underlying9 x0 rfl rfl ?_;intro w12 hm12 hg12;have hT := Trod.grown (Trod.refl (fun j => j = bw) _) hg12 (.inl rfl);clear zgx_0 zgx_1 zgx_2 zgx_3 zgx_4 zgx_5 zgx_6 fgx_0 fgx_1 fgx_2 fgx_3 fgx_4 fgx_5 fgx_6 zg6_0 fg6_0 zg3_0 zg3_1 zg3_2 zg3_3 zg3_4 zg3_5 zg3_6 fg3_0 fg3_1 fg3_2 fg3_3 fg3_4 fg3_5 fg3_6 zg5_0 fg5_0;replace Bg3 := za.mk (zau hT Bg3.out Ng3_bw.out);replace Bg5 := za.mk (zau hT Bg5.out Ng5_bw.out);replace Bg6 := za.mk (zau hT Bg6.out Ng6_bw.out);replace Bgx := za.mk (zau hT Bgx.out Ngx_bw.out);replace Mgi := za.mk (za1 hT Mgi.out Ngi_bw.out);replace Mgn := za.mk (za1 hT Mgn.out Ngn_bw.out);replace Mbw := za.mk (zbX hm12 (ziq Wq x0));replace HT := za.mk (HT.out.grown hg12 (.inl (.inr rfl)));replace HU := za.mk (HU.out.grown hg12 (.inl (.inr rfl)));clear hT hm12 hg12;have zgx_0 : w12.cell? ⟨gx,0,none⟩ = some (.string x0) := (zb Bgx.out 0).trans rfl;have zgx_1 : w12.cell? ⟨gx,1,none⟩ = some (.int .i64 x1) := (zb Bgx.out 1).trans rfl;have zgx_2 : w12.cell? ⟨gx,2,none⟩ = some (.int .i64 x2) := (zb Bgx.out 2).trans rfl;have zgx_3 : w12.cell? ⟨gx,3,none⟩ = some (.slice AX3 x3.length cx3) := (zb Bgx.out 3).trans rfl;have zgx_4 : w12.cell? ⟨gx,4,none⟩ = some (.slice AX4 x4.length cx4) := (zb Bgx.out 4).trans rfl;have zgx_5 : w12.cell? ⟨gx,5,none⟩ = some (.int .i64 x5) := (zb Bgx.out 5).trans rfl;have zgx_6 : w12.cell? ⟨gx,6,none⟩ = some (.int .i64 x6) := (zb Bgx.out 6).trans rfl;have fgx_0 := zc Bgx.out 0;have fgx_1 := zc Bgx.out 1;have fgx_2 := zc Bgx.out 2;have fgx_3 := zc Bgx.out 3;have fgx_4 := zc Bgx.out 4;have fgx_5 := zc Bgx.out 5;have fgx_6 := zc Bgx.out 6;obtain ⟨zg5_0,fg5_0⟩ := hcq1 Bg5.out)
       gi_wp2_with ((with_reducible refine zbT (N := 55) rfl ?hQ ?hd ?_);(case hQ => rintro ⟨_,_,h_⟩;exact h_);(case hd => rfl))
       go_wp2_with (at_mapUpdate;refine zcV _ rfl _ _ _ 55 rfl Mgi.out Try.underlying55 Try.underlying9 x0 (.int .i64 rk) rfl rfl rfl ?_;intro w13 hm13 hg13;have hT := Trod.grown (Trod.refl (fun j => j = gi) _) hg13 (.inl rfl);clear zgx_0 zgx_1 zgx_2 zgx_3 zgx_4 zgx_5 zgx_6 fgx_0 fgx_1 fgx_2 fgx_3 fgx_4 fgx_5 fgx_6 zg5_0 fg5_0;replace Bg3 := za.mk (zau hT Bg3.out Ng3_gi.out);replace Bg5 := za.mk (zau hT Bg5.out Ng5_gi.out);replace Bg6 := za.mk (zau hT Bg6.out Ng6_gi.out);replace Bgx := za.mk (zau hT Bgx.out Ngx_gi.out);replace Mbw := za.mk (za1 hT Mbw.out Nbw_gi.out);replace Mgn := za.mk (za1 hT Mgn.out Ngn_gi.out);replace Mgi := za.mk (zbX hm13 (in_put Iq x0 rk));replace HT := za.mk (HT.out.grown hg13 (.inl (.inl rfl)));replace HU := za.mk (HU.out.grown hg13 (.inl (.inl rfl)));clear hT hm13 hg13;have zgx_0 : w13.cell? ⟨gx,0,none⟩ = some (.string x0) := (zb Bgx.out 0).trans rfl;have zgx_1 : w13.cell? ⟨gx,1,none⟩ = some (.int .i64 x1) := (zb Bgx.out 1).trans rfl;have zgx_2 : w13.cell? ⟨gx,2,none⟩ = some (.int .i64 x2) := (zb Bgx.out 2).trans rfl;have zgx_3 : w13.cell? ⟨gx,3,none⟩ = some (.slice AX3 x3.length cx3) := (zb Bgx.out 3).trans rfl;have zgx_4 : w13.cell? ⟨gx,4,none⟩ = some (.slice AX4 x4.length cx4) := (zb Bgx.out 4).trans rfl;have zgx_5 : w13.cell? ⟨gx,5,none⟩ = some (.int .i64 x5) := (zb Bgx.out 5).trans rfl;have zgx_6 : w13.cell? ⟨gx,6,none⟩ = some (.int .i64 x6) := (zb Bgx.out 6).trans rfl;have fgx_0 := zc Bgx.out 0;have fgx_1 := zc Bgx.out 1;have fgx_2 := zc Bgx.out 2;have fgx_3 := zc Bgx.out 3;have fgx_4 := zc Bgx.out 4;have fgx_5 := zc Bgx.out 5;have fgx_6 := zc Bgx.out 6)
       gi_wp2
       clear zgx_0 zgx_1 zgx_2 zgx_3 zgx_4 zgx_5 zgx_6 fgx_0 fgx_1 fgx_2 fgx_3 fgx_4 fgx_5 fgx_6
       have hpm := (Kd.F_now HPS.out).2.1
       have HN0 : za (zbq w13 gn (zcD (fun y => Nq y || (x4.take 0).any fun p => decide (p = y)))) := ⟨zbX Mgn.out (fun y => by simp)⟩
       gi_loopw [63] (fun v63 wq => ∃ j : Nat,v63 = .int .i64 j ∧ j ≤ x4.length ∧ za (Trod (fun b => b = gn) w13 wq) ∧ za (zbq wq gn (zcD (fun y => Nq y || (x4.take j).any fun p => decide (p = y))))) (fun v63 _ => x4.length - (intOf v63).toNat)
       case atStart => exact ⟨0,rfl,Nat.zero_le _,⟨Trod.refl _ _⟩,HN0⟩
       case round =>
        obtain ⟨j,rfl,hj,HV,HN⟩ := hrel
        by_cases hlt2 : j < x4.length
        ·have HPQ := za.mk (zdv HV.out (zdv HU.out HPS.out (fun j hj h_ => by rcases hj with ⟨hj | hj,_⟩ <;> rcases h_ with h_ | h_ <;> omega)) (fun j hj h_ => by have := hj.2;omega))
         obtain ⟨ad2,e2_,hcell⟩ := Kd.at_string (Kd.F_now HPQ.out) (j : Int) (by omega) (by omega)
         subst e2_
         rw [Int.toNat_natCast] at hcell
         have hb2 : decide (j < x4.length) = true := decide_eq_true hlt2
         have hp : x4[j]? = some (zB ByteArray.empty x4 (j : Int)) := by rw [zB,Int.toNat_natCast,List.getD_eq_getElem?_getD,List.getElem?_eq_getElem hlt2];rfl
         have HP := za.mk hp
         clear hp
         generalize zB ByteArray.empty x4 (j : Int) = p at *
         gi_wp2_with ((with_reducible refine zf9 (t := 72) rfl ?hQ ?hd ?_);(case hQ => rintro ⟨_,_,h_⟩;exact h_);(case hd => rfl))
         go_wp2_with (at_mapUpdate;refine zcV _ rfl _ _ _ 72 rfl HN.out Try.underlying72 Try.underlying9 p (.bool true) rfl rfl rfl ?_;intro w14 hm14 hg14;have HN2 := za.mk (zbX hm14 (zir Nq x4 j p HP.out));have HV2 := za.mk (HV.out.grown hg14 (.inl rfl));clear hm14 hg14)
         gi_wp2
         go_roundw
         case rel => exact ⟨j + 1,by go_num,by omega,HV2,HN2⟩
         case measure => simp [intOf];omega
        ·obtain rfl : j = x4.length := by omega
         have hb2 : decide (x4.length < x4.length) = false := decide_eq_false hlt2
         have hok : zdc r g rk Wq ⟨x0,⟨x1,x2,x3,x4,⟨x5,x6⟩⟩⟩ = true := by show (Wq x0 && !(decide (rk = r) && decide (x0 ≠ g))) = true;rw [HQ.out];simp [HRD.out.2]
         have HOK := za.mk hok
         clear hok
         gi_wp2
         go_roundw
         case rel =>
          refine ⟨i + 1,by go_num,by omega,⟨HT.out.join HV.out (fun j h_ => .inr (by rw [h_];exact GN.out))⟩,?_,?_,?_⟩
          ·refine ⟨?_⟩;rw [HST.out,zbB,if_pos HOK.out];exact za1 HV.out Mgi.out Ngi_gn.out
          ·refine ⟨?_⟩;rw [HST.out,zbB,if_pos HOK.out];exact za1 HV.out Mbw.out Nbw_gn.out
          ·refine ⟨?_⟩;rw [HST.out,zbB,if_pos HOK.out];exact zbX HN.out (fun y => by rw [List.take_length])
         case measure => simp [intOf];omega
      ·have e1 : (rk == r) = true := beq_iff_eq.2 hr
       have e2 : (x0.toList == g.toList) = false := by rw [zb1];exact decide_eq_false hd
       have e3 : (x0.toList != g.toList) = true := by rw [bne,e2];rfl
       have HRD : za (rk = r ∧ x0 ≠ g) := ⟨hr,hd⟩
       clear hr hd
       gi_wp2_with ((with_reducible refine zbT (N := 33) rfl ?hQ ?hd ?_);(case hQ => rintro ⟨_,_,h_⟩;exact h_);(case hd => rfl))
       go_wp2_with (at_lookup;refine zb8 _ rfl _ _ 72 rfl Mbw.out Try.underlying72 Try.underlying9 (zaf.zeroB _) x0 rfl rfl ?_;rw [zeY,HQ.out])
       clear zgx_0 zgx_1 zgx_2 zgx_3 zgx_4 zgx_5 zgx_6 fgx_0 fgx_1 fgx_2 fgx_3 fgx_4 fgx_5 fgx_6 zg6_0 fg6_0 zg3_0 zg3_1 zg3_2 zg3_3 zg3_4 zg3_5 zg3_6 fg3_0 fg3_1 fg3_2 fg3_3 fg3_4 fg3_5 fg3_6 zg5_0 fg5_0
       have hok : ¬ zdc r g rk Wq ⟨x0,⟨x1,x2,x3,x4,⟨x5,x6⟩⟩⟩ = true := by simp [zdc,HQ.out,HRD.out.1,HRD.out.2]
       have HOK := za.mk hok
       clear hok
       gi_wp2
       go_roundw
       case rel =>
        refine ⟨i + 1,by go_num,by omega,HT,?_,?_,?_⟩
        ·refine ⟨?_⟩;rw [HST.out,zbB,if_neg HOK.out];exact Mgi.out
        ·refine ⟨?_⟩;rw [HST.out,zbB,if_neg HOK.out];exact Mbw.out
        ·refine ⟨?_⟩;rw [HST.out,zbB,if_neg HOK.out];exact Mgn.out
       case measure => simp [intOf];omega
     ·have e1 : (rk == r) = false := beq_eq_false_iff_ne.2 hr
      have HRD : za (rk ≠ r) := ⟨hr⟩
      clear hr
      gi_wp2_with ((with_reducible refine zbT (N := 33) rfl ?hQ ?hd ?_);(case hQ => rintro ⟨_,_,h_⟩;exact h_);(case hd => rfl))
      go_wp2_with (at_lookup;refine zb8 _ rfl _ _ 72 rfl Mbw.out Try.underlying72 Try.underlying9 (zaf.zeroB _) x0 rfl rfl ?_;rw [zeY,HQ.out])
      gi_wp2_with ((with_reducible refine zbT (N := 52) rfl ?hQ ?hd ?_);(case hQ => rintro ⟨_,_,h_⟩;exact h_);(case hd => rfl))
      go_wp2_with ((with_reducible refine zh0 rfl ?_);refine zfE _ rfl _ _ 72 9 rfl Mbw.out Try.underlying72 Try.underlying9 x0 rfl rfl ?_;intro w12 hm12 hg12;have hT := Trod.grown (Trod.refl (fun j => j = bw) _) hg12 (.inl rfl);clear zgx_0 zgx_1 zgx_2 zgx_3 zgx_4 zgx_5 zgx_6 fgx_0 fgx_1 fgx_2 fgx_3 fgx_4 fgx_5 fgx_6 zg6_0 fg6_0 zg3_0 zg3_1 zg3_2 zg3_3 zg3_4 zg3_5 zg3_6 fg3_0 fg3_1 fg3_2 fg3_3 fg3_4 fg3_5 fg3_6 zg5_0 fg5_0;replace Bg3 := za.mk (zau hT Bg3.out Ng3_bw.out);replace Bg5 := za.mk (zau hT Bg5.out Ng5_bw.out);replace Bg6 := za.mk (zau hT Bg6.out Ng6_bw.out);replace Bgx := za.mk (zau hT Bgx.out Ngx_bw.out);replace Mgi := za.mk (za1 hT Mgi.out Ngi_bw.out);replace Mgn := za.mk (za1 hT Mgn.out Ngn_bw.out);replace Mbw := za.mk (zbX hm12 (ziq Wq x0));replace HT := za.mk (HT.out.grown hg12 (.inl (.inr rfl)));replace HU := za.mk (HU.out.grown hg12 (.inl (.inr rfl)));clear hT hm12 hg12;have zgx_0 : w12.cell? ⟨gx,0,none⟩ = some (.string x0) := (zb Bgx.out 0).trans rfl;have zgx_1 : w12.cell? ⟨gx,1,none⟩ = some (.int .i64 x1) := (zb Bgx.out 1).trans rfl;have zgx_2 : w12.cell? ⟨gx,2,none⟩ = some (.int .i64 x2) := (zb Bgx.out 2).trans rfl;have zgx_3 : w12.cell? ⟨gx,3,none⟩ = some (.slice AX3 x3.length cx3) := (zb Bgx.out 3).trans rfl;have zgx_4 : w12.cell? ⟨gx,4,none⟩ = some (.slice AX4 x4.length cx4) := (zb Bgx.out 4).trans rfl;have zgx_5 : w12.cell? ⟨gx,5,none⟩ = some (.int .i64 x5) := (zb Bgx.out 5).trans rfl;have zgx_6 : w12.cell? ⟨gx,6,none⟩ = some (.int .i64 x6) := (zb Bgx.out 6).trans rfl;have fgx_0 := zc Bgx.out 0;have fgx_1 := zc Bgx.out 1;have fgx_2 := zc Bgx.out 2;have fgx_3 := zc Bgx.out 3;have fgx_4 := zc Bgx.out 4;have fgx_5 := zc Bgx.out 5;have fgx_6 := zc Bgx.out 6;obtain ⟨zg5_0,fg5_0⟩ := hcq1 Bg5.out)
      gi_wp2_with ((with_reducible refine zbT (N := 55) rfl ?hQ ?hd ?_);(case hQ => rintro ⟨_,_,h_⟩;exact h_);(case hd => rfl))
      go_wp2_with (at_mapUpdate;refine zcV _ rfl _ _ _ 55 rfl Mgi.out Try.underlying55 Try.underlying9 x0 (.int .i64 rk) rfl rfl rfl ?_;intro w13 hm13 hg13;have hT := Trod.grown (Trod.refl (fun j => j = gi) _) hg13 (.inl rfl);clear zgx_0 zgx_1 zgx_2 zgx_3 zgx_4 zgx_5 zgx_6 fgx_0 fgx_1 fgx_2 fgx_3 fgx_4 fgx_5 fgx_6 zg5_0 fg5_0;replace Bg3 := za.mk (zau hT Bg3.out Ng3_gi.out);replace Bg5 := za.mk (zau hT Bg5.out Ng5_gi.out);replace Bg6 := za.mk (zau hT Bg6.out Ng6_gi.out);replace Bgx := za.mk (zau hT Bgx.out Ngx_gi.out);replace Mbw := za.mk (za1 hT Mbw.out Nbw_gi.out);replace Mgn := za.mk (za1 hT Mgn.out Ngn_gi.out);replace Mgi := za.mk (zbX hm13 (in_put Iq x0 rk));replace HT := za.mk (HT.out.grown hg13 (.inl (.inl rfl)));replace HU := za.mk (HU.out.grown hg13 (.inl (.inl rfl)));clear hT hm13 hg13;have zgx_0 : w13.cell? ⟨gx,0,none⟩ = some (.string x0) := (zb Bgx.out 0).trans rfl;have zgx_1 : w13.cell? ⟨gx,1,none⟩ = some (.int .i64 x1) := (zb Bgx.out 1).trans rfl;have zgx_2 : w13.cell? ⟨gx,2,none⟩ = some (.int .i64 x2) := (zb Bgx.out 2).trans rfl;have zgx_3 : w13.cell? ⟨gx,3,none⟩ = some (.slice AX3 x3.length cx3) := (zb Bgx.out 3).trans rfl;have zgx_4 : w13.cell? ⟨gx,4,none⟩ = some (.slice AX4 x4.length cx4) := (zb Bgx.out 4).trans rfl;have zgx_5 : w13.cell? ⟨gx,5,none⟩ = some (.int .i64 x5) := (zb Bgx.out 5).trans rfl;have zgx_6 : w13.cell? ⟨gx,6,none⟩ = some (.int .i64 x6) := (zb Bgx.out 6).trans rfl;have fgx_0 := zc Bgx.out 0;have fgx_1 := zc Bgx.out 1;have fgx_2 := zc Bgx.out 2;have fgx_3 := zc Bgx.out 3;have fgx_4 := zc Bgx.out 4;have fgx_5 := zc Bgx.out 5;have fgx_6 := zc Bgx.out 6)
      gi_wp2
      clear zgx_0 zgx_1 zgx_2 zgx_3 zgx_4 zgx_5 zgx_6 fgx_0 fgx_1 fgx_2 fgx_3 fgx_4 fgx_5 fgx_6
      have hpm := (Kd.F_now HPS.out).2.1
      have HN0 : za (zbq w13 gn (zcD (fun y => Nq y || (x4.take 0).any fun p => decide (p = y)))) := ⟨zbX Mgn.out (fun y => by simp)⟩
      gi_loopw [63] (fun v63 wq => ∃ j : Nat,v63 = .int .i64 j ∧ j ≤ x4.length ∧ za (Trod (fun b => b = gn) w13 wq) ∧ za (zbq wq gn (zcD (fun y => Nq y || (x4.take j).any fun p => decide (p = y))))) (fun v63 _ => x4.length - (intOf v63).toNat)
      case atStart => exact ⟨0,rfl,Nat.zero_le _,⟨Trod.refl _ _⟩,HN0⟩
      case round =>
       obtain ⟨j,rfl,hj,HV,HN⟩ := hrel
       by_cases hlt2 : j < x4.length
       ·have HPQ := za.mk (zdv HV.out (zdv HU.out HPS.out (fun j hj h_ => by rcases hj with ⟨hj | hj,_⟩ <;> rcases h_ with h_ | h_ <;> omega)) (fun j hj h_ => by have := hj.2;omega))
        obtain ⟨ad2,e2_,hcell⟩ := Kd.at_string (Kd.F_now HPQ.out) (j : Int) (by omega) (by omega)
        subst e2_
        rw [Int.toNat_natCast] at hcell
        have hb2 : decide (j < x4.length) = true := decide_eq_true hlt2
        have hp : x4[j]? = some (zB ByteArray.empty x4 (j : Int)) := by rw [zB,Int.toNat_natCast,List.getD_eq_getElem?_getD,List.getElem?_eq_getElem hlt2];rfl
        have HP := za.mk hp
        clear hp
        generalize zB ByteArray.empty x4 (j : Int) = p at *
        gi_wp2_with ((with_reducible refine zf9 (t := 72) rfl ?hQ ?hd ?_);(case hQ => rintro ⟨_,_,h_⟩;exact h_);(case hd => rfl))
        go_wp2_with (at_mapUpdate;refine zcV _ rfl _ _ _ 72 rfl HN.out Try.underlying72 Try.underlying9 p (.bool true) rfl rfl rfl ?_;intro w14 hm14 hg14;have HN2 := za.mk (zbX hm14 (zir Nq x4 j p HP.out));have HV2 := za.mk (HV.out.grown hg14 (.inl rfl));clear hm14 hg14)
        gi_wp2
        go_roundw
        case rel => exact ⟨j + 1,by go_num,by omega,HV2,HN2⟩
        case measure => simp [intOf];omega
       ·obtain rfl : j = x4.length := by omega
        have hb2 : decide (x4.length < x4.length) = false := decide_eq_false hlt2
        have hok : zdc r g rk Wq ⟨x0,⟨x1,x2,x3,x4,⟨x5,x6⟩⟩⟩ = true := by simp [zdc,HQ.out,HRD.out]
        have HOK := za.mk hok
        clear hok
        gi_wp2
        go_roundw
        case rel =>
         refine ⟨i + 1,by go_num,by omega,⟨HT.out.join HV.out (fun j h_ => .inr (by rw [h_];exact GN.out))⟩,?_,?_,?_⟩
         ·refine ⟨?_⟩;rw [HST.out,zbB,if_pos HOK.out];exact za1 HV.out Mgi.out Ngi_gn.out
         ·refine ⟨?_⟩;rw [HST.out,zbB,if_pos HOK.out];exact za1 HV.out Mbw.out Nbw_gn.out
         ·refine ⟨?_⟩;rw [HST.out,zbB,if_pos HOK.out];exact zbX HN.out (fun y => by rw [List.take_length])
        case measure => simp [intOf];omega
   ·obtain rfl : i = l.length := by omega
    have hb : decide (l.length < l.length) = false := decide_eq_false hlt
    obtain ⟨zg6_0,fg6_0⟩ := hcq1 Bg6.out
    gi_wp2
    have T3 : Trod (fun j => j = gi ∨ j = bw ∨ j = g6) W (wr.setCell ⟨g6,0,none⟩ (.map (some gn))) := (HT.out.wide (fun j h_ => h_.imp id .inl)).setS (.inl (.inr (.inr rfl))) _ _
    refine ⟨T3.size,T3.block _ (by omega) (by omega),T3.block _ (by omega) (by omega),gn,?_⟩
    show InvP w _ _ _ _ 0 A0 c0 L _ gi g3 g5 g6 gd gf (zbv L r g (k + 1)) gn _
    rw [HNX.out]
    have HMi2 := adm (W := wr.setCell ⟨g6,0,none⟩ (.map (some gn))) rfl Ngi_g6.out HMi.out
    have HMn2 := adm (W := wr.setCell ⟨g6,0,none⟩ (.map (some gn))) rfl (Ne.symm Ng6_gn.out) HMn.out
    rw [List.take_length] at HMi2 HMn2
    exact ⟨HMi2,HMn2,zau T3 H1.out.b3 (by have := Ng3_gi.out;have := Ng3_bw.out;have := Ng3_g6.out;omega),zau T3 H1.out.b5 (by have := Ng5_gi.out;have := Ng5_bw.out;have := Ng5_g6.out;omega),adp rfl Bg6.out,zau T3 H1.out.bd (by have := Ngi_gd.out;have := Nbw_gd.out;have := Ng6_gd.out;omega),zau T3 H1.out.bf (by have := Ngi_gf.out;have := Nbw_gf.out;have := Ng6_gf.out;omega),
     Kd.V_map H1.out.hv (fun _ hf => zdv T3 hf (fun j hj h_ => by have := Gw_g6.out;omega)),H1.out.hb.trans (T3.to_below H1.out.hb.size (fun j h_ => by have := Gw_g6.out;omega)),⟨by omega,by omega⟩,Ngn_gi.out,by omega⟩
 case done =>
  rintro W hs ⟨bw,hi⟩ hd
  have HI := za.mk hi
  have HD := za.mk hd
  have z5 := (zb hi.b5 0).trans rfl
  clear hi hd
  go_wp2_with fail
  refine ⟨by simp,.inl ⟨_,_,rfl,run_takeDeferred HD.out,?_⟩⟩
  exact ⟨_,results_tmp rfl _ _ _,gi,rfl,za1 (zeW _ _ _) HI.out.mi (by omega),HI.out.hb.trans ((zeW _ _ _).to_below HI.out.hb.size (fun j h_ => by omega))⟩
end Go.Proofs.Ytndjfdakflaggaa.Px
namespace Go.Proofs.Ytndjfdakflaggaa.Px
open Go.RowKit Go.Proofs.YtndjfdakflaggaaW.PrintWords Go.Proofs.YtndjfdakflaggaaW.PrintLast Go.Proofs.YtndjfdakflaggaaW.PrintMore
attribute [local go_sem] zC zE zI zJ zu zv zD zF
set_option linter.unusedVariables false
set_option linter.unusedSimpArgs false
def zh5 (L : List Ent) (r : Int) : Nat → Nat → Nat
 | 0,k => k
 | d + 1,k => if (zb2 L r k).isEmpty = true then k else zh5 L r d (k + 1)
theorem levN_is (L : List Ent) (r : Int) : ∀ d k,(∀ j,j < k → zb2 L r j ≠ []) → (∀ j,j < zh5 L r d k → zb2 L r j ≠ []) ∧ (zh5 L r d k = k + d ∨ zb2 L r (zh5 L r d k) = [])
 | 0,k,h => ⟨h,.inl rfl⟩
 | d + 1,k,h => by
  unfold zh5
  split
  ·next he => exact ⟨h,.inr (List.isEmpty_iff.1 he)⟩
  ·next he =>
   have hk : zb2 L r k ≠ [] := fun e => he (List.isEmpty_iff.2 e)
   obtain ⟨h1,h2⟩ := levN_is L r d (k + 1) (fun j hj => (Nat.lt_succ_iff_lt_or_eq.1 hj).elim (h j) (fun e => by rw [e];exact hk))
   exact ⟨h1,h2.imp (fun e => by omega) id⟩
theorem zhC (r : Int) : ∀ k : Nat,zcc r (k + 1) = wrap64 (r - ((k : Int) + 1))
 | 0 => by show wrap64 (r - 1) = _;rfl
 | k + 1 => by
  show wrap64 (zcc r (k + 1) - 1) = _
  rw [zhC r k]
  unfold wrap64
  omega
theorem rndK_ne (r : Int) {i j : Nat} (h : i < j) (hj : j < 18446744073709551616) : zcc r i ≠ zcc r j := by
 rcases j with _ | j
 ·omega
 rw [zhC]
 rcases i with _ | i
 ·show r ≠ _
  unfold wrap64
  omega
 ·rw [zhC]
  unfold wrap64
  omega
theorem zgb : ∀ (R S : List Int),R.Nodup → (∀ x ∈ R,x ∈ S) → R.length ≤ S.length
 | [],_,_,_ => Nat.zero_le _
 | x :: R,S,hn,hs => by
  rw [List.nodup_cons] at hn
  have hx := hs x List.mem_cons_self
  have := zgb R (S.erase x) hn.2 (fun y hy => (List.mem_erase_of_ne (fun e => hn.1 (by rw [← e];exact hy))).2 (hs y (List.mem_cons_of_mem _ hy)))
  rw [List.length_erase_of_mem hx] at this
  have h0 := List.length_pos_of_mem hx
  rw [List.length_cons]
  omega
theorem zh4 (L : List Ent) (r : Int) (m : Nat) (hm : m < 18446744073709551616) (h : ∀ j,j < m → zb2 L r j ≠ []) : m ≤ L.length := by
 have := zgb ((List.range m).map (zcc r)) (L.map fun x => x.f1.f1) ?_ ?_
 ·simpa using this
 ·rw [List.Nodup,List.pairwise_map]
  refine List.Pairwise.imp_of_mem ?_ (List.pairwise_lt_range (n := m))
  intro a b ha hb hab
  exact rndK_ne r hab (by have := List.mem_range.1 hb;omega)
 ·intro x hx
  obtain ⟨j,hj,rfl⟩ := List.mem_map.1 hx
  obtain ⟨y,hy⟩ := List.exists_mem_of_ne_nil _ (h j (List.mem_range.1 hj))
  unfold zb2 zcb at hy
  rw [List.mem_filter] at hy
  exact List.mem_map.2 ⟨y,hy.1,of_decide_eq_true hy.2⟩
def zdu (L : List Ent) (r : Int) : Nat := zh5 L r (L.length + 1) 0
theorem zeo (L : List Ent) (r : Int) (hL : L.length < 1466015503701) : (∀ j,j < zdu L r → zb2 L r j ≠ []) ∧ zb2 L r (zdu L r) = [] := by
 obtain ⟨h1,h2⟩ := levN_is L r (L.length + 1) 0 (fun j hj => absurd hj (Nat.not_lt_zero _))
 refine ⟨h1,h2.resolve_left (fun e => ?_)⟩
 have := zh4 L r (L.length + 1) (by omega) (fun j hj => h1 j (by rw [e];omega))
 omega
def inP (L : List Ent) (t : Ent) : ByteArray → Option Int := (zbv L t.f1.f1 t.f0 (zdu L t.f1.f1)).1
def zeQ (I : ByteArray → Option Int) (lo : Int) (x : Ent) : Bool := match I x.f0 with
 | some q => decide (q = x.f1.f1) && decide (lo < q)
 | none => false
def zcz (L : List Ent) (g : ByteArray) (lo : Int) : List Ent := match zcY L g with
 | some t => L.filter (zeQ (inP L t) lo)
 | none => []
theorem ent_F2 {W : World} {ok : Nat → Prop} {A : Option Addr} {L : List Ent} (h : Kd.F k34 W ok A L.length L) (i : Nat) (hi : i < L.length) (x : Ent) (hx : L[i]? = some x) :
  ∃ ad A3 c3 A4 c4,A = some ad ∧ W.cell? (ad.add (i * 7)) = some (.string x.f0) ∧ W.cell? ⟨(ad.add (i * 7)).block,(ad.add (i * 7)).off + 1,none⟩ = some (.int .i64 x.f1.f0) ∧ W.cell? ⟨(ad.add (i * 7)).block,(ad.add (i * 7)).off + 2,none⟩ = some (.int .i64 x.f1.f1) ∧ W.cell? ⟨(ad.add (i * 7)).block,(ad.add (i * 7)).off + 3,none⟩ = some (.slice A3 x.f1.f2.length c3) ∧
   W.cell? ⟨(ad.add (i * 7)).block,(ad.add (i * 7)).off + 4,none⟩ = some (.slice A4 x.f1.f3.length c4) ∧ W.cell? ⟨(ad.add (i * 7)).block,(ad.add (i * 7)).off + 5,none⟩ = some (.int .i64 x.f1.f4.f0) ∧ W.cell? ⟨(ad.add (i * 7)).block,(ad.add (i * 7)).off + 6,none⟩ = some (.int .i64 x.f1.f4.f1) ∧ x.f1.f2.length ≤ c3 ∧ Kd.F k78 W ok A3 x.f1.f2.length x.f1.f2 ∧ x.f1.f3.length ≤ c4 ∧ Kd.F Kd.string W ok A4 x.f1.f3.length x.f1.f3 := by
 obtain ⟨ad,cs,rfl,_,hF,hc0,_⟩ := Kd.F_get h z34 (i : Int) (by omega) (by omega)
 rw [List.getD_eq_getElem?_getD,Int.toNat_natCast,hx] at hF
 have hc : ∀ j u,cs[j]? = some u → W.cell? (ad.add (i * 7 + j)) = some u := fun j u hj => by have := hc0 j u hj;rwa [Int.toNat_natCast] at this
 obtain ⟨A3,c3,A4,c4,rfl,l3,g3,l4,g4⟩ := zbJ hF
 exact ⟨ad,A3,c3,A4,c4,rfl,hc 0 _ rfl,by rw [← zW _ _ 1 (by omega)];exact hc 1 _ rfl,by rw [← zW _ _ 2 (by omega)];exact hc 2 _ rfl,by rw [← zW _ _ 3 (by omega)];exact hc 3 _ rfl,by rw [← zW _ _ 4 (by omega)];exact hc 4 _ rfl,by rw [← zW _ _ 5 (by omega)];exact hc 5 _ rfl,by rw [← zW _ _ 6 (by omega)];exact hc 6 _ rfl,l3,g3,l4,g4⟩
theorem zc7.zeroI : ∀ w : World,(zeroValue 3).run Try.prog w = .ok (.int .i64 0) w := fun _ => by kernel_rfl
set_option maxHeartbeats 8000000 in
set_option maxRecDepth 100000 in
theorem zc7.no (n low : Int) (P0 : Nat → Prop) (A0 : Option Addr) (c0 : Nat) (L : List Ent) (g : ByteArray) (h : ByteArray) (t0 : ByteArray) (t1 t2 : Int) (t3 : List S78) (t4 : List ByteArray) (t5 t6 : Int) (b : Bool) (w : World) (hs : Kd.V k34 34 w w.heap.size (fun k_ => P0 k_) (.slice A0 L.length c0) L) (hf : z6.f n low L g = some (t0,t1,t2,t3,t4,t5,t6,b)) (hl : L.length < 1466015503701) (hb : b = false) :
  Calls Try.prog 13 #[.agg #[.int .i64 n,.int .i64 low,.slice A0 L.length c0],.string g,.string h] w fun e w' => e = .returned (.bool false) ∧ Below w.heap.size w w' := by
 have HV := za.mk hs
 have HF := za.mk hf
 have HL := za.mk hl
 have Hw := za.mk (Below.refl w.heap.size w)
 clear hs hf hl
 subst hb
 go_enter Try.func13,Try.ntmps13
 go_wp2_with (first
  | ((with_reducible refine zq (N := 3) rfl ?_);refine zn rfl (N := 3) rfl (cs := #[.int .i64 n,.int .i64 low,.slice A0 L.length c0]) (t := 24) hrq ?_;intro g3 hg w3 hbox hb;have Gw_g3 := za.mk (adg Hw.out hg);replace Hw := za.mk (adl Hw.out hb);have Bg3 := za.mk hbox;clear hbox hb hg;obtain ⟨zg3_0,zg3_1,zg3_2,fg3_0,fg3_1,fg3_2⟩ := hcq3 Bg3.out)
  | (go_at_call 8;refine (z6.calls n low P0 A0 c0 L g t0 t1 t2 t3 t4 t5 t6 _ _ (Kd.V_map (Kd.V_below HV.out Hw.out) (fun _ hf_ => hf_)) HF.out).mono ?_;rintro e w4 ⟨v3,v4,rfl,hV3,hV4,hb⟩;clear zg3_0 zg3_1 zg3_2 fg3_0 fg3_1 fg3_2;replace Bg3 := za.mk (adb Bg3.out hb);replace Hw := za.mk (adl Hw.out hb);obtain ⟨A3,c3,rfl⟩ := Kd.V_slice hV3;obtain ⟨A4,c4,rfl⟩ := Kd.V_slice hV4;clear hV3 hV4;clear hb;obtain ⟨zg3_0,zg3_1,zg3_2,fg3_0,fg3_1,fg3_2⟩ := hcq3 Bg3.out)
  | ((with_reducible refine zq (N := 7) rfl ?_);refine zn rfl (N := 7) rfl (cs := #[.string (⟨#[]⟩ : ByteArray),.int .i64 0,.int .i64 0,.slice none 0 0,.slice none 0 0,.int .i64 0,.int .i64 0]) (t := 34) hrq ?_;intro g7 hg w5 hbox hb;have Gw_g7 := za.mk (adg Hw.out hg);have Ng3_g7 := za.mk (adn hg Bg3.out);clear zg3_0 zg3_1 zg3_2 fg3_0 fg3_1 fg3_2;replace Bg3 := za.mk (adb Bg3.out hb);replace Hw := za.mk (adl Hw.out hb);have Bg7 := za.mk hbox;clear hbox hb hg;obtain ⟨zg7_0,zg7_1,zg7_2,zg7_3,zg7_4,zg7_5,zg7_6,fg7_0,fg7_1,fg7_2,fg7_3,fg7_4,fg7_5,fg7_6⟩ := hcq7 Bg7.out)
  | ((with_reducible refine zaD (t := 34) (p := 7) rfl ?_);refine zaw (t := 34) (p := 7) (v := _) (w1 := (World.setCell (World.setCell (World.setCell (World.setCell (World.setCell (World.setCell (World.setCell w5 ⟨g7,0,none⟩ (.string t0)) ⟨g7,1,none⟩ (.int .i64 t1)) ⟨g7,2,none⟩ (.int .i64 t2)) ⟨g7,3,none⟩ (.slice A3 t3.length c3)) ⟨g7,4,none⟩ (.slice A4 t4.length c4)) ⟨g7,5,none⟩ (.int .i64 t5)) ⟨g7,6,none⟩ (.int .i64 t6))) rfl rfl rfl hrq ?_;intro w6 hw;clear zg7_0 zg7_1 zg7_2 zg7_3 zg7_4 zg7_5 zg7_6 fg7_0 fg7_1 fg7_2 fg7_3 fg7_4 fg7_5 fg7_6;replace Bg3 := za.mk (adf hw Ng3_g7.out Bg3.out);replace Bg7 : za (w6.heap[g7]? = some (.cells #[.string t0,.int .i64 t1,.int .i64 t2,.slice A3 t3.length c3,.slice A4 t4.length c4,.int .i64 t5,.int .i64 t6] 34 (0,0))) := ⟨adp hw Bg7.out⟩;replace Hw := za.mk (ads hw Gw_g7.out Hw.out);clear hw;obtain ⟨zg3_0,zg3_1,zg3_2,fg3_0,fg3_1,fg3_2⟩ := hcq3 Bg3.out;obtain ⟨zg7_0,zg7_1,zg7_2,zg7_3,zg7_4,zg7_5,zg7_6,fg7_0,fg7_1,fg7_2,fg7_3,fg7_4,fg7_5,fg7_6⟩ := hcq7 Bg7.out))
 go_ret
 exact ⟨rfl,Hw.out⟩
set_option maxHeartbeats 8000000 in
set_option maxRecDepth 100000 in
theorem zc7.yes (n low : Int) (P0 : Nat → Prop) (A0 : Option Addr) (c0 : Nat) (L : List Ent) (g : ByteArray) (h : ByteArray) (t0 : ByteArray) (t1 t2 : Int) (t3 : List S78) (t4 : List ByteArray) (t5 t6 : Int) (b : Bool) (w : World) (hs : Kd.V k34 34 w w.heap.size (fun k_ => P0 k_) (.slice A0 L.length c0) L) (hf : z6.f n low L g = some (t0,t1,t2,t3,t4,t5,t6,b)) (hl : L.length < 1466015503701) (hb : b = true) :
  Calls Try.prog 13 #[.agg #[.int .i64 n,.int .i64 low,.slice A0 L.length c0],.string g,.string h] w fun e w' => e = .returned (.bool ((zbv L t2 t0 (zdu L t2)).1 h).isSome) ∧ Below w.heap.size w w' := by
 have HV := za.mk hs
 have HF := za.mk hf
 have HL := za.mk hl
 have Hw := za.mk (Below.refl w.heap.size w)
 clear hs hf hl
 subst hb
 go_enter Try.func13,Try.ntmps13
 go_wp2_with (first
  | ((with_reducible refine zq (N := 3) rfl ?_);refine zn rfl (N := 3) rfl (cs := #[.int .i64 n,.int .i64 low,.slice A0 L.length c0]) (t := 24) hrq ?_;intro g3 hg w3 hbox hb;have Gw_g3 := za.mk (adg Hw.out hg);replace Hw := za.mk (adl Hw.out hb);have Bg3 := za.mk hbox;clear hbox hb hg;obtain ⟨zg3_0,zg3_1,zg3_2,fg3_0,fg3_1,fg3_2⟩ := hcq3 Bg3.out)
  | (go_at_call 8;refine (z6.calls n low P0 A0 c0 L g t0 t1 t2 t3 t4 t5 t6 _ _ (Kd.V_map (Kd.V_below HV.out Hw.out) (fun _ hf_ => hf_)) HF.out).mono ?_;rintro e w4 ⟨v3,v4,rfl,hV3,hV4,hb⟩;clear zg3_0 zg3_1 zg3_2 fg3_0 fg3_1 fg3_2;replace Bg3 := za.mk (adb Bg3.out hb);replace Hw := za.mk (adl Hw.out hb);obtain ⟨A3,c3,rfl⟩ := Kd.V_slice hV3;obtain ⟨A4,c4,rfl⟩ := Kd.V_slice hV4;clear hV3 hV4;clear hb;obtain ⟨zg3_0,zg3_1,zg3_2,fg3_0,fg3_1,fg3_2⟩ := hcq3 Bg3.out)
  | ((with_reducible refine zq (N := 7) rfl ?_);refine zn rfl (N := 7) rfl (cs := #[.string (⟨#[]⟩ : ByteArray),.int .i64 0,.int .i64 0,.slice none 0 0,.slice none 0 0,.int .i64 0,.int .i64 0]) (t := 34) hrq ?_;intro g7 hg w5 hbox hb;have Gw_g7 := za.mk (adg Hw.out hg);have Ng3_g7 := za.mk (adn hg Bg3.out);clear zg3_0 zg3_1 zg3_2 fg3_0 fg3_1 fg3_2;replace Bg3 := za.mk (adb Bg3.out hb);replace Hw := za.mk (adl Hw.out hb);have Bg7 := za.mk hbox;clear hbox hb hg;obtain ⟨zg7_0,zg7_1,zg7_2,zg7_3,zg7_4,zg7_5,zg7_6,fg7_0,fg7_1,fg7_2,fg7_3,fg7_4,fg7_5,fg7_6⟩ := hcq7 Bg7.out)
  | ((with_reducible refine zaD (t := 34) (p := 7) rfl ?_);refine zaw (t := 34) (p := 7) (v := _) (w1 := (World.setCell (World.setCell (World.setCell (World.setCell (World.setCell (World.setCell (World.setCell w5 ⟨g7,0,none⟩ (.string t0)) ⟨g7,1,none⟩ (.int .i64 t1)) ⟨g7,2,none⟩ (.int .i64 t2)) ⟨g7,3,none⟩ (.slice A3 t3.length c3)) ⟨g7,4,none⟩ (.slice A4 t4.length c4)) ⟨g7,5,none⟩ (.int .i64 t5)) ⟨g7,6,none⟩ (.int .i64 t6))) rfl rfl rfl hrq ?_;intro w6 hw;clear zg7_0 zg7_1 zg7_2 zg7_3 zg7_4 zg7_5 zg7_6 fg7_0 fg7_1 fg7_2 fg7_3 fg7_4 fg7_5 fg7_6;replace Bg3 := za.mk (adf hw Ng3_g7.out Bg3.out);replace Bg7 : za (w6.heap[g7]? = some (.cells #[.string t0,.int .i64 t1,.int .i64 t2,.slice A3 t3.length c3,.slice A4 t4.length c4,.int .i64 t5,.int .i64 t6] 34 (0,0))) := ⟨adp hw Bg7.out⟩;replace Hw := za.mk (ads hw Gw_g7.out Hw.out);clear hw;obtain ⟨zg3_0,zg3_1,zg3_2,fg3_0,fg3_1,fg3_2⟩ := hcq3 Bg3.out;obtain ⟨zg7_0,zg7_1,zg7_2,zg7_3,zg7_4,zg7_5,zg7_6,fg7_0,fg7_1,fg7_2,fg7_3,fg7_4,fg7_5,fg7_6⟩ := hcq7 Bg7.out)
  | (go_at_call 26;refine (zeK n low A0 c0 L t0 t1 t2 A3 t3.length c3 A4 t4.length c4 t5 t6 (zdu L t2) _ (Kd.V_map (Kd.V_below HV.out Hw.out) (fun _ hf_ => Kd.F_mono (Kd.F_bound hf_) (fun _ hk => hk.2))) HL.out (zeo L t2 HL.out).1 (zeo L t2 HL.out).2).mono ?_;rintro e w7 ⟨gm,rfl,hm,hb⟩;clear zg3_0 zg3_1 zg3_2 fg3_0 fg3_1 fg3_2 zg7_0 zg7_1 zg7_2 zg7_3 zg7_4 zg7_5 zg7_6 fg7_0 fg7_1 fg7_2 fg7_3 fg7_4 fg7_5 fg7_6;replace Bg3 := za.mk (adb Bg3.out hb);replace Bg7 := za.mk (adb Bg7.out hb);replace Hw := za.mk (adl Hw.out hb);have Mgm := za.mk hm;clear hm;clear hb)
  | (at_lookup;refine zcg _ rfl _ _ 55 rfl Mgm.out Try.underlying55 Try.underlying9 (zc7.zeroI _) h rfl rfl ?_;rw [show (inV (zbv L t2 t0 (zdu L t2)).1 h).isSome = ((zbv L t2 t0 (zdu L t2)).1 h).isSome from Option.isSome_map];generalize (inV (zbv L t2 t0 (zdu L t2)).1 h).getD _ = vl))
 go_ret
 exact ⟨rfl,Hw.out⟩
end Go.Proofs.Ytndjfdakflaggaa.Px