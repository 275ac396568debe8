/- Part 15 of 30 of the proof of the law DagPasts: what is proved is the statement at the end of the last part; its conditions are those of the given row. -/
import Derived.RangeFuncNested
import Derived.RangeFuncLeaves
import Derived.TacticsIn
import Derived.LoopIn
import Derived.Test.YtndjfdakflaggaaZDagPastsL
import Derived.Test.YtndjfdakflaggaaZDagPastsM
import Derived.Test.YtndjfdakflaggaaZDagPastsN
namespace Go.Proofs.Ytndjfdakflaggaa.Px
open Go.RowKit Go.Proofs.YtndjfdakflaggaaW.PrintWords Go.Proofs.YtndjfdakflaggaaW.PrintLast Go.Proofs.YtndjfdakflaggaaW.PrintMore
attribute [local go_sem] zt zv zA zB zq zr zu zw
set_option linter.unusedVariables false
set_option linter.unusedSimpArgs false
def zbz (L : List Ent) (r : Int) : List Ent := L.filter fun x => decide (x.f1.f1 = r)
theorem zeD (x : Ent) (L : List Ent) (r : Int) : zbz (x :: L) r = if x.f1.f1 = r then x :: zbz L r else zbz L r := by
 unfold zbz;rw [List.filter_cons];simp
theorem rdE_at (L : List Ent) (j : Nat) (h : j < L.length) : zd L (j : Int) = L[j] := by
 rw [zd,Int.toNat_natCast,List.getD_eq_getElem?_getD,List.getElem?_eq_getElem h];rfl
theorem zgY (L : List Ent) (r : Int) (hl : L.length < 1466015503701) (d : Nat) : ∀ (j : Nat) (acc : List Ent),j + d = L.length → acc.length ≤ j → Ev (fun k => zay.l0 k r acc L (L.length : Int) (j : Int)) (acc ++ zbz (L.drop j) r) := by
 induction d with
 | zero =>
  intro j acc h ha
  refine Ev.step (fun k => by rw [zay.l0]) ?_
  rw [List.drop_of_length_le (by omega)]
  exact zU (by omega) (zah (Ev.now _) (by simp [zbz]))
 | succ d ih =>
  intro j acc h ha
  refine Ev.step (fun k => by rw [zay.l0]) ?_
  have hlt : j < L.length := by omega
  have e2 : wrap64 ((j : Int) + 1) = ((j + 1 : Nat) : Int) := by rw [zak (by omega) (by omega)];omega
  rw [rdE_at L j hlt,e2,List.drop_eq_getElem_cons hlt]
  refine zF (by omega) (zF (by omega) (zF (by omega) ?_))
  by_cases hb : L[j].f1.f1 = r
  ·refine zF hb (zF (by omega) (zah (ih (j + 1) (acc ++ [L[j]]) (by omega) (by rw [List.length_append];simp;omega)) ?_))
   rw [zeD,if_pos hb,List.append_assoc];rfl
  ·refine zU hb (zah (ih (j + 1) acc (by omega) (by omega)) ?_)
   rw [zeD,if_neg hb]
theorem zeB (n low : Int) (L : List Ent) (r : Int) (hl : L.length < 1466015503701) : Ev (fun k => zay.f k n low L r) (zbz L r) := by
 have := zgY L r hl L.length 0 [] (by omega) (by simp)
 rwa [List.drop_zero,List.nil_append] at this
theorem zdI (L : List Ent) (r : Int) : (zbz L r).length ≤ L.length := List.length_filter_le _ _
def zgr (R : List Ent) (k : Nat) (s : ByteArray) : Option Value := if (R.take k).any (fun x => decide (x.f0 = s)) = true then some (.bool true) else none
theorem zix (R : List Ent) (s : ByteArray) : none = zgr R 0 s := by simp [zgr]
theorem ziw (R : List Ent) (k : Nat) (x : Ent) (hx : R[k]? = some x) (s : ByteArray) : (if s = x.f0 then some (Value.bool true) else zgr R k s) = zgr R (k + 1) s := by
 unfold zgr
 rw [List.take_add_one,hx,List.any_append]
 by_cases h : s = x.f0
 ·subst h;simp
 ·have : ¬ x.f0 = s := fun e => h e.symm
  simp [h,this]
theorem zh8 (R : List Ent) (s : ByteArray) : (zgr R R.length s).getD (.bool false) = .bool (R.any fun x => decide (x.f0 = s)) := by
 unfold zgr
 rw [List.take_length]
 cases h : R.any fun x => decide (x.f0 = s) <;> simp
def zcY (R : List Ent) (ps : List ByteArray) : List ByteArray := ps.filter fun p => !(R.any fun x => decide (x.f0 = p))
theorem lostL_eq (L : List Ent) (low r : Int) (ps : List ByteArray) (h : ¬ wrap64 (r - 1) ≤ low) : zcY (zbz L (wrap64 (r - 1))) ps = zbV L low r ps := by
 unfold zcY zbV zbz
 rw [if_neg h]
 congr 1
 funext p
 rw [List.any_filter]
 congr 2
 funext x
 simp
theorem zS.infoS : (Try.prog.info? 9).map (fun i => (i.zero,i.size,i.bytes)) = some (some (.string ⟨#[]⟩),1,16) := by kernel_rfl
theorem zS.zeroB : ∀ w : World,(zeroValue 4).run Try.prog w = .ok (.bool false) w := fun _ => by kernel_rfl
set_option maxHeartbeats 8000000 in
set_option maxRecDepth 100000 in
theorem zS.walk0 (a0_0 : Int) (a0_1 : Int) (A0_2 : Option Addr) (n0_2 c0_2 : Nat) (a1_0 : Int) (a1_1 : Int) (A1_2 : Option Addr) (n1_2 c1_2 : Nat) (A1_3 : Option Addr) (n1_3 c1_3 : Nat) (a1_4 : Int) (a1_5 : Int) (w : World) (h : wrap64 (a1_1 - 1) ≤ a0_1) :
  Calls Try.prog 33 #[.agg #[.int .i64 a0_0,.int .i64 a0_1,.slice A0_2 n0_2 c0_2],.agg #[.int .i64 a1_0,.int .i64 a1_1,.slice A1_2 n1_2 c1_2,.slice A1_3 n1_3 c1_3,.int .i64 a1_4,.int .i64 a1_5]] w fun e w' => e = .returned (.slice none 0 0) ∧ Below w.heap.size w w' := by
 have hd : decide (wrap64 (a1_1 - 1) ≤ a0_1) = true := decide_eq_true h
 clear h
 go_enter Try.func33,Try.ntmps33
 go_wp2_with fail
 go_ret
 exact ⟨rfl,zi (zi (Below.refl _ _) _) _⟩
set_option maxHeartbeats 8000000 in
set_option maxRecDepth 100000 in
theorem zS.walk (a0_0 : Int) (a0_1 : Int) (A0_2 : Option Addr) (c0_2 : Nat) (l0_2 : List (S34)) (a1_0 : Int) (a1_1 : Int) (A1_2 : Option Addr) (n1_2 c1_2 : Nat) (A1_3 : Option Addr) (c1_3 : Nat) (l1_3 : List ByteArray) (a1_4 : Int) (a1_5 : Int) (w : World) (hr0_2 : Kd.C k34 w A0_2 l0_2.length l0_2) (hc0_2 : l0_2.length ≤ c0_2) (hr1_3 : Kd.C Kd.string w A1_3 l1_3.length l1_3) (hc1_3 : l1_3.length ≤ c1_3)
  (h : ¬ wrap64 (a1_1 - 1) ≤ a0_1) (hl : l0_2.length < 1466015503701) (hp : l1_3.length ≤ 8796093022208) :
  Calls Try.prog 33 #[.agg #[.int .i64 a0_0,.int .i64 a0_1,.slice A0_2 l0_2.length c0_2],.agg #[.int .i64 a1_0,.int .i64 a1_1,.slice A1_2 n1_2 c1_2,.slice A1_3 l1_3.length c1_3,.int .i64 a1_4,.int .i64 a1_5]] w fun e w' => ∃ v0_ : Value,e = .returned (v0_) ∧ Kd.R Kd.string 9 w' w.heap.size (fun _ => True) v0_ (zcY (zbz l0_2 (wrap64 (a1_1 - 1))) l1_3) ∧ Below w.heap.size w w' := by
 obtain ⟨kr,hkr⟩ := (zeB a0_0 a0_1 l0_2 (wrap64 (a1_1 - 1)) hl).rounds
 have HK := za.mk hkr
 have HRL : za ((zbz l0_2 (wrap64 (a1_1 - 1))).length < 1466015503701) := ⟨Nat.lt_of_le_of_lt (zdI _ _) hl⟩
 have HR := za.mk hr0_2
 have HC := za.mk hc0_2
 have HRP := za.mk hr1_3
 have HCP := za.mk hc1_3
 have HP := za.mk hp
 have hd : decide (wrap64 (a1_1 - 1) ≤ a0_1) = false := decide_eq_false h
 clear hkr hr0_2 hc0_2 hr1_3 hc1_3 h hl hp
 have HF : za (Kd.F k34 w (fun k_ => k_ < w.heap.size) A0_2 l0_2.length l0_2) := ⟨Kd.C_F zbU HR.out⟩
 generalize zbz l0_2 (wrap64 (a1_1 - 1)) = R at *
 have hmm := @run_makeMap Try.prog
 go_enter Try.func33,Try.ntmps33
 go_wp2_with (first
  | ((with_reducible refine zp (N := 2) rfl ?_);refine zn rfl (N := 2) rfl (cs := #[.int .i64 a0_0,.int .i64 a0_1,.slice A0_2 l0_2.length c0_2]) (t := 24) hrq ?_;intro g2 hg w2 hbox hb;have B2 := za.mk hbox;have HB2 := za.mk hb;clear hb hbox hg)
  | ((with_reducible refine zp (N := 3) rfl ?_);refine zn rfl (N := 3) rfl (cs := #[.int .i64 a1_0,.int .i64 a1_1,.slice A1_2 n1_2 c1_2,.slice A1_3 l1_3.length c1_3,.int .i64 a1_4,.int .i64 a1_5]) (t := 32) hrq ?_;intro g3 hg w3 hbox hb;have B3 := za.mk hbox;have C2 := za.mk (zo B2.out hb);have HB3 := za.mk (zh HB2.out hb);clear hb hbox hg B2;have x2_0 := (zb C2.out 0).trans rfl;have x2_1 := (zb C2.out 1).trans rfl;have x2_2 := (zb C2.out 2).trans rfl;have x3_1 := (zb B3.out 1).trans rfl;have y2_0 := fun o => (zb (ze C2.out o) 0).trans rfl;have y2_1 := fun o => (zb (ze C2.out o) 1).trans rfl;have y2_2 := fun o => (zb (ze C2.out o) 2).trans rfl;have y3_1 := fun o => (zb (ze B3.out o) 1).trans rfl)
  | (go_at_call 52;(with_reducible refine (zay.calls kr a0_0 a0_1 (fun k_ => k_ < w.heap.size) A0_2 c0_2 l0_2 _ R _ (Kd.V_mk HC.out (Kd.F_below HF.out (zi HB3.out _))) HK.out).mono ?_);rintro e w5 ⟨v22,rfl,hN,hb⟩;obtain ⟨A22,c22,rfl⟩ := Kd.N_slice hN;have HV := za.mk (Kd.N_F hN);have HB5 := za.mk (zh (zi HB3.out _) hb);have C3 := za.mk (zo (ze B3.out _) hb);have HM := za.mk (zaw (zhb w3) hb);have HG0 : za (w.heap.size ≤ w3.heap.size) := ⟨zj HB3.out⟩;have HLT : za (w3.heap.size < w5.heap.size) := ⟨zaP HM.out⟩;clear hb hN))
 clear hmm x2_0 x2_1 x2_2 x3_1 y2_0 y2_1 y2_2 y3_1 hd
 have HG := za.mk (World.grownBy.refl w5 (some w3.heap.size))
 have HM0 := za.mk (zbq HM.out (zix R))
 go_loopw [24] (fun v24 wr => ∃ k : Nat,v24 = .int .i64 k ∧ k ≤ R.length ∧ za (zaU wr w3.heap.size (zgr R k)) ∧ za (w5.grownBy wr (some w3.heap.size))) (fun v24 _ => R.length - (intOf v24).toNat)
 case atStart => exact ⟨0,rfl,Nat.zero_le _,HM0,HG⟩
 case round =>
  clear HG HM0 HM
  obtain ⟨k,rfl,hk,HM,HG⟩ := hrel
  have HRI := HRL.out
  have HV1 : za (Kd.F k34 wr _ A22 R.length R) := ⟨Kd.F_grown HV.out HG.out (fun k_ hk_ he => by injection he with he;subst he;rcases hk_ with hk_ | hk_ <;> have := HG0.out <;> (try simp at hk_) <;> omega)⟩
  by_cases hlt : k < R.length
  ·obtain ⟨ad,A3,c3,A4,c4,rfl,hx0,hx1,hx2,hx3,hx4,hx5,hx6,_,_,_,_⟩ := zai (Kd.F_now HV1.out) (k : Int) (by omega) (by omega)
   rw [Int.toNat_natCast] at hx0 hx1 hx2 hx3 hx4 hx5 hx6
   have hb : decide (k < R.length) = true := decide_eq_true hlt
   have HX : za (R[k]? = some (zd R (k : Int))) := ⟨by rw [zd,Int.toNat_natCast,List.getD_eq_getElem?_getD,List.getElem?_eq_getElem hlt];rfl⟩
   clear HV1
   generalize zd R (k : Int) = s at *
   obtain ⟨s0,⟨s1,s2,s3,s4,⟨s5,s6⟩⟩⟩ := s
   go_wp2_with (at_mapUpdate;refine zcn _ rfl _ _ _ 72 rfl (zhK HM.out _) Try.underlying72 Try.underlying9 s0 (.bool true) rfl rfl rfl ?_;intro w7 hm7 hg7;have HM7 := za.mk (zbq hm7 (ziw R k _ HX.out));have HG7 := za.mk (HG.out.trans ((World.grownBy_alloc wr _ _).trans hg7));clear hm7 hg7)
   go_roundw
   case rel => exact ⟨k + 1,by go_num,by omega,HM7,HG7⟩
   case measure => simp [intOf];omega
  ·obtain rfl : k = R.length := by omega
   have hb : decide (R.length < R.length) = false := decide_eq_false hlt
   have HNE : za (some g3 ≠ some w3.heap.size) := ⟨fun he => by injection he with he;have := zam B3.out;omega⟩
   have B3r := za.mk (zaJ C3.out HG.out HNE.out)
   have HBr : za (Below w.heap.size w wr) := ⟨zcD HB5.out (some w3.heap.size) (zj HB5.out) HG.out (fun k_ e_ => by injection e_ with e_;subst e_;exact HG0.out)⟩
   have z3_3 := (zb B3r.out 3).trans rfl
   have hm3 := HRP.out.2.1
   clear HV1
   go_wp2_with fail
   clear z3_3
   go_loopw [8,35] (fun v8 v35 wq => ∃ j : Nat,v35 = .int .i64 j ∧ j ≤ l1_3.length ∧ za (Kd.R Kd.string 9 wq w.heap.size (fun k_ => k_ ≠ w3.heap.size) v8 (zcY R (l1_3.take j))) ∧ za (zaU wq w3.heap.size (zgr R R.length)) ∧ za (Below w.heap.size w wq)) (fun _ v35 _ => l1_3.length - (intOf v35).toNat)
   case atStart => exact ⟨0,rfl,Nat.zero_le _,⟨Kd.R_nil _ _ _ _ _⟩,HM,HBr⟩
   case round =>
    clear HM HBr B3r HG
    obtain ⟨j,rfl,hj,HO,HM,HB⟩ := hrel
    by_cases hlt2 : j < l1_3.length
    ·obtain ⟨ad,rfl,hcell⟩ := Kd.at_string HRP.out (j : Int) (by omega) (by omega)
     rw [Int.toNat_natCast] at hcell
     replace hcell := (HB.out.cell (World.block_lt_of_cell? w _ hcell)).trans hcell
     have hb2 : decide (j < l1_3.length) = true := decide_eq_true hlt2
     have HT : za (l1_3.take (j + 1) = l1_3.take j ++ [zz ByteArray.empty l1_3 (j : Int)]) := ⟨by
      rw [zz,Int.toNat_natCast,List.getD_eq_getElem?_getD,List.getElem?_eq_getElem hlt2,List.take_add_one,List.getElem?_eq_getElem hlt2];rfl⟩
     generalize zz ByteArray.empty l1_3 (j : Int) = s at *
     rcases hq : R.any (fun x => decide (x.f0 = s)) with _ | _
     ·have HQ := za.mk hq
      clear hq
      have HLN : za (((zcY R (l1_3.take j)).length + 1) * 16 ≤ 140737488355328) := ⟨by
       have h1 : (zcY R (l1_3.take j)).length ≤ (l1_3.take j).length := List.length_filter_le _ _
       rw [List.length_take] at h1
       have := HP.out
       omega⟩
      have HL : za (zcY R (l1_3.take (j + 1)) = zcY R (l1_3.take j) ++ [s]) := ⟨by
       rw [HT.out,zcY,List.filter_append]
       show _ ++ List.filter (fun p => !R.any fun x => decide (x.f0 = p)) [s] = _
       rw [List.filter_cons,HQ.out];rfl⟩
      go_wp2_with (first
       | (at_lookup;refine zbx _ rfl _ _ 72 rfl HM.out Try.underlying72 Try.underlying9 (zS.zeroB _) s rfl rfl ?_;rw [zh8,HQ.out])
       | (at_builtin;refine Kd.R_append Kd.string (w0 := w) w.heap.size rfl (.tmp 43) (.tmp 45) 28 9 (.string ⟨#[]⟩) 16 rfl Try.underlying28 zS.infoS rfl (by decide) (by omega) _ (zcY R (l1_3.take j)) s [.string s] (fun k_ => k_ ≠ w3.heap.size) (fun _ => False) rfl rfl ?aP (fun _ hk => hk.elim) ?aF ?aO ?aB ?aS ?aL ?_;(case aP => exact rfl);(case aF => exact (fun k_ hk he => by subst he;have := zaP HM.out;omega));(case aO => exact HO.out);(case aB => exact HB.out);(case aS => exact (zj HB.out));(case aL => exact HLN.out);intro v3 w8 ho hb hg hat;have HO3 := za.mk ho;have HB3' := za.mk hb;have HM3 := za.mk (zfo HM.out hg (Kd.R_away HO.out (fun _ hk => hk)));clear ho hb hg hat))
      go_roundw
      case rel => exact ⟨j + 1,by go_num,by omega,⟨by rw [HL.out];exact HO3.out⟩,HM3,HB3'⟩
      case measure => simp [intOf];omega
     ·have HQ := za.mk hq
      clear hq
      have HL : za (zcY R (l1_3.take (j + 1)) = zcY R (l1_3.take j)) := ⟨by
       rw [HT.out,zcY,List.filter_append]
       show _ ++ List.filter (fun p => !R.any fun x => decide (x.f0 = p)) [s] = _
       rw [List.filter_cons,HQ.out];simp;rfl⟩
      go_wp2_with (at_lookup;refine zbx _ rfl _ _ 72 rfl HM.out Try.underlying72 Try.underlying9 (zS.zeroB _) s rfl rfl ?_;rw [zh8,HQ.out])
      go_roundw
      case rel => exact ⟨j + 1,by go_num,by omega,⟨by rw [HL.out];exact HO.out⟩,HM,HB⟩
      case measure => simp [intOf];omega
    ·obtain rfl : j = l1_3.length := by omega
     have hb2 : decide (l1_3.length < l1_3.length) = false := decide_eq_false hlt2
     go_wp2_with fail
     go_ret
     exact ⟨_,rfl,by have h_ := Kd.R_mono HO.out (fun _ _ => trivial);rwa [List.take_length] at h_,HB.out⟩
def zS.f (a0_0 : Int) (a0_1 : Int) (l0_2 : List (S34)) (a1_0 : Int) (a1_1 : Int) (l1_2 : List (S78)) (l1_3 : List ByteArray) (a1_4 : Int) (a1_5 : Int) : Option (List ByteArray) := if l0_2.length < 1466015503701 ∧ l1_3.length ≤ 8796093022208 then some (zbV l0_2 a0_1 a1_1 l1_3) else none
theorem zS.calls (a0_0 : Int) (a0_1 : Int) (A0_2 : Option Addr) (c0_2 : Nat) (l0_2 : List (S34)) (a1_0 : Int) (a1_1 : Int) (A1_2 : Option Addr) (c1_2 : Nat) (l1_2 : List (S78)) (A1_3 : Option Addr) (c1_3 : Nat) (l1_3 : List ByteArray) (a1_4 : Int) (a1_5 : Int) (r : List ByteArray) (w : World) (hr0_2 : Kd.C k34 w A0_2 l0_2.length l0_2) (hc0_2 : l0_2.length ≤ c0_2) (hr1_2 : Kd.C k78 w A1_2 l1_2.length l1_2) (hc1_2 : l1_2.length ≤ c1_2) (hr1_3 : Kd.C Kd.string w A1_3 l1_3.length l1_3) (hc1_3 : l1_3.length ≤ c1_3) (h : zS.f a0_0 a0_1 l0_2 a1_0 a1_1 l1_2 l1_3 a1_4 a1_5 = some r) :
  Calls Try.prog 33 #[.agg #[.int .i64 a0_0,.int .i64 a0_1,.slice A0_2 l0_2.length c0_2],.agg #[.int .i64 a1_0,.int .i64 a1_1,.slice A1_2 l1_2.length c1_2,.slice A1_3 l1_3.length c1_3,.int .i64 a1_4,.int .i64 a1_5]] w fun e w' => ∃ v0_ : Value,e = .returned (v0_) ∧ Kd.R Kd.string 9 w' w.heap.size (fun _ => True) v0_ r ∧ Below w.heap.size w w' := by
 unfold zS.f at h
 split at h
 ·rename_i hh
  obtain rfl := Option.some.inj h
  by_cases hw : wrap64 (a1_1 - 1) ≤ a0_1
  ·refine (zS.walk0 a0_0 a0_1 A0_2 _ c0_2 a1_0 a1_1 A1_2 _ c1_2 A1_3 _ c1_3 a1_4 a1_5 w hw).mono ?_
   rintro e w' ⟨rfl,hb⟩
   rw [zbV,if_pos hw]
   exact ⟨_,rfl,Kd.R_nil _ _ _ _ _,hb⟩
  ·rw [← lostL_eq _ _ _ _ hw]
   exact zS.walk a0_0 a0_1 A0_2 c0_2 l0_2 a1_0 a1_1 A1_2 _ c1_2 A1_3 c1_3 l1_3 a1_4 a1_5 w hr0_2 hc0_2 hr1_3 hc1_3 hw hh.1 hh.2
 ·cases h
theorem zgL {n : Nat} {P : Program} {row : String} {args : Array Value} {w : World} {R : Value → World → Prop} (h : Rows P row args w R) : RowsIn Fence.wide n P row args w R :=
 fun c cs _ => let ⟨v,w',r,s⟩ := h c cs;⟨v,w',r,stepsIn_wide.2 s⟩
theorem zbL {P : Program} {ops : Array Oper} {Q : Exit → Act → World → Prop} (hQ : ¬ LetsOut Q) (l n : Nat) : ∀ (L : List Oper) (a : Act) (w : World),(∀ o ∈ L,∀ c,o.op ≠ .defer c) → wpList P ops Q L a w → wpListIn (Fence.wide.inRound l) n P ops Q L a w
 | [],_,_,_,h => h
 | o :: rest,a,w,hd,h => by
  have ih := fun a w => zbL (P := P) (ops := ops) hQ l n rest a w (fun o' ho => hd o' (List.mem_cons_of_mem _ ho))
  unfold wpList at h
  unfold wpListIn
  split at h
  ·rename_i hw
   rw [if_pos hw]
   rcases h with h | ⟨_,h⟩
   ·refine ⟨fun _ _ => trivial,?_⟩
    rw [Fence.inRound_round,Oper.semAt_some l _ _ (hd o List.mem_cons_self)]
    unfold Oper.wp at h
    cases hr : (execOp a.eval o).run P w with
    | halt x w' =>
     rw [hr] at h
     cases x <;> first | exact h | exact h.elim
    | ok x w' =>
     rw [hr] at h
     cases x with
     | value v => exact ih _ _ h
     | skip => exact ih _ _ h
     | defer d => exact ih _ _ h
     | enter f args =>
      refine ⟨fun hh => absurd hh (by simp [Fence.wide]),?_⟩
      refine (show CallsIn (Fence.wide.inRound l) _ P f args w' _ from (callsIn_wide (n := n - 1)).2 (h.mono ?_))
      intro e w'' he
      cases e with
      | returned v => exact ih _ _ he
      | panicked c => exact he
      | outgrown => exact he
     | row r args =>
      refine ⟨fun hh => absurd hh (by simp [Fence.wide]),?_⟩
      exact (show RowsIn (Fence.wide.inRound l) _ P r args w' _ from zgL (n := n - 1) (Rows.mono h (fun v w'' he => ih _ _ he)))
     | round l' f tmps assign body => exact h.elim
     | _ => exact h.elim
   ·exact absurd h hQ
  ·rename_i hw
   rw [if_neg hw]
   exact ⟨fun _ _ => trivial,ih _ _ h⟩
def SeqN {α : Type} (P : Program) (gf : Nat) (lb : Array Value) (zca : Nat → α → Array Value) (G : Nat → α → World → World → Prop) (D : World → Prop) (K B : Nat) : Prop :=
 ∀ (l : Nat) (J : Nat → World → Prop) (W : World),B ≤ W.heap.size →
  (∀ k A C,J k A → Below A.heap.size A C → J k C) → (∀ k A,J k A → D A) → (∀ k A,J k A → B ≤ A.heap.size) →
  (∀ n k x W0 W1,k < K → J k W0 → Below W0.heap.size W0 W1 → J k W1 → G k x W0 W1 → YieldAt Fence.wide n P l (zca k x) W1 fun e W' => e = .returned (.bool true) ∧ J (k + 1) W') →
  J 0 W → Calls P gf (#[.func (.yield l) #[] #[]] ++ lb) W fun e W' => (∃ v,e = .returned v) ∧ J K W'
def postN (I : World → Prop) (B : Nat) (W : World) : Exit → Act → World → Prop
 | .normal,_,W' => W.heap.size ≤ W'.heap.size ∧ W'.heap[B]? = W.heap[B]? ∧ W'.heap[B + 1]? = W.heap[B + 1]? ∧ I W'
 | .ret,_,_ => False
 | .exit _,_,_ => False
 | .goto _,_,_ => False
 | .panic _,_,_ => False
 | .outgrown,_,_ => False
theorem zfQ {α : Type} {P : Program} {g : Operand} {ps : Array Tmp} {assign body : Code} {Q : Exit → Act → World → Prop} {a : Act} {w : World}
  {gf : Nat} {lb : Array Value} (hg : a.eval g = .func (.func gf) #[] lb) (eg : ∀ args w,(callFunc gf args).run P w = .ok (.enter gf args) w)
  {zca : Nat → α → Array Value} {G : Nat → α → World → World → Prop} {D : World → Prop} {K : Nat} (hseq : SeqN P gf lb zca G D K (w.heap.size + 2)) (hps : ∀ k x,(zca k x).size = ps.size)
  (I : Nat → World → Prop) (hIb : ∀ k A C,I k A → Below A.heap.size A C → I k C)
  (hIp : ∀ k A l o o',I k A → (l = w.heap.size ∨ l = w.heap.size + 1) → A.heap[l]? = some o → o.isCells = false → o.isWalk = false → I k (A.putObj l o'))
  (hGp : ∀ k x W0 A o',w.heap.size + 2 ≤ W0.heap.size → G k x W0 A → G k x W0 (A.putObj (w.heap.size + 1) o'))
  (hID : ∀ k A,I k A → D A) (h0 : I 0 w) (a₁ : Nat → α → Act)
  (hassign : ∀ (l n k : Nat) (x : α) (W : World) (Kq : Act → World → Prop),Kq (a₁ k x) W →
   assign.wpIn (Fence.wide.inRound l) n P (Exit.then Kq (fun _ _ _ => False)) { tmps := (ps.zip (zca k x)).foldl (fun t (p,v) => t.setIfInBounds p v) a.tmps,defers := [] } W)
  (hbody : ∀ (n k : Nat) (x : α) (W0 W : World),k < K → w.heap.size + 2 ≤ W0.heap.size → W0.heap.size ≤ W.heap.size → I k W0 → (∀ j,j < W0.heap.size → j ≠ w.heap.size + 1 → W.heap[j]? = W0.heap[j]?) → I k W → G k x W0 W → body.wpIn (Fence.wide.inRound (w.heap.size + 1)) n P (postN (I (k + 1)) w.heap.size W) (a₁ k x) W)
  (hdone : ∀ (W : World),w.heap.size + 2 ≤ W.heap.size → I K W → W.heap[w.heap.size]? = some (.deferred (some [])) → Q .normal { a with defers := { target := .collected w.heap.size,args := #[] } :: a.defers } W) :
  (Code.rangeFunc g ps assign body).wp P Q a w := by
 refine (wpIn_wide (n := 0)).1 (wpIn_rangeFunc ?_)
 intro fn hfn
 rw [Fence.wide_round]
 obtain ⟨rec,hrec⟩ : ∃ rec : LoopState → Option Code → Loop,rec = fun st pe => { state := st,pending := pe,fn,tmps := a.tmps,params := ps,assign,body,defers := w.heap.size } := ⟨_,rfl⟩
 obtain ⟨W1,hW1⟩ : ∃ W1,(w.alloc (.deferred (some []))).alloc (.loop (rec .ready none)) = W1 := ⟨_,rfl⟩
 have hL1 : W1.heap[w.heap.size + 1]? = some (.loop (rec .ready none)) := by
  rw [← hW1];have := World.alloc_heap_new (w.alloc (.deferred (some []))) (.loop (rec .ready none));rwa [World.size_alloc] at this
 have hK1 : W1.heap[w.heap.size]? = some (.deferred (some [])) := by
  rw [← hW1];exact (Below.heap_alloc _ _ _ (by simp)).trans (World.alloc_heap_new w _)
 have hb1 : Below w.heap.size w W1 := by
  rw [← hW1];exact ((Below.refl _ w).alloc (Nat.le_refl _) _).alloc (by simp) _
 have hs1 : W1.heap.size = w.heap.size + 2 := by rw [← hW1];simp
 have hI1 : I 0 W1 := hIb _ _ _ h0 hb1
 refine ⟨w.heap.size + 1,[{ target := .collected w.heap.size,args := #[] }],W1,{ target := .fn (.func gf) lb,args := #[.func (.yield (w.heap.size + 1)) #[] #[]] },W1,gf,
  #[.func (.yield (w.heap.size + 1)) #[] #[]] ++ lb,W1,?_,?_,?_,?_,fun h => absurd h (by simp [Fence.wide]),?_⟩
 ·rw [← hW1,hrec];exact run_enterLoop_outer _ _ _ _ _
 ·simp only [resolve,hg]
  simp [go_sem]
 ·intro f' hf';trivial
 ·simp [invoke,go_sem,eg]
 ·refine callsIn_wide.2 ((hseq (w.heap.size + 1)
   (fun k W => I k W ∧ w.heap.size + 2 ≤ W.heap.size ∧ W.heap[w.heap.size + 1]? = some (.loop (rec .ready none)) ∧ W.heap[w.heap.size]? = some (.deferred (some [])))
   W1 (Nat.le_of_eq hs1.symm) (fun k A C h hb => ⟨hIb _ _ _ h.1 hb,Nat.le_trans h.2.1 hb.size,(hb.block _ (by omega)).trans h.2.2.1,(hb.block _ (by omega)).trans h.2.2.2⟩)
   (fun k A h => hID _ _ h.1) (fun k A h => h.2.1) ?_ ⟨hI1,Nat.le_of_eq hs1.symm,hL1,hK1⟩).mono ?_)
  ·rintro n k x W0 W hk ⟨hi0,hsz0,_,_⟩ hb0 ⟨hi,hsz,hl,hd⟩ hgx
   have hy := run_yield (P := P) (args := zca k x) hl (by rw [hrec];exact hps k x)
   rw [hrec] at hy
   refine ⟨fn,_,assign,body,hy,roundIn_of_wpIn hfn (hassign _ _ k x W _ ⟨_,run_beginRound hl (by rw [hrec]),?_⟩)⟩
   have hl2 : (W.putObj (w.heap.size + 1) (.loop { rec .ready none with state := .busy })).heap[w.heap.size + 1]? = some (.loop { rec .ready none with state := .busy }) := World.putObj_heap_same (by omega)
   have hk2 : (W.putObj (w.heap.size + 1) (.loop { rec .ready none with state := .busy })).heap[w.heap.size]? = some (.deferred (some [])) := (World.putObj_heap_other (by omega)).trans hd
   refine wpIn_mono (hbody _ k x W0 _ hk hsz0 (by rw [World.putObj_size];exact hb0.size) hi0 (fun j hj hne => (World.putObj_heap_other hne).trans (hb0.block j hj)) (hIp _ _ _ _ _ hi (.inr rfl) hl rfl rfl) (hGp _ _ _ _ _ hsz0 hgx)) ?_
   rintro e a3 W3 hp
   cases e with
   | normal =>
    obtain ⟨hs3,hd3,hl3,hi3⟩ := hp
    rw [World.putObj_size] at hs3
    replace hl3 := hl3.trans hl2
    replace hd3 := hd3.trans hk2
    have hr := run_endRound (P := P) none hl3
    rw [hrec] at hr
    refine ⟨_,_,hr,rfl,hIp _ _ _ _ _ hi3 (.inr rfl) hl3 rfl rfl,by rw [World.putObj_size];omega,?_,(World.putObj_heap_other (by omega)).trans hd3⟩
    rw [hrec];exact World.putObj_heap_same (by omega)
   | ret => exact hp.elim
   | exit id => exact hp.elim
   | goto t => exact hp.elim
   | panic ch => exact hp.elim
   | outgrown => exact hp.elim
  ·rintro e W2 ⟨⟨v,rfl⟩,hi,hs2,hl,hd⟩
   exact ⟨none,_,by have := run_endLoop (P := P) hl (by rw [hrec];simp);rw [hrec] at this;exact this,hdone _ (by rw [World.putObj_size];exact hs2) (hIp _ _ _ _ _ hi (.inr rfl) hl rfl rfl) ((World.putObj_heap_other (by omega)).trans hd)⟩
theorem zdP {P : Program} {f : FuncId} {fn : Func} {c : Code} {args : Array Value} {w : World} {R : Ending → World → Prop}
  (hf : P.funcs[f]? = some fn) (hb : fn.body = some c)
  (h : c.wp P (bodyPostM Fence.wide 0 P fn R) { tmps := args ++ Array.replicate (fn.ntmps - args.size) undef,defers := [] } w) : Calls P f args w R :=
 callsIn_wide.1 (callsIn_of_wp_marks (n := 0) hf hb trivial (wpIn_wide.2 h))
theorem ziu {P : Program} {Q : Exit → Act → World → Prop} {id : Nat} {ops : Array Oper} {dr : Bool} {a : Act} {w : World} (h : (Code.region id ops dr).wpIn Fence.wide 1 P Q a w) : (Code.region id ops dr).wp P Q a w := wpIn_wide.1 h
section
variable {P : Program} {ops : Array Oper} {rest : List Oper} {o : Oper} {a : Act} {Q : Exit → Act → World → Prop}
theorem zhy (w : World) (hg : o.guard = none) (m x v : Operand) (t : TypeId) (hop : o.op = Op.insert t m x v) {k e : TypeId} {g : Nat} {F : ByteArray → Option Value} (h : zaU w g F) (ht : P.underlying t = some (.map k e)) (hk : P.underlying k = some .string)
  (s : ByteArray) (u : Value) (hm : a.eval m = .map (some g)) (hx : a.eval x = .string s) (hv : a.eval v = u) (hK : ∀ w',zaU w' g (fun y => if y = s then some u else F y) → w.grownBy w' (some g) → wpList P ops Q rest (a.put o.dst undef) w') : wpList P ops Q (o :: rest) a w := by
 refine wpList_plain hg fun K' hK' => ?_
 obtain ⟨w',hrun,r1,r2⟩ := zhc h ht hk s u
 unfold Oper.wp
 simp [execOp,hop,hm,hx,hv,hrun,Result.andThen]
 exact hK' _ _ (hK w' r1 r2)
theorem zeM (w : World) (hg : o.guard = none) (m x : Operand) (t k : TypeId) (hop : o.op = Op.call { callee := Callee.builtin Builtin.delete,args := #[m,x],argTypes := #[t,k] }) {e : TypeId} {g : Nat} {F : ByteArray → Option Value} (h : zaU w g F) (ht : P.underlying t = some (.map k e)) (hk : P.underlying k = some .string)
  (s : ByteArray) (hm : a.eval m = .map (some g)) (hx : a.eval x = .string s) (hK : ∀ w',zaU w' g (fun y => if y = s then none else F y) → w.grownBy w' (some g) → wpList P ops Q rest (a.put o.dst (.tuple #[])) w') : wpList P ops Q (o :: rest) a w := by
 refine wpList_plain hg fun K' hK' => ?_
 obtain ⟨w',hrun,r1,r2⟩ := mapF_del h ht hk o.type s
 unfold Oper.wp
 simp [execOp,hop,resolve,invoke,builtin,hm,hx,hrun,Result.andThen]
 exact hK' _ _ (hK w' r1 r2)
end
structure Trod (S : Nat → Prop) (A C : World) : Prop where
 os : C.os = A.os
 tape : C.tape = A.tape
 output : C.output = A.output
 size : A.heap.size ≤ C.heap.size
 block : ∀ j,j < A.heap.size → ¬ S j → C.heap[j]? = A.heap[j]?
theorem Trod.refl (S : Nat → Prop) (A : World) : Trod S A A := ⟨rfl,rfl,rfl,Nat.le_refl _,fun _ _ _ => rfl⟩
theorem Trod.trans {S : Nat → Prop} {A C E : World} (h : Trod S A C) (k : Trod S C E) : Trod S A E :=
 ⟨k.os.trans h.os,k.tape.trans h.tape,k.output.trans h.output,Nat.le_trans h.size k.size,fun j hj hn => (k.block j (Nat.lt_of_lt_of_le hj h.size) hn).trans (h.block j hj hn)⟩
theorem Trod.wide {S S' : Nat → Prop} {A C : World} (h : Trod S A C) (hs : ∀ j,S j → S' j) : Trod S' A C := ⟨h.os,h.tape,h.output,h.size,fun j hj hn => h.block j hj (fun hs' => hn (hs j hs'))⟩
theorem Trod.below {S : Nat → Prop} {A C E : World} (h : Trod S A C) (k : Below C.heap.size C E) : Trod S A E := h.trans ⟨k.os,k.tape,k.output,k.size,fun j hj _ => k.block j hj⟩
theorem Trod.grown {S : Nat → Prop} {A C E : World} (h : Trod S A C) {g : Nat} (k : C.grownBy E (some g)) (hg : S g ∨ A.heap.size ≤ g) : Trod S A E :=
 ⟨k.os.trans h.os,k.tape.trans h.tape,k.output.trans h.output,Nat.le_trans h.size k.size,fun j hj hn => (k.block j (Nat.lt_of_lt_of_le hj h.size) (fun e => by injection e with e;subst e;exact hg.elim hn (fun h => by omega))).trans (h.block j hj hn)⟩
theorem Trod.to_below {S : Nat → Prop} {A C : World} (h : Trod S A C) {B : Nat} (hB : B ≤ A.heap.size) (hs : ∀ j,S j → B ≤ j) : Below B A C := ⟨h.os,h.tape,h.output,h.size,fun j hj => h.block j (Nat.lt_of_lt_of_le hj hB) (fun hj' => by have := hs j hj';omega)⟩
theorem zac {S : Nat → Prop} {A C : World} {g : Nat} {o : Obj} (h : Trod S A C) (hb : A.heap[g]? = some o) (hg : ¬ S g) : C.heap[g]? = some o := (h.block g (zam hb) hg).trans hb
theorem zaK {S : Nat → Prop} {A C : World} {g : Nat} {F : ByteArray → Option Value} (h : Trod S A C) (hb : zaU A g F) (hg : ¬ S g) : zaU C g F := zeo hb (h.block g (zaP hb) hg)
def zgw (L : List Oper) : Bool := L.all fun o => match o.op with | .defer _ => false | _ => true
theorem zfq {L : List Oper} (h : zgw L = true) : ∀ o ∈ L,∀ c,o.op ≠ .defer c := by
 intro o ho c hc
 have := List.all_eq_true.1 h o ho
 rw [hc] at this
 cases this
theorem zbn {P : Program} {ops : Array Oper} {Q : Exit → Act → World → Prop} {l n : Nat} {o : Oper} {rest : List Oper} {a : Act} {w : World} {N : Tmp} (_hN : o.dst = some N) (hQ : ¬ LetsOut Q) (hd : zgw (o :: rest) = true) (h : wpList P ops Q (o :: rest) a w) : wpListIn (Fence.wide.inRound l) n P ops Q (o :: rest) a w := zbL hQ l n _ a w (zfq hd) h
section
variable {P : Program} {ops : Array Oper} {rest : List Oper} {o : Oper} {a : Act} {Q : Exit → Act → World → Prop} {W : World}
theorem gate_ins {t : TypeId} {m x v : Operand} (_ho : o.op = .insert t m x v) (h : wpList P ops Q (o :: rest) a W) : wpList P ops Q (o :: rest) a W := h
theorem zg1 {m x : Operand} {t k : TypeId} (_ho : o.op = .call { callee := .builtin .delete,args := #[m,x],argTypes := #[t,k] }) (h : wpList P ops Q (o :: rest) a W) : wpList P ops Q (o :: rest) a W := h
end
section
variable {P : Program} {ops : Array Oper} {rest : List Oper} {o : Oper} {a : Act} {Q : Exit → Act → World → Prop}
theorem zep {W : World} (hgd : o.guard = none) {N : Tmp} (_hd : o.dst = some N)
  (hrun : (execOp a.eval o).run P W = .ok (.value (.map (some W.heap.size))) (W.alloc (.map #[] 0)))
  (h : ∀ g,g = W.heap.size → ∀ w1,zaU w1 g (fun _ => none) → Below W.heap.size W w1 → wpList P ops Q rest (a.put o.dst (.map (some g))) w1) : wpList P ops Q (o :: rest) a W :=
 Kd.event_run hgd hrun (h _ rfl _ (zhb W) (zi (Below.refl _ _) _))
end
theorem far1 {W : World} {g q i : Nat} {v : Value} {o : Obj} (x : W.heap[g]? = some o) (n : g ≠ q) : (W.setCell ⟨q,i,none⟩ v).heap[g]? = some o := (Below.heap_setCell _ _ _ _ n).trans x
theorem adm {w1 W W' : World} {g q : Nat} {F : ByteArray → Option Value} (hw_ : W' = W) (n_ : g ≠ q) (x_ : zaU w1 g F) (h_ : g ≠ q → ∀ o,w1.heap[g]? = some o → W.heap[g]? = some o := by intro n_ o_ x_;(repeat (first | (with_reducible exact x_) | (with_reducible refine far1 ?_ n_)))) : zaU W' g F := by
 rw [hw_]
 obtain ⟨es,c,l,h1,h2⟩ := x_
 exact ⟨es,c,l,h_ n_ _ h1,h2⟩
theorem Trod.setS {S : Nat → Prop} {A C : World} (h : Trod S A C) {g : Nat} (hg : S g ∨ A.heap.size ≤ g) (i : Nat) (v : Value) : Trod S A (C.setCell ⟨g,i,none⟩ v) :=
 ⟨h.os,h.tape,h.output,Nat.le_trans h.size (by simp [World.setCell]),fun j hj hn => (Below.heap_setCell _ _ _ _ (by show j ≠ g;rintro rfl;exact hg.elim hn (fun h_ => by omega))).trans (h.block j hj hn)⟩
theorem Trod.set {S : Nat → Prop} {A C : World} (h : Trod S A C) {g : Nat} (hg : A.heap.size ≤ g) (i : Nat) (v : Value) : Trod S A (C.setCell ⟨g,i,none⟩ v) := h.setS (.inr hg) i v
theorem adt {S : Nat → Prop} {A w1 W W' : World} {g : Nat} (hw_ : W' = W) (n_ : A.heap.size ≤ g) (x_ : Trod S A w1) (h_ : A.heap.size ≤ g → Trod S A w1 → Trod S A W := by intro n_ x_;(repeat (with_reducible first | exact x_ | refine Trod.set ?_ n_ _ _))) : Trod S A W' := by rw [hw_];exact h_ n_ x_
theorem zee (A : World) (l : Nat) (o' : Obj) : Trod (fun j => j = l) A (A.putObj l o') := ⟨rfl,rfl,rfl,by rw [World.putObj_size];exact Nat.le_refl _,fun _ _ hn => World.putObj_heap_other hn⟩
theorem Trod.of_below {A C : World} (h : Below A.heap.size A C) (S : Nat → Prop) : Trod S A C := (Trod.refl S A).below h
theorem zcT {α : Type} {d : Kd α} {S ok : Nat → Prop} {A C : World} {ad : Option Addr} {m : Nat} {xs : List α} (h : Trod S A C) (hf : Kd.F d A ok ad m xs) (hs : ∀ j,ok j → ¬ S j) : Kd.F d C ok ad m xs := Kd.F_step hf (fun j hj hlt => h.block j hlt (hs j hj))
theorem zfg {P : Program} {ops : Array Oper} {Q : Exit → Act → World → Prop} {l n : Nat} {o : Oper} {rest : List Oper} {a : Act} {w : World} {t : TypeId} {m x v : Operand} (_ho : o.op = .mapUpdate t m x v) (hQ : ¬ LetsOut Q) (hd : zgw (o :: rest) = true) (h : wpList P ops Q (o :: rest) a w) : wpListIn (Fence.wide.inRound l) n P ops Q (o :: rest) a w := zbL hQ l n _ a w (zfq hd) h
theorem Trod.join {S S' : Nat → Prop} {A C E : World} (h : Trod S A C) (k : Trod S' C E) (hs : ∀ j,S' j → S j ∨ A.heap.size ≤ j) : Trod S A E :=
 ⟨k.os.trans h.os,k.tape.trans h.tape,k.output.trans h.output,Nat.le_trans h.size k.size,fun j hj hn => (k.block j (Nat.lt_of_lt_of_le hj h.size) (fun hc => (hs j hc).elim hn (fun h_ => by omega))).trans (h.block j hj hn)⟩
end Go.Proofs.Ytndjfdakflaggaa.Px