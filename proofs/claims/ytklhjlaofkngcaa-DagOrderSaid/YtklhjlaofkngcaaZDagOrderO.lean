/- Part 15 of 25 of the proof of the law DagOrder: what is proved is the statement at the end of the last part; its conditions are those of the given row. -/
import Derived.Test.YtklhjlaofkngcaaZDagOrderL
import Derived.Test.YtklhjlaofkngcaaZDagOrderN
namespace Go.Proofs.Ytklhjlaofkngcaa.Px
open Go.RowKit Go.Proofs.YtklhjlaofkngcaaW.PrintWords Go.Proofs.YtklhjlaofkngcaaW.PrintLast Go.Proofs.YtklhjlaofkngcaaW.PrintMore
attribute [local go_sem] zx zz zE zF zr zt zy zA
set_option linter.unusedVariables false
set_option linter.unusedSimpArgs false
def zbA (L : List Ent) (r : Int) : List Ent := L.filter fun x => decide (x.f1.f1 = r)
theorem zds (x : Ent) (L : List Ent) (r : Int) : zbA (x :: L) r = if x.f1.f1 = r then x :: zbA L r else zbA L r := by
 unfold zbA;rw [List.filter_cons];simp
theorem ziB (L : List Ent) (j : Nat) (h : j < L.length) : zg L (j : Int) = L[j] := by
 rw [zg,Int.toNat_natCast,List.getD_eq_getElem?_getD,List.getElem?_eq_getElem h];rfl
theorem zfu (L : List Ent) (r : Int) (hl : L.length < 1466015503701) (d : Nat) : ∀ (j : Nat) (acc : List Ent),j + d = L.length → acc.length ≤ j → Ev (fun k => zau.l0 k r acc L (L.length : Int) (j : Int)) (acc ++ zbA (L.drop j) r) := by
 induction d with
 | zero =>
  intro j acc h ha
  refine Ev.step (fun k => by rw [zau.l0]) ?_
  rw [List.drop_of_length_le (by omega)]
  exact zak (by omega) (zaC (Ev.now _) (by simp [zbA]))
 | succ d ih =>
  intro j acc h ha
  refine Ev.step (fun k => by rw [zau.l0]) ?_
  have hlt : j < L.length := by omega
  have e2 : wrap64 ((j : Int) + 1) = ((j + 1 : Nat) : Int) := by rw [zav (by omega) (by omega)];omega
  rw [ziB L j hlt,e2,List.drop_eq_getElem_cons hlt]
  refine zS (by omega) (zS (by omega) (zS (by omega) ?_))
  by_cases hb : L[j].f1.f1 = r
  ·refine zS hb (zS (by omega) (zaC (ih (j + 1) (acc ++ [L[j]]) (by omega) (by rw [List.length_append];simp;omega)) ?_))
   rw [zds,if_pos hb,List.append_assoc];rfl
  ·refine zak hb (zaC (ih (j + 1) acc (by omega) (by omega)) ?_)
   rw [zds,if_neg hb]
theorem zft (n low : Int) (L : List Ent) (r : Int) (hl : L.length < 1466015503701) : Ev (fun k => zau.f k n low L r) (zbA L r) := by
 have := zfu L r hl L.length 0 [] (by omega) (by simp)
 rwa [List.drop_zero,List.nil_append] at this
theorem zew (L : List Ent) (r : Int) : (zbA L r).length ≤ L.length := List.length_filter_le _ _
def ze7 (R : List Ent) (k : Nat) (s : ByteArray) : Option Value := if (R.take k).any (fun x => decide (x.f0 = s)) = true then some (.bool true) else none
theorem zgI (R : List Ent) (s : ByteArray) : none = ze7 R 0 s := by simp [ze7]
theorem zgH (R : List Ent) (k : Nat) (x : Ent) (hx : R[k]? = some x) (s : ByteArray) : (if s = x.f0 then some (Value.bool true) else ze7 R k s) = ze7 R (k + 1) s := by
 unfold ze7
 rw [List.take_add_one,hx,List.any_append]
 by_cases h : s = x.f0
 ·subst h;simp
 ·have : ¬ x.f0 = s := fun e => h e.symm
  simp [h,this]
theorem zgn (R : List Ent) (s : ByteArray) : (ze7 R R.length s).getD (.bool false) = .bool (R.any fun x => decide (x.f0 = s)) := by
 unfold ze7
 rw [List.take_length]
 cases h : R.any fun x => decide (x.f0 = s) <;> simp
def zcg (R : List Ent) (ps : List ByteArray) : List ByteArray := ps.filter fun p => !(R.any fun x => decide (x.f0 = p))
theorem zhq (L : List Ent) (low r : Int) (ps : List ByteArray) (h : ¬ wrap64 (r - 1) ≤ low) : zcg (zbA L (wrap64 (r - 1))) ps = zbn L low r ps := by
 unfold zcg zbn zbA
 rw [if_neg h]
 congr 1
 funext p
 rw [List.any_filter]
 congr 2
 funext x
 simp
theorem zX.infoS : (Try.prog.info? 9).map (fun i => (i.zero,i.size,i.bytes)) = some (some (.string ⟨#[]⟩),1,16) := by kernel_rfl
theorem zX.zeroB : ∀ w : World,(zeroValue 4).run Try.prog w = .ok (.bool false) w := fun _ => by kernel_rfl
set_option maxHeartbeats 8000000 in
set_option maxRecDepth 100000 in
theorem zX.walk0 (a0_0 : Int) (a0_1 : Int) (A0_2 : Option Addr) (n0_2 c0_2 : Nat) (a1_0 : Int) (a1_1 : Int) (A1_2 : Option Addr) (n1_2 c1_2 : Nat) (A1_3 : Option Addr) (n1_3 c1_3 : Nat) (a1_4 : Int) (a1_5 : Int) (w : World) (h : wrap64 (a1_1 - 1) ≤ a0_1) :
  Calls Try.prog 18 #[.agg #[.int .i64 a0_0,.int .i64 a0_1,.slice A0_2 n0_2 c0_2],.agg #[.int .i64 a1_0,.int .i64 a1_1,.slice A1_2 n1_2 c1_2,.slice A1_3 n1_3 c1_3,.int .i64 a1_4,.int .i64 a1_5]] w fun e w' => e = .returned (.slice none 0 0) ∧ Below w.heap.size w w' := by
 have hd : decide (wrap64 (a1_1 - 1) ≤ a0_1) = true := decide_eq_true h
 clear h
 go_enter Try.func18,Try.ntmps18
 go_wp2_with fail
 go_ret
 exact ⟨rfl,zq (zq (Below.refl _ _) _) _⟩
set_option maxHeartbeats 8000000 in
set_option maxRecDepth 100000 in
theorem zX.walk (a0_0 : Int) (a0_1 : Int) (A0_2 : Option Addr) (c0_2 : Nat) (l0_2 : List (S36)) (a1_0 : Int) (a1_1 : Int) (A1_2 : Option Addr) (n1_2 c1_2 : Nat) (A1_3 : Option Addr) (c1_3 : Nat) (l1_3 : List ByteArray) (a1_4 : Int) (a1_5 : Int) (w : World) (hr0_2 : Kd.C k36 w A0_2 l0_2.length l0_2) (hc0_2 : l0_2.length ≤ c0_2) (hr1_3 : Kd.C Kd.string w A1_3 l1_3.length l1_3) (hc1_3 : l1_3.length ≤ c1_3)
  (h : ¬ wrap64 (a1_1 - 1) ≤ a0_1) (hl : l0_2.length < 1466015503701) (hp : l1_3.length ≤ 8796093022208) :
  Calls Try.prog 18 #[.agg #[.int .i64 a0_0,.int .i64 a0_1,.slice A0_2 l0_2.length c0_2],.agg #[.int .i64 a1_0,.int .i64 a1_1,.slice A1_2 n1_2 c1_2,.slice A1_3 l1_3.length c1_3,.int .i64 a1_4,.int .i64 a1_5]] w fun e w' => ∃ v0_ : Value,e = .returned (v0_) ∧ Kd.R Kd.string 9 w' w.heap.size (fun _ => True) v0_ (zcg (zbA l0_2 (wrap64 (a1_1 - 1))) l1_3) ∧ Below w.heap.size w w' := by
 obtain ⟨kr,hkr⟩ := (zft a0_0 a0_1 l0_2 (wrap64 (a1_1 - 1)) hl).rounds
 have HK := zb.mk hkr
 have HRL : zb ((zbA l0_2 (wrap64 (a1_1 - 1))).length < 1466015503701) := ⟨Nat.lt_of_le_of_lt (zew _ _) hl⟩
 have HR := zb.mk hr0_2
 have HC := zb.mk hc0_2
 have HRP := zb.mk hr1_3
 have HCP := zb.mk hc1_3
 have HP := zb.mk hp
 have hd : decide (wrap64 (a1_1 - 1) ≤ a0_1) = false := decide_eq_false h
 clear hkr hr0_2 hc0_2 hr1_3 hc1_3 h hl hp
 have HF : zb (Kd.F k36 w (fun k_ => k_ < w.heap.size) A0_2 l0_2.length l0_2) := ⟨Kd.C_F zhn HR.out⟩
 generalize zbA l0_2 (wrap64 (a1_1 - 1)) = R at *
 have hmm := @run_makeMap Try.prog
 go_enter Try.func18,Try.ntmps18
 go_wp2_with (first
  | ((with_reducible refine zC (N := 2) rfl ?_);refine zw ?hg (N := 2) ?hd (cs := #[.int .i64 a0_0,.int .i64 a0_1,.slice A0_2 l0_2.length c0_2]) (t := 24) ?hr ?_;(case hd => rfl);(case hg => rfl);(case hr => first | (go_simp;done) | (go_simp;rfl));intro g2 hg w2 hbox hb;have B2 := zb.mk hbox;have HB2 := zb.mk hb;clear hb hbox hg)
  | ((with_reducible refine zC (N := 3) rfl ?_);refine zw ?hg (N := 3) ?hd (cs := #[.int .i64 a1_0,.int .i64 a1_1,.slice A1_2 n1_2 c1_2,.slice A1_3 l1_3.length c1_3,.int .i64 a1_4,.int .i64 a1_5]) (t := 30) ?hr ?_;(case hd => rfl);(case hg => rfl);(case hr => first | (go_simp;done) | (go_simp;rfl));intro g3 hg w3 hbox hb;have B3 := zb.mk hbox;have C2 := zb.mk (zl B2.out hb);have HB3 := zb.mk (zh HB2.out hb);clear hb hbox hg B2;have x2_0 := (za C2.out 0).trans rfl;have x2_1 := (za C2.out 1).trans rfl;have x2_2 := (za C2.out 2).trans rfl;have x3_1 := (za B3.out 1).trans rfl;have y2_0 := fun o => (za (ze C2.out o) 0).trans rfl;have y2_1 := fun o => (za (ze C2.out o) 1).trans rfl;have y2_2 := fun o => (za (ze C2.out o) 2).trans rfl;have y3_1 := fun o => (za (ze B3.out o) 1).trans rfl)
  | (go_at_call 15;(with_reducible refine (zau.calls kr a0_0 a0_1 (fun k_ => k_ < w.heap.size) A0_2 c0_2 l0_2 _ R _ (Kd.V_mk HC.out (Kd.F_below HF.out (zq HB3.out _))) HK.out).mono ?_);rintro e w5 ⟨v22,rfl,hN,hb⟩;obtain ⟨A22,c22,rfl⟩ := Kd.N_slice hN;have HV := zb.mk (Kd.N_F hN);have HB5 := zb.mk (zh (zq HB3.out _) hb);have C3 := zb.mk (zl (ze B3.out _) hb);have HM := zb.mk (zd5 (zhr w3) hb);have HG0 : zb (w.heap.size ≤ w3.heap.size) := ⟨zn HB3.out⟩;have HLT : zb (w3.heap.size < w5.heap.size) := ⟨zdN HM.out⟩;clear hb hN))
 clear hmm x2_0 x2_1 x2_2 x3_1 y2_0 y2_1 y2_2 y3_1 hd
 have HG := zb.mk (World.grownBy.refl w5 (some w3.heap.size))
 have HM0 := zb.mk (zgq HM.out (zgI R))
 go_loopw [24] (fun v24 wr => ∃ k : Nat,v24 = .int .i64 k ∧ k ≤ R.length ∧ zb (zch wr w3.heap.size (ze7 R k)) ∧ zb (w5.grownBy wr (some w3.heap.size))) (fun v24 _ => R.length - (intOf v24).toNat)
 case atStart => exact ⟨0,rfl,Nat.zero_le _,HM0,HG⟩
 case round =>
  clear HG HM0 HM
  obtain ⟨k,rfl,hk,HM,HG⟩ := hrel
  have HRI := HRL.out
  have HV1 : zb (Kd.F k36 wr _ A22 R.length R) := ⟨Kd.F_grown HV.out HG.out (fun k_ hk_ he => by injection he with he;subst he;rcases hk_ with hk_ | hk_ <;> have := HG0.out <;> (try simp at hk_) <;> omega)⟩
  by_cases hlt : k < R.length
  ·obtain ⟨ad,A3,c3,A4,c4,rfl,hx0,hx1,hx2,hx3,hx4,hx5,hx6,_,_,_,_⟩ := zaK (Kd.F_now HV1.out) (k : Int) (by omega) (by omega)
   rw [Int.toNat_natCast] at hx0 hx1 hx2 hx3 hx4 hx5 hx6
   have hb : decide (k < R.length) = true := decide_eq_true hlt
   have HX : zb (R[k]? = some (zg R (k : Int))) := ⟨by rw [zg,Int.toNat_natCast,List.getD_eq_getElem?_getD,List.getElem?_eq_getElem hlt];rfl⟩
   clear HV1
   generalize zg R (k : Int) = s at *
   obtain ⟨s0,⟨s1,s2,s3,s4,⟨s5,s6⟩⟩⟩ := s
   go_wp2_with (at_mapUpdate;refine zfM _ rfl _ _ _ 57 rfl (zf1 HM.out _) Try.underlying57 Try.underlying9 s0 (.bool true) rfl rfl rfl ?_;intro w7 hm7 hg7;have HM7 := zb.mk (zgq hm7 (zgH R k _ HX.out));have HG7 := zb.mk (HG.out.trans ((World.grownBy_alloc wr _ _).trans hg7));clear hm7 hg7)
   go_roundw
   case rel => exact ⟨k + 1,by go_num,by omega,HM7,HG7⟩
   case measure => simp [intOf];omega
  ·obtain rfl : k = R.length := by omega
   have hb : decide (R.length < R.length) = false := decide_eq_false hlt
   have HNE : zb (some g3 ≠ some w3.heap.size) := ⟨fun he => by injection he with he;have := zax B3.out;omega⟩
   have B3r := zb.mk (za0 C3.out HG.out HNE.out)
   have HBr : zb (Below w.heap.size w wr) := ⟨zbY HB5.out (some w3.heap.size) (zn HB5.out) HG.out (fun k_ e_ => by injection e_ with e_;subst e_;exact HG0.out)⟩
   have z3_3 := (za B3r.out 3).trans rfl
   have hm3 := HRP.out.2.1
   clear HV1
   go_wp2_with fail
   clear z3_3
   go_loopw [8,35] (fun v8 v35 wq => ∃ j : Nat,v35 = .int .i64 j ∧ j ≤ l1_3.length ∧ zb (Kd.R Kd.string 9 wq w.heap.size (fun k_ => k_ ≠ w3.heap.size) v8 (zcg R (l1_3.take j))) ∧ zb (zch wq w3.heap.size (ze7 R R.length)) ∧ zb (Below w.heap.size w wq)) (fun _ v35 _ => l1_3.length - (intOf v35).toNat)
   case atStart => exact ⟨0,rfl,Nat.zero_le _,⟨Kd.R_nil _ _ _ _ _⟩,HM,HBr⟩
   case round =>
    clear HM HBr B3r HG
    obtain ⟨j,rfl,hj,HO,HM,HB⟩ := hrel
    by_cases hlt2 : j < l1_3.length
    ·obtain ⟨ad,rfl,hcell⟩ := Kd.at_string HRP.out (j : Int) (by omega) (by omega)
     rw [Int.toNat_natCast] at hcell
     replace hcell := (HB.out.cell (World.block_lt_of_cell? w _ hcell)).trans hcell
     have hb2 : decide (j < l1_3.length) = true := decide_eq_true hlt2
     have HT : zb (l1_3.take (j + 1) = l1_3.take j ++ [zD ByteArray.empty l1_3 (j : Int)]) := ⟨by
      rw [zD,Int.toNat_natCast,List.getD_eq_getElem?_getD,List.getElem?_eq_getElem hlt2,List.take_add_one,List.getElem?_eq_getElem hlt2];rfl⟩
     generalize zD ByteArray.empty l1_3 (j : Int) = s at *
     rcases hq : R.any (fun x => decide (x.f0 = s)) with _ | _
     ·have HQ := zb.mk hq
      clear hq
      have HLN : zb (((zcg R (l1_3.take j)).length + 1) * 16 ≤ 140737488355328) := ⟨by
       have h1 : (zcg R (l1_3.take j)).length ≤ (l1_3.take j).length := List.length_filter_le _ _
       rw [List.length_take] at h1
       have := HP.out
       omega⟩
      have HL : zb (zcg R (l1_3.take (j + 1)) = zcg R (l1_3.take j) ++ [s]) := ⟨by
       rw [HT.out,zcg,List.filter_append]
       show _ ++ List.filter (fun p => !R.any fun x => decide (x.f0 = p)) [s] = _
       rw [List.filter_cons,HQ.out];rfl⟩
      go_wp2_with (first
       | (at_lookup;refine zdd _ rfl _ _ 57 rfl HM.out Try.underlying57 Try.underlying9 (zX.zeroB _) s rfl rfl ?_;rw [zgn,HQ.out])
       | (at_builtin;refine Kd.R_append Kd.string (w0 := w) w.heap.size rfl (.tmp 43) (.tmp 45) 26 9 (.string ⟨#[]⟩) 16 rfl Try.underlying26 zX.infoS rfl (by decide) (by omega) _ (zcg R (l1_3.take j)) s [.string s] (fun k_ => k_ ≠ w3.heap.size) (fun _ => False) rfl rfl ?aP (fun _ hk => hk.elim) ?aF ?aO ?aB ?aS ?aL ?_;(case aP => exact rfl);(case aF => exact (fun k_ hk he => by subst he;have := zdN HM.out;omega));(case aO => exact HO.out);(case aB => exact HB.out);(case aS => exact (zn HB.out));(case aL => exact HLN.out);intro v3 w8 ho hb hg hat;have HO3 := zb.mk ho;have HB3' := zb.mk hb;have HM3 := zb.mk (zf2 HM.out hg (Kd.R_away HO.out (fun _ hk => hk)));clear ho hb hg hat))
      go_roundw
      case rel => exact ⟨j + 1,by go_num,by omega,⟨by rw [HL.out];exact HO3.out⟩,HM3,HB3'⟩
      case measure => simp [intOf];omega
     ·have HQ := zb.mk hq
      clear hq
      have HL : zb (zcg R (l1_3.take (j + 1)) = zcg R (l1_3.take j)) := ⟨by
       rw [HT.out,zcg,List.filter_append]
       show _ ++ List.filter (fun p => !R.any fun x => decide (x.f0 = p)) [s] = _
       rw [List.filter_cons,HQ.out];simp;rfl⟩
      go_wp2_with (at_lookup;refine zdd _ rfl _ _ 57 rfl HM.out Try.underlying57 Try.underlying9 (zX.zeroB _) s rfl rfl ?_;rw [zgn,HQ.out])
      go_roundw
      case rel => exact ⟨j + 1,by go_num,by omega,⟨by rw [HL.out];exact HO.out⟩,HM,HB⟩
      case measure => simp [intOf];omega
    ·obtain rfl : j = l1_3.length := by omega
     have hb2 : decide (l1_3.length < l1_3.length) = false := decide_eq_false hlt2
     go_wp2_with fail
     go_ret
     exact ⟨_,rfl,by have h_ := Kd.R_mono HO.out (fun _ _ => trivial);rwa [List.take_length] at h_,HB.out⟩
def zX.f (a0_0 : Int) (a0_1 : Int) (l0_2 : List (S36)) (a1_0 : Int) (a1_1 : Int) (l1_2 : List (S72)) (l1_3 : List ByteArray) (a1_4 : Int) (a1_5 : Int) : Option (List ByteArray) := if l0_2.length < 1466015503701 ∧ l1_3.length ≤ 8796093022208 then some (zbn l0_2 a0_1 a1_1 l1_3) else none
theorem zX.calls (a0_0 : Int) (a0_1 : Int) (A0_2 : Option Addr) (c0_2 : Nat) (l0_2 : List (S36)) (a1_0 : Int) (a1_1 : Int) (A1_2 : Option Addr) (c1_2 : Nat) (l1_2 : List (S72)) (A1_3 : Option Addr) (c1_3 : Nat) (l1_3 : List ByteArray) (a1_4 : Int) (a1_5 : Int) (r : List ByteArray) (w : World) (hr0_2 : Kd.C k36 w A0_2 l0_2.length l0_2) (hc0_2 : l0_2.length ≤ c0_2) (hr1_2 : Kd.C k72 w A1_2 l1_2.length l1_2) (hc1_2 : l1_2.length ≤ c1_2) (hr1_3 : Kd.C Kd.string w A1_3 l1_3.length l1_3) (hc1_3 : l1_3.length ≤ c1_3) (h : zX.f a0_0 a0_1 l0_2 a1_0 a1_1 l1_2 l1_3 a1_4 a1_5 = some r) :
  Calls Try.prog 18 #[.agg #[.int .i64 a0_0,.int .i64 a0_1,.slice A0_2 l0_2.length c0_2],.agg #[.int .i64 a1_0,.int .i64 a1_1,.slice A1_2 l1_2.length c1_2,.slice A1_3 l1_3.length c1_3,.int .i64 a1_4,.int .i64 a1_5]] w fun e w' => ∃ v0_ : Value,e = .returned (v0_) ∧ Kd.R Kd.string 9 w' w.heap.size (fun _ => True) v0_ r ∧ Below w.heap.size w w' := by
 unfold zX.f at h
 split at h
 ·rename_i hh
  obtain rfl := Option.some.inj h
  by_cases hw : wrap64 (a1_1 - 1) ≤ a0_1
  ·refine (zX.walk0 a0_0 a0_1 A0_2 _ c0_2 a1_0 a1_1 A1_2 _ c1_2 A1_3 _ c1_3 a1_4 a1_5 w hw).mono ?_
   rintro e w' ⟨rfl,hb⟩
   rw [zbn,if_pos hw]
   exact ⟨_,rfl,Kd.R_nil _ _ _ _ _,hb⟩
  ·rw [← zhq _ _ _ _ hw]
   exact zX.walk a0_0 a0_1 A0_2 c0_2 l0_2 a1_0 a1_1 A1_2 _ c1_2 A1_3 c1_3 l1_3 a1_4 a1_5 w hr0_2 hc0_2 hr1_3 hc1_3 hw hh.1 hh.2
 ·cases h
end Go.Proofs.Ytklhjlaofkngcaa.Px