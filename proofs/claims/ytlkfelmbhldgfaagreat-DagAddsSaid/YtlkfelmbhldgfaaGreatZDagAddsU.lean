/- Part 21 of 36 of the proof of the law DagAdds: what is proved is the statement at the end of the last part; its conditions are those of the given row. -/
import Derived.Test.YtlkfelmbhldgfaaGreatZDagAddsR
import Derived.Test.YtlkfelmbhldgfaaGreatZDagAddsT
namespace Go.Proofs.YtlkfelmbhldgfaaGreat.Px
open Go.RowKit Go.Proofs.YtlkfelmbhldgfaaGreatW.PrintWords Go.Proofs.YtlkfelmbhldgfaaGreatW.PrintLast Go.Proofs.YtlkfelmbhldgfaaGreatW.PrintMore
attribute [local go_sem] zA zC zH zI zv zw zB zD
set_option linter.unusedVariables false
set_option linter.unusedSimpArgs false
def zcr (L : List Ent) (r : Int) : List Ent := L.filter fun x => decide (x.f1.f1 = r)
theorem zfa (x : Ent) (L : List Ent) (r : Int) : zcr (x :: L) r = if x.f1.f1 = r then x :: zcr L r else zcr L r := by
 unfold zcr;rw [List.filter_cons];simp
theorem rdE_at (L : List Ent) (j : Nat) (h : j < L.length) : zd L (j : Int) = L[j] := by
 rw [zd,Int.toNat_natCast,List.getD_eq_getElem?_getD,List.getElem?_eq_getElem h];rfl
theorem zhq (L : List Ent) (r : Int) (hl : L.length < 1466015503701) (d : Nat) : ∀ (j : Nat) (acc : List Ent),j + d = L.length → acc.length ≤ j → Ev (fun k => za8.l0 k r acc L (L.length : Int) (j : Int)) (acc ++ zcr (L.drop j) r) := by
 induction d with
 | zero =>
  intro j acc h ha
  refine Ev.step (fun k => by rw [za8.l0]) ?_
  rw [List.drop_of_length_le (by omega)]
  exact zT (by omega) (zac (Ev.now _) (by simp [zcr]))
 | succ d ih =>
  intro j acc h ha
  refine Ev.step (fun k => by rw [za8.l0]) ?_
  have hlt : j < L.length := by omega
  have e2 : wrap64 ((j : Int) + 1) = ((j + 1 : Nat) : Int) := by rw [zaf (by omega) (by omega)];omega
  rw [rdE_at L j hlt,e2,List.drop_eq_getElem_cons hlt]
  refine zF (by omega) (zF (by omega) (zF (by omega) ?_))
  by_cases hb : L[j].f1.f1 = r
  ·refine zF hb (zF (by omega) (zac (ih (j + 1) (acc ++ [L[j]]) (by omega) (by rw [List.length_append];simp;omega)) ?_))
   rw [zfa,if_pos hb,List.append_assoc];rfl
  ·refine zT hb (zac (ih (j + 1) acc (by omega) (by omega)) ?_)
   rw [zfa,if_neg hb]
theorem zhp (n low : Int) (L : List Ent) (r : Int) (hl : L.length < 1466015503701) : Ev (fun k => za8.f k n low L r) (zcr L r) := by
 have := zhq L r hl L.length 0 [] (by omega) (by simp)
 rwa [List.drop_zero,List.nil_append] at this
theorem zgi (L : List Ent) (r : Int) : (zcr L r).length ≤ L.length := List.length_filter_le _ _
def zgV (R : List Ent) (k : Nat) (s : ByteArray) : Option Value := if (R.take k).any (fun x => decide (x.f0 = s)) = true then some (.bool true) else none
theorem hadF_zero (R : List Ent) (s : ByteArray) : none = zgV R 0 s := by simp [zgV]
theorem ziW (R : List Ent) (k : Nat) (x : Ent) (hx : R[k]? = some x) (s : ByteArray) : (if s = x.f0 then some (Value.bool true) else zgV R k s) = zgV R (k + 1) s := by
 unfold zgV
 rw [List.take_add_one,hx,List.any_append]
 by_cases h : s = x.f0
 ·subst h;simp
 ·have : ¬ x.f0 = s := fun e => h e.symm
  simp [h,this]
theorem ziC (R : List Ent) (s : ByteArray) : (zgV R R.length s).getD (.bool false) = .bool (R.any fun x => decide (x.f0 = s)) := by
 unfold zgV
 rw [List.take_length]
 cases h : R.any fun x => decide (x.f0 = s) <;> simp
def zdk (R : List Ent) (ps : List ByteArray) : List ByteArray := ps.filter fun p => !(R.any fun x => decide (x.f0 = p))
theorem lostL_eq (L : List Ent) (low r : Int) (ps : List ByteArray) (h : ¬ wrap64 (r - 1) ≤ low) : zdk (zcr L (wrap64 (r - 1))) ps = zbQ L low r ps := by
 unfold zdk zbQ zcr
 rw [if_neg h]
 congr 1
 funext p
 rw [List.any_filter]
 congr 2
 funext x
 simp
theorem zap.infoS : (Tryz.prog.info? 9).map (fun i => (i.zero,i.size,i.bytes)) = some (some (.string ⟨#[]⟩),1,16) := by kernel_rfl
theorem zap.zeroB : ∀ w : World,(zeroValue 4).run Tryz.prog w = .ok (.bool false) w := fun _ => by kernel_rfl
set_option maxHeartbeats 8000000 in
set_option maxRecDepth 100000 in
theorem zap.walk0 (a0_0 : Int) (a0_1 : Int) (A0_2 : Option Addr) (n0_2 c0_2 : Nat) (a1_0 : Int) (a1_1 : Int) (A1_2 : Option Addr) (n1_2 c1_2 : Nat) (A1_3 : Option Addr) (n1_3 c1_3 : Nat) (a1_4 : Int) (a1_5 : Int) (w : World) (h : wrap64 (a1_1 - 1) ≤ a0_1) :
  Calls Tryz.prog 15 #[.agg #[.int .i64 a0_0,.int .i64 a0_1,.slice A0_2 n0_2 c0_2],.agg #[.int .i64 a1_0,.int .i64 a1_1,.slice A1_2 n1_2 c1_2,.slice A1_3 n1_3 c1_3,.int .i64 a1_4,.int .i64 a1_5]] w fun e w' => e = .returned (.slice none 0 0) ∧ Below w.heap.size w w' := by
 have hd : decide (wrap64 (a1_1 - 1) ≤ a0_1) = true := decide_eq_true h
 clear h
 go_enter Tryz.func15,Tryz.ntmps15
 go_wp2_with fail
 go_ret
 exact ⟨rfl,zk (zk (Below.refl _ _) _) _⟩
set_option maxHeartbeats 8000000 in
set_option maxRecDepth 100000 in
theorem zap.walk (a0_0 : Int) (a0_1 : Int) (A0_2 : Option Addr) (c0_2 : Nat) (l0_2 : List (S42)) (a1_0 : Int) (a1_1 : Int) (A1_2 : Option Addr) (n1_2 c1_2 : Nat) (A1_3 : Option Addr) (c1_3 : Nat) (l1_3 : List ByteArray) (a1_4 : Int) (a1_5 : Int) (w : World) (hr0_2 : Kd.C k42 w A0_2 l0_2.length l0_2) (hc0_2 : l0_2.length ≤ c0_2) (hr1_3 : Kd.C Kd.string w A1_3 l1_3.length l1_3) (hc1_3 : l1_3.length ≤ c1_3)
  (h : ¬ wrap64 (a1_1 - 1) ≤ a0_1) (hl : l0_2.length < 1466015503701) (hp : l1_3.length ≤ 8796093022208) :
  Calls Tryz.prog 15 #[.agg #[.int .i64 a0_0,.int .i64 a0_1,.slice A0_2 l0_2.length c0_2],.agg #[.int .i64 a1_0,.int .i64 a1_1,.slice A1_2 n1_2 c1_2,.slice A1_3 l1_3.length c1_3,.int .i64 a1_4,.int .i64 a1_5]] w fun e w' => ∃ v0_ : Value,e = .returned (v0_) ∧ Kd.R Kd.string 9 w' w.heap.size (fun _ => True) v0_ (zdk (zcr l0_2 (wrap64 (a1_1 - 1))) l1_3) ∧ Below w.heap.size w w' := by
 obtain ⟨kr,hkr⟩ := (zhp a0_0 a0_1 l0_2 (wrap64 (a1_1 - 1)) hl).rounds
 have HK := za.mk hkr
 have HRL : za ((zcr l0_2 (wrap64 (a1_1 - 1))).length < 1466015503701) := ⟨Nat.lt_of_le_of_lt (zgi _ _) hl⟩
 have HR := za.mk hr0_2
 have HC := za.mk hc0_2
 have HRP := za.mk hr1_3
 have HCP := za.mk hc1_3
 have HP := za.mk hp
 have hd : decide (wrap64 (a1_1 - 1) ≤ a0_1) = false := decide_eq_false h
 clear hkr hr0_2 hc0_2 hr1_3 hc1_3 h hl hp
 have HF : za (Kd.F k42 w (fun k_ => k_ < w.heap.size) A0_2 l0_2.length l0_2) := ⟨Kd.C_F zbm HR.out⟩
 generalize zcr l0_2 (wrap64 (a1_1 - 1)) = R at *
 have hmm := @run_makeMap Tryz.prog
 go_enter Tryz.func15,Tryz.ntmps15
 go_wp2_with (first
  | ((with_reducible refine zn (N := 2) rfl ?_);refine zl rfl (N := 2) rfl (cs := #[.int .i64 a0_0,.int .i64 a0_1,.slice A0_2 l0_2.length c0_2]) (t := 24) hrq ?_;intro g2 hg w2 hbox hb;have B2 := za.mk hbox;have HB2 := za.mk hb;clear hb hbox hg)
  | ((with_reducible refine zn (N := 3) rfl ?_);refine zl rfl (N := 3) rfl (cs := #[.int .i64 a1_0,.int .i64 a1_1,.slice A1_2 n1_2 c1_2,.slice A1_3 l1_3.length c1_3,.int .i64 a1_4,.int .i64 a1_5]) (t := 30) hrq ?_;intro g3 hg w3 hbox hb;have B3 := za.mk hbox;have C2 := za.mk (zm B2.out hb);have HB3 := za.mk (ze HB2.out hb);clear hb hbox hg B2;have x2_0 := (zb C2.out 0).trans rfl;have x2_1 := (zb C2.out 1).trans rfl;have x2_2 := (zb C2.out 2).trans rfl;have x3_1 := (zb B3.out 1).trans rfl;have y2_0 := fun o => (zb (zf C2.out o) 0).trans rfl;have y2_1 := fun o => (zb (zf C2.out o) 1).trans rfl;have y2_2 := fun o => (zb (zf C2.out o) 2).trans rfl;have y3_1 := fun o => (zb (zf B3.out o) 1).trans rfl)
  | (go_at_call 35;(with_reducible refine (za8.calls kr a0_0 a0_1 (fun k_ => k_ < w.heap.size) A0_2 c0_2 l0_2 _ R _ (Kd.V_mk HC.out (Kd.F_below HF.out (zk HB3.out _))) HK.out).mono ?_);rintro e w5 ⟨v22,rfl,hN,hb⟩;obtain ⟨A22,c22,rfl⟩ := Kd.N_slice hN;have HV := za.mk (Kd.N_F hN);have HB5 := za.mk (ze (zk HB3.out _) hb);have C3 := za.mk (zm (zf B3.out _) hb);have HM := za.mk (zfO (mapF_new w3) hb);have HG0 : za (w.heap.size ≤ w3.heap.size) := ⟨zg HB3.out⟩;have HLT : za (w3.heap.size < w5.heap.size) := ⟨zfx HM.out⟩;clear hb hN))
 clear hmm x2_0 x2_1 x2_2 x3_1 y2_0 y2_1 y2_2 y3_1 hd
 have HG := za.mk (World.grownBy.refl w5 (some w3.heap.size))
 have HM0 := za.mk (ziG HM.out (hadF_zero R))
 go_loopw [24] (fun v24 wr => ∃ k : Nat,v24 = .int .i64 k ∧ k ≤ R.length ∧ za (zdl wr w3.heap.size (zgV R k)) ∧ za (w5.grownBy wr (some w3.heap.size))) (fun v24 _ => R.length - (intOf v24).toNat)
 case atStart => exact ⟨0,rfl,Nat.zero_le _,HM0,HG⟩
 case round =>
  clear HG HM0 HM
  obtain ⟨k,rfl,hk,HM,HG⟩ := hrel
  have HRI := HRL.out
  have HV1 : za (Kd.F k42 wr _ A22 R.length R) := ⟨Kd.F_grown HV.out HG.out (fun k_ hk_ he => by injection he with he;subst he;rcases hk_ with hk_ | hk_ <;> have := HG0.out <;> (try simp at hk_) <;> omega)⟩
  by_cases hlt : k < R.length
  ·obtain ⟨ad,A3,c3,A4,c4,rfl,hx0,hx1,hx2,hx3,hx4,hx5,hx6,_,_,_,_⟩ := zaG (Kd.F_now HV1.out) (k : Int) (by omega) (by omega)
   rw [Int.toNat_natCast] at hx0 hx1 hx2 hx3 hx4 hx5 hx6
   have hb : decide (k < R.length) = true := decide_eq_true hlt
   have HX : za (R[k]? = some (zd R (k : Int))) := ⟨by rw [zd,Int.toNat_natCast,List.getD_eq_getElem?_getD,List.getElem?_eq_getElem hlt];rfl⟩
   clear HV1
   generalize zd R (k : Int) = s at *
   obtain ⟨s0,⟨s1,s2,s3,s4,⟨s5,s6⟩⟩⟩ := s
   go_wp2_with (at_mapUpdate;refine zhP _ rfl _ _ _ 61 rfl (zh2 HM.out _) Tryz.underlying61 Tryz.underlying9 s0 (.bool true) rfl rfl rfl ?_;intro w7 hm7 hg7;have HM7 := za.mk (ziG hm7 (ziW R k _ HX.out));have HG7 := za.mk (HG.out.trans ((World.grownBy_alloc wr _ _).trans hg7));clear hm7 hg7)
   go_roundw
   case rel => exact ⟨k + 1,by go_num,by omega,HM7,HG7⟩
   case measure => simp [intOf];omega
  ·obtain rfl : k = R.length := by omega
   have hb : decide (R.length < R.length) = false := decide_eq_false hlt
   have HNE : za (some g3 ≠ some w3.heap.size) := ⟨fun he => by injection he with he;have := zaJ B3.out;omega⟩
   have B3r := za.mk (zaE C3.out HG.out HNE.out)
   have HBr : za (Below w.heap.size w wr) := ⟨zcX HB5.out (some w3.heap.size) (zg HB5.out) HG.out (fun k_ e_ => by injection e_ with e_;subst e_;exact HG0.out)⟩
   have z3_3 := (zb B3r.out 3).trans rfl
   have hm3 := HRP.out.2.1
   clear HV1
   go_wp2_with fail
   clear z3_3
   go_loopw [8,35] (fun v8 v35 wq => ∃ j : Nat,v35 = .int .i64 j ∧ j ≤ l1_3.length ∧ za (Kd.R Kd.string 9 wq w.heap.size (fun k_ => k_ ≠ w3.heap.size) v8 (zdk R (l1_3.take j))) ∧ za (zdl wq w3.heap.size (zgV R R.length)) ∧ za (Below w.heap.size w wq)) (fun _ v35 _ => l1_3.length - (intOf v35).toNat)
   case atStart => exact ⟨0,rfl,Nat.zero_le _,⟨Kd.R_nil _ _ _ _ _⟩,HM,HBr⟩
   case round =>
    clear HM HBr B3r HG
    obtain ⟨j,rfl,hj,HO,HM,HB⟩ := hrel
    by_cases hlt2 : j < l1_3.length
    ·obtain ⟨ad,rfl,hcell⟩ := Kd.at_string HRP.out (j : Int) (by omega) (by omega)
     rw [Int.toNat_natCast] at hcell
     replace hcell := (HB.out.cell (World.block_lt_of_cell? w _ hcell)).trans hcell
     have hb2 : decide (j < l1_3.length) = true := decide_eq_true hlt2
     have HT : za (l1_3.take (j + 1) = l1_3.take j ++ [zz ByteArray.empty l1_3 (j : Int)]) := ⟨by
      rw [zz,Int.toNat_natCast,List.getD_eq_getElem?_getD,List.getElem?_eq_getElem hlt2,List.take_add_one,List.getElem?_eq_getElem hlt2];rfl⟩
     generalize zz ByteArray.empty l1_3 (j : Int) = s at *
     rcases hq : R.any (fun x => decide (x.f0 = s)) with _ | _
     ·have HQ := za.mk hq
      clear hq
      have HLN : za (((zdk R (l1_3.take j)).length + 1) * 16 ≤ 140737488355328) := ⟨by
       have h1 : (zdk R (l1_3.take j)).length ≤ (l1_3.take j).length := List.length_filter_le _ _
       rw [List.length_take] at h1
       have := HP.out
       omega⟩
      have HL : za (zdk R (l1_3.take (j + 1)) = zdk R (l1_3.take j) ++ [s]) := ⟨by
       rw [HT.out,zdk,List.filter_append]
       show _ ++ List.filter (fun p => !R.any fun x => decide (x.f0 = p)) [s] = _
       rw [List.filter_cons,HQ.out];rfl⟩
      go_wp2_with (first
       | (at_lookup;refine zeM _ rfl _ _ 61 rfl HM.out Tryz.underlying61 Tryz.underlying9 (zap.zeroB _) s rfl rfl ?_;rw [ziC,HQ.out])
       | (at_builtin;refine Kd.R_append Kd.string (w0 := w) w.heap.size rfl (.tmp 43) (.tmp 45) 26 9 (.string ⟨#[]⟩) 16 rfl Tryz.underlying26 zap.infoS rfl (by decide) (by omega) _ (zdk R (l1_3.take j)) s [.string s] (fun k_ => k_ ≠ w3.heap.size) (fun _ => False) rfl rfl ?aP (fun _ hk => hk.elim) ?aF ?aO ?aB ?aS ?aL ?_;(case aP => exact rfl);(case aF => exact (fun k_ hk he => by subst he;have := zfx HM.out;omega));(case aO => exact HO.out);(case aB => exact HB.out);(case aS => exact (zg HB.out));(case aL => exact HLN.out);intro v3 w8 ho hb hg hat;have HO3 := za.mk ho;have HB3' := za.mk hb;have HM3 := za.mk (zh3 HM.out hg (Kd.R_away HO.out (fun _ hk => hk)));clear ho hb hg hat))
      go_roundw
      case rel => exact ⟨j + 1,by go_num,by omega,⟨by rw [HL.out];exact HO3.out⟩,HM3,HB3'⟩
      case measure => simp [intOf];omega
     ·have HQ := za.mk hq
      clear hq
      have HL : za (zdk R (l1_3.take (j + 1)) = zdk R (l1_3.take j)) := ⟨by
       rw [HT.out,zdk,List.filter_append]
       show _ ++ List.filter (fun p => !R.any fun x => decide (x.f0 = p)) [s] = _
       rw [List.filter_cons,HQ.out];simp;rfl⟩
      go_wp2_with (at_lookup;refine zeM _ rfl _ _ 61 rfl HM.out Tryz.underlying61 Tryz.underlying9 (zap.zeroB _) s rfl rfl ?_;rw [ziC,HQ.out])
      go_roundw
      case rel => exact ⟨j + 1,by go_num,by omega,⟨by rw [HL.out];exact HO.out⟩,HM,HB⟩
      case measure => simp [intOf];omega
    ·obtain rfl : j = l1_3.length := by omega
     have hb2 : decide (l1_3.length < l1_3.length) = false := decide_eq_false hlt2
     go_wp2_with fail
     go_ret
     exact ⟨_,rfl,by have h_ := Kd.R_mono HO.out (fun _ _ => trivial);rwa [List.take_length] at h_,HB.out⟩
def zap.f (a0_0 : Int) (a0_1 : Int) (l0_2 : List (S42)) (a1_0 : Int) (a1_1 : Int) (l1_2 : List (S67)) (l1_3 : List ByteArray) (a1_4 : Int) (a1_5 : Int) : Option (List ByteArray) := if l0_2.length < 1466015503701 ∧ l1_3.length ≤ 8796093022208 then some (zbQ l0_2 a0_1 a1_1 l1_3) else none
theorem zap.calls (a0_0 : Int) (a0_1 : Int) (A0_2 : Option Addr) (c0_2 : Nat) (l0_2 : List (S42)) (a1_0 : Int) (a1_1 : Int) (A1_2 : Option Addr) (c1_2 : Nat) (l1_2 : List (S67)) (A1_3 : Option Addr) (c1_3 : Nat) (l1_3 : List ByteArray) (a1_4 : Int) (a1_5 : Int) (r : List ByteArray) (w : World) (hr0_2 : Kd.C k42 w A0_2 l0_2.length l0_2) (hc0_2 : l0_2.length ≤ c0_2) (hr1_2 : Kd.C k67 w A1_2 l1_2.length l1_2) (hc1_2 : l1_2.length ≤ c1_2) (hr1_3 : Kd.C Kd.string w A1_3 l1_3.length l1_3) (hc1_3 : l1_3.length ≤ c1_3) (h : zap.f a0_0 a0_1 l0_2 a1_0 a1_1 l1_2 l1_3 a1_4 a1_5 = some r) :
  Calls Tryz.prog 15 #[.agg #[.int .i64 a0_0,.int .i64 a0_1,.slice A0_2 l0_2.length c0_2],.agg #[.int .i64 a1_0,.int .i64 a1_1,.slice A1_2 l1_2.length c1_2,.slice A1_3 l1_3.length c1_3,.int .i64 a1_4,.int .i64 a1_5]] w fun e w' => ∃ v0_ : Value,e = .returned (v0_) ∧ Kd.R Kd.string 9 w' w.heap.size (fun _ => True) v0_ r ∧ Below w.heap.size w w' := by
 unfold zap.f at h
 split at h
 ·rename_i hh
  obtain rfl := Option.some.inj h
  by_cases hw : wrap64 (a1_1 - 1) ≤ a0_1
  ·refine (zap.walk0 a0_0 a0_1 A0_2 _ c0_2 a1_0 a1_1 A1_2 _ c1_2 A1_3 _ c1_3 a1_4 a1_5 w hw).mono ?_
   rintro e w' ⟨rfl,hb⟩
   rw [zbQ,if_pos hw]
   exact ⟨_,rfl,Kd.R_nil _ _ _ _ _,hb⟩
  ·rw [← lostL_eq _ _ _ _ hw]
   exact zap.walk a0_0 a0_1 A0_2 c0_2 l0_2 a1_0 a1_1 A1_2 _ c1_2 A1_3 c1_3 l1_3 a1_4 a1_5 w hr0_2 hc0_2 hr1_3 hc1_3 hw hh.1 hh.2
 ·cases h
end Go.Proofs.YtlkfelmbhldgfaaGreat.Px