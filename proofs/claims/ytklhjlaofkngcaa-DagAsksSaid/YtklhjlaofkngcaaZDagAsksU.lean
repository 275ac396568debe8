/- Part 21 of 33 of the proof of the law DagAsks: what is proved is the statement at the end of the last part; its conditions are those of the given row. -/
import Derived.Test.YtklhjlaofkngcaaZDagAsksR
import Derived.Test.YtklhjlaofkngcaaZDagAsksT
namespace Go.Proofs.Ytklhjlaofkngcaa.Px
open Go.RowKit Go.Proofs.YtklhjlaofkngcaaW.PrintWords Go.Proofs.YtklhjlaofkngcaaW.PrintLast Go.Proofs.YtklhjlaofkngcaaW.PrintMore
attribute [local go_sem] zF zH zM zN zB zC zG zI
set_option linter.unusedVariables false
set_option linter.unusedSimpArgs false
def zbP (L : List Ent) (r : Int) : List Ent := L.filter fun x => decide (x.f1.f1 = r)
theorem zeV (x : Ent) (L : List Ent) (r : Int) : zbP (x :: L) r = if x.f1.f1 = r then x :: zbP L r else zbP L r := by
 unfold zbP;rw [List.filter_cons];simp
theorem rdE_at (L : List Ent) (j : Nat) (h : j < L.length) : zd L (j : Int) = L[j] := by
 rw [zd,Int.toNat_natCast,List.getD_eq_getElem?_getD,List.getElem?_eq_getElem h];rfl
theorem zg1 (L : List Ent) (r : Int) (hl : L.length < 1466015503701) (d : Nat) : ∀ (j : Nat) (acc : List Ent),j + d = L.length → acc.length ≤ j → Ev (fun k => zaV.l0 k r acc L (L.length : Int) (j : Int)) (acc ++ zbP (L.drop j) r) := by
 induction d with
 | zero =>
  intro j acc h ha
  refine Ev.step (fun k => by rw [zaV.l0]) ?_
  rw [List.drop_of_length_le (by omega)]
  exact zU (by omega) (z9 (Ev.now _) (by simp [zbP]))
 | succ d ih =>
  intro j acc h ha
  refine Ev.step (fun k => by rw [zaV.l0]) ?_
  have hlt : j < L.length := by omega
  have e2 : wrap64 ((j : Int) + 1) = ((j + 1 : Nat) : Int) := by rw [zad (by omega) (by omega)];omega
  rw [rdE_at L j hlt,e2,List.drop_eq_getElem_cons hlt]
  refine zJ (by omega) (zJ (by omega) (zJ (by omega) ?_))
  by_cases hb : L[j].f1.f1 = r
  ·refine zJ hb (zJ (by omega) (z9 (ih (j + 1) (acc ++ [L[j]]) (by omega) (by rw [List.length_append];simp;omega)) ?_))
   rw [zeV,if_pos hb,List.append_assoc];rfl
  ·refine zU hb (z9 (ih (j + 1) acc (by omega) (by omega)) ?_)
   rw [zeV,if_neg hb]
theorem zeT (n low : Int) (L : List Ent) (r : Int) (hl : L.length < 1466015503701) : Ev (fun k => zaV.f k n low L r) (zbP L r) := by
 have := zg1 L r hl L.length 0 [] (by omega) (by simp)
 rwa [List.drop_zero,List.nil_append] at this
theorem zfY (L : List Ent) (r : Int) : (zbP L r).length ≤ L.length := List.length_filter_le _ _
def zgx (R : List Ent) (k : Nat) (s : ByteArray) : Option Value := if (R.take k).any (fun x => decide (x.f0 = s)) = true then some (.bool true) else none
theorem ziv (R : List Ent) (s : ByteArray) : none = zgx R 0 s := by simp [zgx]
theorem ziu (R : List Ent) (k : Nat) (x : Ent) (hx : R[k]? = some x) (s : ByteArray) : (if s = x.f0 then some (Value.bool true) else zgx R k s) = zgx R (k + 1) s := by
 unfold zgx
 rw [List.take_add_one,hx,List.any_append]
 by_cases h : s = x.f0
 ·subst h;simp
 ·have : ¬ x.f0 = s := fun e => h e.symm
  simp [h,this]
theorem zia (R : List Ent) (s : ByteArray) : (zgx R R.length s).getD (.bool false) = .bool (R.any fun x => decide (x.f0 = s)) := by
 unfold zgx
 rw [List.take_length]
 cases h : R.any fun x => decide (x.f0 = s) <;> simp
def zdc (R : List Ent) (ps : List ByteArray) : List ByteArray := ps.filter fun p => !(R.any fun x => decide (x.f0 = p))
theorem lostL_eq (L : List Ent) (low r : Int) (ps : List ByteArray) (h : ¬ wrap64 (r - 1) ≤ low) : zdc (zbP L (wrap64 (r - 1))) ps = zbt L low r ps := by
 unfold zdc zbt zbP
 rw [if_neg h]
 congr 1
 funext p
 rw [List.any_filter]
 congr 2
 funext x
 simp
theorem zal.infoS : (Try.prog.info? 9).map (fun i => (i.zero,i.size,i.bytes)) = some (some (.string ⟨#[]⟩),1,16) := by kernel_rfl
theorem zal.zeroB : ∀ w : World,(zeroValue 4).run Try.prog w = .ok (.bool false) w := fun _ => by kernel_rfl
set_option maxHeartbeats 8000000 in
set_option maxRecDepth 100000 in
theorem zal.walk0 (a0_0 : Int) (a0_1 : Int) (A0_2 : Option Addr) (n0_2 c0_2 : Nat) (a1_0 : Int) (a1_1 : Int) (A1_2 : Option Addr) (n1_2 c1_2 : Nat) (A1_3 : Option Addr) (n1_3 c1_3 : Nat) (a1_4 : Int) (a1_5 : Int) (w : World) (h : wrap64 (a1_1 - 1) ≤ a0_1) :
  Calls Try.prog 18 #[.agg #[.int .i64 a0_0,.int .i64 a0_1,.slice A0_2 n0_2 c0_2],.agg #[.int .i64 a1_0,.int .i64 a1_1,.slice A1_2 n1_2 c1_2,.slice A1_3 n1_3 c1_3,.int .i64 a1_4,.int .i64 a1_5]] w fun e w' => e = .returned (.slice none 0 0) ∧ Below w.heap.size w w' := by
 have hd : decide (wrap64 (a1_1 - 1) ≤ a0_1) = true := decide_eq_true h
 clear h
 go_enter Try.func18,Try.ntmps18
 go_wp2_with fail
 go_ret
 exact ⟨rfl,zl (zl (Below.refl _ _) _) _⟩
set_option maxHeartbeats 8000000 in
set_option maxRecDepth 100000 in
theorem zal.walk (a0_0 : Int) (a0_1 : Int) (A0_2 : Option Addr) (c0_2 : Nat) (l0_2 : List (S36)) (a1_0 : Int) (a1_1 : Int) (A1_2 : Option Addr) (n1_2 c1_2 : Nat) (A1_3 : Option Addr) (c1_3 : Nat) (l1_3 : List ByteArray) (a1_4 : Int) (a1_5 : Int) (w : World) (hr0_2 : Kd.C k36 w A0_2 l0_2.length l0_2) (hc0_2 : l0_2.length ≤ c0_2) (hr1_3 : Kd.C Kd.string w A1_3 l1_3.length l1_3) (hc1_3 : l1_3.length ≤ c1_3)
  (h : ¬ wrap64 (a1_1 - 1) ≤ a0_1) (hl : l0_2.length < 1466015503701) (hp : l1_3.length ≤ 8796093022208) :
  Calls Try.prog 18 #[.agg #[.int .i64 a0_0,.int .i64 a0_1,.slice A0_2 l0_2.length c0_2],.agg #[.int .i64 a1_0,.int .i64 a1_1,.slice A1_2 n1_2 c1_2,.slice A1_3 l1_3.length c1_3,.int .i64 a1_4,.int .i64 a1_5]] w fun e w' => ∃ v0_ : Value,e = .returned (v0_) ∧ Kd.R Kd.string 9 w' w.heap.size (fun _ => True) v0_ (zdc (zbP l0_2 (wrap64 (a1_1 - 1))) l1_3) ∧ Below w.heap.size w w' := by
 obtain ⟨kr,hkr⟩ := (zeT a0_0 a0_1 l0_2 (wrap64 (a1_1 - 1)) hl).rounds
 have HK := za.mk hkr
 have HRL : za ((zbP l0_2 (wrap64 (a1_1 - 1))).length < 1466015503701) := ⟨Nat.lt_of_le_of_lt (zfY _ _) hl⟩
 have HR := za.mk hr0_2
 have HC := za.mk hc0_2
 have HRP := za.mk hr1_3
 have HCP := za.mk hc1_3
 have HP := za.mk hp
 have hd : decide (wrap64 (a1_1 - 1) ≤ a0_1) = false := decide_eq_false h
 clear hkr hr0_2 hc0_2 hr1_3 hc1_3 h hl hp
 have HF : za (Kd.F k36 w (fun k_ => k_ < w.heap.size) A0_2 l0_2.length l0_2) := ⟨Kd.C_F zbZ HR.out⟩
 generalize zbP l0_2 (wrap64 (a1_1 - 1)) = R at *
 have hmm := @run_makeMap Try.prog
 go_enter Try.func18,Try.ntmps18
 go_wp2_with (first
  | ((with_reducible refine zu (N := 2) rfl ?_);refine zp ?hg (N := 2) ?hd (cs := #[.int .i64 a0_0,.int .i64 a0_1,.slice A0_2 l0_2.length c0_2]) (t := 24) ?hr ?_;(case hd => rfl);(case hg => rfl);(case hr => first | (go_simp;done) | (go_simp;rfl));intro g2 hg w2 hbox hb;have B2 := za.mk hbox;have HB2 := za.mk hb;clear hb hbox hg)
  | ((with_reducible refine zu (N := 3) rfl ?_);refine zp ?hg (N := 3) ?hd (cs := #[.int .i64 a1_0,.int .i64 a1_1,.slice A1_2 n1_2 c1_2,.slice A1_3 l1_3.length c1_3,.int .i64 a1_4,.int .i64 a1_5]) (t := 30) ?hr ?_;(case hd => rfl);(case hg => rfl);(case hr => first | (go_simp;done) | (go_simp;rfl));intro g3 hg w3 hbox hb;have B3 := za.mk hbox;have C2 := za.mk (zt B2.out hb);have HB3 := za.mk (ze HB2.out hb);clear hb hbox hg B2;have x2_0 := (zb C2.out 0).trans rfl;have x2_1 := (zb C2.out 1).trans rfl;have x2_2 := (zb C2.out 2).trans rfl;have x3_1 := (zb B3.out 1).trans rfl;have y2_0 := fun o => (zb (zf C2.out o) 0).trans rfl;have y2_1 := fun o => (zb (zf C2.out o) 1).trans rfl;have y2_2 := fun o => (zb (zf C2.out o) 2).trans rfl;have y3_1 := fun o => (zb (zf B3.out o) 1).trans rfl)
  | (go_at_call 15;(with_reducible refine (zaV.calls kr a0_0 a0_1 (fun k_ => k_ < w.heap.size) A0_2 c0_2 l0_2 _ R _ (Kd.V_mk HC.out (Kd.F_below HF.out (zl HB3.out _))) HK.out).mono ?_);rintro e w5 ⟨v22,rfl,hN,hb⟩;obtain ⟨A22,c22,rfl⟩ := Kd.N_slice hN;have HV := za.mk (Kd.N_F hN);have HB5 := za.mk (ze (zl HB3.out _) hb);have C3 := za.mk (zt (zf B3.out _) hb);have HM := za.mk (zfz (mapF_new w3) hb);have HG0 : za (w.heap.size ≤ w3.heap.size) := ⟨zg HB3.out⟩;have HLT : za (w3.heap.size < w5.heap.size) := ⟨zfl HM.out⟩;clear hb hN))
 clear hmm x2_0 x2_1 x2_2 x3_1 y2_0 y2_1 y2_2 y3_1 hd
 have HG := za.mk (World.grownBy.refl w5 (some w3.heap.size))
 have HM0 := za.mk (zie HM.out (ziv R))
 go_loopw [24] (fun v24 wr => ∃ k : Nat,v24 = .int .i64 k ∧ k ≤ R.length ∧ za (zdd wr w3.heap.size (zgx R k)) ∧ za (w5.grownBy wr (some w3.heap.size))) (fun v24 _ => R.length - (intOf v24).toNat)
 case atStart => exact ⟨0,rfl,Nat.zero_le _,HM0,HG⟩
 case round =>
  clear HG HM0 HM
  obtain ⟨k,rfl,hk,HM,HG⟩ := hrel
  have HRI := HRL.out
  have HV1 : za (Kd.F k36 wr _ A22 R.length R) := ⟨Kd.F_grown HV.out HG.out (fun k_ hk_ he => by injection he with he;subst he;rcases hk_ with hk_ | hk_ <;> have := HG0.out <;> (try simp at hk_) <;> omega)⟩
  by_cases hlt : k < R.length
  ·obtain ⟨ad,A3,c3,A4,c4,rfl,hx0,hx1,hx2,hx3,hx4,hx5,hx6,_,_,_,_⟩ := zaH (Kd.F_now HV1.out) (k : Int) (by omega) (by omega)
   rw [Int.toNat_natCast] at hx0 hx1 hx2 hx3 hx4 hx5 hx6
   have hb : decide (k < R.length) = true := decide_eq_true hlt
   have HX : za (R[k]? = some (zd R (k : Int))) := ⟨by rw [zd,Int.toNat_natCast,List.getD_eq_getElem?_getD,List.getElem?_eq_getElem hlt];rfl⟩
   clear HV1
   generalize zd R (k : Int) = s at *
   obtain ⟨s0,⟨s1,s2,s3,s4,⟨s5,s6⟩⟩⟩ := s
   go_wp2_with (at_mapUpdate;refine zhn _ rfl _ _ _ 57 rfl (zhB HM.out _) Try.underlying57 Try.underlying9 s0 (.bool true) rfl rfl rfl ?_;intro w7 hm7 hg7;have HM7 := za.mk (zie hm7 (ziu R k _ HX.out));have HG7 := za.mk (HG.out.trans ((World.grownBy_alloc wr _ _).trans hg7));clear hm7 hg7)
   go_roundw
   case rel => exact ⟨k + 1,by go_num,by omega,HM7,HG7⟩
   case measure => simp [intOf];omega
  ·obtain rfl : k = R.length := by omega
   have hb : decide (R.length < R.length) = false := decide_eq_false hlt
   have HNE : za (some g3 ≠ some w3.heap.size) := ⟨fun he => by injection he with he;have := za7 B3.out;omega⟩
   have B3r := za.mk (zaU C3.out HG.out HNE.out)
   have HBr : za (Below w.heap.size w wr) := ⟨zcQ HB5.out (some w3.heap.size) (zg HB5.out) HG.out (fun k_ e_ => by injection e_ with e_;subst e_;exact HG0.out)⟩
   have z3_3 := (zb B3r.out 3).trans rfl
   have hm3 := HRP.out.2.1
   clear HV1
   go_wp2_with fail
   clear z3_3
   go_loopw [8,35] (fun v8 v35 wq => ∃ j : Nat,v35 = .int .i64 j ∧ j ≤ l1_3.length ∧ za (Kd.R Kd.string 9 wq w.heap.size (fun k_ => k_ ≠ w3.heap.size) v8 (zdc R (l1_3.take j))) ∧ za (zdd wq w3.heap.size (zgx R R.length)) ∧ za (Below w.heap.size w wq)) (fun _ v35 _ => l1_3.length - (intOf v35).toNat)
   case atStart => exact ⟨0,rfl,Nat.zero_le _,⟨Kd.R_nil _ _ _ _ _⟩,HM,HBr⟩
   case round =>
    clear HM HBr B3r HG
    obtain ⟨j,rfl,hj,HO,HM,HB⟩ := hrel
    by_cases hlt2 : j < l1_3.length
    ·obtain ⟨ad,rfl,hcell⟩ := Kd.at_string HRP.out (j : Int) (by omega) (by omega)
     rw [Int.toNat_natCast] at hcell
     replace hcell := (HB.out.cell (World.block_lt_of_cell? w _ hcell)).trans hcell
     have hb2 : decide (j < l1_3.length) = true := decide_eq_true hlt2
     have HT : za (l1_3.take (j + 1) = l1_3.take j ++ [zE ByteArray.empty l1_3 (j : Int)]) := ⟨by
      rw [zE,Int.toNat_natCast,List.getD_eq_getElem?_getD,List.getElem?_eq_getElem hlt2,List.take_add_one,List.getElem?_eq_getElem hlt2];rfl⟩
     generalize zE ByteArray.empty l1_3 (j : Int) = s at *
     rcases hq : R.any (fun x => decide (x.f0 = s)) with _ | _
     ·have HQ := za.mk hq
      clear hq
      have HLN : za (((zdc R (l1_3.take j)).length + 1) * 16 ≤ 140737488355328) := ⟨by
       have h1 : (zdc R (l1_3.take j)).length ≤ (l1_3.take j).length := List.length_filter_le _ _
       rw [List.length_take] at h1
       have := HP.out
       omega⟩
      have HL : za (zdc R (l1_3.take (j + 1)) = zdc R (l1_3.take j) ++ [s]) := ⟨by
       rw [HT.out,zdc,List.filter_append]
       show _ ++ List.filter (fun p => !R.any fun x => decide (x.f0 = p)) [s] = _
       rw [List.filter_cons,HQ.out];rfl⟩
      go_wp2_with (first
       | (at_lookup;refine zet _ rfl _ _ 57 rfl HM.out Try.underlying57 Try.underlying9 (zal.zeroB _) s rfl rfl ?_;rw [zia,HQ.out])
       | (at_builtin;refine Kd.R_append Kd.string (w0 := w) w.heap.size rfl (.tmp 43) (.tmp 45) 26 9 (.string ⟨#[]⟩) 16 rfl Try.underlying26 zal.infoS rfl (by decide) (by omega) _ (zdc R (l1_3.take j)) s [.string s] (fun k_ => k_ ≠ w3.heap.size) (fun _ => False) rfl rfl ?aP (fun _ hk => hk.elim) ?aF ?aO ?aB ?aS ?aL ?_;(case aP => exact rfl);(case aF => exact (fun k_ hk he => by subst he;have := zfl HM.out;omega));(case aO => exact HO.out);(case aB => exact HB.out);(case aS => exact (zg HB.out));(case aL => exact HLN.out);intro v3 w8 ho hb hg hat;have HO3 := za.mk ho;have HB3' := za.mk hb;have HM3 := za.mk (zhC HM.out hg (Kd.R_away HO.out (fun _ hk => hk)));clear ho hb hg hat))
      go_roundw
      case rel => exact ⟨j + 1,by go_num,by omega,⟨by rw [HL.out];exact HO3.out⟩,HM3,HB3'⟩
      case measure => simp [intOf];omega
     ·have HQ := za.mk hq
      clear hq
      have HL : za (zdc R (l1_3.take (j + 1)) = zdc R (l1_3.take j)) := ⟨by
       rw [HT.out,zdc,List.filter_append]
       show _ ++ List.filter (fun p => !R.any fun x => decide (x.f0 = p)) [s] = _
       rw [List.filter_cons,HQ.out];simp;rfl⟩
      go_wp2_with (at_lookup;refine zet _ rfl _ _ 57 rfl HM.out Try.underlying57 Try.underlying9 (zal.zeroB _) s rfl rfl ?_;rw [zia,HQ.out])
      go_roundw
      case rel => exact ⟨j + 1,by go_num,by omega,⟨by rw [HL.out];exact HO.out⟩,HM,HB⟩
      case measure => simp [intOf];omega
    ·obtain rfl : j = l1_3.length := by omega
     have hb2 : decide (l1_3.length < l1_3.length) = false := decide_eq_false hlt2
     go_wp2_with fail
     go_ret
     exact ⟨_,rfl,by have h_ := Kd.R_mono HO.out (fun _ _ => trivial);rwa [List.take_length] at h_,HB.out⟩
def zal.f (a0_0 : Int) (a0_1 : Int) (l0_2 : List (S36)) (a1_0 : Int) (a1_1 : Int) (l1_2 : List (S72)) (l1_3 : List ByteArray) (a1_4 : Int) (a1_5 : Int) : Option (List ByteArray) := if l0_2.length < 1466015503701 ∧ l1_3.length ≤ 8796093022208 then some (zbt l0_2 a0_1 a1_1 l1_3) else none
theorem zal.calls (a0_0 : Int) (a0_1 : Int) (A0_2 : Option Addr) (c0_2 : Nat) (l0_2 : List (S36)) (a1_0 : Int) (a1_1 : Int) (A1_2 : Option Addr) (c1_2 : Nat) (l1_2 : List (S72)) (A1_3 : Option Addr) (c1_3 : Nat) (l1_3 : List ByteArray) (a1_4 : Int) (a1_5 : Int) (r : List ByteArray) (w : World) (hr0_2 : Kd.C k36 w A0_2 l0_2.length l0_2) (hc0_2 : l0_2.length ≤ c0_2) (hr1_2 : Kd.C k72 w A1_2 l1_2.length l1_2) (hc1_2 : l1_2.length ≤ c1_2) (hr1_3 : Kd.C Kd.string w A1_3 l1_3.length l1_3) (hc1_3 : l1_3.length ≤ c1_3) (h : zal.f a0_0 a0_1 l0_2 a1_0 a1_1 l1_2 l1_3 a1_4 a1_5 = some r) :
  Calls Try.prog 18 #[.agg #[.int .i64 a0_0,.int .i64 a0_1,.slice A0_2 l0_2.length c0_2],.agg #[.int .i64 a1_0,.int .i64 a1_1,.slice A1_2 l1_2.length c1_2,.slice A1_3 l1_3.length c1_3,.int .i64 a1_4,.int .i64 a1_5]] w fun e w' => ∃ v0_ : Value,e = .returned (v0_) ∧ Kd.R Kd.string 9 w' w.heap.size (fun _ => True) v0_ r ∧ Below w.heap.size w w' := by
 unfold zal.f at h
 split at h
 ·rename_i hh
  obtain rfl := Option.some.inj h
  by_cases hw : wrap64 (a1_1 - 1) ≤ a0_1
  ·refine (zal.walk0 a0_0 a0_1 A0_2 _ c0_2 a1_0 a1_1 A1_2 _ c1_2 A1_3 _ c1_3 a1_4 a1_5 w hw).mono ?_
   rintro e w' ⟨rfl,hb⟩
   rw [zbt,if_pos hw]
   exact ⟨_,rfl,Kd.R_nil _ _ _ _ _,hb⟩
  ·rw [← lostL_eq _ _ _ _ hw]
   exact zal.walk a0_0 a0_1 A0_2 c0_2 l0_2 a1_0 a1_1 A1_2 _ c1_2 A1_3 c1_3 l1_3 a1_4 a1_5 w hr0_2 hc0_2 hr1_3 hc1_3 hw hh.1 hh.2
 ·cases h
set_option maxHeartbeats 4000000 in
set_option maxRecDepth 100000 in
theorem zeA.walk (a r : Int) (A2 : Option Addr) (n2 c2 : Nat) (A3 : Option Addr) (n3 c3 : Nat) (x y a' r' : Int) (B2 : Option Addr) (m2 d2 : Nat) (B3 : Option Addr) (m3 d3 : Nat) (x' y' : Int) (w : World) :
  Calls Try.prog 31 #[.agg #[.int .i64 a,.int .i64 r,.slice A2 n2 c2,.slice A3 n3 c3,.int .i64 x,.int .i64 y],.agg #[.int .i64 a',.int .i64 r',.slice B2 m2 d2,.slice B3 m3 d3,.int .i64 x',.int .i64 y']] w fun e w' => e = .returned (.bool (zbg a r a' r')) ∧ Below w.heap.size w w' := by
 by_cases h1 : r < r'
 ·have HP : za (zbg a r a' r' = true) := ⟨decide_eq_true (.inl h1)⟩
  have d1 : decide (r < r') = true := decide_eq_true h1
  clear h1
  go_enter Try.func31,Try.ntmps31
  go_wp2
  go_ret
  exact ⟨by rw [HP.out];rfl,zl (zl (Below.refl _ _) _) _⟩
 ·have d1 : decide (r < r') = false := decide_eq_false h1
  by_cases h2 : r = r'
  ·have d2 : (r == r') = true := beq_iff_eq.2 h2
   have HP : za (zbg a r a' r' = decide (a < a')) := ⟨by unfold zbg;rw [Bool.eq_iff_iff,decide_eq_true_eq,decide_eq_true_eq];omega⟩
   clear h1 h2
   go_enter Try.func31,Try.ntmps31
   go_wp2
   go_ret
   exact ⟨by rw [HP.out];rfl,zl (zl (Below.refl _ _) _) _⟩
  ·have d2 : (r == r') = false := beq_eq_false_iff_ne.2 h2
   have HP : za (zbg a r a' r' = false) := ⟨decide_eq_false (by omega)⟩
   clear h1 h2
   go_enter Try.func31,Try.ntmps31
   go_wp2
   go_ret
   exact ⟨by rw [HP.out];rfl,zl (zl (Below.refl _ _) _) _⟩
def zaw (n k : Nat) : Array Bool := (List.replicate k true ++ List.replicate (n - k) false).toArray
def zct (a : Act) : List (Nat × Tmp) → Act
 | [] => a
 | p :: is => zct (a.put (some p.2) undef) is
def zig (T : Bool × List (List Nat × List Nat)) (l' : List Bool) : List Bool → List (Nat × Tmp) → Bool
 | l,[] => l == l'
 | l,p :: is => T.1 && zgc T.2 l p.1 && zcJ T.2 l p.1 && zig T l' (l.set p.1 true) is
def zhF (ops : Array Oper) : Act → List (Nat × Tmp) → Bool
 | _,[] => true
 | a,p :: is => (match ops[p.1]? with | some o => (o.dst == some p.2) && !Region.wanted o (yielded ops a.tmps) | none => false) && zhF ops (a.put (some p.2) undef) is
theorem zdG {P : Program} {ops : Array Oper} {Q : Exit → Act → World → Prop} {S : World → Prop} {ds : List Nat} {T : Bool × List (List Nat × List Nat)} {w : World} (hQ : ∀ c a d v w,Q (.panic c) (Act.put a (some d) v) w → Q (.panic c) a w) (hT : zbV .any ops = T) : ∀ (is : List (Nat × Tmp)) (fuel : Nat) {n : Nat} (_ : fuel + is.length = n) {l : Array Bool} (l' : Array Bool) {a : Act} (_ : zig T l'.toList l.toList is = true) (_ : zhF ops a is = true) {a' : Act} (_ : zct a is = a') (_ : zaq P .any ops Q S ds fuel l' a' w),zaq P .any ops Q S ds n l a w := by
 intro is
 induction is with
 | nil =>
  intro fuel n hn l l' a hc _ a' ha h
  subst hn;subst ha
  simp only [zig,beq_iff_eq] at hc
  have : l = l' := by rw [← Array.toArray_toList (xs := l),hc]
  subst this
  exact h
 | cons p is ih =>
  intro fuel n hn l l' a hc ho a' ha h
  subst hn
  simp only [zig,Bool.and_eq_true] at hc
  obtain ⟨⟨⟨h1,h2⟩,h3⟩,h4⟩ := hc
  simp only [zhF,Bool.and_eq_true] at ho
  obtain ⟨ho,h5⟩ := ho
  rcases hi : ops[p.1]? with _ | o
  ·rw [hi] at ho;cases ho
  ·rw [hi] at ho
   simp only [Bool.and_eq_true,beq_iff_eq,Bool.not_eq_true'] at ho
   refine zv (fuel := fuel + is.length) (l.setIfInBounds p.1 true) hi ho.1 (zn hT ?_) (fun c a w => by rw [ho.1];exact hQ c a _ _ w) (Or.inr ⟨ho.2,rfl⟩) rfl (ih fuel rfl l' ?_ h5 ha h)
   ·simp only [anyT,h1,h2,h3,Bool.true_and]
    simp
   ·rw [Array.toList_setIfInBounds];exact h4
end Go.Proofs.Ytklhjlaofkngcaa.Px