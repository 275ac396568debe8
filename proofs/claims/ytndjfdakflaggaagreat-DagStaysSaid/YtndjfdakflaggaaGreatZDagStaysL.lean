/- Part 12 of 15 of the proof of the law DagStays: what is proved is the statement at the end of the last part; its conditions are those of the given row. -/
import Derived.Test.YtndjfdakflaggaaGreatZDagStaysK
namespace Go.Proofs.YtndjfdakflaggaaGreat.Px
open Go.RowKit Go.Proofs.YtndjfdakflaggaaGreatW.PrintWords Go.Proofs.YtndjfdakflaggaaGreatW.PrintLast Go.Proofs.YtndjfdakflaggaaGreatW.PrintMore
attribute [local go_sem] zA zC zH zI zv zw zB zD
set_option linter.unusedVariables false
set_option linter.unusedSimpArgs false
theorem zgY {a r : Int} {bs : List S75} {ps : List ByteArray} {x y n : Int} (h : (z6 a r bs ps x y n).2 = 0) : ps.length ≤ 64 := by
 by_cases hm : zbo a r bs ps x y n = true
 ·obtain ⟨h0,_,_,_,_,_,_,_,_,h9⟩ := (zcW ..).1 hm
  exact (zbL h0 h9).1
 ·rw [z6,if_neg hm] at h
  exact absurd h (by decide)
theorem rightE_no (n low : Int) (L : List Ent) (k : Nat) (hk : k < L.length) (h : okE n low L k (L.getD k z39) = false) : zbO n low L = false := by
 unfold zbO
 rw [show ((List.range L.length).all fun i => okE n low L i (L.getD i z39)) = false from ?_,Bool.and_false]
 rw [List.all_eq_false]
 exact ⟨k,List.mem_range.2 hk,by rw [h];simp⟩
theorem rightE_yes (n low : Int) (L : List Ent) (h1 : zcy n = true) (h2 : 0 ≤ low) (h : ∀ i,i < L.length → okE n low L i (L.getD i z39) = true) : zbO n low L = true := by
 unfold zbO
 rw [h1,decide_eq_true h2,List.all_eq_true.2 fun i hi => h i (List.mem_range.1 hi)];rfl
def zaI.T7 : Bool × List (List Nat × List Nat) := (true,[([],[]),([0],[0]),([1],[1]),([2],[2]),([2],[2]),([4,2],[2,4]),([3,5,2],[2,3,5]),([2,6],[2,6]),([7,2],[7]),([8],[8]),([9,8],[8,9]),([10,8],[8,10]),([8],[8]),([12,8],[8,12]),([11,13,8],[8,11,13]),([8,14],[8,14]),([15,8],[15]),([16],[16]),([16],[16]),([18,16],[16,18]),([17,19,16,16],[16,17,19]),([20,16],[16,20]),([21,16],[16,21]),([16,22],[16,22]),([23,20],[23]),([24],[24]),([25,24],[24,25]),([26,24,24],[24,26]),([27],[27]),([28,27],[27,28]),([27],[27]),([30,27],[27,30]),([29,31,27],[27,29,31]),([32,27],[27,32]),([33,27],[27,33]),([27],[27]),([35,27],[27,35]),([34,36,27,27],[27,34,36]),([37,27],[27,37]),([27,38,24],[24,27,38]),([24,39],[24,39])])
def zaI.B7 : List Nat := [0,1,3,7,7,23,63,127,255,511,1023,2047,511,4607,16383,32767,65535,131071,131071,393215,1048575,2097151,4194303,8388607,16777215,33554431,67108863,134217727,268435455,536870911,268435455,1342177279,4294967295,8589934591,17179869183,268435455,34628173823,137438953471,274877906943,549755813887,1099511627775]
theorem zaI.tab7 : zb5 .any (zdW Tryz.f10 7) = zaI.T7 := by kernel_rfl
theorem zaI.bits7 : zbJ zaI.T7.2 zaI.B7 = true := by kernel_rfl
structure zcZ (w W : World) (g1 g4 : Nat) (o1 o4 : Obj) : Prop where
 b : Below w.heap.size w W
 c1 : W.heap[g1]? = some o1
 c4 : W.heap[g4]? = some o4
theorem zcZ.step {w W W' : World} {g1 g4 : Nat} {o1 o4 : Obj} (h : zcZ w W g1 g4 o1 o4) (hb : Below W.heap.size W W') : zcZ w W' g1 g4 o1 o4 := ⟨ze h.b hb,zo h.c1 hb,zo h.c4 hb⟩
theorem zcZ.drew {w W : World} {g1 g4 : Nat} {o1 o4 : Obj} (h : zcZ w W g1 g4 o1 o4) : zcZ w W.drew g1 g4 o1 o4 := ⟨zp h.b,zaf h.c1,zaf h.c4⟩
set_option maxHeartbeats 16000000 in
set_option maxRecDepth 100000 in
theorem zaI.walk (a0_0 : Int) (a0_1 : Int) (A0_2 : Option Addr) (c0_2 : Nat) (l0_2 : List (S39)) (w : World) (hr0_2 : Kd.C k39 w A0_2 l0_2.length l0_2) (hc0_2 : l0_2.length ≤ c0_2) (hl : l0_2.length < 1466015503701) :
  Calls Tryz.prog 10 #[.agg #[.int .i64 a0_0,.int .i64 a0_1,.slice A0_2 l0_2.length c0_2]] w fun e w' => e = .returned (.bool (zbO a0_0 a0_1 l0_2)) ∧ Below w.heap.size w w' := by
 have HR := za.mk hr0_2
 have HC := za.mk hc0_2
 have HL := za.mk hl
 have HMY := za.mk (zaG a0_0)
 have hm2 := hr0_2.2.1
 clear hr0_2 hc0_2 hl
 rcases hn : zcy a0_0 with _ | _
 ·have hz : zbO a0_0 a0_1 l0_2 = false := by unfold zbO;rw [hn];rfl
  rw [hz]
  rw [hn] at HMY
  clear hz hn
  go_enter Tryz.func10,Tryz.ntmps10
  go_wp2_with (first
   | ((with_reducible refine zq (N := 1) rfl ?_);refine zn rfl (N := 1) rfl (cs := #[.int .i64 a0_0,.int .i64 a0_1,.slice A0_2 l0_2.length c0_2]) (t := 26) hrq ?_;intro g1 hg w1 hbox hb;have B1 := za.mk hbox;have HB1 := za.mk hb;clear hb hbox hg;have x1_0 := (zb B1.out 0).trans rfl;have x1_1 := (zb B1.out 1).trans rfl;have x1_2 := (zb B1.out 2).trans rfl)
   | (go_at_call 28;(with_reducible refine (zaq.calls a0_0 _ _ HMY.out).mono ?_);rintro e w2 ⟨rfl,hdr⟩;have hb : Below w1.heap.size w1 w2 := (by obtain ⟨nd,rfl⟩ := hdr;repeat (first | exact Below.refl _ _ | apply zi));clear hdr;have B2 := za.mk (zo B1.out hb);have HB2 := za.mk (ze HB1.out hb);clear x1_0 x1_1 x1_2 hb;have x2_0 := (zb B2.out 0).trans rfl;have x2_1 := (zb B2.out 1).trans rfl;have x2_2 := (zb B2.out 2).trans rfl))
  go_ret
  exact ⟨rfl,HB2.out⟩
 by_cases hlow : a0_1 < 0
 ·have hz : zbO a0_0 a0_1 l0_2 = false := by unfold zbO;rw [decide_eq_false (by omega : ¬ 0 ≤ a0_1),Bool.and_false];rfl
  rw [hz]
  rw [hn] at HMY
  have d1 : decide (a0_1 < 0) = true := decide_eq_true hlow
  clear hz hn hlow
  go_enter Tryz.func10,Tryz.ntmps10
  go_wp2_with (first
   | ((with_reducible refine zq (N := 1) rfl ?_);refine zn rfl (N := 1) rfl (cs := #[.int .i64 a0_0,.int .i64 a0_1,.slice A0_2 l0_2.length c0_2]) (t := 26) hrq ?_;intro g1 hg w1 hbox hb;have B1 := za.mk hbox;have HB1 := za.mk hb;clear hb hbox hg;have x1_0 := (zb B1.out 0).trans rfl;have x1_1 := (zb B1.out 1).trans rfl;have x1_2 := (zb B1.out 2).trans rfl)
   | (go_at_call 28;(with_reducible refine (zaq.calls a0_0 _ _ HMY.out).mono ?_);rintro e w2 ⟨rfl,hdr⟩;have hb : Below w1.heap.size w1 w2 := (by obtain ⟨nd,rfl⟩ := hdr;repeat (first | exact Below.refl _ _ | apply zi));clear hdr;have B2 := za.mk (zo B1.out hb);have HB2 := za.mk (ze HB1.out hb);clear x1_0 x1_1 x1_2 hb;have x2_0 := (zb B2.out 0).trans rfl;have x2_1 := (zb B2.out 1).trans rfl;have x2_2 := (zb B2.out 2).trans rfl))
  go_ret
  exact ⟨rfl,HB2.out⟩
 have HN := za.mk hn
 have HLOW := za.mk hlow
 rw [hn] at HMY
 have d1 : decide (a0_1 < 0) = false := decide_eq_false hlow
 clear hn hlow
 go_enter Tryz.func10,Tryz.ntmps10
 go_wp2_with (first
  | ((with_reducible refine zq (N := 1) rfl ?_);refine zn rfl (N := 1) rfl (cs := #[.int .i64 a0_0,.int .i64 a0_1,.slice A0_2 l0_2.length c0_2]) (t := 26) hrq ?_;intro g1 hg w1 hbox hb;have B1 := za.mk hbox;have HB1 := za.mk hb;clear hb hbox hg;have x1_0 := (zb B1.out 0).trans rfl;have x1_1 := (zb B1.out 1).trans rfl;have x1_2 := (zb B1.out 2).trans rfl)
  | (go_at_call 28;(with_reducible refine (zaq.calls a0_0 _ _ HMY.out).mono ?_);rintro e w2 ⟨rfl,hdr⟩;have hb : Below w1.heap.size w1 w2 := (by obtain ⟨nd,rfl⟩ := hdr;repeat (first | exact Below.refl _ _ | apply zi));clear hdr;have B2 := za.mk (zo B1.out hb);have HB2 := za.mk (ze HB1.out hb);clear x1_0 x1_1 x1_2 hb;have x2_0 := (zb B2.out 0).trans rfl;have x2_1 := (zb B2.out 1).trans rfl;have x2_2 := (zb B2.out 2).trans rfl))
 clear x2_0 x2_1 x2_2
 go_loopw [19] (fun v19 wr => ∃ k : Nat,v19 = .int .i64 k ∧ k ≤ l0_2.length ∧ za (∀ i,i < k → okE a0_0 a0_1 l0_2 i (l0_2.getD i z39) = true) ∧ za (wr.heap[g1]? = some (.cells #[.int .i64 a0_0,.int .i64 a0_1,.slice A0_2 l0_2.length c0_2] 26 (0,0))) ∧ za (Below w.heap.size w wr)) (fun v19 _ => l0_2.length - (match v19 with | .int _ q => q | _ => 0).toNat)
 case atStart => exact ⟨0,rfl,Nat.zero_le _,⟨fun i hi => absurd hi (Nat.not_lt_zero _)⟩,B2,HB2⟩
 case round =>
  clear HB1 HB2 B1 B2
  obtain ⟨k,rfl,hk,HF,B1r,HB⟩ := hrel
  by_cases hlt : k < l0_2.length
  ·obtain ⟨ad,A3,c3,A4,c4,rfl,hx0,hx1,hx2,hx3,hx4,hx5,hx6,q1,q2,q3,q4⟩ := zbe HR.out (k : Int) (by omega) (by omega)
   have hgd : l0_2.getD k z39 = zd l0_2 (k : Int) := by rw [zd,Int.toNat_natCast]
   replace hx0 := (HB.out.cell (World.block_lt_of_cell? w _ hx0)).trans hx0
   replace hx1 := (HB.out.cell (World.block_lt_of_cell? w _ hx1)).trans hx1
   replace hx2 := (HB.out.cell (World.block_lt_of_cell? w _ hx2)).trans hx2
   replace hx3 := (HB.out.cell (World.block_lt_of_cell? w _ hx3)).trans hx3
   replace hx4 := (HB.out.cell (World.block_lt_of_cell? w _ hx4)).trans hx4
   replace hx5 := (HB.out.cell (World.block_lt_of_cell? w _ hx5)).trans hx5
   replace hx6 := (HB.out.cell (World.block_lt_of_cell? w _ hx6)).trans hx6
   rw [Int.toNat_natCast] at hx0 hx1 hx2 hx3 hx4 hx5 hx6
   have hb : decide (k < l0_2.length) = true := decide_eq_true hlt
   generalize zd l0_2 (k : Int) = s at *
   obtain ⟨s0,⟨s1,s2,s3,s4,⟨s5,s6⟩⟩⟩ := s
   have hD0 := zdG s1 s2 s3 s4 s5 s6 a0_0
   have hZ0 := @zgY s1 s2 s3 s4 s5 s6 a0_0
   have HQ1w : za (Kd.C k75 w A3 s3.length s3) := ⟨q2⟩
   have HQ2 := za.mk q1
   have HQ3w : za (Kd.C Kd.string w A4 s4.length s4) := ⟨q4⟩
   have HQ4 := za.mk q3
   have HQ1 := za.mk (Kd.C_below q2 HB.out)
   have HQ3 := za.mk (Kd.C_below q4 HB.out)
   have HOK : za (okE a0_0 a0_1 l0_2 k (l0_2.getD k z39) = okE a0_0 a0_1 l0_2 k ⟨s0,⟨s1,s2,s3,s4,⟨s5,s6⟩⟩⟩) := ⟨by rw [hgd]⟩
   have HNO : za (okE a0_0 a0_1 l0_2 k ⟨s0,⟨s1,s2,s3,s4,⟨s5,s6⟩⟩⟩ = false → zbO a0_0 a0_1 l0_2 = false) := ⟨fun h => rightE_no _ _ _ k hlt (HOK.out.trans h)⟩
   have HYE : za (okE a0_0 a0_1 l0_2 k ⟨s0,⟨s1,s2,s3,s4,⟨s5,s6⟩⟩⟩ = true → ∀ i,i < k + 1 → okE a0_0 a0_1 l0_2 i (l0_2.getD i z39) = true) := ⟨fun h i hi => by
    rcases Nat.lt_succ_iff_lt_or_eq.1 hi with h1 | h1
    ·exact HF.out i h1
    ·rw [h1];exact HOK.out.trans h⟩
   have HMM0 : za (s4.length ≤ 8796093022208 → zag.f a0_0 a0_1 l0_2 s1 s2 s3 s4 s5 s6 = some (zbr l0_2 a0_1 s2 s4)) := ⟨fun h => if_pos ⟨HL.out,h⟩⟩
   have hKE : okE a0_0 a0_1 l0_2 k ⟨s0,⟨s1,s2,s3,s4,⟨s5,s6⟩⟩⟩ = ((decide ((z6 s1 s2 s3 s4 s5 s6 a0_0).2 = 0) && decide ((z6 s1 s2 s3 s4 s5 s6 a0_0).1 = s0) && decide (a0_1 < s2) && decide ((zbr l0_2 a0_1 s2 s4).length = 0)) && (decide (k = 0) || zbd (l0_2.getD (k - 1) z39).f1.f0 (l0_2.getD (k - 1) z39).f1.f1 s1 s2)) := rfl
   generalize z6 s1 s2 s3 s4 s5 s6 a0_0 = dv at hD0 hZ0 hKE
   obtain ⟨D,e1⟩ := dv
   generalize zbr l0_2 a0_1 s2 s4 = lost at hKE HMM0
   have HD : za (za1.f s1 s2 s3 s4 s5 s6 a0_0 = some (D,e1)) := ⟨hD0⟩
   have HKE := za.mk hKE
   have HZ0 : za (e1 = 0 → s4.length ≤ 64) := ⟨hZ0⟩
   have y1_0 := (zb B1r.out 0).trans rfl
   have y1_0a := fun o => (zb (zf B1r.out o) 0).trans rfl
   clear hgd hD0 hZ0 hKE q1 q2 q3 q4 HOK HF
   go_wp2_with (go_at_call 11;(with_reducible refine (za1.calls s1 s2 _ _ s3 _ _ s4 s5 s6 a0_0 D e1 _ (Kd.C_below HQ1.out (zl (Below.refl _ _) _)) HQ2.out (Kd.C_below HQ3.out (zl (Below.refl _ _) _)) HQ4.out HD.out).mono ?_);rintro e w5 ⟨rfl,hb⟩;have M5 : za (zcZ w w5 g1 wr.heap.size (.cells #[.int .i64 a0_0,.int .i64 a0_1,.slice (some ad) l0_2.length c0_2] 26 (0,0)) (.cells #[.string s0,.int .i64 s1,.int .i64 s2,.slice A3 s3.length c3,.slice A4 s4.length c4,.int .i64 s5,.int .i64 s6] 39 (0,0))) := ⟨⟨ze (zl HB.out _) hb,zo (zf B1r.out _) hb,zo (zbg wr _) hb⟩⟩;clear hb y1_0 y1_0a)
   have MK : za (∀ w' : World,zcZ w w' g1 wr.heap.size (.cells #[.int .i64 a0_0,.int .i64 a0_1,.slice (some ad) l0_2.length c0_2] 26 (0,0)) (.cells #[.string s0,.int .i64 s1,.int .i64 s2,.slice A3 s3.length c3,.slice A4 s4.length c4,.int .i64 s5,.int .i64 s6] 39 (0,0)) → w'.cell? ⟨g1,0,none⟩ = some (.int .i64 a0_0) ∧ w'.cell? ⟨g1,1,none⟩ = some (.int .i64 a0_1) ∧ w'.cell? ⟨g1,2,none⟩ = some (.slice (some ad) l0_2.length c0_2) ∧ w'.cell? ⟨wr.heap.size,0,none⟩ = some (.string s0) ∧ w'.cell? ⟨wr.heap.size,1,none⟩ = some (.int .i64 s1) ∧ w'.cell? ⟨wr.heap.size,2,none⟩ = some (.int .i64 s2) ∧ w'.cell? ⟨wr.heap.size,3,none⟩ = some (.slice A3 s3.length c3) ∧ w'.cell? ⟨wr.heap.size,4,none⟩ = some (.slice A4 s4.length c4) ∧ w'.cell? ⟨wr.heap.size,5,none⟩ = some (.int .i64 s5) ∧ w'.cell? ⟨wr.heap.size,6,none⟩ = some (.int .i64 s6) ∧ zcZ w w' g1 wr.heap.size (.cells #[.int .i64 a0_0,.int .i64 a0_1,.slice (some ad) l0_2.length c0_2] 26 (0,0)) (.cells #[.string s0,.int .i64 s1,.int .i64 s2,.slice A3 s3.length c3,.slice A4 s4.length c4,.int .i64 s5,.int .i64 s6] 39 (0,0))) := ⟨fun w' h => ⟨(zb h.c1 0).trans rfl,(zb h.c1 1).trans rfl,(zb h.c1 2).trans rfl,(zb h.c4 0).trans rfl,(zb h.c4 1).trans rfl,(zb h.c4 2).trans rfl,(zb h.c4 3).trans rfl,(zb h.c4 4).trans rfl,(zb h.c4 5).trans rfl,(zb h.c4 6).trans rfl,h⟩⟩
   have LM : za (∀ w' : World,(w'.cell? ⟨g1,0,none⟩ = some (.int .i64 a0_0) ∧ w'.cell? ⟨g1,1,none⟩ = some (.int .i64 a0_1) ∧ w'.cell? ⟨g1,2,none⟩ = some (.slice (some ad) l0_2.length c0_2) ∧ w'.cell? ⟨wr.heap.size,0,none⟩ = some (.string s0) ∧ w'.cell? ⟨wr.heap.size,1,none⟩ = some (.int .i64 s1) ∧ w'.cell? ⟨wr.heap.size,2,none⟩ = some (.int .i64 s2) ∧ w'.cell? ⟨wr.heap.size,3,none⟩ = some (.slice A3 s3.length c3) ∧ w'.cell? ⟨wr.heap.size,4,none⟩ = some (.slice A4 s4.length c4) ∧ w'.cell? ⟨wr.heap.size,5,none⟩ = some (.int .i64 s5) ∧ w'.cell? ⟨wr.heap.size,6,none⟩ = some (.int .i64 s6) ∧ zcZ w w' g1 wr.heap.size (.cells #[.int .i64 a0_0,.int .i64 a0_1,.slice (some ad) l0_2.length c0_2] 26 (0,0)) (.cells #[.string s0,.int .i64 s1,.int .i64 s2,.slice A3 s3.length c3,.slice A4 s4.length c4,.int .i64 s5,.int .i64 s6] 39 (0,0))) → zcZ w w' g1 wr.heap.size (.cells #[.int .i64 a0_0,.int .i64 a0_1,.slice (some ad) l0_2.length c0_2] 26 (0,0)) (.cells #[.string s0,.int .i64 s1,.int .i64 s2,.slice A3 s3.length c3,.slice A4 s4.length c4,.int .i64 s5,.int .i64 s6] 39 (0,0))) := ⟨fun w' h => h.2.2.2.2.2.2.2.2.2.2⟩
   refine zbV (n := 41) (S := fun w' => w'.cell? ⟨g1,0,none⟩ = some (.int .i64 a0_0) ∧ w'.cell? ⟨g1,1,none⟩ = some (.int .i64 a0_1) ∧ w'.cell? ⟨g1,2,none⟩ = some (.slice (some ad) l0_2.length c0_2) ∧ w'.cell? ⟨wr.heap.size,0,none⟩ = some (.string s0) ∧ w'.cell? ⟨wr.heap.size,1,none⟩ = some (.int .i64 s1) ∧ w'.cell? ⟨wr.heap.size,2,none⟩ = some (.int .i64 s2) ∧ w'.cell? ⟨wr.heap.size,3,none⟩ = some (.slice A3 s3.length c3) ∧ w'.cell? ⟨wr.heap.size,4,none⟩ = some (.slice A4 s4.length c4) ∧ w'.cell? ⟨wr.heap.size,5,none⟩ = some (.int .i64 s5) ∧ w'.cell? ⟨wr.heap.size,6,none⟩ = some (.int .i64 s6) ∧ zcZ w w' g1 wr.heap.size (.cells #[.int .i64 a0_0,.int .i64 a0_1,.slice (some ad) l0_2.length c0_2] 26 (0,0)) (.cells #[.string s0,.int .i64 s1,.int .i64 s2,.slice A3 s3.length c3,.slice A4 s4.length c4,.int .i64 s5,.int .i64 s6] 39 (0,0))) (ds := []) (zaa 41 0) (by kernel_rfl) rfl rfl (MK.out _ M5.out.drew) (fun hHeld => ?_);refine zaQ zaI.tab7 zaI.bits7 (fun HT_ HW_ => ?_)
   clear M5
   refine puq (i := 0) (N := some 32) HT_.out (zaa 41 1) ?_
   by_cases h1 : e1 = 0
   ·have c1 : (e1 != 0) = false := by rw [h1];rfl
    have Kh1 := za.mk h1
    clear h1
    refine puq (i := 1) (N := some 33) HT_.out (zaa 41 2) ?_
    refine puq (i := 2) (N := some 34) HT_.out (zaa 41 3) ?_
    refine puq (i := 3) (N := some 35) HT_.out (zaa 41 4) ?_
    refine puq (i := 4) (N := some 36) HT_.out (zaa 41 5) ?_
    refine take_ (i := 5) (N := some 37) (zaa 41 6) rfl rfl (zU HT_.out HW_.out (by kernel_rfl)) (fun _ _ _ h => h) (Or.inl ⟨by rfl,by rintro w' ⟨r0,r1,r2,r3,r4,r5,r6,r7,r8,r9,hM⟩;go_simp;with_reducible rfl⟩) hHeld hPq ?_
    by_cases h2 : D = s0
    ·have c2 : (D.toList == s0.toList) = true := by rw [zb1];exact decide_eq_true h2
     have Kh2 := za.mk h2
     clear h2
     refine puq (i := 6) (N := some 38) HT_.out (zaa 41 7) ?_
     refine puq (i := 7) (N := some 39) HT_.out (zaa 41 8) ?_
     refine puq (i := 8) (N := some 40) HT_.out (zaa 41 9) ?_
     refine puq (i := 9) (N := some 41) HT_.out (zaa 41 10) ?_
     refine puq (i := 10) (N := some 42) HT_.out (zaa 41 11) ?_
     refine take_ (i := 11) (N := some 43) (zaa 41 12) rfl rfl (zU HT_.out HW_.out (by kernel_rfl)) (fun _ _ _ h => h) (Or.inl ⟨by rfl,by rintro w' ⟨r0,r1,r2,r3,r4,r5,r6,r7,r8,r9,hM⟩;go_simp;with_reducible rfl⟩) hHeld hPq ?_
     refine puq (i := 12) (N := some 44) HT_.out (zaa 41 13) ?_
     refine take_ (i := 13) (N := some 45) (zaa 41 14) rfl rfl (zU HT_.out HW_.out (by kernel_rfl)) (fun _ _ _ h => h) (Or.inl ⟨by rfl,by rintro w' ⟨r0,r1,r2,r3,r4,r5,r6,r7,r8,r9,hM⟩;go_simp;with_reducible rfl⟩) hHeld hPq ?_
     by_cases h3 : s2 ≤ a0_1
     ·have c3b : decide (s2 ≤ a0_1) = true := decide_eq_true h3
      have HE : za (okE a0_0 a0_1 l0_2 k ⟨s0,⟨s1,s2,s3,s4,⟨s5,s6⟩⟩⟩ = false) := ⟨by rw [HKE.out,decide_eq_false (by omega : ¬ a0_1 < s2)];simp⟩
      have Kh3 := za.mk h3
      clear h3
      refine puq (i := 14) (N := some 46) HT_.out (zaa 41 15) ?_
      refine puq (i := 15) (N := some 47) HT_.out (zaa 41 16) ?_
      refine puq (i := 16) (N := some 48) HT_.out (zaa 41 17) ?_
      refine zdV (fun _ _ _ _ _ h => h) HT_.out [(17,49),(18,50),(19,51),(20,52),(21,53),(22,54)] 18 rfl (zaa 41 23) (by kernel_rfl) (by kernel_rfl) (a' := ?_) ?_ ?_
      rotate_left
      ·simp only [zcB,Act.put,List.setIfInBounds_toArray,List.set_cons_zero,List.set_cons_succ]
       rfl
      refine puq (i := 23) (N := some 55) HT_.out (zaa 41 24) ?_
      refine puq (i := 24) (N := some 56) HT_.out (zaa 41 25) ?_
      refine zdV (fun _ _ _ _ _ h => h) HT_.out [(25,57),(26,58),(27,59),(28,60),(29,61),(30,62),(31,63),(32,64),(33,65),(34,66),(35,67),(36,68),(37,69),(38,70),(39,71)] 1 rfl (zaa 41 40) (by kernel_rfl) (by kernel_rfl) (a' := ?_) ?_ ?_
      rotate_left
      ·simp only [zcB,Act.put,List.setIfInBounds_toArray,List.set_cons_zero,List.set_cons_succ]
       rfl
      refine puq (i := 40) (N := some 72) HT_.out (zaa 41 41) ?_
      refine zbX (zaX HT_.out (by kernel_rfl)) ?_
      have HZ := za.mk hHeld.2.2.2.2.2.2.2.2.2.2.b
      go_wp2
      go_ret
      exact ⟨by rw [HNO.out HE.out];rfl,HZ.out⟩
     ·have c3b : decide (s2 ≤ a0_1) = false := decide_eq_false h3
      have Kh3 := za.mk h3
      clear h3
      refine puq (i := 14) (N := some 46) HT_.out (zaa 41 15) ?_
      refine puq (i := 15) (N := some 47) HT_.out (zaa 41 16) ?_
      refine puq (i := 16) (N := some 48) HT_.out (zaa 41 17) ?_
      refine take_ (i := 17) (N := some 49) (zaa 41 18) rfl rfl (zU HT_.out HW_.out (by kernel_rfl)) (fun _ _ _ h => h) (Or.inl ⟨by rfl,by rintro w' ⟨r0,r1,r2,r3,r4,r5,r6,r7,r8,r9,hM⟩;go_simp;with_reducible rfl⟩) hHeld hPq ?_
      refine puq (i := 18) (N := some 50) HT_.out (zaa 41 19) ?_
      refine take_ (i := 19) (N := some 51) (zaa 41 20) rfl rfl (zU HT_.out HW_.out (by kernel_rfl)) (fun _ _ _ h => h) (Or.inl ⟨by rfl,by rintro w' ⟨r0,r1,r2,r3,r4,r5,r6,r7,r8,r9,hM⟩;go_simp;with_reducible rfl⟩) hHeld hPq ?_
      have HMM : za (zag.f a0_0 a0_1 l0_2 s1 s2 s3 s4 s5 s6 = some lost) := ⟨HMM0.out (by have h_ := HZ0.out Kh1.out;omega)⟩
      refine zct (i := 20) (N := some 52) (zaa 41 21) rfl rfl (za0 HT_.out (by kernel_rfl)) (by decide) (fun K hK => ?_)
      refine zbG Tryz.func14 (by kernel_rfl) rfl #[.agg #[.int .i64 a0_0,.int .i64 a0_1,.slice (some ad) l0_2.length c0_2],.agg #[.int .i64 s1,.int .i64 s2,.slice A3 s3.length c3,.slice A4 s4.length c4,.int .i64 s5,.int .i64 s6]] (by rfl) rfl rfl (by (try simp only [List.map_toArray,List.map_cons,List.map_nil]);first | done | rfl | (simp only [HJ.out];rfl)) ?_
      with_reducible refine (zag.calls a0_0 a0_1 _ _ l0_2 s1 s2 _ _ s3 _ _ s4 s5 s6 lost _ (Kd.C_below HR.out (LM.out _ hHeld).b) HC.out (Kd.C_below HQ1w.out (LM.out _ hHeld).b) HQ2.out (Kd.C_below HQ3w.out (LM.out _ hHeld).b) HQ4.out HMM.out).mono ?_
      rintro e w6 ⟨v0,rfl,hR,hbw⟩;obtain ⟨A7,c7,rfl⟩ := Kd.R_slice hR;clear hR
      refine ⟨_,rfl,?_⟩
      refine hK.out _ _ (MK.out _ ((LM.out _ hHeld).step hbw)) (fun hHeld => ?_)
      clear hK K
      refine za5 (a' := ?_) ?_ ?_
      rotate_left
      ·show Act.put _ (some 52) _ = _
       simp only [Act.put,List.setIfInBounds_toArray,List.set_cons_zero,List.set_cons_succ,zam,zap]
       rfl
      refine puq (i := 21) (N := some 53) HT_.out (zaa 41 22) ?_
      by_cases h4 : lost.length = 0
      ·have cl4 : decide ((0 : Int) < (lost.length : Int)) = false := decide_eq_false (by omega)
       have cl4' : decide (0 < lost.length) = false := decide_eq_false (by omega)
       have Kh4 := za.mk h4
       clear h4
       refine puq (i := 22) (N := some 54) HT_.out (zaa 41 23) ?_
       refine puq (i := 23) (N := some 55) HT_.out (zaa 41 24) ?_
       refine puq (i := 24) (N := some 56) HT_.out (zaa 41 25) ?_
       by_cases h5 : k = 0
       ·have c6n : decide (0 < k) = false := decide_eq_false (by omega)
        have c6 : decide ((0 : Int) < (k : Int)) = false := decide_eq_false (by omega)
        have HE : za (okE a0_0 a0_1 l0_2 k ⟨s0,⟨s1,s2,s3,s4,⟨s5,s6⟩⟩⟩ = true) := ⟨by rw [HKE.out,decide_eq_true Kh1.out,decide_eq_true Kh2.out,decide_eq_true (by have h_ := Kh3.out;omega : a0_1 < s2),decide_eq_true Kh4.out,decide_eq_true h5];rfl⟩
        have Kh5 := za.mk h5
        clear h5
        refine puq (i := 25) (N := some 57) HT_.out (zaa 41 26) ?_
        refine puq (i := 26) (N := some 58) HT_.out (zaa 41 27) ?_
        refine puq (i := 27) (N := some 59) HT_.out (zaa 41 28) ?_
        refine zdV (fun _ _ _ _ _ h => h) HT_.out [(28,60),(29,61),(30,62),(31,63),(32,64),(33,65),(34,66),(35,67),(36,68),(37,69),(38,70)] 2 rfl (zaa 41 39) (by kernel_rfl) (by kernel_rfl) (a' := ?_) ?_ ?_
        rotate_left
        ·simp only [zcB,Act.put,List.setIfInBounds_toArray,List.set_cons_zero,List.set_cons_succ]
         rfl
        refine puq (i := 39) (N := some 71) HT_.out (zaa 41 40) ?_
        refine puq (i := 40) (N := some 72) HT_.out (zaa 41 41) ?_
        refine zbX (zaX HT_.out (by kernel_rfl)) ?_
        have HZ := za.mk hHeld.2.2.2.2.2.2.2.2.2.2.b
        have HB1 := za.mk hHeld.2.2.2.2.2.2.2.2.2.2.c1
        clear hHeld HT_ HW_
        go_wp2_with fail
        go_roundw
        all_goals first | (case rel => exact ⟨k + 1,by go_num,by omega,⟨HYE.out HE.out⟩,HB1,HZ⟩) | (case measure => simp;omega) | exact ⟨⟨k + 1,by go_num,by omega,⟨HYE.out HE.out⟩,HB1,HZ⟩,by simp;omega⟩
       ·have c6n : decide (0 < k) = true := decide_eq_true (by omega)
        have c6 : decide ((0 : Int) < (k : Int)) = true := decide_eq_true (by omega)
        have Kh5 := za.mk h5
        clear h5
        obtain ⟨j,hjd⟩ : ∃ j,j = k - 1 := ⟨_,rfl⟩
        rw [← hjd] at HKE
        obtain ⟨ad',B3,d3,B4,d4,hA,hy0,hy1,hy2,hy3,hy4,hy5,hy6,_,_,_,_⟩ := zbe HR.out (j : Int) (by omega) (by omega)
        have hgp : l0_2.getD j z39 = zd l0_2 (j : Int) := by rw [zd,Int.toNat_natCast]
        obtain rfl : ad = ad' := (by injection hA)
        rw [Int.toNat_natCast] at hy0 hy1 hy2 hy3 hy4 hy5 hy6
        have HKP : za ((0 : Int) ≤ (j : Int)) := ⟨by omega⟩
        have HJ : za (wrap64 ((k : Int) - 1) = (j : Int)) := ⟨by have h_ := hm2;have h5_ := Kh5.out;have hl_ := hlt;rw [show (k : Int) - 1 = (j : Int) by omega];exact z4 (by omega) (by omega)⟩
        have p0 : ((0 : Int) ≤ (j : Int)) = True := eq_true (by omega)
        have p1 : ((j : Int) < (l0_2.length : Int)) = True := eq_true (by omega)
        have hj := HJ.out
        rw [hgp] at HKE
        generalize zd l0_2 (j : Int) = u at *
        obtain ⟨t0,⟨t1,t2,t3,t4,⟨t5,t6⟩⟩⟩ := u
        generalize t3.length = m3 at *
        generalize t4.length = m4 at *
        have HPR : za (∀ w',Below w.heap.size w w' → w'.cell? (ad.add (j * 7)) = some (.string t0) ∧ w'.cell? ⟨(ad.add (j * 7)).block,(ad.add (j * 7)).off + 1,none⟩ = some (.int .i64 t1) ∧ w'.cell? ⟨(ad.add (j * 7)).block,(ad.add (j * 7)).off + 2,none⟩ = some (.int .i64 t2) ∧ w'.cell? ⟨(ad.add (j * 7)).block,(ad.add (j * 7)).off + 3,none⟩ = some (.slice B3 m3 d3) ∧ w'.cell? ⟨(ad.add (j * 7)).block,(ad.add (j * 7)).off + 4,none⟩ = some (.slice B4 m4 d4) ∧ w'.cell? ⟨(ad.add (j * 7)).block,(ad.add (j * 7)).off + 5,none⟩ = some (.int .i64 t5) ∧ w'.cell? ⟨(ad.add (j * 7)).block,(ad.add (j * 7)).off + 6,none⟩ = some (.int .i64 t6)) := ⟨fun w' hb' => ⟨(hb'.cell (World.block_lt_of_cell? w _ hy0)).trans hy0,(hb'.cell (World.block_lt_of_cell? w _ hy1)).trans hy1,(hb'.cell (World.block_lt_of_cell? w _ hy2)).trans hy2,(hb'.cell (World.block_lt_of_cell? w _ hy3)).trans hy3,(hb'.cell (World.block_lt_of_cell? w _ hy4)).trans hy4,(hb'.cell (World.block_lt_of_cell? w _ hy5)).trans hy5,(hb'.cell (World.block_lt_of_cell? w _ hy6)).trans hy6⟩⟩
        clear hy0 hy1 hy2 hy3 hy4 hy5 hy6 hA hgp hjd
        refine puq (i := 25) (N := some 57) HT_.out (zaa 41 26) ?_
        refine puq (i := 26) (N := some 58) HT_.out (zaa 41 27) ?_
        refine puq (i := 27) (N := some 59) HT_.out (zaa 41 28) ?_
        refine puq (i := 28) (N := some 60) HT_.out (zaa 41 29) ?_
        refine take_ (i := 29) (N := some 61) (zaa 41 30) rfl rfl (zU HT_.out HW_.out (by kernel_rfl)) (fun _ _ _ h => h) (Or.inl ⟨by rfl,by rintro w' ⟨r0,r1,r2,r3,r4,r5,r6,r7,r8,r9,hM⟩;go_simp;with_reducible rfl⟩) hHeld hPq ?_
        refine puq (i := 30) (N := some 62) HT_.out (zaa 41 31) ?_
        refine puq (i := 31) (N := some 63) HT_.out (zaa 41 32) ?_
        refine puq (i := 32) (N := some 64) HT_.out (zaa 41 33) ?_
        refine puq (i := 33) (N := some 65) HT_.out (zaa 41 34) ?_
        refine take_ (i := 34) (N := some 66) (zaa 41 35) rfl rfl (zU HT_.out HW_.out (by kernel_rfl)) (fun _ _ _ h => h) (Or.inl ⟨by rfl,by rintro w' ⟨r0,r1,r2,r3,r4,r5,r6,r7,r8,r9,hM⟩;obtain ⟨u0,u1,u2,u3,u4,u5,u6⟩ := HPR.out w' hM.b;go_simp;with_reducible rfl⟩) hHeld hPq ?_
        refine puq (i := 35) (N := some 67) HT_.out (zaa 41 36) ?_
        refine take_ (i := 36) (N := some 68) (zaa 41 37) rfl rfl (zU HT_.out HW_.out (by kernel_rfl)) (fun _ _ _ h => h) (Or.inl ⟨by rfl,by rintro w' ⟨r0,r1,r2,r3,r4,r5,r6,r7,r8,r9,hM⟩;go_simp;with_reducible rfl⟩) hHeld hPq ?_
        rcases h6 : zbd t1 t2 s1 s2 with _ | _
        ·have HA := za.mk h6
         have HE : za (okE a0_0 a0_1 l0_2 k ⟨s0,⟨s1,s2,s3,s4,⟨s5,s6⟩⟩⟩ = false) := ⟨by rw [HKE.out,decide_eq_false Kh5.out];simp [HA.out]⟩
         clear h6
         refine zct (i := 37) (N := some 69) (zaa 41 38) rfl rfl (za0 HT_.out (by kernel_rfl)) (by decide) (fun K hK => ?_)
         refine zbG Tryz.func17 (by kernel_rfl) rfl #[.agg #[.int .i64 t1,.int .i64 t2,.slice B3 m3 d3,.slice B4 m4 d4,.int .i64 t5,.int .i64 t6],.agg #[.int .i64 s1,.int .i64 s2,.slice A3 s3.length c3,.slice A4 s4.length c4,.int .i64 s5,.int .i64 s6]] (by rfl) rfl rfl (by (try simp only [List.map_toArray,List.map_cons,List.map_nil]);first | done | rfl | (simp only [HJ.out];rfl)) ?_
         with_reducible refine (zfh.walk t1 t2 B3 m3 d3 B4 m4 d4 t5 t6 s1 s2 A3 s3.length c3 A4 s4.length c4 s5 s6 _).mono ?_
         rintro e w7 ⟨rfl,hbw⟩;rw [HA.out]
         refine ⟨_,rfl,?_⟩
         refine hK.out _ _ (MK.out _ ((LM.out _ hHeld).step hbw)) (fun hHeld => ?_)
         clear hK K
         refine za5 (a' := ?_) ?_ ?_
         rotate_left
         ·show Act.put _ (some 69) _ = _
          simp only [Act.put,List.setIfInBounds_toArray,List.set_cons_zero,List.set_cons_succ,zam,zap]
          rfl
         refine puq (i := 38) (N := some 70) HT_.out (zaa 41 39) ?_
         refine puq (i := 39) (N := some 71) HT_.out (zaa 41 40) ?_
         refine puq (i := 40) (N := some 72) HT_.out (zaa 41 41) ?_
         refine zbX (zaX HT_.out (by kernel_rfl)) ?_
         have HZ := za.mk hHeld.2.2.2.2.2.2.2.2.2.2.b
         go_wp2
         go_ret
         exact ⟨by rw [HNO.out HE.out];rfl,HZ.out⟩
        ·have HA := za.mk h6
         have HE : za (okE a0_0 a0_1 l0_2 k ⟨s0,⟨s1,s2,s3,s4,⟨s5,s6⟩⟩⟩ = true) := ⟨by rw [HKE.out,decide_eq_true Kh1.out,decide_eq_true Kh2.out,decide_eq_true (by have h_ := Kh3.out;omega : a0_1 < s2),decide_eq_true Kh4.out];simp [HA.out]⟩
         clear h6
         refine zct (i := 37) (N := some 69) (zaa 41 38) rfl rfl (za0 HT_.out (by kernel_rfl)) (by decide) (fun K hK => ?_)
         refine zbG Tryz.func17 (by kernel_rfl) rfl #[.agg #[.int .i64 t1,.int .i64 t2,.slice B3 m3 d3,.slice B4 m4 d4,.int .i64 t5,.int .i64 t6],.agg #[.int .i64 s1,.int .i64 s2,.slice A3 s3.length c3,.slice A4 s4.length c4,.int .i64 s5,.int .i64 s6]] (by rfl) rfl rfl (by (try simp only [List.map_toArray,List.map_cons,List.map_nil]);first | done | rfl | (simp only [HJ.out];rfl)) ?_
         with_reducible refine (zfh.walk t1 t2 B3 m3 d3 B4 m4 d4 t5 t6 s1 s2 A3 s3.length c3 A4 s4.length c4 s5 s6 _).mono ?_
         rintro e w7 ⟨rfl,hbw⟩;rw [HA.out]
         refine ⟨_,rfl,?_⟩
         refine hK.out _ _ (MK.out _ ((LM.out _ hHeld).step hbw)) (fun hHeld => ?_)
         clear hK K
         refine za5 (a' := ?_) ?_ ?_
         rotate_left
         ·show Act.put _ (some 69) _ = _
          simp only [Act.put,List.setIfInBounds_toArray,List.set_cons_zero,List.set_cons_succ,zam,zap]
          rfl
         refine puq (i := 38) (N := some 70) HT_.out (zaa 41 39) ?_
         refine puq (i := 39) (N := some 71) HT_.out (zaa 41 40) ?_
         refine puq (i := 40) (N := some 72) HT_.out (zaa 41 41) ?_
         refine zbX (zaX HT_.out (by kernel_rfl)) ?_
         have HZ := za.mk hHeld.2.2.2.2.2.2.2.2.2.2.b
         have HB1 := za.mk hHeld.2.2.2.2.2.2.2.2.2.2.c1
         clear hHeld HT_ HW_
         go_wp2_with fail
         go_roundw
         all_goals first | (case rel => exact ⟨k + 1,by go_num,by omega,⟨HYE.out HE.out⟩,HB1,HZ⟩) | (case measure => simp;omega) | exact ⟨⟨k + 1,by go_num,by omega,⟨HYE.out HE.out⟩,HB1,HZ⟩,by simp;omega⟩
      ·have cl4 : decide ((0 : Int) < (lost.length : Int)) = true := decide_eq_true (by omega)
       have cl4' : decide (0 < lost.length) = true := decide_eq_true (by omega)
       have HE : za (okE a0_0 a0_1 l0_2 k ⟨s0,⟨s1,s2,s3,s4,⟨s5,s6⟩⟩⟩ = false) := ⟨by rw [HKE.out,decide_eq_false h4];simp⟩
       have Kh4 := za.mk h4
       clear h4
       refine puq (i := 22) (N := some 54) HT_.out (zaa 41 23) ?_
       refine puq (i := 23) (N := some 55) HT_.out (zaa 41 24) ?_
       refine puq (i := 24) (N := some 56) HT_.out (zaa 41 25) ?_
       refine zdV (fun _ _ _ _ _ h => h) HT_.out [(25,57),(26,58),(27,59),(28,60),(29,61),(30,62),(31,63),(32,64),(33,65),(34,66),(35,67),(36,68),(37,69),(38,70),(39,71)] 1 rfl (zaa 41 40) (by kernel_rfl) (by kernel_rfl) (a' := ?_) ?_ ?_
       rotate_left
       ·simp only [zcB,Act.put,List.setIfInBounds_toArray,List.set_cons_zero,List.set_cons_succ]
        rfl
       refine puq (i := 40) (N := some 72) HT_.out (zaa 41 41) ?_
       refine zbX (zaX HT_.out (by kernel_rfl)) ?_
       have HZ := za.mk hHeld.2.2.2.2.2.2.2.2.2.2.b
       go_wp2
       go_ret
       exact ⟨by rw [HNO.out HE.out];rfl,HZ.out⟩
    ·have c2 : (D.toList == s0.toList) = false := by rw [zb1];exact decide_eq_false h2
     have HE : za (okE a0_0 a0_1 l0_2 k ⟨s0,⟨s1,s2,s3,s4,⟨s5,s6⟩⟩⟩ = false) := ⟨by rw [HKE.out,decide_eq_false h2];simp⟩
     have Kh2 := za.mk h2
     clear h2
     refine puq (i := 6) (N := some 38) HT_.out (zaa 41 7) ?_
     refine puq (i := 7) (N := some 39) HT_.out (zaa 41 8) ?_
     refine puq (i := 8) (N := some 40) HT_.out (zaa 41 9) ?_
     refine zdV (fun _ _ _ _ _ h => h) HT_.out [(9,41),(10,42),(11,43),(12,44),(13,45),(14,46)] 26 rfl (zaa 41 15) (by kernel_rfl) (by kernel_rfl) (a' := ?_) ?_ ?_
     rotate_left
     ·simp only [zcB,Act.put,List.setIfInBounds_toArray,List.set_cons_zero,List.set_cons_succ]
      rfl
     refine puq (i := 15) (N := some 47) HT_.out (zaa 41 16) ?_
     refine puq (i := 16) (N := some 48) HT_.out (zaa 41 17) ?_
     refine zdV (fun _ _ _ _ _ h => h) HT_.out [(17,49),(18,50),(19,51),(20,52),(21,53),(22,54)] 18 rfl (zaa 41 23) (by kernel_rfl) (by kernel_rfl) (a' := ?_) ?_ ?_
     rotate_left
     ·simp only [zcB,Act.put,List.setIfInBounds_toArray,List.set_cons_zero,List.set_cons_succ]
      rfl
     refine puq (i := 23) (N := some 55) HT_.out (zaa 41 24) ?_
     refine puq (i := 24) (N := some 56) HT_.out (zaa 41 25) ?_
     refine zdV (fun _ _ _ _ _ h => h) HT_.out [(25,57),(26,58),(27,59),(28,60),(29,61),(30,62),(31,63),(32,64),(33,65),(34,66),(35,67),(36,68),(37,69),(38,70),(39,71)] 1 rfl (zaa 41 40) (by kernel_rfl) (by kernel_rfl) (a' := ?_) ?_ ?_
     rotate_left
     ·simp only [zcB,Act.put,List.setIfInBounds_toArray,List.set_cons_zero,List.set_cons_succ]
      rfl
     refine puq (i := 40) (N := some 72) HT_.out (zaa 41 41) ?_
     refine zbX (zaX HT_.out (by kernel_rfl)) ?_
     have HZ := za.mk hHeld.2.2.2.2.2.2.2.2.2.2.b
     go_wp2
     go_ret
     exact ⟨by rw [HNO.out HE.out];rfl,HZ.out⟩
   ·have c1 : (e1 != 0) = true := bne_iff_ne.2 h1
    have HE : za (okE a0_0 a0_1 l0_2 k ⟨s0,⟨s1,s2,s3,s4,⟨s5,s6⟩⟩⟩ = false) := ⟨by rw [HKE.out,decide_eq_false h1];simp⟩
    have Kh1 := za.mk h1
    clear h1
    refine puq (i := 1) (N := some 33) HT_.out (zaa 41 2) ?_
    refine puq (i := 2) (N := some 34) HT_.out (zaa 41 3) ?_
    refine zdV (fun _ _ _ _ _ h => h) HT_.out [(3,35),(4,36),(5,37),(6,38)] 34 rfl (zaa 41 7) (by kernel_rfl) (by kernel_rfl) (a' := ?_) ?_ ?_
    rotate_left
    ·simp only [zcB,Act.put,List.setIfInBounds_toArray,List.set_cons_zero,List.set_cons_succ]
     rfl
    refine puq (i := 7) (N := some 39) HT_.out (zaa 41 8) ?_
    refine puq (i := 8) (N := some 40) HT_.out (zaa 41 9) ?_
    refine zdV (fun _ _ _ _ _ h => h) HT_.out [(9,41),(10,42),(11,43),(12,44),(13,45),(14,46)] 26 rfl (zaa 41 15) (by kernel_rfl) (by kernel_rfl) (a' := ?_) ?_ ?_
    rotate_left
    ·simp only [zcB,Act.put,List.setIfInBounds_toArray,List.set_cons_zero,List.set_cons_succ]
     rfl
    refine puq (i := 15) (N := some 47) HT_.out (zaa 41 16) ?_
    refine puq (i := 16) (N := some 48) HT_.out (zaa 41 17) ?_
    refine zdV (fun _ _ _ _ _ h => h) HT_.out [(17,49),(18,50),(19,51),(20,52),(21,53),(22,54)] 18 rfl (zaa 41 23) (by kernel_rfl) (by kernel_rfl) (a' := ?_) ?_ ?_
    rotate_left
    ·simp only [zcB,Act.put,List.setIfInBounds_toArray,List.set_cons_zero,List.set_cons_succ]
     rfl
    refine puq (i := 23) (N := some 55) HT_.out (zaa 41 24) ?_
    refine puq (i := 24) (N := some 56) HT_.out (zaa 41 25) ?_
    refine zdV (fun _ _ _ _ _ h => h) HT_.out [(25,57),(26,58),(27,59),(28,60),(29,61),(30,62),(31,63),(32,64),(33,65),(34,66),(35,67),(36,68),(37,69),(38,70),(39,71)] 1 rfl (zaa 41 40) (by kernel_rfl) (by kernel_rfl) (a' := ?_) ?_ ?_
    rotate_left
    ·simp only [zcB,Act.put,List.setIfInBounds_toArray,List.set_cons_zero,List.set_cons_succ]
     rfl
    refine puq (i := 40) (N := some 72) HT_.out (zaa 41 41) ?_
    refine zbX (zaX HT_.out (by kernel_rfl)) ?_
    have HZ := za.mk hHeld.2.2.2.2.2.2.2.2.2.2.b
    go_wp2
    go_ret
    exact ⟨by rw [HNO.out HE.out];rfl,HZ.out⟩
  ·obtain rfl : k = l0_2.length := by omega
   have hb : decide (l0_2.length < l0_2.length) = false := decide_eq_false (Nat.lt_irrefl _)
   go_wp2_with fail
   go_ret
   exact ⟨by rw [rightE_yes _ _ _ HN.out (by have h_ := HLOW.out;omega) HF.out];rfl,HB.out⟩
def zaI.f (a0_0 : Int) (a0_1 : Int) (l0_2 : List (S39)) : Option (Bool) := if l0_2.length < 1466015503701 then some (zbO a0_0 a0_1 l0_2) else none
theorem zaI.calls (a0_0 : Int) (a0_1 : Int) (A0_2 : Option Addr) (c0_2 : Nat) (l0_2 : List (S39)) (r : Bool) (w : World) (hr0_2 : Kd.C k39 w A0_2 l0_2.length l0_2) (hc0_2 : l0_2.length ≤ c0_2) (h : zaI.f a0_0 a0_1 l0_2 = some r) :
  Calls Tryz.prog 10 #[.agg #[.int .i64 a0_0,.int .i64 a0_1,.slice A0_2 l0_2.length c0_2]] w fun e w' => e = .returned (.bool r) ∧ Below w.heap.size w w' := by
 unfold zaI.f at h
 split at h
 ·rename_i hl
  obtain rfl := Option.some.inj h
  exact zaI.walk a0_0 a0_1 A0_2 c0_2 l0_2 w hr0_2 hc0_2 hl
 ·cases h
def zaO.f  : Option (Bool) := (zar.f 4 0 ([] : List (S39)) 2 1 ([] : List (S75)) ([] : List ByteArray) 0 0).bind fun yg => ((zar.f yg.1 yg.2.1 yg.2.2.1 2 1 ([] : List (S75)) ([] : List ByteArray) 0 0).bind fun yv => (if yg.2.2.2 = 0 then (if yv.2.2.2 = 8 then (if (yg.2.2.1.length : Int) = 1 then (if 0 < (yg.2.2.1.length : Int) then (if (((zd yg.2.2.1 0).f0).size : Int) = 32 then ((zaI.f yg.1 yg.2.1 yg.2.2.1).bind fun yp => (some yp)) else (some false)) else (none)) else (some false)) else (some false)) else (some false)))
set_option maxHeartbeats 8000000 in
set_option maxRecDepth 100000 in
theorem zaO.calls  (r : Bool) (w : World) (h : zaO.f  = some r) :
  Calls Tryz.prog 4 #[] w fun e w' => e = .returned (.bool r) ∧ Below w.heap.size w w' := by
 have hu26 := Tryz.underlying26
 have hu35 := Tryz.underlying35
 have HB := za.mk (Below.refl w.heap.size w)
 have H : ((zar.f 4 0 ([] : List (S39)) 2 1 ([] : List (S75)) ([] : List ByteArray) 0 0).bind fun yg => ((zar.f yg.1 yg.2.1 yg.2.2.1 2 1 ([] : List (S75)) ([] : List ByteArray) 0 0).bind fun yv => (if yg.2.2.2 = 0 then (if yv.2.2.2 = 8 then (if (yg.2.2.1.length : Int) = 1 then (if 0 < (yg.2.2.1.length : Int) then (if (((zd yg.2.2.1 0).f0).size : Int) = 32 then ((zaI.f yg.1 yg.2.1 yg.2.2.1).bind fun yp => (some yp)) else (some false)) else (none)) else (some false)) else (some false)) else (some false)))) = some r := h
 clear h
 replace H := Option.bind_eq_some_iff.mp H
 obtain ⟨⟨yj,yk,yc,yw⟩,A10,H⟩ := H
 replace H : ((zar.f yj yk yc 2 1 ([] : List (S75)) ([] : List ByteArray) 0 0).bind fun yv => (if yw = 0 then (if yv.2.2.2 = 8 then (if (yc.length : Int) = 1 then (if 0 < (yc.length : Int) then (if (((zd yc 0).f0).size : Int) = 32 then ((zaI.f yj yk yc).bind fun yp => (some yp)) else (some false)) else (none)) else (some false)) else (some false)) else (some false))) = some r := H
 have A1 := za.mk A10
 clear A10
 replace H := Option.bind_eq_some_iff.mp H
 obtain ⟨⟨yt,yu,yo,yx⟩,A20,H⟩ := H
 replace H : (if yw = 0 then (if yx = 8 then (if (yc.length : Int) = 1 then (if 0 < (yc.length : Int) then (if (((zd yc 0).f0).size : Int) = 32 then ((zaI.f yj yk yc).bind fun yp => (some yp)) else (some false)) else (none)) else (some false)) else (some false)) else (some false)) = some r := H
 have A2 := za.mk A20
 clear A20
 by_cases c3 : yw = 0
 focus
  rw [if_pos c3] at H
  have c3b0 : (yw == 0) = true := beq_iff_eq.mpr c3
  have c3b1 : (yw != 0) = false := bne_eq_false_iff_eq.mpr c3
  clear c3
  by_cases c4 : yx = 8
  focus
   rw [if_pos c4] at H
   have c4b0 : (yx == 8) = true := beq_iff_eq.mpr c4
   have c4b1 : (yx != 8) = false := bne_eq_false_iff_eq.mpr c4
   clear c4
   by_cases c5 : (yc.length : Int) = 1
   focus
    rw [if_pos c5] at H
    have c5b0 : ((yc.length : Int) == 1) = true := beq_iff_eq.mpr c5
    have c5b1 : ((yc.length : Int) != 1) = false := bne_eq_false_iff_eq.mpr c5
    clear c5
    by_cases c6 : 0 < (yc.length : Int)
    focus
     rw [if_pos c6] at H
     have c6b0 : decide (0 < (yc.length : Int)) = true := decide_eq_true c6
     have c6b1 : decide (0 < yc.length) = true := decide_eq_true (by omega)
     clear c6
     by_cases c7 : (((zd yc 0).f0).size : Int) = 32
     focus
      rw [if_pos c7] at H
      have c7b0 : ((((zd yc 0).f0).size : Int) == 32) = true := beq_iff_eq.mpr c7
      have c7b1 : ((((zd yc 0).f0).size : Int) != 32) = false := bne_eq_false_iff_eq.mpr c7
      clear c7
      replace H := Option.bind_eq_some_iff.mp H
      obtain ⟨yp,A80,H⟩ := H
      replace H : (some yp) = some r := H
      have A8 := za.mk A80
      clear A80
      obtain rfl := Option.some.inj H
      have EQ0 := True.intro
      have EQ1 := True.intro
     rotate_left
     focus
      rw [if_neg c7] at H
      have c7b0 : ((((zd yc 0).f0).size : Int) == 32) = false := beq_eq_false_iff_ne.mpr c7
      have c7b1 : ((((zd yc 0).f0).size : Int) != 32) = true := bne_iff_ne.mpr c7
      obtain rfl := Option.some.inj H
      have EQ1 := True.intro
      have EQ2 := True.intro
    rotate_left 2
    ·rw [if_neg c6] at H
     exact absurd H (by simp)
   rotate_left 2
   focus
    rw [if_neg c5] at H
    have c5b0 : ((yc.length : Int) == 1) = false := beq_eq_false_iff_ne.mpr c5
    have c5b1 : ((yc.length : Int) != 1) = true := bne_iff_ne.mpr c5
    obtain rfl := Option.some.inj H
    have EQ3 := True.intro
  rotate_left 3
  focus
   rw [if_neg c4] at H
   have c4b0 : (yx == 8) = false := beq_eq_false_iff_ne.mpr c4
   have c4b1 : (yx != 8) = true := bne_iff_ne.mpr c4
   obtain rfl := Option.some.inj H
   have EQ1 := True.intro
   have EQ4 := True.intro
 rotate_left 4
 focus
  rw [if_neg c3] at H
  have c3b0 : (yw == 0) = false := beq_eq_false_iff_ne.mpr c3
  have c3b1 : (yw != 0) = true := bne_iff_ne.mpr c3
  obtain rfl := Option.some.inj H
  have EQ1 := True.intro
  have EQ5 := True.intro
 all_goals
  go_enter Tryz.func4,Tryz.ntmps4
  go_wp2_with (first | ((with_reducible refine zQ (f := 5) rfl ?_);refine zaB (some 8) rfl rfl Tryz.func5 (by kernel_rfl) rfl #[.agg #[.int .i64 4,.int .i64 0,.slice none 0 0],.agg #[.int .i64 2,.int .i64 1,.slice none 0 0,.slice none 0 0,.int .i64 0,.int .i64 0]] rfl hMq ?_;(refine (zar.calls 4 0 (fun k_ => False) _ _ ([] : List (S39)) 2 1 (fun k_ => False) _ _ ([] : List (S75)) (fun k_ => False) _ _ ([] : List ByteArray) 0 0 yj yk yc yw _ ?side1 ?side2 ?side3 A1.out).mono ?_);(case side1 => exact Kd.V_nil _ _ _ _ _);(case side2 => exact Kd.V_nil _ _ _ _ _);(case side3 => exact Kd.V_nil _ _ _ _ _);rintro e wQF5A11 ⟨vQF5A12,rfl,hoQF5A13,hb⟩;refine ⟨_,rfl,?_⟩;have n_ := haq (Kd.V_lower (Kd.V_mono (ok' := fun k_ => True) hoQF5A13 (fun k_ hk_ => trivial)) (zh hBq)) <| haq (ze hBq hb) <| trivial;clear HB;obtain ⟨HOQF5A14,HB,_⟩ := n_;(try clear hb);(try clear hb2);(try clear hk);(try clear hi);(try clear hoQF5A13)) | ((with_reducible refine zq (N := 1) rfl ?_);(try (refine zbq (by rfl) ?_;dsimp only));refine zn rfl (N := 1) rfl (cs := #[.int .i64 0,.int .i64 0,.slice none 0 0]) (t := 26) hrq ?_;intro ya hg wQN12 hbox hb;have n_ := haq (Kd.V_below (Kd.V_elderB (by (with_reducible repeat (first | apply Kd.V_alloc | apply Kd.V_drewN | apply Kd.V_drew));exact HOQF5A14.out) ya (Nat.le_of_eq hg.symm)) hb) <| haq (ze hBq hb) <| haq (hbox) <| haq ((by rw [hg];exact (zh hBq) : w.heap.size ≤ ya)) <| haq ((by rw [hg];exact (zh hBq) : w.heap.size ≤ ya)) <| trivial;clear HOQF5A14 HB;obtain ⟨HOQF5A14,HB,yb,yZ,yY,_⟩ := n_;clear hb hbox hg;obtain ⟨hczQN17,hczQN18,hczQN19,yS,yT,yU⟩ := hcq3 yb.out;obtain ⟨yd,ye,yI⟩ := Kd.V_slice HOQF5A14.out;subst yI) | (have _ := EQ0;((with_reducible refine za7 (t := 26) (p := 1) rfl ?_);refine zaW (t := 26) (p := 1) (v := _) (w1 := (((wQN12.setCell ⟨ya,0,none⟩ (.int .i64 yj)).setCell ⟨ya,1,none⟩ (.int .i64 yk)).setCell ⟨ya,2,none⟩ (.slice yd yc.length ye))) rfl rfl rfl hrq ?_;intro wQX1 hw;have n_ := haq (((by rw [hw];exact (by (with_reducible repeat (first | apply Kd.V_alloc | apply Kd.V_drewN | apply Kd.V_drew));exact Kd.V_mono (Kd.V_far (p := ⟨ya,2,none⟩) (Kd.V_far (p := ⟨ya,1,none⟩) (Kd.V_far (p := ⟨ya,0,none⟩) (Kd.V_mono HOQF5A14.out (fun k_ hk => (⟨hk,hk.2⟩ : _ ∧ k_ ≠ ya))) (fun _ hk => hk.2) (.int .i64 yj)) (fun _ hk => hk.2) (.int .i64 yk)) (fun _ hk => hk.2) (.slice yd yc.length ye)) (fun _ hk => hk.1.2))) : Kd.V k39 39 wQX1 w.heap.size (fun k_ => k_ ≠ ya) (.slice yd yc.length ye) yc)) <| haq (((by rw [hw];exact (hxq0p yb.out)) : wQX1.heap[ya]? = some (.cells #[.int .i64 yj,.int .i64 yk,.slice yd yc.length ye] 26 (0,0)))) <| haq (((by rw [hw];exact hCq) : Below w.heap.size w wQX1)) <| trivial;clear hw HOQF5A14 yb HB;obtain ⟨HOQF5A14,yb,HB,_⟩ := n_;obtain ⟨hczQX4,hczQX5,hczQX6,hfzQX7,hfzQX8,hfzQX9⟩ := hcq3 yb.out)) | ((with_reducible refine zQ (f := 5) rfl ?_);refine zaB (some 14) rfl rfl Tryz.func5 (by kernel_rfl) rfl #[.agg #[.int .i64 yj,.int .i64 yk,.slice yd yc.length ye],.agg #[.int .i64 2,.int .i64 1,.slice none 0 0,.slice none 0 0,.int .i64 0,.int .i64 0]] rfl hMq ?_;(refine (zar.calls yj yk (fun k_ => k_ ≠ ya) _ _ yc 2 1 (fun k_ => False) _ _ ([] : List (S75)) (fun k_ => False) _ _ ([] : List ByteArray) 0 0 yt yu yo yx _ ?side1 ?side2 ?side3 A2.out).mono ?_);(case side1 => exact HOQF5A14.out);(case side2 => exact Kd.V_nil _ _ _ _ _);(case side3 => exact Kd.V_nil _ _ _ _ _);rintro e wQF5A21 ⟨vQF5A22,rfl,hoQF5A13,hb⟩;refine ⟨_,rfl,?_⟩;have n_ := haq (Kd.V_below (by (with_reducible repeat (first | apply Kd.V_alloc | apply Kd.V_drewN | apply Kd.V_drew));exact HOQF5A14.out) hb) <| haq (Kd.V_lower (Kd.V_mono (ok' := fun k_ => k_ ≠ ya) hoQF5A13 (fun k_ hk_ => Or.elim hk_ (fun hs_ => Or.elim hs_ (fun hs_ => hs_) (fun hs_ => Or.elim hs_ (fun hs_ => (hs_).elim) (fun hs_ => (hs_).elim))) (fun hn_ => (Kd.freshB (g := ya) (o := .cells #[.int .i64 yj,.int .i64 yk,.slice yd yc.length ye] 26 (0,0)) (hGq yb.out) k_ hn_)))) (zh hCq)) <| haq (hbq yb.out hb) <| haq (ze hCq hb) <| trivial;clear HOQF5A14 yb HB;obtain ⟨HOQF5A14,HOQF5A25,yb,HB,_⟩ := n_;(try clear hb);(try clear hb2);(try clear hk);(try clear hi);(try clear hoQF5A13)) | (have _ := EQ1;((with_reducible refine zq (N := 3) rfl ?_);(try (refine zbq (by rfl) ?_;dsimp only));refine zn rfl (N := 3) rfl (cs := #[.int .i64 0,.int .i64 0,.slice none 0 0]) (t := 26) hrq ?_;intro yf hg wQN32 hbox hb;have n_ := haq (Kd.V_below (Kd.V_elderB (by (with_reducible repeat (first | apply Kd.V_alloc | apply Kd.V_drewN | apply Kd.V_drew));exact HOQF5A14.out) yf (Nat.le_of_eq hg.symm)) hb) <| haq (Kd.V_below (Kd.V_elderB (by (with_reducible repeat (first | apply Kd.V_alloc | apply Kd.V_drewN | apply Kd.V_drew));exact HOQF5A25.out) yf (Nat.le_of_eq hg.symm)) hb) <| haq (hbq yb.out hb) <| haq (ze hCq hb) <| haq (hbox) <| haq ((by rw [hg];exact (zh hCq) : w.heap.size ≤ yf)) <| haq ((by rw [hg];exact (zh hCq) : w.heap.size ≤ yf)) <| haq (hnq hg yb.out) <| haq (hmq hg yb.out) <| trivial;clear HOQF5A14 HOQF5A25 yb HB;obtain ⟨HOQF5A14,HOQF5A25,yb,HB,yl,yO,yN,NBQN39,yq,_⟩ := n_;clear hb hbox hg;have yE := yq.out;have yF := NBQN39.out;obtain ⟨yy,yz,yA,yB,yC,yD⟩ := hcq3 yl.out;obtain ⟨yh,yi,yr⟩ := Kd.V_slice HOQF5A25.out;subst yr)) | (have _ := EQ0;((with_reducible refine za7 (t := 26) (p := 3) rfl ?_);refine zaW (t := 26) (p := 3) (v := _) (w1 := (((wQN32.setCell ⟨yf,0,none⟩ (.int .i64 yt)).setCell ⟨yf,1,none⟩ (.int .i64 yu)).setCell ⟨yf,2,none⟩ (.slice yh yo.length yi))) rfl rfl rfl hrq ?_;intro wQX1 hw;have n_ := haq (((by rw [hw];exact (by (with_reducible repeat (first | apply Kd.V_alloc | apply Kd.V_drewN | apply Kd.V_drew));exact Kd.V_mono (Kd.V_far (p := ⟨yf,2,none⟩) (Kd.V_far (p := ⟨yf,1,none⟩) (Kd.V_far (p := ⟨yf,0,none⟩) (Kd.V_mono HOQF5A14.out (fun k_ hk => (⟨hk,hk.2⟩ : _ ∧ k_ ≠ yf))) (fun _ hk => hk.2) (.int .i64 yt)) (fun _ hk => hk.2) (.int .i64 yu)) (fun _ hk => hk.2) (.slice yh yo.length yi)) (fun _ hk => ⟨hk.1.1,hk.1.2⟩))) : Kd.V k39 39 wQX1 w.heap.size (fun k_ => k_ ≠ ya ∧ k_ ≠ yf) (.slice yd yc.length ye) yc)) <| haq (((by rw [hw];exact (by (with_reducible repeat (first | apply Kd.V_alloc | apply Kd.V_drewN | apply Kd.V_drew));exact Kd.V_mono (Kd.V_far (p := ⟨yf,2,none⟩) (Kd.V_far (p := ⟨yf,1,none⟩) (Kd.V_far (p := ⟨yf,0,none⟩) (Kd.V_mono HOQF5A25.out (fun k_ hk => (⟨hk,hk.2⟩ : _ ∧ k_ ≠ yf))) (fun _ hk => hk.2) (.int .i64 yt)) (fun _ hk => hk.2) (.int .i64 yu)) (fun _ hk => hk.2) (.slice yh yo.length yi)) (fun _ hk => ⟨hk.1.1,hk.1.2⟩))) : Kd.V k39 39 wQX1 w.heap.size (fun k_ => k_ ≠ ya ∧ k_ ≠ yf) (.slice yh yo.length yi) yo)) <| haq (hfq hw NBQN39.out yb.out) <| haq (((by rw [hw];exact (hxq0p yl.out)) : wQX1.heap[yf]? = some (.cells #[.int .i64 yt,.int .i64 yu,.slice yh yo.length yi] 26 (0,0)))) <| haq (((by rw [hw];exact hCq) : Below w.heap.size w wQX1)) <| trivial;clear hw HOQF5A14 HOQF5A25 yb yl HB;obtain ⟨HOQF5A14,HOQF5A25,yb,yl,HB,_⟩ := n_;obtain ⟨hczQX6,hczQX7,hczQX8,hfzQX9,hfzQX10,hfzQX11⟩ := hcq3 yb.out;have pQX12 : 0 ≤ (0 : Int) := (by omega);have qQX13 : 0 < (yc.length : Int) := hFq;obtain ⟨adQX14,yJ,yL,yK,yM,eQX19,hxQX20,hxQX21,hxQX22,hxQX23,hxQX24,hxQX25,hxQX26,hlQX27,hiQX28,hlQX29,hiQX30⟩ := zbe (Kd.V_reads' HOQF5A14.out).2.2 0 pQX12 qQX13;cases eQX19;obtain ⟨ceQX31,hceQX32,hMeQX33,hccQX34⟩ := Kd.V_get HOQF5A14.out z39 0 pQX12 (by first | exact qQX13 | exact hFq | (have e_ := (Kd.V_reads' HOQF5A14.out).1;omega));obtain ⟨uaQX35,ucQX36,uaQX37,ucQX38,rfl,ulQX39,geQX40,ulQX41,geQX42⟩ := zaN hMeQX33;have hvQX43 := hccQX34 3 _ rfl;rw [zM _ _ 3 (by omega)] at hvQX43;replace hvQX43 := Option.some.inj (hvQX43.symm.trans hxQX23);injection hvQX43 with hva_ hvn_ hvc_;rw [hva_] at geQX40;rw [hvc_] at ulQX39;have HLQX44 := za.mk (show Kd.V k75 75 _ w.heap.size _ _ ((zd yc 0).f1.f2) from Kd.V_mk ulQX39 geQX40);clear hva_ hvn_ hvc_ geQX40 ulQX39;have hvQX45 := hccQX34 4 _ rfl;rw [zM _ _ 4 (by omega)] at hvQX45;replace hvQX45 := Option.some.inj (hvQX45.symm.trans hxQX24);injection hvQX45 with hva_ hvn_ hvc_;rw [hva_] at geQX42;rw [hvc_] at ulQX41;have HLQX46 := za.mk (show Kd.V Kd.string 9 _ w.heap.size _ _ ((zd yc 0).f1.f3) from Kd.V_mk ulQX41 geQX42);clear hva_ hvn_ hvc_ geQX42 ulQX41;clear hccQX34 hceQX32;have qiQX47 : (0 < yc.length) = True := eq_true (by omega);(try rw [show ((0 : Int)).toNat = 0 from rfl] at hxQX20);(try rw [show 0 * 7 = 0 from rfl] at hxQX20);(try rw [Addr.add_zero'] at hxQX20);(try rw [show ((0 : Int)).toNat = 0 from rfl] at hxQX21);(try rw [show 0 * 7 = 0 from rfl] at hxQX21);(try rw [Addr.add_zero'] at hxQX21);(try rw [show ((0 : Int)).toNat = 0 from rfl] at hxQX22);(try rw [show 0 * 7 = 0 from rfl] at hxQX22);(try rw [Addr.add_zero'] at hxQX22);(try rw [show ((0 : Int)).toNat = 0 from rfl] at hxQX23);(try rw [show 0 * 7 = 0 from rfl] at hxQX23);(try rw [Addr.add_zero'] at hxQX23);(try rw [show ((0 : Int)).toNat = 0 from rfl] at hxQX24);(try rw [show 0 * 7 = 0 from rfl] at hxQX24);(try rw [Addr.add_zero'] at hxQX24);(try rw [show ((0 : Int)).toNat = 0 from rfl] at hxQX25);(try rw [show 0 * 7 = 0 from rfl] at hxQX25);(try rw [Addr.add_zero'] at hxQX25);(try rw [show ((0 : Int)).toNat = 0 from rfl] at hxQX26);(try rw [show 0 * 7 = 0 from rfl] at hxQX26);(try rw [Addr.add_zero'] at hxQX26);have ym := za.mk hiQX28;have yG := za.mk hlQX27;clear hiQX28 hlQX27;have yn := za.mk hiQX30;have yH := za.mk hlQX29;clear hiQX30 hlQX29;replace pQX12 := eq_true pQX12;replace qQX13 := eq_true qQX13)) | (have _ := EQ0;(go_at_call 10;(with_reducible refine (zaI.calls yj yk _ _ yc yp _ ?side1 ?side2 A8.out).mono ?_);(case side1 => repeat (first | exact (Kd.V_reads' HOQF5A14.out).2.2 | (with_reducible refine Kd.C_alloc ?_ _) | (with_reducible refine Kd.C_drewN ?_ _) | (with_reducible refine Kd.C_drew ?_)));(case side2 => exact (Kd.V_reads' HOQF5A14.out).2.1);rintro e wQC10A81 ⟨rfl,hb⟩;have n_ := haq (Kd.V_below (by (with_reducible repeat (first | apply Kd.V_alloc | apply Kd.V_drewN | apply Kd.V_drew));exact HOQF5A14.out) hb) <| haq (Kd.V_below (by (with_reducible repeat (first | apply Kd.V_alloc | apply Kd.V_drewN | apply Kd.V_drew));exact HOQF5A25.out) hb) <| haq (Kd.V_below (by (with_reducible repeat (first | apply Kd.V_alloc | apply Kd.V_drewN | apply Kd.V_drew));exact HLQX44.out) hb) <| haq (Kd.V_below (by (with_reducible repeat (first | apply Kd.V_alloc | apply Kd.V_drewN | apply Kd.V_drew));exact HLQX46.out) hb) <| haq (hbq yb.out hb) <| haq (hbq yl.out hb) <| haq (Kd.C_below (by repeat (first | (with_reducible exact ym.out) | (with_reducible refine Kd.C_alloc ?_ _) | (with_reducible refine Kd.C_drewN ?_ _) | (with_reducible refine Kd.C_drew ?_) | exact ym.out)) hb) <| haq (Kd.C_below (by repeat (first | (with_reducible exact yn.out) | (with_reducible refine Kd.C_alloc ?_ _) | (with_reducible refine Kd.C_drewN ?_ _) | (with_reducible refine Kd.C_drew ?_) | exact yn.out)) hb) <| haq (ze hCq hb) <| trivial;clear HOQF5A14 HOQF5A25 HLQX44 HLQX46 yb yl ym yn HB;obtain ⟨HOQF5A14,HOQF5A25,HLQX44,HLQX46,yb,yl,ym,yn,HB,_⟩ := n_;(try clear hb);(try clear hb2);(try clear hk);(try clear hi))) | (have _ := EQ2;((with_reducible refine za7 (t := 26) (p := 1) rfl ?_);refine zaW (t := 26) (p := 1) (v := _) (w1 := (((wQN12.setCell ⟨ya,0,none⟩ (.int .i64 yj)).setCell ⟨ya,1,none⟩ (.int .i64 yk)).setCell ⟨ya,2,none⟩ (.slice yd yc.length ye))) rfl rfl rfl hrq ?_;intro wQX1 hw;have n_ := haq (((by rw [hw];exact (by (with_reducible repeat (first | apply Kd.V_alloc | apply Kd.V_drewN | apply Kd.V_drew));exact Kd.V_mono (Kd.V_far (p := ⟨ya,2,none⟩) (Kd.V_far (p := ⟨ya,1,none⟩) (Kd.V_far (p := ⟨ya,0,none⟩) (Kd.V_mono HOQF5A14.out (fun k_ hk => (⟨hk,hk.2⟩ : _ ∧ k_ ≠ ya))) (fun _ hk => hk.2) (.int .i64 yj)) (fun _ hk => hk.2) (.int .i64 yk)) (fun _ hk => hk.2) (.slice yd yc.length ye)) (fun _ hk => hk.1.2))) : Kd.V k39 39 wQX1 w.heap.size (fun k_ => k_ ≠ ya) (.slice yd yc.length ye) yc)) <| haq (((by rw [hw];exact (hxq0p yb.out)) : wQX1.heap[ya]? = some (.cells #[.int .i64 yj,.int .i64 yk,.slice yd yc.length ye] 26 (0,0)))) <| haq (((by rw [hw];exact hCq) : Below w.heap.size w wQX1)) <| trivial;clear hw HOQF5A14 yb HB;obtain ⟨HOQF5A14,yb,HB,_⟩ := n_;obtain ⟨hczQX4,hczQX5,hczQX6,hfzQX7,hfzQX8,hfzQX9⟩ := hcq3 yb.out)) | (have _ := EQ2;((with_reducible refine za7 (t := 26) (p := 3) rfl ?_);refine zaW (t := 26) (p := 3) (v := _) (w1 := (((wQN32.setCell ⟨yf,0,none⟩ (.int .i64 yt)).setCell ⟨yf,1,none⟩ (.int .i64 yu)).setCell ⟨yf,2,none⟩ (.slice yh yo.length yi))) rfl rfl rfl hrq ?_;intro wQX1 hw;have n_ := haq (((by rw [hw];exact (by (with_reducible repeat (first | apply Kd.V_alloc | apply Kd.V_drewN | apply Kd.V_drew));exact Kd.V_mono (Kd.V_far (p := ⟨yf,2,none⟩) (Kd.V_far (p := ⟨yf,1,none⟩) (Kd.V_far (p := ⟨yf,0,none⟩) (Kd.V_mono HOQF5A14.out (fun k_ hk => (⟨hk,hk.2⟩ : _ ∧ k_ ≠ yf))) (fun _ hk => hk.2) (.int .i64 yt)) (fun _ hk => hk.2) (.int .i64 yu)) (fun _ hk => hk.2) (.slice yh yo.length yi)) (fun _ hk => ⟨hk.1.1,hk.1.2⟩))) : Kd.V k39 39 wQX1 w.heap.size (fun k_ => k_ ≠ ya ∧ k_ ≠ yf) (.slice yd yc.length ye) yc)) <| haq (((by rw [hw];exact (by (with_reducible repeat (first | apply Kd.V_alloc | apply Kd.V_drewN | apply Kd.V_drew));exact Kd.V_mono (Kd.V_far (p := ⟨yf,2,none⟩) (Kd.V_far (p := ⟨yf,1,none⟩) (Kd.V_far (p := ⟨yf,0,none⟩) (Kd.V_mono HOQF5A25.out (fun k_ hk => (⟨hk,hk.2⟩ : _ ∧ k_ ≠ yf))) (fun _ hk => hk.2) (.int .i64 yt)) (fun _ hk => hk.2) (.int .i64 yu)) (fun _ hk => hk.2) (.slice yh yo.length yi)) (fun _ hk => ⟨hk.1.1,hk.1.2⟩))) : Kd.V k39 39 wQX1 w.heap.size (fun k_ => k_ ≠ ya ∧ k_ ≠ yf) (.slice yh yo.length yi) yo)) <| haq (hfq hw NBQN39.out yb.out) <| haq (((by rw [hw];exact (hxq0p yl.out)) : wQX1.heap[yf]? = some (.cells #[.int .i64 yt,.int .i64 yu,.slice yh yo.length yi] 26 (0,0)))) <| haq (((by rw [hw];exact hCq) : Below w.heap.size w wQX1)) <| trivial;clear hw HOQF5A14 HOQF5A25 yb yl HB;obtain ⟨HOQF5A14,HOQF5A25,yb,yl,HB,_⟩ := n_;obtain ⟨hczQX6,hczQX7,hczQX8,hfzQX9,hfzQX10,hfzQX11⟩ := hcq3 yb.out;have pQX12 : 0 ≤ (0 : Int) := (by omega);have qQX13 : 0 < (yc.length : Int) := hFq;obtain ⟨adQX14,yJ,yL,yK,yM,eQX19,hxQX20,hxQX21,hxQX22,hxQX23,hxQX24,hxQX25,hxQX26,hlQX27,hiQX28,hlQX29,hiQX30⟩ := zbe (Kd.V_reads' HOQF5A14.out).2.2 0 pQX12 qQX13;cases eQX19;obtain ⟨ceQX31,hceQX32,hMeQX33,hccQX34⟩ := Kd.V_get HOQF5A14.out z39 0 pQX12 (by first | exact qQX13 | exact hFq | (have e_ := (Kd.V_reads' HOQF5A14.out).1;omega));obtain ⟨uaQX35,ucQX36,uaQX37,ucQX38,rfl,ulQX39,geQX40,ulQX41,geQX42⟩ := zaN hMeQX33;have hvQX43 := hccQX34 3 _ rfl;rw [zM _ _ 3 (by omega)] at hvQX43;replace hvQX43 := Option.some.inj (hvQX43.symm.trans hxQX23);injection hvQX43 with hva_ hvn_ hvc_;rw [hva_] at geQX40;rw [hvc_] at ulQX39;have HLQX44 := za.mk (show Kd.V k75 75 _ w.heap.size _ _ ((zd yc 0).f1.f2) from Kd.V_mk ulQX39 geQX40);clear hva_ hvn_ hvc_ geQX40 ulQX39;have hvQX45 := hccQX34 4 _ rfl;rw [zM _ _ 4 (by omega)] at hvQX45;replace hvQX45 := Option.some.inj (hvQX45.symm.trans hxQX24);injection hvQX45 with hva_ hvn_ hvc_;rw [hva_] at geQX42;rw [hvc_] at ulQX41;have HLQX46 := za.mk (show Kd.V Kd.string 9 _ w.heap.size _ _ ((zd yc 0).f1.f3) from Kd.V_mk ulQX41 geQX42);clear hva_ hvn_ hvc_ geQX42 ulQX41;clear hccQX34 hceQX32;have qiQX47 : (0 < yc.length) = True := eq_true (by omega);(try rw [show ((0 : Int)).toNat = 0 from rfl] at hxQX20);(try rw [show 0 * 7 = 0 from rfl] at hxQX20);(try rw [Addr.add_zero'] at hxQX20);(try rw [show ((0 : Int)).toNat = 0 from rfl] at hxQX21);(try rw [show 0 * 7 = 0 from rfl] at hxQX21);(try rw [Addr.add_zero'] at hxQX21);(try rw [show ((0 : Int)).toNat = 0 from rfl] at hxQX22);(try rw [show 0 * 7 = 0 from rfl] at hxQX22);(try rw [Addr.add_zero'] at hxQX22);(try rw [show ((0 : Int)).toNat = 0 from rfl] at hxQX23);(try rw [show 0 * 7 = 0 from rfl] at hxQX23);(try rw [Addr.add_zero'] at hxQX23);(try rw [show ((0 : Int)).toNat = 0 from rfl] at hxQX24);(try rw [show 0 * 7 = 0 from rfl] at hxQX24);(try rw [Addr.add_zero'] at hxQX24);(try rw [show ((0 : Int)).toNat = 0 from rfl] at hxQX25);(try rw [show 0 * 7 = 0 from rfl] at hxQX25);(try rw [Addr.add_zero'] at hxQX25);(try rw [show ((0 : Int)).toNat = 0 from rfl] at hxQX26);(try rw [show 0 * 7 = 0 from rfl] at hxQX26);(try rw [Addr.add_zero'] at hxQX26);have ym := za.mk hiQX28;have yG := za.mk hlQX27;clear hiQX28 hlQX27;have yn := za.mk hiQX30;have yH := za.mk hlQX29;clear hiQX30 hlQX29;replace pQX12 := eq_true pQX12;replace qQX13 := eq_true qQX13)) | (have _ := EQ3;((with_reducible refine za7 (t := 26) (p := 1) rfl ?_);refine zaW (t := 26) (p := 1) (v := _) (w1 := (((wQN12.setCell ⟨ya,0,none⟩ (.int .i64 yj)).setCell ⟨ya,1,none⟩ (.int .i64 yk)).setCell ⟨ya,2,none⟩ (.slice yd yc.length ye))) rfl rfl rfl hrq ?_;intro wQX1 hw;have n_ := haq (((by rw [hw];exact (by (with_reducible repeat (first | apply Kd.V_alloc | apply Kd.V_drewN | apply Kd.V_drew));exact Kd.V_mono (Kd.V_far (p := ⟨ya,2,none⟩) (Kd.V_far (p := ⟨ya,1,none⟩) (Kd.V_far (p := ⟨ya,0,none⟩) (Kd.V_mono HOQF5A14.out (fun k_ hk => (⟨hk,hk.2⟩ : _ ∧ k_ ≠ ya))) (fun _ hk => hk.2) (.int .i64 yj)) (fun _ hk => hk.2) (.int .i64 yk)) (fun _ hk => hk.2) (.slice yd yc.length ye)) (fun _ hk => hk.1.2))) : Kd.V k39 39 wQX1 w.heap.size (fun k_ => k_ ≠ ya) (.slice yd yc.length ye) yc)) <| haq (((by rw [hw];exact (hxq0p yb.out)) : wQX1.heap[ya]? = some (.cells #[.int .i64 yj,.int .i64 yk,.slice yd yc.length ye] 26 (0,0)))) <| haq (((by rw [hw];exact hCq) : Below w.heap.size w wQX1)) <| trivial;clear hw HOQF5A14 yb HB;obtain ⟨HOQF5A14,yb,HB,_⟩ := n_;obtain ⟨hczQX4,hczQX5,hczQX6,hfzQX7,hfzQX8,hfzQX9⟩ := hcq3 yb.out)) | (have _ := EQ3;((with_reducible refine zq (N := 3) rfl ?_);(try (refine zbq (by rfl) ?_;dsimp only));refine zn rfl (N := 3) rfl (cs := #[.int .i64 0,.int .i64 0,.slice none 0 0]) (t := 26) hrq ?_;intro yf hg wQN32 hbox hb;have n_ := haq (Kd.V_below (Kd.V_elderB (by (with_reducible repeat (first | apply Kd.V_alloc | apply Kd.V_drewN | apply Kd.V_drew));exact HOQF5A14.out) yf (Nat.le_of_eq hg.symm)) hb) <| haq (Kd.V_below (Kd.V_elderB (by (with_reducible repeat (first | apply Kd.V_alloc | apply Kd.V_drewN | apply Kd.V_drew));exact HOQF5A25.out) yf (Nat.le_of_eq hg.symm)) hb) <| haq (hbq yb.out hb) <| haq (ze hCq hb) <| haq (hbox) <| haq ((by rw [hg];exact (zh hCq) : w.heap.size ≤ yf)) <| haq ((by rw [hg];exact (zh hCq) : w.heap.size ≤ yf)) <| haq (hnq hg yb.out) <| haq (hmq hg yb.out) <| trivial;clear HOQF5A14 HOQF5A25 yb HB;obtain ⟨HOQF5A14,HOQF5A25,yb,HB,yl,yO,yN,NBQN39,yq,_⟩ := n_;clear hb hbox hg;have yE := yq.out;have yF := NBQN39.out;obtain ⟨yy,yz,yA,yB,yC,yD⟩ := hcq3 yl.out;obtain ⟨yh,yi,yr⟩ := Kd.V_slice HOQF5A25.out;subst yr;obtain ⟨yP,yQ,yR,yV,yW,yX⟩ := hcq3 yb.out)) | (have _ := EQ4;((with_reducible refine za7 (t := 26) (p := 1) rfl ?_);refine zaW (t := 26) (p := 1) (v := _) (w1 := (((wQN12.setCell ⟨ya,0,none⟩ (.int .i64 yj)).setCell ⟨ya,1,none⟩ (.int .i64 yk)).setCell ⟨ya,2,none⟩ (.slice yd yc.length ye))) rfl rfl rfl hrq ?_;intro wQX1 hw;have n_ := haq (((by rw [hw];exact (by (with_reducible repeat (first | apply Kd.V_alloc | apply Kd.V_drewN | apply Kd.V_drew));exact Kd.V_mono (Kd.V_far (p := ⟨ya,2,none⟩) (Kd.V_far (p := ⟨ya,1,none⟩) (Kd.V_far (p := ⟨ya,0,none⟩) (Kd.V_mono HOQF5A14.out (fun k_ hk => (⟨hk,hk.2⟩ : _ ∧ k_ ≠ ya))) (fun _ hk => hk.2) (.int .i64 yj)) (fun _ hk => hk.2) (.int .i64 yk)) (fun _ hk => hk.2) (.slice yd yc.length ye)) (fun _ hk => hk.1.2))) : Kd.V k39 39 wQX1 w.heap.size (fun k_ => k_ ≠ ya) (.slice yd yc.length ye) yc)) <| haq (((by rw [hw];exact (hxq0p yb.out)) : wQX1.heap[ya]? = some (.cells #[.int .i64 yj,.int .i64 yk,.slice yd yc.length ye] 26 (0,0)))) <| haq (((by rw [hw];exact hCq) : Below w.heap.size w wQX1)) <| trivial;clear hw HOQF5A14 yb HB;obtain ⟨HOQF5A14,yb,HB,_⟩ := n_;obtain ⟨hczQX4,hczQX5,hczQX6,hfzQX7,hfzQX8,hfzQX9⟩ := hcq3 yb.out)) | (have _ := EQ5;((with_reducible refine za7 (t := 26) (p := 1) rfl ?_);refine zaW (t := 26) (p := 1) (v := _) (w1 := (((wQN12.setCell ⟨ya,0,none⟩ (.int .i64 yj)).setCell ⟨ya,1,none⟩ (.int .i64 yk)).setCell ⟨ya,2,none⟩ (.slice yd yc.length ye))) rfl rfl rfl hrq ?_;intro wQX1 hw;have n_ := haq (((by rw [hw];exact (by (with_reducible repeat (first | apply Kd.V_alloc | apply Kd.V_drewN | apply Kd.V_drew));exact Kd.V_mono (Kd.V_far (p := ⟨ya,2,none⟩) (Kd.V_far (p := ⟨ya,1,none⟩) (Kd.V_far (p := ⟨ya,0,none⟩) (Kd.V_mono HOQF5A14.out (fun k_ hk => (⟨hk,hk.2⟩ : _ ∧ k_ ≠ ya))) (fun _ hk => hk.2) (.int .i64 yj)) (fun _ hk => hk.2) (.int .i64 yk)) (fun _ hk => hk.2) (.slice yd yc.length ye)) (fun _ hk => hk.1.2))) : Kd.V k39 39 wQX1 w.heap.size (fun k_ => k_ ≠ ya) (.slice yd yc.length ye) yc)) <| haq (((by rw [hw];exact (hxq0p yb.out)) : wQX1.heap[ya]? = some (.cells #[.int .i64 yj,.int .i64 yk,.slice yd yc.length ye] 26 (0,0)))) <| haq (((by rw [hw];exact hCq) : Below w.heap.size w wQX1)) <| trivial;clear hw HOQF5A14 yb HB;obtain ⟨HOQF5A14,yb,HB,_⟩ := n_;obtain ⟨hczQX4,hczQX5,hczQX6,hfzQX7,hfzQX8,hfzQX9⟩ := hcq3 yb.out)))
  go_ret
  exact ⟨hHq,hCq⟩
def zF.T9 : Bool × List (List Nat × List Nat) := (true,[([],[]),([],[]),([0,1],[0,1]),([2],[2]),([3],[3]),([],[]),([],[]),([5,6],[5,6]),([7],[7]),([8],[8]),([4,9],[4,9]),([10,10,0,1,2,3,4,5,6,7,8,9,10],[10])])
def zF.B9 : List Nat := [0,0,3,7,15,0,0,96,224,480,1023,2047]
theorem zF.tab9 : zb5 .any (zdW Tryz.f6 9) = zF.T9 := by kernel_rfl
theorem zF.bits9 : zbJ zF.T9.2 zF.B9 = true := by kernel_rfl
def zF.T10 : Bool × List (List Nat × List Nat) := (true,[([],[]),([],[]),([0,1],[0,1]),([2],[2]),([3],[3]),([],[]),([],[]),([5,6],[5,6]),([7],[7]),([8],[8]),([4,9],[4,9]),([10],[10]),([11],[11]),([12,11],[11,12]),([11,13],[11,13])])
def zF.B10 : List Nat := [0,0,3,7,15,0,0,96,224,480,1023,2047,4095,8191,16383]
theorem zF.tab10 : zb5 .any (zdW Tryz.f6 10) = zF.T10 := by kernel_rfl
theorem zF.bits10 : zbJ zF.T10.2 zF.B10 = true := by kernel_rfl
def zdC (x y : Ent) : Bool := !decide (x.f0 = y.f0) || zdh x.f1.f0 x.f1.f1 x.f1.f2 x.f1.f3 x.f1.f4.f0 x.f1.f4.f1 y.f1.f0 y.f1.f1 y.f1.f2 y.f1.f3 y.f1.f4.f0 y.f1.f4.f1
def zc5 (M : List Ent) : Bool := (List.range M.length).all fun i => (List.range i).all fun k => zdC (M.getD i z39) (M.getD k z39)
def fitU (x : Ent) : Bool := decide (x.f1.f2.length < 4611686018427387904) && x.f1.f2.all (fun b => decide (b.f2.length < 4611686018427387904)) && decide (x.f1.f3.length ≤ 8796093022208)
theorem fitU_is {x : Ent} (h : fitU x = true) : x.f1.f2.length < 4611686018427387904 ∧ (∀ b ∈ x.f1.f2,b.f2.length < 4611686018427387904) ∧ x.f1.f3.length ≤ 8796093022208 := by
 unfold fitU at h
 rw [Bool.and_eq_true,Bool.and_eq_true,List.all_eq_true] at h
 exact ⟨of_decide_eq_true h.1.1,fun b hb => of_decide_eq_true (h.1.2 b hb),of_decide_eq_true h.2⟩
theorem zhV {M : List Ent} (h : ∀ i,i < M.length → ∀ k,k < i → zdC (M.getD i z39) (M.getD k z39) = true) : zc5 M = true := by
 unfold zc5
 rw [List.all_eq_true]
 intro i hi
 rw [List.all_eq_true]
 intro k hk
 exact h i (List.mem_range.1 hi) k (List.mem_range.1 hk)
theorem zgZ {M : List Ent} {i k : Nat} (hi : i < M.length) (hk : k < i) (h : zdC (M.getD i z39) (M.getD k z39) = false) : zc5 M = false := by
 rw [← Bool.not_eq_true]
 intro hc
 unfold zc5 at hc
 rw [List.all_eq_true] at hc
 have h1 := hc i (List.mem_range.2 hi)
 rw [List.all_eq_true] at h1
 have h2 := h1 k (List.mem_range.2 hk)
 rw [h] at h2
 cases h2
theorem ent_now {W5 : World} {ok : Nat → Prop} {ad : Addr} {L : List Ent} (h : Kd.F k39 W5 ok (some ad) L.length L) (i : Nat) (hi : i < L.length) : ∃ A3 c3 A4 c4,∀ w',Below W5.heap.size W5 w' → w'.cell? (ad.add (i * 7)) = some (.string (L.getD i z39).f0) ∧ w'.cell? ⟨(ad.add (i * 7)).block,(ad.add (i * 7)).off + 1,none⟩ = some (.int .i64 (L.getD i z39).f1.f0) ∧ w'.cell? ⟨(ad.add (i * 7)).block,(ad.add (i * 7)).off + 2,none⟩ = some (.int .i64 (L.getD i z39).f1.f1) ∧ w'.cell? ⟨(ad.add (i * 7)).block,(ad.add (i * 7)).off + 3,none⟩ = some (.slice A3 (L.getD i z39).f1.f2.length c3) ∧
   w'.cell? ⟨(ad.add (i * 7)).block,(ad.add (i * 7)).off + 4,none⟩ = some (.slice A4 (L.getD i z39).f1.f3.length c4) ∧ w'.cell? ⟨(ad.add (i * 7)).block,(ad.add (i * 7)).off + 5,none⟩ = some (.int .i64 (L.getD i z39).f1.f4.f0) ∧ w'.cell? ⟨(ad.add (i * 7)).block,(ad.add (i * 7)).off + 6,none⟩ = some (.int .i64 (L.getD i z39).f1.f4.f1) ∧ (L.getD i z39).f1.f2.length ≤ c3 ∧ Kd.C k75 w' A3 (L.getD i z39).f1.f2.length (L.getD i z39).f1.f2 ∧ (L.getD i z39).f1.f3.length ≤ c4 ∧ Kd.C Kd.string w' A4 (L.getD i z39).f1.f3.length (L.getD i z39).f1.f3 := by
 have hx : L[i]? = some (L.getD i z39) := by rw [List.getD_eq_getElem?_getD,List.getElem?_eq_getElem hi];rfl
 obtain ⟨ad',A3,c3,A4,c4,e,h0,h1,h2,h3,h4,h5,h6,l3,f3,l4,f4⟩ := ent_F2 h i hi _ hx
 injection e with e
 subst e
 exact ⟨A3,c3,A4,c4,fun w' hb => ⟨(hb.cell (World.block_lt_of_cell? _ _ h0)).trans h0,(hb.cell (World.block_lt_of_cell? _ _ h1)).trans h1,(hb.cell (World.block_lt_of_cell? _ _ h2)).trans h2,(hb.cell (World.block_lt_of_cell? _ _ h3)).trans h3,(hb.cell (World.block_lt_of_cell? _ _ h4)).trans h4,(hb.cell (World.block_lt_of_cell? _ _ h5)).trans h5,(hb.cell (World.block_lt_of_cell? _ _ h6)).trans h6,l3,Kd.F_now (Kd.F_below f3 hb),l4,Kd.F_now (Kd.F_below f4 hb)⟩⟩
set_option maxHeartbeats 16000000 in
set_option maxRecDepth 100000 in
theorem zF.walk (n lo : Int) (A0 : Option Addr) (c0 : Nat) (A : List S39) (n' lo' : Int) (B0 : Option Addr) (d0 : Nat) (B : List S39) (w : World) (hr0 : Kd.C k39 w A0 A.length A) (hc0 : A.length ≤ c0) (hr1 : Kd.C k39 w B0 B.length B) (hc1 : B.length ≤ d0)
  (hA : A.length ≤ 60) (hB : B.length ≤ 60) (hf : ∀ x ∈ A ++ B,fitU x = true) :
  Calls Tryz.prog 6 #[.agg #[.int .i64 n,.int .i64 lo,.slice A0 A.length c0],.agg #[.int .i64 n',.int .i64 lo',.slice B0 B.length d0]] w fun e w' => e = .returned (.bool (zc5 (A ++ B))) ∧ Below w.heap.size w w' := by
 have HA := za.mk (Kd.C_F zdx hr0)
 have HB := za.mk (Kd.C_F zdx hr1)
 have HLA := za.mk hA
 have HLB := za.mk hB
 have HFT := za.mk hf
 have HC0 := za.mk hc0
 have HC1 := za.mk hc1
 have Hw := za.mk (Below.refl w.heap.size w)
 clear hr0 hr1 hA hB hf hc0 hc1
 go_enter Tryz.func6,Tryz.ntmps6
 go_wp2_with (first
  | ((with_reducible refine zq (N := 2) rfl ?_);refine zn rfl (N := 2) rfl (cs := #[.int .i64 n,.int .i64 lo,.slice A0 A.length c0]) (t := 26) hrq ?_;intro g2 hg w2 hbox hb;have Gw_g2 := za.mk (adg Hw.out hg);replace Hw := za.mk (adl Hw.out hb);have Bg2 := za.mk hbox;clear hbox hb hg;obtain ⟨zg2_0,zg2_1,zg2_2,fg2_0,fg2_1,fg2_2⟩ := hcq3 Bg2.out)
  | ((with_reducible refine zq (N := 3) rfl ?_);refine zn rfl (N := 3) rfl (cs := #[.int .i64 n',.int .i64 lo',.slice B0 B.length d0]) (t := 26) hrq ?_;intro g3 hg w3 hbox hb;have Gw_g3 := za.mk (adg Hw.out hg);have Ng2_g3 := za.mk (adn hg Bg2.out);clear zg2_0 zg2_1 zg2_2 fg2_0 fg2_1 fg2_2;replace Bg2 := za.mk (adb Bg2.out hb);replace Hw := za.mk (adl Hw.out hb);have Bg3 := za.mk hbox;have HSZ := za.mk (zh Hw.out);clear hbox hb hg;obtain ⟨zg2_0,zg2_1,zg2_2,fg2_0,fg2_1,fg2_2⟩ := hcq3 Bg2.out)
  | ((with_reducible refine zq (N := 9) rfl ?_);refine Kd.R_lit k39 (w0 := w3) w3.heap.size 39 ?hg (N := 9) ?hd (xs := ([] : List S39)) (inner := []) (ok := (fun k_ => k_ < w.heap.size ∨ w3.heap.size ≤ k_)) (okp := fun _ => False) ?hr ?hp (fun _ hk => hk.elim) (.inr (Nat.le_refl _)) (Below.refl _ _) (Nat.le_refl _) (by simp) ?_;(case hg => rfl);(case hd => rfl);(case hr => first | (go_simp;done) | (go_simp;rfl));(case hp => exact (zaA.none _ _));intro v7 w7 ho hb hg hnew;clear zg2_0 zg2_1 zg2_2 fg2_0 fg2_1 fg2_2;have HN7 := za.mk (Kd.R_N ho);have T7 := za.mk hb;clear ho hb hg hnew;have B27 := za.mk (zo Bg2.out T7.out);obtain ⟨zg2_0,zg2_1,zg2_2⟩ := hcq3n B27.out)
  | ((with_reducible refine zby (b := .append) (xs := #[.tmp 9,.tmp 11]) rfl ?_);at_builtin;refine Kd.N_append_rows k39 (w0 := w3) w3.heap.size rfl (.tmp 9) (.tmp 11) 24 39 (.agg #[.string ⟨#[]⟩,.int .i64 0,.int .i64 0,.slice none 0 0,.slice none 0 0,.int .i64 0,.int .i64 0]) 96 rfl Tryz.underlying24 zdL rfl (by decide) (by omega) v7 ([] : List S39) A A0 A.length c0 (fun k_ => k_ < w.heap.size ∨ w3.heap.size ≤ k_) (fun k_ => k_ < w.heap.size) rfl rfl HN7.out (Kd.F_below HA.out (Hw.out.trans (T7.out.mono HSZ.out))) (fun k_ hk => ⟨.inl hk,fun e_ => by have := Kd.N_base HN7.out k_ e_.symm;have := HSZ.out;omega⟩) (fun k_ hk => .inr (Nat.le_trans (zh T7.out) hk)) T7.out (zh T7.out) (by have := HLA.out;have := HLB.out;simp only [List.length_nil];omega) ?_;intro v8 w8 ho hb hg hat;have HN8 := za.mk ho;have T8 := za.mk hb;clear ho hb hg hat;clear zg2_0 zg2_1 zg2_2;have B38 := za.mk (zo Bg3.out T8.out);obtain ⟨zg3_0,zg3_1,zg3_2⟩ := hcq3n B38.out)
  | ((with_reducible refine zby (b := .append) (xs := #[.tmp 13,.tmp 15]) rfl ?_);at_builtin;refine Kd.N_append_rows k39 (w0 := w3) w3.heap.size rfl (.tmp 13) (.tmp 15) 24 39 (.agg #[.string ⟨#[]⟩,.int .i64 0,.int .i64 0,.slice none 0 0,.slice none 0 0,.int .i64 0,.int .i64 0]) 96 rfl Tryz.underlying24 zdL rfl (by decide) (by omega) v8 ([] ++ A) B B0 B.length d0 (fun k_ => k_ < w.heap.size ∨ w3.heap.size ≤ k_) (fun k_ => k_ < w.heap.size) rfl rfl HN8.out (Kd.F_below HB.out (Hw.out.trans (T8.out.mono HSZ.out))) (fun k_ hk => ⟨.inl hk,fun e_ => by have := Kd.N_base HN8.out k_ e_.symm;have := HSZ.out;omega⟩) (fun k_ hk => .inr (Nat.le_trans (zh T8.out) hk)) T8.out (zh T8.out) (by have := HLA.out;have := HLB.out;simp only [List.nil_append];omega) ?_;intro v9 w9 ho hb hg hat;have HN9 := za.mk ho;have T9 := za.mk hb;clear ho hb hg hat;clear zg3_0 zg3_1 zg3_2))
 obtain ⟨A9,c9,hv9⟩ := Kd.N_slice HN9.out
 subst hv9
 have HF9 := za.mk (Kd.N_F HN9.out)
 have HB9 := za.mk (Hw.out.trans (T9.out.mono HSZ.out))
 clear HN9 HN8 HN7 T9 T8 T7
 have hMe : [] ++ A ++ B = A ++ B := by rw [List.nil_append]
 rw [hMe] at HF9
 have hMl : ([] ++ A ++ B).length = (A ++ B).length := by rw [hMe]
 rw [hMl]
 have HML : za ((A ++ B).length ≤ 120) := ⟨by rw [List.length_append];have := HLA.out;have := HLB.out;omega⟩
 clear hMe hMl
 generalize hM : A ++ B = M at *
 have HMM := za.mk hM
 clear hM
 go_loopw [6] (fun v6 wr => ∃ i : Nat,v6 = .int .i64 i ∧ i ≤ M.length ∧ za (∀ j,j < i → ∀ k,k < j → zdC (M.getD j z39) (M.getD k z39) = true) ∧ za (Below w9.heap.size w9 wr)) (fun v6 _ => M.length - (intOf v6).toNat)
 case atStart => exact ⟨0,rfl,Nat.zero_le _,⟨fun j hj => absurd hj (Nat.not_lt_zero _)⟩,⟨Below.refl _ _⟩⟩
 case round =>
  obtain ⟨i,rfl,hi,HPI,HBI⟩ := hrel
  by_cases hlt : i < M.length
  ·have hb : decide (i < M.length) = true := decide_eq_true hlt
   have HLT := za.mk hlt
   go_wp2_with fail
   go_loopw [7] (fun v7 wr => ∃ k : Nat,v7 = .int .i64 k ∧ k ≤ i ∧ za (∀ j,j < k → zdC (M.getD i z39) (M.getD j z39) = true) ∧ za (Below w9.heap.size w9 wr)) (fun v7 _ => i - (intOf v7).toNat)
   case atStart => exact ⟨0,rfl,Nat.zero_le _,⟨fun j hj => absurd hj (Nat.not_lt_zero _)⟩,HBI⟩
   case round =>
    clear HBI
    obtain ⟨k,rfl,hk,HPK,HBR⟩ := hrel
    by_cases hki : k < i
    ·have HKI := za.mk hki
     have hb2 : decide (k < i) = true := decide_eq_true hki
     rcases A9 with _ | ad
     ·exact absurd HF9.out (fun h_ => by have h1_ := Kd.F_get h_ z39 (i : Int) (by omega) (by omega);obtain ⟨_,_,e_,_⟩ := h1_;cases e_)
     obtain ⟨A3,c3,A4,c4,hX⟩ := ent_now HF9.out i HLT.out
     obtain ⟨D3,d3,D4,d4,hY⟩ := ent_now HF9.out k (by have := HLT.out;omega)
     have hgm : M.getD i z39 ∈ M := by
      rw [show M.getD i z39 = M[i] from by rw [List.getD_eq_getElem?_getD,List.getElem?_eq_getElem HLT.out];rfl]
      exact List.getElem_mem HLT.out
     obtain ⟨f1,f2,f3⟩ := fitU_is (HFT.out _ hgm)
     clear hgm
     obtain ⟨kq,hkq⟩ := (zfs (M.getD i z39).f1.f0 (M.getD i z39).f1.f1 (M.getD i z39).f1.f2 (M.getD i z39).f1.f3 (M.getD i z39).f1.f4.f0 (M.getD i z39).f1.f4.f1 (M.getD k z39).f1.f0 (M.getD k z39).f1.f1 (M.getD k z39).f1.f2 (M.getD k z39).f1.f3 (M.getD k z39).f1.f4.f0 (M.getD k z39).f1.f4.f1 f1 f2 (by omega)).rounds
     obtain ⟨u,hu⟩ : ∃ u,zdh (M.getD i z39).f1.f0 (M.getD i z39).f1.f1 (M.getD i z39).f1.f2 (M.getD i z39).f1.f3 (M.getD i z39).f1.f4.f0 (M.getD i z39).f1.f4.f1 (M.getD k z39).f1.f0 (M.getD k z39).f1.f1 (M.getD k z39).f1.f2 (M.getD k z39).f1.f3 (M.getD k z39).f1.f4.f0 (M.getD k z39).f1.f4.f1 = u := ⟨_,rfl⟩
     rw [hu] at hkq
     have hi0 : ((i : Int) < (M.length : Int)) = True := eq_true (by have := HLT.out;omega)
     have hk0 : ((k : Int) < (M.length : Int)) = True := eq_true (by have := HLT.out;omega)
     have hi1 : ((0 : Int) ≤ (i : Int)) = True := eq_true (by omega)
     have hk1 : ((0 : Int) ≤ (k : Int)) = True := eq_true (by omega)
     generalize hgi : M.getD i z39 = p at *
     generalize hgk : M.getD k z39 = q at *
     have HGI := za.mk hgi
     have HGK := za.mk hgk
     obtain ⟨p0,⟨p1,p2,p3,p4,⟨p5,p6⟩⟩⟩ := p
     obtain ⟨q0,⟨q1,q2,q3,q4,⟨q5,q6⟩⟩⟩ := q
     dsimp only at hX hY hkq hu
     have HX := za.mk hX
     have HY := za.mk hY
     have HU := za.mk hkq
     have HUE := za.mk hu
     clear hX hY hkq hu hgi hgk f1 f2 f3 hlt hki
     go_wp2_with fail
     refine zbV (n := 12) (S := fun w' => Below w9.heap.size w9 w') (ds := []) (zaa 12 0) (by kernel_rfl) rfl rfl (HBR.out.drew) (fun hHeld => ?_);refine zaQ zF.tab9 zF.bits9 (fun HT_ HW_ => ?_)
     refine puq (i := 0) (N := some 28) HT_.out (zaa 12 1) ?_
     refine puq (i := 1) (N := some 29) HT_.out (zaa 12 2) ?_
     refine puq (i := 2) (N := some 30) HT_.out (zaa 12 3) ?_
     refine puq (i := 3) (N := some 31) HT_.out (zaa 12 4) ?_
     refine take_ (i := 4) (N := some 32) (v := ?_) (a' := ?_) (zaa 12 5) rfl rfl (zU HT_.out HW_.out (by kernel_rfl)) (fun _ _ _ h => h) (Or.inl ⟨by rfl,?_⟩) hHeld ?_ ?_
     rotate_left
     ·intro w' hM
      obtain ⟨x_0,x_1,x_2,x_3,x_4,x_5,x_6,_⟩ := HX.out w' hM
      go_simp
      with_reducible rfl
     rotate_left
     ·simp only [Act.put,List.setIfInBounds_toArray,List.set_cons_zero,List.set_cons_succ,zam,zap]
      rfl
     refine puq (i := 5) (N := some 33) HT_.out (zaa 12 6) ?_
     refine puq (i := 6) (N := some 34) HT_.out (zaa 12 7) ?_
     refine puq (i := 7) (N := some 35) HT_.out (zaa 12 8) ?_
     refine puq (i := 8) (N := some 36) HT_.out (zaa 12 9) ?_
     refine take_ (i := 9) (N := some 37) (v := ?_) (a' := ?_) (zaa 12 10) rfl rfl (zU HT_.out HW_.out (by kernel_rfl)) (fun _ _ _ h => h) (Or.inl ⟨by rfl,?_⟩) hHeld ?_ ?_
     rotate_left
     ·intro w' hM
      obtain ⟨y_0,y_1,y_2,y_3,y_4,y_5,y_6,_⟩ := HY.out w' hM
      go_simp
      with_reducible rfl
     rotate_left
     ·simp only [Act.put,List.setIfInBounds_toArray,List.set_cons_zero,List.set_cons_succ,zam,zap]
      rfl
     refine zct (i := 10) (N := some 38) (zaa 12 11) rfl rfl (za0 HT_.out (by kernel_rfl)) (by decide) (fun K hK => ?_)
     refine zbG Tryz.func20 (by kernel_rfl) rfl #[.agg #[.int .i64 p1,.int .i64 p2,.slice A3 p3.length c3,.slice A4 p4.length c4,.int .i64 p5,.int .i64 p6],.agg #[.int .i64 q1,.int .i64 q2,.slice D3 q3.length d3,.slice D4 q4.length d4,.int .i64 q5,.int .i64 q6]] (by rfl) rfl rfl (by (try simp only [List.map_toArray,List.map_cons,List.map_nil]);first | done | rfl) ?_
     refine (zbQ.calls kq p1 p2 _ _ p3 _ _ p4 p5 p6 q1 q2 _ _ q3 _ _ q4 q5 q6 u _ (HX.out _ hHeld).2.2.2.2.2.2.2.2.1 (HX.out _ hHeld).2.2.2.2.2.2.2.1 (HX.out _ hHeld).2.2.2.2.2.2.2.2.2.2 (HX.out _ hHeld).2.2.2.2.2.2.2.2.2.1 (HY.out _ hHeld).2.2.2.2.2.2.2.2.1 (HY.out _ hHeld).2.2.2.2.2.2.2.1 (HY.out _ hHeld).2.2.2.2.2.2.2.2.2.2 (HY.out _ hHeld).2.2.2.2.2.2.2.2.2.1 HU.out).mono ?_
     rintro e x1 ⟨rfl,hb⟩
     refine ⟨_,rfl,?_⟩
     refine hK.out _ _ (ze hHeld hb) (fun hHeld => ?_)
     clear hK K hb
     refine za5 (a' := ?_) ?_ ?_
     rotate_left
     ·show Act.put _ (some 38) _ = _
      simp only [Act.put,List.setIfInBounds_toArray,List.set_cons_zero,List.set_cons_succ,zam,zap]
      rfl
     refine puq (i := 11) (N := some 8) HT_.out (zaa 12 12) ?_
     refine zbX (zaX HT_.out (by kernel_rfl)) ?_
     clear HBR
     have HBR := za.mk hHeld
     clear hHeld HT_ HW_
     by_cases hd : p0 = q0
     ·have d1 : (p0.toList == q0.toList) = true := by rw [zb1];exact decide_eq_true hd
      have HDD := za.mk hd
      clear hd
      go_wp2_with fail
      refine zbV (n := 15) (S := fun w' => Below w9.heap.size w9 w') (ds := []) (zaa 15 0) (by kernel_rfl) rfl rfl (HBR.out.drew) (fun hHeld => ?_);refine zaQ zF.tab10 zF.bits10 (fun HT_ HW_ => ?_)
      refine puq (i := 0) (N := some 39) HT_.out (zaa 15 1) ?_
      refine puq (i := 1) (N := some 40) HT_.out (zaa 15 2) ?_
      refine puq (i := 2) (N := some 41) HT_.out (zaa 15 3) ?_
      refine puq (i := 3) (N := some 42) HT_.out (zaa 15 4) ?_
      refine take_ (i := 4) (N := some 43) (v := ?_) (a' := ?_) (zaa 15 5) rfl rfl (zU HT_.out HW_.out (by kernel_rfl)) (fun _ _ _ h => h) (Or.inl ⟨by rfl,?_⟩) hHeld ?_ ?_
      rotate_left
      ·intro w' hM
       obtain ⟨x_0,x_1,x_2,x_3,x_4,x_5,x_6,_⟩ := HX.out w' hM
       go_simp
       with_reducible rfl
      rotate_left
      ·simp only [Act.put,List.setIfInBounds_toArray,List.set_cons_zero,List.set_cons_succ,zam,zap]
       rfl
      refine puq (i := 5) (N := some 44) HT_.out (zaa 15 6) ?_
      refine puq (i := 6) (N := some 45) HT_.out (zaa 15 7) ?_
      refine puq (i := 7) (N := some 46) HT_.out (zaa 15 8) ?_
      refine puq (i := 8) (N := some 47) HT_.out (zaa 15 9) ?_
      refine take_ (i := 9) (N := some 48) (v := ?_) (a' := ?_) (zaa 15 10) rfl rfl (zU HT_.out HW_.out (by kernel_rfl)) (fun _ _ _ h => h) (Or.inl ⟨by rfl,?_⟩) hHeld ?_ ?_
      rotate_left
      ·intro w' hM
       obtain ⟨y_0,y_1,y_2,y_3,y_4,y_5,y_6,_⟩ := HY.out w' hM
       go_simp
       with_reducible rfl
      rotate_left
      ·simp only [Act.put,List.setIfInBounds_toArray,List.set_cons_zero,List.set_cons_succ,zam,zap]
       rfl
      refine puq (i := 10) (N := some 49) HT_.out (zaa 15 11) ?_
      refine puq (i := 11) (N := some 50) HT_.out (zaa 15 12) ?_
      refine puq (i := 12) (N := some 51) HT_.out (zaa 15 13) ?_
      refine puq (i := 13) (N := some 52) HT_.out (zaa 15 14) ?_
      refine puq (i := 14) (N := some 53) HT_.out (zaa 15 15) ?_
      refine zbX (zaX HT_.out (by kernel_rfl)) ?_
      clear HBR
      have HBR := za.mk hHeld
      clear hHeld HT_ HW_
      rcases u with _ | _
      ·go_wp2_with fail
       go_ret
       refine ⟨?_,HB9.out.trans (HBR.out.mono (zh HB9.out))⟩
       have hq_ : zdC (M.getD i z39) (M.getD k z39) = false := by
        rw [HGI.out,HGK.out]
        unfold zdC
        dsimp only
        rw [HUE.out,decide_eq_true HDD.out]
        rfl
       rw [HMM.out,zgZ HLT.out HKI.out hq_]
       rfl
      ·have HPAIR : za (zdC ⟨p0,⟨p1,p2,p3,p4,⟨p5,p6⟩⟩⟩ ⟨q0,⟨q1,q2,q3,q4,⟨q5,q6⟩⟩⟩ = true) := ⟨by unfold zdC;dsimp only;rw [HUE.out,Bool.or_true]⟩
       go_wp2_with fail
       have hK_ : k + 1 ≤ i ∧ i < 120 := ⟨HKI.out,by have := HML.out;have := HLT.out;omega⟩
       obtain ⟨hK1_,hK2_⟩ := hK_
       have hW_ : wrap64 ((k : Int) + 1) = ((k + 1 : Nat) : Int) := by rw [z4 (by omega) (by omega)];simp
       go_roundw
       case rel => exact ⟨k + 1,by (try simp only [hW_]),hK1_,⟨fun j hj => by rcases Nat.lt_succ_iff_lt_or_eq.1 hj with h_ | h_;exact HPK.out j h_;rw [h_,HGK.out];exact HPAIR.out⟩,HBR⟩
       case measure => rw [hW_];simp [intOf];omega
     ·have d1 : (p0.toList == q0.toList) = false := by rw [zb1];exact decide_eq_false hd
      have HPAIR : za (zdC ⟨p0,⟨p1,p2,p3,p4,⟨p5,p6⟩⟩⟩ ⟨q0,⟨q1,q2,q3,q4,⟨q5,q6⟩⟩⟩ = true) := ⟨by unfold zdC;dsimp only;rw [decide_eq_false hd];rfl⟩
      clear hd
      go_wp2_with fail
      refine zbV (n := 15) (S := fun w' => Below w9.heap.size w9 w') (ds := []) (zaa 15 0) (by kernel_rfl) rfl rfl (HBR.out.drew) (fun hHeld => ?_);refine zaQ zF.tab10 zF.bits10 (fun HT_ HW_ => ?_)
      refine puq (i := 0) (N := some 39) HT_.out (zaa 15 1) ?_
      refine puq (i := 1) (N := some 40) HT_.out (zaa 15 2) ?_
      refine puq (i := 2) (N := some 41) HT_.out (zaa 15 3) ?_
      refine puq (i := 3) (N := some 42) HT_.out (zaa 15 4) ?_
      refine take_ (i := 4) (N := some 43) (v := ?_) (a' := ?_) (zaa 15 5) rfl rfl (zU HT_.out HW_.out (by kernel_rfl)) (fun _ _ _ h => h) (Or.inl ⟨by rfl,?_⟩) hHeld ?_ ?_
      rotate_left
      ·intro w' hM
       obtain ⟨x_0,x_1,x_2,x_3,x_4,x_5,x_6,_⟩ := HX.out w' hM
       go_simp
       with_reducible rfl
      rotate_left
      ·simp only [Act.put,List.setIfInBounds_toArray,List.set_cons_zero,List.set_cons_succ,zam,zap]
       rfl
      refine puq (i := 5) (N := some 44) HT_.out (zaa 15 6) ?_
      refine puq (i := 6) (N := some 45) HT_.out (zaa 15 7) ?_
      refine puq (i := 7) (N := some 46) HT_.out (zaa 15 8) ?_
      refine puq (i := 8) (N := some 47) HT_.out (zaa 15 9) ?_
      refine take_ (i := 9) (N := some 48) (v := ?_) (a' := ?_) (zaa 15 10) rfl rfl (zU HT_.out HW_.out (by kernel_rfl)) (fun _ _ _ h => h) (Or.inl ⟨by rfl,?_⟩) hHeld ?_ ?_
      rotate_left
      ·intro w' hM
       obtain ⟨y_0,y_1,y_2,y_3,y_4,y_5,y_6,_⟩ := HY.out w' hM
       go_simp
       with_reducible rfl
      rotate_left
      ·simp only [Act.put,List.setIfInBounds_toArray,List.set_cons_zero,List.set_cons_succ,zam,zap]
       rfl
      refine puq (i := 10) (N := some 49) HT_.out (zaa 15 11) ?_
      refine puq (i := 11) (N := some 50) HT_.out (zaa 15 12) ?_
      refine zdV (fun _ _ _ _ _ h => h) HT_.out [(12,51),(13,52)] 1 rfl (zaa 15 14) (by kernel_rfl) (by kernel_rfl) (a' := ?_) ?_ ?_
      rotate_left
      ·simp only [zcB,Act.put,List.setIfInBounds_toArray,List.set_cons_zero,List.set_cons_succ]
       rfl
      refine puq (i := 14) (N := some 53) HT_.out (zaa 15 15) ?_
      refine zbX (zaX HT_.out (by kernel_rfl)) ?_
      clear HBR
      have HBR := za.mk hHeld
      clear hHeld HT_ HW_
      go_wp2_with fail
      have hK_ : k + 1 ≤ i ∧ i < 120 := ⟨HKI.out,by have := HML.out;have := HLT.out;omega⟩
      obtain ⟨hK1_,hK2_⟩ := hK_
      have hW_ : wrap64 ((k : Int) + 1) = ((k + 1 : Nat) : Int) := by rw [z4 (by omega) (by omega)];simp
      go_roundw
      case rel => exact ⟨k + 1,by (try simp only [hW_]),hK1_,⟨fun j hj => by rcases Nat.lt_succ_iff_lt_or_eq.1 hj with h_ | h_;exact HPK.out j h_;rw [h_,HGK.out];exact HPAIR.out⟩,HBR⟩
      case measure => rw [hW_];simp [intOf];omega
    ·obtain rfl : k = i := by omega
     have hb2 : decide (k < k) = false := decide_eq_false hki
     go_wp2_with fail
     have hK2_ : k < 120 := by have := HML.out;have := HLT.out;omega
     have hW_ : wrap64 ((k : Int) + 1) = ((k + 1 : Nat) : Int) := by rw [z4 (by omega) (by omega)];simp
     go_roundw
     case rel => exact ⟨k + 1,by (try simp only [hW_]),by omega,⟨fun j hj => by rcases Nat.lt_succ_iff_lt_or_eq.1 hj with h_ | h_;exact HPI.out j h_;rw [h_];exact HPK.out⟩,HBR⟩
     case measure => rw [hW_];simp [intOf];omega
  ·obtain rfl : i = M.length := by omega
   have hb : decide (M.length < M.length) = false := decide_eq_false hlt
   go_wp2_with fail
   go_ret
   rw [HMM.out,zhV HPI.out]
   exact ⟨rfl,HB9.out.trans (HBI.out.mono (zh HB9.out))⟩
def zF.f (a0_0 : Int) (a0_1 : Int) (l0_2 : List (S39)) (a1_0 : Int) (a1_1 : Int) (l1_2 : List (S39)) : Option Bool := if l0_2.length ≤ 60 ∧ l1_2.length ≤ 60 ∧ (l0_2 ++ l1_2).all fitU = true then some (zc5 (l0_2 ++ l1_2)) else none
theorem zF.calls (a0_0 : Int) (a0_1 : Int) (A0_2 : Option Addr) (c0_2 : Nat) (l0_2 : List (S39)) (a1_0 : Int) (a1_1 : Int) (A1_2 : Option Addr) (c1_2 : Nat) (l1_2 : List (S39)) (r : Bool) (w : World) (hr0_2 : Kd.C k39 w A0_2 l0_2.length l0_2) (hc0_2 : l0_2.length ≤ c0_2) (hr1_2 : Kd.C k39 w A1_2 l1_2.length l1_2) (hc1_2 : l1_2.length ≤ c1_2) (h : zF.f a0_0 a0_1 l0_2 a1_0 a1_1 l1_2 = some r) :
  Calls Tryz.prog 6 #[.agg #[.int .i64 a0_0,.int .i64 a0_1,.slice A0_2 l0_2.length c0_2],.agg #[.int .i64 a1_0,.int .i64 a1_1,.slice A1_2 l1_2.length c1_2]] w fun e w' => e = .returned (.bool r) ∧ Below w.heap.size w w' := by
 unfold zF.f at h
 split at h
 ·rename_i hh
  obtain rfl := Option.some.inj h
  exact zF.walk a0_0 a0_1 A0_2 c0_2 l0_2 a1_0 a1_1 A1_2 c1_2 l1_2 w hr0_2 hc0_2 hr1_2 hc1_2 hh.1 hh.2.1 (List.all_eq_true.1 hh.2.2)
 ·cases h
def zaC.f (a0_0 : Int) (a0_1 : Int) (l0_2 : List (S75)) (l0_3 : List ByteArray) (a0_4 : Int) (a0_5 : Int) (a1_0 : Int) (a1_1 : Int) (l1_2 : List (S75)) (l1_3 : List ByteArray) (a1_4 : Int) (a1_5 : Int) : Option (Bool) := if a0_1 = a1_1 then (some (decide (a0_0 < a1_0))) else (some (decide (a0_1 < a1_1)))
set_option maxHeartbeats 8000000 in
set_option maxRecDepth 100000 in
theorem zaC.calls (a0_0 : Int) (a0_1 : Int) (A0_2 : Option Addr) (c0_2 : Nat) (l0_2 : List (S75)) (A0_3 : Option Addr) (c0_3 : Nat) (l0_3 : List ByteArray) (a0_4 : Int) (a0_5 : Int) (a1_0 : Int) (a1_1 : Int) (A1_2 : Option Addr) (c1_2 : Nat) (l1_2 : List (S75)) (A1_3 : Option Addr) (c1_3 : Nat) (l1_3 : List ByteArray) (a1_4 : Int) (a1_5 : Int) (r : Bool) (w : World) (hr0_2 : Kd.C k75 w A0_2 l0_2.length l0_2) (hc0_2 : l0_2.length ≤ c0_2) (hr0_3 : Kd.C Kd.string w A0_3 l0_3.length l0_3) (hc0_3 : l0_3.length ≤ c0_3) (hr1_2 : Kd.C k75 w A1_2 l1_2.length l1_2) (hc1_2 : l1_2.length ≤ c1_2) (hr1_3 : Kd.C Kd.string w A1_3 l1_3.length l1_3) (hc1_3 : l1_3.length ≤ c1_3) (h : zaC.f a0_0 a0_1 l0_2 l0_3 a0_4 a0_5 a1_0 a1_1 l1_2 l1_3 a1_4 a1_5 = some r) :
  Calls Tryz.prog 24 #[.agg #[.int .i64 a0_0,.int .i64 a0_1,.slice A0_2 l0_2.length c0_2,.slice A0_3 l0_3.length c0_3,.int .i64 a0_4,.int .i64 a0_5],.agg #[.int .i64 a1_0,.int .i64 a1_1,.slice A1_2 l1_2.length c1_2,.slice A1_3 l1_3.length c1_3,.int .i64 a1_4,.int .i64 a1_5]] w fun e w' => e = .returned (.bool r) ∧ Below w.heap.size w w' := by
 have hu35 := Tryz.underlying35
 have HR0_2 := za.mk hr0_2
 have HC0_2 := za.mk hc0_2
 clear hr0_2 hc0_2
 have HR0_3 := za.mk hr0_3
 have HC0_3 := za.mk hc0_3
 clear hr0_3 hc0_3
 have HR1_2 := za.mk hr1_2
 have HC1_2 := za.mk hc1_2
 clear hr1_2 hc1_2
 have HR1_3 := za.mk hr1_3
 have HC1_3 := za.mk hc1_3
 clear hr1_3 hc1_3
 have HB := za.mk (Below.refl w.heap.size w)
 have H : (if a0_1 = a1_1 then (some (decide (a0_0 < a1_0))) else (some (decide (a0_1 < a1_1)))) = some r := h
 clear h
 by_cases c3 : a0_1 = a1_1
 ·rw [if_pos c3] at H
  have c3b0 : (a0_1 == a1_1) = true := beq_iff_eq.mpr c3
  have c3b1 : (a0_1 != a1_1) = false := bne_eq_false_iff_eq.mpr c3
  clear c3
  obtain rfl := Option.some.inj H
  go_enter Tryz.func24,Tryz.ntmps24
  go_wp2_with (first | ((with_reducible refine zq (N := 2) rfl ?_);refine zn rfl (N := 2) rfl (cs := #[.int .i64 a0_0,.int .i64 a0_1,.slice A0_2 l0_2.length c0_2,.slice A0_3 l0_3.length c0_3,.int .i64 a0_4,.int .i64 a0_5]) (t := 35) hrq ?_;intro yd hg w4 hbox hb;have n_ := haq (ze hBq hb) <| haq (hbox) <| haq ((by rw [hg];exact (zh hBq) : w.heap.size ≤ yd)) <| haq ((by rw [hg];exact (zh hBq) : w.heap.size ≤ yd)) <| trivial;clear HB;obtain ⟨HB,ya,yi,yg,_⟩ := n_;clear hb hbox hg) | ((with_reducible refine zq (N := 3) rfl ?_);refine zn rfl (N := 3) rfl (cs := #[.int .i64 a1_0,.int .i64 a1_1,.slice A1_2 l1_2.length c1_2,.slice A1_3 l1_3.length c1_3,.int .i64 a1_4,.int .i64 a1_5]) (t := 35) hrq ?_;intro ye hg w5 hbox hb;have n_ := haq (hbq ya.out hb) <| haq (ze hCq hb) <| haq (hbox) <| haq ((by rw [hg];exact (zh hCq) : w.heap.size ≤ ye)) <| haq ((by rw [hg];exact (zh hCq) : w.heap.size ≤ ye)) <| haq (hnq hg ya.out) <| haq (hmq hg ya.out) <| trivial;clear ya HB;obtain ⟨ya,HB,yf,yj,yh,yb,yc,_⟩ := n_;clear hb hbox hg;have hnb6 := yb.out;have hnc6 := yc.out;obtain ⟨hcz7_0,hcz7_1,hcz7_2,hcz7_3,hcz7_4,hcz7_5,hfz7_0,hfz7_1,hfz7_2,hfz7_3,hfz7_4,hfz7_5⟩ := hcq6 ya.out;obtain ⟨hcz8_0,hcz8_1,hcz8_2,hcz8_3,hcz8_4,hcz8_5,hfz8_0,hfz8_1,hfz8_2,hfz8_3,hfz8_4,hfz8_5⟩ := hcq6 yf.out))
  go_ret
  exact ⟨hHq,hCq⟩
 ·rw [if_neg c3] at H
  have c3b0 : (a0_1 == a1_1) = false := beq_eq_false_iff_ne.mpr c3
  have c3b1 : (a0_1 != a1_1) = true := bne_iff_ne.mpr c3
  obtain rfl := Option.some.inj H
  go_enter Tryz.func24,Tryz.ntmps24
  go_wp2_with (first | ((with_reducible refine zq (N := 2) rfl ?_);refine zn rfl (N := 2) rfl (cs := #[.int .i64 a0_0,.int .i64 a0_1,.slice A0_2 l0_2.length c0_2,.slice A0_3 l0_3.length c0_3,.int .i64 a0_4,.int .i64 a0_5]) (t := 35) hrq ?_;intro yd hg w9 hbox hb;have n_ := haq (ze hBq hb) <| haq (hbox) <| haq ((by rw [hg];exact (zh hBq) : w.heap.size ≤ yd)) <| haq ((by rw [hg];exact (zh hBq) : w.heap.size ≤ yd)) <| trivial;clear HB;obtain ⟨HB,ya,yi,yg,_⟩ := n_;clear hb hbox hg) | ((with_reducible refine zq (N := 3) rfl ?_);refine zn rfl (N := 3) rfl (cs := #[.int .i64 a1_0,.int .i64 a1_1,.slice A1_2 l1_2.length c1_2,.slice A1_3 l1_3.length c1_3,.int .i64 a1_4,.int .i64 a1_5]) (t := 35) hrq ?_;intro ye hg w10 hbox hb;have n_ := haq (hbq ya.out hb) <| haq (ze hCq hb) <| haq (hbox) <| haq ((by rw [hg];exact (zh hCq) : w.heap.size ≤ ye)) <| haq ((by rw [hg];exact (zh hCq) : w.heap.size ≤ ye)) <| haq (hnq hg ya.out) <| haq (hmq hg ya.out) <| trivial;clear ya HB;obtain ⟨ya,HB,yf,yj,yh,yb,yc,_⟩ := n_;clear hb hbox hg;have hnb11 := yb.out;have hnc11 := yc.out;obtain ⟨hcz12_0,hcz12_1,hcz12_2,hcz12_3,hcz12_4,hcz12_5,hfz12_0,hfz12_1,hfz12_2,hfz12_3,hfz12_4,hfz12_5⟩ := hcq6 ya.out;obtain ⟨hcz13_0,hcz13_1,hcz13_2,hcz13_3,hcz13_4,hcz13_5,hfz13_0,hfz13_1,hfz13_2,hfz13_3,hfz13_4,hfz13_5⟩ := hcq6 yf.out))
  go_ret
  exact ⟨hHq,hCq⟩
def zR.l0 : Nat → Int → List (S39) → Int → Int → Int → List (S39) → Option ((List (S39)))
 | 0,_,_,_,_,_,_ => none
 | k + 1,x1,x5,x6,yP,yQ,yc => if x6 < (yc.length : Int) then (if 0 ≤ x6 then (if ((zd yc x6).f1.f1) = x1 then (if x5.length < 1466015503701 then (zR.l0 k x1 (x5 ++ [(⟨(zd yc x6).f0,(⟨(zd yc x6).f1.f0,(zd yc x6).f1.f1,(zd yc x6).f1.f2,(zd yc x6).f1.f3,(⟨(zd yc x6).f1.f4.f0,(zd yc x6).f1.f4.f1⟩ : S33)⟩ : S35)⟩ : S39)]) (wrap64 (x6 + 1)) yP yQ yc) else (none)) else (zR.l0 k x1 x5 (wrap64 (x6 + 1)) yP yQ yc)) else (none)) else (some x5)
def zR.f (k : Nat) (a0_0 : Int) (a0_1 : Int) (l0_2 : List (S39)) (a1 : Int) : Option ((List (S39))) := zR.l0 k a1 ([] : List (S39)) 0 a0_0 a0_1 l0_2
set_option maxHeartbeats 8000000 in
set_option maxRecDepth 100000 in
theorem zR.calls (k : Nat) (a0_0 : Int) (a0_1 : Int) (P0_2_ : Nat → Prop) (A0_2 : Option Addr) (c0_2 : Nat) (l0_2 : List (S39)) (a1 : Int) (r : List (S39)) (w : World) (hs0_2 : Kd.V k39 39 w w.heap.size (fun k_ => P0_2_ k_) (.slice A0_2 l0_2.length c0_2) l0_2) (h : zR.f k a0_0 a0_1 l0_2 a1 = some r) :
  Calls Tryz.prog 41 #[.agg #[.int .i64 a0_0,.int .i64 a0_1,.slice A0_2 l0_2.length c0_2],.int .i64 a1] w fun e w' => ∃ v0_ : Value,e = .returned (v0_) ∧ Kd.N k39 39 w' w.heap.size (fun k_ => (P0_2_ k_ ∨ w.heap.size ≤ k_)) v0_ r ∧ Below w.heap.size w w' := by
 have hu26 := Tryz.underlying26
 have hu39 := Tryz.underlying39
 have HO0_2 := za.mk (show Kd.V k39 39 w w.heap.size (fun k_ => (P0_2_ k_ ∨ w.heap.size ≤ k_)) (.slice A0_2 l0_2.length c0_2) l0_2 from Kd.V_mono hs0_2 (fun k_ hk => .inl hk))
 have HB := za.mk (Below.refl w.heap.size w)
 have H : (zR.l0 k a1 ([] : List (S39)) 0 a0_0 a0_1 l0_2) = some r := h
 clear h
 have H' := za.mk H
 clear H
 go_enter Tryz.func41,Tryz.ntmps41
 go_wp2_with (first | ((with_reducible refine zq (N := 2) rfl ?_);refine zn rfl (N := 2) rfl (cs := #[.int .i64 a0_0,.int .i64 a0_1,.slice A0_2 l0_2.length c0_2]) (t := 26) hrq ?_;intro yb hg w3 hbox hb;have n_ := haq (Kd.V_below (Kd.V_elderB (by (with_reducible repeat (first | apply Kd.V_alloc | apply Kd.V_drewN | apply Kd.V_drew));exact HO0_2.out) yb (Nat.le_of_eq hg.symm)) hb) <| haq (ze hBq hb) <| haq (hbox) <| haq ((by rw [hg];exact (zh hBq) : w.heap.size ≤ yb)) <| haq ((by rw [hg];exact (zh hBq) : w.heap.size ≤ yb)) <| trivial;clear HO0_2 HB;obtain ⟨HO0_2,HB,yj,YJ,yT,_⟩ := n_;clear hb hbox hg))
 go_loopg [5,6] k (fun kq v5 v6 w' => ∃ (x5_1 : List (S39)) (x6_1 : Int),v6 = .int .i64 x6_1 ∧ za (zR.l0 kq a1 x5_1 x6_1 a0_0 a0_1 l0_2 = some r) ∧ za (kq ≤ k) ∧ za (Kd.N k39 39 w' w.heap.size (fun k_ => (P0_2_ k_ ∨ w.heap.size ≤ k_) ∧ k_ ≠ yb) v5 x5_1) ∧ za (Kd.V k39 39 w' w.heap.size (fun k_ => (P0_2_ k_ ∨ w.heap.size ≤ k_) ∧ some k_ ≠ (v5 : Value).ownBlock ∧ k_ ≠ yb) (.slice A0_2 l0_2.length c0_2) l0_2) ∧ za (w'.heap[yb]? = some (.cells #[.int .i64 a0_0,.int .i64 a0_1,(.slice A0_2 l0_2.length c0_2)] 26 (0,0))) ∧ za (Below w.heap.size w w'))
 case atStart => exact ⟨(([] : List (S39))),(0),(hDq),H',⟨Nat.le_refl _⟩,⟨by first | exact Kd.R_nil _ _ _ _ _ | exact Kd.N_nil _ _ _ _ _ | exact Kd.V_nil _ _ _ _ _ | exact Kd.Q_nil _ _ _ _ _ | exact Kd.S_nil _ _ _ _ _⟩,⟨by (with_reducible repeat (first | apply Kd.V_alloc | apply Kd.V_drewN | apply Kd.V_drew));exact Kd.V_mono HO0_2.out (fun _ hk => ⟨hk.1,⟨(by simp [Value.ownBlock]),hk.2⟩⟩)⟩,⟨hGq yj.out⟩,⟨by repeat (first | (with_reducible first | exact HB.out | apply zl | apply zi | apply zp | refine zm ?_ yT.out) | exact HB.out)⟩⟩
 case round =>
  clear H'
  try clear p2
  obtain ⟨x5_1,x6_1,rfl,HA,HK1,HO_5,ya,yj,HB⟩ := hrel
  cases gk with
  | zero => exact absurd HA.out (by simp [zR.l0])
  | succ k1 =>
   have H := HA.out
   clear HA
   simp only [zR.l0] at H
   by_cases c4 : x6_1 < (l0_2.length : Int)
   ·rw [if_pos c4] at H
    have c4b0 : decide (x6_1 < (l0_2.length : Int)) = true := decide_eq_true c4
    clear c4
    by_cases c5 : 0 ≤ x6_1
    ·rw [if_pos c5] at H
     have c5b0 : decide (0 ≤ x6_1) = true := decide_eq_true c5
     clear c5
     by_cases c6 : ((zd l0_2 x6_1).f1.f1) = a1
     ·rw [if_pos c6] at H
      have c6b0 : (((zd l0_2 x6_1).f1.f1) == a1) = true := beq_iff_eq.mpr c6
      have c6b1 : (((zd l0_2 x6_1).f1.f1) != a1) = false := bne_eq_false_iff_eq.mpr c6
      clear c6
      by_cases c7 : x5_1.length < 1466015503701
      ·rw [if_pos c7] at H
       have LMc7 := za.mk c7
       clear c7
       obtain ⟨Yq,yE⟩ : ∃ y_ : List (S39),y_ = (x5_1 ++ [(⟨(zd l0_2 x6_1).f0,(⟨(zd l0_2 x6_1).f1.f0,(zd l0_2 x6_1).f1.f1,(zd l0_2 x6_1).f1.f2,(zd l0_2 x6_1).f1.f3,(⟨(zd l0_2 x6_1).f1.f4.f0,(zd l0_2 x6_1).f1.f4.f1⟩ : S33)⟩ : S35)⟩ : S39)]) := ⟨_,rfl⟩
       replace H : (zR.l0 k1 a1 Yq (wrap64 (x6_1 + 1)) a0_0 a0_1 l0_2) = some r := by first | (rw [yE];with_reducible exact H) | (have H2_ := (Option.bind_some _ _).symm.trans H;rw [yE];with_reducible exact H2_) | (have H2_ := (Option.bind_some _ _).symm.trans H;with_reducible exact H2_) | with_reducible exact H | (rw [yE];exact H) | exact H
       have Yn := za.mk yE
       clear yE
       have H' := za.mk H
       clear H
       obtain ⟨hcz8_0,hcz8_1,hcz8_2,hfz8_0,hfz8_1,hfz8_2⟩ := hcq3 yj.out
       have yA : 0 ≤ (x6_1 : Int) := hFq
       have yB : x6_1 < (l0_2.length : Int) := hFq
       obtain ⟨yI,yR,yU,yS,yV,Yj,y8,y9,Ya,yw,yx,Yb,Yc,yp,yn,yq,yo⟩ := zbe (Kd.V_reads' ya.out).2.2 x6_1 yA yB
       cases Yj
       obtain ⟨Yp,yH,yF,yk⟩ := Kd.V_get ya.out z39 x6_1 yA (by first | exact yB | exact hFq | (have e_ := (Kd.V_reads' ya.out).1;omega))
       obtain ⟨Yf,Yh,Yg,Yi,rfl,yh,yf,yi,yg⟩ := zaN yF
       have yd := yk 3 _ rfl
       rw [zM _ _ 3 (by omega)] at yd
       replace yd := Option.some.inj (yd.symm.trans yw)
       injection yd with hva_ hvn_ hvc_
       rw [hva_] at yf
       rw [hvc_] at yh
       have yr := za.mk (show Kd.V k75 75 _ w.heap.size _ _ ((zd l0_2 x6_1).f1.f2) from Kd.V_mk yh yf)
       clear hva_ hvn_ hvc_ yf yh
       have ye := yk 4 _ rfl
       rw [zM _ _ 4 (by omega)] at ye
       replace ye := Option.some.inj (ye.symm.trans yx)
       injection ye with hva_ hvn_ hvc_
       rw [hva_] at yg
       rw [hvc_] at yi
       have yt := za.mk (show Kd.V Kd.string 9 _ w.heap.size _ _ ((zd l0_2 x6_1).f1.f3) from Kd.V_mk yi yg)
       clear hva_ hvn_ hvc_ yg yi
       clear yk yH
       have yY := za.mk yn
       have yW := za.mk yp
       clear yn yp
       have yZ := za.mk yo
       have yX := za.mk yq
       clear yo yq
       replace yA := eq_true yA
       replace yB := eq_true yB
       have Yd : 0 ≤ (x6_1 : Int) := hFq
       have Ye : x6_1 < (l0_2.length : Int) := hFq
       obtain ⟨Yo,YE,YG,YF,YH,YI,Yv,Yw,Yx,yN,yO,Yy,Yz,yL,yJ,yM,yK⟩ := zbe (Kd.V_reads' ya.out).2.2 x6_1 Yd Ye
       obtain rfl : yI = Yo := (by injection YI)
       obtain ⟨YK,Yl,Yk,yG⟩ := Kd.V_get ya.out z39 x6_1 Yd (by first | exact Ye | exact hFq | (have e_ := (Kd.V_reads' ya.out).1;omega))
       obtain ⟨YA,YC,YB,YD,rfl,yC,yy,yD,yz⟩ := zaN Yk
       have yu := yG 3 _ rfl
       rw [zM _ _ 3 (by omega)] at yu
       replace yu := Option.some.inj (yu.symm.trans yN)
       injection yu with hva_ hvn_ hvc_
       rw [hva_] at yy
       rw [hvc_] at yC
       have yl := za.mk (show Kd.V k75 75 _ w.heap.size _ _ ((zd l0_2 x6_1).f1.f2) from Kd.V_mk yC yy)
       clear hva_ hvn_ hvc_ yy yC
       have yv := yG 4 _ rfl
       rw [zM _ _ 4 (by omega)] at yv
       replace yv := Option.some.inj (yv.symm.trans yO)
       injection yv with hva_ hvn_ hvc_
       rw [hva_] at yz
       rw [hvc_] at yD
       have ym := za.mk (show Kd.V Kd.string 9 _ w.heap.size _ _ ((zd l0_2 x6_1).f1.f3) from Kd.V_mk yD yz)
       clear hva_ hvn_ hvc_ yz yD
       clear yG Yl
       have Yt := za.mk yJ
       have Yr := za.mk yL
       clear yJ yL
       have Yu := za.mk yK
       have Ys := za.mk yM
       clear yK yM
       replace Yd := eq_true Yd
       replace Ye := eq_true Ye
       have ea_ := Option.some.inj (yw.symm.trans yN)
       injection ea_ with ea_ en_ ec_
       subst ea_
       subst ec_
       clear en_
       have ea_ := Option.some.inj (yx.symm.trans yO)
       injection ea_ with ea_ en_ ec_
       subst ea_
       subst ec_
       clear en_
       go_wp2_with (first | ((with_reducible refine zby (b := .append) (xs := #[.tmp 23,.tmp 29]) rfl ?_);at_builtin;refine Kd.N_append k39 (w0 := w) w.heap.size rfl (.tmp 23) (.tmp 29) 24 39 (.agg #[(.string ⟨#[]⟩),(.int .i64 0),(.int .i64 0),(.slice none 0 0),(.slice none 0 0),(.int .i64 0),(.int .i64 0)]) 96 rfl Tryz.underlying24 zdL rfl (by decide) (by omega) u5 x5_1 (⟨(zd l0_2 x6_1).f0,(⟨(zd l0_2 x6_1).f1.f0,(zd l0_2 x6_1).f1.f1,(zd l0_2 x6_1).f1.f2,(zd l0_2 x6_1).f1.f3,(⟨(zd l0_2 x6_1).f1.f4.f0,(zd l0_2 x6_1).f1.f4.f1⟩ : S33)⟩ : S35)⟩ : S39) [.string ((zd l0_2 x6_1).f0),.int .i64 ((zd l0_2 x6_1).f1.f0),.int .i64 ((zd l0_2 x6_1).f1.f1),.slice yR ((zd l0_2 x6_1).f1.f2).length yU,.slice yS ((zd l0_2 x6_1).f1.f3).length yV,.int .i64 ((zd l0_2 x6_1).f1.f4.f0),.int .i64 ((zd l0_2 x6_1).f1.f4.f1)] (fun k_ => (P0_2_ k_ ∨ w.heap.size ≤ k_) ∧ k_ ≠ yb) (fun k_ => ((fun k_ => (P0_2_ k_ ∨ w.heap.size ≤ k_) ∧ k_ ≠ yb)) k_ ∧ some k_ ≠ (u5 : Value).ownBlock) rfl rfl ?aP (fun _ hk => hk) ?aF ?aO ?aB ?aS ?aL ?_;(case aP => exact (zhy _ _ (⟨(zd l0_2 x6_1).f0,(⟨(zd l0_2 x6_1).f1.f0,(zd l0_2 x6_1).f1.f1,(zd l0_2 x6_1).f1.f2,(zd l0_2 x6_1).f1.f3,(⟨(zd l0_2 x6_1).f1.f4.f0,(zd l0_2 x6_1).f1.f4.f1⟩ : S33)⟩ : S35)⟩ : S39) (Kd.V_reads' (Kd.V_mono (ok' := (fun k_ => ((fun k_ => (P0_2_ k_ ∨ w.heap.size ≤ k_) ∧ k_ ≠ yb)) k_ ∧ some k_ ≠ (u5 : Value).ownBlock)) (yl.out) (fun k_ hk => ⟨⟨hk.1,hk.2.2⟩,hk.2.1⟩))).2.1 (Kd.V_F (Kd.V_mono (ok' := (fun k_ => ((fun k_ => (P0_2_ k_ ∨ w.heap.size ≤ k_) ∧ k_ ≠ yb)) k_ ∧ some k_ ≠ (u5 : Value).ownBlock)) (yl.out) (fun k_ hk => ⟨⟨hk.1,hk.2.2⟩,hk.2.1⟩))) (Kd.V_reads' (Kd.V_mono (ok' := (fun k_ => ((fun k_ => (P0_2_ k_ ∨ w.heap.size ≤ k_) ∧ k_ ≠ yb)) k_ ∧ some k_ ≠ (u5 : Value).ownBlock)) (ym.out) (fun k_ hk => ⟨⟨hk.1,hk.2.2⟩,hk.2.1⟩))).2.1 (Kd.V_F (Kd.V_mono (ok' := (fun k_ => ((fun k_ => (P0_2_ k_ ∨ w.heap.size ≤ k_) ∧ k_ ≠ yb)) k_ ∧ some k_ ≠ (u5 : Value).ownBlock)) (ym.out) (fun k_ hk => ⟨⟨hk.1,hk.2.2⟩,hk.2.1⟩)))));(case aB => exact hCq);(case aF => exact (fun k_ hk => ⟨(.inr (Nat.le_trans (zh hCq) hk)),Kd.freshB (g := yb) (o := .cells #[.int .i64 a0_0,.int .i64 a0_1,.slice (some yI) l0_2.length c0_2] 26 (0,0)) (hGq yj.out) k_ hk⟩));(case aO => exact (by (with_reducible repeat (first | apply Kd.N_alloc | apply Kd.N_drewN | apply Kd.N_drew));exact HO_5.out));(case aS => exact (zh hCq));(case aL => have := LMc7.out;omega);intro YL w9 ho hb hg hat;rw [← Yn.out] at ho;have n_ := haq (Kd.V_afterv (ok := (fun k_ => (P0_2_ k_ ∨ w.heap.size ≤ k_) ∧ k_ ≠ yb)) (by (with_reducible repeat (first | apply Kd.V_alloc | apply Kd.V_drewN | apply Kd.V_drew));exact Kd.V_mono ya.out (fun _ hk => ⟨⟨hk.1,hk.2.2⟩,hk.2.1⟩)) hg hat) <| haq (zaL (g := yb) (o := .cells #[.int .i64 a0_0,.int .i64 a0_1,.slice (some yI) l0_2.length c0_2] 26 (0,0)) (hGq yj.out) hg (Kd.N_ne HO_5.out yj.out (by decide))) <| haq (Kd.V_afterv (ok := (fun k_ => (P0_2_ k_ ∨ w.heap.size ≤ k_) ∧ k_ ≠ yb)) (by (with_reducible repeat (first | apply Kd.V_alloc | apply Kd.V_drewN | apply Kd.V_drew));exact Kd.V_mono yr.out (fun _ hk => ⟨⟨hk.1,hk.2.2⟩,hk.2.1⟩)) hg hat) <| haq (Kd.V_afterv (ok := (fun k_ => (P0_2_ k_ ∨ w.heap.size ≤ k_) ∧ k_ ≠ yb)) (by (with_reducible repeat (first | apply Kd.V_alloc | apply Kd.V_drewN | apply Kd.V_drew));exact Kd.V_mono yt.out (fun _ hk => ⟨⟨hk.1,hk.2.2⟩,hk.2.1⟩)) hg hat) <| haq (Kd.V_afterv (ok := (fun k_ => (P0_2_ k_ ∨ w.heap.size ≤ k_) ∧ k_ ≠ yb)) (by (with_reducible repeat (first | apply Kd.V_alloc | apply Kd.V_drewN | apply Kd.V_drew));exact Kd.V_mono yl.out (fun _ hk => ⟨⟨hk.1,hk.2.2⟩,hk.2.1⟩)) hg hat) <| haq (Kd.V_afterv (ok := (fun k_ => (P0_2_ k_ ∨ w.heap.size ≤ k_) ∧ k_ ≠ yb)) (by (with_reducible repeat (first | apply Kd.V_alloc | apply Kd.V_drewN | apply Kd.V_drew));exact Kd.V_mono ym.out (fun _ hk => ⟨⟨hk.1,hk.2.2⟩,hk.2.1⟩)) hg hat) <| haq (hb) <| haq (ho) <| trivial;clear ya yj yr yt yl ym HB HO_5;obtain ⟨ya,yj,yr,yt,yl,ym,HB,Ym,_⟩ := n_;clear ho hb hg hat))
       go_roundg k1
       case measure => have := HK1.out;omega
       case rel => exact ⟨(Yq),(wrap64 (x6_1 + 1)),(hDq),H',⟨by have := HK1.out;omega⟩,⟨by (with_reducible repeat (first | apply Kd.N_alloc | apply Kd.N_drewN | apply Kd.N_drew));exact Ym.out⟩,⟨by (with_reducible repeat (first | apply Kd.V_alloc | apply Kd.V_drewN | apply Kd.V_drew));exact Kd.V_mono ya.out (fun _ hk => ⟨hk.1.1,⟨hk.2,hk.1.2⟩⟩)⟩,⟨hGq yj.out⟩,⟨by repeat (first | (with_reducible first | exact HB.out | apply zl | apply zi | apply zp | refine zm ?_ yT.out) | exact HB.out)⟩⟩
      ·rw [if_neg c7] at H
       exact absurd H (by simp)
     ·rw [if_neg c6] at H
      have c6b0 : (((zd l0_2 x6_1).f1.f1) == a1) = false := beq_eq_false_iff_ne.mpr c6
      have c6b1 : (((zd l0_2 x6_1).f1.f1) != a1) = true := bne_iff_ne.mpr c6
      have H' := za.mk H
      clear H
      obtain ⟨hcz10_0,hcz10_1,hcz10_2,hfz10_0,hfz10_1,hfz10_2⟩ := hcq3 yj.out
      have yA : 0 ≤ (x6_1 : Int) := hFq
      have yB : x6_1 < (l0_2.length : Int) := hFq
      obtain ⟨yI,yR,yU,yS,yV,Yj,y8,y9,Ya,yw,yx,Yb,Yc,yp,yn,yq,yo⟩ := zbe (Kd.V_reads' ya.out).2.2 x6_1 yA yB
      cases Yj
      obtain ⟨Yp,yH,yF,yk⟩ := Kd.V_get ya.out z39 x6_1 yA (by first | exact yB | exact hFq | (have e_ := (Kd.V_reads' ya.out).1;omega))
      obtain ⟨Yf,Yh,Yg,Yi,rfl,yh,yf,yi,yg⟩ := zaN yF
      have yd := yk 3 _ rfl
      rw [zM _ _ 3 (by omega)] at yd
      replace yd := Option.some.inj (yd.symm.trans yw)
      injection yd with hva_ hvn_ hvc_
      rw [hva_] at yf
      rw [hvc_] at yh
      have yr := za.mk (show Kd.V k75 75 _ w.heap.size _ _ ((zd l0_2 x6_1).f1.f2) from Kd.V_mk yh yf)
      clear hva_ hvn_ hvc_ yf yh
      have ye := yk 4 _ rfl
      rw [zM _ _ 4 (by omega)] at ye
      replace ye := Option.some.inj (ye.symm.trans yx)
      injection ye with hva_ hvn_ hvc_
      rw [hva_] at yg
      rw [hvc_] at yi
      have yt := za.mk (show Kd.V Kd.string 9 _ w.heap.size _ _ ((zd l0_2 x6_1).f1.f3) from Kd.V_mk yi yg)
      clear hva_ hvn_ hvc_ yg yi
      clear yk yH
      have yY := za.mk yn
      have yW := za.mk yp
      clear yn yp
      have yZ := za.mk yo
      have yX := za.mk yq
      clear yo yq
      replace yA := eq_true yA
      replace yB := eq_true yB
      go_wp2
      go_roundg k1
      case measure => have := HK1.out;omega
      case rel => exact ⟨(x5_1),(wrap64 (x6_1 + 1)),(hDq),H',⟨by have := HK1.out;omega⟩,⟨by (with_reducible repeat (first | apply Kd.N_alloc | apply Kd.N_drewN | apply Kd.N_drew));exact HO_5.out⟩,⟨by (with_reducible repeat (first | apply Kd.V_alloc | apply Kd.V_drewN | apply Kd.V_drew));exact ya.out⟩,⟨hGq yj.out⟩,⟨by repeat (first | (with_reducible first | exact HB.out | apply zl | apply zi | apply zp | refine zm ?_ yT.out) | exact HB.out)⟩⟩
    ·rw [if_neg c5] at H
     exact absurd H (by simp)
   ·rw [if_neg c4] at H
    have c4b0 : decide (x6_1 < (l0_2.length : Int)) = false := decide_eq_false c4
    clear c4
    obtain rfl := Option.some.inj H
    obtain ⟨hcz11_0,hcz11_1,hcz11_2,hfz11_0,hfz11_1,hfz11_2⟩ := hcq3 yj.out
    go_wp2
    go_ret
    exact ⟨_,hHq,by (with_reducible repeat (first | apply Kd.N_alloc | apply Kd.N_drewN | apply Kd.N_drew));exact Kd.N_mono HO_5.out (fun _ hk => hk.1),hCq⟩
end Go.Proofs.YtndjfdakflaggaaGreat.Px