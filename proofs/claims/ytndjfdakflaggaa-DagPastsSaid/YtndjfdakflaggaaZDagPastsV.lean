/- Part 22 of 30 of the proof of the law DagPasts: what is proved is the statement at the end of the last part; its conditions are those of the given row. -/
import Derived.Test.YtndjfdakflaggaaZDagPastsS
namespace Go.Proofs.Ytndjfdakflaggaa.Px
open Go.RowKit Go.Proofs.YtndjfdakflaggaaW.PrintWords Go.Proofs.YtndjfdakflaggaaW.PrintLast Go.Proofs.YtndjfdakflaggaaW.PrintMore
attribute [local go_sem] zt zv zA zB zq zr zu zw
set_option linter.unusedVariables false
set_option linter.unusedSimpArgs false
def zaf (n k : Nat) : Array Bool := (List.replicate k true ++ List.replicate (n - k) false).toArray
def zce (a : Act) : List (Nat × Tmp) → Act
 | [] => a
 | p :: is => zce (a.put (some p.2) undef) is
def zid (T : Bool × List (List Nat × List Nat)) (l' : List Bool) : List Bool → List (Nat × Tmp) → Bool
 | l,[] => l == l'
 | l,p :: is => T.1 && zf6 T.2 l p.1 && zcu T.2 l p.1 && zid T l' (l.set p.1 true) is
def zhO (ops : Array Oper) : Act → List (Nat × Tmp) → Bool
 | _,[] => true
 | a,p :: is => (match ops[p.1]? with | some o => (o.dst == some p.2) && !Region.wanted o (yielded ops a.tmps) | none => false) && zhO ops (a.put (some p.2) undef) is
theorem zdp {P : Program} {ops : Array Oper} {Q : Exit → Act → World → Prop} {S : World → Prop} {ds : List Nat} {T : Bool × List (List Nat × List Nat)} {w : World} (hQ : ∀ c a d v w,Q (.panic c) (Act.put a (some d) v) w → Q (.panic c) a w) (hT : zbI .any ops = T) : ∀ (is : List (Nat × Tmp)) (fuel : Nat) {n : Nat} (_ : fuel + is.length = n) {l : Array Bool} (l' : Array Bool) {a : Act} (_ : zid T l'.toList l.toList is = true) (_ : zhO ops a is = true) {a' : Act} (_ : zce a is = a') (_ : zW P .any ops Q S ds fuel l' a' w),zW P .any ops Q S ds n l a w := by
 intro is
 induction is with
 | nil =>
  intro fuel n hn l l' a hc _ a' ha h
  subst hn;subst ha
  simp only [zid,beq_iff_eq] at hc
  have : l = l' := by rw [← Array.toArray_toList (xs := l),hc]
  subst this
  exact h
 | cons p is ih =>
  intro fuel n hn l l' a hc ho a' ha h
  subst hn
  simp only [zid,Bool.and_eq_true] at hc
  obtain ⟨⟨⟨h1,h2⟩,h3⟩,h4⟩ := hc
  simp only [zhO,Bool.and_eq_true] at ho
  obtain ⟨ho,h5⟩ := ho
  rcases hi : ops[p.1]? with _ | o
  ·rw [hi] at ho;cases ho
  ·rw [hi] at ho
   simp only [Bool.and_eq_true,beq_iff_eq,Bool.not_eq_true'] at ho
   refine zaR (fuel := fuel + is.length) (l.setIfInBounds p.1 true) hi ho.1 (zat hT ?_) (fun c a w => by rw [ho.1];exact hQ c a _ _ w) (Or.inr ⟨ho.2,rfl⟩) rfl (ih fuel rfl l' ?_ h5 ha h)
   ·simp only [anyT,h1,h2,h3,Bool.true_and]
    simp
   ·rw [Array.toList_setIfInBounds];exact h4
theorem zfY {a r : Int} {bs : List S78} {ps : List ByteArray} {x y n : Int} (h : (zY a r bs ps x y n).2 = 0) : ps.length ≤ 64 := by
 by_cases hm : zbm a r bs ps x y n = true
 ·obtain ⟨h0,_,_,_,_,_,_,_,_,h9⟩ := (zdo ..).1 hm
  exact (zbY h0 h9).1
 ·rw [zY,if_neg hm] at h
  exact absurd h (by decide)
theorem ziH (n low : Int) (L : List Ent) (k : Nat) (hk : k < L.length) (h : okE n low L k (L.getD k z34) = false) : zb0 n low L = false := by
 unfold zb0
 rw [show ((List.range L.length).all fun i => okE n low L i (L.getD i z34)) = false from ?_,Bool.and_false]
 rw [List.all_eq_false]
 exact ⟨k,List.mem_range.2 hk,by rw [h];simp⟩
theorem zhT (n low : Int) (L : List Ent) (h1 : zdU n = true) (h2 : 0 ≤ low) (h : ∀ i,i < L.length → okE n low L i (L.getD i z34) = true) : zb0 n low L = true := by
 unfold zb0
 rw [h1,decide_eq_true h2,List.all_eq_true.2 fun i hi => h i (List.mem_range.1 hi)];rfl
def zau.T7 : Bool × List (List Nat × List Nat) := (true,[([],[]),([0],[0]),([1],[1]),([2],[2]),([2],[2]),([4,2],[2,4]),([3,5,2],[2,3,5]),([2,6],[2,6]),([7,2],[7]),([8],[8]),([9,8],[8,9]),([10,8],[8,10]),([8],[8]),([12,8],[8,12]),([11,13,8],[8,11,13]),([8,14],[8,14]),([15,8],[15]),([16],[16]),([16],[16]),([18,16],[16,18]),([17,19,16,16],[16,17,19]),([20,16],[16,20]),([21,16],[16,21]),([16,22],[16,22]),([23,20],[23]),([24],[24]),([25,24],[24,25]),([26,24,24],[24,26]),([27],[27]),([28,27],[27,28]),([27],[27]),([30,27],[27,30]),([29,31,27],[27,29,31]),([32,27],[27,32]),([33,27],[27,33]),([27],[27]),([35,27],[27,35]),([34,36,27,27],[27,34,36]),([37,27],[27,37]),([27,38,24],[24,27,38]),([24,39],[24,39])])
def zau.B7 : List Nat := [0,1,3,7,7,23,63,127,255,511,1023,2047,511,4607,16383,32767,65535,131071,131071,393215,1048575,2097151,4194303,8388607,16777215,33554431,67108863,134217727,268435455,536870911,268435455,1342177279,4294967295,8589934591,17179869183,268435455,34628173823,137438953471,274877906943,549755813887,1099511627775]
theorem zau.tab7 : zbI .any (zd6 Try.f18 7) = zau.T7 := by kernel_rfl
theorem zau.bits7 : zbw zau.T7.2 zau.B7 = true := by kernel_rfl
structure zco (w W : World) (g1 g4 : Nat) (o1 o4 : Obj) : Prop where
 b : Below w.heap.size w W
 c1 : W.heap[g1]? = some o1
 c4 : W.heap[g4]? = some o4
theorem zco.step {w W W' : World} {g1 g4 : Nat} {o1 o4 : Obj} (h : zco w W g1 g4 o1 o4) (hb : Below W.heap.size W W') : zco w W' g1 g4 o1 o4 := ⟨zh h.b hb,zo h.c1 hb,zo h.c4 hb⟩
theorem zco.drew {w W : World} {g1 g4 : Nat} {o1 o4 : Obj} (h : zco w W g1 g4 o1 o4) : zco w W.drew g1 g4 o1 o4 := ⟨zx h.b,zG h.c1,zG h.c4⟩
set_option maxHeartbeats 16000000 in
set_option maxRecDepth 100000 in
theorem zau.walk (a0_0 : Int) (a0_1 : Int) (A0_2 : Option Addr) (c0_2 : Nat) (l0_2 : List (S34)) (w : World) (hr0_2 : Kd.C k34 w A0_2 l0_2.length l0_2) (hc0_2 : l0_2.length ≤ c0_2) (hl : l0_2.length < 1466015503701) :
  Calls Try.prog 18 #[.agg #[.int .i64 a0_0,.int .i64 a0_1,.slice A0_2 l0_2.length c0_2]] w fun e w' => e = .returned (.bool (zb0 a0_0 a0_1 l0_2)) ∧ Below w.heap.size w w' := by
 have HR := za.mk hr0_2
 have HC := za.mk hc0_2
 have HL := za.mk hl
 have HMY := za.mk (zas a0_0)
 have hm2 := hr0_2.2.1
 clear hr0_2 hc0_2 hl
 rcases hn : zdU a0_0 with _ | _
 ·have hz : zb0 a0_0 a0_1 l0_2 = false := by unfold zb0;rw [hn];rfl
  rw [hz]
  rw [hn] at HMY
  clear hz hn
  go_enter Try.func18,Try.ntmps18
  go_wp2_with (first
   | ((with_reducible refine zp (N := 1) rfl ?_);refine zn rfl (N := 1) rfl (cs := #[.int .i64 a0_0,.int .i64 a0_1,.slice A0_2 l0_2.length c0_2]) (t := 24) hrq ?_;intro g1 hg w1 hbox hb;have B1 := za.mk hbox;have HB1 := za.mk hb;clear hb hbox hg;have x1_0 := (zb B1.out 0).trans rfl;have x1_1 := (zb B1.out 1).trans rfl;have x1_2 := (zb B1.out 2).trans rfl)
   | (go_at_call 39;(with_reducible refine (zab.calls a0_0 _ _ HMY.out).mono ?_);rintro e w2 ⟨rfl,hdr⟩;have hb : Below w1.heap.size w1 w2 := (by obtain ⟨nd,rfl⟩ := hdr;repeat (first | exact Below.refl _ _ | apply zl));clear hdr;have B2 := za.mk (zo B1.out hb);have HB2 := za.mk (zh HB1.out hb);clear x1_0 x1_1 x1_2 hb;have x2_0 := (zb B2.out 0).trans rfl;have x2_1 := (zb B2.out 1).trans rfl;have x2_2 := (zb B2.out 2).trans rfl))
  go_ret
  exact ⟨rfl,HB2.out⟩
 by_cases hlow : a0_1 < 0
 ·have hz : zb0 a0_0 a0_1 l0_2 = false := by unfold zb0;rw [decide_eq_false (by omega : ¬ 0 ≤ a0_1),Bool.and_false];rfl
  rw [hz]
  rw [hn] at HMY
  have d1 : decide (a0_1 < 0) = true := decide_eq_true hlow
  clear hz hn hlow
  go_enter Try.func18,Try.ntmps18
  go_wp2_with (first
   | ((with_reducible refine zp (N := 1) rfl ?_);refine zn rfl (N := 1) rfl (cs := #[.int .i64 a0_0,.int .i64 a0_1,.slice A0_2 l0_2.length c0_2]) (t := 24) hrq ?_;intro g1 hg w1 hbox hb;have B1 := za.mk hbox;have HB1 := za.mk hb;clear hb hbox hg;have x1_0 := (zb B1.out 0).trans rfl;have x1_1 := (zb B1.out 1).trans rfl;have x1_2 := (zb B1.out 2).trans rfl)
   | (go_at_call 39;(with_reducible refine (zab.calls a0_0 _ _ HMY.out).mono ?_);rintro e w2 ⟨rfl,hdr⟩;have hb : Below w1.heap.size w1 w2 := (by obtain ⟨nd,rfl⟩ := hdr;repeat (first | exact Below.refl _ _ | apply zl));clear hdr;have B2 := za.mk (zo B1.out hb);have HB2 := za.mk (zh HB1.out hb);clear x1_0 x1_1 x1_2 hb;have x2_0 := (zb B2.out 0).trans rfl;have x2_1 := (zb B2.out 1).trans rfl;have x2_2 := (zb B2.out 2).trans rfl))
  go_ret
  exact ⟨rfl,HB2.out⟩
 have HN := za.mk hn
 have HLOW := za.mk hlow
 rw [hn] at HMY
 have d1 : decide (a0_1 < 0) = false := decide_eq_false hlow
 clear hn hlow
 go_enter Try.func18,Try.ntmps18
 go_wp2_with (first
  | ((with_reducible refine zp (N := 1) rfl ?_);refine zn rfl (N := 1) rfl (cs := #[.int .i64 a0_0,.int .i64 a0_1,.slice A0_2 l0_2.length c0_2]) (t := 24) hrq ?_;intro g1 hg w1 hbox hb;have B1 := za.mk hbox;have HB1 := za.mk hb;clear hb hbox hg;have x1_0 := (zb B1.out 0).trans rfl;have x1_1 := (zb B1.out 1).trans rfl;have x1_2 := (zb B1.out 2).trans rfl)
  | (go_at_call 39;(with_reducible refine (zab.calls a0_0 _ _ HMY.out).mono ?_);rintro e w2 ⟨rfl,hdr⟩;have hb : Below w1.heap.size w1 w2 := (by obtain ⟨nd,rfl⟩ := hdr;repeat (first | exact Below.refl _ _ | apply zl));clear hdr;have B2 := za.mk (zo B1.out hb);have HB2 := za.mk (zh HB1.out hb);clear x1_0 x1_1 x1_2 hb;have x2_0 := (zb B2.out 0).trans rfl;have x2_1 := (zb B2.out 1).trans rfl;have x2_2 := (zb B2.out 2).trans rfl))
 clear x2_0 x2_1 x2_2
 go_loopw [19] (fun v19 wr => ∃ k : Nat,v19 = .int .i64 k ∧ k ≤ l0_2.length ∧ za (∀ i,i < k → okE a0_0 a0_1 l0_2 i (l0_2.getD i z34) = true) ∧ za (wr.heap[g1]? = some (.cells #[.int .i64 a0_0,.int .i64 a0_1,.slice A0_2 l0_2.length c0_2] 24 (0,0))) ∧ za (Below w.heap.size w wr)) (fun v19 _ => l0_2.length - (match v19 with | .int _ q => q | _ => 0).toNat)
 case atStart => exact ⟨0,rfl,Nat.zero_le _,⟨fun i hi => absurd hi (Nat.not_lt_zero _)⟩,B2,HB2⟩
 case round =>
  clear HB1 HB2 B1 B2
  obtain ⟨k,rfl,hk,HF,B1r,HB⟩ := hrel
  by_cases hlt : k < l0_2.length
  ·obtain ⟨ad,A3,c3,A4,c4,rfl,hx0,hx1,hx2,hx3,hx4,hx5,hx6,q1,q2,q3,q4⟩ := zai HR.out (k : Int) (by omega) (by omega)
   have hgd : l0_2.getD k z34 = zd l0_2 (k : Int) := by rw [zd,Int.toNat_natCast]
   replace hx0 := (HB.out.cell (World.block_lt_of_cell? w _ hx0)).trans hx0
   replace hx1 := (HB.out.cell (World.block_lt_of_cell? w _ hx1)).trans hx1
   replace hx2 := (HB.out.cell (World.block_lt_of_cell? w _ hx2)).trans hx2
   replace hx3 := (HB.out.cell (World.block_lt_of_cell? w _ hx3)).trans hx3
   replace hx4 := (HB.out.cell (World.block_lt_of_cell? w _ hx4)).trans hx4
   replace hx5 := (HB.out.cell (World.block_lt_of_cell? w _ hx5)).trans hx5
   replace hx6 := (HB.out.cell (World.block_lt_of_cell? w _ hx6)).trans hx6
   rw [Int.toNat_natCast] at hx0 hx1 hx2 hx3 hx4 hx5 hx6
   have hb : decide (k < l0_2.length) = true := decide_eq_true hlt
   generalize zd l0_2 (k : Int) = s at *
   obtain ⟨s0,⟨s1,s2,s3,s4,⟨s5,s6⟩⟩⟩ := s
   have hD0 := zc6 s1 s2 s3 s4 s5 s6 a0_0
   have hZ0 := @zfY s1 s2 s3 s4 s5 s6 a0_0
   have HQ1w : za (Kd.C k78 w A3 s3.length s3) := ⟨q2⟩
   have HQ2 := za.mk q1
   have HQ3w : za (Kd.C Kd.string w A4 s4.length s4) := ⟨q4⟩
   have HQ4 := za.mk q3
   have HQ1 := za.mk (Kd.C_below q2 HB.out)
   have HQ3 := za.mk (Kd.C_below q4 HB.out)
   have HOK : za (okE a0_0 a0_1 l0_2 k (l0_2.getD k z34) = okE a0_0 a0_1 l0_2 k ⟨s0,⟨s1,s2,s3,s4,⟨s5,s6⟩⟩⟩) := ⟨by rw [hgd]⟩
   have HNO : za (okE a0_0 a0_1 l0_2 k ⟨s0,⟨s1,s2,s3,s4,⟨s5,s6⟩⟩⟩ = false → zb0 a0_0 a0_1 l0_2 = false) := ⟨fun h => ziH _ _ _ k hlt (HOK.out.trans h)⟩
   have HYE : za (okE a0_0 a0_1 l0_2 k ⟨s0,⟨s1,s2,s3,s4,⟨s5,s6⟩⟩⟩ = true → ∀ i,i < k + 1 → okE a0_0 a0_1 l0_2 i (l0_2.getD i z34) = true) := ⟨fun h i hi => by
    rcases Nat.lt_succ_iff_lt_or_eq.1 hi with h1 | h1
    ·exact HF.out i h1
    ·rw [h1];exact HOK.out.trans h⟩
   have HMM0 : za (s4.length ≤ 8796093022208 → zS.f a0_0 a0_1 l0_2 s1 s2 s3 s4 s5 s6 = some (zbV l0_2 a0_1 s2 s4)) := ⟨fun h => if_pos ⟨HL.out,h⟩⟩
   have hKE : okE a0_0 a0_1 l0_2 k ⟨s0,⟨s1,s2,s3,s4,⟨s5,s6⟩⟩⟩ = ((decide ((zY s1 s2 s3 s4 s5 s6 a0_0).2 = 0) && decide ((zY s1 s2 s3 s4 s5 s6 a0_0).1 = s0) && decide (a0_1 < s2) && decide ((zbV l0_2 a0_1 s2 s4).length = 0)) && (decide (k = 0) || za4 (l0_2.getD (k - 1) z34).f1.f0 (l0_2.getD (k - 1) z34).f1.f1 s1 s2)) := rfl
   generalize zY s1 s2 s3 s4 s5 s6 a0_0 = dv at hD0 hZ0 hKE
   obtain ⟨D,e1⟩ := dv
   generalize zbV l0_2 a0_1 s2 s4 = lost at hKE HMM0
   have HD : za (zaL.f s1 s2 s3 s4 s5 s6 a0_0 = some (D,e1)) := ⟨hD0⟩
   have HKE := za.mk hKE
   have HZ0 : za (e1 = 0 → s4.length ≤ 64) := ⟨hZ0⟩
   have y1_0 := (zb B1r.out 0).trans rfl
   have y1_0a := fun o => (zb (ze B1r.out o) 0).trans rfl
   clear hgd hD0 hZ0 hKE q1 q2 q3 q4 HOK HF
   go_wp2_with (go_at_call 31;(with_reducible refine (zaL.calls s1 s2 _ _ s3 _ _ s4 s5 s6 a0_0 D e1 _ (Kd.C_below HQ1.out (zi (Below.refl _ _) _)) HQ2.out (Kd.C_below HQ3.out (zi (Below.refl _ _) _)) HQ4.out HD.out).mono ?_);rintro e w5 ⟨rfl,hb⟩;have M5 : za (zco w w5 g1 wr.heap.size (.cells #[.int .i64 a0_0,.int .i64 a0_1,.slice (some ad) l0_2.length c0_2] 24 (0,0)) (.cells #[.string s0,.int .i64 s1,.int .i64 s2,.slice A3 s3.length c3,.slice A4 s4.length c4,.int .i64 s5,.int .i64 s6] 34 (0,0))) := ⟨⟨zh (zi HB.out _) hb,zo (ze B1r.out _) hb,zo (zbp wr _) hb⟩⟩;clear hb y1_0 y1_0a)
   have MK : za (∀ w' : World,zco w w' g1 wr.heap.size (.cells #[.int .i64 a0_0,.int .i64 a0_1,.slice (some ad) l0_2.length c0_2] 24 (0,0)) (.cells #[.string s0,.int .i64 s1,.int .i64 s2,.slice A3 s3.length c3,.slice A4 s4.length c4,.int .i64 s5,.int .i64 s6] 34 (0,0)) → w'.cell? ⟨g1,0,none⟩ = some (.int .i64 a0_0) ∧ w'.cell? ⟨g1,1,none⟩ = some (.int .i64 a0_1) ∧ w'.cell? ⟨g1,2,none⟩ = some (.slice (some ad) l0_2.length c0_2) ∧ w'.cell? ⟨wr.heap.size,0,none⟩ = some (.string s0) ∧ w'.cell? ⟨wr.heap.size,1,none⟩ = some (.int .i64 s1) ∧ w'.cell? ⟨wr.heap.size,2,none⟩ = some (.int .i64 s2) ∧ w'.cell? ⟨wr.heap.size,3,none⟩ = some (.slice A3 s3.length c3) ∧ w'.cell? ⟨wr.heap.size,4,none⟩ = some (.slice A4 s4.length c4) ∧ w'.cell? ⟨wr.heap.size,5,none⟩ = some (.int .i64 s5) ∧ w'.cell? ⟨wr.heap.size,6,none⟩ = some (.int .i64 s6) ∧ zco w w' g1 wr.heap.size (.cells #[.int .i64 a0_0,.int .i64 a0_1,.slice (some ad) l0_2.length c0_2] 24 (0,0)) (.cells #[.string s0,.int .i64 s1,.int .i64 s2,.slice A3 s3.length c3,.slice A4 s4.length c4,.int .i64 s5,.int .i64 s6] 34 (0,0))) := ⟨fun w' h => ⟨(zb h.c1 0).trans rfl,(zb h.c1 1).trans rfl,(zb h.c1 2).trans rfl,(zb h.c4 0).trans rfl,(zb h.c4 1).trans rfl,(zb h.c4 2).trans rfl,(zb h.c4 3).trans rfl,(zb h.c4 4).trans rfl,(zb h.c4 5).trans rfl,(zb h.c4 6).trans rfl,h⟩⟩
   have LM : za (∀ w' : World,(w'.cell? ⟨g1,0,none⟩ = some (.int .i64 a0_0) ∧ w'.cell? ⟨g1,1,none⟩ = some (.int .i64 a0_1) ∧ w'.cell? ⟨g1,2,none⟩ = some (.slice (some ad) l0_2.length c0_2) ∧ w'.cell? ⟨wr.heap.size,0,none⟩ = some (.string s0) ∧ w'.cell? ⟨wr.heap.size,1,none⟩ = some (.int .i64 s1) ∧ w'.cell? ⟨wr.heap.size,2,none⟩ = some (.int .i64 s2) ∧ w'.cell? ⟨wr.heap.size,3,none⟩ = some (.slice A3 s3.length c3) ∧ w'.cell? ⟨wr.heap.size,4,none⟩ = some (.slice A4 s4.length c4) ∧ w'.cell? ⟨wr.heap.size,5,none⟩ = some (.int .i64 s5) ∧ w'.cell? ⟨wr.heap.size,6,none⟩ = some (.int .i64 s6) ∧ zco w w' g1 wr.heap.size (.cells #[.int .i64 a0_0,.int .i64 a0_1,.slice (some ad) l0_2.length c0_2] 24 (0,0)) (.cells #[.string s0,.int .i64 s1,.int .i64 s2,.slice A3 s3.length c3,.slice A4 s4.length c4,.int .i64 s5,.int .i64 s6] 34 (0,0))) → zco w w' g1 wr.heap.size (.cells #[.int .i64 a0_0,.int .i64 a0_1,.slice (some ad) l0_2.length c0_2] 24 (0,0)) (.cells #[.string s0,.int .i64 s1,.int .i64 s2,.slice A3 s3.length c3,.slice A4 s4.length c4,.int .i64 s5,.int .i64 s6] 34 (0,0))) := ⟨fun w' h => h.2.2.2.2.2.2.2.2.2.2⟩
   refine zbk (n := 41) (S := fun w' => w'.cell? ⟨g1,0,none⟩ = some (.int .i64 a0_0) ∧ w'.cell? ⟨g1,1,none⟩ = some (.int .i64 a0_1) ∧ w'.cell? ⟨g1,2,none⟩ = some (.slice (some ad) l0_2.length c0_2) ∧ w'.cell? ⟨wr.heap.size,0,none⟩ = some (.string s0) ∧ w'.cell? ⟨wr.heap.size,1,none⟩ = some (.int .i64 s1) ∧ w'.cell? ⟨wr.heap.size,2,none⟩ = some (.int .i64 s2) ∧ w'.cell? ⟨wr.heap.size,3,none⟩ = some (.slice A3 s3.length c3) ∧ w'.cell? ⟨wr.heap.size,4,none⟩ = some (.slice A4 s4.length c4) ∧ w'.cell? ⟨wr.heap.size,5,none⟩ = some (.int .i64 s5) ∧ w'.cell? ⟨wr.heap.size,6,none⟩ = some (.int .i64 s6) ∧ zco w w' g1 wr.heap.size (.cells #[.int .i64 a0_0,.int .i64 a0_1,.slice (some ad) l0_2.length c0_2] 24 (0,0)) (.cells #[.string s0,.int .i64 s1,.int .i64 s2,.slice A3 s3.length c3,.slice A4 s4.length c4,.int .i64 s5,.int .i64 s6] 34 (0,0))) (ds := []) (zaf 41 0) (by kernel_rfl) rfl rfl (MK.out _ M5.out.drew) (fun hHeld => ?_);refine zaz zau.tab7 zau.bits7 (fun HT_ HW_ => ?_)
   clear M5
   refine puq (i := 0) (N := some 32) HT_.out (zaf 41 1) ?_
   by_cases h1 : e1 = 0
   ·have c1 : (e1 != 0) = false := by rw [h1];rfl
    have Kh1 := za.mk h1
    clear h1
    refine puq (i := 1) (N := some 33) HT_.out (zaf 41 2) ?_
    refine puq (i := 2) (N := some 34) HT_.out (zaf 41 3) ?_
    refine puq (i := 3) (N := some 35) HT_.out (zaf 41 4) ?_
    refine puq (i := 4) (N := some 36) HT_.out (zaf 41 5) ?_
    refine take_ (i := 5) (N := some 37) (zaf 41 6) rfl rfl (zI HT_.out HW_.out (by kernel_rfl)) (fun _ _ _ h => h) (Or.inl ⟨by rfl,by rintro w' ⟨r0,r1,r2,r3,r4,r5,r6,r7,r8,r9,hM⟩;go_simp;with_reducible rfl⟩) hHeld hPq ?_
    by_cases h2 : D = s0
    ·have c2 : (D.toList == s0.toList) = true := by rw [zbG];exact decide_eq_true h2
     have Kh2 := za.mk h2
     clear h2
     refine puq (i := 6) (N := some 38) HT_.out (zaf 41 7) ?_
     refine puq (i := 7) (N := some 39) HT_.out (zaf 41 8) ?_
     refine puq (i := 8) (N := some 40) HT_.out (zaf 41 9) ?_
     refine puq (i := 9) (N := some 41) HT_.out (zaf 41 10) ?_
     refine puq (i := 10) (N := some 42) HT_.out (zaf 41 11) ?_
     refine take_ (i := 11) (N := some 43) (zaf 41 12) rfl rfl (zI HT_.out HW_.out (by kernel_rfl)) (fun _ _ _ h => h) (Or.inl ⟨by rfl,by rintro w' ⟨r0,r1,r2,r3,r4,r5,r6,r7,r8,r9,hM⟩;go_simp;with_reducible rfl⟩) hHeld hPq ?_
     refine puq (i := 12) (N := some 44) HT_.out (zaf 41 13) ?_
     refine take_ (i := 13) (N := some 45) (zaf 41 14) rfl rfl (zI HT_.out HW_.out (by kernel_rfl)) (fun _ _ _ h => h) (Or.inl ⟨by rfl,by rintro w' ⟨r0,r1,r2,r3,r4,r5,r6,r7,r8,r9,hM⟩;go_simp;with_reducible rfl⟩) hHeld hPq ?_
     by_cases h3 : s2 ≤ a0_1
     ·have c3b : decide (s2 ≤ a0_1) = true := decide_eq_true h3
      have HE : za (okE a0_0 a0_1 l0_2 k ⟨s0,⟨s1,s2,s3,s4,⟨s5,s6⟩⟩⟩ = false) := ⟨by rw [HKE.out,decide_eq_false (by omega : ¬ a0_1 < s2)];simp⟩
      have Kh3 := za.mk h3
      clear h3
      refine puq (i := 14) (N := some 46) HT_.out (zaf 41 15) ?_
      refine puq (i := 15) (N := some 47) HT_.out (zaf 41 16) ?_
      refine puq (i := 16) (N := some 48) HT_.out (zaf 41 17) ?_
      refine zdp (fun _ _ _ _ _ h => h) HT_.out [(17,49),(18,50),(19,51),(20,52),(21,53),(22,54)] 18 rfl (zaf 41 23) (by kernel_rfl) (by kernel_rfl) (a' := ?_) ?_ ?_
      rotate_left
      ·simp only [zce,Act.put,List.setIfInBounds_toArray,List.set_cons_zero,List.set_cons_succ]
       rfl
      refine puq (i := 23) (N := some 55) HT_.out (zaf 41 24) ?_
      refine puq (i := 24) (N := some 56) HT_.out (zaf 41 25) ?_
      refine zdp (fun _ _ _ _ _ h => h) HT_.out [(25,57),(26,58),(27,59),(28,60),(29,61),(30,62),(31,63),(32,64),(33,65),(34,66),(35,67),(36,68),(37,69),(38,70),(39,71)] 1 rfl (zaf 41 40) (by kernel_rfl) (by kernel_rfl) (a' := ?_) ?_ ?_
      rotate_left
      ·simp only [zce,Act.put,List.setIfInBounds_toArray,List.set_cons_zero,List.set_cons_succ]
       rfl
      refine puq (i := 40) (N := some 72) HT_.out (zaf 41 41) ?_
      refine zbl (zaF HT_.out (by kernel_rfl)) ?_
      have HZ := za.mk hHeld.2.2.2.2.2.2.2.2.2.2.b
      go_wp2
      go_ret
      exact ⟨by rw [HNO.out HE.out];rfl,HZ.out⟩
     ·have c3b : decide (s2 ≤ a0_1) = false := decide_eq_false h3
      have Kh3 := za.mk h3
      clear h3
      refine puq (i := 14) (N := some 46) HT_.out (zaf 41 15) ?_
      refine puq (i := 15) (N := some 47) HT_.out (zaf 41 16) ?_
      refine puq (i := 16) (N := some 48) HT_.out (zaf 41 17) ?_
      refine take_ (i := 17) (N := some 49) (zaf 41 18) rfl rfl (zI HT_.out HW_.out (by kernel_rfl)) (fun _ _ _ h => h) (Or.inl ⟨by rfl,by rintro w' ⟨r0,r1,r2,r3,r4,r5,r6,r7,r8,r9,hM⟩;go_simp;with_reducible rfl⟩) hHeld hPq ?_
      refine puq (i := 18) (N := some 50) HT_.out (zaf 41 19) ?_
      refine take_ (i := 19) (N := some 51) (zaf 41 20) rfl rfl (zI HT_.out HW_.out (by kernel_rfl)) (fun _ _ _ h => h) (Or.inl ⟨by rfl,by rintro w' ⟨r0,r1,r2,r3,r4,r5,r6,r7,r8,r9,hM⟩;go_simp;with_reducible rfl⟩) hHeld hPq ?_
      have HMM : za (zS.f a0_0 a0_1 l0_2 s1 s2 s3 s4 s5 s6 = some lost) := ⟨HMM0.out (by have h_ := HZ0.out Kh1.out;omega)⟩
      refine zb6 (i := 20) (N := some 52) (zaf 41 21) rfl rfl (zaO HT_.out (by kernel_rfl)) (by decide) (fun K hK => ?_)
      refine za8 Try.func33 (by kernel_rfl) rfl #[.agg #[.int .i64 a0_0,.int .i64 a0_1,.slice (some ad) l0_2.length c0_2],.agg #[.int .i64 s1,.int .i64 s2,.slice A3 s3.length c3,.slice A4 s4.length c4,.int .i64 s5,.int .i64 s6]] (by rfl) rfl rfl (by (try simp only [List.map_toArray,List.map_cons,List.map_nil]);first | done | rfl | (simp only [HJ.out];rfl)) ?_
      with_reducible refine (zS.calls a0_0 a0_1 _ _ l0_2 s1 s2 _ _ s3 _ _ s4 s5 s6 lost _ (Kd.C_below HR.out (LM.out _ hHeld).b) HC.out (Kd.C_below HQ1w.out (LM.out _ hHeld).b) HQ2.out (Kd.C_below HQ3w.out (LM.out _ hHeld).b) HQ4.out HMM.out).mono ?_
      rintro e w6 ⟨v0,rfl,hR,hbw⟩;obtain ⟨A7,c7,rfl⟩ := Kd.R_slice hR;clear hR
      refine ⟨_,rfl,?_⟩
      refine hK.out _ _ (MK.out _ ((LM.out _ hHeld).step hbw)) (fun hHeld => ?_)
      clear hK K
      refine za9 (a' := ?_) ?_ ?_
      rotate_left
      ·show Act.put _ (some 52) _ = _
       simp only [Act.put,List.setIfInBounds_toArray,List.set_cons_zero,List.set_cons_succ,z8,zaa]
       rfl
      refine puq (i := 21) (N := some 53) HT_.out (zaf 41 22) ?_
      by_cases h4 : lost.length = 0
      ·have cl4 : decide ((0 : Int) < (lost.length : Int)) = false := decide_eq_false (by omega)
       have cl4' : decide (0 < lost.length) = false := decide_eq_false (by omega)
       have Kh4 := za.mk h4
       clear h4
       refine puq (i := 22) (N := some 54) HT_.out (zaf 41 23) ?_
       refine puq (i := 23) (N := some 55) HT_.out (zaf 41 24) ?_
       refine puq (i := 24) (N := some 56) HT_.out (zaf 41 25) ?_
       by_cases h5 : k = 0
       ·have c6n : decide (0 < k) = false := decide_eq_false (by omega)
        have c6 : decide ((0 : Int) < (k : Int)) = false := decide_eq_false (by omega)
        have HE : za (okE a0_0 a0_1 l0_2 k ⟨s0,⟨s1,s2,s3,s4,⟨s5,s6⟩⟩⟩ = true) := ⟨by rw [HKE.out,decide_eq_true Kh1.out,decide_eq_true Kh2.out,decide_eq_true (by have h_ := Kh3.out;omega : a0_1 < s2),decide_eq_true Kh4.out,decide_eq_true h5];rfl⟩
        have Kh5 := za.mk h5
        clear h5
        refine puq (i := 25) (N := some 57) HT_.out (zaf 41 26) ?_
        refine puq (i := 26) (N := some 58) HT_.out (zaf 41 27) ?_
        refine puq (i := 27) (N := some 59) HT_.out (zaf 41 28) ?_
        refine zdp (fun _ _ _ _ _ h => h) HT_.out [(28,60),(29,61),(30,62),(31,63),(32,64),(33,65),(34,66),(35,67),(36,68),(37,69),(38,70)] 2 rfl (zaf 41 39) (by kernel_rfl) (by kernel_rfl) (a' := ?_) ?_ ?_
        rotate_left
        ·simp only [zce,Act.put,List.setIfInBounds_toArray,List.set_cons_zero,List.set_cons_succ]
         rfl
        refine puq (i := 39) (N := some 71) HT_.out (zaf 41 40) ?_
        refine puq (i := 40) (N := some 72) HT_.out (zaf 41 41) ?_
        refine zbl (zaF HT_.out (by kernel_rfl)) ?_
        have HZ := za.mk hHeld.2.2.2.2.2.2.2.2.2.2.b
        have HB1 := za.mk hHeld.2.2.2.2.2.2.2.2.2.2.c1
        clear hHeld HT_ HW_
        go_wp2_with fail
        go_roundw
        all_goals first | (case rel => exact ⟨k + 1,by go_num,by omega,⟨HYE.out HE.out⟩,HB1,HZ⟩) | (case measure => simp;omega) | exact ⟨⟨k + 1,by go_num,by omega,⟨HYE.out HE.out⟩,HB1,HZ⟩,by simp;omega⟩
       ·have c6n : decide (0 < k) = true := decide_eq_true (by omega)
        have c6 : decide ((0 : Int) < (k : Int)) = true := decide_eq_true (by omega)
        have Kh5 := za.mk h5
        clear h5
        obtain ⟨j,hjd⟩ : ∃ j,j = k - 1 := ⟨_,rfl⟩
        rw [← hjd] at HKE
        obtain ⟨ad',B3,d3,B4,d4,hA,hy0,hy1,hy2,hy3,hy4,hy5,hy6,_,_,_,_⟩ := zai HR.out (j : Int) (by omega) (by omega)
        have hgp : l0_2.getD j z34 = zd l0_2 (j : Int) := by rw [zd,Int.toNat_natCast]
        obtain rfl : ad = ad' := (by injection hA)
        rw [Int.toNat_natCast] at hy0 hy1 hy2 hy3 hy4 hy5 hy6
        have HKP : za ((0 : Int) ≤ (j : Int)) := ⟨by omega⟩
        have HJ : za (wrap64 ((k : Int) - 1) = (j : Int)) := ⟨by have h_ := hm2;have h5_ := Kh5.out;have hl_ := hlt;rw [show (k : Int) - 1 = (j : Int) by omega];exact zak (by omega) (by omega)⟩
        have p0 : ((0 : Int) ≤ (j : Int)) = True := eq_true (by omega)
        have p1 : ((j : Int) < (l0_2.length : Int)) = True := eq_true (by omega)
        have hj := HJ.out
        rw [hgp] at HKE
        generalize zd l0_2 (j : Int) = u at *
        obtain ⟨t0,⟨t1,t2,t3,t4,⟨t5,t6⟩⟩⟩ := u
        generalize t3.length = m3 at *
        generalize t4.length = m4 at *
        have HPR : za (∀ w',Below w.heap.size w w' → w'.cell? (ad.add (j * 7)) = some (.string t0) ∧ w'.cell? ⟨(ad.add (j * 7)).block,(ad.add (j * 7)).off + 1,none⟩ = some (.int .i64 t1) ∧ w'.cell? ⟨(ad.add (j * 7)).block,(ad.add (j * 7)).off + 2,none⟩ = some (.int .i64 t2) ∧ w'.cell? ⟨(ad.add (j * 7)).block,(ad.add (j * 7)).off + 3,none⟩ = some (.slice B3 m3 d3) ∧ w'.cell? ⟨(ad.add (j * 7)).block,(ad.add (j * 7)).off + 4,none⟩ = some (.slice B4 m4 d4) ∧ w'.cell? ⟨(ad.add (j * 7)).block,(ad.add (j * 7)).off + 5,none⟩ = some (.int .i64 t5) ∧ w'.cell? ⟨(ad.add (j * 7)).block,(ad.add (j * 7)).off + 6,none⟩ = some (.int .i64 t6)) := ⟨fun w' hb' => ⟨(hb'.cell (World.block_lt_of_cell? w _ hy0)).trans hy0,(hb'.cell (World.block_lt_of_cell? w _ hy1)).trans hy1,(hb'.cell (World.block_lt_of_cell? w _ hy2)).trans hy2,(hb'.cell (World.block_lt_of_cell? w _ hy3)).trans hy3,(hb'.cell (World.block_lt_of_cell? w _ hy4)).trans hy4,(hb'.cell (World.block_lt_of_cell? w _ hy5)).trans hy5,(hb'.cell (World.block_lt_of_cell? w _ hy6)).trans hy6⟩⟩
        clear hy0 hy1 hy2 hy3 hy4 hy5 hy6 hA hgp hjd
        refine puq (i := 25) (N := some 57) HT_.out (zaf 41 26) ?_
        refine puq (i := 26) (N := some 58) HT_.out (zaf 41 27) ?_
        refine puq (i := 27) (N := some 59) HT_.out (zaf 41 28) ?_
        refine puq (i := 28) (N := some 60) HT_.out (zaf 41 29) ?_
        refine take_ (i := 29) (N := some 61) (zaf 41 30) rfl rfl (zI HT_.out HW_.out (by kernel_rfl)) (fun _ _ _ h => h) (Or.inl ⟨by rfl,by rintro w' ⟨r0,r1,r2,r3,r4,r5,r6,r7,r8,r9,hM⟩;go_simp;with_reducible rfl⟩) hHeld hPq ?_
        refine puq (i := 30) (N := some 62) HT_.out (zaf 41 31) ?_
        refine puq (i := 31) (N := some 63) HT_.out (zaf 41 32) ?_
        refine puq (i := 32) (N := some 64) HT_.out (zaf 41 33) ?_
        refine puq (i := 33) (N := some 65) HT_.out (zaf 41 34) ?_
        refine take_ (i := 34) (N := some 66) (zaf 41 35) rfl rfl (zI HT_.out HW_.out (by kernel_rfl)) (fun _ _ _ h => h) (Or.inl ⟨by rfl,by rintro w' ⟨r0,r1,r2,r3,r4,r5,r6,r7,r8,r9,hM⟩;obtain ⟨u0,u1,u2,u3,u4,u5,u6⟩ := HPR.out w' hM.b;go_simp;with_reducible rfl⟩) hHeld hPq ?_
        refine puq (i := 35) (N := some 67) HT_.out (zaf 41 36) ?_
        refine take_ (i := 36) (N := some 68) (zaf 41 37) rfl rfl (zI HT_.out HW_.out (by kernel_rfl)) (fun _ _ _ h => h) (Or.inl ⟨by rfl,by rintro w' ⟨r0,r1,r2,r3,r4,r5,r6,r7,r8,r9,hM⟩;go_simp;with_reducible rfl⟩) hHeld hPq ?_
        rcases h6 : za4 t1 t2 s1 s2 with _ | _
        ·have HA := za.mk h6
         have HE : za (okE a0_0 a0_1 l0_2 k ⟨s0,⟨s1,s2,s3,s4,⟨s5,s6⟩⟩⟩ = false) := ⟨by rw [HKE.out,decide_eq_false Kh5.out];simp [HA.out]⟩
         clear h6
         refine zb6 (i := 37) (N := some 69) (zaf 41 38) rfl rfl (zaO HT_.out (by kernel_rfl)) (by decide) (fun K hK => ?_)
         refine za8 Try.func36 (by kernel_rfl) rfl #[.agg #[.int .i64 t1,.int .i64 t2,.slice B3 m3 d3,.slice B4 m4 d4,.int .i64 t5,.int .i64 t6],.agg #[.int .i64 s1,.int .i64 s2,.slice A3 s3.length c3,.slice A4 s4.length c4,.int .i64 s5,.int .i64 s6]] (by rfl) rfl rfl (by (try simp only [List.map_toArray,List.map_cons,List.map_nil]);first | done | rfl | (simp only [HJ.out];rfl)) ?_
         with_reducible refine (zem.walk t1 t2 B3 m3 d3 B4 m4 d4 t5 t6 s1 s2 A3 s3.length c3 A4 s4.length c4 s5 s6 _).mono ?_
         rintro e w7 ⟨rfl,hbw⟩;rw [HA.out]
         refine ⟨_,rfl,?_⟩
         refine hK.out _ _ (MK.out _ ((LM.out _ hHeld).step hbw)) (fun hHeld => ?_)
         clear hK K
         refine za9 (a' := ?_) ?_ ?_
         rotate_left
         ·show Act.put _ (some 69) _ = _
          simp only [Act.put,List.setIfInBounds_toArray,List.set_cons_zero,List.set_cons_succ,z8,zaa]
          rfl
         refine puq (i := 38) (N := some 70) HT_.out (zaf 41 39) ?_
         refine puq (i := 39) (N := some 71) HT_.out (zaf 41 40) ?_
         refine puq (i := 40) (N := some 72) HT_.out (zaf 41 41) ?_
         refine zbl (zaF HT_.out (by kernel_rfl)) ?_
         have HZ := za.mk hHeld.2.2.2.2.2.2.2.2.2.2.b
         go_wp2
         go_ret
         exact ⟨by rw [HNO.out HE.out];rfl,HZ.out⟩
        ·have HA := za.mk h6
         have HE : za (okE a0_0 a0_1 l0_2 k ⟨s0,⟨s1,s2,s3,s4,⟨s5,s6⟩⟩⟩ = true) := ⟨by rw [HKE.out,decide_eq_true Kh1.out,decide_eq_true Kh2.out,decide_eq_true (by have h_ := Kh3.out;omega : a0_1 < s2),decide_eq_true Kh4.out];simp [HA.out]⟩
         clear h6
         refine zb6 (i := 37) (N := some 69) (zaf 41 38) rfl rfl (zaO HT_.out (by kernel_rfl)) (by decide) (fun K hK => ?_)
         refine za8 Try.func36 (by kernel_rfl) rfl #[.agg #[.int .i64 t1,.int .i64 t2,.slice B3 m3 d3,.slice B4 m4 d4,.int .i64 t5,.int .i64 t6],.agg #[.int .i64 s1,.int .i64 s2,.slice A3 s3.length c3,.slice A4 s4.length c4,.int .i64 s5,.int .i64 s6]] (by rfl) rfl rfl (by (try simp only [List.map_toArray,List.map_cons,List.map_nil]);first | done | rfl | (simp only [HJ.out];rfl)) ?_
         with_reducible refine (zem.walk t1 t2 B3 m3 d3 B4 m4 d4 t5 t6 s1 s2 A3 s3.length c3 A4 s4.length c4 s5 s6 _).mono ?_
         rintro e w7 ⟨rfl,hbw⟩;rw [HA.out]
         refine ⟨_,rfl,?_⟩
         refine hK.out _ _ (MK.out _ ((LM.out _ hHeld).step hbw)) (fun hHeld => ?_)
         clear hK K
         refine za9 (a' := ?_) ?_ ?_
         rotate_left
         ·show Act.put _ (some 69) _ = _
          simp only [Act.put,List.setIfInBounds_toArray,List.set_cons_zero,List.set_cons_succ,z8,zaa]
          rfl
         refine puq (i := 38) (N := some 70) HT_.out (zaf 41 39) ?_
         refine puq (i := 39) (N := some 71) HT_.out (zaf 41 40) ?_
         refine puq (i := 40) (N := some 72) HT_.out (zaf 41 41) ?_
         refine zbl (zaF HT_.out (by kernel_rfl)) ?_
         have HZ := za.mk hHeld.2.2.2.2.2.2.2.2.2.2.b
         have HB1 := za.mk hHeld.2.2.2.2.2.2.2.2.2.2.c1
         clear hHeld HT_ HW_
         go_wp2_with fail
         go_roundw
         all_goals first | (case rel => exact ⟨k + 1,by go_num,by omega,⟨HYE.out HE.out⟩,HB1,HZ⟩) | (case measure => simp;omega) | exact ⟨⟨k + 1,by go_num,by omega,⟨HYE.out HE.out⟩,HB1,HZ⟩,by simp;omega⟩
      ·have cl4 : decide ((0 : Int) < (lost.length : Int)) = true := decide_eq_true (by omega)
       have cl4' : decide (0 < lost.length) = true := decide_eq_true (by omega)
       have HE : za (okE a0_0 a0_1 l0_2 k ⟨s0,⟨s1,s2,s3,s4,⟨s5,s6⟩⟩⟩ = false) := ⟨by rw [HKE.out,decide_eq_false h4];simp⟩
       have Kh4 := za.mk h4
       clear h4
       refine puq (i := 22) (N := some 54) HT_.out (zaf 41 23) ?_
       refine puq (i := 23) (N := some 55) HT_.out (zaf 41 24) ?_
       refine puq (i := 24) (N := some 56) HT_.out (zaf 41 25) ?_
       refine zdp (fun _ _ _ _ _ h => h) HT_.out [(25,57),(26,58),(27,59),(28,60),(29,61),(30,62),(31,63),(32,64),(33,65),(34,66),(35,67),(36,68),(37,69),(38,70),(39,71)] 1 rfl (zaf 41 40) (by kernel_rfl) (by kernel_rfl) (a' := ?_) ?_ ?_
       rotate_left
       ·simp only [zce,Act.put,List.setIfInBounds_toArray,List.set_cons_zero,List.set_cons_succ]
        rfl
       refine puq (i := 40) (N := some 72) HT_.out (zaf 41 41) ?_
       refine zbl (zaF HT_.out (by kernel_rfl)) ?_
       have HZ := za.mk hHeld.2.2.2.2.2.2.2.2.2.2.b
       go_wp2
       go_ret
       exact ⟨by rw [HNO.out HE.out];rfl,HZ.out⟩
    ·have c2 : (D.toList == s0.toList) = false := by rw [zbG];exact decide_eq_false h2
     have HE : za (okE a0_0 a0_1 l0_2 k ⟨s0,⟨s1,s2,s3,s4,⟨s5,s6⟩⟩⟩ = false) := ⟨by rw [HKE.out,decide_eq_false h2];simp⟩
     have Kh2 := za.mk h2
     clear h2
     refine puq (i := 6) (N := some 38) HT_.out (zaf 41 7) ?_
     refine puq (i := 7) (N := some 39) HT_.out (zaf 41 8) ?_
     refine puq (i := 8) (N := some 40) HT_.out (zaf 41 9) ?_
     refine zdp (fun _ _ _ _ _ h => h) HT_.out [(9,41),(10,42),(11,43),(12,44),(13,45),(14,46)] 26 rfl (zaf 41 15) (by kernel_rfl) (by kernel_rfl) (a' := ?_) ?_ ?_
     rotate_left
     ·simp only [zce,Act.put,List.setIfInBounds_toArray,List.set_cons_zero,List.set_cons_succ]
      rfl
     refine puq (i := 15) (N := some 47) HT_.out (zaf 41 16) ?_
     refine puq (i := 16) (N := some 48) HT_.out (zaf 41 17) ?_
     refine zdp (fun _ _ _ _ _ h => h) HT_.out [(17,49),(18,50),(19,51),(20,52),(21,53),(22,54)] 18 rfl (zaf 41 23) (by kernel_rfl) (by kernel_rfl) (a' := ?_) ?_ ?_
     rotate_left
     ·simp only [zce,Act.put,List.setIfInBounds_toArray,List.set_cons_zero,List.set_cons_succ]
      rfl
     refine puq (i := 23) (N := some 55) HT_.out (zaf 41 24) ?_
     refine puq (i := 24) (N := some 56) HT_.out (zaf 41 25) ?_
     refine zdp (fun _ _ _ _ _ h => h) HT_.out [(25,57),(26,58),(27,59),(28,60),(29,61),(30,62),(31,63),(32,64),(33,65),(34,66),(35,67),(36,68),(37,69),(38,70),(39,71)] 1 rfl (zaf 41 40) (by kernel_rfl) (by kernel_rfl) (a' := ?_) ?_ ?_
     rotate_left
     ·simp only [zce,Act.put,List.setIfInBounds_toArray,List.set_cons_zero,List.set_cons_succ]
      rfl
     refine puq (i := 40) (N := some 72) HT_.out (zaf 41 41) ?_
     refine zbl (zaF HT_.out (by kernel_rfl)) ?_
     have HZ := za.mk hHeld.2.2.2.2.2.2.2.2.2.2.b
     go_wp2
     go_ret
     exact ⟨by rw [HNO.out HE.out];rfl,HZ.out⟩
   ·have c1 : (e1 != 0) = true := bne_iff_ne.2 h1
    have HE : za (okE a0_0 a0_1 l0_2 k ⟨s0,⟨s1,s2,s3,s4,⟨s5,s6⟩⟩⟩ = false) := ⟨by rw [HKE.out,decide_eq_false h1];simp⟩
    have Kh1 := za.mk h1
    clear h1
    refine puq (i := 1) (N := some 33) HT_.out (zaf 41 2) ?_
    refine puq (i := 2) (N := some 34) HT_.out (zaf 41 3) ?_
    refine zdp (fun _ _ _ _ _ h => h) HT_.out [(3,35),(4,36),(5,37),(6,38)] 34 rfl (zaf 41 7) (by kernel_rfl) (by kernel_rfl) (a' := ?_) ?_ ?_
    rotate_left
    ·simp only [zce,Act.put,List.setIfInBounds_toArray,List.set_cons_zero,List.set_cons_succ]
     rfl
    refine puq (i := 7) (N := some 39) HT_.out (zaf 41 8) ?_
    refine puq (i := 8) (N := some 40) HT_.out (zaf 41 9) ?_
    refine zdp (fun _ _ _ _ _ h => h) HT_.out [(9,41),(10,42),(11,43),(12,44),(13,45),(14,46)] 26 rfl (zaf 41 15) (by kernel_rfl) (by kernel_rfl) (a' := ?_) ?_ ?_
    rotate_left
    ·simp only [zce,Act.put,List.setIfInBounds_toArray,List.set_cons_zero,List.set_cons_succ]
     rfl
    refine puq (i := 15) (N := some 47) HT_.out (zaf 41 16) ?_
    refine puq (i := 16) (N := some 48) HT_.out (zaf 41 17) ?_
    refine zdp (fun _ _ _ _ _ h => h) HT_.out [(17,49),(18,50),(19,51),(20,52),(21,53),(22,54)] 18 rfl (zaf 41 23) (by kernel_rfl) (by kernel_rfl) (a' := ?_) ?_ ?_
    rotate_left
    ·simp only [zce,Act.put,List.setIfInBounds_toArray,List.set_cons_zero,List.set_cons_succ]
     rfl
    refine puq (i := 23) (N := some 55) HT_.out (zaf 41 24) ?_
    refine puq (i := 24) (N := some 56) HT_.out (zaf 41 25) ?_
    refine zdp (fun _ _ _ _ _ h => h) HT_.out [(25,57),(26,58),(27,59),(28,60),(29,61),(30,62),(31,63),(32,64),(33,65),(34,66),(35,67),(36,68),(37,69),(38,70),(39,71)] 1 rfl (zaf 41 40) (by kernel_rfl) (by kernel_rfl) (a' := ?_) ?_ ?_
    rotate_left
    ·simp only [zce,Act.put,List.setIfInBounds_toArray,List.set_cons_zero,List.set_cons_succ]
     rfl
    refine puq (i := 40) (N := some 72) HT_.out (zaf 41 41) ?_
    refine zbl (zaF HT_.out (by kernel_rfl)) ?_
    have HZ := za.mk hHeld.2.2.2.2.2.2.2.2.2.2.b
    go_wp2
    go_ret
    exact ⟨by rw [HNO.out HE.out];rfl,HZ.out⟩
  ·obtain rfl : k = l0_2.length := by omega
   have hb : decide (l0_2.length < l0_2.length) = false := decide_eq_false (Nat.lt_irrefl _)
   go_wp2_with fail
   go_ret
   exact ⟨by rw [zhT _ _ _ HN.out (by have h_ := HLOW.out;omega) HF.out];rfl,HB.out⟩
def zau.f (a0_0 : Int) (a0_1 : Int) (l0_2 : List (S34)) : Option (Bool) := if l0_2.length < 1466015503701 then some (zb0 a0_0 a0_1 l0_2) else none
theorem zau.calls (a0_0 : Int) (a0_1 : Int) (A0_2 : Option Addr) (c0_2 : Nat) (l0_2 : List (S34)) (r : Bool) (w : World) (hr0_2 : Kd.C k34 w A0_2 l0_2.length l0_2) (hc0_2 : l0_2.length ≤ c0_2) (h : zau.f a0_0 a0_1 l0_2 = some r) :
  Calls Try.prog 18 #[.agg #[.int .i64 a0_0,.int .i64 a0_1,.slice A0_2 l0_2.length c0_2]] w fun e w' => e = .returned (.bool r) ∧ Below w.heap.size w w' := by
 unfold zau.f at h
 split at h
 ·rename_i hl
  obtain rfl := Option.some.inj h
  exact zau.walk a0_0 a0_1 A0_2 c0_2 l0_2 w hr0_2 hc0_2 hl
 ·cases h
end Go.Proofs.Ytndjfdakflaggaa.Px