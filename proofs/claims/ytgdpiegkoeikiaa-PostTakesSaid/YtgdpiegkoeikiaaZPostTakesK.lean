/- Part 11 of 35 of the proof of the law PostTakes: what is proved is the statement at the end of the last part; its conditions are those of the given row. -/
import Derived.Test.YtgdpiegkoeikiaaZPostTakesE
namespace Go.Proofs.Ytgdpiegkoeikiaa.Px
open Go.RowKit Go.Proofs.YtgdpiegkoeikiaaW.PrintWords Go.Proofs.YtgdpiegkoeikiaaW.PrintLast Go.Proofs.YtgdpiegkoeikiaaW.PrintMore
attribute [local go_sem] zF zH zQ zR zy zz zG zI
set_option linter.unusedVariables false
set_option linter.unusedSimpArgs false
def zam (s : Bs) : Int × Int × Bs × Bool :=
 match zas s with
 | none => (0,0,[],false)
 | some (a,s1) => match zas s1 with
  | none => (a,0,[],false)
  | some (b,s2) => (a,b,s2,true)
def zac.Rest (s : Bs) (k : Nat) (s' : ByteArray) (X Y : Int) : Prop :=
 (k = 0 ∧ ofB s' = s ∧ X = 0 ∧ Y = 0) ∨ (k = 1 ∧ Y = 0 ∧ ∃ a : Nat,X = a ∧ zas s = some (a,ofB s')) ∨
 (k = 2 ∧ ∃ (a b : Nat) (s1 : Bs),X = a ∧ Y = b ∧ zas s = some (a,s1) ∧ zas s1 = some (b,ofB s'))
theorem zac.Rest.step0 {s : Bs} {s' : ByteArray} {X Y : Int} (h : zac.Rest s 0 s' X Y) {v : Nat} {r : Bs} (h1 : zas (ofB s') = some (v,r)) : zac.Rest s 1 (toB r) v Y := by
 rcases h with ⟨_,e,rfl,rfl⟩ | ⟨e,_⟩ | ⟨e,_⟩
 ·exact .inr (.inl ⟨rfl,rfl,v,rfl,by rw [zae,← h1,e]⟩)
 ·cases e
 ·cases e
theorem zac.Rest.step1 {s : Bs} {s' : ByteArray} {X Y : Int} (h : zac.Rest s 1 s' X Y) {v : Nat} {r : Bs} (h1 : zas (ofB s') = some (v,r)) : zac.Rest s 2 (toB r) X v := by
 rcases h with ⟨e,_⟩ | ⟨_,rfl,a,rfl,h2⟩ | ⟨e,_⟩
 ·cases e
 ·exact .inr (.inr ⟨rfl,a,v,_,rfl,rfl,h2,by rw [zae,h1]⟩)
 ·cases e
theorem zac.Rest.fail {s : Bs} {s' : ByteArray} {k : Nat} (hk : k < 2) {X Y : Int} (h : zac.Rest s k s' X Y) (h1 : zas (ofB s') = none) : zam s = (X,Y,[],false) := by
 rcases h with ⟨_,e,rfl,rfl⟩ | ⟨_,rfl,a,rfl,h2⟩ | ⟨e,_⟩
 ·rw [e] at h1;rw [zam,h1]
 ·rw [zam,h2];simp only;rw [h1]
 ·omega
theorem zac.Rest.stop {s : Bs} {s' : ByteArray} {X Y : Int} (h : zac.Rest s 2 s' X Y) : zam s = (X,Y,ofB s',true) := by
 rcases h with ⟨e,_⟩ | ⟨e,_⟩ | ⟨_,a,b,s1,rfl,rfl,h1,h2⟩
 ·cases e
 ·cases e
 ·rw [zam,h1];simp only;rw [h2]
theorem zfl (s : ByteArray) (hs : s.size < 4611686018427387904) : ∃ k,(∃ (v : Nat) (r : Bs),zas (ofB s) = some (v,r) ∧ v ≤ 1048576 ∧ zC.f k s = some ((v : Int),toB r,0)) ∨ (zas (ofB s) = none ∧ ∃ (v : Nat) (r : Bs) (e : Int),zC.f k s = some ((v : Int),toB r,e) ∧ (e ≠ 0 ∨ 1048576 < v)) := by
 obtain ⟨k,hk⟩ := (zbU s hs).rounds
 refine ⟨k,?_⟩
 simp only [zbd] at hk
 unfold zas
 generalize zv (ofB s) = q at *
 obtain ⟨v,r,e⟩ := q
 simp only at hk ⊢
 by_cases h : e = 0 ∧ v ≤ 1048576
 ·obtain ⟨rfl,h2⟩ := h
  exact .inl ⟨v,r,by rw [if_pos ⟨rfl,h2⟩],h2,hk⟩
 ·refine .inr ⟨if_neg h,v,r,e,hk,?_⟩
  by_cases he : e = 0
  ·exact .inr (by have : ¬ v ≤ 1048576 := fun hh => h ⟨he,hh⟩;omega)
  ·exact .inl he
set_option maxHeartbeats 4000000 in
set_option maxRecDepth 100000 in
theorem zac.walk (s : ByteArray) (w : World) (hs : s.size < 4611686018427387904) (fin : Int × Int × Bs × Bool) (hfin : zam (ofB s) = fin) :
  Calls Try.prog 56 #[.string s] w fun e w' => e = .returned (.tuple #[.agg #[.int .i64 fin.1,.int .i64 fin.2.1],.string (toB fin.2.2.1),.bool fin.2.2.2]) ∧ Below w.heap.size w w' := by
 have HF := zc.mk hfin
 have HS := zc.mk hs
 clear hfin hs
 go_enter Try.func56,Try.ntmps56
 go_wp2_with (first
  | ((with_reducible refine zu (N := 2) rfl ?_);refine zr ?hg (N := 2) ?hd (cs := #[.int .i64 0,.int .i64 0]) (t := 101) ?hr ?_;(case hd => rfl);(case hg => rfl);(case hr => first | (go_simp;done) | (go_simp;rfl));intro g2 hg w1 hbox hb;have G2 : zc (w.heap.size ≤ g2) := ⟨by rw [hg];exact Nat.le_refl _⟩;have B2 := zc.mk hbox;have HB1 := zc.mk hb;clear hb hbox hg)
  | ((with_reducible refine zu (N := 5) rfl ?_);refine zr ?hg (N := 5) ?hd (cs := #[.int .i64 0,.int .i64 0]) (t := 101) ?hr ?_;(case hd => rfl);(case hg => rfl);(case hr => first | (go_simp;done) | (go_simp;rfl));intro g5 hg w2 hbox hb;have G5 : zc (w.heap.size ≤ g5) := ⟨by rw [hg];exact zl HB1.out⟩;have N25 : zc (g2 ≠ g5) := ⟨by rw [hg];exact Nat.ne_of_lt (zP B2.out)⟩;have C5 := zc.mk hbox;have C2 := zc.mk (zh B2.out hb);have HB2 := zc.mk (zj HB1.out hb);clear hb hbox hg B2))
 have HR0 : zc (zac.Rest (ofB s) 0 s 0 0) := ⟨.inl ⟨rfl,rfl,rfl,rfl⟩⟩
 go_loopw [0,10] (fun v0 v10 wr => ∃ (k : Nat) (s' : ByteArray) (X Y : Int),v0 = .string s' ∧ v10 = .int .i64 k ∧ k ≤ 2 ∧ zc (s'.size ≤ s.size ∧ zac.Rest (ofB s) k s' X Y) ∧ zc (Below w.heap.size w wr ∧ wr.heap[g2]? = some (.cells #[.int .i64 0,.int .i64 0] 101 (0,0)) ∧ wr.heap[g5]? = some (.cells #[.int .i64 X,.int .i64 Y] 101 (0,0)))) (fun _ v10 _ => 2 - (match v10 with | .int _ q => q | _ => 0).toNat)
 case atStart => exact ⟨0,s,0,0,rfl,rfl,by omega,⟨Nat.le_refl _,HR0.out⟩,⟨HB2.out,C2.out,C5.out⟩⟩
 case round =>
  obtain ⟨k,s',X,Y,rfl,rfl,hk,HR,HW⟩ := hrel
  obtain ⟨q,hq⟩ := zfl s' (by have := HS.out;have := HR.out.1;omega)
  have hlen : ∀ (v : Nat) (r : Bs),zas (ofB s') = some (v,r) → (toB r).size ≤ s.size := fun v r h => by
   have := zbs h
   rw [zah] at this
   rw [zV];have := HR.out.1;omega
  have HLN := zc.mk hlen
  clear hlen HR0
  have n25 := N25.out
  have n52 := Ne.symm N25.out
  have a20 := (zb HW.out.2.1 0).trans rfl;have a21 := (zb HW.out.2.1 1).trans rfl;have a50 := (zb HW.out.2.2 0).trans rfl;have a51 := (zb HW.out.2.2 1).trans rfl
  have f20 := za HW.out.2.1 0;have f21 := za HW.out.2.1 1;have f50 := za HW.out.2.2 0;have f51 := za HW.out.2.2 1
  match k,hk,HR with
  | 0,hk,HR =>
   rcases hq with ⟨v,r,h1,h2,h3⟩ | ⟨h1,v,r,e,h3,h4⟩
   ·have hb : decide (1048576 < v) = false := decide_eq_false (by omega)
    have hb2 : decide (1048576 < (v : Int)) = false := decide_eq_false (by omega)
    have hw : wrap64 (v : Int) = v := zag (by omega) (by omega)
    have H1 := zc.mk h1
    have H3 := zc.mk h3
    clear h1 h2 h3
    go_wp2_with (go_at_call 53;(with_reducible refine (zC.calls _ _ _ _ _ _ H3.out).mono ?_);rintro e w3 ⟨rfl,⟨nd,rfl⟩⟩)
    exact ⟨⟨1,toB r,v,Y,rfl,rfl,by omega,⟨HLN.out _ _ H1.out,HR.out.2.step0 H1.out⟩,⟨zg (zm HW.out.1 nd) G5.out,zk (zd HW.out.2.1 nd) n25 _,zi (zd HW.out.2.2 nd) 0 _ rfl⟩⟩,by simp⟩
   ·have HE := zc.mk (HR.out.2.fail (by omega) h1)
    have H3 := zc.mk h3
    by_cases he : e = 0
    ·subst he
     have hv : 1048576 < v := by rcases h4 with h4 | h4;exact absurd rfl h4;exact h4
     have hb : decide (1048576 < v) = true := decide_eq_true hv
     have hb2 : decide (1048576 < (v : Int)) = true := decide_eq_true (by omega)
     clear h1 h3 h4 hv
     go_wp2_with (go_at_call 53;(with_reducible refine (zC.calls _ _ _ _ _ _ H3.out).mono ?_);rintro e w3 ⟨rfl,⟨nd,rfl⟩⟩)
     refine bodyPost_ret (zcs rfl _ _ g2 101 #[.int .i64 X,.int .i64 Y] (0,0) _ rfl (zi (cs := #[.int .i64 X,.int .i64 0]) (zi (cs := #[.int .i64 0,.int .i64 0]) (zd HW.out.2.1 nd) 0 _ rfl) 1 _ rfl) Try.underlying101 rfl (by kernel_rfl)) rfl ?_
     rw [← HF.out,HE.out]
     exact ⟨rfl,zg (zg (zm HW.out.1 nd) G2.out) G2.out⟩
    ·have hb : (e == 0) = false := beq_eq_false_iff_ne.2 he
     have hb2 : (e != 0) = true := by rw [bne,hb];rfl
     clear h1 h3 h4 he
     go_wp2_with (go_at_call 53;(with_reducible refine (zC.calls _ _ _ _ _ _ H3.out).mono ?_);rintro e w3 ⟨rfl,⟨nd,rfl⟩⟩)
     refine bodyPost_ret (zcs rfl _ _ g2 101 #[.int .i64 X,.int .i64 Y] (0,0) _ rfl (zi (cs := #[.int .i64 X,.int .i64 0]) (zi (cs := #[.int .i64 0,.int .i64 0]) (zd HW.out.2.1 nd) 0 _ rfl) 1 _ rfl) Try.underlying101 rfl (by kernel_rfl)) rfl ?_
     rw [← HF.out,HE.out]
     exact ⟨rfl,zg (zg (zm HW.out.1 nd) G2.out) G2.out⟩
  | 1,hk,HR =>
   rcases hq with ⟨v,r,h1,h2,h3⟩ | ⟨h1,v,r,e,h3,h4⟩
   ·have hb : decide (1048576 < v) = false := decide_eq_false (by omega)
    have hb2 : decide (1048576 < (v : Int)) = false := decide_eq_false (by omega)
    have hw : wrap64 (v : Int) = v := zag (by omega) (by omega)
    have H1 := zc.mk h1
    have H3 := zc.mk h3
    clear h1 h2 h3
    go_wp2_with (go_at_call 53;(with_reducible refine (zC.calls _ _ _ _ _ _ H3.out).mono ?_);rintro e w3 ⟨rfl,⟨nd,rfl⟩⟩)
    exact ⟨⟨2,toB r,X,v,rfl,rfl,by omega,⟨HLN.out _ _ H1.out,HR.out.2.step1 H1.out⟩,⟨zg (zm HW.out.1 nd) G5.out,zk (zd HW.out.2.1 nd) n25 _,zi (zd HW.out.2.2 nd) 1 _ rfl⟩⟩,by simp⟩
   ·have HE := zc.mk (HR.out.2.fail (by omega) h1)
    have H3 := zc.mk h3
    by_cases he : e = 0
    ·subst he
     have hv : 1048576 < v := by rcases h4 with h4 | h4;exact absurd rfl h4;exact h4
     have hb : decide (1048576 < v) = true := decide_eq_true hv
     have hb2 : decide (1048576 < (v : Int)) = true := decide_eq_true (by omega)
     clear h1 h3 h4 hv
     go_wp2_with (go_at_call 53;(with_reducible refine (zC.calls _ _ _ _ _ _ H3.out).mono ?_);rintro e w3 ⟨rfl,⟨nd,rfl⟩⟩)
     refine bodyPost_ret (zcs rfl _ _ g2 101 #[.int .i64 X,.int .i64 Y] (0,0) _ rfl (zi (cs := #[.int .i64 X,.int .i64 0]) (zi (cs := #[.int .i64 0,.int .i64 0]) (zd HW.out.2.1 nd) 0 _ rfl) 1 _ rfl) Try.underlying101 rfl (by kernel_rfl)) rfl ?_
     rw [← HF.out,HE.out]
     exact ⟨rfl,zg (zg (zm HW.out.1 nd) G2.out) G2.out⟩
    ·have hb : (e == 0) = false := beq_eq_false_iff_ne.2 he
     have hb2 : (e != 0) = true := by rw [bne,hb];rfl
     clear h1 h3 h4 he
     go_wp2_with (go_at_call 53;(with_reducible refine (zC.calls _ _ _ _ _ _ H3.out).mono ?_);rintro e w3 ⟨rfl,⟨nd,rfl⟩⟩)
     refine bodyPost_ret (zcs rfl _ _ g2 101 #[.int .i64 X,.int .i64 Y] (0,0) _ rfl (zi (cs := #[.int .i64 X,.int .i64 0]) (zi (cs := #[.int .i64 0,.int .i64 0]) (zd HW.out.2.1 nd) 0 _ rfl) 1 _ rfl) Try.underlying101 rfl (by kernel_rfl)) rfl ?_
     rw [← HF.out,HE.out]
     exact ⟨rfl,zg (zg (zm HW.out.1 nd) G2.out) G2.out⟩
  | 2,hk,HR =>
   have HE := zc.mk HR.out.2.stop
   clear hq
   go_wp2_with fail
   refine bodyPost_ret (zcs rfl _ _ g2 101 #[.int .i64 X,.int .i64 Y] (0,0) _ rfl (zi (cs := #[.int .i64 X,.int .i64 0]) (zi (cs := #[.int .i64 0,.int .i64 0]) HW.out.2.1 0 _ rfl) 1 _ rfl) Try.underlying101 rfl (by kernel_rfl)) rfl ?_
   rw [← HF.out,HE.out]
   exact ⟨by simp only [zcl];rfl,zg (zg HW.out.1 G2.out) G2.out⟩
def zac.f (a0 : ByteArray) : Option (Int × Int × ByteArray × Bool) := if a0.size < 4611686018427387904 then some ((zam (ofB a0)).1,(zam (ofB a0)).2.1,toB (zam (ofB a0)).2.2.1,(zam (ofB a0)).2.2.2) else none
theorem zac.calls (a0 : ByteArray) (r1 r2 : Int) (r3 : ByteArray) (r4 : Bool) (w : World) (h : zac.f a0 = some (r1,r2,r3,r4)) :
  Calls Try.prog 56 #[.string a0] w fun e w' => e = .returned (.tuple #[.agg #[.int .i64 r1,.int .i64 r2],.string r3,.bool r4]) ∧ Below w.heap.size w w' := by
 unfold zac.f at h
 split at h
 ·rename_i hs
  have h := Option.some.inj h
  simp only [Prod.mk.injEq] at h
  obtain ⟨rfl,rfl,rfl,rfl⟩ := h
  exact zac.walk a0 w hs _ rfl
 ·cases h
end Go.Proofs.Ytgdpiegkoeikiaa.Px