/- Part 12 of 35 of the proof of the law CertBytes: what is proved is the statement at the end of the last part; its conditions are those of the given row. -/
import Derived.Test.YtfhbeonhnhjikaaGreatZCertBytesK
namespace Go.Proofs.YtfhbeonhnhjikaaGreat.Px
open Go.RowKit Go.Proofs.YtfhbeonhnhjikaaGreatW.PrintWords Go.Proofs.YtfhbeonhnhjikaaGreatW.PrintLast Go.Proofs.YtfhbeonhnhjikaaGreatW.PrintMore
attribute [local go_sem] zz zB zI zJ zp zq zA zC
set_option linter.unusedVariables false
set_option linter.unusedSimpArgs false
def zaE (a r : Int) (bs : List S73) (ps : List ByteArray) (x y : Int) : Bs :=
 zbD a.toNat ++ zbD r.toNat ++ zbI (bs.map bB) ++ zbI ps ++ zbD x.toNat ++ zbD y.toNat
theorem zcv (a r : Int) (bs : List S73) (ps : List ByteArray) (x y n : Int) : zbr a r bs ps x y n = true ↔ zem n = true ∧ 1 ≤ a ∧ a ≤ n ∧ 1 ≤ r ∧ r ≤ 1048576 ∧ bs.length ≤ 4 ∧ bs.any (zdw n) = false ∧ zf2 x y = true ∧ (zdI r = true ∨ x = 0 ∧ y = 0) ∧ zcw ps r n = true := by
 unfold zbr
 simp [and_assoc]
theorem ziO (l : List ByteArray) (d : Nat) : ∀ j,zbH l d j = true → ∀ i,j ≤ i → i < j + d → (l.getD i ByteArray.empty).size = 32 := by
 induction d with
 | zero => intro j _ i h1 h2;omega
 | succ d ih =>
  intro j h i h1 h2
  rw [zbH,Bool.and_eq_true] at h
  rcases Nat.lt_or_ge j i with h3 | h3
  ·exact ih (j + 1) h.2 i (by omega) (by omega)
  ·obtain rfl : i = j := by omega
   have := h.1
   rw [zhj,Bool.and_eq_true] at this
   exact of_decide_eq_true this.1
theorem zbE {l : List ByteArray} {r n : Int} (hn : zem n = true) (h : zcw l r n = true) : l.length ≤ 64 ∧ ∀ t ∈ l,t.size = 32 := by
 unfold zcw at h
 split at h
 ·have h0 := of_decide_eq_true h
  obtain rfl := List.eq_nil_of_length_eq_zero h0
  simp
 ·obtain ⟨_,h2,_⟩ := (zcu n).1 hn
  rw [Bool.and_eq_true,Bool.and_eq_true] at h
  have h3 := of_decide_eq_true h.2
  refine ⟨by omega,fun t ht => ?_⟩
  obtain ⟨i,hi,rfl⟩ := List.mem_iff_getElem.1 ht
  have := ziO l l.length 0 h.1.1 i (by omega) (by omega)
  rwa [List.getD_eq_getElem?_getD,List.getElem?_eq_getElem hi] at this
theorem zgf (b : S73) : (bB b).size ≤ 400 := by
 unfold bB
 split
 ·rename_i h
  obtain ⟨h1,h2,h3,h4,h5,h6,h7⟩ := (zdP _ _ _).1 h
  have r1 := zdr b.f2 48 (by omega) (fun t ht => (h7 t ht).2)
  have r2 := zaL (v := b.f2.length) (by omega)
  have r4 := zaL (v := b.f0.toNat) (by omega)
  have r5 := zaL (v := b.f1.toNat) (by omega)
  rw [zP,zdn,List.length_append,List.length_append,zbI,List.length_append];omega
 ·show 0 ≤ 400;omega
theorem zh7 {bs : List S73} (h : bs.length ≤ 4) : (zbI (bs.map bB)).length ≤ 1700 := by
 have r1 := zdr (bs.map bB) 400 (by omega) (fun t ht => by obtain ⟨b,_,rfl⟩ := List.mem_map.1 ht;exact zgf b)
 rw [List.length_map] at r1
 have r2 := zaL (v := (bs.map bB).length) (by rw [List.length_map];omega)
 rw [zbI,List.length_append];omega
theorem zh8 {ps : List ByteArray} (h : ps.length ≤ 64 ∧ ∀ t ∈ ps,t.size = 32) : (zbI ps).length ≤ 2700 := by
 have r1 := zdr ps 32 (by omega) (fun t ht => by have := h.2 t ht;omega)
 have r2 := zaL (v := ps.length) (by have := h.1;omega)
 rw [zbI,List.length_append];have := h.1;omega
theorem zhG {n : Int} {bs : List S73} (h : bs.any (zdw n) = false) : ∀ b ∈ bs,zc8 b.f0 b.f1 b.f2 = true ∧ b.f0 ≤ n := by
 intro b hb
 rw [List.any_eq_false] at h
 have := h b hb
 rw [zdw] at this
 simp at this
 exact ⟨this.1,by omega⟩
theorem rd_four (a b c d : ByteArray) : zG ByteArray.empty [a,b,c,d] 0 = a ∧ zG ByteArray.empty [a,b,c,d] 1 = b ∧ zG ByteArray.empty [a,b,c,d] 2 = c ∧ zG ByteArray.empty [a,b,c,d] 3 = d := ⟨rfl,rfl,rfl,rfl⟩
theorem zed (a r : Int) (bs : List S73) (ps : List ByteArray) (x y n : Int) :
  zat.f a r bs ps x y n = some (if zbr a r bs ps x y n = true then (toB (zaE a r bs ps x y),0) else ((⟨#[]⟩ : ByteArray),1)) := by
 unfold zat.f
 rw [show zao.f a r bs ps x y n = some (zbr a r bs ps x y n) from rfl]
 simp only [Option.bind_some]
 by_cases h : zbr a r bs ps x y n = true
 ·rw [if_pos h,if_pos h]
  obtain ⟨h0,h1,h2,h3,h4,h5,h6,h7,h8,h9⟩ := (zcv ..).1 h
  obtain ⟨k1,k2,k3⟩ := (zcu n).1 h0
  obtain ⟨x1,x2,y1,y2⟩ := (zdp x y).1 h7
  have e1 : zaU.f bs = some (bs.map bB) := if_pos h5
  have e2 : zaF.f [a,r,x,y] = some [zbO a.toNat,zbO r.toNat,zbO x.toNat,zbO y.toNat] := by
   rw [zaF.f,if_pos]
   ·rfl
   ·refine ⟨Nat.le_refl 4,fun k hk => ?_⟩
    simp only [List.mem_cons,List.not_mem_nil,or_false] at hk
    rcases hk with rfl | rfl | rfl | rfl <;> omega
  have s0 := za0 (v := a.toNat) (by omega)
  have s1 := za0 (v := r.toNat) (by omega)
  have s2 := za0 (v := x.toNat) (by omega)
  have s3 := za0 (v := y.toNat) (by omega)
  have r1 := zh7 h5
  have r2 := zh8 (zbE h0 h9)
  have d1 : zad.f (bs.map bB) = some (toB (zbI (bs.map bB))) := if_pos (by omega)
  have d2 : zad.f ps = some (toB (zbI ps)) := if_pos (by omega)
  rw [e1,e2]
  simp only [Option.bind_some,d1,d2]
  obtain ⟨q0,q1,q2,q3⟩ := rd_four (zbO a.toNat) (zbO r.toNat) (zbO x.toNat) (zbO y.toNat)
  rw [q0,q1,q2,q3]
  simp only [ByteArray.size_append,zP]
  rw [if_pos (by simp),if_pos (by simp),if_pos (by omega),if_pos (by omega),if_pos (by omega),if_pos (by simp),if_pos (by omega),if_pos (by simp),if_pos (by omega)]
  simp only [zaE,zbO,zbk]
 ·rw [if_neg h,if_neg h]
instance decBatch : DecidableEq S73 := fun a b => decidable_of_iff (a.f0 = b.f0 ∧ a.f1 = b.f1 ∧ a.f2 = b.f2) ⟨fun ⟨h0,h1,h2⟩ => by obtain ⟨a0,a1,a2⟩ := a;obtain ⟨b0,b1,b2⟩ := b;simp only at h0 h1 h2;rw [h0,h1,h2],fun h => by rw [h];exact ⟨rfl,rfl,rfl⟩⟩
theorem zdA (l : List S73) (j : Nat) (h : j < l.length) : zW l (j : Int) = l[j] := by
 rw [zW,Int.toNat_natCast,List.getD_eq_getElem?_getD,List.getElem?_eq_getElem h];rfl
theorem zf7 (a b : List S73) (hl : a.length = b.length) (hb : a.length < 4611686018427387904) (hs : ∀ x ∈ a,x.f2.length < 4611686018427387904) (d : Nat) : ∀ j,j + d = a.length →
  Ev (fun k => zE.l0 k a b (j : Int)) (decide (a.drop j = b.drop j)) := by
 induction d with
 | zero =>
  intro j hj
  refine Ev.step (fun k => by rw [zE.l0]) ?_
  refine zF (by omega) (zac (Ev.now _) ?_)
  rw [List.drop_eq_nil_of_le (by omega),List.drop_eq_nil_of_le (by omega)];rfl
 | succ d ih =>
  intro j hj
  have ha : j < a.length := by omega
  have hb' : j < b.length := by omega
  refine Ev.step (fun k => by rw [zE.l0]) ?_
  refine zn (by omega) (zn (by omega) (zn (by omega) ?_))
  rw [zdA a j ha,zdA b j hb']
  refine Ev.bind (zf5 _ _ _ _ _ _ (hs _ (List.getElem_mem ha))) ?_
  rw [z9 (by omega) (by omega),List.drop_eq_getElem_cons ha,List.drop_eq_getElem_cons hb']
  by_cases e : a[j] = b[j]
  ·refine zn (by rw [e];simp [zdV]) (zac (ih (j + 1) (by omega)) ?_)
   rw [e];exact decide_eq_decide.2 ⟨fun h => by rw [h],fun h => (List.cons.inj h).2⟩
  ·refine zF ?_ (zac (Ev.now _) ?_)
   ·intro hh
    apply e
    obtain ⟨h0,h1,h2⟩ := of_decide_eq_true hh
    generalize a[j] = p at *
    generalize b[j] = q at *
    obtain ⟨p0,p1,p2⟩ := p;obtain ⟨q0,q1,q2⟩ := q
    simp only at h0 h1 h2;rw [h0,h1,h2]
   ·exact (decide_eq_false (fun h => e (List.cons.inj h).1)).symm
theorem zhb (a b : List S73) (hb : a.length < 4611686018427387904) (hs : ∀ x ∈ a,x.f2.length < 4611686018427387904) : Ev (fun k => zE.f k a b) (decide (a = b)) := by
 by_cases h : a.length = b.length
 ·exact zn (by omega) (zf7 a b h hb hs a.length 0 (by omega))
 ·refine zF (by omega) (zac (Ev.now _) ?_)
  have : ¬ a = b := fun e => h (by rw [e])
  simp [this]
def zdv (a r : Int) (bs : List S73) (ps : List ByteArray) (x y a' r' : Int) (bs' : List S73) (ps' : List ByteArray) (x' y' : Int) : Bool := decide (a = a' ∧ r = r' ∧ bs = bs' ∧ ps = ps' ∧ x = x' ∧ y = y')
theorem zfu (a r : Int) (bs : List S73) (ps : List ByteArray) (x y a' r' : Int) (bs' : List S73) (ps' : List ByteArray) (x' y' : Int) (hb : bs.length < 4611686018427387904) (hs : ∀ b ∈ bs,b.f2.length < 4611686018427387904) (hp : ps.length < 4611686018427387904) :
  Ev (fun k => zbh.f k a r bs ps x y a' r' bs' ps' x' y') (zdv a r bs ps x y a' r' bs' ps' x' y') := by
 refine Ev.bind (zgN _ _ hp) (Ev.bind (zhb _ _ hb hs) ?_)
 unfold zdv
 by_cases h1 : ps = ps'
 ·refine zn (by simp [h1]) ?_
  by_cases h2 : bs = bs'
  ·refine zn (by simp [h2]) ?_
   by_cases h3 : a = a'
   ·refine zn h3 ?_
    by_cases h4 : r = r'
    ·refine zn h4 (zac (Ev.now _) ?_)
     by_cases h5 : x = x' <;> by_cases h6 : y = y' <;> simp [h1,h2,h3,h4,h5,h6]
    ·exact zF h4 (zac (Ev.now _) (by simp [h4]))
   ·exact zF h3 (zac (Ev.now _) (by simp [h3]))
  ·exact zF (by simp [h2]) (zac (Ev.now _) (by simp [h2]))
 ·exact zF (by simp [h1]) (zac (Ev.now _) (by simp [h1]))
theorem zgz {a r : Int} {bs : List S73} {ps : List ByteArray} {x y n : Int} (h : zbr a r bs ps x y n = true) : bs.length < 4611686018427387904 ∧ (∀ b ∈ bs,b.f2.length < 4611686018427387904) ∧ ps.length < 4611686018427387904 := by
 obtain ⟨h0,_,_,_,_,h5,h6,_,_,h9⟩ := (zcv ..).1 h
 refine ⟨by omega,fun b hb => ?_,by have := (zbE h0 h9).1;omega⟩
 obtain ⟨_,_,_,_,_,k,_⟩ := (zdP _ _ _).1 (zhG h6 b hb).1
 omega
def ze5 (l : List S73) : Bool := l.all fun b => decide (b.f2.length < 4611686018427387904)
theorem shortB_at {l : List S73} (h : ze5 l = true) {k : Nat} (hk : k < l.length) : (zW l (k : Int)).f2.length < 4611686018427387904 := by
 rw [zW,Int.toNat_natCast,List.getD_eq_getElem?_getD,List.getElem?_eq_getElem hk]
 exact of_decide_eq_true (List.all_eq_true.1 h l[k] (List.getElem_mem hk))
theorem rdB_at (l : List S73) {k : Nat} (hk : k < l.length) : l[k]? = some (zW l (k : Int)) := by
 rw [zW,Int.toNat_natCast,List.getD_eq_getElem?_getD,List.getElem?_eq_getElem hk];rfl
theorem zaW.one (a b : S73) (ha : a.f2.length < 4611686018427387904) (A : Option Addr) (c : Nat) (A' : Option Addr) (c' : Nat) (w : World) (hr : Kd.C Kd.string w A a.f2.length a.f2) (hc : a.f2.length ≤ c) (hr' : Kd.C Kd.string w A' b.f2.length b.f2) (hc' : b.f2.length ≤ c') :
  Calls Tryz.prog 58 #[.agg #[.int .i64 a.f0,.int .i64 a.f1,.slice A a.f2.length c],.agg #[.int .i64 b.f0,.int .i64 b.f1,.slice A' b.f2.length c']] w fun e w' => e = .returned (.bool (decide (a = b))) ∧ Below w.heap.size w w' := by
 obtain ⟨k,hk⟩ := (zhI a.f0 a.f1 a.f2 b.f0 b.f1 b.f2 ha).rounds
 have he : decide (a = b) = zdV a.f0 a.f1 a.f2 b.f0 b.f1 b.f2 := by
  obtain ⟨a0,a1,a2⟩ := a;obtain ⟨b0,b1,b2⟩ := b;simp [zdV]
 rw [he]
 exact zdW.calls k a.f0 a.f1 A c a.f2 b.f0 b.f1 A' c' b.f2 _ w hr hc hr' hc' hk
set_option maxHeartbeats 4000000 in
set_option maxRecDepth 100000 in
theorem zaW.walk (A : Option Addr) (c : Nat) (l : List S73) (A' : Option Addr) (c' : Nat) (l' : List S73) (w : World) (hr : Kd.C k73 w A l.length l) (hr' : Kd.C k73 w A' l'.length l') (hs : ze5 l = true) (hlen : l.length = l'.length) :
  Calls Tryz.prog 57 #[.slice A l.length c,.slice A' l'.length c',.func (.func 58) #[] #[]] w fun e w' => e = .returned (.bool (decide (l = l'))) ∧ Below w.heap.size w w' := by
 have hm := hr.2.1
 have HR := za.mk hr
 have HR' := za.mk hr'
 have HS := za.mk hs
 have HL := za.mk hlen
 clear hr hr' hs
 rw [← hlen]
 clear hlen
 go_enter Tryz.func57,Tryz.ntmps57
 go_wp2_with fail
 have HB0 := za.mk (Below.refl w.heap.size w)
 go_loopw [17] (fun v17 wr => ∃ k : Nat,v17 = .int .i64 k ∧ k ≤ l.length ∧ za (∀ j : Nat,j < k → l[j]? = l'[j]?) ∧ za (Below w.heap.size w wr)) (fun v17 _ => l.length - (match v17 with | .int _ q => q | _ => 0).toNat)
 case atStart => exact ⟨0,rfl,Nat.zero_le _,⟨fun j hj => absurd hj (Nat.not_lt_zero _)⟩,HB0⟩
 case round =>
  obtain ⟨k,rfl,hk,HE,HB⟩ := hrel
  by_cases hlt : k < l.length
  ·have hlt' : k < l'.length := by have := HL.out;omega
   obtain ⟨ad,A2,c2,rfl,hx0,hx1,hx2,hl2,hi2⟩ := zcf HR.out (k : Int) (by omega) (by omega)
   obtain ⟨ad',A3,c3,rfl,hy0,hy1,hy2,hl3,hi3⟩ := zcf HR'.out (k : Int) (by omega) (by omega)
   replace hx0 := (HB.out.cell (World.block_lt_of_cell? w _ hx0)).trans hx0
   replace hx1 := (HB.out.cell (World.block_lt_of_cell? w _ hx1)).trans hx1
   replace hx2 := (HB.out.cell (World.block_lt_of_cell? w _ hx2)).trans hx2
   replace hy0 := fun o => ((zk HB.out o).cell (World.block_lt_of_cell? w _ hy0)).trans hy0
   replace hy1 := fun o => ((zk HB.out o).cell (World.block_lt_of_cell? w _ hy1)).trans hy1
   replace hy2 := fun o => ((zk HB.out o).cell (World.block_lt_of_cell? w _ hy2)).trans hy2
   rw [Int.toNat_natCast] at hx0 hx1 hx2
   simp only [Int.toNat_natCast] at hy0 hy1 hy2
   have hb : decide (k < l.length) = true := decide_eq_true hlt
   have HSK := za.mk (shortB_at HS.out hlt)
   have HX := za.mk (rdB_at l hlt)
   have HY := za.mk (rdB_at l' hlt')
   have HL2 := za.mk hl2
   have HI2 := za.mk (Kd.C_below hi2 HB.out)
   have HL3 := za.mk hl3
   have HI3 := za.mk (Kd.C_below hi3 HB.out)
   clear hl2 hi2 hl3 hi3 hlt'
   generalize zW l (k : Int) = s at *
   generalize zW l' (k : Int) = s' at *
   obtain ⟨s0,s1,s2⟩ := s
   obtain ⟨t0,t1,t2⟩ := s'
   rcases ho : decide ((⟨s0,s1,s2⟩ : S73) = ⟨t0,t1,t2⟩) with _ | _
   all_goals
    have HO := za.mk ho
    clear ho
    go_wp2_with (go_at_call 58;(with_reducible refine (zaW.one ⟨s0,s1,s2⟩ ⟨t0,t1,t2⟩ HSK.out _ _ _ _ _ (Kd.C_below HI2.out (zk (zk (Below.refl _ _) _) _)) HL2.out (Kd.C_below HI3.out (zk (zk (Below.refl _ _) _) _)) HL3.out).mono ?_);rintro e w1 ⟨rfl,hb1⟩;rw [HO.out];have HB1 := za.mk (zd (zk (zk HB.out _) _) hb1);clear hb1)
   ·go_ret
    have hne : ¬ l = l' := fun he => by
     have h1 := HX.out
     rw [he,HY.out] at h1
     exact of_decide_eq_false HO.out (Option.some.inj h1).symm
    exact ⟨by rw [decide_eq_false hne];rfl,HB1.out⟩
   ·go_roundw
    case rel =>
     refine ⟨k + 1,by go_num,by omega,⟨fun j hj => ?_⟩,HB1⟩
     rcases Nat.lt_succ_iff_lt_or_eq.1 hj with h | h
     ·exact HE.out j h
     ·subst h
      rw [HX.out,HY.out,of_decide_eq_true HO.out]
    case measure => simp;omega
  ·obtain rfl : k = l.length := by omega
   go_wp2_with fail
   go_ret
   have heq : l = l' := List.ext_getElem? fun j => by
    by_cases hj : j < l.length
    ·exact HE.out j hj
    ·rw [List.getElem?_eq_none (by omega),List.getElem?_eq_none (by have := HL.out;omega)]
   exact ⟨by rw [decide_eq_true heq];rfl,HB.out⟩
set_option maxHeartbeats 4000000 in
set_option maxRecDepth 100000 in
theorem zaW.walk0 (A : Option Addr) (c : Nat) (l : List S73) (A' : Option Addr) (c' : Nat) (l' : List S73) (w : World) (hlen : l.length ≠ l'.length) :
  Calls Tryz.prog 57 #[.slice A l.length c,.slice A' l'.length c',.func (.func 58) #[] #[]] w fun e w' => e = .returned (.bool (decide (l = l'))) ∧ Below w.heap.size w w' := by
 have hd : decide (l = l') = false := decide_eq_false (fun h => hlen (by rw [h]))
 rw [hd]
 clear hd
 have h1 : ((l.length : Int) != (l'.length : Int)) = true := bne_iff_ne.mpr (by omega)
 have h2 : (l.length != l'.length) = true := bne_iff_ne.mpr hlen
 clear hlen
 go_enter Tryz.func57,Tryz.ntmps57
 go_wp2_with fail
 go_ret
 exact ⟨rfl,Below.refl _ _⟩
def zaW.f (l0 l1 : List S73) : Option Bool := if ze5 l0 = true then some (decide (l0 = l1)) else none
theorem zaW.calls (A0 : Option Addr) (c0 : Nat) (l0 : List (S73)) (A1 : Option Addr) (c1 : Nat) (l1 : List (S73)) (r : Bool) (w : World) (hr0 : Kd.C k73 w A0 l0.length l0) (hc0 : l0.length ≤ c0) (hr1 : Kd.C k73 w A1 l1.length l1) (hc1 : l1.length ≤ c1) (h : zaW.f l0 l1 = some r) :
  Calls Tryz.prog 57 #[.slice A0 l0.length c0,.slice A1 l1.length c1,.func (.func 58) #[] #[]] w fun e w' => e = .returned (.bool r) ∧ Below w.heap.size w w' := by
 unfold zaW.f at h
 split at h
 ·rename_i hs
  obtain rfl := Option.some.inj h
  by_cases hl : l0.length = l1.length
  ·exact zaW.walk A0 c0 l0 A1 c1 l1 w hr0 hr1 hs hl
  ·exact zaW.walk0 A0 c0 l0 A1 c1 l1 w hl
 ·cases h
def zbw.f (a0 : Int) : Option (Int) := some (Go.bits .and .i64 (wrap64 (IntKind.u64.wrap ((IntKind.u64.wrap ((IntKind.u64.wrap ((Go.bits .and .u64 (IntKind.u64.wrap (((IntKind.u64.wrap ((Go.bits .and .u64 ((IntKind.u64.wrap ((Go.bits .and .u64 (a0 / 2) 6148914691236517205) + (Go.bits .and .u64 a0 6148914691236517205))) / 4) 3689348814741910323) + (Go.bits .and .u64 (IntKind.u64.wrap ((Go.bits .and .u64 (a0 / 2) 6148914691236517205) + (Go.bits .and .u64 a0 6148914691236517205))) 3689348814741910323))) / 16) + (IntKind.u64.wrap ((Go.bits .and .u64 ((IntKind.u64.wrap ((Go.bits .and .u64 (a0 / 2) 6148914691236517205) + (Go.bits .and .u64 a0 6148914691236517205))) / 4) 3689348814741910323) + (Go.bits .and .u64 (IntKind.u64.wrap ((Go.bits .and .u64 (a0 / 2) 6148914691236517205) + (Go.bits .and .u64 a0 6148914691236517205))) 3689348814741910323))))) 1085102592571150095) + ((Go.bits .and .u64 (IntKind.u64.wrap (((IntKind.u64.wrap ((Go.bits .and .u64 ((IntKind.u64.wrap ((Go.bits .and .u64 (a0 / 2) 6148914691236517205) + (Go.bits .and .u64 a0 6148914691236517205))) / 4) 3689348814741910323) + (Go.bits .and .u64 (IntKind.u64.wrap ((Go.bits .and .u64 (a0 / 2) 6148914691236517205) + (Go.bits .and .u64 a0 6148914691236517205))) 3689348814741910323))) / 16) + (IntKind.u64.wrap ((Go.bits .and .u64 ((IntKind.u64.wrap ((Go.bits .and .u64 (a0 / 2) 6148914691236517205) + (Go.bits .and .u64 a0 6148914691236517205))) / 4) 3689348814741910323) + (Go.bits .and .u64 (IntKind.u64.wrap ((Go.bits .and .u64 (a0 / 2) 6148914691236517205) + (Go.bits .and .u64 a0 6148914691236517205))) 3689348814741910323))))) 1085102592571150095) / 256))) + ((IntKind.u64.wrap ((Go.bits .and .u64 (IntKind.u64.wrap (((IntKind.u64.wrap ((Go.bits .and .u64 ((IntKind.u64.wrap ((Go.bits .and .u64 (a0 / 2) 6148914691236517205) + (Go.bits .and .u64 a0 6148914691236517205))) / 4) 3689348814741910323) + (Go.bits .and .u64 (IntKind.u64.wrap ((Go.bits .and .u64 (a0 / 2) 6148914691236517205) + (Go.bits .and .u64 a0 6148914691236517205))) 3689348814741910323))) / 16) + (IntKind.u64.wrap ((Go.bits .and .u64 ((IntKind.u64.wrap ((Go.bits .and .u64 (a0 / 2) 6148914691236517205) + (Go.bits .and .u64 a0 6148914691236517205))) / 4) 3689348814741910323) + (Go.bits .and .u64 (IntKind.u64.wrap ((Go.bits .and .u64 (a0 / 2) 6148914691236517205) + (Go.bits .and .u64 a0 6148914691236517205))) 3689348814741910323))))) 1085102592571150095) + ((Go.bits .and .u64 (IntKind.u64.wrap (((IntKind.u64.wrap ((Go.bits .and .u64 ((IntKind.u64.wrap ((Go.bits .and .u64 (a0 / 2) 6148914691236517205) + (Go.bits .and .u64 a0 6148914691236517205))) / 4) 3689348814741910323) + (Go.bits .and .u64 (IntKind.u64.wrap ((Go.bits .and .u64 (a0 / 2) 6148914691236517205) + (Go.bits .and .u64 a0 6148914691236517205))) 3689348814741910323))) / 16) + (IntKind.u64.wrap ((Go.bits .and .u64 ((IntKind.u64.wrap ((Go.bits .and .u64 (a0 / 2) 6148914691236517205) + (Go.bits .and .u64 a0 6148914691236517205))) / 4) 3689348814741910323) + (Go.bits .and .u64 (IntKind.u64.wrap ((Go.bits .and .u64 (a0 / 2) 6148914691236517205) + (Go.bits .and .u64 a0 6148914691236517205))) 3689348814741910323))))) 1085102592571150095) / 256))) / 65536))) + ((IntKind.u64.wrap ((IntKind.u64.wrap ((Go.bits .and .u64 (IntKind.u64.wrap (((IntKind.u64.wrap ((Go.bits .and .u64 ((IntKind.u64.wrap ((Go.bits .and .u64 (a0 / 2) 6148914691236517205) + (Go.bits .and .u64 a0 6148914691236517205))) / 4) 3689348814741910323) + (Go.bits .and .u64 (IntKind.u64.wrap ((Go.bits .and .u64 (a0 / 2) 6148914691236517205) + (Go.bits .and .u64 a0 6148914691236517205))) 3689348814741910323))) / 16) + (IntKind.u64.wrap ((Go.bits .and .u64 ((IntKind.u64.wrap ((Go.bits .and .u64 (a0 / 2) 6148914691236517205) + (Go.bits .and .u64 a0 6148914691236517205))) / 4) 3689348814741910323) + (Go.bits .and .u64 (IntKind.u64.wrap ((Go.bits .and .u64 (a0 / 2) 6148914691236517205) + (Go.bits .and .u64 a0 6148914691236517205))) 3689348814741910323))))) 1085102592571150095) + ((Go.bits .and .u64 (IntKind.u64.wrap (((IntKind.u64.wrap ((Go.bits .and .u64 ((IntKind.u64.wrap ((Go.bits .and .u64 (a0 / 2) 6148914691236517205) + (Go.bits .and .u64 a0 6148914691236517205))) / 4) 3689348814741910323) + (Go.bits .and .u64 (IntKind.u64.wrap ((Go.bits .and .u64 (a0 / 2) 6148914691236517205) + (Go.bits .and .u64 a0 6148914691236517205))) 3689348814741910323))) / 16) + (IntKind.u64.wrap ((Go.bits .and .u64 ((IntKind.u64.wrap ((Go.bits .and .u64 (a0 / 2) 6148914691236517205) + (Go.bits .and .u64 a0 6148914691236517205))) / 4) 3689348814741910323) + (Go.bits .and .u64 (IntKind.u64.wrap ((Go.bits .and .u64 (a0 / 2) 6148914691236517205) + (Go.bits .and .u64 a0 6148914691236517205))) 3689348814741910323))))) 1085102592571150095) / 256))) + ((IntKind.u64.wrap ((Go.bits .and .u64 (IntKind.u64.wrap (((IntKind.u64.wrap ((Go.bits .and .u64 ((IntKind.u64.wrap ((Go.bits .and .u64 (a0 / 2) 6148914691236517205) + (Go.bits .and .u64 a0 6148914691236517205))) / 4) 3689348814741910323) + (Go.bits .and .u64 (IntKind.u64.wrap ((Go.bits .and .u64 (a0 / 2) 6148914691236517205) + (Go.bits .and .u64 a0 6148914691236517205))) 3689348814741910323))) / 16) + (IntKind.u64.wrap ((Go.bits .and .u64 ((IntKind.u64.wrap ((Go.bits .and .u64 (a0 / 2) 6148914691236517205) + (Go.bits .and .u64 a0 6148914691236517205))) / 4) 3689348814741910323) + (Go.bits .and .u64 (IntKind.u64.wrap ((Go.bits .and .u64 (a0 / 2) 6148914691236517205) + (Go.bits .and .u64 a0 6148914691236517205))) 3689348814741910323))))) 1085102592571150095) + ((Go.bits .and .u64 (IntKind.u64.wrap (((IntKind.u64.wrap ((Go.bits .and .u64 ((IntKind.u64.wrap ((Go.bits .and .u64 (a0 / 2) 6148914691236517205) + (Go.bits .and .u64 a0 6148914691236517205))) / 4) 3689348814741910323) + (Go.bits .and .u64 (IntKind.u64.wrap ((Go.bits .and .u64 (a0 / 2) 6148914691236517205) + (Go.bits .and .u64 a0 6148914691236517205))) 3689348814741910323))) / 16) + (IntKind.u64.wrap ((Go.bits .and .u64 ((IntKind.u64.wrap ((Go.bits .and .u64 (a0 / 2) 6148914691236517205) + (Go.bits .and .u64 a0 6148914691236517205))) / 4) 3689348814741910323) + (Go.bits .and .u64 (IntKind.u64.wrap ((Go.bits .and .u64 (a0 / 2) 6148914691236517205) + (Go.bits .and .u64 a0 6148914691236517205))) 3689348814741910323))))) 1085102592571150095) / 256))) / 65536))) / 4294967296)))) 127)
set_option maxHeartbeats 8000000 in
set_option maxRecDepth 100000 in
theorem zbw.calls (a0 : Int) (r : Int) (w : World) (h : zbw.f a0 = some r) :
  Calls Tryz.prog 71 #[.int .u64 a0] w fun e w' => e = .returned (.int .i64 r) ∧ zaB w w' := by
 have H : (some (Go.bits .and .i64 (wrap64 (IntKind.u64.wrap ((IntKind.u64.wrap ((IntKind.u64.wrap ((Go.bits .and .u64 (IntKind.u64.wrap (((IntKind.u64.wrap ((Go.bits .and .u64 ((IntKind.u64.wrap ((Go.bits .and .u64 (a0 / 2) 6148914691236517205) + (Go.bits .and .u64 a0 6148914691236517205))) / 4) 3689348814741910323) + (Go.bits .and .u64 (IntKind.u64.wrap ((Go.bits .and .u64 (a0 / 2) 6148914691236517205) + (Go.bits .and .u64 a0 6148914691236517205))) 3689348814741910323))) / 16) + (IntKind.u64.wrap ((Go.bits .and .u64 ((IntKind.u64.wrap ((Go.bits .and .u64 (a0 / 2) 6148914691236517205) + (Go.bits .and .u64 a0 6148914691236517205))) / 4) 3689348814741910323) + (Go.bits .and .u64 (IntKind.u64.wrap ((Go.bits .and .u64 (a0 / 2) 6148914691236517205) + (Go.bits .and .u64 a0 6148914691236517205))) 3689348814741910323))))) 1085102592571150095) + ((Go.bits .and .u64 (IntKind.u64.wrap (((IntKind.u64.wrap ((Go.bits .and .u64 ((IntKind.u64.wrap ((Go.bits .and .u64 (a0 / 2) 6148914691236517205) + (Go.bits .and .u64 a0 6148914691236517205))) / 4) 3689348814741910323) + (Go.bits .and .u64 (IntKind.u64.wrap ((Go.bits .and .u64 (a0 / 2) 6148914691236517205) + (Go.bits .and .u64 a0 6148914691236517205))) 3689348814741910323))) / 16) + (IntKind.u64.wrap ((Go.bits .and .u64 ((IntKind.u64.wrap ((Go.bits .and .u64 (a0 / 2) 6148914691236517205) + (Go.bits .and .u64 a0 6148914691236517205))) / 4) 3689348814741910323) + (Go.bits .and .u64 (IntKind.u64.wrap ((Go.bits .and .u64 (a0 / 2) 6148914691236517205) + (Go.bits .and .u64 a0 6148914691236517205))) 3689348814741910323))))) 1085102592571150095) / 256))) + ((IntKind.u64.wrap ((Go.bits .and .u64 (IntKind.u64.wrap (((IntKind.u64.wrap ((Go.bits .and .u64 ((IntKind.u64.wrap ((Go.bits .and .u64 (a0 / 2) 6148914691236517205) + (Go.bits .and .u64 a0 6148914691236517205))) / 4) 3689348814741910323) + (Go.bits .and .u64 (IntKind.u64.wrap ((Go.bits .and .u64 (a0 / 2) 6148914691236517205) + (Go.bits .and .u64 a0 6148914691236517205))) 3689348814741910323))) / 16) + (IntKind.u64.wrap ((Go.bits .and .u64 ((IntKind.u64.wrap ((Go.bits .and .u64 (a0 / 2) 6148914691236517205) + (Go.bits .and .u64 a0 6148914691236517205))) / 4) 3689348814741910323) + (Go.bits .and .u64 (IntKind.u64.wrap ((Go.bits .and .u64 (a0 / 2) 6148914691236517205) + (Go.bits .and .u64 a0 6148914691236517205))) 3689348814741910323))))) 1085102592571150095) + ((Go.bits .and .u64 (IntKind.u64.wrap (((IntKind.u64.wrap ((Go.bits .and .u64 ((IntKind.u64.wrap ((Go.bits .and .u64 (a0 / 2) 6148914691236517205) + (Go.bits .and .u64 a0 6148914691236517205))) / 4) 3689348814741910323) + (Go.bits .and .u64 (IntKind.u64.wrap ((Go.bits .and .u64 (a0 / 2) 6148914691236517205) + (Go.bits .and .u64 a0 6148914691236517205))) 3689348814741910323))) / 16) + (IntKind.u64.wrap ((Go.bits .and .u64 ((IntKind.u64.wrap ((Go.bits .and .u64 (a0 / 2) 6148914691236517205) + (Go.bits .and .u64 a0 6148914691236517205))) / 4) 3689348814741910323) + (Go.bits .and .u64 (IntKind.u64.wrap ((Go.bits .and .u64 (a0 / 2) 6148914691236517205) + (Go.bits .and .u64 a0 6148914691236517205))) 3689348814741910323))))) 1085102592571150095) / 256))) / 65536))) + ((IntKind.u64.wrap ((IntKind.u64.wrap ((Go.bits .and .u64 (IntKind.u64.wrap (((IntKind.u64.wrap ((Go.bits .and .u64 ((IntKind.u64.wrap ((Go.bits .and .u64 (a0 / 2) 6148914691236517205) + (Go.bits .and .u64 a0 6148914691236517205))) / 4) 3689348814741910323) + (Go.bits .and .u64 (IntKind.u64.wrap ((Go.bits .and .u64 (a0 / 2) 6148914691236517205) + (Go.bits .and .u64 a0 6148914691236517205))) 3689348814741910323))) / 16) + (IntKind.u64.wrap ((Go.bits .and .u64 ((IntKind.u64.wrap ((Go.bits .and .u64 (a0 / 2) 6148914691236517205) + (Go.bits .and .u64 a0 6148914691236517205))) / 4) 3689348814741910323) + (Go.bits .and .u64 (IntKind.u64.wrap ((Go.bits .and .u64 (a0 / 2) 6148914691236517205) + (Go.bits .and .u64 a0 6148914691236517205))) 3689348814741910323))))) 1085102592571150095) + ((Go.bits .and .u64 (IntKind.u64.wrap (((IntKind.u64.wrap ((Go.bits .and .u64 ((IntKind.u64.wrap ((Go.bits .and .u64 (a0 / 2) 6148914691236517205) + (Go.bits .and .u64 a0 6148914691236517205))) / 4) 3689348814741910323) + (Go.bits .and .u64 (IntKind.u64.wrap ((Go.bits .and .u64 (a0 / 2) 6148914691236517205) + (Go.bits .and .u64 a0 6148914691236517205))) 3689348814741910323))) / 16) + (IntKind.u64.wrap ((Go.bits .and .u64 ((IntKind.u64.wrap ((Go.bits .and .u64 (a0 / 2) 6148914691236517205) + (Go.bits .and .u64 a0 6148914691236517205))) / 4) 3689348814741910323) + (Go.bits .and .u64 (IntKind.u64.wrap ((Go.bits .and .u64 (a0 / 2) 6148914691236517205) + (Go.bits .and .u64 a0 6148914691236517205))) 3689348814741910323))))) 1085102592571150095) / 256))) + ((IntKind.u64.wrap ((Go.bits .and .u64 (IntKind.u64.wrap (((IntKind.u64.wrap ((Go.bits .and .u64 ((IntKind.u64.wrap ((Go.bits .and .u64 (a0 / 2) 6148914691236517205) + (Go.bits .and .u64 a0 6148914691236517205))) / 4) 3689348814741910323) + (Go.bits .and .u64 (IntKind.u64.wrap ((Go.bits .and .u64 (a0 / 2) 6148914691236517205) + (Go.bits .and .u64 a0 6148914691236517205))) 3689348814741910323))) / 16) + (IntKind.u64.wrap ((Go.bits .and .u64 ((IntKind.u64.wrap ((Go.bits .and .u64 (a0 / 2) 6148914691236517205) + (Go.bits .and .u64 a0 6148914691236517205))) / 4) 3689348814741910323) + (Go.bits .and .u64 (IntKind.u64.wrap ((Go.bits .and .u64 (a0 / 2) 6148914691236517205) + (Go.bits .and .u64 a0 6148914691236517205))) 3689348814741910323))))) 1085102592571150095) + ((Go.bits .and .u64 (IntKind.u64.wrap (((IntKind.u64.wrap ((Go.bits .and .u64 ((IntKind.u64.wrap ((Go.bits .and .u64 (a0 / 2) 6148914691236517205) + (Go.bits .and .u64 a0 6148914691236517205))) / 4) 3689348814741910323) + (Go.bits .and .u64 (IntKind.u64.wrap ((Go.bits .and .u64 (a0 / 2) 6148914691236517205) + (Go.bits .and .u64 a0 6148914691236517205))) 3689348814741910323))) / 16) + (IntKind.u64.wrap ((Go.bits .and .u64 ((IntKind.u64.wrap ((Go.bits .and .u64 (a0 / 2) 6148914691236517205) + (Go.bits .and .u64 a0 6148914691236517205))) / 4) 3689348814741910323) + (Go.bits .and .u64 (IntKind.u64.wrap ((Go.bits .and .u64 (a0 / 2) 6148914691236517205) + (Go.bits .and .u64 a0 6148914691236517205))) 3689348814741910323))))) 1085102592571150095) / 256))) / 65536))) / 4294967296)))) 127)) = some r := h
 clear h
 obtain rfl := Option.some.inj H
 go_enter Tryz.func71,Tryz.ntmps71
 go_wp2
 go_ret
 exact ⟨hDq,hEq⟩
def zbF.f (a0 : Int) : Option (Int) := (zbw.f a0).bind fun t155 => (some t155)
set_option maxHeartbeats 8000000 in
set_option maxRecDepth 100000 in
theorem zbF.calls (a0 : Int) (r : Int) (w : World) (h : zbF.f a0 = some r) :
  Calls Tryz.prog 35 #[.int .u64 a0] w fun e w' => e = .returned (.int .i64 r) ∧ zaB w w' := by
 have H : ((zbw.f a0).bind fun t155 => (some t155)) = some r := h
 clear h
 replace H := Option.bind_eq_some_iff.mp H
 obtain ⟨t155,A20,H⟩ := H
 replace H : (some t155) = some r := H
 have A2 := za.mk A20
 clear A20
 obtain rfl := Option.some.inj H
 go_enter Tryz.func35,Tryz.ntmps35
 go_wp2_with (first | ((with_reducible refine zj (f := 71) rfl ?_);refine zQ (some 4) rfl rfl Tryz.func71 (by kernel_rfl) rfl #[.int .u64 a0] rfl hMq ?_;(with_reducible refine (zbw.calls a0 t155 _ A2.out).mono ?_);rintro e w' ⟨rfl,⟨nd,rfl⟩⟩;refine ⟨_,rfl,?_⟩))
 go_ret
 exact ⟨hDq,hEq⟩
def zbz.f (a0 : Int) (a1 : Int) : Option (Bool) := if a1 < 0 then (some false) else (if a1 > 64 then (some false) else (if (shr .u64 (a0 / 2) (mx (wrap64 (a1 - 1)) 0)) = 0 then (if a1 > 0 then (some true) else (some (a0 == 0))) else (some false)))
set_option maxHeartbeats 8000000 in
set_option maxRecDepth 100000 in
theorem zbz.calls (a0 : Int) (a1 : Int) (r : Bool) (w : World) (h : zbz.f a0 a1 = some r) :
  Calls Tryz.prog 34 #[.int .u64 a0,.int .i64 a1] w fun e w' => e = .returned (.bool r) ∧ Below w.heap.size w w' := by
 have HB := za.mk (Below.refl w.heap.size w)
 have H : (if a1 < 0 then (some false) else (if a1 > 64 then (some false) else (if (shr .u64 (a0 / 2) (mx (wrap64 (a1 - 1)) 0)) = 0 then (if a1 > 0 then (some true) else (some (a0 == 0))) else (some false)))) = some r := h
 clear h
 by_cases c3 : a1 < 0
 ·rw [if_pos c3] at H
  have c3b0 : decide (a1 < 0) = true := decide_eq_true c3
  clear c3
  obtain rfl := Option.some.inj H
  go_enter Tryz.func34,Tryz.ntmps34
  go_wp2
  go_ret
  exact ⟨hHq,hBq⟩
 ·rw [if_neg c3] at H
  have c3b0 : decide (a1 < 0) = false := decide_eq_false c3
  clear c3
  by_cases c4 : a1 > 64
  ·rw [if_pos c4] at H
   have c4b0 : decide (64 < a1) = true := decide_eq_true c4
   clear c4
   obtain rfl := Option.some.inj H
   go_enter Tryz.func34,Tryz.ntmps34
   go_wp2
   go_ret
   exact ⟨hHq,hBq⟩
  ·rw [if_neg c4] at H
   have c4b0 : decide (64 < a1) = false := decide_eq_false c4
   clear c4
   obtain ⟨ji5,hji5⟩ : ∃ j_ : Int,(mx (wrap64 (a1 - 1)) 0) = j_ := ⟨_,rfl⟩
   replace H : (if (shr .u64 (a0 / 2) (ji5)) = 0 then (if a1 > 0 then (some true) else (some (a0 == 0))) else (some false)) = some r := by first | (rw [hji5] at H;exact H) | (simp only [hji5] at H ⊢;exact H)
   (try (have hji5l : 0 ≤ ji5 := by (rw [← hji5];unfold mx;(repeat' split) <;> omega)))
   (try (have hji5m : 0 ≤ ji5 := by omega))
   have hji5_ : (if (wrap64 (a1 - 1)) < 0 then 0 else (wrap64 (a1 - 1))) = ji5 := hji5
   obtain ⟨ji6,hji6⟩ : ∃ j_ : Int,(shr .u64 (a0 / 2) (ji5)) = j_ := ⟨_,rfl⟩
   replace H : (if (ji6) = 0 then (if a1 > 0 then (some true) else (some (a0 == 0))) else (some false)) = some r := by first | (rw [hji6] at H;exact H) | (simp only [hji6] at H ⊢;exact H)
   have hji6_ : ((a0 / 2) / 2 ^ min (ji5).toNat 64) = ji6 := hji6
   have hji6z : (ji5) ≤ 64 → ((a0 / 2) / 2 ^ (ji5).toNat) = ji6 := zhA hji6
   by_cases c7 : (ji6) = 0
   ·rw [if_pos c7] at H
    have c7b0 : ((ji6) == 0) = true := beq_iff_eq.mpr c7
    have c7b1 : ((ji6) != 0) = false := bne_eq_false_iff_eq.mpr c7
    clear c7
    by_cases c8 : a1 > 0
    ·rw [if_pos c8] at H
     have c8b0 : decide (0 < a1) = true := decide_eq_true c8
     clear c8
     obtain rfl := Option.some.inj H
     go_enter Tryz.func34,Tryz.ntmps34
     go_wp2
     go_ret
     exact ⟨by first | rfl | (simp [zbm,zbn] <;> rfl) | (simp only [← hji5,← hji6];first | rfl | (simp [zbm,zbn] <;> rfl)) | (simp [*,zbm,zbn] <;> rfl),hBq⟩
    ·rw [if_neg c8] at H
     have c8b0 : decide (0 < a1) = false := decide_eq_false c8
     clear c8
     obtain rfl := Option.some.inj H
     go_enter Tryz.func34,Tryz.ntmps34
     go_wp2
     go_ret
     exact ⟨by first | rfl | (simp [zbm,zbn] <;> rfl) | (simp only [← hji5,← hji6];first | rfl | (simp [zbm,zbn] <;> rfl)) | (simp [*,zbm,zbn] <;> rfl),hBq⟩
   ·rw [if_neg c7] at H
    have c7b0 : ((ji6) == 0) = false := beq_eq_false_iff_ne.mpr c7
    have c7b1 : ((ji6) != 0) = true := bne_iff_ne.mpr c7
    obtain rfl := Option.some.inj H
    go_enter Tryz.func34,Tryz.ntmps34
    go_wp2
    go_ret
    exact ⟨by first | rfl | (simp [zbm,zbn] <;> rfl) | (simp only [← hji5,← hji6];first | rfl | (simp [zbm,zbn] <;> rfl)) | (simp [*,zbm,zbn] <;> rfl),hBq⟩
def zaV.f (a0_0 : Int) (a0_1 : Int) (l0_2 : List (S73)) (l0_3 : List ByteArray) (a0_4 : Int) (a0_5 : Int) (a0_6 : Int) (a1 : Int) : Option (Int) := (zao.f a0_0 a0_1 l0_2 l0_3 a0_4 a0_5 a1).bind fun t157 => (if t157 = true then ((zbz.f a0_6 a1).bind fun t158 => (if t158 = true then ((zbF.f a0_6).bind fun t159 => ((zaT.f a1).bind fun t160 => (if t159 < t160 then (some 2) else (some 0)))) else (some 4))) else (some 1))
set_option maxHeartbeats 8000000 in
set_option maxRecDepth 100000 in
theorem zaV.calls (a0_0 : Int) (a0_1 : Int) (A0_2 : Option Addr) (c0_2 : Nat) (l0_2 : List (S73)) (A0_3 : Option Addr) (c0_3 : Nat) (l0_3 : List ByteArray) (a0_4 : Int) (a0_5 : Int) (a0_6 : Int) (a1 : Int) (r : Int) (w : World) (hr0_2 : Kd.C k73 w A0_2 l0_2.length l0_2) (hc0_2 : l0_2.length ≤ c0_2) (hr0_3 : Kd.C Kd.string w A0_3 l0_3.length l0_3) (hc0_3 : l0_3.length ≤ c0_3) (h : zaV.f a0_0 a0_1 l0_2 l0_3 a0_4 a0_5 a0_6 a1 = some r) :
  Calls Tryz.prog 14 #[.agg #[.int .i64 a0_0,.int .i64 a0_1,.slice A0_2 l0_2.length c0_2,.slice A0_3 l0_3.length c0_3,.int .i64 a0_4,.int .i64 a0_5,.int .u64 a0_6],.int .i64 a1] w fun e w' => e = .returned (.int .i64 r) ∧ Below w.heap.size w w' := by
 have hu30 := Tryz.underlying30
 have hu27 := Tryz.underlying27
 have HR0_2 := za.mk hr0_2
 have HC0_2 := za.mk hc0_2
 clear hr0_2 hc0_2
 have HR0_3 := za.mk hr0_3
 have HC0_3 := za.mk hc0_3
 clear hr0_3 hc0_3
 have HB := za.mk (Below.refl w.heap.size w)
 have H : ((zao.f a0_0 a0_1 l0_2 l0_3 a0_4 a0_5 a1).bind fun t157 => (if t157 = true then ((zbz.f a0_6 a1).bind fun t158 => (if t158 = true then ((zbF.f a0_6).bind fun t159 => ((zaT.f a1).bind fun t160 => (if t159 < t160 then (some 2) else (some 0)))) else (some 4))) else (some 1))) = some r := h
 clear h
 replace H := Option.bind_eq_some_iff.mp H
 obtain ⟨t157,A30,H⟩ := H
 replace H : (if t157 = true then ((zbz.f a0_6 a1).bind fun t158 => (if t158 = true then ((zbF.f a0_6).bind fun t159 => ((zaT.f a1).bind fun t160 => (if t159 < t160 then (some 2) else (some 0)))) else (some 4))) else (some 1)) = some r := H
 have A3 := za.mk A30
 clear A30
 by_cases c4 : t157 = true
 focus
  subst c4
  have H1 : ((zbz.f a0_6 a1).bind fun t158 => (if t158 = true then ((zbF.f a0_6).bind fun t159 => ((zaT.f a1).bind fun t160 => (if t159 < t160 then (some 2) else (some 0)))) else (some 4))) = some r := by rw [if_pos rfl] at H;exact H
  clear H
  have H := H1
  clear H1
  replace H := Option.bind_eq_some_iff.mp H
  obtain ⟨t158,A50,H⟩ := H
  replace H : (if t158 = true then ((zbF.f a0_6).bind fun t159 => ((zaT.f a1).bind fun t160 => (if t159 < t160 then (some 2) else (some 0)))) else (some 4)) = some r := H
  have A5 := za.mk A50
  clear A50
  by_cases c6 : t158 = true
  focus
   subst c6
   have H1 : ((zbF.f a0_6).bind fun t159 => ((zaT.f a1).bind fun t160 => (if t159 < t160 then (some 2) else (some 0)))) = some r := by rw [if_pos rfl] at H;exact H
   clear H
   have H := H1
   clear H1
   replace H := Option.bind_eq_some_iff.mp H
   obtain ⟨t159,A70,H⟩ := H
   replace H : ((zaT.f a1).bind fun t160 => (if t159 < t160 then (some 2) else (some 0))) = some r := H
   have A7 := za.mk A70
   clear A70
   replace H := Option.bind_eq_some_iff.mp H
   obtain ⟨t160,A80,H⟩ := H
   replace H : (if t159 < t160 then (some 2) else (some 0)) = some r := H
   have A8 := za.mk A80
   clear A80
   by_cases c9 : t159 < t160
   focus
    rw [if_pos c9] at H
    have c9b0 : decide (t159 < t160) = true := decide_eq_true c9
    clear c9
    obtain rfl := Option.some.inj H
    have EQ0 := True.intro
    have EQ1 := True.intro
   rotate_left
   focus
    rw [if_neg c9] at H
    have c9b0 : decide (t159 < t160) = false := decide_eq_false c9
    clear c9
    obtain rfl := Option.some.inj H
    have EQ0 := True.intro
    have EQ1 := True.intro
  rotate_left 2
  focus
   replace c6 := Bool.eq_false_iff.mpr c6
   subst c6
   have H1 : (some 4) = some r := by rw [if_neg (show ¬ (false = true) by decide)] at H;exact H
   clear H
   have H := H1
   clear H1
   obtain rfl := Option.some.inj H
   have EQ0 := True.intro
   have EQ2 := True.intro
 rotate_left 3
 focus
  replace c4 := Bool.eq_false_iff.mpr c4
  subst c4
  have H1 : (some 1) = some r := by rw [if_neg (show ¬ (false = true) by decide)] at H;exact H
  clear H
  have H := H1
  clear H1
  obtain rfl := Option.some.inj H
  have EQ3 := True.intro
 all_goals
  go_enter Tryz.func14,Tryz.ntmps14
  go_wp2_with (first | ((with_reducible refine zy (N := 2) rfl ?_);refine zo ?hg (N := 2) ?hd (cs := #[.int .i64 a0_0,.int .i64 a0_1,.slice A0_2 l0_2.length c0_2,.slice A0_3 l0_3.length c0_3,.int .i64 a0_4,.int .i64 a0_5,.int .u64 a0_6]) (t := 30) ?hr ?_;(case hd => rfl);(case hg => rfl);(case hr => first | (go_simp;done) | (go_simp;rfl));intro gb156 hg wQN22 hbox hb;have n_ := haq (zd hBq hb) <| haq (hbox) <| haq ((by rw [hg];exact (ze hBq) : w.heap.size ≤ gb156)) <| haq ((by rw [hg];exact (ze hBq) : w.heap.size ≤ gb156)) <| trivial;clear HB;obtain ⟨HB,BK156,GW156,GE156,_⟩ := n_;clear hb hbox hg;obtain ⟨hczQN26,hczQN27,hczQN28,hczQN29,hczQN210,hczQN211,hczQN212,hfzQN213,hfzQN214,hfzQN215,hfzQN216,hfzQN217,hfzQN218,hfzQN219⟩ := hcq7 BK156.out) | (have _ := EQ0;((with_reducible refine zj (f := 33) rfl ?_);refine zQ (some 9) rfl rfl Tryz.func33 (by kernel_rfl) rfl #[.agg #[.int .i64 a0_0,.int .i64 a0_1,.slice A0_2 l0_2.length c0_2,.slice A0_3 l0_3.length c0_3,.int .i64 a0_4,.int .i64 a0_5],.int .i64 a1] rfl hMq ?_;(with_reducible refine (zao.calls a0_0 a0_1 _ _ l0_2 _ _ l0_3 a0_4 a0_5 a1 true _ ?side1 ?side2 ?side3 ?side4 A3.out).mono ?_);(case side1 => exact hKq (Kd.C_below HR0_2.out HB.out));(case side2 => exact HC0_2.out);(case side3 => exact hKq (Kd.C_below HR0_3.out HB.out));(case side4 => exact HC0_3.out);rintro e wQF33A31 ⟨rfl,hb⟩;refine ⟨_,rfl,?_⟩;have n_ := haq (hbq BK156.out hb) <| haq (zd hCq hb) <| trivial;clear BK156 HB;obtain ⟨BK156,HB,_⟩ := n_;(try clear hb);(try clear hb2);(try clear hk);(try clear hi);obtain ⟨hczQF33A33,hczQF33A34,hczQF33A35,hczQF33A36,hczQF33A37,hczQF33A38,hczQF33A39,hfzQF33A310,hfzQF33A311,hfzQF33A312,hfzQF33A313,hfzQF33A314,hfzQF33A315,hfzQF33A316⟩ := hcq7 BK156.out)) | (have _ := EQ1;((with_reducible refine zj (f := 34) rfl ?_);refine zQ (some 15) rfl rfl Tryz.func34 (by kernel_rfl) rfl #[.int .u64 a0_6,.int .i64 a1] rfl hMq ?_;(with_reducible refine (zbz.calls a0_6 a1 true _ A5.out).mono ?_);rintro e wQF34A51 ⟨rfl,hb⟩;refine ⟨_,rfl,?_⟩;have n_ := haq (hbq BK156.out hb) <| haq (zd hCq hb) <| trivial;clear BK156 HB;obtain ⟨BK156,HB,_⟩ := n_;(try clear hb);(try clear hb2);(try clear hk);(try clear hi);obtain ⟨hczQF34A53,hczQF34A54,hczQF34A55,hczQF34A56,hczQF34A57,hczQF34A58,hczQF34A59,hfzQF34A510,hfzQF34A511,hfzQF34A512,hfzQF34A513,hfzQF34A514,hfzQF34A515,hfzQF34A516⟩ := hcq7 BK156.out)) | (have _ := EQ1;((with_reducible refine zj (f := 35) rfl ?_);refine zQ (some 20) rfl rfl Tryz.func35 (by kernel_rfl) rfl #[.int .u64 a0_6] rfl hMq ?_;(with_reducible refine (zbF.calls a0_6 t159 _ A7.out).mono ?_);rintro e w' ⟨rfl,⟨nd,rfl⟩⟩;refine ⟨_,rfl,?_⟩)) | (have _ := EQ1;((with_reducible refine zj (f := 36) rfl ?_);refine zQ (some 22) rfl rfl Tryz.func36 (by kernel_rfl) rfl #[.int .i64 a1] rfl hMq ?_;(with_reducible refine (zaT.calls a1 t160 _ A8.out).mono ?_);rintro e w' ⟨rfl,⟨nd,rfl⟩⟩;refine ⟨_,rfl,?_⟩)) | (have _ := EQ2;((with_reducible refine zj (f := 34) rfl ?_);refine zQ (some 15) rfl rfl Tryz.func34 (by kernel_rfl) rfl #[.int .u64 a0_6,.int .i64 a1] rfl hMq ?_;(with_reducible refine (zbz.calls a0_6 a1 false _ A5.out).mono ?_);rintro e wQF34A51 ⟨rfl,hb⟩;refine ⟨_,rfl,?_⟩;have n_ := haq (hbq BK156.out hb) <| haq (zd hCq hb) <| trivial;clear BK156 HB;obtain ⟨BK156,HB,_⟩ := n_;(try clear hb);(try clear hb2);(try clear hk);(try clear hi))) | (have _ := EQ3;((with_reducible refine zj (f := 33) rfl ?_);refine zQ (some 9) rfl rfl Tryz.func33 (by kernel_rfl) rfl #[.agg #[.int .i64 a0_0,.int .i64 a0_1,.slice A0_2 l0_2.length c0_2,.slice A0_3 l0_3.length c0_3,.int .i64 a0_4,.int .i64 a0_5],.int .i64 a1] rfl hMq ?_;(with_reducible refine (zao.calls a0_0 a0_1 _ _ l0_2 _ _ l0_3 a0_4 a0_5 a1 false _ ?side1 ?side2 ?side3 ?side4 A3.out).mono ?_);(case side1 => exact hKq (Kd.C_below HR0_2.out HB.out));(case side2 => exact HC0_2.out);(case side3 => exact hKq (Kd.C_below HR0_3.out HB.out));(case side4 => exact HC0_3.out);rintro e wQF33A31 ⟨rfl,hb⟩;refine ⟨_,rfl,?_⟩;have n_ := haq (hbq BK156.out hb) <| haq (zd hCq hb) <| trivial;clear BK156 HB;obtain ⟨BK156,HB,_⟩ := n_;(try clear hb);(try clear hb2);(try clear hk);(try clear hi))))
  go_ret
  exact ⟨hHq,hCq⟩
end Go.Proofs.YtfhbeonhnhjikaaGreat.Px