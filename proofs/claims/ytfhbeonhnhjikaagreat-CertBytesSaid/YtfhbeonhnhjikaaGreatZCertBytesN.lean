/- Part 14 of 35 of the proof of the law CertBytes: what is proved is the statement at the end of the last part; its conditions are those of the given row. -/
import Derived.Test.YtfhbeonhnhjikaaGreatZCertBytesM
namespace Go.Proofs.YtfhbeonhnhjikaaGreat.Px
open Go.RowKit Go.Proofs.YtfhbeonhnhjikaaGreatW.PrintWords Go.Proofs.YtfhbeonhnhjikaaGreatW.PrintLast Go.Proofs.YtfhbeonhnhjikaaGreatW.PrintMore
attribute [local go_sem] zz zB zI zJ zp zq zA zC
set_option linter.unusedVariables false
set_option linter.unusedSimpArgs false
def zR.j0 : Nat → Int → ByteArray → Bool → Option (ByteArray × ByteArray × Int)
 | 0,_,_,_ => none
 | k + 1,x7,x8,x26 => if x26 = true then (some ((⟨#[]⟩ : ByteArray),(⟨#[]⟩ : ByteArray),4)) else (if x7 > (IntKind.u64.wrap ((x8.size : Int))) then (some ((⟨#[]⟩ : ByteArray),(⟨#[]⟩ : ByteArray),2)) else (if 0 ≤ x7 then (if x7 ≤ (x8.size : Int) then (some (x8.extract 0 (x7 : Int).toNat,x8.extract (x7 : Int).toNat x8.size,0)) else (none)) else (none)))
def zR.f (k : Nat) (a0 : ByteArray) (a1 : Int) : Option (ByteArray × ByteArray × Int) := (zi.f k a0).bind fun bt307 => (if bt307.2.2 = 0 then (if a1 < 0 then (zR.j0 k bt307.1 bt307.2.1 true) else (zR.j0 k bt307.1 bt307.2.1 (decide (bt307.1 > (IntKind.u64.wrap (a1)))))) else (some ((⟨#[]⟩ : ByteArray),(⟨#[]⟩ : ByteArray),bt307.2.2)))
set_option maxHeartbeats 8000000 in
set_option maxRecDepth 100000 in
theorem zR.calls (k : Nat) (a0 : ByteArray) (a1 : Int) (r1 : ByteArray) (r2 : ByteArray) (r3 : Int) (w : World) (h : zR.f k a0 a1 = some (r1,r2,r3)) :
  Calls Tryz.prog 25 #[.string a0,.int .i64 a1] w fun e w' => e = .returned (.tuple #[.string r1,.string r2,.int .i64 r3]) ∧ zaB w w' := by
 have H : ((zi.f k a0).bind fun bt307 => (if bt307.2.2 = 0 then (if a1 < 0 then (zR.j0 k bt307.1 bt307.2.1 true) else (zR.j0 k bt307.1 bt307.2.1 (decide (bt307.1 > (IntKind.u64.wrap (a1)))))) else (some ((⟨#[]⟩ : ByteArray),(⟨#[]⟩ : ByteArray),bt307.2.2)))) = some (r1,r2,r3) := h
 clear h
 replace H := Option.bind_eq_some_iff.mp H
 obtain ⟨⟨t307,t308,t309⟩,A30,H⟩ := H
 replace H : (if t309 = 0 then (if a1 < 0 then (zR.j0 k t307 t308 true) else (zR.j0 k t307 t308 (decide (t307 > (IntKind.u64.wrap (a1)))))) else (some ((⟨#[]⟩ : ByteArray),(⟨#[]⟩ : ByteArray),t309))) = some (r1,r2,r3) := H
 have A3 := za.mk A30
 clear A30
 by_cases c4 : t309 = 0
 ·rw [if_pos c4] at H
  have c4b0 : (t309 == 0) = true := beq_iff_eq.mpr c4
  have c4b1 : (t309 != 0) = false := bne_eq_false_iff_eq.mpr c4
  clear c4
  have HC5 := za.mk H
  clear H
  go_enter Tryz.func25,Tryz.ntmps25
  go_upto_region 4 with (first | (go_at_call 26;(with_reducible refine (zi.calls k a0 t307 t308 t309 _ A3.out).mono ?_);rintro e w' ⟨rfl,⟨nd,rfl⟩⟩;(try first | exact ⟨rfl,_,World.drewN_drewN _ _ _⟩ | exact ⟨rfl,_,Eq.trans (World.drewN_drewN _ _ _) (congrArg (World.drewN _) (Nat.add_assoc _ _ _))⟩)))
  repeat (go_quiet (first | (go_at_call 26;(with_reducible refine (zi.calls k a0 t307 t308 t309 _ A3.out).mono ?_);rintro e w' ⟨rfl,⟨nd,rfl⟩⟩;(try first | exact ⟨rfl,_,World.drewN_drewN _ _ _⟩ | exact ⟨rfl,_,Eq.trans (World.drewN_drewN _ _ _) (congrArg (World.drewN _) (Nat.add_assoc _ _ _))⟩)));go_upto_region 4 with (first | (go_at_call 26;(with_reducible refine (zi.calls k a0 t307 t308 t309 _ A3.out).mono ?_);rintro e w' ⟨rfl,⟨nd,rfl⟩⟩;(try first | exact ⟨rfl,_,World.drewN_drewN _ _ _⟩ | exact ⟨rfl,_,Eq.trans (World.drewN_drewN _ _ _) (congrArg (World.drewN _) (Nat.add_assoc _ _ _))⟩))))
  (try simp only [Act.put,List.setIfInBounds_toArray,List.set_cons_zero,List.set_cons_succ])
  go_cut [26] (fun v26 wc => ∃ (kq : Nat) (x26_4 : Bool),v26 = .bool x26_4 ∧ za (zR.j0 kq t307 t308 x26_4 = some (r1,r2,r3)) ∧ za (kq ≤ k) ∧ zaB w wc)
  case first =>
   have H := HC5.out
   clear HC5
   by_cases c6 : a1 < 0
   ·rw [if_pos c6] at H
    have c6b0 : decide (a1 < 0) = true := decide_eq_true c6
    clear c6
    (first | rw [c6b0] | (simp only [zK,zL];rw [c6b0]) | skip)
    have H' := za.mk H
    clear H
    go_wp2
    repeat (go_quiet (fail);try go_wp2)
    go_meet
    case rel => exact ⟨_,(true),(hDq),H',⟨by first | omega | exact Nat.le_refl _⟩,hEq⟩
   ·rw [if_neg c6] at H
    have c6b0 : decide (a1 < 0) = false := decide_eq_false c6
    clear c6
    (first | rw [c6b0] | (simp only [zK,zL];rw [c6b0]) | skip)
    have H' := za.mk H
    clear H
    go_wp2
    repeat (go_quiet (fail);try go_wp2)
    go_meet
    case rel => exact ⟨_,(decide (t307 > (IntKind.u64.wrap (a1)))),(hDq),H',⟨by first | omega | exact Nat.le_refl _⟩,hEq⟩
  case rest =>
   clear HC5
   try clear c2;try clear p2;try clear c4;try clear c4b0;try clear c4b1;try clear c6;try clear c6b0
   obtain ⟨kq,x26_4,rfl,HA,HJ4,⟨mc4,rfl⟩⟩ := hcut
   cases kq with
   | zero => exact absurd HA.out (by simp [zR.j0])
   | succ kj4 =>
    have H := HA.out
    clear HA
    simp only [zR.j0] at H
    by_cases c7 : x26_4 = true
    ·subst c7
     have H1 : (some ((⟨#[]⟩ : ByteArray),(⟨#[]⟩ : ByteArray),4)) = some (r1,r2,r3) := by rw [if_pos rfl] at H;exact H
     clear H
     have H := H1
     clear H1
     simp only [Option.some.injEq,Prod.mk.injEq] at H
     obtain ⟨rfl,rfl,rfl⟩ := H
     go_wp2
     repeat (go_quiet (fail);try go_wp2)
     go_ret3
     exact ⟨hDq,hEq⟩
    ·replace c7 := Bool.eq_false_iff.mpr c7
     subst c7
     have H1 : (if t307 > (IntKind.u64.wrap ((t308.size : Int))) then (some ((⟨#[]⟩ : ByteArray),(⟨#[]⟩ : ByteArray),2)) else (if 0 ≤ t307 then (if t307 ≤ (t308.size : Int) then (some (t308.extract 0 (t307 : Int).toNat,t308.extract (t307 : Int).toNat t308.size,0)) else (none)) else (none))) = some (r1,r2,r3) := by rw [if_neg (show ¬ (false = true) by decide)] at H;exact H
     clear H
     have H := H1
     clear H1
     by_cases c8 : t307 > (IntKind.u64.wrap ((t308.size : Int)))
     ·rw [if_pos c8] at H
      have c8b0 : decide ((IntKind.u64.wrap ((t308.size : Int))) < t307) = true := decide_eq_true c8
      clear c8
      simp only [Option.some.injEq,Prod.mk.injEq] at H
      obtain ⟨rfl,rfl,rfl⟩ := H
      go_wp2
      repeat (go_quiet (fail);try go_wp2)
      go_ret3
      exact ⟨hDq,hEq⟩
     ·rw [if_neg c8] at H
      have c8b0 : decide ((IntKind.u64.wrap ((t308.size : Int))) < t307) = false := decide_eq_false c8
      clear c8
      by_cases c9 : 0 ≤ t307
      ·rw [if_pos c9] at H
       have c9b0 := eq_true c9
       have c9b1 : decide (0 ≤ t307) = true := decide_eq_true c9
       clear c9
       by_cases c10 : t307 ≤ (t308.size : Int)
       ·rw [if_pos c10] at H
        have c10b0 := eq_true c10
        have c10b1 : decide (t307 ≤ (t308.size : Int)) = true := decide_eq_true c10
        clear c10
        have c11b0 := eq_true (hFq : 0 ≤ t307)
        have c12b0 := eq_true (hFq : t307 ≤ (t308.size : Int))
        simp only [Option.some.injEq,Prod.mk.injEq] at H
        obtain ⟨rfl,rfl,rfl⟩ := H
        go_wp2
        repeat (go_quiet (fail);try go_wp2)
        go_ret3
        exact ⟨hDq,hEq⟩
       ·rw [if_neg c10] at H
        exact absurd H (by simp)
      ·rw [if_neg c9] at H
       exact absurd H (by simp)
 ·rw [if_neg c4] at H
  have c4b0 : (t309 == 0) = false := beq_eq_false_iff_ne.mpr c4
  have c4b1 : (t309 != 0) = true := bne_iff_ne.mpr c4
  simp only [Option.some.injEq,Prod.mk.injEq] at H
  obtain ⟨rfl,rfl,rfl⟩ := H
  go_enter Tryz.func25,Tryz.ntmps25
  go_wp2_with (first | (go_at_call 26;(with_reducible refine (zi.calls k a0 t307 t308 t309 _ A3.out).mono ?_);rintro e w' ⟨rfl,⟨nd,rfl⟩⟩;(try first | exact ⟨rfl,_,World.drewN_drewN _ _ _⟩ | exact ⟨rfl,_,Eq.trans (World.drewN_drewN _ _ _) (congrArg (World.drewN _) (Nat.add_assoc _ _ _))⟩)))
  repeat (go_quiet (first | (go_at_call 26;(with_reducible refine (zi.calls k a0 t307 t308 t309 _ A3.out).mono ?_);rintro e w' ⟨rfl,⟨nd,rfl⟩⟩;(try first | exact ⟨rfl,_,World.drewN_drewN _ _ _⟩ | exact ⟨rfl,_,Eq.trans (World.drewN_drewN _ _ _) (congrArg (World.drewN _) (Nat.add_assoc _ _ _))⟩)));try go_wp2_with (first | (go_at_call 26;(with_reducible refine (zi.calls k a0 t307 t308 t309 _ A3.out).mono ?_);rintro e w' ⟨rfl,⟨nd,rfl⟩⟩;(try first | exact ⟨rfl,_,World.drewN_drewN _ _ _⟩ | exact ⟨rfl,_,Eq.trans (World.drewN_drewN _ _ _) (congrArg (World.drewN _) (Nat.add_assoc _ _ _))⟩))))
  go_ret3
  exact ⟨hDq,hEq⟩
def zbj (v : Nat) (r : Bs) (most : Int) : Bs × Bs × Int :=
 if most < 0 ∨ most < (v : Int) then ([],[],4) else if r.length < v then ([],[],2) else (r.take v,r.drop v,0)
def zcE (q : Nat × Bs × Int) (most : Int) : Bs × Bs × Int := if q.2.2 = 0 then zbj q.1 q.2.1 most else ([],[],q.2.2)
def zaH (s : Bs) (most : Int) : Bs × Bs × Int := zcE (zl s) most
def zaG (s : ByteArray) (most : Int) : ByteArray × ByteArray × Int := (toB (zaH (ofB s) most).1,toB (zaH (ofB s) most).2.1,(zaH (ofB s) most).2.2)
theorem za8 (s : Bs) : (zl s).2.1.length ≤ s.length := by
 rcases s with _ | ⟨c,t⟩
 ·simp [zl]
 ·simp only [zl]
  (repeat' split) <;> simp <;> omega
theorem zaZ (s : Bs) : (zl s).1 < 18446744073709551616 := by
 rcases h : zl s with ⟨v,r,e⟩
 rcases zib h with he | ⟨hv,_⟩
 ·subst he;exact (zbG h).2
 ·show v < _;omega
theorem zfJ (l : Bs) (i j : Nat) : (toB l).extract i j = toB ((l.drop i).take (j - i)) := zgj (by rw [zfM,zav,zav])
theorem zfg (v : Nat) (r : Bs) (h : ¬ r.length < v) : ((toB r).extract 0 v,(toB r).extract v (toB r).size) = (toB (r.take v),toB (r.drop v)) := by
 rw [zfJ,zfJ,zP,List.drop_zero,Nat.sub_zero,List.take_of_length_le (l := r.drop v) (by rw [List.length_drop];omega)]
theorem zfU (s : ByteArray) (most : Int) (hs : s.size < 4611686018427387904) (hw : (Lit.int .i64 most).wf = true) : Ev (fun k => zah.f k s most) (zaG s most) := by
 obtain ⟨m0,m1⟩ := zhR hw
 have hv := zaZ (ofB s)
 have hl := za8 (ofB s)
 rw [zae] at hl
 refine Ev.bind (zc0 s hs) ?_
 rcases hq : zl (ofB s) with ⟨v,r,e⟩
 rw [hq] at hv hl
 simp only [zbL,zaG,zaH,hq]
 simp only at hv hl
 by_cases he : e = 0
 ·subst he
  refine zn rfl ?_
  have hj : ∀ b : Bool,(b = true ↔ (most < 0 ∨ most < (v : Int))) → Ev (fun k => zah.j0 k (v : Int) (toB r) b) (toB (zbj v r most).1,toB (zbj v r most).2.1,(zbj v r most).2.2) := by
   intro b hb
   refine Ev.step (fun k => by rw [zah.j0]) ?_
   by_cases h4 : most < 0 ∨ most < (v : Int)
   ·rw [zbj,if_pos h4]
    exact zn (hb.2 h4) (Ev.now _)
   ·rw [zbj,if_neg h4]
    refine zF (fun h => h4 (hb.1 h)) ?_
    rw [zP,zaA (by omega) (by omega)]
    by_cases h2 : r.length < v
    ·rw [if_pos h2]
     exact zn (by omega) (Ev.now _)
    ·rw [if_neg h2]
     refine zF (by omega) (zn (by omega) (zn (by omega) ?_))
     rw [Int.toNat_natCast]
     have hx := zfg v r h2
     rw [zP] at hx
     injection hx with hx1 hx2
     rw [hx1,hx2]
     exact Ev.now _
  by_cases hm : most < 0
  ·exact zn hm (hj true (by simp [hm]))
  ·refine zF hm ?_
   rw [zaA (by omega) (by omega)]
   exact hj _ (by simp;omega)
 ·refine zF he ?_
  rw [zcE,if_neg he]
  exact Ev.now _
theorem zes (s : ByteArray) (most : Int) (hs : s.size < 4611686018427387904) (hw : (Lit.int .i64 most).wf = true) : Ev (fun k => zR.f k s most) (zaG s most) := by
 obtain ⟨m0,m1⟩ := zhR hw
 have hv := zaZ (ofB s)
 have hl := za8 (ofB s)
 rw [zae] at hl
 refine Ev.bind (zby s hs) ?_
 rcases hq : zl (ofB s) with ⟨v,r,e⟩
 rw [hq] at hv hl
 simp only [zbL,zaG,zaH,hq]
 simp only at hv hl
 by_cases he : e = 0
 ·subst he
  refine zn rfl ?_
  have hj : ∀ b : Bool,(b = true ↔ (most < 0 ∨ most < (v : Int))) → Ev (fun k => zR.j0 k (v : Int) (toB r) b) (toB (zbj v r most).1,toB (zbj v r most).2.1,(zbj v r most).2.2) := by
   intro b hb
   refine Ev.step (fun k => by rw [zR.j0]) ?_
   by_cases h4 : most < 0 ∨ most < (v : Int)
   ·rw [zbj,if_pos h4]
    exact zn (hb.2 h4) (Ev.now _)
   ·rw [zbj,if_neg h4]
    refine zF (fun h => h4 (hb.1 h)) ?_
    rw [zP,zaA (by omega) (by omega)]
    by_cases h2 : r.length < v
    ·rw [if_pos h2]
     exact zn (by omega) (Ev.now _)
    ·rw [if_neg h2]
     refine zF (by omega) (zn (by omega) (zn (by omega) ?_))
     rw [Int.toNat_natCast]
     have hx := zfg v r h2
     rw [zP] at hx
     injection hx with hx1 hx2
     rw [hx1,hx2]
     exact Ev.now _
  by_cases hm : most < 0
  ·exact zn hm (hj true (by simp [hm]))
  ·refine zF hm ?_
   rw [zaA (by omega) (by omega)]
   exact hj _ (by simp;omega)
 ·refine zF he ?_
  rw [zcE,if_neg he]
  exact Ev.now _
def zaS (most : Int) : Nat → Bs → List ByteArray → List ByteArray × Bs × Int
 | 0,s,acc => (acc,s,0)
 | n + 1,s,acc => if (zaH s most).2.2 = 0 then zaS most n (zaH s most).2.1 (acc ++ [toB (zaH s most).1]) else ([],[],(zaH s most).2.2)
def zbT (q : Nat × Bs × Int) (many most : Int) : List ByteArray × Bs × Int :=
 if q.2.2 = 0 then (if many < 0 ∨ many < (q.1 : Int) then ([],[],4) else zaS most q.1 q.2.1 []) else ([],[],q.2.2)
def zag (s : Bs) (many most : Int) : List ByteArray × Bs × Int := zbT (zl s) many most
theorem zdf {s : Bs} {most : Int} (h : (zaH s most).2.2 = 0) : (zaH s most).2.1.length < s.length := by
 unfold zaH zcE at h ⊢
 split at h
 ·rename_i h0
  rw [if_pos h0]
  unfold zbj at h ⊢
  split at h
  ·cases h
  ·rename_i h1
   rw [if_neg h1]
   split at h
   ·cases h
   ·rename_i h2
    rw [if_neg h2]
    rcases hq : zl s with ⟨v,r,e⟩
    rw [hq] at h0
    simp only at h0
    subst h0
    obtain ⟨rfl,_⟩ := zbG hq
    simp only [List.length_drop,List.length_append,zbD,List.length_cons]
    omega
 ·rename_i h0
  exact absurd h h0
theorem zV.take1k (s : ByteArray) (most : Int) (hs : s.size < 4611686018427387904) (hw : (Lit.int .i64 most).wf = true) : ∃ k,zah.f k s most = some ((zaG s most).1,(zaG s most).2.1,(zaG s most).2.2) := (zfU s most hs hw).rounds
set_option maxRecDepth 100000 in
theorem zV.take1 (s : ByteArray) (most : Int) (b : Nat) (w : World) (hs : s.size < 4611686018427387904) (hw : (Lit.int .i64 most).wf = true) (hc : w.cell? ⟨b,0,none⟩ = some (.int .i64 most)) :
  Calls Tryz.prog 82 #[.string s,.pointer (some ⟨b,0,none⟩)] w fun e w' => e = .returned (.tuple #[.string (zaG s most).1,.string (zaG s most).2.1,.int .i64 (zaG s most).2.2]) ∧ zaB w w' := by
 obtain ⟨k,hk⟩ := zV.take1k s most hs hw
 have HK := za.mk hk
 clear hk hs hw
 generalize zaG s most = q at *
 go_enter Tryz.func82,Tryz.ntmps82
 go_wp2_with (go_at_call 22;(with_reducible refine (zah.calls _ _ _ _ _ _ _ HK.out).mono ?_);rintro e w1 ⟨rfl,hd⟩)
 go_ret3
 exact ⟨rfl,by assumption⟩
theorem zV.info : (Tryz.prog.info? 9).map (fun i => (i.zero,i.size,i.bytes)) = some (some (.string ⟨#[]⟩),1,16) := by kernel_rfl
def zV.Rel (most : Int) (w0 : World) (fin : List ByteArray × Bs × Int) (n j : Nat) (s : ByteArray) (v : Value) (wr : World) : Prop :=
 ∃ acc : List ByteArray,zaS most (n - j) (ofB s) acc = fin ∧ acc.length ≤ j ∧ (n ≤ 8796093022207 ∨ acc.length + s.size ≤ 8796093022207) ∧ s.size < 4611686018427387904 ∧ Kd.R Kd.string 9 wr w0.heap.size (fun _ => True) v acc ∧ Below w0.heap.size w0 wr
theorem zV.Rel.step {most : Int} {w0 wr : World} {fin : List ByteArray × Bs × Int} {n j : Nat} {s : ByteArray} {v : Value} (h : zV.Rel most w0 fin n j s v wr) (hj : j < n) (h0 : (zaG s most).2.2 = 0) :
  ∃ acc : List ByteArray,(acc.length + 1) * 16 ≤ 140737488355328 ∧ Kd.R Kd.string 9 wr w0.heap.size (fun _ => True) v acc ∧ Below w0.heap.size w0 wr ∧
   ∀ v' w',Kd.R Kd.string 9 w' w0.heap.size (fun _ => True) v' (acc ++ [(zaG s most).1]) → Below w0.heap.size w0 w' → zV.Rel most w0 fin n (j + 1) (zaG s most).2.1 v' w' := by
 obtain ⟨acc,h1,h2,h3,h4,h5,h6⟩ := h
 have hsh := zdf (s := ofB s) (most := most) h0
 rw [zae] at hsh
 have e : n - j = (n - (j + 1)) + 1 := by omega
 have h0' : (zaH (ofB s) most).2.2 = 0 := h0
 rw [e,zaS,if_pos h0'] at h1
 have hsz : (zaG s most).2.1.size = (zaH (ofB s) most).2.1.length := by rw [zaG,zP]
 refine ⟨acc,by omega,h5,h6,fun v' w' k1 k2 => ⟨_,?_,by rw [List.length_append,List.length_singleton];omega,?_,by omega,k1,k2⟩⟩
 ·rw [show ofB (zaG s most).2.1 = (zaH (ofB s) most).2.1 by rw [zaG,zav]]
  exact h1
 ·rw [List.length_append,List.length_singleton];omega
theorem zV.Rel.fail {most : Int} {w0 wr : World} {fin : List ByteArray × Bs × Int} {n j : Nat} {s : ByteArray} {v : Value} (h : zV.Rel most w0 fin n j s v wr) (hj : j < n) (h0 : ¬ (zaG s most).2.2 = 0) : fin = ([],[],(zaG s most).2.2) := by
 obtain ⟨acc,h1,_⟩ := h
 have e : n - j = (n - (j + 1)) + 1 := by omega
 have h0' : ¬ (zaH (ofB s) most).2.2 = 0 := h0
 rw [e,zaS,if_neg h0'] at h1
 exact h1.symm
set_option maxRecDepth 100000 in
set_option maxHeartbeats 4000000 in
theorem zV.several (s : ByteArray) (n : Nat) (most : Int) (b : Nat) (w : World) (hn : n < 18446744073709551616) (hs : s.size < 4611686018427387904) (hw : (Lit.int .i64 most).wf = true) (hc : w.cell? ⟨b,0,none⟩ = some (.int .i64 most)) (hroom : s.size ≤ 8796093022207 ∨ n ≤ 8796093022207) (fin : List ByteArray × Bs × Int) (hfin : zaS most n (ofB s) [] = fin) :
  Calls Tryz.prog 81 #[.string s,.int .u64 n,.func (.func 82) #[] #[.pointer (some ⟨b,0,none⟩)]] w fun e w' => ∃ v0_ : Value,e = .returned (.tuple #[v0_,.string (toB fin.2.1),.int .i64 fin.2.2]) ∧ Kd.R Kd.string 9 w' w.heap.size (fun _ => True) v0_ fin.1 ∧ Below w.heap.size w w' := by
 have HF : za (zV.Rel most w fin n 0 s (.slice none 0 0) w) := ⟨⟨[],by rw [Nat.sub_zero];exact hfin,Nat.le_refl _,by simp only [List.length_nil];omega,hs,Kd.R_nil _ _ _ _ _,Below.refl _ _⟩⟩
 have HW := za.mk hw
 have HC := za.mk hc
 clear hfin hroom hs hw hc
 go_enter Tryz.func81,Tryz.ntmps81
 go_wp2_with fail
 go_loopw [0,9,10,11,12,14] (fun v0 v9 _ _ _ v14 wr => ∃ (j : Nat) (s' : ByteArray),v0 = .string s' ∧ v14 = .int .u64 j ∧ j ≤ n ∧ za (zV.Rel most w fin n j s' v9 wr)) (fun _ _ _ _ _ v14 _ => n - (match v14 with | .int _ q => q | _ => 0).toNat)
 case atStart => exact ⟨0,s,rfl,rfl,Nat.zero_le _,HF⟩
 case round =>
  obtain ⟨j,s',rfl,rfl,hj,HR⟩ := hrel
  by_cases hlt : j < n
  ·have hb : decide (j < n) = true := decide_eq_true hlt
   have HT := za.mk (zV.take1 s' most b)
   obtain ⟨hs',hbel⟩ : s'.size < 4611686018427387904 ∧ Below w.heap.size w wr := by
    obtain ⟨_,_,_,_,h4,_,h6⟩ := HR.out
    exact ⟨h4,h6⟩
   have HCW := za.mk (zc4 hbel HC.out)
   have HS := za.mk hs'
   clear hs' hbel
   by_cases h0 : (zaG s' most).2.2 = 0
   ·obtain ⟨acc,a1,a2,a3,a4⟩ := HR.out.step hlt h0
    have HL := za.mk a1
    have HO := za.mk a2
    have HB := za.mk a3
    have HN := za.mk a4
    clear a1 a2 a3 a4
    have HZ := za.mk h0
    clear h0
    generalize zaG s' most = q at *
    obtain ⟨q1,q2,q3⟩ := q
    have hq3 := HZ.out
    simp only at hq3
    subst hq3
    simp only at HN HT
    clear HZ
    go_wp2_with (first | (go_at_call 82;(with_reducible refine (HT.out _ HS.out HW.out HCW.out).mono ?_);rintro e w1 ⟨rfl,⟨nd,rfl⟩⟩) | (at_builtin;refine Kd.R_append Kd.string (w0 := w) w.heap.size rfl (.tmp 26) (.tmp 28) 23 9 (.string ⟨#[]⟩) 16 rfl Tryz.underlying23 zV.info rfl (by decide) (by omega) _ acc q1 [.string q1] (fun _ => True) (fun _ => False) rfl rfl ?aP (fun _ hk => hk.elim) ?aF ?aO ?aB ?aS ?aL ?_;(case aP => exact rfl);(case aF => exact (fun _ _ => trivial));(case aO => exact (Kd.R_drewN HO.out _));(case aB => exact (zf HB.out _));(case aS => exact (ze (zf HB.out _)));(case aL => exact HL.out);intro v3 w3 ho hb hg hat;have HX := za.mk (HN.out _ _ ho hb);clear ho hb hg hat))
    go_roundw
    case rel => exact ⟨j + 1,q2,rfl,by go_num,by omega,HX⟩
    case measure => simp;omega
   ·have hf := HR.out.fail hlt h0
    have HB : za (Below w.heap.size w wr) := ⟨by obtain ⟨_,_,_,_,_,_,h6⟩ := HR.out;exact h6⟩
    have hz : ((zaG s' most).2.2 == 0) = false := beq_eq_false_iff_ne.2 h0
    have hz2 : ((zaG s' most).2.2 != 0) = true := by rw [bne,hz];rfl
    clear h0
    have HF2 := za.mk hf
    clear hf HF
    generalize zaG s' most = q at *
    obtain ⟨q1,q2,q3⟩ := q
    simp only at hz hz2 HF2 HT
    go_wp2_with (go_at_call 82;(with_reducible refine (HT.out _ HS.out HW.out HCW.out).mono ?_);rintro e w1 ⟨rfl,⟨nd,rfl⟩⟩)
    go_ret3
    rw [HF2.out]
    exact ⟨_,rfl,Kd.R_nil _ _ _ _ _,zf HB.out _⟩
  ·obtain rfl : j = n := by omega
   obtain ⟨acc,h1,_,_,_,h5,h6⟩ := HR.out
   rw [Nat.sub_self,zaS] at h1
   have H1 := za.mk h1
   have H5 := za.mk h5
   have H6 := za.mk h6
   clear h1 h5 h6 hlt HF HR
   go_wp2_with fail
   go_ret3
   rw [← H1.out]
   exact ⟨_,by simp only [zcz];rfl,H5.out,H6.out⟩
def zV.f (a0 : ByteArray) (a1 : Int) (a2 : Int) : Option (List ByteArray × ByteArray × Int) :=
 if (Lit.int .i64 a1).wf = true ∧ (Lit.int .i64 a2).wf = true ∧ a0.size < 4611686018427387904 ∧ (a0.size ≤ 8796093022207 ∨ a1 ≤ 8796093022207) then some ((zag (ofB a0) a1 a2).1,toB (zag (ofB a0) a1 a2).2.1,(zag (ofB a0) a1 a2).2.2) else none
set_option maxHeartbeats 4000000 in
set_option maxRecDepth 100000 in
theorem zV.walk (a0 : ByteArray) (a1 : Int) (a2 : Int) (w : World) (h1 : (Lit.int .i64 a1).wf = true) (h2 : (Lit.int .i64 a2).wf = true) (hs : a0.size < 4611686018427387904) (hroom : a0.size ≤ 8796093022207 ∨ a1 ≤ 8796093022207) (fin : List ByteArray × Bs × Int) (hfin : zag (ofB a0) a1 a2 = fin) :
  Calls Tryz.prog 50 #[.string a0,.int .i64 a1,.int .i64 a2] w fun e w' => ∃ v0_ : Value,e = .returned (.tuple #[v0_,.string (toB fin.2.1),.int .i64 fin.2.2]) ∧ Kd.R Kd.string 9 w' w.heap.size (fun _ => True) v0_ fin.1 ∧ Below w.heap.size w w' := by
 obtain ⟨m0,m1⟩ := zhR h1
 obtain ⟨k,hk⟩ := (zc0 a0 hs).rounds
 have hv := zaZ (ofB a0)
 have hl := za8 (ofB a0)
 rw [zae] at hl
 rcases hq : zl (ofB a0) with ⟨v,r,e⟩
 rw [zag,hq] at hfin
 rw [hq] at hv hl
 simp only [zbL,hq] at hk
 simp only at hv hl
 have HK := za.mk hk
 have H2 := za.mk h2
 have HF := za.mk hfin
 have HR := za.mk hroom
 have HL := za.mk hl
 clear hk h1 h2 hfin hroom hl hq
 by_cases he : e = 0
 ·subst he
  by_cases h4 : a1 < 0 ∨ a1 < (v : Int)
  ·have hf := HF.out
   rw [zbT,if_pos rfl,if_pos h4] at hf
   have HF2 := za.mk hf
   clear hf HF
   by_cases hneg : a1 < 0
   ·have hb : decide (a1 < 0) = true := decide_eq_true hneg
    clear h4
    go_enter Tryz.func50,Tryz.ntmps50
    go_wp2_with (go_at_call 23;(with_reducible refine (zD.calls _ _ _ _ _ _ HK.out).mono ?_);rintro e w1 ⟨rfl,⟨nd,rfl⟩⟩)
    go_ret3
    rw [← HF2.out]
    exact ⟨_,rfl,Kd.R_nil _ _ _ _ _,zf ((Below.refl _ _).alloc (Nat.le_refl _) _) _⟩
   ·have hb : decide (a1 < 0) = false := decide_eq_false hneg
    have hpos : 0 ≤ a1 := by omega
    have hlt : a1 < (v : Int) := by omega
    have hb2 : decide (a1 < (v : Int)) = true := decide_eq_true hlt
    clear h4 hneg
    go_enter Tryz.func50,Tryz.ntmps50
    go_wp2_with (go_at_call 23;(with_reducible refine (zD.calls _ _ _ _ _ _ HK.out).mono ?_);rintro e w1 ⟨rfl,⟨nd,rfl⟩⟩)
    go_ret3
    rw [← HF2.out]
    exact ⟨_,rfl,Kd.R_nil _ _ _ _ _,zf ((Below.refl _ _).alloc (Nat.le_refl _) _) _⟩
  ·have hf := HF.out
   rw [zbT,if_pos rfl,if_neg h4] at hf
   have HF2 := za.mk hf
   clear hf HF
   have hpos : 0 ≤ a1 := by omega
   have hge : (v : Int) ≤ a1 := by omega
   have hb : decide (a1 < 0) = false := decide_eq_false (by omega)
   have hb2 : decide (a1 < (v : Int)) = false := decide_eq_false (by omega)
   have HV := za.mk hv
   have HS := za.mk hs
   have HG := za.mk hge
   clear h4 hge hv hs
   go_enter Tryz.func50,Tryz.ntmps50
   go_wp2_with (first | (go_at_call 23;(with_reducible refine (zD.calls _ _ _ _ _ _ HK.out).mono ?_);rintro e w1 ⟨rfl,⟨nd,rfl⟩⟩) | (go_at_call 81;refine (zV.several (toB r) v a2 w.heap.size _ HV.out (by rw [zP];have := HL.out;have := HS.out;omega) H2.out (by simp [World.cell?_alloc_new]) (by rw [zP];have := HL.out;have := HR.out;have := HG.out;omega) fin (by rw [zav];exact HF2.out)).mono ?_;rintro e w2 ⟨v0,rfl,hR,hB⟩))
   go_ret3
   have hW : Below w.heap.size w ((w.alloc (.cells #[.int .i64 a2] 3)).drewN nd) := zf ((Below.refl _ _).alloc (Nat.le_refl _) _) _
   exact ⟨_,rfl,Kd.R_lower hR hW.size,zd hW hB⟩
 ·have hf := HF.out
  rw [zbT,if_neg he] at hf
  have HF2 := za.mk hf
  have hz : (e == 0) = false := beq_eq_false_iff_ne.2 he
  have hz2 : (e != 0) = true := by rw [bne,hz];rfl
  clear hf HF he
  go_enter Tryz.func50,Tryz.ntmps50
  go_wp2_with (go_at_call 23;(with_reducible refine (zD.calls _ _ _ _ _ _ HK.out).mono ?_);rintro e w1 ⟨rfl,⟨nd,rfl⟩⟩)
  go_ret3
  rw [← HF2.out]
  exact ⟨_,rfl,Kd.R_nil _ _ _ _ _,zf ((Below.refl _ _).alloc (Nat.le_refl _) _) _⟩
theorem zV.calls (a0 : ByteArray) (a1 : Int) (a2 : Int) (r1 : List ByteArray) (r2 : ByteArray) (r3 : Int) (w : World) (h : zV.f a0 a1 a2 = some (r1,r2,r3)) :
  Calls Tryz.prog 50 #[.string a0,.int .i64 a1,.int .i64 a2] w fun e w' => ∃ v0_ : Value,e = .returned (.tuple #[v0_,.string r2,.int .i64 r3]) ∧ Kd.R Kd.string 9 w' w.heap.size (fun _ => True) v0_ r1 ∧ Below w.heap.size w w' := by
 unfold zV.f at h
 split at h
 ·rename_i hc
  obtain ⟨h1,h2,h3,h4⟩ := hc
  simp only [Option.some.injEq,Prod.mk.injEq] at h
  obtain ⟨rfl,rfl,rfl⟩ := h
  exact zV.walk a0 a1 a2 w h1 h2 h3 h4 _ rfl
 ·cases h
end Go.Proofs.YtfhbeonhnhjikaaGreat.Px