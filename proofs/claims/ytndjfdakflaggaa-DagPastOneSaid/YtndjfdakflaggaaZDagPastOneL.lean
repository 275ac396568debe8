/- Part 12 of 15 of the proof of the law DagPastOne: what is proved is the statement at the end of the last part; its conditions are those of the given row. -/
import Derived.Test.YtndjfdakflaggaaZDagPastOneK
namespace Go.Proofs.Ytndjfdakflaggaa.Px
open Go.RowKit Go.Proofs.YtndjfdakflaggaaW.PrintWords Go.Proofs.YtndjfdakflaggaaW.PrintLast Go.Proofs.YtndjfdakflaggaaW.PrintMore
attribute [local go_sem] zC zE zI zJ zu zv zD zF
set_option linter.unusedVariables false
set_option linter.unusedSimpArgs false
def zA.T9 : Bool × List (List Nat × List Nat) := (true,[([],[]),([],[]),([0,1],[0,1]),([2],[2]),([3],[3]),([],[]),([],[]),([5,6],[5,6]),([7],[7]),([8],[8]),([4,9],[4,9]),([10,10,0,1,2,3,4,5,6,7,8,9,10],[10])])
def zA.B9 : List Nat := [0,0,3,7,15,0,0,96,224,480,1023,2047]
theorem zA.tab9 : zb3 .any (zdC Try.f9 9) = zA.T9 := by kernel_rfl
theorem zA.bits9 : zbD zA.T9.2 zA.B9 = true := by kernel_rfl
def zA.T10 : Bool × List (List Nat × List Nat) := (true,[([],[]),([],[]),([0,1],[0,1]),([2],[2]),([3],[3]),([],[]),([],[]),([5,6],[5,6]),([7],[7]),([8],[8]),([4,9],[4,9]),([10],[10]),([11],[11]),([12,11],[11,12]),([11,13],[11,13])])
def zA.B10 : List Nat := [0,0,3,7,15,0,0,96,224,480,1023,2047,4095,8191,16383]
theorem zA.tab10 : zb3 .any (zdC Try.f9 10) = zA.T10 := by kernel_rfl
theorem zA.bits10 : zbD zA.T10.2 zA.B10 = true := by kernel_rfl
def zdE (x y : Ent) : Bool := !decide (x.f0 = y.f0) || zcT x.f1.f0 x.f1.f1 x.f1.f2 x.f1.f3 x.f1.f4.f0 x.f1.f4.f1 y.f1.f0 y.f1.f1 y.f1.f2 y.f1.f3 y.f1.f4.f0 y.f1.f4.f1
def zc4 (M : List Ent) : Bool := (List.range M.length).all fun i => (List.range i).all fun k => zdE (M.getD i z34) (M.getD k z34)
def fitU (x : Ent) : Bool := decide (x.f1.f2.length < 4611686018427387904) && x.f1.f2.all (fun b => decide (b.f2.length < 4611686018427387904)) && decide (x.f1.f3.length ≤ 8796093022208)
theorem fitU_is {x : Ent} (h : fitU x = true) : x.f1.f2.length < 4611686018427387904 ∧ (∀ b ∈ x.f1.f2,b.f2.length < 4611686018427387904) ∧ x.f1.f3.length ≤ 8796093022208 := by
 unfold fitU at h
 rw [Bool.and_eq_true,Bool.and_eq_true,List.all_eq_true] at h
 exact ⟨of_decide_eq_true h.1.1,fun b hb => of_decide_eq_true (h.1.2 b hb),of_decide_eq_true h.2⟩
theorem zhL {M : List Ent} (h : ∀ i,i < M.length → ∀ k,k < i → zdE (M.getD i z34) (M.getD k z34) = true) : zc4 M = true := by
 unfold zc4
 rw [List.all_eq_true]
 intro i hi
 rw [List.all_eq_true]
 intro k hk
 exact h i (List.mem_range.1 hi) k (List.mem_range.1 hk)
theorem zgT {M : List Ent} {i k : Nat} (hi : i < M.length) (hk : k < i) (h : zdE (M.getD i z34) (M.getD k z34) = false) : zc4 M = false := by
 rw [← Bool.not_eq_true]
 intro hc
 unfold zc4 at hc
 rw [List.all_eq_true] at hc
 have h1 := hc i (List.mem_range.2 hi)
 rw [List.all_eq_true] at h1
 have h2 := h1 k (List.mem_range.2 hk)
 rw [h] at h2
 cases h2
theorem ent_now {W5 : World} {ok : Nat → Prop} {ad : Addr} {L : List Ent} (h : Kd.F k34 W5 ok (some ad) L.length L) (i : Nat) (hi : i < L.length) : ∃ A3 c3 A4 c4,∀ w',Below W5.heap.size W5 w' → w'.cell? (ad.add (i * 7)) = some (.string (L.getD i z34).f0) ∧ w'.cell? ⟨(ad.add (i * 7)).block,(ad.add (i * 7)).off + 1,none⟩ = some (.int .i64 (L.getD i z34).f1.f0) ∧ w'.cell? ⟨(ad.add (i * 7)).block,(ad.add (i * 7)).off + 2,none⟩ = some (.int .i64 (L.getD i z34).f1.f1) ∧ w'.cell? ⟨(ad.add (i * 7)).block,(ad.add (i * 7)).off + 3,none⟩ = some (.slice A3 (L.getD i z34).f1.f2.length c3) ∧
   w'.cell? ⟨(ad.add (i * 7)).block,(ad.add (i * 7)).off + 4,none⟩ = some (.slice A4 (L.getD i z34).f1.f3.length c4) ∧ w'.cell? ⟨(ad.add (i * 7)).block,(ad.add (i * 7)).off + 5,none⟩ = some (.int .i64 (L.getD i z34).f1.f4.f0) ∧ w'.cell? ⟨(ad.add (i * 7)).block,(ad.add (i * 7)).off + 6,none⟩ = some (.int .i64 (L.getD i z34).f1.f4.f1) ∧ (L.getD i z34).f1.f2.length ≤ c3 ∧ Kd.C k78 w' A3 (L.getD i z34).f1.f2.length (L.getD i z34).f1.f2 ∧ (L.getD i z34).f1.f3.length ≤ c4 ∧ Kd.C Kd.string w' A4 (L.getD i z34).f1.f3.length (L.getD i z34).f1.f3 := by
 have hx : L[i]? = some (L.getD i z34) := by rw [List.getD_eq_getElem?_getD,List.getElem?_eq_getElem hi];rfl
 obtain ⟨ad',A3,c3,A4,c4,e,h0,h1,h2,h3,h4,h5,h6,l3,f3,l4,f4⟩ := ent_F2 h i hi _ hx
 injection e with e
 subst e
 exact ⟨A3,c3,A4,c4,fun w' hb => ⟨(hb.cell (World.block_lt_of_cell? _ _ h0)).trans h0,(hb.cell (World.block_lt_of_cell? _ _ h1)).trans h1,(hb.cell (World.block_lt_of_cell? _ _ h2)).trans h2,(hb.cell (World.block_lt_of_cell? _ _ h3)).trans h3,(hb.cell (World.block_lt_of_cell? _ _ h4)).trans h4,(hb.cell (World.block_lt_of_cell? _ _ h5)).trans h5,(hb.cell (World.block_lt_of_cell? _ _ h6)).trans h6,l3,Kd.F_now (Kd.F_below f3 hb),l4,Kd.F_now (Kd.F_below f4 hb)⟩⟩
set_option maxHeartbeats 16000000 in
set_option maxRecDepth 100000 in
theorem zA.walk (n lo : Int) (A0 : Option Addr) (c0 : Nat) (A : List S34) (n' lo' : Int) (B0 : Option Addr) (d0 : Nat) (B : List S34) (w : World) (hr0 : Kd.C k34 w A0 A.length A) (hc0 : A.length ≤ c0) (hr1 : Kd.C k34 w B0 B.length B) (hc1 : B.length ≤ d0)
  (hA : A.length ≤ 60) (hB : B.length ≤ 60) (hf : ∀ x ∈ A ++ B,fitU x = true) :
  Calls Try.prog 9 #[.agg #[.int .i64 n,.int .i64 lo,.slice A0 A.length c0],.agg #[.int .i64 n',.int .i64 lo',.slice B0 B.length d0]] w fun e w' => e = .returned (.bool (zc4 (A ++ B))) ∧ Below w.heap.size w w' := by
 have HA := za.mk (Kd.C_F zbS hr0)
 have HB := za.mk (Kd.C_F zbS hr1)
 have HLA := za.mk hA
 have HLB := za.mk hB
 have HFT := za.mk hf
 have HC0 := za.mk hc0
 have HC1 := za.mk hc1
 have Hw := za.mk (Below.refl w.heap.size w)
 clear hr0 hr1 hA hB hf hc0 hc1
 go_enter Try.func9,Try.ntmps9
 go_wp2_with (first
  | ((with_reducible refine zq (N := 2) rfl ?_);refine zn rfl (N := 2) rfl (cs := #[.int .i64 n,.int .i64 lo,.slice A0 A.length c0]) (t := 24) hrq ?_;intro g2 hg w2 hbox hb;have Gw_g2 := za.mk (adg Hw.out hg);replace Hw := za.mk (adl Hw.out hb);have Bg2 := za.mk hbox;clear hbox hb hg;obtain ⟨zg2_0,zg2_1,zg2_2,fg2_0,fg2_1,fg2_2⟩ := hcq3 Bg2.out)
  | ((with_reducible refine zq (N := 3) rfl ?_);refine zn rfl (N := 3) rfl (cs := #[.int .i64 n',.int .i64 lo',.slice B0 B.length d0]) (t := 24) hrq ?_;intro g3 hg w3 hbox hb;have Gw_g3 := za.mk (adg Hw.out hg);have Ng2_g3 := za.mk (adn hg Bg2.out);clear zg2_0 zg2_1 zg2_2 fg2_0 fg2_1 fg2_2;replace Bg2 := za.mk (adb Bg2.out hb);replace Hw := za.mk (adl Hw.out hb);have Bg3 := za.mk hbox;have HSZ := za.mk (zh Hw.out);clear hbox hb hg;obtain ⟨zg2_0,zg2_1,zg2_2,fg2_0,fg2_1,fg2_2⟩ := hcq3 Bg2.out)
  | ((with_reducible refine zq (N := 9) rfl ?_);refine Kd.R_lit k34 (w0 := w3) w3.heap.size 34 ?hg (N := 9) ?hd (xs := ([] : List S34)) (inner := []) (ok := (fun k_ => k_ < w.heap.size ∨ w3.heap.size ≤ k_)) (okp := fun _ => False) ?hr ?hp (fun _ hk => hk.elim) (.inr (Nat.le_refl _)) (Below.refl _ _) (Nat.le_refl _) (by simp) ?_;(case hg => rfl);(case hd => rfl);(case hr => first | (go_simp;done) | (go_simp;rfl));(case hp => exact (zaC.none _ _));intro v7 w7 ho hb hg hnew;clear zg2_0 zg2_1 zg2_2 fg2_0 fg2_1 fg2_2;have HN7 := za.mk (Kd.R_N ho);have T7 := za.mk hb;clear ho hb hg hnew;have B27 := za.mk (zr Bg2.out T7.out);obtain ⟨zg2_0,zg2_1,zg2_2⟩ := hcq3n B27.out)
  | ((with_reducible refine zbz (b := .append) (xs := #[.tmp 9,.tmp 11]) rfl ?_);at_builtin;refine Kd.N_append_rows k34 (w0 := w3) w3.heap.size rfl (.tmp 9) (.tmp 11) 22 34 (.agg #[.string ⟨#[]⟩,.int .i64 0,.int .i64 0,.slice none 0 0,.slice none 0 0,.int .i64 0,.int .i64 0]) 96 rfl Try.underlying22 zdQ rfl (by decide) (by omega) v7 ([] : List S34) A A0 A.length c0 (fun k_ => k_ < w.heap.size ∨ w3.heap.size ≤ k_) (fun k_ => k_ < w.heap.size) rfl rfl HN7.out (Kd.F_below HA.out (Hw.out.trans (T7.out.mono HSZ.out))) (fun k_ hk => ⟨.inl hk,fun e_ => by have := Kd.N_base HN7.out k_ e_.symm;have := HSZ.out;omega⟩) (fun k_ hk => .inr (Nat.le_trans (zh T7.out) hk)) T7.out (zh T7.out) (by have := HLA.out;have := HLB.out;simp only [List.length_nil];omega) ?_;intro v8 w8 ho hb hg hat;have HN8 := za.mk ho;have T8 := za.mk hb;clear ho hb hg hat;clear zg2_0 zg2_1 zg2_2;have B38 := za.mk (zr Bg3.out T8.out);obtain ⟨zg3_0,zg3_1,zg3_2⟩ := hcq3n B38.out)
  | ((with_reducible refine zbz (b := .append) (xs := #[.tmp 13,.tmp 15]) rfl ?_);at_builtin;refine Kd.N_append_rows k34 (w0 := w3) w3.heap.size rfl (.tmp 13) (.tmp 15) 22 34 (.agg #[.string ⟨#[]⟩,.int .i64 0,.int .i64 0,.slice none 0 0,.slice none 0 0,.int .i64 0,.int .i64 0]) 96 rfl Try.underlying22 zdQ rfl (by decide) (by omega) v8 ([] ++ A) B B0 B.length d0 (fun k_ => k_ < w.heap.size ∨ w3.heap.size ≤ k_) (fun k_ => k_ < w.heap.size) rfl rfl HN8.out (Kd.F_below HB.out (Hw.out.trans (T8.out.mono HSZ.out))) (fun k_ hk => ⟨.inl hk,fun e_ => by have := Kd.N_base HN8.out k_ e_.symm;have := HSZ.out;omega⟩) (fun k_ hk => .inr (Nat.le_trans (zh T8.out) hk)) T8.out (zh T8.out) (by have := HLA.out;have := HLB.out;simp only [List.nil_append];omega) ?_;intro v9 w9 ho hb hg hat;have HN9 := za.mk ho;have T9 := za.mk hb;clear ho hb hg hat;clear zg3_0 zg3_1 zg3_2))
 obtain ⟨A9,c9,hv9⟩ := Kd.N_slice HN9.out
 subst hv9
 have HF9 := za.mk (Kd.N_F HN9.out)
 have HB9 := za.mk (Hw.out.trans (T9.out.mono HSZ.out))
 clear HN9 HN8 HN7 T9 T8 T7
 have hMe : [] ++ A ++ B = A ++ B := by rw [List.nil_append]
 rw [hMe] at HF9
 have hMl : ([] ++ A ++ B).length = (A ++ B).length := by rw [hMe]
 rw [hMl]
 have HML : za ((A ++ B).length ≤ 120) := ⟨by rw [List.length_append];have := HLA.out;have := HLB.out;omega⟩
 clear hMe hMl
 generalize hM : A ++ B = M at *
 have HMM := za.mk hM
 clear hM
 go_loopw [6] (fun v6 wr => ∃ i : Nat,v6 = .int .i64 i ∧ i ≤ M.length ∧ za (∀ j,j < i → ∀ k,k < j → zdE (M.getD j z34) (M.getD k z34) = true) ∧ za (Below w9.heap.size w9 wr)) (fun v6 _ => M.length - (intOf v6).toNat)
 case atStart => exact ⟨0,rfl,Nat.zero_le _,⟨fun j hj => absurd hj (Nat.not_lt_zero _)⟩,⟨Below.refl _ _⟩⟩
 case round =>
  obtain ⟨i,rfl,hi,HPI,HBI⟩ := hrel
  by_cases hlt : i < M.length
  ·have hb : decide (i < M.length) = true := decide_eq_true hlt
   have HLT := za.mk hlt
   go_wp2_with fail
   go_loopw [7] (fun v7 wr => ∃ k : Nat,v7 = .int .i64 k ∧ k ≤ i ∧ za (∀ j,j < k → zdE (M.getD i z34) (M.getD j z34) = true) ∧ za (Below w9.heap.size w9 wr)) (fun v7 _ => i - (intOf v7).toNat)
   case atStart => exact ⟨0,rfl,Nat.zero_le _,⟨fun j hj => absurd hj (Nat.not_lt_zero _)⟩,HBI⟩
   case round =>
    clear HBI
    obtain ⟨k,rfl,hk,HPK,HBR⟩ := hrel
    by_cases hki : k < i
    ·have HKI := za.mk hki
     have hb2 : decide (k < i) = true := decide_eq_true hki
     rcases A9 with _ | ad
     ·exact absurd HF9.out (fun h_ => by have h1_ := Kd.F_get h_ z34 (i : Int) (by omega) (by omega);obtain ⟨_,_,e_,_⟩ := h1_;cases e_)
     obtain ⟨A3,c3,A4,c4,hX⟩ := ent_now HF9.out i HLT.out
     obtain ⟨D3,d3,D4,d4,hY⟩ := ent_now HF9.out k (by have := HLT.out;omega)
     have hgm : M.getD i z34 ∈ M := by
      rw [show M.getD i z34 = M[i] from by rw [List.getD_eq_getElem?_getD,List.getElem?_eq_getElem HLT.out];rfl]
      exact List.getElem_mem HLT.out
     obtain ⟨f1,f2,f3⟩ := fitU_is (HFT.out _ hgm)
     clear hgm
     obtain ⟨kq,hkq⟩ := (zdJ (M.getD i z34).f1.f0 (M.getD i z34).f1.f1 (M.getD i z34).f1.f2 (M.getD i z34).f1.f3 (M.getD i z34).f1.f4.f0 (M.getD i z34).f1.f4.f1 (M.getD k z34).f1.f0 (M.getD k z34).f1.f1 (M.getD k z34).f1.f2 (M.getD k z34).f1.f3 (M.getD k z34).f1.f4.f0 (M.getD k z34).f1.f4.f1 f1 f2 (by omega)).rounds
     obtain ⟨u,hu⟩ : ∃ u,zcT (M.getD i z34).f1.f0 (M.getD i z34).f1.f1 (M.getD i z34).f1.f2 (M.getD i z34).f1.f3 (M.getD i z34).f1.f4.f0 (M.getD i z34).f1.f4.f1 (M.getD k z34).f1.f0 (M.getD k z34).f1.f1 (M.getD k z34).f1.f2 (M.getD k z34).f1.f3 (M.getD k z34).f1.f4.f0 (M.getD k z34).f1.f4.f1 = u := ⟨_,rfl⟩
     rw [hu] at hkq
     have hi0 : ((i : Int) < (M.length : Int)) = True := eq_true (by have := HLT.out;omega)
     have hk0 : ((k : Int) < (M.length : Int)) = True := eq_true (by have := HLT.out;omega)
     have hi1 : ((0 : Int) ≤ (i : Int)) = True := eq_true (by omega)
     have hk1 : ((0 : Int) ≤ (k : Int)) = True := eq_true (by omega)
     generalize hgi : M.getD i z34 = p at *
     generalize hgk : M.getD k z34 = q at *
     have HGI := za.mk hgi
     have HGK := za.mk hgk
     obtain ⟨p0,⟨p1,p2,p3,p4,⟨p5,p6⟩⟩⟩ := p
     obtain ⟨q0,⟨q1,q2,q3,q4,⟨q5,q6⟩⟩⟩ := q
     dsimp only at hX hY hkq hu
     have HX := za.mk hX
     have HY := za.mk hY
     have HU := za.mk hkq
     have HUE := za.mk hu
     clear hX hY hkq hu hgi hgk f1 f2 f3 hlt hki
     go_wp2_with fail
     refine zbx (n := 12) (S := fun w' => Below w9.heap.size w9 w') (ds := []) (zZ 12 0) (by kernel_rfl) rfl rfl (HBR.out.drew) (fun hHeld => ?_);refine zaG zA.tab9 zA.bits9 (fun HT_ HW_ => ?_)
     refine puq (i := 0) (N := some 28) HT_.out (zZ 12 1) ?_
     refine puq (i := 1) (N := some 29) HT_.out (zZ 12 2) ?_
     refine puq (i := 2) (N := some 30) HT_.out (zZ 12 3) ?_
     refine puq (i := 3) (N := some 31) HT_.out (zZ 12 4) ?_
     refine take_ (i := 4) (N := some 32) (v := ?_) (a' := ?_) (zZ 12 5) rfl rfl (zU HT_.out HW_.out (by kernel_rfl)) (fun _ _ _ h => h) (Or.inl ⟨by rfl,?_⟩) hHeld ?_ ?_
     rotate_left
     ·intro w' hM
      obtain ⟨x_0,x_1,x_2,x_3,x_4,x_5,x_6,_⟩ := HX.out w' hM
      go_simp
      with_reducible rfl
     rotate_left
     ·simp only [Act.put,List.setIfInBounds_toArray,List.set_cons_zero,List.set_cons_succ,zah,zaj]
      rfl
     refine puq (i := 5) (N := some 33) HT_.out (zZ 12 6) ?_
     refine puq (i := 6) (N := some 34) HT_.out (zZ 12 7) ?_
     refine puq (i := 7) (N := some 35) HT_.out (zZ 12 8) ?_
     refine puq (i := 8) (N := some 36) HT_.out (zZ 12 9) ?_
     refine take_ (i := 9) (N := some 37) (v := ?_) (a' := ?_) (zZ 12 10) rfl rfl (zU HT_.out HW_.out (by kernel_rfl)) (fun _ _ _ h => h) (Or.inl ⟨by rfl,?_⟩) hHeld ?_ ?_
     rotate_left
     ·intro w' hM
      obtain ⟨y_0,y_1,y_2,y_3,y_4,y_5,y_6,_⟩ := HY.out w' hM
      go_simp
      with_reducible rfl
     rotate_left
     ·simp only [Act.put,List.setIfInBounds_toArray,List.set_cons_zero,List.set_cons_succ,zah,zaj]
      rfl
     refine zcl (i := 10) (N := some 38) (zZ 12 11) rfl rfl (zaY HT_.out (by kernel_rfl)) (by decide) (fun K hK => ?_)
     refine zbs Try.func25 (by kernel_rfl) rfl #[.agg #[.int .i64 p1,.int .i64 p2,.slice A3 p3.length c3,.slice A4 p4.length c4,.int .i64 p5,.int .i64 p6],.agg #[.int .i64 q1,.int .i64 q2,.slice D3 q3.length d3,.slice D4 q4.length d4,.int .i64 q5,.int .i64 q6]] (by rfl) rfl rfl (by (try simp only [List.map_toArray,List.map_cons,List.map_nil]);first | done | rfl) ?_
     refine (zaR.calls kq p1 p2 _ _ p3 _ _ p4 p5 p6 q1 q2 _ _ q3 _ _ q4 q5 q6 u _ (HX.out _ hHeld).2.2.2.2.2.2.2.2.1 (HX.out _ hHeld).2.2.2.2.2.2.2.1 (HX.out _ hHeld).2.2.2.2.2.2.2.2.2.2 (HX.out _ hHeld).2.2.2.2.2.2.2.2.2.1 (HY.out _ hHeld).2.2.2.2.2.2.2.2.1 (HY.out _ hHeld).2.2.2.2.2.2.2.1 (HY.out _ hHeld).2.2.2.2.2.2.2.2.2.2 (HY.out _ hHeld).2.2.2.2.2.2.2.2.2.1 HU.out).mono ?_
     rintro e x1 ⟨rfl,hb⟩
     refine ⟨_,rfl,?_⟩
     refine hK.out _ _ (zf hHeld hb) (fun hHeld => ?_)
     clear hK K hb
     refine zbu (a' := ?_) ?_ ?_
     rotate_left
     ·show Act.put _ (some 38) _ = _
      simp only [Act.put,List.setIfInBounds_toArray,List.set_cons_zero,List.set_cons_succ,zah,zaj]
      rfl
     refine puq (i := 11) (N := some 8) HT_.out (zZ 12 12) ?_
     refine zbG (zaM HT_.out (by kernel_rfl)) ?_
     clear HBR
     have HBR := za.mk hHeld
     clear hHeld HT_ HW_
     by_cases hd : p0 = q0
     ·have d1 : (p0.toList == q0.toList) = true := by rw [zb1];exact decide_eq_true hd
      have HDD := za.mk hd
      clear hd
      go_wp2_with fail
      refine zbx (n := 15) (S := fun w' => Below w9.heap.size w9 w') (ds := []) (zZ 15 0) (by kernel_rfl) rfl rfl (HBR.out.drew) (fun hHeld => ?_);refine zaG zA.tab10 zA.bits10 (fun HT_ HW_ => ?_)
      refine puq (i := 0) (N := some 39) HT_.out (zZ 15 1) ?_
      refine puq (i := 1) (N := some 40) HT_.out (zZ 15 2) ?_
      refine puq (i := 2) (N := some 41) HT_.out (zZ 15 3) ?_
      refine puq (i := 3) (N := some 42) HT_.out (zZ 15 4) ?_
      refine take_ (i := 4) (N := some 43) (v := ?_) (a' := ?_) (zZ 15 5) rfl rfl (zU HT_.out HW_.out (by kernel_rfl)) (fun _ _ _ h => h) (Or.inl ⟨by rfl,?_⟩) hHeld ?_ ?_
      rotate_left
      ·intro w' hM
       obtain ⟨x_0,x_1,x_2,x_3,x_4,x_5,x_6,_⟩ := HX.out w' hM
       go_simp
       with_reducible rfl
      rotate_left
      ·simp only [Act.put,List.setIfInBounds_toArray,List.set_cons_zero,List.set_cons_succ,zah,zaj]
       rfl
      refine puq (i := 5) (N := some 44) HT_.out (zZ 15 6) ?_
      refine puq (i := 6) (N := some 45) HT_.out (zZ 15 7) ?_
      refine puq (i := 7) (N := some 46) HT_.out (zZ 15 8) ?_
      refine puq (i := 8) (N := some 47) HT_.out (zZ 15 9) ?_
      refine take_ (i := 9) (N := some 48) (v := ?_) (a' := ?_) (zZ 15 10) rfl rfl (zU HT_.out HW_.out (by kernel_rfl)) (fun _ _ _ h => h) (Or.inl ⟨by rfl,?_⟩) hHeld ?_ ?_
      rotate_left
      ·intro w' hM
       obtain ⟨y_0,y_1,y_2,y_3,y_4,y_5,y_6,_⟩ := HY.out w' hM
       go_simp
       with_reducible rfl
      rotate_left
      ·simp only [Act.put,List.setIfInBounds_toArray,List.set_cons_zero,List.set_cons_succ,zah,zaj]
       rfl
      refine puq (i := 10) (N := some 49) HT_.out (zZ 15 11) ?_
      refine puq (i := 11) (N := some 50) HT_.out (zZ 15 12) ?_
      refine puq (i := 12) (N := some 51) HT_.out (zZ 15 13) ?_
      refine puq (i := 13) (N := some 52) HT_.out (zZ 15 14) ?_
      refine puq (i := 14) (N := some 53) HT_.out (zZ 15 15) ?_
      refine zbG (zaM HT_.out (by kernel_rfl)) ?_
      clear HBR
      have HBR := za.mk hHeld
      clear hHeld HT_ HW_
      rcases u with _ | _
      ·go_wp2_with fail
       go_ret
       refine ⟨?_,HB9.out.trans (HBR.out.mono (zh HB9.out))⟩
       have hq_ : zdE (M.getD i z34) (M.getD k z34) = false := by
        rw [HGI.out,HGK.out]
        unfold zdE
        dsimp only
        rw [HUE.out,decide_eq_true HDD.out]
        rfl
       rw [HMM.out,zgT HLT.out HKI.out hq_]
       rfl
      ·have HPAIR : za (zdE ⟨p0,⟨p1,p2,p3,p4,⟨p5,p6⟩⟩⟩ ⟨q0,⟨q1,q2,q3,q4,⟨q5,q6⟩⟩⟩ = true) := ⟨by unfold zdE;dsimp only;rw [HUE.out,Bool.or_true]⟩
       go_wp2_with fail
       have hK_ : k + 1 ≤ i ∧ i < 120 := ⟨HKI.out,by have := HML.out;have := HLT.out;omega⟩
       obtain ⟨hK1_,hK2_⟩ := hK_
       have hW_ : wrap64 ((k : Int) + 1) = ((k + 1 : Nat) : Int) := by rw [zab (by omega) (by omega)];simp
       go_roundw
       case rel => exact ⟨k + 1,by (try simp only [hW_]),hK1_,⟨fun j hj => by rcases Nat.lt_succ_iff_lt_or_eq.1 hj with h_ | h_;exact HPK.out j h_;rw [h_,HGK.out];exact HPAIR.out⟩,HBR⟩
       case measure => rw [hW_];simp [intOf];omega
     ·have d1 : (p0.toList == q0.toList) = false := by rw [zb1];exact decide_eq_false hd
      have HPAIR : za (zdE ⟨p0,⟨p1,p2,p3,p4,⟨p5,p6⟩⟩⟩ ⟨q0,⟨q1,q2,q3,q4,⟨q5,q6⟩⟩⟩ = true) := ⟨by unfold zdE;dsimp only;rw [decide_eq_false hd];rfl⟩
      clear hd
      go_wp2_with fail
      refine zbx (n := 15) (S := fun w' => Below w9.heap.size w9 w') (ds := []) (zZ 15 0) (by kernel_rfl) rfl rfl (HBR.out.drew) (fun hHeld => ?_);refine zaG zA.tab10 zA.bits10 (fun HT_ HW_ => ?_)
      refine puq (i := 0) (N := some 39) HT_.out (zZ 15 1) ?_
      refine puq (i := 1) (N := some 40) HT_.out (zZ 15 2) ?_
      refine puq (i := 2) (N := some 41) HT_.out (zZ 15 3) ?_
      refine puq (i := 3) (N := some 42) HT_.out (zZ 15 4) ?_
      refine take_ (i := 4) (N := some 43) (v := ?_) (a' := ?_) (zZ 15 5) rfl rfl (zU HT_.out HW_.out (by kernel_rfl)) (fun _ _ _ h => h) (Or.inl ⟨by rfl,?_⟩) hHeld ?_ ?_
      rotate_left
      ·intro w' hM
       obtain ⟨x_0,x_1,x_2,x_3,x_4,x_5,x_6,_⟩ := HX.out w' hM
       go_simp
       with_reducible rfl
      rotate_left
      ·simp only [Act.put,List.setIfInBounds_toArray,List.set_cons_zero,List.set_cons_succ,zah,zaj]
       rfl
      refine puq (i := 5) (N := some 44) HT_.out (zZ 15 6) ?_
      refine puq (i := 6) (N := some 45) HT_.out (zZ 15 7) ?_
      refine puq (i := 7) (N := some 46) HT_.out (zZ 15 8) ?_
      refine puq (i := 8) (N := some 47) HT_.out (zZ 15 9) ?_
      refine take_ (i := 9) (N := some 48) (v := ?_) (a' := ?_) (zZ 15 10) rfl rfl (zU HT_.out HW_.out (by kernel_rfl)) (fun _ _ _ h => h) (Or.inl ⟨by rfl,?_⟩) hHeld ?_ ?_
      rotate_left
      ·intro w' hM
       obtain ⟨y_0,y_1,y_2,y_3,y_4,y_5,y_6,_⟩ := HY.out w' hM
       go_simp
       with_reducible rfl
      rotate_left
      ·simp only [Act.put,List.setIfInBounds_toArray,List.set_cons_zero,List.set_cons_succ,zah,zaj]
       rfl
      refine puq (i := 10) (N := some 49) HT_.out (zZ 15 11) ?_
      refine puq (i := 11) (N := some 50) HT_.out (zZ 15 12) ?_
      refine zdY (fun _ _ _ _ _ h => h) HT_.out [(12,51),(13,52)] 1 rfl (zZ 15 14) (by kernel_rfl) (by kernel_rfl) (a' := ?_) ?_ ?_
      rotate_left
      ·simp only [zcB,Act.put,List.setIfInBounds_toArray,List.set_cons_zero,List.set_cons_succ]
       rfl
      refine puq (i := 14) (N := some 53) HT_.out (zZ 15 15) ?_
      refine zbG (zaM HT_.out (by kernel_rfl)) ?_
      clear HBR
      have HBR := za.mk hHeld
      clear hHeld HT_ HW_
      go_wp2_with fail
      have hK_ : k + 1 ≤ i ∧ i < 120 := ⟨HKI.out,by have := HML.out;have := HLT.out;omega⟩
      obtain ⟨hK1_,hK2_⟩ := hK_
      have hW_ : wrap64 ((k : Int) + 1) = ((k + 1 : Nat) : Int) := by rw [zab (by omega) (by omega)];simp
      go_roundw
      case rel => exact ⟨k + 1,by (try simp only [hW_]),hK1_,⟨fun j hj => by rcases Nat.lt_succ_iff_lt_or_eq.1 hj with h_ | h_;exact HPK.out j h_;rw [h_,HGK.out];exact HPAIR.out⟩,HBR⟩
      case measure => rw [hW_];simp [intOf];omega
    ·obtain rfl : k = i := by omega
     have hb2 : decide (k < k) = false := decide_eq_false hki
     go_wp2_with fail
     have hK2_ : k < 120 := by have := HML.out;have := HLT.out;omega
     have hW_ : wrap64 ((k : Int) + 1) = ((k + 1 : Nat) : Int) := by rw [zab (by omega) (by omega)];simp
     go_roundw
     case rel => exact ⟨k + 1,by (try simp only [hW_]),by omega,⟨fun j hj => by rcases Nat.lt_succ_iff_lt_or_eq.1 hj with h_ | h_;exact HPI.out j h_;rw [h_];exact HPK.out⟩,HBR⟩
     case measure => rw [hW_];simp [intOf];omega
  ·obtain rfl : i = M.length := by omega
   have hb : decide (M.length < M.length) = false := decide_eq_false hlt
   go_wp2_with fail
   go_ret
   rw [HMM.out,zhL HPI.out]
   exact ⟨rfl,HB9.out.trans (HBI.out.mono (zh HB9.out))⟩
def zA.f (a0_0 : Int) (a0_1 : Int) (l0_2 : List (S34)) (a1_0 : Int) (a1_1 : Int) (l1_2 : List (S34)) : Option Bool := if l0_2.length ≤ 60 ∧ l1_2.length ≤ 60 ∧ (l0_2 ++ l1_2).all fitU = true then some (zc4 (l0_2 ++ l1_2)) else none
theorem zA.calls (a0_0 : Int) (a0_1 : Int) (A0_2 : Option Addr) (c0_2 : Nat) (l0_2 : List (S34)) (a1_0 : Int) (a1_1 : Int) (A1_2 : Option Addr) (c1_2 : Nat) (l1_2 : List (S34)) (r : Bool) (w : World) (hr0_2 : Kd.C k34 w A0_2 l0_2.length l0_2) (hc0_2 : l0_2.length ≤ c0_2) (hr1_2 : Kd.C k34 w A1_2 l1_2.length l1_2) (hc1_2 : l1_2.length ≤ c1_2) (h : zA.f a0_0 a0_1 l0_2 a1_0 a1_1 l1_2 = some r) :
  Calls Try.prog 9 #[.agg #[.int .i64 a0_0,.int .i64 a0_1,.slice A0_2 l0_2.length c0_2],.agg #[.int .i64 a1_0,.int .i64 a1_1,.slice A1_2 l1_2.length c1_2]] w fun e w' => e = .returned (.bool r) ∧ Below w.heap.size w w' := by
 unfold zA.f at h
 split at h
 ·rename_i hh
  obtain rfl := Option.some.inj h
  exact zA.walk a0_0 a0_1 A0_2 c0_2 l0_2 a1_0 a1_1 A1_2 c1_2 l1_2 w hr0_2 hc0_2 hr1_2 hc1_2 hh.1 hh.2.1 (List.all_eq_true.1 hh.2.2)
 ·cases h
def zo.l0 : Nat → List (S34) → List (S34) → Int → Option (Bool)
 | 0,_,_,_ => none
 | k + 1,x0,x1,x5 => if x5 < (x0.length : Int) then (if 0 ≤ x5 then (if x5 < (x1.length : Int) then ((zaR.f k ((zd x0 x5).f1.f0) ((zd x0 x5).f1.f1) ((zd x0 x5).f1.f2) ((zd x0 x5).f1.f3) ((zd x0 x5).f1.f4.f0) ((zd x0 x5).f1.f4.f1) ((zd x1 x5).f1.f0) ((zd x1 x5).f1.f1) ((zd x1 x5).f1.f2) ((zd x1 x5).f1.f3) ((zd x1 x5).f1.f4.f0) ((zd x1 x5).f1.f4.f1)).bind fun jf => (if jf = true then (if ((zd x0 x5).f0).toList = ((zd x1 x5).f0).toList then (zo.l0 k x0 x1 (wrap64 (x5 + 1))) else (some false)) else (some false))) else (none)) else (none)) else (some true)
def zo.f (k : Nat) (l0 : List (S34)) (l1 : List (S34)) : Option (Bool) := if (l0.length : Int) = (l1.length : Int) then (zo.l0 k l0 l1 0) else (some false)
def zo.T6 : Bool × List (List Nat × List Nat) := (true,[([],[]),([],[]),([0,1],[0,1]),([2],[2]),([3],[3]),([],[]),([],[]),([5,6],[5,6]),([7],[7]),([8],[8]),([4,9],[4,9]),([10,10,0,1,2,3,4,5,6,7,8,9,10],[10])])
def zo.B6 : List Nat := [0,0,3,7,15,0,0,96,224,480,1023,2047]
theorem zo.tab6 : zb3 .any (zdC Try.f10 6) = zo.T6 := by kernel_rfl
theorem zo.bits6 : zbD zo.T6.2 zo.B6 = true := by kernel_rfl
def zo.T7 : Bool × List (List Nat × List Nat) := (true,[([],[]),([0],[0]),([1],[1]),([2],[2]),([2],[2]),([3,4,2],[2,3,4]),([5,2],[2,5]),([6,2],[2,6]),([2],[2]),([2],[2]),([8,9,2],[2,8,9]),([10,2],[2,10]),([11,2],[2,11]),([7,12,2],[2,7,12]),([2,13],[2,13])])
def zo.B7 : List Nat := [0,1,3,7,7,31,63,127,7,7,775,1799,3847,8191,16383]
theorem zo.tab7 : zb3 .any (zdC Try.f10 7) = zo.T7 := by kernel_rfl
theorem zo.bits7 : zbD zo.T7.2 zo.B7 = true := by kernel_rfl
set_option maxHeartbeats 8000000 in
set_option maxRecDepth 100000 in
theorem zo.calls (k : Nat) (A0 : Option Addr) (c0 : Nat) (l0 : List (S34)) (A1 : Option Addr) (c1 : Nat) (l1 : List (S34)) (r : Bool) (w : World) (hr0 : Kd.C k34 w A0 l0.length l0) (hc0 : l0.length ≤ c0) (hr1 : Kd.C k34 w A1 l1.length l1) (hc1 : l1.length ≤ c1) (h : zo.f k l0 l1 = some r) :
  Calls Try.prog 10 #[.slice A0 l0.length c0,.slice A1 l1.length c1] w fun e w' => e = .returned (.bool r) ∧ Below w.heap.size w w' := by
 have hu32 := Try.underlying32
 have HR0 := za.mk hr0
 have HC0 := za.mk hc0
 clear hr0 hc0
 have HR1 := za.mk hr1
 have HC1 := za.mk hc1
 clear hr1 hc1
 have HB := za.mk (Below.refl w.heap.size w)
 have H : (if (l0.length : Int) = (l1.length : Int) then (zo.l0 k l0 l1 0) else (some false)) = some r := h
 clear h
 by_cases c3 : (l0.length : Int) = (l1.length : Int)
 ·rw [if_pos c3] at H
  have c3b0 : ((l0.length : Int) == (l1.length : Int)) = true := beq_iff_eq.mpr c3
  have c3b1 : ((l0.length : Int) != (l1.length : Int)) = false := bne_eq_false_iff_eq.mpr c3
  have c3b2 : (l0.length == l1.length) = true := by first | simpa using c3 | (simp at c3 ⊢;omega)
  clear c3
  have H' := za.mk H
  clear H
  go_enter Try.func10,Try.ntmps10
  go_wp2
  go_loopg [5] k (fun kq v5 w' => ∃ (x5_1 : Int),v5 = .int .i64 x5_1 ∧ za (zo.l0 kq l0 l1 x5_1 = some r) ∧ za (kq ≤ k) ∧ za (Below w.heap.size w w'))
  case atStart => exact ⟨(0),(hDq),H',⟨Nat.le_refl _⟩,⟨by repeat (first | (with_reducible first | exact HB.out | apply zm | apply zj | apply zp) | exact HB.out)⟩⟩
  case round =>
   clear H'
   try clear c1;try clear p2;try clear c3;try clear c3b0;try clear c3b1;try clear c3b2
   obtain ⟨x5_1,rfl,HA,HK1,HB⟩ := hrel
   cases gk with
   | zero => exact absurd HA.out (by simp [zo.l0])
   | succ k1 =>
    have H := HA.out
    clear HA
    simp only [zo.l0] at H
    by_cases c4 : x5_1 < (l0.length : Int)
    ·rw [if_pos c4] at H
     have c4b0 : decide (x5_1 < (l0.length : Int)) = true := decide_eq_true c4
     clear c4
     by_cases c5 : 0 ≤ x5_1
     ·rw [if_pos c5] at H
      have c5b0 : decide (0 ≤ x5_1) = true := decide_eq_true c5
      clear c5
      by_cases c6 : x5_1 < (l1.length : Int)
      ·rw [if_pos c6] at H
       have c6b0 : decide (x5_1 < (l1.length : Int)) = true := decide_eq_true c6
       clear c6
       replace H := Option.bind_eq_some_iff.mp H
       obtain ⟨jf,A70,H⟩ := H
       replace H : (if jf = true then (if ((zd l0 x5_1).f0).toList = ((zd l1 x5_1).f0).toList then (zo.l0 k1 l0 l1 (wrap64 (x5_1 + 1))) else (some false)) else (some false)) = some r := H
       have A7 := za.mk A70
       clear A70
       by_cases c8 : jf = true
       ·subst c8
        have H1 : (if ((zd l0 x5_1).f0).toList = ((zd l1 x5_1).f0).toList then (zo.l0 k1 l0 l1 (wrap64 (x5_1 + 1))) else (some false)) = some r := by rw [if_pos rfl] at H;exact H
        clear H
        have H := H1
        clear H1
        by_cases c9 : ((zd l0 x5_1).f0).toList = ((zd l1 x5_1).f0).toList
        ·rw [if_pos c9] at H
         have c9b0 : (((zd l0 x5_1).f0).toList == ((zd l1 x5_1).f0).toList) = true := beq_iff_eq.mpr c9
         have c9b1 : (((zd l0 x5_1).f0).toList != ((zd l1 x5_1).f0).toList) = false := bne_eq_false_iff_eq.mpr c9
         clear c9
         have H' := za.mk H
         clear H
         try go_wp2
         have n0_ := za.mk (zp HB.out)
         clear HB
         have HB := n0_
         clear n0_
         have YL : 0 ≤ (x5_1 : Int) := hFq
         have YN : x5_1 < (l0.length : Int) := hFq
         obtain ⟨ya,Yd,Yh,Ye,Yi,Y9,yc,yd,ye,yf,yg,yh,yi,y9,yX,Ya,yY⟩ := za7 HR0.out x5_1 YL YN
         have yx := yi
         have yw := yh
         have yv := yg
         have yu := yf
         have yt := ye
         have yr := yd
         have yq := yc
         cases Y9
         replace yc := (HB.out.cell (World.block_lt_of_cell? w _ yc)).trans yc
         replace yd := (HB.out.cell (World.block_lt_of_cell? w _ yd)).trans yd
         replace ye := (HB.out.cell (World.block_lt_of_cell? w _ ye)).trans ye
         replace yf := (HB.out.cell (World.block_lt_of_cell? w _ yf)).trans yf
         replace yg := (HB.out.cell (World.block_lt_of_cell? w _ yg)).trans yg
         replace yh := (HB.out.cell (World.block_lt_of_cell? w _ yh)).trans yh
         replace yi := (HB.out.cell (World.block_lt_of_cell? w _ yi)).trans yi
         have yT := za.mk yX
         have Yl := za.mk y9
         clear yX y9
         have yU := za.mk yY
         have Ym := za.mk Ya
         clear yY Ya
         replace YL := eq_true YL
         replace YN := eq_true YN
         have YM : 0 ≤ (x5_1 : Int) := hFq
         have YO : x5_1 < (l1.length : Int) := hFq
         obtain ⟨yb,Yf,Yj,Yg,Yk,ja,yj,yk,yl,ym,yn,yo,yp,Yb,yZ,Yc,y8⟩ := za7 HR1.out x5_1 YM YO
         have yE := yp
         have yD := yo
         have yC := yn
         have yB := ym
         have yA := yl
         have yz := yk
         have yy := yj
         cases ja
         replace yj := (HB.out.cell (World.block_lt_of_cell? w _ yj)).trans yj
         replace yk := (HB.out.cell (World.block_lt_of_cell? w _ yk)).trans yk
         replace yl := (HB.out.cell (World.block_lt_of_cell? w _ yl)).trans yl
         replace ym := (HB.out.cell (World.block_lt_of_cell? w _ ym)).trans ym
         replace yn := (HB.out.cell (World.block_lt_of_cell? w _ yn)).trans yn
         replace yo := (HB.out.cell (World.block_lt_of_cell? w _ yo)).trans yo
         replace yp := (HB.out.cell (World.block_lt_of_cell? w _ yp)).trans yp
         have yV := za.mk yZ
         have Yn := za.mk Yb
         clear yZ Yb
         have yW := za.mk y8
         have Yo := za.mk Yc
         clear y8 Yc
         replace YM := eq_true YM
         replace YO := eq_true YO
         refine zbx (n := 12) (S := fun w' => w'.cell? (ya.add ((x5_1).toNat * 7)) = some (.string ((zd l0 x5_1).f0)) ∧ w'.cell? ⟨(ya.add ((x5_1).toNat * 7)).block,(ya.add ((x5_1).toNat * 7)).off + 1,none⟩ = some (.int .i64 ((zd l0 x5_1).f1.f0)) ∧ w'.cell? ⟨(ya.add ((x5_1).toNat * 7)).block,(ya.add ((x5_1).toNat * 7)).off + 2,none⟩ = some (.int .i64 ((zd l0 x5_1).f1.f1)) ∧ w'.cell? ⟨(ya.add ((x5_1).toNat * 7)).block,(ya.add ((x5_1).toNat * 7)).off + 3,none⟩ = some (.slice Yd ((zd l0 x5_1).f1.f2).length Yh) ∧ w'.cell? ⟨(ya.add ((x5_1).toNat * 7)).block,(ya.add ((x5_1).toNat * 7)).off + 4,none⟩ = some (.slice Ye ((zd l0 x5_1).f1.f3).length Yi) ∧ w'.cell? ⟨(ya.add ((x5_1).toNat * 7)).block,(ya.add ((x5_1).toNat * 7)).off + 5,none⟩ = some (.int .i64 ((zd l0 x5_1).f1.f4.f0)) ∧ w'.cell? ⟨(ya.add ((x5_1).toNat * 7)).block,(ya.add ((x5_1).toNat * 7)).off + 6,none⟩ = some (.int .i64 ((zd l0 x5_1).f1.f4.f1)) ∧ w'.cell? (yb.add ((x5_1).toNat * 7)) = some (.string ((zd l1 x5_1).f0)) ∧ w'.cell? ⟨(yb.add ((x5_1).toNat * 7)).block,(yb.add ((x5_1).toNat * 7)).off + 1,none⟩ = some (.int .i64 ((zd l1 x5_1).f1.f0)) ∧ w'.cell? ⟨(yb.add ((x5_1).toNat * 7)).block,(yb.add ((x5_1).toNat * 7)).off + 2,none⟩ = some (.int .i64 ((zd l1 x5_1).f1.f1)) ∧ w'.cell? ⟨(yb.add ((x5_1).toNat * 7)).block,(yb.add ((x5_1).toNat * 7)).off + 3,none⟩ = some (.slice Yf ((zd l1 x5_1).f1.f2).length Yj) ∧ w'.cell? ⟨(yb.add ((x5_1).toNat * 7)).block,(yb.add ((x5_1).toNat * 7)).off + 4,none⟩ = some (.slice Yg ((zd l1 x5_1).f1.f3).length Yk) ∧ w'.cell? ⟨(yb.add ((x5_1).toNat * 7)).block,(yb.add ((x5_1).toNat * 7)).off + 5,none⟩ = some (.int .i64 ((zd l1 x5_1).f1.f4.f0)) ∧ w'.cell? ⟨(yb.add ((x5_1).toNat * 7)).block,(yb.add ((x5_1).toNat * 7)).off + 6,none⟩ = some (.int .i64 ((zd l1 x5_1).f1.f4.f1))) (ds := []) (uQ 12 0) (by kernel_rfl) rfl rfl ⟨((HB.out.cell (World.block_lt_of_cell? w _ yq)).trans yq),((HB.out.cell (World.block_lt_of_cell? w _ yr)).trans yr),((HB.out.cell (World.block_lt_of_cell? w _ yt)).trans yt),((HB.out.cell (World.block_lt_of_cell? w _ yu)).trans yu),((HB.out.cell (World.block_lt_of_cell? w _ yv)).trans yv),((HB.out.cell (World.block_lt_of_cell? w _ yw)).trans yw),((HB.out.cell (World.block_lt_of_cell? w _ yx)).trans yx),((HB.out.cell (World.block_lt_of_cell? w _ yy)).trans yy),((HB.out.cell (World.block_lt_of_cell? w _ yz)).trans yz),((HB.out.cell (World.block_lt_of_cell? w _ yA)).trans yA),((HB.out.cell (World.block_lt_of_cell? w _ yB)).trans yB),((HB.out.cell (World.block_lt_of_cell? w _ yC)).trans yC),((HB.out.cell (World.block_lt_of_cell? w _ yD)).trans yD),((HB.out.cell (World.block_lt_of_cell? w _ yE)).trans yE)⟩ (fun hHeld => ?_);refine zaG zo.tab6 zo.bits6 (fun HT_ HW_ => ?_)
         generalize wr.drew = w10 at HB yT yU yV yW yc yd ye yf yg yh yi yj yk yl ym yn yo yp hHeld ⊢
         refine puq (i := 0) (N := some 18) HT_.out (uQ 12 1) ?_
         refine puq (i := 1) (N := some 19) HT_.out (uQ 12 2) ?_
         refine puq (i := 2) (N := some 20) HT_.out (uQ 12 3) ?_
         refine puq (i := 3) (N := some 21) HT_.out (uQ 12 4) ?_
         refine puq (i := 5) (N := some 23) HT_.out #[true,true,true,true,false,true,false,false,false,false,false,false] ?_
         refine puq (i := 6) (N := some 24) HT_.out #[true,true,true,true,false,true,true,false,false,false,false,false] ?_
         refine puq (i := 7) (N := some 25) HT_.out #[true,true,true,true,false,true,true,true,false,false,false,false] ?_
         refine puq (i := 8) (N := some 26) HT_.out #[true,true,true,true,false,true,true,true,true,false,false,false] ?_
         refine take_ (i := 4) (N := some 22) (uQ 12 9) rfl rfl (zU HT_.out HW_.out (by kernel_rfl)) (fun _ _ _ h => h) (Or.inl ⟨by rfl,by rintro w' ⟨s0,s1,s2,s3,s4,s5,s6,s7,s8,s9,s10,s11,s12,s13⟩;go_simp;with_reducible rfl⟩) hHeld hPq ?_
         refine take_ (i := 9) (N := some 27) (uQ 12 10) rfl rfl (zU HT_.out HW_.out (by kernel_rfl)) (fun _ _ _ h => h) (Or.inl ⟨by rfl,by rintro w' ⟨s0,s1,s2,s3,s4,s5,s6,s7,s8,s9,s10,s11,s12,s13⟩;go_simp;with_reducible rfl⟩) hHeld hPq ?_
         refine zcl (i := 10) (N := some 28) (uQ 12 11) rfl rfl (zaY HT_.out (by kernel_rfl)) (by decide) (fun K hK => ?_)
         refine zbs Try.func25 (by kernel_rfl) rfl #[.agg #[.int .i64 ((zd l0 x5_1).f1.f0),.int .i64 ((zd l0 x5_1).f1.f1),.slice Yd ((zd l0 x5_1).f1.f2).length Yh,.slice Ye ((zd l0 x5_1).f1.f3).length Yi,.int .i64 ((zd l0 x5_1).f1.f4.f0),.int .i64 ((zd l0 x5_1).f1.f4.f1)],.agg #[.int .i64 ((zd l1 x5_1).f1.f0),.int .i64 ((zd l1 x5_1).f1.f1),.slice Yf ((zd l1 x5_1).f1.f2).length Yj,.slice Yg ((zd l1 x5_1).f1.f3).length Yk,.int .i64 ((zd l1 x5_1).f1.f4.f0),.int .i64 ((zd l1 x5_1).f1.f4.f1)]] (by rfl) rfl rfl hMq ?_
         with_reducible refine (zaR.calls k1 ((zd l0 x5_1).f1.f0) ((zd l0 x5_1).f1.f1) _ _ ((zd l0 x5_1).f1.f2) _ _ ((zd l0 x5_1).f1.f3) ((zd l0 x5_1).f1.f4.f0) ((zd l0 x5_1).f1.f4.f1) ((zd l1 x5_1).f1.f0) ((zd l1 x5_1).f1.f1) _ _ ((zd l1 x5_1).f1.f2) _ _ ((zd l1 x5_1).f1.f3) ((zd l1 x5_1).f1.f4.f0) ((zd l1 x5_1).f1.f4.f1) true _ ?side1 ?side2 ?side3 ?side4 ?side5 ?side6 ?side7 ?side8 A7.out).mono ?_
         (case side1 => exact hKq (Kd.C_below yT.out HB.out))
         (case side2 => exact Yl.out)
         (case side3 => exact hKq (Kd.C_below yU.out HB.out))
         (case side4 => exact Ym.out)
         (case side5 => exact hKq (Kd.C_below yV.out HB.out))
         (case side6 => exact Yn.out)
         (case side7 => exact hKq (Kd.C_below yW.out HB.out))
         (case side8 => exact Yo.out)
         rintro e w11 ⟨rfl,hb⟩
         refine ⟨_,rfl,?_⟩
         have n0_ := za.mk (zf hBq hb)
         clear HB
         have HB := n0_
         clear n0_
         (try clear hb)
         (try clear hb2)
         (try clear hk)
         (try clear hi)
         refine hK.out _ _ ⟨((HB.out.cell (World.block_lt_of_cell? w _ yq)).trans yq),((HB.out.cell (World.block_lt_of_cell? w _ yr)).trans yr),((HB.out.cell (World.block_lt_of_cell? w _ yt)).trans yt),((HB.out.cell (World.block_lt_of_cell? w _ yu)).trans yu),((HB.out.cell (World.block_lt_of_cell? w _ yv)).trans yv),((HB.out.cell (World.block_lt_of_cell? w _ yw)).trans yw),((HB.out.cell (World.block_lt_of_cell? w _ yx)).trans yx),((HB.out.cell (World.block_lt_of_cell? w _ yy)).trans yy),((HB.out.cell (World.block_lt_of_cell? w _ yz)).trans yz),((HB.out.cell (World.block_lt_of_cell? w _ yA)).trans yA),((HB.out.cell (World.block_lt_of_cell? w _ yB)).trans yB),((HB.out.cell (World.block_lt_of_cell? w _ yC)).trans yC),((HB.out.cell (World.block_lt_of_cell? w _ yD)).trans yD),((HB.out.cell (World.block_lt_of_cell? w _ yE)).trans yE)⟩ (fun hHeld => ?_)
         clear hK K
         refine zbu (a' := ?_) ?_ ?_
         rotate_left
         ·show Act.put _ (some 28) _ = _
          simp only [Act.put,List.setIfInBounds_toArray,List.set_cons_zero,List.set_cons_succ,zah,zaj]
          rfl
         refine puq (i := 11) (N := some 6) HT_.out (uQ 12 12) ?_
         refine zbG (zaM HT_.out (by kernel_rfl)) ?_
         try go_wp2
         have n0_ := za.mk (zp HB.out)
         clear HB
         have HB := n0_
         clear n0_
         have Y3 : 0 ≤ (x5_1 : Int) := hFq
         have Y5 : x5_1 < (l0.length : Int) := hFq
         obtain ⟨Y7,YT,YX,YU,YY,jg,yF,yG,yH,yI,yJ,yK,yL,Yt,Yp,Yu,Yq⟩ := za7 HR0.out x5_1 Y3 Y5
         have YD := yL
         have YC := yK
         have YB := yJ
         have YA := yI
         have Yz := yH
         have Yy := yG
         have Yx := yF
         obtain rfl : ya = Y7 := (by injection jg)
         replace yF := (HB.out.cell (World.block_lt_of_cell? w _ yF)).trans yF
         replace yG := (HB.out.cell (World.block_lt_of_cell? w _ yG)).trans yG
         replace yH := (HB.out.cell (World.block_lt_of_cell? w _ yH)).trans yH
         replace yI := (HB.out.cell (World.block_lt_of_cell? w _ yI)).trans yI
         replace yJ := (HB.out.cell (World.block_lt_of_cell? w _ yJ)).trans yJ
         replace yK := (HB.out.cell (World.block_lt_of_cell? w _ yK)).trans yK
         replace yL := (HB.out.cell (World.block_lt_of_cell? w _ yL)).trans yL
         have YP := za.mk Yp
         have jb := za.mk Yt
         clear Yp Yt
         have YQ := za.mk Yq
         have jc := za.mk Yu
         clear Yq Yu
         replace Y3 := eq_true Y3
         replace Y5 := eq_true Y5
         have Y4 : 0 ≤ (x5_1 : Int) := hFq
         have Y6 : x5_1 < (l1.length : Int) := hFq
         obtain ⟨Y8,YV,YZ,YW,Y0,jh,yM,yN,yO,yP,yQ,yR,yS,Yv,Yr,Yw,Ys⟩ := za7 HR1.out x5_1 Y4 Y6
         have YK := yS
         have YJ := yR
         have YI := yQ
         have YH := yP
         have YG := yO
         have YF := yN
         have YE := yM
         obtain rfl : yb = Y8 := (by injection jh)
         replace yM := (HB.out.cell (World.block_lt_of_cell? w _ yM)).trans yM
         replace yN := (HB.out.cell (World.block_lt_of_cell? w _ yN)).trans yN
         replace yO := (HB.out.cell (World.block_lt_of_cell? w _ yO)).trans yO
         replace yP := (HB.out.cell (World.block_lt_of_cell? w _ yP)).trans yP
         replace yQ := (HB.out.cell (World.block_lt_of_cell? w _ yQ)).trans yQ
         replace yR := (HB.out.cell (World.block_lt_of_cell? w _ yR)).trans yR
         replace yS := (HB.out.cell (World.block_lt_of_cell? w _ yS)).trans yS
         have YR := za.mk Yr
         have jd := za.mk Yv
         clear Yr Yv
         have YS := za.mk Ys
         have je := za.mk Yw
         clear Ys Yw
         replace Y4 := eq_true Y4
         replace Y6 := eq_true Y6
         refine zbx (n := 15) (S := fun w' => w'.cell? (ya.add ((x5_1).toNat * 7)) = some (.string ((zd l0 x5_1).f0)) ∧ w'.cell? ⟨(ya.add ((x5_1).toNat * 7)).block,(ya.add ((x5_1).toNat * 7)).off + 1,none⟩ = some (.int .i64 ((zd l0 x5_1).f1.f0)) ∧ w'.cell? ⟨(ya.add ((x5_1).toNat * 7)).block,(ya.add ((x5_1).toNat * 7)).off + 2,none⟩ = some (.int .i64 ((zd l0 x5_1).f1.f1)) ∧ w'.cell? ⟨(ya.add ((x5_1).toNat * 7)).block,(ya.add ((x5_1).toNat * 7)).off + 3,none⟩ = some (.slice YT ((zd l0 x5_1).f1.f2).length YX) ∧ w'.cell? ⟨(ya.add ((x5_1).toNat * 7)).block,(ya.add ((x5_1).toNat * 7)).off + 4,none⟩ = some (.slice YU ((zd l0 x5_1).f1.f3).length YY) ∧ w'.cell? ⟨(ya.add ((x5_1).toNat * 7)).block,(ya.add ((x5_1).toNat * 7)).off + 5,none⟩ = some (.int .i64 ((zd l0 x5_1).f1.f4.f0)) ∧ w'.cell? ⟨(ya.add ((x5_1).toNat * 7)).block,(ya.add ((x5_1).toNat * 7)).off + 6,none⟩ = some (.int .i64 ((zd l0 x5_1).f1.f4.f1)) ∧ w'.cell? (yb.add ((x5_1).toNat * 7)) = some (.string ((zd l1 x5_1).f0)) ∧ w'.cell? ⟨(yb.add ((x5_1).toNat * 7)).block,(yb.add ((x5_1).toNat * 7)).off + 1,none⟩ = some (.int .i64 ((zd l1 x5_1).f1.f0)) ∧ w'.cell? ⟨(yb.add ((x5_1).toNat * 7)).block,(yb.add ((x5_1).toNat * 7)).off + 2,none⟩ = some (.int .i64 ((zd l1 x5_1).f1.f1)) ∧ w'.cell? ⟨(yb.add ((x5_1).toNat * 7)).block,(yb.add ((x5_1).toNat * 7)).off + 3,none⟩ = some (.slice YV ((zd l1 x5_1).f1.f2).length YZ) ∧ w'.cell? ⟨(yb.add ((x5_1).toNat * 7)).block,(yb.add ((x5_1).toNat * 7)).off + 4,none⟩ = some (.slice YW ((zd l1 x5_1).f1.f3).length Y0) ∧ w'.cell? ⟨(yb.add ((x5_1).toNat * 7)).block,(yb.add ((x5_1).toNat * 7)).off + 5,none⟩ = some (.int .i64 ((zd l1 x5_1).f1.f4.f0)) ∧ w'.cell? ⟨(yb.add ((x5_1).toNat * 7)).block,(yb.add ((x5_1).toNat * 7)).off + 6,none⟩ = some (.int .i64 ((zd l1 x5_1).f1.f4.f1))) (ds := []) (uQ 15 0) (by kernel_rfl) rfl rfl ⟨((HB.out.cell (World.block_lt_of_cell? w _ Yx)).trans Yx),((HB.out.cell (World.block_lt_of_cell? w _ Yy)).trans Yy),((HB.out.cell (World.block_lt_of_cell? w _ Yz)).trans Yz),((HB.out.cell (World.block_lt_of_cell? w _ YA)).trans YA),((HB.out.cell (World.block_lt_of_cell? w _ YB)).trans YB),((HB.out.cell (World.block_lt_of_cell? w _ YC)).trans YC),((HB.out.cell (World.block_lt_of_cell? w _ YD)).trans YD),((HB.out.cell (World.block_lt_of_cell? w _ YE)).trans YE),((HB.out.cell (World.block_lt_of_cell? w _ YF)).trans YF),((HB.out.cell (World.block_lt_of_cell? w _ YG)).trans YG),((HB.out.cell (World.block_lt_of_cell? w _ YH)).trans YH),((HB.out.cell (World.block_lt_of_cell? w _ YI)).trans YI),((HB.out.cell (World.block_lt_of_cell? w _ YJ)).trans YJ),((HB.out.cell (World.block_lt_of_cell? w _ YK)).trans YK)⟩ (fun hHeld => ?_);refine zaG zo.tab7 zo.bits7 (fun HT_ HW_ => ?_)
         generalize w11.drew = w12 at HB YP YQ YR YS yF yG yH yI yJ yK yL yM yN yO yP yQ yR yS hHeld ⊢
         refine puq (i := 0) (N := some 29) HT_.out (uQ 15 1) ?_
         refine puq (i := 1) (N := some 30) HT_.out (uQ 15 2) ?_
         refine puq (i := 2) (N := some 31) HT_.out (uQ 15 3) ?_
         refine puq (i := 3) (N := some 32) HT_.out (uQ 15 4) ?_
         refine puq (i := 4) (N := some 33) HT_.out (uQ 15 5) ?_
         refine puq (i := 5) (N := some 34) HT_.out (uQ 15 6) ?_
         refine puq (i := 6) (N := some 35) HT_.out (uQ 15 7) ?_
         refine puq (i := 8) (N := some 37) HT_.out #[true,true,true,true,true,true,true,false,true,false,false,false,false,false,false] ?_
         refine puq (i := 9) (N := some 38) HT_.out #[true,true,true,true,true,true,true,false,true,true,false,false,false,false,false] ?_
         refine puq (i := 10) (N := some 39) HT_.out #[true,true,true,true,true,true,true,false,true,true,true,false,false,false,false] ?_
         refine puq (i := 11) (N := some 40) HT_.out #[true,true,true,true,true,true,true,false,true,true,true,true,false,false,false] ?_
         refine take_ (i := 7) (N := some 36) (uQ 15 12) rfl rfl (zU HT_.out HW_.out (by kernel_rfl)) (fun _ _ _ h => h) (Or.inl ⟨by rfl,by rintro w' ⟨s0,s1,s2,s3,s4,s5,s6,s7,s8,s9,s10,s11,s12,s13⟩;go_simp;with_reducible rfl⟩) hHeld hPq ?_
         refine take_ (i := 12) (N := some 41) (uQ 15 13) rfl rfl (zU HT_.out HW_.out (by kernel_rfl)) (fun _ _ _ h => h) (Or.inl ⟨by rfl,by rintro w' ⟨s0,s1,s2,s3,s4,s5,s6,s7,s8,s9,s10,s11,s12,s13⟩;go_simp;with_reducible rfl⟩) hHeld hPq ?_
         refine puq (i := 13) (N := some 42) HT_.out (uQ 15 14) ?_
         refine puq (i := 14) (N := some 43) HT_.out (uQ 15 15) ?_
         refine zbG (zaM HT_.out (by kernel_rfl)) ?_
         try go_wp2
         go_roundg k1
         case measure => have := HK1.out;omega
         case rel => exact ⟨(wrap64 (x5_1 + 1)),(hDq),H',⟨by have := HK1.out;omega⟩,⟨by repeat (first | (with_reducible first | exact HB.out | apply zm | apply zj | apply zp) | exact HB.out)⟩⟩
        ·rw [if_neg c9] at H
         have c9b0 : (((zd l0 x5_1).f0).toList == ((zd l1 x5_1).f0).toList) = false := beq_eq_false_iff_ne.mpr c9
         have c9b1 : (((zd l0 x5_1).f0).toList != ((zd l1 x5_1).f0).toList) = true := bne_iff_ne.mpr c9
         obtain rfl := Option.some.inj H
         try go_wp2
         have n0_ := za.mk (zp HB.out)
         clear HB
         have HB := n0_
         clear n0_
         have YL : 0 ≤ (x5_1 : Int) := hFq
         have YN : x5_1 < (l0.length : Int) := hFq
         obtain ⟨ya,Yd,Yh,Ye,Yi,Y9,yc,yd,ye,yf,yg,yh,yi,y9,yX,Ya,yY⟩ := za7 HR0.out x5_1 YL YN
         have yx := yi
         have yw := yh
         have yv := yg
         have yu := yf
         have yt := ye
         have yr := yd
         have yq := yc
         cases Y9
         replace yc := (HB.out.cell (World.block_lt_of_cell? w _ yc)).trans yc
         replace yd := (HB.out.cell (World.block_lt_of_cell? w _ yd)).trans yd
         replace ye := (HB.out.cell (World.block_lt_of_cell? w _ ye)).trans ye
         replace yf := (HB.out.cell (World.block_lt_of_cell? w _ yf)).trans yf
         replace yg := (HB.out.cell (World.block_lt_of_cell? w _ yg)).trans yg
         replace yh := (HB.out.cell (World.block_lt_of_cell? w _ yh)).trans yh
         replace yi := (HB.out.cell (World.block_lt_of_cell? w _ yi)).trans yi
         have yT := za.mk yX
         have Yl := za.mk y9
         clear yX y9
         have yU := za.mk yY
         have Ym := za.mk Ya
         clear yY Ya
         replace YL := eq_true YL
         replace YN := eq_true YN
         have YM : 0 ≤ (x5_1 : Int) := hFq
         have YO : x5_1 < (l1.length : Int) := hFq
         obtain ⟨yb,Yf,Yj,Yg,Yk,ja,yj,yk,yl,ym,yn,yo,yp,Yb,yZ,Yc,y8⟩ := za7 HR1.out x5_1 YM YO
         have yE := yp
         have yD := yo
         have yC := yn
         have yB := ym
         have yA := yl
         have yz := yk
         have yy := yj
         cases ja
         replace yj := (HB.out.cell (World.block_lt_of_cell? w _ yj)).trans yj
         replace yk := (HB.out.cell (World.block_lt_of_cell? w _ yk)).trans yk
         replace yl := (HB.out.cell (World.block_lt_of_cell? w _ yl)).trans yl
         replace ym := (HB.out.cell (World.block_lt_of_cell? w _ ym)).trans ym
         replace yn := (HB.out.cell (World.block_lt_of_cell? w _ yn)).trans yn
         replace yo := (HB.out.cell (World.block_lt_of_cell? w _ yo)).trans yo
         replace yp := (HB.out.cell (World.block_lt_of_cell? w _ yp)).trans yp
         have yV := za.mk yZ
         have Yn := za.mk Yb
         clear yZ Yb
         have yW := za.mk y8
         have Yo := za.mk Yc
         clear y8 Yc
         replace YM := eq_true YM
         replace YO := eq_true YO
         refine zbx (n := 12) (S := fun w' => w'.cell? (ya.add ((x5_1).toNat * 7)) = some (.string ((zd l0 x5_1).f0)) ∧ w'.cell? ⟨(ya.add ((x5_1).toNat * 7)).block,(ya.add ((x5_1).toNat * 7)).off + 1,none⟩ = some (.int .i64 ((zd l0 x5_1).f1.f0)) ∧ w'.cell? ⟨(ya.add ((x5_1).toNat * 7)).block,(ya.add ((x5_1).toNat * 7)).off + 2,none⟩ = some (.int .i64 ((zd l0 x5_1).f1.f1)) ∧ w'.cell? ⟨(ya.add ((x5_1).toNat * 7)).block,(ya.add ((x5_1).toNat * 7)).off + 3,none⟩ = some (.slice Yd ((zd l0 x5_1).f1.f2).length Yh) ∧ w'.cell? ⟨(ya.add ((x5_1).toNat * 7)).block,(ya.add ((x5_1).toNat * 7)).off + 4,none⟩ = some (.slice Ye ((zd l0 x5_1).f1.f3).length Yi) ∧ w'.cell? ⟨(ya.add ((x5_1).toNat * 7)).block,(ya.add ((x5_1).toNat * 7)).off + 5,none⟩ = some (.int .i64 ((zd l0 x5_1).f1.f4.f0)) ∧ w'.cell? ⟨(ya.add ((x5_1).toNat * 7)).block,(ya.add ((x5_1).toNat * 7)).off + 6,none⟩ = some (.int .i64 ((zd l0 x5_1).f1.f4.f1)) ∧ w'.cell? (yb.add ((x5_1).toNat * 7)) = some (.string ((zd l1 x5_1).f0)) ∧ w'.cell? ⟨(yb.add ((x5_1).toNat * 7)).block,(yb.add ((x5_1).toNat * 7)).off + 1,none⟩ = some (.int .i64 ((zd l1 x5_1).f1.f0)) ∧ w'.cell? ⟨(yb.add ((x5_1).toNat * 7)).block,(yb.add ((x5_1).toNat * 7)).off + 2,none⟩ = some (.int .i64 ((zd l1 x5_1).f1.f1)) ∧ w'.cell? ⟨(yb.add ((x5_1).toNat * 7)).block,(yb.add ((x5_1).toNat * 7)).off + 3,none⟩ = some (.slice Yf ((zd l1 x5_1).f1.f2).length Yj) ∧ w'.cell? ⟨(yb.add ((x5_1).toNat * 7)).block,(yb.add ((x5_1).toNat * 7)).off + 4,none⟩ = some (.slice Yg ((zd l1 x5_1).f1.f3).length Yk) ∧ w'.cell? ⟨(yb.add ((x5_1).toNat * 7)).block,(yb.add ((x5_1).toNat * 7)).off + 5,none⟩ = some (.int .i64 ((zd l1 x5_1).f1.f4.f0)) ∧ w'.cell? ⟨(yb.add ((x5_1).toNat * 7)).block,(yb.add ((x5_1).toNat * 7)).off + 6,none⟩ = some (.int .i64 ((zd l1 x5_1).f1.f4.f1))) (ds := []) (uQ 12 0) (by kernel_rfl) rfl rfl ⟨((HB.out.cell (World.block_lt_of_cell? w _ yq)).trans yq),((HB.out.cell (World.block_lt_of_cell? w _ yr)).trans yr),((HB.out.cell (World.block_lt_of_cell? w _ yt)).trans yt),((HB.out.cell (World.block_lt_of_cell? w _ yu)).trans yu),((HB.out.cell (World.block_lt_of_cell? w _ yv)).trans yv),((HB.out.cell (World.block_lt_of_cell? w _ yw)).trans yw),((HB.out.cell (World.block_lt_of_cell? w _ yx)).trans yx),((HB.out.cell (World.block_lt_of_cell? w _ yy)).trans yy),((HB.out.cell (World.block_lt_of_cell? w _ yz)).trans yz),((HB.out.cell (World.block_lt_of_cell? w _ yA)).trans yA),((HB.out.cell (World.block_lt_of_cell? w _ yB)).trans yB),((HB.out.cell (World.block_lt_of_cell? w _ yC)).trans yC),((HB.out.cell (World.block_lt_of_cell? w _ yD)).trans yD),((HB.out.cell (World.block_lt_of_cell? w _ yE)).trans yE)⟩ (fun hHeld => ?_);refine zaG zo.tab6 zo.bits6 (fun HT_ HW_ => ?_)
         generalize wr.drew = w13 at HB yT yU yV yW yc yd ye yf yg yh yi yj yk yl ym yn yo yp hHeld ⊢
         refine puq (i := 0) (N := some 18) HT_.out (uQ 12 1) ?_
         refine puq (i := 1) (N := some 19) HT_.out (uQ 12 2) ?_
         refine puq (i := 2) (N := some 20) HT_.out (uQ 12 3) ?_
         refine puq (i := 3) (N := some 21) HT_.out (uQ 12 4) ?_
         refine puq (i := 5) (N := some 23) HT_.out #[true,true,true,true,false,true,false,false,false,false,false,false] ?_
         refine puq (i := 6) (N := some 24) HT_.out #[true,true,true,true,false,true,true,false,false,false,false,false] ?_
         refine puq (i := 7) (N := some 25) HT_.out #[true,true,true,true,false,true,true,true,false,false,false,false] ?_
         refine puq (i := 8) (N := some 26) HT_.out #[true,true,true,true,false,true,true,true,true,false,false,false] ?_
         refine take_ (i := 4) (N := some 22) (uQ 12 9) rfl rfl (zU HT_.out HW_.out (by kernel_rfl)) (fun _ _ _ h => h) (Or.inl ⟨by rfl,by rintro w' ⟨s0,s1,s2,s3,s4,s5,s6,s7,s8,s9,s10,s11,s12,s13⟩;go_simp;with_reducible rfl⟩) hHeld hPq ?_
         refine take_ (i := 9) (N := some 27) (uQ 12 10) rfl rfl (zU HT_.out HW_.out (by kernel_rfl)) (fun _ _ _ h => h) (Or.inl ⟨by rfl,by rintro w' ⟨s0,s1,s2,s3,s4,s5,s6,s7,s8,s9,s10,s11,s12,s13⟩;go_simp;with_reducible rfl⟩) hHeld hPq ?_
         refine zcl (i := 10) (N := some 28) (uQ 12 11) rfl rfl (zaY HT_.out (by kernel_rfl)) (by decide) (fun K hK => ?_)
         refine zbs Try.func25 (by kernel_rfl) rfl #[.agg #[.int .i64 ((zd l0 x5_1).f1.f0),.int .i64 ((zd l0 x5_1).f1.f1),.slice Yd ((zd l0 x5_1).f1.f2).length Yh,.slice Ye ((zd l0 x5_1).f1.f3).length Yi,.int .i64 ((zd l0 x5_1).f1.f4.f0),.int .i64 ((zd l0 x5_1).f1.f4.f1)],.agg #[.int .i64 ((zd l1 x5_1).f1.f0),.int .i64 ((zd l1 x5_1).f1.f1),.slice Yf ((zd l1 x5_1).f1.f2).length Yj,.slice Yg ((zd l1 x5_1).f1.f3).length Yk,.int .i64 ((zd l1 x5_1).f1.f4.f0),.int .i64 ((zd l1 x5_1).f1.f4.f1)]] (by rfl) rfl rfl hMq ?_
         with_reducible refine (zaR.calls k1 ((zd l0 x5_1).f1.f0) ((zd l0 x5_1).f1.f1) _ _ ((zd l0 x5_1).f1.f2) _ _ ((zd l0 x5_1).f1.f3) ((zd l0 x5_1).f1.f4.f0) ((zd l0 x5_1).f1.f4.f1) ((zd l1 x5_1).f1.f0) ((zd l1 x5_1).f1.f1) _ _ ((zd l1 x5_1).f1.f2) _ _ ((zd l1 x5_1).f1.f3) ((zd l1 x5_1).f1.f4.f0) ((zd l1 x5_1).f1.f4.f1) true _ ?side1 ?side2 ?side3 ?side4 ?side5 ?side6 ?side7 ?side8 A7.out).mono ?_
         (case side1 => exact hKq (Kd.C_below yT.out HB.out))
         (case side2 => exact Yl.out)
         (case side3 => exact hKq (Kd.C_below yU.out HB.out))
         (case side4 => exact Ym.out)
         (case side5 => exact hKq (Kd.C_below yV.out HB.out))
         (case side6 => exact Yn.out)
         (case side7 => exact hKq (Kd.C_below yW.out HB.out))
         (case side8 => exact Yo.out)
         rintro e w14 ⟨rfl,hb⟩
         refine ⟨_,rfl,?_⟩
         have n0_ := za.mk (zf hBq hb)
         clear HB
         have HB := n0_
         clear n0_
         (try clear hb)
         (try clear hb2)
         (try clear hk)
         (try clear hi)
         refine hK.out _ _ ⟨((HB.out.cell (World.block_lt_of_cell? w _ yq)).trans yq),((HB.out.cell (World.block_lt_of_cell? w _ yr)).trans yr),((HB.out.cell (World.block_lt_of_cell? w _ yt)).trans yt),((HB.out.cell (World.block_lt_of_cell? w _ yu)).trans yu),((HB.out.cell (World.block_lt_of_cell? w _ yv)).trans yv),((HB.out.cell (World.block_lt_of_cell? w _ yw)).trans yw),((HB.out.cell (World.block_lt_of_cell? w _ yx)).trans yx),((HB.out.cell (World.block_lt_of_cell? w _ yy)).trans yy),((HB.out.cell (World.block_lt_of_cell? w _ yz)).trans yz),((HB.out.cell (World.block_lt_of_cell? w _ yA)).trans yA),((HB.out.cell (World.block_lt_of_cell? w _ yB)).trans yB),((HB.out.cell (World.block_lt_of_cell? w _ yC)).trans yC),((HB.out.cell (World.block_lt_of_cell? w _ yD)).trans yD),((HB.out.cell (World.block_lt_of_cell? w _ yE)).trans yE)⟩ (fun hHeld => ?_)
         clear hK K
         refine zbu (a' := ?_) ?_ ?_
         rotate_left
         ·show Act.put _ (some 28) _ = _
          simp only [Act.put,List.setIfInBounds_toArray,List.set_cons_zero,List.set_cons_succ,zah,zaj]
          rfl
         refine puq (i := 11) (N := some 6) HT_.out (uQ 12 12) ?_
         refine zbG (zaM HT_.out (by kernel_rfl)) ?_
         try go_wp2
         have n0_ := za.mk (zp HB.out)
         clear HB
         have HB := n0_
         clear n0_
         have Y3 : 0 ≤ (x5_1 : Int) := hFq
         have Y5 : x5_1 < (l0.length : Int) := hFq
         obtain ⟨Y7,YT,YX,YU,YY,jg,yF,yG,yH,yI,yJ,yK,yL,Yt,Yp,Yu,Yq⟩ := za7 HR0.out x5_1 Y3 Y5
         have YD := yL
         have YC := yK
         have YB := yJ
         have YA := yI
         have Yz := yH
         have Yy := yG
         have Yx := yF
         obtain rfl : ya = Y7 := (by injection jg)
         replace yF := (HB.out.cell (World.block_lt_of_cell? w _ yF)).trans yF
         replace yG := (HB.out.cell (World.block_lt_of_cell? w _ yG)).trans yG
         replace yH := (HB.out.cell (World.block_lt_of_cell? w _ yH)).trans yH
         replace yI := (HB.out.cell (World.block_lt_of_cell? w _ yI)).trans yI
         replace yJ := (HB.out.cell (World.block_lt_of_cell? w _ yJ)).trans yJ
         replace yK := (HB.out.cell (World.block_lt_of_cell? w _ yK)).trans yK
         replace yL := (HB.out.cell (World.block_lt_of_cell? w _ yL)).trans yL
         have YP := za.mk Yp
         have jb := za.mk Yt
         clear Yp Yt
         have YQ := za.mk Yq
         have jc := za.mk Yu
         clear Yq Yu
         replace Y3 := eq_true Y3
         replace Y5 := eq_true Y5
         have Y4 : 0 ≤ (x5_1 : Int) := hFq
         have Y6 : x5_1 < (l1.length : Int) := hFq
         obtain ⟨Y8,YV,YZ,YW,Y0,jh,yM,yN,yO,yP,yQ,yR,yS,Yv,Yr,Yw,Ys⟩ := za7 HR1.out x5_1 Y4 Y6
         have YK := yS
         have YJ := yR
         have YI := yQ
         have YH := yP
         have YG := yO
         have YF := yN
         have YE := yM
         obtain rfl : yb = Y8 := (by injection jh)
         replace yM := (HB.out.cell (World.block_lt_of_cell? w _ yM)).trans yM
         replace yN := (HB.out.cell (World.block_lt_of_cell? w _ yN)).trans yN
         replace yO := (HB.out.cell (World.block_lt_of_cell? w _ yO)).trans yO
         replace yP := (HB.out.cell (World.block_lt_of_cell? w _ yP)).trans yP
         replace yQ := (HB.out.cell (World.block_lt_of_cell? w _ yQ)).trans yQ
         replace yR := (HB.out.cell (World.block_lt_of_cell? w _ yR)).trans yR
         replace yS := (HB.out.cell (World.block_lt_of_cell? w _ yS)).trans yS
         have YR := za.mk Yr
         have jd := za.mk Yv
         clear Yr Yv
         have YS := za.mk Ys
         have je := za.mk Yw
         clear Ys Yw
         replace Y4 := eq_true Y4
         replace Y6 := eq_true Y6
         refine zbx (n := 15) (S := fun w' => w'.cell? (ya.add ((x5_1).toNat * 7)) = some (.string ((zd l0 x5_1).f0)) ∧ w'.cell? ⟨(ya.add ((x5_1).toNat * 7)).block,(ya.add ((x5_1).toNat * 7)).off + 1,none⟩ = some (.int .i64 ((zd l0 x5_1).f1.f0)) ∧ w'.cell? ⟨(ya.add ((x5_1).toNat * 7)).block,(ya.add ((x5_1).toNat * 7)).off + 2,none⟩ = some (.int .i64 ((zd l0 x5_1).f1.f1)) ∧ w'.cell? ⟨(ya.add ((x5_1).toNat * 7)).block,(ya.add ((x5_1).toNat * 7)).off + 3,none⟩ = some (.slice YT ((zd l0 x5_1).f1.f2).length YX) ∧ w'.cell? ⟨(ya.add ((x5_1).toNat * 7)).block,(ya.add ((x5_1).toNat * 7)).off + 4,none⟩ = some (.slice YU ((zd l0 x5_1).f1.f3).length YY) ∧ w'.cell? ⟨(ya.add ((x5_1).toNat * 7)).block,(ya.add ((x5_1).toNat * 7)).off + 5,none⟩ = some (.int .i64 ((zd l0 x5_1).f1.f4.f0)) ∧ w'.cell? ⟨(ya.add ((x5_1).toNat * 7)).block,(ya.add ((x5_1).toNat * 7)).off + 6,none⟩ = some (.int .i64 ((zd l0 x5_1).f1.f4.f1)) ∧ w'.cell? (yb.add ((x5_1).toNat * 7)) = some (.string ((zd l1 x5_1).f0)) ∧ w'.cell? ⟨(yb.add ((x5_1).toNat * 7)).block,(yb.add ((x5_1).toNat * 7)).off + 1,none⟩ = some (.int .i64 ((zd l1 x5_1).f1.f0)) ∧ w'.cell? ⟨(yb.add ((x5_1).toNat * 7)).block,(yb.add ((x5_1).toNat * 7)).off + 2,none⟩ = some (.int .i64 ((zd l1 x5_1).f1.f1)) ∧ w'.cell? ⟨(yb.add ((x5_1).toNat * 7)).block,(yb.add ((x5_1).toNat * 7)).off + 3,none⟩ = some (.slice YV ((zd l1 x5_1).f1.f2).length YZ) ∧ w'.cell? ⟨(yb.add ((x5_1).toNat * 7)).block,(yb.add ((x5_1).toNat * 7)).off + 4,none⟩ = some (.slice YW ((zd l1 x5_1).f1.f3).length Y0) ∧ w'.cell? ⟨(yb.add ((x5_1).toNat * 7)).block,(yb.add ((x5_1).toNat * 7)).off + 5,none⟩ = some (.int .i64 ((zd l1 x5_1).f1.f4.f0)) ∧ w'.cell? ⟨(yb.add ((x5_1).toNat * 7)).block,(yb.add ((x5_1).toNat * 7)).off + 6,none⟩ = some (.int .i64 ((zd l1 x5_1).f1.f4.f1))) (ds := []) (uQ 15 0) (by kernel_rfl) rfl rfl ⟨((HB.out.cell (World.block_lt_of_cell? w _ Yx)).trans Yx),((HB.out.cell (World.block_lt_of_cell? w _ Yy)).trans Yy),((HB.out.cell (World.block_lt_of_cell? w _ Yz)).trans Yz),((HB.out.cell (World.block_lt_of_cell? w _ YA)).trans YA),((HB.out.cell (World.block_lt_of_cell? w _ YB)).trans YB),((HB.out.cell (World.block_lt_of_cell? w _ YC)).trans YC),((HB.out.cell (World.block_lt_of_cell? w _ YD)).trans YD),((HB.out.cell (World.block_lt_of_cell? w _ YE)).trans YE),((HB.out.cell (World.block_lt_of_cell? w _ YF)).trans YF),((HB.out.cell (World.block_lt_of_cell? w _ YG)).trans YG),((HB.out.cell (World.block_lt_of_cell? w _ YH)).trans YH),((HB.out.cell (World.block_lt_of_cell? w _ YI)).trans YI),((HB.out.cell (World.block_lt_of_cell? w _ YJ)).trans YJ),((HB.out.cell (World.block_lt_of_cell? w _ YK)).trans YK)⟩ (fun hHeld => ?_);refine zaG zo.tab7 zo.bits7 (fun HT_ HW_ => ?_)
         generalize w14.drew = w15 at HB YP YQ YR YS yF yG yH yI yJ yK yL yM yN yO yP yQ yR yS hHeld ⊢
         refine puq (i := 0) (N := some 29) HT_.out (uQ 15 1) ?_
         refine puq (i := 1) (N := some 30) HT_.out (uQ 15 2) ?_
         refine puq (i := 2) (N := some 31) HT_.out (uQ 15 3) ?_
         refine puq (i := 3) (N := some 32) HT_.out (uQ 15 4) ?_
         refine puq (i := 4) (N := some 33) HT_.out (uQ 15 5) ?_
         refine puq (i := 5) (N := some 34) HT_.out (uQ 15 6) ?_
         refine puq (i := 6) (N := some 35) HT_.out (uQ 15 7) ?_
         refine puq (i := 8) (N := some 37) HT_.out #[true,true,true,true,true,true,true,false,true,false,false,false,false,false,false] ?_
         refine puq (i := 9) (N := some 38) HT_.out #[true,true,true,true,true,true,true,false,true,true,false,false,false,false,false] ?_
         refine puq (i := 10) (N := some 39) HT_.out #[true,true,true,true,true,true,true,false,true,true,true,false,false,false,false] ?_
         refine puq (i := 11) (N := some 40) HT_.out #[true,true,true,true,true,true,true,false,true,true,true,true,false,false,false] ?_
         refine take_ (i := 7) (N := some 36) (uQ 15 12) rfl rfl (zU HT_.out HW_.out (by kernel_rfl)) (fun _ _ _ h => h) (Or.inl ⟨by rfl,by rintro w' ⟨s0,s1,s2,s3,s4,s5,s6,s7,s8,s9,s10,s11,s12,s13⟩;go_simp;with_reducible rfl⟩) hHeld hPq ?_
         refine take_ (i := 12) (N := some 41) (uQ 15 13) rfl rfl (zU HT_.out HW_.out (by kernel_rfl)) (fun _ _ _ h => h) (Or.inl ⟨by rfl,by rintro w' ⟨s0,s1,s2,s3,s4,s5,s6,s7,s8,s9,s10,s11,s12,s13⟩;go_simp;with_reducible rfl⟩) hHeld hPq ?_
         refine puq (i := 13) (N := some 42) HT_.out (uQ 15 14) ?_
         refine puq (i := 14) (N := some 43) HT_.out (uQ 15 15) ?_
         refine zbG (zaM HT_.out (by kernel_rfl)) ?_
         try go_wp2
         go_ret
         exact ⟨hHq,hBq⟩
       ·replace c8 := Bool.eq_false_iff.mpr c8
        subst c8
        have H1 : (some false) = some r := by rw [if_neg (show ¬ (false = true) by decide)] at H;exact H
        clear H
        have H := H1
        clear H1
        obtain rfl := Option.some.inj H
        try go_wp2
        have n0_ := za.mk (zp HB.out)
        clear HB
        have HB := n0_
        clear n0_
        have YL : 0 ≤ (x5_1 : Int) := hFq
        have YN : x5_1 < (l0.length : Int) := hFq
        obtain ⟨ya,Yd,Yh,Ye,Yi,Y9,yc,yd,ye,yf,yg,yh,yi,y9,yX,Ya,yY⟩ := za7 HR0.out x5_1 YL YN
        have yx := yi
        have yw := yh
        have yv := yg
        have yu := yf
        have yt := ye
        have yr := yd
        have yq := yc
        cases Y9
        replace yc := (HB.out.cell (World.block_lt_of_cell? w _ yc)).trans yc
        replace yd := (HB.out.cell (World.block_lt_of_cell? w _ yd)).trans yd
        replace ye := (HB.out.cell (World.block_lt_of_cell? w _ ye)).trans ye
        replace yf := (HB.out.cell (World.block_lt_of_cell? w _ yf)).trans yf
        replace yg := (HB.out.cell (World.block_lt_of_cell? w _ yg)).trans yg
        replace yh := (HB.out.cell (World.block_lt_of_cell? w _ yh)).trans yh
        replace yi := (HB.out.cell (World.block_lt_of_cell? w _ yi)).trans yi
        have yT := za.mk yX
        have Yl := za.mk y9
        clear yX y9
        have yU := za.mk yY
        have Ym := za.mk Ya
        clear yY Ya
        replace YL := eq_true YL
        replace YN := eq_true YN
        have YM : 0 ≤ (x5_1 : Int) := hFq
        have YO : x5_1 < (l1.length : Int) := hFq
        obtain ⟨yb,Yf,Yj,Yg,Yk,ja,yj,yk,yl,ym,yn,yo,yp,Yb,yZ,Yc,y8⟩ := za7 HR1.out x5_1 YM YO
        have yE := yp
        have yD := yo
        have yC := yn
        have yB := ym
        have yA := yl
        have yz := yk
        have yy := yj
        cases ja
        replace yj := (HB.out.cell (World.block_lt_of_cell? w _ yj)).trans yj
        replace yk := (HB.out.cell (World.block_lt_of_cell? w _ yk)).trans yk
        replace yl := (HB.out.cell (World.block_lt_of_cell? w _ yl)).trans yl
        replace ym := (HB.out.cell (World.block_lt_of_cell? w _ ym)).trans ym
        replace yn := (HB.out.cell (World.block_lt_of_cell? w _ yn)).trans yn
        replace yo := (HB.out.cell (World.block_lt_of_cell? w _ yo)).trans yo
        replace yp := (HB.out.cell (World.block_lt_of_cell? w _ yp)).trans yp
        have yV := za.mk yZ
        have Yn := za.mk Yb
        clear yZ Yb
        have yW := za.mk y8
        have Yo := za.mk Yc
        clear y8 Yc
        replace YM := eq_true YM
        replace YO := eq_true YO
        refine zbx (n := 12) (S := fun w' => w'.cell? (ya.add ((x5_1).toNat * 7)) = some (.string ((zd l0 x5_1).f0)) ∧ w'.cell? ⟨(ya.add ((x5_1).toNat * 7)).block,(ya.add ((x5_1).toNat * 7)).off + 1,none⟩ = some (.int .i64 ((zd l0 x5_1).f1.f0)) ∧ w'.cell? ⟨(ya.add ((x5_1).toNat * 7)).block,(ya.add ((x5_1).toNat * 7)).off + 2,none⟩ = some (.int .i64 ((zd l0 x5_1).f1.f1)) ∧ w'.cell? ⟨(ya.add ((x5_1).toNat * 7)).block,(ya.add ((x5_1).toNat * 7)).off + 3,none⟩ = some (.slice Yd ((zd l0 x5_1).f1.f2).length Yh) ∧ w'.cell? ⟨(ya.add ((x5_1).toNat * 7)).block,(ya.add ((x5_1).toNat * 7)).off + 4,none⟩ = some (.slice Ye ((zd l0 x5_1).f1.f3).length Yi) ∧ w'.cell? ⟨(ya.add ((x5_1).toNat * 7)).block,(ya.add ((x5_1).toNat * 7)).off + 5,none⟩ = some (.int .i64 ((zd l0 x5_1).f1.f4.f0)) ∧ w'.cell? ⟨(ya.add ((x5_1).toNat * 7)).block,(ya.add ((x5_1).toNat * 7)).off + 6,none⟩ = some (.int .i64 ((zd l0 x5_1).f1.f4.f1)) ∧ w'.cell? (yb.add ((x5_1).toNat * 7)) = some (.string ((zd l1 x5_1).f0)) ∧ w'.cell? ⟨(yb.add ((x5_1).toNat * 7)).block,(yb.add ((x5_1).toNat * 7)).off + 1,none⟩ = some (.int .i64 ((zd l1 x5_1).f1.f0)) ∧ w'.cell? ⟨(yb.add ((x5_1).toNat * 7)).block,(yb.add ((x5_1).toNat * 7)).off + 2,none⟩ = some (.int .i64 ((zd l1 x5_1).f1.f1)) ∧ w'.cell? ⟨(yb.add ((x5_1).toNat * 7)).block,(yb.add ((x5_1).toNat * 7)).off + 3,none⟩ = some (.slice Yf ((zd l1 x5_1).f1.f2).length Yj) ∧ w'.cell? ⟨(yb.add ((x5_1).toNat * 7)).block,(yb.add ((x5_1).toNat * 7)).off + 4,none⟩ = some (.slice Yg ((zd l1 x5_1).f1.f3).length Yk) ∧ w'.cell? ⟨(yb.add ((x5_1).toNat * 7)).block,(yb.add ((x5_1).toNat * 7)).off + 5,none⟩ = some (.int .i64 ((zd l1 x5_1).f1.f4.f0)) ∧ w'.cell? ⟨(yb.add ((x5_1).toNat * 7)).block,(yb.add ((x5_1).toNat * 7)).off + 6,none⟩ = some (.int .i64 ((zd l1 x5_1).f1.f4.f1))) (ds := []) (uQ 12 0) (by kernel_rfl) rfl rfl ⟨((HB.out.cell (World.block_lt_of_cell? w _ yq)).trans yq),((HB.out.cell (World.block_lt_of_cell? w _ yr)).trans yr),((HB.out.cell (World.block_lt_of_cell? w _ yt)).trans yt),((HB.out.cell (World.block_lt_of_cell? w _ yu)).trans yu),((HB.out.cell (World.block_lt_of_cell? w _ yv)).trans yv),((HB.out.cell (World.block_lt_of_cell? w _ yw)).trans yw),((HB.out.cell (World.block_lt_of_cell? w _ yx)).trans yx),((HB.out.cell (World.block_lt_of_cell? w _ yy)).trans yy),((HB.out.cell (World.block_lt_of_cell? w _ yz)).trans yz),((HB.out.cell (World.block_lt_of_cell? w _ yA)).trans yA),((HB.out.cell (World.block_lt_of_cell? w _ yB)).trans yB),((HB.out.cell (World.block_lt_of_cell? w _ yC)).trans yC),((HB.out.cell (World.block_lt_of_cell? w _ yD)).trans yD),((HB.out.cell (World.block_lt_of_cell? w _ yE)).trans yE)⟩ (fun hHeld => ?_);refine zaG zo.tab6 zo.bits6 (fun HT_ HW_ => ?_)
        generalize wr.drew = w16 at HB yT yU yV yW yc yd ye yf yg yh yi yj yk yl ym yn yo yp hHeld ⊢
        refine puq (i := 0) (N := some 18) HT_.out (uQ 12 1) ?_
        refine puq (i := 1) (N := some 19) HT_.out (uQ 12 2) ?_
        refine puq (i := 2) (N := some 20) HT_.out (uQ 12 3) ?_
        refine puq (i := 3) (N := some 21) HT_.out (uQ 12 4) ?_
        refine puq (i := 5) (N := some 23) HT_.out #[true,true,true,true,false,true,false,false,false,false,false,false] ?_
        refine puq (i := 6) (N := some 24) HT_.out #[true,true,true,true,false,true,true,false,false,false,false,false] ?_
        refine puq (i := 7) (N := some 25) HT_.out #[true,true,true,true,false,true,true,true,false,false,false,false] ?_
        refine puq (i := 8) (N := some 26) HT_.out #[true,true,true,true,false,true,true,true,true,false,false,false] ?_
        refine take_ (i := 4) (N := some 22) (uQ 12 9) rfl rfl (zU HT_.out HW_.out (by kernel_rfl)) (fun _ _ _ h => h) (Or.inl ⟨by rfl,by rintro w' ⟨s0,s1,s2,s3,s4,s5,s6,s7,s8,s9,s10,s11,s12,s13⟩;go_simp;with_reducible rfl⟩) hHeld hPq ?_
        refine take_ (i := 9) (N := some 27) (uQ 12 10) rfl rfl (zU HT_.out HW_.out (by kernel_rfl)) (fun _ _ _ h => h) (Or.inl ⟨by rfl,by rintro w' ⟨s0,s1,s2,s3,s4,s5,s6,s7,s8,s9,s10,s11,s12,s13⟩;go_simp;with_reducible rfl⟩) hHeld hPq ?_
        refine zcl (i := 10) (N := some 28) (uQ 12 11) rfl rfl (zaY HT_.out (by kernel_rfl)) (by decide) (fun K hK => ?_)
        refine zbs Try.func25 (by kernel_rfl) rfl #[.agg #[.int .i64 ((zd l0 x5_1).f1.f0),.int .i64 ((zd l0 x5_1).f1.f1),.slice Yd ((zd l0 x5_1).f1.f2).length Yh,.slice Ye ((zd l0 x5_1).f1.f3).length Yi,.int .i64 ((zd l0 x5_1).f1.f4.f0),.int .i64 ((zd l0 x5_1).f1.f4.f1)],.agg #[.int .i64 ((zd l1 x5_1).f1.f0),.int .i64 ((zd l1 x5_1).f1.f1),.slice Yf ((zd l1 x5_1).f1.f2).length Yj,.slice Yg ((zd l1 x5_1).f1.f3).length Yk,.int .i64 ((zd l1 x5_1).f1.f4.f0),.int .i64 ((zd l1 x5_1).f1.f4.f1)]] (by rfl) rfl rfl hMq ?_
        with_reducible refine (zaR.calls k1 ((zd l0 x5_1).f1.f0) ((zd l0 x5_1).f1.f1) _ _ ((zd l0 x5_1).f1.f2) _ _ ((zd l0 x5_1).f1.f3) ((zd l0 x5_1).f1.f4.f0) ((zd l0 x5_1).f1.f4.f1) ((zd l1 x5_1).f1.f0) ((zd l1 x5_1).f1.f1) _ _ ((zd l1 x5_1).f1.f2) _ _ ((zd l1 x5_1).f1.f3) ((zd l1 x5_1).f1.f4.f0) ((zd l1 x5_1).f1.f4.f1) false _ ?side1 ?side2 ?side3 ?side4 ?side5 ?side6 ?side7 ?side8 A7.out).mono ?_
        (case side1 => exact hKq (Kd.C_below yT.out HB.out))
        (case side2 => exact Yl.out)
        (case side3 => exact hKq (Kd.C_below yU.out HB.out))
        (case side4 => exact Ym.out)
        (case side5 => exact hKq (Kd.C_below yV.out HB.out))
        (case side6 => exact Yn.out)
        (case side7 => exact hKq (Kd.C_below yW.out HB.out))
        (case side8 => exact Yo.out)
        rintro e w17 ⟨rfl,hb⟩
        refine ⟨_,rfl,?_⟩
        have n0_ := za.mk (zf hBq hb)
        clear HB
        have HB := n0_
        clear n0_
        (try clear hb)
        (try clear hb2)
        (try clear hk)
        (try clear hi)
        refine hK.out _ _ ⟨((HB.out.cell (World.block_lt_of_cell? w _ yq)).trans yq),((HB.out.cell (World.block_lt_of_cell? w _ yr)).trans yr),((HB.out.cell (World.block_lt_of_cell? w _ yt)).trans yt),((HB.out.cell (World.block_lt_of_cell? w _ yu)).trans yu),((HB.out.cell (World.block_lt_of_cell? w _ yv)).trans yv),((HB.out.cell (World.block_lt_of_cell? w _ yw)).trans yw),((HB.out.cell (World.block_lt_of_cell? w _ yx)).trans yx),((HB.out.cell (World.block_lt_of_cell? w _ yy)).trans yy),((HB.out.cell (World.block_lt_of_cell? w _ yz)).trans yz),((HB.out.cell (World.block_lt_of_cell? w _ yA)).trans yA),((HB.out.cell (World.block_lt_of_cell? w _ yB)).trans yB),((HB.out.cell (World.block_lt_of_cell? w _ yC)).trans yC),((HB.out.cell (World.block_lt_of_cell? w _ yD)).trans yD),((HB.out.cell (World.block_lt_of_cell? w _ yE)).trans yE)⟩ (fun hHeld => ?_)
        clear hK K
        refine zbu (a' := ?_) ?_ ?_
        rotate_left
        ·show Act.put _ (some 28) _ = _
         simp only [Act.put,List.setIfInBounds_toArray,List.set_cons_zero,List.set_cons_succ,zah,zaj]
         rfl
        refine puq (i := 11) (N := some 6) HT_.out (uQ 12 12) ?_
        refine zbG (zaM HT_.out (by kernel_rfl)) ?_
        try go_wp2
        have n0_ := za.mk (zp HB.out)
        clear HB
        have HB := n0_
        clear n0_
        refine zbx (n := 15) (S := fun w' => True) (ds := []) (uQ 15 0) (by kernel_rfl) rfl rfl trivial (fun hHeld => ?_);refine zaG zo.tab7 zo.bits7 (fun HT_ HW_ => ?_)
        generalize w17.drew = w18 at HB hHeld ⊢
        refine puq (i := 0) (N := some 29) HT_.out (uQ 15 1) ?_
        refine puq (i := 1) (N := some 30) HT_.out (uQ 15 2) ?_
        refine puq (i := 2) (N := some 31) HT_.out (uQ 15 3) ?_
        refine zbY (i := 3) (N := some 32) (v := undef) (a' := ?_) (uQ 15 4) rfl rfl (zbk HT_.out (by kernel_rfl)) (fun _ _ _ h => h) (Or.inr ⟨by rfl,rfl⟩) ?_ ?_
        rotate_left
        ·simp only [Act.put,List.setIfInBounds_toArray,List.set_cons_zero,List.set_cons_succ,zah,zaj]
         rfl
        refine zbY (i := 4) (N := some 33) (v := undef) (a' := ?_) (uQ 15 5) rfl rfl (zbk HT_.out (by kernel_rfl)) (fun _ _ _ h => h) (Or.inr ⟨by rfl,rfl⟩) ?_ ?_
        rotate_left
        ·simp only [Act.put,List.setIfInBounds_toArray,List.set_cons_zero,List.set_cons_succ,zah,zaj]
         rfl
        refine zbY (i := 5) (N := some 34) (v := undef) (a' := ?_) (uQ 15 6) rfl rfl (zbk HT_.out (by kernel_rfl)) (fun _ _ _ h => h) (Or.inr ⟨by rfl,rfl⟩) ?_ ?_
        rotate_left
        ·simp only [Act.put,List.setIfInBounds_toArray,List.set_cons_zero,List.set_cons_succ,zah,zaj]
         rfl
        refine zbY (i := 6) (N := some 35) (v := undef) (a' := ?_) (uQ 15 7) rfl rfl (zbk HT_.out (by kernel_rfl)) (fun _ _ _ h => h) (Or.inr ⟨by rfl,rfl⟩) ?_ ?_
        rotate_left
        ·simp only [Act.put,List.setIfInBounds_toArray,List.set_cons_zero,List.set_cons_succ,zah,zaj]
         rfl
        refine zbY (i := 7) (N := some 36) (v := undef) (a' := ?_) (uQ 15 8) rfl rfl (zbk HT_.out (by kernel_rfl)) (fun _ _ _ h => h) (Or.inr ⟨by rfl,rfl⟩) ?_ ?_
        rotate_left
        ·simp only [Act.put,List.setIfInBounds_toArray,List.set_cons_zero,List.set_cons_succ,zah,zaj]
         rfl
        refine zbY (i := 8) (N := some 37) (v := undef) (a' := ?_) (uQ 15 9) rfl rfl (zbk HT_.out (by kernel_rfl)) (fun _ _ _ h => h) (Or.inr ⟨by rfl,rfl⟩) ?_ ?_
        rotate_left
        ·simp only [Act.put,List.setIfInBounds_toArray,List.set_cons_zero,List.set_cons_succ,zah,zaj]
         rfl
        refine zbY (i := 9) (N := some 38) (v := undef) (a' := ?_) (uQ 15 10) rfl rfl (zbk HT_.out (by kernel_rfl)) (fun _ _ _ h => h) (Or.inr ⟨by rfl,rfl⟩) ?_ ?_
        rotate_left
        ·simp only [Act.put,List.setIfInBounds_toArray,List.set_cons_zero,List.set_cons_succ,zah,zaj]
         rfl
        refine zbY (i := 10) (N := some 39) (v := undef) (a' := ?_) (uQ 15 11) rfl rfl (zbk HT_.out (by kernel_rfl)) (fun _ _ _ h => h) (Or.inr ⟨by rfl,rfl⟩) ?_ ?_
        rotate_left
        ·simp only [Act.put,List.setIfInBounds_toArray,List.set_cons_zero,List.set_cons_succ,zah,zaj]
         rfl
        refine zbY (i := 11) (N := some 40) (v := undef) (a' := ?_) (uQ 15 12) rfl rfl (zbk HT_.out (by kernel_rfl)) (fun _ _ _ h => h) (Or.inr ⟨by rfl,rfl⟩) ?_ ?_
        rotate_left
        ·simp only [Act.put,List.setIfInBounds_toArray,List.set_cons_zero,List.set_cons_succ,zah,zaj]
         rfl
        refine zbY (i := 12) (N := some 41) (v := undef) (a' := ?_) (uQ 15 13) rfl rfl (zbk HT_.out (by kernel_rfl)) (fun _ _ _ h => h) (Or.inr ⟨by rfl,rfl⟩) ?_ ?_
        rotate_left
        ·simp only [Act.put,List.setIfInBounds_toArray,List.set_cons_zero,List.set_cons_succ,zah,zaj]
         rfl
        refine zbY (i := 13) (N := some 42) (v := undef) (a' := ?_) (uQ 15 14) rfl rfl (zbk HT_.out (by kernel_rfl)) (fun _ _ _ h => h) (Or.inr ⟨by rfl,rfl⟩) ?_ ?_
        rotate_left
        ·simp only [Act.put,List.setIfInBounds_toArray,List.set_cons_zero,List.set_cons_succ,zah,zaj]
         rfl
        refine puq (i := 14) (N := some 43) HT_.out (uQ 15 15) ?_
        refine zbG (zaM HT_.out (by kernel_rfl)) ?_
        try go_wp2
        go_ret
        exact ⟨hHq,hBq⟩
      ·rw [if_neg c6] at H
       exact absurd H (by simp)
     ·rw [if_neg c5] at H
      exact absurd H (by simp)
    ·rw [if_neg c4] at H
     have c4b0 : decide (x5_1 < (l0.length : Int)) = false := decide_eq_false c4
     clear c4
     obtain rfl := Option.some.inj H
     go_wp2
     go_ret
     exact ⟨hHq,hBq⟩
 ·rw [if_neg c3] at H
  have c3b0 : ((l0.length : Int) == (l1.length : Int)) = false := beq_eq_false_iff_ne.mpr c3
  have c3b1 : ((l0.length : Int) != (l1.length : Int)) = true := bne_iff_ne.mpr c3
  have c3b2 : (l0.length == l1.length) = false := by first | simpa using c3 | (simp at c3 ⊢;omega)
  obtain rfl := Option.some.inj H
  go_enter Try.func10,Try.ntmps10
  go_wp2
  go_ret
  exact ⟨hHq,hBq⟩
def zaB.f (a0_0 : Int) (a0_1 : Int) (l0_2 : List (S78)) (l0_3 : List ByteArray) (a0_4 : Int) (a0_5 : Int) (a1_0 : Int) (a1_1 : Int) (l1_2 : List (S78)) (l1_3 : List ByteArray) (a1_4 : Int) (a1_5 : Int) : Option (Bool) := if a0_1 = a1_1 then (some (decide (a0_0 < a1_0))) else (some (decide (a0_1 < a1_1)))
set_option maxHeartbeats 8000000 in
set_option maxRecDepth 100000 in
theorem zaB.calls (a0_0 : Int) (a0_1 : Int) (A0_2 : Option Addr) (c0_2 : Nat) (l0_2 : List (S78)) (A0_3 : Option Addr) (c0_3 : Nat) (l0_3 : List ByteArray) (a0_4 : Int) (a0_5 : Int) (a1_0 : Int) (a1_1 : Int) (A1_2 : Option Addr) (c1_2 : Nat) (l1_2 : List (S78)) (A1_3 : Option Addr) (c1_3 : Nat) (l1_3 : List ByteArray) (a1_4 : Int) (a1_5 : Int) (r : Bool) (w : World) (hr0_2 : Kd.C k78 w A0_2 l0_2.length l0_2) (hc0_2 : l0_2.length ≤ c0_2) (hr0_3 : Kd.C Kd.string w A0_3 l0_3.length l0_3) (hc0_3 : l0_3.length ≤ c0_3) (hr1_2 : Kd.C k78 w A1_2 l1_2.length l1_2) (hc1_2 : l1_2.length ≤ c1_2) (hr1_3 : Kd.C Kd.string w A1_3 l1_3.length l1_3) (hc1_3 : l1_3.length ≤ c1_3) (h : zaB.f a0_0 a0_1 l0_2 l0_3 a0_4 a0_5 a1_0 a1_1 l1_2 l1_3 a1_4 a1_5 = some r) :
  Calls Try.prog 22 #[.agg #[.int .i64 a0_0,.int .i64 a0_1,.slice A0_2 l0_2.length c0_2,.slice A0_3 l0_3.length c0_3,.int .i64 a0_4,.int .i64 a0_5],.agg #[.int .i64 a1_0,.int .i64 a1_1,.slice A1_2 l1_2.length c1_2,.slice A1_3 l1_3.length c1_3,.int .i64 a1_4,.int .i64 a1_5]] w fun e w' => e = .returned (.bool r) ∧ Below w.heap.size w w' := by
 have hu32 := Try.underlying32
 have HR0_2 := za.mk hr0_2
 have HC0_2 := za.mk hc0_2
 clear hr0_2 hc0_2
 have HR0_3 := za.mk hr0_3
 have HC0_3 := za.mk hc0_3
 clear hr0_3 hc0_3
 have HR1_2 := za.mk hr1_2
 have HC1_2 := za.mk hc1_2
 clear hr1_2 hc1_2
 have HR1_3 := za.mk hr1_3
 have HC1_3 := za.mk hc1_3
 clear hr1_3 hc1_3
 have HB := za.mk (Below.refl w.heap.size w)
 have H : (if a0_1 = a1_1 then (some (decide (a0_0 < a1_0))) else (some (decide (a0_1 < a1_1)))) = some r := h
 clear h
 by_cases c3 : a0_1 = a1_1
 ·rw [if_pos c3] at H
  have c3b0 : (a0_1 == a1_1) = true := beq_iff_eq.mpr c3
  have c3b1 : (a0_1 != a1_1) = false := bne_eq_false_iff_eq.mpr c3
  clear c3
  obtain rfl := Option.some.inj H
  go_enter Try.func22,Try.ntmps22
  go_wp2_with (first | ((with_reducible refine zq (N := 2) rfl ?_);refine zn rfl (N := 2) rfl (cs := #[.int .i64 a0_0,.int .i64 a0_1,.slice A0_2 l0_2.length c0_2,.slice A0_3 l0_3.length c0_3,.int .i64 a0_4,.int .i64 a0_5]) (t := 32) hrq ?_;intro yd hg w4 hbox hb;have n_ := haq (zf hBq hb) <| haq (hbox) <| haq ((by rw [hg];exact (zh hBq) : w.heap.size ≤ yd)) <| haq ((by rw [hg];exact (zh hBq) : w.heap.size ≤ yd)) <| trivial;clear HB;obtain ⟨HB,ya,yi,yg,_⟩ := n_;clear hb hbox hg) | ((with_reducible refine zq (N := 3) rfl ?_);refine zn rfl (N := 3) rfl (cs := #[.int .i64 a1_0,.int .i64 a1_1,.slice A1_2 l1_2.length c1_2,.slice A1_3 l1_3.length c1_3,.int .i64 a1_4,.int .i64 a1_5]) (t := 32) hrq ?_;intro ye hg w5 hbox hb;have n_ := haq (hbq ya.out hb) <| haq (zf hCq hb) <| haq (hbox) <| haq ((by rw [hg];exact (zh hCq) : w.heap.size ≤ ye)) <| haq ((by rw [hg];exact (zh hCq) : w.heap.size ≤ ye)) <| haq (hnq hg ya.out) <| haq (hmq hg ya.out) <| trivial;clear ya HB;obtain ⟨ya,HB,yf,yj,yh,yb,yc,_⟩ := n_;clear hb hbox hg;have hnb6 := yb.out;have hnc6 := yc.out;obtain ⟨hcz7_0,hcz7_1,hcz7_2,hcz7_3,hcz7_4,hcz7_5,hfz7_0,hfz7_1,hfz7_2,hfz7_3,hfz7_4,hfz7_5⟩ := hcq6 ya.out;obtain ⟨hcz8_0,hcz8_1,hcz8_2,hcz8_3,hcz8_4,hcz8_5,hfz8_0,hfz8_1,hfz8_2,hfz8_3,hfz8_4,hfz8_5⟩ := hcq6 yf.out))
  go_ret
  exact ⟨hHq,hCq⟩
 ·rw [if_neg c3] at H
  have c3b0 : (a0_1 == a1_1) = false := beq_eq_false_iff_ne.mpr c3
  have c3b1 : (a0_1 != a1_1) = true := bne_iff_ne.mpr c3
  obtain rfl := Option.some.inj H
  go_enter Try.func22,Try.ntmps22
  go_wp2_with (first | ((with_reducible refine zq (N := 2) rfl ?_);refine zn rfl (N := 2) rfl (cs := #[.int .i64 a0_0,.int .i64 a0_1,.slice A0_2 l0_2.length c0_2,.slice A0_3 l0_3.length c0_3,.int .i64 a0_4,.int .i64 a0_5]) (t := 32) hrq ?_;intro yd hg w9 hbox hb;have n_ := haq (zf hBq hb) <| haq (hbox) <| haq ((by rw [hg];exact (zh hBq) : w.heap.size ≤ yd)) <| haq ((by rw [hg];exact (zh hBq) : w.heap.size ≤ yd)) <| trivial;clear HB;obtain ⟨HB,ya,yi,yg,_⟩ := n_;clear hb hbox hg) | ((with_reducible refine zq (N := 3) rfl ?_);refine zn rfl (N := 3) rfl (cs := #[.int .i64 a1_0,.int .i64 a1_1,.slice A1_2 l1_2.length c1_2,.slice A1_3 l1_3.length c1_3,.int .i64 a1_4,.int .i64 a1_5]) (t := 32) hrq ?_;intro ye hg w10 hbox hb;have n_ := haq (hbq ya.out hb) <| haq (zf hCq hb) <| haq (hbox) <| haq ((by rw [hg];exact (zh hCq) : w.heap.size ≤ ye)) <| haq ((by rw [hg];exact (zh hCq) : w.heap.size ≤ ye)) <| haq (hnq hg ya.out) <| haq (hmq hg ya.out) <| trivial;clear ya HB;obtain ⟨ya,HB,yf,yj,yh,yb,yc,_⟩ := n_;clear hb hbox hg;have hnb11 := yb.out;have hnc11 := yc.out;obtain ⟨hcz12_0,hcz12_1,hcz12_2,hcz12_3,hcz12_4,hcz12_5,hfz12_0,hfz12_1,hfz12_2,hfz12_3,hfz12_4,hfz12_5⟩ := hcq6 ya.out;obtain ⟨hcz13_0,hcz13_1,hcz13_2,hcz13_3,hcz13_4,hcz13_5,hfz13_0,hfz13_1,hfz13_2,hfz13_3,hfz13_4,hfz13_5⟩ := hcq6 yf.out))
  go_ret
  exact ⟨hHq,hCq⟩
def zR.l0 : Nat → Int → List (S34) → Int → Int → Int → List (S34) → Option ((List (S34)))
 | 0,_,_,_,_,_,_ => none
 | k + 1,x1,x5,x6,yP,yQ,yc => if x6 < (yc.length : Int) then (if 0 ≤ x6 then (if ((zd yc x6).f1.f1) = x1 then (if x5.length < 1466015503701 then (zR.l0 k x1 (x5 ++ [(⟨(zd yc x6).f0,(⟨(zd yc x6).f1.f0,(zd yc x6).f1.f1,(zd yc x6).f1.f2,(zd yc x6).f1.f3,(⟨(zd yc x6).f1.f4.f0,(zd yc x6).f1.f4.f1⟩ : S30)⟩ : S32)⟩ : S34)]) (wrap64 (x6 + 1)) yP yQ yc) else (none)) else (zR.l0 k x1 x5 (wrap64 (x6 + 1)) yP yQ yc)) else (none)) else (some x5)
def zR.f (k : Nat) (a0_0 : Int) (a0_1 : Int) (l0_2 : List (S34)) (a1 : Int) : Option ((List (S34))) := zR.l0 k a1 ([] : List (S34)) 0 a0_0 a0_1 l0_2
set_option maxHeartbeats 8000000 in
set_option maxRecDepth 100000 in
theorem zR.calls (k : Nat) (a0_0 : Int) (a0_1 : Int) (P0_2_ : Nat → Prop) (A0_2 : Option Addr) (c0_2 : Nat) (l0_2 : List (S34)) (a1 : Int) (r : List (S34)) (w : World) (hs0_2 : Kd.V k34 34 w w.heap.size (fun k_ => P0_2_ k_) (.slice A0_2 l0_2.length c0_2) l0_2) (h : zR.f k a0_0 a0_1 l0_2 a1 = some r) :
  Calls Try.prog 42 #[.agg #[.int .i64 a0_0,.int .i64 a0_1,.slice A0_2 l0_2.length c0_2],.int .i64 a1] w fun e w' => ∃ v0_ : Value,e = .returned (v0_) ∧ Kd.N k34 34 w' w.heap.size (fun k_ => (P0_2_ k_ ∨ w.heap.size ≤ k_)) v0_ r ∧ Below w.heap.size w w' := by
 have hu24 := Try.underlying24
 have hu34 := Try.underlying34
 have HO0_2 := za.mk (show Kd.V k34 34 w w.heap.size (fun k_ => (P0_2_ k_ ∨ w.heap.size ≤ k_)) (.slice A0_2 l0_2.length c0_2) l0_2 from Kd.V_mono hs0_2 (fun k_ hk => .inl hk))
 have HB := za.mk (Below.refl w.heap.size w)
 have H : (zR.l0 k a1 ([] : List (S34)) 0 a0_0 a0_1 l0_2) = some r := h
 clear h
 have H' := za.mk H
 clear H
 go_enter Try.func42,Try.ntmps42
 go_wp2_with (first | ((with_reducible refine zq (N := 2) rfl ?_);refine zn rfl (N := 2) rfl (cs := #[.int .i64 a0_0,.int .i64 a0_1,.slice A0_2 l0_2.length c0_2]) (t := 24) hrq ?_;intro yb hg w3 hbox hb;have n_ := haq (Kd.V_below (Kd.V_elderB (by (with_reducible repeat (first | apply Kd.V_alloc | apply Kd.V_drewN | apply Kd.V_drew));exact HO0_2.out) yb (Nat.le_of_eq hg.symm)) hb) <| haq (zf hBq hb) <| haq (hbox) <| haq ((by rw [hg];exact (zh hBq) : w.heap.size ≤ yb)) <| haq ((by rw [hg];exact (zh hBq) : w.heap.size ≤ yb)) <| trivial;clear HO0_2 HB;obtain ⟨HO0_2,HB,yj,YJ,yT,_⟩ := n_;clear hb hbox hg))
 go_loopg [5,6] k (fun kq v5 v6 w' => ∃ (x5_1 : List (S34)) (x6_1 : Int),v6 = .int .i64 x6_1 ∧ za (zR.l0 kq a1 x5_1 x6_1 a0_0 a0_1 l0_2 = some r) ∧ za (kq ≤ k) ∧ za (Kd.N k34 34 w' w.heap.size (fun k_ => (P0_2_ k_ ∨ w.heap.size ≤ k_) ∧ k_ ≠ yb) v5 x5_1) ∧ za (Kd.V k34 34 w' w.heap.size (fun k_ => (P0_2_ k_ ∨ w.heap.size ≤ k_) ∧ some k_ ≠ (v5 : Value).ownBlock ∧ k_ ≠ yb) (.slice A0_2 l0_2.length c0_2) l0_2) ∧ za (w'.heap[yb]? = some (.cells #[.int .i64 a0_0,.int .i64 a0_1,(.slice A0_2 l0_2.length c0_2)] 24 (0,0))) ∧ za (Below w.heap.size w w'))
 case atStart => exact ⟨(([] : List (S34))),(0),(hDq),H',⟨Nat.le_refl _⟩,⟨by first | exact Kd.R_nil _ _ _ _ _ | exact Kd.N_nil _ _ _ _ _ | exact Kd.V_nil _ _ _ _ _ | exact Kd.Q_nil _ _ _ _ _ | exact Kd.S_nil _ _ _ _ _⟩,⟨by (with_reducible repeat (first | apply Kd.V_alloc | apply Kd.V_drewN | apply Kd.V_drew));exact Kd.V_mono HO0_2.out (fun _ hk => ⟨hk.1,⟨(by simp [Value.ownBlock]),hk.2⟩⟩)⟩,⟨hGq yj.out⟩,⟨by repeat (first | (with_reducible first | exact HB.out | apply zm | apply zj | apply zp | refine zl ?_ yT.out) | exact HB.out)⟩⟩
 case round =>
  clear H'
  try clear p2
  obtain ⟨x5_1,x6_1,rfl,HA,HK1,HO_5,ya,yj,HB⟩ := hrel
  cases gk with
  | zero => exact absurd HA.out (by simp [zR.l0])
  | succ k1 =>
   have H := HA.out
   clear HA
   simp only [zR.l0] at H
   by_cases c4 : x6_1 < (l0_2.length : Int)
   ·rw [if_pos c4] at H
    have c4b0 : decide (x6_1 < (l0_2.length : Int)) = true := decide_eq_true c4
    clear c4
    by_cases c5 : 0 ≤ x6_1
    ·rw [if_pos c5] at H
     have c5b0 : decide (0 ≤ x6_1) = true := decide_eq_true c5
     clear c5
     by_cases c6 : ((zd l0_2 x6_1).f1.f1) = a1
     ·rw [if_pos c6] at H
      have c6b0 : (((zd l0_2 x6_1).f1.f1) == a1) = true := beq_iff_eq.mpr c6
      have c6b1 : (((zd l0_2 x6_1).f1.f1) != a1) = false := bne_eq_false_iff_eq.mpr c6
      clear c6
      by_cases c7 : x5_1.length < 1466015503701
      ·rw [if_pos c7] at H
       have LMc7 := za.mk c7
       clear c7
       obtain ⟨Yq,yE⟩ : ∃ y_ : List (S34),y_ = (x5_1 ++ [(⟨(zd l0_2 x6_1).f0,(⟨(zd l0_2 x6_1).f1.f0,(zd l0_2 x6_1).f1.f1,(zd l0_2 x6_1).f1.f2,(zd l0_2 x6_1).f1.f3,(⟨(zd l0_2 x6_1).f1.f4.f0,(zd l0_2 x6_1).f1.f4.f1⟩ : S30)⟩ : S32)⟩ : S34)]) := ⟨_,rfl⟩
       replace H : (zR.l0 k1 a1 Yq (wrap64 (x6_1 + 1)) a0_0 a0_1 l0_2) = some r := by first | (rw [yE];with_reducible exact H) | (have H2_ := (Option.bind_some _ _).symm.trans H;rw [yE];with_reducible exact H2_) | (have H2_ := (Option.bind_some _ _).symm.trans H;with_reducible exact H2_) | with_reducible exact H | (rw [yE];exact H) | exact H
       have Yn := za.mk yE
       clear yE
       have H' := za.mk H
       clear H
       obtain ⟨hcz8_0,hcz8_1,hcz8_2,hfz8_0,hfz8_1,hfz8_2⟩ := hcq3 yj.out
       have yA : 0 ≤ (x6_1 : Int) := hFq
       have yB : x6_1 < (l0_2.length : Int) := hFq
       obtain ⟨yI,yR,yU,yS,yV,Yj,y8,y9,Ya,yw,yx,Yb,Yc,yp,yn,yq,yo⟩ := za7 (Kd.V_reads' ya.out).2.2 x6_1 yA yB
       cases Yj
       obtain ⟨Yp,yH,yF,yk⟩ := Kd.V_get ya.out z34 x6_1 yA (by first | exact yB | exact hFq | (have e_ := (Kd.V_reads' ya.out).1;omega))
       obtain ⟨Yf,Yh,Yg,Yi,rfl,yh,yf,yi,yg⟩ := zbJ yF
       have yd := yk 3 _ rfl
       rw [zW _ _ 3 (by omega)] at yd
       replace yd := Option.some.inj (yd.symm.trans yw)
       injection yd with hva_ hvn_ hvc_
       rw [hva_] at yf
       rw [hvc_] at yh
       have yr := za.mk (show Kd.V k78 78 _ w.heap.size _ _ ((zd l0_2 x6_1).f1.f2) from Kd.V_mk yh yf)
       clear hva_ hvn_ hvc_ yf yh
       have ye := yk 4 _ rfl
       rw [zW _ _ 4 (by omega)] at ye
       replace ye := Option.some.inj (ye.symm.trans yx)
       injection ye with hva_ hvn_ hvc_
       rw [hva_] at yg
       rw [hvc_] at yi
       have yt := za.mk (show Kd.V Kd.string 9 _ w.heap.size _ _ ((zd l0_2 x6_1).f1.f3) from Kd.V_mk yi yg)
       clear hva_ hvn_ hvc_ yg yi
       clear yk yH
       have yY := za.mk yn
       have yW := za.mk yp
       clear yn yp
       have yZ := za.mk yo
       have yX := za.mk yq
       clear yo yq
       replace yA := eq_true yA
       replace yB := eq_true yB
       have Yd : 0 ≤ (x6_1 : Int) := hFq
       have Ye : x6_1 < (l0_2.length : Int) := hFq
       obtain ⟨Yo,YE,YG,YF,YH,YI,Yv,Yw,Yx,yN,yO,Yy,Yz,yL,yJ,yM,yK⟩ := za7 (Kd.V_reads' ya.out).2.2 x6_1 Yd Ye
       obtain rfl : yI = Yo := (by injection YI)
       obtain ⟨YK,Yl,Yk,yG⟩ := Kd.V_get ya.out z34 x6_1 Yd (by first | exact Ye | exact hFq | (have e_ := (Kd.V_reads' ya.out).1;omega))
       obtain ⟨YA,YC,YB,YD,rfl,yC,yy,yD,yz⟩ := zbJ Yk
       have yu := yG 3 _ rfl
       rw [zW _ _ 3 (by omega)] at yu
       replace yu := Option.some.inj (yu.symm.trans yN)
       injection yu with hva_ hvn_ hvc_
       rw [hva_] at yy
       rw [hvc_] at yC
       have yl := za.mk (show Kd.V k78 78 _ w.heap.size _ _ ((zd l0_2 x6_1).f1.f2) from Kd.V_mk yC yy)
       clear hva_ hvn_ hvc_ yy yC
       have yv := yG 4 _ rfl
       rw [zW _ _ 4 (by omega)] at yv
       replace yv := Option.some.inj (yv.symm.trans yO)
       injection yv with hva_ hvn_ hvc_
       rw [hva_] at yz
       rw [hvc_] at yD
       have ym := za.mk (show Kd.V Kd.string 9 _ w.heap.size _ _ ((zd l0_2 x6_1).f1.f3) from Kd.V_mk yD yz)
       clear hva_ hvn_ hvc_ yz yD
       clear yG Yl
       have Yt := za.mk yJ
       have Yr := za.mk yL
       clear yJ yL
       have Yu := za.mk yK
       have Ys := za.mk yM
       clear yK yM
       replace Yd := eq_true Yd
       replace Ye := eq_true Ye
       have ea_ := Option.some.inj (yw.symm.trans yN)
       injection ea_ with ea_ en_ ec_
       subst ea_
       subst ec_
       clear en_
       have ea_ := Option.some.inj (yx.symm.trans yO)
       injection ea_ with ea_ en_ ec_
       subst ea_
       subst ec_
       clear en_
       go_wp2_with (first | ((with_reducible refine zbz (b := .append) (xs := #[.tmp 23,.tmp 29]) rfl ?_);at_builtin;refine Kd.N_append k34 (w0 := w) w.heap.size rfl (.tmp 23) (.tmp 29) 22 34 (.agg #[(.string ⟨#[]⟩),(.int .i64 0),(.int .i64 0),(.slice none 0 0),(.slice none 0 0),(.int .i64 0),(.int .i64 0)]) 96 rfl Try.underlying22 zdQ rfl (by decide) (by omega) u5 x5_1 (⟨(zd l0_2 x6_1).f0,(⟨(zd l0_2 x6_1).f1.f0,(zd l0_2 x6_1).f1.f1,(zd l0_2 x6_1).f1.f2,(zd l0_2 x6_1).f1.f3,(⟨(zd l0_2 x6_1).f1.f4.f0,(zd l0_2 x6_1).f1.f4.f1⟩ : S30)⟩ : S32)⟩ : S34) [.string ((zd l0_2 x6_1).f0),.int .i64 ((zd l0_2 x6_1).f1.f0),.int .i64 ((zd l0_2 x6_1).f1.f1),.slice yR ((zd l0_2 x6_1).f1.f2).length yU,.slice yS ((zd l0_2 x6_1).f1.f3).length yV,.int .i64 ((zd l0_2 x6_1).f1.f4.f0),.int .i64 ((zd l0_2 x6_1).f1.f4.f1)] (fun k_ => (P0_2_ k_ ∨ w.heap.size ≤ k_) ∧ k_ ≠ yb) (fun k_ => ((fun k_ => (P0_2_ k_ ∨ w.heap.size ≤ k_) ∧ k_ ≠ yb)) k_ ∧ some k_ ≠ (u5 : Value).ownBlock) rfl rfl ?aP (fun _ hk => hk) ?aF ?aO ?aB ?aS ?aL ?_;(case aP => exact (zfX _ _ (⟨(zd l0_2 x6_1).f0,(⟨(zd l0_2 x6_1).f1.f0,(zd l0_2 x6_1).f1.f1,(zd l0_2 x6_1).f1.f2,(zd l0_2 x6_1).f1.f3,(⟨(zd l0_2 x6_1).f1.f4.f0,(zd l0_2 x6_1).f1.f4.f1⟩ : S30)⟩ : S32)⟩ : S34) (Kd.V_reads' (Kd.V_mono (ok' := (fun k_ => ((fun k_ => (P0_2_ k_ ∨ w.heap.size ≤ k_) ∧ k_ ≠ yb)) k_ ∧ some k_ ≠ (u5 : Value).ownBlock)) (yl.out) (fun k_ hk => ⟨⟨hk.1,hk.2.2⟩,hk.2.1⟩))).2.1 (Kd.V_F (Kd.V_mono (ok' := (fun k_ => ((fun k_ => (P0_2_ k_ ∨ w.heap.size ≤ k_) ∧ k_ ≠ yb)) k_ ∧ some k_ ≠ (u5 : Value).ownBlock)) (yl.out) (fun k_ hk => ⟨⟨hk.1,hk.2.2⟩,hk.2.1⟩))) (Kd.V_reads' (Kd.V_mono (ok' := (fun k_ => ((fun k_ => (P0_2_ k_ ∨ w.heap.size ≤ k_) ∧ k_ ≠ yb)) k_ ∧ some k_ ≠ (u5 : Value).ownBlock)) (ym.out) (fun k_ hk => ⟨⟨hk.1,hk.2.2⟩,hk.2.1⟩))).2.1 (Kd.V_F (Kd.V_mono (ok' := (fun k_ => ((fun k_ => (P0_2_ k_ ∨ w.heap.size ≤ k_) ∧ k_ ≠ yb)) k_ ∧ some k_ ≠ (u5 : Value).ownBlock)) (ym.out) (fun k_ hk => ⟨⟨hk.1,hk.2.2⟩,hk.2.1⟩)))));(case aB => exact hCq);(case aF => exact (fun k_ hk => ⟨(.inr (Nat.le_trans (zh hCq) hk)),Kd.freshB (g := yb) (o := .cells #[.int .i64 a0_0,.int .i64 a0_1,.slice (some yI) l0_2.length c0_2] 24 (0,0)) (hGq yj.out) k_ hk⟩));(case aO => exact (by (with_reducible repeat (first | apply Kd.N_alloc | apply Kd.N_drewN | apply Kd.N_drew));exact HO_5.out));(case aS => exact (zh hCq));(case aL => have := LMc7.out;omega);intro YL w9 ho hb hg hat;rw [← Yn.out] at ho;have n_ := haq (Kd.V_afterv (ok := (fun k_ => (P0_2_ k_ ∨ w.heap.size ≤ k_) ∧ k_ ≠ yb)) (by (with_reducible repeat (first | apply Kd.V_alloc | apply Kd.V_drewN | apply Kd.V_drew));exact Kd.V_mono ya.out (fun _ hk => ⟨⟨hk.1,hk.2.2⟩,hk.2.1⟩)) hg hat) <| haq (zaV (g := yb) (o := .cells #[.int .i64 a0_0,.int .i64 a0_1,.slice (some yI) l0_2.length c0_2] 24 (0,0)) (hGq yj.out) hg (Kd.N_ne HO_5.out yj.out (by decide))) <| haq (Kd.V_afterv (ok := (fun k_ => (P0_2_ k_ ∨ w.heap.size ≤ k_) ∧ k_ ≠ yb)) (by (with_reducible repeat (first | apply Kd.V_alloc | apply Kd.V_drewN | apply Kd.V_drew));exact Kd.V_mono yr.out (fun _ hk => ⟨⟨hk.1,hk.2.2⟩,hk.2.1⟩)) hg hat) <| haq (Kd.V_afterv (ok := (fun k_ => (P0_2_ k_ ∨ w.heap.size ≤ k_) ∧ k_ ≠ yb)) (by (with_reducible repeat (first | apply Kd.V_alloc | apply Kd.V_drewN | apply Kd.V_drew));exact Kd.V_mono yt.out (fun _ hk => ⟨⟨hk.1,hk.2.2⟩,hk.2.1⟩)) hg hat) <| haq (Kd.V_afterv (ok := (fun k_ => (P0_2_ k_ ∨ w.heap.size ≤ k_) ∧ k_ ≠ yb)) (by (with_reducible repeat (first | apply Kd.V_alloc | apply Kd.V_drewN | apply Kd.V_drew));exact Kd.V_mono yl.out (fun _ hk => ⟨⟨hk.1,hk.2.2⟩,hk.2.1⟩)) hg hat) <| haq (Kd.V_afterv (ok := (fun k_ => (P0_2_ k_ ∨ w.heap.size ≤ k_) ∧ k_ ≠ yb)) (by (with_reducible repeat (first | apply Kd.V_alloc | apply Kd.V_drewN | apply Kd.V_drew));exact Kd.V_mono ym.out (fun _ hk => ⟨⟨hk.1,hk.2.2⟩,hk.2.1⟩)) hg hat) <| haq (hb) <| haq (ho) <| trivial;clear ya yj yr yt yl ym HB HO_5;obtain ⟨ya,yj,yr,yt,yl,ym,HB,Ym,_⟩ := n_;clear ho hb hg hat))
       go_roundg k1
       case measure => have := HK1.out;omega
       case rel => exact ⟨(Yq),(wrap64 (x6_1 + 1)),(hDq),H',⟨by have := HK1.out;omega⟩,⟨by (with_reducible repeat (first | apply Kd.N_alloc | apply Kd.N_drewN | apply Kd.N_drew));exact Ym.out⟩,⟨by (with_reducible repeat (first | apply Kd.V_alloc | apply Kd.V_drewN | apply Kd.V_drew));exact Kd.V_mono ya.out (fun _ hk => ⟨hk.1.1,⟨hk.2,hk.1.2⟩⟩)⟩,⟨hGq yj.out⟩,⟨by repeat (first | (with_reducible first | exact HB.out | apply zm | apply zj | apply zp | refine zl ?_ yT.out) | exact HB.out)⟩⟩
      ·rw [if_neg c7] at H
       exact absurd H (by simp)
     ·rw [if_neg c6] at H
      have c6b0 : (((zd l0_2 x6_1).f1.f1) == a1) = false := beq_eq_false_iff_ne.mpr c6
      have c6b1 : (((zd l0_2 x6_1).f1.f1) != a1) = true := bne_iff_ne.mpr c6
      have H' := za.mk H
      clear H
      obtain ⟨hcz10_0,hcz10_1,hcz10_2,hfz10_0,hfz10_1,hfz10_2⟩ := hcq3 yj.out
      have yA : 0 ≤ (x6_1 : Int) := hFq
      have yB : x6_1 < (l0_2.length : Int) := hFq
      obtain ⟨yI,yR,yU,yS,yV,Yj,y8,y9,Ya,yw,yx,Yb,Yc,yp,yn,yq,yo⟩ := za7 (Kd.V_reads' ya.out).2.2 x6_1 yA yB
      cases Yj
      obtain ⟨Yp,yH,yF,yk⟩ := Kd.V_get ya.out z34 x6_1 yA (by first | exact yB | exact hFq | (have e_ := (Kd.V_reads' ya.out).1;omega))
      obtain ⟨Yf,Yh,Yg,Yi,rfl,yh,yf,yi,yg⟩ := zbJ yF
      have yd := yk 3 _ rfl
      rw [zW _ _ 3 (by omega)] at yd
      replace yd := Option.some.inj (yd.symm.trans yw)
      injection yd with hva_ hvn_ hvc_
      rw [hva_] at yf
      rw [hvc_] at yh
      have yr := za.mk (show Kd.V k78 78 _ w.heap.size _ _ ((zd l0_2 x6_1).f1.f2) from Kd.V_mk yh yf)
      clear hva_ hvn_ hvc_ yf yh
      have ye := yk 4 _ rfl
      rw [zW _ _ 4 (by omega)] at ye
      replace ye := Option.some.inj (ye.symm.trans yx)
      injection ye with hva_ hvn_ hvc_
      rw [hva_] at yg
      rw [hvc_] at yi
      have yt := za.mk (show Kd.V Kd.string 9 _ w.heap.size _ _ ((zd l0_2 x6_1).f1.f3) from Kd.V_mk yi yg)
      clear hva_ hvn_ hvc_ yg yi
      clear yk yH
      have yY := za.mk yn
      have yW := za.mk yp
      clear yn yp
      have yZ := za.mk yo
      have yX := za.mk yq
      clear yo yq
      replace yA := eq_true yA
      replace yB := eq_true yB
      go_wp2
      go_roundg k1
      case measure => have := HK1.out;omega
      case rel => exact ⟨(x5_1),(wrap64 (x6_1 + 1)),(hDq),H',⟨by have := HK1.out;omega⟩,⟨by (with_reducible repeat (first | apply Kd.N_alloc | apply Kd.N_drewN | apply Kd.N_drew));exact HO_5.out⟩,⟨by (with_reducible repeat (first | apply Kd.V_alloc | apply Kd.V_drewN | apply Kd.V_drew));exact ya.out⟩,⟨hGq yj.out⟩,⟨by repeat (first | (with_reducible first | exact HB.out | apply zm | apply zj | apply zp | refine zl ?_ yT.out) | exact HB.out)⟩⟩
    ·rw [if_neg c5] at H
     exact absurd H (by simp)
   ·rw [if_neg c4] at H
    have c4b0 : decide (x6_1 < (l0_2.length : Int)) = false := decide_eq_false c4
    clear c4
    obtain rfl := Option.some.inj H
    obtain ⟨hcz11_0,hcz11_1,hcz11_2,hfz11_0,hfz11_1,hfz11_2⟩ := hcq3 yj.out
    go_wp2
    go_ret
    exact ⟨_,hHq,by (with_reducible repeat (first | apply Kd.N_alloc | apply Kd.N_drewN | apply Kd.N_drew));exact Kd.N_mono HO_5.out (fun _ hk => hk.1),hCq⟩
end Go.Proofs.Ytndjfdakflaggaa.Px