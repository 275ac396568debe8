/- Part 23 of 24 of the proof of the law CertGrows: what is proved is the statement at the end of the last part; its conditions are those of the given row. -/
import Derived.Test.YtcncoepijagadaaZCertGrowsV
namespace Go.Proofs.Ytcncoepijagadaa.Px
open Go.RowKit Go.Proofs.YtcncoepijagadaaW.PrintWords Go.Proofs.YtcncoepijagadaaW.PrintLast Go.Proofs.YtcncoepijagadaaW.PrintMore
attribute [local go_sem] zp zr zy zz zl zm zq zs
set_option linter.unusedVariables false
set_option linter.unusedSimpArgs false
theorem zfv (a0 : Int) (a1 : ByteArray) (b0 : Int) (b1 : ByteArray) (ha : a1.size < 4611686018427387904) : ∃ q k,zaW.f k a0 a1 b0 b1 = some q := by
 obtain ⟨k,hk⟩ := (zhq a1 b1 ha).rounds
 unfold zaW.f
 by_cases h1 : a0 < b0
 ·exact ⟨true,k,by rw [hk];simp only [Option.bind_some];rw [if_pos h1]⟩
 ·by_cases h2 : a0 = b0
  ·exact ⟨_,k,by rw [hk];simp only [Option.bind_some];rw [if_neg h1,if_pos h2]⟩
  ·exact ⟨false,k,by rw [hk];simp only [Option.bind_some];rw [if_neg h1,if_neg h2]⟩
def upT (n k : Nat) : Array Bool := (List.replicate k true ++ List.replicate (n - k) false).toArray
structure zbx (w W : World) (g3 : Nat) (o3 : Obj) : Prop where
 b : Below w.heap.size w W
 c3 : W.heap[g3]? = some o3
theorem zbx.step {w W W' : World} {g3 : Nat} {o3 : Obj} (h : zbx w W g3 o3) (hb : Below W.heap.size W W') : zbx w W' g3 o3 := ⟨zd h.b hb,zx h.c3 hb⟩
theorem zbx.drew {w W : World} {g3 : Nat} {o3 : Obj} (h : zbx w W g3 o3) : zbx w W.drew g3 o3 := ⟨zn h.b,zav h.c3⟩
theorem zbx.grown {w w8 W W' : World} {g3 : Nat} {o3 : Obj} (h8 : zbx w w8 g3 o3) (h : zbx w W g3 o3) {row : Option Nat} (hg : W.grownBy W' row) (hr : ∀ k,row = some k → w8.heap.size ≤ k) : zbx w W' g3 o3 :=
 ⟨ze8 h.b row (zf h.b) hg (fun k hk => Nat.le_trans (zf h8.b) (hr k hk)),zdo h.c3 hg (fun he => by have := hr _ he.symm;have := za6 h8.c3;omega)⟩
def refPut.T5 : Bool × List (List Nat × List Nat) := (true,[([],[]),([],[]),([1],[1]),([0,2],[0,2]),([3],[3]),([4],[4]),([4],[4]),([4],[4]),([6,7,4],[4,6,7]),([8,4],[4,8]),([5,9,4,4],[4,5,9]),([10,4],[4,10]),([4,11],[4,11])])
def refPut.B5 : List Nat := [0,0,2,7,15,31,31,31,223,479,1023,2047,4095]
theorem refPut.tab5 : zbT .any (ze5 Try.f7 5) = refPut.T5 := by kernel_rfl
theorem refPut.bits5 : zbU refPut.T5.2 refPut.B5 = true := by kernel_rfl
set_option maxHeartbeats 16000000 in
set_option maxRecDepth 100000 in
theorem refPut.same (b : List S40) (A : Option Addr) (c : Nat) (x0 : Int) (x1 : ByteArray) (w : World) (hr : Kd.C k40 w A b.length b) (hc : b.length ≤ c) (kh : Nat) (has : Bool) (hk : zM.f kh b x0 x1 = some has) (h : has = true ∨ has = false ∧ decide (x0 < 1) = true ∨ has = false ∧ decide (x0 < 1) = false ∧ decide (64 < x0) = true) :
  Calls Try.prog 7 #[.slice A b.length c,.agg #[.int .i64 x0,.string x1]] w fun e w' => ∃ (R : List S40) (A' : Option Addr) (c' : Nat),e = .returned (.slice A' R.length c') ∧ Kd.C k40 w' A' R.length R ∧ R.length ≤ c' ∧ (∀ s ∈ b,s ∈ R) ∧ R.length ≤ b.length + 1 ∧ Below w.heap.size w w' := by
 have HR := za.mk hr
 have HC := za.mk hc
 have HK := za.mk hk
 clear hr hc hk
 have Hw := za.mk (Below.refl w.heap.size w)
 rcases h with rfl | ⟨rfl,e1⟩ | ⟨rfl,e1,e2⟩
 all_goals
  go_enter Try.func7,Try.ntmps7
  go_wp2_with (first
   | ((with_reducible refine zo (N := 3) rfl ?_);refine zk rfl (N := 3) rfl (cs := #[.int .i64 x0,.string x1]) (t := 40) hrq ?_;intro g3 hg u1 hbox hb;have Gw_g3 := za.mk (adg Hw.out hg);replace Hw := za.mk (adl Hw.out hb);have Bg3 := za.mk hbox;clear hbox hb hg;obtain ⟨zg3_0,zg3_1,fg3_0,fg3_1⟩ := hcq2 Bg3.out)
   | (go_at_call 17;refine (zM.calls kh _ _ b x0 x1 _ _ (Kd.C_below HR.out (adw Hw.out)) HC.out HK.out).mono ?_;rintro e u2 ⟨rfl,hb⟩;clear zg3_0 zg3_1 fg3_0 fg3_1;replace Bg3 := za.mk (adb Bg3.out hb);replace Hw := za.mk (adl Hw.out hb);clear hb;obtain ⟨zg3_0,zg3_1,fg3_0,fg3_1⟩ := hcq2 Bg3.out))
  go_ret
  exact ⟨b,A,c,rfl,Kd.C_below HR.out (adw Hw.out),HC.out,fun s h => h,Nat.le_succ _,adw Hw.out⟩
set_option maxHeartbeats 32000000 in
set_option maxRecDepth 100000 in
theorem refPut.new (b : List S40) (A : Option Addr) (c : Nat) (x0 : Int) (x1 : ByteArray) (w : World) (hr : Kd.C k40 w A b.length b) (hc : b.length ≤ c) (hL : b.length + 1 ≤ 5864062014805) (hx : x1.size < 4611686018427387904) (kh : Nat) (hk : zM.f kh b x0 x1 = some false) (e1 : decide (x0 < 1) = false) (e2 : decide (64 < x0) = false) :
  Calls Try.prog 7 #[.slice A b.length c,.agg #[.int .i64 x0,.string x1]] w fun e w' => ∃ (R : List S40) (A' : Option Addr) (c' : Nat),e = .returned (.slice A' R.length c') ∧ Kd.C k40 w' A' R.length R ∧ R.length ≤ c' ∧ (∀ s ∈ b,s ∈ R) ∧ R.length ≤ b.length + 1 ∧ Below w.heap.size w w' := by
 have HFB : za (Kd.F k40 w (fun k_ => k_ < w.heap.size) A b.length b) := ⟨Kd.C_F (Kd.heap_iso _ (Kd.heap_pair (Kd.heap_int .i64) Kd.heap_string)) hr⟩
 have HL := za.mk hL
 have HXS := za.mk hx
 have HR := za.mk hr
 have HC := za.mk hc
 have HK := za.mk hk
 clear hr hk hL hx
 have Hw := za.mk (Below.refl w.heap.size w)
 go_enter Try.func7,Try.ntmps7
 go_wp2_with (first
  | ((with_reducible refine zo (N := 3) rfl ?_);refine zk rfl (N := 3) rfl (cs := #[.int .i64 x0,.string x1]) (t := 40) hrq ?_;intro g3 hg u1 hbox hb;have Gw_g3 := za.mk (adg Hw.out hg);replace Hw := za.mk (adl Hw.out hb);have Bg3 := za.mk hbox;clear hbox hb hg;obtain ⟨zg3_0,zg3_1,fg3_0,fg3_1⟩ := hcq2 Bg3.out)
  | (go_at_call 17;refine (zM.calls kh _ _ b x0 x1 _ _ (Kd.C_below HR.out (adw Hw.out)) HC.out HK.out).mono ?_;rintro e u2 ⟨rfl,hb⟩;clear zg3_0 zg3_1 fg3_0 fg3_1;replace Bg3 := za.mk (adb Bg3.out hb);replace Hw := za.mk (adl Hw.out hb);clear hb;obtain ⟨zg3_0,zg3_1,fg3_0,fg3_1⟩ := hcq2 Bg3.out))
 have M1 : za (zbx w u2 g3 (.cells #[.int .i64 x0,.string x1] 40 (0,0))) := ⟨⟨Hw.out,Bg3.out⟩⟩
 clear Bg3 Hw zg3_0 zg3_1 fg3_0 fg3_1 e1 e2
 go_loopw [6] (fun v6 wr => ∃ k : Nat,v6 = .int .i64 k ∧ k ≤ b.length ∧ za (zbx w wr g3 (.cells #[.int .i64 x0,.string x1] 40 (0,0)))) (fun v6 _ => b.length - (intOf v6).toNat)
 case atStart => exact ⟨0,rfl,Nat.zero_le _,M1⟩
 case round =>
  clear M1
  obtain ⟨k,rfl,hkk,HM1⟩ := hrel
  have HIJ := za.mk hkk
  have hmx := HL.out
  by_cases hlt : k < b.length
  ·have HLT := za.mk hlt
   obtain ⟨ad,rfl,hx0,hx1⟩ := zcy HR.out (k : Int) (by omega) (by omega)
   rw [Int.toNat_natCast] at hx0 hx1
   have hb : decide (k < b.length) = true := decide_eq_true hlt
   have hb2 : decide ((k : Int) < (b.length : Int)) = true := decide_eq_true (by omega)
   have p3_ : ((0 : Int) ≤ (k : Int)) = True := eq_true (by omega)
   have p4_ : ((k : Int) < (b.length : Int)) = True := eq_true (by omega)
   generalize zR b (k : Int) = s at *
   obtain ⟨s0,s1⟩ := s
   have HPR : za (∀ w',Below w.heap.size w w' → w'.cell? (ad.add (k * 2)) = some (.int .i64 s0) ∧ w'.cell? ⟨(ad.add (k * 2)).block,(ad.add (k * 2)).off + 1,none⟩ = some (.string s1)) := ⟨fun w' hb' => ⟨(hb'.cell (World.block_lt_of_cell? w _ hx0)).trans hx0,(hb'.cell (World.block_lt_of_cell? w _ hx1)).trans hx1⟩⟩
   obtain ⟨q,ka,hA⟩ := zfv x0 x1 s0 s1 HXS.out
   have HA := za.mk hA
   clear hx0 hx1 hA
   have MK : za (∀ w' : World,zbx w w' g3 (.cells #[.int .i64 x0,.string x1] 40 (0,0)) → w'.cell? ⟨g3,0,none⟩ = some (.int .i64 x0) ∧ w'.cell? ⟨g3,1,none⟩ = some (.string x1) ∧ zbx w w' g3 (.cells #[.int .i64 x0,.string x1] 40 (0,0))) := ⟨fun w' h => ⟨(zb h.c3 0).trans rfl,(zb h.c3 1).trans rfl,h⟩⟩
   have LM : za (∀ w' : World,(w'.cell? ⟨g3,0,none⟩ = some (.int .i64 x0) ∧ w'.cell? ⟨g3,1,none⟩ = some (.string x1) ∧ zbx w w' g3 (.cells #[.int .i64 x0,.string x1] 40 (0,0))) → zbx w w' g3 (.cells #[.int .i64 x0,.string x1] 40 (0,0))) := ⟨fun w' h => h.2.2⟩
   go_wp2_with fail
   refine zcq (n := 13) (S := fun w' => w'.cell? ⟨g3,0,none⟩ = some (.int .i64 x0) ∧ w'.cell? ⟨g3,1,none⟩ = some (.string x1) ∧ zbx w w' g3 (.cells #[.int .i64 x0,.string x1] 40 (0,0))) (ds := []) (upT 13 0) (by kernel_rfl) rfl rfl (MK.out _ HM1.out.drew) (fun hHeld => ?_);refine zbM refPut.tab5 refPut.bits5 (fun HT_ HW_ => ?_)
   refine za4 (i := 0) (N := some 23) (upT 13 1) rfl rfl (zbn HT_.out (by kernel_rfl)) (fun _ _ _ h => h) (Or.inl ⟨by rfl,by intro w';go_simp;with_reducible rfl⟩) hPq ?_
   refine za4 (i := 1) (N := some 24) (upT 13 2) rfl rfl (zbn HT_.out (by kernel_rfl)) (fun _ _ _ h => h) (Or.inl ⟨by rfl,by intro w';go_simp;with_reducible rfl⟩) hPq ?_
   refine za4 (i := 2) (N := some 25) (upT 13 3) rfl rfl (zbn HT_.out (by kernel_rfl)) (fun _ _ _ h => h) (Or.inl ⟨by rfl,by intro w';go_simp;with_reducible rfl⟩) hPq ?_
   refine za4 (i := 3) (N := some 26) (upT 13 4) rfl rfl (zbn HT_.out (by kernel_rfl)) (fun _ _ _ h => h) (Or.inl ⟨by rfl,by intro w';go_simp;with_reducible rfl⟩) hPq ?_
   refine za4 (i := 4) (N := some 27) (upT 13 5) rfl rfl (zbn HT_.out (by kernel_rfl)) (fun _ _ _ h => h) (Or.inl ⟨by rfl,by intro w';go_simp;with_reducible rfl⟩) hPq ?_
   refine take_ (i := 5) (N := some 28) (upT 13 6) rfl rfl (zaD HT_.out HW_.out (by kernel_rfl)) (fun _ _ _ h => h) (Or.inl ⟨by rfl,by rintro w' ⟨r0,r1,hM⟩;go_simp;with_reducible rfl⟩) hHeld hPq ?_
   refine za4 (i := 6) (N := some 29) (upT 13 7) rfl rfl (zbn HT_.out (by kernel_rfl)) (fun _ _ _ h => h) (Or.inl ⟨by rfl,by intro w';go_simp;with_reducible rfl⟩) hPq ?_
   refine za4 (i := 7) (N := some 30) (upT 13 8) rfl rfl (zbn HT_.out (by kernel_rfl)) (fun _ _ _ h => h) (Or.inl ⟨by rfl,by intro w';go_simp;with_reducible rfl⟩) hPq ?_
   refine za4 (i := 8) (N := some 31) (upT 13 9) rfl rfl (zbn HT_.out (by kernel_rfl)) (fun _ _ _ h => h) (Or.inl ⟨by rfl,by intro w';go_simp;with_reducible rfl⟩) hPq ?_
   refine take_ (i := 9) (N := some 32) (upT 13 10) rfl rfl (zaD HT_.out HW_.out (by kernel_rfl)) (fun _ _ _ h => h) (Or.inl ⟨by rfl,by rintro w' ⟨r0,r1,hM⟩;obtain ⟨q0,q1⟩ := HPR.out w' hM.b;go_simp;with_reducible rfl⟩) hHeld hPq ?_
   refine zcg (i := 10) (N := some 33) (upT 13 11) rfl rfl (zbp HT_.out (by kernel_rfl)) (by decide) (fun K hK => ?_)
   refine zbz Try.func18 (by kernel_rfl) rfl #[.agg #[.int .i64 x0,.string x1],.agg #[.int .i64 s0,.string s1]] (by rfl) rfl rfl (by (try simp only [List.map_toArray,List.map_cons,List.map_nil]);first | done | rfl) ?_
   refine (zaW.calls ka x0 x1 s0 s1 q _ HA.out).mono ?_
   rintro e y1 ⟨rfl,hb⟩
   refine ⟨_,rfl,?_⟩
   refine hK.out _ _ (MK.out _ ((LM.out _ hHeld).step hb)) (fun hHeld => ?_)
   clear hK K
   refine zbr (a' := ?_) ?_ ?_
   rotate_left
   ·show Act.put _ (some 33) _ = _
    simp only [Act.put,List.setIfInBounds_toArray,List.set_cons_zero,List.set_cons_succ,zaB,zaL]
    rfl
   refine za4 (i := 11) (N := some 34) (upT 13 12) rfl rfl (zbn HT_.out (by kernel_rfl)) (fun _ _ _ h => h) (Or.inl ⟨by rfl,by intro w';go_simp;with_reducible rfl⟩) hPq ?_
   refine za4 (i := 12) (N := some 35) (upT 13 13) rfl rfl (zbn HT_.out (by kernel_rfl)) (fun _ _ _ h => h) (Or.inl ⟨by rfl,by intro w';go_simp;with_reducible rfl⟩) hPq ?_
   refine zdc (zcu HT_.out (by kernel_rfl)) ?_
   have HM3 := za.mk (LM.out _ hHeld)
   clear hHeld HT_ HW_ HM1
   rcases q with _ | _
   ·go_wp2_with fail
    go_roundw
    all_goals first | (case rel => exact ⟨k + 1,by go_num,by have := HLT.out;omega,HM3⟩) | (case measure => have := HLT.out;simp [intOf];omega)
   ·clear hb hb2 p3_ p4_
    have hij := HIJ.out
    obtain ⟨i0_,hi0_,_,hsz_,_⟩ := info_parts zcV
    have hcut := zh3 (P := Try.prog) 22 40 .i64 Try.underlying22 hi0_ (some ad) b.length c (k : Int) (by omega) (by omega) HC.out
    obtain ⟨AX,hAX⟩ : ∃ AX,AX = (if c = (k : Int).toNat then (some ad) else ((some ad) : Option Addr).map (·.add ((k : Int).toNat * 2))) := ⟨_,rfl⟩
    have hcut2 := zgu (P := Try.prog) 22 40 .i64 Try.underlying22 hi0_ 2 hsz_ (some ad) b.length c (k : Int) (by omega) (by omega)
    rw [← hAX,Int.toNat_natCast] at hcut2
    rw [Int.toNat_natCast] at hcut hAX
    obtain ⟨m2,hm2⟩ : ∃ m2,m2 = b.length - k := ⟨_,rfl⟩
    obtain ⟨c2',hc2'⟩ : ∃ c2',c2' = c - k := ⟨_,rfl⟩
    rw [← hm2,← hc2'] at hcut2
    have HTK : za (∀ W,Below w.heap.size w W → Kd.F k40 W (fun k_ => k_ < w.heap.size) (some ad) k (b.take k)) := ⟨fun W hW => by have h := Kd.F_take (m := k) (Kd.F_below HFB.out hW) hij;rwa [List.length_take,Nat.min_eq_left hij] at h⟩
    have HDP : za (∀ W,Below w.heap.size w W → Kd.F k40 W (fun k_ => k_ < w.heap.size) AX m2 (b.drop k)) := ⟨fun W hW => by have h := Kd.F_cut (m := k) (c := c) (Kd.F_below HFB.out hW) hij HC.out;rw [List.length_drop,← hm2] at h;rw [hAX];exact h⟩
    have HM2_ := za.mk hm2
    have p1_ : ((k : Int) ≤ (b.length : Int)) = True := eq_true (by omega)
    have p2_ : ((k : Int) ≤ (c : Int)) = True := eq_true (by have := HC.out;omega)
    clear hi0_ hsz_ hAX hm2 hc2' hij
    go_wp2_with (first
     | ((with_reducible refine zo (N := 38) rfl ?_);refine Kd.R_lit k40 (w0 := w) w.heap.size 40 ?hg (N := 38) ?hd (xs := ([] : List S40)) (inner := []) (ok := (fun k_ => k_ < w.heap.size ∨ y1.heap.size ≤ k_)) (okp := fun _ => False) ?hr ?hp (fun _ hk => hk.elim) (.inr (Nat.le_refl _)) HM3.out.b (zf HM3.out.b) (by simp) ?_;(case hg => rfl);(case hd => rfl);(case hr => first | (go_simp;done) | (go_simp;rfl));(case hp => exact (zah.none _ _));intro v7 w7 ho hb hg hnew;have HN7 := za.mk (Kd.R_N ho);have M7 := za.mk (zbx.grown HM3.out HM3.out hg (by simp));have HB7 : za (∀ k_,v7.ownBlock = some k_ → y1.heap.size ≤ k_) := ⟨fun k_ hk => by obtain ⟨b_,h1_,h2_⟩ := hnew;rw [h1_] at hk;injection hk with hk;omega⟩;have HX7 := za.mk hg.size;clear ho hb hg hnew)
     | ((with_reducible refine zbj (b := .append) (xs := #[.tmp 38,.tmp 41]) rfl ?_);at_builtin;refine Kd.N_append_rows k40 (w0 := w) w.heap.size rfl (.tmp 38) (.tmp 41) 22 40 (.agg #[.int .i64 0,.string ⟨#[]⟩]) 24 rfl Try.underlying22 zcV rfl (by decide) (by omega) v7 [] (b.take k) (some ad) k c (fun k_ => k_ < w.heap.size ∨ y1.heap.size ≤ k_) (fun k_ => k_ < w.heap.size) rfl rfl HN7.out (HTK.out _ M7.out.b) (fun k_ hk => ⟨.inl hk,fun e_ => Nat.not_le.2 hk (Kd.N_base HN7.out k_ e_.symm)⟩) (fun k_ hk => .inr (Nat.le_trans HX7.out hk)) M7.out.b (zf M7.out.b) (by have h1_ := HL.out;have h2_ := HIJ.out;have h3_ := HM2_.out;simp only [List.length_nil];omega) ?_;intro v8 w8 ho hb hg hat;have HN8 := za.mk ho;have M8 := za.mk (zbx.grown HM3.out M7.out hg (fun k_ hk => HB7.out k_ hk));have HB8 : za (∀ k_,v8.ownBlock = some k_ → y1.heap.size ≤ k_) := ⟨fun k_ hk => by rcases hat with h_ | ⟨b_,h1_,h2_⟩;exact HB7.out k_ (h_ ▸ hk);rw [h1_] at hk;injection hk with hk;have := HX7.out;omega⟩;have HX8 := za.mk (Nat.le_trans HX7.out hg.size);clear ho hb hg hat;obtain ⟨zg3_0,zg3_1⟩ := hcq2n M8.out.c3)
     | ((with_reducible refine zbj (b := .append) (xs := #[.tmp 43,.tmp 45]) rfl ?_);at_builtin;refine Kd.N_append k40 (w0 := w) w.heap.size rfl (.tmp 43) (.tmp 45) 22 40 (.agg #[.int .i64 0,.string ⟨#[]⟩]) 24 rfl Try.underlying22 zcV rfl (by decide) (by omega) v8 ([] ++ b.take k) (⟨x0,x1⟩ : S40) [.int .i64 x0,.string x1] (fun k_ => k_ < w.heap.size ∨ y1.heap.size ≤ k_) (fun _ => False) rfl rfl (fun W' _ => zii W' (⟨x0,x1⟩ : S40)) (fun k_ hk => hk.elim) (fun k_ hk => .inr (Nat.le_trans HX8.out hk)) HN8.out M8.out.b (zf M8.out.b) (by have h1_ := HL.out;have h2_ := HIJ.out;simp only [List.length_append,List.length_nil,List.length_take];omega) ?_;intro v9 w9 ho hb hg hat;clear zg3_0 zg3_1;have HN9 := za.mk ho;have M9 := za.mk (zbx.grown HM3.out M8.out hg (fun k_ hk => HB8.out k_ hk));have HB9 : za (∀ k_,v9.ownBlock = some k_ → y1.heap.size ≤ k_) := ⟨fun k_ hk => by rcases hat with h_ | ⟨b_,h1_,h2_⟩;exact HB8.out k_ (h_ ▸ hk);rw [h1_] at hk;injection hk with hk;have := HX8.out;omega⟩;have HX9 := za.mk (Nat.le_trans HX8.out hg.size);clear ho hb hg hat)
     | ((with_reducible refine zbj (b := .append) (xs := #[.tmp 47,.tmp 50]) rfl ?_);at_builtin;refine Kd.N_append_rows k40 (w0 := w) w.heap.size rfl (.tmp 47) (.tmp 50) 22 40 (.agg #[.int .i64 0,.string ⟨#[]⟩]) 24 rfl Try.underlying22 zcV rfl (by decide) (by omega) v9 ([] ++ b.take k ++ [(⟨x0,x1⟩ : S40)]) (b.drop k) AX m2 c2' (fun k_ => k_ < w.heap.size ∨ y1.heap.size ≤ k_) (fun k_ => k_ < w.heap.size) rfl rfl HN9.out (HDP.out _ M9.out.b) (fun k_ hk => ⟨.inl hk,fun e_ => Nat.not_le.2 hk (Kd.N_base HN9.out k_ e_.symm)⟩) (fun k_ hk => .inr (Nat.le_trans HX9.out hk)) M9.out.b (zf M9.out.b) (by have h1_ := HL.out;have h2_ := HIJ.out;have h3_ := HM2_.out;simp only [List.length_append,List.length_nil,List.length_take,List.length_cons];omega) ?_;intro v10 w10 ho hb hg hat;have HN10 := za.mk ho;have M10 := za.mk (zbx.grown HM3.out M9.out hg (fun k_ hk => HB9.out k_ hk));have HB10 : za (∀ k_,v10.ownBlock = some k_ → y1.heap.size ≤ k_) := ⟨fun k_ hk => by rcases hat with h_ | ⟨b_,h1_,h2_⟩;exact HB9.out k_ (h_ ▸ hk);rw [h1_] at hk;injection hk with hk;have := HX9.out;omega⟩;have HX10 := za.mk (Nat.le_trans HX9.out hg.size);clear ho hb hg hat;obtain ⟨R,hR⟩ : ∃ R,R = [] ++ b.take k ++ [(⟨x0,x1⟩ : S40)] ++ b.drop k := ⟨_,rfl⟩;rw [← hR] at HN10;obtain ⟨A10,c10,hv10⟩ := Kd.N_slice HN10.out;subst hv10;have HRR := za.mk hR;clear hR))
    go_ret
    have hR := HRR.out
    have hij := HIJ.out
    refine ⟨R,A10,c10,rfl,(Kd.V_reads' (Kd.N_V (base' := 0) HN10.out)).2.2,(Kd.V_reads' (Kd.N_V (base' := 0) HN10.out)).2.1,fun s hs => ?_,?_,M10.out.b⟩
    ·rw [← List.take_append_drop k b,List.mem_append] at hs;rw [hR];simp only [List.nil_append,List.mem_append];rcases hs with h_ | h_;exact .inl (.inl h_);exact .inr h_
    ·rw [hR];simp only [List.length_append,List.length_nil,List.length_take,List.length_drop,List.length_cons];omega
  ·have MK : za (∀ w' : World,zbx w w' g3 (.cells #[.int .i64 x0,.string x1] 40 (0,0)) → w'.cell? ⟨g3,0,none⟩ = some (.int .i64 x0) ∧ w'.cell? ⟨g3,1,none⟩ = some (.string x1) ∧ zbx w w' g3 (.cells #[.int .i64 x0,.string x1] 40 (0,0))) := ⟨fun w' h => ⟨(zb h.c3 0).trans rfl,(zb h.c3 1).trans rfl,h⟩⟩
   have LM : za (∀ w' : World,(w'.cell? ⟨g3,0,none⟩ = some (.int .i64 x0) ∧ w'.cell? ⟨g3,1,none⟩ = some (.string x1) ∧ zbx w w' g3 (.cells #[.int .i64 x0,.string x1] 40 (0,0))) → zbx w w' g3 (.cells #[.int .i64 x0,.string x1] 40 (0,0))) := ⟨fun w' h => h.2.2⟩
   have hb : decide (k < b.length) = false := decide_eq_false hlt
   have hb2 : decide ((k : Int) < (b.length : Int)) = false := decide_eq_false (by omega)
   clear hlt
   go_wp2_with fail
   refine zcq (n := 13) (S := fun w' => w'.cell? ⟨g3,0,none⟩ = some (.int .i64 x0) ∧ w'.cell? ⟨g3,1,none⟩ = some (.string x1) ∧ zbx w w' g3 (.cells #[.int .i64 x0,.string x1] 40 (0,0))) (ds := []) (upT 13 0) (by kernel_rfl) rfl rfl (MK.out _ HM1.out.drew) (fun hHeld => ?_);refine zbM refPut.tab5 refPut.bits5 (fun HT_ HW_ => ?_)
   refine za4 (i := 0) (N := some 23) (upT 13 1) rfl rfl (zbn HT_.out (by kernel_rfl)) (fun _ _ _ h => h) (Or.inl ⟨by rfl,by intro w';go_simp;with_reducible rfl⟩) hPq ?_
   refine za4 (i := 1) (N := some 24) (upT 13 2) rfl rfl (zbn HT_.out (by kernel_rfl)) (fun _ _ _ h => h) (Or.inl ⟨by rfl,by intro w';go_simp;with_reducible rfl⟩) hPq ?_
   refine za4 (i := 2) (N := some 25) (upT 13 3) rfl rfl (zbn HT_.out (by kernel_rfl)) (fun _ _ _ h => h) (Or.inl ⟨by rfl,by intro w';go_simp;with_reducible rfl⟩) hPq ?_
   refine za4 (i := 3) (N := some 26) (upT 13 4) rfl rfl (zbn HT_.out (by kernel_rfl)) (fun _ _ _ h => h) (Or.inl ⟨by rfl,by intro w';go_simp;with_reducible rfl⟩) hPq ?_
   refine za4 (i := 4) (N := some 27) (upT 13 5) rfl rfl (zbn HT_.out (by kernel_rfl)) (fun _ _ _ h => h) (Or.inl ⟨by rfl,by intro w';go_simp;with_reducible rfl⟩) hPq ?_
   refine offs_ (fun _ _ _ _ _ h => h) HT_.out [(5,28),(6,29),(7,30),(8,31),(9,32),(10,33),(11,34)] 1 rfl (upT 13 12) (by kernel_rfl) (by kernel_rfl) (a' := ?_) ?_ ?_
   rotate_left
   ·simp only [zhi,Act.put,List.setIfInBounds_toArray,List.set_cons_zero,List.set_cons_succ]
    rfl
   refine za4 (i := 12) (N := some 35) (upT 13 13) rfl rfl (zbn HT_.out (by kernel_rfl)) (fun _ _ _ h => h) (Or.inl ⟨by rfl,by intro w';go_simp;with_reducible rfl⟩) hPq ?_
   refine zdc (zcu HT_.out (by kernel_rfl)) ?_
   have HM3 := za.mk (LM.out _ hHeld)
   clear hHeld HT_ HW_ HM1
   generalize wr.drew = y1 at *
   clear hb hb2
   have hij := HIJ.out
   obtain ⟨i0_,hi0_,_,hsz_,_⟩ := info_parts zcV
   have hcut := zh3 (P := Try.prog) 22 40 .i64 Try.underlying22 hi0_ (A) b.length c (k : Int) (by omega) (by omega) HC.out
   obtain ⟨AX,hAX⟩ : ∃ AX,AX = (if c = (k : Int).toNat then (A) else ((A) : Option Addr).map (·.add ((k : Int).toNat * 2))) := ⟨_,rfl⟩
   have hcut2 := zgu (P := Try.prog) 22 40 .i64 Try.underlying22 hi0_ 2 hsz_ (A) b.length c (k : Int) (by omega) (by omega)
   rw [← hAX,Int.toNat_natCast] at hcut2
   rw [Int.toNat_natCast] at hcut hAX
   obtain ⟨m2,hm2⟩ : ∃ m2,m2 = b.length - k := ⟨_,rfl⟩
   obtain ⟨c2',hc2'⟩ : ∃ c2',c2' = c - k := ⟨_,rfl⟩
   rw [← hm2,← hc2'] at hcut2
   have HTK : za (∀ W,Below w.heap.size w W → Kd.F k40 W (fun k_ => k_ < w.heap.size) (A) k (b.take k)) := ⟨fun W hW => by have h := Kd.F_take (m := k) (Kd.F_below HFB.out hW) hij;rwa [List.length_take,Nat.min_eq_left hij] at h⟩
   have HDP : za (∀ W,Below w.heap.size w W → Kd.F k40 W (fun k_ => k_ < w.heap.size) AX m2 (b.drop k)) := ⟨fun W hW => by have h := Kd.F_cut (m := k) (c := c) (Kd.F_below HFB.out hW) hij HC.out;rw [List.length_drop,← hm2] at h;rw [hAX];exact h⟩
   have HM2_ := za.mk hm2
   have p1_ : ((k : Int) ≤ (b.length : Int)) = True := eq_true (by omega)
   have p2_ : ((k : Int) ≤ (c : Int)) = True := eq_true (by have := HC.out;omega)
   clear hi0_ hsz_ hAX hm2 hc2' hij
   go_wp2_with (first
    | ((with_reducible refine zo (N := 38) rfl ?_);refine Kd.R_lit k40 (w0 := w) w.heap.size 40 ?hg (N := 38) ?hd (xs := ([] : List S40)) (inner := []) (ok := (fun k_ => k_ < w.heap.size ∨ y1.heap.size ≤ k_)) (okp := fun _ => False) ?hr ?hp (fun _ hk => hk.elim) (.inr (Nat.le_refl _)) HM3.out.b (zf HM3.out.b) (by simp) ?_;(case hg => rfl);(case hd => rfl);(case hr => first | (go_simp;done) | (go_simp;rfl));(case hp => exact (zah.none _ _));intro v7 w7 ho hb hg hnew;have HN7 := za.mk (Kd.R_N ho);have M7 := za.mk (zbx.grown HM3.out HM3.out hg (by simp));have HB7 : za (∀ k_,v7.ownBlock = some k_ → y1.heap.size ≤ k_) := ⟨fun k_ hk => by obtain ⟨b_,h1_,h2_⟩ := hnew;rw [h1_] at hk;injection hk with hk;omega⟩;have HX7 := za.mk hg.size;clear ho hb hg hnew)
    | ((with_reducible refine zbj (b := .append) (xs := #[.tmp 38,.tmp 41]) rfl ?_);at_builtin;refine Kd.N_append_rows k40 (w0 := w) w.heap.size rfl (.tmp 38) (.tmp 41) 22 40 (.agg #[.int .i64 0,.string ⟨#[]⟩]) 24 rfl Try.underlying22 zcV rfl (by decide) (by omega) v7 [] (b.take k) (A) k c (fun k_ => k_ < w.heap.size ∨ y1.heap.size ≤ k_) (fun k_ => k_ < w.heap.size) rfl rfl HN7.out (HTK.out _ M7.out.b) (fun k_ hk => ⟨.inl hk,fun e_ => Nat.not_le.2 hk (Kd.N_base HN7.out k_ e_.symm)⟩) (fun k_ hk => .inr (Nat.le_trans HX7.out hk)) M7.out.b (zf M7.out.b) (by have h1_ := HL.out;have h2_ := HIJ.out;have h3_ := HM2_.out;simp only [List.length_nil];omega) ?_;intro v8 w8 ho hb hg hat;have HN8 := za.mk ho;have M8 := za.mk (zbx.grown HM3.out M7.out hg (fun k_ hk => HB7.out k_ hk));have HB8 : za (∀ k_,v8.ownBlock = some k_ → y1.heap.size ≤ k_) := ⟨fun k_ hk => by rcases hat with h_ | ⟨b_,h1_,h2_⟩;exact HB7.out k_ (h_ ▸ hk);rw [h1_] at hk;injection hk with hk;have := HX7.out;omega⟩;have HX8 := za.mk (Nat.le_trans HX7.out hg.size);clear ho hb hg hat;obtain ⟨zg3_0,zg3_1⟩ := hcq2n M8.out.c3)
    | ((with_reducible refine zbj (b := .append) (xs := #[.tmp 43,.tmp 45]) rfl ?_);at_builtin;refine Kd.N_append k40 (w0 := w) w.heap.size rfl (.tmp 43) (.tmp 45) 22 40 (.agg #[.int .i64 0,.string ⟨#[]⟩]) 24 rfl Try.underlying22 zcV rfl (by decide) (by omega) v8 ([] ++ b.take k) (⟨x0,x1⟩ : S40) [.int .i64 x0,.string x1] (fun k_ => k_ < w.heap.size ∨ y1.heap.size ≤ k_) (fun _ => False) rfl rfl (fun W' _ => zii W' (⟨x0,x1⟩ : S40)) (fun k_ hk => hk.elim) (fun k_ hk => .inr (Nat.le_trans HX8.out hk)) HN8.out M8.out.b (zf M8.out.b) (by have h1_ := HL.out;have h2_ := HIJ.out;simp only [List.length_append,List.length_nil,List.length_take];omega) ?_;intro v9 w9 ho hb hg hat;clear zg3_0 zg3_1;have HN9 := za.mk ho;have M9 := za.mk (zbx.grown HM3.out M8.out hg (fun k_ hk => HB8.out k_ hk));have HB9 : za (∀ k_,v9.ownBlock = some k_ → y1.heap.size ≤ k_) := ⟨fun k_ hk => by rcases hat with h_ | ⟨b_,h1_,h2_⟩;exact HB8.out k_ (h_ ▸ hk);rw [h1_] at hk;injection hk with hk;have := HX8.out;omega⟩;have HX9 := za.mk (Nat.le_trans HX8.out hg.size);clear ho hb hg hat)
    | ((with_reducible refine zbj (b := .append) (xs := #[.tmp 47,.tmp 50]) rfl ?_);at_builtin;refine Kd.N_append_rows k40 (w0 := w) w.heap.size rfl (.tmp 47) (.tmp 50) 22 40 (.agg #[.int .i64 0,.string ⟨#[]⟩]) 24 rfl Try.underlying22 zcV rfl (by decide) (by omega) v9 ([] ++ b.take k ++ [(⟨x0,x1⟩ : S40)]) (b.drop k) AX m2 c2' (fun k_ => k_ < w.heap.size ∨ y1.heap.size ≤ k_) (fun k_ => k_ < w.heap.size) rfl rfl HN9.out (HDP.out _ M9.out.b) (fun k_ hk => ⟨.inl hk,fun e_ => Nat.not_le.2 hk (Kd.N_base HN9.out k_ e_.symm)⟩) (fun k_ hk => .inr (Nat.le_trans HX9.out hk)) M9.out.b (zf M9.out.b) (by have h1_ := HL.out;have h2_ := HIJ.out;have h3_ := HM2_.out;simp only [List.length_append,List.length_nil,List.length_take,List.length_cons];omega) ?_;intro v10 w10 ho hb hg hat;have HN10 := za.mk ho;have M10 := za.mk (zbx.grown HM3.out M9.out hg (fun k_ hk => HB9.out k_ hk));have HB10 : za (∀ k_,v10.ownBlock = some k_ → y1.heap.size ≤ k_) := ⟨fun k_ hk => by rcases hat with h_ | ⟨b_,h1_,h2_⟩;exact HB9.out k_ (h_ ▸ hk);rw [h1_] at hk;injection hk with hk;have := HX9.out;omega⟩;have HX10 := za.mk (Nat.le_trans HX9.out hg.size);clear ho hb hg hat;obtain ⟨R,hR⟩ : ∃ R,R = [] ++ b.take k ++ [(⟨x0,x1⟩ : S40)] ++ b.drop k := ⟨_,rfl⟩;rw [← hR] at HN10;obtain ⟨A10,c10,hv10⟩ := Kd.N_slice HN10.out;subst hv10;have HRR := za.mk hR;clear hR))
   go_ret
   have hR := HRR.out
   have hij := HIJ.out
   refine ⟨R,A10,c10,rfl,(Kd.V_reads' (Kd.N_V (base' := 0) HN10.out)).2.2,(Kd.V_reads' (Kd.N_V (base' := 0) HN10.out)).2.1,fun s hs => ?_,?_,M10.out.b⟩
   ·rw [← List.take_append_drop k b,List.mem_append] at hs;rw [hR];simp only [List.nil_append,List.mem_append];rcases hs with h_ | h_;exact .inl (.inl h_);exact .inr h_
   ·rw [hR];simp only [List.length_append,List.length_nil,List.length_take,List.length_drop,List.length_cons];omega
theorem refPut.calls (b : List S40) (A : Option Addr) (c : Nat) (x0 : Int) (x1 : ByteArray) (w : World) (hr : Kd.C k40 w A b.length b) (hc : b.length ≤ c) (hL : b.length + 1 ≤ 5864062014805) (hx : x1.size < 4611686018427387904) :
  Calls Try.prog 7 #[.slice A b.length c,.agg #[.int .i64 x0,.string x1]] w fun e w' => ∃ (R : List S40) (A' : Option Addr) (c' : Nat),e = .returned (.slice A' R.length c') ∧ Kd.C k40 w' A' R.length R ∧ R.length ≤ c' ∧ (∀ s ∈ b,s ∈ R) ∧ R.length ≤ b.length + 1 ∧ Below w.heap.size w w' := by
 obtain ⟨kh,hk⟩ := (zhL b (by omega) x0 x1).rounds
 rcases hs : zbC x0 x1 b with _ | _
 ·rw [hs] at hk
  by_cases e1 : x0 < 1
  ·exact refPut.same b A c x0 x1 w hr hc kh _ hk (.inr (.inl ⟨rfl,decide_eq_true e1⟩))
  ·by_cases e2 : 64 < x0
   ·exact refPut.same b A c x0 x1 w hr hc kh _ hk (.inr (.inr ⟨rfl,decide_eq_false e1,decide_eq_true e2⟩))
   ·exact refPut.new b A c x0 x1 w hr hc hL hx kh hk (decide_eq_false e1) (decide_eq_false e2)
 ·rw [hs] at hk
  exact refPut.same b A c x0 x1 w hr hc kh _ hk (.inl rfl)
set_option maxHeartbeats 16000000 in
set_option maxRecDepth 100000 in
theorem zai.walk (n : Int) (A1 : Option Addr) (c1 : Nat) (B : List S40) (A2 : Option Addr) (c2 : Nat) (L : List S40) (a r : Int) (A5 : Option Addr) (c5 : Nat) (bs : List S50) (A6 : Option Addr) (c6 : Nat) (ps : List ByteArray) (x y z : Int) (w : World) (hr1 : Kd.C k40 w A1 B.length B) (hc1 : B.length ≤ c1) (hr2 : Kd.C k40 w A2 L.length L) (hc2 : L.length ≤ c2) (hr5 : Kd.C k50 w A5 bs.length bs) (hc5 : bs.length ≤ c5) (hr6 : Kd.C Kd.string w A6 ps.length ps) (hc6 : ps.length ≤ c6)
  (k0 k1 k2 : Nat) (e f : Int) (hH0 : zaF.f k0 = some true) (hH1 : zaj.f k1 n B a r bs ps x y z = some e) (hH2 : zI.f k2 n B a r bs ps x y = some f)
  (hck : ∀ b' : List S40,(∀ s ∈ B,s ∈ b') → b'.length ≤ B.length + L.length → ∃ k g,zaj.f k n b' a r bs ps x y z = some g ∧ (e = 0 → g = 0))
  (hsl : ∀ b' : List S40,(∀ s ∈ B,s ∈ b') → b'.length ≤ B.length + L.length → ∃ k h,zI.f k n b' a r bs ps x y = some h ∧ (f = 0 → h = 0))
  (hlen : B.length + L.length ≤ 5864062014804) (htx : ∀ s ∈ L,s.f1.size < 4611686018427387904) :
  Calls Try.prog 3 #[.agg #[.int .i64 n,.slice A1 B.length c1,.slice A2 L.length c2,.int .i64 a,.int .i64 r,.slice A5 bs.length c5,.slice A6 ps.length c6,.int .i64 x,.int .i64 y,.int .u64 z]] w fun e w' => e = .returned (.bool true) ∧ Below w.heap.size w w' := by
 have R1 := za.mk hr1
 have C1 := za.mk hc1
 have R2 := za.mk hr2
 have C2 := za.mk hc2
 have R5 := za.mk hr5
 have C5 := za.mk hc5
 have R6 := za.mk hr6
 have C6 := za.mk hc6
 have H0 := za.mk hH0
 have H1 := za.mk hH1
 have H2 := za.mk hH2
 have HCK := za.mk hck
 have HSL := za.mk hsl
 have HLEN := za.mk hlen
 have HTX := za.mk htx
 clear hr1 hc1 hr2 hc2 hr5 hc5 hr6 hc6 hH0 hH1 hH2 hck hsl hlen htx
 have Hw := za.mk (Below.refl w.heap.size w)
 go_enter Try.func3,Try.ntmps3
 go_wp2_with (first
  | ((with_reducible refine zo (N := 1) rfl ?_);refine zk rfl (N := 1) rfl (cs := #[.int .i64 n,.slice A1 B.length c1,.slice A2 L.length c2,.int .i64 a,.int .i64 r,.slice A5 bs.length c5,.slice A6 ps.length c6,.int .i64 x,.int .i64 y,.int .u64 z]) (t := 33) hrq ?_;intro g1 hg u1 hbox hb;have Gw_g1 := za.mk (adg Hw.out hg);replace Hw := za.mk (adl Hw.out hb);have Bg1 := za.mk hbox;clear hbox hb hg;obtain ⟨zg1_0,zg1_1,zg1_2,zg1_3,zg1_4,zg1_5,zg1_6,zg1_7,zg1_8,zg1_9,fg1_0,fg1_1,fg1_2,fg1_3,fg1_4,fg1_5,fg1_6,fg1_7,fg1_8,fg1_9⟩ := hcq10 Bg1.out)
  | ((with_reducible refine zo (N := 6) rfl ?_);refine zk rfl (N := 6) rfl (cs := #[.int .i64 0,.int .i64 0,.slice none 0 0,.slice none 0 0,.int .i64 0,.int .i64 0,.int .u64 0]) (t := 31) hrq ?_;intro g6 hg u2 hbox hb;have Gw_g6 := za.mk (adg Hw.out hg);have Ng1_g6 := za.mk (adn hg Bg1.out);clear zg1_0 zg1_1 zg1_2 zg1_3 zg1_4 zg1_5 zg1_6 zg1_7 zg1_8 zg1_9 fg1_0 fg1_1 fg1_2 fg1_3 fg1_4 fg1_5 fg1_6 fg1_7 fg1_8 fg1_9;replace Bg1 := za.mk (adb Bg1.out hb);replace Hw := za.mk (adl Hw.out hb);have Bg6 := za.mk hbox;clear hbox hb hg;obtain ⟨zg6_0,zg6_1,zg6_2,zg6_3,zg6_4,zg6_5,zg6_6,fg6_0,fg6_1,fg6_2,fg6_3,fg6_4,fg6_5,fg6_6⟩ := hcq7 Bg6.out)
  | ((with_reducible refine zgW (t := 31) (p := 6) rfl ?_);refine zgI (t := 31) (p := 6) (v := _) (w1 := (World.setCell (World.setCell (World.setCell (World.setCell (World.setCell (World.setCell (World.setCell u2 ⟨g6,0,none⟩ (.int .i64 a)) ⟨g6,1,none⟩ (.int .i64 r)) ⟨g6,2,none⟩ (.slice A5 bs.length c5)) ⟨g6,3,none⟩ (.slice A6 ps.length c6)) ⟨g6,4,none⟩ (.int .i64 x)) ⟨g6,5,none⟩ (.int .i64 y)) ⟨g6,6,none⟩ (.int .u64 z))) rfl rfl rfl hrq ?_;intro u3 hw;clear zg6_0 zg6_1 zg6_2 zg6_3 zg6_4 zg6_5 zg6_6 fg6_0 fg6_1 fg6_2 fg6_3 fg6_4 fg6_5 fg6_6;replace Bg1 := za.mk (adf hw Ng1_g6.out Bg1.out);replace Bg6 : za (u3.heap[g6]? = some (.cells #[.int .i64 a,.int .i64 r,.slice A5 bs.length c5,.slice A6 ps.length c6,.int .i64 x,.int .i64 y,.int .u64 z] 31 (0,0))) := ⟨adp hw Bg6.out⟩;replace Hw := za.mk (ads hw Gw_g6.out Hw.out);clear hw)
  | (go_at_call 4;refine (zaF.calls k0 true _ H0.out).mono ?_;rintro e u4 ⟨rfl,hb⟩;replace Bg1 := za.mk (adb Bg1.out hb);replace Bg6 := za.mk (adb Bg6.out hb);replace Hw := za.mk (adl Hw.out hb);clear hb;obtain ⟨zg6_0,zg6_1,zg6_2,zg6_3,zg6_4,zg6_5,zg6_6,fg6_0,fg6_1,fg6_2,fg6_3,fg6_4,fg6_5,fg6_6⟩ := hcq7 Bg6.out)
  | (go_at_call 5;refine (zaj.calls k1 n _ _ B a r _ _ bs _ _ ps x y z e _ (Kd.C_below R1.out (adw Hw.out)) C1.out (Kd.C_below R5.out (adw Hw.out)) C5.out (Kd.C_below R6.out (adw Hw.out)) C6.out H1.out).mono ?_;rintro e u5 ⟨rfl,hb⟩;clear zg6_0 zg6_1 zg6_2 zg6_3 zg6_4 zg6_5 zg6_6 fg6_0 fg6_1 fg6_2 fg6_3 fg6_4 fg6_5 fg6_6;replace Bg1 := za.mk (adb Bg1.out hb);replace Bg6 := za.mk (adb Bg6.out hb);replace Hw := za.mk (adl Hw.out hb);clear hb;obtain ⟨zg6_0,zg6_1,zg6_2,zg6_3,zg6_4,zg6_5,zg6_6,fg6_0,fg6_1,fg6_2,fg6_3,fg6_4,fg6_5,fg6_6⟩ := hcq7 Bg6.out)
  | (go_at_call 6;refine (zI.calls k2 n _ _ B a r _ _ bs _ _ ps x y f _ (Kd.C_below R1.out (adw Hw.out)) C1.out (Kd.C_below R5.out (adw Hw.out)) C5.out (Kd.C_below R6.out (adw Hw.out)) C6.out H2.out).mono ?_;rintro e u6 ⟨rfl,hb⟩;clear zg6_0 zg6_1 zg6_2 zg6_3 zg6_4 zg6_5 zg6_6 fg6_0 fg6_1 fg6_2 fg6_3 fg6_4 fg6_5 fg6_6;replace Bg1 := za.mk (adb Bg1.out hb);replace Bg6 := za.mk (adb Bg6.out hb);replace Hw := za.mk (adl Hw.out hb);clear hb))
 have M1 : za (zbx w u6 g6 (.cells #[.int .i64 a,.int .i64 r,.slice A5 bs.length c5,.slice A6 ps.length c6,.int .i64 x,.int .i64 y,.int .u64 z] 31 (0,0))) := ⟨⟨Hw.out,Bg6.out⟩⟩
 have RB0 := za.mk (Kd.C_below R1.out Hw.out)
 clear Bg1 Bg6 Hw H1 H2
 go_loopw [4,10] (fun v4 v10 wr => ∃ (i : Nat) (b' : List S40) (A' : Option Addr) (c' : Nat),v4 = .slice A' b'.length c' ∧ v10 = .int .i64 i ∧ i ≤ L.length ∧ za (Kd.C k40 wr A' b'.length b') ∧ za (b'.length ≤ c') ∧ za (∀ s ∈ B,s ∈ b') ∧ za (b'.length ≤ B.length + i) ∧ za (zbx w wr g6 (.cells #[.int .i64 a,.int .i64 r,.slice A5 bs.length c5,.slice A6 ps.length c6,.int .i64 x,.int .i64 y,.int .u64 z] 31 (0,0)))) (fun _ v10 _ => L.length - (intOf v10).toNat)
 case atStart => exact ⟨0,B,A1,c1,rfl,rfl,Nat.zero_le _,RB0,C1,⟨fun s h => h⟩,⟨Nat.le_refl _⟩,M1⟩
 case round =>
  clear RB0 M1
  obtain ⟨i,b',A',c',rfl,rfl,hi,RB,CBB,HSUB,HLB,HM1⟩ := hrel
  have HI := za.mk hi
  have hmx := R2.out.2.1
  by_cases hlt : i < L.length
  ·have HLT := za.mk hlt
   obtain ⟨ad,rfl,hx0,hx1⟩ := zcy R2.out (i : Int) (by omega) (by omega)
   have hm_ : L[i] ∈ L := List.getElem_mem hlt
   have hgd : zR L (i : Int) = L[i] := by rw [zR,Int.toNat_natCast,List.getD_eq_getElem?_getD,List.getElem?_eq_getElem hlt];rfl
   rw [Int.toNat_natCast,hgd] at hx0 hx1
   replace hx0 := (HM1.out.b.cell (World.block_lt_of_cell? w _ hx0)).trans hx0
   replace hx1 := (HM1.out.b.cell (World.block_lt_of_cell? w _ hx1)).trans hx1
   have HTS := za.mk (HTX.out _ hm_)
   have hb : decide (i < L.length) = true := decide_eq_true hlt
   have hb2 : decide ((i : Int) < (L.length : Int)) = true := decide_eq_true (by omega)
   have p3_ : ((0 : Int) ≤ (i : Int)) = True := eq_true (by omega)
   have p4_ : ((i : Int) < (L.length : Int)) = True := eq_true (by omega)
   clear hm_ hgd
   generalize L[i] = s at *
   obtain ⟨s0,s1⟩ := s
   go_wp2_with (go_at_call 7;refine (refPut.calls b' A' c' s0 s1 _ RB.out CBB.out (by have := HLB.out;have := HLT.out;have := HLEN.out;omega) HTS.out).mono ?_;rintro e w1 ⟨R,A'',c'',rfl,h1,h2,h3,h4,hb_⟩;have RB1 := za.mk h1;have CB1 := za.mk h2;have HS1 : za (∀ s ∈ B,s ∈ R) := ⟨fun s hs => h3 s (HSUB.out s hs)⟩;have HL1 : za (R.length ≤ B.length + (i + 1)) := ⟨by have := HLB.out;omega⟩;have HM2 := za.mk (HM1.out.step hb_);clear h1 h2 h3 h4 hb_ hx0 hx1)
   go_roundw
   all_goals first | (case rel => exact ⟨i + 1,R,A'',c'',rfl,by go_num,by have := HLT.out;omega,RB1,CB1,HS1,HL1,HM2⟩) | (case measure => have := HLT.out;simp [intOf];omega)
  ·have hb : decide (i < L.length) = false := decide_eq_false hlt
   have hb2 : decide ((i : Int) < (L.length : Int)) = false := decide_eq_false (by omega)
   obtain ⟨k3,g,h3,g0⟩ := HCK.out b' HSUB.out (by have := HLB.out;omega)
   obtain ⟨k4,h,h4,h0⟩ := HSL.out b' HSUB.out (by have := HLB.out;omega)
   have H3 := za.mk h3
   have H4 := za.mk h4
   have Hw := za.mk HM1.out.b
   have Bg6 := za.mk HM1.out.c3
   have Hx := za.mk (Below.refl wr.heap.size wr)
   clear h3 h4
   obtain ⟨zg6_0,zg6_1,zg6_2,zg6_3,zg6_4,zg6_5,zg6_6,fg6_0,fg6_1,fg6_2,fg6_3,fg6_4,fg6_5,fg6_6⟩ := hcq7 HM1.out.c3
   have hee : (e != 0) = true ∨ (e != 0) = false ∧ (g == 0) = true := by
    by_cases he : e = 0
    ·exact .inr ⟨by simp [he],by simp [g0 he]⟩
    ·exact .inl (bne_iff_ne.2 he)
   have hff : (f != 0) = true ∨ (f != 0) = false ∧ (h == 0) = true := by
    by_cases he : f = 0
    ·exact .inr ⟨by simp [he],by simp [h0 he]⟩
    ·exact .inl (bne_iff_ne.2 he)
   clear g0 h0
   rcases hee with e1 | ⟨e1,e2⟩ <;> rcases hff with f1 | ⟨f1,f2⟩
   all_goals
    go_wp2_with (first
     | (go_at_call 5;refine (zaj.calls k3 n _ _ b' a r _ _ bs _ _ ps x y z g _ (Kd.C_below RB.out (adw Hx.out)) CBB.out (Kd.C_below R5.out (adw Hw.out)) C5.out (Kd.C_below R6.out (adw Hw.out)) C6.out H3.out).mono ?_;rintro e u7 ⟨rfl,hb⟩;replace Bg6 := za.mk (adb Bg6.out hb);replace Hw := za.mk (adl Hw.out hb);replace Hx := za.mk (adl Hx.out hb);clear hb;obtain ⟨zg6_0,zg6_1,zg6_2,zg6_3,zg6_4,zg6_5,zg6_6,fg6_0,fg6_1,fg6_2,fg6_3,fg6_4,fg6_5,fg6_6⟩ := hcq7 Bg6.out)
     | (go_at_call 6;refine (zI.calls k4 n _ _ b' a r _ _ bs _ _ ps x y h _ (Kd.C_below RB.out (adw Hx.out)) CBB.out (Kd.C_below R5.out (adw Hw.out)) C5.out (Kd.C_below R6.out (adw Hw.out)) C6.out H4.out).mono ?_;rintro e u8 ⟨rfl,hb⟩;clear zg6_0 zg6_1 zg6_2 zg6_3 zg6_4 zg6_5 zg6_6 fg6_0 fg6_1 fg6_2 fg6_3 fg6_4 fg6_5 fg6_6;replace Bg6 := za.mk (adb Bg6.out hb);replace Hw := za.mk (adl Hw.out hb);replace Hx := za.mk (adl Hx.out hb);clear hb))
    go_ret
    exact ⟨rfl,Hw.out⟩
theorem zf0 {n : Int} {B b' : List S40} {a r : Int} {bs : List S50} {ps : List ByteArray} {x y : Int} {s : Nat} (hs : ∀ q ∈ B,q ∈ b') (h : zdJ n B a r bs ps x y s = 0) : zdJ n b' a r bs ps x y s = 0 := by
 rw [zeo] at h ⊢
 refine ⟨h.1,zeR.2 fun j hj hb => ?_⟩
 obtain ⟨q,hq,h1⟩ := zdt.1 (zeR.1 h.2 j hj hb)
 exact zdt.2 ⟨q,hs q hq,h1⟩
theorem zfw {n : Int} {B b' : List S40} {a r : Int} {bs : List S50} {ps : List ByteArray} {x y : Int} (hs : ∀ q ∈ B,q ∈ b') (h : zd3 B a r bs ps x y n = 0) : zd3 b' a r bs ps x y n = 0 := by
 unfold zd3 at h ⊢
 split at h
 ·next hm =>
  rw [if_pos hm]
  split at h
  ·next ha =>
   rw [if_pos]
   rw [List.all_eq_true] at ha ⊢
   intro q hq
   obtain ⟨p,hp,h1⟩ := zdt.1 (show zbC q.f0 q.f1 B = true from ha q hq)
   exact zdt.2 ⟨p,hs p hp,h1⟩
  ·cases h
 ·cases h
def fitG (B L : List S40) (bs : List S50) (z : Int) : Bool := decide (B.length ≤ 1048576) && decide (L.length ≤ 1048576) && L.all (fun s => decide (s.f1.size < 4611686018427387904)) && decide (0 ≤ z) && decide (z < 18446744073709551616)
def zai.f (n : Int) (B L : List S40) (a r : Int) (bs : List S50) (ps : List ByteArray) (x y z : Int) : Option Bool := if fitG B L bs z = true then some true else none
theorem zai.calls (a0_0 : Int) (A0_1 : Option Addr) (c0_1 : Nat) (l0_1 : List (S40)) (A0_2 : Option Addr) (c0_2 : Nat) (l0_2 : List (S40)) (a0_3 : Int) (a0_4 : Int) (A0_5 : Option Addr) (c0_5 : Nat) (l0_5 : List (S50)) (A0_6 : Option Addr) (c0_6 : Nat) (l0_6 : List ByteArray) (a0_7 : Int) (a0_8 : Int) (a0_9 : Int) (res : Bool) (w : World) (hr0_1 : Kd.C k40 w A0_1 l0_1.length l0_1) (hc0_1 : l0_1.length ≤ c0_1) (hr0_2 : Kd.C k40 w A0_2 l0_2.length l0_2) (hc0_2 : l0_2.length ≤ c0_2) (hr0_5 : Kd.C k50 w A0_5 l0_5.length l0_5) (hc0_5 : l0_5.length ≤ c0_5) (hr0_6 : Kd.C Kd.string w A0_6 l0_6.length l0_6) (hc0_6 : l0_6.length ≤ c0_6) (h : zai.f a0_0 l0_1 l0_2 a0_3 a0_4 l0_5 l0_6 a0_7 a0_8 a0_9 = some res) :
  Calls Try.prog 3 #[.agg #[.int .i64 a0_0,.slice A0_1 l0_1.length c0_1,.slice A0_2 l0_2.length c0_2,.int .i64 a0_3,.int .i64 a0_4,.slice A0_5 l0_5.length c0_5,.slice A0_6 l0_6.length c0_6,.int .i64 a0_7,.int .i64 a0_8,.int .u64 a0_9]] w fun e w' => e = .returned (.bool res) ∧ Below w.heap.size w w' := by
 unfold zai.f at h
 split at h
 ·rename_i hh
  obtain rfl := Option.some.inj h
  unfold fitG at hh
  simp only [Bool.and_eq_true,decide_eq_true_eq,List.all_eq_true] at hh
  obtain ⟨⟨⟨⟨b1,b2⟩,b3⟩,z0⟩,z1⟩ := hh
  obtain ⟨z,rfl⟩ := Int.eq_ofNat_of_zero_le z0
  have hz : z < 18446744073709551616 := by omega
  obtain ⟨k0,q0⟩ := (zhf).rounds
  obtain ⟨k1,q1⟩ := (zb7 a0_0 l0_1 (by omega) a0_3 a0_4 l0_5 l0_6 a0_7 a0_8 z hz).rounds
  obtain ⟨k2,q2⟩ := (zda l0_1 (by omega) a0_3 a0_4 l0_5 l0_6 a0_7 a0_8 a0_0).rounds
  refine zai.walk a0_0 A0_1 c0_1 l0_1 A0_2 c0_2 l0_2 a0_3 a0_4 A0_5 c0_5 l0_5 A0_6 c0_6 l0_6 a0_7 a0_8 z w hr0_1 hc0_1 hr0_2 hc0_2 hr0_5 hc0_5 hr0_6 hc0_6 k0 k1 k2 _ _ q0 q1 q2 (fun b' hs hl => ?_) (fun b' hs hl => ?_) (by omega) b3
  ·obtain ⟨k,q⟩ := (zb7 a0_0 b' (by omega) a0_3 a0_4 l0_5 l0_6 a0_7 a0_8 z hz).rounds
   exact ⟨k,_,q,zf0 hs⟩
  ·obtain ⟨k,q⟩ := (zda b' (by omega) a0_3 a0_4 l0_5 l0_6 a0_7 a0_8 a0_0).rounds
   exact ⟨k,_,q,zfw hs⟩
 ·cases h
end Go.Proofs.Ytcncoepijagadaa.Px