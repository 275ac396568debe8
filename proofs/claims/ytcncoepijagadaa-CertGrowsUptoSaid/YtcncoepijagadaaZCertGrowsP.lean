/- Part 16 of 24 of the proof of the law CertGrows: what is proved is the statement at the end of the last part; its conditions are those of the given row. -/
import Derived.Laws.AppendOwn
import Derived.Test.YtcncoepijagadaaZCertGrowsI
import Derived.Test.YtcncoepijagadaaZCertGrowsN
import Derived.Test.YtcncoepijagadaaZCertGrowsO
namespace Go.Proofs.Ytcncoepijagadaa.Px
open Go.RowKit Go.Proofs.YtcncoepijagadaaW.PrintWords Go.Proofs.YtcncoepijagadaaW.PrintLast Go.Proofs.YtcncoepijagadaaW.PrintMore
attribute [local go_sem] zp zr zy zz zl zm zq zs
set_option linter.unusedVariables false
set_option linter.unusedSimpArgs false
theorem zft {P : Program} {w : World} (base : Nat) (t ty e : TypeId) (i : TypeInfo) (ht : P.underlying t = some (.slice e)) (hi : P.info? e = some i) (hz : i.zero = some (.int .u8 0))
  (hsize : i.size = 1) (hby : i.bytes = 1) (v : Value) (l : Bs) (hown : zar w base e v l) (ad : Addr) (b : UInt8) (hcell : w.cell? ad = some (.int .u8 (b.toNat : Int))) (hbytes : l.length + 1 ≤ 140737488355328) (hbase : base ≤ w.heap.size) :
  ∃ v' w',(Builtin.append_ #[t,t] ty #[v,.slice (some ad) 1 1]).run P w = .ok v' w' ∧ zar w' base e v' (l ++ [b]) ∧ Below base w w' := by
 obtain ⟨g,cap,cur,fz,rfl,hbg,hg,hfz,hnc,hcm,hcs,htake⟩ := hown
 have hsmall : l.length + 1 ≤ maxLen := by unfold maxLen;omega
 have hlen : (l ++ [b]).length = l.length + 1 := by rw [List.length_append];rfl
 have hcells : Lib.byteCells (l ++ [b]) = Lib.byteCells l ++ [.int .u8 (b.toNat : Int)] := by simp [Lib.byteCells]
 have hcl : (Lib.byteCells l ++ [Value.int .u8 (b.toNat : Int)]).length = l.length + 1 := by rw [List.length_append,Lib.byteCells_length];rfl
 have hnews : ∀ j u,[Value.int .u8 (b.toNat : Int)][j]? = some u → w.cell? (ad.add j) = some u := by
  intro j u hu
  rcases j with _ | j
  ·simp at hu;subst hu;exact hcell
  ·simp at hu
 by_cases hroom : l.length + 1 ≤ cap
 ·have hf := run_firstCells_some (P := P) w 1 1 ad 1 1 [Value.int .u8 (b.toNat : Int)] rfl hnews
  have hst := zbG P g l.length e fz [Value.int .u8 (b.toNat : Int)] 0 cur w hg (by omega) (by simp;omega) (by simp;rfl)
  simp only [Nat.add_zero,List.length_cons,List.length_nil,Nat.zero_add] at hst
  refine ⟨.slice (some ⟨g,0,none⟩) (l.length + 1) cap,w.setRow g (cur.toList.take l.length ++ [Value.int .u8 (b.toNat : Int)] ++ cur.toList.drop (l.length + 1)).toArray,?_,?_,?_⟩
  ·simp [Builtin.append_,run_underlying ht,sizeOf,typeInfo,hi,hsize,Builtin.lenOf,hroom,hf,Addr.add_lit]
   simp only [List.append_assoc,List.cons_append,List.nil_append] at hst
   simp [hst]
  ·refine ⟨g,cap,_,fz,by rw [hlen],hbg,setRow_heap w g cur _ e _ hg,by rw [hlen];omega,by rw [hlen];exact hroom,hcm,?_,?_⟩
   ·simp only [List.size_toArray,List.length_append,List.length_take,List.length_drop,Array.length_toList,List.length_cons,List.length_nil]
    omega
   ·rw [htake,hlen,hcells,← hcl]
    exact List.take_left
  ·exact ⟨rfl,rfl,rfl,by simp,fun k hk => setRow_other w g k _ (by omega)⟩
 ·have holds : ∀ j u,(Lib.byteCells l)[j]? = some u → w.cell? ((⟨g,0,none⟩ : Addr).add j) = some u := by
   intro j u hu
   rw [← htake,List.getElem?_take] at hu
   split at hu
   ·rw [zcF]
    simp [World.cell?,hg]
    simpa using hu
   ·cases hu
  have hr := run_append_grow (P := P) w t ty e i (.int .u8 0) ht hi hz ⟨g,0,none⟩ l.length cap (Lib.byteCells l) (by rw [hsize,Lib.byteCells_length];omega) holds ad 1 1 [Value.int .u8 (b.toNat : Int)] (by rw [hsize];rfl) hnews (by omega) (by omega) (by rw [hby];exact growslice_fits (by omega) (by omega))
  have hge := grownCap_ge w (l.length + 1) cap e
  have hcm2 : grownCap w (l.length + 1) cap e ≤ maxLen := grownCap_le_maxLen w (l.length + 1) cap e hsmall
  refine ⟨_,_,hr,⟨w.heap.size,_,_,(0,0),by rw [hlen],hbase,heap_alloc_new w.drew _,.inl (Nat.zero_le _),by rw [hlen];exact hge,hcm2,?_,?_⟩,⟨rfl,rfl,rfl,by simp,fun k hk => Lib.alloc_old w.drew _ k (Nat.lt_of_lt_of_le hk hbase)⟩⟩
  ·have hz1 : (Value.int IntKind.u8 0).cells.size = 1 := rfl
   simp only [Array.size_append,List.size_toArray,size_zeroCells,hz1,Lib.byteCells_length,List.length_cons,List.length_nil]
   omega
  ·simp only [Array.toList_append,List.append_assoc]
   rw [← List.append_assoc,hlen,hcells,← hcl]
   exact List.take_left
theorem zc4 {P : Program} {W w0 : World} {ops : Array Oper} {rest : List Oper} {o : Oper} {a : Act} {Q : Exit → Act → World → Prop} (hgd : o.guard = none) (sl x : Operand) (t : TypeId)
  (ho : o.op = .call { callee := .builtin .append,args := #[sl,x],argTypes := #[t,t] })
  (base : Nat) (e : TypeId) (ht : P.underlying t = some (.slice e)) (hinfo : (P.info? e).map (fun i => (i.zero,i.size,i.bytes)) = some (some (.int .u8 0),1,1))
  (v : Value) (l : Bs) (hs : a.eval sl = v) (hown : zar W base e v l) (b : UInt8) (y : Int) (hy : y = (b.toNat : Int)) (hx : a.eval x = .slice (some ⟨W.heap.size,0,none⟩) 1 1) (HB : Below base w0 W) (hbytes : l.length + 1 ≤ 140737488355328) (hbase : base ≤ W.heap.size)
  (h : ∀ v' w',zar w' base e v' (l ++ [b]) → Below base w0 w' → wpList P ops Q rest (a.put o.dst v') w') : wpList P ops Q (o :: rest) a (W.alloc (.cells #[.int .u8 y] e)) := by
 subst hy
 obtain ⟨i0,hi,hzz⟩ := Option.map_eq_some_iff.1 hinfo
 simp only [Prod.mk.injEq] at hzz
 obtain ⟨hz0,hz1,hz2⟩ := hzz
 refine wpList_plain hgd fun K hK => ?_
 have hc : (W.alloc (.cells #[.int .u8 (b.toNat : Int)] e)).cell? ⟨W.heap.size,0,none⟩ = some (.int .u8 (b.toNat : Int)) := (zb (heap_alloc_new W _) 0).trans rfl
 have hb1 : Below W.heap.size W (W.alloc (.cells #[.int .u8 (b.toNat : Int)] e)) := (Below.refl _ _).alloc (Nat.le_refl _) _
 obtain ⟨v',w',hr,h2,h3⟩ := zft (P := P) base t o.type e i0 ht hi hz0 hz1 hz2 v l (hown.below hb1) _ b hc hbytes (by simp;omega)
 unfold Oper.wp execOp
 simp only [ho,resolve,invoke,builtin,Sem.run_bind,Sem.run_pure,Result.andThen_ok,List.map_toArray,List.map_cons,List.map_nil,hs,hx,hr]
 exact hK _ _ (h v' w' h2 ((HB.alloc hbase _).trans h3))
theorem zgk : (Try.prog.info? 5).map (fun i => (i.zero,i.size,i.bytes)) = some (some (.int .u8 0),1,1) := by kernel_rfl
def zdD (n : Nat) : Nat → List Int
 | 0 => []
 | k + 1 => ((n / 256 ^ k % 256 : Nat) : Int) :: zdD n k
theorem zek (n : Nat) : ∀ k,(zdD n k).length = k
 | 0 => rfl
 | k + 1 => by rw [zdD,List.length_cons,zek n k]
theorem zhR (n : Nat) : strOfNums (zdD n 8) = toB (zdI n) := by
 rw [zbm]
 congr 1
 simp only [zdD,zdI,List.map_cons,List.map_nil]
 simp only [Int.toNat_natCast,Nat.reducePow,Nat.div_one]
structure Rpb (w W : World) (v : Value) (l : Bs) : Prop where
 o : zar W w.heap.size 5 v l
 b : Below w.heap.size w W
structure Rpt (w1 W : World) (t : Value) (xs : List Int) : Prop where
 t : W.ownsRow w1.heap.size 5 1 t xs.length (zbh .u8 xs)
 c : Below w1.heap.size w1 W
theorem zeA {w : World} {base n : Nat} {e : TypeId} {k : IntKind} {v : Value} {xs : List Int} (h : w.ownsRow base e 1 v n (zbh k xs)) : ∃ A c,v = .slice A n c ∧ ∀ W,Below w.heap.size w W → zaN W k A n xs := by
 obtain ⟨A,c,rfl,_⟩ := zed h
 refine ⟨A,c,rfl,fun W hb => ?_⟩
 obtain ⟨A',c',e,h2⟩ := zed (zbS h hb)
 cases e
 exact h2
set_option maxHeartbeats 4000000 in
set_option maxRecDepth 100000 in
theorem rpad.walk (s : ByteArray) (w : World) (hsz : s.size ≤ 70368744177664) :
  Calls Try.prog 38 #[.string s] w fun e w' => e = .returned (.string (toB (zdh (ofB s)))) ∧ Below w.heap.size w w' := by
 have HSZ := za.mk hsz
 clear hsz
 have kb := fun (W : World) (s : ByteArray) => Lib.run_convert_string_bytes (P := Try.prog) W 9 71 5 s Try.underlying9 Try.underlying71 Try.underlying5
 go_enter Try.func38,Try.ntmps38
 have H0 : za (Rpb w (Lib.bytesWorld w 5 s) (.slice (some ⟨w.heap.size,0,none⟩) s.size (grownCap w s.size 0 5)) (ofB s)) := ⟨⟨zar.start w w.heap.size 5 s (Nat.le_refl _) (by have := HSZ.out;unfold maxLen;omega),zel (Below.refl _ _) (Nat.le_refl _) 5 _⟩⟩
 go_wp2_with (at_builtin;refine zc4 rfl _ _ 71 rfl w.heap.size 5 Try.underlying71 zgk _ _ rfl H0.out.o 128 _ rfl rfl H0.out.b (by rw [zaa];have := HSZ.out;omega) H0.out.b.size ?_;intro v1 w1 ho1 hb1;have H1 : za (Rpb w w1 v1 (ofB s ++ 128 :: List.replicate 0 0)) := ⟨⟨ho1,hb1⟩⟩;clear ho1 hb1 H0)
 go_loopw [3] (fun v3 wr => ∃ j : Nat,j ≤ zbW s.size ∧ za (Rpb w wr v3 (ofB s ++ 128 :: List.replicate j 0))) (fun v3 _ => 200 + s.size - (match v3 with | .slice _ n _ => n | _ => 0))
 case atStart => exact ⟨0,by omega,H1⟩
 case round =>
  obtain ⟨j,hj,HM⟩ := hrel
  have hlen : (ofB s ++ 128 :: List.replicate j 0).length = s.size + 1 + j := by rw [List.length_append,List.length_cons,List.length_replicate,zaa];omega
  obtain ⟨g,cap,cur,fz,rfl,hrest⟩ := HM.out.o
  rw [hlen]
  obtain ⟨N,eN⟩ : ∃ N : Nat,N = s.size + 1 + j := ⟨_,rfl⟩
  rw [← eN] at hlen ⊢
  have HO : za (zar wr w.heap.size 5 (.slice (some ⟨g,0,none⟩) N cap) (ofB s ++ 128 :: List.replicate j 0)) := ⟨⟨g,cap,cur,fz,by rw [hlen],hrest⟩⟩
  have HL := za.mk hlen
  have EN := za.mk eN
  have HB := za.mk HM.out.b
  clear hrest HM hlen
  have hsz := HSZ.out
  by_cases hlt : j < zbW s.size
  ·have hmod : ¬ N % 64 = 56 := by unfold zbW at hlt hj;omega
   have c1 : (N % 64 == 56) = false := beq_eq_false_iff_ne.2 hmod
   have c2 : (((N : Int) % 64) == 56) = false := beq_eq_false_iff_ne.2 (by omega)
   have c3 : ((Int.tmod (N : Int) 64) == 56) = false := beq_eq_false_iff_ne.2 (by rw [Int.tmod_eq_emod_of_nonneg (by omega)];omega)
   have c4 : ((Int.tmod (N : Int) 64) != 56) = true := by rw [bne,c3];rfl
   have hp64 : zbW s.size < 64 := by unfold zbW;omega
   have HP : za (N + 1 ≤ 140737488355328) := ⟨by omega⟩
   clear eN hsz hmod
   go_wp2_with (at_builtin;refine zc4 rfl _ _ 71 rfl w.heap.size 5 Try.underlying71 zgk _ _ rfl HO.out 0 _ rfl rfl HB.out (by rw [HL.out];exact HP.out) HB.out.size ?_;intro v1 w1 ho1 hb1;have HM1 : za (Rpb w w1 v1 (ofB s ++ 128 :: List.replicate (j + 1) 0)) := ⟨⟨by rw [List.replicate_succ',← List.cons_append,← List.append_assoc];exact ho1,hb1⟩⟩;clear ho1 hb1)
   go_roundw
   case rel => exact ⟨j + 1,by omega,HM1⟩
   case measure =>
    obtain ⟨g2,cap2,cur2,fz2,rfl,_⟩ := HM1.out.o
    have e1 : (ofB s ++ 128 :: List.replicate (j + 1) 0).length = N + 1 := by have := EN.out;rw [List.length_append,List.length_cons,List.length_replicate,zaa];omega
    rw [e1]
    have := EN.out
    show 200 + s.size - (N + 1) < 200 + s.size - N
    omega
  ·obtain rfl : j = zbW s.size := by omega
   have hmod : N % 64 = 56 := by unfold zbW at eN;omega
   have c1 : (N % 64 == 56) = true := beq_iff_eq.2 hmod
   have c2 : (((N : Int) % 64) == 56) = true := beq_iff_eq.2 (by omega)
   have c3 : ((Int.tmod (N : Int) 64) == 56) = true := beq_iff_eq.2 (by rw [Int.tmod_eq_emod_of_nonneg (by omega)];omega)
   have c4 : ((Int.tmod (N : Int) 64) != 56) = false := by rw [bne,c3];rfl
   clear hlt hj eN hmod hsz
   go_wp2
   obtain ⟨n0,en0⟩ : ∃ n0 : Nat,n0 = s.size * 8 := ⟨_,rfl⟩
   have hw : IntKind.u64.wrap (IntKind.u64.wrap (s.size : Int) * 8) = (n0 : Int) := by
    have := HSZ.out
    rw [IntKind.wrap_u64,IntKind.wrap_u64];omega
   have EN0 := za.mk en0
   clear en0
   have c5 : ((N : Int) % 64 != 56) = false := by rw [bne,c2];rfl
   rw [hw,c5]
   have T0 : za (∃ wb,zar wb w.heap.size 5 (.slice (some ⟨g,0,none⟩) N cap) (ofB s ++ 128 :: List.replicate (zbW s.size) 0) ∧ Below w.heap.size w wb ∧ Rpt wb wr (.slice none 0 0) (zdD (n0) 0)) := ⟨wr,HO.out,HB.out,zeL _ _ _ _,Below.refl _ _⟩
   clear hw H1 HO HB
   obtain ⟨wb,hO,hB,hT⟩ := T0.out
   have HO := za.mk hO
   have HB := za.mk hB
   have HT := za.mk hT
   clear T0 hO hB hT
   go_loopw [4,5,6] (fun v4 v5 v6 wq => ∃ k : Nat,v6 = .int .i64 k ∧ k ≤ 8 ∧ v4 = .int .u64 ((n0 / 256 ^ k : Nat) : Int) ∧ za (Rpt wb wq v5 (zdD (n0) k))) (fun _ _ v6 _ => 8 - (intOf v6).toNat)
   case atStart => exact ⟨0,rfl,by omega,by rw [Nat.pow_zero,Nat.div_one],HT⟩
   case round =>
    clear HT
    obtain ⟨k,rfl,hk,rfl,HT⟩ := hrel
    obtain ⟨A,c,rfl,HR⟩ := zeA HT.out.t
    rw [zek] at HR ⊢
    obtain ⟨M,eM⟩ : ∃ M : Nat,M = n0 / 256 ^ k := ⟨_,rfl⟩
    rw [← eM]
    have hM : n0 ≤ 562949953421312 := by have := HSZ.out;have := EN0.out;omega
    have hM2 : M ≤ n0 := by rw [eM];exact Nat.div_le_self _ _
    by_cases hlt : k < 8
    ·have k1 : decide (k < 8) = true := decide_eq_true hlt
     have k2 : decide ((k : Int) < 8) = true := decide_eq_true (by omega)
     have z1 : IntKind.i64.wrap ((k : Int) + 1) = ((k + 1 : Nat) : Int) := by rw [IntKind.wrap_i64];omega
     have HRR := za.mk HR
     have EM := za.mk eM
     have HM2 : za (M ≤ 562949953421312) := ⟨by omega⟩
     clear HR eM hM hM2
     go_wp2_with (at_builtin;refine zcN wb.heap.size rfl _ _ 71 5 .u8 1 rfl Try.underlying71 zgk (by decide) _ [(M : Int) % 256] (zdD (n0) k) _ _ _ rfl rfl (zhu wr wb.heap.size 5 .u8 [(M : Int) % 256] HT.out.c.size (by simp)) (HRR.out _ ((Below.refl _ _).alloc (Nat.le_refl _) _)) (HT.out.c.alloc HT.out.c.size _) (Nat.le_trans HT.out.c.size (zf ((Below.refl _ _).alloc (Nat.le_refl _) _))) (by simp;omega) ?_;intro v5 w5 ho5 hb5 hx1 hx2;clear hx1 hx2;have HT5 : za (Rpt wb w5 v5 (zdD (n0) (k + 1))) := ⟨⟨by rw [zdD,← EM.out];exact ho5,hb5⟩⟩;clear ho5 hb5)
     go_roundw
     case rel =>
      refine ⟨k + 1,rfl,by omega,?_,HT5⟩
      have h2 := HM2.out
      have e2 : n0 / 256 ^ (k + 1) = M / 256 := by rw [Nat.pow_succ,← Nat.div_div_eq_div_mul,← EM.out]
      rw [e2,IntKind.wrap_u64]
      congr 1
      omega
     case measure => show 8 - ((k : Int) + 1).toNat < 8 - (k : Int).toNat;omega
    ·obtain rfl : k = 8 := by omega
     have k1 : decide ((8 : Int) < 8) = false := rfl
     have hs2 := (zar.below HO.out HT.out.c).string Try.underlying71 Try.underlying5 9 Try.underlying9
     have ht := HT.out.t
     rw [zek] at ht
     have ht2 := zcW (P := Try.prog) Try.underlying71 Try.underlying5 Try.underlying9 ht
     rw [zhR] at ht2
     obtain ⟨X,eX⟩ : ∃ X,X = toB (ofB s ++ 128 :: List.replicate (zbW s.size) 0) := ⟨_,rfl⟩
     obtain ⟨Y,eY⟩ : ∃ Y,Y = toB (zdI (n0)) := ⟨_,rfl⟩
     rw [← eX] at hs2
     rw [← eY] at ht2
     have q1 : (9223372036854775807 < X.size + Y.size) = False := eq_false (by
      have h1 : Y.size = 8 := by rw [eY,zac];rfl
      have h2 : X.size = N := by rw [eX,zac,HL.out]
      have h3 := EN.out
      have h5 := HSZ.out
      have h4 : zbW s.size < 64 := by unfold zbW;omega
      omega)
     have EX := za.mk eX
     have EY := za.mk eY
     clear eX eY eM hM hM2 hlt hk ht
     go_wp2
     go_ret
     refine ⟨?_,zd HB.out HT.out.c⟩
     rw [EX.out,EY.out,← zaK,zdh,zaa,EN0.out]
     congr 3
     simp
theorem zdC (n : Nat) (h0 : 1 ≤ n) (h1 : n ≤ 31) (x : Int) (hx : za2 x) (w : World) : Calls Try.prog 67 #[.int .u32 x,.int .i64 (n : Int)] w fun e w' => e = .returned (.int .u32 (z6 n x)) ∧ Below w.heap.size w w' := by
 obtain ⟨k,hk⟩ := (zg7 n h0 h1 hx).rounds
 refine (zD.calls k _ _ _ w hk).mono ?_
 rintro e w1 ⟨rfl,⟨nd,rfl⟩⟩
 exact ⟨rfl,zg (Below.refl _ _) nd⟩
theorem rover (n : Nat) (h1 : n ≤ 31) (x : Int) (hx : za2 x) (w : World) : Calls Try.prog 68 #[.int .u32 x,.int .i64 (n : Int)] w fun e w' => e = .returned (.int .u32 (x / 2 ^ n)) ∧ Below w.heap.size w w' := by
 obtain ⟨k,hk⟩ := (zg5 n h1 hx).rounds
 refine (zP.calls k _ _ _ w hk).mono ?_
 rintro e w1 ⟨rfl,⟨nd,rfl⟩⟩
 exact ⟨rfl,zg (Below.refl _ _) nd⟩
theorem rturn2 (x : Int) (hx : za2 x) (w : World) : Calls Try.prog 67 #[.int .u32 x,.int .i64 2] w fun e w' => e = .returned (.int .u32 (z6 2 x)) ∧ Below w.heap.size w w' := zdC 2 (by decide) (by decide) x hx w
theorem rturn6 (x : Int) (hx : za2 x) (w : World) : Calls Try.prog 67 #[.int .u32 x,.int .i64 6] w fun e w' => e = .returned (.int .u32 (z6 6 x)) ∧ Below w.heap.size w w' := zdC 6 (by decide) (by decide) x hx w
theorem rturn7 (x : Int) (hx : za2 x) (w : World) : Calls Try.prog 67 #[.int .u32 x,.int .i64 7] w fun e w' => e = .returned (.int .u32 (z6 7 x)) ∧ Below w.heap.size w w' := zdC 7 (by decide) (by decide) x hx w
theorem rturn11 (x : Int) (hx : za2 x) (w : World) : Calls Try.prog 67 #[.int .u32 x,.int .i64 11] w fun e w' => e = .returned (.int .u32 (z6 11 x)) ∧ Below w.heap.size w w' := zdC 11 (by decide) (by decide) x hx w
theorem rturn13 (x : Int) (hx : za2 x) (w : World) : Calls Try.prog 67 #[.int .u32 x,.int .i64 13] w fun e w' => e = .returned (.int .u32 (z6 13 x)) ∧ Below w.heap.size w w' := zdC 13 (by decide) (by decide) x hx w
theorem rturn17 (x : Int) (hx : za2 x) (w : World) : Calls Try.prog 67 #[.int .u32 x,.int .i64 17] w fun e w' => e = .returned (.int .u32 (z6 17 x)) ∧ Below w.heap.size w w' := zdC 17 (by decide) (by decide) x hx w
theorem rturn18 (x : Int) (hx : za2 x) (w : World) : Calls Try.prog 67 #[.int .u32 x,.int .i64 18] w fun e w' => e = .returned (.int .u32 (z6 18 x)) ∧ Below w.heap.size w w' := zdC 18 (by decide) (by decide) x hx w
theorem rturn19 (x : Int) (hx : za2 x) (w : World) : Calls Try.prog 67 #[.int .u32 x,.int .i64 19] w fun e w' => e = .returned (.int .u32 (z6 19 x)) ∧ Below w.heap.size w w' := zdC 19 (by decide) (by decide) x hx w
theorem rturn22 (x : Int) (hx : za2 x) (w : World) : Calls Try.prog 67 #[.int .u32 x,.int .i64 22] w fun e w' => e = .returned (.int .u32 (z6 22 x)) ∧ Below w.heap.size w w' := zdC 22 (by decide) (by decide) x hx w
theorem rturn25 (x : Int) (hx : za2 x) (w : World) : Calls Try.prog 67 #[.int .u32 x,.int .i64 25] w fun e w' => e = .returned (.int .u32 (z6 25 x)) ∧ Below w.heap.size w w' := zdC 25 (by decide) (by decide) x hx w
theorem rover3 (x : Int) (hx : za2 x) (w : World) : Calls Try.prog 68 #[.int .u32 x,.int .i64 3] w fun e w' => e = .returned (.int .u32 (x / 8)) ∧ Below w.heap.size w w' := rover 3 (by decide) x hx w
theorem rover10 (x : Int) (hx : za2 x) (w : World) : Calls Try.prog 68 #[.int .u32 x,.int .i64 10] w fun e w' => e = .returned (.int .u32 (x / 1024)) ∧ Below w.heap.size w w' := rover 10 (by decide) x hx w
theorem zhx : (Try.prog.info? 66).map (fun i => (i.zero,i.size,i.bytes)) = some (some (.int .u32 0),1,4) := by kernel_rfl
theorem sum4 {a b c d : Int} (ha : 0 ≤ a ∧ a ≤ 255) (hb : 0 ≤ b ∧ b ≤ 255) (hc : 0 ≤ c ∧ c ≤ 255) (hd : 0 ≤ d ∧ d ≤ 255) :
  ((((a % 4294967296 * 16777216 % 4294967296 + b % 4294967296 * 65536 % 4294967296) % 4294967296 + c % 4294967296 * 256 % 4294967296) % 4294967296 + d % 4294967296) % 4294967296) = a * 16777216 + b * 65536 + c * 256 + d := by omega
theorem rsched (a s c t : Int) : (((a + s) % 4294967296 + c) % 4294967296 + t) % 4294967296 = zbX (zbX (zbX (a + s) + c) + t) := by
 simp only [zbs]
structure Rw (w1 W : World) (v : Value) (xs : List Int) : Prop where
 o : W.ownsRow w1.heap.size 66 1 v xs.length (zbh .u32 xs)
 c : Below w1.heap.size w1 W
theorem Rw.below {w1 W W' : World} {v : Value} {xs : List Int} (h : Rw w1 W v xs) (hb : Below W.heap.size W W') : Rw w1 W' v xs := ⟨zbS h.o hb,zd h.c hb⟩
structure Rh (w W : World) (g2 g4 : Nat) (H : List Int) : Prop where
 b : Below w.heap.size w W
 h : W.heap[g2]? = some (.cells (zB H) 67 (0,0))
 r : W.heap[g4]? = some (.cells (zB [0,0,0,0,0,0,0,0]) 67 (0,0))
set_option maxHeartbeats 4000000 in
set_option maxRecDepth 100000 in
theorem rfirst.walk (w : World) : Calls Try.prog 37 #[] w fun e w' => e = .returned (.agg (zB hL)) ∧ Below w.heap.size w w' := by
 go_enter Try.func37,Try.ntmps37
 go_wp2
 refine bodyPost_ret (results_cell_row rfl _ _ w.heap.size 67 (zB hL) (0,0) _ rfl (zfX _ _) Try.underlying67 rfl (by kernel_rfl)) rfl ?_
 exact ⟨rfl,(Below.refl _ _).alloc (Nat.le_refl _) _⟩
set_option maxHeartbeats 4000000 in
set_option maxRecDepth 100000 in
theorem rwords.walk (w : World) : Calls Try.prog 69 #[] w fun e w' => e = .returned (.agg (zB kL)) ∧ Below w.heap.size w w' := by
 go_enter Try.func69,Try.ntmps69
 refine wp_seq ?_
 refine wp_region_lit ?_
 refine zk ?hg (N := 0) ?hd (cs := zB (zbo [])) (t := 83) ?hr ?_
 case hd => rfl
 case hg => rfl
 case hr => first | (go_simp;done) | (go_simp;rfl)
 intro g0 hg w1 hbox hb
 refine wpList_nil ?_
 refine wp_seq ?_
 refine wp_region_lit ?_
 refine wpList_build rfl 83 _ rfl (by kernel_rfl) ?_
 refine wpList_store_row rfl 83 (.tmp 0) (.tmp 1) rfl g0 (zB kL) (by kernel_rfl) ?_ 83 (zB (zbo [])) hbox (by kernel_rfl) (by kernel_rfl) zf5 ?_
 ·kernel_rfl
 refine wpList_nil ?_
 refine wp_ret ?_
 refine bodyPost_ret (results_cell_row rfl _ _ g0 83 (zB kL) (0,0) _ (by kernel_rfl) (setRow_heap _ _ _ _ _ _ hbox) Try.underlying83 rfl (by kernel_rfl)) rfl ?_
 exact ⟨rfl,zaX hb (Nat.le_of_eq hg.symm)⟩
theorem zf8 {W W' : World} {base e n g c : Nat} {size : Nat} {xs : List Value} (h : W.ownsRow base e size (.slice (some ⟨g,0,none⟩) n c) n xs) (hb : W'.heap[g]? = W.heap[g]?) : W'.ownsRow base e size (.slice (some ⟨g,0,none⟩) n c) n xs := by
 refine ⟨h.1,?_⟩
 rcases h.2 with h1 | ⟨g',cap,cur,e1,h2,h3,h4⟩
 ·exact .inl h1
 ·cases e1
  exact .inr ⟨g,c,cur,rfl,h2,hb.trans h3,h4⟩
structure Rq (w W : World) (B g2 g4 g c : Nat) (H Wl : List Int) : Prop where
 b : Below w.heap.size w W
 h : W.heap[g2]? = some (.cells (zB H) 67 (0,0))
 r : W.heap[g4]? = some (.cells (zB [0,0,0,0,0,0,0,0]) 67 (0,0))
 o : W.ownsRow B 66 1 (.slice (some ⟨g,0,none⟩) 64 c) 64 (zbh .u32 Wl)
theorem Rq.below {w W W' : World} {B g2 g4 g c : Nat} {H Wl : List Int} (h : Rq w W B g2 g4 g c H Wl) (hb : Below W.heap.size W W') : Rq w W' B g2 g4 g c H Wl := ⟨zd h.b hb,zx h.h hb,zx h.r hb,zbS h.o hb⟩
theorem Rq.row {w W : World} {B g2 g4 g c g13 : Nat} {cs : Array Value} {H Wl : List Int} (h : Rq w W B g2 g4 g c H Wl) (G : w.heap.size ≤ g13) (n2 : g13 ≠ g2) (n4 : g13 ≠ g4) (n : g13 ≠ g) : Rq w (W.setRow g13 cs) B g2 g4 g c H Wl :=
 ⟨zaX h.b G,(setRow_other _ _ _ _ (Ne.symm n2)).trans h.h,(setRow_other _ _ _ _ (Ne.symm n4)).trans h.r,zf8 h.o (setRow_other _ _ _ _ (Ne.symm n))⟩
theorem Rq.cell {w W : World} {B g2 g4 g c : Nat} {H Wl : List Int} (h : Rq w W B g2 g4 g c H Wl) (hl : Wl.length = 64) (j : Nat) (hj : j < 64) : W.cell? ⟨g,j,none⟩ = some (.int .u32 (Wl.getD j 0)) := by
 have h := h.o.cells (g := g) rfl j (.int .u32 (Wl.getD j 0)) (by simp [zbh,List.getElem?_eq_getElem (show j < Wl.length by omega),List.getD_eq_getElem?_getD])
 rwa [zcF] at h
structure Rr (w W : World) (B g2 g4 g13 g c : Nat) (H Wl : List Int) : Prop where
 q : Rq w W B g2 g4 g c H Wl
 k : W.heap[g13]? = some (.cells (zB kL) 83 (0,0))
theorem Rr.below {w W W' : World} {B g2 g4 g13 g c : Nat} {H Wl : List Int} (h : Rr w W B g2 g4 g13 g c H Wl) (hb : Below W.heap.size W W') : Rr w W' B g2 g4 g13 g c H Wl := ⟨h.q.below hb,zx h.k hb⟩
set_option maxHeartbeats 16000000 in
set_option maxRecDepth 100000 in
theorem rblock.walk (H : List Int) (b : ByteArray) (w : World) (hH : H.length = 8) (oH : okL H) (hb : b.size = 64) :
  Calls Try.prog 39 #[.agg (zB H),.string b] w fun e w' => e = .returned (.tuple #[.agg (zB (zdL H kL b)),.int .i64 0]) ∧ Below w.heap.size w w' := by
 have HH := za.mk hH
 have OH := za.mk oH
 have HBs := za.mk hb
 have sH : (zB H).size = 8 := by rw [zay,HH.out]
 have e64 : ((b.size : Int) != 64) = false := by rw [hb];rfl
 have e64n : (b.size != 64) = false := by rw [hb];rfl
 clear hH oH
 go_enter Try.func39,Try.ntmps39
 go_wp2_with (first
  | ((with_reducible refine zo (N := 2) rfl ?_);refine zk rfl (N := 2) rfl (cs := zB H) (t := 67) hrq ?_;intro g2 hg w1 hbox hb;have G2 : za (w.heap.size ≤ g2) := ⟨by rw [hg];exact Nat.le_refl _⟩;have B2 := za.mk hbox;have HB1 := za.mk hb;clear hb hbox hg)
  | ((with_reducible refine zo (N := 4) rfl ?_);refine zk rfl (N := 4) rfl (cs := zB [0,0,0,0,0,0,0,0]) (t := 67) hrq ?_;intro g4 hg w2 hbox hb;have G4 : za (w.heap.size ≤ g4) := ⟨by rw [hg];exact zf HB1.out⟩;have N42 : za (g4 ≠ g2) := ⟨by rw [hg];exact Nat.ne_of_gt (za6 B2.out)⟩;have M0 : za (Rh w w2 g2 g4 H) := ⟨⟨zd HB1.out hb,zx B2.out hb,hbox⟩⟩;clear hb hbox hg))
 clear HB1 B2
 have R0 : za (Rw w2 w2 (.slice none 0 0) (zb8 b 0)) := ⟨⟨zeL _ _ _ _,Below.refl _ _⟩⟩
 go_loopw [6,7] (fun v6 v7 wr => ∃ k : Nat,v7 = .int .i64 k ∧ k ≤ 16 ∧ za (Rw w2 wr v6 (zb8 b k))) (fun _ v7 _ => 16 - (intOf v7).toNat)
 case atStart => exact ⟨0,rfl,by omega,R0⟩
 case round =>
  clear R0
  obtain ⟨k,rfl,hk,HM⟩ := hrel
  obtain ⟨A,c,rfl⟩ := zfK HM.out.o
  rw [zbK]
  have HM' : za (wr.ownsRow w2.heap.size 66 1 (.slice A k c) (zb8 b k).length (zbh .u32 (zb8 b k)) ∧ Below w2.heap.size w2 wr) := ⟨by have := HM.out.o;rw [zbK] at this ⊢;exact this,HM.out.c⟩
  clear HM
  by_cases hlt : k < 16
  ·have hb1 : decide (k < 16) = true := decide_eq_true hlt
   have hbi : decide ((k : Int) < 16) = true := decide_eq_true (by omega)
   obtain ⟨i0,e0⟩ : ∃ i : Int,i = 4 * (k : Int) := ⟨_,rfl⟩
   obtain ⟨i1,e1⟩ : ∃ i : Int,i = i0 + 1 := ⟨_,rfl⟩
   obtain ⟨i2,e2⟩ : ∃ i : Int,i = i0 + 2 := ⟨_,rfl⟩
   obtain ⟨i3,e3⟩ : ∃ i : Int,i = i0 + 3 := ⟨_,rfl⟩
   have z0 : IntKind.i64.wrap (4 * (k : Int)) = i0 := by rw [IntKind.wrap_i64];omega
   have z1 : IntKind.i64.wrap (i0 + 1) = i1 := by rw [IntKind.wrap_i64];omega
   have z2 : IntKind.i64.wrap (i0 + 2) = i2 := by rw [IntKind.wrap_i64];omega
   have z3 : IntKind.i64.wrap (i0 + 3) = i3 := by rw [IntKind.wrap_i64];omega
   have hs := HBs.out
   have p0 : (0 ≤ i0) = True := eq_true (by omega)
   have p1 : (0 ≤ i1) = True := eq_true (by omega)
   have p2 : (0 ≤ i2) = True := eq_true (by omega)
   have p3 : (0 ≤ i3) = True := eq_true (by omega)
   have y0 : (i0 < (b.size : Int)) = True := eq_true (by omega)
   have y1 : (i1 < (b.size : Int)) = True := eq_true (by omega)
   have y2 : (i2 < (b.size : Int)) = True := eq_true (by omega)
   have y3 : (i3 < (b.size : Int)) = True := eq_true (by omega)
   have x0 := zct b i0
   have x1 := zct b i1
   have x2 := zct b i2
   have x3 := zct b i3
   have E0 := za.mk e0
   have E1 := za.mk e1
   have E2 := za.mk e2
   have E3 := za.mk e3
   have KK := za.mk hlt
   clear hs e0 e1 e2 e3 hb e64 e64n
   go_wp2
   refine zbq (.slice A k c) 29 (by kernel_rfl) (by kernel_rfl) (fun _ _ _ h => h) (Or.inl ⟨by rfl,fun w => by go_simp⟩) ?_
   simp only [List.take_succ_cons,List.take_zero,List.drop_succ_cons,List.drop_zero]
   repeat still_step
   refine wpStill_nil ?_
   change wpList _ _ _ _ _ wr.drew
   generalize hwd : wr.drew = wd
   have HM2 : za (wd.ownsRow w2.heap.size 66 1 (.slice A k c) (zb8 b k).length (zbh .u32 (zb8 b k)) ∧ Below w2.heap.size w2 wd) := ⟨by rw [← hwd];exact ⟨HM'.out.1,zn HM'.out.2⟩⟩
   clear hwd HM'
   have hv : za (bt b i0 * 16777216 + bt b i1 * 65536 + bt b i2 * 256 + bt b i3 = zfl b k) := ⟨by
    have := E0.out;have := E1.out;have := E2.out;have := E3.out
    rw [zfl,show i0 = ((4 * k : Nat) : Int) by omega,show i1 = ((4 * k + 1 : Nat) : Int) by omega,show i2 = ((4 * k + 2 : Nat) : Int) by omega,show i3 = ((4 * k + 3 : Nat) : Int) by omega]⟩
   go_wp2_with (at_builtin;go_loud (refine zcM w2.heap.size rfl (.tmp 36) (.tmp 66) 90 66 .u32 4 rfl Try.underlying90 zhx (by decide) (.slice A k c) (zb8 b k) _ rfl rfl HM2.out.1 HM2.out.2 HM2.out.2.size (by rw [zbK];omega) ?_;intro v1 w3 ho1 hb1 hx1 hx2;clear hx1 hx2;have HM1 : za (Rw w2 w3 v1 (zb8 b (k + 1))) := ⟨⟨by rw [zb8,← hv.out,← sum4 (zbl b i0) (zbl b i1) (zbl b i2) (zbl b i3)];exact ho1,hb1⟩⟩;clear ho1 hb1))
   go_roundw
   case rel =>
    exact ⟨k + 1,rfl,by omega,HM1⟩
   case measure => show 16 - ((k : Int) + 1).toNat < 16 - (k : Int).toNat;omega
  ·obtain rfl : k = 16 := by omega
   have R1 : za (Rw w2 wr (.slice A 16 c) (zA b 0)) := ⟨⟨HM'.out.1,HM'.out.2⟩⟩
   clear hlt hk HM' hb e64 e64n
   go_wp2
   go_loopw [6,8,9,10,11,12] (fun v6 v8 _ _ _ _ wr => ∃ n : Nat,v8 = .int .i64 ((16 + n : Nat) : Int) ∧ n ≤ 48 ∧ za (Rw w2 wr v6 (zA b n))) (fun _ v8 _ _ _ _ _ => 64 - (intOf v8).toNat)
   case atStart => exact ⟨0,rfl,by omega,R1⟩
   case round =>
    clear R1
    obtain ⟨n,rfl,hn,HM⟩ := hrel
    obtain ⟨m,em⟩ : ∃ m : Nat,m = 16 + n := ⟨_,rfl⟩
    rw [← em]
    obtain ⟨g,c,rfl,hg1,hg2⟩ := HM.out.o.form (by rw [zaC];omega)
    rw [zaC,← em]
    have HM' : za (Rw w2 wr (.slice (some ⟨g,0,none⟩) m c) (zA b n)) := ⟨by have := HM.out;rw [zaC,← em] at this;exact this⟩
    clear HM hg1 hg2
    by_cases hlt : m < 64
    ·have hb1 : decide (m < 64) = true := decide_eq_true hlt
     have hbi : decide ((m : Int) < 64) = true := decide_eq_true (by omega)
     obtain ⟨m15,e15⟩ : ∃ j : Nat,j = m - 15 := ⟨_,rfl⟩
     obtain ⟨m2,e2⟩ : ∃ j : Nat,j = m - 2 := ⟨_,rfl⟩
     obtain ⟨m16,e16⟩ : ∃ j : Nat,j = m - 16 := ⟨_,rfl⟩
     obtain ⟨m7,e7⟩ : ∃ j : Nat,j = m - 7 := ⟨_,rfl⟩
     have z15 : IntKind.i64.wrap ((m : Int) - 15) = (m15 : Int) := by rw [IntKind.wrap_i64];omega
     have z2 : IntKind.i64.wrap ((m : Int) - 2) = (m2 : Int) := by rw [IntKind.wrap_i64];omega
     have z16 : IntKind.i64.wrap ((m : Int) - 16) = (m16 : Int) := by rw [IntKind.wrap_i64];omega
     have z7 : IntKind.i64.wrap ((m : Int) - 7) = (m7 : Int) := by rw [IntKind.wrap_i64];omega
     have l15 : (m15 < m) = True := eq_true (by omega)
     have b15 : ((m15 : Int) < (m : Int)) = True := eq_true (by omega)
     have l2 : (m2 < m) = True := eq_true (by omega)
     have b2 : ((m2 : Int) < (m : Int)) = True := eq_true (by omega)
     have l16 : (m16 < m) = True := eq_true (by omega)
     have b16 : ((m16 : Int) < (m : Int)) = True := eq_true (by omega)
     have l7 : (m7 < m) = True := eq_true (by omega)
     have b7 : ((m7 : Int) < (m : Int)) = True := eq_true (by omega)
     have oW := zei b n
     have lW : (zA b n).length = m := by rw [zaC,em]
     have cell : ∀ (wx : World),Rw w2 wx (.slice (some ⟨g,0,none⟩) m c) (zA b n) → ∀ j,j < m → wx.cell? ⟨g,j,none⟩ = some (.int .u32 ((zA b n).getD j 0)) := fun wx hx j hj => by
      have h := hx.o.cells (g := g) rfl j (.int .u32 ((zA b n).getD j 0)) (by simp [zbh,List.getElem?_eq_getElem (show j < (zA b n).length by omega),List.getD_eq_getElem?_getD])
      rwa [zcF] at h
     have c15 := cell wr HM'.out m15 (by omega)
     have c2 := cell wr HM'.out m2 (by omega)
     have CELL := za.mk cell
     have L16 : za (m16 < m) := ⟨by omega⟩
     have L7 : za (m7 < m) := ⟨by omega⟩
     have hval : za (zcY (zA b n) (16 + n) = zcY (zA b n) m) := ⟨by rw [em]⟩
     have EM := za.mk em
     have E15 := za.mk e15
     have E2 := za.mk e2
     have E16 := za.mk e16
     have E7 := za.mk e7
     have O15 := za.mk (oW m15)
     have O2 := za.mk (oW m2)
     generalize hX : (zA b n).getD m15 0 = X at c15 O15
     generalize hY : (zA b n).getD m2 0 = Y at c2 O2
     have HX := za.mk hX
     have HY := za.mk hY
     clear cell em e15 e2 e16 e7 oW lW hX hY
     go_wp2_with (first
      | (go_at_call 67;(with_reducible refine (rturn7 X O15.out _).mono ?_);rintro e w3 ⟨rfl,hbw⟩;replace HM' : za (Rw w2 w3 (.slice (some ⟨g,0,none⟩) m c) (zA b n)) := ⟨HM'.out.below hbw⟩;clear hbw)
      | (go_at_call 67;(with_reducible refine (rturn18 X O15.out _).mono ?_);rintro e w3 ⟨rfl,hbw⟩;replace HM' : za (Rw w2 w3 (.slice (some ⟨g,0,none⟩) m c) (zA b n)) := ⟨HM'.out.below hbw⟩;clear hbw)
      | (go_at_call 68;(with_reducible refine (rover3 X O15.out _).mono ?_);rintro e w3 ⟨rfl,hbw⟩;replace HM' : za (Rw w2 w3 (.slice (some ⟨g,0,none⟩) m c) (zA b n)) := ⟨HM'.out.below hbw⟩;clear hbw)
      | (go_at_call 67;(with_reducible refine (rturn17 Y O2.out _).mono ?_);rintro e w3 ⟨rfl,hbw⟩;replace HM' : za (Rw w2 w3 (.slice (some ⟨g,0,none⟩) m c) (zA b n)) := ⟨HM'.out.below hbw⟩;clear hbw)
      | (go_at_call 67;(with_reducible refine (rturn19 Y O2.out _).mono ?_);rintro e w3 ⟨rfl,hbw⟩;replace HM' : za (Rw w2 w3 (.slice (some ⟨g,0,none⟩) m c) (zA b n)) := ⟨HM'.out.below hbw⟩;clear hbw)
      | (go_at_call 68;(with_reducible refine (rover10 Y O2.out _).mono ?_);rintro e w3 ⟨rfl,hbw⟩;replace HM' : za (Rw w2 w3 (.slice (some ⟨g,0,none⟩) m c) (zA b n)) := ⟨HM'.out.below hbw⟩;clear hbw))
     have c16 := CELL.out w3.drew ⟨HM'.out.o,zn HM'.out.c⟩ m16 L16.out
     have c7 := CELL.out w3.drew ⟨HM'.out.o,zn HM'.out.c⟩ m7 L7.out
     refine zbq (.slice (some ⟨g,0,none⟩) m c) 15 (by kernel_rfl) (by kernel_rfl) (fun _ _ _ h => h) (Or.inl ⟨by rfl,fun w => by go_simp⟩) ?_
     simp only [List.take_succ_cons,List.take_zero,List.drop_succ_cons,List.drop_zero]
     repeat still_step
     refine wpStill_nil ?_
     change wpList _ _ _ _ _ w3.drew
     have HM2 : za (Rw w2 w3.drew (.slice (some ⟨g,0,none⟩) m c) (zA b n)) := ⟨⟨HM'.out.o,zn HM'.out.c⟩⟩
     generalize w3.drew = wd at HM2 c16 c7 ⊢
     have hE : za (((((zA b n)[m16]?.getD 0 + Go.bits .xor .u32 (Go.bits .xor .u32 (z6 7 X) (z6 18 X)) (X / 8)) % 4294967296 + (zA b n)[m7]?.getD 0) % 4294967296 + Go.bits .xor .u32 (Go.bits .xor .u32 (z6 17 Y) (z6 19 Y)) (Y / 1024)) % 4294967296 = zcY (zA b n) (16 + n)) := ⟨by
      rw [← EM.out,zcY,← E16.out,← E15.out,← E7.out,← E2.out,HX.out,HY.out,← List.getD_eq_getElem?_getD,← List.getD_eq_getElem?_getD,rsched]
      rfl⟩
     have LW : za ((zA b n).length = m) := ⟨by rw [zaC,EM.out]⟩
     clear HM'
     go_wp2_with (at_builtin;go_loud (refine zcM w2.heap.size rfl (.tmp 98) (.tmp 114) 90 66 .u32 4 rfl Try.underlying90 zhx (by decide) (.slice (some ⟨g,0,none⟩) m c) (zA b n) _ rfl rfl (by have := HM2.out.o;rw [LW.out] at this ⊢;exact this) HM2.out.c HM2.out.c.size (by rw [LW.out];omega) ?_;intro v1 w4 ho1 hb1 hx1 hx2;clear hx1 hx2;have HM1 : za (Rw w2 w4 v1 (zA b (n + 1))) := ⟨⟨by rw [zA,← hE.out];exact ho1,hb1⟩⟩;clear ho1 hb1))
     go_roundw
     case rel =>
      (repeat apply Exists.intro)
      refine ⟨?_,rfl⟩
      have hm := EM.out
      refine ⟨n + 1,by rw [hm];rfl,by omega,HM1⟩
     case measure => have := EM.out;show 64 - ((m : Int) + 1).toNat < 64 - (m : Int).toNat;omega
    ·obtain rfl : m = 64 := by omega
     obtain rfl : n = 48 := by omega
     have LW : za ((zA b 48).length = 64) := ⟨zaC b 48⟩
     have Q0 : za (Rq w wr w2.heap.size g2 g4 g c H (zA b 48)) := ⟨⟨zd M0.out.b HM'.out.c,zx M0.out.h HM'.out.c,zx M0.out.r HM'.out.c,by have := HM'.out.o;rw [LW.out] at this;exact this⟩⟩
     clear em hlt hn HM'
     obtain ⟨B,eB⟩ : ∃ B,B = w2.heap.size := ⟨_,rfl⟩
     rw [← eB] at Q0
     clear eB M0
     go_wp2_with (first
      | (go_at_call 69;(with_reducible refine (rwords.walk _).mono ?_);rintro e w5 ⟨rfl,hbw⟩;have Q5 : za (Rq w w5 B g2 g4 g c H (zA b 48)) := ⟨Q0.out.below hbw⟩;clear hbw Q0)
      | ((with_reducible refine zo (N := 13) rfl ?_);refine zk rfl (N := 13) rfl (cs := zB (zbo [])) (t := 83) hrq ?_;intro g13 hg w6 hbox hb;have G13 : za (w.heap.size ≤ g13) := ⟨by rw [hg];exact zf Q5.out.b⟩;have N132 : za (g13 ≠ g2) := ⟨by rw [hg];exact Nat.ne_of_gt (za6 Q5.out.h)⟩;have N134 : za (g13 ≠ g4) := ⟨by rw [hg];exact Nat.ne_of_gt (za6 Q5.out.r)⟩;have N13g : za (g13 ≠ g) := ⟨by rw [hg];exact Nat.ne_of_gt (zg0 Q5.out.o g rfl)⟩;have Q6 : za (Rq w w6 B g2 g4 g c H (zA b 48)) := ⟨Q5.out.below hb⟩;have B13 := za.mk hbox;clear hb hbox hg Q5;refine wpList_store_row rfl 83 (.tmp 13) (.tmp 116) rfl g13 (zB kL) (by kernel_rfl) (by kernel_rfl) 83 _ B13.out (by kernel_rfl) (by kernel_rfl) zf5 ?_;have R7 : za (Rr w (w6.setRow g13 (zB kL)) B g2 g4 g13 g c H (zA b 48)) := ⟨⟨Q6.out.row G13.out N132.out N134.out N13g.out,setRow_heap _ _ _ _ _ _ B13.out⟩⟩;generalize World.setRow w6 _ _ = w7 at R7 ⊢;clear Q6 B13;have ch0 : w7.cell? ⟨g2,0,none⟩ = some (.int .u32 (H.getD 0 0)) := (zb R7.out.q.h 0).trans (zH H 0 (by rw [HH.out];omega));have ch1 : w7.cell? ⟨g2,1,none⟩ = some (.int .u32 (H.getD 1 0)) := (zb R7.out.q.h 1).trans (zH H 1 (by rw [HH.out];omega));have ch2 : w7.cell? ⟨g2,2,none⟩ = some (.int .u32 (H.getD 2 0)) := (zb R7.out.q.h 2).trans (zH H 2 (by rw [HH.out];omega));have ch3 : w7.cell? ⟨g2,3,none⟩ = some (.int .u32 (H.getD 3 0)) := (zb R7.out.q.h 3).trans (zH H 3 (by rw [HH.out];omega));have ch4 : w7.cell? ⟨g2,4,none⟩ = some (.int .u32 (H.getD 4 0)) := (zb R7.out.q.h 4).trans (zH H 4 (by rw [HH.out];omega));have ch5 : w7.cell? ⟨g2,5,none⟩ = some (.int .u32 (H.getD 5 0)) := (zb R7.out.q.h 5).trans (zH H 5 (by rw [HH.out];omega));have ch6 : w7.cell? ⟨g2,6,none⟩ = some (.int .u32 (H.getD 6 0)) := (zb R7.out.q.h 6).trans (zH H 6 (by rw [HH.out];omega));have ch7 : w7.cell? ⟨g2,7,none⟩ = some (.int .u32 (H.getD 7 0)) := (zb R7.out.q.h 7).trans (zH H 7 (by rw [HH.out];omega))))
     clear ch0 ch1 ch2 ch3 ch4 ch5 ch6 ch7
     go_loopw [14,15,16,17,18,19,20,21,22,23,24,25,26,27] (fun v14 v15 v16 v17 v18 v19 v20 v21 v22 _ _ _ _ _ wr => ∃ k : Nat,v22 = .int .i64 k ∧ k ≤ 64 ∧ v14 = .int .u32 ((zaA H kL (zA b 48) k).getD 0 0) ∧ v15 = .int .u32 ((zaA H kL (zA b 48) k).getD 1 0) ∧ v16 = .int .u32 ((zaA H kL (zA b 48) k).getD 2 0) ∧ v17 = .int .u32 ((zaA H kL (zA b 48) k).getD 3 0) ∧ v18 = .int .u32 ((zaA H kL (zA b 48) k).getD 4 0) ∧ v19 = .int .u32 ((zaA H kL (zA b 48) k).getD 5 0) ∧ v20 = .int .u32 ((zaA H kL (zA b 48) k).getD 6 0) ∧ v21 = .int .u32 ((zaA H kL (zA b 48) k).getD 7 0) ∧ za (Rr w wr B g2 g4 g13 g c H (zA b 48))) (fun _ _ _ _ _ _ _ _ v22 _ _ _ _ _ _ => 64 - (intOf v22).toNat)
     case atStart => exact ⟨0,rfl,by omega,rfl,rfl,rfl,rfl,rfl,rfl,rfl,rfl,R7⟩
     case round =>
      clear R7
      obtain ⟨k,rfl,hk,rfl,rfl,rfl,rfl,rfl,rfl,rfl,rfl,HR⟩ := hrel
      by_cases hlt : k < 64
      ·have hb1 : decide (k < 64) = true := decide_eq_true hlt
       have hbi : decide ((k : Int) < 64) = true := decide_eq_true (by omega)
       have bk : ((k : Int) < 64) = True := eq_true (by omega)
       have bk2 : (k < 64) = True := eq_true hlt
       have oS := zcX OH.out kL (zA b 48) k
       have hnext : za (zaA H kL (zA b 48) (k + 1) = zeh (zaA H kL (zA b 48) k) (kL.getD k 0) ((zA b 48).getD k 0)) := ⟨rfl⟩
       generalize zaA H kL (zA b 48) k = S at hnext oS ⊢
       have hroundL : za (zeh S (kL.getD k 0) ((zA b 48).getD k 0) = zfg (S.getD 0 0) (S.getD 1 0) (S.getD 2 0) (S.getD 3 0) (S.getD 4 0) (S.getD 5 0) (S.getD 6 0) (S.getD 7 0) (kL.getD k 0) ((zA b 48).getD k 0)) := ⟨rfl⟩
       have o0 := oS 0;have o4 := oS 4
       obtain ⟨s0,hs0⟩ : ∃ x,x = S.getD 0 0 := ⟨_,rfl⟩
       obtain ⟨s1,hs1⟩ : ∃ x,x = S.getD 1 0 := ⟨_,rfl⟩
       obtain ⟨s2,hs2⟩ : ∃ x,x = S.getD 2 0 := ⟨_,rfl⟩
       obtain ⟨s3,hs3⟩ : ∃ x,x = S.getD 3 0 := ⟨_,rfl⟩
       obtain ⟨s4,hs4⟩ : ∃ x,x = S.getD 4 0 := ⟨_,rfl⟩
       obtain ⟨s5,hs5⟩ : ∃ x,x = S.getD 5 0 := ⟨_,rfl⟩
       obtain ⟨s6,hs6⟩ : ∃ x,x = S.getD 6 0 := ⟨_,rfl⟩
       obtain ⟨s7,hs7⟩ : ∃ x,x = S.getD 7 0 := ⟨_,rfl⟩
       rw [← hs0,← hs1,← hs2,← hs3,← hs4,← hs5,← hs6,← hs7] at hroundL
       rw [← hs0,← hs1,← hs2,← hs3,← hs4,← hs5,← hs6,← hs7]
       rw [← hs0] at o0
       rw [← hs4] at o4
       obtain ⟨kk,hkk⟩ : ∃ x,x = kL.getD k 0 := ⟨_,rfl⟩
       obtain ⟨ww,hww⟩ : ∃ x,x = (zA b 48).getD k 0 := ⟨_,rfl⟩
       rw [← hkk,← hww] at hroundL hnext
       have cK : ∀ wx,Rr w wx B g2 g4 g13 g c H (zA b 48) → wx.cell? ⟨g13,k,none⟩ = some (.int .u32 kk) := fun wx hx => by rw [hkk];exact (zb hx.k k).trans (zH kL k hlt)
       have cW : ∀ wx,Rr w wx B g2 g4 g13 g c H (zA b 48) → wx.cell? ⟨g,k,none⟩ = some (.int .u32 ww) := fun wx hx => by rw [hww];exact hx.q.cell (zaC b 48) k hlt
       have CK := za.mk cK
       have CW := za.mk cW
       have O0 := za.mk o0
       have O4 := za.mk o4
       clear cK cW o0 o4 oS hs0 hs1 hs2 hs3 hs4 hs5 hs6 hs7 hkk hww
       go_wp2_with (first
        | (go_at_call 67;(with_reducible refine (rturn6 s4 O4.out _).mono ?_);rintro e w8 ⟨rfl,hbw⟩;replace HR : za (Rr w w8 B g2 g4 g13 g c H (zA b 48)) := ⟨HR.out.below hbw⟩;clear hbw)
        | (go_at_call 67;(with_reducible refine (rturn11 s4 O4.out _).mono ?_);rintro e w8 ⟨rfl,hbw⟩;replace HR : za (Rr w w8 B g2 g4 g13 g c H (zA b 48)) := ⟨HR.out.below hbw⟩;clear hbw)
        | (go_at_call 67;(with_reducible refine (rturn25 s4 O4.out _).mono ?_);rintro e w8 ⟨rfl,hbw⟩;replace HR : za (Rr w w8 B g2 g4 g13 g c H (zA b 48)) := ⟨HR.out.below hbw⟩;clear hbw))
       have e42 : (4294967295 - s4) % 4294967296 = 4294967295 - s4 := by have h1 := O4.out.1;have h2 := O4.out.2;omega
       rw [e42]
       clear e42
       have HR8 : za (Rr w w8.drew B g2 g4 g13 g c H (zA b 48)) := ⟨⟨⟨zn HR.out.q.b,HR.out.q.h,HR.out.q.r,HR.out.q.o⟩,HR.out.k⟩⟩
       have dK := CK.out w8.drew HR8.out
       have dW := CW.out w8.drew HR8.out
       refine wp_region_still_lit (by kernel_rfl) (by kernel_rfl) ?_
       repeat still_step
       refine wpStill_nil ?_
       change Exit.then _ _ Exit.normal _ w8.drew
       clear HR
       have HR := HR8
       clear HR8
       generalize w8.drew = wd at HR dK dW ⊢
       clear dK dW
       go_wp2_with (first
        | (go_at_call 67;(with_reducible refine (rturn2 s0 O0.out _).mono ?_);rintro e w9 ⟨rfl,hbw⟩;replace HR : za (Rr w w9 B g2 g4 g13 g c H (zA b 48)) := ⟨HR.out.below hbw⟩;clear hbw)
        | (go_at_call 67;(with_reducible refine (rturn13 s0 O0.out _).mono ?_);rintro e w9 ⟨rfl,hbw⟩;replace HR : za (Rr w w9 B g2 g4 g13 g c H (zA b 48)) := ⟨HR.out.below hbw⟩;clear hbw)
        | (go_at_call 67;(with_reducible refine (rturn22 s0 O0.out _).mono ?_);rintro e w9 ⟨rfl,hbw⟩;replace HR : za (Rr w w9 B g2 g4 g13 g c H (zA b 48)) := ⟨HR.out.below hbw⟩;clear hbw))
       refine ⟨⟨k + 1,rfl,by omega,?_,?_,?_,?_,?_,?_,?_,?_,HR⟩,by show 64 - ((k : Int) + 1).toNat < 64 - (k : Int).toNat;omega⟩
       all_goals (rw [hnext.out,hroundL.out];(first | rfl | (simp only [zfg,zbs,zbN,zc1];rfl)))
      ·obtain rfl : k = 64 := by omega
       have oS := zcX OH.out kL (zA b 48) 64
       have lS := zdk HH.out kL (zA b 48) 64
       have hfin : za (zcd (zaA H kL (zA b 48) 64) H 8 = zdL H kL b) := ⟨rfl⟩
       generalize zaA H kL (zA b 48) 64 = R at hfin oS lS ⊢
       obtain ⟨r0,hr0⟩ : ∃ x,x = R.getD 0 0 := ⟨_,rfl⟩
       obtain ⟨r1,hr1⟩ : ∃ x,x = R.getD 1 0 := ⟨_,rfl⟩
       obtain ⟨r2,hr2⟩ : ∃ x,x = R.getD 2 0 := ⟨_,rfl⟩
       obtain ⟨r3,hr3⟩ : ∃ x,x = R.getD 3 0 := ⟨_,rfl⟩
       obtain ⟨r4,hr4⟩ : ∃ x,x = R.getD 4 0 := ⟨_,rfl⟩
       obtain ⟨r5,hr5⟩ : ∃ x,x = R.getD 5 0 := ⟨_,rfl⟩
       obtain ⟨r6,hr6⟩ : ∃ x,x = R.getD 6 0 := ⟨_,rfl⟩
       obtain ⟨r7,hr7⟩ : ∃ x,x = R.getD 7 0 := ⟨_,rfl⟩
       obtain ⟨h0,hh0⟩ : ∃ x,x = H.getD 0 0 := ⟨_,rfl⟩
       obtain ⟨h1,hh1⟩ : ∃ x,x = H.getD 1 0 := ⟨_,rfl⟩
       obtain ⟨h2,hh2⟩ : ∃ x,x = H.getD 2 0 := ⟨_,rfl⟩
       obtain ⟨h3,hh3⟩ : ∃ x,x = H.getD 3 0 := ⟨_,rfl⟩
       obtain ⟨h4,hh4⟩ : ∃ x,x = H.getD 4 0 := ⟨_,rfl⟩
       obtain ⟨h5,hh5⟩ : ∃ x,x = H.getD 5 0 := ⟨_,rfl⟩
       obtain ⟨h6,hh6⟩ : ∃ x,x = H.getD 6 0 := ⟨_,rfl⟩
       obtain ⟨h7,hh7⟩ : ∃ x,x = H.getD 7 0 := ⟨_,rfl⟩
       rw [← hr0,← hr1,← hr2,← hr3,← hr4,← hr5,← hr6,← hr7]
       have ch0 : wr.cell? ⟨g2,0,none⟩ = some (.int .u32 h0) := by rw [hh0];exact (zb HR.out.q.h 0).trans (zH H 0 (by rw [HH.out];omega))
       have ch1 : wr.cell? ⟨g2,1,none⟩ = some (.int .u32 h1) := by rw [hh1];exact (zb HR.out.q.h 1).trans (zH H 1 (by rw [HH.out];omega))
       have ch2 : wr.cell? ⟨g2,2,none⟩ = some (.int .u32 h2) := by rw [hh2];exact (zb HR.out.q.h 2).trans (zH H 2 (by rw [HH.out];omega))
       have ch3 : wr.cell? ⟨g2,3,none⟩ = some (.int .u32 h3) := by rw [hh3];exact (zb HR.out.q.h 3).trans (zH H 3 (by rw [HH.out];omega))
       have ch4 : wr.cell? ⟨g2,4,none⟩ = some (.int .u32 h4) := by rw [hh4];exact (zb HR.out.q.h 4).trans (zH H 4 (by rw [HH.out];omega))
       have ch5 : wr.cell? ⟨g2,5,none⟩ = some (.int .u32 h5) := by rw [hh5];exact (zb HR.out.q.h 5).trans (zH H 5 (by rw [HH.out];omega))
       have ch6 : wr.cell? ⟨g2,6,none⟩ = some (.int .u32 h6) := by rw [hh6];exact (zb HR.out.q.h 6).trans (zH H 6 (by rw [HH.out];omega))
       have ch7 : wr.cell? ⟨g2,7,none⟩ = some (.int .u32 h7) := by rw [hh7];exact (zb HR.out.q.h 7).trans (zH H 7 (by rw [HH.out];omega))
       have F : za (zdL H kL b = [(h0 + r0) % 4294967296,(h1 + r1) % 4294967296,(h2 + r2) % 4294967296,(h3 + r3) % 4294967296,(h4 + r4) % 4294967296,(h5 + r5) % 4294967296,(h6 + r6) % 4294967296,(h7 + r7) % 4294967296]) := ⟨by
        rw [← hfin.out]
        refine ze2 (zb3 _ _ _) rfl (fun j hj => ?_)
        rw [zcj _ _ _ _ hj,if_pos hj]
        have : j = 0 ∨ j = 1 ∨ j = 2 ∨ j = 3 ∨ j = 4 ∨ j = 5 ∨ j = 6 ∨ j = 7 := by omega
        rcases this with rfl | rfl | rfl | rfl | rfl | rfl | rfl | rfl
        ·rw [← hr0,← hh0,Int.add_comm,zbs];rfl
        ·rw [← hr1,← hh1,Int.add_comm,zbs];rfl
        ·rw [← hr2,← hh2,Int.add_comm,zbs];rfl
        ·rw [← hr3,← hh3,Int.add_comm,zbs];rfl
        ·rw [← hr4,← hh4,Int.add_comm,zbs];rfl
        ·rw [← hr5,← hh5,Int.add_comm,zbs];rfl
        ·rw [← hr6,← hh6,Int.add_comm,zbs];rfl
        ·rw [← hr7,← hh7,Int.add_comm,zbs];rfl
        ⟩
       clear hr0 hr1 hr2 hr3 hr4 hr5 hr6 hr7 hh0 hh1 hh2 hh3 hh4 hh5 hh6 hh7 hfin oS lS hlt hk
       go_wp2_with (first
        | ((with_reducible refine zo (N := 232) rfl ?_);refine wpList_build rfl 67 _ rfl (by kernel_rfl) ?_;refine wpList_store_row rfl 67 (.tmp 4) (.tmp 232) rfl g4 (zB [(h0 + r0) % 4294967296,(h1 + r1) % 4294967296,(h2 + r2) % 4294967296,(h3 + r3) % 4294967296,(h4 + r4) % 4294967296,(h5 + r5) % 4294967296,(h6 + r6) % 4294967296,(h7 + r7) % 4294967296]) (by kernel_rfl) (by kernel_rfl) 67 _ HR.out.q.r (by kernel_rfl) (by kernel_rfl) (by kernel_rfl) ?_;have HF : za (Below w.heap.size w (wr.setRow g4 (zB [(h0 + r0) % 4294967296,(h1 + r1) % 4294967296,(h2 + r2) % 4294967296,(h3 + r3) % 4294967296,(h4 + r4) % 4294967296,(h5 + r5) % 4294967296,(h6 + r6) % 4294967296,(h7 + r7) % 4294967296])) ∧ (wr.setRow g4 (zB [(h0 + r0) % 4294967296,(h1 + r1) % 4294967296,(h2 + r2) % 4294967296,(h3 + r3) % 4294967296,(h4 + r4) % 4294967296,(h5 + r5) % 4294967296,(h6 + r6) % 4294967296,(h7 + r7) % 4294967296])).heap[g4]? = some (.cells (zB [(h0 + r0) % 4294967296,(h1 + r1) % 4294967296,(h2 + r2) % 4294967296,(h3 + r3) % 4294967296,(h4 + r4) % 4294967296,(h5 + r5) % 4294967296,(h6 + r6) % 4294967296,(h7 + r7) % 4294967296]) 67 (0,0))) := ⟨zaX HR.out.q.b G4.out,setRow_heap _ _ _ _ _ _ HR.out.q.r⟩;generalize World.setRow wr _ _ = wf at HF ⊢))
       refine bodyPost_ret (zhd rfl _ _ g4 67 (zB [(h0 + r0) % 4294967296,(h1 + r1) % 4294967296,(h2 + r2) % 4294967296,(h3 + r3) % 4294967296,(h4 + r4) % 4294967296,(h5 + r5) % 4294967296,(h6 + r6) % 4294967296,(h7 + r7) % 4294967296]) (0,0) _ (by kernel_rfl) HF.out.2 Try.underlying67 rfl (by kernel_rfl)) rfl ?_
       refine ⟨?_,HF.out.1⟩
       rw [F.out]
       rfl
structure Rs (w W : World) (g3 : Nat) (L : List Int) : Prop where
 b : Below w.heap.size w W
 h : W.heap[g3]? = some (.cells (zB L) 67 (0,0))
theorem Rs.below {w W W' : World} {g3 : Nat} {L : List Int} (h : Rs w W g3 L) (hb : Below W.heap.size W W') : Rs w W' g3 L := ⟨zd h.b hb,zx h.h hb⟩
theorem zhF (W : World) (e : TypeId) (k : IntKind) (xs : List Int) (hm : xs.length ≤ 9223372036854775807) : zaN (W.alloc (.cells (zbh k xs).toArray e)) k (some ⟨W.heap.size,0,none⟩) xs.length xs := by
 obtain ⟨A,c,e,h⟩ := zed (zhu W 0 e k xs (Nat.zero_le _) hm)
 cases e
 exact h
def zdM (L : List Int) : Nat → List Int
 | 0 => []
 | n + 1 => zdM L n ++ [L.getD n 0 / 16777216 % 256,L.getD n 0 / 65536 % 256,L.getD n 0 / 256 % 256,L.getD n 0 % 256]
theorem zdg (L : List Int) : ∀ n,(zdM L n).length = 4 * n
 | 0 => rfl
 | n + 1 => by rw [zdM,List.length_append,zdg L n];show 4 * n + 4 = _;omega
theorem zhU {x : Int} (hx : za2 x) : [x / 16777216 % 256,x / 65536 % 256,x / 256 % 256,x % 256].map (fun n : Int => UInt8.ofNat n.toNat) = zcc x := by
 obtain ⟨n,rfl⟩ := Int.eq_ofNat_of_zero_le hx.1
 rfl
theorem zin (L : List Int) (ok : okL L) (n : Nat) (hn : n ≤ L.length) : (zdM L n).map (fun n : Int => UInt8.ofNat n.toNat) = (L.take n).flatMap zcc := by
 induction n with
 | zero => rfl
 | succ n ih =>
  have hx : L[n]? = some (L.getD n 0) := by rw [List.getD_eq_getElem?_getD,List.getElem?_eq_getElem (by omega)];rfl
  rw [zdM,List.map_append,ih (by omega),zhU (ok n),List.take_add_one,hx,List.flatMap_append]
  simp
theorem zio (L : List Int) (ok : okL L) (h : L.length = 8) : strOfNums (zdM L 8) = toB (L.flatMap zcc) := by
 rw [zbm,zin L ok 8 (by omega),List.take_of_length_le (by omega)]
theorem zhV {x : Int} (hx : za2 x) : [x.tdiv 16777216 % 4294967296 % 256,(x.tdiv 65536 % 4294967296).tmod 256 % 256,(x.tdiv 256 % 4294967296).tmod 256 % 256,x.tmod 256 % 256] = [x / 16777216 % 256,x / 65536 % 256,x / 256 % 256,x % 256] := by
 have h0 := hx.1
 have h1 := hx.2
 have d1 : 0 ≤ x / 65536 % 4294967296 := Int.emod_nonneg _ (by decide)
 have d2 : 0 ≤ x / 256 % 4294967296 := Int.emod_nonneg _ (by decide)
 rw [Int.tdiv_eq_ediv_of_nonneg h0,Int.tdiv_eq_ediv_of_nonneg h0,Int.tdiv_eq_ediv_of_nonneg h0,Int.tmod_eq_emod_of_nonneg d1,Int.tmod_eq_emod_of_nonneg d2,Int.tmod_eq_emod_of_nonneg h0]
 rw [show x / 16777216 % 4294967296 = x / 16777216 by omega,show x / 65536 % 4294967296 = x / 65536 by omega,show x / 256 % 4294967296 = x / 256 by omega,Int.emod_emod_of_dvd _ (Int.dvd_refl 256),Int.emod_emod_of_dvd _ (Int.dvd_refl 256),Int.emod_emod_of_dvd _ (Int.dvd_refl 256)]
structure Ro (wb W : World) (L : List Int) (v : Value) (n : Nat) : Prop where
 o : W.ownsRow wb.heap.size 5 1 v (zdM L n).length (zbh .u8 (zdM L n))
 c : Below wb.heap.size wb W
theorem zgs (L : List Int) : (zB L).all (·.oneCell') = true := by simp [zB,Value.oneCell']
set_option maxHeartbeats 8000000 in
set_option maxRecDepth 100000 in
theorem rsum.walk (s : ByteArray) (w : World) (hsz : s.size ≤ 70368744177664) :
  Calls Try.prog 20 #[.string s] w fun e w' => e = .returned (.string (zeF s)) ∧ Below w.heap.size w w' := by
 have HSZ := za.mk hsz
 clear hsz
 go_enter Try.func20,Try.ntmps20
 go_wp2_with (first
  | (go_at_call 38;(with_reducible refine (rpad.walk _ _ HSZ.out).mono ?_);rintro e w6 ⟨rfl,hb⟩;have M1 : za (Rs w w6 g3 hL) := ⟨M0.out.below hb⟩;clear M0 hb)
  | (go_at_call 37;(with_reducible refine (rfirst.walk _).mono ?_);rintro e w1 ⟨rfl,hb⟩;have HB1 := za.mk hb;clear hb)
  | ((with_reducible refine zo (N := 3) rfl ?_);refine zk rfl (N := 3) rfl (cs := zB [0,0,0,0,0,0,0,0]) (t := 67) hrq ?_;intro g3 hg w3 hbox hb;have G3 : za (w.heap.size ≤ g3) := ⟨by rw [hg];exact zf HB1.out⟩;have B3 := za.mk hbox;have HB3 := za.mk (zd HB1.out hb);clear hb hbox hg;refine wpList_store_row rfl 67 (.tmp 3) (.tmp 8) rfl g3 (zB hL) (by kernel_rfl) (by kernel_rfl) 67 _ B3.out (by kernel_rfl) (by kernel_rfl) zh9 ?_;have M0 : za (Rs w (w3.setRow g3 (zB hL)) g3 hL) := ⟨⟨zaX HB3.out G3.out,setRow_heap _ _ _ _ _ _ B3.out⟩⟩;generalize World.setRow w3 _ _ = W5 at M0 ⊢;clear HB1 HB3 B3))
 obtain ⟨m,hm⟩ := zgz (ofB s)
 obtain ⟨p,ep⟩ : ∃ p,p = toB (zdh (ofB s)) := ⟨_,rfl⟩
 have hps : p.size = 64 * m := by rw [ep,zac,hm]
 have hpl : 64 * m < 9223372036854775800 := by
  rw [← hm,zdh];simp only [List.length_append,List.length_cons,List.length_replicate,zaa,zdI,List.length_nil];have := HSZ.out;have : zbW s.size < 64 := by unfold zbW;omega
  omega
 rw [← ep]
 have EP := za.mk ep
 have HM := za.mk hm
 have HP := za.mk hps
 have HL := za.mk hpl
 clear ep hm hps hpl
 go_loopw [5] (fun v5 wr => ∃ k : Nat,v5 = .int .i64 ((64 * k : Nat) : Int) ∧ k ≤ m ∧ za (Rs w wr g3 (zax p k))) (fun v5 _ => p.size - (intOf v5).toNat)
 case atStart => exact ⟨0,rfl,by omega,M1⟩
 case round =>
  clear M1
  obtain ⟨k,rfl,hk,MK⟩ := hrel
  by_cases hlt : k < m
  ·have hps := HP.out
   have hpl := HL.out
   obtain ⟨i,ei⟩ : ∃ i : Nat,i = 64 * k := ⟨_,rfl⟩
   rw [← ei]
   have c0 : decide (i < p.size) = true := decide_eq_true (by omega)
   have c1 : decide ((i : Int) < (p.size : Int)) = true := decide_eq_true (by omega)
   obtain ⟨j,ej⟩ : ∃ j : Nat,j = i + 64 := ⟨_,rfl⟩
   have c2 : IntKind.i64.wrap ((i : Int) + 64) = (j : Int) := by rw [IntKind.wrap_i64];omega
   have c3 : ((j : Int) ≤ (p.size : Int)) = True := eq_true (by omega)
   have c4 : ((i : Int) ≤ (j : Int)) = True := eq_true (by omega)
   have c5 : (j ≤ p.size) = True := eq_true (by omega)
   have c6 : (i ≤ j) = True := eq_true (by omega)
   have c7 : (0 ≤ (j : Int)) = True := eq_true (by omega)
   have c8 : (0 ≤ (i : Int)) = True := eq_true (by omega)
   have EJ := za.mk ej
   have E64 : za (p.size % 64 = 0 ∧ j ≤ p.size) := ⟨by omega,by omega⟩
   have EI := za.mk ei
   clear ei ej hps hpl
   go_wp2
   refine zdz 6 2 (by kernel_rfl) (by kernel_rfl) ?_
   simp only [List.take_succ_cons,List.take_zero,List.drop_succ_cons,List.drop_zero]
   refine zb5 67 (.tmp 3) rfl (by kernel_rfl) g3 (by kernel_rfl) 67 (zB (zax p k)) (0,0) _ MK.out.h Try.underlying67 rfl (by rw [zay,za0];kernel_rfl) ?_
   repeat still_step
   refine wpStill_nil ?_
   change wpList _ _ _ _ _ wr.drew
   have MD : za (Rs w wr.drew g3 (zax p k)) := ⟨⟨zn MK.out.b,MK.out.h⟩⟩
   generalize wr.drew = wd at MD ⊢
   have hbk : za ((p.extract i j).size = 64) := ⟨by have := EJ.out;have := E64.out;rw [ByteArray.size_extract];omega⟩
   go_wp2_with (first
    | (go_at_call 39;(with_reducible refine (rblock.walk _ _ _ (za0 p k) (zcR p k) hbk.out).mono ?_);rintro e w7 ⟨rfl,hb⟩;have M7 : za (Rs w w7 g3 (zax p k)) := ⟨MD.out.below hb⟩;clear MD hb))
   change wpAny _ .any _ _ 3 #[true,true,true,true,true,true,true,true,false,false,false] _ _
   refine wpAny_take (i := 8) (v := .agg (zB (zdL (zax p k) kL (p.extract i j)))) rfl (by kernel_rfl) (by kernel_rfl) (by kernel_rfl) (fun _ _ _ h => h) (Or.inl ⟨by rfl,fun w => by go_simp⟩) ?_
   refine wpAny_take (i := 9) (v := .int .i64 0) rfl (by kernel_rfl) (by kernel_rfl) (by kernel_rfl) (fun _ _ _ h => h) (Or.inl ⟨by rfl,fun w => by go_simp⟩) ?_
   refine zhj 10 rfl (by kernel_rfl) (by kernel_rfl) ?_
   refine wpList_store_row rfl 67 (.tmp 3) (.tmp 25) rfl g3 (zB (zdL (zax p k) kL (p.extract i j))) (by kernel_rfl) (by kernel_rfl) 67 _ M7.out.h (by rw [zay,zcK];kernel_rfl) (by rw [zay,zay,za0,zcK]) (zgs _) ?_
   have M8 : za (Rs w (w7.setRow g3 (zB (zdL (zax p k) kL (p.extract i j)))) g3 (zax p (k + 1))) := ⟨⟨zaX M7.out.b G3.out,by rw [zax,← EI.out,← EJ.out];exact setRow_heap _ _ _ _ _ _ M7.out.h⟩⟩
   generalize World.setRow w7 _ _ = w8 at M8 ⊢
   clear M7
   refine wpList_nil ?_
   go_simp
   go_wp2
   refine ⟨⟨k + 1,?_,by omega,M8⟩,?_⟩
   ·rw [EJ.out,EI.out,Nat.mul_add]
   ·have h1 := EJ.out;have h2 := E64.out.2
    show p.size - (j : Int).toNat < p.size - (i : Int).toNat
    omega
  ·obtain rfl : k = m := by omega
   have hps := HP.out
   have c0 : decide (64 * k < p.size) = false := decide_eq_false (by omega)
   have c1 : decide (((64 * k : Nat) : Int) < (p.size : Int)) = false := decide_eq_false (by omega)
   rw [← hps]
   have hpm := HM.out
   clear hlt hk hps c0 c1
   go_wp2
   obtain ⟨L,eL⟩ : ∃ L,L = zax p k := ⟨_,rfl⟩
   have hl8 : L.length = 8 := by rw [eL,za0]
   have hok : okL L := by rw [eL];exact zcR p k
   rw [← eL] at MK
   have EL := za.mk eL
   have L8 := za.mk hl8
   have OK := za.mk hok
   have PM := za.mk hpm
   clear eL hl8 hok hpm
   obtain ⟨wb,MB,hR⟩ : ∃ wb,za (Rs w wb g3 L) ∧ Ro wb wr L (.slice none 0 0) 0 := ⟨wr,MK,zeL _ _ _ _,Below.refl _ _⟩
   have R0 := za.mk hR
   clear hR MK
   go_loopw [6,7] (fun v6 v7 wr => ∃ n : Nat,v7 = .int .i64 n ∧ n ≤ 8 ∧ za (Ro wb wr L v6 n)) (fun _ v7 _ => 8 - (intOf v7).toNat)
   case atStart => exact ⟨0,rfl,by omega,R0⟩
   case round =>
    clear R0
    obtain ⟨n,rfl,hn,HM⟩ := hrel
    obtain ⟨A,c,rfl⟩ := zfK HM.out.o
    rw [zdg]
    obtain ⟨q,eq⟩ : ∃ q,q = 4 * n := ⟨_,rfl⟩
    rw [← eq]
    have HN : za (wr.ownsRow wb.heap.size 5 1 (.slice A q c) (zdM L n).length (zbh .u8 (zdM L n)) ∧ Below wb.heap.size wb wr) := ⟨by have := HM.out.o;rw [zdg,← eq] at this ⊢;exact this,HM.out.c⟩
    have EQ := za.mk eq
    clear HM eq
    by_cases hlt : n < 8
    ·have b1 : decide (n < 8) = true := decide_eq_true hlt
     have b2 : decide ((n : Int) < 8) = true := decide_eq_true (by omega)
     have b3 : ((n : Int) < 8) = True := eq_true (by omega)
     have b4 : (n < 8) = True := eq_true hlt
     obtain ⟨x,ex⟩ : ∃ x,x = L.getD n 0 := ⟨_,rfl⟩
     have hok := OK.out n
     rw [← ex] at hok
     have EX := za.mk ex
     have cx : wr.drew.cell? ⟨g3,n,none⟩ = some (.int .u32 x) := by
      rw [ex]
      exact (zb (w := wr.drew) (zx MB.out.h (zn HN.out.2)) n).trans (zH L n (by rw [L8.out];exact hlt))
     have OX := za.mk hok
     clear ex hok
     go_wp2
     refine zbq (.slice A q c) 22 (by kernel_rfl) (by kernel_rfl) (fun _ _ _ h => h) (Or.inl ⟨by rfl,fun w => by go_simp⟩) ?_
     simp only [List.take_succ_cons,List.take_zero,List.drop_succ_cons,List.drop_zero]
     repeat still_step
     refine wpStill_nil ?_
     change wpList _ _ _ _ _ wr.drew
     have HN2 : za (wr.drew.ownsRow wb.heap.size 5 1 (.slice A q c) (zdM L n).length (zbh .u8 (zdM L n)) ∧ Below wb.heap.size wb wr.drew) := ⟨HN.out.1,zn HN.out.2⟩
     generalize wr.drew = wd at HN2 cx ⊢
     clear HN cx
     go_wp2_with (at_builtin;go_loud (refine zcN wb.heap.size rfl (.tmp 31) (.tmp 54) 71 5 .u8 1 rfl Try.underlying71 zgk (by decide) (.slice A q c) (zdM L n) [x.tdiv 16777216 % 4294967296 % 256,(x.tdiv 65536 % 4294967296).tmod 256 % 256,(x.tdiv 256 % 4294967296).tmod 256 % 256,x.tmod 256 % 256] _ 4 4 rfl rfl (HN2.out.1.alloc _) (zhF wd 5 .u8 _ (by simp)) (HN2.out.2.alloc HN2.out.2.size _) (Nat.le_trans HN2.out.2.size (zf ((Below.refl _ _).alloc (Nat.le_refl _) _))) (by rw [zdg];omega) ?_;intro v1 w4 ho1 hb1 hx1 hx2;clear hx1 hx2;have HM1 : za (Ro wb w4 L v1 (n + 1)) := ⟨⟨by rw [zdM,← EX.out,← zhV OX.out];exact ho1,hb1⟩⟩;clear ho1 hb1))
     go_roundw
     case rel => exact ⟨n + 1,rfl,by omega,HM1⟩
     case measure => show 8 - ((n : Int) + 1).toNat < 8 - (n : Int).toNat;omega
    ·obtain rfl : n = 8 := by omega
     obtain rfl : q = 32 := EQ.out
     have ho : wr.ownsRow wb.heap.size 5 1 (.slice A 32 c) 32 (zbh .u8 (zdM L 8)) := by have := HN.out.1;rw [zdg] at this;exact this
     have hC := zcW (P := Try.prog) Try.underlying71 Try.underlying5 Try.underlying9 ho
     rw [zio L OK.out L8.out] at hC
     clear hlt hn ho
     go_wp2
     go_ret
     refine ⟨?_,zd MB.out.b HN.out.2⟩
     show Ending.returned (.string (toB (L.flatMap zcc))) = _
     have hm : (zdh (ofB s)).length / 64 = k := by rw [PM.out];omega
     rw [zeF,hm,← EP.out,← EL.out]
def zap.f (a0 : ByteArray) : Option ByteArray := if a0.size ≤ 70368744177664 then some (zeF a0) else none
theorem zap.calls (a0 : ByteArray) (r : ByteArray) (w : World) (h : zap.f a0 = some r) :
  Calls Try.prog 20 #[.string a0] w fun e w' => e = .returned (.string r) ∧ Below w.heap.size w w' := by
 unfold zap.f at h
 split at h
 ·next hsz =>
  obtain rfl := Option.some.inj h
  exact rsum.walk a0 w hsz
 ·exact absurd h (by simp)
end Go.Proofs.Ytcncoepijagadaa.Px