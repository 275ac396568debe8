/- Part 5 of 15 of the proof of the law DagStays: what is proved is the statement at the end of the last part; its conditions are those of the given row. -/
import Derived.Laws.AppendOwn
import Derived.ScopeJumps
import Derived.WalkMore
import Derived.Test.YtndjfdakflaggaaGreatZDagStaysD
namespace Go.Proofs.YtndjfdakflaggaaGreat.Px
open Go.RowKit Go.Proofs.YtndjfdakflaggaaGreatW.PrintWords Go.Proofs.YtndjfdakflaggaaGreatW.PrintLast Go.Proofs.YtndjfdakflaggaaGreatW.PrintMore
attribute [local go_sem] zA zC zH zI zv zw zB zD
set_option linter.unusedVariables false
set_option linter.unusedSimpArgs false
theorem zgS {P : Program} {w : World} (base : Nat) (t ty e : TypeId) (i : TypeInfo) (ht : P.underlying t = some (.slice e)) (hi : P.info? e = some i) (hz : i.zero = some (.int .u8 0))
  (hsize : i.size = 1) (hby : i.bytes = 1) (v : Value) (l : Bs) (hown : zaJ w base e v l) (ad : Addr) (b : UInt8) (hcell : w.cell? ad = some (.int .u8 (b.toNat : Int))) (hbytes : l.length + 1 ≤ 140737488355328) (hbase : base ≤ w.heap.size) :
  ∃ v' w',(Builtin.append_ #[t,t] ty #[v,.slice (some ad) 1 1]).run P w = .ok v' w' ∧ zaJ w' base e v' (l ++ [b]) ∧ Below base w w' := by
 obtain ⟨g,cap,cur,fz,rfl,hbg,hg,hfz,hnc,hcm,hcs,htake⟩ := hown
 have hsmall : l.length + 1 ≤ maxLen := by unfold maxLen;omega
 have hlen : (l ++ [b]).length = l.length + 1 := by rw [List.length_append];rfl
 have hcells : Lib.byteCells (l ++ [b]) = Lib.byteCells l ++ [.int .u8 (b.toNat : Int)] := by simp [Lib.byteCells]
 have hcl : (Lib.byteCells l ++ [Value.int .u8 (b.toNat : Int)]).length = l.length + 1 := by rw [List.length_append,Lib.byteCells_length];rfl
 have hnews : ∀ j u,[Value.int .u8 (b.toNat : Int)][j]? = some u → w.cell? (ad.add j) = some u := by
  intro j u hu
  rcases j with _ | j
  ·simp at hu;subst hu;exact hcell
  ·simp at hu
 by_cases hroom : l.length + 1 ≤ cap
 ·have hf := run_firstCells_some (P := P) w 1 1 ad 1 1 [Value.int .u8 (b.toNat : Int)] rfl hnews
  have hst := zcl P g l.length e fz [Value.int .u8 (b.toNat : Int)] 0 cur w hg (by omega) (by simp;omega) (by simp;rfl)
  simp only [Nat.add_zero,List.length_cons,List.length_nil,Nat.zero_add] at hst
  refine ⟨.slice (some ⟨g,0,none⟩) (l.length + 1) cap,w.setRow g (cur.toList.take l.length ++ [Value.int .u8 (b.toNat : Int)] ++ cur.toList.drop (l.length + 1)).toArray,?_,?_,?_⟩
  ·simp [Builtin.append_,run_underlying ht,sizeOf,typeInfo,hi,hsize,Builtin.lenOf,hroom,hf,Addr.add_lit]
   simp only [List.append_assoc,List.cons_append,List.nil_append] at hst
   simp [hst]
  ·refine ⟨g,cap,_,fz,by rw [hlen],hbg,setRow_heap w g cur _ e _ hg,by rw [hlen];omega,by rw [hlen];exact hroom,hcm,?_,?_⟩
   ·simp only [List.size_toArray,List.length_append,List.length_take,List.length_drop,Array.length_toList,List.length_cons,List.length_nil]
    omega
   ·rw [htake,hlen,hcells,← hcl]
    exact List.take_left
  ·exact ⟨rfl,rfl,rfl,by simp,fun k hk => setRow_other w g k _ (by omega)⟩
 ·have holds : ∀ j u,(Lib.byteCells l)[j]? = some u → w.cell? ((⟨g,0,none⟩ : Addr).add j) = some u := by
   intro j u hu
   rw [← htake,List.getElem?_take] at hu
   split at hu
   ·rw [zbv]
    simp [World.cell?,hg]
    simpa using hu
   ·cases hu
  have hr := run_append_grow (P := P) w t ty e i (.int .u8 0) ht hi hz ⟨g,0,none⟩ l.length cap (Lib.byteCells l) (by rw [hsize,Lib.byteCells_length];omega) holds ad 1 1 [Value.int .u8 (b.toNat : Int)] (by rw [hsize];rfl) hnews (by omega) (by omega) (by rw [hby];exact growslice_fits (by omega) (by omega))
  have hge := grownCap_ge w (l.length + 1) cap e
  have hcm2 : grownCap w (l.length + 1) cap e ≤ maxLen := grownCap_le_maxLen w (l.length + 1) cap e hsmall
  refine ⟨_,_,hr,⟨w.heap.size,_,_,(0,0),by rw [hlen],hbase,heap_alloc_new w.drew _,.inl (Nat.zero_le _),by rw [hlen];exact hge,hcm2,?_,?_⟩,⟨rfl,rfl,rfl,by simp,fun k hk => Lib.alloc_old w.drew _ k (Nat.lt_of_lt_of_le hk hbase)⟩⟩
  ·have hz1 : (Value.int IntKind.u8 0).cells.size = 1 := rfl
   simp only [Array.size_append,List.size_toArray,size_zeroCells,hz1,Lib.byteCells_length,List.length_cons,List.length_nil]
   omega
  ·simp only [Array.toList_append,List.append_assoc]
   rw [← List.append_assoc,hlen,hcells,← hcl]
   exact List.take_left
theorem zdY {P : Program} {W w0 : World} {ops : Array Oper} {rest : List Oper} {o : Oper} {a : Act} {Q : Exit → Act → World → Prop} (hgd : o.guard = none) (sl x : Operand) (t : TypeId)
  (ho : o.op = .call { callee := .builtin .append,args := #[sl,x],argTypes := #[t,t] })
  (base : Nat) (e : TypeId) (ht : P.underlying t = some (.slice e)) (hinfo : (P.info? e).map (fun i => (i.zero,i.size,i.bytes)) = some (some (.int .u8 0),1,1))
  (v : Value) (l : Bs) (hs : a.eval sl = v) (hown : zaJ W base e v l) (b : UInt8) (y : Int) (hy : y = (b.toNat : Int)) (hx : a.eval x = .slice (some ⟨W.heap.size,0,none⟩) 1 1) (HB : Below base w0 W) (hbytes : l.length + 1 ≤ 140737488355328) (hbase : base ≤ W.heap.size)
  (h : ∀ v' w',zaJ w' base e v' (l ++ [b]) → Below base w0 w' → wpList P ops Q rest (a.put o.dst v') w') : wpList P ops Q (o :: rest) a (W.alloc (.cells #[.int .u8 y] e)) := by
 subst hy
 obtain ⟨i0,hi,hzz⟩ := Option.map_eq_some_iff.1 hinfo
 simp only [Prod.mk.injEq] at hzz
 obtain ⟨hz0,hz1,hz2⟩ := hzz
 refine wpList_plain hgd fun K hK => ?_
 have hc : (W.alloc (.cells #[.int .u8 (b.toNat : Int)] e)).cell? ⟨W.heap.size,0,none⟩ = some (.int .u8 (b.toNat : Int)) := (zb (heap_alloc_new W _) 0).trans rfl
 have hb1 : Below W.heap.size W (W.alloc (.cells #[.int .u8 (b.toNat : Int)] e)) := (Below.refl _ _).alloc (Nat.le_refl _) _
 obtain ⟨v',w',hr,h2,h3⟩ := zgS (P := P) base t o.type e i0 ht hi hz0 hz1 hz2 v l (hown.below hb1) _ b hc hbytes (by simp;omega)
 unfold Oper.wp execOp
 simp only [ho,resolve,invoke,builtin,Sem.run_bind,Sem.run_pure,Result.andThen_ok,List.map_toArray,List.map_cons,List.map_nil,hs,hx,hr]
 exact hK _ _ (h v' w' h2 ((HB.alloc hbase _).trans h3))
theorem zhT : (Tryz.prog.info? 5).map (fun i => (i.zero,i.size,i.bytes)) = some (some (.int .u8 0),1,1) := by kernel_rfl
def zeF (n : Nat) : Nat → List Int
 | 0 => []
 | k + 1 => ((n / 256 ^ k % 256 : Nat) : Int) :: zeF n k
theorem zfw (n : Nat) : ∀ k,(zeF n k).length = k
 | 0 => rfl
 | k + 1 => by rw [zeF,List.length_cons,zfw n k]
theorem tailX_str (n : Nat) : strOfNums (zeF n 8) = toB (zeJ n) := by
 rw [zbT]
 congr 1
 simp only [zeF,zeJ,List.map_cons,List.map_nil]
 simp only [Int.toNat_natCast,Nat.reducePow,Nat.div_one]
structure Rpb (w W : World) (v : Value) (l : Bs) : Prop where
 o : zaJ W w.heap.size 5 v l
 b : Below w.heap.size w W
structure Rpt (w1 W : World) (t : Value) (xs : List Int) : Prop where
 t : W.ownsRow w1.heap.size 5 1 t xs.length (zbM .u8 xs)
 c : Below w1.heap.size w1 W
theorem zfQ {w : World} {base n : Nat} {e : TypeId} {k : IntKind} {v : Value} {xs : List Int} (h : w.ownsRow base e 1 v n (zbM k xs)) : ∃ A c,v = .slice A n c ∧ ∀ W,Below w.heap.size w W → zbc W k A n xs := by
 obtain ⟨A,c,rfl,_⟩ := zfn h
 refine ⟨A,c,rfl,fun W hb => ?_⟩
 obtain ⟨A',c',e,h2⟩ := zfn (zca h hb)
 cases e
 exact h2
set_option maxHeartbeats 4000000 in
set_option maxRecDepth 100000 in
theorem rpad.walk (s : ByteArray) (w : World) (hsz : s.size ≤ 70368744177664) :
  Calls Tryz.prog 62 #[.string s] w fun e w' => e = .returned (.string (toB (zd9 (ofB s)))) ∧ Below w.heap.size w w' := by
 have HSZ := za.mk hsz
 clear hsz
 have kb := fun (W : World) (s : ByteArray) => Lib.run_convert_string_bytes (P := Tryz.prog) W 9 92 5 s Tryz.underlying9 Tryz.underlying92 Tryz.underlying5
 go_enter Tryz.func62,Tryz.ntmps62
 have H0 : za (Rpb w (Lib.bytesWorld w 5 s) (.slice (some ⟨w.heap.size,0,none⟩) s.size (grownCap w s.size 0 5)) (ofB s)) := ⟨⟨zaJ.start w w.heap.size 5 s (Nat.le_refl _) (by have := HSZ.out;unfold maxLen;omega),zfx (Below.refl _ _) (Nat.le_refl _) 5 _⟩⟩
 go_wp2_with (at_builtin;refine zdY rfl _ _ 92 rfl w.heap.size 5 Tryz.underlying92 zhT _ _ rfl H0.out.o 128 _ rfl rfl H0.out.b (by rw [zas];have := HSZ.out;omega) H0.out.b.size ?_;intro v1 w1 ho1 hb1;have H1 : za (Rpb w w1 v1 (ofB s ++ 128 :: List.replicate 0 0)) := ⟨⟨ho1,hb1⟩⟩;clear ho1 hb1 H0)
 go_loopw [3] (fun v3 wr => ∃ j : Nat,j ≤ zcE s.size ∧ za (Rpb w wr v3 (ofB s ++ 128 :: List.replicate j 0))) (fun v3 _ => 200 + s.size - (match v3 with | .slice _ n _ => n | _ => 0))
 case atStart => exact ⟨0,by omega,H1⟩
 case round =>
  obtain ⟨j,hj,HM⟩ := hrel
  have hlen : (ofB s ++ 128 :: List.replicate j 0).length = s.size + 1 + j := by rw [List.length_append,List.length_cons,List.length_replicate,zas];omega
  obtain ⟨g,cap,cur,fz,rfl,hrest⟩ := HM.out.o
  rw [hlen]
  obtain ⟨N,eN⟩ : ∃ N : Nat,N = s.size + 1 + j := ⟨_,rfl⟩
  rw [← eN] at hlen ⊢
  have HO : za (zaJ wr w.heap.size 5 (.slice (some ⟨g,0,none⟩) N cap) (ofB s ++ 128 :: List.replicate j 0)) := ⟨⟨g,cap,cur,fz,by rw [hlen],hrest⟩⟩
  have HL := za.mk hlen
  have EN := za.mk eN
  have HB := za.mk HM.out.b
  clear hrest HM hlen
  have hsz := HSZ.out
  by_cases hlt : j < zcE s.size
  ·have hmod : ¬ N % 64 = 56 := by unfold zcE at hlt hj;omega
   have c1 : (N % 64 == 56) = false := beq_eq_false_iff_ne.2 hmod
   have c2 : (((N : Int) % 64) == 56) = false := beq_eq_false_iff_ne.2 (by omega)
   have c3 : ((Int.tmod (N : Int) 64) == 56) = false := beq_eq_false_iff_ne.2 (by rw [Int.tmod_eq_emod_of_nonneg (by omega)];omega)
   have c4 : ((Int.tmod (N : Int) 64) != 56) = true := by rw [bne,c3];rfl
   have hp64 : zcE s.size < 64 := by unfold zcE;omega
   have HP : za (N + 1 ≤ 140737488355328) := ⟨by omega⟩
   clear eN hsz hmod
   go_wp2_with (at_builtin;refine zdY rfl _ _ 92 rfl w.heap.size 5 Tryz.underlying92 zhT _ _ rfl HO.out 0 _ rfl rfl HB.out (by rw [HL.out];exact HP.out) HB.out.size ?_;intro v1 w1 ho1 hb1;have HM1 : za (Rpb w w1 v1 (ofB s ++ 128 :: List.replicate (j + 1) 0)) := ⟨⟨by rw [List.replicate_succ',← List.cons_append,← List.append_assoc];exact ho1,hb1⟩⟩;clear ho1 hb1)
   go_roundw
   case rel => exact ⟨j + 1,by omega,HM1⟩
   case measure =>
    obtain ⟨g2,cap2,cur2,fz2,rfl,_⟩ := HM1.out.o
    have e1 : (ofB s ++ 128 :: List.replicate (j + 1) 0).length = N + 1 := by have := EN.out;rw [List.length_append,List.length_cons,List.length_replicate,zas];omega
    rw [e1]
    have := EN.out
    show 200 + s.size - (N + 1) < 200 + s.size - N
    omega
  ·obtain rfl : j = zcE s.size := by omega
   have hmod : N % 64 = 56 := by unfold zcE at eN;omega
   have c1 : (N % 64 == 56) = true := beq_iff_eq.2 hmod
   have c2 : (((N : Int) % 64) == 56) = true := beq_iff_eq.2 (by omega)
   have c3 : ((Int.tmod (N : Int) 64) == 56) = true := beq_iff_eq.2 (by rw [Int.tmod_eq_emod_of_nonneg (by omega)];omega)
   have c4 : ((Int.tmod (N : Int) 64) != 56) = false := by rw [bne,c3];rfl
   clear hlt hj eN hmod hsz
   go_wp2
   obtain ⟨n0,en0⟩ : ∃ n0 : Nat,n0 = s.size * 8 := ⟨_,rfl⟩
   have hw : IntKind.u64.wrap (IntKind.u64.wrap (s.size : Int) * 8) = (n0 : Int) := by
    have := HSZ.out
    rw [IntKind.wrap_u64,IntKind.wrap_u64];omega
   have EN0 := za.mk en0
   clear en0
   have c5 : ((N : Int) % 64 != 56) = false := by rw [bne,c2];rfl
   rw [hw,c5]
   have T0 : za (∃ wb,zaJ wb w.heap.size 5 (.slice (some ⟨g,0,none⟩) N cap) (ofB s ++ 128 :: List.replicate (zcE s.size) 0) ∧ Below w.heap.size w wb ∧ Rpt wb wr (.slice none 0 0) (zeF (n0) 0)) := ⟨wr,HO.out,HB.out,zf4 _ _ _ _,Below.refl _ _⟩
   clear hw H1 HO HB
   obtain ⟨wb,hO,hB,hT⟩ := T0.out
   have HO := za.mk hO
   have HB := za.mk hB
   have HT := za.mk hT
   clear T0 hO hB hT
   go_loopw [4,5,6] (fun v4 v5 v6 wq => ∃ k : Nat,v6 = .int .i64 k ∧ k ≤ 8 ∧ v4 = .int .u64 ((n0 / 256 ^ k : Nat) : Int) ∧ za (Rpt wb wq v5 (zeF (n0) k))) (fun _ _ v6 _ => 8 - (intOf v6).toNat)
   case atStart => exact ⟨0,rfl,by omega,by rw [Nat.pow_zero,Nat.div_one],HT⟩
   case round =>
    clear HT
    obtain ⟨k,rfl,hk,rfl,HT⟩ := hrel
    obtain ⟨A,c,rfl,HR⟩ := zfQ HT.out.t
    rw [zfw] at HR ⊢
    obtain ⟨M,eM⟩ : ∃ M : Nat,M = n0 / 256 ^ k := ⟨_,rfl⟩
    rw [← eM]
    have hM : n0 ≤ 562949953421312 := by have := HSZ.out;have := EN0.out;omega
    have hM2 : M ≤ n0 := by rw [eM];exact Nat.div_le_self _ _
    by_cases hlt : k < 8
    ·have k1 : decide (k < 8) = true := decide_eq_true hlt
     have k2 : decide ((k : Int) < 8) = true := decide_eq_true (by omega)
     have z1 : IntKind.i64.wrap ((k : Int) + 1) = ((k + 1 : Nat) : Int) := by rw [IntKind.wrap_i64];omega
     have HRR := za.mk HR
     have EM := za.mk eM
     have HM2 : za (M ≤ 562949953421312) := ⟨by omega⟩
     clear HR eM hM hM2
     go_wp2_with (at_builtin;refine zdE wb.heap.size rfl _ _ 92 5 .u8 1 rfl Tryz.underlying92 zhT (by decide) _ [(M : Int) % 256] (zeF (n0) k) _ _ _ rfl rfl (own_lit wr wb.heap.size 5 .u8 [(M : Int) % 256] HT.out.c.size (by simp)) (HRR.out _ ((Below.refl _ _).alloc (Nat.le_refl _) _)) (HT.out.c.alloc HT.out.c.size _) (Nat.le_trans HT.out.c.size (zh ((Below.refl _ _).alloc (Nat.le_refl _) _))) (by simp;omega) ?_;intro v5 w5 ho5 hb5 hx1 hx2;clear hx1 hx2;have HT5 : za (Rpt wb w5 v5 (zeF (n0) (k + 1))) := ⟨⟨by rw [zeF,← EM.out];exact ho5,hb5⟩⟩;clear ho5 hb5)
     go_roundw
     case rel =>
      refine ⟨k + 1,rfl,by omega,?_,HT5⟩
      have h2 := HM2.out
      have e2 : n0 / 256 ^ (k + 1) = M / 256 := by rw [Nat.pow_succ,← Nat.div_div_eq_div_mul,← EM.out]
      rw [e2,IntKind.wrap_u64]
      congr 1
      omega
     case measure => show 8 - ((k : Int) + 1).toNat < 8 - (k : Int).toNat;omega
    ·obtain rfl : k = 8 := by omega
     have k1 : decide ((8 : Int) < 8) = false := rfl
     have hs2 := (zaJ.below HO.out HT.out.c).string Tryz.underlying92 Tryz.underlying5 9 Tryz.underlying9
     have ht := HT.out.t
     rw [zfw] at ht
     have ht2 := zdM (P := Tryz.prog) Tryz.underlying92 Tryz.underlying5 Tryz.underlying9 ht
     rw [tailX_str] at ht2
     obtain ⟨X,eX⟩ : ∃ X,X = toB (ofB s ++ 128 :: List.replicate (zcE s.size) 0) := ⟨_,rfl⟩
     obtain ⟨Y,eY⟩ : ∃ Y,Y = toB (zeJ (n0)) := ⟨_,rfl⟩
     rw [← eX] at hs2
     rw [← eY] at ht2
     have q1 : (9223372036854775807 < X.size + Y.size) = False := eq_false (by
      have h1 : Y.size = 8 := by rw [eY,zax];rfl
      have h2 : X.size = N := by rw [eX,zax,HL.out]
      have h3 := EN.out
      have h5 := HSZ.out
      have h4 : zcE s.size < 64 := by unfold zcE;omega
      omega)
     have EX := za.mk eX
     have EY := za.mk eY
     clear eX eY eM hM hM2 hlt hk ht
     go_wp2
     go_ret
     refine ⟨?_,ze HB.out HT.out.c⟩
     rw [EX.out,EY.out,← zbb,zd9,zas,EN0.out]
     congr 3
     simp
theorem zeD (n : Nat) (h0 : 1 ≤ n) (h1 : n ≤ 31) (x : Int) (hx : zbp x) (w : World) : Calls Tryz.prog 83 #[.int .u32 x,.int .i64 (n : Int)] w fun e w' => e = .returned (.int .u32 (zan n x)) ∧ Below w.heap.size w w' := by
 obtain ⟨k,hk⟩ := (refTurn_ev n h0 h1 hx).rounds
 refine (zP.calls k _ _ _ w hk).mono ?_
 rintro e w1 ⟨rfl,⟨nd,rfl⟩⟩
 exact ⟨rfl,zi (Below.refl _ _) nd⟩
theorem rover (n : Nat) (h1 : n ≤ 31) (x : Int) (hx : zbp x) (w : World) : Calls Tryz.prog 84 #[.int .u32 x,.int .i64 (n : Int)] w fun e w' => e = .returned (.int .u32 (x / 2 ^ n)) ∧ Below w.heap.size w w' := by
 obtain ⟨k,hk⟩ := (refOver_ev n h1 hx).rounds
 refine (zae.calls k _ _ _ w hk).mono ?_
 rintro e w1 ⟨rfl,⟨nd,rfl⟩⟩
 exact ⟨rfl,zi (Below.refl _ _) nd⟩
theorem rturn2 (x : Int) (hx : zbp x) (w : World) : Calls Tryz.prog 83 #[.int .u32 x,.int .i64 2] w fun e w' => e = .returned (.int .u32 (zan 2 x)) ∧ Below w.heap.size w w' := zeD 2 (by decide) (by decide) x hx w
theorem rturn6 (x : Int) (hx : zbp x) (w : World) : Calls Tryz.prog 83 #[.int .u32 x,.int .i64 6] w fun e w' => e = .returned (.int .u32 (zan 6 x)) ∧ Below w.heap.size w w' := zeD 6 (by decide) (by decide) x hx w
theorem rturn7 (x : Int) (hx : zbp x) (w : World) : Calls Tryz.prog 83 #[.int .u32 x,.int .i64 7] w fun e w' => e = .returned (.int .u32 (zan 7 x)) ∧ Below w.heap.size w w' := zeD 7 (by decide) (by decide) x hx w
theorem rturn11 (x : Int) (hx : zbp x) (w : World) : Calls Tryz.prog 83 #[.int .u32 x,.int .i64 11] w fun e w' => e = .returned (.int .u32 (zan 11 x)) ∧ Below w.heap.size w w' := zeD 11 (by decide) (by decide) x hx w
theorem rturn13 (x : Int) (hx : zbp x) (w : World) : Calls Tryz.prog 83 #[.int .u32 x,.int .i64 13] w fun e w' => e = .returned (.int .u32 (zan 13 x)) ∧ Below w.heap.size w w' := zeD 13 (by decide) (by decide) x hx w
theorem rturn17 (x : Int) (hx : zbp x) (w : World) : Calls Tryz.prog 83 #[.int .u32 x,.int .i64 17] w fun e w' => e = .returned (.int .u32 (zan 17 x)) ∧ Below w.heap.size w w' := zeD 17 (by decide) (by decide) x hx w
theorem rturn18 (x : Int) (hx : zbp x) (w : World) : Calls Tryz.prog 83 #[.int .u32 x,.int .i64 18] w fun e w' => e = .returned (.int .u32 (zan 18 x)) ∧ Below w.heap.size w w' := zeD 18 (by decide) (by decide) x hx w
theorem rturn19 (x : Int) (hx : zbp x) (w : World) : Calls Tryz.prog 83 #[.int .u32 x,.int .i64 19] w fun e w' => e = .returned (.int .u32 (zan 19 x)) ∧ Below w.heap.size w w' := zeD 19 (by decide) (by decide) x hx w
theorem rturn22 (x : Int) (hx : zbp x) (w : World) : Calls Tryz.prog 83 #[.int .u32 x,.int .i64 22] w fun e w' => e = .returned (.int .u32 (zan 22 x)) ∧ Below w.heap.size w w' := zeD 22 (by decide) (by decide) x hx w
theorem rturn25 (x : Int) (hx : zbp x) (w : World) : Calls Tryz.prog 83 #[.int .u32 x,.int .i64 25] w fun e w' => e = .returned (.int .u32 (zan 25 x)) ∧ Below w.heap.size w w' := zeD 25 (by decide) (by decide) x hx w
theorem rover3 (x : Int) (hx : zbp x) (w : World) : Calls Tryz.prog 84 #[.int .u32 x,.int .i64 3] w fun e w' => e = .returned (.int .u32 (x / 8)) ∧ Below w.heap.size w w' := rover 3 (by decide) x hx w
theorem rover10 (x : Int) (hx : zbp x) (w : World) : Calls Tryz.prog 84 #[.int .u32 x,.int .i64 10] w fun e w' => e = .returned (.int .u32 (x / 1024)) ∧ Below w.heap.size w w' := rover 10 (by decide) x hx w
theorem u32Info : (Tryz.prog.info? 84).map (fun i => (i.zero,i.size,i.bytes)) = some (some (.int .u32 0),1,4) := by kernel_rfl
theorem sum4 {a b c d : Int} (ha : 0 ≤ a ∧ a ≤ 255) (hb : 0 ≤ b ∧ b ≤ 255) (hc : 0 ≤ c ∧ c ≤ 255) (hd : 0 ≤ d ∧ d ≤ 255) :
  ((((a % 4294967296 * 16777216 % 4294967296 + b % 4294967296 * 65536 % 4294967296) % 4294967296 + c % 4294967296 * 256 % 4294967296) % 4294967296 + d % 4294967296) % 4294967296) = a * 16777216 + b * 65536 + c * 256 + d := by omega
theorem rsched (a s c t : Int) : (((a + s) % 4294967296 + c) % 4294967296 + t) % 4294967296 = zcF (zcF (zcF (a + s) + c) + t) := by
 simp only [zb0]
structure Rw (w1 W : World) (v : Value) (xs : List Int) : Prop where
 o : W.ownsRow w1.heap.size 84 1 v xs.length (zbM .u32 xs)
 c : Below w1.heap.size w1 W
theorem Rw.below {w1 W W' : World} {v : Value} {xs : List Int} (h : Rw w1 W v xs) (hb : Below W.heap.size W W') : Rw w1 W' v xs := ⟨zca h.o hb,ze h.c hb⟩
structure Rh (w W : World) (g2 g4 : Nat) (H : List Int) : Prop where
 b : Below w.heap.size w W
 h : W.heap[g2]? = some (.cells (zK H) 85 (0,0))
 r : W.heap[g4]? = some (.cells (zK [0,0,0,0,0,0,0,0]) 85 (0,0))
set_option maxHeartbeats 4000000 in
set_option maxRecDepth 100000 in
theorem rfirst.walk (w : World) : Calls Tryz.prog 61 #[] w fun e w' => e = .returned (.agg (zK hL)) ∧ Below w.heap.size w w' := by
 go_enter Tryz.func61,Tryz.ntmps61
 go_wp2
 refine bodyPost_ret (results_cell_row rfl _ _ w.heap.size 85 (zK hL) (0,0) _ rfl (zbg _ _) Tryz.underlying85 rfl (by kernel_rfl)) rfl ?_
 exact ⟨rfl,(Below.refl _ _).alloc (Nat.le_refl _) _⟩
set_option maxHeartbeats 4000000 in
set_option maxRecDepth 100000 in
theorem rwords.walk (w : World) : Calls Tryz.prog 85 #[] w fun e w' => e = .returned (.agg (zK kL)) ∧ Below w.heap.size w w' := by
 go_enter Tryz.func85,Tryz.ntmps85
 refine wp_seq ?_
 refine wp_region_lit ?_
 refine zn ?hg (N := 0) ?hd (cs := zK (zbU [])) (t := 87) ?hr ?_
 case hd => rfl
 case hg => rfl
 case hr => first | (go_simp;done) | (go_simp;rfl)
 intro g0 hg w1 hbox hb
 refine wpList_nil ?_
 refine wp_seq ?_
 refine wp_region_lit ?_
 refine wpList_build rfl 87 _ rfl (by kernel_rfl) ?_
 refine wpList_store_row rfl 87 (.tmp 0) (.tmp 1) rfl g0 (zK kL) (by kernel_rfl) ?_ 87 (zK (zbU [])) hbox (by kernel_rfl) (by kernel_rfl) zhz ?_
 ·kernel_rfl
 refine wpList_nil ?_
 refine wp_ret ?_
 refine bodyPost_ret (results_cell_row rfl _ _ g0 87 (zK kL) (0,0) _ (by kernel_rfl) (setRow_heap _ _ _ _ _ _ hbox) Tryz.underlying87 rfl (by kernel_rfl)) rfl ?_
 exact ⟨rfl,zbk hb (Nat.le_of_eq hg.symm)⟩
theorem zhF {W W' : World} {base e n g c : Nat} {size : Nat} {xs : List Value} (h : W.ownsRow base e size (.slice (some ⟨g,0,none⟩) n c) n xs) (hb : W'.heap[g]? = W.heap[g]?) : W'.ownsRow base e size (.slice (some ⟨g,0,none⟩) n c) n xs := by
 refine ⟨h.1,?_⟩
 rcases h.2 with h1 | ⟨g',cap,cur,e1,h2,h3,h4⟩
 ·exact .inl h1
 ·cases e1
  exact .inr ⟨g,c,cur,rfl,h2,hb.trans h3,h4⟩
structure Rq (w W : World) (B g2 g4 g c : Nat) (H Wl : List Int) : Prop where
 b : Below w.heap.size w W
 h : W.heap[g2]? = some (.cells (zK H) 85 (0,0))
 r : W.heap[g4]? = some (.cells (zK [0,0,0,0,0,0,0,0]) 85 (0,0))
 o : W.ownsRow B 84 1 (.slice (some ⟨g,0,none⟩) 64 c) 64 (zbM .u32 Wl)
theorem Rq.below {w W W' : World} {B g2 g4 g c : Nat} {H Wl : List Int} (h : Rq w W B g2 g4 g c H Wl) (hb : Below W.heap.size W W') : Rq w W' B g2 g4 g c H Wl := ⟨ze h.b hb,zo h.h hb,zo h.r hb,zca h.o hb⟩
theorem Rq.row {w W : World} {B g2 g4 g c g13 : Nat} {cs : Array Value} {H Wl : List Int} (h : Rq w W B g2 g4 g c H Wl) (G : w.heap.size ≤ g13) (n2 : g13 ≠ g2) (n4 : g13 ≠ g4) (n : g13 ≠ g) : Rq w (W.setRow g13 cs) B g2 g4 g c H Wl :=
 ⟨zbk h.b G,(setRow_other _ _ _ _ (Ne.symm n2)).trans h.h,(setRow_other _ _ _ _ (Ne.symm n4)).trans h.r,zhF h.o (setRow_other _ _ _ _ (Ne.symm n))⟩
theorem Rq.cell {w W : World} {B g2 g4 g c : Nat} {H Wl : List Int} (h : Rq w W B g2 g4 g c H Wl) (hl : Wl.length = 64) (j : Nat) (hj : j < 64) : W.cell? ⟨g,j,none⟩ = some (.int .u32 (Wl.getD j 0)) := by
 have h := h.o.cells (g := g) rfl j (.int .u32 (Wl.getD j 0)) (by simp [zbM,List.getElem?_eq_getElem (show j < Wl.length by omega),List.getD_eq_getElem?_getD])
 rwa [zbv] at h
structure Rr (w W : World) (B g2 g4 g13 g c : Nat) (H Wl : List Int) : Prop where
 q : Rq w W B g2 g4 g c H Wl
 k : W.heap[g13]? = some (.cells (zK kL) 87 (0,0))
theorem Rr.below {w W W' : World} {B g2 g4 g13 g c : Nat} {H Wl : List Int} (h : Rr w W B g2 g4 g13 g c H Wl) (hb : Below W.heap.size W W') : Rr w W' B g2 g4 g13 g c H Wl := ⟨h.q.below hb,zo h.k hb⟩
set_option maxHeartbeats 16000000 in
set_option maxRecDepth 100000 in
theorem rblock.walk (H : List Int) (b : ByteArray) (w : World) (hH : H.length = 8) (oH : okL H) (hb : b.size = 64) :
  Calls Tryz.prog 63 #[.agg (zK H),.string b] w fun e w' => e = .returned (.tuple #[.agg (zK (zeP H kL b)),.int .i64 0]) ∧ Below w.heap.size w w' := by
 have HH := za.mk hH
 have OH := za.mk oH
 have HBs := za.mk hb
 have sH : (zK H).size = 8 := by rw [zaT,HH.out]
 have e64 : ((b.size : Int) != 64) = false := by rw [hb];rfl
 have e64n : (b.size != 64) = false := by rw [hb];rfl
 clear hH oH
 go_enter Tryz.func63,Tryz.ntmps63
 go_wp2_with (first
  | ((with_reducible refine zq (N := 2) rfl ?_);refine zn rfl (N := 2) rfl (cs := zK H) (t := 85) hrq ?_;intro g2 hg w1 hbox hb;have G2 : za (w.heap.size ≤ g2) := ⟨by rw [hg];exact Nat.le_refl _⟩;have B2 := za.mk hbox;have HB1 := za.mk hb;clear hb hbox hg)
  | ((with_reducible refine zq (N := 4) rfl ?_);refine zn rfl (N := 4) rfl (cs := zK [0,0,0,0,0,0,0,0]) (t := 85) hrq ?_;intro g4 hg w2 hbox hb;have G4 : za (w.heap.size ≤ g4) := ⟨by rw [hg];exact zh HB1.out⟩;have N42 : za (g4 ≠ g2) := ⟨by rw [hg];exact Nat.ne_of_gt (zav B2.out)⟩;have M0 : za (Rh w w2 g2 g4 H) := ⟨⟨ze HB1.out hb,zo B2.out hb,hbox⟩⟩;clear hb hbox hg))
 clear HB1 B2
 have R0 : za (Rw w2 w2 (.slice none 0 0) (zcS b 0)) := ⟨⟨zf4 _ _ _ _,Below.refl _ _⟩⟩
 go_loopw [6,7] (fun v6 v7 wr => ∃ k : Nat,v7 = .int .i64 k ∧ k ≤ 16 ∧ za (Rw w2 wr v6 (zcS b k))) (fun _ v7 _ => 16 - (intOf v7).toNat)
 case atStart => exact ⟨0,rfl,by omega,R0⟩
 case round =>
  clear R0
  obtain ⟨k,rfl,hk,HM⟩ := hrel
  obtain ⟨A,c,rfl⟩ := zer HM.out.o
  rw [zcq]
  have HM' : za (wr.ownsRow w2.heap.size 84 1 (.slice A k c) (zcS b k).length (zbM .u32 (zcS b k)) ∧ Below w2.heap.size w2 wr) := ⟨by have := HM.out.o;rw [zcq] at this ⊢;exact this,HM.out.c⟩
  clear HM
  by_cases hlt : k < 16
  ·have hb1 : decide (k < 16) = true := decide_eq_true hlt
   have hbi : decide ((k : Int) < 16) = true := decide_eq_true (by omega)
   obtain ⟨i0,e0⟩ : ∃ i : Int,i = 4 * (k : Int) := ⟨_,rfl⟩
   obtain ⟨i1,e1⟩ : ∃ i : Int,i = i0 + 1 := ⟨_,rfl⟩
   obtain ⟨i2,e2⟩ : ∃ i : Int,i = i0 + 2 := ⟨_,rfl⟩
   obtain ⟨i3,e3⟩ : ∃ i : Int,i = i0 + 3 := ⟨_,rfl⟩
   have z0 : IntKind.i64.wrap (4 * (k : Int)) = i0 := by rw [IntKind.wrap_i64];omega
   have z1 : IntKind.i64.wrap (i0 + 1) = i1 := by rw [IntKind.wrap_i64];omega
   have z2 : IntKind.i64.wrap (i0 + 2) = i2 := by rw [IntKind.wrap_i64];omega
   have z3 : IntKind.i64.wrap (i0 + 3) = i3 := by rw [IntKind.wrap_i64];omega
   have hs := HBs.out
   have p0 : (0 ≤ i0) = True := eq_true (by omega)
   have p1 : (0 ≤ i1) = True := eq_true (by omega)
   have p2 : (0 ≤ i2) = True := eq_true (by omega)
   have p3 : (0 ≤ i3) = True := eq_true (by omega)
   have y0 : (i0 < (b.size : Int)) = True := eq_true (by omega)
   have y1 : (i1 < (b.size : Int)) = True := eq_true (by omega)
   have y2 : (i2 < (b.size : Int)) = True := eq_true (by omega)
   have y3 : (i3 < (b.size : Int)) = True := eq_true (by omega)
   have x0 := zdj b i0
   have x1 := zdj b i1
   have x2 := zdj b i2
   have x3 := zdj b i3
   have E0 := za.mk e0
   have E1 := za.mk e1
   have E2 := za.mk e2
   have E3 := za.mk e3
   have KK := za.mk hlt
   clear hs e0 e1 e2 e3 hb e64 e64n
   go_wp2
   refine zbW (.slice A k c) 29 (by kernel_rfl) (by kernel_rfl) (fun _ _ _ h => h) (Or.inl ⟨by rfl,fun w => by go_simp⟩) ?_
   simp only [List.take_succ_cons,List.take_zero,List.drop_succ_cons,List.drop_zero]
   repeat still_step
   refine wpStill_nil ?_
   change wpList _ _ _ _ _ wr.drew
   generalize hwd : wr.drew = wd
   have HM2 : za (wd.ownsRow w2.heap.size 84 1 (.slice A k c) (zcS b k).length (zbM .u32 (zcS b k)) ∧ Below w2.heap.size w2 wd) := ⟨by rw [← hwd];exact ⟨HM'.out.1,zp HM'.out.2⟩⟩
   clear hwd HM'
   have hv : za (bt b i0 * 16777216 + bt b i1 * 65536 + bt b i2 * 256 + bt b i3 = zgK b k) := ⟨by
    have := E0.out;have := E1.out;have := E2.out;have := E3.out
    rw [zgK,show i0 = ((4 * k : Nat) : Int) by omega,show i1 = ((4 * k + 1 : Nat) : Int) by omega,show i2 = ((4 * k + 2 : Nat) : Int) by omega,show i3 = ((4 * k + 3 : Nat) : Int) by omega]⟩
   go_wp2_with (at_builtin;go_loud (refine zdD w2.heap.size rfl (.tmp 36) (.tmp 66) 117 84 .u32 4 rfl Tryz.underlying117 u32Info (by decide) (.slice A k c) (zcS b k) _ rfl rfl HM2.out.1 HM2.out.2 HM2.out.2.size (by rw [zcq];omega) ?_;intro v1 w3 ho1 hb1 hx1 hx2;clear hx1 hx2;have HM1 : za (Rw w2 w3 v1 (zcS b (k + 1))) := ⟨⟨by rw [zcS,← hv.out,← sum4 (zbR b i0) (zbR b i1) (zbR b i2) (zbR b i3)];exact ho1,hb1⟩⟩;clear ho1 hb1))
   go_roundw
   case rel =>
    exact ⟨k + 1,rfl,by omega,HM1⟩
   case measure => show 16 - ((k : Int) + 1).toNat < 16 - (k : Int).toNat;omega
  ·obtain rfl : k = 16 := by omega
   have R1 : za (Rw w2 wr (.slice A 16 c) (zJ b 0)) := ⟨⟨HM'.out.1,HM'.out.2⟩⟩
   clear hlt hk HM' hb e64 e64n
   go_wp2
   go_loopw [6,8,9,10,11,12] (fun v6 v8 _ _ _ _ wr => ∃ n : Nat,v8 = .int .i64 ((16 + n : Nat) : Int) ∧ n ≤ 48 ∧ za (Rw w2 wr v6 (zJ b n))) (fun _ v8 _ _ _ _ _ => 64 - (intOf v8).toNat)
   case atStart => exact ⟨0,rfl,by omega,R1⟩
   case round =>
    clear R1
    obtain ⟨n,rfl,hn,HM⟩ := hrel
    obtain ⟨m,em⟩ : ∃ m : Nat,m = 16 + n := ⟨_,rfl⟩
    rw [← em]
    obtain ⟨g,c,rfl,hg1,hg2⟩ := HM.out.o.form (by rw [za3];omega)
    rw [za3,← em]
    have HM' : za (Rw w2 wr (.slice (some ⟨g,0,none⟩) m c) (zJ b n)) := ⟨by have := HM.out;rw [za3,← em] at this;exact this⟩
    clear HM hg1 hg2
    by_cases hlt : m < 64
    ·have hb1 : decide (m < 64) = true := decide_eq_true hlt
     have hbi : decide ((m : Int) < 64) = true := decide_eq_true (by omega)
     obtain ⟨m15,e15⟩ : ∃ j : Nat,j = m - 15 := ⟨_,rfl⟩
     obtain ⟨m2,e2⟩ : ∃ j : Nat,j = m - 2 := ⟨_,rfl⟩
     obtain ⟨m16,e16⟩ : ∃ j : Nat,j = m - 16 := ⟨_,rfl⟩
     obtain ⟨m7,e7⟩ : ∃ j : Nat,j = m - 7 := ⟨_,rfl⟩
     have z15 : IntKind.i64.wrap ((m : Int) - 15) = (m15 : Int) := by rw [IntKind.wrap_i64];omega
     have z2 : IntKind.i64.wrap ((m : Int) - 2) = (m2 : Int) := by rw [IntKind.wrap_i64];omega
     have z16 : IntKind.i64.wrap ((m : Int) - 16) = (m16 : Int) := by rw [IntKind.wrap_i64];omega
     have z7 : IntKind.i64.wrap ((m : Int) - 7) = (m7 : Int) := by rw [IntKind.wrap_i64];omega
     have l15 : (m15 < m) = True := eq_true (by omega)
     have b15 : ((m15 : Int) < (m : Int)) = True := eq_true (by omega)
     have l2 : (m2 < m) = True := eq_true (by omega)
     have b2 : ((m2 : Int) < (m : Int)) = True := eq_true (by omega)
     have l16 : (m16 < m) = True := eq_true (by omega)
     have b16 : ((m16 : Int) < (m : Int)) = True := eq_true (by omega)
     have l7 : (m7 < m) = True := eq_true (by omega)
     have b7 : ((m7 : Int) < (m : Int)) = True := eq_true (by omega)
     have oW := zfu b n
     have lW : (zJ b n).length = m := by rw [za3,em]
     have cell : ∀ (wx : World),Rw w2 wx (.slice (some ⟨g,0,none⟩) m c) (zJ b n) → ∀ j,j < m → wx.cell? ⟨g,j,none⟩ = some (.int .u32 ((zJ b n).getD j 0)) := fun wx hx j hj => by
      have h := hx.o.cells (g := g) rfl j (.int .u32 ((zJ b n).getD j 0)) (by simp [zbM,List.getElem?_eq_getElem (show j < (zJ b n).length by omega),List.getD_eq_getElem?_getD])
      rwa [zbv] at h
     have c15 := cell wr HM'.out m15 (by omega)
     have c2 := cell wr HM'.out m2 (by omega)
     have CELL := za.mk cell
     have L16 : za (m16 < m) := ⟨by omega⟩
     have L7 : za (m7 < m) := ⟨by omega⟩
     have hval : za (zdR (zJ b n) (16 + n) = zdR (zJ b n) m) := ⟨by rw [em]⟩
     have EM := za.mk em
     have E15 := za.mk e15
     have E2 := za.mk e2
     have E16 := za.mk e16
     have E7 := za.mk e7
     have O15 := za.mk (oW m15)
     have O2 := za.mk (oW m2)
     generalize hX : (zJ b n).getD m15 0 = X at c15 O15
     generalize hY : (zJ b n).getD m2 0 = Y at c2 O2
     have HX := za.mk hX
     have HY := za.mk hY
     clear cell em e15 e2 e16 e7 oW lW hX hY
     go_wp2_with (first
      | (go_at_call 83;(with_reducible refine (rturn7 X O15.out _).mono ?_);rintro e w3 ⟨rfl,hbw⟩;replace HM' : za (Rw w2 w3 (.slice (some ⟨g,0,none⟩) m c) (zJ b n)) := ⟨HM'.out.below hbw⟩;clear hbw)
      | (go_at_call 83;(with_reducible refine (rturn18 X O15.out _).mono ?_);rintro e w3 ⟨rfl,hbw⟩;replace HM' : za (Rw w2 w3 (.slice (some ⟨g,0,none⟩) m c) (zJ b n)) := ⟨HM'.out.below hbw⟩;clear hbw)
      | (go_at_call 84;(with_reducible refine (rover3 X O15.out _).mono ?_);rintro e w3 ⟨rfl,hbw⟩;replace HM' : za (Rw w2 w3 (.slice (some ⟨g,0,none⟩) m c) (zJ b n)) := ⟨HM'.out.below hbw⟩;clear hbw)
      | (go_at_call 83;(with_reducible refine (rturn17 Y O2.out _).mono ?_);rintro e w3 ⟨rfl,hbw⟩;replace HM' : za (Rw w2 w3 (.slice (some ⟨g,0,none⟩) m c) (zJ b n)) := ⟨HM'.out.below hbw⟩;clear hbw)
      | (go_at_call 83;(with_reducible refine (rturn19 Y O2.out _).mono ?_);rintro e w3 ⟨rfl,hbw⟩;replace HM' : za (Rw w2 w3 (.slice (some ⟨g,0,none⟩) m c) (zJ b n)) := ⟨HM'.out.below hbw⟩;clear hbw)
      | (go_at_call 84;(with_reducible refine (rover10 Y O2.out _).mono ?_);rintro e w3 ⟨rfl,hbw⟩;replace HM' : za (Rw w2 w3 (.slice (some ⟨g,0,none⟩) m c) (zJ b n)) := ⟨HM'.out.below hbw⟩;clear hbw))
     have c16 := CELL.out w3.drew ⟨HM'.out.o,zp HM'.out.c⟩ m16 L16.out
     have c7 := CELL.out w3.drew ⟨HM'.out.o,zp HM'.out.c⟩ m7 L7.out
     refine zbW (.slice (some ⟨g,0,none⟩) m c) 15 (by kernel_rfl) (by kernel_rfl) (fun _ _ _ h => h) (Or.inl ⟨by rfl,fun w => by go_simp⟩) ?_
     simp only [List.take_succ_cons,List.take_zero,List.drop_succ_cons,List.drop_zero]
     repeat still_step
     refine wpStill_nil ?_
     change wpList _ _ _ _ _ w3.drew
     have HM2 : za (Rw w2 w3.drew (.slice (some ⟨g,0,none⟩) m c) (zJ b n)) := ⟨⟨HM'.out.o,zp HM'.out.c⟩⟩
     generalize w3.drew = wd at HM2 c16 c7 ⊢
     have hE : za (((((zJ b n)[m16]?.getD 0 + Go.bits .xor .u32 (Go.bits .xor .u32 (zan 7 X) (zan 18 X)) (X / 8)) % 4294967296 + (zJ b n)[m7]?.getD 0) % 4294967296 + Go.bits .xor .u32 (Go.bits .xor .u32 (zan 17 Y) (zan 19 Y)) (Y / 1024)) % 4294967296 = zdR (zJ b n) (16 + n)) := ⟨by
      rw [← EM.out,zdR,← E16.out,← E15.out,← E7.out,← E2.out,HX.out,HY.out,← List.getD_eq_getElem?_getD,← List.getD_eq_getElem?_getD,rsched]
      rfl⟩
     have LW : za ((zJ b n).length = m) := ⟨by rw [za3,EM.out]⟩
     clear HM'
     go_wp2_with (at_builtin;go_loud (refine zdD w2.heap.size rfl (.tmp 98) (.tmp 114) 117 84 .u32 4 rfl Tryz.underlying117 u32Info (by decide) (.slice (some ⟨g,0,none⟩) m c) (zJ b n) _ rfl rfl (by have := HM2.out.o;rw [LW.out] at this ⊢;exact this) HM2.out.c HM2.out.c.size (by rw [LW.out];omega) ?_;intro v1 w4 ho1 hb1 hx1 hx2;clear hx1 hx2;have HM1 : za (Rw w2 w4 v1 (zJ b (n + 1))) := ⟨⟨by rw [zJ,← hE.out];exact ho1,hb1⟩⟩;clear ho1 hb1))
     go_roundw
     case rel =>
      (repeat apply Exists.intro)
      refine ⟨?_,rfl⟩
      have hm := EM.out
      refine ⟨n + 1,by rw [hm];rfl,by omega,HM1⟩
     case measure => have := EM.out;show 64 - ((m : Int) + 1).toNat < 64 - (m : Int).toNat;omega
    ·obtain rfl : m = 64 := by omega
     obtain rfl : n = 48 := by omega
     have LW : za ((zJ b 48).length = 64) := ⟨za3 b 48⟩
     have Q0 : za (Rq w wr w2.heap.size g2 g4 g c H (zJ b 48)) := ⟨⟨ze M0.out.b HM'.out.c,zo M0.out.h HM'.out.c,zo M0.out.r HM'.out.c,by have := HM'.out.o;rw [LW.out] at this;exact this⟩⟩
     clear em hlt hn HM'
     obtain ⟨B,eB⟩ : ∃ B,B = w2.heap.size := ⟨_,rfl⟩
     rw [← eB] at Q0
     clear eB M0
     go_wp2_with (first
      | (go_at_call 85;(with_reducible refine (rwords.walk _).mono ?_);rintro e w5 ⟨rfl,hbw⟩;have Q5 : za (Rq w w5 B g2 g4 g c H (zJ b 48)) := ⟨Q0.out.below hbw⟩;clear hbw Q0)
      | ((with_reducible refine zq (N := 13) rfl ?_);refine zn rfl (N := 13) rfl (cs := zK (zbU [])) (t := 87) hrq ?_;intro g13 hg w6 hbox hb;have G13 : za (w.heap.size ≤ g13) := ⟨by rw [hg];exact zh Q5.out.b⟩;have ya : za (g13 ≠ g2) := ⟨by rw [hg];exact Nat.ne_of_gt (zav Q5.out.h)⟩;have yb : za (g13 ≠ g4) := ⟨by rw [hg];exact Nat.ne_of_gt (zav Q5.out.r)⟩;have N13g : za (g13 ≠ g) := ⟨by rw [hg];exact Nat.ne_of_gt (zgw Q5.out.o g rfl)⟩;have Q6 : za (Rq w w6 B g2 g4 g c H (zJ b 48)) := ⟨Q5.out.below hb⟩;have B13 := za.mk hbox;clear hb hbox hg Q5;refine wpList_store_row rfl 87 (.tmp 13) (.tmp 116) rfl g13 (zK kL) (by kernel_rfl) (by kernel_rfl) 87 _ B13.out (by kernel_rfl) (by kernel_rfl) zhz ?_;have R7 : za (Rr w (w6.setRow g13 (zK kL)) B g2 g4 g13 g c H (zJ b 48)) := ⟨⟨Q6.out.row G13.out ya.out yb.out N13g.out,setRow_heap _ _ _ _ _ _ B13.out⟩⟩;generalize World.setRow w6 _ _ = w7 at R7 ⊢;clear Q6 B13;have ch0 : w7.cell? ⟨g2,0,none⟩ = some (.int .u32 (H.getD 0 0)) := (zb R7.out.q.h 0).trans (zV H 0 (by rw [HH.out];omega));have ch1 : w7.cell? ⟨g2,1,none⟩ = some (.int .u32 (H.getD 1 0)) := (zb R7.out.q.h 1).trans (zV H 1 (by rw [HH.out];omega));have ch2 : w7.cell? ⟨g2,2,none⟩ = some (.int .u32 (H.getD 2 0)) := (zb R7.out.q.h 2).trans (zV H 2 (by rw [HH.out];omega));have ch3 : w7.cell? ⟨g2,3,none⟩ = some (.int .u32 (H.getD 3 0)) := (zb R7.out.q.h 3).trans (zV H 3 (by rw [HH.out];omega));have ch4 : w7.cell? ⟨g2,4,none⟩ = some (.int .u32 (H.getD 4 0)) := (zb R7.out.q.h 4).trans (zV H 4 (by rw [HH.out];omega));have ch5 : w7.cell? ⟨g2,5,none⟩ = some (.int .u32 (H.getD 5 0)) := (zb R7.out.q.h 5).trans (zV H 5 (by rw [HH.out];omega));have ch6 : w7.cell? ⟨g2,6,none⟩ = some (.int .u32 (H.getD 6 0)) := (zb R7.out.q.h 6).trans (zV H 6 (by rw [HH.out];omega));have ch7 : w7.cell? ⟨g2,7,none⟩ = some (.int .u32 (H.getD 7 0)) := (zb R7.out.q.h 7).trans (zV H 7 (by rw [HH.out];omega))))
     clear ch0 ch1 ch2 ch3 ch4 ch5 ch6 ch7
     go_loopw [14,15,16,17,18,19,20,21,22,23,24,25,26,27] (fun v14 v15 v16 v17 v18 v19 v20 v21 v22 _ _ _ _ _ wr => ∃ k : Nat,v22 = .int .i64 k ∧ k ≤ 64 ∧ v14 = .int .u32 ((zaY H kL (zJ b 48) k).getD 0 0) ∧ v15 = .int .u32 ((zaY H kL (zJ b 48) k).getD 1 0) ∧ v16 = .int .u32 ((zaY H kL (zJ b 48) k).getD 2 0) ∧ v17 = .int .u32 ((zaY H kL (zJ b 48) k).getD 3 0) ∧ v18 = .int .u32 ((zaY H kL (zJ b 48) k).getD 4 0) ∧ v19 = .int .u32 ((zaY H kL (zJ b 48) k).getD 5 0) ∧ v20 = .int .u32 ((zaY H kL (zJ b 48) k).getD 6 0) ∧ v21 = .int .u32 ((zaY H kL (zJ b 48) k).getD 7 0) ∧ za (Rr w wr B g2 g4 g13 g c H (zJ b 48))) (fun _ _ _ _ _ _ _ _ v22 _ _ _ _ _ _ => 64 - (intOf v22).toNat)
     case atStart => exact ⟨0,rfl,by omega,rfl,rfl,rfl,rfl,rfl,rfl,rfl,rfl,R7⟩
     case round =>
      clear R7
      obtain ⟨k,rfl,hk,rfl,rfl,rfl,rfl,rfl,rfl,rfl,rfl,HR⟩ := hrel
      by_cases hlt : k < 64
      ·have hb1 : decide (k < 64) = true := decide_eq_true hlt
       have hbi : decide ((k : Int) < 64) = true := decide_eq_true (by omega)
       have bk : ((k : Int) < 64) = True := eq_true (by omega)
       have bk2 : (k < 64) = True := eq_true hlt
       have oS := zdQ OH.out kL (zJ b 48) k
       have hnext : za (zaY H kL (zJ b 48) (k + 1) = zft (zaY H kL (zJ b 48) k) (kL.getD k 0) ((zJ b 48).getD k 0)) := ⟨rfl⟩
       generalize zaY H kL (zJ b 48) k = S at hnext oS ⊢
       have hroundL : za (zft S (kL.getD k 0) ((zJ b 48).getD k 0) = zgF (S.getD 0 0) (S.getD 1 0) (S.getD 2 0) (S.getD 3 0) (S.getD 4 0) (S.getD 5 0) (S.getD 6 0) (S.getD 7 0) (kL.getD k 0) ((zJ b 48).getD k 0)) := ⟨rfl⟩
       have o0 := oS 0;have o4 := oS 4
       obtain ⟨s0,hs0⟩ : ∃ x,x = S.getD 0 0 := ⟨_,rfl⟩
       obtain ⟨s1,hs1⟩ : ∃ x,x = S.getD 1 0 := ⟨_,rfl⟩
       obtain ⟨s2,hs2⟩ : ∃ x,x = S.getD 2 0 := ⟨_,rfl⟩
       obtain ⟨s3,hs3⟩ : ∃ x,x = S.getD 3 0 := ⟨_,rfl⟩
       obtain ⟨s4,hs4⟩ : ∃ x,x = S.getD 4 0 := ⟨_,rfl⟩
       obtain ⟨s5,hs5⟩ : ∃ x,x = S.getD 5 0 := ⟨_,rfl⟩
       obtain ⟨s6,hs6⟩ : ∃ x,x = S.getD 6 0 := ⟨_,rfl⟩
       obtain ⟨s7,hs7⟩ : ∃ x,x = S.getD 7 0 := ⟨_,rfl⟩
       rw [← hs0,← hs1,← hs2,← hs3,← hs4,← hs5,← hs6,← hs7] at hroundL
       rw [← hs0,← hs1,← hs2,← hs3,← hs4,← hs5,← hs6,← hs7]
       rw [← hs0] at o0
       rw [← hs4] at o4
       obtain ⟨kk,hkk⟩ : ∃ x,x = kL.getD k 0 := ⟨_,rfl⟩
       obtain ⟨ww,hww⟩ : ∃ x,x = (zJ b 48).getD k 0 := ⟨_,rfl⟩
       rw [← hkk,← hww] at hroundL hnext
       have cK : ∀ wx,Rr w wx B g2 g4 g13 g c H (zJ b 48) → wx.cell? ⟨g13,k,none⟩ = some (.int .u32 kk) := fun wx hx => by rw [hkk];exact (zb hx.k k).trans (zV kL k hlt)
       have cW : ∀ wx,Rr w wx B g2 g4 g13 g c H (zJ b 48) → wx.cell? ⟨g,k,none⟩ = some (.int .u32 ww) := fun wx hx => by rw [hww];exact hx.q.cell (za3 b 48) k hlt
       have CK := za.mk cK
       have CW := za.mk cW
       have O0 := za.mk o0
       have O4 := za.mk o4
       clear cK cW o0 o4 oS hs0 hs1 hs2 hs3 hs4 hs5 hs6 hs7 hkk hww
       go_wp2_with (first
        | (go_at_call 83;(with_reducible refine (rturn6 s4 O4.out _).mono ?_);rintro e w8 ⟨rfl,hbw⟩;replace HR : za (Rr w w8 B g2 g4 g13 g c H (zJ b 48)) := ⟨HR.out.below hbw⟩;clear hbw)
        | (go_at_call 83;(with_reducible refine (rturn11 s4 O4.out _).mono ?_);rintro e w8 ⟨rfl,hbw⟩;replace HR : za (Rr w w8 B g2 g4 g13 g c H (zJ b 48)) := ⟨HR.out.below hbw⟩;clear hbw)
        | (go_at_call 83;(with_reducible refine (rturn25 s4 O4.out _).mono ?_);rintro e w8 ⟨rfl,hbw⟩;replace HR : za (Rr w w8 B g2 g4 g13 g c H (zJ b 48)) := ⟨HR.out.below hbw⟩;clear hbw))
       have e42 : (4294967295 - s4) % 4294967296 = 4294967295 - s4 := by have h1 := O4.out.1;have h2 := O4.out.2;omega
       rw [e42]
       clear e42
       have HR8 : za (Rr w w8.drew B g2 g4 g13 g c H (zJ b 48)) := ⟨⟨⟨zp HR.out.q.b,HR.out.q.h,HR.out.q.r,HR.out.q.o⟩,HR.out.k⟩⟩
       have dK := CK.out w8.drew HR8.out
       have dW := CW.out w8.drew HR8.out
       refine wp_region_still_lit (by kernel_rfl) (by kernel_rfl) ?_
       repeat still_step
       refine wpStill_nil ?_
       change Exit.then _ _ Exit.normal _ w8.drew
       clear HR
       have HR := HR8
       clear HR8
       generalize w8.drew = wd at HR dK dW ⊢
       clear dK dW
       go_wp2_with (first
        | (go_at_call 83;(with_reducible refine (rturn2 s0 O0.out _).mono ?_);rintro e w9 ⟨rfl,hbw⟩;replace HR : za (Rr w w9 B g2 g4 g13 g c H (zJ b 48)) := ⟨HR.out.below hbw⟩;clear hbw)
        | (go_at_call 83;(with_reducible refine (rturn13 s0 O0.out _).mono ?_);rintro e w9 ⟨rfl,hbw⟩;replace HR : za (Rr w w9 B g2 g4 g13 g c H (zJ b 48)) := ⟨HR.out.below hbw⟩;clear hbw)
        | (go_at_call 83;(with_reducible refine (rturn22 s0 O0.out _).mono ?_);rintro e w9 ⟨rfl,hbw⟩;replace HR : za (Rr w w9 B g2 g4 g13 g c H (zJ b 48)) := ⟨HR.out.below hbw⟩;clear hbw))
       refine ⟨⟨k + 1,rfl,by omega,?_,?_,?_,?_,?_,?_,?_,?_,HR⟩,by show 64 - ((k : Int) + 1).toNat < 64 - (k : Int).toNat;omega⟩
       all_goals (rw [hnext.out,hroundL.out];(first | rfl | (simp only [zgF,zb0,zcr,zdT];rfl)))
      ·obtain rfl : k = 64 := by omega
       have oS := zdQ OH.out kL (zJ b 48) 64
       have lS := zef HH.out kL (zJ b 48) 64
       have hfin : za (zc1 (zaY H kL (zJ b 48) 64) H 8 = zeP H kL b) := ⟨rfl⟩
       generalize zaY H kL (zJ b 48) 64 = R at hfin oS lS ⊢
       obtain ⟨r0,hr0⟩ : ∃ x,x = R.getD 0 0 := ⟨_,rfl⟩
       obtain ⟨r1,hr1⟩ : ∃ x,x = R.getD 1 0 := ⟨_,rfl⟩
       obtain ⟨r2,hr2⟩ : ∃ x,x = R.getD 2 0 := ⟨_,rfl⟩
       obtain ⟨r3,hr3⟩ : ∃ x,x = R.getD 3 0 := ⟨_,rfl⟩
       obtain ⟨r4,hr4⟩ : ∃ x,x = R.getD 4 0 := ⟨_,rfl⟩
       obtain ⟨r5,hr5⟩ : ∃ x,x = R.getD 5 0 := ⟨_,rfl⟩
       obtain ⟨r6,hr6⟩ : ∃ x,x = R.getD 6 0 := ⟨_,rfl⟩
       obtain ⟨r7,hr7⟩ : ∃ x,x = R.getD 7 0 := ⟨_,rfl⟩
       obtain ⟨h0,hh0⟩ : ∃ x,x = H.getD 0 0 := ⟨_,rfl⟩
       obtain ⟨h1,hh1⟩ : ∃ x,x = H.getD 1 0 := ⟨_,rfl⟩
       obtain ⟨h2,hh2⟩ : ∃ x,x = H.getD 2 0 := ⟨_,rfl⟩
       obtain ⟨h3,hh3⟩ : ∃ x,x = H.getD 3 0 := ⟨_,rfl⟩
       obtain ⟨h4,hh4⟩ : ∃ x,x = H.getD 4 0 := ⟨_,rfl⟩
       obtain ⟨h5,hh5⟩ : ∃ x,x = H.getD 5 0 := ⟨_,rfl⟩
       obtain ⟨h6,hh6⟩ : ∃ x,x = H.getD 6 0 := ⟨_,rfl⟩
       obtain ⟨h7,hh7⟩ : ∃ x,x = H.getD 7 0 := ⟨_,rfl⟩
       rw [← hr0,← hr1,← hr2,← hr3,← hr4,← hr5,← hr6,← hr7]
       have ch0 : wr.cell? ⟨g2,0,none⟩ = some (.int .u32 h0) := by rw [hh0];exact (zb HR.out.q.h 0).trans (zV H 0 (by rw [HH.out];omega))
       have ch1 : wr.cell? ⟨g2,1,none⟩ = some (.int .u32 h1) := by rw [hh1];exact (zb HR.out.q.h 1).trans (zV H 1 (by rw [HH.out];omega))
       have ch2 : wr.cell? ⟨g2,2,none⟩ = some (.int .u32 h2) := by rw [hh2];exact (zb HR.out.q.h 2).trans (zV H 2 (by rw [HH.out];omega))
       have ch3 : wr.cell? ⟨g2,3,none⟩ = some (.int .u32 h3) := by rw [hh3];exact (zb HR.out.q.h 3).trans (zV H 3 (by rw [HH.out];omega))
       have ch4 : wr.cell? ⟨g2,4,none⟩ = some (.int .u32 h4) := by rw [hh4];exact (zb HR.out.q.h 4).trans (zV H 4 (by rw [HH.out];omega))
       have ch5 : wr.cell? ⟨g2,5,none⟩ = some (.int .u32 h5) := by rw [hh5];exact (zb HR.out.q.h 5).trans (zV H 5 (by rw [HH.out];omega))
       have ch6 : wr.cell? ⟨g2,6,none⟩ = some (.int .u32 h6) := by rw [hh6];exact (zb HR.out.q.h 6).trans (zV H 6 (by rw [HH.out];omega))
       have ch7 : wr.cell? ⟨g2,7,none⟩ = some (.int .u32 h7) := by rw [hh7];exact (zb HR.out.q.h 7).trans (zV H 7 (by rw [HH.out];omega))
       have F : za (zeP H kL b = [(h0 + r0) % 4294967296,(h1 + r1) % 4294967296,(h2 + r2) % 4294967296,(h3 + r3) % 4294967296,(h4 + r4) % 4294967296,(h5 + r5) % 4294967296,(h6 + r6) % 4294967296,(h7 + r7) % 4294967296]) := ⟨by
        rw [← hfin.out]
        refine zgp (zcL _ _ _) rfl (fun j hj => ?_)
        rw [zc7 _ _ _ _ hj,if_pos hj]
        have : j = 0 ∨ j = 1 ∨ j = 2 ∨ j = 3 ∨ j = 4 ∨ j = 5 ∨ j = 6 ∨ j = 7 := by omega
        rcases this with rfl | rfl | rfl | rfl | rfl | rfl | rfl | rfl
        ·rw [← hr0,← hh0,Int.add_comm,zb0];rfl
        ·rw [← hr1,← hh1,Int.add_comm,zb0];rfl
        ·rw [← hr2,← hh2,Int.add_comm,zb0];rfl
        ·rw [← hr3,← hh3,Int.add_comm,zb0];rfl
        ·rw [← hr4,← hh4,Int.add_comm,zb0];rfl
        ·rw [← hr5,← hh5,Int.add_comm,zb0];rfl
        ·rw [← hr6,← hh6,Int.add_comm,zb0];rfl
        ·rw [← hr7,← hh7,Int.add_comm,zb0];rfl
        ⟩
       clear hr0 hr1 hr2 hr3 hr4 hr5 hr6 hr7 hh0 hh1 hh2 hh3 hh4 hh5 hh6 hh7 hfin oS lS hlt hk
       go_wp2_with (first
        | ((with_reducible refine zq (N := 232) rfl ?_);refine wpList_build rfl 85 _ rfl (by kernel_rfl) ?_;refine wpList_store_row rfl 85 (.tmp 4) (.tmp 232) rfl g4 (zK [(h0 + r0) % 4294967296,(h1 + r1) % 4294967296,(h2 + r2) % 4294967296,(h3 + r3) % 4294967296,(h4 + r4) % 4294967296,(h5 + r5) % 4294967296,(h6 + r6) % 4294967296,(h7 + r7) % 4294967296]) (by kernel_rfl) (by kernel_rfl) 85 _ HR.out.q.r (by kernel_rfl) (by kernel_rfl) (by kernel_rfl) ?_;have HF : za (Below w.heap.size w (wr.setRow g4 (zK [(h0 + r0) % 4294967296,(h1 + r1) % 4294967296,(h2 + r2) % 4294967296,(h3 + r3) % 4294967296,(h4 + r4) % 4294967296,(h5 + r5) % 4294967296,(h6 + r6) % 4294967296,(h7 + r7) % 4294967296])) ∧ (wr.setRow g4 (zK [(h0 + r0) % 4294967296,(h1 + r1) % 4294967296,(h2 + r2) % 4294967296,(h3 + r3) % 4294967296,(h4 + r4) % 4294967296,(h5 + r5) % 4294967296,(h6 + r6) % 4294967296,(h7 + r7) % 4294967296])).heap[g4]? = some (.cells (zK [(h0 + r0) % 4294967296,(h1 + r1) % 4294967296,(h2 + r2) % 4294967296,(h3 + r3) % 4294967296,(h4 + r4) % 4294967296,(h5 + r5) % 4294967296,(h6 + r6) % 4294967296,(h7 + r7) % 4294967296]) 85 (0,0))) := ⟨zbk HR.out.q.b G4.out,setRow_heap _ _ _ _ _ _ HR.out.q.r⟩;generalize World.setRow wr _ _ = wf at HF ⊢))
       refine bodyPost_ret (zbh rfl _ _ g4 85 (zK [(h0 + r0) % 4294967296,(h1 + r1) % 4294967296,(h2 + r2) % 4294967296,(h3 + r3) % 4294967296,(h4 + r4) % 4294967296,(h5 + r5) % 4294967296,(h6 + r6) % 4294967296,(h7 + r7) % 4294967296]) (0,0) _ (by kernel_rfl) HF.out.2 Tryz.underlying85 rfl (by kernel_rfl)) rfl ?_
       refine ⟨?_,HF.out.1⟩
       rw [F.out]
       rfl
structure Rs (w W : World) (g3 : Nat) (L : List Int) : Prop where
 b : Below w.heap.size w W
 h : W.heap[g3]? = some (.cells (zK L) 85 (0,0))
theorem Rs.below {w W W' : World} {g3 : Nat} {L : List Int} (h : Rs w W g3 L) (hb : Below W.heap.size W W') : Rs w W' g3 L := ⟨ze h.b hb,zo h.h hb⟩
theorem lit_reads (W : World) (e : TypeId) (k : IntKind) (xs : List Int) (hm : xs.length ≤ 9223372036854775807) : zbc (W.alloc (.cells (zbM k xs).toArray e)) k (some ⟨W.heap.size,0,none⟩) xs.length xs := by
 obtain ⟨A,c,e,h⟩ := zfn (own_lit W 0 e k xs (Nat.zero_le _) hm)
 cases e
 exact h
def zeQ (L : List Int) : Nat → List Int
 | 0 => []
 | n + 1 => zeQ L n ++ [L.getD n 0 / 16777216 % 256,L.getD n 0 / 65536 % 256,L.getD n 0 / 256 % 256,L.getD n 0 % 256]
theorem zd8 (L : List Int) : ∀ n,(zeQ L n).length = 4 * n
 | 0 => rfl
 | n + 1 => by rw [zeQ,List.length_append,zd8 L n];show 4 * n + 4 = _;omega
theorem word_ints {x : Int} (hx : zbp x) : [x / 16777216 % 256,x / 65536 % 256,x / 256 % 256,x % 256].map (fun n : Int => UInt8.ofNat n.toNat) = zcX x := by
 obtain ⟨n,rfl⟩ := Int.eq_ofNat_of_zero_le hx.1
 rfl
theorem outX_map (L : List Int) (ok : okL L) (n : Nat) (hn : n ≤ L.length) : (zeQ L n).map (fun n : Int => UInt8.ofNat n.toNat) = (L.take n).flatMap zcX := by
 induction n with
 | zero => rfl
 | succ n ih =>
  have hx : L[n]? = some (L.getD n 0) := by rw [List.getD_eq_getElem?_getD,List.getElem?_eq_getElem (by omega)];rfl
  rw [zeQ,List.map_append,ih (by omega),word_ints (ok n),List.take_add_one,hx,List.flatMap_append]
  simp
theorem outX_str (L : List Int) (ok : okL L) (h : L.length = 8) : strOfNums (zeQ L 8) = toB (L.flatMap zcX) := by
 rw [zbT,outX_map L ok 8 (by omega),List.take_of_length_le (by omega)]
theorem word_vals {x : Int} (hx : zbp x) : [x.tdiv 16777216 % 4294967296 % 256,(x.tdiv 65536 % 4294967296).tmod 256 % 256,(x.tdiv 256 % 4294967296).tmod 256 % 256,x.tmod 256 % 256] = [x / 16777216 % 256,x / 65536 % 256,x / 256 % 256,x % 256] := by
 have h0 := hx.1
 have h1 := hx.2
 have d1 : 0 ≤ x / 65536 % 4294967296 := Int.emod_nonneg _ (by decide)
 have d2 : 0 ≤ x / 256 % 4294967296 := Int.emod_nonneg _ (by decide)
 rw [Int.tdiv_eq_ediv_of_nonneg h0,Int.tdiv_eq_ediv_of_nonneg h0,Int.tdiv_eq_ediv_of_nonneg h0,Int.tmod_eq_emod_of_nonneg d1,Int.tmod_eq_emod_of_nonneg d2,Int.tmod_eq_emod_of_nonneg h0]
 rw [show x / 16777216 % 4294967296 = x / 16777216 by omega,show x / 65536 % 4294967296 = x / 65536 by omega,show x / 256 % 4294967296 = x / 256 by omega,Int.emod_emod_of_dvd _ (Int.dvd_refl 256),Int.emod_emod_of_dvd _ (Int.dvd_refl 256),Int.emod_emod_of_dvd _ (Int.dvd_refl 256)]
structure Ro (wb W : World) (L : List Int) (v : Value) (n : Nat) : Prop where
 o : W.ownsRow wb.heap.size 5 1 v (zeQ L n).length (zbM .u8 (zeQ L n))
 c : Below wb.heap.size wb W
theorem zh8 (L : List Int) : (zK L).all (·.oneCell') = true := by simp [zK,Value.oneCell']
set_option maxHeartbeats 8000000 in
set_option maxRecDepth 100000 in
theorem rsum.walk (s : ByteArray) (w : World) (hsz : s.size ≤ 70368744177664) :
  Calls Tryz.prog 40 #[.string s] w fun e w' => e = .returned (.string (zgH s)) ∧ Below w.heap.size w w' := by
 have HSZ := za.mk hsz
 clear hsz
 go_enter Tryz.func40,Tryz.ntmps40
 go_wp2_with (first
  | (go_at_call 62;(with_reducible refine (rpad.walk _ _ HSZ.out).mono ?_);rintro e w6 ⟨rfl,hb⟩;have M1 : za (Rs w w6 g3 hL) := ⟨M0.out.below hb⟩;clear M0 hb)
  | (go_at_call 61;(with_reducible refine (rfirst.walk _).mono ?_);rintro e w1 ⟨rfl,hb⟩;have HB1 := za.mk hb;clear hb)
  | ((with_reducible refine zq (N := 3) rfl ?_);refine zn rfl (N := 3) rfl (cs := zK [0,0,0,0,0,0,0,0]) (t := 85) hrq ?_;intro g3 hg w3 hbox hb;have G3 : za (w.heap.size ≤ g3) := ⟨by rw [hg];exact zh HB1.out⟩;have B3 := za.mk hbox;have HB3 := za.mk (ze HB1.out hb);clear hb hbox hg;refine wpList_store_row rfl 85 (.tmp 3) (.tmp 8) rfl g3 (zK hL) (by kernel_rfl) (by kernel_rfl) 85 _ B3.out (by kernel_rfl) (by kernel_rfl) hL_one ?_;have M0 : za (Rs w (w3.setRow g3 (zK hL)) g3 hL) := ⟨⟨zbk HB3.out G3.out,setRow_heap _ _ _ _ _ _ B3.out⟩⟩;generalize World.setRow w3 _ _ = W5 at M0 ⊢;clear HB1 HB3 B3))
 obtain ⟨m,hm⟩ := zit (ofB s)
 obtain ⟨p,ep⟩ : ∃ p,p = toB (zd9 (ofB s)) := ⟨_,rfl⟩
 have hps : p.size = 64 * m := by rw [ep,zax,hm]
 have hpl : 64 * m < 9223372036854775800 := by
  rw [← hm,zd9];simp only [List.length_append,List.length_cons,List.length_replicate,zas,zeJ,List.length_nil];have := HSZ.out;have : zcE s.size < 64 := by unfold zcE;omega
  omega
 rw [← ep]
 have EP := za.mk ep
 have HM := za.mk hm
 have HP := za.mk hps
 have HL := za.mk hpl
 clear ep hm hps hpl
 go_loopw [5] (fun v5 wr => ∃ k : Nat,v5 = .int .i64 ((64 * k : Nat) : Int) ∧ k ≤ m ∧ za (Rs w wr g3 (zaS p k))) (fun v5 _ => p.size - (intOf v5).toNat)
 case atStart => exact ⟨0,rfl,by omega,M1⟩
 case round =>
  clear M1
  obtain ⟨k,rfl,hk,MK⟩ := hrel
  by_cases hlt : k < m
  ·have hps := HP.out
   have hpl := HL.out
   obtain ⟨i,ei⟩ : ∃ i : Nat,i = 64 * k := ⟨_,rfl⟩
   rw [← ei]
   have c0 : decide (i < p.size) = true := decide_eq_true (by omega)
   have c1 : decide ((i : Int) < (p.size : Int)) = true := decide_eq_true (by omega)
   obtain ⟨j,ej⟩ : ∃ j : Nat,j = i + 64 := ⟨_,rfl⟩
   have c2 : IntKind.i64.wrap ((i : Int) + 64) = (j : Int) := by rw [IntKind.wrap_i64];omega
   have c3 : ((j : Int) ≤ (p.size : Int)) = True := eq_true (by omega)
   have c4 : ((i : Int) ≤ (j : Int)) = True := eq_true (by omega)
   have c5 : (j ≤ p.size) = True := eq_true (by omega)
   have c6 : (i ≤ j) = True := eq_true (by omega)
   have c7 : (0 ≤ (j : Int)) = True := eq_true (by omega)
   have c8 : (0 ≤ (i : Int)) = True := eq_true (by omega)
   have EJ := za.mk ej
   have E64 : za (p.size % 64 = 0 ∧ j ≤ p.size) := ⟨by omega,by omega⟩
   have EI := za.mk ei
   clear ei ej hps hpl
   go_wp2
   refine zey 6 2 (by kernel_rfl) (by kernel_rfl) ?_
   simp only [List.take_succ_cons,List.take_zero,List.drop_succ_cons,List.drop_zero]
   refine zcN 85 (.tmp 3) rfl (by kernel_rfl) g3 (by kernel_rfl) 85 (zK (zaS p k)) (0,0) _ MK.out.h Tryz.underlying85 rfl (by rw [zaT,zbm];kernel_rfl) ?_
   repeat still_step
   refine wpStill_nil ?_
   change wpList _ _ _ _ _ wr.drew
   have MD : za (Rs w wr.drew g3 (zaS p k)) := ⟨⟨zp MK.out.b,MK.out.h⟩⟩
   generalize wr.drew = wd at MD ⊢
   have hbk : za ((p.extract i j).size = 64) := ⟨by have := EJ.out;have := E64.out;rw [ByteArray.size_extract];omega⟩
   go_wp2_with (first
    | (go_at_call 63;(with_reducible refine (rblock.walk _ _ _ (zbm p k) (zdI p k) hbk.out).mono ?_);rintro e w7 ⟨rfl,hb⟩;have M7 : za (Rs w w7 g3 (zaS p k)) := ⟨MD.out.below hb⟩;clear MD hb))
   change wpAny _ .any _ _ 3 #[true,true,true,true,true,true,true,true,false,false,false] _ _
   refine wpAny_take (i := 8) (v := .agg (zK (zeP (zaS p k) kL (p.extract i j)))) rfl (by kernel_rfl) (by kernel_rfl) (by kernel_rfl) (fun _ _ _ h => h) (Or.inl ⟨by rfl,fun w => by go_simp⟩) ?_
   refine wpAny_take (i := 9) (v := .int .i64 0) rfl (by kernel_rfl) (by kernel_rfl) (by kernel_rfl) (fun _ _ _ h => h) (Or.inl ⟨by rfl,fun w => by go_simp⟩) ?_
   refine wpAny_last 10 rfl (by kernel_rfl) (by kernel_rfl) ?_
   refine wpList_store_row rfl 85 (.tmp 3) (.tmp 25) rfl g3 (zK (zeP (zaS p k) kL (p.extract i j))) (by kernel_rfl) (by kernel_rfl) 85 _ M7.out.h (by rw [zaT,zdA];kernel_rfl) (by rw [zaT,zaT,zbm,zdA]) (zh8 _) ?_
   have M8 : za (Rs w (w7.setRow g3 (zK (zeP (zaS p k) kL (p.extract i j)))) g3 (zaS p (k + 1))) := ⟨⟨zbk M7.out.b G3.out,by rw [zaS,← EI.out,← EJ.out];exact setRow_heap _ _ _ _ _ _ M7.out.h⟩⟩
   generalize World.setRow w7 _ _ = w8 at M8 ⊢
   clear M7
   refine wpList_nil ?_
   go_simp
   go_wp2
   refine ⟨⟨k + 1,?_,by omega,M8⟩,?_⟩
   ·rw [EJ.out,EI.out,Nat.mul_add]
   ·have h1 := EJ.out;have h2 := E64.out.2
    show p.size - (j : Int).toNat < p.size - (i : Int).toNat
    omega
  ·obtain rfl : k = m := by omega
   have hps := HP.out
   have c0 : decide (64 * k < p.size) = false := decide_eq_false (by omega)
   have c1 : decide (((64 * k : Nat) : Int) < (p.size : Int)) = false := decide_eq_false (by omega)
   rw [← hps]
   have hpm := HM.out
   clear hlt hk hps c0 c1
   go_wp2
   obtain ⟨L,eL⟩ : ∃ L,L = zaS p k := ⟨_,rfl⟩
   have hl8 : L.length = 8 := by rw [eL,zbm]
   have hok : okL L := by rw [eL];exact zdI p k
   rw [← eL] at MK
   have EL := za.mk eL
   have L8 := za.mk hl8
   have OK := za.mk hok
   have PM := za.mk hpm
   clear eL hl8 hok hpm
   obtain ⟨wb,MB,hR⟩ : ∃ wb,za (Rs w wb g3 L) ∧ Ro wb wr L (.slice none 0 0) 0 := ⟨wr,MK,zf4 _ _ _ _,Below.refl _ _⟩
   have R0 := za.mk hR
   clear hR MK
   go_loopw [6,7] (fun v6 v7 wr => ∃ n : Nat,v7 = .int .i64 n ∧ n ≤ 8 ∧ za (Ro wb wr L v6 n)) (fun _ v7 _ => 8 - (intOf v7).toNat)
   case atStart => exact ⟨0,rfl,by omega,R0⟩
   case round =>
    clear R0
    obtain ⟨n,rfl,hn,HM⟩ := hrel
    obtain ⟨A,c,rfl⟩ := zer HM.out.o
    rw [zd8]
    obtain ⟨q,eq⟩ : ∃ q,q = 4 * n := ⟨_,rfl⟩
    rw [← eq]
    have HN : za (wr.ownsRow wb.heap.size 5 1 (.slice A q c) (zeQ L n).length (zbM .u8 (zeQ L n)) ∧ Below wb.heap.size wb wr) := ⟨by have := HM.out.o;rw [zd8,← eq] at this ⊢;exact this,HM.out.c⟩
    have EQ := za.mk eq
    clear HM eq
    by_cases hlt : n < 8
    ·have b1 : decide (n < 8) = true := decide_eq_true hlt
     have b2 : decide ((n : Int) < 8) = true := decide_eq_true (by omega)
     have b3 : ((n : Int) < 8) = True := eq_true (by omega)
     have b4 : (n < 8) = True := eq_true hlt
     obtain ⟨x,ex⟩ : ∃ x,x = L.getD n 0 := ⟨_,rfl⟩
     have hok := OK.out n
     rw [← ex] at hok
     have EX := za.mk ex
     have cx : wr.drew.cell? ⟨g3,n,none⟩ = some (.int .u32 x) := by
      rw [ex]
      exact (zb (w := wr.drew) (zo MB.out.h (zp HN.out.2)) n).trans (zV L n (by rw [L8.out];exact hlt))
     have OX := za.mk hok
     clear ex hok
     go_wp2
     refine zbW (.slice A q c) 22 (by kernel_rfl) (by kernel_rfl) (fun _ _ _ h => h) (Or.inl ⟨by rfl,fun w => by go_simp⟩) ?_
     simp only [List.take_succ_cons,List.take_zero,List.drop_succ_cons,List.drop_zero]
     repeat still_step
     refine wpStill_nil ?_
     change wpList _ _ _ _ _ wr.drew
     have HN2 : za (wr.drew.ownsRow wb.heap.size 5 1 (.slice A q c) (zeQ L n).length (zbM .u8 (zeQ L n)) ∧ Below wb.heap.size wb wr.drew) := ⟨HN.out.1,zp HN.out.2⟩
     generalize wr.drew = wd at HN2 cx ⊢
     clear HN cx
     go_wp2_with (at_builtin;go_loud (refine zdE wb.heap.size rfl (.tmp 31) (.tmp 54) 92 5 .u8 1 rfl Tryz.underlying92 zhT (by decide) (.slice A q c) (zeQ L n) [x.tdiv 16777216 % 4294967296 % 256,(x.tdiv 65536 % 4294967296).tmod 256 % 256,(x.tdiv 256 % 4294967296).tmod 256 % 256,x.tmod 256 % 256] _ 4 4 rfl rfl (HN2.out.1.alloc _) (lit_reads wd 5 .u8 _ (by simp)) (HN2.out.2.alloc HN2.out.2.size _) (Nat.le_trans HN2.out.2.size (zh ((Below.refl _ _).alloc (Nat.le_refl _) _))) (by rw [zd8];omega) ?_;intro v1 w4 ho1 hb1 hx1 hx2;clear hx1 hx2;have HM1 : za (Ro wb w4 L v1 (n + 1)) := ⟨⟨by rw [zeQ,← EX.out,← word_vals OX.out];exact ho1,hb1⟩⟩;clear ho1 hb1))
     go_roundw
     case rel => exact ⟨n + 1,rfl,by omega,HM1⟩
     case measure => show 8 - ((n : Int) + 1).toNat < 8 - (n : Int).toNat;omega
    ·obtain rfl : n = 8 := by omega
     obtain rfl : q = 32 := EQ.out
     have ho : wr.ownsRow wb.heap.size 5 1 (.slice A 32 c) 32 (zbM .u8 (zeQ L 8)) := by have := HN.out.1;rw [zd8] at this;exact this
     have hC := zdM (P := Tryz.prog) Tryz.underlying92 Tryz.underlying5 Tryz.underlying9 ho
     rw [outX_str L OK.out L8.out] at hC
     clear hlt hn ho
     go_wp2
     go_ret
     refine ⟨?_,ze MB.out.b HN.out.2⟩
     show Ending.returned (.string (toB (L.flatMap zcX))) = _
     have hm : (zd9 (ofB s)).length / 64 = k := by rw [PM.out];omega
     rw [zgH,hm,← EP.out,← EL.out]
def zaH.f (a0 : ByteArray) : Option ByteArray := if a0.size ≤ 70368744177664 then some (zgH a0) else none
theorem zaH.calls (a0 : ByteArray) (r : ByteArray) (w : World) (h : zaH.f a0 = some r) :
  Calls Tryz.prog 40 #[.string a0] w fun e w' => e = .returned (.string r) ∧ Below w.heap.size w w' := by
 unfold zaH.f at h
 split at h
 ·next hsz =>
  obtain rfl := Option.some.inj h
  exact rsum.walk a0 w hsz
 ·exact absurd h (by simp)
def zr.l0 : Nat → Int → ByteArray → Option (ByteArray)
 | 0,_,_ => none
 | k + 1,x0,x3 => if x0 > 0 then ((some (([(Int.tmod x0 256) % 256] : List Int) : List Int)).bind fun ya => (if (strOfNums ya).size + x3.size ≤ 9223372036854775807 then (zr.l0 k (IntKind.u64.wrap (Int.tdiv x0 256)) ((strOfNums ya) ++ x3)) else (none))) else ((some (([((x3.size : Int)) % 256] : List Int) : List Int)).bind fun yd => (if (strOfNums yd).size + x3.size ≤ 9223372036854775807 then (some ((strOfNums yd) ++ x3)) else (none)))
def zr.f (k : Nat) (a0 : Int) : Option (ByteArray) := zr.l0 k a0 (⟨#[]⟩ : ByteArray)
set_option maxHeartbeats 8000000 in
set_option maxRecDepth 100000 in
theorem zr.calls (k : Nat) (a0 : Int) (r : ByteArray) (w : World) (h : zr.f k a0 = some r) :
  Calls Tryz.prog 59 #[.int .u64 a0] w fun e w' => e = .returned (.string r) ∧ Below w.heap.size w w' := by
 have HB := za.mk (Below.refl w.heap.size w)
 have H : (zr.l0 k a0 (⟨#[]⟩ : ByteArray)) = some r := h
 clear h
 have H' := za.mk H
 clear H
 go_enter Tryz.func59,Tryz.ntmps59
 go_wp2
 go_loopg [0,3] k (fun kq v0 v3 w' => ∃ (x0_1 : Int) (x3_1 : ByteArray),v0 = .int .u64 x0_1 ∧ v3 = .string x3_1 ∧ za (zr.l0 kq x0_1 x3_1 = some r) ∧ za (kq ≤ k) ∧ za (Below w.heap.size w w'))
 case atStart => exact ⟨(a0),((⟨#[]⟩ : ByteArray)),(hDq),(hDq),H',⟨Nat.le_refl _⟩,⟨by repeat (first | (with_reducible first | exact HB.out | apply zl | apply zi | apply zp) | exact HB.out)⟩⟩
 case round =>
  clear H'
  obtain ⟨x0_1,x3_1,rfl,rfl,HA,HK1,HB⟩ := hrel
  cases gk with
  | zero => exact absurd HA.out (by simp [zr.l0])
  | succ k1 =>
   have H := HA.out
   clear HA
   simp only [zr.l0] at H
   by_cases c2 : x0_1 > 0
   ·rw [if_pos c2] at H
    have c2b0 : decide (0 < x0_1) = true := decide_eq_true c2
    clear c2
    obtain ⟨ya,yb⟩ : ∃ y_ : List Int,y_ = (([(Int.tmod x0_1 256) % 256] : List Int)) := ⟨_,rfl⟩
    replace H : (if (strOfNums ya).size + x3_1.size ≤ 9223372036854775807 then (zr.l0 k1 (IntKind.u64.wrap (Int.tdiv x0_1 256)) ((strOfNums ya) ++ x3_1)) else (none)) = some r := by first | (rw [yb];with_reducible exact H) | (have H2_ := (Option.bind_some _ _).symm.trans H;rw [yb];with_reducible exact H2_) | (have H2_ := (Option.bind_some _ _).symm.trans H;with_reducible exact H2_) | with_reducible exact H | (rw [yb];exact H) | exact H
    have ye := za.mk yb
    clear yb
    by_cases c3 : (strOfNums ya).size + x3_1.size ≤ 9223372036854775807
    ·rw [if_pos c3] at H
     have c3b0 := eq_true c3
     have c3b1 : decide ((strOfNums ya).size + x3_1.size ≤ 9223372036854775807) = true := decide_eq_true c3
     try have c3b2 : (9223372036854775807 < (strOfNums ya).size + x3_1.size) = False := eq_false (Nat.not_lt.2 c3)
     have H' := za.mk H
     clear H
     go_wp2_with (first | ((with_reducible refine zq (N := 9) rfl ?_);refine Kd.R_lit (Kd.int .u8) _ 5 ?hg (N := 9) ?hd (xs := ([(Int.tmod x0_1 256) % 256] : List Int)) (inner := [.int .u8 ((Int.tmod x0_1 256) % 256)]) (ok := fun _ => True) (okp := fun _ => True) ?hr ?hp (fun _ hk => hk) trivial (Below.refl _ _) (Nat.le_refl _) (by simp) ?_;(case hd => rfl);(case hg => rfl);(case hr => first | (go_simp;done) | (go_simp;rfl));(case hp => exact (zaA.one (show Kd.M (Kd.int .u8) _ _ _ ((Int.tmod x0_1 256) % 256) [.int .u8 ((Int.tmod x0_1 256) % 256)] from rfl) (zaA.none _ _)));intro yi w4 ho5 hb hg_ hnew_;clear hg_ hnew_;(first | rw [← ye.out] at ho5 | (simp only [Int.reduceToNat] at ho5;rw [← ye.out] at ho5));have n_ := haq (Kd.R_lower ho5 (zh hBq)) <| haq (ze hBq hb) <| trivial;clear HB;obtain ⟨yg,HB,_⟩ := n_;clear hb ho5;have hcv6 := zdM (P := Tryz.prog) Tryz.underlying92 Tryz.underlying5 Tryz.underlying9 (Kd.own_of_R yg.out)))
     go_roundg k1
     case measure => have := HK1.out;omega
     case rel => exact ⟨(IntKind.u64.wrap (Int.tdiv x0_1 256)),((strOfNums ya) ++ x3_1),(hDq),(hDq),H',⟨by have := HK1.out;omega⟩,⟨by repeat (first | (with_reducible first | exact HB.out | apply zl | apply zi | apply zp) | exact HB.out)⟩⟩
    ·rw [if_neg c3] at H
     exact absurd H (by simp)
   ·rw [if_neg c2] at H
    have c2b0 : decide (0 < x0_1) = false := decide_eq_false c2
    clear c2
    obtain ⟨yd,yc⟩ : ∃ y_ : List Int,y_ = (([((x3_1.size : Int)) % 256] : List Int)) := ⟨_,rfl⟩
    replace H : (if (strOfNums yd).size + x3_1.size ≤ 9223372036854775807 then (some ((strOfNums yd) ++ x3_1)) else (none)) = some r := by first | (rw [yc];with_reducible exact H) | (have H2_ := (Option.bind_some _ _).symm.trans H;rw [yc];with_reducible exact H2_) | (have H2_ := (Option.bind_some _ _).symm.trans H;with_reducible exact H2_) | with_reducible exact H | (rw [yc];exact H) | exact H
    have yf := za.mk yc
    clear yc
    by_cases c7 : (strOfNums yd).size + x3_1.size ≤ 9223372036854775807
    ·rw [if_pos c7] at H
     have c7b0 := eq_true c7
     have c7b1 : decide ((strOfNums yd).size + x3_1.size ≤ 9223372036854775807) = true := decide_eq_true c7
     try have c7b2 : (9223372036854775807 < (strOfNums yd).size + x3_1.size) = False := eq_false (Nat.not_lt.2 c7)
     obtain rfl := Option.some.inj H
     go_wp2_with (first | ((with_reducible refine zq (N := 18) rfl ?_);refine Kd.R_lit (Kd.int .u8) _ 5 ?hg (N := 18) ?hd (xs := ([((x3_1.size : Int)) % 256] : List Int)) (inner := [.int .u8 (((x3_1.size : Int)) % 256)]) (ok := fun _ => True) (okp := fun _ => True) ?hr ?hp (fun _ hk => hk) trivial (Below.refl _ _) (Nat.le_refl _) (by simp) ?_;(case hd => rfl);(case hg => rfl);(case hr => first | (go_simp;done) | (go_simp;rfl));(case hp => exact (zaA.one (show Kd.M (Kd.int .u8) _ _ _ (((x3_1.size : Int)) % 256) [.int .u8 (((x3_1.size : Int)) % 256)] from rfl) (zaA.none _ _)));intro yj w8 ho9 hb hg_ hnew_;clear hg_ hnew_;(first | rw [← yf.out] at ho9 | (simp only [Int.reduceToNat] at ho9;rw [← yf.out] at ho9));have n_ := haq (Kd.R_lower ho9 (zh hBq)) <| haq (ze hBq hb) <| trivial;clear HB;obtain ⟨yh,HB,_⟩ := n_;clear hb ho9;have hcv10 := zdM (P := Tryz.prog) Tryz.underlying92 Tryz.underlying5 Tryz.underlying9 (Kd.own_of_R yh.out)))
     go_ret
     exact ⟨hHq,hBq⟩
    ·rw [if_neg c7] at H
     exact absurd H (by simp)
theorem zgC (acc : Bs) (hl : acc.length ≤ 200) : Ev (fun k => zr.l0 k ((0 : Nat) : Int) (toB acc)) (toB (UInt8.ofNat acc.length :: acc)) := by
 refine Ev.step (fun k => by rw [zr.l0]) ?_
 refine zS (by simp) ?_
 simp only [Option.bind_some,zbT,List.map_cons,List.map_nil,zax,List.length_cons,List.length_nil]
 refine zE (by omega) ?_
 have e : ((acc.length : Int) % 256).toNat = acc.length := by omega
 rw [e]
 exact zad (Ev.now _) (by rw [← zbb];rfl)
theorem ziy (n : Nat) : ∀ (v : Nat) (acc : Bs),v < 256 ^ n → n + acc.length ≤ 200 → v < 18446744073709551616 →
  Ev (fun k => zr.l0 k (v : Int) (toB acc)) (toB (UInt8.ofNat (be v ++ acc).length :: (be v ++ acc))) := by
 induction n with
 | zero =>
  intro v acc hv hl _
  obtain rfl : v = 0 := by simpa using hv
  rw [zeV,List.nil_append]
  exact zgC acc (by omega)
 | succ n ih =>
  intro v acc hv hl hm
  rcases Nat.eq_zero_or_pos v with h | h
  ·subst h
   rw [zeV,List.nil_append]
   exact zgC acc (by omega)
  ·refine Ev.step (fun k => by rw [zr.l0]) ?_
   refine zE (by omega) ?_
   simp only [Option.bind_some,zbT,List.map_cons,List.map_nil,zax,List.length_cons,List.length_nil]
   refine zE (by omega) ?_
   have e1 : IntKind.u64.wrap (Int.tdiv (v : Int) 256) = ((v / 256 : Nat) : Int) := by
    rw [Int.tdiv_eq_ediv_of_nonneg (by omega),zb6 (by omega) (by omega)];omega
   have e2 : (Int.tmod (v : Int) 256 % 256).toNat = v % 256 := by
    rw [Int.tmod_eq_emod_of_nonneg (by omega)];omega
   rw [e1,e2]
   have := ih (v / 256) ([UInt8.ofNat (v % 256)] ++ acc) (by rw [Nat.pow_succ] at hv;omega) (by simp;omega) (by omega)
   rw [zhs h,List.append_assoc]
   rw [zbb [UInt8.ofNat (v % 256)] acc] at this
   exact this
theorem zfr (v : Nat) (hv : v < 18446744073709551616) : Ev (fun k => zr.f k (v : Int)) (zbl v) := by
 have e8 : (256 : Nat) ^ 8 = 18446744073709551616 := by decide
 have h := ziy 8 v [] (by omega) (by simp) hv
 rw [List.append_nil] at h
 exact h
def za9.f (a0 : ByteArray) : Option (ByteArray) := if a0.size ≤ 1152921504606846976 then (some (zeG a0)) else (none)
theorem za9.calls (a0 : ByteArray) (r : ByteArray) (w : World) (h : za9.f a0 = some r) :
  Calls Tryz.prog 82 #[.string a0] w fun e w' => e = .returned (.string r) ∧ Below w.heap.size w w' := by
 unfold za9.f at h
 split at h
 ·rename_i h0
  obtain rfl := Option.some.inj h
  clear h
  have hn : (zbl a0.size).size ≤ 9 := za4 (by omega)
  have hn2 : (zbl a0.size).size + a0.size ≤ 9223372036854775807 := by omega
  obtain ⟨k,hk⟩ := (zfr a0.size (by omega)).rounds
  have HN := za.mk hk
  clear hk
  go_enter Tryz.func82,Tryz.ntmps82
  go_wp2_with (go_at_call 59;(with_reducible refine (zr.calls _ _ _ _ HN.out).mono ?_);rintro e w1 ⟨rfl,hb⟩)
  go_ret
  exact ⟨rfl,by assumption⟩
 ·cases h
def beL (v : Nat) : List Int := if v = 0 then [] else beL (v / 256) ++ [((v % 256 : Nat) : Int)]
termination_by v
decreasing_by omega
theorem zge : beL 0 = [] := by rw [beL];simp
theorem zhr {v : Nat} (h : 0 < v) : beL v = beL (v / 256) ++ [((v % 256 : Nat) : Int)] := by rw [beL,if_neg (by omega)]
theorem beL_be (v : Nat) : (beL v).map (fun n => UInt8.ofNat n.toNat) = be v := by
 induction v using Nat.strongRecOn with
 | _ v ih =>
  rcases Nat.eq_zero_or_pos v with h | h
  ·subst h;rw [zge,zeV];rfl
  ·rw [zhr h,zhs h,List.map_append,ih _ (by omega)];rfl
theorem ziq (v : Nat) : zbl v = strOfNums (((beL v).length : Int) :: beL v) := (zgu v _ (beL_be v)).symm
def zhf : Value → Int | .int _ q => q | _ => 0
def Nine (cs : Array Value) (p : Nat) (L : List Int) : Prop := cs.size = 9 ∧ p + L.length = 9 ∧ ∀ i,i < L.length → cs[p + i]? = some (.int .u8 (L.getD i 0))
theorem Nine.cell {cs : Array Value} {p : Nat} {L : List Int} (h : Nine cs p L) (i : Nat) (hi : i < 9) : ∃ v,cs[i]? = some v :=
 ⟨cs[i]'(by rw [h.1];exact hi),Array.getElem?_eq_getElem _⟩
theorem Nine.set {cs : Array Value} {q : Nat} {L : List Int} (h : Nine cs (q + 1) L) (x : Int) : Nine (cs.setIfInBounds q (.int .u8 x)) q (x :: L) := by
 refine ⟨by simp [h.1],by have := h.2.1;simp only [List.length_cons];omega,fun i hi => ?_⟩
 rcases i with _ | i
 ·rw [Nat.add_zero,Array.getElem?_setIfInBounds_self_of_lt (by rw [h.1];have := h.2.1;omega)];rfl
 ·have h2 := h.2.2 i (by simpa using hi)
  rw [Array.getElem?_setIfInBounds_ne (by omega),← Nat.add_assoc,Nat.add_right_comm,h2];simp
theorem pow_step {v q : Nat} (h : v < 256 ^ (q + 1)) : v / 256 < 256 ^ q := by
 rw [Nat.pow_succ] at h
 exact Nat.div_lt_of_lt_mul (by rw [Nat.mul_comm];exact h)
set_option maxHeartbeats 1000000 in
set_option maxRecDepth 100000 in
theorem zal.walk (a0 : Nat) (w : World) (h1 : a0 < 18446744073709551616) :
  Calls Tryz.prog 49 #[.int .u64 a0] w fun e w' => e = .returned (.string (zbl a0)) ∧ Below w.heap.size w w' := by
 go_enter Tryz.func49,Tryz.ntmps49
 go_wp2
 refine wp_scope_jumps 0 (fun a' w' => ∃ (v p n : Nat) (L : List Int) (cs : Array Value) (u6 u7 u8 u9 u10 u11 u12 u13 u14 u15 u16 u17 : Value),
   Nine cs p L ∧ v < 256 ^ (p - 1) ∧ 1 ≤ p ∧ L.length = n ∧ beL a0 = beL v ++ L ∧
   w' = w.alloc (.cells cs 102) ∧
   a' = { tmps := #[.int .u64 v,undef,.string ⟨#[]⟩,.pointer (some ⟨w.heap.size,0,none⟩),.int .i64 p,.int .u8 n,u6,u7,u8,u9,u10,u11,u12,u13,u14,u15,u16,u17,undef,undef,undef,undef,undef,undef,undef,undef],defers := [] })
   (fun a' _ => (zhf (a'.tmps.getD 4 undef)).toNat) rfl ?_ ?_
 ·rcases Nat.eq_zero_or_pos a0 with h0 | h0
  ·subst h0
   have hcv := fun W => run_convert_bytes_arg (P := Tryz.prog) (w.alloc W) 92 5 Tryz.underlying92 Tryz.underlying5 w.heap.size 8 1 1 [0] rfl
   go_wp2
   go_step3
   go_wp2
   simp only [Exit.jump]
   go_ret
   exact ⟨by rw [ziq,zge];rfl,(Below.refl _ _).alloc (Nat.le_refl _) _⟩
  ·go_wp2
   go_step3
   go_wp2
   go_step3
   refine ⟨rfl,a0 / 256,8,1,[(a0 % 256 : Nat)],_,_,_,_,_,_,_,_,_,_,_,_,_,?_,?_,?_,rfl,zhr h0,rfl,rfl⟩
   ·refine ⟨rfl,rfl,fun i hi => ?_⟩
    obtain rfl : i = 0 := by simpa using hi
    rfl
   ·have : (256:Nat) ^ (8 - 1) = 72057594037927936 := by decide
    omega
   ·omega
 ·rintro a' w' ⟨v,p,n,L,cs,u6,u7,u8,u9,u10,u11,u12,u13,u14,u15,u16,u17,hN,hv,hp,hn,hb,rfl,rfl⟩
  obtain ⟨q,rfl⟩ : ∃ q,p = q + 1 := ⟨p - 1,by omega⟩
  have hq : q < 9 := by have := hN.2.1;omega
  have hnq : n + q = 8 := by have := hN.2.1;omega
  have hnn : n ≤ 8 := by omega
  have hvb : v < 18446744073709551616 := by
   have : 256 ^ (q + 1 - 1) ≤ 256 ^ 8 := Nat.pow_le_pow_right (by omega) (by omega)
   have : (256:Nat) ^ 8 = 18446744073709551616 := by decide
   omega
  obtain ⟨v0,hc⟩ := hN.cell q hq
  have HN := za.mk hN
  have HB := za.mk hb
  have HV := za.mk hv
  have HL := za.mk hn
  have HQ := za.mk hnq
  clear hN hb hv hn hnq h1
  rcases Nat.eq_zero_or_pos v with h0 | h0
  ·subst h0
   have hq9 : q ≤ 9 := by omega
   have hsl : ∀ W : World,(Instr.sliceAt 102 (.pointer (some ⟨w.heap.size,0,none⟩)) (some (.int .i64 (q : Int))) none none).run Tryz.prog W = .ok (.slice (some ⟨w.heap.size,q,none⟩) (9 - q) (9 - q)) W := by
    intro W
    rw [run_sliceAt_array_l W 102 _ (by kernel_rfl) .i64 q (by omega) (by show (q : Int) ≤ 9;omega)]
    have e1 : (sizeOf (Tryz.prog.elem 102)).run Tryz.prog W = .ok 1 W := by kernel_rfl
    have e2 : Tryz.prog.arrayLen 102 = 9 := by kernel_rfl
    rw [e1,e2]
    simp only [Result.andThen,slicedAt,Int.toNat_natCast,Nat.mul_one]
    rw [if_neg (by omega),zbv]
   have hS := HN.out.set n
   have hcv := run_convert_bytes_arg (P := Tryz.prog) (w.alloc (.cells (cs.setIfInBounds q (.int .u8 (n : Int))) 102)) 92 5 Tryz.underlying92 Tryz.underlying5 w.heap.size q (9 - q) (9 - q) ((n : Int) :: L) (by rw [List.length_cons,HL.out];have := HQ.out;omega)
    (fun i hi => by
     have h2 := hS.2.2 i (by have := hS.2.1;omega)
     rw [World.cell?_alloc_new];exact h2) 9 Tryz.underlying9
   clear hS
   go_wp2
   simp only [Exit.jump]
   go_ret
   exact ⟨by rw [ziq,HB.out,zge,List.nil_append,HL.out];rfl,(Below.refl _ _).alloc (Nat.le_refl _) _⟩
  ·obtain ⟨q',rfl⟩ : ∃ q',q = q' + 1 := ⟨q - 1,by
    rcases Nat.eq_zero_or_pos q with hz | hz
    ·have := HV.out;subst hz;simp at this;omega
    ·omega⟩
   go_wp2
   go_step3
   refine ⟨rfl,⟨v / 256,q' + 1,n + 1,((v % 256 : Nat) : Int) :: L,_,_,_,_,_,_,_,_,_,_,_,_,_,HN.out.set _,pow_step HV.out,by omega,by rw [List.length_cons,HL.out],?_,rfl,rfl⟩,?_⟩
   ·rw [HB.out,zhr h0];simp
   ·simp [zhf];omega
def zal.f (a0 : Int) : Option (ByteArray) := if 0 ≤ a0 then (if a0 < 18446744073709551616 then (some (zbl a0.toNat)) else (none)) else (none)
theorem zal.calls (a0 : Int) (r : ByteArray) (w : World) (h : zal.f a0 = some r) :
  Calls Tryz.prog 49 #[.int .u64 a0] w fun e w' => e = .returned (.string r) ∧ Below w.heap.size w w' := by
 unfold zal.f at h
 split at h
 ·rename_i h0
  split at h
  ·rename_i h1
   obtain ⟨n,rfl⟩ := Int.eq_ofNat_of_zero_le h0
   obtain rfl := Option.some.inj h
   rw [Int.toNat_natCast]
   exact zal.walk n w (by omega)
  ·cases h
 ·cases h
def zcn.f (a0 : ByteArray) : Option (ByteArray) := if a0.size ≤ 1152921504606846976 then (some (zeG a0)) else (none)
theorem zcn.calls (a0 : ByteArray) (r : ByteArray) (w : World) (h : zcn.f a0 = some r) :
  Calls Tryz.prog 72 #[.string a0] w fun e w' => e = .returned (.string r) ∧ Below w.heap.size w w' := by
 unfold zcn.f at h
 split at h
 ·rename_i h0
  obtain rfl := Option.some.inj h
  clear h
  have hn : (zbl a0.size).size ≤ 9 := za4 (by omega)
  have hn2 : (zbl a0.size).size + a0.size ≤ 9223372036854775807 := by omega
  have HN := za.mk (show zal.f (a0.size : Int) = some (zbl a0.size) by unfold zal.f;rw [if_pos (by omega),if_pos (by omega),Int.toNat_natCast])
  go_enter Tryz.func72,Tryz.ntmps72
  go_wp2_with (go_at_call 49;(with_reducible refine (zal.calls _ _ _ HN.out).mono ?_);rintro e w1 ⟨rfl,hb⟩)
  go_ret
  exact ⟨rfl,by assumption⟩
 ·cases h
theorem zdr (v : Nat) (hv : v < 18446744073709551616) : zal.f (v : Int) = some (zbl v) := by
 unfold zal.f
 rw [if_pos (by omega),if_pos (by omega),Int.toNat_natCast]
theorem zgg (t : ByteArray) (h : t.size ≤ 1152921504606846976) : zcn.f t = some (zeG t) := by unfold zcn.f;rw [if_pos h]
theorem zd0 (t : ByteArray) (h : t.size ≤ 1152921504606846976) : za9.f t = some (zeG t) := by unfold za9.f;rw [if_pos h]
def zbu (l : List ByteArray) : Bs := l.flatMap (fun t => zgJ (ofB t))
def zck (l : List ByteArray) : Bs := zds l.length ++ zbu l
theorem zeS (l : List ByteArray) (k : Nat) (t : ByteArray) (h : l[k]? = some t) : zbu (l.take (k + 1)) = zbu (l.take k) ++ ofB (zeG t) := by
 have hk := (List.getElem?_eq_some_iff.1 h)
 obtain ⟨hk,rfl⟩ := hk
 rw [List.take_succ_eq_append_getElem hk,zbu,zbu,List.flatMap_append,textB_eq,zdn]
 simp
theorem zdu (l : List ByteArray) (k : Nat) : (zbu (l.take k)).length ≤ (zbu l).length := by
 have : zbu l = zbu (l.take k) ++ zbu (l.drop k) := by rw [zbu,zbu,zbu,← List.flatMap_append,List.take_append_drop]
 rw [this,List.length_append];omega
theorem ziB (l : List ByteArray) : l.length ≤ (zbu l).length := by
 induction l with
 | nil => simp
 | cons t l ih =>
  have : zbu (t :: l) = zgJ (ofB t) ++ zbu l := rfl
  rw [this,List.length_append,List.length_cons,zgJ,zds]
  simp only [List.length_cons,List.length_append]
  omega
theorem ze1 (l : List ByteArray) (k : Nat) (t : ByteArray) (h : l[k]? = some t) : t.size ≤ (zbu l).length := by
 have h1 := zeS l k t h
 have h2 := zdu l (k + 1)
 rw [h1,List.length_append,zas,zeG,ByteArray.size_append] at h2
 omega
theorem rrInfo5 : (Tryz.prog.info? 5).map (fun i => (i.zero,i.size,i.bytes)) = some (some (.int .u8 0),1,1) := by kernel_rfl
def zL.Rel (l : List ByteArray) (k : Nat) (w0 wr : World) (v : Value) : Prop := zaJ wr w0.heap.size 5 v (zds l.length ++ zbu (l.take k)) ∧ Below w0.heap.size w0 wr
set_option maxRecDepth 100000 in
theorem zL.walk (A : Option Addr) (c : Nat) (l : List ByteArray) (w : World) (hr : Kd.C Kd.string w A l.length l) (hc : l.length ≤ c) (hs : (zck l).length ≤ 140737488355328) :
  Calls Tryz.prog 60 #[.slice A l.length c] w fun e w' => e = .returned (.string (toB (zck l))) ∧ Below w.heap.size w w' := by
 have hm := hr.2.1
 have hll := ziB l
 have hsum : (zck l).length = (zds l.length).length + (zbu l).length := by rw [zck,List.length_append]
 have hlen : l.length ≤ 140737488355328 := by omega
 obtain ⟨k0,hk0⟩ := (zfr l.length (by omega)).rounds
 have HN := za.mk hk0
 have HR := za.mk hr
 have HS := za.mk hs
 have HU := za.mk hsum
 have kb := fun (W : World) (s : ByteArray) => Lib.run_convert_string_bytes (P := Tryz.prog) W 9 92 5 s Tryz.underlying9 Tryz.underlying92 Tryz.underlying5
 clear hr hs hll hsum hk0
 go_enter Tryz.func60,Tryz.ntmps60
 go_wp2_with (go_at_call 59;(with_reducible refine (zr.calls _ _ _ _ HN.out).mono ?_);rintro e w1 ⟨rfl,hb1⟩)
 have hw1 : Below w.heap.size w w1 := by assumption
 have HL : za (zL.Rel l 0 w (Lib.bytesWorld w1 5 (zbl l.length)) (.slice (some ⟨w1.heap.size,0,none⟩) (zbl l.length).size (grownCap w1 (zbl l.length).size 0 5))) := ⟨by
  have h := zaJ.start w1 w.heap.size 5 (zbl l.length) hw1.size (by have := za4 (v := l.length) (by omega);unfold maxLen;omega)
  rw [List.take_zero,show zbu [] = [] from rfl,List.append_nil]
  rw [zbl,zdn] at h
  exact h,zfx hw1 hw1.size 5 _⟩
 generalize Lib.bytesWorld w1 5 (zbl l.length) = wb at *
 generalize Value.slice (some ⟨w1.heap.size,0,none⟩) (zbl l.length).size (grownCap w1 (zbl l.length).size 0 5) = vb at *
 clear hw1
 go_loopw [3,4] (fun v3 v4 wr => ∃ k : Nat,v4 = .int .i64 k ∧ k ≤ l.length ∧ za (zL.Rel l k w wr v3)) (fun _ v4 _ => l.length - (match v4 with | .int _ q => q | _ => 0).toNat)
 case atStart => exact ⟨0,rfl,Nat.zero_le _,HL⟩
 case round =>
  obtain ⟨k,rfl,hk,HK⟩ := hrel
  by_cases hlt : k < l.length
  ·obtain ⟨ad,rfl,hcell⟩ := Kd.at_string (Kd.C_below HR.out HK.out.2) (k : Int) (by omega) (by omega)
   rw [Int.toNat_natCast] at hcell
   have hb : decide (k < l.length) = true := decide_eq_true hlt
   have hx : l[k]? = some (zz ByteArray.empty l (k : Int)) := by
    rw [zz,Int.toNat_natCast,List.getD_eq_getElem?_getD,List.getElem?_eq_getElem hlt];rfl
   have HX := za.mk hx
   clear hx
   generalize zz ByteArray.empty l (k : Int) = s at *
   have hs := ze1 l k s HX.out
   have HT := za.mk (zd0 s (by have := HS.out;have := HU.out;omega))
   have h2 := zeS l k s HX.out
   have h3 := zdu l (k + 1)
   rw [h2,List.length_append,zas] at h3
   have H2 := za.mk h2
   have H3 : za ((zds l.length ++ zbu (l.take k)).length + (zeG s).size ≤ 140737488355328) := ⟨by rw [List.length_append];have := HS.out;have := HU.out;omega⟩
   clear h2 h3 hs
   go_wp2_with (first | (go_at_call 82;(with_reducible refine (za9.calls _ _ _ HT.out).mono ?_);rintro e w3 ⟨rfl,hb3⟩;have HO := za.mk (zaJ.below HK.out.1 hb3);have HB := za.mk (ze HK.out.2 hb3);clear hb3) | (at_builtin;refine zfd rfl _ _ 92 9 rfl w.heap.size 5 Tryz.underlying92 Tryz.underlying9 rrInfo5 _ _ rfl HO.out _ rfl HB.out H3.out HB.out.size ?_;intro v5 w5 ho5 hb5;have HL5 : za (zL.Rel l (k + 1) w w5 v5) := ⟨by rw [H2.out,← List.append_assoc];exact ho5,hb5⟩;clear ho5 hb5))
   go_roundw
   case rel => exact ⟨k + 1,by go_num,by omega,HL5⟩
   case measure => simp;omega
  ·obtain rfl : k = l.length := by omega
   have hs2 := HK.out.1.string Tryz.underlying92 Tryz.underlying5 9 Tryz.underlying9
   rw [List.take_of_length_le (Nat.le_refl _)] at hs2
   go_wp2
   go_ret
   exact ⟨rfl,HK.out.2⟩
def zL.f (l0 : List ByteArray) : Option (ByteArray) := if (zck l0).length ≤ 140737488355328 then (some (toB (zck l0))) else (none)
theorem zL.calls (A0 : Option Addr) (c0 : Nat) (l0 : List ByteArray) (r : ByteArray) (w : World) (hr0 : Kd.C Kd.string w A0 l0.length l0) (hc0 : l0.length ≤ c0) (h : zL.f l0 = some r) :
  Calls Tryz.prog 60 #[.slice A0 l0.length c0] w fun e w' => e = .returned (.string r) ∧ Below w.heap.size w w' := by
 unfold zL.f at h
 split at h
 ·rename_i hs
  obtain rfl := Option.some.inj h
  exact zL.walk A0 c0 l0 w hr0 hc0 hs
 ·cases h
mutual
def zt.j0 : Nat → Bool → Int → Int → List ByteArray → Option (Bool)
 | 0,_,_,_,_ => none
 | k + 1,x33,yh,yi,yd => if x33 = true then (some false) else (zt.l0 k 0 yh yi yd)
def zt.l0 : Nat → Int → Int → Int → List ByteArray → Option (Bool)
 | 0,_,_,_,_ => none
 | k + 1,x3,yh,yi,yd => if x3 < (yd.length : Int) then (if 0 ≤ x3 then (if ((zz ByteArray.empty yd x3).size : Int) < 1 then (some false) else (if ((zz ByteArray.empty yd x3).size : Int) > 48 then (some false) else (zt.l0 k (wrap64 (x3 + 1)) yh yi yd))) else (none)) else (some true)
end
def zt.f (k : Nat) (a0_0 : Int) (a0_1 : Int) (l0_2 : List ByteArray) : Option (Bool) := if a0_0 < 1 then (zt.j0 k true a0_0 a0_1 l0_2) else (if a0_0 > 64 then (zt.j0 k true a0_0 a0_1 l0_2) else (if a0_1 < 1 then (zt.j0 k true a0_0 a0_1 l0_2) else (if a0_1 > 1073741824 then (zt.j0 k true a0_0 a0_1 l0_2) else (if (l0_2.length : Int) < 1 then (zt.j0 k true a0_0 a0_1 l0_2) else (zt.j0 k (decide ((l0_2.length : Int) > 4)) a0_0 a0_1 l0_2)))))
set_option maxHeartbeats 8000000 in
set_option maxRecDepth 100000 in
theorem zt.calls (k : Nat) (a0_0 : Int) (a0_1 : Int) (A0_2 : Option Addr) (c0_2 : Nat) (l0_2 : List ByteArray) (r : Bool) (w : World) (hr0_2 : Kd.C Kd.string w A0_2 l0_2.length l0_2) (hc0_2 : l0_2.length ≤ c0_2) (h : zt.f k a0_0 a0_1 l0_2 = some r) :
  Calls Tryz.prog 77 #[.agg #[.int .i64 a0_0,.int .i64 a0_1,.slice A0_2 l0_2.length c0_2]] w fun e w' => e = .returned (.bool r) ∧ Below w.heap.size w w' := by
 have hu75 := Tryz.underlying75
 have HR0_2 := za.mk hr0_2
 have HC0_2 := za.mk hc0_2
 clear hr0_2 hc0_2
 have HB := za.mk (Below.refl w.heap.size w)
 have H : (if a0_0 < 1 then (zt.j0 k true a0_0 a0_1 l0_2) else (if a0_0 > 64 then (zt.j0 k true a0_0 a0_1 l0_2) else (if a0_1 < 1 then (zt.j0 k true a0_0 a0_1 l0_2) else (if a0_1 > 1073741824 then (zt.j0 k true a0_0 a0_1 l0_2) else (if (l0_2.length : Int) < 1 then (zt.j0 k true a0_0 a0_1 l0_2) else (zt.j0 k (decide ((l0_2.length : Int) > 4)) a0_0 a0_1 l0_2)))))) = some r := h
 clear h
 have HC2 := za.mk H
 clear H
 go_enter Tryz.func77,Tryz.ntmps77
 go_upto_region 1 with (first | ((with_reducible refine zq (N := 1) rfl ?_);(try (refine zbq (by rfl) ?_;dsimp only));refine zn rfl (N := 1) rfl (cs := #[.int .i64 a0_0,.int .i64 a0_1,.slice A0_2 l0_2.length c0_2]) (t := 75) hrq ?_;intro ym hg w3 hbox hb;have n_ := haq (ze hBq hb) <| haq (hbox) <| haq ((by rw [hg];exact (zh hBq) : w.heap.size ≤ ym)) <| haq ((by rw [hg];exact (zh hBq) : w.heap.size ≤ ym)) <| trivial;clear HB;obtain ⟨HB,ya,yq,ye,_⟩ := n_;clear hb hbox hg))
 (try simp only [Act.put,List.setIfInBounds_toArray,List.set_cons_zero,List.set_cons_succ])
 go_cut [33] (fun v33 wc => ∃ (kq : Nat) (x33_1 : Bool),v33 = .bool x33_1 ∧ za (zt.j0 kq x33_1 a0_0 a0_1 l0_2 = some r) ∧ za (kq ≤ k) ∧ za (wc.heap[ym]? = some (.cells #[.int .i64 a0_0,.int .i64 a0_1,(.slice A0_2 l0_2.length c0_2)] 75 (0,0))) ∧ za (Below w.heap.size w wc))
 case first =>
  have H := HC2.out
  clear HC2
  by_cases c4 : a0_0 < 1
  ·rw [if_pos c4] at H
   have c4b0 : decide (a0_0 < 1) = true := decide_eq_true c4
   clear c4
   (first | rw [c4b0] | (simp only [zam,zap];rw [c4b0]) | skip)
   have H' := za.mk H
   clear H
   obtain ⟨hcz5_0,hcz5_1,hcz5_2,hfz5_0,hfz5_1,hfz5_2⟩ := hcq3 ya.out
   go_wp2
   go_meet
   case rel => exact ⟨_,(true),(hDq),H',⟨by first | omega | exact Nat.le_refl _⟩,⟨hGq ya.out⟩,⟨by repeat (first | (with_reducible first | exact HB.out | apply zl | apply zi | apply zp | refine zm ?_ ye.out) | exact HB.out)⟩⟩
  ·rw [if_neg c4] at H
   have c4b0 : decide (a0_0 < 1) = false := decide_eq_false c4
   clear c4
   (first | rw [c4b0] | (simp only [zam,zap];rw [c4b0]) | skip)
   by_cases c6 : a0_0 > 64
   ·rw [if_pos c6] at H
    have c6b0 : decide (64 < a0_0) = true := decide_eq_true c6
    clear c6
    have H' := za.mk H
    clear H
    obtain ⟨hcz7_0,hcz7_1,hcz7_2,hfz7_0,hfz7_1,hfz7_2⟩ := hcq3 ya.out
    go_wp2
    go_meet
    case rel => exact ⟨_,(true),(hDq),H',⟨by first | omega | exact Nat.le_refl _⟩,⟨hGq ya.out⟩,⟨by repeat (first | (with_reducible first | exact HB.out | apply zl | apply zi | apply zp | refine zm ?_ ye.out) | exact HB.out)⟩⟩
   ·rw [if_neg c6] at H
    have c6b0 : decide (64 < a0_0) = false := decide_eq_false c6
    clear c6
    by_cases c8 : a0_1 < 1
    ·rw [if_pos c8] at H
     have c8b0 : decide (a0_1 < 1) = true := decide_eq_true c8
     clear c8
     have H' := za.mk H
     clear H
     obtain ⟨hcz9_0,hcz9_1,hcz9_2,hfz9_0,hfz9_1,hfz9_2⟩ := hcq3 ya.out
     go_wp2
     go_meet
     case rel => exact ⟨_,(true),(hDq),H',⟨by first | omega | exact Nat.le_refl _⟩,⟨hGq ya.out⟩,⟨by repeat (first | (with_reducible first | exact HB.out | apply zl | apply zi | apply zp | refine zm ?_ ye.out) | exact HB.out)⟩⟩
    ·rw [if_neg c8] at H
     have c8b0 : decide (a0_1 < 1) = false := decide_eq_false c8
     clear c8
     by_cases c10 : a0_1 > 1073741824
     ·rw [if_pos c10] at H
      have c10b0 : decide (1073741824 < a0_1) = true := decide_eq_true c10
      clear c10
      have H' := za.mk H
      clear H
      obtain ⟨hcz11_0,hcz11_1,hcz11_2,hfz11_0,hfz11_1,hfz11_2⟩ := hcq3 ya.out
      go_wp2
      go_meet
      case rel => exact ⟨_,(true),(hDq),H',⟨by first | omega | exact Nat.le_refl _⟩,⟨hGq ya.out⟩,⟨by repeat (first | (with_reducible first | exact HB.out | apply zl | apply zi | apply zp | refine zm ?_ ye.out) | exact HB.out)⟩⟩
     ·rw [if_neg c10] at H
      have c10b0 : decide (1073741824 < a0_1) = false := decide_eq_false c10
      clear c10
      by_cases c12 : (l0_2.length : Int) < 1
      ·rw [if_pos c12] at H
       have c12b0 : decide ((l0_2.length : Int) < 1) = true := decide_eq_true c12
       have c12b1 : decide (l0_2.length < 1) = true := decide_eq_true (by omega)
       clear c12
       have H' := za.mk H
       clear H
       obtain ⟨hcz13_0,hcz13_1,hcz13_2,hfz13_0,hfz13_1,hfz13_2⟩ := hcq3 ya.out
       go_wp2
       go_meet
       case rel => exact ⟨_,(true),(hDq),H',⟨by first | omega | exact Nat.le_refl _⟩,⟨hGq ya.out⟩,⟨by repeat (first | (with_reducible first | exact HB.out | apply zl | apply zi | apply zp | refine zm ?_ ye.out) | exact HB.out)⟩⟩
      ·rw [if_neg c12] at H
       have c12b0 : decide ((l0_2.length : Int) < 1) = false := decide_eq_false c12
       have c12b1 : decide (l0_2.length < 1) = false := decide_eq_false (by omega)
       clear c12
       have H' := za.mk H
       clear H
       obtain ⟨hcz14_0,hcz14_1,hcz14_2,hfz14_0,hfz14_1,hfz14_2⟩ := hcq3 ya.out
       go_wp2
       go_meet
       case rel => exact ⟨_,(decide ((l0_2.length : Int) > 4)),(hDq),H',⟨by first | omega | exact Nat.le_refl _⟩,⟨hGq ya.out⟩,⟨by repeat (first | (with_reducible first | exact HB.out | apply zl | apply zi | apply zp | refine zm ?_ ye.out) | exact HB.out)⟩⟩
 case rest =>
  clear HC2
  try clear c1;try clear p2;try clear c4;try clear c4b0;try clear c6;try clear c6b0;try clear c7;try clear c8;try clear c8b0;try clear c10;try clear c10b0;try clear c12;try clear c12b0;try clear c12b1;try clear hcz11_0;try clear hcz11_1;try clear hcz11_2;try clear hcz13_0;try clear hcz13_1;try clear hcz13_2;try clear hcz14_0;try clear hcz14_1;try clear hcz14_2;try clear hcz5_0;try clear hcz5_1;try clear hcz5_2;try clear hcz7_0;try clear hcz7_1;try clear hcz7_2;try clear hcz9_0;try clear hcz9_1;try clear hcz9_2;try clear hfz11_0;try clear hfz11_1;try clear hfz11_2;try clear hfz13_0;try clear hfz13_1;try clear hfz13_2;try clear hfz14_0;try clear hfz14_1;try clear hfz14_2;try clear hfz5_0;try clear hfz5_1;try clear hfz5_2;try clear hfz7_0;try clear hfz7_1;try clear hfz7_2;try clear hfz9_0;try clear hfz9_1;try clear hfz9_2
  obtain ⟨kq,x33_1,rfl,HA,HJ1,ya,HB⟩ := hcut
  cases kq with
  | zero => exact absurd HA.out (by simp [zt.j0])
  | succ kj1 =>
   have H := HA.out
   clear HA
   simp only [zt.j0] at H
   by_cases c15 : x33_1 = true
   ·subst c15
    have H1 : (some false) = some r := by rw [if_pos rfl] at H;exact H
    clear H
    have H := H1
    clear H1
    obtain rfl := Option.some.inj H
    go_wp2
    go_ret
    exact ⟨hHq,hCq⟩
   ·replace c15 := Bool.eq_false_iff.mpr c15
    subst c15
    have H1 : (zt.l0 kj1 0 a0_0 a0_1 l0_2) = some r := by rw [if_neg (show ¬ (false = true) by decide)] at H;exact H
    clear H
    have H := H1
    clear H1
    have H' := za.mk H
    clear H
    go_wp2
    go_loopg [3] kj1 (fun kq v3 w' => ∃ (x3_2 : Int),v3 = .int .i64 x3_2 ∧ za (zt.l0 kq x3_2 a0_0 a0_1 l0_2 = some r) ∧ za (kq ≤ kj1) ∧ za (w'.heap[ym]? = some (.cells #[.int .i64 a0_0,.int .i64 a0_1,(.slice A0_2 l0_2.length c0_2)] 75 (0,0))) ∧ za (Below w.heap.size w w'))
    case atStart => exact ⟨(0),(hDq),H',⟨Nat.le_refl _⟩,⟨hGq ya.out⟩,⟨by repeat (first | (with_reducible first | exact HB.out | apply zl | apply zi | apply zp | refine zm ?_ ye.out) | exact HB.out)⟩⟩
    case round =>
     clear H'
     try clear c1;try clear p2;try clear c4;try clear c4b0;try clear c6;try clear c6b0;try clear c7;try clear c8;try clear c8b0;try clear c10;try clear c10b0;try clear c12;try clear c12b0;try clear c12b1;try clear c15;try clear hcz11_0;try clear hcz11_1;try clear hcz11_2;try clear hcz13_0;try clear hcz13_1;try clear hcz13_2;try clear hcz14_0;try clear hcz14_1;try clear hcz14_2;try clear hcz5_0;try clear hcz5_1;try clear hcz5_2;try clear hcz7_0;try clear hcz7_1;try clear hcz7_2;try clear hcz9_0;try clear hcz9_1;try clear hcz9_2;try clear hfz11_0;try clear hfz11_1;try clear hfz11_2;try clear hfz13_0;try clear hfz13_1;try clear hfz13_2;try clear hfz14_0;try clear hfz14_1;try clear hfz14_2;try clear hfz5_0;try clear hfz5_1;try clear hfz5_2;try clear hfz7_0;try clear hfz7_1;try clear hfz7_2;try clear hfz9_0;try clear hfz9_1;try clear hfz9_2;try clear p2
     obtain ⟨x3_2,rfl,HA,HK2,ya,HB⟩ := hrel
     cases gk with
     | zero => exact absurd HA.out (by simp [zt.l0])
     | succ k2 =>
      have H := HA.out
      clear HA
      simp only [zt.l0] at H
      by_cases c16 : x3_2 < (l0_2.length : Int)
      ·rw [if_pos c16] at H
       have c16b0 : decide (x3_2 < (l0_2.length : Int)) = true := decide_eq_true c16
       clear c16
       by_cases c17 : 0 ≤ x3_2
       ·rw [if_pos c17] at H
        have c17b0 : decide (0 ≤ x3_2) = true := decide_eq_true c17
        clear c17
        by_cases c18 : ((zz ByteArray.empty l0_2 x3_2).size : Int) < 1
        ·rw [if_pos c18] at H
         have c18b0 : decide (((zz ByteArray.empty l0_2 x3_2).size : Int) < 1) = true := decide_eq_true c18
         have c18b1 : decide ((zz ByteArray.empty l0_2 x3_2).size < 1) = true := decide_eq_true (by omega)
         clear c18
         obtain rfl := Option.some.inj H
         obtain ⟨hcz19_0,hcz19_1,hcz19_2,hfz19_0,hfz19_1,hfz19_2⟩ := hcq3 ya.out
         have yf : 0 ≤ (x3_2 : Int) := hFq
         have yg : x3_2 < (l0_2.length : Int) := hFq
         obtain ⟨yl,yo,yb⟩ := Kd.at_string HR0_2.out x3_2 yf yg
         cases yo
         replace yb := (HB.out.cell (World.block_lt_of_cell? w _ yb)).trans yb
         replace yf := eq_true yf
         replace yg := eq_true yg
         go_wp2
         go_ret
         exact ⟨hHq,hCq⟩
        ·rw [if_neg c18] at H
         have c18b0 : decide (((zz ByteArray.empty l0_2 x3_2).size : Int) < 1) = false := decide_eq_false c18
         have c18b1 : decide ((zz ByteArray.empty l0_2 x3_2).size < 1) = false := decide_eq_false (by omega)
         clear c18
         by_cases c20 : ((zz ByteArray.empty l0_2 x3_2).size : Int) > 48
         ·rw [if_pos c20] at H
          have c20b0 : decide (48 < ((zz ByteArray.empty l0_2 x3_2).size : Int)) = true := decide_eq_true c20
          have c20b1 : decide (48 < (zz ByteArray.empty l0_2 x3_2).size) = true := decide_eq_true (by omega)
          clear c20
          obtain rfl := Option.some.inj H
          obtain ⟨hcz21_0,hcz21_1,hcz21_2,hfz21_0,hfz21_1,hfz21_2⟩ := hcq3 ya.out
          have yf : 0 ≤ (x3_2 : Int) := hFq
          have yg : x3_2 < (l0_2.length : Int) := hFq
          obtain ⟨yl,yo,yb⟩ := Kd.at_string HR0_2.out x3_2 yf yg
          cases yo
          replace yb := (HB.out.cell (World.block_lt_of_cell? w _ yb)).trans yb
          replace yf := eq_true yf
          replace yg := eq_true yg
          have yj : 0 ≤ (x3_2 : Int) := hFq
          have yk : x3_2 < (l0_2.length : Int) := hFq
          obtain ⟨yn,yp,yc⟩ := Kd.at_string HR0_2.out x3_2 yj yk
          obtain rfl : yl = yn := (by injection yp)
          replace yc := (HB.out.cell (World.block_lt_of_cell? w _ yc)).trans yc
          replace yj := eq_true yj
          replace yk := eq_true yk
          go_wp2
          go_ret
          exact ⟨hHq,hCq⟩
         ·rw [if_neg c20] at H
          have c20b0 : decide (48 < ((zz ByteArray.empty l0_2 x3_2).size : Int)) = false := decide_eq_false c20
          have c20b1 : decide (48 < (zz ByteArray.empty l0_2 x3_2).size) = false := decide_eq_false (by omega)
          clear c20
          have H' := za.mk H
          clear H
          obtain ⟨hcz22_0,hcz22_1,hcz22_2,hfz22_0,hfz22_1,hfz22_2⟩ := hcq3 ya.out
          have yf : 0 ≤ (x3_2 : Int) := hFq
          have yg : x3_2 < (l0_2.length : Int) := hFq
          obtain ⟨yl,yo,yb⟩ := Kd.at_string HR0_2.out x3_2 yf yg
          cases yo
          replace yb := (HB.out.cell (World.block_lt_of_cell? w _ yb)).trans yb
          replace yf := eq_true yf
          replace yg := eq_true yg
          have yj : 0 ≤ (x3_2 : Int) := hFq
          have yk : x3_2 < (l0_2.length : Int) := hFq
          obtain ⟨yn,yp,yc⟩ := Kd.at_string HR0_2.out x3_2 yj yk
          obtain rfl : yl = yn := (by injection yp)
          replace yc := (HB.out.cell (World.block_lt_of_cell? w _ yc)).trans yc
          replace yj := eq_true yj
          replace yk := eq_true yk
          go_wp2
          go_roundg k2
          case measure => have := HJ1.out;have := HK2.out;omega
          case rel => exact ⟨(wrap64 (x3_2 + 1)),(hDq),H',⟨by have := HJ1.out;have := HK2.out;omega⟩,⟨hGq ya.out⟩,⟨by repeat (first | (with_reducible first | exact HB.out | apply zl | apply zi | apply zp | refine zm ?_ ye.out) | exact HB.out)⟩⟩
       ·rw [if_neg c17] at H
        exact absurd H (by simp)
      ·rw [if_neg c16] at H
       have c16b0 : decide (x3_2 < (l0_2.length : Int)) = false := decide_eq_false c16
       clear c16
       obtain rfl := Option.some.inj H
       obtain ⟨hcz23_0,hcz23_1,hcz23_2,hfz23_0,hfz23_1,hfz23_2⟩ := hcq3 ya.out
       go_wp2
       go_ret
       exact ⟨hHq,hCq⟩
def zac.f (k : Nat) (a0_0 : Int) (a0_1 : Int) (l0_2 : List ByteArray) : Option (ByteArray × Int) := (zt.f k a0_0 a0_1 l0_2).bind fun yf => (if yf = true then ((zr.f k (IntKind.u64.wrap (a0_0))).bind fun yc => ((zr.f k (IntKind.u64.wrap (a0_1))).bind fun yb => (if yc.size + yb.size ≤ 9223372036854775807 then ((zL.f l0_2).bind fun yd => (if (yc ++ yb).size + yd.size ≤ 9223372036854775807 then (some ((yc ++ yb) ++ yd,0)) else (none))) else (none)))) else (some ((⟨#[]⟩ : ByteArray),1)))
def zac.T4 : Bool × List (List Nat × List Nat) := (true,[([],[]),([0],[0]),([1],[1]),([2],[2]),([],[]),([4],[4]),([5],[5]),([6,3],[6]),([3,7],[3,7]),([],[]),([9],[9]),([10,7],[10]),([8,11],[8,11]),([12,11,0,1,2,3,4,5,6,7,8,9,10,11,12],[12]),([13,0,1,2,3,4,5,6,7,8,9,10,11,12,13],[])])
def zac.B4 : List Nat := [0,1,3,7,0,16,48,127,255,0,512,1791,4095,8191,16383]
theorem zac.tab4 : zb5 .any (zdW Tryz.f58 4) = zac.T4 := by kernel_rfl
theorem zac.bits4 : zbJ zac.T4.2 zac.B4 = true := by kernel_rfl
set_option maxHeartbeats 8000000 in
set_option maxRecDepth 100000 in
theorem zac.calls (k : Nat) (a0_0 : Int) (a0_1 : Int) (A0_2 : Option Addr) (c0_2 : Nat) (l0_2 : List ByteArray) (r1 : ByteArray) (r2 : Int) (w : World) (hr0_2 : Kd.C Kd.string w A0_2 l0_2.length l0_2) (hc0_2 : l0_2.length ≤ c0_2) (h : zac.f k a0_0 a0_1 l0_2 = some (r1,r2)) :
  Calls Tryz.prog 58 #[.agg #[.int .i64 a0_0,.int .i64 a0_1,.slice A0_2 l0_2.length c0_2]] w fun e w' => e = .returned (.tuple #[.string r1,.int .i64 r2]) ∧ Below w.heap.size w w' := by
 have hu75 := Tryz.underlying75
 have HR0_2 := za.mk hr0_2
 have HC0_2 := za.mk hc0_2
 clear hr0_2 hc0_2
 have HB := za.mk (Below.refl w.heap.size w)
 have H : ((zt.f k a0_0 a0_1 l0_2).bind fun yf => (if yf = true then ((zr.f k (IntKind.u64.wrap (a0_0))).bind fun yc => ((zr.f k (IntKind.u64.wrap (a0_1))).bind fun yb => (if yc.size + yb.size ≤ 9223372036854775807 then ((zL.f l0_2).bind fun yd => (if (yc ++ yb).size + yd.size ≤ 9223372036854775807 then (some ((yc ++ yb) ++ yd,0)) else (none))) else (none)))) else (some ((⟨#[]⟩ : ByteArray),1)))) = some (r1,r2) := h
 clear h
 replace H := Option.bind_eq_some_iff.mp H
 obtain ⟨yf,A20,H⟩ := H
 replace H : (if yf = true then ((zr.f k (IntKind.u64.wrap (a0_0))).bind fun yc => ((zr.f k (IntKind.u64.wrap (a0_1))).bind fun yb => (if yc.size + yb.size ≤ 9223372036854775807 then ((zL.f l0_2).bind fun yd => (if (yc ++ yb).size + yd.size ≤ 9223372036854775807 then (some ((yc ++ yb) ++ yd,0)) else (none))) else (none)))) else (some ((⟨#[]⟩ : ByteArray),1))) = some (r1,r2) := H
 have A2 := za.mk A20
 clear A20
 by_cases c3 : yf = true
 ·subst c3
  have H1 : ((zr.f k (IntKind.u64.wrap (a0_0))).bind fun yc => ((zr.f k (IntKind.u64.wrap (a0_1))).bind fun yb => (if yc.size + yb.size ≤ 9223372036854775807 then ((zL.f l0_2).bind fun yd => (if (yc ++ yb).size + yd.size ≤ 9223372036854775807 then (some ((yc ++ yb) ++ yd,0)) else (none))) else (none)))) = some (r1,r2) := by rw [if_pos rfl] at H;exact H
  clear H
  have H := H1
  clear H1
  replace H := Option.bind_eq_some_iff.mp H
  obtain ⟨yc,A40,H⟩ := H
  replace H : ((zr.f k (IntKind.u64.wrap (a0_1))).bind fun yb => (if yc.size + yb.size ≤ 9223372036854775807 then ((zL.f l0_2).bind fun yd => (if (yc ++ yb).size + yd.size ≤ 9223372036854775807 then (some ((yc ++ yb) ++ yd,0)) else (none))) else (none))) = some (r1,r2) := H
  have A4 := za.mk A40
  clear A40
  replace H := Option.bind_eq_some_iff.mp H
  obtain ⟨yb,A50,H⟩ := H
  replace H : (if yc.size + yb.size ≤ 9223372036854775807 then ((zL.f l0_2).bind fun yd => (if (yc ++ yb).size + yd.size ≤ 9223372036854775807 then (some ((yc ++ yb) ++ yd,0)) else (none))) else (none)) = some (r1,r2) := H
  have A5 := za.mk A50
  clear A50
  by_cases c6 : yc.size + yb.size ≤ 9223372036854775807
  ·rw [if_pos c6] at H
   have c6b0 := eq_true c6
   have c6b1 : decide (yc.size + yb.size ≤ 9223372036854775807) = true := decide_eq_true c6
   try have c6b2 : (9223372036854775807 < yc.size + yb.size) = False := eq_false (Nat.not_lt.2 c6)
   replace H := Option.bind_eq_some_iff.mp H
   obtain ⟨yd,A70,H⟩ := H
   replace H : (if (yc ++ yb).size + yd.size ≤ 9223372036854775807 then (some ((yc ++ yb) ++ yd,0)) else (none)) = some (r1,r2) := H
   have A7 := za.mk A70
   clear A70
   by_cases c8 : (yc ++ yb).size + yd.size ≤ 9223372036854775807
   ·rw [if_pos c8] at H
    have c8b0 := eq_true c8
    have c8b1 : decide ((yc ++ yb).size + yd.size ≤ 9223372036854775807) = true := decide_eq_true c8
    try have c8b2 : (9223372036854775807 < (yc ++ yb).size + yd.size) = False := eq_false (Nat.not_lt.2 c8)
    try (have c8b3 := c8;simp [ByteArray.size_append] at c8b3;have c8b4 := eq_false (Nat.not_lt.2 c8b3);clear c8b3)
    simp only [Option.some.injEq,Prod.mk.injEq] at H
    obtain ⟨rfl,rfl⟩ := H
    go_enter Tryz.func58,Tryz.ntmps58
    try go_wp2_with (first | ((with_reducible refine zq (N := 1) rfl ?_);refine zn rfl (N := 1) rfl (cs := #[.int .i64 a0_0,.int .i64 a0_1,.slice A0_2 l0_2.length c0_2]) (t := 75) hrq ?_;intro ye hg w9 hbox hb;have n_ := haq (ze hBq hb) <| haq (hbox) <| haq ((by rw [hg];exact (zh hBq) : w.heap.size ≤ ye)) <| haq ((by rw [hg];exact (zh hBq) : w.heap.size ≤ ye)) <| trivial;clear HB;obtain ⟨HB,ya,yh,yg,_⟩ := n_;clear hb hbox hg;obtain ⟨hcz10_0,hcz10_1,hcz10_2,hfz10_0,hfz10_1,hfz10_2⟩ := hcq3 ya.out) | ((with_reducible refine zQ (f := 77) rfl ?_);refine zaB (some 6) rfl rfl Tryz.func77 (by kernel_rfl) rfl #[.agg #[.int .i64 a0_0,.int .i64 a0_1,.slice A0_2 l0_2.length c0_2]] rfl hMq ?_;(with_reducible refine (zt.calls k a0_0 a0_1 _ _ l0_2 true _ ?side1 ?side2 A2.out).mono ?_);(case side1 => exact hKq (Kd.C_below HR0_2.out HB.out));(case side2 => exact HC0_2.out);rintro e w11 ⟨rfl,hb⟩;refine ⟨_,rfl,?_⟩;have n_ := haq (hbq ya.out hb) <| haq (ze hCq hb) <| trivial;clear ya HB;obtain ⟨ya,HB,_⟩ := n_;(try clear hb);(try clear hb2);(try clear hk);(try clear hi)))
    have n0_ := za.mk (zaf ya.out)
    have n1_ := za.mk (zp HB.out)
    clear ya
    clear HB
    have ya := n0_
    have HB := n1_
    clear n0_ n1_
    refine zbV (n := 15) (S := fun w' => w'.cell? ⟨ye,0,none⟩ = some (.int .i64 a0_0) ∧ w'.cell? ⟨ye,1,none⟩ = some (.int .i64 a0_1) ∧ w'.cell? ⟨ye,2,none⟩ = some (.slice A0_2 l0_2.length c0_2)) (ds := []) (uQ 15 0) (by kernel_rfl) rfl rfl ⟨(zb ya.out 0).trans rfl,(zb ya.out 1).trans rfl,(zb ya.out 2).trans rfl⟩ (fun hHeld => ?_);refine zaQ zac.tab4 zac.bits4 (fun HT_ HW_ => ?_)
    generalize w11.drew = w12 at ya HB hHeld ⊢
    refine puq (i := 0) (N := some 9) HT_.out (uQ 15 1) ?_
    refine puq (i := 4) (N := some 13) HT_.out #[true,false,false,false,true,false,false,false,false,false,false,false,false,false,false] ?_
    refine puq (i := 9) (N := some 18) HT_.out #[true,false,false,false,true,false,false,false,false,true,false,false,false,false,false] ?_
    refine take_ (i := 1) (N := some 10) #[true,true,false,false,true,false,false,false,false,true,false,false,false,false,false] rfl rfl (zU HT_.out HW_.out (by kernel_rfl)) (fun _ _ _ h => h) (Or.inl ⟨by rfl,by rintro w' ⟨s0,s1,s2⟩;go_simp;with_reducible rfl⟩) hHeld hPq ?_
    refine puq (i := 2) (N := some 11) HT_.out #[true,true,true,false,true,false,false,false,false,true,false,false,false,false,false] ?_
    refine take_ (i := 5) (N := some 14) #[true,true,true,false,true,true,false,false,false,true,false,false,false,false,false] rfl rfl (zU HT_.out HW_.out (by kernel_rfl)) (fun _ _ _ h => h) (Or.inl ⟨by rfl,by rintro w' ⟨s0,s1,s2⟩;go_simp;with_reducible rfl⟩) hHeld hPq ?_
    refine puq (i := 6) (N := some 15) HT_.out #[true,true,true,false,true,true,true,false,false,true,false,false,false,false,false] ?_
    refine take_ (i := 10) (N := some 19) #[true,true,true,false,true,true,true,false,false,true,true,false,false,false,false] rfl rfl (zU HT_.out HW_.out (by kernel_rfl)) (fun _ _ _ h => h) (Or.inl ⟨by rfl,by rintro w' ⟨s0,s1,s2⟩;go_simp;with_reducible rfl⟩) hHeld hPq ?_
    refine zct (i := 3) (N := some 12) #[true,true,true,true,true,true,true,false,false,true,true,false,false,false,false] rfl rfl (za0 HT_.out (by kernel_rfl)) (by decide) (fun K hK => ?_)
    refine zbG Tryz.func59 (by kernel_rfl) rfl #[.int .u64 (IntKind.u64.wrap (a0_0))] (by rfl) rfl rfl hMq ?_
    with_reducible refine (zr.calls k (IntKind.u64.wrap (a0_0)) yc _ A4.out).mono ?_
    rintro e w13 ⟨rfl,hb⟩
    refine ⟨_,rfl,?_⟩
    have n0_ := za.mk (hbq ya.out hb)
    have n1_ := za.mk (ze hCq hb)
    clear ya
    clear HB
    have ya := n0_
    have HB := n1_
    clear n0_ n1_
    (try clear hb)
    (try clear hb2)
    (try clear hk)
    (try clear hi)
    refine hK.out _ _ ⟨(zb ya.out 0).trans rfl,(zb ya.out 1).trans rfl,(zb ya.out 2).trans rfl⟩ (fun hHeld => ?_)
    clear hK K
    refine za5 (a' := ?_) ?_ ?_
    rotate_left
    ·show Act.put _ (some 12) _ = _
     simp only [Act.put,List.setIfInBounds_toArray,List.set_cons_zero,List.set_cons_succ,zam,zap]
     rfl
    refine zct (i := 7) (N := some 16) #[true,true,true,true,true,true,true,true,false,true,true,false,false,false,false] rfl rfl (za0 HT_.out (by kernel_rfl)) (by decide) (fun K hK => ?_)
    refine zbG Tryz.func59 (by kernel_rfl) rfl #[.int .u64 (IntKind.u64.wrap (a0_1))] (by rfl) rfl rfl hMq ?_
    with_reducible refine (zr.calls k (IntKind.u64.wrap (a0_1)) yb _ A5.out).mono ?_
    rintro e w14 ⟨rfl,hb⟩
    refine ⟨_,rfl,?_⟩
    have n0_ := za.mk (hbq ya.out hb)
    have n1_ := za.mk (ze hCq hb)
    clear ya
    clear HB
    have ya := n0_
    have HB := n1_
    clear n0_ n1_
    (try clear hb)
    (try clear hb2)
    (try clear hk)
    (try clear hi)
    refine hK.out _ _ ⟨(zb ya.out 0).trans rfl,(zb ya.out 1).trans rfl,(zb ya.out 2).trans rfl⟩ (fun hHeld => ?_)
    clear hK K
    refine za5 (a' := ?_) ?_ ?_
    rotate_left
    ·show Act.put _ (some 16) _ = _
     simp only [Act.put,List.setIfInBounds_toArray,List.set_cons_zero,List.set_cons_succ,zam,zap]
     rfl
    refine puq (i := 8) (N := some 17) HT_.out (uQ 15 11) ?_
    refine zct (i := 11) (N := some 20) (uQ 15 12) rfl rfl (za0 HT_.out (by kernel_rfl)) (by decide) (fun K hK => ?_)
    refine zbG Tryz.func60 (by kernel_rfl) rfl #[.slice A0_2 l0_2.length c0_2] (by rfl) rfl rfl hMq ?_
    with_reducible refine (zL.calls _ _ l0_2 yd _ ?side1 ?side2 A7.out).mono ?_
    (case side1 => exact hKq (Kd.C_below HR0_2.out HB.out))
    (case side2 => exact HC0_2.out)
    rintro e w15 ⟨rfl,hb⟩
    refine ⟨_,rfl,?_⟩
    have n0_ := za.mk (hbq ya.out hb)
    have n1_ := za.mk (ze hCq hb)
    clear ya
    clear HB
    have ya := n0_
    have HB := n1_
    clear n0_ n1_
    (try clear hb)
    (try clear hb2)
    (try clear hk)
    (try clear hi)
    refine hK.out _ _ ⟨(zb ya.out 0).trans rfl,(zb ya.out 1).trans rfl,(zb ya.out 2).trans rfl⟩ (fun hHeld => ?_)
    clear hK K
    refine za5 (a' := ?_) ?_ ?_
    rotate_left
    ·show Act.put _ (some 20) _ = _
     simp only [Act.put,List.setIfInBounds_toArray,List.set_cons_zero,List.set_cons_succ,zam,zap]
     rfl
    refine puq (i := 12) (N := some 21) HT_.out (uQ 15 13) ?_
    refine puq (i := 13) (N := some 2) HT_.out (uQ 15 14) ?_
    refine puq (i := 14) (N := some 3) HT_.out (uQ 15 15) ?_
    refine zbX (zaX HT_.out (by kernel_rfl)) ?_
    try go_wp2
    go_ret2
    exact ⟨hHq,hCq⟩
   ·rw [if_neg c8] at H
    exact absurd H (by simp)
  ·rw [if_neg c6] at H
   exact absurd H (by simp)
 ·replace c3 := Bool.eq_false_iff.mpr c3
  subst c3
  have H1 : (some ((⟨#[]⟩ : ByteArray),1)) = some (r1,r2) := by rw [if_neg (show ¬ (false = true) by decide)] at H;exact H
  clear H
  have H := H1
  clear H1
  simp only [Option.some.injEq,Prod.mk.injEq] at H
  obtain ⟨rfl,rfl⟩ := H
  go_enter Tryz.func58,Tryz.ntmps58
  go_wp2_with (first | ((with_reducible refine zq (N := 1) rfl ?_);refine zn rfl (N := 1) rfl (cs := #[.int .i64 a0_0,.int .i64 a0_1,.slice A0_2 l0_2.length c0_2]) (t := 75) hrq ?_;intro ye hg w16 hbox hb;have n_ := haq (ze hBq hb) <| haq (hbox) <| haq ((by rw [hg];exact (zh hBq) : w.heap.size ≤ ye)) <| haq ((by rw [hg];exact (zh hBq) : w.heap.size ≤ ye)) <| trivial;clear HB;obtain ⟨HB,ya,yh,yg,_⟩ := n_;clear hb hbox hg;obtain ⟨hcz17_0,hcz17_1,hcz17_2,hfz17_0,hfz17_1,hfz17_2⟩ := hcq3 ya.out) | ((with_reducible refine zQ (f := 77) rfl ?_);refine zaB (some 6) rfl rfl Tryz.func77 (by kernel_rfl) rfl #[.agg #[.int .i64 a0_0,.int .i64 a0_1,.slice A0_2 l0_2.length c0_2]] rfl hMq ?_;(with_reducible refine (zt.calls k a0_0 a0_1 _ _ l0_2 false _ ?side1 ?side2 A2.out).mono ?_);(case side1 => exact hKq (Kd.C_below HR0_2.out HB.out));(case side2 => exact HC0_2.out);rintro e w18 ⟨rfl,hb⟩;refine ⟨_,rfl,?_⟩;have n_ := haq (hbq ya.out hb) <| haq (ze hCq hb) <| trivial;clear ya HB;obtain ⟨ya,HB,_⟩ := n_;(try clear hb);(try clear hb2);(try clear hk);(try clear hi)))
  go_ret2
  exact ⟨hHq,hCq⟩
def zak.f (a0_0 : Int) (a0_1 : Int) : Option (Bool) := if a0_0 ≥ 0 then (if a0_0 < 10007 then (if a0_1 ≥ 0 then (some (decide (a0_1 < 10007))) else (some false)) else (some false)) else (some false)
set_option maxHeartbeats 8000000 in
set_option maxRecDepth 100000 in
theorem zak.calls (a0_0 : Int) (a0_1 : Int) (r : Bool) (w : World) (h : zak.f a0_0 a0_1 = some r) :
  Calls Tryz.prog 80 #[.agg #[.int .i64 a0_0,.int .i64 a0_1]] w fun e w' => e = .returned (.bool r) ∧ Below w.heap.size w w' := by
 have hu33 := Tryz.underlying33
 have HB := za.mk (Below.refl w.heap.size w)
 have H : (if a0_0 ≥ 0 then (if a0_0 < 10007 then (if a0_1 ≥ 0 then (some (decide (a0_1 < 10007))) else (some false)) else (some false)) else (some false)) = some r := h
 clear h
 by_cases c2 : a0_0 ≥ 0
 ·rw [if_pos c2] at H
  have c2b0 : decide (0 ≤ a0_0) = true := decide_eq_true c2
  clear c2
  by_cases c3 : a0_0 < 10007
  ·rw [if_pos c3] at H
   have c3b0 : decide (a0_0 < 10007) = true := decide_eq_true c3
   clear c3
   by_cases c4 : a0_1 ≥ 0
   ·rw [if_pos c4] at H
    have c4b0 : decide (0 ≤ a0_1) = true := decide_eq_true c4
    clear c4
    obtain rfl := Option.some.inj H
    go_enter Tryz.func80,Tryz.ntmps80
    go_wp2_with (first | ((with_reducible refine zq (N := 1) rfl ?_);refine zn rfl (N := 1) rfl (cs := #[.int .i64 a0_0,.int .i64 a0_1]) (t := 33) hrq ?_;intro ya hg w5 hbox hb;have n_ := haq (ze hBq hb) <| haq (hbox) <| haq ((by rw [hg];exact (zh hBq) : w.heap.size ≤ ya)) <| haq ((by rw [hg];exact (zh hBq) : w.heap.size ≤ ya)) <| trivial;clear HB;obtain ⟨HB,yb,yd,yc,_⟩ := n_;clear hb hbox hg;obtain ⟨hcz6_0,hcz6_1,hfz6_0,hfz6_1⟩ := hcq2 yb.out))
    go_ret
    exact ⟨hHq,hCq⟩
   ·rw [if_neg c4] at H
    have c4b0 : decide (0 ≤ a0_1) = false := decide_eq_false c4
    clear c4
    obtain rfl := Option.some.inj H
    go_enter Tryz.func80,Tryz.ntmps80
    go_wp2_with (first | ((with_reducible refine zq (N := 1) rfl ?_);refine zn rfl (N := 1) rfl (cs := #[.int .i64 a0_0,.int .i64 a0_1]) (t := 33) hrq ?_;intro ya hg w7 hbox hb;have n_ := haq (ze hBq hb) <| haq (hbox) <| haq ((by rw [hg];exact (zh hBq) : w.heap.size ≤ ya)) <| haq ((by rw [hg];exact (zh hBq) : w.heap.size ≤ ya)) <| trivial;clear HB;obtain ⟨HB,yb,yd,yc,_⟩ := n_;clear hb hbox hg;obtain ⟨hcz8_0,hcz8_1,hfz8_0,hfz8_1⟩ := hcq2 yb.out))
    go_ret
    exact ⟨hHq,hCq⟩
  ·rw [if_neg c3] at H
   have c3b0 : decide (a0_0 < 10007) = false := decide_eq_false c3
   clear c3
   obtain rfl := Option.some.inj H
   go_enter Tryz.func80,Tryz.ntmps80
   go_wp2_with (first | ((with_reducible refine zq (N := 1) rfl ?_);refine zn rfl (N := 1) rfl (cs := #[.int .i64 a0_0,.int .i64 a0_1]) (t := 33) hrq ?_;intro ya hg w9 hbox hb;have n_ := haq (ze hBq hb) <| haq (hbox) <| haq ((by rw [hg];exact (zh hBq) : w.heap.size ≤ ya)) <| haq ((by rw [hg];exact (zh hBq) : w.heap.size ≤ ya)) <| trivial;clear HB;obtain ⟨HB,yb,yd,yc,_⟩ := n_;clear hb hbox hg;obtain ⟨hcz10_0,hcz10_1,hfz10_0,hfz10_1⟩ := hcq2 yb.out))
   go_ret
   exact ⟨hHq,hCq⟩
 ·rw [if_neg c2] at H
  have c2b0 : decide (0 ≤ a0_0) = false := decide_eq_false c2
  clear c2
  obtain rfl := Option.some.inj H
  go_enter Tryz.func80,Tryz.ntmps80
  go_wp2_with (first | ((with_reducible refine zq (N := 1) rfl ?_);refine zn rfl (N := 1) rfl (cs := #[.int .i64 a0_0,.int .i64 a0_1]) (t := 33) hrq ?_;intro ya hg w11 hbox hb;have n_ := haq (ze hBq hb) <| haq (hbox) <| haq ((by rw [hg];exact (zh hBq) : w.heap.size ≤ ya)) <| haq ((by rw [hg];exact (zh hBq) : w.heap.size ≤ ya)) <| trivial;clear HB;obtain ⟨HB,yb,yd,yc,_⟩ := n_;clear hb hbox hg;obtain ⟨hcz12_0,hcz12_1,hfz12_0,hfz12_1⟩ := hcq2 yb.out))
  go_ret
  exact ⟨hHq,hCq⟩
def zab.f (a0 : Int) : Option (Bool) := if a0 = 4 then (some true) else (if a0 > 4 then (if a0 ≤ 64 then (some ((Int.tmod (wrap64 (a0 - 1)) 3) == 0)) else (some false)) else (some false))
set_option maxHeartbeats 8000000 in
set_option maxRecDepth 100000 in
theorem zab.calls (a0 : Int) (r : Bool) (w : World) (h : zab.f a0 = some r) :
  Calls Tryz.prog 21 #[.int .i64 a0] w fun e w' => e = .returned (.bool r) ∧ zaZ w w' := by
 have H : (if a0 = 4 then (some true) else (if a0 > 4 then (if a0 ≤ 64 then (some ((Int.tmod (wrap64 (a0 - 1)) 3) == 0)) else (some false)) else (some false))) = some r := h
 clear h
 by_cases c2 : a0 = 4
 ·rw [if_pos c2] at H
  have c2b0 : (a0 == 4) = true := beq_iff_eq.mpr c2
  have c2b1 : (a0 != 4) = false := bne_eq_false_iff_eq.mpr c2
  clear c2
  obtain rfl := Option.some.inj H
  go_enter Tryz.func21,Tryz.ntmps21
  go_wp2
  go_ret
  exact ⟨hDq,hEq⟩
 ·rw [if_neg c2] at H
  have c2b0 : (a0 == 4) = false := beq_eq_false_iff_ne.mpr c2
  have c2b1 : (a0 != 4) = true := bne_iff_ne.mpr c2
  by_cases c3 : a0 > 4
  ·rw [if_pos c3] at H
   have c3b0 : decide (4 < a0) = true := decide_eq_true c3
   clear c3
   by_cases c4 : a0 ≤ 64
   ·rw [if_pos c4] at H
    have c4b0 : decide (a0 ≤ 64) = true := decide_eq_true c4
    clear c4
    obtain rfl := Option.some.inj H
    go_enter Tryz.func21,Tryz.ntmps21
    go_wp2
    go_ret
    exact ⟨hDq,hEq⟩
   ·rw [if_neg c4] at H
    have c4b0 : decide (a0 ≤ 64) = false := decide_eq_false c4
    clear c4
    obtain rfl := Option.some.inj H
    go_enter Tryz.func21,Tryz.ntmps21
    go_wp2
    go_ret
    exact ⟨hDq,hEq⟩
  ·rw [if_neg c3] at H
   have c3b0 : decide (4 < a0) = false := decide_eq_false c3
   clear c3
   obtain rfl := Option.some.inj H
   go_enter Tryz.func21,Tryz.ntmps21
   go_wp2
   go_ret
   exact ⟨hDq,hEq⟩
end Go.Proofs.YtndjfdakflaggaaGreat.Px