/- Part 8 of 30 of the proof of the law CertBack: what is proved is the statement at the end of the last part; its conditions are those of the given row. -/
import Derived.Lib.Builder
import Derived.Lib.UnsafeStr
import Derived.Lib.Strings
import Derived.Lib.Slices
import Derived.Lib.Walk
import Derived.RegionTactic
import Derived.ChangeAlike
import Derived.Test.YtgdpiegkoeikiaaZCertBackG
namespace Go.Proofs.Ytgdpiegkoeikiaa.Px
open Go.RowKit Go.Proofs.YtgdpiegkoeikiaaW.PrintWords Go.Proofs.YtgdpiegkoeikiaaW.PrintLast Go.Proofs.YtgdpiegkoeikiaaW.PrintMore
attribute [local go_sem] zx zz zJ zK zn zo zy zA
set_option linter.unusedVariables false
set_option linter.unusedSimpArgs false
theorem or_byte (v : Nat) (c : UInt8) (hv : v < 72057594037927936) : Go.bits .or .u64 (IntKind.u64.wrap ((v : Int) * 256)) (IntKind.u64.wrap (c.toNat : Int)) = ((v * 256 + c.toNat : Nat) : Int) := by
 have hc := c.toNat_lt
 rw [za4 (by omega) (by omega),za4 (by omega) (by omega),show (v : Int) * 256 = ((v * 256 : Nat) : Int) by omega,u64_or_nat _ _ (by omega) (by omega)]
 have := Nat.two_pow_add_eq_or_of_lt (i := 8) (b := c.toNat) (by omega) v
 rw [Nat.mul_comm v 256,show (256 : Nat) = 2 ^ 8 from rfl,this]
theorem zgB (t : Bs) (j : Nat) (h : j < t.length) : val (t.take (j + 1)) = val (t.take j) * 256 + (t.getD j 0).toNat := by
 rw [List.take_succ_eq_append_getElem h,zd0,List.getD_eq_getElem?_getD,List.getElem?_eq_getElem h];rfl
theorem zh0 (t : Bs) (j : Nat) (h : j < 8) : val (t.take j) < 72057594037927936 := by
 have h1 := val_lt (t.take j)
 have h2 : 256 ^ (t.take j).length ≤ 256 ^ 7 := Nat.pow_le_pow_right (by omega) (by rw [List.length_take];omega)
 have : (256 : Nat) ^ 7 = 72057594037927936 := by decide
 omega
def zca (s : ByteArray) : Int × ByteArray × Int := (((zR (ofB s)).1 : Int),toB (zR (ofB s)).2.1,(zR (ofB s)).2.2)
theorem zhp (l : Bs) : zca (toB l) = (((zR l).1 : Int),toB (zR l).2.1,(zR l).2.2) := by rw [zca,zat]
theorem ze9 (c : UInt8) (t : Bs) (j : Nat) : bt (toB (c :: t)) ((j + 1 : Nat) : Int) = ((t.getD j 0).toNat : Int) := by
 rw [zh6,zat];rfl
theorem drop_toB (c : UInt8) (t : Bs) (n : Nat) : (toB (c :: t)).extract (n + 1) (toB (c :: t)).size = toB (t.drop n) := by
 apply zeE
 rw [zfg,zat,zat,zX,List.drop_succ_cons,List.take_of_length_le (by simp)]
theorem zhr (c : UInt8) (t : Bs) (hc : c.toNat ≤ 8) (hl : c.toNat ≤ t.length) (hs : t.length < 4611686018427387904) (d : Nat) : ∀ j,j + d = c.toNat →
  Ev (fun k => zC.l0 k (toB (c :: t)) (c.toNat : Int) (val (t.take j) : Int) ((j + 1 : Nat) : Int)) ((val (t.take c.toNat) : Int),toB (t.drop c.toNat),0) := by
 induction d with
 | zero =>
  intro j hj
  refine Ev.step (fun k => by rw [zC.l0]) ?_
  rw [zak (x := (c.toNat : Int) + 1) (by omega) (by omega)]
  refine zU (by omega) (zF (by omega) (zF (by rw [zX,List.length_cons];omega) ?_))
  rw [show ((c.toNat : Int) + 1).toNat = c.toNat + 1 by omega,drop_toB]
  obtain rfl : j = c.toNat := by omega
  exact Ev.now _
 | succ d ih =>
  intro j hj
  refine Ev.step (fun k => by rw [zC.l0]) ?_
  refine zF (by omega) (zF (by omega) (zF (by rw [zX,List.length_cons];omega) ?_))
  rw [ze9,or_byte _ _ (zh0 t j (by omega)),← zgB t j (by omega),zak (by omega) (by omega)]
  exact ih (j + 1) (by omega)
theorem zcF (s : ByteArray) (hs : s.size < 4611686018427387904) : Ev (fun k => zC.f k s) (zca s) := by
 obtain ⟨l,rfl⟩ : ∃ l,s = toB l := ⟨_,(zct s).symm⟩
 rw [zX] at hs
 rw [zhp]
 rcases l with _ | ⟨c,t⟩
 ·exact zF (by rw [zbo,zat]) (Ev.now _)
 ·have hc := c.toNat_lt
  rw [List.length_cons] at hs
  have e0 : bt (toB (c :: t)) 0 = (c.toNat : Int) := by rw [show (0 : Int) = ((0 : Nat) : Int) from rfl,zh6,zat];rfl
  have e1 : bt (toB (c :: t)) 1 = ((t.getD 0 0).toNat : Int) := ze9 c t 0
  refine zU (by rw [zbo,zat];simp) (zF (by rw [zX,List.length_cons];omega) ?_)
  rw [e0,e1,zak (by omega) (by omega),zX,List.length_cons]
  have hj : c.toNat ≤ 8 → c.toNat ≤ t.length → Ev (fun k => zC.j0 k (toB (c :: t)) (c.toNat : Int)) ((val (t.take c.toNat) : Int),toB (t.drop c.toNat),0) := fun h8 hl => by
   refine Ev.step (fun k => by rw [zC.j0]) ?_
   exact zhr c t h8 hl (by omega) c.toNat 0 (by omega)
  by_cases h8 : 8 < c.toNat
  ·refine zF (by omega) ?_
   simp only [zR,if_pos h8]
   exact Ev.now _
  refine zU (by omega) ?_
  by_cases hl : t.length < c.toNat
  ·refine zF (by omega) ?_
   simp only [zR,if_neg h8,if_pos hl]
   exact Ev.now _
  refine zU (by omega) ?_
  by_cases h0 : 0 < c.toNat
  ·refine zF (by omega) (zF (by omega) ?_)
   by_cases hz : t.getD 0 0 = 0
   ·refine zF (by rw [hz];rfl) ?_
    simp only [zR,if_neg h8,if_neg hl,if_pos (And.intro h0 hz)]
    exact Ev.now _
   ·refine zU (fun h => hz (UInt8.toNat_inj.1 (by show _ = 0;omega))) ?_
    simp only [zR,if_neg h8,if_neg hl,if_neg (fun h : _ ∧ _ => hz h.2)]
    exact hj (by omega) (by omega)
  ·refine zU (by omega) ?_
   simp only [zR,if_neg h8,if_neg hl,if_neg (fun h : _ ∧ _ => h0 h.1)]
   exact hj (by omega) (by omega)
theorem zcJ (v : Nat) (hv : v < 18446744073709551616) : zag.f (v : Int) = some (zbt v) := by
 unfold zag.f
 rw [if_pos (by omega),if_pos (by omega),Int.toNat_natCast]
theorem zdM (t : ByteArray) (h : t.size ≤ 1152921504606846976) : zbh.f t = some (zdF t) := by unfold zbh.f;rw [if_pos h]
theorem zdJ (t : ByteArray) (h : t.size ≤ 1152921504606846976) : zbb.f t = some (zdF t) := by unfold zbb.f;rw [if_pos h]
theorem bldInfo5 : (Try.prog.info? 5).map (fun i => (i.zero,i.size,i.bytes)) = some (some (.int .u8 0),1,1) := by kernel_rfl
theorem zgH : (Try.prog.info? 150).map (·.size) = some 2 := by kernel_rfl
theorem bldLies : liesAt Try.prog Try.prog.depth 150 (2 / Try.prog.cellsOf 150) 0 150 1 = true := by kernel_rfl
abbrev zee (B b : Nat) (l : Bs) (w : World) : Prop := Lib.IsBuilder 150 5 B b (Lib.byteCells l) w
theorem zee.below {B b : Nat} {l : Bs} {w w' : World} (h : zee B b l w) (hb : Below w.heap.size w w') : zee B b l w' := by
 have key : ∀ p,Lib.BuilderAt 150 5 B b p (Lib.byteCells l) w → Lib.BuilderAt 150 5 B b p (Lib.byteCells l) w' := by
  rintro p ⟨hB,v,hk,hown,hne⟩
  have hlt : b < w.heap.size := Lib.BuilderAt.lt ⟨hB,v,hk,hown,hne⟩
  exact ⟨hB,v,(hb.block b hlt).trans hk,zcs hown hb,hne⟩
 exact h.imp (key _) (key _)
set_option maxHeartbeats 1000000 in
set_option maxRecDepth 100000 in
theorem zfR (b : Nat) (w : World) (h0 : w.cell? ⟨b,0,none⟩ = some (.pointer (some ⟨b,0,none⟩))) :
  Calls Try.prog 128 #[.pointer (some ⟨b,0,none⟩)] w fun e w' => e = .returned (.tuple #[]) ∧ w = w' := by
 obtain ⟨j,hj,_⟩ := Option.map_eq_some_iff.1 zgH
 go_enter Try.func128,Try.ntmps128
 go_wp2
 rw [Lib.run_neq_ptr_same w _ Try.underlying148 hj]
 go_wp2
 go_end0
 exact ⟨rfl,rfl⟩
set_option maxHeartbeats 1000000 in
set_option maxRecDepth 100000 in
theorem zfp (b : Nat) (w : World) (h0 : w.cell? ⟨b,0,none⟩ = some (.pointer none)) (hsh : w.shape? b = some (150,2)) (hfz : w.frozen? ⟨b,0,none⟩ = false) :
  Calls Try.prog 128 #[.pointer (some ⟨b,0,none⟩)] w fun e w' => e = .returned (.tuple #[]) ∧ w.setCell ⟨b,0,none⟩ (.pointer (some ⟨b,0,none⟩)) = w' := by
 obtain ⟨j,hj,hjs⟩ := Option.map_eq_some_iff.1 zgH
 go_enter Try.func128,Try.ntmps128
 go_wp2
 rw [Lib.run_to_unsafe w ⟨b,0,none⟩ Try.underlying148 Try.underlying172 hj (by rw [hjs];decide) hsh (Nat.zero_lt_succ 1)]
 simp only [Result.andThen]
 rw [Oper.upon_value]
 go_wp2
 rw [run_callFunc_extern Try.func133 (by kernel_rfl) (by kernel_rfl) (by kernel_rfl) (e := Extern.AbiNoEscape.same) (by kernel_rfl)]
 rw [Lib.run_noEscape]
 simp only [Result.andThen]
 rw [Oper.upon_value]
 go_wp2
 rw [Lib.run_from_unsafe w ⟨b,0,none⟩ Try.underlying172 Try.underlying148 hj hsh bldLies]
 simp only [Result.andThen]
 rw [Oper.upon_value]
 go_wp2
 go_end0
 exact ⟨rfl,rfl⟩
theorem zgq (B b : Nat) (bs : List Value) (w : World) (h : Lib.IsBuilder 150 5 B b bs w) :
  Calls Try.prog 128 #[.pointer (some ⟨b,0,none⟩)] w fun e w' => e = .returned (.tuple #[]) ∧ (Lib.BuilderAt 150 5 B b (.pointer (some ⟨b,0,none⟩)) bs w' ∧ Below B w w') := by
 rcases h with h | h
 ·refine (zfp b w h.cell0 h.shape h.frozen0).mono ?_
  rintro e w' ⟨rfl,rfl⟩
  exact ⟨rfl,h.used _,(Below.refl B w).setCell (p := ⟨b,0,none⟩) h.1 _⟩
 ·refine (zfR b w h.cell0).mono ?_
  rintro e w' ⟨rfl,rfl⟩
  exact ⟨rfl,h,Below.refl B _⟩
set_option maxHeartbeats 2000000 in
set_option maxRecDepth 100000 in
theorem zdI (B b : Nat) (l : Bs) (s : ByteArray) (w : World) (h : zee B b l w) (hlen : l.length + s.size ≤ 140737488355328) (hBw : B ≤ w.heap.size) :
  Calls Try.prog 112 #[.pointer (some ⟨b,0,none⟩),.string s] w fun e w' => e = .returned (.tuple #[.int .i64 s.size,.nilIface]) ∧ zee B b (l ++ ofB s) w' ∧ Below B w w' := by
 obtain ⟨i0,hi,hz0,hz1,hz2⟩ := info_parts bldInfo5
 have hlc : (Lib.byteCells l).length = l.length := Lib.byteCells_length l
 go_enter Try.func112,Try.ntmps112
 go_wp2_with (go_at_call 128;refine (zgq B b _ _ h).mono ?_)
 rintro e w1 ⟨rfl,h1,hb1⟩
 obtain ⟨hB,v,hbk,hown,hne⟩ := h1
 have c0 : w1.cell? ⟨b,0,none⟩ = some (.pointer (some ⟨b,0,none⟩)) := by rw [Lib.cell_of_heap hbk];rfl
 have c1 : w1.cell? ⟨b,1,none⟩ = some v := by rw [Lib.cell_of_heap hbk];rfl
 go_wp2_with (at_builtin;refine Lib.wpList_append_own_string _ rfl _ _ 62 9 rfl B 5 i0 Try.underlying62 Try.underlying9 hi hz0 hz1 hz2 _ _ _ rfl hown s rfl ?c3 ?c4 ?c5 ?_)
 case c3 => unfold maxLen;omega
 case c4 => omega
 case c5 => have := hb1.size;omega
 intro v' w2 hown' hgrow _
 have hlt : b < w1.heap.size := by
  rcases Nat.lt_or_ge b w1.heap.size with h' | h'
  ·exact h'
  ·simp [Array.getElem?_eq_none h'] at hbk
 have hb2 : w2.heap[b]? = some (.cells #[.pointer (some ⟨b,0,none⟩),v] 150 (0,0)) := by
  rw [hgrow.block b hlt (fun e => hne e.symm)]
  exact hbk
 have d0 : w2.cell? ⟨b,0,none⟩ = some (.pointer (some ⟨b,0,none⟩)) := by rw [Lib.cell_of_heap hb2];rfl
 have d1 : w2.cell? ⟨b,1,none⟩ = some v := by rw [Lib.cell_of_heap hb2];rfl
 have f1 : w2.frozen? ⟨b,1,none⟩ = false := Lib.frozen_of_heap hb2 1
 obtain ⟨ao,n',cap,rfl⟩ : ∃ ao n' cap,v' = .slice ao n' cap := by
  rcases hown'.2 with ⟨hv,_⟩ | ⟨g,cap,cur,hv,_⟩
  ·exact ⟨_,_,_,hv⟩
  ·exact ⟨_,_,_,hv⟩
 go_wp2
 go_ret2
 refine ⟨rfl,.inr ?_,?_⟩
 ·have e1 : Lib.byteCells l ++ Lib.strCells s = Lib.byteCells (l ++ ofB s) := by rw [Lib.strCells_eq];simp [Lib.byteCells,ofB]
  rw [e1] at hown'
  refine Lib.BuilderAt.put (T := 150) (e := 5) hB hb2 (bs' := Lib.byteCells (l ++ ofB s)) ?_ (by decide)
  rw [Lib.byteCells_length,List.length_append,zab]
  exact hown'
 ·exact (hb1.grown hgrow (by have := hb1.size;omega) (fun k hk => (hown.lt k hk).1)).setCell (p := ⟨b,1,none⟩) hB _
set_option maxHeartbeats 1000000 in
set_option maxRecDepth 100000 in
theorem zgo (B b : Nat) (l : Bs) (w : World) (h : zee B b l w) (h0 : l ≠ []) :
  Calls Try.prog 113 #[.pointer (some ⟨b,0,none⟩)] w fun e w' => e = .returned (.string (toB l)) ∧ Below B w w' := by
 obtain ⟨p,hB,v,hbk,hown,hne⟩ : ∃ p,Lib.BuilderAt 150 5 B b p (Lib.byteCells l) w := by
  rcases h with h | h
  ·exact ⟨_,h⟩
  ·exact ⟨_,h⟩
 have hl0 : l.length ≠ 0 := by simpa using h0
 rw [Lib.byteCells_length] at hown
 obtain ⟨g,cap,cur,rfl,hbg,hg,hnc,hcm,hcs,htake⟩ : ∃ g cap cur,v = .slice (some ⟨g,0,none⟩) l.length cap ∧ B ≤ g ∧ w.heap[g]? = some (.cells cur 5 (0,0)) ∧ l.length ≤ cap ∧ cap ≤ maxLen ∧ cur.size = cap * 1 ∧ cur.toList.take (l.length * 1) = Lib.byteCells l := by
  rcases hown.2 with ⟨_,hz⟩ | ⟨g,cap,cur,hv,r⟩
  ·exact absurd hz hl0
  ·exact ⟨g,cap,cur,hv,r⟩
 have c1 : w.drew.cell? ⟨b,1,none⟩ = some (.slice (some ⟨g,0,none⟩) l.length cap) := by
  have : w.drew.heap[b]? = some (.cells #[p,.slice (some ⟨g,0,none⟩) l.length cap] 150 (0,0)) := hbk
  rw [Lib.cell_of_heap this];rfl
 have hSD : (Builtin.unsafeSliceData_ #[62] 168 #[.slice (some ⟨g,0,none⟩) l.length cap]).run Try.prog w.drew = .ok (.pointer (some ⟨g,0,none⟩)) w.drew :=
  Lib.run_unsafeSliceData_row _ _ _ _ _ _ (by omega)
 have hUS : (Builtin.unsafeString_ #[168,3] 9 #[.pointer (some ⟨g,0,none⟩),.int .i64 l.length]).run Try.prog w.drew = .ok (.string ⟨l.toArray⟩) (w.drew.freeze ⟨g,0,none⟩ l.length) := by
  refine Lib.run_unsafeString_row w.drew 168 3 9 5 Try.underlying168 (by kernel_rfl) g cur.size (by have hg' : w.drew.heap[g]? = some (.cells cur 5 (0,0)) := hg;simp [World.shape?,hg']) l h0 (by omega) (by unfold maxLen at hcm;omega) ?_
  intro j x hx
  have := hown.cells (g := g) rfl j (.int .u8 x.toNat) (by simp [Lib.byteCells,hx])
  exact this
 go_enter Try.func113,Try.ntmps113
 go_wp2
 go_region
 all_goals (go_wp2;go_ret;exact ⟨rfl,Lib.below_freeze (Below.drew (Below.refl B w)) (p := ⟨g,0,none⟩) hbg _⟩)
def zaV (l : List ByteArray) : Bs := l.flatMap (fun t => zbV (ofB t))
def zbq (l : List ByteArray) : Bs := zbx l.length ++ zaV l
theorem zev (l : List ByteArray) (k : Nat) (t : ByteArray) (h : l[k]? = some t) : zaV (l.take (k + 1)) = zaV (l.take k) ++ ofB (zdF t) := by
 have hk := (List.getElem?_eq_some_iff.1 h)
 obtain ⟨hk,rfl⟩ := hk
 rw [List.take_succ_eq_append_getElem hk,zaV,zaV,List.flatMap_append,zhY,zat]
 simp
theorem zdf (l : List ByteArray) (k : Nat) : (zaV (l.take k)).length ≤ (zaV l).length := by
 have : zaV l = zaV (l.take k) ++ zaV (l.drop k) := by rw [zaV,zaV,zaV,← List.flatMap_append,List.take_append_drop]
 rw [this,List.length_append];omega
theorem zhR (l : List ByteArray) : l.length ≤ (zaV l).length := by
 induction l with
 | nil => simp
 | cons t l ih =>
  have : zaV (t :: l) = zbV (ofB t) ++ zaV l := rfl
  rw [this,List.length_append,List.length_cons,zbV,zbx]
  simp only [List.length_cons,List.length_append]
  omega
theorem zeC (l : List ByteArray) (k : Nat) (t : ByteArray) (h : l[k]? = some t) : t.size ≤ (zaV l).length := by
 have h1 := zev l k t h
 have h2 := zdf l (k + 1)
 rw [h1,List.length_append,zab,zdF,ByteArray.size_append] at h2
 omega
def zaa.Bld (B : Nat) (l : List ByteArray) (k : Nat) (w0 wr : World) : Prop := zee B w0.heap.size (zbx l.length ++ zaV (l.take k)) wr ∧ Below w0.heap.size w0 wr
theorem zaa.walk (A : Option Addr) (c : Nat) (l : List ByteArray) (w : World) (hr : Kd.C Kd.string w A l.length l) (hc : l.length ≤ c) (hs : (zbq l).length ≤ 140737488355328) :
  Calls Try.prog 83 #[.slice A l.length c] w fun e w' => e = .returned (.string (toB (zbq l))) ∧ Below w.heap.size w w' := by
 have hm := hr.2.1
 have hll := zhR l
 have hsum : (zbq l).length = (zbx l.length).length + (zaV l).length := by rw [zbq,List.length_append]
 have hlen : l.length ≤ 140737488355328 := by omega
 have HN := zc.mk (zcJ l.length (by omega))
 have HR := zc.mk hr
 have HF : zc (zee w.heap.size w.heap.size [] (w.alloc (.cells #[.pointer none,.slice none 0 0] 150))) := ⟨Lib.fresh_isBuilder 150 5 w⟩
 have HS := zc.mk hs
 have HU := zc.mk hsum
 clear hr hs hll hsum
 go_enter Try.func83,Try.ntmps83
 go_wp2_with (go_at_call 51;(with_reducible refine (zag.calls _ _ _ HN.out).mono ?_);rintro e w1 ⟨rfl,hb1⟩)
 have hB1 := zee.below HF.out hb1
 have hw1 : Below w.heap.size w w1 := zg ((Below.refl _ _).alloc (Nat.le_refl _) _) hb1
 have hsz1 := hw1.size
 clear hb1
 refine (zdI w.heap.size w.heap.size [] (zbt l.length) w1 hB1 (by have := zaX (v := l.length) (by omega);simp;omega) hsz1).mono ?_
 rintro e w2 ⟨rfl,hB2,hw2⟩
 have HL : zc (zaa.Bld w.heap.size l 0 w w2) := ⟨by rw [zbt,zat,List.nil_append] at hB2;rw [List.take_zero,show zaV [] = [] from rfl,List.append_nil];exact hB2,hw1.trans hw2⟩
 clear hB1 hB2 hw1 hw2 hsz1
 go_wp2_with fail
 go_loopw [5,13] (fun _ v13 wr => ∃ k : Nat,v13 = .int .i64 k ∧ k ≤ l.length ∧ zc (zaa.Bld w.heap.size l k w wr)) (fun _ v13 _ => l.length - (match v13 with | .int _ q => q | _ => 0).toNat)
 case atStart => exact ⟨0,rfl,Nat.zero_le _,HL⟩
 case round =>
  obtain ⟨k,rfl,hk,HK⟩ := hrel
  by_cases hlt : k < l.length
  ·obtain ⟨ad,rfl,hcell⟩ := Kd.at_string (Kd.C_below HR.out HK.out.2) (k : Int) (by omega) (by omega)
   rw [Int.toNat_natCast] at hcell
   have hb : decide (k < l.length) = true := decide_eq_true hlt
   have hx : l[k]? = some (zH ByteArray.empty l (k : Int)) := by
    rw [zH,Int.toNat_natCast,List.getD_eq_getElem?_getD,List.getElem?_eq_getElem hlt];rfl
   have HX := zc.mk hx
   clear hx
   generalize zH ByteArray.empty l (k : Int) = s at *
   have hs := zeC l k s HX.out
   have HT := zc.mk (zdM s (by have := HS.out;have := HU.out;omega))
   have h2 := zev l k s HX.out
   have h3 := zdf l (k + 1)
   rw [h2,List.length_append,zab] at h3
   have H2 := zc.mk h2
   have H3 : zc ((zbx l.length ++ zaV (l.take k)).length + (zdF s).size ≤ 140737488355328) := ⟨by rw [List.length_append];have := HS.out;have := HU.out;omega⟩
   clear h2 h3 hs
   go_wp2_with (go_at_call 50;(with_reducible refine (zbh.calls _ _ _ HT.out).mono ?_);rintro e w3 ⟨rfl,hb3⟩)
   refine (zdI w.heap.size w.heap.size _ (zdF s) w3 (zee.below HK.out.1 hb3) H3.out (Nat.le_trans HK.out.2.size hb3.size)).mono ?_
   rintro e w4 ⟨rfl,hB4,hw4⟩
   have HL4 : zc (zaa.Bld w.heap.size l (k + 1) w w4) := ⟨by rw [H2.out,← List.append_assoc];exact hB4,(zg HK.out.2 hb3).trans hw4⟩
   clear hB4 hw4 hb3
   go_wp2
   go_roundw
   case rel => exact ⟨k + 1,by go_num,by omega,HL4⟩
   case measure => simp;omega
  ·obtain rfl : k = l.length := by omega
   have HE : zc (zbx l.length ++ zaV (l.take l.length) = zbq l) := ⟨by rw [List.take_of_length_le (Nat.le_refl _)];rfl⟩
   go_wp2_with (go_at_call 113;refine (zgo w.heap.size w.heap.size _ _ HK.out.1 (by simp [zbx])).mono ?_;rintro e w3 ⟨rfl,hb3⟩)
   go_ret
   exact ⟨rfl,HK.out.2.trans hb3⟩
def zaa.f (l0 : List ByteArray) : Option (ByteArray) := if (zbq l0).length ≤ 140737488355328 then (some (toB (zbq l0))) else (none)
theorem zaa.calls (A0 : Option Addr) (c0 : Nat) (l0 : List ByteArray) (r : ByteArray) (w : World) (hr0 : Kd.C Kd.string w A0 l0.length l0) (hc0 : l0.length ≤ c0) (h : zaa.f l0 = some r) :
  Calls Try.prog 83 #[.slice A0 l0.length c0] w fun e w' => e = .returned (.string r) ∧ Below w.heap.size w w' := by
 unfold zaa.f at h
 split at h
 ·rename_i hs
  obtain rfl := Option.some.inj h
  exact zaa.walk A0 c0 l0 w hr0 hc0 hs
 ·cases h
def zaS.f (a0_0 : Int) (a0_1 : Int) (l0_2 : List ByteArray) : Option (ByteArray × Int) := (zaG.f a0_0 a0_1 l0_2).bind fun t429 => (if t429 = true then ((zag.f (IntKind.u64.wrap (a0_0))).bind fun t430 => ((zag.f (IntKind.u64.wrap (a0_1))).bind fun t431 => (if t430.size + t431.size ≤ 9223372036854775807 then ((zaa.f l0_2).bind fun t432 => (if (t430 ++ t431).size + t432.size ≤ 9223372036854775807 then (some ((t430 ++ t431) ++ t432,0)) else (none))) else (none)))) else (some ((⟨#[]⟩ : ByteArray),1)))
def zaS.T3 : Bool × List (List Nat × List Nat) := (true,[([],[]),([0],[0]),([1],[1]),([2],[2]),([],[]),([4],[4]),([5],[5]),([6,3],[6]),([3,7],[3,7]),([],[]),([9],[9]),([10,7],[10]),([8,11],[8,11]),([12,11,0,1,2,3,4,5,6,7,8,9,10,11,12],[12]),([13,0,1,2,3,4,5,6,7,8,9,10,11,12,13],[])])
def zaS.B3 : List Nat := [0,1,3,7,0,16,48,127,255,0,512,1791,4095,8191,16383]
theorem zaS.tab3 : zcD .any (zfZ Try.f80 3) = zaS.T3 := by kernel_rfl
theorem zaS.bits3 : zcu zaS.T3.2 zaS.B3 = true := by kernel_rfl
set_option maxHeartbeats 8000000 in
set_option maxRecDepth 100000 in
theorem zaS.calls (a0_0 : Int) (a0_1 : Int) (A0_2 : Option Addr) (c0_2 : Nat) (l0_2 : List ByteArray) (r1 : ByteArray) (r2 : Int) (w : World) (hr0_2 : Kd.C Kd.string w A0_2 l0_2.length l0_2) (hc0_2 : l0_2.length ≤ c0_2) (h : zaS.f a0_0 a0_1 l0_2 = some (r1,r2)) :
  Calls Try.prog 80 #[.agg #[.int .i64 a0_0,.int .i64 a0_1,.slice A0_2 l0_2.length c0_2]] w fun e w' => e = .returned (.tuple #[.string r1,.int .i64 r2]) ∧ Below w.heap.size w w' := by
 have hu107 := Try.underlying107
 have HR0_2 := zc.mk hr0_2
 have HC0_2 := zc.mk hc0_2
 clear hr0_2 hc0_2
 have HB := zc.mk (Below.refl w.heap.size w)
 have H : ((zaG.f a0_0 a0_1 l0_2).bind fun t429 => (if t429 = true then ((zag.f (IntKind.u64.wrap (a0_0))).bind fun t430 => ((zag.f (IntKind.u64.wrap (a0_1))).bind fun t431 => (if t430.size + t431.size ≤ 9223372036854775807 then ((zaa.f l0_2).bind fun t432 => (if (t430 ++ t431).size + t432.size ≤ 9223372036854775807 then (some ((t430 ++ t431) ++ t432,0)) else (none))) else (none)))) else (some ((⟨#[]⟩ : ByteArray),1)))) = some (r1,r2) := h
 clear h
 replace H := Option.bind_eq_some_iff.mp H
 obtain ⟨t429,A20,H⟩ := H
 replace H : (if t429 = true then ((zag.f (IntKind.u64.wrap (a0_0))).bind fun t430 => ((zag.f (IntKind.u64.wrap (a0_1))).bind fun t431 => (if t430.size + t431.size ≤ 9223372036854775807 then ((zaa.f l0_2).bind fun t432 => (if (t430 ++ t431).size + t432.size ≤ 9223372036854775807 then (some ((t430 ++ t431) ++ t432,0)) else (none))) else (none)))) else (some ((⟨#[]⟩ : ByteArray),1))) = some (r1,r2) := H
 have A2 := zc.mk A20
 clear A20
 by_cases c3 : t429 = true
 ·subst c3
  have H1 : ((zag.f (IntKind.u64.wrap (a0_0))).bind fun t430 => ((zag.f (IntKind.u64.wrap (a0_1))).bind fun t431 => (if t430.size + t431.size ≤ 9223372036854775807 then ((zaa.f l0_2).bind fun t432 => (if (t430 ++ t431).size + t432.size ≤ 9223372036854775807 then (some ((t430 ++ t431) ++ t432,0)) else (none))) else (none)))) = some (r1,r2) := by rw [if_pos rfl] at H;exact H
  clear H
  have H := H1
  clear H1
  replace H := Option.bind_eq_some_iff.mp H
  obtain ⟨t430,A40,H⟩ := H
  replace H : ((zag.f (IntKind.u64.wrap (a0_1))).bind fun t431 => (if t430.size + t431.size ≤ 9223372036854775807 then ((zaa.f l0_2).bind fun t432 => (if (t430 ++ t431).size + t432.size ≤ 9223372036854775807 then (some ((t430 ++ t431) ++ t432,0)) else (none))) else (none))) = some (r1,r2) := H
  have A4 := zc.mk A40
  clear A40
  replace H := Option.bind_eq_some_iff.mp H
  obtain ⟨t431,A50,H⟩ := H
  replace H : (if t430.size + t431.size ≤ 9223372036854775807 then ((zaa.f l0_2).bind fun t432 => (if (t430 ++ t431).size + t432.size ≤ 9223372036854775807 then (some ((t430 ++ t431) ++ t432,0)) else (none))) else (none)) = some (r1,r2) := H
  have A5 := zc.mk A50
  clear A50
  by_cases c6 : t430.size + t431.size ≤ 9223372036854775807
  ·rw [if_pos c6] at H
   have c6b0 := eq_true c6
   have c6b1 : decide (t430.size + t431.size ≤ 9223372036854775807) = true := decide_eq_true c6
   try have c6b2 : (9223372036854775807 < t430.size + t431.size) = False := eq_false (Nat.not_lt.2 c6)
   replace H := Option.bind_eq_some_iff.mp H
   obtain ⟨t432,A70,H⟩ := H
   replace H : (if (t430 ++ t431).size + t432.size ≤ 9223372036854775807 then (some ((t430 ++ t431) ++ t432,0)) else (none)) = some (r1,r2) := H
   have A7 := zc.mk A70
   clear A70
   by_cases c8 : (t430 ++ t431).size + t432.size ≤ 9223372036854775807
   ·rw [if_pos c8] at H
    have c8b0 := eq_true c8
    have c8b1 : decide ((t430 ++ t431).size + t432.size ≤ 9223372036854775807) = true := decide_eq_true c8
    try have c8b2 : (9223372036854775807 < (t430 ++ t431).size + t432.size) = False := eq_false (Nat.not_lt.2 c8)
    try (have c8b3 := c8;simp [ByteArray.size_append] at c8b3;have c8b4 := eq_false (Nat.not_lt.2 c8b3);clear c8b3)
    simp only [Option.some.injEq,Prod.mk.injEq] at H
    obtain ⟨rfl,rfl⟩ := H
    go_enter Try.func80,Try.ntmps80
    try go_wp2_with (first | ((with_reducible refine zD (N := 1) rfl ?_);refine zq ?hg (N := 1) ?hd (cs := #[.int .i64 a0_0,.int .i64 a0_1,.slice A0_2 l0_2.length c0_2]) (t := 107) ?hr ?_;(case hd => rfl);(case hg => rfl);(case hr => first | (go_simp;done) | (go_simp;rfl));intro gb428 hg w9 hbox hb;have n0_ := zc.mk (zg hBq hb);have n1_ := zc.mk (hbox);have n2_ := zc.mk ((by rw [hg];exact (zj hBq) : w.heap.size ≤ gb428));have n3_ := zc.mk ((by rw [hg];exact (zj hBq) : w.heap.size ≤ gb428));clear HB;have HB := n0_;have BK428 := n1_;have GW428 := n2_;have GE428 := n3_;clear n0_ n1_ n2_ n3_;clear hb hbox hg;have hcz10_0 : w9.cell? ⟨gb428,0,none⟩ = some (.int .i64 a0_0) := (zb BK428.out 0).trans rfl;have hcz10_1 : w9.cell? ⟨gb428,1,none⟩ = some (.int .i64 a0_1) := (zb BK428.out 1).trans rfl;have hcz10_2 : w9.cell? ⟨gb428,2,none⟩ = some (.slice A0_2 l0_2.length c0_2) := (zb BK428.out 2).trans rfl;have hfz10_0 := za BK428.out 0;have hfz10_1 := za BK428.out 1;have hfz10_2 := za BK428.out 2) | ((with_reducible refine zp (f := 87) rfl ?_);refine z6 (some 5) rfl rfl Try.func87 (by kernel_rfl) rfl #[.agg #[.int .i64 a0_0,.int .i64 a0_1,.slice A0_2 l0_2.length c0_2]] rfl (by (try simp only [List.map_toArray,List.map_cons,List.map_nil]);first | done | rfl | (simp only [List.length_drop,List.length_take];rfl)) ?_;(with_reducible refine (zaG.calls a0_0 a0_1 _ _ l0_2 true _ ?side1 ?side2 A2.out).mono ?_);(case side1 => repeat (first | exact (Kd.C_below HR0_2.out HB.out) | (with_reducible refine Kd.C_alloc ?_ _) | (with_reducible refine Kd.C_drewN ?_ _) | (with_reducible refine Kd.C_drew ?_)));(case side2 => exact HC0_2.out);rintro e w11 ⟨rfl,hb⟩;refine ⟨_,rfl,?_⟩;have n0_ := zc.mk (zh (g := gb428) (o := .cells #[.int .i64 a0_0,.int .i64 a0_1,.slice A0_2 l0_2.length c0_2] 107 (0,0)) (hGq BK428.out) hb);have n1_ := zc.mk (zg hCq hb);clear BK428;clear HB;have BK428 := n0_;have HB := n1_;clear n0_ n1_;(try clear hb);(try clear hb2);(try clear hk);(try clear hi)))
    have n0_ := zc.mk (zf BK428.out)
    have n1_ := zc.mk (zB HB.out)
    clear BK428
    clear HB
    have BK428 := n0_
    have HB := n1_
    clear n0_ n1_
    refine zdg (n := 15) (S := fun w' => w'.cell? ⟨gb428,0,none⟩ = some (.int .i64 a0_0) ∧ w'.cell? ⟨gb428,1,none⟩ = some (.int .i64 a0_1) ∧ w'.cell? ⟨gb428,2,none⟩ = some (.slice A0_2 l0_2.length c0_2)) (ds := []) #[false,false,false,false,false,false,false,false,false,false,false,false,false,false,false] (by kernel_rfl) rfl rfl ⟨(zb BK428.out 0).trans rfl,(zb BK428.out 1).trans rfl,(zb BK428.out 2).trans rfl⟩ (fun hHeld => ?_);refine zck zaS.tab3 zaS.bits3 (fun HT_ HW_ => ?_)
    generalize w11.drew = w12 at BK428 HB hHeld ⊢
    refine zai (i := 0) (N := some 7) (v := ?_) (a' := ?_) #[true,false,false,false,false,false,false,false,false,false,false,false,false,false,false] rfl rfl (z9 HT_.out (by kernel_rfl)) (fun _ _ _ h => h) (Or.inl ⟨by rfl,?_⟩) ?_ ?_
    rotate_left
    ·intro w'
     go_simp
     with_reducible rfl
    rotate_left
    ·simp only [Act.put,List.setIfInBounds_toArray,List.set_cons_zero,List.set_cons_succ,zN,zQ]
     rfl
    refine zai (i := 4) (N := some 11) (v := ?_) (a' := ?_) #[true,false,false,false,true,false,false,false,false,false,false,false,false,false,false] rfl rfl (z9 HT_.out (by kernel_rfl)) (fun _ _ _ h => h) (Or.inl ⟨by rfl,?_⟩) ?_ ?_
    rotate_left
    ·intro w'
     go_simp
     with_reducible rfl
    rotate_left
    ·simp only [Act.put,List.setIfInBounds_toArray,List.set_cons_zero,List.set_cons_succ,zN,zQ]
     rfl
    refine zai (i := 9) (N := some 16) (v := ?_) (a' := ?_) #[true,false,false,false,true,false,false,false,false,true,false,false,false,false,false] rfl rfl (z9 HT_.out (by kernel_rfl)) (fun _ _ _ h => h) (Or.inl ⟨by rfl,?_⟩) ?_ ?_
    rotate_left
    ·intro w'
     go_simp
     with_reducible rfl
    rotate_left
    ·simp only [Act.put,List.setIfInBounds_toArray,List.set_cons_zero,List.set_cons_succ,zN,zQ]
     rfl
    refine take_ (i := 1) (N := some 8) (v := ?_) (a' := ?_) #[true,true,false,false,true,false,false,false,false,true,false,false,false,false,false] rfl rfl (zaY HT_.out HW_.out (by kernel_rfl)) (fun _ _ _ h => h) (Or.inl ⟨by rfl,?_⟩) hHeld ?_ ?_
    rotate_left
    ·rintro w' ⟨s0,s1,s2⟩
     go_simp
     with_reducible rfl
    rotate_left
    ·simp only [Act.put,List.setIfInBounds_toArray,List.set_cons_zero,List.set_cons_succ,zN,zQ]
     rfl
    refine zai (i := 2) (N := some 9) (v := ?_) (a' := ?_) #[true,true,true,false,true,false,false,false,false,true,false,false,false,false,false] rfl rfl (z9 HT_.out (by kernel_rfl)) (fun _ _ _ h => h) (Or.inl ⟨by rfl,?_⟩) ?_ ?_
    rotate_left
    ·intro w'
     go_simp
     with_reducible rfl
    rotate_left
    ·simp only [Act.put,List.setIfInBounds_toArray,List.set_cons_zero,List.set_cons_succ,zN,zQ]
     rfl
    refine take_ (i := 5) (N := some 12) (v := ?_) (a' := ?_) #[true,true,true,false,true,true,false,false,false,true,false,false,false,false,false] rfl rfl (zaY HT_.out HW_.out (by kernel_rfl)) (fun _ _ _ h => h) (Or.inl ⟨by rfl,?_⟩) hHeld ?_ ?_
    rotate_left
    ·rintro w' ⟨s0,s1,s2⟩
     go_simp
     with_reducible rfl
    rotate_left
    ·simp only [Act.put,List.setIfInBounds_toArray,List.set_cons_zero,List.set_cons_succ,zN,zQ]
     rfl
    refine zai (i := 6) (N := some 13) (v := ?_) (a' := ?_) #[true,true,true,false,true,true,true,false,false,true,false,false,false,false,false] rfl rfl (z9 HT_.out (by kernel_rfl)) (fun _ _ _ h => h) (Or.inl ⟨by rfl,?_⟩) ?_ ?_
    rotate_left
    ·intro w'
     go_simp
     with_reducible rfl
    rotate_left
    ·simp only [Act.put,List.setIfInBounds_toArray,List.set_cons_zero,List.set_cons_succ,zN,zQ]
     rfl
    refine take_ (i := 10) (N := some 17) (v := ?_) (a' := ?_) #[true,true,true,false,true,true,true,false,false,true,true,false,false,false,false] rfl rfl (zaY HT_.out HW_.out (by kernel_rfl)) (fun _ _ _ h => h) (Or.inl ⟨by rfl,?_⟩) hHeld ?_ ?_
    rotate_left
    ·rintro w' ⟨s0,s1,s2⟩
     go_simp
     with_reducible rfl
    rotate_left
    ·simp only [Act.put,List.setIfInBounds_toArray,List.set_cons_zero,List.set_cons_succ,zN,zQ]
     rfl
    refine zc7 (i := 3) (N := some 10) #[true,true,true,true,true,true,true,false,false,true,true,false,false,false,false] rfl rfl (zbT HT_.out (by kernel_rfl)) (by decide) (fun K hK => ?_)
    refine zb4 Try.func51 (by kernel_rfl) rfl #[.int .u64 (IntKind.u64.wrap (a0_0))] (by rfl) rfl rfl (by (try simp only [List.map_toArray,List.map_cons,List.map_nil]);first | done | rfl | (simp only [List.length_drop,List.length_take];rfl)) ?_
    with_reducible refine (zag.calls (IntKind.u64.wrap (a0_0)) t430 _ A4.out).mono ?_
    rintro e w13 ⟨rfl,hb⟩
    refine ⟨_,rfl,?_⟩
    have n0_ := zc.mk (zh (g := gb428) (o := .cells #[.int .i64 a0_0,.int .i64 a0_1,.slice A0_2 l0_2.length c0_2] 107 (0,0)) (hGq BK428.out) hb)
    have n1_ := zc.mk (zg hCq hb)
    clear BK428
    clear HB
    have BK428 := n0_
    have HB := n1_
    clear n0_ n1_
    (try clear hb)
    (try clear hb2)
    (try clear hk)
    (try clear hi)
    refine hK.out _ _ ⟨(zb BK428.out 0).trans rfl,(zb BK428.out 1).trans rfl,(zb BK428.out 2).trans rfl⟩ (fun hHeld => ?_)
    clear hK K
    refine zb5 (a' := ?_) ?_ ?_
    rotate_left
    ·show Act.put _ (some 10) _ = _
     simp only [Act.put,List.setIfInBounds_toArray,List.set_cons_zero,List.set_cons_succ,zN,zQ]
     rfl
    refine zc7 (i := 7) (N := some 14) #[true,true,true,true,true,true,true,true,false,true,true,false,false,false,false] rfl rfl (zbT HT_.out (by kernel_rfl)) (by decide) (fun K hK => ?_)
    refine zb4 Try.func51 (by kernel_rfl) rfl #[.int .u64 (IntKind.u64.wrap (a0_1))] (by rfl) rfl rfl (by (try simp only [List.map_toArray,List.map_cons,List.map_nil]);first | done | rfl | (simp only [List.length_drop,List.length_take];rfl)) ?_
    with_reducible refine (zag.calls (IntKind.u64.wrap (a0_1)) t431 _ A5.out).mono ?_
    rintro e w14 ⟨rfl,hb⟩
    refine ⟨_,rfl,?_⟩
    have n0_ := zc.mk (zh (g := gb428) (o := .cells #[.int .i64 a0_0,.int .i64 a0_1,.slice A0_2 l0_2.length c0_2] 107 (0,0)) (hGq BK428.out) hb)
    have n1_ := zc.mk (zg hCq hb)
    clear BK428
    clear HB
    have BK428 := n0_
    have HB := n1_
    clear n0_ n1_
    (try clear hb)
    (try clear hb2)
    (try clear hk)
    (try clear hi)
    refine hK.out _ _ ⟨(zb BK428.out 0).trans rfl,(zb BK428.out 1).trans rfl,(zb BK428.out 2).trans rfl⟩ (fun hHeld => ?_)
    clear hK K
    refine zb5 (a' := ?_) ?_ ?_
    rotate_left
    ·show Act.put _ (some 14) _ = _
     simp only [Act.put,List.setIfInBounds_toArray,List.set_cons_zero,List.set_cons_succ,zN,zQ]
     rfl
    refine zai (i := 8) (N := some 15) (v := ?_) (a' := ?_) #[true,true,true,true,true,true,true,true,true,true,true,false,false,false,false] rfl rfl (z9 HT_.out (by kernel_rfl)) (fun _ _ _ h => h) (Or.inl ⟨by rfl,?_⟩) ?_ ?_
    rotate_left
    ·intro w'
     go_simp
     with_reducible rfl
    rotate_left
    ·simp only [Act.put,List.setIfInBounds_toArray,List.set_cons_zero,List.set_cons_succ,zN,zQ]
     rfl
    refine zc7 (i := 11) (N := some 18) #[true,true,true,true,true,true,true,true,true,true,true,true,false,false,false] rfl rfl (zbT HT_.out (by kernel_rfl)) (by decide) (fun K hK => ?_)
    refine zb4 Try.func83 (by kernel_rfl) rfl #[.slice A0_2 l0_2.length c0_2] (by rfl) rfl rfl (by (try simp only [List.map_toArray,List.map_cons,List.map_nil]);first | done | rfl | (simp only [List.length_drop,List.length_take];rfl)) ?_
    with_reducible refine (zaa.calls _ _ l0_2 t432 _ ?side1 ?side2 A7.out).mono ?_
    (case side1 => repeat (first | exact (Kd.C_below HR0_2.out HB.out) | (with_reducible refine Kd.C_alloc ?_ _) | (with_reducible refine Kd.C_drewN ?_ _) | (with_reducible refine Kd.C_drew ?_)))
    (case side2 => exact HC0_2.out)
    rintro e w15 ⟨rfl,hb⟩
    refine ⟨_,rfl,?_⟩
    have n0_ := zc.mk (zh (g := gb428) (o := .cells #[.int .i64 a0_0,.int .i64 a0_1,.slice A0_2 l0_2.length c0_2] 107 (0,0)) (hGq BK428.out) hb)
    have n1_ := zc.mk (zg hCq hb)
    clear BK428
    clear HB
    have BK428 := n0_
    have HB := n1_
    clear n0_ n1_
    (try clear hb)
    (try clear hb2)
    (try clear hk)
    (try clear hi)
    refine hK.out _ _ ⟨(zb BK428.out 0).trans rfl,(zb BK428.out 1).trans rfl,(zb BK428.out 2).trans rfl⟩ (fun hHeld => ?_)
    clear hK K
    refine zb5 (a' := ?_) ?_ ?_
    rotate_left
    ·show Act.put _ (some 18) _ = _
     simp only [Act.put,List.setIfInBounds_toArray,List.set_cons_zero,List.set_cons_succ,zN,zQ]
     rfl
    refine zai (i := 12) (N := some 19) (v := ?_) (a' := ?_) #[true,true,true,true,true,true,true,true,true,true,true,true,true,false,false] rfl rfl (z9 HT_.out (by kernel_rfl)) (fun _ _ _ h => h) (Or.inl ⟨by rfl,?_⟩) ?_ ?_
    rotate_left
    ·intro w'
     go_simp
     with_reducible rfl
    rotate_left
    ·simp only [Act.put,List.setIfInBounds_toArray,List.set_cons_zero,List.set_cons_succ,zN,zQ]
     rfl
    refine zai (i := 13) (N := some 2) (v := ?_) (a' := ?_) #[true,true,true,true,true,true,true,true,true,true,true,true,true,true,false] rfl rfl (z9 HT_.out (by kernel_rfl)) (fun _ _ _ h => h) (Or.inl ⟨by rfl,?_⟩) ?_ ?_
    rotate_left
    ·intro w'
     go_simp
     with_reducible rfl
    rotate_left
    ·simp only [Act.put,List.setIfInBounds_toArray,List.set_cons_zero,List.set_cons_succ,zN,zQ]
     rfl
    refine zai (i := 14) (N := some 3) (v := ?_) (a' := ?_) #[true,true,true,true,true,true,true,true,true,true,true,true,true,true,true] rfl rfl (z9 HT_.out (by kernel_rfl)) (fun _ _ _ h => h) (Or.inl ⟨by rfl,?_⟩) ?_ ?_
    rotate_left
    ·intro w'
     go_simp
     with_reducible rfl
    rotate_left
    ·simp only [Act.put,List.setIfInBounds_toArray,List.set_cons_zero,List.set_cons_succ,zN,zQ]
     rfl
    refine zeg (zc8 HT_.out (by kernel_rfl)) ?_
    try go_wp2
    go_ret2
    exact ⟨hHq,hCq⟩
   ·rw [if_neg c8] at H
    exact absurd H (by simp)
  ·rw [if_neg c6] at H
   exact absurd H (by simp)
 ·replace c3 := Bool.eq_false_iff.mpr c3
  subst c3
  have H1 : (some ((⟨#[]⟩ : ByteArray),1)) = some (r1,r2) := by rw [if_neg (show ¬ (false = true) by decide)] at H;exact H
  clear H
  have H := H1
  clear H1
  simp only [Option.some.injEq,Prod.mk.injEq] at H
  obtain ⟨rfl,rfl⟩ := H
  go_enter Try.func80,Try.ntmps80
  go_wp2_with (first | ((with_reducible refine zD (N := 1) rfl ?_);refine zq ?hg (N := 1) ?hd (cs := #[.int .i64 a0_0,.int .i64 a0_1,.slice A0_2 l0_2.length c0_2]) (t := 107) ?hr ?_;(case hd => rfl);(case hg => rfl);(case hr => first | (go_simp;done) | (go_simp;rfl));intro gb428 hg w16 hbox hb;have n0_ := zc.mk (zg hBq hb);have n1_ := zc.mk (hbox);have n2_ := zc.mk ((by rw [hg];exact (zj hBq) : w.heap.size ≤ gb428));have n3_ := zc.mk ((by rw [hg];exact (zj hBq) : w.heap.size ≤ gb428));clear HB;have HB := n0_;have BK428 := n1_;have GW428 := n2_;have GE428 := n3_;clear n0_ n1_ n2_ n3_;clear hb hbox hg;have hcz17_0 : w16.cell? ⟨gb428,0,none⟩ = some (.int .i64 a0_0) := (zb BK428.out 0).trans rfl;have hcz17_1 : w16.cell? ⟨gb428,1,none⟩ = some (.int .i64 a0_1) := (zb BK428.out 1).trans rfl;have hcz17_2 : w16.cell? ⟨gb428,2,none⟩ = some (.slice A0_2 l0_2.length c0_2) := (zb BK428.out 2).trans rfl;have hfz17_0 := za BK428.out 0;have hfz17_1 := za BK428.out 1;have hfz17_2 := za BK428.out 2) | ((with_reducible refine zp (f := 87) rfl ?_);refine z6 (some 5) rfl rfl Try.func87 (by kernel_rfl) rfl #[.agg #[.int .i64 a0_0,.int .i64 a0_1,.slice A0_2 l0_2.length c0_2]] rfl (by (try simp only [List.map_toArray,List.map_cons,List.map_nil]);first | done | rfl | (simp only [List.length_drop,List.length_take];rfl)) ?_;(with_reducible refine (zaG.calls a0_0 a0_1 _ _ l0_2 false _ ?side1 ?side2 A2.out).mono ?_);(case side1 => repeat (first | exact (Kd.C_below HR0_2.out HB.out) | (with_reducible refine Kd.C_alloc ?_ _) | (with_reducible refine Kd.C_drewN ?_ _) | (with_reducible refine Kd.C_drew ?_)));(case side2 => exact HC0_2.out);rintro e w18 ⟨rfl,hb⟩;refine ⟨_,rfl,?_⟩;have n0_ := zc.mk (zh (g := gb428) (o := .cells #[.int .i64 a0_0,.int .i64 a0_1,.slice A0_2 l0_2.length c0_2] 107 (0,0)) (hGq BK428.out) hb);have n1_ := zc.mk (zg hCq hb);clear BK428;clear HB;have BK428 := n0_;have HB := n1_;clear n0_ n1_;(try clear hb);(try clear hb2);(try clear hk);(try clear hi)))
  go_ret2
  exact ⟨hHq,hCq⟩
def zY.l0 : Nat → List ByteArray → List ByteArray → Int → Option (Bool)
 | 0,_,_,_ => none
 | k + 1,x0,x1,x5 => if x5 < (x0.length : Int) then (if 0 ≤ x5 then (if x5 < (x1.length : Int) then (if (zH ByteArray.empty x0 x5).toList = (zH ByteArray.empty x1 x5).toList then (zY.l0 k x0 x1 (wrap64 (x5 + 1))) else (some false)) else (none)) else (none)) else (some true)
def zY.f (k : Nat) (l0 : List ByteArray) (l1 : List ByteArray) : Option (Bool) := if (l0.length : Int) = (l1.length : Int) then (zY.l0 k l0 l1 0) else (some false)
set_option maxHeartbeats 8000000 in
set_option maxRecDepth 100000 in
theorem zY.calls (k : Nat) (A0 : Option Addr) (c0 : Nat) (l0 : List ByteArray) (A1 : Option Addr) (c1 : Nat) (l1 : List ByteArray) (r : Bool) (w : World) (hr0 : Kd.C Kd.string w A0 l0.length l0) (hc0 : l0.length ≤ c0) (hr1 : Kd.C Kd.string w A1 l1.length l1) (hc1 : l1.length ≤ c1) (h : zY.f k l0 l1 = some r) :
  Calls Try.prog 43 #[.slice A0 l0.length c0,.slice A1 l1.length c1] w fun e w' => e = .returned (.bool r) ∧ zaF w w' := by
 have HR0 := zc.mk hr0
 have HC0 := zc.mk hc0
 clear hr0 hc0
 have HR1 := zc.mk hr1
 have HC1 := zc.mk hc1
 clear hr1 hc1
 have H : (if (l0.length : Int) = (l1.length : Int) then (zY.l0 k l0 l1 0) else (some false)) = some r := h
 clear h
 by_cases c3 : (l0.length : Int) = (l1.length : Int)
 ·rw [if_pos c3] at H
  have c3b0 : ((l0.length : Int) == (l1.length : Int)) = true := beq_iff_eq.mpr c3
  have c3b1 : ((l0.length : Int) != (l1.length : Int)) = false := bne_eq_false_iff_eq.mpr c3
  have c3b2 : (l0.length == l1.length) = true := by first | simpa using c3 | (simp at c3 ⊢;omega)
  clear c3
  have H' := zc.mk H
  clear H
  go_enter Try.func43,Try.ntmps43
  go_wp2
  repeat (go_quiet (fail);try go_wp2)
  go_loopg [5] k (fun kq v5 w' => ∃ (x5_1 : Int),v5 = .int .i64 x5_1 ∧ zc (zY.l0 kq l0 l1 x5_1 = some r) ∧ zc (kq ≤ k) ∧ zaF w w')
  case atStart => exact ⟨(0),(hDq),H',⟨Nat.le_refl _⟩,hEq⟩
  case round =>
   clear H'
   try clear c1
   try clear p2
   try clear c3
   try clear c3b0
   try clear c3b1
   try clear c3b2
   obtain ⟨x5_1,rfl,HA,HK1,⟨m1,rfl⟩⟩ := hrel
   cases gk with
   | zero => exact absurd HA.out (by simp [zY.l0])
   | succ k1 =>
    have H := HA.out
    clear HA
    simp only [zY.l0] at H
    by_cases c4 : x5_1 < (l0.length : Int)
    ·rw [if_pos c4] at H
     have c4b0 : decide (x5_1 < (l0.length : Int)) = true := decide_eq_true c4
     clear c4
     by_cases c5 : 0 ≤ x5_1
     ·rw [if_pos c5] at H
      have c5b0 : decide (0 ≤ x5_1) = true := decide_eq_true c5
      clear c5
      by_cases c6 : x5_1 < (l1.length : Int)
      ·rw [if_pos c6] at H
       have c6b0 : decide (x5_1 < (l1.length : Int)) = true := decide_eq_true c6
       clear c6
       by_cases c7 : (zH ByteArray.empty l0 x5_1).toList = (zH ByteArray.empty l1 x5_1).toList
       ·rw [if_pos c7] at H
        have c7b0 : ((zH ByteArray.empty l0 x5_1).toList == (zH ByteArray.empty l1 x5_1).toList) = true := beq_iff_eq.mpr c7
        have c7b1 : ((zH ByteArray.empty l0 x5_1).toList != (zH ByteArray.empty l1 x5_1).toList) = false := bne_eq_false_iff_eq.mpr c7
        clear c7
        have H' := zc.mk H
        clear H
        have p383 : 0 ≤ (x5_1 : Int) := hFq
        have q383 : x5_1 < (l0.length : Int) := hFq
        obtain ⟨ad383,e383,hx383_0⟩ := Kd.at_string HR0.out x5_1 p383 q383
        cases e383
        replace p383 := eq_true p383
        replace q383 := eq_true q383
        have p384 : 0 ≤ (x5_1 : Int) := hFq
        have q384 : x5_1 < (l1.length : Int) := hFq
        obtain ⟨ad384,e384,hx384_0⟩ := Kd.at_string HR1.out x5_1 p384 q384
        cases e384
        replace p384 := eq_true p384
        replace q384 := eq_true q384
        go_wp2
        repeat (go_quiet (fail);try go_wp2)
        go_roundg k1
        case measure => have := HK1.out;omega
        case rel => exact ⟨(wrap64 (x5_1 + 1)),(hDq),H',⟨by have := HK1.out;omega⟩,hEq⟩
       ·rw [if_neg c7] at H
        have c7b0 : ((zH ByteArray.empty l0 x5_1).toList == (zH ByteArray.empty l1 x5_1).toList) = false := beq_eq_false_iff_ne.mpr c7
        have c7b1 : ((zH ByteArray.empty l0 x5_1).toList != (zH ByteArray.empty l1 x5_1).toList) = true := bne_iff_ne.mpr c7
        obtain rfl := Option.some.inj H
        have p383 : 0 ≤ (x5_1 : Int) := hFq
        have q383 : x5_1 < (l0.length : Int) := hFq
        obtain ⟨ad383,e383,hx383_0⟩ := Kd.at_string HR0.out x5_1 p383 q383
        cases e383
        replace p383 := eq_true p383
        replace q383 := eq_true q383
        have p384 : 0 ≤ (x5_1 : Int) := hFq
        have q384 : x5_1 < (l1.length : Int) := hFq
        obtain ⟨ad384,e384,hx384_0⟩ := Kd.at_string HR1.out x5_1 p384 q384
        cases e384
        replace p384 := eq_true p384
        replace q384 := eq_true q384
        go_wp2
        repeat (go_quiet (fail);try go_wp2)
        go_ret
        exact ⟨hDq,hEq⟩
      ·rw [if_neg c6] at H
       exact absurd H (by simp)
     ·rw [if_neg c5] at H
      exact absurd H (by simp)
    ·rw [if_neg c4] at H
     have c4b0 : decide (x5_1 < (l0.length : Int)) = false := decide_eq_false c4
     clear c4
     obtain rfl := Option.some.inj H
     go_wp2
     repeat (go_quiet (fail);try go_wp2)
     go_ret
     exact ⟨hDq,hEq⟩
 ·rw [if_neg c3] at H
  have c3b0 : ((l0.length : Int) == (l1.length : Int)) = false := beq_eq_false_iff_ne.mpr c3
  have c3b1 : ((l0.length : Int) != (l1.length : Int)) = true := bne_iff_ne.mpr c3
  have c3b2 : (l0.length == l1.length) = false := by first | simpa using c3 | (simp at c3 ⊢;omega)
  obtain rfl := Option.some.inj H
  go_enter Try.func43,Try.ntmps43
  go_wp2
  repeat (go_quiet (fail);try go_wp2)
  go_ret
  exact ⟨hDq,hEq⟩
end Go.Proofs.Ytgdpiegkoeikiaa.Px