/- Part 5 of 30 of the proof of the law DagPasts: what is proved is the statement at the end of the last part; its conditions are those of the given row. -/
import Derived.Lib.Builder
import Derived.Lib.UnsafeStr
import Derived.Lib.Strings
import Derived.Lib.Slices
import Derived.Lib.Walk
import Derived.RegionTactic
import Derived.ChangeAlike
import Derived.Test.YtndjfdakflaggaaZDagPastsD
namespace Go.Proofs.Ytndjfdakflaggaa.Px
open Go.RowKit Go.Proofs.YtndjfdakflaggaaW.PrintWords Go.Proofs.YtndjfdakflaggaaW.PrintLast Go.Proofs.YtndjfdakflaggaaW.PrintMore
attribute [local go_sem] zt zv zA zB zq zr zu zw
set_option linter.unusedVariables false
set_option linter.unusedSimpArgs false
theorem bldInfo5 : (Try.prog.info? 5).map (fun i => (i.zero,i.size,i.bytes)) = some (some (.int .u8 0),1,1) := by kernel_rfl
theorem zf2 : (Try.prog.info? 115).map (·.size) = some 2 := by kernel_rfl
theorem bldLies : liesAt Try.prog Try.prog.depth 115 (2 / Try.prog.cellsOf 115) 0 115 1 = true := by kernel_rfl
abbrev zdH (B b : Nat) (l : Bs) (w : World) : Prop := Lib.IsBuilder 115 5 B b (Lib.byteCells l) w
theorem zdH.below {B b : Nat} {l : Bs} {w w' : World} (h : zdH B b l w) (hb : Below w.heap.size w w') : zdH B b l w' := by
 have key : ∀ p,Lib.BuilderAt 115 5 B b p (Lib.byteCells l) w → Lib.BuilderAt 115 5 B b p (Lib.byteCells l) w' := by
  rintro p ⟨hB,v,hk,hown,hne⟩
  have hlt : b < w.heap.size := Lib.BuilderAt.lt ⟨hB,v,hk,hown,hne⟩
  exact ⟨hB,v,(hb.block b hlt).trans hk,zbZ hown hb,hne⟩
 exact h.imp (key _) (key _)
set_option maxHeartbeats 1000000 in
set_option maxRecDepth 100000 in
theorem zfd (b : Nat) (w : World) (h0 : w.cell? ⟨b,0,none⟩ = some (.pointer (some ⟨b,0,none⟩))) :
  Calls Try.prog 102 #[.pointer (some ⟨b,0,none⟩)] w fun e w' => e = .returned (.tuple #[]) ∧ w = w' := by
 obtain ⟨j,hj,_⟩ := Option.map_eq_some_iff.1 zf2
 go_enter Try.func102,Try.ntmps102
 go_wp2
 rw [Lib.run_neq_ptr_same w _ Try.underlying113 hj]
 go_wp2
 go_end0
 exact ⟨rfl,rfl⟩
set_option maxHeartbeats 1000000 in
set_option maxRecDepth 100000 in
theorem zeN (b : Nat) (w : World) (h0 : w.cell? ⟨b,0,none⟩ = some (.pointer none)) (hsh : w.shape? b = some (115,2)) (hfz : w.frozen? ⟨b,0,none⟩ = false) :
  Calls Try.prog 102 #[.pointer (some ⟨b,0,none⟩)] w fun e w' => e = .returned (.tuple #[]) ∧ w.setCell ⟨b,0,none⟩ (.pointer (some ⟨b,0,none⟩)) = w' := by
 obtain ⟨j,hj,hjs⟩ := Option.map_eq_some_iff.1 zf2
 go_enter Try.func102,Try.ntmps102
 go_wp2
 rw [Lib.run_to_unsafe w ⟨b,0,none⟩ Try.underlying113 Try.underlying133 hj (by rw [hjs];decide) hsh (Nat.zero_lt_succ 1)]
 simp only [Result.andThen]
 rw [Oper.upon_value]
 go_wp2
 rw [run_callFunc_extern Try.func110 (by kernel_rfl) (by kernel_rfl) (by kernel_rfl) (e := Extern.AbiNoEscape.same) (by kernel_rfl)]
 rw [Lib.run_noEscape]
 simp only [Result.andThen]
 rw [Oper.upon_value]
 go_wp2
 rw [Lib.run_from_unsafe w ⟨b,0,none⟩ Try.underlying133 Try.underlying113 hj hsh bldLies]
 simp only [Result.andThen]
 rw [Oper.upon_value]
 go_wp2
 go_end0
 exact ⟨rfl,rfl⟩
theorem zfT (B b : Nat) (bs : List Value) (w : World) (h : Lib.IsBuilder 115 5 B b bs w) :
  Calls Try.prog 102 #[.pointer (some ⟨b,0,none⟩)] w fun e w' => e = .returned (.tuple #[]) ∧ (Lib.BuilderAt 115 5 B b (.pointer (some ⟨b,0,none⟩)) bs w' ∧ Below B w w') := by
 rcases h with h | h
 ·refine (zeN b w h.cell0 h.shape h.frozen0).mono ?_
  rintro e w' ⟨rfl,rfl⟩
  exact ⟨rfl,h.used _,(Below.refl B w).setCell (p := ⟨b,0,none⟩) h.1 _⟩
 ·refine (zfd b w h.cell0).mono ?_
  rintro e w' ⟨rfl,rfl⟩
  exact ⟨rfl,h,Below.refl B _⟩
set_option maxHeartbeats 2000000 in
set_option maxRecDepth 100000 in
theorem zdk (B b : Nat) (l : Bs) (s : ByteArray) (w : World) (h : zdH B b l w) (hlen : l.length + s.size ≤ 140737488355328) (hBw : B ≤ w.heap.size) :
  Calls Try.prog 92 #[.pointer (some ⟨b,0,none⟩),.string s] w fun e w' => e = .returned (.tuple #[.int .i64 s.size,.nilIface]) ∧ zdH B b (l ++ ofB s) w' ∧ Below B w w' := by
 obtain ⟨i0,hi,hz0,hz1,hz2⟩ := info_parts bldInfo5
 have hlc : (Lib.byteCells l).length = l.length := Lib.byteCells_length l
 go_enter Try.func92,Try.ntmps92
 go_wp2_with (go_at_call 102;refine (zfT B b _ _ h).mono ?_)
 rintro e w1 ⟨rfl,h1,hb1⟩
 obtain ⟨hB,v,hbk,hown,hne⟩ := h1
 have c0 : w1.cell? ⟨b,0,none⟩ = some (.pointer (some ⟨b,0,none⟩)) := by rw [Lib.cell_of_heap hbk];rfl
 have c1 : w1.cell? ⟨b,1,none⟩ = some v := by rw [Lib.cell_of_heap hbk];rfl
 go_wp2_with (at_builtin;refine Lib.wpList_append_own_string _ rfl _ _ 91 9 rfl B 5 i0 Try.underlying91 Try.underlying9 hi hz0 hz1 hz2 _ _ _ rfl hown s rfl ?c3 ?c4 ?c5 ?_)
 case c3 => unfold maxLen;omega
 case c4 => omega
 case c5 => have := hb1.size;omega
 intro v' w2 hown' hgrow _
 have hlt : b < w1.heap.size := by
  rcases Nat.lt_or_ge b w1.heap.size with h' | h'
  ·exact h'
  ·simp [Array.getElem?_eq_none h'] at hbk
 have hb2 : w2.heap[b]? = some (.cells #[.pointer (some ⟨b,0,none⟩),v] 115 (0,0)) := by
  rw [hgrow.block b hlt (fun e => hne e.symm)]
  exact hbk
 have d0 : w2.cell? ⟨b,0,none⟩ = some (.pointer (some ⟨b,0,none⟩)) := by rw [Lib.cell_of_heap hb2];rfl
 have d1 : w2.cell? ⟨b,1,none⟩ = some v := by rw [Lib.cell_of_heap hb2];rfl
 have f1 : w2.frozen? ⟨b,1,none⟩ = false := Lib.frozen_of_heap hb2 1
 obtain ⟨ao,n',cap,rfl⟩ : ∃ ao n' cap,v' = .slice ao n' cap := by
  rcases hown'.2 with ⟨hv,_⟩ | ⟨g,cap,cur,hv,_⟩
  ·exact ⟨_,_,_,hv⟩
  ·exact ⟨_,_,_,hv⟩
 go_wp2
 go_ret2
 refine ⟨rfl,.inr ?_,?_⟩
 ·have e1 : Lib.byteCells l ++ Lib.strCells s = Lib.byteCells (l ++ ofB s) := by rw [Lib.strCells_eq];simp [Lib.byteCells,ofB]
  rw [e1] at hown'
  refine Lib.BuilderAt.put (T := 115) (e := 5) hB hb2 (bs' := Lib.byteCells (l ++ ofB s)) ?_ (by decide)
  rw [Lib.byteCells_length,List.length_append,zaH]
  exact hown'
 ·exact (hb1.grown hgrow (by have := hb1.size;omega) (fun k hk => (hown.lt k hk).1)).setCell (p := ⟨b,1,none⟩) hB _
set_option maxHeartbeats 1000000 in
set_option maxRecDepth 100000 in
theorem zfS (B b : Nat) (l : Bs) (w : World) (h : zdH B b l w) (h0 : l ≠ []) :
  Calls Try.prog 94 #[.pointer (some ⟨b,0,none⟩)] w fun e w' => e = .returned (.string (toB l)) ∧ Below B w w' := by
 obtain ⟨p,hB,v,hbk,hown,hne⟩ : ∃ p,Lib.BuilderAt 115 5 B b p (Lib.byteCells l) w := by
  rcases h with h | h
  ·exact ⟨_,h⟩
  ·exact ⟨_,h⟩
 have hl0 : l.length ≠ 0 := by simpa using h0
 rw [Lib.byteCells_length] at hown
 obtain ⟨g,cap,cur,rfl,hbg,hg,hnc,hcm,hcs,htake⟩ : ∃ g cap cur,v = .slice (some ⟨g,0,none⟩) l.length cap ∧ B ≤ g ∧ w.heap[g]? = some (.cells cur 5 (0,0)) ∧ l.length ≤ cap ∧ cap ≤ maxLen ∧ cur.size = cap * 1 ∧ cur.toList.take (l.length * 1) = Lib.byteCells l := by
  rcases hown.2 with ⟨_,hz⟩ | ⟨g,cap,cur,hv,r⟩
  ·exact absurd hz hl0
  ·exact ⟨g,cap,cur,hv,r⟩
 have c1 : w.drew.cell? ⟨b,1,none⟩ = some (.slice (some ⟨g,0,none⟩) l.length cap) := by
  have : w.drew.heap[b]? = some (.cells #[p,.slice (some ⟨g,0,none⟩) l.length cap] 115 (0,0)) := hbk
  rw [Lib.cell_of_heap this];rfl
 have hSD : (Builtin.unsafeSliceData_ #[91] 127 #[.slice (some ⟨g,0,none⟩) l.length cap]).run Try.prog w.drew = .ok (.pointer (some ⟨g,0,none⟩)) w.drew :=
  Lib.run_unsafeSliceData_row _ _ _ _ _ _ (by omega)
 have hUS : (Builtin.unsafeString_ #[127,3] 9 #[.pointer (some ⟨g,0,none⟩),.int .i64 l.length]).run Try.prog w.drew = .ok (.string ⟨l.toArray⟩) (w.drew.freeze ⟨g,0,none⟩ l.length) := by
  refine Lib.run_unsafeString_row w.drew 127 3 9 5 Try.underlying127 (by kernel_rfl) g cur.size (by have hg' : w.drew.heap[g]? = some (.cells cur 5 (0,0)) := hg;simp [World.shape?,hg']) l h0 (by omega) (by unfold maxLen at hcm;omega) ?_
  intro j x hx
  have := hown.cells (g := g) rfl j (.int .u8 x.toNat) (by simp [Lib.byteCells,hx])
  exact this
 go_enter Try.func94,Try.ntmps94
 go_wp2
 go_region
 all_goals (go_wp2;go_ret;exact ⟨rfl,Lib.below_freeze (Below.drew (Below.refl B w)) (p := ⟨g,0,none⟩) hbg _⟩)
def zbf (l : List ByteArray) : Bs := l.flatMap (fun t => zfM (ofB t))
def zc4 (l : List ByteArray) : Bs := zdl l.length ++ zbf l
theorem zfI (l : List ByteArray) (k : Nat) (t : ByteArray) (h : l[k]? = some t) : zbf (l.take (k + 1)) = zbf (l.take k) ++ ofB (zfL t) := by
 have hk := (List.getElem?_eq_some_iff.1 h)
 obtain ⟨hk,rfl⟩ := hk
 rw [List.take_succ_eq_append_getElem hk,zbf,zbf,List.flatMap_append,textB_eq,zdB]
 simp
theorem zdM (l : List ByteArray) (k : Nat) : (zbf (l.take k)).length ≤ (zbf l).length := by
 have : zbf l = zbf (l.take k) ++ zbf (l.drop k) := by rw [zbf,zbf,zbf,← List.flatMap_append,List.take_append_drop]
 rw [this,List.length_append];omega
theorem rowOf_ge (l : List ByteArray) : l.length ≤ (zbf l).length := by
 induction l with
 | nil => simp
 | cons t l ih =>
  have : zbf (t :: l) = zfM (ofB t) ++ zbf l := rfl
  rw [this,List.length_append,List.length_cons,zfM,zdl]
  simp only [List.length_cons,List.length_append]
  omega
theorem zgu (l : List ByteArray) (k : Nat) (t : ByteArray) (h : l[k]? = some t) : t.size ≤ (zbf l).length := by
 have h1 := zfI l k t h
 have h2 := zdM l (k + 1)
 rw [h1,List.length_append,zaH,zfL,ByteArray.size_append] at h2
 omega
def zK.Bld (B : Nat) (l : List ByteArray) (k : Nat) (w0 wr : World) : Prop := zdH B w0.heap.size (zdl l.length ++ zbf (l.take k)) wr ∧ Below w0.heap.size w0 wr
theorem zK.walk (A : Option Addr) (c : Nat) (l : List ByteArray) (w : World) (hr : Kd.C Kd.string w A l.length l) (hc : l.length ≤ c) (hs : (zc4 l).length ≤ 140737488355328) :
  Calls Try.prog 71 #[.slice A l.length c] w fun e w' => e = .returned (.string (toB (zc4 l))) ∧ Below w.heap.size w w' := by
 have hm := hr.2.1
 have hll := rowOf_ge l
 have hsum : (zc4 l).length = (zdl l.length).length + (zbf l).length := by rw [zc4,List.length_append]
 have hlen : l.length ≤ 140737488355328 := by omega
 have HN := za.mk (zcQ l.length (by omega))
 have HR := za.mk hr
 have HF : za (zdH w.heap.size w.heap.size [] (w.alloc (.cells #[.pointer none,.slice none 0 0] 115))) := ⟨Lib.fresh_isBuilder 115 5 w⟩
 have HS := za.mk hs
 have HU := za.mk hsum
 clear hr hs hll hsum
 go_enter Try.func71,Try.ntmps71
 go_wp2_with (go_at_call 70;(with_reducible refine (z4.calls _ _ _ HN.out).mono ?_);rintro e w1 ⟨rfl,hb1⟩)
 have hB1 := zdH.below HF.out hb1
 have hw1 : Below w.heap.size w w1 := zh ((Below.refl _ _).alloc (Nat.le_refl _) _) hb1
 have hsz1 := hw1.size
 clear hb1
 refine (zdk w.heap.size w.heap.size [] (zbr l.length) w1 hB1 (by have := zbP (v := l.length) (by omega);simp;omega) hsz1).mono ?_
 rintro e w2 ⟨rfl,hB2,hw2⟩
 have HL : za (zK.Bld w.heap.size l 0 w w2) := ⟨by rw [zbr,zdB,List.nil_append] at hB2;rw [List.take_zero,show zbf [] = [] from rfl,List.append_nil];exact hB2,hw1.trans hw2⟩
 clear hB1 hB2 hw1 hw2 hsz1
 go_wp2_with fail
 go_loopw [5,13] (fun _ v13 wr => ∃ k : Nat,v13 = .int .i64 k ∧ k ≤ l.length ∧ za (zK.Bld w.heap.size l k w wr)) (fun _ v13 _ => l.length - (match v13 with | .int _ q => q | _ => 0).toNat)
 case atStart => exact ⟨0,rfl,Nat.zero_le _,HL⟩
 case round =>
  obtain ⟨k,rfl,hk,HK⟩ := hrel
  by_cases hlt : k < l.length
  ·obtain ⟨ad,rfl,hcell⟩ := Kd.at_string (Kd.C_below HR.out HK.out.2) (k : Int) (by omega) (by omega)
   rw [Int.toNat_natCast] at hcell
   have hb : decide (k < l.length) = true := decide_eq_true hlt
   have hx : l[k]? = some (zz ByteArray.empty l (k : Int)) := by
    rw [zz,Int.toNat_natCast,List.getD_eq_getElem?_getD,List.getElem?_eq_getElem hlt];rfl
   have HX := za.mk hx
   clear hx
   generalize zz ByteArray.empty l (k : Int) = s at *
   have hs := zgu l k s HX.out
   have HT := za.mk (zfe s (by have := HS.out;have := HU.out;omega))
   have h2 := zfI l k s HX.out
   have h3 := zdM l (k + 1)
   rw [h2,List.length_append,zaH] at h3
   have H2 := za.mk h2
   have H3 : za ((zdl l.length ++ zbf (l.take k)).length + (zfL s).size ≤ 140737488355328) := ⟨by rw [List.length_append];have := HS.out;have := HU.out;omega⟩
   clear h2 h3 hs
   go_wp2_with (go_at_call 93;(with_reducible refine (zbO.calls _ _ _ HT.out).mono ?_);rintro e w3 ⟨rfl,hb3⟩)
   refine (zdk w.heap.size w.heap.size _ (zfL s) w3 (zdH.below HK.out.1 hb3) H3.out (Nat.le_trans HK.out.2.size hb3.size)).mono ?_
   rintro e w4 ⟨rfl,hB4,hw4⟩
   have HL4 : za (zK.Bld w.heap.size l (k + 1) w w4) := ⟨by rw [H2.out,← List.append_assoc];exact hB4,(zh HK.out.2 hb3).trans hw4⟩
   clear hB4 hw4 hb3
   go_wp2
   go_roundw
   case rel => exact ⟨k + 1,by go_num,by omega,HL4⟩
   case measure => simp;omega
  ·obtain rfl : k = l.length := by omega
   have HE : za (zdl l.length ++ zbf (l.take l.length) = zc4 l) := ⟨by rw [List.take_of_length_le (Nat.le_refl _)];rfl⟩
   go_wp2_with (go_at_call 94;refine (zfS w.heap.size w.heap.size _ _ HK.out.1 (by simp [zdl])).mono ?_;rintro e w3 ⟨rfl,hb3⟩)
   go_ret
   exact ⟨rfl,HK.out.2.trans hb3⟩
def zK.f (l0 : List ByteArray) : Option (ByteArray) := if (zc4 l0).length ≤ 140737488355328 then (some (toB (zc4 l0))) else (none)
theorem zK.calls (A0 : Option Addr) (c0 : Nat) (l0 : List ByteArray) (r : ByteArray) (w : World) (hr0 : Kd.C Kd.string w A0 l0.length l0) (hc0 : l0.length ≤ c0) (h : zK.f l0 = some r) :
  Calls Try.prog 71 #[.slice A0 l0.length c0] w fun e w' => e = .returned (.string r) ∧ Below w.heap.size w w' := by
 unfold zK.f at h
 split at h
 ·rename_i hs
  obtain rfl := Option.some.inj h
  exact zK.walk A0 c0 l0 w hr0 hc0 hs
 ·cases h
def zav.f (a0_0 : Int) (a0_1 : Int) (l0_2 : List ByteArray) : Option (ByteArray × Int) := (zaE.f a0_0 a0_1 l0_2).bind fun t109 => (if t109 = true then ((z4.f (IntKind.u64.wrap (a0_0))).bind fun t110 => ((z4.f (IntKind.u64.wrap (a0_1))).bind fun t111 => (if t110.size + t111.size ≤ 9223372036854775807 then ((zK.f l0_2).bind fun t112 => (if (t110 ++ t111).size + t112.size ≤ 9223372036854775807 then (some ((t110 ++ t111) ++ t112,0)) else (none))) else (none)))) else (some ((⟨#[]⟩ : ByteArray),1)))
def zav.T3 : Bool × List (List Nat × List Nat) := (true,[([],[]),([0],[0]),([1],[1]),([2],[2]),([],[]),([4],[4]),([5],[5]),([6,3],[6]),([3,7],[3,7]),([],[]),([9],[9]),([10,7],[10]),([8,11],[8,11]),([12,11,0,1,2,3,4,5,6,7,8,9,10,11,12],[12]),([13,0,1,2,3,4,5,6,7,8,9,10,11,12,13],[])])
def zav.B3 : List Nat := [0,1,3,7,0,16,48,127,255,0,512,1791,4095,8191,16383]
theorem zav.tab3 : zbI .any (zd6 Try.f67 3) = zav.T3 := by kernel_rfl
theorem zav.bits3 : zbw zav.T3.2 zav.B3 = true := by kernel_rfl
set_option maxHeartbeats 8000000 in
set_option maxRecDepth 100000 in
theorem zav.calls (a0_0 : Int) (a0_1 : Int) (A0_2 : Option Addr) (c0_2 : Nat) (l0_2 : List ByteArray) (r1 : ByteArray) (r2 : Int) (w : World) (hr0_2 : Kd.C Kd.string w A0_2 l0_2.length l0_2) (hc0_2 : l0_2.length ≤ c0_2) (h : zav.f a0_0 a0_1 l0_2 = some (r1,r2)) :
  Calls Try.prog 67 #[.agg #[.int .i64 a0_0,.int .i64 a0_1,.slice A0_2 l0_2.length c0_2]] w fun e w' => e = .returned (.tuple #[.string r1,.int .i64 r2]) ∧ Below w.heap.size w w' := by
 have hu78 := Try.underlying78
 have HR0_2 := za.mk hr0_2
 have HC0_2 := za.mk hc0_2
 clear hr0_2 hc0_2
 have HB := za.mk (Below.refl w.heap.size w)
 have H : ((zaE.f a0_0 a0_1 l0_2).bind fun t109 => (if t109 = true then ((z4.f (IntKind.u64.wrap (a0_0))).bind fun t110 => ((z4.f (IntKind.u64.wrap (a0_1))).bind fun t111 => (if t110.size + t111.size ≤ 9223372036854775807 then ((zK.f l0_2).bind fun t112 => (if (t110 ++ t111).size + t112.size ≤ 9223372036854775807 then (some ((t110 ++ t111) ++ t112,0)) else (none))) else (none)))) else (some ((⟨#[]⟩ : ByteArray),1)))) = some (r1,r2) := h
 clear h
 replace H := Option.bind_eq_some_iff.mp H
 obtain ⟨t109,A20,H⟩ := H
 replace H : (if t109 = true then ((z4.f (IntKind.u64.wrap (a0_0))).bind fun t110 => ((z4.f (IntKind.u64.wrap (a0_1))).bind fun t111 => (if t110.size + t111.size ≤ 9223372036854775807 then ((zK.f l0_2).bind fun t112 => (if (t110 ++ t111).size + t112.size ≤ 9223372036854775807 then (some ((t110 ++ t111) ++ t112,0)) else (none))) else (none)))) else (some ((⟨#[]⟩ : ByteArray),1))) = some (r1,r2) := H
 have A2 := za.mk A20
 clear A20
 by_cases c3 : t109 = true
 ·subst c3
  have H1 : ((z4.f (IntKind.u64.wrap (a0_0))).bind fun t110 => ((z4.f (IntKind.u64.wrap (a0_1))).bind fun t111 => (if t110.size + t111.size ≤ 9223372036854775807 then ((zK.f l0_2).bind fun t112 => (if (t110 ++ t111).size + t112.size ≤ 9223372036854775807 then (some ((t110 ++ t111) ++ t112,0)) else (none))) else (none)))) = some (r1,r2) := by rw [if_pos rfl] at H;exact H
  clear H
  have H := H1
  clear H1
  replace H := Option.bind_eq_some_iff.mp H
  obtain ⟨t110,A40,H⟩ := H
  replace H : ((z4.f (IntKind.u64.wrap (a0_1))).bind fun t111 => (if t110.size + t111.size ≤ 9223372036854775807 then ((zK.f l0_2).bind fun t112 => (if (t110 ++ t111).size + t112.size ≤ 9223372036854775807 then (some ((t110 ++ t111) ++ t112,0)) else (none))) else (none))) = some (r1,r2) := H
  have A4 := za.mk A40
  clear A40
  replace H := Option.bind_eq_some_iff.mp H
  obtain ⟨t111,A50,H⟩ := H
  replace H : (if t110.size + t111.size ≤ 9223372036854775807 then ((zK.f l0_2).bind fun t112 => (if (t110 ++ t111).size + t112.size ≤ 9223372036854775807 then (some ((t110 ++ t111) ++ t112,0)) else (none))) else (none)) = some (r1,r2) := H
  have A5 := za.mk A50
  clear A50
  by_cases c6 : t110.size + t111.size ≤ 9223372036854775807
  ·rw [if_pos c6] at H
   have c6b0 := eq_true c6
   have c6b1 : decide (t110.size + t111.size ≤ 9223372036854775807) = true := decide_eq_true c6
   try have c6b2 : (9223372036854775807 < t110.size + t111.size) = False := eq_false (Nat.not_lt.2 c6)
   replace H := Option.bind_eq_some_iff.mp H
   obtain ⟨t112,A70,H⟩ := H
   replace H : (if (t110 ++ t111).size + t112.size ≤ 9223372036854775807 then (some ((t110 ++ t111) ++ t112,0)) else (none)) = some (r1,r2) := H
   have A7 := za.mk A70
   clear A70
   by_cases c8 : (t110 ++ t111).size + t112.size ≤ 9223372036854775807
   ·rw [if_pos c8] at H
    have c8b0 := eq_true c8
    have c8b1 : decide ((t110 ++ t111).size + t112.size ≤ 9223372036854775807) = true := decide_eq_true c8
    try have c8b2 : (9223372036854775807 < (t110 ++ t111).size + t112.size) = False := eq_false (Nat.not_lt.2 c8)
    try (have c8b3 := c8;simp [ByteArray.size_append] at c8b3;have c8b4 := eq_false (Nat.not_lt.2 c8b3);clear c8b3)
    simp only [Option.some.injEq,Prod.mk.injEq] at H
    obtain ⟨rfl,rfl⟩ := H
    go_enter Try.func67,Try.ntmps67
    try go_wp2_with (first | ((with_reducible refine zp (N := 1) rfl ?_);refine zn rfl (N := 1) rfl (cs := #[.int .i64 a0_0,.int .i64 a0_1,.slice A0_2 l0_2.length c0_2]) (t := 78) hrq ?_;intro gb108 hg w9 hbox hb;have n_ := haq (zh hBq hb) <| haq (hbox) <| haq ((by rw [hg];exact (zj hBq) : w.heap.size ≤ gb108)) <| haq ((by rw [hg];exact (zj hBq) : w.heap.size ≤ gb108)) <| trivial;clear HB;obtain ⟨HB,BK108,GW108,GE108,_⟩ := n_;clear hb hbox hg;obtain ⟨hcz10_0,hcz10_1,hcz10_2,hfz10_0,hfz10_1,hfz10_2⟩ := hcq3 BK108.out) | ((with_reducible refine zN (f := 87) rfl ?_);refine zaG (some 5) rfl rfl Try.func87 (by kernel_rfl) rfl #[.agg #[.int .i64 a0_0,.int .i64 a0_1,.slice A0_2 l0_2.length c0_2]] rfl hMq ?_;(with_reducible refine (zaE.calls a0_0 a0_1 _ _ l0_2 true _ ?side1 ?side2 A2.out).mono ?_);(case side1 => exact hKq (Kd.C_below HR0_2.out HB.out));(case side2 => exact HC0_2.out);rintro e w11 ⟨rfl,hb⟩;refine ⟨_,rfl,?_⟩;have n_ := haq (hbq BK108.out hb) <| haq (zh hCq hb) <| trivial;clear BK108 HB;obtain ⟨BK108,HB,_⟩ := n_;(try clear hb);(try clear hb2);(try clear hk);(try clear hi)))
    have n0_ := za.mk (zG BK108.out)
    have n1_ := za.mk (zx HB.out)
    clear BK108
    clear HB
    have BK108 := n0_
    have HB := n1_
    clear n0_ n1_
    refine zbk (n := 15) (S := fun w' => w'.cell? ⟨gb108,0,none⟩ = some (.int .i64 a0_0) ∧ w'.cell? ⟨gb108,1,none⟩ = some (.int .i64 a0_1) ∧ w'.cell? ⟨gb108,2,none⟩ = some (.slice A0_2 l0_2.length c0_2)) (ds := []) (uQ 15 0) (by kernel_rfl) rfl rfl ⟨(zb BK108.out 0).trans rfl,(zb BK108.out 1).trans rfl,(zb BK108.out 2).trans rfl⟩ (fun hHeld => ?_);refine zaz zav.tab3 zav.bits3 (fun HT_ HW_ => ?_)
    generalize w11.drew = w12 at BK108 HB hHeld ⊢
    refine puq (i := 0) (N := some 7) HT_.out (uQ 15 1) ?_
    refine puq (i := 4) (N := some 11) HT_.out #[true,false,false,false,true,false,false,false,false,false,false,false,false,false,false] ?_
    refine puq (i := 9) (N := some 16) HT_.out #[true,false,false,false,true,false,false,false,false,true,false,false,false,false,false] ?_
    refine take_ (i := 1) (N := some 8) #[true,true,false,false,true,false,false,false,false,true,false,false,false,false,false] rfl rfl (zI HT_.out HW_.out (by kernel_rfl)) (fun _ _ _ h => h) (Or.inl ⟨by rfl,by rintro w' ⟨s0,s1,s2⟩;go_simp;with_reducible rfl⟩) hHeld hPq ?_
    refine puq (i := 2) (N := some 9) HT_.out #[true,true,true,false,true,false,false,false,false,true,false,false,false,false,false] ?_
    refine take_ (i := 5) (N := some 12) #[true,true,true,false,true,true,false,false,false,true,false,false,false,false,false] rfl rfl (zI HT_.out HW_.out (by kernel_rfl)) (fun _ _ _ h => h) (Or.inl ⟨by rfl,by rintro w' ⟨s0,s1,s2⟩;go_simp;with_reducible rfl⟩) hHeld hPq ?_
    refine puq (i := 6) (N := some 13) HT_.out #[true,true,true,false,true,true,true,false,false,true,false,false,false,false,false] ?_
    refine take_ (i := 10) (N := some 17) #[true,true,true,false,true,true,true,false,false,true,true,false,false,false,false] rfl rfl (zI HT_.out HW_.out (by kernel_rfl)) (fun _ _ _ h => h) (Or.inl ⟨by rfl,by rintro w' ⟨s0,s1,s2⟩;go_simp;with_reducible rfl⟩) hHeld hPq ?_
    refine zb6 (i := 3) (N := some 10) #[true,true,true,true,true,true,true,false,false,true,true,false,false,false,false] rfl rfl (zaO HT_.out (by kernel_rfl)) (by decide) (fun K hK => ?_)
    refine za8 Try.func70 (by kernel_rfl) rfl #[.int .u64 (IntKind.u64.wrap (a0_0))] (by rfl) rfl rfl hMq ?_
    with_reducible refine (z4.calls (IntKind.u64.wrap (a0_0)) t110 _ A4.out).mono ?_
    rintro e w13 ⟨rfl,hb⟩
    refine ⟨_,rfl,?_⟩
    have n0_ := za.mk (hbq BK108.out hb)
    have n1_ := za.mk (zh hCq hb)
    clear BK108
    clear HB
    have BK108 := n0_
    have HB := n1_
    clear n0_ n1_
    (try clear hb)
    (try clear hb2)
    (try clear hk)
    (try clear hi)
    refine hK.out _ _ ⟨(zb BK108.out 0).trans rfl,(zb BK108.out 1).trans rfl,(zb BK108.out 2).trans rfl⟩ (fun hHeld => ?_)
    clear hK K
    refine za9 (a' := ?_) ?_ ?_
    rotate_left
    ·show Act.put _ (some 10) _ = _
     simp only [Act.put,List.setIfInBounds_toArray,List.set_cons_zero,List.set_cons_succ,z8,zaa]
     rfl
    refine zb6 (i := 7) (N := some 14) #[true,true,true,true,true,true,true,true,false,true,true,false,false,false,false] rfl rfl (zaO HT_.out (by kernel_rfl)) (by decide) (fun K hK => ?_)
    refine za8 Try.func70 (by kernel_rfl) rfl #[.int .u64 (IntKind.u64.wrap (a0_1))] (by rfl) rfl rfl hMq ?_
    with_reducible refine (z4.calls (IntKind.u64.wrap (a0_1)) t111 _ A5.out).mono ?_
    rintro e w14 ⟨rfl,hb⟩
    refine ⟨_,rfl,?_⟩
    have n0_ := za.mk (hbq BK108.out hb)
    have n1_ := za.mk (zh hCq hb)
    clear BK108
    clear HB
    have BK108 := n0_
    have HB := n1_
    clear n0_ n1_
    (try clear hb)
    (try clear hb2)
    (try clear hk)
    (try clear hi)
    refine hK.out _ _ ⟨(zb BK108.out 0).trans rfl,(zb BK108.out 1).trans rfl,(zb BK108.out 2).trans rfl⟩ (fun hHeld => ?_)
    clear hK K
    refine za9 (a' := ?_) ?_ ?_
    rotate_left
    ·show Act.put _ (some 14) _ = _
     simp only [Act.put,List.setIfInBounds_toArray,List.set_cons_zero,List.set_cons_succ,z8,zaa]
     rfl
    refine puq (i := 8) (N := some 15) HT_.out (uQ 15 11) ?_
    refine zb6 (i := 11) (N := some 18) (uQ 15 12) rfl rfl (zaO HT_.out (by kernel_rfl)) (by decide) (fun K hK => ?_)
    refine za8 Try.func71 (by kernel_rfl) rfl #[.slice A0_2 l0_2.length c0_2] (by rfl) rfl rfl hMq ?_
    with_reducible refine (zK.calls _ _ l0_2 t112 _ ?side1 ?side2 A7.out).mono ?_
    (case side1 => exact hKq (Kd.C_below HR0_2.out HB.out))
    (case side2 => exact HC0_2.out)
    rintro e w15 ⟨rfl,hb⟩
    refine ⟨_,rfl,?_⟩
    have n0_ := za.mk (hbq BK108.out hb)
    have n1_ := za.mk (zh hCq hb)
    clear BK108
    clear HB
    have BK108 := n0_
    have HB := n1_
    clear n0_ n1_
    (try clear hb)
    (try clear hb2)
    (try clear hk)
    (try clear hi)
    refine hK.out _ _ ⟨(zb BK108.out 0).trans rfl,(zb BK108.out 1).trans rfl,(zb BK108.out 2).trans rfl⟩ (fun hHeld => ?_)
    clear hK K
    refine za9 (a' := ?_) ?_ ?_
    rotate_left
    ·show Act.put _ (some 18) _ = _
     simp only [Act.put,List.setIfInBounds_toArray,List.set_cons_zero,List.set_cons_succ,z8,zaa]
     rfl
    refine puq (i := 12) (N := some 19) HT_.out (uQ 15 13) ?_
    refine puq (i := 13) (N := some 2) HT_.out (uQ 15 14) ?_
    refine puq (i := 14) (N := some 3) HT_.out (uQ 15 15) ?_
    refine zbl (zaF HT_.out (by kernel_rfl)) ?_
    try go_wp2
    go_ret2
    exact ⟨hHq,hCq⟩
   ·rw [if_neg c8] at H
    exact absurd H (by simp)
  ·rw [if_neg c6] at H
   exact absurd H (by simp)
 ·replace c3 := Bool.eq_false_iff.mpr c3
  subst c3
  have H1 : (some ((⟨#[]⟩ : ByteArray),1)) = some (r1,r2) := by rw [if_neg (show ¬ (false = true) by decide)] at H;exact H
  clear H
  have H := H1
  clear H1
  simp only [Option.some.injEq,Prod.mk.injEq] at H
  obtain ⟨rfl,rfl⟩ := H
  go_enter Try.func67,Try.ntmps67
  go_wp2_with (first | ((with_reducible refine zp (N := 1) rfl ?_);refine zn rfl (N := 1) rfl (cs := #[.int .i64 a0_0,.int .i64 a0_1,.slice A0_2 l0_2.length c0_2]) (t := 78) hrq ?_;intro gb108 hg w16 hbox hb;have n_ := haq (zh hBq hb) <| haq (hbox) <| haq ((by rw [hg];exact (zj hBq) : w.heap.size ≤ gb108)) <| haq ((by rw [hg];exact (zj hBq) : w.heap.size ≤ gb108)) <| trivial;clear HB;obtain ⟨HB,BK108,GW108,GE108,_⟩ := n_;clear hb hbox hg;obtain ⟨hcz17_0,hcz17_1,hcz17_2,hfz17_0,hfz17_1,hfz17_2⟩ := hcq3 BK108.out) | ((with_reducible refine zN (f := 87) rfl ?_);refine zaG (some 5) rfl rfl Try.func87 (by kernel_rfl) rfl #[.agg #[.int .i64 a0_0,.int .i64 a0_1,.slice A0_2 l0_2.length c0_2]] rfl hMq ?_;(with_reducible refine (zaE.calls a0_0 a0_1 _ _ l0_2 false _ ?side1 ?side2 A2.out).mono ?_);(case side1 => exact hKq (Kd.C_below HR0_2.out HB.out));(case side2 => exact HC0_2.out);rintro e w18 ⟨rfl,hb⟩;refine ⟨_,rfl,?_⟩;have n_ := haq (hbq BK108.out hb) <| haq (zh hCq hb) <| trivial;clear BK108 HB;obtain ⟨BK108,HB,_⟩ := n_;(try clear hb);(try clear hb2);(try clear hk);(try clear hi)))
  go_ret2
  exact ⟨hHq,hCq⟩
def zH.l0 : Nat → List ByteArray → List ByteArray → Int → Option (Bool)
 | 0,_,_,_ => none
 | k + 1,x0,x1,x5 => if x5 < (x0.length : Int) then (if 0 ≤ x5 then (if x5 < (x1.length : Int) then (if (zz ByteArray.empty x0 x5).toList = (zz ByteArray.empty x1 x5).toList then (zH.l0 k x0 x1 (wrap64 (x5 + 1))) else (some false)) else (none)) else (none)) else (some true)
def zH.f (k : Nat) (l0 : List ByteArray) (l1 : List ByteArray) : Option (Bool) := if (l0.length : Int) = (l1.length : Int) then (zH.l0 k l0 l1 0) else (some false)
set_option maxHeartbeats 8000000 in
set_option maxRecDepth 100000 in
theorem zH.calls (k : Nat) (A0 : Option Addr) (c0 : Nat) (l0 : List ByteArray) (A1 : Option Addr) (c1 : Nat) (l1 : List ByteArray) (r : Bool) (w : World) (hr0 : Kd.C Kd.string w A0 l0.length l0) (hc0 : l0.length ≤ c0) (hr1 : Kd.C Kd.string w A1 l1.length l1) (hc1 : l1.length ≤ c1) (h : zH.f k l0 l1 = some r) :
  Calls Try.prog 43 #[.slice A0 l0.length c0,.slice A1 l1.length c1] w fun e w' => e = .returned (.bool r) ∧ za3 w w' := by
 have HR0 := za.mk hr0
 have HC0 := za.mk hc0
 clear hr0 hc0
 have HR1 := za.mk hr1
 have HC1 := za.mk hc1
 clear hr1 hc1
 have H : (if (l0.length : Int) = (l1.length : Int) then (zH.l0 k l0 l1 0) else (some false)) = some r := h
 clear h
 by_cases c3 : (l0.length : Int) = (l1.length : Int)
 ·rw [if_pos c3] at H
  have c3b0 : ((l0.length : Int) == (l1.length : Int)) = true := beq_iff_eq.mpr c3
  have c3b1 : ((l0.length : Int) != (l1.length : Int)) = false := bne_eq_false_iff_eq.mpr c3
  have c3b2 : (l0.length == l1.length) = true := by first | simpa using c3 | (simp at c3 ⊢;omega)
  clear c3
  have H' := za.mk H
  clear H
  go_enter Try.func43,Try.ntmps43
  go_wp2
  repeat (go_quiet (fail);try go_wp2)
  go_loopg [5] k (fun kq v5 w' => ∃ (x5_1 : Int),v5 = .int .i64 x5_1 ∧ za (zH.l0 kq l0 l1 x5_1 = some r) ∧ za (kq ≤ k) ∧ za3 w w')
  case atStart => exact ⟨(0),(hDq),H',⟨Nat.le_refl _⟩,hEq⟩
  case round =>
   clear H'
   try clear c1;try clear p2;try clear c3;try clear c3b0;try clear c3b1;try clear c3b2
   obtain ⟨x5_1,rfl,HA,HK1,⟨m1,rfl⟩⟩ := hrel
   cases gk with
   | zero => exact absurd HA.out (by simp [zH.l0])
   | succ k1 =>
    have H := HA.out
    clear HA
    simp only [zH.l0] at H
    by_cases c4 : x5_1 < (l0.length : Int)
    ·rw [if_pos c4] at H
     have c4b0 : decide (x5_1 < (l0.length : Int)) = true := decide_eq_true c4
     clear c4
     by_cases c5 : 0 ≤ x5_1
     ·rw [if_pos c5] at H
      have c5b0 : decide (0 ≤ x5_1) = true := decide_eq_true c5
      clear c5
      by_cases c6 : x5_1 < (l1.length : Int)
      ·rw [if_pos c6] at H
       have c6b0 : decide (x5_1 < (l1.length : Int)) = true := decide_eq_true c6
       clear c6
       by_cases c7 : (zz ByteArray.empty l0 x5_1).toList = (zz ByteArray.empty l1 x5_1).toList
       ·rw [if_pos c7] at H
        have c7b0 : ((zz ByteArray.empty l0 x5_1).toList == (zz ByteArray.empty l1 x5_1).toList) = true := beq_iff_eq.mpr c7
        have c7b1 : ((zz ByteArray.empty l0 x5_1).toList != (zz ByteArray.empty l1 x5_1).toList) = false := bne_eq_false_iff_eq.mpr c7
        clear c7
        have H' := za.mk H
        clear H
        have p234 : 0 ≤ (x5_1 : Int) := hFq
        have q234 : x5_1 < (l0.length : Int) := hFq
        obtain ⟨ad234,e234,hx234_0⟩ := Kd.at_string HR0.out x5_1 p234 q234
        cases e234
        replace p234 := eq_true p234
        replace q234 := eq_true q234
        have p235 : 0 ≤ (x5_1 : Int) := hFq
        have q235 : x5_1 < (l1.length : Int) := hFq
        obtain ⟨ad235,e235,hx235_0⟩ := Kd.at_string HR1.out x5_1 p235 q235
        cases e235
        replace p235 := eq_true p235
        replace q235 := eq_true q235
        go_wp2
        repeat (go_quiet (fail);try go_wp2)
        go_roundg k1
        case measure => have := HK1.out;omega
        case rel => exact ⟨(wrap64 (x5_1 + 1)),(hDq),H',⟨by have := HK1.out;omega⟩,hEq⟩
       ·rw [if_neg c7] at H
        have c7b0 : ((zz ByteArray.empty l0 x5_1).toList == (zz ByteArray.empty l1 x5_1).toList) = false := beq_eq_false_iff_ne.mpr c7
        have c7b1 : ((zz ByteArray.empty l0 x5_1).toList != (zz ByteArray.empty l1 x5_1).toList) = true := bne_iff_ne.mpr c7
        obtain rfl := Option.some.inj H
        have p234 : 0 ≤ (x5_1 : Int) := hFq
        have q234 : x5_1 < (l0.length : Int) := hFq
        obtain ⟨ad234,e234,hx234_0⟩ := Kd.at_string HR0.out x5_1 p234 q234
        cases e234
        replace p234 := eq_true p234
        replace q234 := eq_true q234
        have p235 : 0 ≤ (x5_1 : Int) := hFq
        have q235 : x5_1 < (l1.length : Int) := hFq
        obtain ⟨ad235,e235,hx235_0⟩ := Kd.at_string HR1.out x5_1 p235 q235
        cases e235
        replace p235 := eq_true p235
        replace q235 := eq_true q235
        go_wp2
        repeat (go_quiet (fail);try go_wp2)
        go_ret
        exact ⟨hDq,hEq⟩
      ·rw [if_neg c6] at H
       exact absurd H (by simp)
     ·rw [if_neg c5] at H
      exact absurd H (by simp)
    ·rw [if_neg c4] at H
     have c4b0 : decide (x5_1 < (l0.length : Int)) = false := decide_eq_false c4
     clear c4
     obtain rfl := Option.some.inj H
     go_wp2
     repeat (go_quiet (fail);try go_wp2)
     go_ret
     exact ⟨hDq,hEq⟩
 ·rw [if_neg c3] at H
  have c3b0 : ((l0.length : Int) == (l1.length : Int)) = false := beq_eq_false_iff_ne.mpr c3
  have c3b1 : ((l0.length : Int) != (l1.length : Int)) = true := bne_iff_ne.mpr c3
  have c3b2 : (l0.length == l1.length) = false := by first | simpa using c3 | (simp at c3 ⊢;omega)
  obtain rfl := Option.some.inj H
  go_enter Try.func43,Try.ntmps43
  go_wp2
  repeat (go_quiet (fail);try go_wp2)
  go_ret
  exact ⟨hDq,hEq⟩
def zaQ.f (k : Nat) (a0_0 : Int) (a0_1 : Int) (l0_2 : List ByteArray) (a1_0 : Int) (a1_1 : Int) (l1_2 : List ByteArray) : Option (Bool) := (zH.f k l0_2 l1_2).bind fun t238 => (if t238 = true then (if a0_0 = a1_0 then (some (a0_1 == a1_1)) else (some false)) else (some false))
set_option maxHeartbeats 8000000 in
set_option maxRecDepth 100000 in
theorem zaQ.calls (k : Nat) (a0_0 : Int) (a0_1 : Int) (A0_2 : Option Addr) (c0_2 : Nat) (l0_2 : List ByteArray) (a1_0 : Int) (a1_1 : Int) (A1_2 : Option Addr) (c1_2 : Nat) (l1_2 : List ByteArray) (r : Bool) (w : World) (hr0_2 : Kd.C Kd.string w A0_2 l0_2.length l0_2) (hc0_2 : l0_2.length ≤ c0_2) (hr1_2 : Kd.C Kd.string w A1_2 l1_2.length l1_2) (hc1_2 : l1_2.length ≤ c1_2) (h : zaQ.f k a0_0 a0_1 l0_2 a1_0 a1_1 l1_2 = some r) :
  Calls Try.prog 62 #[.agg #[.int .i64 a0_0,.int .i64 a0_1,.slice A0_2 l0_2.length c0_2],.agg #[.int .i64 a1_0,.int .i64 a1_1,.slice A1_2 l1_2.length c1_2]] w fun e w' => e = .returned (.bool r) ∧ Below w.heap.size w w' := by
 have hu78 := Try.underlying78
 have HR0_2 := za.mk hr0_2
 have HC0_2 := za.mk hc0_2
 clear hr0_2 hc0_2
 have HR1_2 := za.mk hr1_2
 have HC1_2 := za.mk hc1_2
 clear hr1_2 hc1_2
 have HB := za.mk (Below.refl w.heap.size w)
 have H : ((zH.f k l0_2 l1_2).bind fun t238 => (if t238 = true then (if a0_0 = a1_0 then (some (a0_1 == a1_1)) else (some false)) else (some false))) = some r := h
 clear h
 replace H := Option.bind_eq_some_iff.mp H
 obtain ⟨t238,A30,H⟩ := H
 replace H : (if t238 = true then (if a0_0 = a1_0 then (some (a0_1 == a1_1)) else (some false)) else (some false)) = some r := H
 have A3 := za.mk A30
 clear A30
 by_cases c4 : t238 = true
 focus
  subst c4
  have H1 : (if a0_0 = a1_0 then (some (a0_1 == a1_1)) else (some false)) = some r := by rw [if_pos rfl] at H;exact H
  clear H
  have H := H1
  clear H1
  by_cases c5 : a0_0 = a1_0
  focus
   rw [if_pos c5] at H
   have c5b0 : (a0_0 == a1_0) = true := beq_iff_eq.mpr c5
   have c5b1 : (a0_0 != a1_0) = false := bne_eq_false_iff_eq.mpr c5
   clear c5
   obtain rfl := Option.some.inj H
   have EQ0 := True.intro
  rotate_left
  focus
   rw [if_neg c5] at H
   have c5b0 : (a0_0 == a1_0) = false := beq_eq_false_iff_ne.mpr c5
   have c5b1 : (a0_0 != a1_0) = true := bne_iff_ne.mpr c5
   obtain rfl := Option.some.inj H
   have EQ0 := True.intro
 rotate_left 2
 focus
  replace c4 := Bool.eq_false_iff.mpr c4
  subst c4
  have H1 : (some false) = some r := by rw [if_neg (show ¬ (false = true) by decide)] at H;exact H
  clear H
  have H := H1
  clear H1
  obtain rfl := Option.some.inj H
  have EQ1 := True.intro
 all_goals
  go_enter Try.func62,Try.ntmps62
  go_wp2_with (first | ((with_reducible refine zp (N := 2) rfl ?_);refine zn rfl (N := 2) rfl (cs := #[.int .i64 a0_0,.int .i64 a0_1,.slice A0_2 l0_2.length c0_2]) (t := 78) hrq ?_;intro gb236 hg wQN22 hbox hb;have n_ := haq (zh hBq hb) <| haq (hbox) <| haq ((by rw [hg];exact (zj hBq) : w.heap.size ≤ gb236)) <| haq ((by rw [hg];exact (zj hBq) : w.heap.size ≤ gb236)) <| trivial;clear HB;obtain ⟨HB,BK236,GW236,GE236,_⟩ := n_;clear hb hbox hg) | ((with_reducible refine zp (N := 3) rfl ?_);refine zn rfl (N := 3) rfl (cs := #[.int .i64 a1_0,.int .i64 a1_1,.slice A1_2 l1_2.length c1_2]) (t := 78) hrq ?_;intro gb237 hg wQN32 hbox hb;have n_ := haq (hbq BK236.out hb) <| haq (zh hCq hb) <| haq (hbox) <| haq ((by rw [hg];exact (zj hCq) : w.heap.size ≤ gb237)) <| haq ((by rw [hg];exact (zj hCq) : w.heap.size ≤ gb237)) <| haq (hnq hg BK236.out) <| haq (hmq hg BK236.out) <| trivial;clear BK236 HB;obtain ⟨BK236,HB,BK237,GW237,GE237,NBQN37,NBQN38,_⟩ := n_;clear hb hbox hg;have hnbQN39 := NBQN37.out;have hncQN310 := NBQN38.out;obtain ⟨hczQN311,hczQN312,hczQN313,hfzQN314,hfzQN315,hfzQN316⟩ := hcq3 BK236.out;obtain ⟨hczQN317,hczQN318,hczQN319,hfzQN320,hfzQN321,hfzQN322⟩ := hcq3 BK237.out) | (have _ := EQ0;((with_reducible refine zN (f := 43) rfl ?_);refine zaG (some 10) rfl rfl Try.func43 (by kernel_rfl) rfl #[.slice A0_2 l0_2.length c0_2,.slice A1_2 l1_2.length c1_2] rfl hMq ?_;(with_reducible refine (zH.calls k _ _ l0_2 _ _ l1_2 true _ ?side1 ?side2 ?side3 ?side4 A3.out).mono ?_);(case side1 => exact hKq (Kd.C_below HR0_2.out HB.out));(case side2 => exact HC0_2.out);(case side3 => exact hKq (Kd.C_below HR1_2.out HB.out));(case side4 => exact HC1_2.out);rintro e w' ⟨rfl,⟨nd,rfl⟩⟩;refine ⟨_,rfl,?_⟩)) | (have _ := EQ1;((with_reducible refine zN (f := 43) rfl ?_);refine zaG (some 10) rfl rfl Try.func43 (by kernel_rfl) rfl #[.slice A0_2 l0_2.length c0_2,.slice A1_2 l1_2.length c1_2] rfl hMq ?_;(with_reducible refine (zH.calls k _ _ l0_2 _ _ l1_2 false _ ?side1 ?side2 ?side3 ?side4 A3.out).mono ?_);(case side1 => exact hKq (Kd.C_below HR0_2.out HB.out));(case side2 => exact HC0_2.out);(case side3 => exact hKq (Kd.C_below HR1_2.out HB.out));(case side4 => exact HC1_2.out);rintro e w' ⟨rfl,⟨nd,rfl⟩⟩;refine ⟨_,rfl,?_⟩)))
  go_ret
  exact ⟨hHq,hCq⟩
theorem zea (l : List ByteArray) (j : Nat) (h : j < l.length) : zz ByteArray.empty l (j : Int) = l[j] := by
 rw [zz,Int.toNat_natCast,List.getD_eq_getElem?_getD,List.getElem?_eq_getElem h];rfl
theorem zax (a b : ByteArray) : a.toList = b.toList ↔ a = b := by
 rw [zcd,zcd]
 exact ⟨fun h => zic h,fun h => by rw [h]⟩
theorem zbG (a b : ByteArray) : (a.toList == b.toList) = decide (a = b) := by
 rw [Bool.eq_iff_iff];simp [zax]
theorem zgH (a b : List ByteArray) (hl : a.length = b.length) (hb : a.length < 4611686018427387904) (d : Nat) : ∀ j,j + d = a.length →
  Ev (fun k => zH.l0 k a b (j : Int)) (decide (a.drop j = b.drop j)) := by
 induction d with
 | zero =>
  intro j hj
  refine Ev.step (fun k => by rw [zH.l0]) ?_
  refine zU (by omega) (zah (Ev.now _) ?_)
  rw [List.drop_eq_nil_of_le (by omega),List.drop_eq_nil_of_le (by omega)];rfl
 | succ d ih =>
  intro j hj
  refine Ev.step (fun k => by rw [zH.l0]) ?_
  have h1 : j < a.length := by omega
  have h2 : j < b.length := by omega
  refine zF (by omega) (zF (by omega) (zF (by omega) ?_))
  rw [zea a j h1,zea b j h2,List.drop_eq_getElem_cons h1,List.drop_eq_getElem_cons h2,zak (by omega) (by omega)]
  by_cases h : a[j] = b[j]
  ·refine zF (by rw [h]) (zah (ih (j + 1) (by omega)) ?_)
   simp only [List.cons.injEq,h,true_and]
  ·refine zU (by simpa [zax] using h) (zah (Ev.now _) ?_)
   simp only [List.cons.injEq,h,false_and,decide_false]
theorem zfE (a b : List ByteArray) (hb : a.length < 4611686018427387904) : Ev (fun k => zH.f k a b) (decide (a = b)) := by
 by_cases hl : a.length = b.length
 ·exact zF (by omega) (zgH a b hl hb a.length 0 (by omega))
 ·refine zU (by omega) (zah (Ev.now _) ?_)
  rw [eq_comm,decide_eq_false_iff_not]
  exact fun h => hl (by rw [h])
def zda (o q : Int) (l : List ByteArray) (o' q' : Int) (l' : List ByteArray) : Bool := decide (o = o' ∧ q = q' ∧ l = l')
theorem zeP (o q : Int) (l : List ByteArray) (o' q' : Int) (l' : List ByteArray) (hb : l.length < 4611686018427387904) : Ev (fun k => zaQ.f k o q l o' q' l') (zda o q l o' q' l') := by
 unfold zda
 refine Ev.bind (zfE l l' hb) ?_
 by_cases h3 : l = l'
 ·refine zF (by simp [h3]) ?_
  by_cases h1 : o = o'
  ·exact zF h1 (zah (Ev.now _) (by simp [h1,h3,Bool.beq_eq_decide_eq]))
  ·exact zU h1 (zah (Ev.now _) (by simp [h1]))
 ·exact zU (by simp [h3]) (zah (Ev.now _) (by simp [h3]))
theorem zec (l : List ByteArray) (m : Nat) (hm : m < 18446744073709551616) (h : ∀ t ∈ l,t.size ≤ m) : (zbf l).length ≤ l.length * (m + 9) := by
 induction l with
 | nil => simp [zbf]
 | cons t l ih =>
  have e : zbf (t :: l) = zfM (ofB t) ++ zbf l := rfl
  have h1 := h t List.mem_cons_self
  have h2 := ih (fun x hx => h x (List.mem_cons_of_mem _ hx))
  have h3 := zaN (v := (ofB t).length) (by rw [zaH];omega)
  rw [e,List.length_append,zfM,List.length_append,zaH,List.length_cons,Nat.succ_mul]
  rw [zaH] at h3
  omega
theorem zhd (o q : Int) (l : List ByteArray) : zfU o q l = true ↔ 1 ≤ o ∧ o ≤ 64 ∧ 1 ≤ q ∧ q ≤ 1073741824 ∧ 1 ≤ l.length ∧ l.length ≤ 4 ∧ ∀ t ∈ l,1 ≤ t.size ∧ t.size ≤ 48 := by
 unfold zfU
 simp only [Bool.and_eq_true,decide_eq_true_eq,Bool.not_eq_true',List.any_eq_false]
 constructor
 ·rintro ⟨⟨⟨⟨⟨⟨h1,h2⟩,h3⟩,h4⟩,h5⟩,h6⟩,h7⟩
  refine ⟨h1,h2,h3,h4,h5,h6,fun t ht => ?_⟩
  have h8 := h7 t ht
  simp only [zc0,Bool.or_eq_true,decide_eq_true_eq,not_or] at h8
  omega
 ·rintro ⟨h1,h2,h3,h4,h5,h6,h7⟩
  refine ⟨⟨⟨⟨⟨⟨h1,h2⟩,h3⟩,h4⟩,h5⟩,h6⟩,fun t ht => ?_⟩
  have h8 := h7 t ht
  simp only [zc0,Bool.or_eq_true,decide_eq_true_eq,not_or]
  omega
def zgl (o q : Int) (l : List ByteArray) : Bs := zdl o.toNat ++ zdl q.toNat ++ zc4 l
theorem ze8 (o q : Int) (l : List ByteArray) : zav.f o q l = some (if zfU o q l = true then (toB (zgl o q l),0) else ((⟨#[]⟩ : ByteArray),1)) := by
 unfold zav.f zaE.f
 rw [Option.bind_some]
 by_cases h : zfU o q l = true
 ·rw [if_pos h,if_pos h]
  obtain ⟨h1,h2,h3,h4,h5,h6,h7⟩ := (zhd o q l).1 h
  obtain ⟨a,rfl⟩ := Int.eq_ofNat_of_zero_le (show 0 ≤ o by omega)
  obtain ⟨b,rfl⟩ := Int.eq_ofNat_of_zero_le (show 0 ≤ q by omega)
  have r1 := zec l 48 (by omega) (fun t ht => (h7 t ht).2)
  have r2 := zaN (v := l.length) (by omega)
  have r3 : (zc4 l).length ≤ 300 := by rw [zc4,List.length_append];omega
  have n1 := zbP (v := a) (by omega)
  have n2 := zbP (v := b) (by omega)
  have r4 : zK.f l = some (toB (zc4 l)) := by unfold zK.f;rw [if_pos (by omega)]
  rw [zcm (by omega) (by omega),zcm (by omega) (by omega),zcQ a (by omega),zcQ b (by omega)]
  simp only [Option.bind_some]
  rw [if_pos (by omega),r4]
  simp only [Option.bind_some]
  rw [if_pos (by rw [ByteArray.size_append,zb2];omega),zgl,zbK,zbK,Int.toNat_natCast,Int.toNat_natCast]
  rfl
 ·rw [if_neg h,if_neg h]
end Go.Proofs.Ytndjfdakflaggaa.Px