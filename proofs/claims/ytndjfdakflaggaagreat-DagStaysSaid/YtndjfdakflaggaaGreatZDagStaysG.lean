/- Part 7 of 15 of the proof of the law DagStays: what is proved is the statement at the end of the last part; its conditions are those of the given row. -/
import Derived.RegionTactic
import Derived.ChangeAlike
import Derived.Test.YtndjfdakflaggaaGreatZDagStaysE
namespace Go.Proofs.YtndjfdakflaggaaGreat.Px
open Go.RowKit Go.Proofs.YtndjfdakflaggaaGreatW.PrintWords Go.Proofs.YtndjfdakflaggaaGreatW.PrintLast Go.Proofs.YtndjfdakflaggaaGreatW.PrintMore
attribute [local go_sem] zA zC zH zI zv zw zB zD
set_option linter.unusedVariables false
set_option linter.unusedSimpArgs false
theorem bldInfo5 : (Tryz.prog.info? 5).map (fun i => (i.zero,i.size,i.bytes)) = some (some (.int .u8 0),1,1) := by kernel_rfl
theorem zg7 : (Tryz.prog.info? 105).map (·.size) = some 2 := by kernel_rfl
theorem bldLies : liesAt Tryz.prog Tryz.prog.depth 105 (2 / Tryz.prog.cellsOf 105) 0 105 1 = true := by kernel_rfl
abbrev zeA (B b : Nat) (l : Bs) (w : World) : Prop := Lib.IsBuilder 105 5 B b (Lib.byteCells l) w
theorem zeA.below {B b : Nat} {l : Bs} {w w' : World} (h : zeA B b l w) (hb : Below w.heap.size w w') : zeA B b l w' := by
 have key : ∀ p,Lib.BuilderAt 105 5 B b p (Lib.byteCells l) w → Lib.BuilderAt 105 5 B b p (Lib.byteCells l) w' := by
  rintro p ⟨hB,v,hk,hown,hne⟩
  have hlt : b < w.heap.size := Lib.BuilderAt.lt ⟨hB,v,hk,hown,hne⟩
  exact ⟨hB,v,(hb.block b hlt).trans hk,zca hown hb,hne⟩
 exact h.imp (key _) (key _)
set_option maxHeartbeats 1000000 in
set_option maxRecDepth 100000 in
theorem zgf (b : Nat) (w : World) (h0 : w.cell? ⟨b,0,none⟩ = some (.pointer (some ⟨b,0,none⟩))) :
  Calls Tryz.prog 90 #[.pointer (some ⟨b,0,none⟩)] w fun e w' => e = .returned (.tuple #[]) ∧ w = w' := by
 obtain ⟨j,hj,_⟩ := Option.map_eq_some_iff.1 zg7
 go_enter Tryz.func90,Tryz.ntmps90
 go_wp2
 rw [Lib.run_neq_ptr_same w _ Tryz.underlying103 hj]
 go_wp2
 go_end0
 exact ⟨rfl,rfl⟩
set_option maxHeartbeats 1000000 in
set_option maxRecDepth 100000 in
theorem zfN (b : Nat) (w : World) (h0 : w.cell? ⟨b,0,none⟩ = some (.pointer none)) (hsh : w.shape? b = some (105,2)) (hfz : w.frozen? ⟨b,0,none⟩ = false) :
  Calls Tryz.prog 90 #[.pointer (some ⟨b,0,none⟩)] w fun e w' => e = .returned (.tuple #[]) ∧ w.setCell ⟨b,0,none⟩ (.pointer (some ⟨b,0,none⟩)) = w' := by
 obtain ⟨j,hj,hjs⟩ := Option.map_eq_some_iff.1 zg7
 go_enter Tryz.func90,Tryz.ntmps90
 go_wp2
 rw [Lib.run_to_unsafe w ⟨b,0,none⟩ Tryz.underlying103 Tryz.underlying127 hj (by rw [hjs];decide) hsh (Nat.zero_lt_succ 1)]
 simp only [Result.andThen]
 rw [Oper.upon_value]
 go_wp2
 rw [run_callFunc_extern Tryz.func98 (by kernel_rfl) (by kernel_rfl) (by kernel_rfl) (e := Extern.AbiNoEscape.same) (by kernel_rfl)]
 rw [Lib.run_noEscape]
 simp only [Result.andThen]
 rw [Oper.upon_value]
 go_wp2
 rw [Lib.run_from_unsafe w ⟨b,0,none⟩ Tryz.underlying127 Tryz.underlying103 hj hsh bldLies]
 simp only [Result.andThen]
 rw [Oper.upon_value]
 go_wp2
 go_end0
 exact ⟨rfl,rfl⟩
theorem zgR (B b : Nat) (bs : List Value) (w : World) (h : Lib.IsBuilder 105 5 B b bs w) :
  Calls Tryz.prog 90 #[.pointer (some ⟨b,0,none⟩)] w fun e w' => e = .returned (.tuple #[]) ∧ (Lib.BuilderAt 105 5 B b (.pointer (some ⟨b,0,none⟩)) bs w' ∧ Below B w w') := by
 rcases h with h | h
 ·refine (zfN b w h.cell0 h.shape h.frozen0).mono ?_
  rintro e w' ⟨rfl,rfl⟩
  exact ⟨rfl,h.used _,(Below.refl B w).setCell (p := ⟨b,0,none⟩) h.1 _⟩
 ·refine (zgf b w h.cell0).mono ?_
  rintro e w' ⟨rfl,rfl⟩
  exact ⟨rfl,h,Below.refl B _⟩
set_option maxHeartbeats 2000000 in
set_option maxRecDepth 100000 in
theorem zdZ (B b : Nat) (l : Bs) (s : ByteArray) (w : World) (h : zeA B b l w) (hlen : l.length + s.size ≤ 140737488355328) (hBw : B ≤ w.heap.size) :
  Calls Tryz.prog 71 #[.pointer (some ⟨b,0,none⟩),.string s] w fun e w' => e = .returned (.tuple #[.int .i64 s.size,.nilIface]) ∧ zeA B b (l ++ ofB s) w' ∧ Below B w w' := by
 obtain ⟨i0,hi,hz0,hz1,hz2⟩ := info_parts bldInfo5
 have hlc : (Lib.byteCells l).length = l.length := Lib.byteCells_length l
 go_enter Tryz.func71,Tryz.ntmps71
 go_wp2_with (go_at_call 90;refine (zgR B b _ _ h).mono ?_)
 rintro e w1 ⟨rfl,h1,hb1⟩
 obtain ⟨hB,v,hbk,hown,hne⟩ := h1
 have c0 : w1.cell? ⟨b,0,none⟩ = some (.pointer (some ⟨b,0,none⟩)) := by rw [Lib.cell_of_heap hbk];rfl
 have c1 : w1.cell? ⟨b,1,none⟩ = some v := by rw [Lib.cell_of_heap hbk];rfl
 go_wp2_with (at_builtin;refine Lib.wpList_append_own_string _ rfl _ _ 92 9 rfl B 5 i0 Tryz.underlying92 Tryz.underlying9 hi hz0 hz1 hz2 _ _ _ rfl hown s rfl ?c3 ?c4 ?c5 ?_)
 case c3 => unfold maxLen;omega
 case c4 => omega
 case c5 => have := hb1.size;omega
 intro v' w2 hown' hgrow _
 have hlt : b < w1.heap.size := by
  rcases Nat.lt_or_ge b w1.heap.size with h' | h'
  ·exact h'
  ·simp [Array.getElem?_eq_none h'] at hbk
 have hb2 : w2.heap[b]? = some (.cells #[.pointer (some ⟨b,0,none⟩),v] 105 (0,0)) := by
  rw [hgrow.block b hlt (fun e => hne e.symm)]
  exact hbk
 have d0 : w2.cell? ⟨b,0,none⟩ = some (.pointer (some ⟨b,0,none⟩)) := by rw [Lib.cell_of_heap hb2];rfl
 have d1 : w2.cell? ⟨b,1,none⟩ = some v := by rw [Lib.cell_of_heap hb2];rfl
 have f1 : w2.frozen? ⟨b,1,none⟩ = false := Lib.frozen_of_heap hb2 1
 obtain ⟨ao,n',cap,rfl⟩ : ∃ ao n' cap,v' = .slice ao n' cap := by
  rcases hown'.2 with ⟨hv,_⟩ | ⟨g,cap,cur,hv,_⟩
  ·exact ⟨_,_,_,hv⟩
  ·exact ⟨_,_,_,hv⟩
 go_wp2
 go_ret2
 refine ⟨rfl,.inr ?_,?_⟩
 ·have e1 : Lib.byteCells l ++ Lib.strCells s = Lib.byteCells (l ++ ofB s) := by rw [Lib.strCells_eq];simp [Lib.byteCells,ofB]
  rw [e1] at hown'
  refine Lib.BuilderAt.put (T := 105) (e := 5) hB hb2 (bs' := Lib.byteCells (l ++ ofB s)) ?_ (by decide)
  rw [Lib.byteCells_length,List.length_append,zas]
  exact hown'
 ·exact (hb1.grown hgrow (by have := hb1.size;omega) (fun k hk => (hown.lt k hk).1)).setCell (p := ⟨b,1,none⟩) hB _
set_option maxHeartbeats 1000000 in
set_option maxRecDepth 100000 in
theorem zgQ (B b : Nat) (l : Bs) (w : World) (h : zeA B b l w) (h0 : l ≠ []) :
  Calls Tryz.prog 73 #[.pointer (some ⟨b,0,none⟩)] w fun e w' => e = .returned (.string (toB l)) ∧ Below B w w' := by
 obtain ⟨p,hB,v,hbk,hown,hne⟩ : ∃ p,Lib.BuilderAt 105 5 B b p (Lib.byteCells l) w := by
  rcases h with h | h
  ·exact ⟨_,h⟩
  ·exact ⟨_,h⟩
 have hl0 : l.length ≠ 0 := by simpa using h0
 rw [Lib.byteCells_length] at hown
 obtain ⟨g,cap,cur,rfl,hbg,hg,hnc,hcm,hcs,htake⟩ : ∃ g cap cur,v = .slice (some ⟨g,0,none⟩) l.length cap ∧ B ≤ g ∧ w.heap[g]? = some (.cells cur 5 (0,0)) ∧ l.length ≤ cap ∧ cap ≤ maxLen ∧ cur.size = cap * 1 ∧ cur.toList.take (l.length * 1) = Lib.byteCells l := by
  rcases hown.2 with ⟨_,hz⟩ | ⟨g,cap,cur,hv,r⟩
  ·exact absurd hz hl0
  ·exact ⟨g,cap,cur,hv,r⟩
 have c1 : w.drew.cell? ⟨b,1,none⟩ = some (.slice (some ⟨g,0,none⟩) l.length cap) := by
  have : w.drew.heap[b]? = some (.cells #[p,.slice (some ⟨g,0,none⟩) l.length cap] 105 (0,0)) := hbk
  rw [Lib.cell_of_heap this];rfl
 have hSD : (Builtin.unsafeSliceData_ #[92] 121 #[.slice (some ⟨g,0,none⟩) l.length cap]).run Tryz.prog w.drew = .ok (.pointer (some ⟨g,0,none⟩)) w.drew :=
  Lib.run_unsafeSliceData_row _ _ _ _ _ _ (by omega)
 have hUS : (Builtin.unsafeString_ #[121,3] 9 #[.pointer (some ⟨g,0,none⟩),.int .i64 l.length]).run Tryz.prog w.drew = .ok (.string ⟨l.toArray⟩) (w.drew.freeze ⟨g,0,none⟩ l.length) := by
  refine Lib.run_unsafeString_row w.drew 121 3 9 5 Tryz.underlying121 (by kernel_rfl) g cur.size (by have hg' : w.drew.heap[g]? = some (.cells cur 5 (0,0)) := hg;simp [World.shape?,hg']) l h0 (by omega) (by unfold maxLen at hcm;omega) ?_
  intro j x hx
  have := hown.cells (g := g) rfl j (.int .u8 x.toNat) (by simp [Lib.byteCells,hx])
  exact this
 go_enter Tryz.func73,Tryz.ntmps73
 go_wp2
 go_region
 all_goals (go_wp2;go_ret;exact ⟨rfl,Lib.below_freeze (Below.drew (Below.refl B w)) (p := ⟨g,0,none⟩) hbg _⟩)
def zZ.Bld (B : Nat) (l : List ByteArray) (k : Nat) (w0 wr : World) : Prop := zeA B w0.heap.size (zds l.length ++ zbu (l.take k)) wr ∧ Below w0.heap.size w0 wr
theorem zZ.walk (A : Option Addr) (c : Nat) (l : List ByteArray) (w : World) (hr : Kd.C Kd.string w A l.length l) (hc : l.length ≤ c) (hs : (zck l).length ≤ 140737488355328) :
  Calls Tryz.prog 50 #[.slice A l.length c] w fun e w' => e = .returned (.string (toB (zck l))) ∧ Below w.heap.size w w' := by
 have hm := hr.2.1
 have hll := ziB l
 have hsum : (zck l).length = (zds l.length).length + (zbu l).length := by rw [zck,List.length_append]
 have hlen : l.length ≤ 140737488355328 := by omega
 have HN := za.mk (zdr l.length (by omega))
 have HR := za.mk hr
 have HF : za (zeA w.heap.size w.heap.size [] (w.alloc (.cells #[.pointer none,.slice none 0 0] 105))) := ⟨Lib.fresh_isBuilder 105 5 w⟩
 have HS := za.mk hs
 have HU := za.mk hsum
 clear hr hs hll hsum
 go_enter Tryz.func50,Tryz.ntmps50
 go_wp2_with (go_at_call 49;(with_reducible refine (zal.calls _ _ _ HN.out).mono ?_);rintro e w1 ⟨rfl,hb1⟩)
 have hB1 := zeA.below HF.out hb1
 have hw1 : Below w.heap.size w w1 := ze ((Below.refl _ _).alloc (Nat.le_refl _) _) hb1
 have hsz1 := hw1.size
 clear hb1
 refine (zdZ w.heap.size w.heap.size [] (zbl l.length) w1 hB1 (by have := za4 (v := l.length) (by omega);simp;omega) hsz1).mono ?_
 rintro e w2 ⟨rfl,hB2,hw2⟩
 have HL : za (zZ.Bld w.heap.size l 0 w w2) := ⟨by rw [zbl,zdn,List.nil_append] at hB2;rw [List.take_zero,show zbu [] = [] from rfl,List.append_nil];exact hB2,hw1.trans hw2⟩
 clear hB1 hB2 hw1 hw2 hsz1
 go_wp2_with fail
 go_loopw [5,13] (fun _ v13 wr => ∃ k : Nat,v13 = .int .i64 k ∧ k ≤ l.length ∧ za (zZ.Bld w.heap.size l k w wr)) (fun _ v13 _ => l.length - (match v13 with | .int _ q => q | _ => 0).toNat)
 case atStart => exact ⟨0,rfl,Nat.zero_le _,HL⟩
 case round =>
  obtain ⟨k,rfl,hk,HK⟩ := hrel
  by_cases hlt : k < l.length
  ·obtain ⟨ad,rfl,hcell⟩ := Kd.at_string (Kd.C_below HR.out HK.out.2) (k : Int) (by omega) (by omega)
   rw [Int.toNat_natCast] at hcell
   have hb : decide (k < l.length) = true := decide_eq_true hlt
   have hx : l[k]? = some (zz ByteArray.empty l (k : Int)) := by
    rw [zz,Int.toNat_natCast,List.getD_eq_getElem?_getD,List.getElem?_eq_getElem hlt];rfl
   have HX := za.mk hx
   clear hx
   generalize zz ByteArray.empty l (k : Int) = s at *
   have hs := ze1 l k s HX.out
   have HT := za.mk (zgg s (by have := HS.out;have := HU.out;omega))
   have h2 := zeS l k s HX.out
   have h3 := zdu l (k + 1)
   rw [h2,List.length_append,zas] at h3
   have H2 := za.mk h2
   have H3 : za ((zds l.length ++ zbu (l.take k)).length + (zeG s).size ≤ 140737488355328) := ⟨by rw [List.length_append];have := HS.out;have := HU.out;omega⟩
   clear h2 h3 hs
   go_wp2_with (go_at_call 72;(with_reducible refine (zcn.calls _ _ _ HT.out).mono ?_);rintro e w3 ⟨rfl,hb3⟩)
   refine (zdZ w.heap.size w.heap.size _ (zeG s) w3 (zeA.below HK.out.1 hb3) H3.out (Nat.le_trans HK.out.2.size hb3.size)).mono ?_
   rintro e w4 ⟨rfl,hB4,hw4⟩
   have HL4 : za (zZ.Bld w.heap.size l (k + 1) w w4) := ⟨by rw [H2.out,← List.append_assoc];exact hB4,(ze HK.out.2 hb3).trans hw4⟩
   clear hB4 hw4 hb3
   go_wp2
   go_roundw
   case rel => exact ⟨k + 1,by go_num,by omega,HL4⟩
   case measure => simp;omega
  ·obtain rfl : k = l.length := by omega
   have HE : za (zds l.length ++ zbu (l.take l.length) = zck l) := ⟨by rw [List.take_of_length_le (Nat.le_refl _)];rfl⟩
   go_wp2_with (go_at_call 73;refine (zgQ w.heap.size w.heap.size _ _ HK.out.1 (by simp [zds])).mono ?_;rintro e w3 ⟨rfl,hb3⟩)
   go_ret
   exact ⟨rfl,HK.out.2.trans hb3⟩
def zZ.f (l0 : List ByteArray) : Option (ByteArray) := if (zck l0).length ≤ 140737488355328 then (some (toB (zck l0))) else (none)
theorem zZ.calls (A0 : Option Addr) (c0 : Nat) (l0 : List ByteArray) (r : ByteArray) (w : World) (hr0 : Kd.C Kd.string w A0 l0.length l0) (hc0 : l0.length ≤ c0) (h : zZ.f l0 = some r) :
  Calls Tryz.prog 50 #[.slice A0 l0.length c0] w fun e w' => e = .returned (.string r) ∧ Below w.heap.size w w' := by
 unfold zZ.f at h
 split at h
 ·rename_i hs
  obtain rfl := Option.some.inj h
  exact zZ.walk A0 c0 l0 w hr0 hc0 hs
 ·cases h
def zcG (s : ByteArray) : Bool := decide (s.size = 0) || decide (48 < s.size)
theorem zaP.odd (s : ByteArray) (w : World) : Calls Tryz.prog 86 #[.string s] w fun e w' => e = .returned (.bool (zcG s)) ∧ w = w' := by
 by_cases h : s.toList = []
 ·have hb : (s.toList == []) = true := beq_iff_eq.mpr h
  have h0 : s.size = 0 := by rw [← zas,← zcM,h];rfl
  have HO : za (zcG s = true) := ⟨by simp [zcG,h0]⟩
  clear h h0
  go_enter Tryz.func86,Tryz.ntmps86
  go_wp2
  go_ret
  rw [HO.out]
  exact ⟨rfl,rfl⟩
 ·have hb : (s.toList == []) = false := beq_eq_false_iff_ne.mpr h
  have h0 : s.size ≠ 0 := fun hz => h (List.eq_nil_of_length_eq_zero (by rw [zcM,zas,hz]))
  have HO : za (zcG s = decide (48 < (s.size : Int))) := ⟨by simp [zcG,h0];omega⟩
  clear h h0
  by_cases h1 : 48 < (s.size : Int)
  ·have h1b : decide (48 < (s.size : Int)) = true := decide_eq_true h1
   rw [h1b] at HO
   clear h1
   go_enter Tryz.func86,Tryz.ntmps86
   go_wp2
   go_ret
   rw [HO.out]
   exact ⟨rfl,rfl⟩
  ·have h1b : decide (48 < (s.size : Int)) = false := decide_eq_false h1
   rw [h1b] at HO
   clear h1
   go_enter Tryz.func86,Tryz.ntmps86
   go_wp2
   go_ret
   rw [HO.out]
   exact ⟨rfl,rfl⟩
theorem zaP.idx (A : Option Addr) (c : Nat) (l : List ByteArray) (w : World) (hr : Kd.C Kd.string w A l.length l) (hc : l.length ≤ c) :
  Calls Tryz.prog 96 #[.slice A l.length c,.func (.func 86) #[] #[]] w fun e w' => e = .returned (.int .i64 (zcT zcG l)) ∧ w = w' := by
 have hm := hr.2.1
 have HR := za.mk hr
 clear hr
 go_enter Tryz.func96,Tryz.ntmps96
 go_wp2_with fail
 go_loop [5,8] (fun v5 v8 => ∃ k : Nat,v8 = .int .i64 k ∧ k ≤ l.length ∧ za (∀ (j : Nat) (y : ByteArray),j < k → l[j]? = some y → zcG y = false)) (fun _ v8 => l.length - (match v8 with | .int _ q => q | _ => 0).toNat)
 case atStart => exact ⟨0,rfl,Nat.zero_le _,⟨fun j y hj => absurd hj (Nat.not_lt_zero _)⟩⟩
 case round =>
  obtain ⟨k,rfl,hk,HN⟩ := hrel
  by_cases hlt : k < l.length
  ·obtain ⟨ad,rfl,hcell⟩ := Kd.at_string HR.out (k : Int) (by omega) (by omega)
   rw [Int.toNat_natCast] at hcell
   have hb : decide (k < l.length) = true := decide_eq_true hlt
   have hx : l[k]? = some (zz ByteArray.empty l (k : Int)) := by
    rw [zz,Int.toNat_natCast,List.getD_eq_getElem?_getD,List.getElem?_eq_getElem hlt];rfl
   have HX := za.mk hx
   clear hx
   generalize zz ByteArray.empty l (k : Int) = s at *
   rcases ho : zcG s with _ | _
   ·have HO := za.mk ho
    clear ho
    go_wp2_with (go_at_call 86;(with_reducible refine (zaP.odd _ _).mono ?_);rintro e w1 ⟨rfl,rfl⟩;rw [HO.out])
    go_round
    case rel =>
     refine ⟨k + 1,by go_num,by omega,⟨fun j y hj hy => ?_⟩⟩
     rcases Nat.lt_succ_iff_lt_or_eq.1 hj with h | h
     ·exact HN.out j y h hy
     ·subst h
      rw [HX.out] at hy
      injection hy with hy
      subst hy
      exact HO.out
    case measure => simp;omega
   ·have HO := za.mk ho
    clear ho
    go_wp2_with (go_at_call 86;(with_reducible refine (zaP.odd _ _).mono ?_);rintro e w1 ⟨rfl,rfl⟩;rw [HO.out])
    go_ret
    exact ⟨by rw [zcU HX.out HO.out HN.out];rfl,rfl⟩
  ·obtain rfl : k = l.length := by omega
   go_wp2_with fail
   go_ret
   exact ⟨by rw [zcJ (fun j y hy => HN.out j y (List.getElem?_eq_some_iff.1 hy).1 hy)];rfl,rfl⟩
theorem zaP.contains (A : Option Addr) (c : Nat) (l : List ByteArray) (w : World) (hr : Kd.C Kd.string w A l.length l) (hc : l.length ≤ c) :
  Calls Tryz.prog 87 #[.slice A l.length c,.func (.func 86) #[] #[]] w fun e w' => e = .returned (.bool (l.any zcG)) ∧ w = w' := by
 have HR := za.mk hr
 have HC := za.mk hc
 clear hr hc
 have HA := za.mk (zii zcG l)
 go_enter Tryz.func87,Tryz.ntmps87
 go_wp2_with (go_at_call 96;(with_reducible refine (zaP.idx _ _ _ _ HR.out HC.out).mono ?_);rintro e w1 ⟨rfl,rfl⟩)
 go_ret
 exact ⟨by rw [← HA.out];rfl,rfl⟩
def zd5 (o q : Int) (l : List ByteArray) : Bool := decide (1 ≤ o) && decide (o ≤ 64) && decide (1 ≤ q) && decide (q ≤ 1073741824) && decide (1 ≤ l.length) && decide (l.length ≤ 4) && !l.any zcG
def zaP.f (a0_0 : Int) (a0_1 : Int) (l0_2 : List ByteArray) : Option (Bool) := some (zd5 a0_0 a0_1 l0_2)
theorem zaP.walk (a0_0 : Int) (a0_1 : Int) (A : Option Addr) (c : Nat) (l : List ByteArray) (w : World) (hr : Kd.C Kd.string w A l.length l) (hc : l.length ≤ c) :
  Calls Tryz.prog 66 #[.agg #[.int .i64 a0_0,.int .i64 a0_1,.slice A l.length c]] w fun e w' => e = .returned (.bool (zd5 a0_0 a0_1 l)) ∧ Below w.heap.size w w' := by
 have HR := za.mk hr
 have HC := za.mk hc
 clear hr hc
 have HW := fun (o : Obj) => Kd.C_below HR.out (Below.alloc (Below.refl w.heap.size w) (Nat.le_refl _) o)
 have HW' := za.mk HW
 clear HW
 go_enter Tryz.func66,Tryz.ntmps66
 go_wp2_with (go_at_call 87;(with_reducible refine (zaP.contains _ _ _ _ (HW'.out _) HC.out).mono ?_);rintro e w1 ⟨rfl,rfl⟩)
 all_goals go_ret
 all_goals refine ⟨may_ret ?_,(Below.refl _ _).alloc (Nat.le_refl _) _⟩
 all_goals (unfold zd5;simp;try omega)
theorem zaP.calls (a0_0 : Int) (a0_1 : Int) (A0_2 : Option Addr) (c0_2 : Nat) (l0_2 : List ByteArray) (r : Bool) (w : World) (hr0_2 : Kd.C Kd.string w A0_2 l0_2.length l0_2) (hc0_2 : l0_2.length ≤ c0_2) (h : zaP.f a0_0 a0_1 l0_2 = some r) :
  Calls Tryz.prog 66 #[.agg #[.int .i64 a0_0,.int .i64 a0_1,.slice A0_2 l0_2.length c0_2]] w fun e w' => e = .returned (.bool r) ∧ Below w.heap.size w w' := by
 obtain rfl := Option.some.inj h
 exact zaP.walk a0_0 a0_1 A0_2 c0_2 l0_2 w hr0_2 hc0_2
def zaK.f (a0_0 : Int) (a0_1 : Int) (l0_2 : List ByteArray) : Option (ByteArray × Int) := (zaP.f a0_0 a0_1 l0_2).bind fun yf => (if yf = true then ((zal.f (IntKind.u64.wrap (a0_0))).bind fun yc => ((zal.f (IntKind.u64.wrap (a0_1))).bind fun yb => (if yc.size + yb.size ≤ 9223372036854775807 then ((zZ.f l0_2).bind fun yd => (if (yc ++ yb).size + yd.size ≤ 9223372036854775807 then (some ((yc ++ yb) ++ yd,0)) else (none))) else (none)))) else (some ((⟨#[]⟩ : ByteArray),1)))
def zaK.T3 : Bool × List (List Nat × List Nat) := (true,[([],[]),([0],[0]),([1],[1]),([2],[2]),([],[]),([4],[4]),([5],[5]),([6,3],[6]),([3,7],[3,7]),([],[]),([9],[9]),([10,7],[10]),([8,11],[8,11]),([12,11,0,1,2,3,4,5,6,7,8,9,10,11,12],[12]),([13,0,1,2,3,4,5,6,7,8,9,10,11,12,13],[])])
def zaK.B3 : List Nat := [0,1,3,7,0,16,48,127,255,0,512,1791,4095,8191,16383]
theorem zaK.tab3 : zb5 .any (zdW Tryz.f46 3) = zaK.T3 := by kernel_rfl
theorem zaK.bits3 : zbJ zaK.T3.2 zaK.B3 = true := by kernel_rfl
set_option maxHeartbeats 8000000 in
set_option maxRecDepth 100000 in
theorem zaK.calls (a0_0 : Int) (a0_1 : Int) (A0_2 : Option Addr) (c0_2 : Nat) (l0_2 : List ByteArray) (r1 : ByteArray) (r2 : Int) (w : World) (hr0_2 : Kd.C Kd.string w A0_2 l0_2.length l0_2) (hc0_2 : l0_2.length ≤ c0_2) (h : zaK.f a0_0 a0_1 l0_2 = some (r1,r2)) :
  Calls Tryz.prog 46 #[.agg #[.int .i64 a0_0,.int .i64 a0_1,.slice A0_2 l0_2.length c0_2]] w fun e w' => e = .returned (.tuple #[.string r1,.int .i64 r2]) ∧ Below w.heap.size w w' := by
 have hu75 := Tryz.underlying75
 have HR0_2 := za.mk hr0_2
 have HC0_2 := za.mk hc0_2
 clear hr0_2 hc0_2
 have HB := za.mk (Below.refl w.heap.size w)
 have H : ((zaP.f a0_0 a0_1 l0_2).bind fun yf => (if yf = true then ((zal.f (IntKind.u64.wrap (a0_0))).bind fun yc => ((zal.f (IntKind.u64.wrap (a0_1))).bind fun yb => (if yc.size + yb.size ≤ 9223372036854775807 then ((zZ.f l0_2).bind fun yd => (if (yc ++ yb).size + yd.size ≤ 9223372036854775807 then (some ((yc ++ yb) ++ yd,0)) else (none))) else (none)))) else (some ((⟨#[]⟩ : ByteArray),1)))) = some (r1,r2) := h
 clear h
 replace H := Option.bind_eq_some_iff.mp H
 obtain ⟨yf,A20,H⟩ := H
 replace H : (if yf = true then ((zal.f (IntKind.u64.wrap (a0_0))).bind fun yc => ((zal.f (IntKind.u64.wrap (a0_1))).bind fun yb => (if yc.size + yb.size ≤ 9223372036854775807 then ((zZ.f l0_2).bind fun yd => (if (yc ++ yb).size + yd.size ≤ 9223372036854775807 then (some ((yc ++ yb) ++ yd,0)) else (none))) else (none)))) else (some ((⟨#[]⟩ : ByteArray),1))) = some (r1,r2) := H
 have A2 := za.mk A20
 clear A20
 by_cases c3 : yf = true
 ·subst c3
  have H1 : ((zal.f (IntKind.u64.wrap (a0_0))).bind fun yc => ((zal.f (IntKind.u64.wrap (a0_1))).bind fun yb => (if yc.size + yb.size ≤ 9223372036854775807 then ((zZ.f l0_2).bind fun yd => (if (yc ++ yb).size + yd.size ≤ 9223372036854775807 then (some ((yc ++ yb) ++ yd,0)) else (none))) else (none)))) = some (r1,r2) := by rw [if_pos rfl] at H;exact H
  clear H
  have H := H1
  clear H1
  replace H := Option.bind_eq_some_iff.mp H
  obtain ⟨yc,A40,H⟩ := H
  replace H : ((zal.f (IntKind.u64.wrap (a0_1))).bind fun yb => (if yc.size + yb.size ≤ 9223372036854775807 then ((zZ.f l0_2).bind fun yd => (if (yc ++ yb).size + yd.size ≤ 9223372036854775807 then (some ((yc ++ yb) ++ yd,0)) else (none))) else (none))) = some (r1,r2) := H
  have A4 := za.mk A40
  clear A40
  replace H := Option.bind_eq_some_iff.mp H
  obtain ⟨yb,A50,H⟩ := H
  replace H : (if yc.size + yb.size ≤ 9223372036854775807 then ((zZ.f l0_2).bind fun yd => (if (yc ++ yb).size + yd.size ≤ 9223372036854775807 then (some ((yc ++ yb) ++ yd,0)) else (none))) else (none)) = some (r1,r2) := H
  have A5 := za.mk A50
  clear A50
  by_cases c6 : yc.size + yb.size ≤ 9223372036854775807
  ·rw [if_pos c6] at H
   have c6b0 := eq_true c6
   have c6b1 : decide (yc.size + yb.size ≤ 9223372036854775807) = true := decide_eq_true c6
   try have c6b2 : (9223372036854775807 < yc.size + yb.size) = False := eq_false (Nat.not_lt.2 c6)
   replace H := Option.bind_eq_some_iff.mp H
   obtain ⟨yd,A70,H⟩ := H
   replace H : (if (yc ++ yb).size + yd.size ≤ 9223372036854775807 then (some ((yc ++ yb) ++ yd,0)) else (none)) = some (r1,r2) := H
   have A7 := za.mk A70
   clear A70
   by_cases c8 : (yc ++ yb).size + yd.size ≤ 9223372036854775807
   ·rw [if_pos c8] at H
    have c8b0 := eq_true c8
    have c8b1 : decide ((yc ++ yb).size + yd.size ≤ 9223372036854775807) = true := decide_eq_true c8
    try have c8b2 : (9223372036854775807 < (yc ++ yb).size + yd.size) = False := eq_false (Nat.not_lt.2 c8)
    try (have c8b3 := c8;simp [ByteArray.size_append] at c8b3;have c8b4 := eq_false (Nat.not_lt.2 c8b3);clear c8b3)
    simp only [Option.some.injEq,Prod.mk.injEq] at H
    obtain ⟨rfl,rfl⟩ := H
    go_enter Tryz.func46,Tryz.ntmps46
    try go_wp2_with (first | ((with_reducible refine zq (N := 1) rfl ?_);refine zn rfl (N := 1) rfl (cs := #[.int .i64 a0_0,.int .i64 a0_1,.slice A0_2 l0_2.length c0_2]) (t := 75) hrq ?_;intro ye hg w9 hbox hb;have n_ := haq (ze hBq hb) <| haq (hbox) <| haq ((by rw [hg];exact (zh hBq) : w.heap.size ≤ ye)) <| haq ((by rw [hg];exact (zh hBq) : w.heap.size ≤ ye)) <| trivial;clear HB;obtain ⟨HB,ya,yh,yg,_⟩ := n_;clear hb hbox hg;obtain ⟨hcz10_0,hcz10_1,hcz10_2,hfz10_0,hfz10_1,hfz10_2⟩ := hcq3 ya.out) | ((with_reducible refine zQ (f := 66) rfl ?_);refine zaB (some 5) rfl rfl Tryz.func66 (by kernel_rfl) rfl #[.agg #[.int .i64 a0_0,.int .i64 a0_1,.slice A0_2 l0_2.length c0_2]] rfl hMq ?_;(with_reducible refine (zaP.calls a0_0 a0_1 _ _ l0_2 true _ ?side1 ?side2 A2.out).mono ?_);(case side1 => exact hKq (Kd.C_below HR0_2.out HB.out));(case side2 => exact HC0_2.out);rintro e w11 ⟨rfl,hb⟩;refine ⟨_,rfl,?_⟩;have n_ := haq (hbq ya.out hb) <| haq (ze hCq hb) <| trivial;clear ya HB;obtain ⟨ya,HB,_⟩ := n_;(try clear hb);(try clear hb2);(try clear hk);(try clear hi)))
    have n0_ := za.mk (zaf ya.out)
    have n1_ := za.mk (zp HB.out)
    clear ya
    clear HB
    have ya := n0_
    have HB := n1_
    clear n0_ n1_
    refine zbV (n := 15) (S := fun w' => w'.cell? ⟨ye,0,none⟩ = some (.int .i64 a0_0) ∧ w'.cell? ⟨ye,1,none⟩ = some (.int .i64 a0_1) ∧ w'.cell? ⟨ye,2,none⟩ = some (.slice A0_2 l0_2.length c0_2)) (ds := []) (uQ 15 0) (by kernel_rfl) rfl rfl ⟨(zb ya.out 0).trans rfl,(zb ya.out 1).trans rfl,(zb ya.out 2).trans rfl⟩ (fun hHeld => ?_);refine zaQ zaK.tab3 zaK.bits3 (fun HT_ HW_ => ?_)
    generalize w11.drew = w12 at ya HB hHeld ⊢
    refine puq (i := 0) (N := some 7) HT_.out (uQ 15 1) ?_
    refine puq (i := 4) (N := some 11) HT_.out #[true,false,false,false,true,false,false,false,false,false,false,false,false,false,false] ?_
    refine puq (i := 9) (N := some 16) HT_.out #[true,false,false,false,true,false,false,false,false,true,false,false,false,false,false] ?_
    refine take_ (i := 1) (N := some 8) #[true,true,false,false,true,false,false,false,false,true,false,false,false,false,false] rfl rfl (zU HT_.out HW_.out (by kernel_rfl)) (fun _ _ _ h => h) (Or.inl ⟨by rfl,by rintro w' ⟨s0,s1,s2⟩;go_simp;with_reducible rfl⟩) hHeld hPq ?_
    refine puq (i := 2) (N := some 9) HT_.out #[true,true,true,false,true,false,false,false,false,true,false,false,false,false,false] ?_
    refine take_ (i := 5) (N := some 12) #[true,true,true,false,true,true,false,false,false,true,false,false,false,false,false] rfl rfl (zU HT_.out HW_.out (by kernel_rfl)) (fun _ _ _ h => h) (Or.inl ⟨by rfl,by rintro w' ⟨s0,s1,s2⟩;go_simp;with_reducible rfl⟩) hHeld hPq ?_
    refine puq (i := 6) (N := some 13) HT_.out #[true,true,true,false,true,true,true,false,false,true,false,false,false,false,false] ?_
    refine take_ (i := 10) (N := some 17) #[true,true,true,false,true,true,true,false,false,true,true,false,false,false,false] rfl rfl (zU HT_.out HW_.out (by kernel_rfl)) (fun _ _ _ h => h) (Or.inl ⟨by rfl,by rintro w' ⟨s0,s1,s2⟩;go_simp;with_reducible rfl⟩) hHeld hPq ?_
    refine zct (i := 3) (N := some 10) #[true,true,true,true,true,true,true,false,false,true,true,false,false,false,false] rfl rfl (za0 HT_.out (by kernel_rfl)) (by decide) (fun K hK => ?_)
    refine zbG Tryz.func49 (by kernel_rfl) rfl #[.int .u64 (IntKind.u64.wrap (a0_0))] (by rfl) rfl rfl hMq ?_
    with_reducible refine (zal.calls (IntKind.u64.wrap (a0_0)) yc _ A4.out).mono ?_
    rintro e w13 ⟨rfl,hb⟩
    refine ⟨_,rfl,?_⟩
    have n0_ := za.mk (hbq ya.out hb)
    have n1_ := za.mk (ze hCq hb)
    clear ya
    clear HB
    have ya := n0_
    have HB := n1_
    clear n0_ n1_
    (try clear hb)
    (try clear hb2)
    (try clear hk)
    (try clear hi)
    refine hK.out _ _ ⟨(zb ya.out 0).trans rfl,(zb ya.out 1).trans rfl,(zb ya.out 2).trans rfl⟩ (fun hHeld => ?_)
    clear hK K
    refine za5 (a' := ?_) ?_ ?_
    rotate_left
    ·show Act.put _ (some 10) _ = _
     simp only [Act.put,List.setIfInBounds_toArray,List.set_cons_zero,List.set_cons_succ,zam,zap]
     rfl
    refine zct (i := 7) (N := some 14) #[true,true,true,true,true,true,true,true,false,true,true,false,false,false,false] rfl rfl (za0 HT_.out (by kernel_rfl)) (by decide) (fun K hK => ?_)
    refine zbG Tryz.func49 (by kernel_rfl) rfl #[.int .u64 (IntKind.u64.wrap (a0_1))] (by rfl) rfl rfl hMq ?_
    with_reducible refine (zal.calls (IntKind.u64.wrap (a0_1)) yb _ A5.out).mono ?_
    rintro e w14 ⟨rfl,hb⟩
    refine ⟨_,rfl,?_⟩
    have n0_ := za.mk (hbq ya.out hb)
    have n1_ := za.mk (ze hCq hb)
    clear ya
    clear HB
    have ya := n0_
    have HB := n1_
    clear n0_ n1_
    (try clear hb)
    (try clear hb2)
    (try clear hk)
    (try clear hi)
    refine hK.out _ _ ⟨(zb ya.out 0).trans rfl,(zb ya.out 1).trans rfl,(zb ya.out 2).trans rfl⟩ (fun hHeld => ?_)
    clear hK K
    refine za5 (a' := ?_) ?_ ?_
    rotate_left
    ·show Act.put _ (some 14) _ = _
     simp only [Act.put,List.setIfInBounds_toArray,List.set_cons_zero,List.set_cons_succ,zam,zap]
     rfl
    refine puq (i := 8) (N := some 15) HT_.out (uQ 15 11) ?_
    refine zct (i := 11) (N := some 18) (uQ 15 12) rfl rfl (za0 HT_.out (by kernel_rfl)) (by decide) (fun K hK => ?_)
    refine zbG Tryz.func50 (by kernel_rfl) rfl #[.slice A0_2 l0_2.length c0_2] (by rfl) rfl rfl hMq ?_
    with_reducible refine (zZ.calls _ _ l0_2 yd _ ?side1 ?side2 A7.out).mono ?_
    (case side1 => exact hKq (Kd.C_below HR0_2.out HB.out))
    (case side2 => exact HC0_2.out)
    rintro e w15 ⟨rfl,hb⟩
    refine ⟨_,rfl,?_⟩
    have n0_ := za.mk (hbq ya.out hb)
    have n1_ := za.mk (ze hCq hb)
    clear ya
    clear HB
    have ya := n0_
    have HB := n1_
    clear n0_ n1_
    (try clear hb)
    (try clear hb2)
    (try clear hk)
    (try clear hi)
    refine hK.out _ _ ⟨(zb ya.out 0).trans rfl,(zb ya.out 1).trans rfl,(zb ya.out 2).trans rfl⟩ (fun hHeld => ?_)
    clear hK K
    refine za5 (a' := ?_) ?_ ?_
    rotate_left
    ·show Act.put _ (some 18) _ = _
     simp only [Act.put,List.setIfInBounds_toArray,List.set_cons_zero,List.set_cons_succ,zam,zap]
     rfl
    refine puq (i := 12) (N := some 19) HT_.out (uQ 15 13) ?_
    refine puq (i := 13) (N := some 2) HT_.out (uQ 15 14) ?_
    refine puq (i := 14) (N := some 3) HT_.out (uQ 15 15) ?_
    refine zbX (zaX HT_.out (by kernel_rfl)) ?_
    try go_wp2
    go_ret2
    exact ⟨hHq,hCq⟩
   ·rw [if_neg c8] at H
    exact absurd H (by simp)
  ·rw [if_neg c6] at H
   exact absurd H (by simp)
 ·replace c3 := Bool.eq_false_iff.mpr c3
  subst c3
  have H1 : (some ((⟨#[]⟩ : ByteArray),1)) = some (r1,r2) := by rw [if_neg (show ¬ (false = true) by decide)] at H;exact H
  clear H
  have H := H1
  clear H1
  simp only [Option.some.injEq,Prod.mk.injEq] at H
  obtain ⟨rfl,rfl⟩ := H
  go_enter Tryz.func46,Tryz.ntmps46
  go_wp2_with (first | ((with_reducible refine zq (N := 1) rfl ?_);refine zn rfl (N := 1) rfl (cs := #[.int .i64 a0_0,.int .i64 a0_1,.slice A0_2 l0_2.length c0_2]) (t := 75) hrq ?_;intro ye hg w16 hbox hb;have n_ := haq (ze hBq hb) <| haq (hbox) <| haq ((by rw [hg];exact (zh hBq) : w.heap.size ≤ ye)) <| haq ((by rw [hg];exact (zh hBq) : w.heap.size ≤ ye)) <| trivial;clear HB;obtain ⟨HB,ya,yh,yg,_⟩ := n_;clear hb hbox hg;obtain ⟨hcz17_0,hcz17_1,hcz17_2,hfz17_0,hfz17_1,hfz17_2⟩ := hcq3 ya.out) | ((with_reducible refine zQ (f := 66) rfl ?_);refine zaB (some 5) rfl rfl Tryz.func66 (by kernel_rfl) rfl #[.agg #[.int .i64 a0_0,.int .i64 a0_1,.slice A0_2 l0_2.length c0_2]] rfl hMq ?_;(with_reducible refine (zaP.calls a0_0 a0_1 _ _ l0_2 false _ ?side1 ?side2 A2.out).mono ?_);(case side1 => exact hKq (Kd.C_below HR0_2.out HB.out));(case side2 => exact HC0_2.out);rintro e w18 ⟨rfl,hb⟩;refine ⟨_,rfl,?_⟩;have n_ := haq (hbq ya.out hb) <| haq (ze hCq hb) <| trivial;clear ya HB;obtain ⟨ya,HB,_⟩ := n_;(try clear hb);(try clear hb2);(try clear hk);(try clear hi)))
  go_ret2
  exact ⟨hHq,hCq⟩
def zT.l0 : Nat → List ByteArray → List ByteArray → Int → Option (Bool)
 | 0,_,_,_ => none
 | k + 1,x0,x1,x5 => if x5 < (x0.length : Int) then (if 0 ≤ x5 then (if x5 < (x1.length : Int) then (if (zz ByteArray.empty x0 x5).toList = (zz ByteArray.empty x1 x5).toList then (zT.l0 k x0 x1 (wrap64 (x5 + 1))) else (some false)) else (none)) else (none)) else (some true)
def zT.f (k : Nat) (l0 : List ByteArray) (l1 : List ByteArray) : Option (Bool) := if (l0.length : Int) = (l1.length : Int) then (zT.l0 k l0 l1 0) else (some false)
set_option maxHeartbeats 8000000 in
set_option maxRecDepth 100000 in
theorem zT.calls (k : Nat) (A0 : Option Addr) (c0 : Nat) (l0 : List ByteArray) (A1 : Option Addr) (c1 : Nat) (l1 : List ByteArray) (r : Bool) (w : World) (hr0 : Kd.C Kd.string w A0 l0.length l0) (hc0 : l0.length ≤ c0) (hr1 : Kd.C Kd.string w A1 l1.length l1) (hc1 : l1.length ≤ c1) (h : zT.f k l0 l1 = some r) :
  Calls Tryz.prog 37 #[.slice A0 l0.length c0,.slice A1 l1.length c1] w fun e w' => e = .returned (.bool r) ∧ zaZ w w' := by
 have HR0 := za.mk hr0
 have HC0 := za.mk hc0
 clear hr0 hc0
 have HR1 := za.mk hr1
 have HC1 := za.mk hc1
 clear hr1 hc1
 have H : (if (l0.length : Int) = (l1.length : Int) then (zT.l0 k l0 l1 0) else (some false)) = some r := h
 clear h
 by_cases c3 : (l0.length : Int) = (l1.length : Int)
 ·rw [if_pos c3] at H
  have c3b0 : ((l0.length : Int) == (l1.length : Int)) = true := beq_iff_eq.mpr c3
  have c3b1 : ((l0.length : Int) != (l1.length : Int)) = false := bne_eq_false_iff_eq.mpr c3
  have c3b2 : (l0.length == l1.length) = true := by first | simpa using c3 | (simp at c3 ⊢;omega)
  clear c3
  have H' := za.mk H
  clear H
  go_enter Tryz.func37,Tryz.ntmps37
  go_wp2
  repeat (go_quiet (fail);try go_wp2)
  go_loopg [5] k (fun kq v5 w' => ∃ (x5_1 : Int),v5 = .int .i64 x5_1 ∧ za (zT.l0 kq l0 l1 x5_1 = some r) ∧ za (kq ≤ k) ∧ zaZ w w')
  case atStart => exact ⟨(0),(hDq),H',⟨Nat.le_refl _⟩,hEq⟩
  case round =>
   clear H'
   try clear c1;try clear p2;try clear c3;try clear c3b0;try clear c3b1;try clear c3b2
   obtain ⟨x5_1,rfl,HA,HK1,⟨m1,rfl⟩⟩ := hrel
   cases gk with
   | zero => exact absurd HA.out (by simp [zT.l0])
   | succ k1 =>
    have H := HA.out
    clear HA
    simp only [zT.l0] at H
    by_cases c4 : x5_1 < (l0.length : Int)
    ·rw [if_pos c4] at H
     have c4b0 : decide (x5_1 < (l0.length : Int)) = true := decide_eq_true c4
     clear c4
     by_cases c5 : 0 ≤ x5_1
     ·rw [if_pos c5] at H
      have c5b0 : decide (0 ≤ x5_1) = true := decide_eq_true c5
      clear c5
      by_cases c6 : x5_1 < (l1.length : Int)
      ·rw [if_pos c6] at H
       have c6b0 : decide (x5_1 < (l1.length : Int)) = true := decide_eq_true c6
       clear c6
       by_cases c7 : (zz ByteArray.empty l0 x5_1).toList = (zz ByteArray.empty l1 x5_1).toList
       ·rw [if_pos c7] at H
        have c7b0 : ((zz ByteArray.empty l0 x5_1).toList == (zz ByteArray.empty l1 x5_1).toList) = true := beq_iff_eq.mpr c7
        have c7b1 : ((zz ByteArray.empty l0 x5_1).toList != (zz ByteArray.empty l1 x5_1).toList) = false := bne_eq_false_iff_eq.mpr c7
        clear c7
        have H' := za.mk H
        clear H
        have ya : 0 ≤ (x5_1 : Int) := hFq
        have yc : x5_1 < (l0.length : Int) := hFq
        obtain ⟨yi,yg,ye⟩ := Kd.at_string HR0.out x5_1 ya yc
        cases yg
        replace ya := eq_true ya
        replace yc := eq_true yc
        have yb : 0 ≤ (x5_1 : Int) := hFq
        have yd : x5_1 < (l1.length : Int) := hFq
        obtain ⟨yj,yh,yf⟩ := Kd.at_string HR1.out x5_1 yb yd
        cases yh
        replace yb := eq_true yb
        replace yd := eq_true yd
        go_wp2
        repeat (go_quiet (fail);try go_wp2)
        go_roundg k1
        case measure => have := HK1.out;omega
        case rel => exact ⟨(wrap64 (x5_1 + 1)),(hDq),H',⟨by have := HK1.out;omega⟩,hEq⟩
       ·rw [if_neg c7] at H
        have c7b0 : ((zz ByteArray.empty l0 x5_1).toList == (zz ByteArray.empty l1 x5_1).toList) = false := beq_eq_false_iff_ne.mpr c7
        have c7b1 : ((zz ByteArray.empty l0 x5_1).toList != (zz ByteArray.empty l1 x5_1).toList) = true := bne_iff_ne.mpr c7
        obtain rfl := Option.some.inj H
        have ya : 0 ≤ (x5_1 : Int) := hFq
        have yc : x5_1 < (l0.length : Int) := hFq
        obtain ⟨yi,yg,ye⟩ := Kd.at_string HR0.out x5_1 ya yc
        cases yg
        replace ya := eq_true ya
        replace yc := eq_true yc
        have yb : 0 ≤ (x5_1 : Int) := hFq
        have yd : x5_1 < (l1.length : Int) := hFq
        obtain ⟨yj,yh,yf⟩ := Kd.at_string HR1.out x5_1 yb yd
        cases yh
        replace yb := eq_true yb
        replace yd := eq_true yd
        go_wp2
        repeat (go_quiet (fail);try go_wp2)
        go_ret
        exact ⟨hDq,hEq⟩
      ·rw [if_neg c6] at H
       exact absurd H (by simp)
     ·rw [if_neg c5] at H
      exact absurd H (by simp)
    ·rw [if_neg c4] at H
     have c4b0 : decide (x5_1 < (l0.length : Int)) = false := decide_eq_false c4
     clear c4
     obtain rfl := Option.some.inj H
     go_wp2
     repeat (go_quiet (fail);try go_wp2)
     go_ret
     exact ⟨hDq,hEq⟩
 ·rw [if_neg c3] at H
  have c3b0 : ((l0.length : Int) == (l1.length : Int)) = false := beq_eq_false_iff_ne.mpr c3
  have c3b1 : ((l0.length : Int) != (l1.length : Int)) = true := bne_iff_ne.mpr c3
  have c3b2 : (l0.length == l1.length) = false := by first | simpa using c3 | (simp at c3 ⊢;omega)
  obtain rfl := Option.some.inj H
  go_enter Tryz.func37,Tryz.ntmps37
  go_wp2
  repeat (go_quiet (fail);try go_wp2)
  go_ret
  exact ⟨hDq,hEq⟩
def zba.f (k : Nat) (a0_0 : Int) (a0_1 : Int) (l0_2 : List ByteArray) (a1_0 : Int) (a1_1 : Int) (l1_2 : List ByteArray) : Option (Bool) := (zT.f k l0_2 l1_2).bind fun yb => (if yb = true then (if a0_0 = a1_0 then (some (a0_1 == a1_1)) else (some false)) else (some false))
set_option maxHeartbeats 8000000 in
set_option maxRecDepth 100000 in
theorem zba.calls (k : Nat) (a0_0 : Int) (a0_1 : Int) (A0_2 : Option Addr) (c0_2 : Nat) (l0_2 : List ByteArray) (a1_0 : Int) (a1_1 : Int) (A1_2 : Option Addr) (c1_2 : Nat) (l1_2 : List ByteArray) (r : Bool) (w : World) (hr0_2 : Kd.C Kd.string w A0_2 l0_2.length l0_2) (hc0_2 : l0_2.length ≤ c0_2) (hr1_2 : Kd.C Kd.string w A1_2 l1_2.length l1_2) (hc1_2 : l1_2.length ≤ c1_2) (h : zba.f k a0_0 a0_1 l0_2 a1_0 a1_1 l1_2 = some r) :
  Calls Tryz.prog 56 #[.agg #[.int .i64 a0_0,.int .i64 a0_1,.slice A0_2 l0_2.length c0_2],.agg #[.int .i64 a1_0,.int .i64 a1_1,.slice A1_2 l1_2.length c1_2]] w fun e w' => e = .returned (.bool r) ∧ Below w.heap.size w w' := by
 have hu75 := Tryz.underlying75
 have HR0_2 := za.mk hr0_2
 have HC0_2 := za.mk hc0_2
 clear hr0_2 hc0_2
 have HR1_2 := za.mk hr1_2
 have HC1_2 := za.mk hc1_2
 clear hr1_2 hc1_2
 have HB := za.mk (Below.refl w.heap.size w)
 have H : ((zT.f k l0_2 l1_2).bind fun yb => (if yb = true then (if a0_0 = a1_0 then (some (a0_1 == a1_1)) else (some false)) else (some false))) = some r := h
 clear h
 replace H := Option.bind_eq_some_iff.mp H
 obtain ⟨yb,A30,H⟩ := H
 replace H : (if yb = true then (if a0_0 = a1_0 then (some (a0_1 == a1_1)) else (some false)) else (some false)) = some r := H
 have A3 := za.mk A30
 clear A30
 by_cases c4 : yb = true
 focus
  subst c4
  have H1 : (if a0_0 = a1_0 then (some (a0_1 == a1_1)) else (some false)) = some r := by rw [if_pos rfl] at H;exact H
  clear H
  have H := H1
  clear H1
  by_cases c5 : a0_0 = a1_0
  focus
   rw [if_pos c5] at H
   have c5b0 : (a0_0 == a1_0) = true := beq_iff_eq.mpr c5
   have c5b1 : (a0_0 != a1_0) = false := bne_eq_false_iff_eq.mpr c5
   clear c5
   obtain rfl := Option.some.inj H
   have EQ0 := True.intro
  rotate_left
  focus
   rw [if_neg c5] at H
   have c5b0 : (a0_0 == a1_0) = false := beq_eq_false_iff_ne.mpr c5
   have c5b1 : (a0_0 != a1_0) = true := bne_iff_ne.mpr c5
   obtain rfl := Option.some.inj H
   have EQ0 := True.intro
 rotate_left 2
 focus
  replace c4 := Bool.eq_false_iff.mpr c4
  subst c4
  have H1 : (some false) = some r := by rw [if_neg (show ¬ (false = true) by decide)] at H;exact H
  clear H
  have H := H1
  clear H1
  obtain rfl := Option.some.inj H
  have EQ1 := True.intro
 all_goals
  go_enter Tryz.func56,Tryz.ntmps56
  go_wp2_with (first | ((with_reducible refine zq (N := 2) rfl ?_);refine zn rfl (N := 2) rfl (cs := #[.int .i64 a0_0,.int .i64 a0_1,.slice A0_2 l0_2.length c0_2]) (t := 75) hrq ?_;intro yc hg wQN22 hbox hb;have n_ := haq (ze hBq hb) <| haq (hbox) <| haq ((by rw [hg];exact (zh hBq) : w.heap.size ≤ yc)) <| haq ((by rw [hg];exact (zh hBq) : w.heap.size ≤ yc)) <| trivial;clear HB;obtain ⟨HB,ya,yv,yt,_⟩ := n_;clear hb hbox hg) | ((with_reducible refine zq (N := 3) rfl ?_);refine zn rfl (N := 3) rfl (cs := #[.int .i64 a1_0,.int .i64 a1_1,.slice A1_2 l1_2.length c1_2]) (t := 75) hrq ?_;intro yd hg wQN32 hbox hb;have n_ := haq (hbq ya.out hb) <| haq (ze hCq hb) <| haq (hbox) <| haq ((by rw [hg];exact (zh hCq) : w.heap.size ≤ yd)) <| haq ((by rw [hg];exact (zh hCq) : w.heap.size ≤ yd)) <| haq (hnq hg ya.out) <| haq (hmq hg ya.out) <| trivial;clear ya HB;obtain ⟨ya,HB,ye,yw,yu,NBQN37,NBQN38,_⟩ := n_;clear hb hbox hg;have hnbQN39 := NBQN37.out;have yr := NBQN38.out;obtain ⟨yf,yg,yh,yl,ym,yn⟩ := hcq3 ya.out;obtain ⟨yi,yj,yk,yo,yp,yq⟩ := hcq3 ye.out) | (have _ := EQ0;((with_reducible refine zQ (f := 37) rfl ?_);refine zaB (some 10) rfl rfl Tryz.func37 (by kernel_rfl) rfl #[.slice A0_2 l0_2.length c0_2,.slice A1_2 l1_2.length c1_2] rfl hMq ?_;(with_reducible refine (zT.calls k _ _ l0_2 _ _ l1_2 true _ ?side1 ?side2 ?side3 ?side4 A3.out).mono ?_);(case side1 => exact hKq (Kd.C_below HR0_2.out HB.out));(case side2 => exact HC0_2.out);(case side3 => exact hKq (Kd.C_below HR1_2.out HB.out));(case side4 => exact HC1_2.out);rintro e w' ⟨rfl,⟨nd,rfl⟩⟩;refine ⟨_,rfl,?_⟩)) | (have _ := EQ1;((with_reducible refine zQ (f := 37) rfl ?_);refine zaB (some 10) rfl rfl Tryz.func37 (by kernel_rfl) rfl #[.slice A0_2 l0_2.length c0_2,.slice A1_2 l1_2.length c1_2] rfl hMq ?_;(with_reducible refine (zT.calls k _ _ l0_2 _ _ l1_2 false _ ?side1 ?side2 ?side3 ?side4 A3.out).mono ?_);(case side1 => exact hKq (Kd.C_below HR0_2.out HB.out));(case side2 => exact HC0_2.out);(case side3 => exact hKq (Kd.C_below HR1_2.out HB.out));(case side4 => exact HC1_2.out);rintro e w' ⟨rfl,⟨nd,rfl⟩⟩;refine ⟨_,rfl,?_⟩)))
  go_ret
  exact ⟨hHq,hCq⟩
theorem zes (l : List ByteArray) (j : Nat) (h : j < l.length) : zz ByteArray.empty l (j : Int) = l[j] := by
 rw [zz,Int.toNat_natCast,List.getD_eq_getElem?_getD,List.getElem?_eq_getElem h];rfl
theorem zcP (a b : ByteArray) : a.toList = b.toList ↔ a = b := by
 rw [zcM,zcM]
 exact ⟨fun h => ofB_inj h,fun h => by rw [h]⟩
theorem zb1 (a b : ByteArray) : (a.toList == b.toList) = decide (a = b) := by
 rw [Bool.eq_iff_iff];simp [zcP]
theorem zhK (a b : List ByteArray) (hl : a.length = b.length) (hb : a.length < 4611686018427387904) (d : Nat) : ∀ j,j + d = a.length →
  Ev (fun k => zT.l0 k a b (j : Int)) (decide (a.drop j = b.drop j)) := by
 induction d with
 | zero =>
  intro j hj
  refine Ev.step (fun k => by rw [zT.l0]) ?_
  refine zS (by omega) (zad (Ev.now _) ?_)
  rw [List.drop_eq_nil_of_le (by omega),List.drop_eq_nil_of_le (by omega)];rfl
 | succ d ih =>
  intro j hj
  refine Ev.step (fun k => by rw [zT.l0]) ?_
  have h1 : j < a.length := by omega
  have h2 : j < b.length := by omega
  refine zE (by omega) (zE (by omega) (zE (by omega) ?_))
  rw [zes a j h1,zes b j h2,List.drop_eq_getElem_cons h1,List.drop_eq_getElem_cons h2,z4 (by omega) (by omega)]
  by_cases h : a[j] = b[j]
  ·refine zE (by rw [h]) (zad (ih (j + 1) (by omega)) ?_)
   simp only [List.cons.injEq,h,true_and]
  ·refine zS (by simpa [zcP] using h) (zad (Ev.now _) ?_)
   simp only [List.cons.injEq,h,false_and,decide_false]
theorem zgD (a b : List ByteArray) (hb : a.length < 4611686018427387904) : Ev (fun k => zT.f k a b) (decide (a = b)) := by
 by_cases hl : a.length = b.length
 ·exact zE (by omega) (zhK a b hl hb a.length 0 (by omega))
 ·refine zS (by omega) (zad (Ev.now _) ?_)
  rw [eq_comm,decide_eq_false_iff_not]
  exact fun h => hl (by rw [h])
def zhp (o q : Int) (l : List ByteArray) (o' q' : Int) (l' : List ByteArray) : Bool := decide (o = o' ∧ q = q' ∧ l = l')
theorem zfS (o q : Int) (l : List ByteArray) (o' q' : Int) (l' : List ByteArray) (hb : l.length < 4611686018427387904) : Ev (fun k => zba.f k o q l o' q' l') (zhp o q l o' q' l') := by
 unfold zhp
 refine Ev.bind (zgD l l' hb) ?_
 by_cases h3 : l = l'
 ·refine zE (by simp [h3]) ?_
  by_cases h1 : o = o'
  ·exact zE h1 (zad (Ev.now _) (by simp [h1,h3,Bool.beq_eq_decide_eq]))
  ·exact zS h1 (zad (Ev.now _) (by simp [h1]))
 ·exact zS (by simp [h3]) (zad (Ev.now _) (by simp [h3]))
theorem zeg (l : List ByteArray) (m : Nat) (hm : m < 18446744073709551616) (h : ∀ t ∈ l,t.size ≤ m) : (zbu l).length ≤ l.length * (m + 9) := by
 induction l with
 | nil => simp [zbu]
 | cons t l ih =>
  have e : zbu (t :: l) = zgJ (ofB t) ++ zbu l := rfl
  have h1 := h t List.mem_cons_self
  have h2 := ih (fun x hx => h x (List.mem_cons_of_mem _ hx))
  have h3 := zaU (v := (ofB t).length) (by rw [zas];omega)
  rw [e,List.length_append,zgJ,List.length_append,zas,List.length_cons,Nat.succ_mul]
  rw [zas] at h3
  omega
theorem zd6 (o q : Int) (l : List ByteArray) : zd5 o q l = true ↔ 1 ≤ o ∧ o ≤ 64 ∧ 1 ≤ q ∧ q ≤ 1073741824 ∧ 1 ≤ l.length ∧ l.length ≤ 4 ∧ ∀ t ∈ l,1 ≤ t.size ∧ t.size ≤ 48 := by
 unfold zd5
 simp only [Bool.and_eq_true,decide_eq_true_eq,Bool.not_eq_true',List.any_eq_false]
 constructor
 ·rintro ⟨⟨⟨⟨⟨⟨h1,h2⟩,h3⟩,h4⟩,h5⟩,h6⟩,h7⟩
  refine ⟨h1,h2,h3,h4,h5,h6,fun t ht => ?_⟩
  have h8 := h7 t ht
  simp only [zcG,Bool.or_eq_true,decide_eq_true_eq,not_or] at h8
  omega
 ·rintro ⟨h1,h2,h3,h4,h5,h6,h7⟩
  refine ⟨⟨⟨⟨⟨⟨h1,h2⟩,h3⟩,h4⟩,h5⟩,h6⟩,fun t ht => ?_⟩
  have h8 := h7 t ht
  simp only [zcG,Bool.or_eq_true,decide_eq_true_eq,not_or]
  omega
def zfg (o q : Int) (l : List ByteArray) : Bs := zds o.toNat ++ zds q.toNat ++ zck l
theorem zgd (o q : Int) (l : List ByteArray) : zaK.f o q l = some (if zd5 o q l = true then (toB (zfg o q l),0) else ((⟨#[]⟩ : ByteArray),1)) := by
 unfold zaK.f zaP.f
 rw [Option.bind_some]
 by_cases h : zd5 o q l = true
 ·rw [if_pos h,if_pos h]
  obtain ⟨h1,h2,h3,h4,h5,h6,h7⟩ := (zd6 o q l).1 h
  obtain ⟨a,rfl⟩ := Int.eq_ofNat_of_zero_le (show 0 ≤ o by omega)
  obtain ⟨b,rfl⟩ := Int.eq_ofNat_of_zero_le (show 0 ≤ q by omega)
  have r1 := zeg l 48 (by omega) (fun t ht => (h7 t ht).2)
  have r2 := zaU (v := l.length) (by omega)
  have r3 : (zck l).length ≤ 300 := by rw [zck,List.length_append];omega
  have n1 := za4 (v := a) (by omega)
  have n2 := za4 (v := b) (by omega)
  have r4 : zZ.f l = some (toB (zck l)) := by unfold zZ.f;rw [if_pos (by omega)]
  rw [zb6 (by omega) (by omega),zb6 (by omega) (by omega),zdr a (by omega),zdr b (by omega)]
  simp only [Option.bind_some]
  rw [if_pos (by omega),r4]
  simp only [Option.bind_some]
  rw [if_pos (by rw [ByteArray.size_append,zax];omega),zfg,zbb,zbb,Int.toNat_natCast,Int.toNat_natCast]
  rfl
 ·rw [if_neg h,if_neg h]
def bB (b : S75) : ByteArray := if zd5 b.f0 b.f1 b.f2 = true then toB (zfg b.f0 b.f1 b.f2) else (⟨#[]⟩ : ByteArray)
theorem zaF.one (b : S75) (A : Option Addr) (c : Nat) (w : World) (hr : Kd.C Kd.string w A b.f2.length b.f2) (hc : b.f2.length ≤ c) :
  Calls Tryz.prog 45 #[.agg #[.int .i64 b.f0,.int .i64 b.f1,.slice A b.f2.length c]] w fun e w' => e = .returned (.string (bB b)) ∧ Below w.heap.size w w' := by
 obtain ⟨e,he⟩ : ∃ e,zaK.f b.f0 b.f1 b.f2 = some (bB b,e) := by
  rw [zgd,bB]
  split
  ·exact ⟨_,rfl⟩
  ·exact ⟨_,rfl⟩
 have HE := za.mk he
 have HR := za.mk hr
 have HC := za.mk hc
 clear he hr hc
 generalize bB b = s at *
 obtain ⟨b0,b1,b2⟩ := b
 go_enter Tryz.func45,Tryz.ntmps45
 go_wp2_with (first
  | ((with_reducible refine zq (N := 1) rfl ?_);refine zn rfl (N := 1) rfl (cs := #[.int .i64 b0,.int .i64 b1,.slice A b2.length c]) (t := 75) hrq ?_;intro gb hg w2 hbox hb;have BK := za.mk hbox;have HB := za.mk hb;clear hb hbox hg;have hz0 := (zb BK.out 0).trans rfl;have hz1 := (zb BK.out 1).trans rfl;have hz2 := (zb BK.out 2).trans rfl;have hf0 := zc BK.out 0;have hf1 := zc BK.out 1;have hf2 := zc BK.out 2)
  | (go_at_call 46;(with_reducible refine (zaK.calls b0 b1 _ _ b2 _ _ _ (Kd.C_below HR.out HB.out) HC.out HE.out).mono ?_);rintro e w3 ⟨rfl,hb⟩;have HB3 := za.mk (ze HB.out hb);clear hb))
 go_ret
 exact ⟨rfl,HB3.out⟩
theorem zaF.infoS : (Tryz.prog.info? 9).map (fun i => (i.zero,i.size,i.bytes)) = some (some (.string ⟨#[]⟩),1,16) := by kernel_rfl
set_option maxHeartbeats 4000000 in
set_option maxRecDepth 100000 in
theorem zaF.walk (A : Option Addr) (c : Nat) (l : List S75) (w : World) (hr : Kd.C k75 w A l.length l) (hc : l.length ≤ c) (h4 : l.length ≤ 4) :
  Calls Tryz.prog 44 #[.slice A l.length c,.func (.func 45) #[] #[]] w fun e w' => ∃ v,e = .returned v ∧ Kd.R Kd.string 9 w' w.heap.size (fun _ => True) v (l.map bB) ∧ Below w.heap.size w w' := by
 have HR := za.mk hr
 clear hr
 go_enter Tryz.func44,Tryz.ntmps44
 go_wp2_with fail
 have HB0 := za.mk (Below.refl w.heap.size w)
 go_loopw [5,10] (fun v5 v10 wr => ∃ k : Nat,v10 = .int .i64 k ∧ k ≤ l.length ∧ za (Kd.R Kd.string 9 wr w.heap.size (fun _ => True) v5 ((l.take k).map bB)) ∧ za (Below w.heap.size w wr)) (fun _ v10 _ => l.length - (match v10 with | .int _ q => q | _ => 0).toNat)
 case atStart => exact ⟨0,rfl,Nat.zero_le _,⟨Kd.R_nil _ _ _ _ _⟩,HB0⟩
 case round =>
  obtain ⟨k,rfl,hk,HO,HB⟩ := hrel
  by_cases hlt : k < l.length
  ·obtain ⟨ad,A2,c2,rfl,hx0,hx1,hx2,hl2,hi2⟩ := zcd HR.out (k : Int) (by omega) (by omega)
   replace hx0 := (HB.out.cell (World.block_lt_of_cell? w _ hx0)).trans hx0
   replace hx1 := (HB.out.cell (World.block_lt_of_cell? w _ hx1)).trans hx1
   replace hx2 := (HB.out.cell (World.block_lt_of_cell? w _ hx2)).trans hx2
   rw [Int.toNat_natCast] at hx0 hx1 hx2
   have hb : decide (k < l.length) = true := decide_eq_true hlt
   have ht : l.take (k + 1) = l.take k ++ [zO l (k : Int)] := by
    rw [zO,Int.toNat_natCast,List.getD_eq_getElem?_getD,List.getElem?_eq_getElem hlt,List.take_add_one,List.getElem?_eq_getElem hlt];rfl
   have HT := za.mk ht
   have HL2 := za.mk hl2
   have HI2 := za.mk (Kd.C_below hi2 HB.out)
   clear ht hl2 hi2
   generalize zO l (k : Int) = s at *
   obtain ⟨s0,s1,s2⟩ := s
   have HLN : za ((((l.take k).map bB).length + 1) * 16 ≤ 140737488355328) := ⟨by rw [List.length_map,List.length_take];omega⟩
   have HM : za ((l.take (k + 1)).map bB = (l.take k).map bB ++ [bB ⟨s0,s1,s2⟩]) := ⟨by rw [HT.out,List.map_append];rfl⟩
   go_wp2_with (first
    | (go_at_call 45;(with_reducible refine (zaF.one ⟨s0,s1,s2⟩ _ _ _ (Kd.C_below HI2.out (zl (Below.refl _ _) _)) HL2.out).mono ?_);rintro e w1 ⟨rfl,hb1⟩;have HB1 := za.mk (ze (zl HB.out _) hb1);have HO1 := za.mk (Kd.R_below HO.out (ze (zl (Below.refl _ _) _) hb1));clear hb1)
    | (at_builtin;refine Kd.R_append Kd.string (w0 := w) w.heap.size rfl (.tmp 14) (.tmp 18) 31 9 (.string ⟨#[]⟩) 16 rfl Tryz.underlying31 zaF.infoS rfl (by decide) (by omega) _ ((l.take k).map bB) (bB ⟨s0,s1,s2⟩) [.string (bB ⟨s0,s1,s2⟩)] (fun _ => True) (fun _ => False) rfl rfl ?aP (fun _ hk => hk.elim) ?aF ?aO ?aB ?aS ?aL ?_;(case aP => exact rfl);(case aF => exact (fun _ _ => trivial));(case aO => exact HO1.out);(case aB => exact HB1.out);(case aS => exact (zh HB1.out));(case aL => exact HLN.out);intro v3 w3 ho hb hg hat;have HX := za.mk ho;have HB3 := za.mk hb;clear ho hb hg hat))
   go_roundw
   case rel => exact ⟨k + 1,by go_num,by omega,⟨by rw [HM.out];exact HX.out⟩,HB3⟩
   case measure => simp;omega
  ·obtain rfl : k = l.length := by omega
   go_wp2_with fail
   go_ret
   exact ⟨_,rfl,by have := HO.out;rwa [List.take_length] at this,HB.out⟩
def zaF.f (l0 : List S75) : Option (List ByteArray) := if l0.length ≤ 4 then some (l0.map bB) else none
theorem zaF.calls (A0 : Option Addr) (c0 : Nat) (l0 : List S75) (r : List ByteArray) (w : World) (hr0 : Kd.C k75 w A0 l0.length l0) (hc0 : l0.length ≤ c0) (h : zaF.f l0 = some r) :
  Calls Tryz.prog 44 #[.slice A0 l0.length c0,.func (.func 45) #[] #[]] w fun e w' => ∃ v0_ : Value,e = .returned v0_ ∧ Kd.R Kd.string 9 w' w.heap.size (fun _ => True) v0_ r ∧ Below w.heap.size w w' := by
 unfold zaF.f at h
 split at h
 ·rename_i h4
  obtain rfl := Option.some.inj h
  exact zaF.walk A0 c0 l0 w hr0 hc0 h4
 ·cases h
theorem zau.infoS : (Tryz.prog.info? 9).map (fun i => (i.zero,i.size,i.bytes)) = some (some (.string ⟨#[]⟩),1,16) := by kernel_rfl
theorem zau.num (k : Int) (w : World) (h0 : 0 ≤ k) (h1 : k < 9223372036854775808) :
  Calls Tryz.prog 48 #[.int .i64 k] w fun e w' => e = .returned (.string (zbl k.toNat)) ∧ Below w.heap.size w w' := by
 have hn : zal.f (IntKind.u64.wrap k) = some (zbl k.toNat) := by rw [zb6 h0 (by omega),zal.f,if_pos h0,if_pos (by omega)]
 have HN := za.mk hn
 clear hn h0 h1
 generalize zbl k.toNat = s at *
 go_enter Tryz.func48,Tryz.ntmps48
 go_wp2_with (go_at_call 49;(with_reducible refine (zal.calls _ _ _ HN.out).mono ?_);rintro e w3 ⟨rfl,hb⟩;have HB3 := za.mk hb;clear hb)
 go_ret
 exact ⟨rfl,HB3.out⟩
set_option maxHeartbeats 4000000 in
set_option maxRecDepth 100000 in
theorem zau.walk (A : Option Addr) (c : Nat) (l : List Int) (w : World) (hr : Kd.C (Kd.int .i64) w A l.length l) (hc : l.length ≤ c) (h4 : l.length ≤ 4) (hp : ∀ k ∈ l,0 ≤ k ∧ k < 9223372036854775808) :
  Calls Tryz.prog 47 #[.slice A l.length c,.func (.func 48) #[] #[]] w fun e w' => ∃ v,e = .returned v ∧ Kd.R Kd.string 9 w' w.heap.size (fun _ => True) v (l.map (fun k => zbl k.toNat)) ∧ Below w.heap.size w w' := by
 have HR := za.mk hr
 have HP := za.mk hp
 clear hr hp
 go_enter Tryz.func47,Tryz.ntmps47
 go_wp2_with fail
 have HB0 := za.mk (Below.refl w.heap.size w)
 go_loopw [5,10] (fun v5 v10 wr => ∃ k : Nat,v10 = .int .i64 k ∧ k ≤ l.length ∧ za (Kd.R Kd.string 9 wr w.heap.size (fun _ => True) v5 ((l.take k).map (fun k => zbl k.toNat))) ∧ za (Below w.heap.size w wr)) (fun _ v10 _ => l.length - (match v10 with | .int _ q => q | _ => 0).toNat)
 case atStart => exact ⟨0,rfl,Nat.zero_le _,⟨Kd.R_nil _ _ _ _ _⟩,HB0⟩
 case round =>
  obtain ⟨k,rfl,hk,HO,HB⟩ := hrel
  by_cases hlt : k < l.length
  ·obtain ⟨ad,rfl,hx0⟩ := Kd.at_int HR.out (k : Int) (by omega) (by omega)
   replace hx0 := (HB.out.cell (World.block_lt_of_cell? w _ hx0)).trans hx0
   rw [Int.toNat_natCast] at hx0
   have hb : decide (k < l.length) = true := decide_eq_true hlt
   have hd : rd l (k : Int) = l[k] := by
    rw [rd,Int.toNat_natCast,List.getD_eq_getElem?_getD,List.getElem?_eq_getElem hlt];rfl
   have hpk := HP.out _ (List.getElem_mem hlt)
   have ht : l.take (k + 1) = l.take k ++ [l[k]] := by
    rw [List.take_add_one,List.getElem?_eq_getElem hlt];rfl
   rw [hd] at hx0
   generalize l[k] = s at *
   have HM : za ((l.take (k + 1)).map (fun k => zbl k.toNat) = (l.take k).map (fun k => zbl k.toNat) ++ [zbl s.toNat]) := ⟨by rw [ht,List.map_append];rfl⟩
   have HLN : za ((((l.take k).map (fun k => zbl k.toNat)).length + 1) * 16 ≤ 140737488355328) := ⟨by rw [List.length_map,List.length_take];omega⟩
   have HPK := za.mk hpk
   clear hpk ht hd
   go_wp2_with (first
    | (go_at_call 48;(with_reducible refine (zau.num s _ HPK.out.1 HPK.out.2).mono ?_);rintro e w1 ⟨rfl,hb1⟩;have HB1 := za.mk (ze HB.out hb1);have HO1 := za.mk (Kd.R_below HO.out hb1);clear hb1)
    | (at_builtin;refine Kd.R_append Kd.string (w0 := w) w.heap.size rfl (.tmp 14) (.tmp 18) 31 9 (.string ⟨#[]⟩) 16 rfl Tryz.underlying31 zau.infoS rfl (by decide) (by omega) _ ((l.take k).map (fun k => zbl k.toNat)) (zbl s.toNat) [.string (zbl s.toNat)] (fun _ => True) (fun _ => False) rfl rfl ?aP (fun _ hk => hk.elim) ?aF ?aO ?aB ?aS ?aL ?_;(case aP => exact rfl);(case aF => exact (fun _ _ => trivial));(case aO => exact HO1.out);(case aB => exact HB1.out);(case aS => exact (zh HB1.out));(case aL => exact HLN.out);intro v3 w3 ho hb hg hat;have HX := za.mk ho;have HB3 := za.mk hb;clear ho hb hg hat))
   go_roundw
   case rel => exact ⟨k + 1,by go_num,by omega,⟨by rw [HM.out];exact HX.out⟩,HB3⟩
   case measure => simp;omega
  ·obtain rfl : k = l.length := by omega
   go_wp2_with fail
   go_ret
   exact ⟨_,rfl,by have := HO.out;rwa [List.take_length] at this,HB.out⟩
def zau.f (l0 : List Int) : Option (List ByteArray) := if l0.length ≤ 4 ∧ ∀ k ∈ l0,0 ≤ k ∧ k < 9223372036854775808 then some (l0.map (fun k => zbl k.toNat)) else none
theorem zau.calls (A0 : Option Addr) (c0 : Nat) (l0 : List Int) (r : List ByteArray) (w : World) (hr0 : Kd.C (Kd.int .i64) w A0 l0.length l0) (hc0 : l0.length ≤ c0) (h : zau.f l0 = some r) :
  Calls Tryz.prog 47 #[.slice A0 l0.length c0,.func (.func 48) #[] #[]] w fun e w' => ∃ v0_ : Value,e = .returned v0_ ∧ Kd.R Kd.string 9 w' w.heap.size (fun _ => True) v0_ r ∧ Below w.heap.size w w' := by
 unfold zau.f at h
 split at h
 ·rename_i h4
  obtain rfl := Option.some.inj h
  exact zau.walk A0 c0 l0 w hr0 hc0 h4.1 h4.2
 ·cases h
def zdi (n : Int) (b : S75) : Bool := !zd5 b.f0 b.f1 b.f2 || decide (n < b.f0)
theorem zaz.odd (n : Int) (g : Nat) (a0 a1 : Int) (A : Option Addr) (c : Nat) (l : List ByteArray) (w : World) (hr : Kd.C Kd.string w A l.length l) (hc : l.length ≤ c)
  (hn : w.heap[g]? = some (.cells #[.int .i64 n] 3 (0,0))) :
  Calls Tryz.prog 65 #[.agg #[.int .i64 a0,.int .i64 a1,.slice A l.length c],.pointer (some ⟨g,0,none⟩)] w fun e w' => e = .returned (.bool (zdi n ⟨a0,a1,l⟩)) ∧ Below w.heap.size w w' := by
 have HR := za.mk hr
 have HC := za.mk hc
 have HN := za.mk hn
 clear hr hc hn
 rcases hm : zd5 a0 a1 l with _ | _
 ·have HO : za (zdi n ⟨a0,a1,l⟩ = true) := ⟨by simp [zdi,hm]⟩
  have HM := za.mk hm
  clear hm
  go_enter Tryz.func65,Tryz.ntmps65
  go_wp2_with (first
   | ((with_reducible refine zq (N := 2) rfl ?_);refine zn rfl (N := 2) rfl (cs := #[.int .i64 a0,.int .i64 a1,.slice A l.length c]) (t := 75) hrq ?_;intro gb hg w2 hbox hb;have BK := za.mk hbox;have HB := za.mk hb;clear hb hbox hg;have hz0 := (zb BK.out 0).trans rfl;have hz1 := (zb BK.out 1).trans rfl;have hz2 := (zb BK.out 2).trans rfl;have hf0 := zc BK.out 0;have hf1 := zc BK.out 1;have hf2 := zc BK.out 2)
   | (go_at_call 66;(with_reducible refine (zaP.calls a0 a1 _ _ l _ _ (Kd.C_below HR.out HB.out) HC.out rfl).mono ?_);rintro e w3 ⟨rfl,hb⟩;rw [HM.out];have HB3 := za.mk (ze HB.out hb);clear hb))
  go_ret
  exact ⟨by rw [HO.out];rfl,HB3.out⟩
 ·have HO : za (zdi n ⟨a0,a1,l⟩ = decide (n < a0)) := ⟨by simp [zdi,hm]⟩
  have HM := za.mk hm
  clear hm
  go_enter Tryz.func65,Tryz.ntmps65
  go_wp2_with (first
   | ((with_reducible refine zq (N := 2) rfl ?_);refine zn rfl (N := 2) rfl (cs := #[.int .i64 a0,.int .i64 a1,.slice A l.length c]) (t := 75) hrq ?_;intro gb hg w2 hbox hb;have BK := za.mk hbox;have HB := za.mk hb;clear hb hbox hg;have hz0 := (zb BK.out 0).trans rfl;have hz1 := (zb BK.out 1).trans rfl;have hz2 := (zb BK.out 2).trans rfl;have hf0 := zc BK.out 0;have hf1 := zc BK.out 1;have hf2 := zc BK.out 2)
   | (go_at_call 66;(with_reducible refine (zaP.calls a0 a1 _ _ l _ _ (Kd.C_below HR.out HB.out) HC.out rfl).mono ?_);rintro e w3 ⟨rfl,hb⟩;rw [HM.out];have HB3 := za.mk (ze HB.out hb);have BK3 := za.mk (zo BK.out hb);have BN3 := za.mk (zo HN.out HB3.out);clear hb;have hy0 := (zb BK3.out 0).trans rfl;have hyf := zc BK3.out 0;have hn0 := (zb BN3.out 0).trans rfl;have hnf := zc BN3.out 0))
  go_ret
  exact ⟨by rw [HO.out];rfl,HB3.out⟩
theorem zaz.idx (n : Int) (g : Nat) (A : Option Addr) (c : Nat) (l : List S75) (w : World) (hr : Kd.C k75 w A l.length l) (hc : l.length ≤ c)
  (hn : w.heap[g]? = some (.cells #[.int .i64 n] 3 (0,0))) :
  Calls Tryz.prog 88 #[.slice A l.length c,.func (.func 65) #[] #[.pointer (some ⟨g,0,none⟩)]] w fun e w' => e = .returned (.int .i64 (zcT (zdi n) l)) ∧ Below w.heap.size w w' := by
 have hm := hr.2.1
 have HR := za.mk hr
 have HN := za.mk hn
 clear hr hn
 go_enter Tryz.func88,Tryz.ntmps88
 go_wp2_with fail
 have HB0 := za.mk (Below.refl w.heap.size w)
 go_loopw [5,8] (fun v5 v8 wr => ∃ k : Nat,v8 = .int .i64 k ∧ k ≤ l.length ∧ za (∀ (j : Nat) (y : S75),j < k → l[j]? = some y → zdi n y = false) ∧ za (Below w.heap.size w wr)) (fun _ v8 _ => l.length - (match v8 with | .int _ q => q | _ => 0).toNat)
 case atStart => exact ⟨0,rfl,Nat.zero_le _,⟨fun j y hj => absurd hj (Nat.not_lt_zero _)⟩,⟨by repeat (first | (with_reducible first | exact HB0.out | apply zl | apply zi | apply zp) | exact HB0.out)⟩⟩
 case round =>
  obtain ⟨k,rfl,hk,HF,HB⟩ := hrel
  by_cases hlt : k < l.length
  ·obtain ⟨ad,A2,c2,rfl,hx0,hx1,hx2,hl2,hi2⟩ := zcd HR.out (k : Int) (by omega) (by omega)
   replace hx0 := (HB.out.cell (World.block_lt_of_cell? w _ hx0)).trans hx0
   replace hx1 := (HB.out.cell (World.block_lt_of_cell? w _ hx1)).trans hx1
   replace hx2 := (HB.out.cell (World.block_lt_of_cell? w _ hx2)).trans hx2
   rw [Int.toNat_natCast] at hx0 hx1 hx2
   have hb : decide (k < l.length) = true := decide_eq_true hlt
   have hx : l[k]? = some (zO l (k : Int)) := by
    rw [zO,Int.toNat_natCast,List.getD_eq_getElem?_getD,List.getElem?_eq_getElem hlt];rfl
   have HX := za.mk hx
   have HL2 := za.mk hl2
   have HI2 := za.mk (Kd.C_below hi2 HB.out)
   have HNW := za.mk (zo HN.out HB.out)
   clear hx hl2 hi2
   generalize zO l (k : Int) = s at *
   obtain ⟨s0,s1,s2⟩ := s
   rcases ho : zdi n ⟨s0,s1,s2⟩ with _ | _
   ·have HO := za.mk ho
    clear ho
    go_wp2_with (go_at_call 65;(with_reducible refine (zaz.odd n g s0 s1 _ _ s2 _ HI2.out HL2.out HNW.out).mono ?_);rintro e w1 ⟨rfl,hb1⟩;rw [HO.out];have HB1 := za.mk (ze HB.out hb1);clear hb1)
    go_roundw
    case rel =>
     refine ⟨k + 1,by go_num,by omega,⟨fun j y hj hy => ?_⟩,HB1⟩
     rcases Nat.lt_succ_iff_lt_or_eq.1 hj with h | h
     ·exact HF.out j y h hy
     ·subst h
      rw [HX.out] at hy
      injection hy with hy
      subst hy
      exact HO.out
    case measure => simp;omega
   ·have HO := za.mk ho
    clear ho
    go_wp2_with (go_at_call 65;(with_reducible refine (zaz.odd n g s0 s1 _ _ s2 _ HI2.out HL2.out HNW.out).mono ?_);rintro e w1 ⟨rfl,hb1⟩;rw [HO.out];have HB1 := za.mk (ze HB.out hb1);clear hb1)
    go_ret
    exact ⟨by rw [zcU HX.out HO.out HF.out];rfl,HB1.out⟩
  ·obtain rfl : k = l.length := by omega
   go_wp2_with fail
   go_ret
   exact ⟨by rw [zcJ (fun j y hy => HF.out j y (List.getElem?_eq_some_iff.1 hy).1 hy)];rfl,HB.out⟩
theorem zaz.contains (n : Int) (g : Nat) (A : Option Addr) (c : Nat) (l : List S75) (w : World) (hr : Kd.C k75 w A l.length l) (hc : l.length ≤ c)
  (hn : w.heap[g]? = some (.cells #[.int .i64 n] 3 (0,0))) :
  Calls Tryz.prog 67 #[.slice A l.length c,.func (.func 65) #[] #[.pointer (some ⟨g,0,none⟩)]] w fun e w' => e = .returned (.bool (l.any (zdi n))) ∧ Below w.heap.size w w' := by
 have HR := za.mk hr
 have HC := za.mk hc
 have HN := za.mk hn
 clear hr hc hn
 have HA := za.mk (zii (zdi n) l)
 go_enter Tryz.func67,Tryz.ntmps67
 go_wp2_with (go_at_call 88;(with_reducible refine (zaz.idx n g _ _ l _ HR.out HC.out HN.out).mono ?_);rintro e w1 ⟨rfl,hb1⟩;have HB1 := za.mk hb1;clear hb1)
 go_ret
 exact ⟨by rw [← HA.out];rfl,HB1.out⟩
def zbo (a r : Int) (bs : List S75) (ps : List ByteArray) (x y n : Int) : Bool :=
 zcy n && decide (1 ≤ a) && decide (a ≤ n) && decide (1 ≤ r) && decide (r ≤ 1048576) && decide (bs.length ≤ 4) && !bs.any (zdi n) && zfP x y && (zdv r || (decide (x = 0) && decide (y = 0))) && zb4 ps r n
def zaz.f (a0_0 : Int) (a0_1 : Int) (l0_2 : List S75) (l0_3 : List ByteArray) (a0_4 : Int) (a0_5 : Int) (a1 : Int) : Option (Bool) := some (zbo a0_0 a0_1 l0_2 l0_3 a0_4 a0_5 a1)
set_option maxHeartbeats 4000000 in
set_option maxRecDepth 100000 in
theorem zaz.walk (a r : Int) (A2 : Option Addr) (c2 : Nat) (bs : List S75) (A3 : Option Addr) (c3 : Nat) (ps : List ByteArray) (x y n : Int) (w : World) (hr2 : Kd.C k75 w A2 bs.length bs) (hc2 : bs.length ≤ c2) (hr3 : Kd.C Kd.string w A3 ps.length ps) (hc3 : ps.length ≤ c3) :
  Calls Tryz.prog 43 #[.agg #[.int .i64 a,.int .i64 r,.slice A2 bs.length c2,.slice A3 ps.length c3,.int .i64 x,.int .i64 y],.int .i64 n] w fun e w' => e = .returned (.bool (zbo a r bs ps x y n)) ∧ Below w.heap.size w w' := by
 obtain ⟨N,hN⟩ := parents_ev ps r n hr3.2.1
 have HP := za.mk (hN N (Nat.le_refl _))
 have HR2 := za.mk hr2
 have HC2 := za.mk hc2
 have HR3 := za.mk hr3
 have HC3 := za.mk hc3
 clear hr2 hc2 hr3 hc3 hN
 rcases hm : zcy n with _ | _
 ·have HM := za.mk hm
  have HE : za (zbo a r bs ps x y n = false) := ⟨by simp only [zbo,hm];simp⟩
  clear hm
  go_enter Tryz.func43,Tryz.ntmps43
  go_wp2_with (first
   | ((with_reducible refine zq (N := 2) rfl ?_);refine zn rfl (N := 2) rfl (cs := #[.int .i64 a,.int .i64 r,.slice A2 bs.length c2,.slice A3 ps.length c3,.int .i64 x,.int .i64 y]) (t := 35) hrq ?_;intro gv hg w2 hbox hb;have BV := za.mk hbox;have HB2 := za.mk hb;clear hb hbox hg;have hv0 := (zb BV.out 0).trans rfl;have fv0 := zc BV.out 0;have hv1 := (zb BV.out 1).trans rfl;have fv1 := zc BV.out 1;have hv2 := (zb BV.out 2).trans rfl;have fv2 := zc BV.out 2;have hv3 := (zb BV.out 3).trans rfl;have fv3 := zc BV.out 3;have hv4 := (zb BV.out 4).trans rfl;have fv4 := zc BV.out 4;have hv5 := (zb BV.out 5).trans rfl;have fv5 := zc BV.out 5)
   | ((with_reducible refine zq (N := 3) rfl ?_);refine zn rfl (N := 3) rfl (cs := #[.int .i64 n]) (t := 3) hrq ?_;intro gn hg w3 hbox hb;have BN := za.mk hbox;have BV3 := za.mk (zo BV.out hb);have HB3 := za.mk (ze HB2.out hb);clear hb hbox hg;have hn0 := (zb BN.out 0).trans rfl;have fn0 := zc BN.out 0;have hu0 := (zb BV3.out 0).trans rfl;have fu0 := zc BV3.out 0;have hu1 := (zb BV3.out 1).trans rfl;have fu1 := zc BV3.out 1;have hu2 := (zb BV3.out 2).trans rfl;have fu2 := zc BV3.out 2;have hu3 := (zb BV3.out 3).trans rfl;have fu3 := zc BV3.out 3;have hu4 := (zb BV3.out 4).trans rfl;have fu4 := zc BV3.out 4;have hu5 := (zb BV3.out 5).trans rfl;have fu5 := zc BV3.out 5)
   | (go_at_call 28;(with_reducible refine (zaq.calls n _ _ (zaG n)).mono ?_);rintro e w1 ⟨rfl,⟨nd,rfl⟩⟩;rw [HM.out]))
  go_ret
  exact ⟨by rw [HE.out];rfl,by repeat (first | exact HB3.out | apply zi)⟩
 have HM := za.mk hm
 by_cases h1 : a < 1
 ·have h1d : decide (a < 1) = true := decide_eq_true h1
  have h1e : decide (1 ≤ a) = false := decide_eq_false (by omega)
  have HE : za (zbo a r bs ps x y n = false) := ⟨by simp only [zbo,h1e];simp⟩
  clear hm h1 h1e
  go_enter Tryz.func43,Tryz.ntmps43
  go_wp2_with (first
   | ((with_reducible refine zq (N := 2) rfl ?_);refine zn rfl (N := 2) rfl (cs := #[.int .i64 a,.int .i64 r,.slice A2 bs.length c2,.slice A3 ps.length c3,.int .i64 x,.int .i64 y]) (t := 35) hrq ?_;intro gv hg w2 hbox hb;have BV := za.mk hbox;have HB2 := za.mk hb;clear hb hbox hg;have hv0 := (zb BV.out 0).trans rfl;have fv0 := zc BV.out 0;have hv1 := (zb BV.out 1).trans rfl;have fv1 := zc BV.out 1;have hv2 := (zb BV.out 2).trans rfl;have fv2 := zc BV.out 2;have hv3 := (zb BV.out 3).trans rfl;have fv3 := zc BV.out 3;have hv4 := (zb BV.out 4).trans rfl;have fv4 := zc BV.out 4;have hv5 := (zb BV.out 5).trans rfl;have fv5 := zc BV.out 5)
   | ((with_reducible refine zq (N := 3) rfl ?_);refine zn rfl (N := 3) rfl (cs := #[.int .i64 n]) (t := 3) hrq ?_;intro gn hg w3 hbox hb;have BN := za.mk hbox;have BV3 := za.mk (zo BV.out hb);have HB3 := za.mk (ze HB2.out hb);clear hb hbox hg;have hn0 := (zb BN.out 0).trans rfl;have fn0 := zc BN.out 0;have hu0 := (zb BV3.out 0).trans rfl;have fu0 := zc BV3.out 0;have hu1 := (zb BV3.out 1).trans rfl;have fu1 := zc BV3.out 1;have hu2 := (zb BV3.out 2).trans rfl;have fu2 := zc BV3.out 2;have hu3 := (zb BV3.out 3).trans rfl;have fu3 := zc BV3.out 3;have hu4 := (zb BV3.out 4).trans rfl;have fu4 := zc BV3.out 4;have hu5 := (zb BV3.out 5).trans rfl;have fu5 := zc BV3.out 5)
   | (go_at_call 28;(with_reducible refine (zaq.calls n _ _ (zaG n)).mono ?_);rintro e w1 ⟨rfl,⟨nd,rfl⟩⟩;rw [HM.out]))
  go_ret
  exact ⟨by rw [HE.out];rfl,by repeat (first | exact HB3.out | apply zi)⟩
 have h1d : decide (a < 1) = false := decide_eq_false h1
 have h1e : decide (1 ≤ a) = true := decide_eq_true (by omega)
 clear h1
 by_cases h2 : n < a
 ·have h2d : decide (n < a) = true := decide_eq_true h2
  have h2e : decide (a ≤ n) = false := decide_eq_false (by omega)
  have HE : za (zbo a r bs ps x y n = false) := ⟨by simp only [zbo,h2e];simp⟩
  clear hm h2 h2e
  go_enter Tryz.func43,Tryz.ntmps43
  go_wp2_with (first
   | ((with_reducible refine zq (N := 2) rfl ?_);refine zn rfl (N := 2) rfl (cs := #[.int .i64 a,.int .i64 r,.slice A2 bs.length c2,.slice A3 ps.length c3,.int .i64 x,.int .i64 y]) (t := 35) hrq ?_;intro gv hg w2 hbox hb;have BV := za.mk hbox;have HB2 := za.mk hb;clear hb hbox hg;have hv0 := (zb BV.out 0).trans rfl;have fv0 := zc BV.out 0;have hv1 := (zb BV.out 1).trans rfl;have fv1 := zc BV.out 1;have hv2 := (zb BV.out 2).trans rfl;have fv2 := zc BV.out 2;have hv3 := (zb BV.out 3).trans rfl;have fv3 := zc BV.out 3;have hv4 := (zb BV.out 4).trans rfl;have fv4 := zc BV.out 4;have hv5 := (zb BV.out 5).trans rfl;have fv5 := zc BV.out 5)
   | ((with_reducible refine zq (N := 3) rfl ?_);refine zn rfl (N := 3) rfl (cs := #[.int .i64 n]) (t := 3) hrq ?_;intro gn hg w3 hbox hb;have BN := za.mk hbox;have BV3 := za.mk (zo BV.out hb);have HB3 := za.mk (ze HB2.out hb);clear hb hbox hg;have hn0 := (zb BN.out 0).trans rfl;have fn0 := zc BN.out 0;have hu0 := (zb BV3.out 0).trans rfl;have fu0 := zc BV3.out 0;have hu1 := (zb BV3.out 1).trans rfl;have fu1 := zc BV3.out 1;have hu2 := (zb BV3.out 2).trans rfl;have fu2 := zc BV3.out 2;have hu3 := (zb BV3.out 3).trans rfl;have fu3 := zc BV3.out 3;have hu4 := (zb BV3.out 4).trans rfl;have fu4 := zc BV3.out 4;have hu5 := (zb BV3.out 5).trans rfl;have fu5 := zc BV3.out 5)
   | (go_at_call 28;(with_reducible refine (zaq.calls n _ _ (zaG n)).mono ?_);rintro e w1 ⟨rfl,⟨nd,rfl⟩⟩;rw [HM.out]))
  go_ret
  exact ⟨by rw [HE.out];rfl,by repeat (first | exact HB3.out | apply zi)⟩
 have h2d : decide (n < a) = false := decide_eq_false h2
 have h2e : decide (a ≤ n) = true := decide_eq_true (by omega)
 clear h2
 by_cases h3 : r < 1
 ·have h3d : decide (r < 1) = true := decide_eq_true h3
  have h3e : decide (1 ≤ r) = false := decide_eq_false (by omega)
  have HE : za (zbo a r bs ps x y n = false) := ⟨by simp only [zbo,h3e];simp⟩
  clear hm h3 h3e
  go_enter Tryz.func43,Tryz.ntmps43
  go_wp2_with (first
   | ((with_reducible refine zq (N := 2) rfl ?_);refine zn rfl (N := 2) rfl (cs := #[.int .i64 a,.int .i64 r,.slice A2 bs.length c2,.slice A3 ps.length c3,.int .i64 x,.int .i64 y]) (t := 35) hrq ?_;intro gv hg w2 hbox hb;have BV := za.mk hbox;have HB2 := za.mk hb;clear hb hbox hg;have hv0 := (zb BV.out 0).trans rfl;have fv0 := zc BV.out 0;have hv1 := (zb BV.out 1).trans rfl;have fv1 := zc BV.out 1;have hv2 := (zb BV.out 2).trans rfl;have fv2 := zc BV.out 2;have hv3 := (zb BV.out 3).trans rfl;have fv3 := zc BV.out 3;have hv4 := (zb BV.out 4).trans rfl;have fv4 := zc BV.out 4;have hv5 := (zb BV.out 5).trans rfl;have fv5 := zc BV.out 5)
   | ((with_reducible refine zq (N := 3) rfl ?_);refine zn rfl (N := 3) rfl (cs := #[.int .i64 n]) (t := 3) hrq ?_;intro gn hg w3 hbox hb;have BN := za.mk hbox;have BV3 := za.mk (zo BV.out hb);have HB3 := za.mk (ze HB2.out hb);clear hb hbox hg;have hn0 := (zb BN.out 0).trans rfl;have fn0 := zc BN.out 0;have hu0 := (zb BV3.out 0).trans rfl;have fu0 := zc BV3.out 0;have hu1 := (zb BV3.out 1).trans rfl;have fu1 := zc BV3.out 1;have hu2 := (zb BV3.out 2).trans rfl;have fu2 := zc BV3.out 2;have hu3 := (zb BV3.out 3).trans rfl;have fu3 := zc BV3.out 3;have hu4 := (zb BV3.out 4).trans rfl;have fu4 := zc BV3.out 4;have hu5 := (zb BV3.out 5).trans rfl;have fu5 := zc BV3.out 5)
   | (go_at_call 28;(with_reducible refine (zaq.calls n _ _ (zaG n)).mono ?_);rintro e w1 ⟨rfl,⟨nd,rfl⟩⟩;rw [HM.out]))
  go_ret
  exact ⟨by rw [HE.out];rfl,by repeat (first | exact HB3.out | apply zi)⟩
 have h3d : decide (r < 1) = false := decide_eq_false h3
 have h3e : decide (1 ≤ r) = true := decide_eq_true (by omega)
 clear h3
 by_cases h4 : 1048576 < r
 ·have h4d : decide (1048576 < r) = true := decide_eq_true h4
  have h4e : decide (r ≤ 1048576) = false := decide_eq_false (by omega)
  have HE : za (zbo a r bs ps x y n = false) := ⟨by simp only [zbo,h4e];simp⟩
  clear hm h4 h4e
  go_enter Tryz.func43,Tryz.ntmps43
  go_wp2_with (first
   | ((with_reducible refine zq (N := 2) rfl ?_);refine zn rfl (N := 2) rfl (cs := #[.int .i64 a,.int .i64 r,.slice A2 bs.length c2,.slice A3 ps.length c3,.int .i64 x,.int .i64 y]) (t := 35) hrq ?_;intro gv hg w2 hbox hb;have BV := za.mk hbox;have HB2 := za.mk hb;clear hb hbox hg;have hv0 := (zb BV.out 0).trans rfl;have fv0 := zc BV.out 0;have hv1 := (zb BV.out 1).trans rfl;have fv1 := zc BV.out 1;have hv2 := (zb BV.out 2).trans rfl;have fv2 := zc BV.out 2;have hv3 := (zb BV.out 3).trans rfl;have fv3 := zc BV.out 3;have hv4 := (zb BV.out 4).trans rfl;have fv4 := zc BV.out 4;have hv5 := (zb BV.out 5).trans rfl;have fv5 := zc BV.out 5)
   | ((with_reducible refine zq (N := 3) rfl ?_);refine zn rfl (N := 3) rfl (cs := #[.int .i64 n]) (t := 3) hrq ?_;intro gn hg w3 hbox hb;have BN := za.mk hbox;have BV3 := za.mk (zo BV.out hb);have HB3 := za.mk (ze HB2.out hb);clear hb hbox hg;have hn0 := (zb BN.out 0).trans rfl;have fn0 := zc BN.out 0;have hu0 := (zb BV3.out 0).trans rfl;have fu0 := zc BV3.out 0;have hu1 := (zb BV3.out 1).trans rfl;have fu1 := zc BV3.out 1;have hu2 := (zb BV3.out 2).trans rfl;have fu2 := zc BV3.out 2;have hu3 := (zb BV3.out 3).trans rfl;have fu3 := zc BV3.out 3;have hu4 := (zb BV3.out 4).trans rfl;have fu4 := zc BV3.out 4;have hu5 := (zb BV3.out 5).trans rfl;have fu5 := zc BV3.out 5)
   | (go_at_call 28;(with_reducible refine (zaq.calls n _ _ (zaG n)).mono ?_);rintro e w1 ⟨rfl,⟨nd,rfl⟩⟩;rw [HM.out]))
  go_ret
  exact ⟨by rw [HE.out];rfl,by repeat (first | exact HB3.out | apply zi)⟩
 have h4d : decide (1048576 < r) = false := decide_eq_false h4
 have h4e : decide (r ≤ 1048576) = true := decide_eq_true (by omega)
 clear h4
 by_cases h5 : 4 < (bs.length : Int)
 ·have h5d : decide (4 < (bs.length : Int)) = true := decide_eq_true h5
  have h5e : decide (bs.length ≤ 4) = false := decide_eq_false (by omega)
  have HE : za (zbo a r bs ps x y n = false) := ⟨by simp only [zbo,h5e];simp⟩
  clear hm h5 h5e
  go_enter Tryz.func43,Tryz.ntmps43
  go_wp2_with (first
   | ((with_reducible refine zq (N := 2) rfl ?_);refine zn rfl (N := 2) rfl (cs := #[.int .i64 a,.int .i64 r,.slice A2 bs.length c2,.slice A3 ps.length c3,.int .i64 x,.int .i64 y]) (t := 35) hrq ?_;intro gv hg w2 hbox hb;have BV := za.mk hbox;have HB2 := za.mk hb;clear hb hbox hg;have hv0 := (zb BV.out 0).trans rfl;have fv0 := zc BV.out 0;have hv1 := (zb BV.out 1).trans rfl;have fv1 := zc BV.out 1;have hv2 := (zb BV.out 2).trans rfl;have fv2 := zc BV.out 2;have hv3 := (zb BV.out 3).trans rfl;have fv3 := zc BV.out 3;have hv4 := (zb BV.out 4).trans rfl;have fv4 := zc BV.out 4;have hv5 := (zb BV.out 5).trans rfl;have fv5 := zc BV.out 5)
   | ((with_reducible refine zq (N := 3) rfl ?_);refine zn rfl (N := 3) rfl (cs := #[.int .i64 n]) (t := 3) hrq ?_;intro gn hg w3 hbox hb;have BN := za.mk hbox;have BV3 := za.mk (zo BV.out hb);have HB3 := za.mk (ze HB2.out hb);clear hb hbox hg;have hn0 := (zb BN.out 0).trans rfl;have fn0 := zc BN.out 0;have hu0 := (zb BV3.out 0).trans rfl;have fu0 := zc BV3.out 0;have hu1 := (zb BV3.out 1).trans rfl;have fu1 := zc BV3.out 1;have hu2 := (zb BV3.out 2).trans rfl;have fu2 := zc BV3.out 2;have hu3 := (zb BV3.out 3).trans rfl;have fu3 := zc BV3.out 3;have hu4 := (zb BV3.out 4).trans rfl;have fu4 := zc BV3.out 4;have hu5 := (zb BV3.out 5).trans rfl;have fu5 := zc BV3.out 5)
   | (go_at_call 28;(with_reducible refine (zaq.calls n _ _ (zaG n)).mono ?_);rintro e w1 ⟨rfl,⟨nd,rfl⟩⟩;rw [HM.out]))
  go_ret
  exact ⟨by rw [HE.out];rfl,by repeat (first | exact HB3.out | apply zi)⟩
 have h5d : decide (4 < (bs.length : Int)) = false := decide_eq_false h5
 have h5e : decide (bs.length ≤ 4) = true := decide_eq_true (by omega)
 clear h5
 rcases ha : bs.any (zdi n) with _ | _
 rotate_left
 ·have HA := za.mk ha
  have HE : za (zbo a r bs ps x y n = false) := ⟨by simp only [zbo,ha];simp⟩
  clear hm ha h1e h2e h3e h4e h5e
  go_enter Tryz.func43,Tryz.ntmps43
  go_wp2_with (first
   | ((with_reducible refine zq (N := 2) rfl ?_);refine zn rfl (N := 2) rfl (cs := #[.int .i64 a,.int .i64 r,.slice A2 bs.length c2,.slice A3 ps.length c3,.int .i64 x,.int .i64 y]) (t := 35) hrq ?_;intro gv hg w2 hbox hb;have BV := za.mk hbox;have HB2 := za.mk hb;clear hb hbox hg;have hv0 := (zb BV.out 0).trans rfl;have fv0 := zc BV.out 0;have hv1 := (zb BV.out 1).trans rfl;have fv1 := zc BV.out 1;have hv2 := (zb BV.out 2).trans rfl;have fv2 := zc BV.out 2;have hv3 := (zb BV.out 3).trans rfl;have fv3 := zc BV.out 3;have hv4 := (zb BV.out 4).trans rfl;have fv4 := zc BV.out 4;have hv5 := (zb BV.out 5).trans rfl;have fv5 := zc BV.out 5)
   | ((with_reducible refine zq (N := 3) rfl ?_);refine zn rfl (N := 3) rfl (cs := #[.int .i64 n]) (t := 3) hrq ?_;intro gn hg w3 hbox hb;have BN := za.mk hbox;have BV3 := za.mk (zo BV.out hb);have HB3 := za.mk (ze HB2.out hb);clear hb hbox hg;have hn0 := (zb BN.out 0).trans rfl;have fn0 := zc BN.out 0;have hu0 := (zb BV3.out 0).trans rfl;have fu0 := zc BV3.out 0;have hu1 := (zb BV3.out 1).trans rfl;have fu1 := zc BV3.out 1;have hu2 := (zb BV3.out 2).trans rfl;have fu2 := zc BV3.out 2;have hu3 := (zb BV3.out 3).trans rfl;have fu3 := zc BV3.out 3;have hu4 := (zb BV3.out 4).trans rfl;have fu4 := zc BV3.out 4;have hu5 := (zb BV3.out 5).trans rfl;have fu5 := zc BV3.out 5)
   | (go_at_call 28;(with_reducible refine (zaq.calls n _ _ (zaG n)).mono ?_);rintro e w1 ⟨rfl,⟨nd,rfl⟩⟩;rw [HM.out])
   | (go_at_call 67;(with_reducible refine (zaz.contains n gn _ _ bs _ (Kd.C_below HR2.out (zi HB3.out _)) HC2.out (zai BN.out _)).mono ?_);rintro e w4 ⟨rfl,hb⟩;rw [HA.out];have BV4 := za.mk (zo (zai BV3.out _) hb);have BN4 := za.mk (zo (zai BN.out _) hb);have HB4 := za.mk (ze (zi HB3.out _) hb);clear hb;have hm0 := (zb BN4.out 0).trans rfl;have fm0 := zc BN4.out 0;have hs0 := (zb BV4.out 0).trans rfl;have fs0 := zc BV4.out 0;have hs1 := (zb BV4.out 1).trans rfl;have fs1 := zc BV4.out 1;have hs2 := (zb BV4.out 2).trans rfl;have fs2 := zc BV4.out 2;have hs3 := (zb BV4.out 3).trans rfl;have fs3 := zc BV4.out 3;have hs4 := (zb BV4.out 4).trans rfl;have fs4 := zc BV4.out 4;have hs5 := (zb BV4.out 5).trans rfl;have fs5 := zc BV4.out 5))
  go_ret
  exact ⟨by rw [HE.out];rfl,by repeat (first | exact HB4.out | apply zi)⟩
 have HA := za.mk ha
 rcases hg : zfP x y with _ | _
 ·have HG := za.mk hg
  have HE : za (zbo a r bs ps x y n = false) := ⟨by simp only [zbo,hg];simp⟩
  clear hm ha hg h1e h2e h3e h4e h5e
  go_enter Tryz.func43,Tryz.ntmps43
  go_wp2_with (first
   | ((with_reducible refine zq (N := 2) rfl ?_);refine zn rfl (N := 2) rfl (cs := #[.int .i64 a,.int .i64 r,.slice A2 bs.length c2,.slice A3 ps.length c3,.int .i64 x,.int .i64 y]) (t := 35) hrq ?_;intro gv hg w2 hbox hb;have BV := za.mk hbox;have HB2 := za.mk hb;clear hb hbox hg;have hv0 := (zb BV.out 0).trans rfl;have fv0 := zc BV.out 0;have hv1 := (zb BV.out 1).trans rfl;have fv1 := zc BV.out 1;have hv2 := (zb BV.out 2).trans rfl;have fv2 := zc BV.out 2;have hv3 := (zb BV.out 3).trans rfl;have fv3 := zc BV.out 3;have hv4 := (zb BV.out 4).trans rfl;have fv4 := zc BV.out 4;have hv5 := (zb BV.out 5).trans rfl;have fv5 := zc BV.out 5)
   | ((with_reducible refine zq (N := 3) rfl ?_);refine zn rfl (N := 3) rfl (cs := #[.int .i64 n]) (t := 3) hrq ?_;intro gn hg w3 hbox hb;have BN := za.mk hbox;have BV3 := za.mk (zo BV.out hb);have HB3 := za.mk (ze HB2.out hb);clear hb hbox hg;have hn0 := (zb BN.out 0).trans rfl;have fn0 := zc BN.out 0;have hu0 := (zb BV3.out 0).trans rfl;have fu0 := zc BV3.out 0;have hu1 := (zb BV3.out 1).trans rfl;have fu1 := zc BV3.out 1;have hu2 := (zb BV3.out 2).trans rfl;have fu2 := zc BV3.out 2;have hu3 := (zb BV3.out 3).trans rfl;have fu3 := zc BV3.out 3;have hu4 := (zb BV3.out 4).trans rfl;have fu4 := zc BV3.out 4;have hu5 := (zb BV3.out 5).trans rfl;have fu5 := zc BV3.out 5)
   | (go_at_call 28;(with_reducible refine (zaq.calls n _ _ (zaG n)).mono ?_);rintro e w1 ⟨rfl,⟨nd,rfl⟩⟩;rw [HM.out])
   | (go_at_call 67;(with_reducible refine (zaz.contains n gn _ _ bs _ (Kd.C_below HR2.out (zi HB3.out _)) HC2.out (zai BN.out _)).mono ?_);rintro e w4 ⟨rfl,hb⟩;rw [HA.out];have BV4 := za.mk (zo (zai BV3.out _) hb);have BN4 := za.mk (zo (zai BN.out _) hb);have HB4 := za.mk (ze (zi HB3.out _) hb);clear hb;have hm0 := (zb BN4.out 0).trans rfl;have fm0 := zc BN4.out 0;have hs0 := (zb BV4.out 0).trans rfl;have fs0 := zc BV4.out 0;have hs1 := (zb BV4.out 1).trans rfl;have fs1 := zc BV4.out 1;have hs2 := (zb BV4.out 2).trans rfl;have fs2 := zc BV4.out 2;have hs3 := (zb BV4.out 3).trans rfl;have fs3 := zc BV4.out 3;have hs4 := (zb BV4.out 4).trans rfl;have fs4 := zc BV4.out 4;have hs5 := (zb BV4.out 5).trans rfl;have fs5 := zc BV4.out 5)
   | (go_at_call 68;(with_reducible refine (zb8.calls x y _ _ (zcv x y)).mono ?_);rintro e w5 ⟨rfl,hb⟩;rw [HG.out];have BV5 := za.mk (zo BV4.out hb);have BN5 := za.mk (zo BN4.out hb);have HB5 := za.mk (ze HB4.out hb);clear hb;have hk0 := (zb BN5.out 0).trans rfl;have fk0 := zc BN5.out 0;have hq0 := (zb BV5.out 0).trans rfl;have fq0 := zc BV5.out 0;have hq1 := (zb BV5.out 1).trans rfl;have fq1 := zc BV5.out 1;have hq2 := (zb BV5.out 2).trans rfl;have fq2 := zc BV5.out 2;have hq3 := (zb BV5.out 3).trans rfl;have fq3 := zc BV5.out 3;have hq4 := (zb BV5.out 4).trans rfl;have fq4 := zc BV5.out 4;have hq5 := (zb BV5.out 5).trans rfl;have fq5 := zc BV5.out 5))
  go_ret
  exact ⟨by rw [HE.out];rfl,by repeat (first | exact HB5.out | apply zi)⟩
 have HG := za.mk hg
 rcases ht : zdv r with _ | _
 ·have HT := za.mk ht
  by_cases h6 : x = 0
  ·have h6b : (x == 0) = true := beq_iff_eq.mpr h6
   have h6e : decide (x = 0) = true := decide_eq_true h6
   by_cases h7 : y = 0
   ·have h7b : (y == 0) = true := beq_iff_eq.mpr h7
    have h7e : decide (y = 0) = true := decide_eq_true h7
    have HE : za (zbo a r bs ps x y n = zb4 ps r n) := ⟨by simp only [zbo,hm,h1e,h2e,h3e,h4e,h5e,ha,hg,ht,h6e,h7e];simp⟩
    clear hm ha hg ht h1e h2e h3e h4e h5e h6 h6e h7 h7e
    go_enter Tryz.func43,Tryz.ntmps43
    go_wp2_with (first
     | ((with_reducible refine zq (N := 2) rfl ?_);refine zn rfl (N := 2) rfl (cs := #[.int .i64 a,.int .i64 r,.slice A2 bs.length c2,.slice A3 ps.length c3,.int .i64 x,.int .i64 y]) (t := 35) hrq ?_;intro gv hg w2 hbox hb;have BV := za.mk hbox;have HB2 := za.mk hb;clear hb hbox hg;have hv0 := (zb BV.out 0).trans rfl;have fv0 := zc BV.out 0;have hv1 := (zb BV.out 1).trans rfl;have fv1 := zc BV.out 1;have hv2 := (zb BV.out 2).trans rfl;have fv2 := zc BV.out 2;have hv3 := (zb BV.out 3).trans rfl;have fv3 := zc BV.out 3;have hv4 := (zb BV.out 4).trans rfl;have fv4 := zc BV.out 4;have hv5 := (zb BV.out 5).trans rfl;have fv5 := zc BV.out 5)
     | ((with_reducible refine zq (N := 3) rfl ?_);refine zn rfl (N := 3) rfl (cs := #[.int .i64 n]) (t := 3) hrq ?_;intro gn hg w3 hbox hb;have BN := za.mk hbox;have BV3 := za.mk (zo BV.out hb);have HB3 := za.mk (ze HB2.out hb);clear hb hbox hg;have hn0 := (zb BN.out 0).trans rfl;have fn0 := zc BN.out 0;have hu0 := (zb BV3.out 0).trans rfl;have fu0 := zc BV3.out 0;have hu1 := (zb BV3.out 1).trans rfl;have fu1 := zc BV3.out 1;have hu2 := (zb BV3.out 2).trans rfl;have fu2 := zc BV3.out 2;have hu3 := (zb BV3.out 3).trans rfl;have fu3 := zc BV3.out 3;have hu4 := (zb BV3.out 4).trans rfl;have fu4 := zc BV3.out 4;have hu5 := (zb BV3.out 5).trans rfl;have fu5 := zc BV3.out 5)
     | (go_at_call 28;(with_reducible refine (zaq.calls n _ _ (zaG n)).mono ?_);rintro e w1 ⟨rfl,⟨nd,rfl⟩⟩;rw [HM.out])
     | (go_at_call 67;(with_reducible refine (zaz.contains n gn _ _ bs _ (Kd.C_below HR2.out (zi HB3.out _)) HC2.out (zai BN.out _)).mono ?_);rintro e w4 ⟨rfl,hb⟩;rw [HA.out];have BV4 := za.mk (zo (zai BV3.out _) hb);have BN4 := za.mk (zo (zai BN.out _) hb);have HB4 := za.mk (ze (zi HB3.out _) hb);clear hb;have hm0 := (zb BN4.out 0).trans rfl;have fm0 := zc BN4.out 0;have hs0 := (zb BV4.out 0).trans rfl;have fs0 := zc BV4.out 0;have hs1 := (zb BV4.out 1).trans rfl;have fs1 := zc BV4.out 1;have hs2 := (zb BV4.out 2).trans rfl;have fs2 := zc BV4.out 2;have hs3 := (zb BV4.out 3).trans rfl;have fs3 := zc BV4.out 3;have hs4 := (zb BV4.out 4).trans rfl;have fs4 := zc BV4.out 4;have hs5 := (zb BV4.out 5).trans rfl;have fs5 := zc BV4.out 5)
     | (go_at_call 68;(with_reducible refine (zb8.calls x y _ _ (zcv x y)).mono ?_);rintro e w5 ⟨rfl,hb⟩;rw [HG.out];have BV5 := za.mk (zo BV4.out hb);have BN5 := za.mk (zo BN4.out hb);have HB5 := za.mk (ze HB4.out hb);clear hb;have hk0 := (zb BN5.out 0).trans rfl;have fk0 := zc BN5.out 0;have hq0 := (zb BV5.out 0).trans rfl;have fq0 := zc BV5.out 0;have hq1 := (zb BV5.out 1).trans rfl;have fq1 := zc BV5.out 1;have hq2 := (zb BV5.out 2).trans rfl;have fq2 := zc BV5.out 2;have hq3 := (zb BV5.out 3).trans rfl;have fq3 := zc BV5.out 3;have hq4 := (zb BV5.out 4).trans rfl;have fq4 := zc BV5.out 4;have hq5 := (zb BV5.out 5).trans rfl;have fq5 := zc BV5.out 5)
     | (go_at_call 69;(with_reducible refine (zbD.calls r _ _ (zcj r)).mono ?_);rintro e w6 ⟨rfl,⟨nt,rfl⟩⟩;rw [HT.out])
     | (go_at_call 70;(with_reducible refine (zaj.calls N _ _ ps r n _ _ (Kd.C_below HR3.out (by repeat (first | exact HB5.out | apply zi))) HC3.out HP.out).mono ?_);rintro e w7 ⟨rfl,⟨np,rfl⟩⟩))
    go_ret
    exact ⟨by rw [HE.out];rfl,by repeat (first | exact HB5.out | apply zi)⟩
   ·have h7b : (y == 0) = false := beq_eq_false_iff_ne.mpr h7
    have h7e : decide (y = 0) = false := decide_eq_false h7
    have HE : za (zbo a r bs ps x y n = false) := ⟨by simp only [zbo,ht,h7e];simp⟩
    clear hm ha hg ht h1e h2e h3e h4e h5e h6 h6e h7 h7e
    go_enter Tryz.func43,Tryz.ntmps43
    go_wp2_with (first
     | ((with_reducible refine zq (N := 2) rfl ?_);refine zn rfl (N := 2) rfl (cs := #[.int .i64 a,.int .i64 r,.slice A2 bs.length c2,.slice A3 ps.length c3,.int .i64 x,.int .i64 y]) (t := 35) hrq ?_;intro gv hg w2 hbox hb;have BV := za.mk hbox;have HB2 := za.mk hb;clear hb hbox hg;have hv0 := (zb BV.out 0).trans rfl;have fv0 := zc BV.out 0;have hv1 := (zb BV.out 1).trans rfl;have fv1 := zc BV.out 1;have hv2 := (zb BV.out 2).trans rfl;have fv2 := zc BV.out 2;have hv3 := (zb BV.out 3).trans rfl;have fv3 := zc BV.out 3;have hv4 := (zb BV.out 4).trans rfl;have fv4 := zc BV.out 4;have hv5 := (zb BV.out 5).trans rfl;have fv5 := zc BV.out 5)
     | ((with_reducible refine zq (N := 3) rfl ?_);refine zn rfl (N := 3) rfl (cs := #[.int .i64 n]) (t := 3) hrq ?_;intro gn hg w3 hbox hb;have BN := za.mk hbox;have BV3 := za.mk (zo BV.out hb);have HB3 := za.mk (ze HB2.out hb);clear hb hbox hg;have hn0 := (zb BN.out 0).trans rfl;have fn0 := zc BN.out 0;have hu0 := (zb BV3.out 0).trans rfl;have fu0 := zc BV3.out 0;have hu1 := (zb BV3.out 1).trans rfl;have fu1 := zc BV3.out 1;have hu2 := (zb BV3.out 2).trans rfl;have fu2 := zc BV3.out 2;have hu3 := (zb BV3.out 3).trans rfl;have fu3 := zc BV3.out 3;have hu4 := (zb BV3.out 4).trans rfl;have fu4 := zc BV3.out 4;have hu5 := (zb BV3.out 5).trans rfl;have fu5 := zc BV3.out 5)
     | (go_at_call 28;(with_reducible refine (zaq.calls n _ _ (zaG n)).mono ?_);rintro e w1 ⟨rfl,⟨nd,rfl⟩⟩;rw [HM.out])
     | (go_at_call 67;(with_reducible refine (zaz.contains n gn _ _ bs _ (Kd.C_below HR2.out (zi HB3.out _)) HC2.out (zai BN.out _)).mono ?_);rintro e w4 ⟨rfl,hb⟩;rw [HA.out];have BV4 := za.mk (zo (zai BV3.out _) hb);have BN4 := za.mk (zo (zai BN.out _) hb);have HB4 := za.mk (ze (zi HB3.out _) hb);clear hb;have hm0 := (zb BN4.out 0).trans rfl;have fm0 := zc BN4.out 0;have hs0 := (zb BV4.out 0).trans rfl;have fs0 := zc BV4.out 0;have hs1 := (zb BV4.out 1).trans rfl;have fs1 := zc BV4.out 1;have hs2 := (zb BV4.out 2).trans rfl;have fs2 := zc BV4.out 2;have hs3 := (zb BV4.out 3).trans rfl;have fs3 := zc BV4.out 3;have hs4 := (zb BV4.out 4).trans rfl;have fs4 := zc BV4.out 4;have hs5 := (zb BV4.out 5).trans rfl;have fs5 := zc BV4.out 5)
     | (go_at_call 68;(with_reducible refine (zb8.calls x y _ _ (zcv x y)).mono ?_);rintro e w5 ⟨rfl,hb⟩;rw [HG.out];have BV5 := za.mk (zo BV4.out hb);have BN5 := za.mk (zo BN4.out hb);have HB5 := za.mk (ze HB4.out hb);clear hb;have hk0 := (zb BN5.out 0).trans rfl;have fk0 := zc BN5.out 0;have hq0 := (zb BV5.out 0).trans rfl;have fq0 := zc BV5.out 0;have hq1 := (zb BV5.out 1).trans rfl;have fq1 := zc BV5.out 1;have hq2 := (zb BV5.out 2).trans rfl;have fq2 := zc BV5.out 2;have hq3 := (zb BV5.out 3).trans rfl;have fq3 := zc BV5.out 3;have hq4 := (zb BV5.out 4).trans rfl;have fq4 := zc BV5.out 4;have hq5 := (zb BV5.out 5).trans rfl;have fq5 := zc BV5.out 5)
     | (go_at_call 69;(with_reducible refine (zbD.calls r _ _ (zcj r)).mono ?_);rintro e w6 ⟨rfl,⟨nt,rfl⟩⟩;rw [HT.out]))
    go_ret
    exact ⟨by rw [HE.out];rfl,by repeat (first | exact HB5.out | apply zi)⟩
  ·have h6b : (x == 0) = false := beq_eq_false_iff_ne.mpr h6
   have h6e : decide (x = 0) = false := decide_eq_false h6
   have HE : za (zbo a r bs ps x y n = false) := ⟨by simp only [zbo,ht,h6e];simp⟩
   clear hm ha hg ht h1e h2e h3e h4e h5e h6 h6e
   go_enter Tryz.func43,Tryz.ntmps43
   go_wp2_with (first
    | ((with_reducible refine zq (N := 2) rfl ?_);refine zn rfl (N := 2) rfl (cs := #[.int .i64 a,.int .i64 r,.slice A2 bs.length c2,.slice A3 ps.length c3,.int .i64 x,.int .i64 y]) (t := 35) hrq ?_;intro gv hg w2 hbox hb;have BV := za.mk hbox;have HB2 := za.mk hb;clear hb hbox hg;have hv0 := (zb BV.out 0).trans rfl;have fv0 := zc BV.out 0;have hv1 := (zb BV.out 1).trans rfl;have fv1 := zc BV.out 1;have hv2 := (zb BV.out 2).trans rfl;have fv2 := zc BV.out 2;have hv3 := (zb BV.out 3).trans rfl;have fv3 := zc BV.out 3;have hv4 := (zb BV.out 4).trans rfl;have fv4 := zc BV.out 4;have hv5 := (zb BV.out 5).trans rfl;have fv5 := zc BV.out 5)
    | ((with_reducible refine zq (N := 3) rfl ?_);refine zn rfl (N := 3) rfl (cs := #[.int .i64 n]) (t := 3) hrq ?_;intro gn hg w3 hbox hb;have BN := za.mk hbox;have BV3 := za.mk (zo BV.out hb);have HB3 := za.mk (ze HB2.out hb);clear hb hbox hg;have hn0 := (zb BN.out 0).trans rfl;have fn0 := zc BN.out 0;have hu0 := (zb BV3.out 0).trans rfl;have fu0 := zc BV3.out 0;have hu1 := (zb BV3.out 1).trans rfl;have fu1 := zc BV3.out 1;have hu2 := (zb BV3.out 2).trans rfl;have fu2 := zc BV3.out 2;have hu3 := (zb BV3.out 3).trans rfl;have fu3 := zc BV3.out 3;have hu4 := (zb BV3.out 4).trans rfl;have fu4 := zc BV3.out 4;have hu5 := (zb BV3.out 5).trans rfl;have fu5 := zc BV3.out 5)
    | (go_at_call 28;(with_reducible refine (zaq.calls n _ _ (zaG n)).mono ?_);rintro e w1 ⟨rfl,⟨nd,rfl⟩⟩;rw [HM.out])
    | (go_at_call 67;(with_reducible refine (zaz.contains n gn _ _ bs _ (Kd.C_below HR2.out (zi HB3.out _)) HC2.out (zai BN.out _)).mono ?_);rintro e w4 ⟨rfl,hb⟩;rw [HA.out];have BV4 := za.mk (zo (zai BV3.out _) hb);have BN4 := za.mk (zo (zai BN.out _) hb);have HB4 := za.mk (ze (zi HB3.out _) hb);clear hb;have hm0 := (zb BN4.out 0).trans rfl;have fm0 := zc BN4.out 0;have hs0 := (zb BV4.out 0).trans rfl;have fs0 := zc BV4.out 0;have hs1 := (zb BV4.out 1).trans rfl;have fs1 := zc BV4.out 1;have hs2 := (zb BV4.out 2).trans rfl;have fs2 := zc BV4.out 2;have hs3 := (zb BV4.out 3).trans rfl;have fs3 := zc BV4.out 3;have hs4 := (zb BV4.out 4).trans rfl;have fs4 := zc BV4.out 4;have hs5 := (zb BV4.out 5).trans rfl;have fs5 := zc BV4.out 5)
    | (go_at_call 68;(with_reducible refine (zb8.calls x y _ _ (zcv x y)).mono ?_);rintro e w5 ⟨rfl,hb⟩;rw [HG.out];have BV5 := za.mk (zo BV4.out hb);have BN5 := za.mk (zo BN4.out hb);have HB5 := za.mk (ze HB4.out hb);clear hb;have hk0 := (zb BN5.out 0).trans rfl;have fk0 := zc BN5.out 0;have hq0 := (zb BV5.out 0).trans rfl;have fq0 := zc BV5.out 0;have hq1 := (zb BV5.out 1).trans rfl;have fq1 := zc BV5.out 1;have hq2 := (zb BV5.out 2).trans rfl;have fq2 := zc BV5.out 2;have hq3 := (zb BV5.out 3).trans rfl;have fq3 := zc BV5.out 3;have hq4 := (zb BV5.out 4).trans rfl;have fq4 := zc BV5.out 4;have hq5 := (zb BV5.out 5).trans rfl;have fq5 := zc BV5.out 5)
    | (go_at_call 69;(with_reducible refine (zbD.calls r _ _ (zcj r)).mono ?_);rintro e w6 ⟨rfl,⟨nt,rfl⟩⟩;rw [HT.out]))
   go_ret
   exact ⟨by rw [HE.out];rfl,by repeat (first | exact HB5.out | apply zi)⟩
 ·have HT := za.mk ht
  have HE : za (zbo a r bs ps x y n = zb4 ps r n) := ⟨by simp only [zbo,hm,h1e,h2e,h3e,h4e,h5e,ha,hg,ht];simp⟩
  clear hm ha hg ht h1e h2e h3e h4e h5e
  go_enter Tryz.func43,Tryz.ntmps43
  go_wp2_with (first
   | ((with_reducible refine zq (N := 2) rfl ?_);refine zn rfl (N := 2) rfl (cs := #[.int .i64 a,.int .i64 r,.slice A2 bs.length c2,.slice A3 ps.length c3,.int .i64 x,.int .i64 y]) (t := 35) hrq ?_;intro gv hg w2 hbox hb;have BV := za.mk hbox;have HB2 := za.mk hb;clear hb hbox hg;have hv0 := (zb BV.out 0).trans rfl;have fv0 := zc BV.out 0;have hv1 := (zb BV.out 1).trans rfl;have fv1 := zc BV.out 1;have hv2 := (zb BV.out 2).trans rfl;have fv2 := zc BV.out 2;have hv3 := (zb BV.out 3).trans rfl;have fv3 := zc BV.out 3;have hv4 := (zb BV.out 4).trans rfl;have fv4 := zc BV.out 4;have hv5 := (zb BV.out 5).trans rfl;have fv5 := zc BV.out 5)
   | ((with_reducible refine zq (N := 3) rfl ?_);refine zn rfl (N := 3) rfl (cs := #[.int .i64 n]) (t := 3) hrq ?_;intro gn hg w3 hbox hb;have BN := za.mk hbox;have BV3 := za.mk (zo BV.out hb);have HB3 := za.mk (ze HB2.out hb);clear hb hbox hg;have hn0 := (zb BN.out 0).trans rfl;have fn0 := zc BN.out 0;have hu0 := (zb BV3.out 0).trans rfl;have fu0 := zc BV3.out 0;have hu1 := (zb BV3.out 1).trans rfl;have fu1 := zc BV3.out 1;have hu2 := (zb BV3.out 2).trans rfl;have fu2 := zc BV3.out 2;have hu3 := (zb BV3.out 3).trans rfl;have fu3 := zc BV3.out 3;have hu4 := (zb BV3.out 4).trans rfl;have fu4 := zc BV3.out 4;have hu5 := (zb BV3.out 5).trans rfl;have fu5 := zc BV3.out 5)
   | (go_at_call 28;(with_reducible refine (zaq.calls n _ _ (zaG n)).mono ?_);rintro e w1 ⟨rfl,⟨nd,rfl⟩⟩;rw [HM.out])
   | (go_at_call 67;(with_reducible refine (zaz.contains n gn _ _ bs _ (Kd.C_below HR2.out (zi HB3.out _)) HC2.out (zai BN.out _)).mono ?_);rintro e w4 ⟨rfl,hb⟩;rw [HA.out];have BV4 := za.mk (zo (zai BV3.out _) hb);have BN4 := za.mk (zo (zai BN.out _) hb);have HB4 := za.mk (ze (zi HB3.out _) hb);clear hb;have hm0 := (zb BN4.out 0).trans rfl;have fm0 := zc BN4.out 0;have hs0 := (zb BV4.out 0).trans rfl;have fs0 := zc BV4.out 0;have hs1 := (zb BV4.out 1).trans rfl;have fs1 := zc BV4.out 1;have hs2 := (zb BV4.out 2).trans rfl;have fs2 := zc BV4.out 2;have hs3 := (zb BV4.out 3).trans rfl;have fs3 := zc BV4.out 3;have hs4 := (zb BV4.out 4).trans rfl;have fs4 := zc BV4.out 4;have hs5 := (zb BV4.out 5).trans rfl;have fs5 := zc BV4.out 5)
   | (go_at_call 68;(with_reducible refine (zb8.calls x y _ _ (zcv x y)).mono ?_);rintro e w5 ⟨rfl,hb⟩;rw [HG.out];have BV5 := za.mk (zo BV4.out hb);have BN5 := za.mk (zo BN4.out hb);have HB5 := za.mk (ze HB4.out hb);clear hb;have hk0 := (zb BN5.out 0).trans rfl;have fk0 := zc BN5.out 0;have hq0 := (zb BV5.out 0).trans rfl;have fq0 := zc BV5.out 0;have hq1 := (zb BV5.out 1).trans rfl;have fq1 := zc BV5.out 1;have hq2 := (zb BV5.out 2).trans rfl;have fq2 := zc BV5.out 2;have hq3 := (zb BV5.out 3).trans rfl;have fq3 := zc BV5.out 3;have hq4 := (zb BV5.out 4).trans rfl;have fq4 := zc BV5.out 4;have hq5 := (zb BV5.out 5).trans rfl;have fq5 := zc BV5.out 5)
   | (go_at_call 69;(with_reducible refine (zbD.calls r _ _ (zcj r)).mono ?_);rintro e w6 ⟨rfl,⟨nt,rfl⟩⟩;rw [HT.out])
   | (go_at_call 70;(with_reducible refine (zaj.calls N _ _ ps r n _ _ (Kd.C_below HR3.out (by repeat (first | exact HB5.out | apply zi))) HC3.out HP.out).mono ?_);rintro e w7 ⟨rfl,⟨np,rfl⟩⟩))
  go_ret
  exact ⟨by rw [HE.out];rfl,by repeat (first | exact HB5.out | apply zi)⟩
theorem zaz.calls (a0_0 : Int) (a0_1 : Int) (A0_2 : Option Addr) (c0_2 : Nat) (l0_2 : List S75) (A0_3 : Option Addr) (c0_3 : Nat) (l0_3 : List ByteArray) (a0_4 : Int) (a0_5 : Int) (a1 : Int) (r : Bool) (w : World) (hr0_2 : Kd.C k75 w A0_2 l0_2.length l0_2) (hc0_2 : l0_2.length ≤ c0_2) (hr0_3 : Kd.C Kd.string w A0_3 l0_3.length l0_3) (hc0_3 : l0_3.length ≤ c0_3) (h : zaz.f a0_0 a0_1 l0_2 l0_3 a0_4 a0_5 a1 = some r) :
  Calls Tryz.prog 43 #[.agg #[.int .i64 a0_0,.int .i64 a0_1,.slice A0_2 l0_2.length c0_2,.slice A0_3 l0_3.length c0_3,.int .i64 a0_4,.int .i64 a0_5],.int .i64 a1] w fun e w' => e = .returned (.bool r) ∧ Below w.heap.size w w' := by
 obtain rfl := Option.some.inj h
 exact zaz.walk a0_0 a0_1 A0_2 c0_2 l0_2 A0_3 c0_3 l0_3 a0_4 a0_5 a1 w hr0_2 hc0_2 hr0_3 hc0_3
end Go.Proofs.YtndjfdakflaggaaGreat.Px