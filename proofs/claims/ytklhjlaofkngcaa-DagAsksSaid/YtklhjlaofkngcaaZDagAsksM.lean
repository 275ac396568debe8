/- Part 13 of 33 of the proof of the law DagAsks: what is proved is the statement at the end of the last part; its conditions are those of the given row. -/
import Derived.RegionTactic
import Derived.ChangeAlike
import Derived.Test.YtklhjlaofkngcaaZDagAsksH
import Derived.Test.YtklhjlaofkngcaaZDagAsksL
namespace Go.Proofs.Ytklhjlaofkngcaa.Px
open Go.RowKit Go.Proofs.YtklhjlaofkngcaaW.PrintWords Go.Proofs.YtklhjlaofkngcaaW.PrintLast Go.Proofs.YtklhjlaofkngcaaW.PrintMore
attribute [local go_sem] zF zH zM zN zB zC zG zI
set_option linter.unusedVariables false
set_option linter.unusedSimpArgs false
def za4.f (k : Nat) (a0_0 : Int) (a0_1 : Int) (l0_2 : List (S72)) (l0_3 : List ByteArray) (a0_4 : Int) (a0_5 : Int) (a1 : Int) : Option (ByteArray × Int) := (zz.f k a0_0 a0_1 l0_2 l0_3 a0_4 a0_5 a1).bind fun bt244 => (if bt244.2 = 0 then (if 1 + bt244.1.size ≤ 9223372036854775807 then ((zaK.f ((⟨#[118]⟩ : ByteArray) ++ bt244.1)).bind fun t246 => (some (t246,0))) else (none)) else (some ((⟨#[]⟩ : ByteArray),bt244.2)))
set_option maxHeartbeats 8000000 in
set_option maxRecDepth 100000 in
theorem za4.calls (k : Nat) (a0_0 : Int) (a0_1 : Int) (A0_2 : Option Addr) (c0_2 : Nat) (l0_2 : List (S72)) (A0_3 : Option Addr) (c0_3 : Nat) (l0_3 : List ByteArray) (a0_4 : Int) (a0_5 : Int) (a1 : Int) (r1 : ByteArray) (r2 : Int) (w : World) (hr0_2 : Kd.C k72 w A0_2 l0_2.length l0_2) (hc0_2 : l0_2.length ≤ c0_2) (hr0_3 : Kd.C Kd.string w A0_3 l0_3.length l0_3) (hc0_3 : l0_3.length ≤ c0_3) (h : za4.f k a0_0 a0_1 l0_2 l0_3 a0_4 a0_5 a1 = some (r1,r2)) :
  Calls Try.prog 33 #[.agg #[.int .i64 a0_0,.int .i64 a0_1,.slice A0_2 l0_2.length c0_2,.slice A0_3 l0_3.length c0_3,.int .i64 a0_4,.int .i64 a0_5],.int .i64 a1] w fun e w' => e = .returned (.tuple #[.string r1,.int .i64 r2]) ∧ Below w.heap.size w w' := by
 have hu30 := Try.underlying30
 have HR0_2 := za.mk hr0_2
 have HC0_2 := za.mk hc0_2
 clear hr0_2 hc0_2
 have HR0_3 := za.mk hr0_3
 have HC0_3 := za.mk hc0_3
 clear hr0_3 hc0_3
 have HB := za.mk (Below.refl w.heap.size w)
 have H : ((zz.f k a0_0 a0_1 l0_2 l0_3 a0_4 a0_5 a1).bind fun bt244 => (if bt244.2 = 0 then (if 1 + bt244.1.size ≤ 9223372036854775807 then ((zaK.f ((⟨#[118]⟩ : ByteArray) ++ bt244.1)).bind fun t246 => (some (t246,0))) else (none)) else (some ((⟨#[]⟩ : ByteArray),bt244.2)))) = some (r1,r2) := h
 clear h
 replace H := Option.bind_eq_some_iff.mp H
 obtain ⟨⟨t244,t245⟩,A30,H⟩ := H
 replace H : (if t245 = 0 then (if 1 + t244.size ≤ 9223372036854775807 then ((zaK.f ((⟨#[118]⟩ : ByteArray) ++ t244)).bind fun t246 => (some (t246,0))) else (none)) else (some ((⟨#[]⟩ : ByteArray),t245))) = some (r1,r2) := H
 have A3 := za.mk A30
 clear A30
 by_cases c4 : t245 = 0
 ·rw [if_pos c4] at H
  have c4b0 : (t245 == 0) = true := beq_iff_eq.mpr c4
  have c4b1 : (t245 != 0) = false := bne_eq_false_iff_eq.mpr c4
  clear c4
  by_cases c5 : 1 + t244.size ≤ 9223372036854775807
  ·rw [if_pos c5] at H
   have c5b0 := eq_true c5
   have c5b1 : decide (1 + t244.size ≤ 9223372036854775807) = true := decide_eq_true c5
   try have c5b2 : (9223372036854775807 < 1 + t244.size) = False := eq_false (Nat.not_lt.2 c5)
   replace H := Option.bind_eq_some_iff.mp H
   obtain ⟨t246,A60,H⟩ := H
   replace H : (some (t246,0)) = some (r1,r2) := H
   have A6 := za.mk A60
   clear A60
   simp only [Option.some.injEq,Prod.mk.injEq] at H
   obtain ⟨rfl,rfl⟩ := H
   go_enter Try.func33,Try.ntmps33
   go_wp2_with (first | ((with_reducible refine zu (N := 2) rfl ?_);refine zp ?hg (N := 2) ?hd (cs := #[.int .i64 a0_0,.int .i64 a0_1,.slice A0_2 l0_2.length c0_2,.slice A0_3 l0_3.length c0_3,.int .i64 a0_4,.int .i64 a0_5]) (t := 30) ?hr ?_;(case hd => rfl);(case hg => rfl);(case hr => first | (go_simp;done) | (go_simp;rfl));intro gb243 hg w7 hbox hb;have n_ := haq (ze hBq hb) <| haq (hbox) <| haq ((by rw [hg];exact (zg hBq) : w.heap.size ≤ gb243)) <| haq ((by rw [hg];exact (zg hBq) : w.heap.size ≤ gb243)) <| trivial;clear HB;obtain ⟨HB,BK243,GW243,GE243,_⟩ := n_;clear hb hbox hg;obtain ⟨hcz8_0,hcz8_1,hcz8_2,hcz8_3,hcz8_4,hcz8_5,hfz8_0,hfz8_1,hfz8_2,hfz8_3,hfz8_4,hfz8_5⟩ := hcq6 BK243.out) | ((with_reducible refine zV (f := 44) rfl ?_);refine zaF (some 11) rfl rfl Try.func44 (by kernel_rfl) rfl #[.agg #[.int .i64 a0_0,.int .i64 a0_1,.slice A0_2 l0_2.length c0_2,.slice A0_3 l0_3.length c0_3,.int .i64 a0_4,.int .i64 a0_5],.int .i64 a1] rfl hMq ?_;(with_reducible refine (zz.calls k a0_0 a0_1 _ _ l0_2 _ _ l0_3 a0_4 a0_5 a1 t244 t245 _ ?side1 ?side2 ?side3 ?side4 A3.out).mono ?_);(case side1 => exact hKq (Kd.C_below HR0_2.out HB.out));(case side2 => exact HC0_2.out);(case side3 => exact hKq (Kd.C_below HR0_3.out HB.out));(case side4 => exact HC0_3.out);rintro e w9 ⟨rfl,hb⟩;refine ⟨_,rfl,?_⟩;have n_ := haq (hbq BK243.out hb) <| haq (ze hCq hb) <| trivial;clear BK243 HB;obtain ⟨BK243,HB,_⟩ := n_;(try clear hb);(try clear hb2);(try clear hk);(try clear hi)) | ((with_reducible refine zV (f := 45) rfl ?_);refine zaF (some 19) rfl rfl Try.func45 (by kernel_rfl) rfl #[.string ((⟨#[118]⟩ : ByteArray) ++ t244)] rfl hMq ?_;(with_reducible refine (zaK.calls ((⟨#[118]⟩ : ByteArray) ++ t244) t246 _ A6.out).mono ?_);rintro e w10 ⟨rfl,hb⟩;refine ⟨_,rfl,?_⟩;have n_ := haq (hbq BK243.out hb) <| haq (ze hCq hb) <| trivial;clear BK243 HB;obtain ⟨BK243,HB,_⟩ := n_;(try clear hb);(try clear hb2);(try clear hk);(try clear hi)))
   go_ret2
   exact ⟨hHq,hCq⟩
  ·rw [if_neg c5] at H
   exact absurd H (by simp)
 ·rw [if_neg c4] at H
  have c4b0 : (t245 == 0) = false := beq_eq_false_iff_ne.mpr c4
  have c4b1 : (t245 != 0) = true := bne_iff_ne.mpr c4
  simp only [Option.some.injEq,Prod.mk.injEq] at H
  obtain ⟨rfl,rfl⟩ := H
  go_enter Try.func33,Try.ntmps33
  go_wp2_with (first | ((with_reducible refine zu (N := 2) rfl ?_);refine zp ?hg (N := 2) ?hd (cs := #[.int .i64 a0_0,.int .i64 a0_1,.slice A0_2 l0_2.length c0_2,.slice A0_3 l0_3.length c0_3,.int .i64 a0_4,.int .i64 a0_5]) (t := 30) ?hr ?_;(case hd => rfl);(case hg => rfl);(case hr => first | (go_simp;done) | (go_simp;rfl));intro gb243 hg w11 hbox hb;have n_ := haq (ze hBq hb) <| haq (hbox) <| haq ((by rw [hg];exact (zg hBq) : w.heap.size ≤ gb243)) <| haq ((by rw [hg];exact (zg hBq) : w.heap.size ≤ gb243)) <| trivial;clear HB;obtain ⟨HB,BK243,GW243,GE243,_⟩ := n_;clear hb hbox hg;obtain ⟨hcz12_0,hcz12_1,hcz12_2,hcz12_3,hcz12_4,hcz12_5,hfz12_0,hfz12_1,hfz12_2,hfz12_3,hfz12_4,hfz12_5⟩ := hcq6 BK243.out) | ((with_reducible refine zV (f := 44) rfl ?_);refine zaF (some 11) rfl rfl Try.func44 (by kernel_rfl) rfl #[.agg #[.int .i64 a0_0,.int .i64 a0_1,.slice A0_2 l0_2.length c0_2,.slice A0_3 l0_3.length c0_3,.int .i64 a0_4,.int .i64 a0_5],.int .i64 a1] rfl hMq ?_;(with_reducible refine (zz.calls k a0_0 a0_1 _ _ l0_2 _ _ l0_3 a0_4 a0_5 a1 t244 t245 _ ?side1 ?side2 ?side3 ?side4 A3.out).mono ?_);(case side1 => exact hKq (Kd.C_below HR0_2.out HB.out));(case side2 => exact HC0_2.out);(case side3 => exact hKq (Kd.C_below HR0_3.out HB.out));(case side4 => exact HC0_3.out);rintro e w13 ⟨rfl,hb⟩;refine ⟨_,rfl,?_⟩;have n_ := haq (hbq BK243.out hb) <| haq (ze hCq hb) <| trivial;clear BK243 HB;obtain ⟨BK243,HB,_⟩ := n_;(try clear hb);(try clear hb2);(try clear hk);(try clear hi)))
  go_ret2
  exact ⟨hHq,hCq⟩
theorem bldInfo5 : (Try.prog.info? 5).map (fun i => (i.zero,i.size,i.bytes)) = some (some (.int .u8 0),1,1) := by kernel_rfl
theorem zgb : (Try.prog.info? 102).map (·.size) = some 2 := by kernel_rfl
theorem bldLies : liesAt Try.prog Try.prog.depth 102 (2 / Try.prog.cellsOf 102) 0 102 1 = true := by kernel_rfl
abbrev zdY (B b : Nat) (l : Bs) (w : World) : Prop := Lib.IsBuilder 102 5 B b (Lib.byteCells l) w
theorem zdY.below {B b : Nat} {l : Bs} {w w' : World} (h : zdY B b l w) (hb : Below w.heap.size w w') : zdY B b l w' := by
 have key : ∀ p,Lib.BuilderAt 102 5 B b p (Lib.byteCells l) w → Lib.BuilderAt 102 5 B b p (Lib.byteCells l) w' := by
  rintro p ⟨hB,v,hk,hown,hne⟩
  have hlt : b < w.heap.size := Lib.BuilderAt.lt ⟨hB,v,hk,hown,hne⟩
  exact ⟨hB,v,(hb.block b hlt).trans hk,zbU hown hb,hne⟩
 exact h.imp (key _) (key _)
set_option maxHeartbeats 1000000 in
set_option maxRecDepth 100000 in
theorem zfu (b : Nat) (w : World) (h0 : w.cell? ⟨b,0,none⟩ = some (.pointer (some ⟨b,0,none⟩))) :
  Calls Try.prog 94 #[.pointer (some ⟨b,0,none⟩)] w fun e w' => e = .returned (.tuple #[]) ∧ w = w' := by
 obtain ⟨j,hj,_⟩ := Option.map_eq_some_iff.1 zgb
 go_enter Try.func94,Try.ntmps94
 go_wp2
 rw [Lib.run_neq_ptr_same w _ Try.underlying100 hj]
 go_wp2
 go_end0
 exact ⟨rfl,rfl⟩
set_option maxHeartbeats 1000000 in
set_option maxRecDepth 100000 in
theorem ze4 (b : Nat) (w : World) (h0 : w.cell? ⟨b,0,none⟩ = some (.pointer none)) (hsh : w.shape? b = some (102,2)) (hfz : w.frozen? ⟨b,0,none⟩ = false) :
  Calls Try.prog 94 #[.pointer (some ⟨b,0,none⟩)] w fun e w' => e = .returned (.tuple #[]) ∧ w.setCell ⟨b,0,none⟩ (.pointer (some ⟨b,0,none⟩)) = w' := by
 obtain ⟨j,hj,hjs⟩ := Option.map_eq_some_iff.1 zgb
 go_enter Try.func94,Try.ntmps94
 go_wp2
 rw [Lib.run_to_unsafe w ⟨b,0,none⟩ Try.underlying100 Try.underlying124 hj (by rw [hjs];decide) hsh (Nat.zero_lt_succ 1)]
 simp only [Result.andThen]
 rw [Oper.upon_value]
 go_wp2
 rw [run_callFunc_extern Try.func102 (by kernel_rfl) (by kernel_rfl) (by kernel_rfl) (e := Extern.AbiNoEscape.same) (by kernel_rfl)]
 rw [Lib.run_noEscape]
 simp only [Result.andThen]
 rw [Oper.upon_value]
 go_wp2
 rw [Lib.run_from_unsafe w ⟨b,0,none⟩ Try.underlying124 Try.underlying100 hj hsh bldLies]
 simp only [Result.andThen]
 rw [Oper.upon_value]
 go_wp2
 go_end0
 exact ⟨rfl,rfl⟩
theorem zfX (B b : Nat) (bs : List Value) (w : World) (h : Lib.IsBuilder 102 5 B b bs w) :
  Calls Try.prog 94 #[.pointer (some ⟨b,0,none⟩)] w fun e w' => e = .returned (.tuple #[]) ∧ (Lib.BuilderAt 102 5 B b (.pointer (some ⟨b,0,none⟩)) bs w' ∧ Below B w w') := by
 rcases h with h | h
 ·refine (ze4 b w h.cell0 h.shape h.frozen0).mono ?_
  rintro e w' ⟨rfl,rfl⟩
  exact ⟨rfl,h.used _,(Below.refl B w).setCell (p := ⟨b,0,none⟩) h.1 _⟩
 ·refine (zfu b w h.cell0).mono ?_
  rintro e w' ⟨rfl,rfl⟩
  exact ⟨rfl,h,Below.refl B _⟩
set_option maxHeartbeats 2000000 in
set_option maxRecDepth 100000 in
theorem zdA (B b : Nat) (l : Bs) (s : ByteArray) (w : World) (h : zdY B b l w) (hlen : l.length + s.size ≤ 140737488355328) (hBw : B ≤ w.heap.size) :
  Calls Try.prog 75 #[.pointer (some ⟨b,0,none⟩),.string s] w fun e w' => e = .returned (.tuple #[.int .i64 s.size,.nilIface]) ∧ zdY B b (l ++ ofB s) w' ∧ Below B w w' := by
 obtain ⟨i0,hi,hz0,hz1,hz2⟩ := info_parts bldInfo5
 have hlc : (Lib.byteCells l).length = l.length := Lib.byteCells_length l
 go_enter Try.func75,Try.ntmps75
 go_wp2_with (go_at_call 94;refine (zfX B b _ _ h).mono ?_)
 rintro e w1 ⟨rfl,h1,hb1⟩
 obtain ⟨hB,v,hbk,hown,hne⟩ := h1
 have c0 : w1.cell? ⟨b,0,none⟩ = some (.pointer (some ⟨b,0,none⟩)) := by rw [Lib.cell_of_heap hbk];rfl
 have c1 : w1.cell? ⟨b,1,none⟩ = some v := by rw [Lib.cell_of_heap hbk];rfl
 go_wp2_with (at_builtin;refine Lib.wpList_append_own_string _ rfl _ _ 91 9 rfl B 5 i0 Try.underlying91 Try.underlying9 hi hz0 hz1 hz2 _ _ _ rfl hown s rfl ?c3 ?c4 ?c5 ?_)
 case c3 => unfold maxLen;omega
 case c4 => omega
 case c5 => have := hb1.size;omega
 intro v' w2 hown' hgrow _
 have hlt : b < w1.heap.size := by
  rcases Nat.lt_or_ge b w1.heap.size with h' | h'
  ·exact h'
  ·simp [Array.getElem?_eq_none h'] at hbk
 have hb2 : w2.heap[b]? = some (.cells #[.pointer (some ⟨b,0,none⟩),v] 102 (0,0)) := by
  rw [hgrow.block b hlt (fun e => hne e.symm)]
  exact hbk
 have d0 : w2.cell? ⟨b,0,none⟩ = some (.pointer (some ⟨b,0,none⟩)) := by rw [Lib.cell_of_heap hb2];rfl
 have d1 : w2.cell? ⟨b,1,none⟩ = some v := by rw [Lib.cell_of_heap hb2];rfl
 have f1 : w2.frozen? ⟨b,1,none⟩ = false := Lib.frozen_of_heap hb2 1
 obtain ⟨ao,n',cap,rfl⟩ : ∃ ao n' cap,v' = .slice ao n' cap := by
  rcases hown'.2 with ⟨hv,_⟩ | ⟨g,cap,cur,hv,_⟩
  ·exact ⟨_,_,_,hv⟩
  ·exact ⟨_,_,_,hv⟩
 go_wp2
 go_ret2
 refine ⟨rfl,.inr ?_,?_⟩
 ·have e1 : Lib.byteCells l ++ Lib.strCells s = Lib.byteCells (l ++ ofB s) := by rw [Lib.strCells_eq];simp [Lib.byteCells,ofB]
  rw [e1] at hown'
  refine Lib.BuilderAt.put (T := 102) (e := 5) hB hb2 (bs' := Lib.byteCells (l ++ ofB s)) ?_ (by decide)
  rw [Lib.byteCells_length,List.length_append,zau]
  exact hown'
 ·exact (hb1.grown hgrow (by have := hb1.size;omega) (fun k hk => (hown.lt k hk).1)).setCell (p := ⟨b,1,none⟩) hB _
set_option maxHeartbeats 1000000 in
set_option maxRecDepth 100000 in
theorem zfW (B b : Nat) (l : Bs) (w : World) (h : zdY B b l w) (h0 : l ≠ []) :
  Calls Try.prog 77 #[.pointer (some ⟨b,0,none⟩)] w fun e w' => e = .returned (.string (toB l)) ∧ Below B w w' := by
 obtain ⟨p,hB,v,hbk,hown,hne⟩ : ∃ p,Lib.BuilderAt 102 5 B b p (Lib.byteCells l) w := by
  rcases h with h | h
  ·exact ⟨_,h⟩
  ·exact ⟨_,h⟩
 have hl0 : l.length ≠ 0 := by simpa using h0
 rw [Lib.byteCells_length] at hown
 obtain ⟨g,cap,cur,rfl,hbg,hg,hnc,hcm,hcs,htake⟩ : ∃ g cap cur,v = .slice (some ⟨g,0,none⟩) l.length cap ∧ B ≤ g ∧ w.heap[g]? = some (.cells cur 5 (0,0)) ∧ l.length ≤ cap ∧ cap ≤ maxLen ∧ cur.size = cap * 1 ∧ cur.toList.take (l.length * 1) = Lib.byteCells l := by
  rcases hown.2 with ⟨_,hz⟩ | ⟨g,cap,cur,hv,r⟩
  ·exact absurd hz hl0
  ·exact ⟨g,cap,cur,hv,r⟩
 have c1 : w.drew.cell? ⟨b,1,none⟩ = some (.slice (some ⟨g,0,none⟩) l.length cap) := by
  have : w.drew.heap[b]? = some (.cells #[p,.slice (some ⟨g,0,none⟩) l.length cap] 102 (0,0)) := hbk
  rw [Lib.cell_of_heap this];rfl
 have hSD : (Builtin.unsafeSliceData_ #[91] 118 #[.slice (some ⟨g,0,none⟩) l.length cap]).run Try.prog w.drew = .ok (.pointer (some ⟨g,0,none⟩)) w.drew :=
  Lib.run_unsafeSliceData_row _ _ _ _ _ _ (by omega)
 have hUS : (Builtin.unsafeString_ #[118,3] 9 #[.pointer (some ⟨g,0,none⟩),.int .i64 l.length]).run Try.prog w.drew = .ok (.string ⟨l.toArray⟩) (w.drew.freeze ⟨g,0,none⟩ l.length) := by
  refine Lib.run_unsafeString_row w.drew 118 3 9 5 Try.underlying118 (by kernel_rfl) g cur.size (by have hg' : w.drew.heap[g]? = some (.cells cur 5 (0,0)) := hg;simp [World.shape?,hg']) l h0 (by omega) (by unfold maxLen at hcm;omega) ?_
  intro j x hx
  have := hown.cells (g := g) rfl j (.int .u8 x.toNat) (by simp [Lib.byteCells,hx])
  exact this
 go_enter Try.func77,Try.ntmps77
 go_wp2
 go_region
 all_goals (go_wp2;go_ret;exact ⟨rfl,Lib.below_freeze (Below.drew (Below.refl B w)) (p := ⟨g,0,none⟩) hbg _⟩)
def zZ.Bld (B : Nat) (l : List ByteArray) (k : Nat) (w0 wr : World) : Prop := zdY B w0.heap.size (zc3 l.length ++ zbr (l.take k)) wr ∧ Below w0.heap.size w0 wr
theorem zZ.walk (A : Option Addr) (c : Nat) (l : List ByteArray) (w : World) (hr : Kd.C Kd.string w A l.length l) (hc : l.length ≤ c) (hs : (zb6 l).length ≤ 140737488355328) :
  Calls Try.prog 56 #[.slice A l.length c] w fun e w' => e = .returned (.string (toB (zb6 l))) ∧ Below w.heap.size w w' := by
 have hm := hr.2.1
 have hll := zhi l
 have hsum : (zb6 l).length = (zc3 l.length).length + (zbr l).length := by rw [zb6,List.length_append]
 have hlen : l.length ≤ 140737488355328 := by omega
 have HN := za.mk (zc2 l.length (by omega))
 have HR := za.mk hr
 have HF : za (zdY w.heap.size w.heap.size [] (w.alloc (.cells #[.pointer none,.slice none 0 0] 102))) := ⟨Lib.fresh_isBuilder 102 5 w⟩
 have HS := za.mk hs
 have HU := za.mk hsum
 clear hr hs hll hsum
 go_enter Try.func56,Try.ntmps56
 go_wp2_with (go_at_call 55;(with_reducible refine (zar.calls _ _ _ HN.out).mono ?_);rintro e w1 ⟨rfl,hb1⟩)
 have hB1 := zdY.below HF.out hb1
 have hw1 : Below w.heap.size w w1 := ze ((Below.refl _ _).alloc (Nat.le_refl _) _) hb1
 have hsz1 := hw1.size
 clear hb1
 refine (zdA w.heap.size w.heap.size [] (zbl l.length) w1 hB1 (by have := za9 (v := l.length) (by omega);simp;omega) hsz1).mono ?_
 rintro e w2 ⟨rfl,hB2,hw2⟩
 have HL : za (zZ.Bld w.heap.size l 0 w w2) := ⟨by rw [zbl,zcY,List.nil_append] at hB2;rw [List.take_zero,show zbr [] = [] from rfl,List.append_nil];exact hB2,hw1.trans hw2⟩
 clear hB1 hB2 hw1 hw2 hsz1
 go_wp2_with fail
 go_loopw [5,13] (fun _ v13 wr => ∃ k : Nat,v13 = .int .i64 k ∧ k ≤ l.length ∧ za (zZ.Bld w.heap.size l k w wr)) (fun _ v13 _ => l.length - (match v13 with | .int _ q => q | _ => 0).toNat)
 case atStart => exact ⟨0,rfl,Nat.zero_le _,HL⟩
 case round =>
  obtain ⟨k,rfl,hk,HK⟩ := hrel
  by_cases hlt : k < l.length
  ·obtain ⟨ad,rfl,hcell⟩ := Kd.at_string (Kd.C_below HR.out HK.out.2) (k : Int) (by omega) (by omega)
   rw [Int.toNat_natCast] at hcell
   have hb : decide (k < l.length) = true := decide_eq_true hlt
   have hx : l[k]? = some (zE ByteArray.empty l (k : Int)) := by
    rw [zE,Int.toNat_natCast,List.getD_eq_getElem?_getD,List.getElem?_eq_getElem hlt];rfl
   have HX := za.mk hx
   clear hx
   generalize zE ByteArray.empty l (k : Int) = s at *
   have hs := zeo l k s HX.out
   have HT := za.mk (zfv s (by have := HS.out;have := HU.out;omega))
   have h2 := zed l k s HX.out
   have h3 := zc5 l (k + 1)
   rw [h2,List.length_append,zau] at h3
   have H2 := za.mk h2
   have H3 : za ((zc3 l.length ++ zbr (l.take k)).length + (zd4 s).size ≤ 140737488355328) := ⟨by rw [List.length_append];have := HS.out;have := HU.out;omega⟩
   clear h2 h3 hs
   go_wp2_with (go_at_call 76;(with_reducible refine (zb9.calls _ _ _ HT.out).mono ?_);rintro e w3 ⟨rfl,hb3⟩)
   refine (zdA w.heap.size w.heap.size _ (zd4 s) w3 (zdY.below HK.out.1 hb3) H3.out (Nat.le_trans HK.out.2.size hb3.size)).mono ?_
   rintro e w4 ⟨rfl,hB4,hw4⟩
   have HL4 : za (zZ.Bld w.heap.size l (k + 1) w w4) := ⟨by rw [H2.out,← List.append_assoc];exact hB4,(ze HK.out.2 hb3).trans hw4⟩
   clear hB4 hw4 hb3
   go_wp2
   go_roundw
   case rel => exact ⟨k + 1,by go_num,by omega,HL4⟩
   case measure => simp;omega
  ·obtain rfl : k = l.length := by omega
   have HE : za (zc3 l.length ++ zbr (l.take l.length) = zb6 l) := ⟨by rw [List.take_of_length_le (Nat.le_refl _)];rfl⟩
   go_wp2_with (go_at_call 77;refine (zfW w.heap.size w.heap.size _ _ HK.out.1 (by simp [zc3])).mono ?_;rintro e w3 ⟨rfl,hb3⟩)
   go_ret
   exact ⟨rfl,HK.out.2.trans hb3⟩
def zZ.f (l0 : List ByteArray) : Option (ByteArray) := if (zb6 l0).length ≤ 140737488355328 then (some (toB (zb6 l0))) else (none)
theorem zZ.calls (A0 : Option Addr) (c0 : Nat) (l0 : List ByteArray) (r : ByteArray) (w : World) (hr0 : Kd.C Kd.string w A0 l0.length l0) (hc0 : l0.length ≤ c0) (h : zZ.f l0 = some r) :
  Calls Try.prog 56 #[.slice A0 l0.length c0] w fun e w' => e = .returned (.string r) ∧ Below w.heap.size w w' := by
 unfold zZ.f at h
 split at h
 ·rename_i hs
  obtain rfl := Option.some.inj h
  exact zZ.walk A0 c0 l0 w hr0 hc0 hs
 ·cases h
def zcm (s : ByteArray) : Bool := decide (s.size = 0) || decide (48 < s.size)
theorem zaT.odd (s : ByteArray) (w : World) : Calls Try.prog 90 #[.string s] w fun e w' => e = .returned (.bool (zcm s)) ∧ w = w' := by
 by_cases h : s.toList = []
 ·have hb : (s.toList == []) = true := beq_iff_eq.mpr h
  have h0 : s.size = 0 := by rw [← zau,← zcs,h];rfl
  have HO : za (zcm s = true) := ⟨by simp [zcm,h0]⟩
  clear h h0
  go_enter Try.func90,Try.ntmps90
  go_wp2
  go_ret
  rw [HO.out]
  exact ⟨rfl,rfl⟩
 ·have hb : (s.toList == []) = false := beq_eq_false_iff_ne.mpr h
  have h0 : s.size ≠ 0 := fun hz => h (List.eq_nil_of_length_eq_zero (by rw [zcs,zau,hz]))
  have HO : za (zcm s = decide (48 < (s.size : Int))) := ⟨by simp [zcm,h0];omega⟩
  clear h h0
  by_cases h1 : 48 < (s.size : Int)
  ·have h1b : decide (48 < (s.size : Int)) = true := decide_eq_true h1
   rw [h1b] at HO
   clear h1
   go_enter Try.func90,Try.ntmps90
   go_wp2
   go_ret
   rw [HO.out]
   exact ⟨rfl,rfl⟩
  ·have h1b : decide (48 < (s.size : Int)) = false := decide_eq_false h1
   rw [h1b] at HO
   clear h1
   go_enter Try.func90,Try.ntmps90
   go_wp2
   go_ret
   rw [HO.out]
   exact ⟨rfl,rfl⟩
theorem zaT.idx (A : Option Addr) (c : Nat) (l : List ByteArray) (w : World) (hr : Kd.C Kd.string w A l.length l) (hc : l.length ≤ c) :
  Calls Try.prog 100 #[.slice A l.length c,.func (.func 90) #[] #[]] w fun e w' => e = .returned (.int .i64 (zcF zcm l)) ∧ w = w' := by
 have hm := hr.2.1
 have HR := za.mk hr
 clear hr
 go_enter Try.func100,Try.ntmps100
 go_wp2_with fail
 go_loop [5,8] (fun v5 v8 => ∃ k : Nat,v8 = .int .i64 k ∧ k ≤ l.length ∧ za (∀ (j : Nat) (y : ByteArray),j < k → l[j]? = some y → zcm y = false)) (fun _ v8 => l.length - (match v8 with | .int _ q => q | _ => 0).toNat)
 case atStart => exact ⟨0,rfl,Nat.zero_le _,⟨fun j y hj => absurd hj (Nat.not_lt_zero _)⟩⟩
 case round =>
  obtain ⟨k,rfl,hk,HN⟩ := hrel
  by_cases hlt : k < l.length
  ·obtain ⟨ad,rfl,hcell⟩ := Kd.at_string HR.out (k : Int) (by omega) (by omega)
   rw [Int.toNat_natCast] at hcell
   have hb : decide (k < l.length) = true := decide_eq_true hlt
   have hx : l[k]? = some (zE ByteArray.empty l (k : Int)) := by
    rw [zE,Int.toNat_natCast,List.getD_eq_getElem?_getD,List.getElem?_eq_getElem hlt];rfl
   have HX := za.mk hx
   clear hx
   generalize zE ByteArray.empty l (k : Int) = s at *
   rcases ho : zcm s with _ | _
   ·have HO := za.mk ho
    clear ho
    go_wp2_with (go_at_call 90;(with_reducible refine (zaT.odd _ _).mono ?_);rintro e w1 ⟨rfl,rfl⟩;rw [HO.out])
    go_round
    case rel =>
     refine ⟨k + 1,by go_num,by omega,⟨fun j y hj hy => ?_⟩⟩
     rcases Nat.lt_succ_iff_lt_or_eq.1 hj with h | h
     ·exact HN.out j y h hy
     ·subst h
      rw [HX.out] at hy
      injection hy with hy
      subst hy
      exact HO.out
    case measure => simp;omega
   ·have HO := za.mk ho
    clear ho
    go_wp2_with (go_at_call 90;(with_reducible refine (zaT.odd _ _).mono ?_);rintro e w1 ⟨rfl,rfl⟩;rw [HO.out])
    go_ret
    exact ⟨by rw [zc8 HX.out HO.out HN.out];rfl,rfl⟩
  ·obtain rfl : k = l.length := by omega
   go_wp2_with fail
   go_ret
   exact ⟨by rw [zc9 (fun j y hy => HN.out j y (List.getElem?_eq_some_iff.1 hy).1 hy)];rfl,rfl⟩
theorem zaT.contains (A : Option Addr) (c : Nat) (l : List ByteArray) (w : World) (hr : Kd.C Kd.string w A l.length l) (hc : l.length ≤ c) :
  Calls Try.prog 91 #[.slice A l.length c,.func (.func 90) #[] #[]] w fun e w' => e = .returned (.bool (l.any zcm)) ∧ w = w' := by
 have HR := za.mk hr
 have HC := za.mk hc
 clear hr hc
 have HA := za.mk (zg6 zcm l)
 go_enter Try.func91,Try.ntmps91
 go_wp2_with (go_at_call 100;(with_reducible refine (zaT.idx _ _ _ _ HR.out HC.out).mono ?_);rintro e w1 ⟨rfl,rfl⟩)
 go_ret
 exact ⟨by rw [← HA.out];rfl,rfl⟩
def zdE (o q : Int) (l : List ByteArray) : Bool := decide (1 ≤ o) && decide (o ≤ 64) && decide (1 ≤ q) && decide (q ≤ 1073741824) && decide (1 ≤ l.length) && decide (l.length ≤ 4) && !l.any zcm
def zaT.f (a0_0 : Int) (a0_1 : Int) (l0_2 : List ByteArray) : Option (Bool) := some (zdE a0_0 a0_1 l0_2)
theorem zaT.walk (a0_0 : Int) (a0_1 : Int) (A : Option Addr) (c : Nat) (l : List ByteArray) (w : World) (hr : Kd.C Kd.string w A l.length l) (hc : l.length ≤ c) :
  Calls Try.prog 70 #[.agg #[.int .i64 a0_0,.int .i64 a0_1,.slice A l.length c]] w fun e w' => e = .returned (.bool (zdE a0_0 a0_1 l)) ∧ Below w.heap.size w w' := by
 have HR := za.mk hr
 have HC := za.mk hc
 clear hr hc
 have HW := fun (o : Obj) => Kd.C_below HR.out (Below.alloc (Below.refl w.heap.size w) (Nat.le_refl _) o)
 have HW' := za.mk HW
 clear HW
 go_enter Try.func70,Try.ntmps70
 go_wp2_with (go_at_call 91;(with_reducible refine (zaT.contains _ _ _ _ (HW'.out _) HC.out).mono ?_);rintro e w1 ⟨rfl,rfl⟩)
 all_goals go_ret
 all_goals refine ⟨may_ret ?_,(Below.refl _ _).alloc (Nat.le_refl _) _⟩
 all_goals (unfold zdE;simp;try omega)
theorem zaT.calls (a0_0 : Int) (a0_1 : Int) (A0_2 : Option Addr) (c0_2 : Nat) (l0_2 : List ByteArray) (r : Bool) (w : World) (hr0_2 : Kd.C Kd.string w A0_2 l0_2.length l0_2) (hc0_2 : l0_2.length ≤ c0_2) (h : zaT.f a0_0 a0_1 l0_2 = some r) :
  Calls Try.prog 70 #[.agg #[.int .i64 a0_0,.int .i64 a0_1,.slice A0_2 l0_2.length c0_2]] w fun e w' => e = .returned (.bool r) ∧ Below w.heap.size w w' := by
 obtain rfl := Option.some.inj h
 exact zaT.walk a0_0 a0_1 A0_2 c0_2 l0_2 w hr0_2 hc0_2
def zaN.f (a0_0 : Int) (a0_1 : Int) (l0_2 : List ByteArray) : Option (ByteArray × Int) := (zaT.f a0_0 a0_1 l0_2).bind fun t115 => (if t115 = true then ((zar.f (IntKind.u64.wrap (a0_0))).bind fun t116 => ((zar.f (IntKind.u64.wrap (a0_1))).bind fun t117 => (if t116.size + t117.size ≤ 9223372036854775807 then ((zZ.f l0_2).bind fun t118 => (if (t116 ++ t117).size + t118.size ≤ 9223372036854775807 then (some ((t116 ++ t117) ++ t118,0)) else (none))) else (none)))) else (some ((⟨#[]⟩ : ByteArray),1)))
def zaN.T3 : Bool × List (List Nat × List Nat) := (true,[([],[]),([0],[0]),([1],[1]),([2],[2]),([],[]),([4],[4]),([5],[5]),([6,3],[6]),([3,7],[3,7]),([],[]),([9],[9]),([10,7],[10]),([8,11],[8,11]),([12,11,0,1,2,3,4,5,6,7,8,9,10,11,12],[12]),([13,0,1,2,3,4,5,6,7,8,9,10,11,12,13],[])])
def zaN.B3 : List Nat := [0,1,3,7,0,16,48,127,255,0,512,1791,4095,8191,16383]
theorem zaN.tab3 : zbV .any (zdf Try.f52 3) = zaN.T3 := by kernel_rfl
theorem zaN.bits3 : zbw zaN.T3.2 zaN.B3 = true := by kernel_rfl
set_option maxHeartbeats 8000000 in
set_option maxRecDepth 100000 in
theorem zaN.calls (a0_0 : Int) (a0_1 : Int) (A0_2 : Option Addr) (c0_2 : Nat) (l0_2 : List ByteArray) (r1 : ByteArray) (r2 : Int) (w : World) (hr0_2 : Kd.C Kd.string w A0_2 l0_2.length l0_2) (hc0_2 : l0_2.length ≤ c0_2) (h : zaN.f a0_0 a0_1 l0_2 = some (r1,r2)) :
  Calls Try.prog 52 #[.agg #[.int .i64 a0_0,.int .i64 a0_1,.slice A0_2 l0_2.length c0_2]] w fun e w' => e = .returned (.tuple #[.string r1,.int .i64 r2]) ∧ Below w.heap.size w w' := by
 have hu72 := Try.underlying72
 have HR0_2 := za.mk hr0_2
 have HC0_2 := za.mk hc0_2
 clear hr0_2 hc0_2
 have HB := za.mk (Below.refl w.heap.size w)
 have H : ((zaT.f a0_0 a0_1 l0_2).bind fun t115 => (if t115 = true then ((zar.f (IntKind.u64.wrap (a0_0))).bind fun t116 => ((zar.f (IntKind.u64.wrap (a0_1))).bind fun t117 => (if t116.size + t117.size ≤ 9223372036854775807 then ((zZ.f l0_2).bind fun t118 => (if (t116 ++ t117).size + t118.size ≤ 9223372036854775807 then (some ((t116 ++ t117) ++ t118,0)) else (none))) else (none)))) else (some ((⟨#[]⟩ : ByteArray),1)))) = some (r1,r2) := h
 clear h
 replace H := Option.bind_eq_some_iff.mp H
 obtain ⟨t115,A20,H⟩ := H
 replace H : (if t115 = true then ((zar.f (IntKind.u64.wrap (a0_0))).bind fun t116 => ((zar.f (IntKind.u64.wrap (a0_1))).bind fun t117 => (if t116.size + t117.size ≤ 9223372036854775807 then ((zZ.f l0_2).bind fun t118 => (if (t116 ++ t117).size + t118.size ≤ 9223372036854775807 then (some ((t116 ++ t117) ++ t118,0)) else (none))) else (none)))) else (some ((⟨#[]⟩ : ByteArray),1))) = some (r1,r2) := H
 have A2 := za.mk A20
 clear A20
 by_cases c3 : t115 = true
 ·subst c3
  have H1 : ((zar.f (IntKind.u64.wrap (a0_0))).bind fun t116 => ((zar.f (IntKind.u64.wrap (a0_1))).bind fun t117 => (if t116.size + t117.size ≤ 9223372036854775807 then ((zZ.f l0_2).bind fun t118 => (if (t116 ++ t117).size + t118.size ≤ 9223372036854775807 then (some ((t116 ++ t117) ++ t118,0)) else (none))) else (none)))) = some (r1,r2) := by rw [if_pos rfl] at H;exact H
  clear H
  have H := H1
  clear H1
  replace H := Option.bind_eq_some_iff.mp H
  obtain ⟨t116,A40,H⟩ := H
  replace H : ((zar.f (IntKind.u64.wrap (a0_1))).bind fun t117 => (if t116.size + t117.size ≤ 9223372036854775807 then ((zZ.f l0_2).bind fun t118 => (if (t116 ++ t117).size + t118.size ≤ 9223372036854775807 then (some ((t116 ++ t117) ++ t118,0)) else (none))) else (none))) = some (r1,r2) := H
  have A4 := za.mk A40
  clear A40
  replace H := Option.bind_eq_some_iff.mp H
  obtain ⟨t117,A50,H⟩ := H
  replace H : (if t116.size + t117.size ≤ 9223372036854775807 then ((zZ.f l0_2).bind fun t118 => (if (t116 ++ t117).size + t118.size ≤ 9223372036854775807 then (some ((t116 ++ t117) ++ t118,0)) else (none))) else (none)) = some (r1,r2) := H
  have A5 := za.mk A50
  clear A50
  by_cases c6 : t116.size + t117.size ≤ 9223372036854775807
  ·rw [if_pos c6] at H
   have c6b0 := eq_true c6
   have c6b1 : decide (t116.size + t117.size ≤ 9223372036854775807) = true := decide_eq_true c6
   try have c6b2 : (9223372036854775807 < t116.size + t117.size) = False := eq_false (Nat.not_lt.2 c6)
   replace H := Option.bind_eq_some_iff.mp H
   obtain ⟨t118,A70,H⟩ := H
   replace H : (if (t116 ++ t117).size + t118.size ≤ 9223372036854775807 then (some ((t116 ++ t117) ++ t118,0)) else (none)) = some (r1,r2) := H
   have A7 := za.mk A70
   clear A70
   by_cases c8 : (t116 ++ t117).size + t118.size ≤ 9223372036854775807
   ·rw [if_pos c8] at H
    have c8b0 := eq_true c8
    have c8b1 : decide ((t116 ++ t117).size + t118.size ≤ 9223372036854775807) = true := decide_eq_true c8
    try have c8b2 : (9223372036854775807 < (t116 ++ t117).size + t118.size) = False := eq_false (Nat.not_lt.2 c8)
    try (have c8b3 := c8;simp [ByteArray.size_append] at c8b3;have c8b4 := eq_false (Nat.not_lt.2 c8b3);clear c8b3)
    simp only [Option.some.injEq,Prod.mk.injEq] at H
    obtain ⟨rfl,rfl⟩ := H
    go_enter Try.func52,Try.ntmps52
    try go_wp2_with (first | ((with_reducible refine zu (N := 1) rfl ?_);refine zp ?hg (N := 1) ?hd (cs := #[.int .i64 a0_0,.int .i64 a0_1,.slice A0_2 l0_2.length c0_2]) (t := 72) ?hr ?_;(case hd => rfl);(case hg => rfl);(case hr => first | (go_simp;done) | (go_simp;rfl));intro gb114 hg w9 hbox hb;have n_ := haq (ze hBq hb) <| haq (hbox) <| haq ((by rw [hg];exact (zg hBq) : w.heap.size ≤ gb114)) <| haq ((by rw [hg];exact (zg hBq) : w.heap.size ≤ gb114)) <| trivial;clear HB;obtain ⟨HB,BK114,GW114,GE114,_⟩ := n_;clear hb hbox hg;obtain ⟨hcz10_0,hcz10_1,hcz10_2,hfz10_0,hfz10_1,hfz10_2⟩ := hcq3 BK114.out) | ((with_reducible refine zV (f := 70) rfl ?_);refine zaF (some 5) rfl rfl Try.func70 (by kernel_rfl) rfl #[.agg #[.int .i64 a0_0,.int .i64 a0_1,.slice A0_2 l0_2.length c0_2]] rfl hMq ?_;(with_reducible refine (zaT.calls a0_0 a0_1 _ _ l0_2 true _ ?side1 ?side2 A2.out).mono ?_);(case side1 => exact hKq (Kd.C_below HR0_2.out HB.out));(case side2 => exact HC0_2.out);rintro e w11 ⟨rfl,hb⟩;refine ⟨_,rfl,?_⟩;have n_ := haq (hbq BK114.out hb) <| haq (ze hCq hb) <| trivial;clear BK114 HB;obtain ⟨BK114,HB,_⟩ := n_;(try clear hb);(try clear hb2);(try clear hk);(try clear hi)))
    have n0_ := za.mk (zam BK114.out)
    have n1_ := za.mk (zq HB.out)
    clear BK114
    clear HB
    have BK114 := n0_
    have HB := n1_
    clear n0_ n1_
    refine zbD (n := 15) (S := fun w' => w'.cell? ⟨gb114,0,none⟩ = some (.int .i64 a0_0) ∧ w'.cell? ⟨gb114,1,none⟩ = some (.int .i64 a0_1) ∧ w'.cell? ⟨gb114,2,none⟩ = some (.slice A0_2 l0_2.length c0_2)) (ds := []) #[false,false,false,false,false,false,false,false,false,false,false,false,false,false,false] (by kernel_rfl) rfl rfl ⟨(zb BK114.out 0).trans rfl,(zb BK114.out 1).trans rfl,(zb BK114.out 2).trans rfl⟩ (fun hHeld => ?_);refine zaL zaN.tab3 zaN.bits3 (fun HT_ HW_ => ?_)
    generalize w11.drew = w12 at BK114 HB hHeld ⊢
    refine zv (i := 0) (N := some 7) (v := ?_) (a' := ?_) #[true,false,false,false,false,false,false,false,false,false,false,false,false,false,false] rfl rfl (zn HT_.out (by kernel_rfl)) (fun _ _ _ h => h) (Or.inl ⟨by rfl,?_⟩) ?_ ?_
    rotate_left
    ·intro w'
     go_simp
     with_reducible rfl
    rotate_left
    ·simp only [Act.put,List.setIfInBounds_toArray,List.set_cons_zero,List.set_cons_succ,zk,zm]
     rfl
    refine zv (i := 4) (N := some 11) (v := ?_) (a' := ?_) #[true,false,false,false,true,false,false,false,false,false,false,false,false,false,false] rfl rfl (zn HT_.out (by kernel_rfl)) (fun _ _ _ h => h) (Or.inl ⟨by rfl,?_⟩) ?_ ?_
    rotate_left
    ·intro w'
     go_simp
     with_reducible rfl
    rotate_left
    ·simp only [Act.put,List.setIfInBounds_toArray,List.set_cons_zero,List.set_cons_succ,zk,zm]
     rfl
    refine zv (i := 9) (N := some 16) (v := ?_) (a' := ?_) #[true,false,false,false,true,false,false,false,false,true,false,false,false,false,false] rfl rfl (zn HT_.out (by kernel_rfl)) (fun _ _ _ h => h) (Or.inl ⟨by rfl,?_⟩) ?_ ?_
    rotate_left
    ·intro w'
     go_simp
     with_reducible rfl
    rotate_left
    ·simp only [Act.put,List.setIfInBounds_toArray,List.set_cons_zero,List.set_cons_succ,zk,zm]
     rfl
    refine take_ (i := 1) (N := some 8) (v := ?_) (a' := ?_) #[true,true,false,false,true,false,false,false,false,true,false,false,false,false,false] rfl rfl (zY HT_.out HW_.out (by kernel_rfl)) (fun _ _ _ h => h) (Or.inl ⟨by rfl,?_⟩) hHeld ?_ ?_
    rotate_left
    ·rintro w' ⟨s0,s1,s2⟩
     go_simp
     with_reducible rfl
    rotate_left
    ·simp only [Act.put,List.setIfInBounds_toArray,List.set_cons_zero,List.set_cons_succ,zk,zm]
     rfl
    refine zv (i := 2) (N := some 9) (v := ?_) (a' := ?_) #[true,true,true,false,true,false,false,false,false,true,false,false,false,false,false] rfl rfl (zn HT_.out (by kernel_rfl)) (fun _ _ _ h => h) (Or.inl ⟨by rfl,?_⟩) ?_ ?_
    rotate_left
    ·intro w'
     go_simp
     with_reducible rfl
    rotate_left
    ·simp only [Act.put,List.setIfInBounds_toArray,List.set_cons_zero,List.set_cons_succ,zk,zm]
     rfl
    refine take_ (i := 5) (N := some 12) (v := ?_) (a' := ?_) #[true,true,true,false,true,true,false,false,false,true,false,false,false,false,false] rfl rfl (zY HT_.out HW_.out (by kernel_rfl)) (fun _ _ _ h => h) (Or.inl ⟨by rfl,?_⟩) hHeld ?_ ?_
    rotate_left
    ·rintro w' ⟨s0,s1,s2⟩
     go_simp
     with_reducible rfl
    rotate_left
    ·simp only [Act.put,List.setIfInBounds_toArray,List.set_cons_zero,List.set_cons_succ,zk,zm]
     rfl
    refine zv (i := 6) (N := some 13) (v := ?_) (a' := ?_) #[true,true,true,false,true,true,true,false,false,true,false,false,false,false,false] rfl rfl (zn HT_.out (by kernel_rfl)) (fun _ _ _ h => h) (Or.inl ⟨by rfl,?_⟩) ?_ ?_
    rotate_left
    ·intro w'
     go_simp
     with_reducible rfl
    rotate_left
    ·simp only [Act.put,List.setIfInBounds_toArray,List.set_cons_zero,List.set_cons_succ,zk,zm]
     rfl
    refine take_ (i := 10) (N := some 17) (v := ?_) (a' := ?_) #[true,true,true,false,true,true,true,false,false,true,true,false,false,false,false] rfl rfl (zY HT_.out HW_.out (by kernel_rfl)) (fun _ _ _ h => h) (Or.inl ⟨by rfl,?_⟩) hHeld ?_ ?_
    rotate_left
    ·rintro w' ⟨s0,s1,s2⟩
     go_simp
     with_reducible rfl
    rotate_left
    ·simp only [Act.put,List.setIfInBounds_toArray,List.set_cons_zero,List.set_cons_succ,zk,zm]
     rfl
    refine zb0 (i := 3) (N := some 10) #[true,true,true,true,true,true,true,false,false,true,true,false,false,false,false] rfl rfl (zaY HT_.out (by kernel_rfl)) (by decide) (fun K hK => ?_)
    refine zbn Try.func55 (by kernel_rfl) rfl #[.int .u64 (IntKind.u64.wrap (a0_0))] (by rfl) rfl rfl hMq ?_
    with_reducible refine (zar.calls (IntKind.u64.wrap (a0_0)) t116 _ A4.out).mono ?_
    rintro e w13 ⟨rfl,hb⟩
    refine ⟨_,rfl,?_⟩
    have n0_ := za.mk (hbq BK114.out hb)
    have n1_ := za.mk (ze hCq hb)
    clear BK114
    clear HB
    have BK114 := n0_
    have HB := n1_
    clear n0_ n1_
    (try clear hb)
    (try clear hb2)
    (try clear hk)
    (try clear hi)
    refine hK.out _ _ ⟨(zb BK114.out 0).trans rfl,(zb BK114.out 1).trans rfl,(zb BK114.out 2).trans rfl⟩ (fun hHeld => ?_)
    clear hK K
    refine zbo (a' := ?_) ?_ ?_
    rotate_left
    ·show Act.put _ (some 10) _ = _
     simp only [Act.put,List.setIfInBounds_toArray,List.set_cons_zero,List.set_cons_succ,zk,zm]
     rfl
    refine zb0 (i := 7) (N := some 14) #[true,true,true,true,true,true,true,true,false,true,true,false,false,false,false] rfl rfl (zaY HT_.out (by kernel_rfl)) (by decide) (fun K hK => ?_)
    refine zbn Try.func55 (by kernel_rfl) rfl #[.int .u64 (IntKind.u64.wrap (a0_1))] (by rfl) rfl rfl hMq ?_
    with_reducible refine (zar.calls (IntKind.u64.wrap (a0_1)) t117 _ A5.out).mono ?_
    rintro e w14 ⟨rfl,hb⟩
    refine ⟨_,rfl,?_⟩
    have n0_ := za.mk (hbq BK114.out hb)
    have n1_ := za.mk (ze hCq hb)
    clear BK114
    clear HB
    have BK114 := n0_
    have HB := n1_
    clear n0_ n1_
    (try clear hb)
    (try clear hb2)
    (try clear hk)
    (try clear hi)
    refine hK.out _ _ ⟨(zb BK114.out 0).trans rfl,(zb BK114.out 1).trans rfl,(zb BK114.out 2).trans rfl⟩ (fun hHeld => ?_)
    clear hK K
    refine zbo (a' := ?_) ?_ ?_
    rotate_left
    ·show Act.put _ (some 14) _ = _
     simp only [Act.put,List.setIfInBounds_toArray,List.set_cons_zero,List.set_cons_succ,zk,zm]
     rfl
    refine zv (i := 8) (N := some 15) (v := ?_) (a' := ?_) #[true,true,true,true,true,true,true,true,true,true,true,false,false,false,false] rfl rfl (zn HT_.out (by kernel_rfl)) (fun _ _ _ h => h) (Or.inl ⟨by rfl,?_⟩) ?_ ?_
    rotate_left
    ·intro w'
     go_simp
     with_reducible rfl
    rotate_left
    ·simp only [Act.put,List.setIfInBounds_toArray,List.set_cons_zero,List.set_cons_succ,zk,zm]
     rfl
    refine zb0 (i := 11) (N := some 18) #[true,true,true,true,true,true,true,true,true,true,true,true,false,false,false] rfl rfl (zaY HT_.out (by kernel_rfl)) (by decide) (fun K hK => ?_)
    refine zbn Try.func56 (by kernel_rfl) rfl #[.slice A0_2 l0_2.length c0_2] (by rfl) rfl rfl hMq ?_
    with_reducible refine (zZ.calls _ _ l0_2 t118 _ ?side1 ?side2 A7.out).mono ?_
    (case side1 => exact hKq (Kd.C_below HR0_2.out HB.out))
    (case side2 => exact HC0_2.out)
    rintro e w15 ⟨rfl,hb⟩
    refine ⟨_,rfl,?_⟩
    have n0_ := za.mk (hbq BK114.out hb)
    have n1_ := za.mk (ze hCq hb)
    clear BK114
    clear HB
    have BK114 := n0_
    have HB := n1_
    clear n0_ n1_
    (try clear hb)
    (try clear hb2)
    (try clear hk)
    (try clear hi)
    refine hK.out _ _ ⟨(zb BK114.out 0).trans rfl,(zb BK114.out 1).trans rfl,(zb BK114.out 2).trans rfl⟩ (fun hHeld => ?_)
    clear hK K
    refine zbo (a' := ?_) ?_ ?_
    rotate_left
    ·show Act.put _ (some 18) _ = _
     simp only [Act.put,List.setIfInBounds_toArray,List.set_cons_zero,List.set_cons_succ,zk,zm]
     rfl
    refine zv (i := 12) (N := some 19) (v := ?_) (a' := ?_) #[true,true,true,true,true,true,true,true,true,true,true,true,true,false,false] rfl rfl (zn HT_.out (by kernel_rfl)) (fun _ _ _ h => h) (Or.inl ⟨by rfl,?_⟩) ?_ ?_
    rotate_left
    ·intro w'
     go_simp
     with_reducible rfl
    rotate_left
    ·simp only [Act.put,List.setIfInBounds_toArray,List.set_cons_zero,List.set_cons_succ,zk,zm]
     rfl
    refine zv (i := 13) (N := some 2) (v := ?_) (a' := ?_) #[true,true,true,true,true,true,true,true,true,true,true,true,true,true,false] rfl rfl (zn HT_.out (by kernel_rfl)) (fun _ _ _ h => h) (Or.inl ⟨by rfl,?_⟩) ?_ ?_
    rotate_left
    ·intro w'
     go_simp
     with_reducible rfl
    rotate_left
    ·simp only [Act.put,List.setIfInBounds_toArray,List.set_cons_zero,List.set_cons_succ,zk,zm]
     rfl
    refine zv (i := 14) (N := some 3) (v := ?_) (a' := ?_) #[true,true,true,true,true,true,true,true,true,true,true,true,true,true,true] rfl rfl (zn HT_.out (by kernel_rfl)) (fun _ _ _ h => h) (Or.inl ⟨by rfl,?_⟩) ?_ ?_
    rotate_left
    ·intro w'
     go_simp
     with_reducible rfl
    rotate_left
    ·simp only [Act.put,List.setIfInBounds_toArray,List.set_cons_zero,List.set_cons_succ,zk,zm]
     rfl
    refine zbF (zaR HT_.out (by kernel_rfl)) ?_
    try go_wp2
    go_ret2
    exact ⟨hHq,hCq⟩
   ·rw [if_neg c8] at H
    exact absurd H (by simp)
  ·rw [if_neg c6] at H
   exact absurd H (by simp)
 ·replace c3 := Bool.eq_false_iff.mpr c3
  subst c3
  have H1 : (some ((⟨#[]⟩ : ByteArray),1)) = some (r1,r2) := by rw [if_neg (show ¬ (false = true) by decide)] at H;exact H
  clear H
  have H := H1
  clear H1
  simp only [Option.some.injEq,Prod.mk.injEq] at H
  obtain ⟨rfl,rfl⟩ := H
  go_enter Try.func52,Try.ntmps52
  go_wp2_with (first | ((with_reducible refine zu (N := 1) rfl ?_);refine zp ?hg (N := 1) ?hd (cs := #[.int .i64 a0_0,.int .i64 a0_1,.slice A0_2 l0_2.length c0_2]) (t := 72) ?hr ?_;(case hd => rfl);(case hg => rfl);(case hr => first | (go_simp;done) | (go_simp;rfl));intro gb114 hg w16 hbox hb;have n_ := haq (ze hBq hb) <| haq (hbox) <| haq ((by rw [hg];exact (zg hBq) : w.heap.size ≤ gb114)) <| haq ((by rw [hg];exact (zg hBq) : w.heap.size ≤ gb114)) <| trivial;clear HB;obtain ⟨HB,BK114,GW114,GE114,_⟩ := n_;clear hb hbox hg;obtain ⟨hcz17_0,hcz17_1,hcz17_2,hfz17_0,hfz17_1,hfz17_2⟩ := hcq3 BK114.out) | ((with_reducible refine zV (f := 70) rfl ?_);refine zaF (some 5) rfl rfl Try.func70 (by kernel_rfl) rfl #[.agg #[.int .i64 a0_0,.int .i64 a0_1,.slice A0_2 l0_2.length c0_2]] rfl hMq ?_;(with_reducible refine (zaT.calls a0_0 a0_1 _ _ l0_2 false _ ?side1 ?side2 A2.out).mono ?_);(case side1 => exact hKq (Kd.C_below HR0_2.out HB.out));(case side2 => exact HC0_2.out);rintro e w18 ⟨rfl,hb⟩;refine ⟨_,rfl,?_⟩;have n_ := haq (hbq BK114.out hb) <| haq (ze hCq hb) <| trivial;clear BK114 HB;obtain ⟨BK114,HB,_⟩ := n_;(try clear hb);(try clear hb2);(try clear hk);(try clear hi)))
  go_ret2
  exact ⟨hHq,hCq⟩
end Go.Proofs.Ytklhjlaofkngcaa.Px