/- Part 6 of 35 of the proof of the law CertBytes: what is proved is the statement at the end of the last part; its conditions are those of the given row. -/
import Derived.Lib.Builder
import Derived.Lib.UnsafeStr
import Derived.Lib.Strings
import Derived.Lib.Slices
import Derived.Lib.Walk
import Derived.RegionTactic
import Derived.ChangeAlike
import Derived.Test.YtfhbeonhnhjikaaGreatZCertBytesE
namespace Go.Proofs.YtfhbeonhnhjikaaGreat.Px
open Go.RowKit Go.Proofs.YtfhbeonhnhjikaaGreatW.PrintWords Go.Proofs.YtfhbeonhnhjikaaGreatW.PrintLast Go.Proofs.YtfhbeonhnhjikaaGreatW.PrintMore
attribute [local go_sem] zz zB zI zJ zp zq zA zC
set_option linter.unusedVariables false
set_option linter.unusedSimpArgs false
theorem or_byte (v : Nat) (c : UInt8) (hv : v < 72057594037927936) : Go.bits .or .u64 (IntKind.u64.wrap ((v : Int) * 256)) (IntKind.u64.wrap (c.toNat : Int)) = ((v * 256 + c.toNat : Nat) : Int) := by
 have hc := c.toNat_lt
 rw [zaA (by omega) (by omega),zaA (by omega) (by omega),show (v : Int) * 256 = ((v * 256 : Nat) : Int) by omega,u64_or_nat _ _ (by omega) (by omega)]
 have := Nat.two_pow_add_eq_or_of_lt (i := 8) (b := c.toNat) (by omega) v
 rw [Nat.mul_comm v 256,show (256 : Nat) = 2 ^ 8 from rfl,this]
theorem add_byte (v : Nat) (c : UInt8) (hv : v < 72057594037927936) : IntKind.u64.wrap (IntKind.u64.wrap ((v : Int) * 256) + IntKind.u64.wrap (c.toNat : Int)) = ((v * 256 + c.toNat : Nat) : Int) := by
 have hc := c.toNat_lt
 rw [zaA (x := (v : Int) * 256) (by omega) (by omega),zaA (x := (c.toNat : Int)) (by omega) (by omega),zaA (by omega) (by omega)]
 omega
theorem zeR (t : Bs) (j : Nat) (h : j < t.length) : val (t.take (j + 1)) = val (t.take j) * 256 + (t.getD j 0).toNat := by
 rw [List.take_succ_eq_append_getElem h,zew,List.getD_eq_getElem?_getD,List.getElem?_eq_getElem h];rfl
theorem zfW (t : Bs) (j : Nat) (h : j < 8) : val (t.take j) < 72057594037927936 := by
 have h1 := val_lt (t.take j)
 have h2 : 256 ^ (t.take j).length ≤ 256 ^ 7 := Nat.pow_le_pow_right (by omega) (by rw [List.length_take];omega)
 have : (256 : Nat) ^ 7 = 72057594037927936 := by decide
 omega
def zbL (s : ByteArray) : Int × ByteArray × Int := (((zl (ofB s)).1 : Int),toB (zl (ofB s)).2.1,(zl (ofB s)).2.2)
theorem zfe (l : Bs) : zbL (toB l) = (((zl l).1 : Int),toB (zl l).2.1,(zl l).2.2) := by rw [zbL,zav]
theorem zdx (c : UInt8) (t : Bs) (j : Nat) : bt (toB (c :: t)) ((j + 1 : Nat) : Int) = ((t.getD j 0).toNat : Int) := by
 rw [zhM,zav];rfl
theorem zio (c : UInt8) (t : Bs) (n : Nat) : (toB (c :: t)).extract (n + 1) (toB (c :: t)).size = toB (t.drop n) := by
 apply zgj
 rw [zfM,zav,zav,zP,List.drop_succ_cons,List.take_of_length_le (by simp)]
theorem zic (c : UInt8) (t : Bs) (hc : c.toNat ≤ 8) (hl : c.toNat ≤ t.length) (hs : t.length < 4611686018427387904) (d : Nat) : ∀ j,j + d = c.toNat →
  Ev (fun k => zD.l0 k (toB (c :: t)) (c.toNat : Int) (val (t.take j) : Int) ((j + 1 : Nat) : Int)) ((val (t.take c.toNat) : Int),toB (t.drop c.toNat),0) := by
 induction d with
 | zero =>
  intro j hj
  refine Ev.step (fun k => by rw [zD.l0]) ?_
  rw [z9 (x := (c.toNat : Int) + 1) (by omega) (by omega)]
  refine zF (by omega) (zn (by omega) (zn (by rw [zP,List.length_cons];omega) ?_))
  rw [show ((c.toNat : Int) + 1).toNat = c.toNat + 1 by omega,zio]
  obtain rfl : j = c.toNat := by omega
  exact Ev.now _
 | succ d ih =>
  intro j hj
  refine Ev.step (fun k => by rw [zD.l0]) ?_
  refine zn (by omega) (zn (by omega) (zn (by rw [zP,List.length_cons];omega) ?_))
  rw [zdx,or_byte _ _ (zfW t j (by omega)),← zeR t j (by omega),z9 (by omega) (by omega)]
  exact ih (j + 1) (by omega)
theorem zc0 (s : ByteArray) (hs : s.size < 4611686018427387904) : Ev (fun k => zD.f k s) (zbL s) := by
 obtain ⟨l,rfl⟩ : ∃ l,s = toB l := ⟨_,(zcz s).symm⟩
 rw [zP] at hs
 rw [zfe]
 rcases l with _ | ⟨c,t⟩
 ·exact zn (by rw [zbJ,zav]) (Ev.now _)
 ·have hc := c.toNat_lt
  rw [List.length_cons] at hs
  have e0 : bt (toB (c :: t)) 0 = (c.toNat : Int) := by rw [show (0 : Int) = ((0 : Nat) : Int) from rfl,zhM,zav];rfl
  have e1 : bt (toB (c :: t)) 1 = ((t.getD 0 0).toNat : Int) := zdx c t 0
  refine zF (by rw [zbJ,zav];simp) (zn (by rw [zP,List.length_cons];omega) ?_)
  rw [e0,e1,z9 (by omega) (by omega),zP,List.length_cons]
  have hj : c.toNat ≤ 8 → c.toNat ≤ t.length → Ev (fun k => zD.j0 k (toB (c :: t)) (c.toNat : Int)) ((val (t.take c.toNat) : Int),toB (t.drop c.toNat),0) := fun h8 hl => by
   refine Ev.step (fun k => by rw [zD.j0]) ?_
   exact zic c t h8 hl (by omega) c.toNat 0 (by omega)
  by_cases h8 : 8 < c.toNat
  ·refine zn (by omega) ?_
   simp only [zl,if_pos h8]
   exact Ev.now _
  refine zF (by omega) ?_
  by_cases hl : t.length < c.toNat
  ·refine zn (by omega) ?_
   simp only [zl,if_neg h8,if_pos hl]
   exact Ev.now _
  refine zF (by omega) ?_
  by_cases h0 : 0 < c.toNat
  ·refine zn (by omega) (zn (by omega) ?_)
   by_cases hz : t.getD 0 0 = 0
   ·refine zn (by rw [hz];rfl) ?_
    simp only [zl,if_neg h8,if_neg hl,if_pos (And.intro h0 hz)]
    exact Ev.now _
   ·refine zF (fun h => hz (UInt8.toNat_inj.1 (by show _ = 0;omega))) ?_
    simp only [zl,if_neg h8,if_neg hl,if_neg (fun h : _ ∧ _ => hz h.2)]
    exact hj (by omega) (by omega)
  ·refine zF (by omega) ?_
   simp only [zl,if_neg h8,if_neg hl,if_neg (fun h : _ ∧ _ => h0 h.1)]
   exact hj (by omega) (by omega)
theorem zf8 (c : UInt8) (t : Bs) (hc : c.toNat ≤ 8) (hl : c.toNat ≤ t.length) (hs : t.length < 4611686018427387904) (d : Nat) : ∀ j,j + d = c.toNat →
  Ev (fun k => zi.l0 k (toB (c :: t)) (c.toNat : Int) (val (t.take j) : Int) ((j + 1 : Nat) : Int)) ((val (t.take c.toNat) : Int),toB (t.drop c.toNat),0) := by
 induction d with
 | zero =>
  intro j hj
  refine Ev.step (fun k => by rw [zi.l0]) ?_
  rw [z9 (x := 1 + (c.toNat : Int)) (by omega) (by omega)]
  refine zF (by omega) (zn (by omega) (zn (by rw [zP,List.length_cons];omega) ?_))
  rw [show (1 + (c.toNat : Int)).toNat = c.toNat + 1 by omega,zio]
  obtain rfl : j = c.toNat := by omega
  exact Ev.now _
 | succ d ih =>
  intro j hj
  refine Ev.step (fun k => by rw [zi.l0]) ?_
  refine zn (by omega) (zn (by omega) (zn (by rw [zP,List.length_cons];omega) ?_))
  rw [zdx,add_byte _ _ (zfW t j (by omega)),← zeR t j (by omega),z9 (by omega) (by omega)]
  exact ih (j + 1) (by omega)
theorem zby (s : ByteArray) (hs : s.size < 4611686018427387904) : Ev (fun k => zi.f k s) (zbL s) := by
 obtain ⟨l,rfl⟩ : ∃ l,s = toB l := ⟨_,(zcz s).symm⟩
 rw [zP] at hs
 rw [zfe]
 rcases l with _ | ⟨c,t⟩
 ·exact zn (by rw [zP];rfl) (Ev.now _)
 ·have hc := c.toNat_lt
  rw [List.length_cons] at hs
  have e0 : bt (toB (c :: t)) 0 = (c.toNat : Int) := by rw [show (0 : Int) = ((0 : Nat) : Int) from rfl,zhM,zav];rfl
  have e1 : bt (toB (c :: t)) 1 = ((t.getD 0 0).toNat : Int) := zdx c t 0
  have eb : ((c.toNat : Int) < 0) = False := eq_false (by omega)
  refine zF (by rw [zP,List.length_cons];omega) (zn (by rw [zP,List.length_cons];omega) ?_)
  rw [e0,e1,z9 (x := (c.toNat : Int)) (by omega) (by omega),z9 (x := 1 + (c.toNat : Int)) (by omega) (by omega),zP,List.length_cons]
  have hj : c.toNat ≤ 8 → c.toNat ≤ t.length → Ev (fun k => zi.j0 k (toB (c :: t)) (c.toNat : Int) false) ((val (t.take c.toNat) : Int),toB (t.drop c.toNat),0) := fun h8 hl => by
   refine Ev.step (fun k => by rw [zi.j0]) ?_
   exact zF (by simp) (zf8 c t h8 hl (by omega) c.toNat 0 (by omega))
  by_cases h8 : 8 < c.toNat
  ·refine zn (by omega) ?_
   simp only [zl,if_pos h8]
   exact Ev.now _
  refine zF (by omega) ?_
  by_cases hl : t.length < c.toNat
  ·refine zn (by omega) ?_
   simp only [zl,if_neg h8,if_pos hl]
   exact Ev.now _
  refine zF (by omega) ?_
  by_cases h0 : 0 < c.toNat
  ·refine zn (by omega) (zn (by omega) ?_)
   by_cases hz : t.getD 0 0 = 0
   ·rw [hz]
    simp only [zl,if_neg h8,if_neg hl,if_pos (And.intro h0 hz)]
    refine Ev.step (fun k => by rw [zi.j0]) ?_
    exact zn rfl (Ev.now _)
   ·have hz' : (((t.getD 0 0).toNat : Int) == 0) = false := beq_eq_false_iff_ne.2 (fun h => hz (UInt8.toNat_inj.1 (by show _ = 0;omega)))
    rw [hz']
    simp only [zl,if_neg h8,if_neg hl,if_neg (fun h : _ ∧ _ => hz h.2)]
    exact hj (by omega) (by omega)
  ·refine zF (by omega) ?_
   simp only [zl,if_neg h8,if_neg hl,if_neg (fun h : _ ∧ _ => h0 h.1)]
   exact hj (by omega) (by omega)
theorem zc2 (v : Nat) (hv : v < 18446744073709551616) : zal.f (v : Int) = some (zbO v) := by
 unfold zal.f
 rw [if_pos (by omega),if_pos (by omega),Int.toNat_natCast]
theorem zej (t : ByteArray) (h : t.size ≤ 1152921504606846976) : zbC.f t = some (zdU t) := by unfold zbC.f;rw [if_pos h]
theorem zcX (t : ByteArray) (h : t.size ≤ 1152921504606846976) : zaD.f t = some (zdU t) := by unfold zaD.f;rw [if_pos h]
theorem bldInfo5 : (Tryz.prog.info? 5).map (fun i => (i.zero,i.size,i.bytes)) = some (some (.int .u8 0),1,1) := by kernel_rfl
theorem zhq : (Tryz.prog.info? 112).map (·.size) = some 2 := by kernel_rfl
theorem bldLies : liesAt Tryz.prog Tryz.prog.depth 112 (2 / Tryz.prog.cellsOf 112) 0 112 1 = true := by kernel_rfl
abbrev zeK (B b : Nat) (l : Bs) (w : World) : Prop := Lib.IsBuilder 112 5 B b (Lib.byteCells l) w
theorem zeK.below {B b : Nat} {l : Bs} {w w' : World} (h : zeK B b l w) (hb : Below w.heap.size w w') : zeK B b l w' := by
 have key : ∀ p,Lib.BuilderAt 112 5 B b p (Lib.byteCells l) w → Lib.BuilderAt 112 5 B b p (Lib.byteCells l) w' := by
  rintro p ⟨hB,v,hk,hown,hne⟩
  have hlt : b < w.heap.size := Lib.BuilderAt.lt ⟨hB,v,hk,hown,hne⟩
  exact ⟨hB,v,(hb.block b hlt).trans hk,zcQ hown hb,hne⟩
 exact h.imp (key _) (key _)
set_option maxHeartbeats 1000000 in
set_option maxRecDepth 100000 in
theorem zgt (b : Nat) (w : World) (h0 : w.cell? ⟨b,0,none⟩ = some (.pointer (some ⟨b,0,none⟩))) :
  Calls Tryz.prog 95 #[.pointer (some ⟨b,0,none⟩)] w fun e w' => e = .returned (.tuple #[]) ∧ w = w' := by
 obtain ⟨j,hj,_⟩ := Option.map_eq_some_iff.1 zhq
 go_enter Tryz.func95,Tryz.ntmps95
 go_wp2
 rw [Lib.run_neq_ptr_same w _ Tryz.underlying110 hj]
 go_wp2
 go_end0
 exact ⟨rfl,rfl⟩
set_option maxHeartbeats 1000000 in
set_option maxRecDepth 100000 in
theorem zf1 (b : Nat) (w : World) (h0 : w.cell? ⟨b,0,none⟩ = some (.pointer none)) (hsh : w.shape? b = some (112,2)) (hfz : w.frozen? ⟨b,0,none⟩ = false) :
  Calls Tryz.prog 95 #[.pointer (some ⟨b,0,none⟩)] w fun e w' => e = .returned (.tuple #[]) ∧ w.setCell ⟨b,0,none⟩ (.pointer (some ⟨b,0,none⟩)) = w' := by
 obtain ⟨j,hj,hjs⟩ := Option.map_eq_some_iff.1 zhq
 go_enter Tryz.func95,Tryz.ntmps95
 go_wp2
 rw [Lib.run_to_unsafe w ⟨b,0,none⟩ Tryz.underlying110 Tryz.underlying137 hj (by rw [hjs];decide) hsh (Nat.zero_lt_succ 1)]
 simp only [Result.andThen]
 rw [Oper.upon_value]
 go_wp2
 rw [run_callFunc_extern Tryz.func100 (by kernel_rfl) (by kernel_rfl) (by kernel_rfl) (e := Extern.AbiNoEscape.same) (by kernel_rfl)]
 rw [Lib.run_noEscape]
 simp only [Result.andThen]
 rw [Oper.upon_value]
 go_wp2
 rw [Lib.run_from_unsafe w ⟨b,0,none⟩ Tryz.underlying137 Tryz.underlying110 hj hsh bldLies]
 simp only [Result.andThen]
 rw [Oper.upon_value]
 go_wp2
 go_end0
 exact ⟨rfl,rfl⟩
theorem zg7 (B b : Nat) (bs : List Value) (w : World) (h : Lib.IsBuilder 112 5 B b bs w) :
  Calls Tryz.prog 95 #[.pointer (some ⟨b,0,none⟩)] w fun e w' => e = .returned (.tuple #[]) ∧ (Lib.BuilderAt 112 5 B b (.pointer (some ⟨b,0,none⟩)) bs w' ∧ Below B w w') := by
 rcases h with h | h
 ·refine (zf1 b w h.cell0 h.shape h.frozen0).mono ?_
  rintro e w' ⟨rfl,rfl⟩
  exact ⟨rfl,h.used _,(Below.refl B w).setCell (p := ⟨b,0,none⟩) h.1 _⟩
 ·refine (zgt b w h.cell0).mono ?_
  rintro e w' ⟨rfl,rfl⟩
  exact ⟨rfl,h,Below.refl B _⟩
set_option maxHeartbeats 2000000 in
set_option maxRecDepth 100000 in
theorem zef (B b : Nat) (l : Bs) (s : ByteArray) (w : World) (h : zeK B b l w) (hlen : l.length + s.size ≤ 140737488355328) (hBw : B ≤ w.heap.size) :
  Calls Tryz.prog 73 #[.pointer (some ⟨b,0,none⟩),.string s] w fun e w' => e = .returned (.tuple #[.int .i64 s.size,.nilIface]) ∧ zeK B b (l ++ ofB s) w' ∧ Below B w w' := by
 obtain ⟨i0,hi,hz0,hz1,hz2⟩ := info_parts bldInfo5
 have hlc : (Lib.byteCells l).length = l.length := Lib.byteCells_length l
 go_enter Tryz.func73,Tryz.ntmps73
 go_wp2_with (go_at_call 95;refine (zg7 B b _ _ h).mono ?_)
 rintro e w1 ⟨rfl,h1,hb1⟩
 obtain ⟨hB,v,hbk,hown,hne⟩ := h1
 have c0 : w1.cell? ⟨b,0,none⟩ = some (.pointer (some ⟨b,0,none⟩)) := by rw [Lib.cell_of_heap hbk];rfl
 have c1 : w1.cell? ⟨b,1,none⟩ = some v := by rw [Lib.cell_of_heap hbk];rfl
 go_wp2_with (at_builtin;refine Lib.wpList_append_own_string _ rfl _ _ 82 9 rfl B 5 i0 Tryz.underlying82 Tryz.underlying9 hi hz0 hz1 hz2 _ _ _ rfl hown s rfl ?c3 ?c4 ?c5 ?_)
 case c3 => unfold maxLen;omega
 case c4 => omega
 case c5 => have := hb1.size;omega
 intro v' w2 hown' hgrow _
 have hlt : b < w1.heap.size := by
  rcases Nat.lt_or_ge b w1.heap.size with h' | h'
  ·exact h'
  ·simp [Array.getElem?_eq_none h'] at hbk
 have hb2 : w2.heap[b]? = some (.cells #[.pointer (some ⟨b,0,none⟩),v] 112 (0,0)) := by
  rw [hgrow.block b hlt (fun e => hne e.symm)]
  exact hbk
 have d0 : w2.cell? ⟨b,0,none⟩ = some (.pointer (some ⟨b,0,none⟩)) := by rw [Lib.cell_of_heap hb2];rfl
 have d1 : w2.cell? ⟨b,1,none⟩ = some v := by rw [Lib.cell_of_heap hb2];rfl
 have f1 : w2.frozen? ⟨b,1,none⟩ = false := Lib.frozen_of_heap hb2 1
 obtain ⟨ao,n',cap,rfl⟩ : ∃ ao n' cap,v' = .slice ao n' cap := by
  rcases hown'.2 with ⟨hv,_⟩ | ⟨g,cap,cur,hv,_⟩
  ·exact ⟨_,_,_,hv⟩
  ·exact ⟨_,_,_,hv⟩
 go_wp2
 go_ret2
 refine ⟨rfl,.inr ?_,?_⟩
 ·have e1 : Lib.byteCells l ++ Lib.strCells s = Lib.byteCells (l ++ ofB s) := by rw [Lib.strCells_eq];simp [Lib.byteCells,ofB]
  rw [e1] at hown'
  refine Lib.BuilderAt.put (T := 112) (e := 5) hB hb2 (bs' := Lib.byteCells (l ++ ofB s)) ?_ (by decide)
  rw [Lib.byteCells_length,List.length_append,zae]
  exact hown'
 ·exact (hb1.grown hgrow (by have := hb1.size;omega) (fun k hk => (hown.lt k hk).1)).setCell (p := ⟨b,1,none⟩) hB _
set_option maxHeartbeats 1000000 in
set_option maxRecDepth 100000 in
theorem zg5 (B b : Nat) (l : Bs) (w : World) (h : zeK B b l w) (h0 : l ≠ []) :
  Calls Tryz.prog 74 #[.pointer (some ⟨b,0,none⟩)] w fun e w' => e = .returned (.string (toB l)) ∧ Below B w w' := by
 obtain ⟨p,hB,v,hbk,hown,hne⟩ : ∃ p,Lib.BuilderAt 112 5 B b p (Lib.byteCells l) w := by
  rcases h with h | h
  ·exact ⟨_,h⟩
  ·exact ⟨_,h⟩
 have hl0 : l.length ≠ 0 := by simpa using h0
 rw [Lib.byteCells_length] at hown
 obtain ⟨g,cap,cur,rfl,hbg,hg,hnc,hcm,hcs,htake⟩ : ∃ g cap cur,v = .slice (some ⟨g,0,none⟩) l.length cap ∧ B ≤ g ∧ w.heap[g]? = some (.cells cur 5 (0,0)) ∧ l.length ≤ cap ∧ cap ≤ maxLen ∧ cur.size = cap * 1 ∧ cur.toList.take (l.length * 1) = Lib.byteCells l := by
  rcases hown.2 with ⟨_,hz⟩ | ⟨g,cap,cur,hv,r⟩
  ·exact absurd hz hl0
  ·exact ⟨g,cap,cur,hv,r⟩
 have c1 : w.drew.cell? ⟨b,1,none⟩ = some (.slice (some ⟨g,0,none⟩) l.length cap) := by
  have : w.drew.heap[b]? = some (.cells #[p,.slice (some ⟨g,0,none⟩) l.length cap] 112 (0,0)) := hbk
  rw [Lib.cell_of_heap this];rfl
 have hSD : (Builtin.unsafeSliceData_ #[82] 133 #[.slice (some ⟨g,0,none⟩) l.length cap]).run Tryz.prog w.drew = .ok (.pointer (some ⟨g,0,none⟩)) w.drew :=
  Lib.run_unsafeSliceData_row _ _ _ _ _ _ (by omega)
 have hUS : (Builtin.unsafeString_ #[133,3] 9 #[.pointer (some ⟨g,0,none⟩),.int .i64 l.length]).run Tryz.prog w.drew = .ok (.string ⟨l.toArray⟩) (w.drew.freeze ⟨g,0,none⟩ l.length) := by
  refine Lib.run_unsafeString_row w.drew 133 3 9 5 Tryz.underlying133 (by kernel_rfl) g cur.size (by have hg' : w.drew.heap[g]? = some (.cells cur 5 (0,0)) := hg;simp [World.shape?,hg']) l h0 (by omega) (by unfold maxLen at hcm;omega) ?_
  intro j x hx
  have := hown.cells (g := g) rfl j (.int .u8 x.toNat) (by simp [Lib.byteCells,hx])
  exact this
 go_enter Tryz.func74,Tryz.ntmps74
 go_wp2
 go_region
 all_goals (go_wp2;go_ret;exact ⟨rfl,Lib.below_freeze (Below.drew (Below.refl B w)) (p := ⟨g,0,none⟩) hbg _⟩)
def zbv (l : List ByteArray) : Bs := l.flatMap (fun t => zdu (ofB t))
def zbI (l : List ByteArray) : Bs := zbD l.length ++ zbv l
theorem ze3 (l : List ByteArray) (k : Nat) (t : ByteArray) (h : l[k]? = some t) : zbv (l.take (k + 1)) = zbv (l.take k) ++ ofB (zdU t) := by
 have hk := (List.getElem?_eq_some_iff.1 h)
 obtain ⟨hk,rfl⟩ := hk
 rw [List.take_succ_eq_append_getElem hk,zbv,zbv,List.flatMap_append,ziN,zav]
 simp
theorem zdG (l : List ByteArray) (k : Nat) : (zbv (l.take k)).length ≤ (zbv l).length := by
 have : zbv l = zbv (l.take k) ++ zbv (l.drop k) := by rw [zbv,zbv,zbv,← List.flatMap_append,List.take_append_drop]
 rw [this,List.length_append];omega
theorem ziI (l : List ByteArray) : l.length ≤ (zbv l).length := by
 induction l with
 | nil => simp
 | cons t l ih =>
  have : zbv (t :: l) = zdu (ofB t) ++ zbv l := rfl
  rw [this,List.length_append,List.length_cons,zdu,zbD]
  simp only [List.length_cons,List.length_append]
  omega
theorem zfa (l : List ByteArray) (k : Nat) (t : ByteArray) (h : l[k]? = some t) : t.size ≤ (zbv l).length := by
 have h1 := ze3 l k t h
 have h2 := zdG l (k + 1)
 rw [h1,List.length_append,zae,zdU,ByteArray.size_append] at h2
 omega
def zad.Bld (B : Nat) (l : List ByteArray) (k : Nat) (w0 wr : World) : Prop := zeK B w0.heap.size (zbD l.length ++ zbv (l.take k)) wr ∧ Below w0.heap.size w0 wr
theorem zad.walk (A : Option Addr) (c : Nat) (l : List ByteArray) (w : World) (hr : Kd.C Kd.string w A l.length l) (hc : l.length ≤ c) (hs : (zbI l).length ≤ 140737488355328) :
  Calls Tryz.prog 42 #[.slice A l.length c] w fun e w' => e = .returned (.string (toB (zbI l))) ∧ Below w.heap.size w w' := by
 have hm := hr.2.1
 have hll := ziI l
 have hsum : (zbI l).length = (zbD l.length).length + (zbv l).length := by rw [zbI,List.length_append]
 have hlen : l.length ≤ 140737488355328 := by omega
 have HN := za.mk (zc2 l.length (by omega))
 have HR := za.mk hr
 have HF : za (zeK w.heap.size w.heap.size [] (w.alloc (.cells #[.pointer none,.slice none 0 0] 112))) := ⟨Lib.fresh_isBuilder 112 5 w⟩
 have HS := za.mk hs
 have HU := za.mk hsum
 clear hr hs hll hsum
 go_enter Tryz.func42,Tryz.ntmps42
 go_wp2_with (go_at_call 17;(with_reducible refine (zal.calls _ _ _ HN.out).mono ?_);rintro e w1 ⟨rfl,hb1⟩)
 have hB1 := zeK.below HF.out hb1
 have hw1 : Below w.heap.size w w1 := zd ((Below.refl _ _).alloc (Nat.le_refl _) _) hb1
 have hsz1 := hw1.size
 clear hb1
 refine (zef w.heap.size w.heap.size [] (zbO l.length) w1 hB1 (by have := za0 (v := l.length) (by omega);simp;omega) hsz1).mono ?_
 rintro e w2 ⟨rfl,hB2,hw2⟩
 have HL : za (zad.Bld w.heap.size l 0 w w2) := ⟨by rw [zbO,zav,List.nil_append] at hB2;rw [List.take_zero,show zbv [] = [] from rfl,List.append_nil];exact hB2,hw1.trans hw2⟩
 clear hB1 hB2 hw1 hw2 hsz1
 go_wp2_with fail
 go_loopw [5,13] (fun _ v13 wr => ∃ k : Nat,v13 = .int .i64 k ∧ k ≤ l.length ∧ za (zad.Bld w.heap.size l k w wr)) (fun _ v13 _ => l.length - (match v13 with | .int _ q => q | _ => 0).toNat)
 case atStart => exact ⟨0,rfl,Nat.zero_le _,HL⟩
 case round =>
  obtain ⟨k,rfl,hk,HK⟩ := hrel
  by_cases hlt : k < l.length
  ·obtain ⟨ad,rfl,hcell⟩ := Kd.at_string (Kd.C_below HR.out HK.out.2) (k : Int) (by omega) (by omega)
   rw [Int.toNat_natCast] at hcell
   have hb : decide (k < l.length) = true := decide_eq_true hlt
   have hx : l[k]? = some (zG ByteArray.empty l (k : Int)) := by
    rw [zG,Int.toNat_natCast,List.getD_eq_getElem?_getD,List.getElem?_eq_getElem hlt];rfl
   have HX := za.mk hx
   clear hx
   generalize zG ByteArray.empty l (k : Int) = s at *
   have hs := zfa l k s HX.out
   have HT := za.mk (zej s (by have := HS.out;have := HU.out;omega))
   have h2 := ze3 l k s HX.out
   have h3 := zdG l (k + 1)
   rw [h2,List.length_append,zae] at h3
   have H2 := za.mk h2
   have H3 : za ((zbD l.length ++ zbv (l.take k)).length + (zdU s).size ≤ 140737488355328) := ⟨by rw [List.length_append];have := HS.out;have := HU.out;omega⟩
   clear h2 h3 hs
   go_wp2_with (go_at_call 16;(with_reducible refine (zbC.calls _ _ _ HT.out).mono ?_);rintro e w3 ⟨rfl,hb3⟩)
   refine (zef w.heap.size w.heap.size _ (zdU s) w3 (zeK.below HK.out.1 hb3) H3.out (Nat.le_trans HK.out.2.size hb3.size)).mono ?_
   rintro e w4 ⟨rfl,hB4,hw4⟩
   have HL4 : za (zad.Bld w.heap.size l (k + 1) w w4) := ⟨by rw [H2.out,← List.append_assoc];exact hB4,(zd HK.out.2 hb3).trans hw4⟩
   clear hB4 hw4 hb3
   go_wp2
   go_roundw
   case rel => exact ⟨k + 1,by go_num,by omega,HL4⟩
   case measure => simp;omega
  ·obtain rfl : k = l.length := by omega
   have HE : za (zbD l.length ++ zbv (l.take l.length) = zbI l) := ⟨by rw [List.take_of_length_le (Nat.le_refl _)];rfl⟩
   go_wp2_with (go_at_call 74;refine (zg5 w.heap.size w.heap.size _ _ HK.out.1 (by simp [zbD])).mono ?_;rintro e w3 ⟨rfl,hb3⟩)
   go_ret
   exact ⟨rfl,HK.out.2.trans hb3⟩
def zad.f (l0 : List ByteArray) : Option (ByteArray) := if (zbI l0).length ≤ 140737488355328 then (some (toB (zbI l0))) else (none)
theorem zad.calls (A0 : Option Addr) (c0 : Nat) (l0 : List ByteArray) (r : ByteArray) (w : World) (hr0 : Kd.C Kd.string w A0 l0.length l0) (hc0 : l0.length ≤ c0) (h : zad.f l0 = some r) :
  Calls Tryz.prog 42 #[.slice A0 l0.length c0] w fun e w' => e = .returned (.string r) ∧ Below w.heap.size w w' := by
 unfold zad.f at h
 split at h
 ·rename_i hs
  obtain rfl := Option.some.inj h
  exact zad.walk A0 c0 l0 w hr0 hc0 hs
 ·cases h
def za3.f (a0_0 : Int) (a0_1 : Int) (l0_2 : List ByteArray) : Option (ByteArray × Int) := (zaP.f a0_0 a0_1 l0_2).bind fun t162 => (if t162 = true then ((zal.f (IntKind.u64.wrap (a0_0))).bind fun t163 => ((zal.f (IntKind.u64.wrap (a0_1))).bind fun t164 => (if t163.size + t164.size ≤ 9223372036854775807 then ((zad.f l0_2).bind fun t165 => (if (t163 ++ t164).size + t165.size ≤ 9223372036854775807 then (some ((t163 ++ t164) ++ t165,0)) else (none))) else (none)))) else (some ((⟨#[]⟩ : ByteArray),1)))
def za3.T3 : Bool × List (List Nat × List Nat) := (true,[([],[]),([0],[0]),([1],[1]),([2],[2]),([],[]),([4],[4]),([5],[5]),([6,3],[6]),([3,7],[3,7]),([],[]),([9],[9]),([10,7],[10]),([8,11],[8,11]),([12,11,0,1,2,3,4,5,6,7,8,9,10,11,12],[12]),([13,0,1,2,3,4,5,6,7,8,9,10,11,12,13],[])])
def za3.B3 : List Nat := [0,1,3,7,0,16,48,127,255,0,512,1791,4095,8191,16383]
theorem za3.tab3 : zcT .any (zfN Tryz.f39 3) = za3.T3 := by kernel_rfl
theorem za3.bits3 : zcB za3.T3.2 za3.B3 = true := by kernel_rfl
set_option maxHeartbeats 8000000 in
set_option maxRecDepth 100000 in
theorem za3.calls (a0_0 : Int) (a0_1 : Int) (A0_2 : Option Addr) (c0_2 : Nat) (l0_2 : List ByteArray) (r1 : ByteArray) (r2 : Int) (w : World) (hr0_2 : Kd.C Kd.string w A0_2 l0_2.length l0_2) (hc0_2 : l0_2.length ≤ c0_2) (h : za3.f a0_0 a0_1 l0_2 = some (r1,r2)) :
  Calls Tryz.prog 39 #[.agg #[.int .i64 a0_0,.int .i64 a0_1,.slice A0_2 l0_2.length c0_2]] w fun e w' => e = .returned (.tuple #[.string r1,.int .i64 r2]) ∧ Below w.heap.size w w' := by
 have hu73 := Tryz.underlying73
 have HR0_2 := za.mk hr0_2
 have HC0_2 := za.mk hc0_2
 clear hr0_2 hc0_2
 have HB := za.mk (Below.refl w.heap.size w)
 have H : ((zaP.f a0_0 a0_1 l0_2).bind fun t162 => (if t162 = true then ((zal.f (IntKind.u64.wrap (a0_0))).bind fun t163 => ((zal.f (IntKind.u64.wrap (a0_1))).bind fun t164 => (if t163.size + t164.size ≤ 9223372036854775807 then ((zad.f l0_2).bind fun t165 => (if (t163 ++ t164).size + t165.size ≤ 9223372036854775807 then (some ((t163 ++ t164) ++ t165,0)) else (none))) else (none)))) else (some ((⟨#[]⟩ : ByteArray),1)))) = some (r1,r2) := h
 clear h
 replace H := Option.bind_eq_some_iff.mp H
 obtain ⟨t162,A20,H⟩ := H
 replace H : (if t162 = true then ((zal.f (IntKind.u64.wrap (a0_0))).bind fun t163 => ((zal.f (IntKind.u64.wrap (a0_1))).bind fun t164 => (if t163.size + t164.size ≤ 9223372036854775807 then ((zad.f l0_2).bind fun t165 => (if (t163 ++ t164).size + t165.size ≤ 9223372036854775807 then (some ((t163 ++ t164) ++ t165,0)) else (none))) else (none)))) else (some ((⟨#[]⟩ : ByteArray),1))) = some (r1,r2) := H
 have A2 := za.mk A20
 clear A20
 by_cases c3 : t162 = true
 ·subst c3
  have H1 : ((zal.f (IntKind.u64.wrap (a0_0))).bind fun t163 => ((zal.f (IntKind.u64.wrap (a0_1))).bind fun t164 => (if t163.size + t164.size ≤ 9223372036854775807 then ((zad.f l0_2).bind fun t165 => (if (t163 ++ t164).size + t165.size ≤ 9223372036854775807 then (some ((t163 ++ t164) ++ t165,0)) else (none))) else (none)))) = some (r1,r2) := by rw [if_pos rfl] at H;exact H
  clear H
  have H := H1
  clear H1
  replace H := Option.bind_eq_some_iff.mp H
  obtain ⟨t163,A40,H⟩ := H
  replace H : ((zal.f (IntKind.u64.wrap (a0_1))).bind fun t164 => (if t163.size + t164.size ≤ 9223372036854775807 then ((zad.f l0_2).bind fun t165 => (if (t163 ++ t164).size + t165.size ≤ 9223372036854775807 then (some ((t163 ++ t164) ++ t165,0)) else (none))) else (none))) = some (r1,r2) := H
  have A4 := za.mk A40
  clear A40
  replace H := Option.bind_eq_some_iff.mp H
  obtain ⟨t164,A50,H⟩ := H
  replace H : (if t163.size + t164.size ≤ 9223372036854775807 then ((zad.f l0_2).bind fun t165 => (if (t163 ++ t164).size + t165.size ≤ 9223372036854775807 then (some ((t163 ++ t164) ++ t165,0)) else (none))) else (none)) = some (r1,r2) := H
  have A5 := za.mk A50
  clear A50
  by_cases c6 : t163.size + t164.size ≤ 9223372036854775807
  ·rw [if_pos c6] at H
   have c6b0 := eq_true c6
   have c6b1 : decide (t163.size + t164.size ≤ 9223372036854775807) = true := decide_eq_true c6
   try have c6b2 : (9223372036854775807 < t163.size + t164.size) = False := eq_false (Nat.not_lt.2 c6)
   replace H := Option.bind_eq_some_iff.mp H
   obtain ⟨t165,A70,H⟩ := H
   replace H : (if (t163 ++ t164).size + t165.size ≤ 9223372036854775807 then (some ((t163 ++ t164) ++ t165,0)) else (none)) = some (r1,r2) := H
   have A7 := za.mk A70
   clear A70
   by_cases c8 : (t163 ++ t164).size + t165.size ≤ 9223372036854775807
   ·rw [if_pos c8] at H
    have c8b0 := eq_true c8
    have c8b1 : decide ((t163 ++ t164).size + t165.size ≤ 9223372036854775807) = true := decide_eq_true c8
    try have c8b2 : (9223372036854775807 < (t163 ++ t164).size + t165.size) = False := eq_false (Nat.not_lt.2 c8)
    try (have c8b3 := c8;simp [ByteArray.size_append] at c8b3;have c8b4 := eq_false (Nat.not_lt.2 c8b3);clear c8b3)
    simp only [Option.some.injEq,Prod.mk.injEq] at H
    obtain ⟨rfl,rfl⟩ := H
    go_enter Tryz.func39,Tryz.ntmps39
    try go_wp2_with (first | ((with_reducible refine zy (N := 1) rfl ?_);refine zo ?hg (N := 1) ?hd (cs := #[.int .i64 a0_0,.int .i64 a0_1,.slice A0_2 l0_2.length c0_2]) (t := 73) ?hr ?_;(case hd => rfl);(case hg => rfl);(case hr => first | (go_simp;done) | (go_simp;rfl));intro gb161 hg w9 hbox hb;have n_ := haq (zd hBq hb) <| haq (hbox) <| haq ((by rw [hg];exact (ze hBq) : w.heap.size ≤ gb161)) <| haq ((by rw [hg];exact (ze hBq) : w.heap.size ≤ gb161)) <| trivial;clear HB;obtain ⟨HB,BK161,GW161,GE161,_⟩ := n_;clear hb hbox hg;obtain ⟨hcz10_0,hcz10_1,hcz10_2,hfz10_0,hfz10_1,hfz10_2⟩ := hcq3 BK161.out) | ((with_reducible refine zj (f := 65) rfl ?_);refine zQ (some 5) rfl rfl Tryz.func65 (by kernel_rfl) rfl #[.agg #[.int .i64 a0_0,.int .i64 a0_1,.slice A0_2 l0_2.length c0_2]] rfl hMq ?_;(with_reducible refine (zaP.calls a0_0 a0_1 _ _ l0_2 true _ ?side1 ?side2 A2.out).mono ?_);(case side1 => exact hKq (Kd.C_below HR0_2.out HB.out));(case side2 => exact HC0_2.out);rintro e w11 ⟨rfl,hb⟩;refine ⟨_,rfl,?_⟩;have n_ := haq (hbq BK161.out hb) <| haq (zd hCq hb) <| trivial;clear BK161 HB;obtain ⟨BK161,HB,_⟩ := n_;(try clear hb);(try clear hb2);(try clear hk);(try clear hi)))
    have n0_ := za.mk (zbq BK161.out)
    have n1_ := za.mk (zm HB.out)
    clear BK161
    clear HB
    have BK161 := n0_
    have HB := n1_
    clear n0_ n1_
    refine zds (n := 15) (S := fun w' => w'.cell? ⟨gb161,0,none⟩ = some (.int .i64 a0_0) ∧ w'.cell? ⟨gb161,1,none⟩ = some (.int .i64 a0_1) ∧ w'.cell? ⟨gb161,2,none⟩ = some (.slice A0_2 l0_2.length c0_2)) (ds := []) #[false,false,false,false,false,false,false,false,false,false,false,false,false,false,false] (by kernel_rfl) rfl rfl ⟨(zb BK161.out 0).trans rfl,(zb BK161.out 1).trans rfl,(zb BK161.out 2).trans rfl⟩ (fun hHeld => ?_);refine zcq za3.tab3 za3.bits3 (fun HT_ HW_ => ?_)
    generalize w11.drew = w12 at BK161 HB hHeld ⊢
    refine zaj (i := 0) (N := some 7) (v := ?_) (a' := ?_) #[true,false,false,false,false,false,false,false,false,false,false,false,false,false,false] rfl rfl (zab HT_.out (by kernel_rfl)) (fun _ _ _ h => h) (Or.inl ⟨by rfl,?_⟩) ?_ ?_
    rotate_left
    ·intro w'
     go_simp
     with_reducible rfl
    rotate_left
    ·simp only [Act.put,List.setIfInBounds_toArray,List.set_cons_zero,List.set_cons_succ,zK,zL]
     rfl
    refine zaj (i := 4) (N := some 11) (v := ?_) (a' := ?_) #[true,false,false,false,true,false,false,false,false,false,false,false,false,false,false] rfl rfl (zab HT_.out (by kernel_rfl)) (fun _ _ _ h => h) (Or.inl ⟨by rfl,?_⟩) ?_ ?_
    rotate_left
    ·intro w'
     go_simp
     with_reducible rfl
    rotate_left
    ·simp only [Act.put,List.setIfInBounds_toArray,List.set_cons_zero,List.set_cons_succ,zK,zL]
     rfl
    refine zaj (i := 9) (N := some 16) (v := ?_) (a' := ?_) #[true,false,false,false,true,false,false,false,false,true,false,false,false,false,false] rfl rfl (zab HT_.out (by kernel_rfl)) (fun _ _ _ h => h) (Or.inl ⟨by rfl,?_⟩) ?_ ?_
    rotate_left
    ·intro w'
     go_simp
     with_reducible rfl
    rotate_left
    ·simp only [Act.put,List.setIfInBounds_toArray,List.set_cons_zero,List.set_cons_succ,zK,zL]
     rfl
    refine take_ (i := 1) (N := some 8) (v := ?_) (a' := ?_) #[true,true,false,false,true,false,false,false,false,true,false,false,false,false,false] rfl rfl (za9 HT_.out HW_.out (by kernel_rfl)) (fun _ _ _ h => h) (Or.inl ⟨by rfl,?_⟩) hHeld ?_ ?_
    rotate_left
    ·rintro w' ⟨s0,s1,s2⟩
     go_simp
     with_reducible rfl
    rotate_left
    ·simp only [Act.put,List.setIfInBounds_toArray,List.set_cons_zero,List.set_cons_succ,zK,zL]
     rfl
    refine zaj (i := 2) (N := some 9) (v := ?_) (a' := ?_) #[true,true,true,false,true,false,false,false,false,true,false,false,false,false,false] rfl rfl (zab HT_.out (by kernel_rfl)) (fun _ _ _ h => h) (Or.inl ⟨by rfl,?_⟩) ?_ ?_
    rotate_left
    ·intro w'
     go_simp
     with_reducible rfl
    rotate_left
    ·simp only [Act.put,List.setIfInBounds_toArray,List.set_cons_zero,List.set_cons_succ,zK,zL]
     rfl
    refine take_ (i := 5) (N := some 12) (v := ?_) (a' := ?_) #[true,true,true,false,true,true,false,false,false,true,false,false,false,false,false] rfl rfl (za9 HT_.out HW_.out (by kernel_rfl)) (fun _ _ _ h => h) (Or.inl ⟨by rfl,?_⟩) hHeld ?_ ?_
    rotate_left
    ·rintro w' ⟨s0,s1,s2⟩
     go_simp
     with_reducible rfl
    rotate_left
    ·simp only [Act.put,List.setIfInBounds_toArray,List.set_cons_zero,List.set_cons_succ,zK,zL]
     rfl
    refine zaj (i := 6) (N := some 13) (v := ?_) (a' := ?_) #[true,true,true,false,true,true,true,false,false,true,false,false,false,false,false] rfl rfl (zab HT_.out (by kernel_rfl)) (fun _ _ _ h => h) (Or.inl ⟨by rfl,?_⟩) ?_ ?_
    rotate_left
    ·intro w'
     go_simp
     with_reducible rfl
    rotate_left
    ·simp only [Act.put,List.setIfInBounds_toArray,List.set_cons_zero,List.set_cons_succ,zK,zL]
     rfl
    refine take_ (i := 10) (N := some 17) (v := ?_) (a' := ?_) #[true,true,true,false,true,true,true,false,false,true,true,false,false,false,false] rfl rfl (za9 HT_.out HW_.out (by kernel_rfl)) (fun _ _ _ h => h) (Or.inl ⟨by rfl,?_⟩) hHeld ?_ ?_
    rotate_left
    ·rintro w' ⟨s0,s1,s2⟩
     go_simp
     with_reducible rfl
    rotate_left
    ·simp only [Act.put,List.setIfInBounds_toArray,List.set_cons_zero,List.set_cons_succ,zK,zL]
     rfl
    refine zdl (i := 3) (N := some 10) #[true,true,true,true,true,true,true,false,false,true,true,false,false,false,false] rfl rfl (zb5 HT_.out (by kernel_rfl)) (by decide) (fun K hK => ?_)
    refine zci Tryz.func17 (by kernel_rfl) rfl #[.int .u64 (IntKind.u64.wrap (a0_0))] (by rfl) rfl rfl hMq ?_
    with_reducible refine (zal.calls (IntKind.u64.wrap (a0_0)) t163 _ A4.out).mono ?_
    rintro e w13 ⟨rfl,hb⟩
    refine ⟨_,rfl,?_⟩
    have n0_ := za.mk (hbq BK161.out hb)
    have n1_ := za.mk (zd hCq hb)
    clear BK161
    clear HB
    have BK161 := n0_
    have HB := n1_
    clear n0_ n1_
    (try clear hb)
    (try clear hb2)
    (try clear hk)
    (try clear hi)
    refine hK.out _ _ ⟨(zb BK161.out 0).trans rfl,(zb BK161.out 1).trans rfl,(zb BK161.out 2).trans rfl⟩ (fun hHeld => ?_)
    clear hK K
    refine zck (a' := ?_) ?_ ?_
    rotate_left
    ·show Act.put _ (some 10) _ = _
     simp only [Act.put,List.setIfInBounds_toArray,List.set_cons_zero,List.set_cons_succ,zK,zL]
     rfl
    refine zdl (i := 7) (N := some 14) #[true,true,true,true,true,true,true,true,false,true,true,false,false,false,false] rfl rfl (zb5 HT_.out (by kernel_rfl)) (by decide) (fun K hK => ?_)
    refine zci Tryz.func17 (by kernel_rfl) rfl #[.int .u64 (IntKind.u64.wrap (a0_1))] (by rfl) rfl rfl hMq ?_
    with_reducible refine (zal.calls (IntKind.u64.wrap (a0_1)) t164 _ A5.out).mono ?_
    rintro e w14 ⟨rfl,hb⟩
    refine ⟨_,rfl,?_⟩
    have n0_ := za.mk (hbq BK161.out hb)
    have n1_ := za.mk (zd hCq hb)
    clear BK161
    clear HB
    have BK161 := n0_
    have HB := n1_
    clear n0_ n1_
    (try clear hb)
    (try clear hb2)
    (try clear hk)
    (try clear hi)
    refine hK.out _ _ ⟨(zb BK161.out 0).trans rfl,(zb BK161.out 1).trans rfl,(zb BK161.out 2).trans rfl⟩ (fun hHeld => ?_)
    clear hK K
    refine zck (a' := ?_) ?_ ?_
    rotate_left
    ·show Act.put _ (some 14) _ = _
     simp only [Act.put,List.setIfInBounds_toArray,List.set_cons_zero,List.set_cons_succ,zK,zL]
     rfl
    refine zaj (i := 8) (N := some 15) (v := ?_) (a' := ?_) #[true,true,true,true,true,true,true,true,true,true,true,false,false,false,false] rfl rfl (zab HT_.out (by kernel_rfl)) (fun _ _ _ h => h) (Or.inl ⟨by rfl,?_⟩) ?_ ?_
    rotate_left
    ·intro w'
     go_simp
     with_reducible rfl
    rotate_left
    ·simp only [Act.put,List.setIfInBounds_toArray,List.set_cons_zero,List.set_cons_succ,zK,zL]
     rfl
    refine zdl (i := 11) (N := some 18) #[true,true,true,true,true,true,true,true,true,true,true,true,false,false,false] rfl rfl (zb5 HT_.out (by kernel_rfl)) (by decide) (fun K hK => ?_)
    refine zci Tryz.func42 (by kernel_rfl) rfl #[.slice A0_2 l0_2.length c0_2] (by rfl) rfl rfl hMq ?_
    with_reducible refine (zad.calls _ _ l0_2 t165 _ ?side1 ?side2 A7.out).mono ?_
    (case side1 => exact hKq (Kd.C_below HR0_2.out HB.out))
    (case side2 => exact HC0_2.out)
    rintro e w15 ⟨rfl,hb⟩
    refine ⟨_,rfl,?_⟩
    have n0_ := za.mk (hbq BK161.out hb)
    have n1_ := za.mk (zd hCq hb)
    clear BK161
    clear HB
    have BK161 := n0_
    have HB := n1_
    clear n0_ n1_
    (try clear hb)
    (try clear hb2)
    (try clear hk)
    (try clear hi)
    refine hK.out _ _ ⟨(zb BK161.out 0).trans rfl,(zb BK161.out 1).trans rfl,(zb BK161.out 2).trans rfl⟩ (fun hHeld => ?_)
    clear hK K
    refine zck (a' := ?_) ?_ ?_
    rotate_left
    ·show Act.put _ (some 18) _ = _
     simp only [Act.put,List.setIfInBounds_toArray,List.set_cons_zero,List.set_cons_succ,zK,zL]
     rfl
    refine zaj (i := 12) (N := some 19) (v := ?_) (a' := ?_) #[true,true,true,true,true,true,true,true,true,true,true,true,true,false,false] rfl rfl (zab HT_.out (by kernel_rfl)) (fun _ _ _ h => h) (Or.inl ⟨by rfl,?_⟩) ?_ ?_
    rotate_left
    ·intro w'
     go_simp
     with_reducible rfl
    rotate_left
    ·simp only [Act.put,List.setIfInBounds_toArray,List.set_cons_zero,List.set_cons_succ,zK,zL]
     rfl
    refine zaj (i := 13) (N := some 2) (v := ?_) (a' := ?_) #[true,true,true,true,true,true,true,true,true,true,true,true,true,true,false] rfl rfl (zab HT_.out (by kernel_rfl)) (fun _ _ _ h => h) (Or.inl ⟨by rfl,?_⟩) ?_ ?_
    rotate_left
    ·intro w'
     go_simp
     with_reducible rfl
    rotate_left
    ·simp only [Act.put,List.setIfInBounds_toArray,List.set_cons_zero,List.set_cons_succ,zK,zL]
     rfl
    refine zaj (i := 14) (N := some 3) (v := ?_) (a' := ?_) #[true,true,true,true,true,true,true,true,true,true,true,true,true,true,true] rfl rfl (zab HT_.out (by kernel_rfl)) (fun _ _ _ h => h) (Or.inl ⟨by rfl,?_⟩) ?_ ?_
    rotate_left
    ·intro w'
     go_simp
     with_reducible rfl
    rotate_left
    ·simp only [Act.put,List.setIfInBounds_toArray,List.set_cons_zero,List.set_cons_succ,zK,zL]
     rfl
    refine zek (zdk HT_.out (by kernel_rfl)) ?_
    try go_wp2
    go_ret2
    exact ⟨hHq,hCq⟩
   ·rw [if_neg c8] at H
    exact absurd H (by simp)
  ·rw [if_neg c6] at H
   exact absurd H (by simp)
 ·replace c3 := Bool.eq_false_iff.mpr c3
  subst c3
  have H1 : (some ((⟨#[]⟩ : ByteArray),1)) = some (r1,r2) := by rw [if_neg (show ¬ (false = true) by decide)] at H;exact H
  clear H
  have H := H1
  clear H1
  simp only [Option.some.injEq,Prod.mk.injEq] at H
  obtain ⟨rfl,rfl⟩ := H
  go_enter Tryz.func39,Tryz.ntmps39
  go_wp2_with (first | ((with_reducible refine zy (N := 1) rfl ?_);refine zo ?hg (N := 1) ?hd (cs := #[.int .i64 a0_0,.int .i64 a0_1,.slice A0_2 l0_2.length c0_2]) (t := 73) ?hr ?_;(case hd => rfl);(case hg => rfl);(case hr => first | (go_simp;done) | (go_simp;rfl));intro gb161 hg w16 hbox hb;have n_ := haq (zd hBq hb) <| haq (hbox) <| haq ((by rw [hg];exact (ze hBq) : w.heap.size ≤ gb161)) <| haq ((by rw [hg];exact (ze hBq) : w.heap.size ≤ gb161)) <| trivial;clear HB;obtain ⟨HB,BK161,GW161,GE161,_⟩ := n_;clear hb hbox hg;obtain ⟨hcz17_0,hcz17_1,hcz17_2,hfz17_0,hfz17_1,hfz17_2⟩ := hcq3 BK161.out) | ((with_reducible refine zj (f := 65) rfl ?_);refine zQ (some 5) rfl rfl Tryz.func65 (by kernel_rfl) rfl #[.agg #[.int .i64 a0_0,.int .i64 a0_1,.slice A0_2 l0_2.length c0_2]] rfl hMq ?_;(with_reducible refine (zaP.calls a0_0 a0_1 _ _ l0_2 false _ ?side1 ?side2 A2.out).mono ?_);(case side1 => exact hKq (Kd.C_below HR0_2.out HB.out));(case side2 => exact HC0_2.out);rintro e w18 ⟨rfl,hb⟩;refine ⟨_,rfl,?_⟩;have n_ := haq (hbq BK161.out hb) <| haq (zd hCq hb) <| trivial;clear BK161 HB;obtain ⟨BK161,HB,_⟩ := n_;(try clear hb);(try clear hb2);(try clear hk);(try clear hi)))
  go_ret2
  exact ⟨hHq,hCq⟩
end Go.Proofs.YtfhbeonhnhjikaaGreat.Px