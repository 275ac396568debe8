/- Part 7 of 25 of the proof of the law DagOrder: what is proved is the statement at the end of the last part; its conditions are those of the given row. -/
import Derived.Lib.Builder
import Derived.Lib.UnsafeStr
import Derived.Lib.Strings
import Derived.Lib.Slices
import Derived.Lib.Walk
import Derived.Laws.AppendOwn
import Derived.ScopeJumps
import Derived.WalkMore
import Derived.RegionTactic
import Derived.ChangeAlike
import Derived.Test.YtklhjlaofkngcaaZDagOrderF
namespace Go.Proofs.Ytklhjlaofkngcaa.Px
open Go.RowKit Go.Proofs.YtklhjlaofkngcaaW.PrintWords Go.Proofs.YtklhjlaofkngcaaW.PrintLast Go.Proofs.YtklhjlaofkngcaaW.PrintMore
attribute [local go_sem] zx zz zE zF zr zt zy zA
set_option linter.unusedVariables false
set_option linter.unusedSimpArgs false
def zbG (w : World) (base : Nat) (e : TypeId) (v : Value) (l : Bs) : Prop :=
 ∃ g cap cur fz,v = .slice (some ⟨g,0,none⟩) l.length cap ∧ base ≤ g ∧ w.heap[g]? = some (.cells cur e fz) ∧ (fz.2 ≤ l.length ∨ cap ≤ fz.1) ∧ l.length ≤ cap ∧ cap ≤ maxLen ∧ cur.size = cap ∧ cur.toList.take l.length = Lib.byteCells l
theorem zbG.below {w w' : World} {base : Nat} {e : TypeId} {v : Value} {l : Bs} (h : zbG w base e v l) (hb : Below w.heap.size w w') : zbG w' base e v l := by
 obtain ⟨g,cap,cur,fz,rfl,hg,hh,r⟩ := h
 exact ⟨g,cap,cur,fz,rfl,hg,(hb.block g (Array.getElem?_eq_some_iff.1 hh).1).trans hh,r⟩
theorem zbG.start (W : World) (base : Nat) (e : TypeId) (s : ByteArray) (hb : base ≤ W.heap.size) (hs : s.size ≤ maxLen) : zbG (Lib.bytesWorld W e s) base e (.slice (some ⟨W.heap.size,0,none⟩) s.size (grownCap W s.size 0 e)) (ofB s) := by
 have hc := grownCap_ge W s.size 0 e
 have hd : s.data.size = s.size := rfl
 have hz : (Lib.bytesCells W e s).size = grownCap W s.size 0 e := by
  rw [Lib.bytesCells,Array.size_append,Array.size_map,Array.size_replicate,hd];omega
 refine ⟨W.heap.size,grownCap W s.size 0 e,Lib.bytesCells W e s,_,by rw [zap],hb,Lib.bytesWorld_at_new W e s,.inr (by rw [hz];exact Nat.le_refl _),by rw [zap];exact hc,grownCap_le_maxLen W s.size 0 e hs,hz,?_⟩
 rw [Lib.bytesCells,Array.toList_append,List.take_left' (by rw [Array.length_toList,Array.size_map,hd,zap])]
 simp [Lib.byteCells,ofB]
theorem zbG.string {P : Program} {w : World} {base : Nat} {e src : TypeId} {v : Value} {l : Bs} (hown : zbG w base e v l) (hs : P.underlying src = some (.slice e)) (he : P.underlying e = some (.int .u8)) :
  ∀ dst,P.underlying dst = some .string → (convert src dst v).run P w = .ok (.string (toB l)) w := by
 obtain ⟨g,cap,cur,fz,rfl,hbg,hg,hfz,hnc,hcm,hcs,htake⟩ := hown
 intro dst hd
 have h := run_convert_bytes_arg (P := P) w src e hs he g 0 l.length cap (l.map fun b => (b.toNat : Int)) (by simp) (fun i hi => by
  have h1 : (Lib.byteCells l)[i]? = some (.int .u8 ((l.map fun b => (b.toNat : Int)).getD i 0)) := by
   simp [Lib.byteCells,List.getElem?_eq_getElem hi]
  rw [← htake,List.getElem?_take,if_pos hi] at h1
  rw [Nat.zero_add]
  simp [World.cell?,hg]
  simpa using h1) dst hd
 rw [h]
 congr 3
 rw [zcT,List.map_map]
 congr 1
 rw [List.map_congr_left (g := id) (fun b _ => by simp),List.map_id]
structure Rpb (w W : World) (v : Value) (l : Bs) : Prop where
 o : zbG W w.heap.size 5 v l
 b : Below w.heap.size w W
structure Rpt (w1 W : World) (t : Value) (xs : List Int) : Prop where
 t : W.ownsRow w1.heap.size 5 1 t xs.length (zht .u8 xs)
 c : Below w1.heap.size w1 W
structure Rw (w1 W : World) (v : Value) (xs : List Int) : Prop where
 o : W.ownsRow w1.heap.size 83 1 v xs.length (zht .u32 xs)
 c : Below w1.heap.size w1 W
theorem Rw.below {w1 W W' : World} {v : Value} {xs : List Int} (h : Rw w1 W v xs) (hb : Below W.heap.size W W') : Rw w1 W' v xs := ⟨zbq h.o hb,zh h.c hb⟩
structure Rh (w W : World) (g2 g4 : Nat) (H : List Int) : Prop where
 b : Below w.heap.size w W
 h : W.heap[g2]? = some (.cells (zJ H) 84 (0,0))
 r : W.heap[g4]? = some (.cells (zJ [0,0,0,0,0,0,0,0]) 84 (0,0))
theorem zfg {W W' : World} {base e n g c : Nat} {size : Nat} {xs : List Value} (h : W.ownsRow base e size (.slice (some ⟨g,0,none⟩) n c) n xs) (hb : W'.heap[g]? = W.heap[g]?) : W'.ownsRow base e size (.slice (some ⟨g,0,none⟩) n c) n xs := by
 refine ⟨h.1,?_⟩
 rcases h.2 with h1 | ⟨g',cap,cur,e1,h2,h3,h4⟩
 ·exact .inl h1
 ·cases e1
  exact .inr ⟨g,c,cur,rfl,h2,hb.trans h3,h4⟩
structure Rq (w W : World) (B g2 g4 g c : Nat) (H Wl : List Int) : Prop where
 b : Below w.heap.size w W
 h : W.heap[g2]? = some (.cells (zJ H) 84 (0,0))
 r : W.heap[g4]? = some (.cells (zJ [0,0,0,0,0,0,0,0]) 84 (0,0))
 o : W.ownsRow B 83 1 (.slice (some ⟨g,0,none⟩) 64 c) 64 (zht .u32 Wl)
theorem Rq.below {w W W' : World} {B g2 g4 g c : Nat} {H Wl : List Int} (h : Rq w W B g2 g4 g c H Wl) (hb : Below W.heap.size W W') : Rq w W' B g2 g4 g c H Wl := ⟨zh h.b hb,zl h.h hb,zl h.r hb,zbq h.o hb⟩
theorem Rq.row {w W : World} {B g2 g4 g c g13 : Nat} {cs : Array Value} {H Wl : List Int} (h : Rq w W B g2 g4 g c H Wl) (G : w.heap.size ≤ g13) (n2 : g13 ≠ g2) (n4 : g13 ≠ g4) (n : g13 ≠ g) : Rq w (W.setRow g13 cs) B g2 g4 g c H Wl :=
 ⟨zbk h.b G,(setRow_other _ _ _ _ (Ne.symm n2)).trans h.h,(setRow_other _ _ _ _ (Ne.symm n4)).trans h.r,zfg h.o (setRow_other _ _ _ _ (Ne.symm n))⟩
theorem Rq.cell {w W : World} {B g2 g4 g c : Nat} {H Wl : List Int} (h : Rq w W B g2 g4 g c H Wl) (hl : Wl.length = 64) (j : Nat) (hj : j < 64) : W.cell? ⟨g,j,none⟩ = some (.int .u32 (Wl.getD j 0)) := by
 have h := h.o.cells (g := g) rfl j (.int .u32 (Wl.getD j 0)) (by simp [zht,List.getElem?_eq_getElem (show j < Wl.length by omega),List.getD_eq_getElem?_getD])
 rwa [zby] at h
structure Rr (w W : World) (B g2 g4 g13 g c : Nat) (H Wl : List Int) : Prop where
 q : Rq w W B g2 g4 g c H Wl
 k : W.heap[g13]? = some (.cells (zJ kL) 86 (0,0))
theorem Rr.below {w W W' : World} {B g2 g4 g13 g c : Nat} {H Wl : List Int} (h : Rr w W B g2 g4 g13 g c H Wl) (hb : Below W.heap.size W W') : Rr w W' B g2 g4 g13 g c H Wl := ⟨h.q.below hb,zl h.k hb⟩
structure Rs (w W : World) (g3 : Nat) (L : List Int) : Prop where
 b : Below w.heap.size w W
 h : W.heap[g3]? = some (.cells (zJ L) 84 (0,0))
theorem Rs.below {w W W' : World} {g3 : Nat} {L : List Int} (h : Rs w W g3 L) (hb : Below W.heap.size W W') : Rs w W' g3 L := ⟨zh h.b hb,zl h.h hb⟩
def zix (L : List Int) : Nat → List Int
 | 0 => []
 | n + 1 => zix L n ++ [L.getD n 0 / 16777216 % 256,L.getD n 0 / 65536 % 256,L.getD n 0 / 256 % 256,L.getD n 0 % 256]
structure Ro (wb W : World) (L : List Int) (v : Value) (n : Nat) : Prop where
 o : W.ownsRow wb.heap.size 5 1 v (zix L n).length (zht .u8 (zix L n))
 c : Below wb.heap.size wb W
def beL (v : Nat) : List Int := if v = 0 then [] else beL (v / 256) ++ [((v % 256 : Nat) : Int)]
termination_by v
decreasing_by omega
theorem zdV : beL 0 = [] := by rw [beL];simp
theorem ze2 {v : Nat} (h : 0 < v) : beL v = beL (v / 256) ++ [((v % 256 : Nat) : Int)] := by rw [beL,if_neg (by omega)]
theorem ziq (v : Nat) : (beL v).map (fun n => UInt8.ofNat n.toNat) = be v := by
 induction v using Nat.strongRecOn with
 | _ v ih =>
  rcases Nat.eq_zero_or_pos v with h | h
  ·subst h;rw [zdV,ze3];rfl
  ·rw [ze2 h,zfU h,List.map_append,ih _ (by omega)];rfl
theorem zfC (v : Nat) : za1 v = strOfNums (((beL v).length : Int) :: beL v) := (zd8 v _ (ziq v)).symm
def zeP : Value → Int | .int _ q => q | _ => 0
def zgz (cs : Array Value) (p : Nat) (L : List Int) : Prop := cs.size = 9 ∧ p + L.length = 9 ∧ ∀ i,i < L.length → cs[p + i]? = some (.int .u8 (L.getD i 0))
theorem zgz.cell {cs : Array Value} {p : Nat} {L : List Int} (h : zgz cs p L) (i : Nat) (hi : i < 9) : ∃ v,cs[i]? = some v :=
 ⟨cs[i]'(by rw [h.1];exact hi),Array.getElem?_eq_getElem _⟩
theorem zgz.set {cs : Array Value} {q : Nat} {L : List Int} (h : zgz cs (q + 1) L) (x : Int) : zgz (cs.setIfInBounds q (.int .u8 x)) q (x :: L) := by
 refine ⟨by simp [h.1],by have := h.2.1;simp only [List.length_cons];omega,fun i hi => ?_⟩
 rcases i with _ | i
 ·rw [Nat.add_zero,Array.getElem?_setIfInBounds_self_of_lt (by rw [h.1];have := h.2.1;omega)];rfl
 ·have h2 := h.2.2 i (by simpa using hi)
  rw [Array.getElem?_setIfInBounds_ne (by omega),← Nat.add_assoc,Nat.add_right_comm,h2];simp
theorem zhx {v q : Nat} (h : v < 256 ^ (q + 1)) : v / 256 < 256 ^ q := by
 rw [Nat.pow_succ] at h
 exact Nat.div_lt_of_lt_mul (by rw [Nat.mul_comm];exact h)
set_option maxHeartbeats 1000000 in
set_option maxRecDepth 100000 in
theorem zV.walk (a0 : Nat) (w : World) (h1 : a0 < 18446744073709551616) :
  Calls Try.prog 55 #[.int .u64 a0] w fun e w' => e = .returned (.string (za1 a0)) ∧ Below w.heap.size w w' := by
 go_enter Try.func55,Try.ntmps55
 go_wp2
 refine wp_scope_jumps 0 (fun a' w' => ∃ (v p n : Nat) (L : List Int) (cs : Array Value) (u6 u7 u8 u9 u10 u11 u12 u13 u14 u15 u16 u17 : Value),
   zgz cs p L ∧ v < 256 ^ (p - 1) ∧ 1 ≤ p ∧ L.length = n ∧ beL a0 = beL v ++ L ∧
   w' = w.alloc (.cells cs 99) ∧
   a' = { tmps := #[.int .u64 v,undef,.string ⟨#[]⟩,.pointer (some ⟨w.heap.size,0,none⟩),.int .i64 p,.int .u8 n,u6,u7,u8,u9,u10,u11,u12,u13,u14,u15,u16,u17,undef,undef,undef,undef,undef,undef,undef,undef],defers := [] })
   (fun a' _ => (zeP (a'.tmps.getD 4 undef)).toNat) rfl ?_ ?_
 ·rcases Nat.eq_zero_or_pos a0 with h0 | h0
  ·subst h0
   have hcv := fun W => run_convert_bytes_arg (P := Try.prog) (w.alloc W) 91 5 Try.underlying91 Try.underlying5 w.heap.size 8 1 1 [0] rfl
   go_wp2
   go_step3
   go_wp2
   simp only [Exit.jump]
   go_ret
   exact ⟨by rw [zfC,zdV];rfl,(Below.refl _ _).alloc (Nat.le_refl _) _⟩
  ·go_wp2
   go_step3
   go_wp2
   go_step3
   refine ⟨rfl,a0 / 256,8,1,[(a0 % 256 : Nat)],_,_,_,_,_,_,_,_,_,_,_,_,_,?_,?_,?_,rfl,ze2 h0,rfl,rfl⟩
   ·refine ⟨rfl,rfl,fun i hi => ?_⟩
    obtain rfl : i = 0 := by simpa using hi
    rfl
   ·have : (256:Nat) ^ (8 - 1) = 72057594037927936 := by decide
    omega
   ·omega
 ·rintro a' w' ⟨v,p,n,L,cs,u6,u7,u8,u9,u10,u11,u12,u13,u14,u15,u16,u17,hN,hv,hp,hn,hb,rfl,rfl⟩
  obtain ⟨q,rfl⟩ : ∃ q,p = q + 1 := ⟨p - 1,by omega⟩
  have hq : q < 9 := by have := hN.2.1;omega
  have hnq : n + q = 8 := by have := hN.2.1;omega
  have hnn : n ≤ 8 := by omega
  have hvb : v < 18446744073709551616 := by
   have : 256 ^ (q + 1 - 1) ≤ 256 ^ 8 := Nat.pow_le_pow_right (by omega) (by omega)
   have : (256:Nat) ^ 8 = 18446744073709551616 := by decide
   omega
  obtain ⟨v0,hc⟩ := hN.cell q hq
  have HN := zb.mk hN
  have HB := zb.mk hb
  have HV := zb.mk hv
  have HL := zb.mk hn
  have HQ := zb.mk hnq
  clear hN hb hv hn hnq h1
  rcases Nat.eq_zero_or_pos v with h0 | h0
  ·subst h0
   have hq9 : q ≤ 9 := by omega
   have hsl : ∀ W : World,(Instr.sliceAt 99 (.pointer (some ⟨w.heap.size,0,none⟩)) (some (.int .i64 (q : Int))) none none).run Try.prog W = .ok (.slice (some ⟨w.heap.size,q,none⟩) (9 - q) (9 - q)) W := by
    intro W
    rw [run_sliceAt_array_l W 99 _ (by kernel_rfl) .i64 q (by omega) (by show (q : Int) ≤ 9;omega)]
    have e1 : (sizeOf (Try.prog.elem 99)).run Try.prog W = .ok 1 W := by kernel_rfl
    have e2 : Try.prog.arrayLen 99 = 9 := by kernel_rfl
    rw [e1,e2]
    simp only [Result.andThen,slicedAt,Int.toNat_natCast,Nat.mul_one]
    rw [if_neg (by omega),zby]
   have hS := HN.out.set n
   have hcv := run_convert_bytes_arg (P := Try.prog) (w.alloc (.cells (cs.setIfInBounds q (.int .u8 (n : Int))) 99)) 91 5 Try.underlying91 Try.underlying5 w.heap.size q (9 - q) (9 - q) ((n : Int) :: L) (by rw [List.length_cons,HL.out];have := HQ.out;omega)
    (fun i hi => by
     have h2 := hS.2.2 i (by have := hS.2.1;omega)
     rw [World.cell?_alloc_new];exact h2) 9 Try.underlying9
   clear hS
   go_wp2
   simp only [Exit.jump]
   go_ret
   exact ⟨by rw [zfC,HB.out,zdV,List.nil_append,HL.out];rfl,(Below.refl _ _).alloc (Nat.le_refl _) _⟩
  ·obtain ⟨q',rfl⟩ : ∃ q',q = q' + 1 := ⟨q - 1,by
    rcases Nat.eq_zero_or_pos q with hz | hz
    ·have := HV.out;subst hz;simp at this;omega
    ·omega⟩
   go_wp2
   go_step3
   refine ⟨rfl,⟨v / 256,q' + 1,n + 1,((v % 256 : Nat) : Int) :: L,_,_,_,_,_,_,_,_,_,_,_,_,_,HN.out.set _,zhx HV.out,by omega,by rw [List.length_cons,HL.out],?_,rfl,rfl⟩,?_⟩
   ·rw [HB.out,ze2 h0];simp
   ·simp [zeP];omega
def zV.f (a0 : Int) : Option (ByteArray) := if 0 ≤ a0 then (if a0 < 18446744073709551616 then (some (za1 a0.toNat)) else (none)) else (none)
theorem zV.calls (a0 : Int) (r : ByteArray) (w : World) (h : zV.f a0 = some r) :
  Calls Try.prog 55 #[.int .u64 a0] w fun e w' => e = .returned (.string r) ∧ Below w.heap.size w w' := by
 unfold zV.f at h
 split at h
 ·rename_i h0
  split at h
  ·rename_i h1
   obtain ⟨n,rfl⟩ := Int.eq_ofNat_of_zero_le h0
   obtain rfl := Option.some.inj h
   rw [Int.toNat_natCast]
   exact zV.walk n w (by omega)
  ·cases h
 ·cases h
def zbg.f (a0 : ByteArray) : Option (ByteArray) := if a0.size ≤ 1152921504606846976 then (some (zem a0)) else (none)
theorem zbg.calls (a0 : ByteArray) (r : ByteArray) (w : World) (h : zbg.f a0 = some r) :
  Calls Try.prog 76 #[.string a0] w fun e w' => e = .returned (.string r) ∧ Below w.heap.size w w' := by
 unfold zbg.f at h
 split at h
 ·rename_i h0
  obtain rfl := Option.some.inj h
  clear h
  have hn : (za1 a0.size).size ≤ 9 := zbi (by omega)
  have hn2 : (za1 a0.size).size + a0.size ≤ 9223372036854775807 := by omega
  have HN := zb.mk (show zV.f (a0.size : Int) = some (za1 a0.size) by unfold zV.f;rw [if_pos (by omega),if_pos (by omega),Int.toNat_natCast])
  go_enter Try.func76,Try.ntmps76
  go_wp2_with (go_at_call 55;(with_reducible refine (zV.calls _ _ _ HN.out).mono ?_);rintro e w1 ⟨rfl,hb⟩)
  go_ret
  exact ⟨rfl,by assumption⟩
 ·cases h
theorem zb6 (v : Nat) (hv : v < 18446744073709551616) : zV.f (v : Int) = some (za1 v) := by
 unfold zV.f
 rw [if_pos (by omega),if_pos (by omega),Int.toNat_natCast]
theorem zdZ (t : ByteArray) (h : t.size ≤ 1152921504606846976) : zbg.f t = some (zem t) := by unfold zbg.f;rw [if_pos h]
def zaR (l : List ByteArray) : Bs := l.flatMap (fun t => zen (ofB t))
def zcn (l : List ByteArray) : Bs := zcz l.length ++ zaR l
theorem zei (l : List ByteArray) (k : Nat) (t : ByteArray) (h : l[k]? = some t) : zaR (l.take (k + 1)) = zaR (l.take k) ++ ofB (zem t) := by
 have hk := (List.getElem?_eq_some_iff.1 h)
 obtain ⟨hk,rfl⟩ := hk
 rw [List.take_succ_eq_append_getElem hk,zaR,zaR,List.flatMap_append,zhJ,zcL]
 simp
theorem zcS (l : List ByteArray) (k : Nat) : (zaR (l.take k)).length ≤ (zaR l).length := by
 have : zaR l = zaR (l.take k) ++ zaR (l.drop k) := by rw [zaR,zaR,zaR,← List.flatMap_append,List.take_append_drop]
 rw [this,List.length_append];omega
theorem zhF (l : List ByteArray) : l.length ≤ (zaR l).length := by
 induction l with
 | nil => simp
 | cons t l ih =>
  have : zaR (t :: l) = zen (ofB t) ++ zaR l := rfl
  rw [this,List.length_append,List.length_cons,zen,zcz]
  simp only [List.length_cons,List.length_append]
  omega
theorem zfa (l : List ByteArray) (k : Nat) (t : ByteArray) (h : l[k]? = some t) : t.size ≤ (zaR l).length := by
 have h1 := zei l k t h
 have h2 := zcS l (k + 1)
 rw [h1,List.length_append,zap,zem,ByteArray.size_append] at h2
 omega
def selvedgeref07_Bytes.B4 : List Nat := [0,1,3,7,0,16,48,127,255,0,512,1791,4095,8191,16383]
theorem zg9 : (Try.prog.info? 5).map (fun i => (i.zero,i.size,i.bytes)) = some (some (.int .u8 0),1,1) := by kernel_rfl
theorem zeH : (Try.prog.info? 102).map (·.size) = some 2 := by kernel_rfl
theorem zhZ : liesAt Try.prog Try.prog.depth 102 (2 / Try.prog.cellsOf 102) 0 102 1 = true := by kernel_rfl
abbrev zcP (B b : Nat) (l : Bs) (w : World) : Prop := Lib.IsBuilder 102 5 B b (Lib.byteCells l) w
theorem zcP.below {B b : Nat} {l : Bs} {w w' : World} (h : zcP B b l w) (hb : Below w.heap.size w w') : zcP B b l w' := by
 have key : ∀ p,Lib.BuilderAt 102 5 B b p (Lib.byteCells l) w → Lib.BuilderAt 102 5 B b p (Lib.byteCells l) w' := by
  rintro p ⟨hB,v,hk,hown,hne⟩
  have hlt : b < w.heap.size := Lib.BuilderAt.lt ⟨hB,v,hk,hown,hne⟩
  exact ⟨hB,v,(hb.block b hlt).trans hk,zbq hown hb,hne⟩
 exact h.imp (key _) (key _)
set_option maxHeartbeats 1000000 in
set_option maxRecDepth 100000 in
theorem zdY (b : Nat) (w : World) (h0 : w.cell? ⟨b,0,none⟩ = some (.pointer (some ⟨b,0,none⟩))) :
  Calls Try.prog 94 #[.pointer (some ⟨b,0,none⟩)] w fun e w' => e = .returned (.tuple #[]) ∧ w = w' := by
 obtain ⟨j,hj,_⟩ := Option.map_eq_some_iff.1 zeH
 go_enter Try.func94,Try.ntmps94
 go_wp2
 rw [Lib.run_neq_ptr_same w _ Try.underlying100 hj]
 go_wp2
 go_end0
 exact ⟨rfl,rfl⟩
set_option maxHeartbeats 1000000 in
set_option maxRecDepth 100000 in
theorem zdz (b : Nat) (w : World) (h0 : w.cell? ⟨b,0,none⟩ = some (.pointer none)) (hsh : w.shape? b = some (102,2)) (hfz : w.frozen? ⟨b,0,none⟩ = false) :
  Calls Try.prog 94 #[.pointer (some ⟨b,0,none⟩)] w fun e w' => e = .returned (.tuple #[]) ∧ w.setCell ⟨b,0,none⟩ (.pointer (some ⟨b,0,none⟩)) = w' := by
 obtain ⟨j,hj,hjs⟩ := Option.map_eq_some_iff.1 zeH
 go_enter Try.func94,Try.ntmps94
 go_wp2
 rw [Lib.run_to_unsafe w ⟨b,0,none⟩ Try.underlying100 Try.underlying124 hj (by rw [hjs];decide) hsh (Nat.zero_lt_succ 1)]
 simp only [Result.andThen]
 rw [Oper.upon_value]
 go_wp2
 rw [run_callFunc_extern Try.func102 (by kernel_rfl) (by kernel_rfl) (by kernel_rfl) (e := Extern.AbiNoEscape.same) (by kernel_rfl)]
 rw [Lib.run_noEscape]
 simp only [Result.andThen]
 rw [Oper.upon_value]
 go_wp2
 rw [Lib.run_from_unsafe w ⟨b,0,none⟩ Try.underlying124 Try.underlying100 hj hsh zhZ]
 simp only [Result.andThen]
 rw [Oper.upon_value]
 go_wp2
 go_end0
 exact ⟨rfl,rfl⟩
theorem zev (B b : Nat) (bs : List Value) (w : World) (h : Lib.IsBuilder 102 5 B b bs w) :
  Calls Try.prog 94 #[.pointer (some ⟨b,0,none⟩)] w fun e w' => e = .returned (.tuple #[]) ∧ (Lib.BuilderAt 102 5 B b (.pointer (some ⟨b,0,none⟩)) bs w' ∧ Below B w w') := by
 rcases h with h | h
 ·refine (zdz b w h.cell0 h.shape h.frozen0).mono ?_
  rintro e w' ⟨rfl,rfl⟩
  exact ⟨rfl,h.used _,(Below.refl B w).setCell (p := ⟨b,0,none⟩) h.1 _⟩
 ·refine (zdY b w h.cell0).mono ?_
  rintro e w' ⟨rfl,rfl⟩
  exact ⟨rfl,h,Below.refl B _⟩
set_option maxHeartbeats 2000000 in
set_option maxRecDepth 100000 in
theorem zcy (B b : Nat) (l : Bs) (s : ByteArray) (w : World) (h : zcP B b l w) (hlen : l.length + s.size ≤ 140737488355328) (hBw : B ≤ w.heap.size) :
  Calls Try.prog 75 #[.pointer (some ⟨b,0,none⟩),.string s] w fun e w' => e = .returned (.tuple #[.int .i64 s.size,.nilIface]) ∧ zcP B b (l ++ ofB s) w' ∧ Below B w w' := by
 obtain ⟨i0,hi,hz0,hz1,hz2⟩ := info_parts zg9
 have hlc : (Lib.byteCells l).length = l.length := Lib.byteCells_length l
 go_enter Try.func75,Try.ntmps75
 go_wp2_with (go_at_call 94;refine (zev B b _ _ h).mono ?_)
 rintro e w1 ⟨rfl,h1,hb1⟩
 obtain ⟨hB,v,hbk,hown,hne⟩ := h1
 have c0 : w1.cell? ⟨b,0,none⟩ = some (.pointer (some ⟨b,0,none⟩)) := by rw [Lib.cell_of_heap hbk];rfl
 have c1 : w1.cell? ⟨b,1,none⟩ = some v := by rw [Lib.cell_of_heap hbk];rfl
 go_wp2_with (at_builtin;refine Lib.wpList_append_own_string _ rfl _ _ 91 9 rfl B 5 i0 Try.underlying91 Try.underlying9 hi hz0 hz1 hz2 _ _ _ rfl hown s rfl ?c3 ?c4 ?c5 ?_)
 case c3 => unfold maxLen;omega
 case c4 => omega
 case c5 => have := hb1.size;omega
 intro v' w2 hown' hgrow _
 have hlt : b < w1.heap.size := by
  rcases Nat.lt_or_ge b w1.heap.size with h' | h'
  ·exact h'
  ·simp [Array.getElem?_eq_none h'] at hbk
 have hb2 : w2.heap[b]? = some (.cells #[.pointer (some ⟨b,0,none⟩),v] 102 (0,0)) := by
  rw [hgrow.block b hlt (fun e => hne e.symm)]
  exact hbk
 have d0 : w2.cell? ⟨b,0,none⟩ = some (.pointer (some ⟨b,0,none⟩)) := by rw [Lib.cell_of_heap hb2];rfl
 have d1 : w2.cell? ⟨b,1,none⟩ = some v := by rw [Lib.cell_of_heap hb2];rfl
 have f1 : w2.frozen? ⟨b,1,none⟩ = false := Lib.frozen_of_heap hb2 1
 obtain ⟨ao,n',cap,rfl⟩ : ∃ ao n' cap,v' = .slice ao n' cap := by
  rcases hown'.2 with ⟨hv,_⟩ | ⟨g,cap,cur,hv,_⟩
  ·exact ⟨_,_,_,hv⟩
  ·exact ⟨_,_,_,hv⟩
 go_wp2
 go_ret2
 refine ⟨rfl,.inr ?_,?_⟩
 ·have e1 : Lib.byteCells l ++ Lib.strCells s = Lib.byteCells (l ++ ofB s) := by rw [Lib.strCells_eq];simp [Lib.byteCells,ofB]
  rw [e1] at hown'
  refine Lib.BuilderAt.put (T := 102) (e := 5) hB hb2 (bs' := Lib.byteCells (l ++ ofB s)) ?_ (by decide)
  rw [Lib.byteCells_length,List.length_append,zap]
  exact hown'
 ·exact (hb1.grown hgrow (by have := hb1.size;omega) (fun k hk => (hown.lt k hk).1)).setCell (p := ⟨b,1,none⟩) hB _
set_option maxHeartbeats 1000000 in
set_option maxRecDepth 100000 in
theorem zeu (B b : Nat) (l : Bs) (w : World) (h : zcP B b l w) (h0 : l ≠ []) :
  Calls Try.prog 77 #[.pointer (some ⟨b,0,none⟩)] w fun e w' => e = .returned (.string (toB l)) ∧ Below B w w' := by
 obtain ⟨p,hB,v,hbk,hown,hne⟩ : ∃ p,Lib.BuilderAt 102 5 B b p (Lib.byteCells l) w := by
  rcases h with h | h
  ·exact ⟨_,h⟩
  ·exact ⟨_,h⟩
 have hl0 : l.length ≠ 0 := by simpa using h0
 rw [Lib.byteCells_length] at hown
 obtain ⟨g,cap,cur,rfl,hbg,hg,hnc,hcm,hcs,htake⟩ : ∃ g cap cur,v = .slice (some ⟨g,0,none⟩) l.length cap ∧ B ≤ g ∧ w.heap[g]? = some (.cells cur 5 (0,0)) ∧ l.length ≤ cap ∧ cap ≤ maxLen ∧ cur.size = cap * 1 ∧ cur.toList.take (l.length * 1) = Lib.byteCells l := by
  rcases hown.2 with ⟨_,hz⟩ | ⟨g,cap,cur,hv,r⟩
  ·exact absurd hz hl0
  ·exact ⟨g,cap,cur,hv,r⟩
 have c1 : w.drew.cell? ⟨b,1,none⟩ = some (.slice (some ⟨g,0,none⟩) l.length cap) := by
  have : w.drew.heap[b]? = some (.cells #[p,.slice (some ⟨g,0,none⟩) l.length cap] 102 (0,0)) := hbk
  rw [Lib.cell_of_heap this];rfl
 have hSD : (Builtin.unsafeSliceData_ #[91] 118 #[.slice (some ⟨g,0,none⟩) l.length cap]).run Try.prog w.drew = .ok (.pointer (some ⟨g,0,none⟩)) w.drew :=
  Lib.run_unsafeSliceData_row _ _ _ _ _ _ (by omega)
 have hUS : (Builtin.unsafeString_ #[118,3] 9 #[.pointer (some ⟨g,0,none⟩),.int .i64 l.length]).run Try.prog w.drew = .ok (.string ⟨l.toArray⟩) (w.drew.freeze ⟨g,0,none⟩ l.length) := by
  refine Lib.run_unsafeString_row w.drew 118 3 9 5 Try.underlying118 (by kernel_rfl) g cur.size (by have hg' : w.drew.heap[g]? = some (.cells cur 5 (0,0)) := hg;simp [World.shape?,hg']) l h0 (by omega) (by unfold maxLen at hcm;omega) ?_
  intro j x hx
  have := hown.cells (g := g) rfl j (.int .u8 x.toNat) (by simp [Lib.byteCells,hx])
  exact this
 go_enter Try.func77,Try.ntmps77
 go_wp2
 go_region
 all_goals (go_wp2;go_ret;exact ⟨rfl,Lib.below_freeze (Below.drew (Below.refl B w)) (p := ⟨g,0,none⟩) hbg _⟩)
def zK.Bld (B : Nat) (l : List ByteArray) (k : Nat) (w0 wr : World) : Prop := zcP B w0.heap.size (zcz l.length ++ zaR (l.take k)) wr ∧ Below w0.heap.size w0 wr
theorem zK.walk (A : Option Addr) (c : Nat) (l : List ByteArray) (w : World) (hr : Kd.C Kd.string w A l.length l) (hc : l.length ≤ c) (hs : (zcn l).length ≤ 140737488355328) :
  Calls Try.prog 56 #[.slice A l.length c] w fun e w' => e = .returned (.string (toB (zcn l))) ∧ Below w.heap.size w w' := by
 have hm := hr.2.1
 have hll := zhF l
 have hsum : (zcn l).length = (zcz l.length).length + (zaR l).length := by rw [zcn,List.length_append]
 have hlen : l.length ≤ 140737488355328 := by omega
 have HN := zb.mk (zb6 l.length (by omega))
 have HR := zb.mk hr
 have HF : zb (zcP w.heap.size w.heap.size [] (w.alloc (.cells #[.pointer none,.slice none 0 0] 102))) := ⟨Lib.fresh_isBuilder 102 5 w⟩
 have HS := zb.mk hs
 have HU := zb.mk hsum
 clear hr hs hll hsum
 go_enter Try.func56,Try.ntmps56
 go_wp2_with (go_at_call 55;(with_reducible refine (zV.calls _ _ _ HN.out).mono ?_);rintro e w1 ⟨rfl,hb1⟩)
 have hB1 := zcP.below HF.out hb1
 have hw1 : Below w.heap.size w w1 := zh ((Below.refl _ _).alloc (Nat.le_refl _) _) hb1
 have hsz1 := hw1.size
 clear hb1
 refine (zcy w.heap.size w.heap.size [] (za1 l.length) w1 hB1 (by have := zbi (v := l.length) (by omega);simp;omega) hsz1).mono ?_
 rintro e w2 ⟨rfl,hB2,hw2⟩
 have HL : zb (zK.Bld w.heap.size l 0 w w2) := ⟨by rw [za1,zcL,List.nil_append] at hB2;rw [List.take_zero,show zaR [] = [] from rfl,List.append_nil];exact hB2,hw1.trans hw2⟩
 clear hB1 hB2 hw1 hw2 hsz1
 go_wp2_with fail
 go_loopw [5,13] (fun _ v13 wr => ∃ k : Nat,v13 = .int .i64 k ∧ k ≤ l.length ∧ zb (zK.Bld w.heap.size l k w wr)) (fun _ v13 _ => l.length - (match v13 with | .int _ q => q | _ => 0).toNat)
 case atStart => exact ⟨0,rfl,Nat.zero_le _,HL⟩
 case round =>
  obtain ⟨k,rfl,hk,HK⟩ := hrel
  by_cases hlt : k < l.length
  ·obtain ⟨ad,rfl,hcell⟩ := Kd.at_string (Kd.C_below HR.out HK.out.2) (k : Int) (by omega) (by omega)
   rw [Int.toNat_natCast] at hcell
   have hb : decide (k < l.length) = true := decide_eq_true hlt
   have hx : l[k]? = some (zD ByteArray.empty l (k : Int)) := by
    rw [zD,Int.toNat_natCast,List.getD_eq_getElem?_getD,List.getElem?_eq_getElem hlt];rfl
   have HX := zb.mk hx
   clear hx
   generalize zD ByteArray.empty l (k : Int) = s at *
   have hs := zfa l k s HX.out
   have HT := zb.mk (zdZ s (by have := HS.out;have := HU.out;omega))
   have h2 := zei l k s HX.out
   have h3 := zcS l (k + 1)
   rw [h2,List.length_append,zap] at h3
   have H2 := zb.mk h2
   have H3 : zb ((zcz l.length ++ zaR (l.take k)).length + (zem s).size ≤ 140737488355328) := ⟨by rw [List.length_append];have := HS.out;have := HU.out;omega⟩
   clear h2 h3 hs
   go_wp2_with (go_at_call 76;(with_reducible refine (zbg.calls _ _ _ HT.out).mono ?_);rintro e w3 ⟨rfl,hb3⟩)
   refine (zcy w.heap.size w.heap.size _ (zem s) w3 (zcP.below HK.out.1 hb3) H3.out (Nat.le_trans HK.out.2.size hb3.size)).mono ?_
   rintro e w4 ⟨rfl,hB4,hw4⟩
   have HL4 : zb (zK.Bld w.heap.size l (k + 1) w w4) := ⟨by rw [H2.out,← List.append_assoc];exact hB4,(zh HK.out.2 hb3).trans hw4⟩
   clear hB4 hw4 hb3
   go_wp2
   go_roundw
   case rel => exact ⟨k + 1,by go_num,by omega,HL4⟩
   case measure => simp;omega
  ·obtain rfl : k = l.length := by omega
   have HE : zb (zcz l.length ++ zaR (l.take l.length) = zcn l) := ⟨by rw [List.take_of_length_le (Nat.le_refl _)];rfl⟩
   go_wp2_with (go_at_call 77;refine (zeu w.heap.size w.heap.size _ _ HK.out.1 (by simp [zcz])).mono ?_;rintro e w3 ⟨rfl,hb3⟩)
   go_ret
   exact ⟨rfl,HK.out.2.trans hb3⟩
def zK.f (l0 : List ByteArray) : Option (ByteArray) := if (zcn l0).length ≤ 140737488355328 then (some (toB (zcn l0))) else (none)
theorem zK.calls (A0 : Option Addr) (c0 : Nat) (l0 : List ByteArray) (r : ByteArray) (w : World) (hr0 : Kd.C Kd.string w A0 l0.length l0) (hc0 : l0.length ≤ c0) (h : zK.f l0 = some r) :
  Calls Try.prog 56 #[.slice A0 l0.length c0] w fun e w' => e = .returned (.string r) ∧ Below w.heap.size w w' := by
 unfold zK.f at h
 split at h
 ·rename_i hs
  obtain rfl := Option.some.inj h
  exact zK.walk A0 c0 l0 w hr0 hc0 hs
 ·cases h
def zcj (s : ByteArray) : Bool := decide (s.size = 0) || decide (48 < s.size)
theorem zam.odd (s : ByteArray) (w : World) : Calls Try.prog 90 #[.string s] w fun e w' => e = .returned (.bool (zcj s)) ∧ w = w' := by
 by_cases h : s.toList = []
 ·have hb : (s.toList == []) = true := beq_iff_eq.mpr h
  have h0 : s.size = 0 := by rw [← zap,← zbB,h];rfl
  have HO : zb (zcj s = true) := ⟨by simp [zcj,h0]⟩
  clear h h0
  go_enter Try.func90,Try.ntmps90
  go_wp2
  go_ret
  rw [HO.out]
  exact ⟨rfl,rfl⟩
 ·have hb : (s.toList == []) = false := beq_eq_false_iff_ne.mpr h
  have h0 : s.size ≠ 0 := fun hz => h (List.eq_nil_of_length_eq_zero (by rw [zbB,zap,hz]))
  have HO : zb (zcj s = decide (48 < (s.size : Int))) := ⟨by simp [zcj,h0];omega⟩
  clear h h0
  by_cases h1 : 48 < (s.size : Int)
  ·have h1b : decide (48 < (s.size : Int)) = true := decide_eq_true h1
   rw [h1b] at HO
   clear h1
   go_enter Try.func90,Try.ntmps90
   go_wp2
   go_ret
   rw [HO.out]
   exact ⟨rfl,rfl⟩
  ·have h1b : decide (48 < (s.size : Int)) = false := decide_eq_false h1
   rw [h1b] at HO
   clear h1
   go_enter Try.func90,Try.ntmps90
   go_wp2
   go_ret
   rw [HO.out]
   exact ⟨rfl,rfl⟩
theorem zam.idx (A : Option Addr) (c : Nat) (l : List ByteArray) (w : World) (hr : Kd.C Kd.string w A l.length l) (hc : l.length ≤ c) :
  Calls Try.prog 100 #[.slice A l.length c,.func (.func 90) #[] #[]] w fun e w' => e = .returned (.int .i64 (zbM zcj l)) ∧ w = w' := by
 have hm := hr.2.1
 have HR := zb.mk hr
 clear hr
 go_enter Try.func100,Try.ntmps100
 go_wp2_with fail
 go_loop [5,8] (fun v5 v8 => ∃ k : Nat,v8 = .int .i64 k ∧ k ≤ l.length ∧ zb (∀ (j : Nat) (y : ByteArray),j < k → l[j]? = some y → zcj y = false)) (fun _ v8 => l.length - (match v8 with | .int _ q => q | _ => 0).toNat)
 case atStart => exact ⟨0,rfl,Nat.zero_le _,⟨fun j y hj => absurd hj (Nat.not_lt_zero _)⟩⟩
 case round =>
  obtain ⟨k,rfl,hk,HN⟩ := hrel
  by_cases hlt : k < l.length
  ·obtain ⟨ad,rfl,hcell⟩ := Kd.at_string HR.out (k : Int) (by omega) (by omega)
   rw [Int.toNat_natCast] at hcell
   have hb : decide (k < l.length) = true := decide_eq_true hlt
   have hx : l[k]? = some (zD ByteArray.empty l (k : Int)) := by
    rw [zD,Int.toNat_natCast,List.getD_eq_getElem?_getD,List.getElem?_eq_getElem hlt];rfl
   have HX := zb.mk hx
   clear hx
   generalize zD ByteArray.empty l (k : Int) = s at *
   rcases ho : zcj s with _ | _
   ·have HO := zb.mk ho
    clear ho
    go_wp2_with (go_at_call 90;(with_reducible refine (zam.odd _ _).mono ?_);rintro e w1 ⟨rfl,rfl⟩;rw [HO.out])
    go_round
    case rel =>
     refine ⟨k + 1,by go_num,by omega,⟨fun j y hj hy => ?_⟩⟩
     rcases Nat.lt_succ_iff_lt_or_eq.1 hj with h | h
     ·exact HN.out j y h hy
     ·subst h
      rw [HX.out] at hy
      injection hy with hy
      subst hy
      exact HO.out
    case measure => simp;omega
   ·have HO := zb.mk ho
    clear ho
    go_wp2_with (go_at_call 90;(with_reducible refine (zam.odd _ _).mono ?_);rintro e w1 ⟨rfl,rfl⟩;rw [HO.out])
    go_ret
    exact ⟨by rw [zcb HX.out HO.out HN.out];rfl,rfl⟩
  ·obtain rfl : k = l.length := by omega
   go_wp2_with fail
   go_ret
   exact ⟨by rw [zcc (fun j y hy => HN.out j y (List.getElem?_eq_some_iff.1 hy).1 hy)];rfl,rfl⟩
theorem zam.contains (A : Option Addr) (c : Nat) (l : List ByteArray) (w : World) (hr : Kd.C Kd.string w A l.length l) (hc : l.length ≤ c) :
  Calls Try.prog 91 #[.slice A l.length c,.func (.func 90) #[] #[]] w fun e w' => e = .returned (.bool (l.any zcj)) ∧ w = w' := by
 have HR := zb.mk hr
 have HC := zb.mk hc
 clear hr hc
 have HA := zb.mk (zfx zcj l)
 go_enter Try.func91,Try.ntmps91
 go_wp2_with (go_at_call 100;(with_reducible refine (zam.idx _ _ _ _ HR.out HC.out).mono ?_);rintro e w1 ⟨rfl,rfl⟩)
 go_ret
 exact ⟨by rw [← HA.out];rfl,rfl⟩
def zex (o q : Int) (l : List ByteArray) : Bool := decide (1 ≤ o) && decide (o ≤ 64) && decide (1 ≤ q) && decide (q ≤ 1073741824) && decide (1 ≤ l.length) && decide (l.length ≤ 4) && !l.any zcj
def zam.f (a0_0 : Int) (a0_1 : Int) (l0_2 : List ByteArray) : Option (Bool) := some (zex a0_0 a0_1 l0_2)
theorem zam.walk (a0_0 : Int) (a0_1 : Int) (A : Option Addr) (c : Nat) (l : List ByteArray) (w : World) (hr : Kd.C Kd.string w A l.length l) (hc : l.length ≤ c) :
  Calls Try.prog 70 #[.agg #[.int .i64 a0_0,.int .i64 a0_1,.slice A l.length c]] w fun e w' => e = .returned (.bool (zex a0_0 a0_1 l)) ∧ Below w.heap.size w w' := by
 have HR := zb.mk hr
 have HC := zb.mk hc
 clear hr hc
 have HW := fun (o : Obj) => Kd.C_below HR.out (Below.alloc (Below.refl w.heap.size w) (Nat.le_refl _) o)
 have HW' := zb.mk HW
 clear HW
 go_enter Try.func70,Try.ntmps70
 go_wp2_with (go_at_call 91;(with_reducible refine (zam.contains _ _ _ _ (HW'.out _) HC.out).mono ?_);rintro e w1 ⟨rfl,rfl⟩)
 all_goals go_ret
 all_goals refine ⟨zh6 ?_,(Below.refl _ _).alloc (Nat.le_refl _) _⟩
 all_goals (unfold zex;simp;try omega)
theorem zam.calls (a0_0 : Int) (a0_1 : Int) (A0_2 : Option Addr) (c0_2 : Nat) (l0_2 : List ByteArray) (r : Bool) (w : World) (hr0_2 : Kd.C Kd.string w A0_2 l0_2.length l0_2) (hc0_2 : l0_2.length ≤ c0_2) (h : zam.f a0_0 a0_1 l0_2 = some r) :
  Calls Try.prog 70 #[.agg #[.int .i64 a0_0,.int .i64 a0_1,.slice A0_2 l0_2.length c0_2]] w fun e w' => e = .returned (.bool r) ∧ Below w.heap.size w w' := by
 obtain rfl := Option.some.inj h
 exact zam.walk a0_0 a0_1 A0_2 c0_2 l0_2 w hr0_2 hc0_2
end Go.Proofs.Ytklhjlaofkngcaa.Px