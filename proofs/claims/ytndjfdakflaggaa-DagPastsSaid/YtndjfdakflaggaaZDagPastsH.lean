/- Part 8 of 30 of the proof of the law DagPasts: what is proved is the statement at the end of the last part; its conditions are those of the given row. -/
import Derived.Laws.AppendOwn
import Derived.Test.YtndjfdakflaggaaZDagPastsE
import Derived.Test.YtndjfdakflaggaaZDagPastsG
namespace Go.Proofs.Ytndjfdakflaggaa.Px
open Go.RowKit Go.Proofs.YtndjfdakflaggaaW.PrintWords Go.Proofs.YtndjfdakflaggaaW.PrintLast Go.Proofs.YtndjfdakflaggaaW.PrintMore
attribute [local go_sem] zt zv zA zB zq zr zu zw
set_option linter.unusedVariables false
set_option linter.unusedSimpArgs false
def zci (w : World) (base : Nat) (e : TypeId) (v : Value) (l : Bs) : Prop :=
 ∃ g cap cur fz,v = .slice (some ⟨g,0,none⟩) l.length cap ∧ base ≤ g ∧ w.heap[g]? = some (.cells cur e fz) ∧ (fz.2 ≤ l.length ∨ cap ≤ fz.1) ∧ l.length ≤ cap ∧ cap ≤ maxLen ∧ cur.size = cap ∧ cur.toList.take l.length = Lib.byteCells l
theorem zci.below {w w' : World} {base : Nat} {e : TypeId} {v : Value} {l : Bs} (h : zci w base e v l) (hb : Below w.heap.size w w') : zci w' base e v l := by
 obtain ⟨g,cap,cur,fz,rfl,hg,hh,r⟩ := h
 exact ⟨g,cap,cur,fz,rfl,hg,(hb.block g (Array.getElem?_eq_some_iff.1 hh).1).trans hh,r⟩
theorem zci.start (W : World) (base : Nat) (e : TypeId) (s : ByteArray) (hb : base ≤ W.heap.size) (hs : s.size ≤ maxLen) : zci (Lib.bytesWorld W e s) base e (.slice (some ⟨W.heap.size,0,none⟩) s.size (grownCap W s.size 0 e)) (ofB s) := by
 have hc := grownCap_ge W s.size 0 e
 have hd : s.data.size = s.size := rfl
 have hz : (Lib.bytesCells W e s).size = grownCap W s.size 0 e := by
  rw [Lib.bytesCells,Array.size_append,Array.size_map,Array.size_replicate,hd];omega
 refine ⟨W.heap.size,grownCap W s.size 0 e,Lib.bytesCells W e s,_,by rw [zaH],hb,Lib.bytesWorld_at_new W e s,.inr (by rw [hz];exact Nat.le_refl _),by rw [zaH];exact hc,grownCap_le_maxLen W s.size 0 e hs,hz,?_⟩
 rw [Lib.bytesCells,Array.toList_append,List.take_left' (by rw [Array.length_toList,Array.size_map,hd,zaH])]
 simp [Lib.byteCells,ofB]
theorem zci.string {P : Program} {w : World} {base : Nat} {e src : TypeId} {v : Value} {l : Bs} (hown : zci w base e v l) (hs : P.underlying src = some (.slice e)) (he : P.underlying e = some (.int .u8)) :
  ∀ dst,P.underlying dst = some .string → (convert src dst v).run P w = .ok (.string (toB l)) w := by
 obtain ⟨g,cap,cur,fz,rfl,hbg,hg,hfz,hnc,hcm,hcs,htake⟩ := hown
 intro dst hd
 have h := run_convert_bytes_arg (P := P) w src e hs he g 0 l.length cap (l.map fun b => (b.toNat : Int)) (by simp) (fun i hi => by
  have h1 : (Lib.byteCells l)[i]? = some (.int .u8 ((l.map fun b => (b.toNat : Int)).getD i 0)) := by
   simp [Lib.byteCells,List.getElem?_eq_getElem hi]
  rw [← htake,List.getElem?_take,if_pos hi] at h1
  rw [Nat.zero_add]
  simp [World.cell?,hg]
  simpa using h1) dst hd
 rw [h]
 congr 3
 rw [zdN,List.map_map]
 congr 1
 rw [List.map_congr_left (g := id) (fun b _ => by simp),List.map_id]
structure Rpb (w W : World) (v : Value) (l : Bs) : Prop where
 o : zci W w.heap.size 5 v l
 b : Below w.heap.size w W
structure Rpt (w1 W : World) (t : Value) (xs : List Int) : Prop where
 t : W.ownsRow w1.heap.size 5 1 t xs.length (nums .u8 xs)
 c : Below w1.heap.size w1 W
structure Rw (w1 W : World) (v : Value) (xs : List Int) : Prop where
 o : W.ownsRow w1.heap.size 86 1 v xs.length (nums .u32 xs)
 c : Below w1.heap.size w1 W
theorem Rw.below {w1 W W' : World} {v : Value} {xs : List Int} (h : Rw w1 W v xs) (hb : Below W.heap.size W W') : Rw w1 W' v xs := ⟨zbZ h.o hb,zh h.c hb⟩
structure Rh (w W : World) (g2 g4 : Nat) (H : List Int) : Prop where
 b : Below w.heap.size w W
 h : W.heap[g2]? = some (.cells (zJ H) 87 (0,0))
 r : W.heap[g4]? = some (.cells (zJ [0,0,0,0,0,0,0,0]) 87 (0,0))
theorem zgB {W W' : World} {base e n g c : Nat} {size : Nat} {xs : List Value} (h : W.ownsRow base e size (.slice (some ⟨g,0,none⟩) n c) n xs) (hb : W'.heap[g]? = W.heap[g]?) : W'.ownsRow base e size (.slice (some ⟨g,0,none⟩) n c) n xs := by
 refine ⟨h.1,?_⟩
 rcases h.2 with h1 | ⟨g',cap,cur,e1,h2,h3,h4⟩
 ·exact .inl h1
 ·cases e1
  exact .inr ⟨g,c,cur,rfl,h2,hb.trans h3,h4⟩
structure Rq (w W : World) (B g2 g4 g c : Nat) (H Wl : List Int) : Prop where
 b : Below w.heap.size w W
 h : W.heap[g2]? = some (.cells (zJ H) 87 (0,0))
 r : W.heap[g4]? = some (.cells (zJ [0,0,0,0,0,0,0,0]) 87 (0,0))
 o : W.ownsRow B 86 1 (.slice (some ⟨g,0,none⟩) 64 c) 64 (nums .u32 Wl)
theorem Rq.below {w W W' : World} {B g2 g4 g c : Nat} {H Wl : List Int} (h : Rq w W B g2 g4 g c H Wl) (hb : Below W.heap.size W W') : Rq w W' B g2 g4 g c H Wl := ⟨zh h.b hb,zo h.h hb,zo h.r hb,zbZ h.o hb⟩
theorem Rq.row {w W : World} {B g2 g4 g c g13 : Nat} {cs : Array Value} {H Wl : List Int} (h : Rq w W B g2 g4 g c H Wl) (G : w.heap.size ≤ g13) (n2 : g13 ≠ g2) (n4 : g13 ≠ g4) (n : g13 ≠ g) : Rq w (W.setRow g13 cs) B g2 g4 g c H Wl :=
 ⟨zbQ h.b G,(setRow_other _ _ _ _ (Ne.symm n2)).trans h.h,(setRow_other _ _ _ _ (Ne.symm n4)).trans h.r,zgB h.o (setRow_other _ _ _ _ (Ne.symm n))⟩
theorem Rq.cell {w W : World} {B g2 g4 g c : Nat} {H Wl : List Int} (h : Rq w W B g2 g4 g c H Wl) (hl : Wl.length = 64) (j : Nat) (hj : j < 64) : W.cell? ⟨g,j,none⟩ = some (.int .u32 (Wl.getD j 0)) := by
 have h := h.o.cells (g := g) rfl j (.int .u32 (Wl.getD j 0)) (by simp [nums,List.getElem?_eq_getElem (show j < Wl.length by omega),List.getD_eq_getElem?_getD])
 rwa [zbc] at h
structure Rr (w W : World) (B g2 g4 g13 g c : Nat) (H Wl : List Int) : Prop where
 q : Rq w W B g2 g4 g c H Wl
 k : W.heap[g13]? = some (.cells (zJ kL) 99 (0,0))
theorem Rr.below {w W W' : World} {B g2 g4 g13 g c : Nat} {H Wl : List Int} (h : Rr w W B g2 g4 g13 g c H Wl) (hb : Below W.heap.size W W') : Rr w W' B g2 g4 g13 g c H Wl := ⟨h.q.below hb,zo h.k hb⟩
structure Rs (w W : World) (g3 : Nat) (L : List Int) : Prop where
 b : Below w.heap.size w W
 h : W.heap[g3]? = some (.cells (zJ L) 87 (0,0))
theorem Rs.below {w W W' : World} {g3 : Nat} {L : List Int} (h : Rs w W g3 L) (hb : Below W.heap.size W W') : Rs w W' g3 L := ⟨zh h.b hb,zo h.h hb⟩
def outX (L : List Int) : Nat → List Int
 | 0 => []
 | n + 1 => outX L n ++ [L.getD n 0 / 16777216 % 256,L.getD n 0 / 65536 % 256,L.getD n 0 / 256 % 256,L.getD n 0 % 256]
structure Ro (wb W : World) (L : List Int) (v : Value) (n : Nat) : Prop where
 o : W.ownsRow wb.heap.size 5 1 v (outX L n).length (nums .u8 (outX L n))
 c : Below wb.heap.size wb W
def selvedgeref07_Bytes.B4 : List Nat := [0,1,3,7,0,16,48,127,255,0,512,1791,4095,8191,16383]
def bB (b : S78) : ByteArray := if zfU b.f0 b.f1 b.f2 = true then toB (zgl b.f0 b.f1 b.f2) else (⟨#[]⟩ : ByteArray)
theorem zap.one (b : S78) (A : Option Addr) (c : Nat) (w : World) (hr : Kd.C Kd.string w A b.f2.length b.f2) (hc : b.f2.length ≤ c) :
  Calls Try.prog 66 #[.agg #[.int .i64 b.f0,.int .i64 b.f1,.slice A b.f2.length c]] w fun e w' => e = .returned (.string (bB b)) ∧ Below w.heap.size w w' := by
 obtain ⟨e,he⟩ : ∃ e,zav.f b.f0 b.f1 b.f2 = some (bB b,e) := by
  rw [ze8,bB]
  split
  ·exact ⟨_,rfl⟩
  ·exact ⟨_,rfl⟩
 have HE := za.mk he
 have HR := za.mk hr
 have HC := za.mk hc
 clear he hr hc
 generalize bB b = s at *
 obtain ⟨b0,b1,b2⟩ := b
 go_enter Try.func66,Try.ntmps66
 go_wp2_with (first
  | ((with_reducible refine zp (N := 1) rfl ?_);refine zn rfl (N := 1) rfl (cs := #[.int .i64 b0,.int .i64 b1,.slice A b2.length c]) (t := 78) hrq ?_;intro gb hg w2 hbox hb;have BK := za.mk hbox;have HB := za.mk hb;clear hb hbox hg;have hz0 := (zb BK.out 0).trans rfl;have hz1 := (zb BK.out 1).trans rfl;have hz2 := (zb BK.out 2).trans rfl;have hf0 := zc BK.out 0;have hf1 := zc BK.out 1;have hf2 := zc BK.out 2)
  | (go_at_call 67;(with_reducible refine (zav.calls b0 b1 _ _ b2 _ _ _ (Kd.C_below HR.out HB.out) HC.out HE.out).mono ?_);rintro e w3 ⟨rfl,hb⟩;have HB3 := za.mk (zh HB.out hb);clear hb))
 go_ret
 exact ⟨rfl,HB3.out⟩
theorem zap.infoS : (Try.prog.info? 9).map (fun i => (i.zero,i.size,i.bytes)) = some (some (.string ⟨#[]⟩),1,16) := by kernel_rfl
set_option maxHeartbeats 4000000 in
set_option maxRecDepth 100000 in
theorem zap.walk (A : Option Addr) (c : Nat) (l : List S78) (w : World) (hr : Kd.C k78 w A l.length l) (hc : l.length ≤ c) (h4 : l.length ≤ 4) :
  Calls Try.prog 65 #[.slice A l.length c,.func (.func 66) #[] #[]] w fun e w' => ∃ v,e = .returned v ∧ Kd.R Kd.string 9 w' w.heap.size (fun _ => True) v (l.map bB) ∧ Below w.heap.size w w' := by
 have HR := za.mk hr
 clear hr
 go_enter Try.func65,Try.ntmps65
 go_wp2_with fail
 have HB0 := za.mk (Below.refl w.heap.size w)
 go_loopw [5,10] (fun v5 v10 wr => ∃ k : Nat,v10 = .int .i64 k ∧ k ≤ l.length ∧ za (Kd.R Kd.string 9 wr w.heap.size (fun _ => True) v5 ((l.take k).map bB)) ∧ za (Below w.heap.size w wr)) (fun _ v10 _ => l.length - (match v10 with | .int _ q => q | _ => 0).toNat)
 case atStart => exact ⟨0,rfl,Nat.zero_le _,⟨Kd.R_nil _ _ _ _ _⟩,HB0⟩
 case round =>
  obtain ⟨k,rfl,hk,HO,HB⟩ := hrel
  by_cases hlt : k < l.length
  ·obtain ⟨ad,A2,c2,rfl,hx0,hx1,hx2,hl2,hi2⟩ := zdn HR.out (k : Int) (by omega) (by omega)
   replace hx0 := (HB.out.cell (World.block_lt_of_cell? w _ hx0)).trans hx0
   replace hx1 := (HB.out.cell (World.block_lt_of_cell? w _ hx1)).trans hx1
   replace hx2 := (HB.out.cell (World.block_lt_of_cell? w _ hx2)).trans hx2
   rw [Int.toNat_natCast] at hx0 hx1 hx2
   have hb : decide (k < l.length) = true := decide_eq_true hlt
   have ht : l.take (k + 1) = l.take k ++ [zQ l (k : Int)] := by
    rw [zQ,Int.toNat_natCast,List.getD_eq_getElem?_getD,List.getElem?_eq_getElem hlt,List.take_add_one,List.getElem?_eq_getElem hlt];rfl
   have HT := za.mk ht
   have HL2 := za.mk hl2
   have HI2 := za.mk (Kd.C_below hi2 HB.out)
   clear ht hl2 hi2
   generalize zQ l (k : Int) = s at *
   obtain ⟨s0,s1,s2⟩ := s
   have HLN : za ((((l.take k).map bB).length + 1) * 16 ≤ 140737488355328) := ⟨by rw [List.length_map,List.length_take];omega⟩
   have HM : za ((l.take (k + 1)).map bB = (l.take k).map bB ++ [bB ⟨s0,s1,s2⟩]) := ⟨by rw [HT.out,List.map_append];rfl⟩
   go_wp2_with (first
    | (go_at_call 66;(with_reducible refine (zap.one ⟨s0,s1,s2⟩ _ _ _ (Kd.C_below HI2.out (zi (Below.refl _ _) _)) HL2.out).mono ?_);rintro e w1 ⟨rfl,hb1⟩;have HB1 := za.mk (zh (zi HB.out _) hb1);have HO1 := za.mk (Kd.R_below HO.out (zh (zi (Below.refl _ _) _) hb1));clear hb1)
    | (at_builtin;refine Kd.R_append Kd.string (w0 := w) w.heap.size rfl (.tmp 14) (.tmp 18) 28 9 (.string ⟨#[]⟩) 16 rfl Try.underlying28 zap.infoS rfl (by decide) (by omega) _ ((l.take k).map bB) (bB ⟨s0,s1,s2⟩) [.string (bB ⟨s0,s1,s2⟩)] (fun _ => True) (fun _ => False) rfl rfl ?aP (fun _ hk => hk.elim) ?aF ?aO ?aB ?aS ?aL ?_;(case aP => exact rfl);(case aF => exact (fun _ _ => trivial));(case aO => exact HO1.out);(case aB => exact HB1.out);(case aS => exact (zj HB1.out));(case aL => exact HLN.out);intro v3 w3 ho hb hg hat;have HX := za.mk ho;have HB3 := za.mk hb;clear ho hb hg hat))
   go_roundw
   case rel => exact ⟨k + 1,by go_num,by omega,⟨by rw [HM.out];exact HX.out⟩,HB3⟩
   case measure => simp;omega
  ·obtain rfl : k = l.length := by omega
   go_wp2_with fail
   go_ret
   exact ⟨_,rfl,by have := HO.out;rwa [List.take_length] at this,HB.out⟩
def zap.f (l0 : List S78) : Option (List ByteArray) := if l0.length ≤ 4 then some (l0.map bB) else none
theorem zap.calls (A0 : Option Addr) (c0 : Nat) (l0 : List S78) (r : List ByteArray) (w : World) (hr0 : Kd.C k78 w A0 l0.length l0) (hc0 : l0.length ≤ c0) (h : zap.f l0 = some r) :
  Calls Try.prog 65 #[.slice A0 l0.length c0,.func (.func 66) #[] #[]] w fun e w' => ∃ v0_ : Value,e = .returned v0_ ∧ Kd.R Kd.string 9 w' w.heap.size (fun _ => True) v0_ r ∧ Below w.heap.size w w' := by
 unfold zap.f at h
 split at h
 ·rename_i h4
  obtain rfl := Option.some.inj h
  exact zap.walk A0 c0 l0 w hr0 hc0 h4
 ·cases h
theorem zad.infoS : (Try.prog.info? 9).map (fun i => (i.zero,i.size,i.bytes)) = some (some (.string ⟨#[]⟩),1,16) := by kernel_rfl
theorem zad.num (k : Int) (w : World) (h0 : 0 ≤ k) (h1 : k < 9223372036854775808) :
  Calls Try.prog 69 #[.int .i64 k] w fun e w' => e = .returned (.string (zbr k.toNat)) ∧ Below w.heap.size w w' := by
 have hn : z4.f (IntKind.u64.wrap k) = some (zbr k.toNat) := by rw [zcm h0 (by omega),z4.f,if_pos h0,if_pos (by omega)]
 have HN := za.mk hn
 clear hn h0 h1
 generalize zbr k.toNat = s at *
 go_enter Try.func69,Try.ntmps69
 go_wp2_with (go_at_call 70;(with_reducible refine (z4.calls _ _ _ HN.out).mono ?_);rintro e w3 ⟨rfl,hb⟩;have HB3 := za.mk hb;clear hb)
 go_ret
 exact ⟨rfl,HB3.out⟩
set_option maxHeartbeats 4000000 in
set_option maxRecDepth 100000 in
theorem zad.walk (A : Option Addr) (c : Nat) (l : List Int) (w : World) (hr : Kd.C (Kd.int .i64) w A l.length l) (hc : l.length ≤ c) (h4 : l.length ≤ 4) (hp : ∀ k ∈ l,0 ≤ k ∧ k < 9223372036854775808) :
  Calls Try.prog 68 #[.slice A l.length c,.func (.func 69) #[] #[]] w fun e w' => ∃ v,e = .returned v ∧ Kd.R Kd.string 9 w' w.heap.size (fun _ => True) v (l.map (fun k => zbr k.toNat)) ∧ Below w.heap.size w w' := by
 have HR := za.mk hr
 have HP := za.mk hp
 clear hr hp
 go_enter Try.func68,Try.ntmps68
 go_wp2_with fail
 have HB0 := za.mk (Below.refl w.heap.size w)
 go_loopw [5,10] (fun v5 v10 wr => ∃ k : Nat,v10 = .int .i64 k ∧ k ≤ l.length ∧ za (Kd.R Kd.string 9 wr w.heap.size (fun _ => True) v5 ((l.take k).map (fun k => zbr k.toNat))) ∧ za (Below w.heap.size w wr)) (fun _ v10 _ => l.length - (match v10 with | .int _ q => q | _ => 0).toNat)
 case atStart => exact ⟨0,rfl,Nat.zero_le _,⟨Kd.R_nil _ _ _ _ _⟩,HB0⟩
 case round =>
  obtain ⟨k,rfl,hk,HO,HB⟩ := hrel
  by_cases hlt : k < l.length
  ·obtain ⟨ad,rfl,hx0⟩ := Kd.at_int HR.out (k : Int) (by omega) (by omega)
   replace hx0 := (HB.out.cell (World.block_lt_of_cell? w _ hx0)).trans hx0
   rw [Int.toNat_natCast] at hx0
   have hb : decide (k < l.length) = true := decide_eq_true hlt
   have hd : rd l (k : Int) = l[k] := by
    rw [rd,Int.toNat_natCast,List.getD_eq_getElem?_getD,List.getElem?_eq_getElem hlt];rfl
   have hpk := HP.out _ (List.getElem_mem hlt)
   have ht : l.take (k + 1) = l.take k ++ [l[k]] := by
    rw [List.take_add_one,List.getElem?_eq_getElem hlt];rfl
   rw [hd] at hx0
   generalize l[k] = s at *
   have HM : za ((l.take (k + 1)).map (fun k => zbr k.toNat) = (l.take k).map (fun k => zbr k.toNat) ++ [zbr s.toNat]) := ⟨by rw [ht,List.map_append];rfl⟩
   have HLN : za ((((l.take k).map (fun k => zbr k.toNat)).length + 1) * 16 ≤ 140737488355328) := ⟨by rw [List.length_map,List.length_take];omega⟩
   have HPK := za.mk hpk
   clear hpk ht hd
   go_wp2_with (first
    | (go_at_call 69;(with_reducible refine (zad.num s _ HPK.out.1 HPK.out.2).mono ?_);rintro e w1 ⟨rfl,hb1⟩;have HB1 := za.mk (zh HB.out hb1);have HO1 := za.mk (Kd.R_below HO.out hb1);clear hb1)
    | (at_builtin;refine Kd.R_append Kd.string (w0 := w) w.heap.size rfl (.tmp 14) (.tmp 18) 28 9 (.string ⟨#[]⟩) 16 rfl Try.underlying28 zad.infoS rfl (by decide) (by omega) _ ((l.take k).map (fun k => zbr k.toNat)) (zbr s.toNat) [.string (zbr s.toNat)] (fun _ => True) (fun _ => False) rfl rfl ?aP (fun _ hk => hk.elim) ?aF ?aO ?aB ?aS ?aL ?_;(case aP => exact rfl);(case aF => exact (fun _ _ => trivial));(case aO => exact HO1.out);(case aB => exact HB1.out);(case aS => exact (zj HB1.out));(case aL => exact HLN.out);intro v3 w3 ho hb hg hat;have HX := za.mk ho;have HB3 := za.mk hb;clear ho hb hg hat))
   go_roundw
   case rel => exact ⟨k + 1,by go_num,by omega,⟨by rw [HM.out];exact HX.out⟩,HB3⟩
   case measure => simp;omega
  ·obtain rfl : k = l.length := by omega
   go_wp2_with fail
   go_ret
   exact ⟨_,rfl,by have := HO.out;rwa [List.take_length] at this,HB.out⟩
def zad.f (l0 : List Int) : Option (List ByteArray) := if l0.length ≤ 4 ∧ ∀ k ∈ l0,0 ≤ k ∧ k < 9223372036854775808 then some (l0.map (fun k => zbr k.toNat)) else none
theorem zad.calls (A0 : Option Addr) (c0 : Nat) (l0 : List Int) (r : List ByteArray) (w : World) (hr0 : Kd.C (Kd.int .i64) w A0 l0.length l0) (hc0 : l0.length ≤ c0) (h : zad.f l0 = some r) :
  Calls Try.prog 68 #[.slice A0 l0.length c0,.func (.func 69) #[] #[]] w fun e w' => ∃ v0_ : Value,e = .returned v0_ ∧ Kd.R Kd.string 9 w' w.heap.size (fun _ => True) v0_ r ∧ Below w.heap.size w w' := by
 unfold zad.f at h
 split at h
 ·rename_i h4
  obtain rfl := Option.some.inj h
  exact zad.walk A0 c0 l0 w hr0 hc0 h4.1 h4.2
 ·cases h
end Go.Proofs.Ytndjfdakflaggaa.Px